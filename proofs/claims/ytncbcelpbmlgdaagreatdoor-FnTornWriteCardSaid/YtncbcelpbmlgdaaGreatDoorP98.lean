import Derived.Test.YtncbcelpbmlgdaaGreatDoorP65
import Derived.Laws.ResultCell
import Derived.Test.YtncbcelpbmlgdaaGreatDoorSp
namespace Go.Proofs.Tryz
open Go Go.Fw Go.RowKit Sp
set_option maxRecDepth 100000
theorem FW.apy{B:Nat}{w:World}{b off cap:Nat}{x y:List UInt8×Unit}{r:Sp.LS}(h:FW B w (.slice (some ⟨b,off,none⟩) (r.length+2) cap) (x::y::r))(hr:0<r.length):¬cap=2/\FW B w (.slice (some ⟨b,off+2,none⟩) r.length (cap-2)) r:=by
 have hm:r.length+2<=maxLen:=h.1;rcases h.2 with⟨e,_⟩|⟨b',off',cap',cs,t,fz,e,e2,e3,e4,e5⟩
 .cases e
 .cases e;have e2:r.length+2<=cap:=e2;refine⟨abn,abn,.inr ⟨b,off+2,cap-2,cs,t,fz,rfl,abn,e3,e4,λi z hz=>?_⟩⟩;have:=e5 (i+2) z (by simpa using hz);rw[show off+2+i*dQ.len=off+(i+2)*dQ.len by show off+2+i*1=off+(i+2)*1;omega];exact this
set_option maxHeartbeats 16000000 in
theorem aoN(B P:Nat)(W:World)(x:aV)(y:List UInt8)(r:Sp.LS)(line:List UInt8)(hl:line.length<=1000)(hf:Sp.pieces 32 line=(jY,())::(y,())::r)(hr:0<r.length)(hG:G.ok W)(hS:Held B P W x)(QB:P<B)(hB:B<=W.heap.size)(hz:x.2.2.2.1.length<=200):
 Calls prog 60 #[.pointer (some ⟨P,0,none⟩),.string ⟨line.toArray⟩] W λe w'=>e=.returned (.bool (gB (gy r)))/\Held B P w' (x.1,x.2.1,x.2.2.1,x.2.2.2.1++[(y,fU (gy r),())],())/\Kp B P W w':=by
 have mixed:=Tryz.mixed;obtain⟨va,vl,vd,F,hP,wX⟩:=hS;have hPl:=(avw.1 hP).1;have sp:=GR 32 (.inl rfl) line abn W hG;have hwl:∀x∈r,x.1.length<=1000:=λz hz=>avx (Cc (c:=32) (s:=line) z (by rw[hf];exact avy _ (avy _ hz))) hl;have hy:y.length<=1000:=avx (Cc (c:=32) (s:=line) (y,()) (by rw[hf];simp)) hl;have hrl:r.length<=1000:=by have:=Sp.pieces_len 32 line;rw[hf,avq,avq]at this;omega
 have hj:(gy r).length<=1040000:=avx (aaQ (m:=1000) hwl) abn;rw[hf]at sp;clear hf;unfold jY at sp;have jn:=λv w hv hG=>aqg v r w hv hrl abn hG;generalize gy r=t at jn hj ⊢;have pq:=λw hG=>aqh t abn w hG;generalize fU t=q at pq ⊢;generalize gB t=ok at pq ⊢;have hlt2:(2:Int)<(r.length:Int)+2:=abn;have hi1:(1:Int)<(r.length:Int)+2:=abn;have hi2:(1:Int)<(r.length:Int)+1+1:=abn;have hi3:1<r.length+2:=abn;have hi4:(1:Int)<=(r.length:Int)+1:=abn;have hlt3:(2:Int)<(r.length:Int)+1+1:=abn;obtain⟨i0,hi,hz0,hz1,hz2⟩:=axw aiC;have hqm:x.2.2.2.1.length+1<=maxLen:=ac2;have nD:(x.2.2.2.1.length+1)*40<=140737488355328:=abn
 go_enter Tryz.func60,Tryz.ntmps60
 go_wp2_with (first
  |(go_at_call 86;refine av2 sp ?_;rintro e w1 ⟨v1,rfl,hf1,hb1⟩;obtain⟨a1,c1,e1⟩:=lZ hf1;have e1:v1=.slice a1 (r.length+2) c1:=e1;subst e1;obtain⟨b2,o2,e2,-,cw⟩:=FW.cell (a:=a1) (c:=c1) (f:=([100,105,114],())::(y,())::r) hf1 (n:=0) acA;subst e2;have cw:w1.cell? ⟨b2,o2,none⟩=some (.string ⟨([100,105,114]:List UInt8).toArray⟩):=cw;obtain⟨b3,o3,e3,-,Ux⟩:=FW.cell (a:=some ⟨b2,o2,none⟩) (c:=c1) (f:=([100,105,114],())::(y,())::r) hf1 (n:=1) acA;cases e3;have Ux:w1.cell? ⟨b2,o2+1,none⟩=some (.string ⟨(y:List UInt8).toArray⟩):=Ux;obtain⟨hc2,ht⟩:=hf1.apy hr;have atU:=(avw.1 (show∃o,w1.heap[b2]? =some o from by cases h:w1.heap[b2]? with|some o=>exact⟨o,rfl⟩|none=>simp[World.cell?,h]at cw).choose_spec).1;have hG1:=dR hG hb1;clear sp hf1)
  |(go_at_call 74;refine av2 (jn _ w1 ht hG1) ?_;rintro e w2 ⟨rfl,hb2⟩;have vP:=hb1.trans (hb2.mono hb1.size))
  |(go_at_call 107;refine av2 (pq w2 (dR hG vP)) ?_;rintro e w3 ⟨a6,c6,rfl,hb3,hra⟩;have TD:=hb2.trans (hb3.mono hb2.size)))
 all_goals
  have xP:=wX.below hb1;obtain⟨xs,hown1,TB⟩:=xP.fd;have hown1:w1.ownsRow B 93 2 vd x.2.2.2.1.length xs:=hown1;have TB:∀i z,x.2.2.2.1[i]? =some z->aJ w1.heap F dA ((xs.drop (i*2)).take 2) z:=TB;have hs1:=hb1.size;have hs2:=hb2.size;have hs3:=hb3.size;have rY:vd.ownBlock≠some P:=λe=>by have:=(xP.fd.lt e).1;omega
  have hBr:B<=w1.heap.size:=avx hB hs1;have aiz:=hb1.trans (TD.mono hs1);have hP3:=(aiz.block P hPl).trans hP;obtain⟨⟨d0,d1,d2,d3⟩,z0,z1,z2,z3⟩:=four hP3;have cy:w3.cell? ⟨b2,o2+1,none⟩=some (.string ⟨(y:List UInt8).toArray⟩):=(aw3 (a:=⟨b2,o2+1,none⟩) (TD.block b2 atU)).trans Ux;have uM:P<w3.heap.size:=(avw.1 hP3).1;have hown3:w3.ownsRow B 93 2 vd x.2.2.2.1.length xs:=uK hown1 λb e=>TD.block b (xP.fd.lt e).2;have atT:B<=w3.heap.size:=abn
  go_region_law (refine step_append_lies _ rfl (.tmp 113) (.tmp 119) 31 rfl B 93 i0 acH 2 40 Tryz.underlying31 hi hz0 hz1 hz2 rfl abA vd x.2.2.2.1.length xs ac7 ((axs hown3).alloc _) ⟨w3.heap.size,0,none⟩ 1 1 [.string ⟨y.toArray⟩,.slice a6 q.length c6] ac7 rfl (World.news_of_block (awf _ _)) afA abA hqm nD adK _ rfl ?_;intro g cap w5 hown5 gI nV nX;have nP:=(gI.block P adK (λe=>rY e.symm)).trans ((heap_alloc_old w3.drew _ uM).trans hP3);have k5:w5.cell? ⟨P,3,none⟩=some vd:=aQ nP 3;have z5:=dO nP 3)
  all_goals go_wp2
  all_goals go_ret
  all_goals
   have hbd:Below w3.heap.size w3 (w3.drew.alloc (Obj.cells #[.string ⟨y.toArray⟩,.slice a6 q.length c6] 93 (0,0))):=((Below.refl _ w3).drew).alloc (avt _) _;have xK:=TD.trans (hbd.mono (avx hs2 hs3));exact⟨rfl,⟨va,vl,_,_,gJ nP 3 _,((xP.alT (y:=(y,q,())) hBr xK hown1 TB hown5 gI nV nX (N:=λb=>w2.heap.size<=b/\b<w3.heap.size) (λb hb=>⟨abn,by have:=hbd.size;omega⟩)
    ⟨_,_,rfl,⟨rfl,ac2⟩,_,_,rfl,cZ.mono (λb hb=>⟨hb,hbd.block b hb.2⟩) _ _ _ hra,rfl⟩).set QB)⟩,(((Kp.of hB hb1).below hB xK).grown hB gI (λb e=>(xP.fd.lt e).1)).set⟩
end Go.Proofs.Tryz
namespace Go.Proofs.Tryz
open Go Go.Fw Go.RowKit Sp
set_option maxRecDepth 100000
theorem anf(B P:Nat)(W:World)(x:aV)(line:List UInt8)(hl:line.length<=1000)(hG:G.ok W)(hS:Held B P W x)(QB:P<B)(hB:B<=W.heap.size)(hz:Uu 200 x):
 Calls prog 60 #[.pointer (some ⟨P,0,none⟩),.string ⟨line.toArray⟩] W λe w'=>e=.returned (.bool (lq x (Sp.pieces 32 line)).2)/\Held B P w' (lq x (Sp.pieces 32 line)).1/\Kp B P W w':=by
 have hp:=MF 32 line [];have hp:0<(Sp.pieces 32 line).length:=hp;obtain⟨x0,r,hf⟩:∃x0 r,Sp.pieces 32 line=(x0,())::r:=by
  cases h:Sp.pieces 32 line with
  |nil=>rw[h]at hp;exact absurd hp (awv _)
  |cons a r=>exact⟨a.1,r,rfl⟩
 rw[hf];by_cases h1:x0=iw/\r.length=2
 .obtain⟨rfl,hr⟩:=h1
  match r,hr with
  |[(y,_),(k,_)],_=>rw[ajX];exact al2 B P W x y k line hl hf hG hS QB hB hz.1
 by_cases h2:x0=qm/\r.length=1
 .obtain⟨rfl,hr⟩:=h2
  match r,hr with
  |[(y,_)],_=>rw[al3];exact anB B P W x y line hl hf hG hS QB hB
 by_cases h3:x0=kC
 .subst h3;rw[al4];exact anD B P W x r line hl hf hG hS QB hB hz.2.1
 by_cases h4:x0=jY/\2<=r.length
 .obtain⟨rfl,hr⟩:=h4
  match r,hr with
  |(y,_)::r,hr=>
   have hr:0<r.length:=by rw[avq]at hr;omega
   rw[anE _ _ _ hr];exact aoN B P W x y r line hl hf hr hG hS QB hB hz.2.2.2.1
 rw[al5 x x0 r h1 h2 h3 h4];refine aqi B P W x x0 r line hl hf hG hS hB ?_ ?_ h3 ?_
 .by_cases e:x0=iw
  .exact .inr (avp.2 λg=>h1 ⟨e,abn⟩)
  .exact .inl e
 .by_cases e:x0=qm
  .exact .inr (avp.2 λg=>h2 ⟨e,abn⟩)
  .exact .inl e
 .by_cases e:x0=jY
  .exact .inr λg=>h4 ⟨e,abn⟩
  .exact .inl e
def Gv(va vl vd:Value)(nx:Int):Value:=.agg #[va,vl,.int .i64 nx,vd]
def ait(x:aV):Arg:=.sv (.agg [.sl aA bK x.1 false,.sl aP dI x.2.1 false,.int .i64 x.2.2.1,.sl aX dA x.2.2.2.1 false])
theorem Sn.ard{B:Nat}{w:World}{va vl vd:Value}{x:aV}{F S:Nat->Prop}(h:Sn B w va vl vd x F)(hS:∀b,B<=b->b<w.heap.size->S b):
 cZ w.heap S (.sl aA bK) va x.1/\cZ w.heap S (.sl aP dI) vl x.2.1/\cZ w.heap S (.sl aX dA) vd x.2.2.2.1:=by
 have ff:∀b,F b->S b:=λb hb=>hS b (h.foot b hb).1 (h.foot b hb).2.1;exact⟨h.fa.rep abA λb hb=>hb.elim (ff b) λe=>hS b (h.fa.lt e).1 (h.fa.lt e).2,h.fl.rep abA λb hb=>hb.elim (ff b) λe=>hS b (h.fl.lt e).1 (h.fl.lt e).2,h.fd.rep abA λb hb=>hb.elim (ff b) λe=>hS b (h.fd.lt e).1 (h.fd.lt e).2⟩
theorem acD{B:Nat}{w:World}{va vl vd:Value}{x:aV}{F:Nat->Prop}(h:Sn B w va vl vd x F):oC ⟨w,w.heap.size,λ_=>True,λ_=>undef,λ_=>none⟩ (ait x) (Gv va vl vd x.2.2.1):=by obtain⟨r1,r2,r3⟩:=h.ard (S:=V.cu ⟨w,w.heap.size,λ_=>True,λ_=>undef,λ_=>none⟩ false) λb _ hb=>⟨⟨hb,λ_=>trivial,λo x hx=>afg⟩,λe=>ahB⟩;exact⟨_,rfl,r1,r2,⟨rfl,h.nx⟩,r3,trivial⟩
theorem ap5{B:Nat}{w:World}{va vl vd:Value}{x:aV}{F:Nat->Prop}(h:Sn B w va vl vd x F)(hx:bP x)(hG:G.ok w):Calls prog 28 #[Gv va vl vd x.2.2.1] w λe w'=>e=.returned (.bool (bT x))/\Below w.heap.size w w':=by have hc:fJ prog G 28 (iy iM.sh iM.bI iM.F):=vO.1;refine(hc [ait x] (bP x) ⟨[(false,[.plain (.bool (bT x))])],none⟩ 0 (λ_=>True) #[Gv va vl vd x.2.2.1] w rfl hx hG ⟨acD h,trivial⟩).mono ?_;rintro e w' ⟨v,vals,rfl,h1,h2,h3,h4,h5,h6,_,_⟩;have h6:v=.bool (bT x):=h6;exact⟨by rw[h6],h1,h2,h3,h4,h5⟩
theorem ap6{B:Nat}{w:World}{va vl vd:Value}{x:aV}{F:Nat->Prop}(h:Sn B w va vl vd x F)(hx:bP x)(hG:G.ok w):Calls prog 14 #[Gv va vl vd x.2.2.1] w λe w'=>∃v,e=.returned v/\FW w'.heap.size w' v (Sp.enc x)/\Below w.heap.size w w':=by have hc:fJ prog G 14 (iy jI.sh jI.bI jI.F):=Ec.1;refine(hc [ait x] (bP x) _ 0 (λ_=>True) #[Gv va vl vd x.2.2.1] w rfl hx hG ⟨acD h,trivial⟩).mono ?_;rintro e w' ⟨v,vals,rfl,h1,h2,h3,h4,h5,h6,_,_⟩;have h6:cZ w'.heap _ (.sl aY dQ) v (Sp.enc x):=h6;exact⟨v,rfl,cZ.mono (λb hb=>⟨hb.1.1,rfl⟩) _ _ _ h6,h1,h2,h3,h4,h5⟩
theorem akA{w:World}{u v:Value}{a b:Sp.LS}(ha:FW w.heap.size w u a)(hb:FW w.heap.size w v b)(hG:G.ok w):Calls prog 61 #[u,v] w λe w'=>e=.returned (.bool (decide (a=b)))/\Below w.heap.size w w':=by have hc:fJ prog G 61 (iy kY.sh kY.bI kY.F):=OY.1;refine(hc [.sv (.one (.sl aY dQ a false)),.sv (.one (.sl aY dQ b false))] True ⟨[(false,[.plain (.bool (decide (a=b)))])],none⟩ 0 (λ_=>True) #[u,v] w rfl trivial hG ⟨wY ha,wY hb,trivial⟩).mono ?_;rintro e w' ⟨v,vals,rfl,h1,h2,h3,h4,h5,h6,_,_⟩;have h6:v=.bool (decide (a=b)):=h6;exact⟨by rw[h6],h1,h2,h3,h4,h5⟩
def Gives(W w':World)(e:Ending)(x:aV)(ok:Bool):Prop:=
 ∃va vl vd,e=.returned (.tuple #[Gv va vl vd x.2.2.1,.bool ok])/\Below W.heap.size W w'/\sV x.2.2.1/\cZ w'.heap (λb=>W.heap.size<=b/\b<w'.heap.size) (.sl aA bK) va x.1/\
  cZ w'.heap (λb=>W.heap.size<=b/\b<w'.heap.size) (.sl aP dI) vl x.2.1/\cZ w'.heap (λb=>W.heap.size<=b/\b<w'.heap.size) (.sl aX dA) vd x.2.2.2.1
theorem Gu{W w':World}(h:Below W.heap.size W w'):Gives W w' (.returned (.tuple #[.agg #[.slice none 0 0,.slice none 0 0,.int .i64 0,.slice none 0 0],.bool false])) bZ false:=
 ⟨_,_,_,rfl,h,⟨abA,abA⟩,⟨avM _,.inl ⟨rfl,none,0,rfl⟩⟩,⟨avM _,.inl ⟨rfl,none,0,rfl⟩⟩,⟨avM _,.inl ⟨rfl,none,0,rfl⟩⟩⟩
theorem ais{B:Nat}{W w':World}{va vl vd:Value}{x:aV}{F:Nat->Prop}(hB:W.heap.size<=B)(h:Below W.heap.size W w')(hs:Sn B w' va vl vd x F):Gives W w' (.returned (.tuple #[.agg #[va,vl,.int .i64 x.2.2.1,vd],.bool true])) x true:=by obtain⟨r1,r2,r3⟩:=hs.ard (S:=λb=>W.heap.size<=b/\b<w'.heap.size) λb h1 h2=>⟨abn,h2⟩;exact⟨va,vl,vd,rfl,h,hs.nx,r1,r2,r3⟩
end Go.Proofs.Tryz
namespace Go.Proofs.Tryz
open Go Go.Fw Go.RowKit Sp
set_option maxRecDepth 100000
theorem Kp.low{P:Nat}{W W2 w:World}(h:Kp (W.heap.size+2) P W2 w)(hP:W.heap.size<=P)(k:Below W.heap.size W W2):Below W.heap.size W w:=
 ⟨h.os.trans k.os,h.tape.trans k.tape,h.output.trans k.output,avx k.size h.size,λb hb=>(h.block b abn abn).trans (k.block b hb)⟩
def yw:Array Value:=#[.slice none 0 0,.slice none 0 0,.int .i64 0,.slice none 0 0]
theorem Sn.zero(B:Nat)(w:World):Sn B w (.slice none 0 0) (.slice none 0 0) (.slice none 0 0) bZ λ_=>False:=
 ⟨OL.nil,OL.nil,OL.nil,⟨abA,abA⟩,λg=>⟨λe=>ahB,λe=>ahB⟩,λb hb=>hb.elim⟩
theorem aom(w:World)(o p:Obj):((w.alloc o).alloc p).heap[w.heap.size+1]? =some p:=by have:=awf (w.alloc o) p;rw[show(w.alloc o).heap.size=w.heap.size+1 from acA]at this;exact this
theorem box1(w:World)(o p:Obj):((w.alloc o).alloc p).heap[w.heap.size]? =some o:=(heap_alloc_old _ p acA).trans (awf w o)
theorem below2(w:World)(o p:Obj):Below w.heap.size w ((w.alloc o).alloc p):=((Below.refl _ _).alloc (avt _) o).alloc acA p
theorem aaF(w:World)(o p:Obj):((w.alloc o).alloc p).heap.size=w.heap.size+2:=acA
theorem Kp.trans{B P:Nat}{a b c:World}(h:Kp B P a b)(k:Kp B P b c):Kp B P a c:=
 ⟨k.os.trans h.os,k.tape.trans h.tape,k.output.trans h.output,avx h.size k.size,λx hx hn=>(k.block x hx hn).trans (h.block x hx hn)⟩
theorem ap3{ls:Sp.LS}(h:(gQ bZ ls).2=true)(k:(bT (gQ bZ ls).1&&decide (Sp.enc (gQ bZ ls).1=ls))=false):Sp.dec ls=(bZ,false):=by rw[← aaG];unfold aiq;rw[h,k];rfl
theorem aon{ls:Sp.LS}(h:(gQ bZ ls).2=true)(k1:bT (gQ bZ ls).1=true)(k2:decide (Sp.enc (gQ bZ ls).1=ls)=true):Sp.dec ls=((gQ bZ ls).1,true):=by rw[← aaG];unfold aiq;rw[h,k1,k2];rfl
theorem FW.keep'{W w:World}{v:Value}{f:Sp.LS}(h:FW W.heap.size W v f)(k:Below W.heap.size W w):FW w.heap.size w v f:=cZ.mono (λb hb=>⟨avT hb k.size,k.block b hb⟩) _ _ _ h
def qy(w:World)(g:Nat)(y0 y1 y2 y3:Value):World:=(((w.setCell ⟨g,0,none⟩ y0).setCell ⟨g,1,none⟩ y1).setCell ⟨g,2,none⟩ y2).setCell ⟨g,3,none⟩ y3
theorem uI{w:World}{g:Nat}{x0 x1 x2 x3 y0 y1 y2 y3:Value}{t:TypeId}(h:w.heap[g]? =some (.cells #[x0,x1,x2,x3] t (0,0))):(qy w g y0 y1 y2 y3).heap[g]? =some (.cells #[y0,y1,y2,y3] t (0,0)):=
 gJ (gJ (gJ (gJ h 0 y0) 1 y1) 2 y2) 3 y3
theorem qH{W w:World}{g:Nat}{y0 y1 y2 y3:Value}(h:Below W.heap.size W w)(hg:W.heap.size<=g):Below W.heap.size W (qy w g y0 y1 y2 y3):=(((h.setCell hg _).setCell hg _).setCell hg _).setCell hg _
theorem aeD{B g:Nat}{w:World}{va vl vd y0 y1 y2 y3:Value}{x:aV}{F:Nat->Prop}(h:Sn B w va vl vd x F)(hg:g<B):Sn B (qy w g y0 y1 y2 y3) va vl vd x F:=(((h.set hg).set hg).set hg).set hg
set_option maxHeartbeats 16000000 in
theorem ap4(ls:Sp.LS)(v:Value)(W:World)(hv:FW W.heap.size W v ls)(hfit:zN ls)(hG:G.ok W):Calls prog 15 #[v] W λe w'=>Gives W w' e (Sp.dec ls).1 (Sp.dec ls).2:=by
 have mixed:=Tryz.mixed;obtain⟨asl,hlx⟩:=hfit;obtain⟨al,cl,rfl⟩:=lZ hv;have hbase:=below2 W (Obj.cells yw 33 (0,0)) (Obj.cells yw 33 (0,0));have hsize:=aaF W (Obj.cells yw 33 (0,0)) (Obj.cells yw 33 (0,0));have hN0:=box1 W (Obj.cells yw 33 (0,0)) (Obj.cells yw 33 (0,0));have hdec:∀z,Sp.dec ls=z->Sp.dec ls=z:=λ_ h=>h
 go_enter Tryz.func15,Tryz.ntmps15
 go_wp2
 go_loopw [10] (λi wr=>∃n:Nat,n<=ls.length/\i=.int .i64 n/\(gQ bZ (ls.take n)).2=true/\Uu n (gQ bZ (ls.take n)).1/\Held (W.heap.size+2) (W.heap.size+1) wr (gQ bZ (ls.take n)).1/\Kp (W.heap.size+2) (W.heap.size+1) ((W.alloc (Obj.cells yw 33 (0,0))).alloc (Obj.cells yw 33 (0,0))) wr)
  (λi _=>ls.length-(intOf i).toNat)
 case atStart=>exact⟨0,avM _,rfl,rfl,air,⟨_,_,_,_,aom W _ _,Sn.zero _ _⟩,rfl,rfl,rfl,avt _,λ_ _ _=>rfl⟩
 case round=>
  obtain⟨n,hn,rfl,hok,hsz,hH,hK⟩:=hrel;have hlow:=hK.low abn hbase;have hGr:G.ok wr:=dR hG hlow;have hwr:=hK.size;rw[hsize]at hwr;rcases avN n ls.length with hlt|hge
  .have hlt':((n:Nat):Int)<ls.length:=abn;obtain⟨bl,off,rfl,hbl,hcl⟩:=hv.cell hlt;have hcl:=(aw3 (a:=⟨bl,off+n,none⟩) (hlow.block bl hbl)).trans hcl;have hLl:=hlx _ (getD_in (d:=([],())) hlt);have hnext:=anc hlt hok;have hstop:=aoo (l:=ls) (n:=n+1);rw[hnext]at hstop;have Si:Uu (n+1) (lq (gQ bZ (ls.take n)).1 (Sp.pieces 32 (ls.getD n ([],())).1)).1:=ane hsz (by have:=Sp.pieces_len 32 (ls.getD n ([],())).1;omega) λy hy=>avx (Cc y hy) hLl;generalize (ls.getD n ([],())).1=L at hcl hLl hnext hstop Si;have rr:=anf (W.heap.size+2) (W.heap.size+1) wr _ L hLl hGr hH abn hwr ⟨avx hsz.1 abn,avx hsz.2.1 abn,hsz.2.2.1,avx hsz.2.2.2.1 abn,hsz.2.2.2.2⟩;generalize lq (gQ bZ (ls.take n)).1 (Sp.pieces 32 L)=z at rr hnext hstop Si;obtain⟨x',b⟩:=z;dsimp only at rr hstop Si;cases b with
   |false=>
    have hd:=hstop rfl;clear hstop hnext
    go_wp2_with (first
     |(go_at_call 60;refine av2 rr ?_;rintro e w' ⟨rfl,-,hK'⟩;have hKK:=hK.trans hK';have hlow':=hKK.low abn hbase;have hq:=(hKK.block W.heap.size abn abn).trans hN0;obtain⟨⟨d0,d1,d2,d3⟩,z0,z1,z2,z3⟩:=four hq))
    all_goals (try simp only[Exit.inBlock,Exit.then])
    have r9:=uI (y0:=.slice none 0 0) (y1:=.slice none 0 0) (y2:=.int .i64 0) (y3:=.slice none 0 0) hq;have Fq:=qH (y0:=.slice none 0 0) (y1:=.slice none 0 0) (y2:=.int .i64 0) (y3:=.slice none 0 0) hlow' (avt _);unfold qy at r9 Fq;clear d0 d1 d2 d3 z0 z1 z2 z3;refine awT (v:=.tuple #[.agg #[.slice none 0 0,.slice none 0 0,.int .i64 0,.slice none 0 0],.bool false]) ?_ rfl aq6;obtain⟨⟨d0,d1,d2,d3⟩,z0,z1,z2,z3⟩:=four r9;rw[axn rfl]
    go_simp
   |true=>
    go_wp2_with (first
     |(go_at_call 60;refine av2 rr ?_;rintro e w' ⟨rfl,hH',hK'⟩))
    exact⟨⟨n+1,hlt,rfl,by rw[hnext],by rw[hnext];exact Si,by rw[hnext];exact hH',hK.trans hK'⟩,by simp only[intOf];omega⟩
  .have hge':¬((n:Nat):Int)<ls.length:=abn;obtain rfl:n=ls.length:=abn;rw[awE]at hok hsz hH;have hsm:=afP hsz abn;obtain⟨va,vl,vd,F,hP,wX⟩:=hH;have hdb:=ap3 hok;have hdg:=aon hok;generalize (gQ bZ ls).1=x at hsz hsm hP wX hdb hdg;have hPl:=(avw.1 hP).1;have hq:=(hK.block W.heap.size abn abn).trans hN0;have vs:=ap5 wX hsm hGr;unfold Gv at vs;obtain⟨⟨d0,d1,d2,d3⟩,z0,z1,z2,z3⟩:=four hP;cases hval:bT x with
   |false=>
    rw[hval]at vs hdb;have hd:=hdb rfl
    go_wp2_with (first
     |(go_at_call 28;refine av2 vs ?_;rintro e w5 ⟨rfl,hb5⟩;have sS:=hlow.trans (hb5.mono hlow.size);have hq5:=(hb5.block W.heap.size abn).trans hq;clear d0 d1 d2 d3 z0 z1 z2 z3;obtain⟨⟨d0,d1,d2,d3⟩,z0,z1,z2,z3⟩:=four hq5))
    all_goals (try simp only[Exit.inBlock,Exit.then])
    have r9:=uI (y0:=.slice none 0 0) (y1:=.slice none 0 0) (y2:=.int .i64 0) (y3:=.slice none 0 0) hq5;have Fq:=qH (y0:=.slice none 0 0) (y1:=.slice none 0 0) (y2:=.int .i64 0) (y3:=.slice none 0 0) sS (avt _);unfold qy at r9 Fq;clear d0 d1 d2 d3 z0 z1 z2 z3;refine awT (v:=.tuple #[.agg #[.slice none 0 0,.slice none 0 0,.int .i64 0,.slice none 0 0],.bool false]) ?_ rfl aq6;obtain⟨⟨d0,d1,d2,d3⟩,z0,z1,z2,z3⟩:=four r9;rw[axn rfl]
    go_simp
   |true=>
    rw[hval]at vs hdb;have es:=λw(hs:Sn (W.heap.size+2) w va vl vd x F) hG=>ap6 hs hsm hG;unfold Gv at es;cases heq:decide (Sp.enc x=ls)with
    |false=>
     rw[heq]at hdb;have hd:=hdb rfl
     go_wp2_with (first
      |(go_at_call 28;refine av2 vs ?_;rintro e w5 ⟨rfl,hb5⟩;have sS:=hlow.trans (hb5.mono hlow.size);have nP:=(hb5.block _ hPl).trans hP;clear d0 d1 d2 d3 z0 z1 z2 z3;obtain⟨⟨d0,d1,d2,d3⟩,z0,z1,z2,z3⟩:=four nP)
      |(go_at_call 14;refine av2 (es w5 (wX.below hb5) (dR hG sS)) ?_;rintro e w6 ⟨v6,rfl,Ql,hb6⟩;obtain⟨a6,c6,e6⟩:=lZ Ql;subst e6;have LW:=hb5.trans (hb6.mono hb5.size);have sU:=sS.trans (hb6.mono sS.size))
      |(go_at_call 61;refine av2 (akA Ql (hv.keep' sU) (dR hG sU)) ?_;rintro e w7 ⟨rfl,hb7⟩;rw[heq];have LX:=LW.trans (hb7.mono LW.size);have Sj:=sU.trans (hb7.mono sU.size);have hq7:=(LX.block W.heap.size abn).trans hq;clear d0 d1 d2 d3 z0 z1 z2 z3;obtain⟨⟨d0,d1,d2,d3⟩,z0,z1,z2,z3⟩:=four hq7))
     all_goals (try simp only[Exit.inBlock,Exit.then])
     have r9:=uI (y0:=.slice none 0 0) (y1:=.slice none 0 0) (y2:=.int .i64 0) (y3:=.slice none 0 0) hq7;have Fq:=qH (y0:=.slice none 0 0) (y1:=.slice none 0 0) (y2:=.int .i64 0) (y3:=.slice none 0 0) Sj (avt _);unfold qy at r9 Fq;clear d0 d1 d2 d3 z0 z1 z2 z3;refine awT (v:=.tuple #[.agg #[.slice none 0 0,.slice none 0 0,.int .i64 0,.slice none 0 0],.bool false]) ?_ rfl aq6;obtain⟨⟨d0,d1,d2,d3⟩,z0,z1,z2,z3⟩:=four r9;rw[axn rfl]
     go_simp
    |true=>
     have hd:=hdg hval heq;obtain⟨aa,ca,rfl⟩:=wX.fa.form;obtain⟨ab,cb,rfl⟩:=wX.fl.form;obtain⟨ad,cd,rfl⟩:=wX.fd.form
     go_wp2_with (first
      |(go_at_call 28;refine av2 vs ?_;rintro e w5 ⟨rfl,hb5⟩;have sS:=hlow.trans (hb5.mono hlow.size);have nP:=(hb5.block _ hPl).trans hP;clear d0 d1 d2 d3 z0 z1 z2 z3;obtain⟨⟨d0,d1,d2,d3⟩,z0,z1,z2,z3⟩:=four nP)
      |(go_at_call 14;refine av2 (es w5 (wX.below hb5) (dR hG sS)) ?_;rintro e w6 ⟨v6,rfl,Ql,hb6⟩;obtain⟨a6,c6,e6⟩:=lZ Ql;subst e6;have LW:=hb5.trans (hb6.mono hb5.size);have sU:=sS.trans (hb6.mono sS.size))
      |(go_at_call 61;refine av2 (akA Ql (hv.keep' sU) (dR hG sU)) ?_;rintro e w7 ⟨rfl,hb7⟩;rw[heq];have LX:=LW.trans (hb7.mono LW.size);have Sj:=sU.trans (hb7.mono sU.size);have hq7:=(LX.block W.heap.size abn).trans hq;have hP7:=(LX.block _ hPl).trans hP;have aop:=wX.below LX;clear d0 d1 d2 d3 z0 z1 z2 z3;obtain⟨⟨d0,d1,d2,d3⟩,z0,z1,z2,z3⟩:=four hq7;obtain⟨⟨p0,p1,p2,p3⟩,y0,y1,y2,y3⟩:=four hP7))
     all_goals (try simp only[Exit.inBlock,Exit.then])
     have r9:=uI (y0:=.slice aa x.1.length ca) (y1:=.slice ab x.2.1.length cb) (y2:=.int .i64 x.2.2.1) (y3:=.slice ad x.2.2.2.1.length cd) hq7;have Fq:=qH (y0:=.slice aa x.1.length ca) (y1:=.slice ab x.2.1.length cb) (y2:=.int .i64 x.2.2.1) (y3:=.slice ad x.2.2.2.1.length cd) Sj (avt _);have hs9:=aeD (y0:=.slice aa x.1.length ca) (y1:=.slice ab x.2.1.length cb) (y2:=.int .i64 x.2.2.1) (y3:=.slice ad x.2.2.2.1.length cd) aop (show W.heap.size<W.heap.size+2 from abn);unfold qy at r9 Fq hs9;clear d0 d1 d2 d3 z0 z1 z2 z3;refine awT (v:=.tuple #[.agg #[.slice aa x.1.length ca,.slice ab x.2.1.length cb,.int .i64 x.2.2.1,.slice ad x.2.2.2.1.length cd],.bool true]) ?_ rfl (by rw[hd];exact ais abn Fq hs9);obtain⟨⟨d0,d1,d2,d3⟩,z0,z1,z2,z3⟩:=four r9;rw[axn rfl]
     go_simp
theorem OI:fJ prog G yZ vI:=by
 intro args p out k S vs w hcon hp hG hrep;unfold vI iy wU at hcon;split at hcon
 .next x hx=>
  obtain⟨ls,⟨⟩⟩:=x;have hv:=DZ xE args _ vs.toList hx hrep
  match hvs:vs.toList,hv with
  |[v],hv=>
   have e1:cZ w.heap _ (.sl aY dQ) v ls:=hv.1;have e2:vs=#[v]:=by obtain⟨l⟩:=vs;simp at hvs;rw[hvs]
   subst e2;have hF:=Option.some.inj hcon;have hp1:p=zN ls:=(congrArg Prod.fst hF).symm;have hout:out=⟨[(true,[.plain (.sl aA bK (Sp.dec ls).1.1 true),.plain (.sl aP dI (Sp.dec ls).1.2.1 true),.plain (.int .i64 (Sp.dec ls).1.2.2.1),.plain (.sl aX dA (Sp.dec ls).1.2.2.2.1 true)]),(false,[.plain (.bool (Sp.dec ls).2)])],none⟩:=(congrArg Prod.snd hF).symm;subst hp1 hout;refine(ap4 ls v w (cZ.mono (λb hb=>⟨hb.1.1,rfl⟩) _ _ _ e1) hp hG).mono ?_;rintro e w' ⟨va,vl,vd,rfl,hb,hn,r1,r2,r3⟩;refine⟨_,λ_=>undef,rfl,hb.os,hb.tape,hb.output,hb.size,hb.block,?_,(λo x hx=>afg),(λo x q y b hx=>afg)⟩;exact⟨_,rfl,⟨_,rfl,cZ.mono (λb hb=>⟨⟨⟨hb.2,λh=>absurd h (ax5.2 hb.1),λo x hx=>afg⟩,λ_=>hb.1⟩,rfl⟩) _ _ _ r1,cZ.mono (λb hb=>⟨⟨⟨hb.2,λh=>absurd h (ax5.2 hb.1),λo x hx=>afg⟩,λ_=>hb.1⟩,rfl⟩) _ _ _ r2,⟨rfl,hn⟩,cZ.mono (λb hb=>⟨⟨⟨hb.2,λh=>absurd h (ax5.2 hb.1),λo x hx=>afg⟩,λ_=>hb.1⟩,rfl⟩) _ _ _ r3,trivial⟩,rfl,trivial⟩
 .cases hcon
end Go.Proofs.Tryz
namespace Go.Proofs.Tryz
open Go Go.Fw Go.IntWalk Sp
set_option maxRecDepth 100000
theorem afQ{s:List UInt8}(h:aG s):zN (Sp.inner (Sp.pieces 10 s)):=by unfold Sp.inner;refine⟨?_,λx hx=>h.2 x (aw2 (awU hx))⟩;have:=h.1;rw[avW,avz];omega
theorem asn(x:aV):Sp.slot 0 x=[]:=by unfold Sp.slot;rw[avH abn,axm,awO];rfl
theorem WE:OK yc.e:=by
 refine PA.ok mixed (aC [rQ.e,(yZ,.pure vI),(uG,.pure qN),(Gm,.pure Dv)] ⟨Ja,⟨OI,MQ⟩,⟨yj,Ce⟩,⟨LG,Yl⟩,trivial⟩) H0 abu (show∀s,yc.goal (Jb s) (s,())from ?_);intro s hin hp;dsimp only[yc]at hp ⊢;have hp:aG s:=hp;have hl:=aeE hp;dsimp only[Jb];rw[show([10]:List UInt8).getD 0 0=10 from rfl,show(1:Int).toNat=1 from rfl,show(0:Int).toNat=0 from rfl];refine⟨⟨abn,.inr rfl⟩,af (λh=>?_) λh=>?_⟩
 .have h:=fB h;unfold au;rw[avH abn];rfl
 have h:=fO h;have h2:2<=(Sp.pieces 10 s).length:=abn;have hc:=hp.1;have ew:IntKind.i64.wrap (((Sp.pieces 10 s).length:Int)-1)=(((Sp.pieces 10 s).length-1:Nat):Int):=by rw[wrap_in abn];omega
 have ei:List.drop 1 (List.take ((Sp.pieces 10 s).length-1) (Sp.pieces 10 s))=Sp.inner (Sp.pieces 10 s):=rfl;have hne:s≠[]:=λe=>by rw[e]at h2;exact absurd h2 abA
 have hn:bf ((Sp.pieces 10 s).getD 0 ([],())).1=false->decide (Sp.slot (Sp.parseNum ((Sp.pieces 10 s).getD 0 ([],())).1) (Sp.dec (Sp.inner (Sp.pieces 10 s))).1=s)=false:=λe=>by rw[AP e,asn];exact avH λe2=>hne e2.symm
 have hd:au s=bif (Sp.dec (Sp.inner (Sp.pieces 10 s))).2&&decide (Sp.slot (Sp.parseNum ((Sp.pieces 10 s).getD 0 ([],())).1) (Sp.dec (Sp.inner (Sp.pieces 10 s))).1=s)then(Sp.parseNum ((Sp.pieces 10 s).getD 0 ([],())).1,(Sp.dec (Sp.inner (Sp.pieces 10 s))).1,true)else(0,bZ,false):=by unfold au;rw[avD h2];rfl
 rw[ew,avJ,ei,hd];refine⟨⟨abA,abn⟩,trivial,⟨abA,abn,abn⟩,afQ hp,af (λg=>?_) λg=>af (λg2=>?_) λg2=>⟨afR _,af (λg3=>?_) λg3=>?_⟩⟩
 .rw[hn (iY g),awO];rfl
 .rw[iY g2];rfl
 .have g3:(Sp.slot (Sp.parseNum ((Sp.pieces 10 s).getD 0 ([],())).1) (Sp.dec (Sp.inner (Sp.pieces 10 s))).1==s)=false:=iY g3;rw[avH (avp.1 g3),awO];rfl
 .have g3:(Sp.slot (Sp.parseNum ((Sp.pieces 10 s).getD 0 ([],())).1) (Sp.dec (Sp.inner (Sp.pieces 10 s))).1==s)=true:=fG g3;rw[avD (avS.1 g3),fG g2];rfl
theorem Jc:OK rU.e:=by
 refine PA.ok mixed (aC [yc.e] ⟨WE,trivial⟩) H0 abu (show∀d0 d1,rU.goal (WG d0 d1) ((d0,d1,()),())from ?_);intro a b hin hp;dsimp only[rU]at hp ⊢;obtain⟨ha,hb⟩:aG a/\aG b:=hp;refine⟨ha,hb,?_⟩;dsimp only;unfold Sp.latest;refine af (λg=>?_) λg=>?_
 .rw[g];refine af (λg2=>?_) λg2=>af (λg3=>?_) λg3=>?_
  .rw[g2];rfl
  .rw[avD (show(au a).1<(au b).1 from fB g3),ayo];rfl
  .rw[g2,avH (show ¬(au a).1<(au b).1 from fO g3)];rfl
 .rw[g];rfl
theorem OJ:OK ru.e:=by refine PA.ok mixed (aC [rU.e] ⟨Jc,trivial⟩) H0 abu (show∀d0 d1,ru.goal (OM d0 d1) ((d0,d1,()),())from ?_);intro a b hin hp;dsimp only[ru]at hp ⊢;exact⟨hp,rfl⟩
theorem LY:OK wP.e:=by refine PA.ok mixed (aC [rQ.e,rU.e] ⟨Ja,Jc,trivial⟩) H0 abu (show∀d0 d1 x0 x1 x2 x3,wP.goal (aaH d0 d1 x0 x1 x2 x3) ((d0,d1,()),(x0,x1,x2,x3,()),())from ?_);intro a b x0 x1 x2 x3 hin hp;dsimp only[wP]at hp ⊢;obtain⟨ha,hb,hx⟩:aG a/\aG b/\bP (x0,x1,x2,x3,()):=hp;have hn:=J8 a b;refine⟨⟨ha,hb⟩,hx,?_⟩;dsimp only;rw[wrap_in abn];rfl
theorem YB:OK zQ.e:=by
 refine PA.ok mixed (aC [FT.e,wP.e] ⟨agI,LY,trivial⟩) aaI abu (show∀d0 d1 x0 x1 x2 x3 keep,zQ.goal (YC d0 d1 x0 x1 x2 x3 keep) ((d0,d1,()),(x0,x1,x2,x3,()),keep,())from ?_);intro a b x0 x1 x2 x3 k hin hp;dsimp only[zQ]at hp ⊢;refine⟨hp,?_⟩;dsimp only;unfold dZ;rw[show∀l:List UInt8,List.drop 0 l=l fromλ_=>rfl,show∀n:Nat,(max 0 (min k (n:Int))).toNat=Sp.kept k n fromλ_=>rfl];generalize dK a b (x0,x1,x2,x3,())=t;refine af (λg=>by rw[g];rfl) λg=>?_;rw[g];refine⟨abn,⟨abn,abn⟩,af (λg2=>?_) λg2=>?_⟩
 .rw[iY g2];rfl
 .rw[fG g2];rfl
theorem aaJ:OK BG.e:=by refine PA.ok mixed (aC [wP.e] ⟨LY,trivial⟩) H0 abu (show∀d0 d1 x0 x1 x2 x3,BG.goal (aaK d0 d1 x0 x1 x2 x3) ((d0,d1,()),(x0,x1,x2,x3,()),())from ?_);intro a b x0 x1 x2 x3 hin hp;dsimp only[BG]at hp ⊢;exact⟨hp,rfl⟩
end Go.Proofs.Tryz
namespace Go.Proofs.Tryz
open Go Go.Fw Go.RowKit Sp
set_option maxRecDepth 100000
theorem aoq(s:List UInt8)(hs:s.length<=1048576)(w:World)(hG:G.ok w):Calls prog 110 #[.string ⟨s.toArray⟩] w λe w'=>
 ∃a c,e=.returned (.tuple #[.slice a (gG s).length c,.bool (jA s)])/\FW w'.heap.size w' (.slice a (gG s).length c) (gG s)/\Below w.heap.size w w':=by
 have hc:fJ prog G 110 (iy lD.sh lD.bI lD.F):=Ho.1;refine(hc [.sv (.one (.str s))] (s.length<=1048576) _ 0 (λ_=>True) #[.string ⟨s.toArray⟩] w rfl hs hG ⟨⟨rfl,ac2⟩,trivial⟩).mono ?_;rintro e w' ⟨v,vals,rfl,h1,h2,h3,h4,h5,h6,_,_⟩;obtain⟨vs,rfl,h7⟩:=h6;obtain⟨l⟩:=vs
 match l,h7 with
 |[x,y],h7=>obtain⟨hx,hy,_⟩:=h7;have hx:cZ w'.heap _ (.sl aY dQ) x (gG s):=hx;have hy:y=.bool (jA s):=hy;obtain⟨a,c,ex⟩:=lZ hx;rw[ex]at hx;rw[hy,ex];exact⟨a,c,rfl,cZ.mono (λb hb=>⟨hb.1.1,rfl⟩) _ _ _ hx,h1,h2,h3,h4,h5⟩
theorem C9{w:World}{v:Value}{f:Sp.LS}(hv:FW w.heap.size w v f){i:Int}(h0:0<=i)(h1:i<=100000)(hG:G.ok w):Calls prog 111 #[v,.int .i64 i] w λe w'=>e=.returned (.string ⟨(Sp.wordAt f i).toArray⟩)/\Below w.heap.size w w':=by have hc:fJ prog G 111 (iy lU.sh lU.bI lU.F):=Gw.1;refine(hc [.sv (.one (.sl aY dQ f false)),.sv (.one (.int .i64 i))] (0<=i) _ 0 (λ_=>True) #[v,.int .i64 i] w rfl h0 hG ⟨wY hv,⟨rfl,by show -9223372036854775808<=i;omega,by show i<=9223372036854775807;omega⟩,trivial⟩).mono ?_;rintro e w' ⟨v,vals,rfl,h1,h2,h3,h4,h5,h6,_,_⟩;have h6:v=.string ⟨(Sp.wordAt f i).toArray⟩/\_:=h6;exact⟨by rw[h6.1],h1,h2,h3,h4,h5⟩
theorem X4{w:World}{v:Value}{f:Sp.LS}(hv:FW w.heap.size w v f){i:Int}(h0:0<=i)(h1:i<=100000)(hG:G.ok w):Calls prog 112 #[v,.int .i64 i] w λe w'=>e=.returned (.int .i64 (Sp.numAt f i))/\Below w.heap.size w w':=by have hc:fJ prog G 112 (iy vS.sh vS.bI vS.F):=aeF.1;refine(hc [.sv (.one (.sl aY dQ f false)),.sv (.one (.int .i64 i))] (0<=i) _ 0 (λ_=>True) #[v,.int .i64 i] w rfl h0 hG ⟨wY hv,⟨rfl,by show -9223372036854775808<=i;omega,by show i<=9223372036854775807;omega⟩,trivial⟩).mono ?_;rintro e w' ⟨v,vals,rfl,h1,h2,h3,h4,h5,h6,_,_⟩;have h6:v=.int .i64 (Sp.numAt f i)/\_:=h6;exact⟨by rw[h6.1],h1,h2,h3,h4,h5⟩
theorem aor(s:List UInt8)(hs:s.length<=1048576)(w:World)(hG:G.ok w):Calls prog 113 #[.string ⟨s.toArray⟩] w λe w'=>
 e=.returned (.tuple #[.agg #[.int .i64 (aZ s).1.1,.int .i64 (aZ s).1.2.1,.string ⟨(aZ s).1.2.2.1.toArray⟩],.bool (aZ s).2])/\Below w.heap.size w w'/\sV (aZ s).1.1/\sV (aZ s).1.2.1/\(aZ s).1.2.2.1.length<=maxLen:=by
 have hc:fJ prog G 113 (iy kM.sh kM.bI kM.F):=Jd.1;refine(hc [.sv (.one (.str s))] (s.length<=1048576) _ 0 (λ_=>True) #[.string ⟨s.toArray⟩] w rfl hs hG ⟨⟨rfl,ac2⟩,trivial⟩).mono ?_;rintro e w' ⟨v,vals,rfl,h1,h2,h3,h4,h5,h6,_,_⟩;obtain⟨vs,rfl,h7⟩:=h6;obtain⟨l⟩:=vs
 match l,h7 with
 |[a,b],h7=>
  obtain⟨⟨us,ea,h8⟩,h9,_⟩:=h7;obtain⟨ul⟩:=us
  match ul,h8 with
  |[x,y,z],h8=>obtain⟨x1,y1,z1,_⟩:=h8;have h9:b=.bool (aZ s).2:=h9;rw[ea,h9,x1.1,y1.1,z1.1];exact⟨rfl,⟨h1,h2,h3,h4,h5⟩,x1.2,y1.2,z1.2⟩
theorem aos(s:List UInt8)(hs:s.length<=1048576)(w:World)(hG:G.ok w):Calls prog 114 #[.string ⟨s.toArray⟩] w λe w'=>
 ∃a c,e=.returned (.tuple #[.slice a (fU s).length c,.bool (gB s)])/\Below w.heap.size w w'/\cZ w'.heap (λb=>w.heap.size<=b/\b<w'.heap.size) (.sl aN bG) (.slice a (fU s).length c) (fU s):=by
 have hcon:fJ prog G 114 (iy pI.sh pI.bI pI.F):=WH.1;refine(hcon [.sv (.one (.str s))] (s.length<=1048576) _ 0 (λ_=>False) #[.string ⟨s.toArray⟩] w rfl hs hG ⟨⟨rfl,ac2⟩,trivial⟩).mono ?_;rintro e w' ⟨v,vals,rfl,h1,h2,h3,h4,h5,h6,_,_⟩;obtain⟨vs,rfl,h7⟩:=h6;obtain⟨l⟩:=vs
 match l,h7 with
 |[x,y],h7=>obtain⟨hx,hy,_⟩:=h7;have hx:cZ w'.heap _ (.sl aN bG) x (fU s):=hx;have hy:y=.bool (gB s):=hy;obtain⟨a,c,ex⟩:=lZ hx;rw[ex]at hx;rw[hy,ex];exact⟨a,c,rfl,⟨h1,h2,h3,h4,h5⟩,cZ.mono (λb hb=>⟨⟨ayF hb.1.2.1,hb.1.1⟩,rfl⟩) _ _ _ hx⟩
theorem ap7(v:Value)(f:Sp.LS)(w:World)(hv:FW w.heap.size w v f)(hf:f.length<=1000)(hj:(gy f).length<=2097152)(hG:G.ok w):Calls prog 115 #[v] w λe w'=>
 e=.returned (.string ⟨(gy f).toArray⟩)/\Below w.heap.size w w':=by
 have hcon:fJ prog G 115 (iy qp.sh qp.bI qp.F):=NZ.1;refine(hcon [.sv (.one (.sl aY dQ f false))] (f.length<=1000/\(gy f).length<=2097152) _ 0 (λ_=>True) #[v] w rfl ⟨hf,hj⟩ hG ⟨wY hv,trivial⟩).mono ?_;rintro e w' ⟨v,vals,rfl,h1,h2,h3,h4,h5,h6,_,_⟩;have h6:v=.string ⟨(gy f).toArray⟩/\_:=h6;rw[h6.1];exact⟨rfl,h1,h2,h3,h4,h5⟩
def Back(B:Nat)(W w':World)(e:Ending)(x:aV):Prop:=∃va vl vd F,e=.returned (Gv va vl vd x.2.2.1)/\Sn B w' va vl vd x F/\Kp B B W w'
theorem Sl{B:Nat}{W w:World}(hB:B<=W.heap.size)(k:Below W.heap.size W w):Kp B B W w:=⟨k.os,k.tape,k.output,k.size,λb hb _=>k.block b abn⟩
theorem OO{line:List UInt8}:(gG line).length<=24/\∀y∈gG line,y.1.length<=600:=by
 unfold gG;cases h:jA line with
 |false=>exact⟨avM _,λy hy=>asK⟩
 |true=>have hs:=qI.1 h;refine⟨?_,λy hy=>avx (Sm y hy) hs.1⟩;show(Sp.wordsOf line).length<=24;rw[uJ];exact hs.2.2
end Go.Proofs.Tryz
namespace Go.Proofs.Tryz
open Go Go.Fw Go.RowKit Sp
set_option maxRecDepth 100000
theorem Sn.far{B:Nat}{w w':World}{va vl vd:Value}{x:aV}{F:Nat->Prop}(h:Sn B w va vl vd x F)(hs:w.heap.size<=w'.heap.size){g:Nat}(hg:¬F g/\va.ownBlock≠some g/\vl.ownBlock≠some g/\vd.ownBlock≠some g)(k:∀b,b<w.heap.size->b≠g->w'.heap[b]? =w.heap[b]?):Sn B w' va vl vd x F:=by obtain⟨g1,g2,g3,g4⟩:=hg;have hf:∀b,F b->w'.heap[b]? =w.heap[b]? :=λb hb=>k b (h.foot b hb).2.1 λe=>g1 (e▸hb);exact⟨h.fa.keep (λb hb=>k b (h.fa.lt hb).2 λe=>g2 (e▸hb)) hf,h.fl.keep (λb hb=>k b (h.fl.lt hb).2 λe=>g3 (e▸hb)) hf,h.fd.keep (λb hb=>k b (h.fd.lt hb).2 λe=>g4 (e▸hb)) hf,h.nx,h.ne,λb hb=>⟨(h.foot b hb).1,avT (h.foot b hb).2.1 hs,(h.foot b hb).2.2⟩⟩
theorem aot{w:World}{g b:Nat}{y0 y1 y2 y3:Value}(h:b≠g):(qy w g y0 y1 y2 y3).heap[b]? =w.heap[b]? :=(mZ _ h).trans ((mZ _ h).trans ((mZ _ h).trans (mZ _ h)))
theorem ang{w:World}{g:Nat}{y0 y1 y2 y3:Value}:(qy w g y0 y1 y2 y3).heap.size=w.heap.size:=by simp[qy,World.setCell]
theorem Kp.high{B g k:Nat}{W w:World}{v:Value}(h:Kp B B W w)(hg:B<=g):Kp B B W (w.setCell ⟨g,k,none⟩ v):=
 ⟨h.os,h.tape,h.output,by simpa[World.setCell]using h.size,λb hb hn=>(mZ v (show b≠g from abn)).trans (h.block b hb hn)⟩
theorem Kp.qy{B g:Nat}{W w:World}{y0 y1 y2 y3:Value}(h:Kp B B W w)(hg:B<=g):Kp B B W (qy w g y0 y1 y2 y3):=(((h.high hg).high hg).high hg).high hg
theorem aso(W:World)(o:Obj):Below W.heap.size W ((W.alloc o).alloc (Obj.cells #[.slice none 0 0,.slice none 0 0,.int .i64 0,.slice none 0 0] 33 (0,0)))/\((W.alloc o).alloc (Obj.cells #[.slice none 0 0,.slice none 0 0,.int .i64 0,.slice none 0 0] 33 (0,0))).heap[W.heap.size]? =some o/\
 ((W.alloc o).alloc (Obj.cells #[.slice none 0 0,.slice none 0 0,.int .i64 0,.slice none 0 0] 33 (0,0))).heap[W.heap.size+1]? =some (Obj.cells #[.slice none 0 0,.slice none 0 0,.int .i64 0,.slice none 0 0] 33 (0,0))/\((W.alloc o).alloc (Obj.cells #[.slice none 0 0,.slice none 0 0,.int .i64 0,.slice none 0 0] 33 (0,0))).heap.size=W.heap.size+2:=
 ⟨below2 W o _,box1 W o _,aom W o _,aaF W o _⟩
theorem Sn.high{B:Nat}{w:World}{va vl vd:Value}{x:aV}{F:Nat->Prop}(h:Sn B w va vl vd x F)(n:Nat)(hn:w.heap.size<=n):¬F n/\va.ownBlock≠some n/\vl.ownBlock≠some n/\vd.ownBlock≠some n:=
 ⟨(λe=>by have:=(h.foot n e).2.1;omega),(λe=>by have:=(h.fa.lt e).2;omega),(λe=>by have:=(h.fl.lt e).2;omega),λe=>by have:=(h.fd.lt e).2;omega⟩
theorem acB{own:Option Nat}{g H:Nat}{W:World}(h:own=some g\/g=H)(ho:∀b,own=some b->b<W.heap.size)(hH:W.heap.size+2<=H):∀n,W.heap.size<=n->n<=W.heap.size+1->some g≠some n:=λn h1 h2 e=>by
 cases e;rcases h with h|h
 .have:=ho _ h;omega
 .omega
theorem acC{B k:Nat}{W w:World}{x:aV}{F:Nat->Prop}{va vl vd x0 x1 x2 x3:Value}{t:TypeId}(v y0 y1 y2 y3:Value)(hx:Sn B w va vl vd x F)(hk:Kp B B W w)(hB:B<=W.heap.size)
 (o0:∀n,W.heap.size<=n->n<=W.heap.size+1->¬F n/\va.ownBlock≠some n/\vl.ownBlock≠some n/\vd.ownBlock≠some n) (q:w.heap[W.heap.size+1]? =some (.cells #[x0,x1,x2,x3] t (0,0))):
 (qy (w.setCell ⟨W.heap.size,k,none⟩ v) (W.heap.size+1) y0 y1 y2 y3).heap[W.heap.size+1]? =some (.cells #[y0,y1,y2,y3] t (0,0))/\Sn B (qy (w.setCell ⟨W.heap.size,k,none⟩ v) (W.heap.size+1) y0 y1 y2 y3) va vl vd x F/\Kp B B W (qy (w.setCell ⟨W.heap.size,k,none⟩ v) (W.heap.size+1) y0 y1 y2 y3):=by
 have q9:=(mZ (w:=w) (p:=⟨W.heap.size,k,none⟩) (b:=W.heap.size+1) v (by show W.heap.size+1≠W.heap.size;omega)).trans q;have s7:=hx.far (w':=w.setCell ⟨W.heap.size,k,none⟩ v) aq0 (o0 _ (avt _) abn) λb _ hb=>mZ _ hb;exact⟨uI q9,s7.far (Nat.le_of_eq ang.symm) (o0 _ abn (avt _)) λb _ hb=>aot hb,(hk.high abn).qy abn⟩
end Go.Proofs.Tryz
namespace Go.Proofs.Tryz
open Go Go.Fw Go.RowKit Sp
set_option maxRecDepth 100000
theorem tH{f:Sp.LS}(h:∀y∈f,y.1.length<=600)(i:Int):(Sp.wordAt f i).length<=600:=by
 by_cases hh:i<(f.length:Int)
 .rw[pX hh,avr];cases e:f[i.toNat]? with
  |none=>exact avM _
  |some x=>exact h x (awc e)
 .rw[pY abn];exact avM _
theorem tJ(f:Sp.LS)(k i:Nat):Sp.wordAt (f.drop k) (i:Int)=Sp.wordAt f ((k+i:Nat):Int):=by
 rcases avN (k+i) f.length with h|h
 .rw[pX (show(i:Int)<((f.drop k).length:Int)from amS),pX (show((k+i:Nat):Int)<(f.length:Int)from abn),avJ,avJ];simp[avr,av5]
 .rw[pY (show((f.drop k).length:Int)<=(i:Int)from amS),pY (show(f.length:Int)<=((k+i:Nat):Int)from abn)]
theorem aoA(f:Sp.LS):Dc (Sp.numAt f 1) (f.drop 2)=(Sp.numAt f 1,Sp.numAt f 2,Sp.wordAt f 3==[115],Sp.numAt f 4,iL (f.drop 5),()):=by
 unfold Dc Sp.numAt;have h0:=tJ f 2 0;have h1:=tJ f 2 1;have h2:=tJ f 2 2;have h3:(f.drop 2).drop 3=f.drop 5:=by rw[aw1]
 rw[h3,show Sp.wordAt (f.drop 2) 0=Sp.wordAt f 2 from h0,show Sp.wordAt (f.drop 2) 1=Sp.wordAt f 3 from h1,show Sp.wordAt (f.drop 2) 2=Sp.wordAt f 4 from h2]
def zeroAt:Value:=.agg #[.string ⟨#[]⟩,.int .i64 0,.int .i64 0,.string ⟨#[]⟩]
theorem infoAt:(prog.info? 102).map (λi=>(i.zero,i.size,i.bytes))=some (some zeroAt,4,48):=abu
theorem alR(f:Sp.LS)(m:Nat)(h:m<f.length):iL (f.drop m)=((f.getD m ([],())).1,(aZ (Sp.wordAt f ((m:Int)+1))).1)::iL (f.drop (m+2)):=by
 rcases avN (m+1) f.length with h2|h2
 .rw[aix h2,show((m:Int)+1)=((m+1:Nat):Int)from abn,← Jf h2];rfl
 .rw[drop_cons f m ([],()) h,awN h2,awN abn,pY abn];rfl
structure AtM(f:Sp.LS)(A:List bg)(m:Nat)(al:List bg):Prop where
 hi:m=5\/m<=f.length+1
 ln:2*al.length+5=m
 eq:al++iL (f.drop m)=A
theorem AtM.step{f:Sp.LS}{A:List bg}{m:Nat}{al:List bg}(h:AtM f A m al)(hlt:m<f.length):AtM f A (m+2) (al++[((f.getD m ([],())).1,(aZ (Sp.wordAt f ((m:Int)+1))).1)]):=by obtain⟨h1,h2,h3⟩:=h;refine⟨.inr abn,by rw[avn,avq,avu];omega,?_⟩;rw[alR f m hlt]at h3;rw[avE];exact h3
theorem AtM.done{f:Sp.LS}{A:List bg}{m:Nat}{al:List bg}(h:AtM f A m al)(hge:f.length<=m):A=al:=by obtain⟨h1,h2,h3⟩:=h;rw[awN hge]at h3;rw[← h3];exact avU _
theorem below_grown{n:Nat}{W w w':World}{o:Option Nat}(h:Below n W w)(k:w.grownBy w' o)(hn:n<=W.heap.size)(ho:∀b,o=some b->n<=b):Below n W w':=
 ⟨k.os.trans h.os,k.tape.trans h.tape,k.output.trans h.output,avx h.size k.size,λb hb=>(k.block b (by have:=h.size;omega) λe=>by have:=ho b e.symm;omega).trans (h.block b hb)⟩
structure Hold(P:Prop):Prop where h:P
set_option maxHeartbeats 64000000 in
theorem aoy(B:Nat)(W:World)(va vl vd:Value)(x:aV)(F:Nat->Prop)(line:List UInt8)(hl:line.length<=1048576)(hG:G.ok W)(hS:Sn B W va vl vd x F)(hB:B<=W.heap.size)(hz:Uu 200 x):
 Calls prog 64 #[Gv va vl vd x.2.2.1,.string ⟨line.toArray⟩] W λe w'=>Back B W w' e (pz x (gG line)):=by
 have mixed:=Tryz.mixed;obtain⟨aa,ca,rfl⟩:=hS.fa.form;obtain⟨ab,cb,rfl⟩:=hS.fl.form;obtain⟨ad,cd,rfl⟩:=hS.fd.form;have sf:=λw hG=>aoq line hl w hG;have hsm:=@OO line;unfold Gv;generalize gG line=f at sf hsm ⊢;generalize jA line=sok at sf;have lp:=λ(w:World)(v:Value)(hv:FW w.heap.size w v f) hG=>C9 hv (i:=0) abA abA hG;obtain⟨x0,hx0,hx1⟩:∃x0,Hid (x0=Sp.wordAt f 0)/\x0=Sp.wordAt f 0:=⟨_,rfl,rfl⟩;rw[← hx1]at lp;clear hx1;obtain⟨y,hy,hy1⟩:∃y,Hid (y=pz x f)/\pz x f=y:=⟨_,rfl,rfl⟩;rw[hy1];clear hy1;obtain⟨hbase,hN0,hN1,hsz2⟩:=aso W (Obj.cells #[.slice aa x.1.length ca,.slice ab x.2.1.length cb,.int .i64 x.2.2.1,.slice ad x.2.2.2.1.length cd] 33 (0,0));have sf1:=sf _ (dR hG hbase);clear sf
 go_enter Tryz.func64,Tryz.ntmps64
 go_wp2_with (first
  |(go_at_call 110;refine av2 sf1 ?_;rintro e w1 ⟨a1,c1,rfl,hf1,hb1⟩;have hb1':=hbase.trans (hb1.mono hbase.size);have hG1:=dR hG hb1';clear sf1)
  |(go_at_call 111;refine av2 (lp w1 _ hf1 hG1) ?_;rintro e w2 ⟨rfl,hb2⟩;have vP:=hb1.trans (hb2.mono hb1.size);have hb2':=hbase.trans (vP.mono hbase.size);have hG2:=dR hG hb2';have hf2:=hf1.keep' hb2;clear lp;refine Hold.h ?_))
 constructor;have auZ:=hb1.size;by_cases e0:x0=iw
 .have h0:Sp.wordAt f 0=iw:=hx0.out.symm.trans e0;have e0:x0=[102,105,101,108,100]:=e0;subst e0;clear hx0;by_cases h2:Sp.wordAt f 2=J9
  .have hy2:y=(x.1++[(Sp.wordAt f 1,1,())],x.2.1,x.2.2.1,x.2.2.2.1,()):=hy.out.trans (by unfold pz;rw[h0,h2];rfl);clear hy;have hz:=hz.1;have hw1:(Sp.wordAt f 1).length<=600:=tH hsm.2 1;have N7:=λ(w:World)(v:Value)(hv:FW w.heap.size w v f) hG=>C9 hv (i:=1) abA abA hG;have lp2:=λ(w:World)(v:Value)(hv:FW w.heap.size w v f) hG=>C9 hv (i:=2) abA abA hG;generalize Sp.wordAt f 1=nm at hw1 N7 hy2;rw[show Sp.wordAt f 2=[105,110,116]from h2]at lp2;obtain⟨i0,hi,hz0,hz1,hz2⟩:=axw aiy;have hqm:x.1.length+1<=maxLen:=ac2;have nD:(x.1.length+1)*24<=140737488355328:=abn;obtain⟨xs,hown,hrep⟩:=hS.fa;have hown:W.ownsRow B 54 2 (.slice aa x.1.length ca) x.1.length xs:=hown;have hrep:∀i z,x.1[i]? =some z->aJ W.heap F bK ((xs.drop (i*2)).take 2) z:=hrep;have Gx:∀b,(Value.slice aa x.1.length ca).ownBlock=some b->b<W.heap.size:=λb e=>(hS.fa.lt e).2;subst hy2
   go_wp2_with (first
    |(go_at_call 111;refine av2 (N7 w2 _ hf2 hG2) ?_;rintro e w3 ⟨rfl,hb3⟩;have qA:=vP.trans (hb3.mono vP.size);have Ie:=(Below.refl w3.heap.size w3).alloc (avt _) (Obj.cells #[.string ⟨nm.toArray⟩,.int .i64 2] 54 (0,0));have hrow3:=awf w3 (Obj.cells #[.string ⟨nm.toArray⟩,.int .i64 2] 54 (0,0));have zZ:=qA.trans (Ie.mono qA.size);have SB:=hbase.trans (zZ.mono hbase.size);have hf3:=(hf2.keep' hb3).keep' Ie;clear N7)
    |(go_at_call 111;refine av2 (lp2 _ _ hf3 (dR hG SB)) ?_;rintro e w4 ⟨rfl,hb4⟩;have hrow4:=(hb4.block w3.heap.size acA).trans hrow3;have aqY:=Ie.size;have xK:=zZ.trans (hb4.mono zZ.size);have aaP:=hbase.trans (xK.mono hbase.size);have t0:=aQ hrow4 0;have t1:=aQ hrow4 1;have u0:=dO hrow4 0;have u1:=dO hrow4 1;have t0:w4.cell? ⟨w3.heap.size,0,none⟩=some (.string ⟨nm.toArray⟩):=t0;have t1:w4.cell? ⟨w3.heap.size,1,none⟩=some (.int .i64 2):=t1;have aoB:=qA.size;have q0:=(xK.block W.heap.size abn).trans hN0;have q1:=(xK.block (W.heap.size+1) abn).trans hN1;obtain⟨⟨d0,d1,d2,d3⟩,z0,z1,z2,z3⟩:=four q0)
    |(at_builtin;have hbs:Below W.heap.size W (w4.setCell ⟨w3.heap.size,1,none⟩ (.int .i64 1)):=aaP.setCell (p:=⟨w3.heap.size,1,none⟩) (show W.heap.size<=w3.heap.size from abn) _;have hb6:Below W.heap.size W ((w4.setCell ⟨w3.heap.size,1,none⟩ (.int .i64 1)).alloc (Obj.cells #[.string ⟨nm.toArray⟩,.int .i64 1] 54 (0,0))):=hbs.alloc hbs.size _;have hxs:=uK (w':=(w4.setCell ⟨w3.heap.size,1,none⟩ (.int .i64 1)).alloc (Obj.cells #[.string ⟨nm.toArray⟩,.int .i64 1] 54 (0,0))) hown λb e=>hb6.block b (Gx b e);have Qn:=awf (w4.setCell ⟨w3.heap.size,1,none⟩ (.int .i64 1)) (Obj.cells #[.string ⟨nm.toArray⟩,.int .i64 1] 54 (0,0));have SC:(w4.setCell ⟨w3.heap.size,1,none⟩ (.int .i64 1)).heap.size=w4.heap.size:=(by first|rfl|simp);rw[SC]at Qn;refine wpList_append_lies _ rfl _ _ 26 aqT B 54 i0 WM 2 24 Tryz.underlying26 hi hz0 hz1 hz2 rfl abA (.slice aa x.1.length ca) x.1.length xs aqT hxs ⟨w4.heap.size,0,none⟩ 1 1 [.string ⟨nm.toArray⟩,.int .i64 1] aqT rfl (World.news_of_block Qn) afA abA hqm nD (avx hB hb6.size) _ rfl ?_;intro g cap w6 hown6 hgrow6 Gy SE;have hnN:∀b,W.heap.size<=b->(Value.slice aa x.1.length ca).ownBlock≠some b:=λb hb e=>by have:=Gx b e;omega
      have hsz5:=hbs.size;have hq5:∀b o,b<=W.heap.size+1->W.heap.size<=b->w4.heap[b]? =some o->w6.heap[b]? =some o:=λb o hb hb2 ho=>(hgrow6.block b (by have:=(avw.1 ho).1;simp;(try simp[World.setCell]);omega) (λe=>hnN b hb2 e.symm)).trans ((heap_alloc_old (w4.setCell ⟨w3.heap.size,1,none⟩ (.int .i64 1)) _ (by have:=(avw.1 ho).1;(try simp[World.setCell]);omega)).trans ((mZ (w:=w4) (p:=⟨w3.heap.size,1,none⟩) _ asE).trans ho));have q0':=hq5 _ _ abn (avt _) q0;have q1':=hq5 _ _ (avt _) abn q1;clear d0 d1 d2 d3 z0 z1 z2 z3;obtain⟨⟨d0,d1,d2,d3⟩,z0,z1,z2,z3⟩:=four q0';obtain⟨⟨p0,p1,p2,p3⟩,y0,y1,y2,y3⟩:=four q1'))
   all_goals (try simp only[Exit.inBlock,Exit.then])
   have hlw:W.heap.size+2<=w3.heap.size:=abn;have hx:=hS.ahc (y:=(nm,1,())) (N:=λ_=>False) hB hb6 hown hrep hown6 hgrow6 Gy SE (λb hb=>hb.elim) ⟨_,_,rfl,⟨rfl,ac2⟩,_,_,rfl,⟨rfl,abA,abA⟩,rfl⟩;have hg0:=acB Gy Gx aj8;have o0:=λn(h1:W.heap.size<=n)(h2:n<=W.heap.size+1)=>(⟨λe=>e.elim (hS.high n h1).1 id,hg0 n h1 h2,(hS.high n h1).2.2.1,(hS.high n h1).2.2.2⟩:¬(F n\/False)/\_/\_/\_);have k6:Kp B B W w6:=(Sl hB hb6).grown hB hgrow6 λb e=>(hS.fa.lt e).1;obtain⟨r9,s9,k9⟩:=acC (k:=0) (.slice (some ⟨g,0,none⟩) (x.1.length+1) cap) (.slice (some ⟨g,0,none⟩) (x.1.length+1) cap) (.slice ab x.2.1.length cb) (.int .i64 x.2.2.1) (.slice ad x.2.2.2.1.length cd) hx k6 hB o0 q1';unfold qy at r9 s9 k9;exact awT (axo rfl _ _ (W.heap.size+1) _ _ _ _ aqT r9 Tryz.underlying33 rfl abu) rfl ⟨_,_,_,_,rfl,s9,k9⟩
  .have hy2:y=(x.1++[(Sp.wordAt f 1,2,())],x.2.1,x.2.2.1,x.2.2.2.1,()):=hy.out.trans (by unfold pz;rw[h0,avp.2 h2];rfl);clear hy;have hz:=hz.1;have hw1:(Sp.wordAt f 1).length<=600:=tH hsm.2 1;have N7:=λ(w:World)(v:Value)(hv:FW w.heap.size w v f) hG=>C9 hv (i:=1) abA abA hG;have lp2:=λ(w:World)(v:Value)(hv:FW w.heap.size w v f) hG=>C9 hv (i:=2) abA abA hG;generalize Sp.wordAt f 1=nm at hw1 N7 hy2;obtain⟨k2,hk2,hk3⟩:∃k2,Hid (k2=Sp.wordAt f 2)/\k2=Sp.wordAt f 2:=⟨_,rfl,rfl⟩;rw[← hk3]at lp2 h2;clear hk3;have g2:(k2==[105,110,116])=false:=avp.2 h2;obtain⟨i0,hi,hz0,hz1,hz2⟩:=axw aiy;have hqm:x.1.length+1<=maxLen:=ac2;have nD:(x.1.length+1)*24<=140737488355328:=abn;obtain⟨xs,hown,hrep⟩:=hS.fa;have hown:W.ownsRow B 54 2 (.slice aa x.1.length ca) x.1.length xs:=hown;have hrep:∀i z,x.1[i]? =some z->aJ W.heap F bK ((xs.drop (i*2)).take 2) z:=hrep;have Gx:∀b,(Value.slice aa x.1.length ca).ownBlock=some b->b<W.heap.size:=λb e=>(hS.fa.lt e).2;subst hy2
   go_wp2_with (first
    |(go_at_call 111;refine av2 (N7 w2 _ hf2 hG2) ?_;rintro e w3 ⟨rfl,hb3⟩;have qA:=vP.trans (hb3.mono vP.size);have Ie:=(Below.refl w3.heap.size w3).alloc (avt _) (Obj.cells #[.string ⟨nm.toArray⟩,.int .i64 2] 54 (0,0));have hrow3:=awf w3 (Obj.cells #[.string ⟨nm.toArray⟩,.int .i64 2] 54 (0,0));have zZ:=qA.trans (Ie.mono qA.size);have SB:=hbase.trans (zZ.mono hbase.size);have hf3:=(hf2.keep' hb3).keep' Ie;clear N7)
    |(go_at_call 111;refine av2 (lp2 _ _ hf3 (dR hG SB)) ?_;rintro e w4 ⟨rfl,hb4⟩;have hrow4:=(hb4.block w3.heap.size acA).trans hrow3;have aqY:=Ie.size;have xK:=zZ.trans (hb4.mono zZ.size);have aaP:=hbase.trans (xK.mono hbase.size);have t0:=aQ hrow4 0;have t1:=aQ hrow4 1;have u0:=dO hrow4 0;have u1:=dO hrow4 1;have t0:w4.cell? ⟨w3.heap.size,0,none⟩=some (.string ⟨nm.toArray⟩):=t0;have t1:w4.cell? ⟨w3.heap.size,1,none⟩=some (.int .i64 2):=t1;have aoB:=qA.size;have q0:=(xK.block W.heap.size abn).trans hN0;have q1:=(xK.block (W.heap.size+1) abn).trans hN1;obtain⟨⟨d0,d1,d2,d3⟩,z0,z1,z2,z3⟩:=four q0)
    |(at_builtin;have hbs:Below W.heap.size W w4:=aaP;have hb6:Below W.heap.size W (w4.alloc (Obj.cells #[.string ⟨nm.toArray⟩,.int .i64 2] 54 (0,0))):=hbs.alloc hbs.size _;have hxs:=uK (w':=w4.alloc (Obj.cells #[.string ⟨nm.toArray⟩,.int .i64 2] 54 (0,0))) hown λb e=>hb6.block b (Gx b e);have Qn:=awf w4 (Obj.cells #[.string ⟨nm.toArray⟩,.int .i64 2] 54 (0,0));have SC:w4.heap.size=w4.heap.size:=(by first|rfl|simp);rw[SC]at Qn;refine wpList_append_lies _ rfl _ _ 26 aqT B 54 i0 WM 2 24 Tryz.underlying26 hi hz0 hz1 hz2 rfl abA (.slice aa x.1.length ca) x.1.length xs aqT hxs ⟨w4.heap.size,0,none⟩ 1 1 [.string ⟨nm.toArray⟩,.int .i64 2] aqT rfl (World.news_of_block Qn) afA abA hqm nD (avx hB hb6.size) _ rfl ?_;intro g cap w6 hown6 hgrow6 Gy SE;have hnN:∀b,W.heap.size<=b->(Value.slice aa x.1.length ca).ownBlock≠some b:=λb hb e=>by have:=Gx b e;omega
      have hsz5:=hbs.size;have hq5:∀b o,b<=W.heap.size+1->W.heap.size<=b->w4.heap[b]? =some o->w6.heap[b]? =some o:=λb o hb hb2 ho=>(hgrow6.block b (by have:=(avw.1 ho).1;simp;(try simp[World.setCell]);omega) (λe=>hnN b hb2 e.symm)).trans ((heap_alloc_old w4 _ (by have:=(avw.1 ho).1;(try simp[World.setCell]);omega)).trans ((rfl:w4.heap[b]? =w4.heap[b]?).trans ho));have q0':=hq5 _ _ abn (avt _) q0;have q1':=hq5 _ _ (avt _) abn q1;clear d0 d1 d2 d3 z0 z1 z2 z3;obtain⟨⟨d0,d1,d2,d3⟩,z0,z1,z2,z3⟩:=four q0';obtain⟨⟨p0,p1,p2,p3⟩,y0,y1,y2,y3⟩:=four q1'))
   all_goals (try simp only[Exit.inBlock,Exit.then])
   have hlw:W.heap.size+2<=w3.heap.size:=abn;have hx:=hS.ahc (y:=(nm,2,())) (N:=λ_=>False) hB hb6 hown hrep hown6 hgrow6 Gy SE (λb hb=>hb.elim) ⟨_,_,rfl,⟨rfl,ac2⟩,_,_,rfl,⟨rfl,abA,abA⟩,rfl⟩;have hg0:=acB Gy Gx aj8;have o0:=λn(h1:W.heap.size<=n)(h2:n<=W.heap.size+1)=>(⟨λe=>e.elim (hS.high n h1).1 id,hg0 n h1 h2,(hS.high n h1).2.2.1,(hS.high n h1).2.2.2⟩:¬(F n\/False)/\_/\_/\_);have k6:Kp B B W w6:=(Sl hB hb6).grown hB hgrow6 λb e=>(hS.fa.lt e).1;obtain⟨r9,s9,k9⟩:=acC (k:=0) (.slice (some ⟨g,0,none⟩) (x.1.length+1) cap) (.slice (some ⟨g,0,none⟩) (x.1.length+1) cap) (.slice ab x.2.1.length cb) (.int .i64 x.2.2.1) (.slice ad x.2.2.2.1.length cd) hx k6 hB o0 q1';unfold qy at r9 s9 k9;exact awT (axo rfl _ _ (W.heap.size+1) _ _ _ _ aqT r9 Tryz.underlying33 rfl abu) rfl ⟨_,_,_,_,rfl,s9,k9⟩
 have n1:x0≠iw:=e0;by_cases e0:x0=qm
 .have h0:Sp.wordAt f 0=qm:=hx0.out.symm.trans e0;have e0:x0=[110,101,120,116]:=e0;subst e0;clear hx0;have hy2:y=(x.1,x.2.1,Sp.numAt f 1,x.2.2.2.1,()):=hy.out.trans (by unfold pz;rw[h0];rfl);clear hy;have hno:sV (Sp.numAt f 1):=Qo _;have ln:=λ(w:World)(v:Value)(hv:FW w.heap.size w v f) hG=>X4 hv (i:=1) abA abA hG;generalize Sp.numAt f 1=n at hno ln hy2;subst hy2
  go_wp2_with (first
   |(go_at_call 112;refine av2 (ln w2 _ hf2 hG2) ?_;rintro e w3 ⟨rfl,hb3⟩;have qA:=vP.trans (hb3.mono vP.size);have aiz:=hbase.trans (qA.mono hbase.size);have q0:=(qA.block W.heap.size abn).trans hN0;have q1:=(qA.block (W.heap.size+1) abn).trans hN1;obtain⟨⟨d0,d1,d2,d3⟩,z0,z1,z2,z3⟩:=four q0;obtain⟨⟨p0,p1,p2,p3⟩,y0,y1,y2,y3⟩:=four q1))
  all_goals (try simp only[Exit.inBlock,Exit.then])
  have q9:=(mZ (w:=w3) (p:=⟨W.heap.size,2,none⟩) (b:=W.heap.size+1) (.int .i64 n) (by show W.heap.size+1≠W.heap.size;omega)).trans q1;have b9:=qH (y0:=.slice aa x.1.length ca) (y1:=.slice ab x.2.1.length cb) (y2:=.int .i64 n) (y3:=.slice ad x.2.2.2.1.length cd) (aiz.setCell (p:=⟨W.heap.size,2,none⟩) (avt _) (.int .i64 n)) (show W.heap.size<=W.heap.size+1 from abn);have r9:=uI (y0:=.slice aa x.1.length ca) (y1:=.slice ab x.2.1.length cb) (y2:=.int .i64 n) (y3:=.slice ad x.2.2.2.1.length cd) q9;have s9:=(hS.next hno).below b9;have k9:=Sl hB b9;unfold qy at r9 s9 k9;exact awT (axo rfl _ _ (W.heap.size+1) _ _ _ _ aqT r9 Tryz.underlying33 rfl abu) rfl ⟨_,_,_,_,rfl,s9,k9⟩
 have n2:x0≠qm:=e0;by_cases e0:x0=kC
 .have h0:Sp.wordAt f 0=kC:=hx0.out.symm.trans e0;have e0:x0=[102,105,108,101]:=e0;subst e0;clear hx0;have hy2:y=(x.1,x.2.1++[Dc (Sp.numAt f 1) (f.drop 2)],x.2.2.1,x.2.2.2.1,()):=hy.out.trans (by unfold pz;rw[h0];rfl);clear hy;have hz:=hz.2.1;rw[aoA]at hy2;have hw3:(Sp.wordAt f 3).length<=600:=tH hsm.2 3;have lp3:=λ(w:World)(v:Value)(hv:FW w.heap.size w v f) hG=>C9 hv (i:=3) abA abA hG;have ln1:=λ(w:World)(v:Value)(hv:FW w.heap.size w v f) hG=>X4 hv (i:=1) abA abA hG;have ln2:=λ(w:World)(v:Value)(hv:FW w.heap.size w v f) hG=>X4 hv (i:=2) abA abA hG;have ln4:=λ(w:World)(v:Value)(hv:FW w.heap.size w v f) hG=>X4 hv (i:=4) abA abA hG;have hn1:sV (Sp.numAt f 1):=Qo _;have hn2:sV (Sp.numAt f 2):=Qo _;have hn4:sV (Sp.numAt f 4):=Qo _;generalize Sp.numAt f 1=n1 at ln1 hn1 hy2;generalize Sp.numAt f 2=n2 at ln2 hn2 hy2;generalize Sp.numAt f 4=n4 at ln4 hn4 hy2;generalize Sp.wordAt f 3=s3 at lp3 hw3 hy2;obtain⟨sh,hsh⟩:∃sh,(s3==[115])=sh:=⟨_,rfl⟩;rw[hsh]at hy2;generalize hA:iL (f.drop 5)=A at hy2;obtain⟨i0,hi,hz0,hz1,hz2⟩:=axw anl;obtain⟨i1,hi1,hz3,hz4,hz5⟩:=axw infoAt;have hqm:x.2.1.length+1<=maxLen:=ac2;have nD:(x.2.1.length+1)*56<=140737488355328:=abn;obtain⟨xs,hown,hrep⟩:=hS.fl;have hown:W.ownsRow B 51 5 (.slice ab x.2.1.length cb) x.2.1.length xs:=hown;have hrep:∀i z,x.2.1[i]? =some z->aJ W.heap F dI ((xs.drop (i*5)).take 5) z:=hrep;have Gx:∀b,(Value.slice ab x.2.1.length cb).ownBlock=some b->b<W.heap.size:=λb e=>(hS.fl.lt e).2;have au0:=hsm.1;subst hy2
  go_wp2_with (first
   |(go_at_call 112;refine av2 (ln1 w2 _ hf2 hG2) ?_;rintro e w3 ⟨rfl,hb3⟩;have qA:=vP.trans (hb3.mono vP.size);have hf3:=hf2.keep' hb3;have aiz:=hbase.trans (qA.mono hbase.size);have hG3:=dR hG aiz;clear ln1)
   |(go_at_call 112;refine av2 (ln2 w3 _ hf3 hG3) ?_;rintro e w4 ⟨rfl,hb4⟩;have zZ:=qA.trans (hb4.mono qA.size);have hf4:=hf3.keep' hb4;have SB:=hbase.trans (zZ.mono hbase.size);have hG4:=dR hG SB;clear ln2)
   |(go_at_call 111;refine av2 (lp3 w4 _ hf4 hG4) ?_;rintro e w5 ⟨rfl,hb5⟩;have xK:=zZ.trans (hb5.mono zZ.size);have hf5:=hf4.keep' hb5;have aaP:=hbase.trans (xK.mono hbase.size);have hG5:=dR hG aaP;clear lp3)
   |(go_at_call 112;refine av2 (ln4 w5 _ hf5 hG5) ?_;rintro e w6 ⟨rfl,hb6⟩;have hb16:=xK.trans (hb6.mono xK.size);have Ql:=hf5.keep' hb6;have aoC:=hbase.trans (hb16.mono hbase.size);have hG6:=dR hG aoC;clear ln4))
  have au1:=hb16.size
  go_loopw [9] (λi wr=>∃(m:Nat)(al:List bg)(vt:Value),i=.int .i64 (m:Int)/\AtM f A m al/\wr.heap[w6.heap.size]? =some (.cells #[.int .i64 n1,.int .i64 n2,.bool sh,.int .i64 n4,vt] 51 (0,0))/\
   OL wr (w6.heap.size+1) (λ_=>False) 102 fP vt al/\Below w6.heap.size w6 wr/\w6.heap.size+1<=wr.heap.size)
   (λi _=>f.length-(intOf i).toNat)
  case atStart=>exact⟨5,[],.slice none 0 0,rfl,⟨.inl rfl,rfl,hA⟩,awf w6 _,OL.nil,(Below.refl _ w6).alloc (avt _) _,acA⟩
  case round=>
   obtain⟨m,al,vt,rfl,hat,hrow,hOL,hbr,hsr⟩:=hrel;have aoD:=hb16.trans (hbr.mono hb16.size);have ahd:=hbase.trans (aoD.mono hbase.size);have hGr:G.ok wr:=dR hG ahd;have hfr:=Ql.keep' hbr;rcases avN m f.length with hlt|hge
   .have hlt':((m:Nat):Int)<f.length:=abn;have hnx:=hat.step hlt;have auN:al.length<=24:=by have:=hat.ln;omega
    clear hat;have lpm:=C9 hfr (i:=(m:Int)+1) abn abn hGr;have hwm:(Sp.wordAt f ((m:Int)+1)).length<=600:=tH hsm.2 _;have hkm:(f.getD m ([],())).1.length<=600:=hsm.2 _ (getD_mem hlt);obtain⟨b2,o2,rfl,hbl,cw⟩:=FW.cell hfr hlt;generalize (f.getD m ([],())).1=am at hnx hkm cw;generalize Sp.wordAt f ((m:Int)+1)=vm at hnx hwm lpm;have pv:=λw hG=>aor vm abn w hG;generalize aZ vm=z at hnx pv;obtain⟨⟨k,vi,vs,⟨⟩⟩,ok⟩:=z;dsimp only at pv
    go_wp2_with (first
     |(go_at_call 111;refine av2 lpm ?_;rintro e w7 ⟨rfl,hb7⟩;have atG:=ahd.trans (hb7.mono ahd.size))
     |(go_at_call 113;refine av2 (pv w7 (dR hG atG)) ?_;rintro e w8 ⟨rfl,hb8,p1,p2,p3⟩))
    have hs7:=hb7.size;have hs8:=hb8.size;have aq3:=hb7.trans (hb8.mono hs7);have ahe:=awf w8 (Obj.cells #[.int .i64 k,.int .i64 vi,.string ⟨vs.toArray⟩] 81 (0,0));have aoE:Below w8.heap.size w8 (w8.alloc (Obj.cells #[.int .i64 k,.int .i64 vi,.string ⟨vs.toArray⟩] 81 (0,0))):=(Below.refl _ w8).alloc (avt _) _;generalize w8.alloc (Obj.cells #[.int .i64 k,.int .i64 vi,.string ⟨vs.toArray⟩] 81 (0,0))=w9 at ahe aoE ⊢;have hs9:=aoE.size;have aiA:=aq3.trans (aoE.mono aq3.size);have hbox:=(aiA.block w6.heap.size abn).trans hrow;have uM:w6.heap.size<w9.heap.size:=(avw.1 hbox).1;have e4:w9.cell? ⟨w6.heap.size,4,none⟩=some vt:=aQ hbox 4;have v0:w9.cell? ⟨w8.heap.size,0,none⟩=some (.int .i64 k):=aQ ahe 0;have v1:w9.cell? ⟨w8.heap.size,1,none⟩=some (.int .i64 vi):=aQ ahe 1;have v2:w9.cell? ⟨w8.heap.size,2,none⟩=some (.string ⟨vs.toArray⟩):=aQ ahe 2;have cw9:w9.cell? ⟨b2,o2+m,none⟩=some (.string ⟨am.toArray⟩):=(aw3 (a:=⟨b2,o2+m,none⟩) (aiA.block b2 hbl)).trans cw;have hlt0:∀b,vt.ownBlock=some b->w6.heap.size+1<=b/\b<wr.heap.size:=λb e=>hOL.lt e;obtain⟨ys,hownA,alS⟩:=hOL;have hownA:wr.ownsRow (w6.heap.size+1) 102 4 vt al.length ys:=hownA;have alS:∀i z,al[i]? =some z->aJ wr.heap (λ_=>False) fP ((ys.drop (i*4)).take 4) z:=alS;have asq:w9.ownsRow (w6.heap.size+1) 102 4 vt al.length ys:=uK hownA λb e=>aiA.block b (hlt0 b e).2;have hnB:vt.ownBlock≠some w6.heap.size:=λe=>by have:=(hlt0 _ e).1;omega
    have atH:al.length+1<=maxLen:=ac2;have atI:(al.length+1)*48<=140737488355328:=abn
    go_region_law (refine step_append_lies _ rfl (.tmp 70) (.tmp 77) 49 rfl (w6.heap.size+1) 102 i1 zeroAt 4 48 Tryz.underlying49 hi1 hz3 hz4 hz5 rfl abA vt al.length ys ac7 ((axs asq).alloc _) ⟨w9.heap.size,0,none⟩ 1 1 [.string ⟨am.toArray⟩,.int .i64 k,.int .i64 vi,.string ⟨vs.toArray⟩] ac7 rfl (World.news_of_block (awf _ _)) (by intro u hu;simp at hu;rcases hu with rfl|rfl|rfl|rfl<;>rfl) abA atH atI adK _ rfl ?_;intro g cap w10 aq4 aeJ auO auP;have aoF:=(aeJ.block w6.heap.size adK (λe=>hnB e.symm)).trans ((heap_alloc_old w9.drew _ uM).trans hbox);have k10:w10.cell? ⟨w6.heap.size,4,none⟩=some vt:=aQ aoF 4;have z10:=dO aoF 4)
    all_goals go_wp2
    all_goals
     have hbd:Below w9.heap.size w9 (w9.drew.alloc (Obj.cells #[.string ⟨am.toArray⟩,.int .i64 k,.int .i64 vi,.string ⟨vs.toArray⟩] 102 (0,0))):=((Below.refl _ w9).drew).alloc (avt _) _;have hb0:Below w6.heap.size w6 (w9.drew.alloc (Obj.cells #[.string ⟨am.toArray⟩,.int .i64 k,.int .i64 vi,.string ⟨vs.toArray⟩] 102 (0,0))):=hbr.trans ((aiA.trans (hbd.mono aiA.size)).mono hbr.size);have atJ:=below_grown hb0 aeJ (avt _) λb e=>Nat.le_of_succ_le (hlt0 b e).1;have atK:=atJ.setCell (p:=⟨w6.heap.size,4,none⟩) (avt _) (.slice (some ⟨g,0,none⟩) (al.length+1) cap);have hO:OL w10 (w6.heap.size+1) (λ_=>False) 102 fP (.slice (some ⟨g,0,none⟩) (al.length+1) cap) (al++[(am,k,vi,vs,())]):=OL.push (r:=fP) (F:=λ_=>False) alS hownA.1 aq4 (λb hb=>hb.elim) ⟨_,_,rfl,⟨rfl,ac2⟩,_,_,rfl,⟨rfl,p1⟩,_,_,rfl,⟨rfl,p2⟩,_,_,rfl,⟨rfl,p3⟩,rfl⟩;have hO2:OL (w10.setCell ⟨w6.heap.size,4,none⟩ (.slice (some ⟨g,0,none⟩) (al.length+1) cap)) (w6.heap.size+1) (λ_=>False) 102 fP (.slice (some ⟨g,0,none⟩) (al.length+1) cap) (al++[(am,k,vi,vs,())]):=hO.keep (λb e=>mZ _ (by have:=(hO.lt e).1;show b≠w6.heap.size;omega)) λb hb=>hb.elim;exact⟨⟨m+2,_,_,by go_num,hnx,gJ aoF 4 _,hO2,atK,by have:=aeJ.size;simp[World.setCell]at this ⊢;omega⟩,by simp only[intOf];omega⟩
   .have hge':¬((m:Nat):Int)<f.length:=abn;obtain rfl:=hat.done hge;clear hA hat;obtain⟨ac,cc,rfl⟩:=hOL.form;have q0:=(aoD.block W.heap.size abn).trans hN0;have q1:=(aoD.block (W.heap.size+1) abn).trans hN1;obtain⟨⟨d0,d1,d2,d3⟩,z0,z1,z2,z3⟩:=four q0;have e0:wr.cell? ⟨w6.heap.size,0,none⟩=some (.int .i64 n1):=aQ hrow 0;have e1:wr.cell? ⟨w6.heap.size,1,none⟩=some (.int .i64 n2):=aQ hrow 1;have e2:wr.cell? ⟨w6.heap.size,2,none⟩=some (.bool sh):=aQ hrow 2;have e3:wr.cell? ⟨w6.heap.size,3,none⟩=some (.int .i64 n4):=aQ hrow 3;have e4:wr.cell? ⟨w6.heap.size,4,none⟩=some (.slice ac A.length cc):=aQ hrow 4
    go_wp2_with (first
     |(at_builtin;have hbs:Below W.heap.size W wr:=ahd;have hb7:Below W.heap.size W (wr.alloc (Obj.cells #[.int .i64 n1,.int .i64 n2,.bool sh,.int .i64 n4,.slice ac A.length cc] 51 (0,0))):=hbs.alloc hbs.size _;have hxs:=uK (w':=wr.alloc (Obj.cells #[.int .i64 n1,.int .i64 n2,.bool sh,.int .i64 n4,.slice ac A.length cc] 51 (0,0))) hown λb e=>hb7.block b (Gx b e);have Qn:=awf wr (Obj.cells #[.int .i64 n1,.int .i64 n2,.bool sh,.int .i64 n4,.slice ac A.length cc] 51 (0,0));refine wpList_append_lies _ rfl _ _ 27 aqT B 51 i0 aiB 5 56 Tryz.underlying27 hi hz0 hz1 hz2 rfl abA (.slice ab x.2.1.length cb) x.2.1.length xs aqT hxs ⟨wr.heap.size,0,none⟩ 1 1 [.int .i64 n1,.int .i64 n2,.bool sh,.int .i64 n4,.slice ac A.length cc] aqT rfl (World.news_of_block Qn) (by intro u hu;simp at hu;rcases hu with rfl|rfl|rfl|rfl|rfl<;>rfl) abA hqm nD (avx hB hb7.size) _ rfl ?_;intro g cap w7 hown6 hgrow6 Gy SE;have hnN:∀b,W.heap.size<=b->(Value.slice ab x.2.1.length cb).ownBlock≠some b:=λb hb e=>(by have:=Gx b e;omega);have hsz5:=hbs.size;have hq5:∀b o,b<=W.heap.size+1->W.heap.size<=b->wr.heap[b]? =some o->w7.heap[b]? =some o:=λb o hb hb2 ho=>(hgrow6.block b (by have:=(avw.1 ho).1;simp;omega) (λe=>hnN b hb2 e.symm)).trans ((heap_alloc_old wr _ (avw.1 ho).1).trans ho);have q0':=hq5 _ _ abn (avt _) q0;have q1':=hq5 _ _ (avt _) abn q1;clear d0 d1 d2 d3 z0 z1 z2 z3;obtain⟨⟨d0,d1,d2,d3⟩,z0,z1,z2,z3⟩:=four q0';obtain⟨⟨p0,p1,p2,p3⟩,y0',y1',y2',y3'⟩:=four q1'))
    all_goals (try simp only[Exit.inBlock,Exit.then])
    have hlw:W.heap.size+2<=w6.heap.size:=abn;have hlt0:∀b,(Value.slice ac A.length cc).ownBlock=some b->w6.heap.size+1<=b/\b<wr.heap.size:=λb e=>hOL.lt e;have hx:=hS.apx (y:=(n1,n2,sh,n4,A,())) (N:=λb=>(Value.slice ac A.length cc).ownBlock=some b) hB hb7 hown hrep hown6 hgrow6 Gy SE (λb hb=>⟨by have:=(hlt0 b hb).1;omega,by have:=(hlt0 b hb).2;simp;omega⟩)
     ⟨_,_,rfl,⟨rfl,hn1⟩,_,_,rfl,⟨rfl,hn2⟩,_,_,rfl,rfl,_,_,rfl,⟨rfl,hn4⟩,_,_,rfl,cZ.mono (λb hb=>⟨hb,heap_alloc_old wr _ (hlt0 b hb).2⟩) _ _ _ (hOL.rep abA (S:=λb=>(Value.slice ac A.length cc).ownBlock=some b) λb hb=>hb.elim False.elim id),rfl⟩
    have hg0:=acB Gy Gx (by have:=(avw.1 q1).1;simp;omega);have o0:=λn(h1:W.heap.size<=n)(h2:n<=W.heap.size+1)=>(⟨λe=>e.elim (hS.high n h1).1 (λe=>by have:=(hlt0 n e).1;omega),(hS.high n h1).2.1,hg0 n h1 h2,(hS.high n h1).2.2.2⟩:¬(F n\/(Value.slice ac A.length cc).ownBlock=some n)/\_/\_/\_);have k6:Kp B B W w7:=(Sl hB hb7).grown hB hgrow6 λb e=>(hS.fl.lt e).1;obtain⟨r9,s9,k9⟩:=acC (k:=1) (.slice (some ⟨g,0,none⟩) (x.2.1.length+1) cap) (.slice aa x.1.length ca) (.slice (some ⟨g,0,none⟩) (x.2.1.length+1) cap) (.int .i64 x.2.2.1) (.slice ad x.2.2.2.1.length cd) hx k6 hB o0 q1';unfold qy at r9 s9 k9;exact awT (axo rfl _ _ (W.heap.size+1) _ _ _ _ aqT r9 Tryz.underlying33 rfl abu) rfl ⟨_,_,_,_,rfl,s9,k9⟩
 have n3:x0≠kC:=e0;by_cases e0:x0=jY
 .have h0:Sp.wordAt f 0=jY:=hx0.out.symm.trans e0;have e0:x0=[100,105,114]:=e0;subst e0;clear hx0;by_cases h2:2<f.length
  .have hy2:y=(x.1,x.2.1,x.2.2.1,x.2.2.2.1++[(Sp.wordAt f 1,fU (gy (f.drop 2)),())],()):=hy.out.trans (by unfold pz;rw[h0,avD (show(2:Int)<(f.length:Int)from abn)];rfl);clear hy;have hz:=hz.2.2.2.1;have hw1:(Sp.wordAt f 1).length<=600:=tH hsm.2 1;have N7:=λ(w:World)(v:Value)(hv:FW w.heap.size w v f) hG=>C9 hv (i:=1) abA abA hG;generalize Sp.wordAt f 1=nm at hw1 N7 hy2;obtain⟨y0,y1,r,rfl,hr⟩:∃y0 y1 r,f=y0::y1::r/\0<r.length:=by
    match f,h2 with
    |y0::y1::r,h=>exact⟨y0,y1,r,rfl,by simp at h;omega⟩
    |[_],h=>exact absurd h acA
    |[],h=>exact absurd h acA
   obtain⟨hs1,hs2⟩:=hsm;have hrl:r.length<=24:=by rw[avq,avq]at hs1;omega
   have hj:(gy r).length<=24*601:=avx (aaQ (m:=600) λy hy=>hs2 y (avy _ (avy _ hy))) (avO _ hrl);rw[show(y0::y1::r).drop 2=r from rfl]at hy2;have hf1:FW w1.heap.size w1 (.slice a1 (r.length+2) c1) (y0::y1::r):=hf1;obtain⟨b2,o2,e2,-,-⟩:=FW.cell (a:=a1) (c:=c1) (f:=y0::y1::r) hf1 (n:=0) acA;subst e2;obtain⟨hc2,ht1⟩:=hf1.apy hr;have ht2:=ht1.keep' hb2;have lj:=λ(w:World)(v:Value)(hv:FW w.heap.size w v r) hG=>ap7 v r w hv abn abn hG;generalize gy r=t at lj hj hy2;have pq:=λw hG=>aos t abn w hG;generalize fU t=q at pq hy2;generalize gB t=ok at pq;have hlt2:(2:Int)<(r.length:Int)+2:=abn;have hlt3:(2:Int)<(r.length:Int)+1+1:=abn;obtain⟨i0,hi,hz0,hz1,hz2⟩:=axw aiC;have hqm:x.2.2.2.1.length+1<=maxLen:=ac2;have nD:(x.2.2.2.1.length+1)*40<=140737488355328:=abn;obtain⟨xs,hown,hrep⟩:=hS.fd;have hown:W.ownsRow B 93 2 (.slice ad x.2.2.2.1.length cd) x.2.2.2.1.length xs:=hown;have hrep:∀i z,x.2.2.2.1[i]? =some z->aJ W.heap F dA ((xs.drop (i*2)).take 2) z:=hrep;have Gx:∀b,(Value.slice ad x.2.2.2.1.length cd).ownBlock=some b->b<W.heap.size:=λb e=>(hS.fd.lt e).2;subst hy2
   go_wp2_with (first
    |(go_at_call 111;refine av2 (N7 w2 _ hf2 hG2) ?_;rintro e w3 ⟨rfl,hb3⟩;have qA:=vP.trans (hb3.mono vP.size);have aoB:=qA.size;have Ie:=(Below.refl w3.heap.size w3).alloc (avt _) (Obj.cells #[.string ⟨nm.toArray⟩,.slice none 0 0] 93 (0,0));have hrow3:=awf w3 (Obj.cells #[.string ⟨nm.toArray⟩,.slice none 0 0] 93 (0,0));have zZ:=qA.trans (Ie.mono qA.size);have SB:=hbase.trans (zZ.mono hbase.size);have ht3:=(ht2.keep' hb3).keep' Ie;clear N7)
    |(go_at_call 115;refine av2 (lj _ _ ht3 (dR hG SB)) ?_;rintro e w4 ⟨rfl,hb4⟩;have xK:=zZ.trans (hb4.mono zZ.size);have aaP:=hbase.trans (xK.mono hbase.size);have aqY:=Ie.size;have au2:=hb4.size;have atL:(w3.alloc (Obj.cells #[.string ⟨nm.toArray⟩,.slice none 0 0] 93 (0,0))).heap.size=w3.heap.size+1:=acA)
    |(go_at_call 114;refine av2 (pq w4 (dR hG aaP)) ?_;rintro e w5 ⟨a6,c6,rfl,hb5,hra⟩;have atM:=hb4.trans (hb5.mono hb4.size);have qh:=(atM.block w3.heap.size acA).trans hrow3;have hb16:=xK.trans (hb5.mono xK.size);have aoC:=hbase.trans (hb16.mono hbase.size);have au3:=hb5.size;have t0:=aQ qh 0;have t1:=aQ qh 1;have u0:=dO qh 0;have u1:=dO qh 1;have t0:w5.cell? ⟨w3.heap.size,0,none⟩=some (.string ⟨nm.toArray⟩):=t0;have t1:w5.cell? ⟨w3.heap.size,1,none⟩=some (.slice none 0 0):=t1;have q0:=(hb16.block W.heap.size abn).trans hN0;have q1:=(hb16.block (W.heap.size+1) abn).trans hN1;obtain⟨⟨d0,d1,d2,d3⟩,z0,z1,z2,z3⟩:=four q0)
    |(at_builtin;have hbs:Below W.heap.size W (w5.setCell ⟨w3.heap.size,1,none⟩ (.slice a6 q.length c6)):=aoC.setCell (p:=⟨w3.heap.size,1,none⟩) (show W.heap.size<=w3.heap.size from abn) _;have hb7:Below W.heap.size W ((w5.setCell ⟨w3.heap.size,1,none⟩ (.slice a6 q.length c6)).alloc (Obj.cells #[.string ⟨nm.toArray⟩,.slice a6 q.length c6] 93 (0,0))):=hbs.alloc hbs.size _;have hxs:=uK (w':=(w5.setCell ⟨w3.heap.size,1,none⟩ (.slice a6 q.length c6)).alloc (Obj.cells #[.string ⟨nm.toArray⟩,.slice a6 q.length c6] 93 (0,0))) hown λb e=>hb7.block b (Gx b e);have Qn:=awf (w5.setCell ⟨w3.heap.size,1,none⟩ (.slice a6 q.length c6)) (Obj.cells #[.string ⟨nm.toArray⟩,.slice a6 q.length c6] 93 (0,0));have SC:(w5.setCell ⟨w3.heap.size,1,none⟩ (.slice a6 q.length c6)).heap.size=w5.heap.size:=(by first|rfl|simp);rw[SC]at Qn;refine wpList_append_lies _ rfl _ _ 31 aqT B 93 i0 acH 2 40 Tryz.underlying31 hi hz0 hz1 hz2 rfl abA (.slice ad x.2.2.2.1.length cd) x.2.2.2.1.length xs aqT hxs ⟨w5.heap.size,0,none⟩ 1 1 [.string ⟨nm.toArray⟩,.slice a6 q.length c6] aqT rfl (World.news_of_block Qn) afA abA hqm nD (avx hB hb7.size) _ rfl ?_;intro g cap w6 hown6 hgrow6 Gy SE;have hnN:∀b,W.heap.size<=b->(Value.slice ad x.2.2.2.1.length cd).ownBlock≠some b:=λb hb e=>(by have:=Gx b e;omega);have hsz5:=hbs.size;have hq5:∀b o,b<=W.heap.size+1->W.heap.size<=b->w5.heap[b]? =some o->w6.heap[b]? =some o:=λb o hb hb2 ho=>(hgrow6.block b (by have:=(avw.1 ho).1;simp;(try simp[World.setCell]);(try simp at this);omega) (λe=>hnN b hb2 e.symm)).trans ((heap_alloc_old (w5.setCell ⟨w3.heap.size,1,none⟩ (.slice a6 q.length c6)) _ (by have:=(avw.1 ho).1;(try simp[World.setCell]);(try simp at this);omega)).trans ((mZ (w:=w5) (p:=⟨w3.heap.size,1,none⟩) _ asE).trans ho));have q0':=hq5 _ _ abn (avt _) q0;have q1':=hq5 _ _ (avt _) abn q1;clear d0 d1 d2 d3 z0 z1 z2 z3;obtain⟨⟨d0,d1,d2,d3⟩,z0,z1,z2,z3⟩:=four q0';obtain⟨⟨p0,p1,p2,p3⟩,y0',y1',y2',y3'⟩:=four q1'))
   all_goals (try simp only[Exit.inBlock,Exit.then])
   have hlw:W.heap.size+2<=w3.heap.size:=abn;have hx:=hS.alT (y:=(nm,q,())) (N:=λb=>w4.heap.size<=b/\b<w5.heap.size) hB hb7 hown hrep hown6 hgrow6 Gy SE (λb hb=>⟨abn,by have:=hb.2;simp[World.setCell];omega⟩) ⟨_,_,rfl,⟨rfl,ac2⟩,_,_,rfl,cZ.mono (λb hb=>⟨hb,(heap_alloc_old (w5.setCell ⟨w3.heap.size,1,none⟩ (.slice a6 q.length c6)) _ (by simp[World.setCell];exact hb.2)).trans (mZ _ asE)⟩) _ _ _ hra,rfl⟩;have hg0:=acB Gy Gx aj8;have o0:=λn(h1:W.heap.size<=n)(h2:n<=W.heap.size+1)=>(⟨λe=>e.elim (hS.high n h1).1 (λe=>by have:=e.1;omega),(hS.high n h1).2.1,(hS.high n h1).2.2.1,hg0 n h1 h2⟩:¬(F n\/(w4.heap.size<=n/\n<w5.heap.size))/\_/\_/\_);have k6:Kp B B W w6:=(Sl hB hb7).grown hB hgrow6 λb e=>(hS.fd.lt e).1;obtain⟨r9,s9,k9⟩:=acC (k:=3) (.slice (some ⟨g,0,none⟩) (x.2.2.2.1.length+1) cap) (.slice aa x.1.length ca) (.slice ab x.2.1.length cb) (.int .i64 x.2.2.1) (.slice (some ⟨g,0,none⟩) (x.2.2.2.1.length+1) cap) hx k6 hB o0 q1';unfold qy at r9 s9 k9;exact awT (axo rfl _ _ (W.heap.size+1) _ _ _ _ aqT r9 Tryz.underlying33 rfl abu) rfl ⟨_,_,_,_,rfl,s9,k9⟩
  .have h2:¬(2:Int)<(f.length:Int):=abn;have hy2:y=(x.1,x.2.1,x.2.2.1,x.2.2.2.1++[(Sp.wordAt f 1,[],())],()):=hy.out.trans (by unfold pz;rw[h0,avH h2];rfl);clear hy;have hz:=hz.2.2.2.1;have hw1:(Sp.wordAt f 1).length<=600:=tH hsm.2 1;have N7:=λ(w:World)(v:Value)(hv:FW w.heap.size w v f) hG=>C9 hv (i:=1) abA abA hG;generalize Sp.wordAt f 1=nm at hw1 N7 hy2;obtain⟨i0,hi,hz0,hz1,hz2⟩:=axw aiC;have hqm:x.2.2.2.1.length+1<=maxLen:=ac2;have nD:(x.2.2.2.1.length+1)*40<=140737488355328:=abn;obtain⟨xs,hown,hrep⟩:=hS.fd;have hown:W.ownsRow B 93 2 (.slice ad x.2.2.2.1.length cd) x.2.2.2.1.length xs:=hown;have hrep:∀i z,x.2.2.2.1[i]? =some z->aJ W.heap F dA ((xs.drop (i*2)).take 2) z:=hrep;have Gx:∀b,(Value.slice ad x.2.2.2.1.length cd).ownBlock=some b->b<W.heap.size:=λb e=>(hS.fd.lt e).2;subst hy2
   go_wp2_with (first
    |(go_at_call 111;refine av2 (N7 w2 _ hf2 hG2) ?_;rintro e w3 ⟨rfl,hb3⟩;have qA:=vP.trans (hb3.mono vP.size);have aoB:=qA.size;have Ie:=(Below.refl w3.heap.size w3).alloc (avt _) (Obj.cells #[.string ⟨nm.toArray⟩,.slice none 0 0] 93 (0,0));have hrow3:=awf w3 (Obj.cells #[.string ⟨nm.toArray⟩,.slice none 0 0] 93 (0,0));have zZ:=qA.trans (Ie.mono qA.size);have SB:=hbase.trans (zZ.mono hbase.size);have atL:(w3.alloc (Obj.cells #[.string ⟨nm.toArray⟩,.slice none 0 0] 93 (0,0))).heap.size=w3.heap.size+1:=acA;have t0:=aQ hrow3 0;have t1:=aQ hrow3 1;have u0:=dO hrow3 0;have u1:=dO hrow3 1;have t0:(w3.alloc (Obj.cells #[.string ⟨nm.toArray⟩,.slice none 0 0] 93 (0,0))).cell? ⟨w3.heap.size,0,none⟩=some (.string ⟨nm.toArray⟩):=t0;have t1:(w3.alloc (Obj.cells #[.string ⟨nm.toArray⟩,.slice none 0 0] 93 (0,0))).cell? ⟨w3.heap.size,1,none⟩=some (.slice none 0 0):=t1;have q0:=(zZ.block W.heap.size abn).trans hN0;have q1:=(zZ.block (W.heap.size+1) abn).trans hN1;obtain⟨⟨d0,d1,d2,d3⟩,z0,z1,z2,z3⟩:=four q0)
    |(at_builtin;have hbs:Below W.heap.size W (w3.alloc (Obj.cells #[.string ⟨nm.toArray⟩,.slice none 0 0] 93 (0,0))):=SB;have hb7:Below W.heap.size W ((w3.alloc (Obj.cells #[.string ⟨nm.toArray⟩,.slice none 0 0] 93 (0,0))).alloc (Obj.cells #[.string ⟨nm.toArray⟩,.slice none 0 0] 93 (0,0))):=hbs.alloc hbs.size _;have hxs:=uK (w':=(w3.alloc (Obj.cells #[.string ⟨nm.toArray⟩,.slice none 0 0] 93 (0,0))).alloc (Obj.cells #[.string ⟨nm.toArray⟩,.slice none 0 0] 93 (0,0))) hown λb e=>hb7.block b (Gx b e);have Qn:=awf (w3.alloc (Obj.cells #[.string ⟨nm.toArray⟩,.slice none 0 0] 93 (0,0))) (Obj.cells #[.string ⟨nm.toArray⟩,.slice none 0 0] 93 (0,0));have SC:(w3.alloc (Obj.cells #[.string ⟨nm.toArray⟩,.slice none 0 0] 93 (0,0))).heap.size=w3.heap.size+1:=(by first|rfl|simp);rw[SC]at Qn;refine wpList_append_lies _ rfl _ _ 31 aqT B 93 i0 acH 2 40 Tryz.underlying31 hi hz0 hz1 hz2 rfl abA (.slice ad x.2.2.2.1.length cd) x.2.2.2.1.length xs aqT hxs ⟨w3.heap.size+1,0,none⟩ 1 1 [.string ⟨nm.toArray⟩,.slice none 0 0] aqT rfl (World.news_of_block Qn) afA abA hqm nD (avx hB hb7.size) _ rfl ?_;intro g cap w6 hown6 hgrow6 Gy SE;have hnN:∀b,W.heap.size<=b->(Value.slice ad x.2.2.2.1.length cd).ownBlock≠some b:=λb hb e=>(by have:=Gx b e;omega);have hsz5:=hbs.size;have hq5:∀b o,b<=W.heap.size+1->W.heap.size<=b->(w3.alloc (Obj.cells #[.string ⟨nm.toArray⟩,.slice none 0 0] 93 (0,0))).heap[b]? =some o->w6.heap[b]? =some o:=λb o hb hb2 ho=>(hgrow6.block b (by have:=(avw.1 ho).1;simp;(try simp[World.setCell]);(try simp at this);omega) (λe=>hnN b hb2 e.symm)).trans ((heap_alloc_old (w3.alloc (Obj.cells #[.string ⟨nm.toArray⟩,.slice none 0 0] 93 (0,0))) _ (by have:=(avw.1 ho).1;(try simp[World.setCell]);(try simp at this);omega)).trans ((rfl:(w3.alloc (Obj.cells #[.string ⟨nm.toArray⟩,.slice none 0 0] 93 (0,0))).heap[b]? =(w3.alloc (Obj.cells #[.string ⟨nm.toArray⟩,.slice none 0 0] 93 (0,0))).heap[b]?).trans ho));have q0':=hq5 _ _ abn (avt _) q0;have q1':=hq5 _ _ (avt _) abn q1;clear d0 d1 d2 d3 z0 z1 z2 z3;obtain⟨⟨d0,d1,d2,d3⟩,z0,z1,z2,z3⟩:=four q0';obtain⟨⟨p0,p1,p2,p3⟩,y0',y1',y2',y3'⟩:=four q1'))
   all_goals (try simp only[Exit.inBlock,Exit.then])
   have hlw:W.heap.size+2<=w3.heap.size:=abn;have hx:=hS.alT (y:=(nm,[],())) (N:=λ_=>False) hB hb7 hown hrep hown6 hgrow6 Gy SE (λb hb=>hb.elim) ⟨_,_,rfl,⟨rfl,ac2⟩,_,_,rfl,⟨avM _,.inl ⟨rfl,none,0,rfl⟩⟩,rfl⟩;have hg0:=acB Gy Gx aj8;have o0:=λn(h1:W.heap.size<=n)(h2:n<=W.heap.size+1)=>(⟨λe=>e.elim (hS.high n h1).1 id,(hS.high n h1).2.1,(hS.high n h1).2.2.1,hg0 n h1 h2⟩:¬(F n\/False)/\_/\_/\_);have k6:Kp B B W w6:=(Sl hB hb7).grown hB hgrow6 λb e=>(hS.fd.lt e).1;obtain⟨r9,s9,k9⟩:=acC (k:=3) (.slice (some ⟨g,0,none⟩) (x.2.2.2.1.length+1) cap) (.slice aa x.1.length ca) (.slice ab x.2.1.length cb) (.int .i64 x.2.2.1) (.slice (some ⟨g,0,none⟩) (x.2.2.2.1.length+1) cap) hx k6 hB o0 q1';unfold qy at r9 s9 k9;exact awT (axo rfl _ _ (W.heap.size+1) _ _ _ _ aqT r9 Tryz.underlying33 rfl abu) rfl ⟨_,_,_,_,rfl,s9,k9⟩
 have hy2:x=y:=(hy.out.trans (by unfold pz;rw[← hx0.out,avp.2 n1,avp.2 n2,avp.2 n3,avp.2 e0];rfl)).symm;clear hy;subst hy2;have h1:¬x0=[102,105,101,108,100]:=n1;have h2:¬x0=[110,101,120,116]:=n2;have h3:¬x0=[102,105,108,101]:=n3;have h4:¬x0=[100,105,114]:=e0;clear n1 n2 n3 e0;have g1:(x0==[102,105,101,108,100])=false:=avp.2 h1;have g2:(x0==[110,101,120,116])=false:=avp.2 h2;have g3:(x0==[102,105,108,101])=false:=avp.2 h3;have g4:(x0==[100,105,114])=false:=avp.2 h4;have q0:=(vP.block W.heap.size abn).trans hN0;have q1:=(vP.block (W.heap.size+1) abn).trans hN1;obtain⟨⟨d0,d1,d2,d3⟩,z0,z1,z2,z3⟩:=four q0;obtain⟨⟨p0,p1,p2,p3⟩,y0,y1,y2,y3⟩:=four q1
 go_wp2
 all_goals (try simp only[Exit.inBlock,Exit.then])
 have r9:=uI (y0:=.slice aa x.1.length ca) (y1:=.slice ab x.2.1.length cb) (y2:=.int .i64 x.2.2.1) (y3:=.slice ad x.2.2.2.1.length cd) q1;have s9:=hS.below (qH (y0:=.slice aa x.1.length ca) (y1:=.slice ab x.2.1.length cb) (y2:=.int .i64 x.2.2.1) (y3:=.slice ad x.2.2.2.1.length cd) hb2' (show W.heap.size<=W.heap.size+1 from abn));have k9:=Sl hB (qH (y0:=.slice aa x.1.length ca) (y1:=.slice ab x.2.1.length cb) (y2:=.int .i64 x.2.2.1) (y3:=.slice ad x.2.2.2.1.length cd) hb2' (show W.heap.size<=W.heap.size+1 from abn));unfold qy at r9 s9 k9;exact awT (axo rfl _ _ (W.heap.size+1) _ _ _ _ aqT r9 Tryz.underlying33 rfl abu) rfl ⟨_,_,_,_,rfl,s9,k9⟩
end Go.Proofs.Tryz

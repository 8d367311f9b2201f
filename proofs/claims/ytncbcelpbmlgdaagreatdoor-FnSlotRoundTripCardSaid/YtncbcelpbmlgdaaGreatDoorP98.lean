import Derived.Test.YtncbcelpbmlgdaaGreatDoorP65
import Derived.Laws.ResultCell
import Derived.Test.YtncbcelpbmlgdaaGreatDoorSp
namespace Go.Proofs.Tryz
open Go Go.Fw Go.RowKit Sp
set_option maxRecDepth 100000
theorem FW.aoQ{B:Nat}{w:World}{b off cap:Nat}{x y:List UInt8×Unit}{r:Sp.LS}(h:FW B w (.slice (some ⟨b,off,none⟩) (r.length+2) cap) (x::y::r))(hr:0<r.length):¬cap=2/\FW B w (.slice (some ⟨b,off+2,none⟩) r.length (cap-2)) r:=by
 have hm:r.length+2<=maxLen:=h.1;rcases h.2 with⟨e,_⟩|⟨b',off',cap',cs,t,fz,e,e2,e3,e4,e5⟩
 .cases e
 .cases e;have e2:r.length+2<=cap:=e2;refine⟨aaV,aaV,.inr ⟨b,off+2,cap-2,cs,t,fz,rfl,aaV,e3,e4,λi z hz=>?_⟩⟩;have:=e5 (i+2) z (by simpa using hz);rw[show off+2+i*dJ.len=off+(i+2)*dJ.len by show off+2+i*1=off+(i+2)*1;omega];exact this
set_option maxHeartbeats 16000000 in
theorem an9(B P:Nat)(W:World)(x:aV)(y:List UInt8)(r:Sp.LS)(line:List UInt8)(hl:line.length<=1000)(hf:Sp.pieces 32 line=(jU,())::(y,())::r)(hr:0<r.length)(hG:G.ok W)(hS:Held B P W x)(Qq:P<B)(hB:B<=W.heap.size)(hz:x.2.2.2.1.length<=200):
 Calls prog 60 #[.pointer (some ⟨P,0,none⟩),.string ⟨line.toArray⟩] W λe w'=>e=.returned (.bool (gq (gm r)))/\Held B P w' (x.1,x.2.1,x.2.2.1,x.2.2.2.1++[(y,fJ (gm r),())],())/\Kp B P W w':=by
 have mixed:=Tryz.mixed;obtain⟨va,vl,vd,F,hP,wW⟩:=hS;have hPl:=(auL.1 hP).1;have sp:=Gs 32 (.inl rfl) line aaV W hG;have hwl:∀x∈r,x.1.length<=1000:=λz hz=>auK (BM (c:=32) (s:=line) z (by rw[hf];exact auM _ (auM _ hz))) hl;have hy:y.length<=1000:=auK (BM (c:=32) (s:=line) (y,()) (by rw[hf];simp)) hl;have hrl:r.length<=1000:=by have:=Sp.pieces_len 32 line;rw[hf,auE,auE]at this;omega
 have hj:(gm r).length<=1040000:=auK (aan (m:=1000) hwl) aaV;rw[hf]at sp;clear hf;unfold jU at sp;have jn:=λv w hv hG=>apA v r w hv hrl aaV hG;generalize gm r=t at jn hj ⊢;have pq:=λw hG=>apB t aaV w hG;generalize fJ t=q at pq ⊢;generalize gq t=ok at pq ⊢;have hlt2:(2:Int)<(r.length:Int)+2:=aaV;have hi1:(1:Int)<(r.length:Int)+2:=aaV;have hi2:(1:Int)<(r.length:Int)+1+1:=aaV;have hi3:1<r.length+2:=aaV;have hi4:(1:Int)<=(r.length:Int)+1:=aaV;have hlt3:(2:Int)<(r.length:Int)+1+1:=aaV;obtain⟨i0,hi,hz0,hz1,hz2⟩:=awK ahV;have hqm:x.2.2.2.1.length+1<=maxLen:=acz;have ny:(x.2.2.2.1.length+1)*40<=140737488355328:=aaV
 go_enter Tryz.func60,Tryz.ntmps60
 go_wp2_with (first
  |(go_at_call 86;refine avd sp ?_;rintro e w1 ⟨v1,rfl,hf1,hb1⟩;obtain⟨a1,c1,e1⟩:=lW hf1;have e1:v1=.slice a1 (r.length+2) c1:=e1;subst e1;obtain⟨b2,o2,e2,-,cw⟩:=FW.cell (a:=a1) (c:=c1) (f:=([100,105,114],())::(y,())::r) hf1 (n:=0) abZ;subst e2;have cw:w1.cell? ⟨b2,o2,none⟩=some (.string ⟨([100,105,114]:List UInt8).toArray⟩):=cw;obtain⟨b3,o3,e3,-,Uj⟩:=FW.cell (a:=some ⟨b2,o2,none⟩) (c:=c1) (f:=([100,105,114],())::(y,())::r) hf1 (n:=1) abZ;cases e3;have Uj:w1.cell? ⟨b2,o2+1,none⟩=some (.string ⟨(y:List UInt8).toArray⟩):=Uj;obtain⟨hc2,ht⟩:=hf1.aoQ hr;have as6:=(auL.1 (show∃o,w1.heap[b2]? =some o from by cases h:w1.heap[b2]? with|some o=>exact⟨o,rfl⟩|none=>simp[World.cell?,h]at cw).choose_spec).1;have hG1:=dL hG hb1;clear sp hf1)
  |(go_at_call 74;refine avd (jn _ w1 ht hG1) ?_;rintro e w2 ⟨rfl,hb2⟩;have vN:=hb1.trans (hb2.mono hb1.size))
  |(go_at_call 107;refine avd (pq w2 (dL hG vN)) ?_;rintro e w3 ⟨a6,c6,rfl,hb3,hra⟩;have Ti:=hb2.trans (hb3.mono hb2.size)))
 all_goals
  have xO:=wW.below hb1;obtain⟨xs,hown1,Tf⟩:=xO.fd;have hown1:w1.ownsRow B 93 2 vd x.2.2.2.1.length xs:=hown1;have Tf:∀i z,x.2.2.2.1[i]? =some z->aH w1.heap F dK ((xs.drop (i*2)).take 2) z:=Tf;have hs1:=hb1.size;have hs2:=hb2.size;have hs3:=hb3.size;have rW:vd.ownBlock≠some P:=λe=>by have:=(xO.fd.lt e).1;omega
  have hBr:B<=w1.heap.size:=auK hB hs1;have ahS:=hb1.trans (Ti.mono hs1);have hP3:=(ahS.block P hPl).trans hP;obtain⟨⟨d0,d1,d2,d3⟩,z0,z1,z2,z3⟩:=four hP3;have cy:w3.cell? ⟨b2,o2+1,none⟩=some (.string ⟨(y:List UInt8).toArray⟩):=(awe (a:=⟨b2,o2+1,none⟩) (Ti.block b2 as6)).trans Uj;have uK:P<w3.heap.size:=(auL.1 hP3).1;have hown3:w3.ownsRow B 93 2 vd x.2.2.2.1.length xs:=uJ hown1 λb e=>Ti.block b (xO.fd.lt e).2;have as5:B<=w3.heap.size:=aaV
  go_region_law (refine step_append_lies _ rfl (.tmp 113) (.tmp 119) 31 rfl B 93 i0 ab1 2 40 Tryz.underlying31 hi hz0 hz1 hz2 rfl abV vd x.2.2.2.1.length xs aeF ((awF hown3).alloc _) ⟨w3.heap.size,0,none⟩ 1 1 [.string ⟨y.toArray⟩,.slice a6 q.length c6] aeF rfl (World.news_of_block (avo _ _)) afF abV hqm ny aeV _ rfl ?_;intro g cap w5 hown5 gI nT nU;have nN:=(gI.block P aeV (λe=>rW e.symm)).trans ((heap_alloc_old w3.drew _ uK).trans hP3);have k5:w5.cell? ⟨P,3,none⟩=some vd:=aN nN 3;have z5:=dH nN 3)
  all_goals go_wp2
  all_goals go_ret
  all_goals
   have hbd:Below w3.heap.size w3 (w3.drew.alloc (Obj.cells #[.string ⟨y.toArray⟩,.slice a6 q.length c6] 93 (0,0))):=((Below.refl _ w3).drew).alloc (auH _) _;have xJ:=Ti.trans (hbd.mono (auK hs2 hs3));exact⟨rfl,⟨va,vl,_,_,gJ nN 3 _,((xO.ala (y:=(y,q,())) hBr xJ hown1 Tf hown5 gI nT nU (N:=λb=>w2.heap.size<=b/\b<w3.heap.size) (λb hb=>⟨aaV,by have:=hbd.size;omega⟩)
    ⟨_,_,rfl,⟨rfl,acz⟩,_,_,rfl,bY.mono (λb hb=>⟨hb,hbd.block b hb.2⟩) _ _ _ hra,rfl⟩).set Qq)⟩,(((Kp.of hB hb1).below hB xJ).grown hB gI (λb e=>(xO.fd.lt e).1)).set⟩
end Go.Proofs.Tryz
namespace Go.Proofs.Tryz
open Go Go.Fw Go.RowKit Sp
set_option maxRecDepth 100000
theorem amz(B P:Nat)(W:World)(x:aV)(line:List UInt8)(hl:line.length<=1000)(hG:G.ok W)(hS:Held B P W x)(Qq:P<B)(hB:B<=W.heap.size)(hz:Ui 200 x):
 Calls prog 60 #[.pointer (some ⟨P,0,none⟩),.string ⟨line.toArray⟩] W λe w'=>e=.returned (.bool (kY x (Sp.pieces 32 line)).2)/\Held B P w' (kY x (Sp.pieces 32 line)).1/\Kp B P W w':=by
 have hp:=LK 32 line [];have hp:0<(Sp.pieces 32 line).length:=hp;obtain⟨x0,r,hf⟩:∃x0 r,Sp.pieces 32 line=(x0,())::r:=by
  cases h:Sp.pieces 32 line with
  |nil=>rw[h]at hp;exact absurd hp (avE _)
  |cons a r=>exact⟨a.1,r,rfl⟩
 rw[hf];by_cases h1:x0=gZ/\r.length=2
 .obtain⟨rfl,hr⟩:=h1
  match r,hr with
  |[(y,_),(k,_)],_=>rw[aji];exact alj B P W x y k line hl hf hG hS Qq hB hz.1
 by_cases h2:x0=qg/\r.length=1
 .obtain⟨rfl,hr⟩:=h2
  match r,hr with
  |[(y,_)],_=>rw[alk];exact amU B P W x y line hl hf hG hS Qq hB
 by_cases h3:x0=jY
 .subst h3;rw[alm];exact amW B P W x r line hl hf hG hS Qq hB hz.2.1
 by_cases h4:x0=jU/\2<=r.length
 .obtain⟨rfl,hr⟩:=h4
  match r,hr with
  |(y,_)::r,hr=>
   have hr:0<r.length:=by rw[auE]at hr;omega
   rw[amX _ _ _ hr];exact an9 B P W x y r line hl hf hr hG hS Qq hB hz.2.2.2.1
 rw[aln x x0 r h1 h2 h3 h4];refine apC B P W x x0 r line hl hf hG hS hB ?_ ?_ h3 ?_
 .by_cases e:x0=gZ
  .exact .inr (auD.2 λg=>h1 ⟨e,aaV⟩)
  .exact .inl e
 .by_cases e:x0=qg
  .exact .inr (auD.2 λg=>h2 ⟨e,aaV⟩)
  .exact .inl e
 .by_cases e:x0=jU
  .exact .inr λg=>h4 ⟨e,aaV⟩
  .exact .inl e
def Gf(va vl vd:Value)(nx:Int):Value:=.agg #[va,vl,.int .i64 nx,vd]
def ahM(x:aV):Arg:=.sv (.agg [.sl aG dh x.1 false,.sl aX dV x.2.1 false,.int .i64 x.2.2.1,.sl bF dK x.2.2.2.1 false])
theorem Sn.aqx{B:Nat}{w:World}{va vl vd:Value}{x:aV}{F S:Nat->Prop}(h:Sn B w va vl vd x F)(hS:∀b,B<=b->b<w.heap.size->S b):
 bY w.heap S (.sl aG dh) va x.1/\bY w.heap S (.sl aX dV) vl x.2.1/\bY w.heap S (.sl bF dK) vd x.2.2.2.1:=by
 have ff:∀b,F b->S b:=λb hb=>hS b (h.foot b hb).1 (h.foot b hb).2.1;exact⟨h.fa.rep abV λb hb=>hb.elim (ff b) λe=>hS b (h.fa.lt e).1 (h.fa.lt e).2,h.fl.rep abV λb hb=>hb.elim (ff b) λe=>hS b (h.fl.lt e).1 (h.fl.lt e).2,h.fd.rep abV λb hb=>hb.elim (ff b) λe=>hS b (h.fd.lt e).1 (h.fd.lt e).2⟩
theorem abY{B:Nat}{w:World}{va vl vd:Value}{x:aV}{F:Nat->Prop}(h:Sn B w va vl vd x F):oh ⟨w,w.heap.size,λ_=>True,λ_=>undef,λ_=>none⟩ (ahM x) (Gf va vl vd x.2.2.1):=by obtain⟨r1,r2,r3⟩:=h.aqx (S:=V.bW ⟨w,w.heap.size,λ_=>True,λ_=>undef,λ_=>none⟩ false) λb _ hb=>⟨⟨hb,λ_=>trivial,λo x hx=>aeZ⟩,λe=>ahb⟩;exact⟨_,rfl,r1,r2,⟨rfl,h.nx⟩,r3,trivial⟩
theorem apo{B:Nat}{w:World}{va vl vd:Value}{x:aV}{F:Nat->Prop}(h:Sn B w va vl vd x F)(hx:fH x)(hG:G.ok w):Calls prog 28 #[Gf va vl vd x.2.2.1] w λe w'=>e=.returned (.bool (bM x))/\Below w.heap.size w w':=by have hc:fD prog G 28 (ig iJ.sh iJ.bH iJ.F):=vM.1;refine(hc [ahM x] (fH x) ⟨[(false,[.plain (.bool (bM x))])],none⟩ 0 (λ_=>True) #[Gf va vl vd x.2.2.1] w rfl hx hG ⟨abY h,trivial⟩).mono ?_;rintro e w' ⟨v,vals,rfl,h1,h2,h3,h4,h5,h6,_,_⟩;have h6:v=.bool (bM x):=h6;exact⟨by rw[h6],h1,h2,h3,h4,h5⟩
theorem apq{B:Nat}{w:World}{va vl vd:Value}{x:aV}{F:Nat->Prop}(h:Sn B w va vl vd x F)(hx:fH x)(hG:G.ok w):Calls prog 14 #[Gf va vl vd x.2.2.1] w λe w'=>∃v,e=.returned v/\FW w'.heap.size w' v (Sp.enc x)/\Below w.heap.size w w':=by have hc:fD prog G 14 (ig jF.sh jF.bH jF.F):=DV.1;refine(hc [ahM x] (fH x) _ 0 (λ_=>True) #[Gf va vl vd x.2.2.1] w rfl hx hG ⟨abY h,trivial⟩).mono ?_;rintro e w' ⟨v,vals,rfl,h1,h2,h3,h4,h5,h6,_,_⟩;have h6:bY w'.heap _ (.sl aT dJ) v (Sp.enc x):=h6;exact⟨v,rfl,bY.mono (λb hb=>⟨hb.1.1,rfl⟩) _ _ _ h6,h1,h2,h3,h4,h5⟩
theorem ajS{w:World}{u v:Value}{a b:Sp.LS}(ha:FW w.heap.size w u a)(hb:FW w.heap.size w v b)(hG:G.ok w):Calls prog 61 #[u,v] w λe w'=>e=.returned (.bool (decide (a=b)))/\Below w.heap.size w w':=by have hc:fD prog G 61 (ig kV.sh kV.bH kV.F):=OD.1;refine(hc [.sv (.one (.sl aT dJ a false)),.sv (.one (.sl aT dJ b false))] True ⟨[(false,[.plain (.bool (decide (a=b)))])],none⟩ 0 (λ_=>True) #[u,v] w rfl trivial hG ⟨wX ha,wX hb,trivial⟩).mono ?_;rintro e w' ⟨v,vals,rfl,h1,h2,h3,h4,h5,h6,_,_⟩;have h6:v=.bool (decide (a=b)):=h6;exact⟨by rw[h6],h1,h2,h3,h4,h5⟩
def Gives(W w':World)(e:Ending)(x:aV)(ok:Bool):Prop:=
 ∃va vl vd,e=.returned (.tuple #[Gf va vl vd x.2.2.1,.bool ok])/\Below W.heap.size W w'/\sV x.2.2.1/\bY w'.heap (λb=>W.heap.size<=b/\b<w'.heap.size) (.sl aG dh) va x.1/\
  bY w'.heap (λb=>W.heap.size<=b/\b<w'.heap.size) (.sl aX dV) vl x.2.1/\bY w'.heap (λb=>W.heap.size<=b/\b<w'.heap.size) (.sl bF dK) vd x.2.2.2.1
theorem F9{W w':World}(h:Below W.heap.size W w'):Gives W w' (.returned (.tuple #[.agg #[.slice none 0 0,.slice none 0 0,.int .i64 0,.slice none 0 0],.bool false])) cu false:=
 ⟨_,_,_,rfl,h,⟨abV,abV⟩,⟨auZ _,.inl ⟨rfl,none,0,rfl⟩⟩,⟨auZ _,.inl ⟨rfl,none,0,rfl⟩⟩,⟨auZ _,.inl ⟨rfl,none,0,rfl⟩⟩⟩
theorem ahL{B:Nat}{W w':World}{va vl vd:Value}{x:aV}{F:Nat->Prop}(hB:W.heap.size<=B)(h:Below W.heap.size W w')(hs:Sn B w' va vl vd x F):Gives W w' (.returned (.tuple #[.agg #[va,vl,.int .i64 x.2.2.1,vd],.bool true])) x true:=by obtain⟨r1,r2,r3⟩:=hs.aqx (S:=λb=>W.heap.size<=b/\b<w'.heap.size) λb h1 h2=>⟨aaV,h2⟩;exact⟨va,vl,vd,rfl,h,hs.nx,r1,r2,r3⟩
end Go.Proofs.Tryz
namespace Go.Proofs.Tryz
open Go Go.Fw Go.RowKit Sp
set_option maxRecDepth 100000
theorem Kp.low{P:Nat}{W W2 w:World}(h:Kp (W.heap.size+2) P W2 w)(hP:W.heap.size<=P)(k:Below W.heap.size W W2):Below W.heap.size W w:=
 ⟨h.os.trans k.os,h.tape.trans k.tape,h.output.trans k.output,auK k.size h.size,λb hb=>(h.block b aaV aaV).trans (k.block b hb)⟩
def yx:Array Value:=#[.slice none 0 0,.slice none 0 0,.int .i64 0,.slice none 0 0]
theorem Sn.zero(B:Nat)(w:World):Sn B w (.slice none 0 0) (.slice none 0 0) (.slice none 0 0) cu λ_=>False:=
 ⟨OL.nil,OL.nil,OL.nil,⟨abV,abV⟩,λg=>⟨λe=>ahb,λe=>ahb⟩,λb hb=>hb.elim⟩
theorem anI(w:World)(o p:Obj):((w.alloc o).alloc p).heap[w.heap.size+1]? =some p:=by have:=avo (w.alloc o) p;rw[show(w.alloc o).heap.size=w.heap.size+1 from abZ]at this;exact this
theorem box1(w:World)(o p:Obj):((w.alloc o).alloc p).heap[w.heap.size]? =some o:=(heap_alloc_old _ p abZ).trans (avo w o)
theorem below2(w:World)(o p:Obj):Below w.heap.size w ((w.alloc o).alloc p):=((Below.refl _ _).alloc (auH _) o).alloc abZ p
theorem aaj(w:World)(o p:Obj):((w.alloc o).alloc p).heap.size=w.heap.size+2:=abZ
theorem Kp.trans{B P:Nat}{a b c:World}(h:Kp B P a b)(k:Kp B P b c):Kp B P a c:=
 ⟨k.os.trans h.os,k.tape.trans h.tape,k.output.trans h.output,auK h.size k.size,λx hx hn=>(k.block x hx hn).trans (h.block x hx hn)⟩
theorem apm{ls:Sp.LS}(h:(gK cu ls).2=true)(k:(bM (gK cu ls).1&&decide (Sp.enc (gK cu ls).1=ls))=false):Sp.dec ls=(cu,false):=by rw[← aak];unfold ahJ;rw[h,k];rfl
theorem anJ{ls:Sp.LS}(h:(gK cu ls).2=true)(k1:bM (gK cu ls).1=true)(k2:decide (Sp.enc (gK cu ls).1=ls)=true):Sp.dec ls=((gK cu ls).1,true):=by rw[← aak];unfold ahJ;rw[h,k1,k2];rfl
theorem FW.keep'{W w:World}{v:Value}{f:Sp.LS}(h:FW W.heap.size W v f)(k:Below W.heap.size W w):FW w.heap.size w v f:=bY.mono (λb hb=>⟨au6 hb k.size,k.block b hb⟩) _ _ _ h
def qp(w:World)(g:Nat)(y0 y1 y2 y3:Value):World:=(((w.setCell ⟨g,0,none⟩ y0).setCell ⟨g,1,none⟩ y1).setCell ⟨g,2,none⟩ y2).setCell ⟨g,3,none⟩ y3
theorem uH{w:World}{g:Nat}{x0 x1 x2 x3 y0 y1 y2 y3:Value}{t:TypeId}(h:w.heap[g]? =some (.cells #[x0,x1,x2,x3] t (0,0))):(qp w g y0 y1 y2 y3).heap[g]? =some (.cells #[y0,y1,y2,y3] t (0,0)):=
 gJ (gJ (gJ (gJ h 0 y0) 1 y1) 2 y2) 3 y3
theorem qF{W w:World}{g:Nat}{y0 y1 y2 y3:Value}(h:Below W.heap.size W w)(hg:W.heap.size<=g):Below W.heap.size W (qp w g y0 y1 y2 y3):=(((h.setCell hg _).setCell hg _).setCell hg _).setCell hg _
theorem adZ{B g:Nat}{w:World}{va vl vd y0 y1 y2 y3:Value}{x:aV}{F:Nat->Prop}(h:Sn B w va vl vd x F)(hg:g<B):Sn B (qp w g y0 y1 y2 y3) va vl vd x F:=(((h.set hg).set hg).set hg).set hg
set_option maxHeartbeats 16000000 in
theorem apn(ls:Sp.LS)(v:Value)(W:World)(hv:FW W.heap.size W v ls)(hfit:zM ls)(hG:G.ok W):Calls prog 15 #[v] W λe w'=>Gives W w' e (Sp.dec ls).1 (Sp.dec ls).2:=by
 have mixed:=Tryz.mixed;obtain⟨arA,hlx⟩:=hfit;obtain⟨al,cl,rfl⟩:=lW hv;have hbase:=below2 W (Obj.cells yx 33 (0,0)) (Obj.cells yx 33 (0,0));have hsize:=aaj W (Obj.cells yx 33 (0,0)) (Obj.cells yx 33 (0,0));have hN0:=box1 W (Obj.cells yx 33 (0,0)) (Obj.cells yx 33 (0,0));have hdec:∀z,Sp.dec ls=z->Sp.dec ls=z:=λ_ h=>h
 go_enter Tryz.func15,Tryz.ntmps15
 go_wp2
 go_loopw [10] (λi wr=>∃n:Nat,n<=ls.length/\i=.int .i64 n/\(gK cu (ls.take n)).2=true/\Ui n (gK cu (ls.take n)).1/\Held (W.heap.size+2) (W.heap.size+1) wr (gK cu (ls.take n)).1/\Kp (W.heap.size+2) (W.heap.size+1) ((W.alloc (Obj.cells yx 33 (0,0))).alloc (Obj.cells yx 33 (0,0))) wr)
  (λi _=>ls.length-(intOf i).toNat)
 case atStart=>exact⟨0,auZ _,rfl,rfl,ahK,⟨_,_,_,_,anI W _ _,Sn.zero _ _⟩,rfl,rfl,rfl,auH _,λ_ _ _=>rfl⟩
 case round=>
  obtain⟨n,hn,rfl,hok,hsz,hH,hK⟩:=hrel;have hlow:=hK.low aaV hbase;have hGr:G.ok wr:=dL hG hlow;have hwr:=hK.size;rw[hsize]at hwr;rcases au2 n ls.length with hlt|hge
  .have hlt':((n:Nat):Int)<ls.length:=aaV;obtain⟨bl,off,rfl,hbl,hcl⟩:=hv.cell hlt;have hcl:=(awe (a:=⟨bl,off+n,none⟩) (hlow.block bl hbl)).trans hcl;have hLl:=hlx _ (getD_in (d:=([],())) hlt);have hnext:=amx hlt hok;have hstop:=anK (l:=ls) (n:=n+1);rw[hnext]at hstop;have RN:Ui (n+1) (kY (gK cu (ls.take n)).1 (Sp.pieces 32 (ls.getD n ([],())).1)).1:=amy hsz (by have:=Sp.pieces_len 32 (ls.getD n ([],())).1;omega) λy hy=>auK (BM y hy) hLl;generalize (ls.getD n ([],())).1=L at hcl hLl hnext hstop RN;have rr:=amz (W.heap.size+2) (W.heap.size+1) wr _ L hLl hGr hH aaV hwr ⟨auK hsz.1 aaV,auK hsz.2.1 aaV,hsz.2.2.1,auK hsz.2.2.2.1 aaV,hsz.2.2.2.2⟩;generalize kY (gK cu (ls.take n)).1 (Sp.pieces 32 L)=z at rr hnext hstop RN;obtain⟨x',b⟩:=z;dsimp only at rr hstop RN;cases b with
   |false=>
    have hd:=hstop rfl;clear hstop hnext
    go_wp2_with (first
     |(go_at_call 60;refine avd rr ?_;rintro e w' ⟨rfl,-,hK'⟩;have hKK:=hK.trans hK';have hlow':=hKK.low aaV hbase;have hq:=(hKK.block W.heap.size aaV aaV).trans hN0;obtain⟨⟨d0,d1,d2,d3⟩,z0,z1,z2,z3⟩:=four hq))
    all_goals (try simp only[Exit.inBlock,Exit.then])
    have r9:=uH (y0:=.slice none 0 0) (y1:=.slice none 0 0) (y2:=.int .i64 0) (y3:=.slice none 0 0) hq;have EY:=qF (y0:=.slice none 0 0) (y1:=.slice none 0 0) (y2:=.int .i64 0) (y3:=.slice none 0 0) hlow' (auH _);unfold qp at r9 EY;clear d0 d1 d2 d3 z0 z1 z2 z3;refine av1 (v:=.tuple #[.agg #[.slice none 0 0,.slice none 0 0,.int .i64 0,.slice none 0 0],.bool false]) ?_ rfl aqw;obtain⟨⟨d0,d1,d2,d3⟩,z0,z1,z2,z3⟩:=four r9;rw[awy rfl]
    go_simp
   |true=>
    go_wp2_with (first
     |(go_at_call 60;refine avd rr ?_;rintro e w' ⟨rfl,hH',hK'⟩))
    exact⟨⟨n+1,hlt,rfl,by rw[hnext],by rw[hnext];exact RN,by rw[hnext];exact hH',hK.trans hK'⟩,by simp only[intOf];omega⟩
  .have hge':¬((n:Nat):Int)<ls.length:=aaV;obtain rfl:n=ls.length:=aaV;rw[avQ]at hok hsz hH;have hsm:=afe hsz aaV;obtain⟨va,vl,vd,F,hP,wW⟩:=hH;have hdb:=apm hok;have hdg:=anJ hok;generalize (gK cu ls).1=x at hsz hsm hP wW hdb hdg;have hPl:=(auL.1 hP).1;have hq:=(hK.block W.heap.size aaV aaV).trans hN0;have vs:=apo wW hsm hGr;unfold Gf at vs;obtain⟨⟨d0,d1,d2,d3⟩,z0,z1,z2,z3⟩:=four hP;cases hval:bM x with
   |false=>
    rw[hval]at vs hdb;have hd:=hdb rfl
    go_wp2_with (first
     |(go_at_call 28;refine avd vs ?_;rintro e w5 ⟨rfl,hb5⟩;have sS:=hlow.trans (hb5.mono hlow.size);have hq5:=(hb5.block W.heap.size aaV).trans hq;clear d0 d1 d2 d3 z0 z1 z2 z3;obtain⟨⟨d0,d1,d2,d3⟩,z0,z1,z2,z3⟩:=four hq5))
    all_goals (try simp only[Exit.inBlock,Exit.then])
    have r9:=uH (y0:=.slice none 0 0) (y1:=.slice none 0 0) (y2:=.int .i64 0) (y3:=.slice none 0 0) hq5;have EY:=qF (y0:=.slice none 0 0) (y1:=.slice none 0 0) (y2:=.int .i64 0) (y3:=.slice none 0 0) sS (auH _);unfold qp at r9 EY;clear d0 d1 d2 d3 z0 z1 z2 z3;refine av1 (v:=.tuple #[.agg #[.slice none 0 0,.slice none 0 0,.int .i64 0,.slice none 0 0],.bool false]) ?_ rfl aqw;obtain⟨⟨d0,d1,d2,d3⟩,z0,z1,z2,z3⟩:=four r9;rw[awy rfl]
    go_simp
   |true=>
    rw[hval]at vs hdb;have es:=λw(hs:Sn (W.heap.size+2) w va vl vd x F) hG=>apq hs hsm hG;unfold Gf at es;cases heq:decide (Sp.enc x=ls)with
    |false=>
     rw[heq]at hdb;have hd:=hdb rfl
     go_wp2_with (first
      |(go_at_call 28;refine avd vs ?_;rintro e w5 ⟨rfl,hb5⟩;have sS:=hlow.trans (hb5.mono hlow.size);have nN:=(hb5.block _ hPl).trans hP;clear d0 d1 d2 d3 z0 z1 z2 z3;obtain⟨⟨d0,d1,d2,d3⟩,z0,z1,z2,z3⟩:=four nN)
      |(go_at_call 14;refine avd (es w5 (wW.below hb5) (dL hG sS)) ?_;rintro e w6 ⟨v6,rfl,Qc,hb6⟩;obtain⟨a6,c6,e6⟩:=lW Qc;subst e6;have Lh:=hb5.trans (hb6.mono hb5.size);have sU:=sS.trans (hb6.mono sS.size))
      |(go_at_call 61;refine avd (ajS Qc (hv.keep' sU) (dL hG sU)) ?_;rintro e w7 ⟨rfl,hb7⟩;rw[heq];have Lj:=Lh.trans (hb7.mono Lh.size);have RP:=sU.trans (hb7.mono sU.size);have hq7:=(Lj.block W.heap.size aaV).trans hq;clear d0 d1 d2 d3 z0 z1 z2 z3;obtain⟨⟨d0,d1,d2,d3⟩,z0,z1,z2,z3⟩:=four hq7))
     all_goals (try simp only[Exit.inBlock,Exit.then])
     have r9:=uH (y0:=.slice none 0 0) (y1:=.slice none 0 0) (y2:=.int .i64 0) (y3:=.slice none 0 0) hq7;have EY:=qF (y0:=.slice none 0 0) (y1:=.slice none 0 0) (y2:=.int .i64 0) (y3:=.slice none 0 0) RP (auH _);unfold qp at r9 EY;clear d0 d1 d2 d3 z0 z1 z2 z3;refine av1 (v:=.tuple #[.agg #[.slice none 0 0,.slice none 0 0,.int .i64 0,.slice none 0 0],.bool false]) ?_ rfl aqw;obtain⟨⟨d0,d1,d2,d3⟩,z0,z1,z2,z3⟩:=four r9;rw[awy rfl]
     go_simp
    |true=>
     have hd:=hdg hval heq;obtain⟨aa,ca,rfl⟩:=wW.fa.form;obtain⟨ab,cb,rfl⟩:=wW.fl.form;obtain⟨ad,cd,rfl⟩:=wW.fd.form
     go_wp2_with (first
      |(go_at_call 28;refine avd vs ?_;rintro e w5 ⟨rfl,hb5⟩;have sS:=hlow.trans (hb5.mono hlow.size);have nN:=(hb5.block _ hPl).trans hP;clear d0 d1 d2 d3 z0 z1 z2 z3;obtain⟨⟨d0,d1,d2,d3⟩,z0,z1,z2,z3⟩:=four nN)
      |(go_at_call 14;refine avd (es w5 (wW.below hb5) (dL hG sS)) ?_;rintro e w6 ⟨v6,rfl,Qc,hb6⟩;obtain⟨a6,c6,e6⟩:=lW Qc;subst e6;have Lh:=hb5.trans (hb6.mono hb5.size);have sU:=sS.trans (hb6.mono sS.size))
      |(go_at_call 61;refine avd (ajS Qc (hv.keep' sU) (dL hG sU)) ?_;rintro e w7 ⟨rfl,hb7⟩;rw[heq];have Lj:=Lh.trans (hb7.mono Lh.size);have RP:=sU.trans (hb7.mono sU.size);have hq7:=(Lj.block W.heap.size aaV).trans hq;have hP7:=(Lj.block _ hPl).trans hP;have anL:=wW.below Lj;clear d0 d1 d2 d3 z0 z1 z2 z3;obtain⟨⟨d0,d1,d2,d3⟩,z0,z1,z2,z3⟩:=four hq7;obtain⟨⟨p0,p1,p2,p3⟩,y0,y1,y2,y3⟩:=four hP7))
     all_goals (try simp only[Exit.inBlock,Exit.then])
     have r9:=uH (y0:=.slice aa x.1.length ca) (y1:=.slice ab x.2.1.length cb) (y2:=.int .i64 x.2.2.1) (y3:=.slice ad x.2.2.2.1.length cd) hq7;have EY:=qF (y0:=.slice aa x.1.length ca) (y1:=.slice ab x.2.1.length cb) (y2:=.int .i64 x.2.2.1) (y3:=.slice ad x.2.2.2.1.length cd) RP (auH _);have hs9:=adZ (y0:=.slice aa x.1.length ca) (y1:=.slice ab x.2.1.length cb) (y2:=.int .i64 x.2.2.1) (y3:=.slice ad x.2.2.2.1.length cd) anL (show W.heap.size<W.heap.size+2 from aaV);unfold qp at r9 EY hs9;clear d0 d1 d2 d3 z0 z1 z2 z3;refine av1 (v:=.tuple #[.agg #[.slice aa x.1.length ca,.slice ab x.2.1.length cb,.int .i64 x.2.2.1,.slice ad x.2.2.2.1.length cd],.bool true]) ?_ rfl (by rw[hd];exact ahL aaV EY hs9);obtain⟨⟨d0,d1,d2,d3⟩,z0,z1,z2,z3⟩:=four r9;rw[awy rfl]
     go_simp
theorem Oq:fD prog G y7 vG:=by
 intro args p out k S vs w hcon hp hG hrep;unfold vG ig wS at hcon;split at hcon
 .next x hx=>
  obtain⟨ls,⟨⟩⟩:=x;have hv:=DI xC args _ vs.toList hx hrep
  match hvs:vs.toList,hv with
  |[v],hv=>
   have e1:bY w.heap _ (.sl aT dJ) v ls:=hv.1;have e2:vs=#[v]:=by obtain⟨l⟩:=vs;simp at hvs;rw[hvs]
   subst e2;have hF:=Option.some.inj hcon;have hp1:p=zM ls:=(congrArg Prod.fst hF).symm;have hout:out=⟨[(true,[.plain (.sl aG dh (Sp.dec ls).1.1 true),.plain (.sl aX dV (Sp.dec ls).1.2.1 true),.plain (.int .i64 (Sp.dec ls).1.2.2.1),.plain (.sl bF dK (Sp.dec ls).1.2.2.2.1 true)]),(false,[.plain (.bool (Sp.dec ls).2)])],none⟩:=(congrArg Prod.snd hF).symm;subst hp1 hout;refine(apn ls v w (bY.mono (λb hb=>⟨hb.1.1,rfl⟩) _ _ _ e1) hp hG).mono ?_;rintro e w' ⟨va,vl,vd,rfl,hb,hn,r1,r2,r3⟩;refine⟨_,λ_=>undef,rfl,hb.os,hb.tape,hb.output,hb.size,hb.block,?_,(λo x hx=>aeZ),(λo x q y b hx=>aeZ)⟩;exact⟨_,rfl,⟨_,rfl,bY.mono (λb hb=>⟨⟨⟨hb.2,λh=>absurd h (axk.2 hb.1),λo x hx=>aeZ⟩,λ_=>hb.1⟩,rfl⟩) _ _ _ r1,bY.mono (λb hb=>⟨⟨⟨hb.2,λh=>absurd h (axk.2 hb.1),λo x hx=>aeZ⟩,λ_=>hb.1⟩,rfl⟩) _ _ _ r2,⟨rfl,hn⟩,bY.mono (λb hb=>⟨⟨⟨hb.2,λh=>absurd h (axk.2 hb.1),λo x hx=>aeZ⟩,λ_=>hb.1⟩,rfl⟩) _ _ _ r3,trivial⟩,rfl,trivial⟩
 .cases hcon
end Go.Proofs.Tryz
namespace Go.Proofs.Tryz
open Go Go.Fw Go.IntWalk Sp
set_option maxRecDepth 100000
theorem aff{s:List UInt8}(h:mW s):zM (Sp.inner (Sp.pieces 10 s)):=by unfold Sp.inner;refine⟨?_,λx hx=>h.2 x (awd (av2 hx))⟩;have:=h.1;rw[au9,auN];omega
theorem arB(x:aV):Sp.slot 0 x=[]:=by unfold Sp.slot;rw[auU aaV,awx,avP];rfl
theorem Wl:OK yg.e:=by
 refine PA.ok mixed (aB [rP.e,(y7,.pure vG),(uF,.pure qK),(FX,.pure Dc)] ⟨IJ,⟨Oq,L8⟩,⟨yt,BN⟩,⟨KW,X7⟩,trivial⟩) H0 aa1 (show∀s,yg.goal (IK s) (s,())from ?_);intro s hin hp;dsimp only[yg]at hp ⊢;have hp:mW s:=hp;have hl:=XL hp;dsimp only[IK];rw[show([10]:List UInt8).getD 0 0=10 from rfl,show(1:Int).toNat=1 from rfl,show(0:Int).toNat=0 from rfl];refine⟨⟨aaV,.inr rfl⟩,af (λh=>?_) λh=>?_⟩
 .have h:=fE h;unfold cO;rw[auU aaV];rfl
 have h:=fV h;have h2:2<=(Sp.pieces 10 s).length:=aaV;have hc:=hp.1;have ew:IntKind.i64.wrap (((Sp.pieces 10 s).length:Int)-1)=(((Sp.pieces 10 s).length-1:Nat):Int):=by rw[wrap_in aaV];omega
 have ei:List.drop 1 (List.take ((Sp.pieces 10 s).length-1) (Sp.pieces 10 s))=Sp.inner (Sp.pieces 10 s):=rfl;have hne:s≠[]:=λe=>by rw[e]at h2;exact absurd h2 abV
 have hn:aW ((Sp.pieces 10 s).getD 0 ([],())).1=false->decide (Sp.slot (Sp.parseNum ((Sp.pieces 10 s).getD 0 ([],())).1) (Sp.dec (Sp.inner (Sp.pieces 10 s))).1=s)=false:=λe=>by rw[AA e,arB];exact auU λe2=>hne e2.symm
 have hd:cO s=bif (Sp.dec (Sp.inner (Sp.pieces 10 s))).2&&decide (Sp.slot (Sp.parseNum ((Sp.pieces 10 s).getD 0 ([],())).1) (Sp.dec (Sp.inner (Sp.pieces 10 s))).1=s)then(Sp.parseNum ((Sp.pieces 10 s).getD 0 ([],())).1,(Sp.dec (Sp.inner (Sp.pieces 10 s))).1,true)else(0,cu,false):=by unfold cO;rw[auS h2];rfl
 rw[ew,auW,ei,hd];refine⟨⟨abV,aaV⟩,trivial,⟨abV,aaV,aaV⟩,aff hp,af (λg=>?_) λg=>af (λg2=>?_) λg2=>⟨afg _,af (λg3=>?_) λg3=>?_⟩⟩
 .rw[hn (iZ g),avP];rfl
 .rw[iZ g2];rfl
 .have g3:(Sp.slot (Sp.parseNum ((Sp.pieces 10 s).getD 0 ([],())).1) (Sp.dec (Sp.inner (Sp.pieces 10 s))).1==s)=false:=iZ g3;rw[auU (auD.1 g3),avP];rfl
 .have g3:(Sp.slot (Sp.parseNum ((Sp.pieces 10 s).getD 0 ([],())).1) (Sp.dec (Sp.inner (Sp.pieces 10 s))).1==s)=true:=fB g3;rw[auS (au5.1 g3),fB g2];rfl
end Go.Proofs.Tryz
namespace Go.Proofs.Tryz
open Go Go.Fw Go.RowKit Sp
set_option maxRecDepth 100000
theorem anM(s:List UInt8)(hs:s.length<=1048576)(w:World)(hG:G.ok w):Calls prog 110 #[.string ⟨s.toArray⟩] w λe w'=>
 ∃a c,e=.returned (.tuple #[.slice a (gG s).length c,.bool (jv s)])/\FW w'.heap.size w' (.slice a (gG s).length c) (gG s)/\Below w.heap.size w w':=by
 have hc:fD prog G 110 (ig lg.sh lg.bH lg.F):=GV.1;refine(hc [.sv (.one (.str s))] (s.length<=1048576) _ 0 (λ_=>True) #[.string ⟨s.toArray⟩] w rfl hs hG ⟨⟨rfl,acz⟩,trivial⟩).mono ?_;rintro e w' ⟨v,vals,rfl,h1,h2,h3,h4,h5,h6,_,_⟩;obtain⟨vs,rfl,h7⟩:=h6;obtain⟨l⟩:=vs
 match l,h7 with
 |[x,y],h7=>obtain⟨hx,hy,_⟩:=h7;have hx:bY w'.heap _ (.sl aT dJ) x (gG s):=hx;have hy:y=.bool (jv s):=hy;obtain⟨a,c,ex⟩:=lW hx;rw[ex]at hx;rw[hy,ex];exact⟨a,c,rfl,bY.mono (λb hb=>⟨hb.1.1,rfl⟩) _ _ _ hx,h1,h2,h3,h4,h5⟩
theorem CO{w:World}{v:Value}{f:Sp.LS}(hv:FW w.heap.size w v f){i:Int}(h0:0<=i)(h1:i<=100000)(hG:G.ok w):Calls prog 111 #[v,.int .i64 i] w λe w'=>e=.returned (.string ⟨(Sp.wordAt f i).toArray⟩)/\Below w.heap.size w w':=by have hc:fD prog G 111 (ig lQ.sh lQ.bH lQ.F):=Gg.1;refine(hc [.sv (.one (.sl aT dJ f false)),.sv (.one (.int .i64 i))] (0<=i) _ 0 (λ_=>True) #[v,.int .i64 i] w rfl h0 hG ⟨wX hv,⟨rfl,by show -9223372036854775808<=i;omega,by show i<=9223372036854775807;omega⟩,trivial⟩).mono ?_;rintro e w' ⟨v,vals,rfl,h1,h2,h3,h4,h5,h6,_,_⟩;have h6:v=.string ⟨(Sp.wordAt f i).toArray⟩/\_:=h6;exact⟨by rw[h6.1],h1,h2,h3,h4,h5⟩
theorem XM{w:World}{v:Value}{f:Sp.LS}(hv:FW w.heap.size w v f){i:Int}(h0:0<=i)(h1:i<=100000)(hG:G.ok w):Calls prog 112 #[v,.int .i64 i] w λe w'=>e=.returned (.int .i64 (Sp.numAt f i))/\Below w.heap.size w w':=by have hc:fD prog G 112 (ig vO.sh vO.bH vO.F):=ad1.1;refine(hc [.sv (.one (.sl aT dJ f false)),.sv (.one (.int .i64 i))] (0<=i) _ 0 (λ_=>True) #[v,.int .i64 i] w rfl h0 hG ⟨wX hv,⟨rfl,by show -9223372036854775808<=i;omega,by show i<=9223372036854775807;omega⟩,trivial⟩).mono ?_;rintro e w' ⟨v,vals,rfl,h1,h2,h3,h4,h5,h6,_,_⟩;have h6:v=.int .i64 (Sp.numAt f i)/\_:=h6;exact⟨by rw[h6.1],h1,h2,h3,h4,h5⟩
theorem anN(s:List UInt8)(hs:s.length<=1048576)(w:World)(hG:G.ok w):Calls prog 113 #[.string ⟨s.toArray⟩] w λe w'=>
 e=.returned (.tuple #[.agg #[.int .i64 (aU s).1.1,.int .i64 (aU s).1.2.1,.string ⟨(aU s).1.2.2.1.toArray⟩],.bool (aU s).2])/\Below w.heap.size w w'/\sV (aU s).1.1/\sV (aU s).1.2.1/\(aU s).1.2.2.1.length<=maxLen:=by
 have hc:fD prog G 113 (ig kH.sh kH.bH kH.F):=IL.1;refine(hc [.sv (.one (.str s))] (s.length<=1048576) _ 0 (λ_=>True) #[.string ⟨s.toArray⟩] w rfl hs hG ⟨⟨rfl,acz⟩,trivial⟩).mono ?_;rintro e w' ⟨v,vals,rfl,h1,h2,h3,h4,h5,h6,_,_⟩;obtain⟨vs,rfl,h7⟩:=h6;obtain⟨l⟩:=vs
 match l,h7 with
 |[a,b],h7=>
  obtain⟨⟨us,ea,h8⟩,h9,_⟩:=h7;obtain⟨ul⟩:=us
  match ul,h8 with
  |[x,y,z],h8=>obtain⟨x1,y1,z1,_⟩:=h8;have h9:b=.bool (aU s).2:=h9;rw[ea,h9,x1.1,y1.1,z1.1];exact⟨rfl,⟨h1,h2,h3,h4,h5⟩,x1.2,y1.2,z1.2⟩
theorem anO(s:List UInt8)(hs:s.length<=1048576)(w:World)(hG:G.ok w):Calls prog 114 #[.string ⟨s.toArray⟩] w λe w'=>
 ∃a c,e=.returned (.tuple #[.slice a (fJ s).length c,.bool (gq s)])/\Below w.heap.size w w'/\bY w'.heap (λb=>w.heap.size<=b/\b<w'.heap.size) (.sl aJ bD) (.slice a (fJ s).length c) (fJ s):=by
 have hcon:fD prog G 114 (ig o7.sh o7.bH o7.F):=Wn.1;refine(hcon [.sv (.one (.str s))] (s.length<=1048576) _ 0 (λ_=>False) #[.string ⟨s.toArray⟩] w rfl hs hG ⟨⟨rfl,acz⟩,trivial⟩).mono ?_;rintro e w' ⟨v,vals,rfl,h1,h2,h3,h4,h5,h6,_,_⟩;obtain⟨vs,rfl,h7⟩:=h6;obtain⟨l⟩:=vs
 match l,h7 with
 |[x,y],h7=>obtain⟨hx,hy,_⟩:=h7;have hx:bY w'.heap _ (.sl aJ bD) x (fJ s):=hx;have hy:y=.bool (gq s):=hy;obtain⟨a,c,ex⟩:=lW hx;rw[ex]at hx;rw[hy,ex];exact⟨a,c,rfl,⟨h1,h2,h3,h4,h5⟩,bY.mono (λb hb=>⟨⟨axV hb.1.2.1,hb.1.1⟩,rfl⟩) _ _ _ hx⟩
theorem apr(v:Value)(f:Sp.LS)(w:World)(hv:FW w.heap.size w v f)(hf:f.length<=1000)(hj:(gm f).length<=2097152)(hG:G.ok w):Calls prog 115 #[v] w λe w'=>
 e=.returned (.string ⟨(gm f).toArray⟩)/\Below w.heap.size w w':=by
 have hcon:fD prog G 115 (ig ql.sh ql.bH ql.F):=NG.1;refine(hcon [.sv (.one (.sl aT dJ f false))] (f.length<=1000/\(gm f).length<=2097152) _ 0 (λ_=>True) #[v] w rfl ⟨hf,hj⟩ hG ⟨wX hv,trivial⟩).mono ?_;rintro e w' ⟨v,vals,rfl,h1,h2,h3,h4,h5,h6,_,_⟩;have h6:v=.string ⟨(gm f).toArray⟩/\_:=h6;rw[h6.1];exact⟨rfl,h1,h2,h3,h4,h5⟩
def Back(B:Nat)(W w':World)(e:Ending)(x:aV):Prop:=∃va vl vd F,e=.returned (Gf va vl vd x.2.2.1)/\Sn B w' va vl vd x F/\Kp B B W w'
theorem RQ{B:Nat}{W w:World}(hB:B<=W.heap.size)(k:Below W.heap.size W w):Kp B B W w:=⟨k.os,k.tape,k.output,k.size,λb hb _=>k.block b aaV⟩
theorem Ot{line:List UInt8}:(gG line).length<=24/\∀y∈gG line,y.1.length<=600:=by
 unfold gG;cases h:jv line with
 |false=>exact⟨auZ _,λy hy=>arZ⟩
 |true=>have hs:=qG.1 h;refine⟨?_,λy hy=>auK (RS y hy) hs.1⟩;show(Sp.wordsOf line).length<=24;rw[uI];exact hs.2.2
end Go.Proofs.Tryz
namespace Go.Proofs.Tryz
open Go Go.Fw Go.RowKit Sp
set_option maxRecDepth 100000
theorem Sn.far{B:Nat}{w w':World}{va vl vd:Value}{x:aV}{F:Nat->Prop}(h:Sn B w va vl vd x F)(hs:w.heap.size<=w'.heap.size){g:Nat}(hg:¬F g/\va.ownBlock≠some g/\vl.ownBlock≠some g/\vd.ownBlock≠some g)(k:∀b,b<w.heap.size->b≠g->w'.heap[b]? =w.heap[b]?):Sn B w' va vl vd x F:=by obtain⟨g1,g2,g3,g4⟩:=hg;have hf:∀b,F b->w'.heap[b]? =w.heap[b]? :=λb hb=>k b (h.foot b hb).2.1 λe=>g1 (e▸hb);exact⟨h.fa.keep (λb hb=>k b (h.fa.lt hb).2 λe=>g2 (e▸hb)) hf,h.fl.keep (λb hb=>k b (h.fl.lt hb).2 λe=>g3 (e▸hb)) hf,h.fd.keep (λb hb=>k b (h.fd.lt hb).2 λe=>g4 (e▸hb)) hf,h.nx,h.ne,λb hb=>⟨(h.foot b hb).1,au6 (h.foot b hb).2.1 hs,(h.foot b hb).2.2⟩⟩
theorem anP{w:World}{g b:Nat}{y0 y1 y2 y3:Value}(h:b≠g):(qp w g y0 y1 y2 y3).heap[b]? =w.heap[b]? :=(mX _ h).trans ((mX _ h).trans ((mX _ h).trans (mX _ h)))
theorem amA{w:World}{g:Nat}{y0 y1 y2 y3:Value}:(qp w g y0 y1 y2 y3).heap.size=w.heap.size:=by simp[qp,World.setCell]
theorem Kp.high{B g k:Nat}{W w:World}{v:Value}(h:Kp B B W w)(hg:B<=g):Kp B B W (w.setCell ⟨g,k,none⟩ v):=
 ⟨h.os,h.tape,h.output,by simpa[World.setCell]using h.size,λb hb hn=>(mX v (show b≠g from aaV)).trans (h.block b hb hn)⟩
theorem Kp.qp{B g:Nat}{W w:World}{y0 y1 y2 y3:Value}(h:Kp B B W w)(hg:B<=g):Kp B B W (qp w g y0 y1 y2 y3):=(((h.high hg).high hg).high hg).high hg
theorem arC(W:World)(o:Obj):Below W.heap.size W ((W.alloc o).alloc (Obj.cells #[.slice none 0 0,.slice none 0 0,.int .i64 0,.slice none 0 0] 33 (0,0)))/\((W.alloc o).alloc (Obj.cells #[.slice none 0 0,.slice none 0 0,.int .i64 0,.slice none 0 0] 33 (0,0))).heap[W.heap.size]? =some o/\
 ((W.alloc o).alloc (Obj.cells #[.slice none 0 0,.slice none 0 0,.int .i64 0,.slice none 0 0] 33 (0,0))).heap[W.heap.size+1]? =some (Obj.cells #[.slice none 0 0,.slice none 0 0,.int .i64 0,.slice none 0 0] 33 (0,0))/\((W.alloc o).alloc (Obj.cells #[.slice none 0 0,.slice none 0 0,.int .i64 0,.slice none 0 0] 33 (0,0))).heap.size=W.heap.size+2:=
 ⟨below2 W o _,box1 W o _,anI W o _,aaj W o _⟩
theorem Sn.high{B:Nat}{w:World}{va vl vd:Value}{x:aV}{F:Nat->Prop}(h:Sn B w va vl vd x F)(n:Nat)(hn:w.heap.size<=n):¬F n/\va.ownBlock≠some n/\vl.ownBlock≠some n/\vd.ownBlock≠some n:=
 ⟨(λe=>by have:=(h.foot n e).2.1;omega),(λe=>by have:=(h.fa.lt e).2;omega),(λe=>by have:=(h.fl.lt e).2;omega),λe=>by have:=(h.fd.lt e).2;omega⟩
theorem abW{own:Option Nat}{g H:Nat}{W:World}(h:own=some g\/g=H)(ho:∀b,own=some b->b<W.heap.size)(hH:W.heap.size+2<=H):∀n,W.heap.size<=n->n<=W.heap.size+1->some g≠some n:=λn h1 h2 e=>by
 cases e;rcases h with h|h
 .have:=ho _ h;omega
 .omega
theorem abX{B k:Nat}{W w:World}{x:aV}{F:Nat->Prop}{va vl vd x0 x1 x2 x3:Value}{t:TypeId}(v y0 y1 y2 y3:Value)(hx:Sn B w va vl vd x F)(hk:Kp B B W w)(hB:B<=W.heap.size)
 (o0:∀n,W.heap.size<=n->n<=W.heap.size+1->¬F n/\va.ownBlock≠some n/\vl.ownBlock≠some n/\vd.ownBlock≠some n) (q:w.heap[W.heap.size+1]? =some (.cells #[x0,x1,x2,x3] t (0,0))):
 (qp (w.setCell ⟨W.heap.size,k,none⟩ v) (W.heap.size+1) y0 y1 y2 y3).heap[W.heap.size+1]? =some (.cells #[y0,y1,y2,y3] t (0,0))/\Sn B (qp (w.setCell ⟨W.heap.size,k,none⟩ v) (W.heap.size+1) y0 y1 y2 y3) va vl vd x F/\Kp B B W (qp (w.setCell ⟨W.heap.size,k,none⟩ v) (W.heap.size+1) y0 y1 y2 y3):=by
 have q9:=(mX (w:=w) (p:=⟨W.heap.size,k,none⟩) (b:=W.heap.size+1) v (by show W.heap.size+1≠W.heap.size;omega)).trans q;have s7:=hx.far (w':=w.setCell ⟨W.heap.size,k,none⟩ v) aqr (o0 _ (auH _) aaV) λb _ hb=>mX _ hb;exact⟨uH q9,s7.far (axP amA.symm) (o0 _ aaV (auH _)) λb _ hb=>anP hb,(hk.high aaV).qp aaV⟩
end Go.Proofs.Tryz
namespace Go.Proofs.Tryz
open Go Go.Fw Go.RowKit Sp
set_option maxRecDepth 100000
theorem tH{f:Sp.LS}(h:∀y∈f,y.1.length<=600)(i:Int):(Sp.wordAt f i).length<=600:=by
 by_cases hh:i<(f.length:Int)
 .rw[pK hh,auF];cases e:f[i.toNat]? with
  |none=>exact auZ _
  |some x=>exact h x (avk e)
 .rw[pO aaV];exact auZ _
theorem tJ(f:Sp.LS)(k i:Nat):Sp.wordAt (f.drop k) (i:Int)=Sp.wordAt f ((k+i:Nat):Int):=by
 rcases au2 (k+i) f.length with h|h
 .rw[pK (show(i:Int)<((f.drop k).length:Int)from amr),pK (show((k+i:Nat):Int)<(f.length:Int)from aaV),auW,auW];simp[auF,avg]
 .rw[pO (show((f.drop k).length:Int)<=(i:Int)from amr),pO (show(f.length:Int)<=((k+i:Nat):Int)from aaV)]
theorem anV(f:Sp.LS):CP (Sp.numAt f 1) (f.drop 2)=(Sp.numAt f 1,Sp.numAt f 2,Sp.wordAt f 3==[115],Sp.numAt f 4,iI (f.drop 5),()):=by
 unfold CP Sp.numAt;have h0:=tJ f 2 0;have h1:=tJ f 2 1;have h2:=tJ f 2 2;have h3:(f.drop 2).drop 3=f.drop 5:=by rw[awc]
 rw[h3,show Sp.wordAt (f.drop 2) 0=Sp.wordAt f 2 from h0,show Sp.wordAt (f.drop 2) 1=Sp.wordAt f 3 from h1,show Sp.wordAt (f.drop 2) 2=Sp.wordAt f 4 from h2]
def zeroAt:Value:=.agg #[.string ⟨#[]⟩,.int .i64 0,.int .i64 0,.string ⟨#[]⟩]
theorem infoAt:(prog.info? 102).map (λi=>(i.zero,i.size,i.bytes))=some (some zeroAt,4,48):=aa1
theorem ak8(f:Sp.LS)(m:Nat)(h:m<f.length):iI (f.drop m)=((f.getD m ([],())).1,(aU (Sp.wordAt f ((m:Int)+1))).1)::iI (f.drop (m+2)):=by
 rcases au2 (m+1) f.length with h2|h2
 .rw[ahQ h2,show((m:Int)+1)=((m+1:Nat):Int)from aaV,← IU h2];rfl
 .rw[drop_cons f m ([],()) h,avU h2,avU aaV,pO aaV];rfl
structure AtM(f:Sp.LS)(A:List aY)(m:Nat)(al:List aY):Prop where
 hi:m=5\/m<=f.length+1
 ln:2*al.length+5=m
 eq:al++iI (f.drop m)=A
theorem AtM.step{f:Sp.LS}{A:List aY}{m:Nat}{al:List aY}(h:AtM f A m al)(hlt:m<f.length):AtM f A (m+2) (al++[((f.getD m ([],())).1,(aU (Sp.wordAt f ((m:Int)+1))).1)]):=by obtain⟨h1,h2,h3⟩:=h;refine⟨.inr aaV,by rw[auB,auE,auI];omega,?_⟩;rw[ak8 f m hlt]at h3;rw[auR];exact h3
theorem AtM.done{f:Sp.LS}{A:List aY}{m:Nat}{al:List aY}(h:AtM f A m al)(hge:f.length<=m):A=al:=by obtain⟨h1,h2,h3⟩:=h;rw[avU hge]at h3;rw[← h3];exact au7 _
theorem below_grown{n:Nat}{W w w':World}{o:Option Nat}(h:Below n W w)(k:w.grownBy w' o)(hn:n<=W.heap.size)(ho:∀b,o=some b->n<=b):Below n W w':=
 ⟨k.os.trans h.os,k.tape.trans h.tape,k.output.trans h.output,auK h.size k.size,λb hb=>(k.block b (by have:=h.size;omega) λe=>by have:=ho b e.symm;omega).trans (h.block b hb)⟩
structure Hold(P:Prop):Prop where h:P
set_option maxHeartbeats 64000000 in
theorem anU(B:Nat)(W:World)(va vl vd:Value)(x:aV)(F:Nat->Prop)(line:List UInt8)(hl:line.length<=1048576)(hG:G.ok W)(hS:Sn B W va vl vd x F)(hB:B<=W.heap.size)(hz:Ui 200 x):
 Calls prog 64 #[Gf va vl vd x.2.2.1,.string ⟨line.toArray⟩] W λe w'=>Back B W w' e (oZ x (gG line)):=by
 have mixed:=Tryz.mixed;obtain⟨aa,ca,rfl⟩:=hS.fa.form;obtain⟨ab,cb,rfl⟩:=hS.fl.form;obtain⟨ad,cd,rfl⟩:=hS.fd.form;have sf:=λw hG=>anM line hl w hG;have hsm:=@Ot line;unfold Gf;generalize gG line=f at sf hsm ⊢;generalize jv line=sok at sf;have lp:=λ(w:World)(v:Value)(hv:FW w.heap.size w v f) hG=>CO hv (i:=0) abV abV hG;obtain⟨x0,hx0,hx1⟩:∃x0,Hid (x0=Sp.wordAt f 0)/\x0=Sp.wordAt f 0:=⟨_,rfl,rfl⟩;rw[← hx1]at lp;clear hx1;obtain⟨y,hy,hy1⟩:∃y,Hid (y=oZ x f)/\oZ x f=y:=⟨_,rfl,rfl⟩;rw[hy1];clear hy1;obtain⟨hbase,hN0,hN1,hsz2⟩:=arC W (Obj.cells #[.slice aa x.1.length ca,.slice ab x.2.1.length cb,.int .i64 x.2.2.1,.slice ad x.2.2.2.1.length cd] 33 (0,0));have sf1:=sf _ (dL hG hbase);clear sf
 go_enter Tryz.func64,Tryz.ntmps64
 go_wp2_with (first
  |(go_at_call 110;refine avd sf1 ?_;rintro e w1 ⟨a1,c1,rfl,hf1,hb1⟩;have hb1':=hbase.trans (hb1.mono hbase.size);have hG1:=dL hG hb1';clear sf1)
  |(go_at_call 111;refine avd (lp w1 _ hf1 hG1) ?_;rintro e w2 ⟨rfl,hb2⟩;have vN:=hb1.trans (hb2.mono hb1.size);have hb2':=hbase.trans (vN.mono hbase.size);have hG2:=dL hG hb2';have hf2:=hf1.keep' hb2;clear lp;refine Hold.h ?_))
 constructor;have auc:=hb1.size;by_cases e0:x0=gZ
 .have h0:Sp.wordAt f 0=gZ:=hx0.out.symm.trans e0;have e0:x0=[102,105,101,108,100]:=e0;subst e0;clear hx0;by_cases h2:Sp.wordAt f 2=JL
  .have hy2:y=(x.1++[(Sp.wordAt f 1,1,())],x.2.1,x.2.2.1,x.2.2.2.1,()):=hy.out.trans (by unfold oZ;rw[h0,h2];rfl);clear hy;have hz:=hz.1;have hw1:(Sp.wordAt f 1).length<=600:=tH hsm.2 1;have NI:=λ(w:World)(v:Value)(hv:FW w.heap.size w v f) hG=>CO hv (i:=1) abV abV hG;have lp2:=λ(w:World)(v:Value)(hv:FW w.heap.size w v f) hG=>CO hv (i:=2) abV abV hG;generalize Sp.wordAt f 1=nm at hw1 NI hy2;rw[show Sp.wordAt f 2=[105,110,116]from h2]at lp2;obtain⟨i0,hi,hz0,hz1,hz2⟩:=awK ahR;have hqm:x.1.length+1<=maxLen:=acz;have ny:(x.1.length+1)*24<=140737488355328:=aaV;obtain⟨xs,hown,hrep⟩:=hS.fa;have hown:W.ownsRow B 54 2 (.slice aa x.1.length ca) x.1.length xs:=hown;have hrep:∀i z,x.1[i]? =some z->aH W.heap F dh ((xs.drop (i*2)).take 2) z:=hrep;have Gh:∀b,(Value.slice aa x.1.length ca).ownBlock=some b->b<W.heap.size:=λb e=>(hS.fa.lt e).2;subst hy2
   go_wp2_with (first
    |(go_at_call 111;refine avd (NI w2 _ hf2 hG2) ?_;rintro e w3 ⟨rfl,hb3⟩;have qw:=vN.trans (hb3.mono vN.size);have Ht:=(Below.refl w3.heap.size w3).alloc (auH _) (Obj.cells #[.string ⟨nm.toArray⟩,.int .i64 2] 54 (0,0));have hrow3:=avo w3 (Obj.cells #[.string ⟨nm.toArray⟩,.int .i64 2] 54 (0,0));have zW:=qw.trans (Ht.mono qw.size);have RX:=hbase.trans (zW.mono hbase.size);have hf3:=(hf2.keep' hb3).keep' Ht;clear NI)
    |(go_at_call 111;refine avd (lp2 _ _ hf3 (dL hG RX)) ?_;rintro e w4 ⟨rfl,hb4⟩;have hrow4:=(hb4.block w3.heap.size abZ).trans hrow3;have aqi:=Ht.size;have xJ:=zW.trans (hb4.mono zW.size);have aam:=hbase.trans (xJ.mono hbase.size);have t0:=aN hrow4 0;have t1:=aN hrow4 1;have u0:=dH hrow4 0;have u1:=dH hrow4 1;have t0:w4.cell? ⟨w3.heap.size,0,none⟩=some (.string ⟨nm.toArray⟩):=t0;have t1:w4.cell? ⟨w3.heap.size,1,none⟩=some (.int .i64 2):=t1;have anW:=qw.size;have q0:=(xJ.block W.heap.size aaV).trans hN0;have q1:=(xJ.block (W.heap.size+1) aaV).trans hN1;obtain⟨⟨d0,d1,d2,d3⟩,z0,z1,z2,z3⟩:=four q0)
    |(at_builtin;have hbs:Below W.heap.size W (w4.setCell ⟨w3.heap.size,1,none⟩ (.int .i64 1)):=aam.setCell (p:=⟨w3.heap.size,1,none⟩) (show W.heap.size<=w3.heap.size from aaV) _;have hb6:Below W.heap.size W ((w4.setCell ⟨w3.heap.size,1,none⟩ (.int .i64 1)).alloc (Obj.cells #[.string ⟨nm.toArray⟩,.int .i64 1] 54 (0,0))):=hbs.alloc hbs.size _;have hxs:=uJ (w':=(w4.setCell ⟨w3.heap.size,1,none⟩ (.int .i64 1)).alloc (Obj.cells #[.string ⟨nm.toArray⟩,.int .i64 1] 54 (0,0))) hown λb e=>hb6.block b (Gh b e);have Qd:=avo (w4.setCell ⟨w3.heap.size,1,none⟩ (.int .i64 1)) (Obj.cells #[.string ⟨nm.toArray⟩,.int .i64 1] 54 (0,0));have RY:(w4.setCell ⟨w3.heap.size,1,none⟩ (.int .i64 1)).heap.size=w4.heap.size:=(by first|rfl|simp);rw[RY]at Qd;refine wpList_append_lies _ rfl _ _ 26 aqk B 54 i0 Ws 2 24 Tryz.underlying26 hi hz0 hz1 hz2 rfl abV (.slice aa x.1.length ca) x.1.length xs aqk hxs ⟨w4.heap.size,0,none⟩ 1 1 [.string ⟨nm.toArray⟩,.int .i64 1] aqk rfl (World.news_of_block Qd) afF abV hqm ny (auK hB hb6.size) _ rfl ?_;intro g cap w6 hown6 hgrow6 Gi RZ;have hnN:∀b,W.heap.size<=b->(Value.slice aa x.1.length ca).ownBlock≠some b:=λb hb e=>by have:=Gh b e;omega
      have hsz5:=hbs.size;have hq5:∀b o,b<=W.heap.size+1->W.heap.size<=b->w4.heap[b]? =some o->w6.heap[b]? =some o:=λb o hb hb2 ho=>(hgrow6.block b (by have:=(auL.1 ho).1;simp;(try simp[World.setCell]);omega) (λe=>hnN b hb2 e.symm)).trans ((heap_alloc_old (w4.setCell ⟨w3.heap.size,1,none⟩ (.int .i64 1)) _ (by have:=(auL.1 ho).1;(try simp[World.setCell]);omega)).trans ((mX (w:=w4) (p:=⟨w3.heap.size,1,none⟩) _ arT).trans ho));have q0':=hq5 _ _ aaV (auH _) q0;have q1':=hq5 _ _ (auH _) aaV q1;clear d0 d1 d2 d3 z0 z1 z2 z3;obtain⟨⟨d0,d1,d2,d3⟩,z0,z1,z2,z3⟩:=four q0';obtain⟨⟨p0,p1,p2,p3⟩,y0,y1,y2,y3⟩:=four q1'))
   all_goals (try simp only[Exit.inBlock,Exit.then])
   have hlw:W.heap.size+2<=w3.heap.size:=aaV;have hx:=hS.agx (y:=(nm,1,())) (N:=λ_=>False) hB hb6 hown hrep hown6 hgrow6 Gi RZ (λb hb=>hb.elim) ⟨_,_,rfl,⟨rfl,acz⟩,_,_,rfl,⟨rfl,abV,abV⟩,rfl⟩;have hg0:=abW Gi Gh ajD;have o0:=λn(h1:W.heap.size<=n)(h2:n<=W.heap.size+1)=>(⟨λe=>e.elim (hS.high n h1).1 id,hg0 n h1 h2,(hS.high n h1).2.2.1,(hS.high n h1).2.2.2⟩:¬(F n\/False)/\_/\_/\_);have k6:Kp B B W w6:=(RQ hB hb6).grown hB hgrow6 λb e=>(hS.fa.lt e).1;obtain⟨r9,s9,k9⟩:=abX (k:=0) (.slice (some ⟨g,0,none⟩) (x.1.length+1) cap) (.slice (some ⟨g,0,none⟩) (x.1.length+1) cap) (.slice ab x.2.1.length cb) (.int .i64 x.2.2.1) (.slice ad x.2.2.2.1.length cd) hx k6 hB o0 q1';unfold qp at r9 s9 k9;exact av1 (awz rfl _ _ (W.heap.size+1) _ _ _ _ aqk r9 Tryz.underlying33 rfl aa1) rfl ⟨_,_,_,_,rfl,s9,k9⟩
  .have hy2:y=(x.1++[(Sp.wordAt f 1,2,())],x.2.1,x.2.2.1,x.2.2.2.1,()):=hy.out.trans (by unfold oZ;rw[h0,auD.2 h2];rfl);clear hy;have hz:=hz.1;have hw1:(Sp.wordAt f 1).length<=600:=tH hsm.2 1;have NI:=λ(w:World)(v:Value)(hv:FW w.heap.size w v f) hG=>CO hv (i:=1) abV abV hG;have lp2:=λ(w:World)(v:Value)(hv:FW w.heap.size w v f) hG=>CO hv (i:=2) abV abV hG;generalize Sp.wordAt f 1=nm at hw1 NI hy2;obtain⟨k2,hk2,hk3⟩:∃k2,Hid (k2=Sp.wordAt f 2)/\k2=Sp.wordAt f 2:=⟨_,rfl,rfl⟩;rw[← hk3]at lp2 h2;clear hk3;have g2:(k2==[105,110,116])=false:=auD.2 h2;obtain⟨i0,hi,hz0,hz1,hz2⟩:=awK ahR;have hqm:x.1.length+1<=maxLen:=acz;have ny:(x.1.length+1)*24<=140737488355328:=aaV;obtain⟨xs,hown,hrep⟩:=hS.fa;have hown:W.ownsRow B 54 2 (.slice aa x.1.length ca) x.1.length xs:=hown;have hrep:∀i z,x.1[i]? =some z->aH W.heap F dh ((xs.drop (i*2)).take 2) z:=hrep;have Gh:∀b,(Value.slice aa x.1.length ca).ownBlock=some b->b<W.heap.size:=λb e=>(hS.fa.lt e).2;subst hy2
   go_wp2_with (first
    |(go_at_call 111;refine avd (NI w2 _ hf2 hG2) ?_;rintro e w3 ⟨rfl,hb3⟩;have qw:=vN.trans (hb3.mono vN.size);have Ht:=(Below.refl w3.heap.size w3).alloc (auH _) (Obj.cells #[.string ⟨nm.toArray⟩,.int .i64 2] 54 (0,0));have hrow3:=avo w3 (Obj.cells #[.string ⟨nm.toArray⟩,.int .i64 2] 54 (0,0));have zW:=qw.trans (Ht.mono qw.size);have RX:=hbase.trans (zW.mono hbase.size);have hf3:=(hf2.keep' hb3).keep' Ht;clear NI)
    |(go_at_call 111;refine avd (lp2 _ _ hf3 (dL hG RX)) ?_;rintro e w4 ⟨rfl,hb4⟩;have hrow4:=(hb4.block w3.heap.size abZ).trans hrow3;have aqi:=Ht.size;have xJ:=zW.trans (hb4.mono zW.size);have aam:=hbase.trans (xJ.mono hbase.size);have t0:=aN hrow4 0;have t1:=aN hrow4 1;have u0:=dH hrow4 0;have u1:=dH hrow4 1;have t0:w4.cell? ⟨w3.heap.size,0,none⟩=some (.string ⟨nm.toArray⟩):=t0;have t1:w4.cell? ⟨w3.heap.size,1,none⟩=some (.int .i64 2):=t1;have anW:=qw.size;have q0:=(xJ.block W.heap.size aaV).trans hN0;have q1:=(xJ.block (W.heap.size+1) aaV).trans hN1;obtain⟨⟨d0,d1,d2,d3⟩,z0,z1,z2,z3⟩:=four q0)
    |(at_builtin;have hbs:Below W.heap.size W w4:=aam;have hb6:Below W.heap.size W (w4.alloc (Obj.cells #[.string ⟨nm.toArray⟩,.int .i64 2] 54 (0,0))):=hbs.alloc hbs.size _;have hxs:=uJ (w':=w4.alloc (Obj.cells #[.string ⟨nm.toArray⟩,.int .i64 2] 54 (0,0))) hown λb e=>hb6.block b (Gh b e);have Qd:=avo w4 (Obj.cells #[.string ⟨nm.toArray⟩,.int .i64 2] 54 (0,0));have RY:w4.heap.size=w4.heap.size:=(by first|rfl|simp);rw[RY]at Qd;refine wpList_append_lies _ rfl _ _ 26 aqk B 54 i0 Ws 2 24 Tryz.underlying26 hi hz0 hz1 hz2 rfl abV (.slice aa x.1.length ca) x.1.length xs aqk hxs ⟨w4.heap.size,0,none⟩ 1 1 [.string ⟨nm.toArray⟩,.int .i64 2] aqk rfl (World.news_of_block Qd) afF abV hqm ny (auK hB hb6.size) _ rfl ?_;intro g cap w6 hown6 hgrow6 Gi RZ;have hnN:∀b,W.heap.size<=b->(Value.slice aa x.1.length ca).ownBlock≠some b:=λb hb e=>by have:=Gh b e;omega
      have hsz5:=hbs.size;have hq5:∀b o,b<=W.heap.size+1->W.heap.size<=b->w4.heap[b]? =some o->w6.heap[b]? =some o:=λb o hb hb2 ho=>(hgrow6.block b (by have:=(auL.1 ho).1;simp;(try simp[World.setCell]);omega) (λe=>hnN b hb2 e.symm)).trans ((heap_alloc_old w4 _ (by have:=(auL.1 ho).1;(try simp[World.setCell]);omega)).trans ((rfl:w4.heap[b]? =w4.heap[b]?).trans ho));have q0':=hq5 _ _ aaV (auH _) q0;have q1':=hq5 _ _ (auH _) aaV q1;clear d0 d1 d2 d3 z0 z1 z2 z3;obtain⟨⟨d0,d1,d2,d3⟩,z0,z1,z2,z3⟩:=four q0';obtain⟨⟨p0,p1,p2,p3⟩,y0,y1,y2,y3⟩:=four q1'))
   all_goals (try simp only[Exit.inBlock,Exit.then])
   have hlw:W.heap.size+2<=w3.heap.size:=aaV;have hx:=hS.agx (y:=(nm,2,())) (N:=λ_=>False) hB hb6 hown hrep hown6 hgrow6 Gi RZ (λb hb=>hb.elim) ⟨_,_,rfl,⟨rfl,acz⟩,_,_,rfl,⟨rfl,abV,abV⟩,rfl⟩;have hg0:=abW Gi Gh ajD;have o0:=λn(h1:W.heap.size<=n)(h2:n<=W.heap.size+1)=>(⟨λe=>e.elim (hS.high n h1).1 id,hg0 n h1 h2,(hS.high n h1).2.2.1,(hS.high n h1).2.2.2⟩:¬(F n\/False)/\_/\_/\_);have k6:Kp B B W w6:=(RQ hB hb6).grown hB hgrow6 λb e=>(hS.fa.lt e).1;obtain⟨r9,s9,k9⟩:=abX (k:=0) (.slice (some ⟨g,0,none⟩) (x.1.length+1) cap) (.slice (some ⟨g,0,none⟩) (x.1.length+1) cap) (.slice ab x.2.1.length cb) (.int .i64 x.2.2.1) (.slice ad x.2.2.2.1.length cd) hx k6 hB o0 q1';unfold qp at r9 s9 k9;exact av1 (awz rfl _ _ (W.heap.size+1) _ _ _ _ aqk r9 Tryz.underlying33 rfl aa1) rfl ⟨_,_,_,_,rfl,s9,k9⟩
 have n1:x0≠gZ:=e0;by_cases e0:x0=qg
 .have h0:Sp.wordAt f 0=qg:=hx0.out.symm.trans e0;have e0:x0=[110,101,120,116]:=e0;subst e0;clear hx0;have hy2:y=(x.1,x.2.1,Sp.numAt f 1,x.2.2.2.1,()):=hy.out.trans (by unfold oZ;rw[h0];rfl);clear hy;have hno:sV (Sp.numAt f 1):=Qe _;have ln:=λ(w:World)(v:Value)(hv:FW w.heap.size w v f) hG=>XM hv (i:=1) abV abV hG;generalize Sp.numAt f 1=n at hno ln hy2;subst hy2
  go_wp2_with (first
   |(go_at_call 112;refine avd (ln w2 _ hf2 hG2) ?_;rintro e w3 ⟨rfl,hb3⟩;have qw:=vN.trans (hb3.mono vN.size);have ahS:=hbase.trans (qw.mono hbase.size);have q0:=(qw.block W.heap.size aaV).trans hN0;have q1:=(qw.block (W.heap.size+1) aaV).trans hN1;obtain⟨⟨d0,d1,d2,d3⟩,z0,z1,z2,z3⟩:=four q0;obtain⟨⟨p0,p1,p2,p3⟩,y0,y1,y2,y3⟩:=four q1))
  all_goals (try simp only[Exit.inBlock,Exit.then])
  have q9:=(mX (w:=w3) (p:=⟨W.heap.size,2,none⟩) (b:=W.heap.size+1) (.int .i64 n) (by show W.heap.size+1≠W.heap.size;omega)).trans q1;have b9:=qF (y0:=.slice aa x.1.length ca) (y1:=.slice ab x.2.1.length cb) (y2:=.int .i64 n) (y3:=.slice ad x.2.2.2.1.length cd) (ahS.setCell (p:=⟨W.heap.size,2,none⟩) (auH _) (.int .i64 n)) (show W.heap.size<=W.heap.size+1 from aaV);have r9:=uH (y0:=.slice aa x.1.length ca) (y1:=.slice ab x.2.1.length cb) (y2:=.int .i64 n) (y3:=.slice ad x.2.2.2.1.length cd) q9;have s9:=(hS.next hno).below b9;have k9:=RQ hB b9;unfold qp at r9 s9 k9;exact av1 (awz rfl _ _ (W.heap.size+1) _ _ _ _ aqk r9 Tryz.underlying33 rfl aa1) rfl ⟨_,_,_,_,rfl,s9,k9⟩
 have n2:x0≠qg:=e0;by_cases e0:x0=jY
 .have h0:Sp.wordAt f 0=jY:=hx0.out.symm.trans e0;have e0:x0=[102,105,108,101]:=e0;subst e0;clear hx0;have hy2:y=(x.1,x.2.1++[CP (Sp.numAt f 1) (f.drop 2)],x.2.2.1,x.2.2.2.1,()):=hy.out.trans (by unfold oZ;rw[h0];rfl);clear hy;have hz:=hz.2.1;rw[anV]at hy2;have hw3:(Sp.wordAt f 3).length<=600:=tH hsm.2 3;have lp3:=λ(w:World)(v:Value)(hv:FW w.heap.size w v f) hG=>CO hv (i:=3) abV abV hG;have ln1:=λ(w:World)(v:Value)(hv:FW w.heap.size w v f) hG=>XM hv (i:=1) abV abV hG;have ln2:=λ(w:World)(v:Value)(hv:FW w.heap.size w v f) hG=>XM hv (i:=2) abV abV hG;have ln4:=λ(w:World)(v:Value)(hv:FW w.heap.size w v f) hG=>XM hv (i:=4) abV abV hG;have hn1:sV (Sp.numAt f 1):=Qe _;have hn2:sV (Sp.numAt f 2):=Qe _;have hn4:sV (Sp.numAt f 4):=Qe _;generalize Sp.numAt f 1=n1 at ln1 hn1 hy2;generalize Sp.numAt f 2=n2 at ln2 hn2 hy2;generalize Sp.numAt f 4=n4 at ln4 hn4 hy2;generalize Sp.wordAt f 3=s3 at lp3 hw3 hy2;obtain⟨sh,hsh⟩:∃sh,(s3==[115])=sh:=⟨_,rfl⟩;rw[hsh]at hy2;generalize hA:iI (f.drop 5)=A at hy2;obtain⟨i0,hi,hz0,hz1,hz2⟩:=awK amG;obtain⟨i1,hi1,hz3,hz4,hz5⟩:=awK infoAt;have hqm:x.2.1.length+1<=maxLen:=acz;have ny:(x.2.1.length+1)*56<=140737488355328:=aaV;obtain⟨xs,hown,hrep⟩:=hS.fl;have hown:W.ownsRow B 51 5 (.slice ab x.2.1.length cb) x.2.1.length xs:=hown;have hrep:∀i z,x.2.1[i]? =some z->aH W.heap F dV ((xs.drop (i*5)).take 5) z:=hrep;have Gh:∀b,(Value.slice ab x.2.1.length cb).ownBlock=some b->b<W.heap.size:=λb e=>(hS.fl.lt e).2;have aud:=hsm.1;subst hy2
  go_wp2_with (first
   |(go_at_call 112;refine avd (ln1 w2 _ hf2 hG2) ?_;rintro e w3 ⟨rfl,hb3⟩;have qw:=vN.trans (hb3.mono vN.size);have hf3:=hf2.keep' hb3;have ahS:=hbase.trans (qw.mono hbase.size);have hG3:=dL hG ahS;clear ln1)
   |(go_at_call 112;refine avd (ln2 w3 _ hf3 hG3) ?_;rintro e w4 ⟨rfl,hb4⟩;have zW:=qw.trans (hb4.mono qw.size);have hf4:=hf3.keep' hb4;have RX:=hbase.trans (zW.mono hbase.size);have hG4:=dL hG RX;clear ln2)
   |(go_at_call 111;refine avd (lp3 w4 _ hf4 hG4) ?_;rintro e w5 ⟨rfl,hb5⟩;have xJ:=zW.trans (hb5.mono zW.size);have hf5:=hf4.keep' hb5;have aam:=hbase.trans (xJ.mono hbase.size);have hG5:=dL hG aam;clear lp3)
   |(go_at_call 112;refine avd (ln4 w5 _ hf5 hG5) ?_;rintro e w6 ⟨rfl,hb6⟩;have hb16:=xJ.trans (hb6.mono xJ.size);have Qc:=hf5.keep' hb6;have anX:=hbase.trans (hb16.mono hbase.size);have hG6:=dL hG anX;clear ln4))
  have aue:=hb16.size
  go_loopw [9] (λi wr=>∃(m:Nat)(al:List aY)(vt:Value),i=.int .i64 (m:Int)/\AtM f A m al/\wr.heap[w6.heap.size]? =some (.cells #[.int .i64 n1,.int .i64 n2,.bool sh,.int .i64 n4,vt] 51 (0,0))/\
   OL wr (w6.heap.size+1) (λ_=>False) 102 fF vt al/\Below w6.heap.size w6 wr/\w6.heap.size+1<=wr.heap.size)
   (λi _=>f.length-(intOf i).toNat)
  case atStart=>exact⟨5,[],.slice none 0 0,rfl,⟨.inl rfl,rfl,hA⟩,avo w6 _,OL.nil,(Below.refl _ w6).alloc (auH _) _,abZ⟩
  case round=>
   obtain⟨m,al,vt,rfl,hat,hrow,hOL,hbr,hsr⟩:=hrel;have anY:=hb16.trans (hbr.mono hb16.size);have agy:=hbase.trans (anY.mono hbase.size);have hGr:G.ok wr:=dL hG agy;have hfr:=Qc.keep' hbr;rcases au2 m f.length with hlt|hge
   .have hlt':((m:Nat):Int)<f.length:=aaV;have hnx:=hat.step hlt;have atT:al.length<=24:=by have:=hat.ln;omega
    clear hat;have lpm:=CO hfr (i:=(m:Int)+1) aaV aaV hGr;have hwm:(Sp.wordAt f ((m:Int)+1)).length<=600:=tH hsm.2 _;have hkm:(f.getD m ([],())).1.length<=600:=hsm.2 _ (getD_mem hlt);obtain⟨b2,o2,rfl,hbl,cw⟩:=FW.cell hfr hlt;generalize (f.getD m ([],())).1=am at hnx hkm cw;generalize Sp.wordAt f ((m:Int)+1)=vm at hnx hwm lpm;have pv:=λw hG=>anN vm aaV w hG;generalize aU vm=z at hnx pv;obtain⟨⟨k,vi,vs,⟨⟩⟩,ok⟩:=z;dsimp only at pv
    go_wp2_with (first
     |(go_at_call 111;refine avd lpm ?_;rintro e w7 ⟨rfl,hb7⟩;have asR:=agy.trans (hb7.mono agy.size))
     |(go_at_call 113;refine avd (pv w7 (dL hG asR)) ?_;rintro e w8 ⟨rfl,hb8,p1,p2,p3⟩))
    have hs7:=hb7.size;have hs8:=hb8.size;have aqn:=hb7.trans (hb8.mono hs7);have agz:=avo w8 (Obj.cells #[.int .i64 k,.int .i64 vi,.string ⟨vs.toArray⟩] 81 (0,0));have anZ:Below w8.heap.size w8 (w8.alloc (Obj.cells #[.int .i64 k,.int .i64 vi,.string ⟨vs.toArray⟩] 81 (0,0))):=(Below.refl _ w8).alloc (auH _) _;generalize w8.alloc (Obj.cells #[.int .i64 k,.int .i64 vi,.string ⟨vs.toArray⟩] 81 (0,0))=w9 at agz anZ ⊢;have hs9:=anZ.size;have ahT:=aqn.trans (anZ.mono aqn.size);have hbox:=(ahT.block w6.heap.size aaV).trans hrow;have uK:w6.heap.size<w9.heap.size:=(auL.1 hbox).1;have e4:w9.cell? ⟨w6.heap.size,4,none⟩=some vt:=aN hbox 4;have v0:w9.cell? ⟨w8.heap.size,0,none⟩=some (.int .i64 k):=aN agz 0;have v1:w9.cell? ⟨w8.heap.size,1,none⟩=some (.int .i64 vi):=aN agz 1;have v2:w9.cell? ⟨w8.heap.size,2,none⟩=some (.string ⟨vs.toArray⟩):=aN agz 2;have cw9:w9.cell? ⟨b2,o2+m,none⟩=some (.string ⟨am.toArray⟩):=(awe (a:=⟨b2,o2+m,none⟩) (ahT.block b2 hbl)).trans cw;have hlt0:∀b,vt.ownBlock=some b->w6.heap.size+1<=b/\b<wr.heap.size:=λb e=>hOL.lt e;obtain⟨ys,hownA,ak9⟩:=hOL;have hownA:wr.ownsRow (w6.heap.size+1) 102 4 vt al.length ys:=hownA;have ak9:∀i z,al[i]? =some z->aH wr.heap (λ_=>False) fF ((ys.drop (i*4)).take 4) z:=ak9;have arD:w9.ownsRow (w6.heap.size+1) 102 4 vt al.length ys:=uJ hownA λb e=>ahT.block b (hlt0 b e).2;have hnB:vt.ownBlock≠some w6.heap.size:=λe=>by have:=(hlt0 _ e).1;omega
    have asT:al.length+1<=maxLen:=acz;have asU:(al.length+1)*48<=140737488355328:=aaV
    go_region_law (refine step_append_lies _ rfl (.tmp 70) (.tmp 77) 49 rfl (w6.heap.size+1) 102 i1 zeroAt 4 48 Tryz.underlying49 hi1 hz3 hz4 hz5 rfl abV vt al.length ys aeF ((awF arD).alloc _) ⟨w9.heap.size,0,none⟩ 1 1 [.string ⟨am.toArray⟩,.int .i64 k,.int .i64 vi,.string ⟨vs.toArray⟩] aeF rfl (World.news_of_block (avo _ _)) (by intro u hu;simp at hu;rcases hu with rfl|rfl|rfl|rfl<;>rfl) abV asT asU aeV _ rfl ?_;intro g cap w10 aqo ad3 atU atV;have an0:=(ad3.block w6.heap.size aeV (λe=>hnB e.symm)).trans ((heap_alloc_old w9.drew _ uK).trans hbox);have k10:w10.cell? ⟨w6.heap.size,4,none⟩=some vt:=aN an0 4;have z10:=dH an0 4)
    all_goals go_wp2
    all_goals
     have hbd:Below w9.heap.size w9 (w9.drew.alloc (Obj.cells #[.string ⟨am.toArray⟩,.int .i64 k,.int .i64 vi,.string ⟨vs.toArray⟩] 102 (0,0))):=((Below.refl _ w9).drew).alloc (auH _) _;have hb0:Below w6.heap.size w6 (w9.drew.alloc (Obj.cells #[.string ⟨am.toArray⟩,.int .i64 k,.int .i64 vi,.string ⟨vs.toArray⟩] 102 (0,0))):=hbr.trans ((ahT.trans (hbd.mono ahT.size)).mono hbr.size);have asV:=below_grown hb0 ad3 (auH _) λb e=>Nat.le_of_succ_le (hlt0 b e).1;have asW:=asV.setCell (p:=⟨w6.heap.size,4,none⟩) (auH _) (.slice (some ⟨g,0,none⟩) (al.length+1) cap);have hO:OL w10 (w6.heap.size+1) (λ_=>False) 102 fF (.slice (some ⟨g,0,none⟩) (al.length+1) cap) (al++[(am,k,vi,vs,())]):=OL.push (r:=fF) (F:=λ_=>False) ak9 hownA.1 aqo (λb hb=>hb.elim) ⟨_,_,rfl,⟨rfl,acz⟩,_,_,rfl,⟨rfl,p1⟩,_,_,rfl,⟨rfl,p2⟩,_,_,rfl,⟨rfl,p3⟩,rfl⟩;have hO2:OL (w10.setCell ⟨w6.heap.size,4,none⟩ (.slice (some ⟨g,0,none⟩) (al.length+1) cap)) (w6.heap.size+1) (λ_=>False) 102 fF (.slice (some ⟨g,0,none⟩) (al.length+1) cap) (al++[(am,k,vi,vs,())]):=hO.keep (λb e=>mX _ (by have:=(hO.lt e).1;show b≠w6.heap.size;omega)) λb hb=>hb.elim;exact⟨⟨m+2,_,_,by go_num,hnx,gJ an0 4 _,hO2,asW,by have:=ad3.size;simp[World.setCell]at this ⊢;omega⟩,by simp only[intOf];omega⟩
   .have hge':¬((m:Nat):Int)<f.length:=aaV;obtain rfl:=hat.done hge;clear hA hat;obtain⟨ac,cc,rfl⟩:=hOL.form;have q0:=(anY.block W.heap.size aaV).trans hN0;have q1:=(anY.block (W.heap.size+1) aaV).trans hN1;obtain⟨⟨d0,d1,d2,d3⟩,z0,z1,z2,z3⟩:=four q0;have e0:wr.cell? ⟨w6.heap.size,0,none⟩=some (.int .i64 n1):=aN hrow 0;have e1:wr.cell? ⟨w6.heap.size,1,none⟩=some (.int .i64 n2):=aN hrow 1;have e2:wr.cell? ⟨w6.heap.size,2,none⟩=some (.bool sh):=aN hrow 2;have e3:wr.cell? ⟨w6.heap.size,3,none⟩=some (.int .i64 n4):=aN hrow 3;have e4:wr.cell? ⟨w6.heap.size,4,none⟩=some (.slice ac A.length cc):=aN hrow 4
    go_wp2_with (first
     |(at_builtin;have hbs:Below W.heap.size W wr:=agy;have hb7:Below W.heap.size W (wr.alloc (Obj.cells #[.int .i64 n1,.int .i64 n2,.bool sh,.int .i64 n4,.slice ac A.length cc] 51 (0,0))):=hbs.alloc hbs.size _;have hxs:=uJ (w':=wr.alloc (Obj.cells #[.int .i64 n1,.int .i64 n2,.bool sh,.int .i64 n4,.slice ac A.length cc] 51 (0,0))) hown λb e=>hb7.block b (Gh b e);have Qd:=avo wr (Obj.cells #[.int .i64 n1,.int .i64 n2,.bool sh,.int .i64 n4,.slice ac A.length cc] 51 (0,0));refine wpList_append_lies _ rfl _ _ 27 aqk B 51 i0 ahU 5 56 Tryz.underlying27 hi hz0 hz1 hz2 rfl abV (.slice ab x.2.1.length cb) x.2.1.length xs aqk hxs ⟨wr.heap.size,0,none⟩ 1 1 [.int .i64 n1,.int .i64 n2,.bool sh,.int .i64 n4,.slice ac A.length cc] aqk rfl (World.news_of_block Qd) (by intro u hu;simp at hu;rcases hu with rfl|rfl|rfl|rfl|rfl<;>rfl) abV hqm ny (auK hB hb7.size) _ rfl ?_;intro g cap w7 hown6 hgrow6 Gi RZ;have hnN:∀b,W.heap.size<=b->(Value.slice ab x.2.1.length cb).ownBlock≠some b:=λb hb e=>(by have:=Gh b e;omega);have hsz5:=hbs.size;have hq5:∀b o,b<=W.heap.size+1->W.heap.size<=b->wr.heap[b]? =some o->w7.heap[b]? =some o:=λb o hb hb2 ho=>(hgrow6.block b (by have:=(auL.1 ho).1;simp;omega) (λe=>hnN b hb2 e.symm)).trans ((heap_alloc_old wr _ (auL.1 ho).1).trans ho);have q0':=hq5 _ _ aaV (auH _) q0;have q1':=hq5 _ _ (auH _) aaV q1;clear d0 d1 d2 d3 z0 z1 z2 z3;obtain⟨⟨d0,d1,d2,d3⟩,z0,z1,z2,z3⟩:=four q0';obtain⟨⟨p0,p1,p2,p3⟩,y0',y1',y2',y3'⟩:=four q1'))
    all_goals (try simp only[Exit.inBlock,Exit.then])
    have hlw:W.heap.size+2<=w6.heap.size:=aaV;have hlt0:∀b,(Value.slice ac A.length cc).ownBlock=some b->w6.heap.size+1<=b/\b<wr.heap.size:=λb e=>hOL.lt e;have hx:=hS.aoP (y:=(n1,n2,sh,n4,A,())) (N:=λb=>(Value.slice ac A.length cc).ownBlock=some b) hB hb7 hown hrep hown6 hgrow6 Gi RZ (λb hb=>⟨by have:=(hlt0 b hb).1;omega,by have:=(hlt0 b hb).2;simp;omega⟩)
     ⟨_,_,rfl,⟨rfl,hn1⟩,_,_,rfl,⟨rfl,hn2⟩,_,_,rfl,rfl,_,_,rfl,⟨rfl,hn4⟩,_,_,rfl,bY.mono (λb hb=>⟨hb,heap_alloc_old wr _ (hlt0 b hb).2⟩) _ _ _ (hOL.rep abV (S:=λb=>(Value.slice ac A.length cc).ownBlock=some b) λb hb=>hb.elim False.elim id),rfl⟩
    have hg0:=abW Gi Gh (by have:=(auL.1 q1).1;simp;omega);have o0:=λn(h1:W.heap.size<=n)(h2:n<=W.heap.size+1)=>(⟨λe=>e.elim (hS.high n h1).1 (λe=>by have:=(hlt0 n e).1;omega),(hS.high n h1).2.1,hg0 n h1 h2,(hS.high n h1).2.2.2⟩:¬(F n\/(Value.slice ac A.length cc).ownBlock=some n)/\_/\_/\_);have k6:Kp B B W w7:=(RQ hB hb7).grown hB hgrow6 λb e=>(hS.fl.lt e).1;obtain⟨r9,s9,k9⟩:=abX (k:=1) (.slice (some ⟨g,0,none⟩) (x.2.1.length+1) cap) (.slice aa x.1.length ca) (.slice (some ⟨g,0,none⟩) (x.2.1.length+1) cap) (.int .i64 x.2.2.1) (.slice ad x.2.2.2.1.length cd) hx k6 hB o0 q1';unfold qp at r9 s9 k9;exact av1 (awz rfl _ _ (W.heap.size+1) _ _ _ _ aqk r9 Tryz.underlying33 rfl aa1) rfl ⟨_,_,_,_,rfl,s9,k9⟩
 have n3:x0≠jY:=e0;by_cases e0:x0=jU
 .have h0:Sp.wordAt f 0=jU:=hx0.out.symm.trans e0;have e0:x0=[100,105,114]:=e0;subst e0;clear hx0;by_cases h2:2<f.length
  .have hy2:y=(x.1,x.2.1,x.2.2.1,x.2.2.2.1++[(Sp.wordAt f 1,fJ (gm (f.drop 2)),())],()):=hy.out.trans (by unfold oZ;rw[h0,auS (show(2:Int)<(f.length:Int)from aaV)];rfl);clear hy;have hz:=hz.2.2.2.1;have hw1:(Sp.wordAt f 1).length<=600:=tH hsm.2 1;have NI:=λ(w:World)(v:Value)(hv:FW w.heap.size w v f) hG=>CO hv (i:=1) abV abV hG;generalize Sp.wordAt f 1=nm at hw1 NI hy2;obtain⟨y0,y1,r,rfl,hr⟩:∃y0 y1 r,f=y0::y1::r/\0<r.length:=by
    match f,h2 with
    |y0::y1::r,h=>exact⟨y0,y1,r,rfl,by simp at h;omega⟩
    |[_],h=>exact absurd h abZ
    |[],h=>exact absurd h abZ
   obtain⟨hs1,hs2⟩:=hsm;have hrl:r.length<=24:=by rw[auE,auE]at hs1;omega
   have hj:(gm r).length<=24*601:=auK (aan (m:=600) λy hy=>hs2 y (auM _ (auM _ hy))) (au1 _ hrl);rw[show(y0::y1::r).drop 2=r from rfl]at hy2;have hf1:FW w1.heap.size w1 (.slice a1 (r.length+2) c1) (y0::y1::r):=hf1;obtain⟨b2,o2,e2,-,-⟩:=FW.cell (a:=a1) (c:=c1) (f:=y0::y1::r) hf1 (n:=0) abZ;subst e2;obtain⟨hc2,ht1⟩:=hf1.aoQ hr;have ht2:=ht1.keep' hb2;have lj:=λ(w:World)(v:Value)(hv:FW w.heap.size w v r) hG=>apr v r w hv aaV aaV hG;generalize gm r=t at lj hj hy2;have pq:=λw hG=>anO t aaV w hG;generalize fJ t=q at pq hy2;generalize gq t=ok at pq;have hlt2:(2:Int)<(r.length:Int)+2:=aaV;have hlt3:(2:Int)<(r.length:Int)+1+1:=aaV;obtain⟨i0,hi,hz0,hz1,hz2⟩:=awK ahV;have hqm:x.2.2.2.1.length+1<=maxLen:=acz;have ny:(x.2.2.2.1.length+1)*40<=140737488355328:=aaV;obtain⟨xs,hown,hrep⟩:=hS.fd;have hown:W.ownsRow B 93 2 (.slice ad x.2.2.2.1.length cd) x.2.2.2.1.length xs:=hown;have hrep:∀i z,x.2.2.2.1[i]? =some z->aH W.heap F dK ((xs.drop (i*2)).take 2) z:=hrep;have Gh:∀b,(Value.slice ad x.2.2.2.1.length cd).ownBlock=some b->b<W.heap.size:=λb e=>(hS.fd.lt e).2;subst hy2
   go_wp2_with (first
    |(go_at_call 111;refine avd (NI w2 _ hf2 hG2) ?_;rintro e w3 ⟨rfl,hb3⟩;have qw:=vN.trans (hb3.mono vN.size);have anW:=qw.size;have Ht:=(Below.refl w3.heap.size w3).alloc (auH _) (Obj.cells #[.string ⟨nm.toArray⟩,.slice none 0 0] 93 (0,0));have hrow3:=avo w3 (Obj.cells #[.string ⟨nm.toArray⟩,.slice none 0 0] 93 (0,0));have zW:=qw.trans (Ht.mono qw.size);have RX:=hbase.trans (zW.mono hbase.size);have ht3:=(ht2.keep' hb3).keep' Ht;clear NI)
    |(go_at_call 115;refine avd (lj _ _ ht3 (dL hG RX)) ?_;rintro e w4 ⟨rfl,hb4⟩;have xJ:=zW.trans (hb4.mono zW.size);have aam:=hbase.trans (xJ.mono hbase.size);have aqi:=Ht.size;have auf:=hb4.size;have asX:(w3.alloc (Obj.cells #[.string ⟨nm.toArray⟩,.slice none 0 0] 93 (0,0))).heap.size=w3.heap.size+1:=abZ)
    |(go_at_call 114;refine avd (pq w4 (dL hG aam)) ?_;rintro e w5 ⟨a6,c6,rfl,hb5,hra⟩;have asY:=hb4.trans (hb5.mono hb4.size);have pX:=(asY.block w3.heap.size abZ).trans hrow3;have hb16:=xJ.trans (hb5.mono xJ.size);have anX:=hbase.trans (hb16.mono hbase.size);have aug:=hb5.size;have t0:=aN pX 0;have t1:=aN pX 1;have u0:=dH pX 0;have u1:=dH pX 1;have t0:w5.cell? ⟨w3.heap.size,0,none⟩=some (.string ⟨nm.toArray⟩):=t0;have t1:w5.cell? ⟨w3.heap.size,1,none⟩=some (.slice none 0 0):=t1;have q0:=(hb16.block W.heap.size aaV).trans hN0;have q1:=(hb16.block (W.heap.size+1) aaV).trans hN1;obtain⟨⟨d0,d1,d2,d3⟩,z0,z1,z2,z3⟩:=four q0)
    |(at_builtin;have hbs:Below W.heap.size W (w5.setCell ⟨w3.heap.size,1,none⟩ (.slice a6 q.length c6)):=anX.setCell (p:=⟨w3.heap.size,1,none⟩) (show W.heap.size<=w3.heap.size from aaV) _;have hb7:Below W.heap.size W ((w5.setCell ⟨w3.heap.size,1,none⟩ (.slice a6 q.length c6)).alloc (Obj.cells #[.string ⟨nm.toArray⟩,.slice a6 q.length c6] 93 (0,0))):=hbs.alloc hbs.size _;have hxs:=uJ (w':=(w5.setCell ⟨w3.heap.size,1,none⟩ (.slice a6 q.length c6)).alloc (Obj.cells #[.string ⟨nm.toArray⟩,.slice a6 q.length c6] 93 (0,0))) hown λb e=>hb7.block b (Gh b e);have Qd:=avo (w5.setCell ⟨w3.heap.size,1,none⟩ (.slice a6 q.length c6)) (Obj.cells #[.string ⟨nm.toArray⟩,.slice a6 q.length c6] 93 (0,0));have RY:(w5.setCell ⟨w3.heap.size,1,none⟩ (.slice a6 q.length c6)).heap.size=w5.heap.size:=(by first|rfl|simp);rw[RY]at Qd;refine wpList_append_lies _ rfl _ _ 31 aqk B 93 i0 ab1 2 40 Tryz.underlying31 hi hz0 hz1 hz2 rfl abV (.slice ad x.2.2.2.1.length cd) x.2.2.2.1.length xs aqk hxs ⟨w5.heap.size,0,none⟩ 1 1 [.string ⟨nm.toArray⟩,.slice a6 q.length c6] aqk rfl (World.news_of_block Qd) afF abV hqm ny (auK hB hb7.size) _ rfl ?_;intro g cap w6 hown6 hgrow6 Gi RZ;have hnN:∀b,W.heap.size<=b->(Value.slice ad x.2.2.2.1.length cd).ownBlock≠some b:=λb hb e=>(by have:=Gh b e;omega);have hsz5:=hbs.size;have hq5:∀b o,b<=W.heap.size+1->W.heap.size<=b->w5.heap[b]? =some o->w6.heap[b]? =some o:=λb o hb hb2 ho=>(hgrow6.block b (by have:=(auL.1 ho).1;simp;(try simp[World.setCell]);(try simp at this);omega) (λe=>hnN b hb2 e.symm)).trans ((heap_alloc_old (w5.setCell ⟨w3.heap.size,1,none⟩ (.slice a6 q.length c6)) _ (by have:=(auL.1 ho).1;(try simp[World.setCell]);(try simp at this);omega)).trans ((mX (w:=w5) (p:=⟨w3.heap.size,1,none⟩) _ arT).trans ho));have q0':=hq5 _ _ aaV (auH _) q0;have q1':=hq5 _ _ (auH _) aaV q1;clear d0 d1 d2 d3 z0 z1 z2 z3;obtain⟨⟨d0,d1,d2,d3⟩,z0,z1,z2,z3⟩:=four q0';obtain⟨⟨p0,p1,p2,p3⟩,y0',y1',y2',y3'⟩:=four q1'))
   all_goals (try simp only[Exit.inBlock,Exit.then])
   have hlw:W.heap.size+2<=w3.heap.size:=aaV;have hx:=hS.ala (y:=(nm,q,())) (N:=λb=>w4.heap.size<=b/\b<w5.heap.size) hB hb7 hown hrep hown6 hgrow6 Gi RZ (λb hb=>⟨aaV,by have:=hb.2;simp[World.setCell];omega⟩) ⟨_,_,rfl,⟨rfl,acz⟩,_,_,rfl,bY.mono (λb hb=>⟨hb,(heap_alloc_old (w5.setCell ⟨w3.heap.size,1,none⟩ (.slice a6 q.length c6)) _ (by simp[World.setCell];exact hb.2)).trans (mX _ arT)⟩) _ _ _ hra,rfl⟩;have hg0:=abW Gi Gh ajD;have o0:=λn(h1:W.heap.size<=n)(h2:n<=W.heap.size+1)=>(⟨λe=>e.elim (hS.high n h1).1 (λe=>by have:=e.1;omega),(hS.high n h1).2.1,(hS.high n h1).2.2.1,hg0 n h1 h2⟩:¬(F n\/(w4.heap.size<=n/\n<w5.heap.size))/\_/\_/\_);have k6:Kp B B W w6:=(RQ hB hb7).grown hB hgrow6 λb e=>(hS.fd.lt e).1;obtain⟨r9,s9,k9⟩:=abX (k:=3) (.slice (some ⟨g,0,none⟩) (x.2.2.2.1.length+1) cap) (.slice aa x.1.length ca) (.slice ab x.2.1.length cb) (.int .i64 x.2.2.1) (.slice (some ⟨g,0,none⟩) (x.2.2.2.1.length+1) cap) hx k6 hB o0 q1';unfold qp at r9 s9 k9;exact av1 (awz rfl _ _ (W.heap.size+1) _ _ _ _ aqk r9 Tryz.underlying33 rfl aa1) rfl ⟨_,_,_,_,rfl,s9,k9⟩
  .have h2:¬(2:Int)<(f.length:Int):=aaV;have hy2:y=(x.1,x.2.1,x.2.2.1,x.2.2.2.1++[(Sp.wordAt f 1,[],())],()):=hy.out.trans (by unfold oZ;rw[h0,auU h2];rfl);clear hy;have hz:=hz.2.2.2.1;have hw1:(Sp.wordAt f 1).length<=600:=tH hsm.2 1;have NI:=λ(w:World)(v:Value)(hv:FW w.heap.size w v f) hG=>CO hv (i:=1) abV abV hG;generalize Sp.wordAt f 1=nm at hw1 NI hy2;obtain⟨i0,hi,hz0,hz1,hz2⟩:=awK ahV;have hqm:x.2.2.2.1.length+1<=maxLen:=acz;have ny:(x.2.2.2.1.length+1)*40<=140737488355328:=aaV;obtain⟨xs,hown,hrep⟩:=hS.fd;have hown:W.ownsRow B 93 2 (.slice ad x.2.2.2.1.length cd) x.2.2.2.1.length xs:=hown;have hrep:∀i z,x.2.2.2.1[i]? =some z->aH W.heap F dK ((xs.drop (i*2)).take 2) z:=hrep;have Gh:∀b,(Value.slice ad x.2.2.2.1.length cd).ownBlock=some b->b<W.heap.size:=λb e=>(hS.fd.lt e).2;subst hy2
   go_wp2_with (first
    |(go_at_call 111;refine avd (NI w2 _ hf2 hG2) ?_;rintro e w3 ⟨rfl,hb3⟩;have qw:=vN.trans (hb3.mono vN.size);have anW:=qw.size;have Ht:=(Below.refl w3.heap.size w3).alloc (auH _) (Obj.cells #[.string ⟨nm.toArray⟩,.slice none 0 0] 93 (0,0));have hrow3:=avo w3 (Obj.cells #[.string ⟨nm.toArray⟩,.slice none 0 0] 93 (0,0));have zW:=qw.trans (Ht.mono qw.size);have RX:=hbase.trans (zW.mono hbase.size);have asX:(w3.alloc (Obj.cells #[.string ⟨nm.toArray⟩,.slice none 0 0] 93 (0,0))).heap.size=w3.heap.size+1:=abZ;have t0:=aN hrow3 0;have t1:=aN hrow3 1;have u0:=dH hrow3 0;have u1:=dH hrow3 1;have t0:(w3.alloc (Obj.cells #[.string ⟨nm.toArray⟩,.slice none 0 0] 93 (0,0))).cell? ⟨w3.heap.size,0,none⟩=some (.string ⟨nm.toArray⟩):=t0;have t1:(w3.alloc (Obj.cells #[.string ⟨nm.toArray⟩,.slice none 0 0] 93 (0,0))).cell? ⟨w3.heap.size,1,none⟩=some (.slice none 0 0):=t1;have q0:=(zW.block W.heap.size aaV).trans hN0;have q1:=(zW.block (W.heap.size+1) aaV).trans hN1;obtain⟨⟨d0,d1,d2,d3⟩,z0,z1,z2,z3⟩:=four q0)
    |(at_builtin;have hbs:Below W.heap.size W (w3.alloc (Obj.cells #[.string ⟨nm.toArray⟩,.slice none 0 0] 93 (0,0))):=RX;have hb7:Below W.heap.size W ((w3.alloc (Obj.cells #[.string ⟨nm.toArray⟩,.slice none 0 0] 93 (0,0))).alloc (Obj.cells #[.string ⟨nm.toArray⟩,.slice none 0 0] 93 (0,0))):=hbs.alloc hbs.size _;have hxs:=uJ (w':=(w3.alloc (Obj.cells #[.string ⟨nm.toArray⟩,.slice none 0 0] 93 (0,0))).alloc (Obj.cells #[.string ⟨nm.toArray⟩,.slice none 0 0] 93 (0,0))) hown λb e=>hb7.block b (Gh b e);have Qd:=avo (w3.alloc (Obj.cells #[.string ⟨nm.toArray⟩,.slice none 0 0] 93 (0,0))) (Obj.cells #[.string ⟨nm.toArray⟩,.slice none 0 0] 93 (0,0));have RY:(w3.alloc (Obj.cells #[.string ⟨nm.toArray⟩,.slice none 0 0] 93 (0,0))).heap.size=w3.heap.size+1:=(by first|rfl|simp);rw[RY]at Qd;refine wpList_append_lies _ rfl _ _ 31 aqk B 93 i0 ab1 2 40 Tryz.underlying31 hi hz0 hz1 hz2 rfl abV (.slice ad x.2.2.2.1.length cd) x.2.2.2.1.length xs aqk hxs ⟨w3.heap.size+1,0,none⟩ 1 1 [.string ⟨nm.toArray⟩,.slice none 0 0] aqk rfl (World.news_of_block Qd) afF abV hqm ny (auK hB hb7.size) _ rfl ?_;intro g cap w6 hown6 hgrow6 Gi RZ;have hnN:∀b,W.heap.size<=b->(Value.slice ad x.2.2.2.1.length cd).ownBlock≠some b:=λb hb e=>(by have:=Gh b e;omega);have hsz5:=hbs.size;have hq5:∀b o,b<=W.heap.size+1->W.heap.size<=b->(w3.alloc (Obj.cells #[.string ⟨nm.toArray⟩,.slice none 0 0] 93 (0,0))).heap[b]? =some o->w6.heap[b]? =some o:=λb o hb hb2 ho=>(hgrow6.block b (by have:=(auL.1 ho).1;simp;(try simp[World.setCell]);(try simp at this);omega) (λe=>hnN b hb2 e.symm)).trans ((heap_alloc_old (w3.alloc (Obj.cells #[.string ⟨nm.toArray⟩,.slice none 0 0] 93 (0,0))) _ (by have:=(auL.1 ho).1;(try simp[World.setCell]);(try simp at this);omega)).trans ((rfl:(w3.alloc (Obj.cells #[.string ⟨nm.toArray⟩,.slice none 0 0] 93 (0,0))).heap[b]? =(w3.alloc (Obj.cells #[.string ⟨nm.toArray⟩,.slice none 0 0] 93 (0,0))).heap[b]?).trans ho));have q0':=hq5 _ _ aaV (auH _) q0;have q1':=hq5 _ _ (auH _) aaV q1;clear d0 d1 d2 d3 z0 z1 z2 z3;obtain⟨⟨d0,d1,d2,d3⟩,z0,z1,z2,z3⟩:=four q0';obtain⟨⟨p0,p1,p2,p3⟩,y0',y1',y2',y3'⟩:=four q1'))
   all_goals (try simp only[Exit.inBlock,Exit.then])
   have hlw:W.heap.size+2<=w3.heap.size:=aaV;have hx:=hS.ala (y:=(nm,[],())) (N:=λ_=>False) hB hb7 hown hrep hown6 hgrow6 Gi RZ (λb hb=>hb.elim) ⟨_,_,rfl,⟨rfl,acz⟩,_,_,rfl,⟨auZ _,.inl ⟨rfl,none,0,rfl⟩⟩,rfl⟩;have hg0:=abW Gi Gh ajD;have o0:=λn(h1:W.heap.size<=n)(h2:n<=W.heap.size+1)=>(⟨λe=>e.elim (hS.high n h1).1 id,(hS.high n h1).2.1,(hS.high n h1).2.2.1,hg0 n h1 h2⟩:¬(F n\/False)/\_/\_/\_);have k6:Kp B B W w6:=(RQ hB hb7).grown hB hgrow6 λb e=>(hS.fd.lt e).1;obtain⟨r9,s9,k9⟩:=abX (k:=3) (.slice (some ⟨g,0,none⟩) (x.2.2.2.1.length+1) cap) (.slice aa x.1.length ca) (.slice ab x.2.1.length cb) (.int .i64 x.2.2.1) (.slice (some ⟨g,0,none⟩) (x.2.2.2.1.length+1) cap) hx k6 hB o0 q1';unfold qp at r9 s9 k9;exact av1 (awz rfl _ _ (W.heap.size+1) _ _ _ _ aqk r9 Tryz.underlying33 rfl aa1) rfl ⟨_,_,_,_,rfl,s9,k9⟩
 have hy2:x=y:=(hy.out.trans (by unfold oZ;rw[← hx0.out,auD.2 n1,auD.2 n2,auD.2 n3,auD.2 e0];rfl)).symm;clear hy;subst hy2;have h1:¬x0=[102,105,101,108,100]:=n1;have h2:¬x0=[110,101,120,116]:=n2;have h3:¬x0=[102,105,108,101]:=n3;have h4:¬x0=[100,105,114]:=e0;clear n1 n2 n3 e0;have g1:(x0==[102,105,101,108,100])=false:=auD.2 h1;have g2:(x0==[110,101,120,116])=false:=auD.2 h2;have g3:(x0==[102,105,108,101])=false:=auD.2 h3;have g4:(x0==[100,105,114])=false:=auD.2 h4;have q0:=(vN.block W.heap.size aaV).trans hN0;have q1:=(vN.block (W.heap.size+1) aaV).trans hN1;obtain⟨⟨d0,d1,d2,d3⟩,z0,z1,z2,z3⟩:=four q0;obtain⟨⟨p0,p1,p2,p3⟩,y0,y1,y2,y3⟩:=four q1
 go_wp2
 all_goals (try simp only[Exit.inBlock,Exit.then])
 have r9:=uH (y0:=.slice aa x.1.length ca) (y1:=.slice ab x.2.1.length cb) (y2:=.int .i64 x.2.2.1) (y3:=.slice ad x.2.2.2.1.length cd) q1;have s9:=hS.below (qF (y0:=.slice aa x.1.length ca) (y1:=.slice ab x.2.1.length cb) (y2:=.int .i64 x.2.2.1) (y3:=.slice ad x.2.2.2.1.length cd) hb2' (show W.heap.size<=W.heap.size+1 from aaV));have k9:=RQ hB (qF (y0:=.slice aa x.1.length ca) (y1:=.slice ab x.2.1.length cb) (y2:=.int .i64 x.2.2.1) (y3:=.slice ad x.2.2.2.1.length cd) hb2' (show W.heap.size<=W.heap.size+1 from aaV));unfold qp at r9 s9 k9;exact av1 (awz rfl _ _ (W.heap.size+1) _ _ _ _ aqk r9 Tryz.underlying33 rfl aa1) rfl ⟨_,_,_,_,rfl,s9,k9⟩
end Go.Proofs.Tryz

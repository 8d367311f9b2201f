import Derived.Test.YtncbcelpbmlgdaaGreatDoorP65
import Derived.Laws.ResultCell
import Derived.Test.YtncbcelpbmlgdaaGreatDoorSp
namespace Go.Proofs.Tryz
open Go Go.Fw Go.RowKit Sp
set_option maxRecDepth 100000
theorem FW.aoU{B:Nat}{w:World}{b off cap:Nat}{x y:List UInt8×Unit}{r:Sp.LS}(h:FW B w (.slice (some ⟨b,off,none⟩) (r.length+2) cap) (x::y::r))(hr:0<r.length):¬cap=2/\FW B w (.slice (some ⟨b,off+2,none⟩) r.length (cap-2)) r:=by
 have hm:r.length+2<=maxLen:=h.1;rcases h.2 with⟨e,_⟩|⟨b',off',cap',cs,t,fz,e,e2,e3,e4,e5⟩
 .cases e
 .cases e;have e2:r.length+2<=cap:=e2;refine⟨by omega,by omega,.inr ⟨b,off+2,cap-2,cs,t,fz,rfl,by omega,e3,e4,λi z hz=>?_⟩⟩;have:=e5 (i+2) z (by simpa using hz);rw[show off+2+i*dK.len=off+(i+2)*dK.len by show off+2+i*1=off+(i+2)*1;omega];exact this
set_option maxHeartbeats 16000000 in
theorem aog(B P:Nat)(W:World)(x:aZ)(y:List UInt8)(r:Sp.LS)(line:List UInt8)(hl:line.length<=1000)(hf:Sp.pieces 32 line=(jw,())::(y,())::r)(hr:0<r.length)(hG:G.ok W)(hS:Held B P W x)(Q8:P<B)(hB:B<=W.heap.size)(hz:x.2.2.2.1.length<=200):
 Calls prog 60 #[.pointer (some ⟨P,0,none⟩),.string ⟨line.toArray⟩] W λe w'=>e=.returned (.bool (gq (gm r)))/\Held B P w' (x.1,x.2.1,x.2.2.1,x.2.2.2.1++[(y,fM (gm r),())],())/\Kp B P W w':=by
 have mixed:=Tryz.mixed;obtain⟨va,vl,vd,F,hP,xP⟩:=hS;have hPl:=(auV.1 hP).1;have sp:=GK 32 (.inl rfl) line (by omega) W hG;have hwl:∀x∈r,x.1.length<=1000:=λz hz=>auU (CU (c:=32) (s:=line) z (by rw[hf];exact auZ _ (auZ _ hz))) hl;have hy:y.length<=1000:=auU (CU (c:=32) (s:=line) (y,()) (by rw[hf];simp)) hl;have hrl:r.length<=1000:=by have:=Sp.pieces_len 32 line;rw[hf,auQ,auQ]at this;omega
 have hj:(gm r).length<=1040000:=auU (aaN (m:=1000) hwl) (by omega);rw[hf]at sp;clear hf;unfold jw at sp;have jn:=λv w hv hG=>apH v r w hv hrl (by omega) hG;generalize gm r=t at jn hj ⊢;have pq:=λw hG=>apI t (by omega) w hG;generalize fM t=q at pq ⊢;generalize gq t=ok at pq ⊢;have hlt2:(2:Int)<(r.length:Int)+2:=by omega
 have hi1:(1:Int)<(r.length:Int)+2:=by omega
 have hi2:(1:Int)<(r.length:Int)+1+1:=by omega
 have hi3:1<r.length+2:=by omega
 have hi4:(1:Int)<=(r.length:Int)+1:=by omega
 have hlt3:(2:Int)<(r.length:Int)+1+1:=by omega
 obtain⟨i0,hi,hz0,hz1,hz2⟩:=awW ah3;have hqm:x.2.2.2.1.length+1<=maxLen:=by rw[maxLen_eq];omega
 have nG:(x.2.2.2.1.length+1)*40<=140737488355328:=by omega
 go_enter Tryz.func60,Tryz.ntmps60
 go_wp2_with (first
  |(go_at_call 86;refine avk sp ?_;rintro e w1 ⟨v1,rfl,hf1,hb1⟩;obtain⟨a1,c1,e1⟩:=lV hf1;have e1:v1=.slice a1 (r.length+2) c1:=e1;subst e1;obtain⟨b2,o2,e2,-,cw⟩:=FW.cell (a:=a1) (c:=c1) (f:=([100,105,114],())::(y,())::r) hf1 (n:=0) (by simp);subst e2;have cw:w1.cell? ⟨b2,o2,none⟩=some (.string ⟨([100,105,114]:List UInt8).toArray⟩):=cw;obtain⟨b3,o3,e3,-,UZ⟩:=FW.cell (a:=some ⟨b2,o2,none⟩) (c:=c1) (f:=([100,105,114],())::(y,())::r) hf1 (n:=1) (by simp);cases e3;have UZ:w1.cell? ⟨b2,o2+1,none⟩=some (.string ⟨(y:List UInt8).toArray⟩):=UZ;obtain⟨hc2,ht⟩:=hf1.aoU hr;have ata:=(auV.1 (show∃o,w1.heap[b2]? =some o from by cases h:w1.heap[b2]? with|some o=>exact⟨o,rfl⟩|none=>simp[World.cell?,h]at cw).choose_spec).1;have hG1:=bG hG hb1;clear sp hf1)
  |(go_at_call 74;refine avk (jn _ w1 ht hG1) ?_;rintro e w2 ⟨rfl,hb2⟩;have lW:=hb1.trans (hb2.mono hb1.size))
  |(go_at_call 107;refine avk (pq w2 (bG hG lW)) ?_;rintro e w3 ⟨a6,c6,rfl,hb3,hra⟩;have Uj:=hb2.trans (hb3.mono hb2.size)))
 all_goals
  have yD:=xP.below hb1;obtain⟨xs,hown1,Ui⟩:=yD.fd;have hown1:w1.ownsRow B 93 2 vd x.2.2.2.1.length xs:=hown1;have Ui:∀i z,x.2.2.2.1[i]? =some z->aI w1.heap F dA ((xs.drop (i*2)).take 2) z:=Ui;have hs1:=hb1.size;have hs2:=hb2.size;have hs3:=hb3.size;have tJ:vd.ownBlock≠some P:=λe=>by have:=(yD.fd.lt e).1;omega
  have hBr:B<=w1.heap.size:=auU hB hs1;have ah1:=hb1.trans (Uj.mono hs1);have hP3:=(ah1.block P hPl).trans hP;obtain⟨⟨d0,d1,d2,d3⟩,z0,z1,z2,z3⟩:=four hP3;have cy:w3.cell? ⟨b2,o2+1,none⟩=some (.string ⟨(y:List UInt8).toArray⟩):=(awr (a:=⟨b2,o2+1,none⟩) (Uj.block b2 ata)).trans UZ;have vJ:P<w3.heap.size:=(auV.1 hP3).1;have hown3:w3.ownsRow B 93 2 vd x.2.2.2.1.length xs:=vI hown1 λb e=>Uj.block b (yD.fd.lt e).2;have as9:B<=w3.heap.size:=by omega
  go_region_law (refine step_append_lies _ rfl (.tmp 113) (.tmp 119) 31 rfl B 93 i0 acA 2 40 Tryz.underlying31 hi hz0 hz1 hz2 rfl (by decide) vd x.2.2.2.1.length xs (by simp[Act.eval]) ((awS hown3).alloc _) ⟨w3.heap.size,0,none⟩ 1 1 [.string ⟨y.toArray⟩,.slice a6 q.length c6] (by simp[Act.eval]) rfl (World.news_of_block (avz _ _)) (by intro u hu;simp at hu;rcases hu with rfl|rfl<;>rfl) (by decide) hqm nG (by simp;omega) _ rfl ?_;intro g cap w5 hown5 gB nX nY;have nR:=(gB.block P (by simp;omega) (λe=>tJ e.symm)).trans ((heap_alloc_old w3.drew _ vJ).trans hP3);have k5:w5.cell? ⟨P,3,none⟩=some vd:=aN nR 3;have z5:=dN nR 3)
  all_goals go_wp2
  all_goals go_ret
  all_goals
   have hbd:Below w3.heap.size w3 (w3.drew.alloc (Obj.cells #[.string ⟨y.toArray⟩,.slice a6 q.length c6] 93 (0,0))):=((Below.refl _ w3).drew).alloc (auT _) _;have yx:=Uj.trans (hbd.mono (auU hs2 hs3));exact⟨rfl,⟨va,vl,_,_,gG nR 3 _,((yD.alh (y:=(y,q,())) hBr yx hown1 Ui hown5 gB nX nY (N:=λb=>w2.heap.size<=b/\b<w3.heap.size) (λb hb=>⟨by omega,by have:=hbd.size;omega⟩)
    ⟨_,_,rfl,⟨rfl,by rw[maxLen_eq];omega⟩,_,_,rfl,dh.mono (λb hb=>⟨hb,hbd.block b hb.2⟩) _ _ _ hra,rfl⟩).set Q8)⟩,(((Kp.of hB hb1).below hB yx).grown hB gB (λb e=>(yD.fd.lt e).1)).set⟩
end Go.Proofs.Tryz
namespace Go.Proofs.Tryz
open Go Go.Fw Go.RowKit Sp
set_option maxRecDepth 100000
theorem amJ(B P:Nat)(W:World)(x:aZ)(line:List UInt8)(hl:line.length<=1000)(hG:G.ok W)(hS:Held B P W x)(Q8:P<B)(hB:B<=W.heap.size)(hz:UY 200 x):
 Calls prog 60 #[.pointer (some ⟨P,0,none⟩),.string ⟨line.toArray⟩] W λe w'=>e=.returned (.bool (kU x (Sp.pieces 32 line)).2)/\Held B P w' (kU x (Sp.pieces 32 line)).1/\Kp B P W w':=by
 have hp:=XJ 32 line [];have hp:0<(Sp.pieces 32 line).length:=hp;obtain⟨x0,r,hf⟩:∃x0 r,Sp.pieces 32 line=(x0,())::r:=by
  cases h:Sp.pieces 32 line with
  |nil=>rw[h]at hp;exact absurd hp (avR _)
  |cons a r=>exact⟨a.1,r,rfl⟩
 rw[hf];by_cases h1:x0=gV/\r.length=2
 .obtain⟨rfl,hr⟩:=h1
  match r,hr with
  |[(y,_),(k,_)],_=>rw[ajr];exact alv B P W x y k line hl hf hG hS Q8 hB hz.1
 by_cases h2:x0=qA/\r.length=1
 .obtain⟨rfl,hr⟩:=h2
  match r,hr with
  |[(y,_)],_=>rw[alx];exact am2 B P W x y line hl hf hG hS Q8 hB
 by_cases h3:x0=jX
 .subst h3;rw[aly];exact am4 B P W x r line hl hf hG hS Q8 hB hz.2.1
 by_cases h4:x0=jw/\2<=r.length
 .obtain⟨rfl,hr⟩:=h4
  match r,hr with
  |(y,_)::r,hr=>
   have hr:0<r.length:=by rw[auQ]at hr;omega
   rw[am5 _ _ _ hr];exact aog B P W x y r line hl hf hr hG hS Q8 hB hz.2.2.2.1
 rw[alz x x0 r h1 h2 h3 h4];refine apJ B P W x x0 r line hl hf hG hS hB ?_ ?_ h3 ?_
 .by_cases e:x0=gV
  .exact .inr (auP.2 λg=>h1 ⟨e,by omega⟩)
  .exact .inl e
 .by_cases e:x0=qA
  .exact .inr (auP.2 λg=>h2 ⟨e,by omega⟩)
  .exact .inl e
 .by_cases e:x0=jw
  .exact .inr λg=>h4 ⟨e,by omega⟩
  .exact .inl e
def uI(va vl vd:Value)(nx:Int):Value:=.agg #[va,vl,.int .i64 nx,vd]
def ah8(x:aZ):Arg:=.sv (.agg [.sl aB bK x.1 false,.sl aP dI x.2.1 false,.int .i64 x.2.2.1,.sl aX dA x.2.2.2.1 false])
theorem Sn.aqG{B:Nat}{w:World}{va vl vd:Value}{x:aZ}{F S:Nat->Prop}(h:Sn B w va vl vd x F)(hS:∀b,B<=b->b<w.heap.size->S b):
 dh w.heap S (.sl aB bK) va x.1/\dh w.heap S (.sl aP dI) vl x.2.1/\dh w.heap S (.sl aX dA) vd x.2.2.2.1:=by
 have ff:∀b,F b->S b:=λb hb=>hS b (h.foot b hb).1 (h.foot b hb).2.1;exact⟨h.fa.rep (by decide) λb hb=>hb.elim (ff b) λe=>hS b (h.fa.lt e).1 (h.fa.lt e).2,h.fl.rep (by decide) λb hb=>hb.elim (ff b) λe=>hS b (h.fl.lt e).1 (h.fl.lt e).2,h.fd.rep (by decide) λb hb=>hb.elim (ff b) λe=>hS b (h.fd.lt e).1 (h.fd.lt e).2⟩
theorem acB{B:Nat}{w:World}{va vl vd:Value}{x:aZ}{F:Nat->Prop}(h:Sn B w va vl vd x F):oG ⟨w,w.heap.size,λ_=>True,λ_=>undef,λ_=>none⟩ (ah8 x) (uI va vl vd x.2.2.1):=by obtain⟨r1,r2,r3⟩:=h.aqG (S:=V.cO ⟨w,w.heap.size,λ_=>True,λ_=>undef,λ_=>none⟩ false) λb _ hb=>⟨⟨hb,λ_=>trivial,λo x hx=>by cases hx⟩,λe=>by cases e⟩;exact⟨_,rfl,r1,r2,⟨rfl,h.nx⟩,r3,trivial⟩
theorem apv{B:Nat}{w:World}{va vl vd:Value}{x:aZ}{F:Nat->Prop}(h:Sn B w va vl vd x F)(hx:fB x)(hG:G.ok w):Calls prog 28 #[uI va vl vd x.2.2.1] w λe w'=>e=.returned (.bool (bT x))/\Below w.heap.size w w':=by have hc:fG prog G 28 (iw iO.sh iO.bI iO.F):=wJ.1;refine(hc [ah8 x] (fB x) ⟨[(false,[.plain (.bool (bT x))])],none⟩ 0 (λ_=>True) #[uI va vl vd x.2.2.1] w rfl hx hG ⟨acB h,trivial⟩).mono ?_;rintro e w' ⟨v,vals,rfl,h1,h2,h3,h4,h5,h6,_,_⟩;have h6:v=.bool (bT x):=h6;exact⟨by rw[h6],h1,h2,h3,h4,h5⟩
theorem apw{B:Nat}{w:World}{va vl vd:Value}{x:aZ}{F:Nat->Prop}(h:Sn B w va vl vd x F)(hx:fB x)(hG:G.ok w):Calls prog 14 #[uI va vl vd x.2.2.1] w λe w'=>∃v,e=.returned v/\FW w'.heap.size w' v (Sp.enc x)/\Below w.heap.size w w':=by have hc:fG prog G 14 (iw jG.sh jG.bI jG.F):=Ef.1;refine(hc [ah8 x] (fB x) _ 0 (λ_=>True) #[uI va vl vd x.2.2.1] w rfl hx hG ⟨acB h,trivial⟩).mono ?_;rintro e w' ⟨v,vals,rfl,h1,h2,h3,h4,h5,h6,_,_⟩;have h6:dh w'.heap _ (.sl aU dK) v (Sp.enc x):=h6;exact⟨v,rfl,dh.mono (λb hb=>⟨hb.1.1,rfl⟩) _ _ _ h6,h1,h2,h3,h4,h5⟩
theorem aj2{w:World}{u v:Value}{a b:Sp.LS}(ha:FW w.heap.size w u a)(hb:FW w.heap.size w v b)(hG:G.ok w):Calls prog 61 #[u,v] w λe w'=>e=.returned (.bool (decide (a=b)))/\Below w.heap.size w w':=by have hc:fG prog G 61 (iw kR.sh kR.bI kR.F):=Px.1;refine(hc [.sv (.one (.sl aU dK a false)),.sv (.one (.sl aU dK b false))] True ⟨[(false,[.plain (.bool (decide (a=b)))])],none⟩ 0 (λ_=>True) #[u,v] w rfl trivial hG ⟨xQ ha,xQ hb,trivial⟩).mono ?_;rintro e w' ⟨v,vals,rfl,h1,h2,h3,h4,h5,h6,_,_⟩;have h6:v=.bool (decide (a=b)):=h6;exact⟨by rw[h6],h1,h2,h3,h4,h5⟩
def Gives(W w':World)(e:Ending)(x:aZ)(ok:Bool):Prop:=
 ∃va vl vd,e=.returned (.tuple #[uI va vl vd x.2.2.1,.bool ok])/\Below W.heap.size W w'/\uy x.2.2.1/\dh w'.heap (λb=>W.heap.size<=b/\b<w'.heap.size) (.sl aB bK) va x.1/\
  dh w'.heap (λb=>W.heap.size<=b/\b<w'.heap.size) (.sl aP dI) vl x.2.1/\dh w'.heap (λb=>W.heap.size<=b/\b<w'.heap.size) (.sl aX dA) vd x.2.2.2.1
theorem Gq{W w':World}(h:Below W.heap.size W w'):Gives W w' (.returned (.tuple #[.agg #[.slice none 0 0,.slice none 0 0,.int .i64 0,.slice none 0 0],.bool false])) cZ false:=
 ⟨_,_,_,rfl,h,⟨by decide,by decide⟩,⟨avc _,.inl ⟨rfl,none,0,rfl⟩⟩,⟨avc _,.inl ⟨rfl,none,0,rfl⟩⟩,⟨avc _,.inl ⟨rfl,none,0,rfl⟩⟩⟩
theorem ah0{B:Nat}{W w':World}{va vl vd:Value}{x:aZ}{F:Nat->Prop}(hB:W.heap.size<=B)(h:Below W.heap.size W w')(hs:Sn B w' va vl vd x F):Gives W w' (.returned (.tuple #[.agg #[va,vl,.int .i64 x.2.2.1,vd],.bool true])) x true:=by obtain⟨r1,r2,r3⟩:=hs.aqG (S:=λb=>W.heap.size<=b/\b<w'.heap.size) λb h1 h2=>⟨by omega,h2⟩;exact⟨va,vl,vd,rfl,h,hs.nx,r1,r2,r3⟩
end Go.Proofs.Tryz
namespace Go.Proofs.Tryz
open Go Go.Fw Go.RowKit Sp
set_option maxRecDepth 100000
theorem Kp.low{P:Nat}{W W2 w:World}(h:Kp (W.heap.size+2) P W2 w)(hP:W.heap.size<=P)(k:Below W.heap.size W W2):Below W.heap.size W w:=
 ⟨h.os.trans k.os,h.tape.trans k.tape,h.output.trans k.output,auU k.size h.size,λb hb=>(h.block b (by omega) (by omega)).trans (k.block b hb)⟩
def yN:Array Value:=#[.slice none 0 0,.slice none 0 0,.int .i64 0,.slice none 0 0]
theorem Sn.zero(B:Nat)(w:World):Sn B w (.slice none 0 0) (.slice none 0 0) (.slice none 0 0) cZ λ_=>False:=
 ⟨OL.nil,OL.nil,OL.nil,⟨by decide,by decide⟩,λg=>⟨λe=>(by cases e),λe=>(by cases e)⟩,λb hb=>hb.elim⟩
theorem anN(w:World)(o p:Obj):((w.alloc o).alloc p).heap[w.heap.size+1]? =some p:=by have:=avz (w.alloc o) p;rw[show(w.alloc o).heap.size=w.heap.size+1 by simp]at this;exact this
theorem box1(w:World)(o p:Obj):((w.alloc o).alloc p).heap[w.heap.size]? =some o:=(heap_alloc_old _ p (by simp)).trans (avz w o)
theorem below2(w:World)(o p:Obj):Below w.heap.size w ((w.alloc o).alloc p):=((Below.refl _ _).alloc (auT _) o).alloc (by simp) p
theorem aaK(w:World)(o p:Obj):((w.alloc o).alloc p).heap.size=w.heap.size+2:=by simp
theorem Kp.trans{B P:Nat}{a b c:World}(h:Kp B P a b)(k:Kp B P b c):Kp B P a c:=
 ⟨k.os.trans h.os,k.tape.trans h.tape,k.output.trans h.output,auU h.size k.size,λx hx hn=>(k.block x hx hn).trans (h.block x hx hn)⟩
theorem apt{ls:Sp.LS}(h:(gJ cZ ls).2=true)(k:(bT (gJ cZ ls).1&&decide (Sp.enc (gJ cZ ls).1=ls))=false):Sp.dec ls=(cZ,false):=by rw[← aaL];unfold ahY;rw[h,k];rfl
theorem anO{ls:Sp.LS}(h:(gJ cZ ls).2=true)(k1:bT (gJ cZ ls).1=true)(k2:decide (Sp.enc (gJ cZ ls).1=ls)=true):Sp.dec ls=((gJ cZ ls).1,true):=by rw[← aaL];unfold ahY;rw[h,k1,k2];rfl
theorem FW.keep'{W w:World}{v:Value}{f:Sp.LS}(h:FW W.heap.size W v f)(k:Below W.heap.size W w):FW w.heap.size w v f:=dh.mono (λb hb=>⟨avh hb k.size,k.block b hb⟩) _ _ _ h
def qJ(w:World)(g:Nat)(y0 y1 y2 y3:Value):World:=(((w.setCell ⟨g,0,none⟩ y0).setCell ⟨g,1,none⟩ y1).setCell ⟨g,2,none⟩ y2).setCell ⟨g,3,none⟩ y3
theorem vG{w:World}{g:Nat}{x0 x1 x2 x3 y0 y1 y2 y3:Value}{t:TypeId}(h:w.heap[g]? =some (.cells #[x0,x1,x2,x3] t (0,0))):(qJ w g y0 y1 y2 y3).heap[g]? =some (.cells #[y0,y1,y2,y3] t (0,0)):=
 gG (gG (gG (gG h 0 y0) 1 y1) 2 y2) 3 y3
theorem qX{W w:World}{g:Nat}{y0 y1 y2 y3:Value}(h:Below W.heap.size W w)(hg:W.heap.size<=g):Below W.heap.size W (qJ w g y0 y1 y2 y3):=(((h.setCell hg _).setCell hg _).setCell hg _).setCell hg _
theorem ael{B g:Nat}{w:World}{va vl vd y0 y1 y2 y3:Value}{x:aZ}{F:Nat->Prop}(h:Sn B w va vl vd x F)(hg:g<B):Sn B (qJ w g y0 y1 y2 y3) va vl vd x F:=(((h.set hg).set hg).set hg).set hg
set_option maxHeartbeats 16000000 in
theorem apu(ls:Sp.LS)(v:Value)(W:World)(hv:FW W.heap.size W v ls)(hfit:qH ls)(hG:G.ok W):Calls prog 15 #[v] W λe w'=>Gives W w' e (Sp.dec ls).1 (Sp.dec ls).2:=by
 have mixed:=Tryz.mixed;obtain⟨arJ,hlx⟩:=hfit;obtain⟨al,cl,rfl⟩:=lV hv;have hbase:=below2 W (Obj.cells yN 33 (0,0)) (Obj.cells yN 33 (0,0));have hsize:=aaK W (Obj.cells yN 33 (0,0)) (Obj.cells yN 33 (0,0));have hN0:=box1 W (Obj.cells yN 33 (0,0)) (Obj.cells yN 33 (0,0));have hdec:∀z,Sp.dec ls=z->Sp.dec ls=z:=λ_ h=>h
 go_enter Tryz.func15,Tryz.ntmps15
 go_wp2
 go_loopw [10] (λi wr=>∃n:Nat,n<=ls.length/\i=.int .i64 n/\(gJ cZ (ls.take n)).2=true/\UY n (gJ cZ (ls.take n)).1/\Held (W.heap.size+2) (W.heap.size+1) wr (gJ cZ (ls.take n)).1/\Kp (W.heap.size+2) (W.heap.size+1) ((W.alloc (Obj.cells yN 33 (0,0))).alloc (Obj.cells yN 33 (0,0))) wr)
  (λi _=>ls.length-(intOf i).toNat)
 case atStart=>exact⟨0,avc _,rfl,rfl,ahZ,⟨_,_,_,_,anN W _ _,Sn.zero _ _⟩,rfl,rfl,rfl,auT _,λ_ _ _=>rfl⟩
 case round=>
  obtain⟨n,hn,rfl,hok,hsz,hH,hK⟩:=hrel;have hlow:=hK.low (by omega) hbase;have hGr:G.ok wr:=bG hG hlow;have hwr:=hK.size;rw[hsize]at hwr;rcases avb n ls.length with hlt|hge
  .have hlt':((n:Nat):Int)<ls.length:=by omega
   obtain⟨bl,off,rfl,hbl,hcl⟩:=hv.cell hlt;have hcl:=(awr (a:=⟨bl,off+n,none⟩) (hlow.block bl hbl)).trans hcl;have hLl:=hlx _ (getD_in (d:=([],())) hlt);have hnext:=amH hlt hok;have hstop:=anP (l:=ls) (n:=n+1);rw[hnext]at hstop;have SY:UY (n+1) (kU (gJ cZ (ls.take n)).1 (Sp.pieces 32 (ls.getD n ([],())).1)).1:=amI hsz (by have:=Sp.pieces_len 32 (ls.getD n ([],())).1;omega) λy hy=>auU (CU y hy) hLl;generalize (ls.getD n ([],())).1=L at hcl hLl hnext hstop SY;have rr:=amJ (W.heap.size+2) (W.heap.size+1) wr _ L hLl hGr hH (by omega) hwr ⟨auU hsz.1 (by omega),auU hsz.2.1 (by omega),hsz.2.2.1,auU hsz.2.2.2.1 (by omega),hsz.2.2.2.2⟩;generalize kU (gJ cZ (ls.take n)).1 (Sp.pieces 32 L)=z at rr hnext hstop SY;obtain⟨x',b⟩:=z;dsimp only at rr hstop SY;cases b with
   |false=>
    have hd:=hstop rfl;clear hstop hnext
    go_wp2_with (first
     |(go_at_call 60;refine avk rr ?_;rintro e w' ⟨rfl,-,hK'⟩;have hKK:=hK.trans hK';have hlow':=hKK.low (by omega) hbase;have hq:=(hKK.block W.heap.size (by omega) (by omega)).trans hN0;obtain⟨⟨d0,d1,d2,d3⟩,z0,z1,z2,z3⟩:=four hq))
    all_goals (try simp only[Exit.inBlock,Exit.then])
    have r9:=vG (y0:=.slice none 0 0) (y1:=.slice none 0 0) (y2:=.int .i64 0) (y3:=.slice none 0 0) hq;have Fz:=qX (y0:=.slice none 0 0) (y1:=.slice none 0 0) (y2:=.int .i64 0) (y3:=.slice none 0 0) hlow' (auT _);unfold qJ at r9 Fz;clear d0 d1 d2 d3 z0 z1 z2 z3;refine awd (v:=.tuple #[.agg #[.slice none 0 0,.slice none 0 0,.int .i64 0,.slice none 0 0],.bool false]) ?_ rfl (by rw[hd];exact Gq Fz);obtain⟨⟨d0,d1,d2,d3⟩,z0,z1,z2,z3⟩:=four r9;rw[awO rfl]
    go_simp
   |true=>
    go_wp2_with (first
     |(go_at_call 60;refine avk rr ?_;rintro e w' ⟨rfl,hH',hK'⟩))
    exact⟨⟨n+1,hlt,rfl,by rw[hnext],by rw[hnext];exact SY,by rw[hnext];exact hH',hK.trans hK'⟩,by simp only[intOf];omega⟩
  .have hge':¬((n:Nat):Int)<ls.length:=by omega
   obtain rfl:n=ls.length:=by omega
   rw[av7]at hok hsz hH;have hsm:=afv hsz (by omega);obtain⟨va,vl,vd,F,hP,xP⟩:=hH;have hdb:=apt hok;have hdg:=anO hok;generalize (gJ cZ ls).1=x at hsz hsm hP xP hdb hdg;have hPl:=(auV.1 hP).1;have hq:=(hK.block W.heap.size (by omega) (by omega)).trans hN0;have vs:=apv xP hsm hGr;unfold uI at vs;obtain⟨⟨d0,d1,d2,d3⟩,z0,z1,z2,z3⟩:=four hP;cases hval:bT x with
   |false=>
    rw[hval]at vs hdb;have hd:=hdb rfl
    go_wp2_with (first
     |(go_at_call 28;refine avk vs ?_;rintro e w5 ⟨rfl,hb5⟩;have uq:=hlow.trans (hb5.mono hlow.size);have hq5:=(hb5.block W.heap.size (by omega)).trans hq;clear d0 d1 d2 d3 z0 z1 z2 z3;obtain⟨⟨d0,d1,d2,d3⟩,z0,z1,z2,z3⟩:=four hq5))
    all_goals (try simp only[Exit.inBlock,Exit.then])
    have r9:=vG (y0:=.slice none 0 0) (y1:=.slice none 0 0) (y2:=.int .i64 0) (y3:=.slice none 0 0) hq5;have Fz:=qX (y0:=.slice none 0 0) (y1:=.slice none 0 0) (y2:=.int .i64 0) (y3:=.slice none 0 0) uq (auT _);unfold qJ at r9 Fz;clear d0 d1 d2 d3 z0 z1 z2 z3;refine awd (v:=.tuple #[.agg #[.slice none 0 0,.slice none 0 0,.int .i64 0,.slice none 0 0],.bool false]) ?_ rfl (by rw[hd];exact Gq Fz);obtain⟨⟨d0,d1,d2,d3⟩,z0,z1,z2,z3⟩:=four r9;rw[awO rfl]
    go_simp
   |true=>
    rw[hval]at vs hdb;have es:=λw(hs:Sn (W.heap.size+2) w va vl vd x F) hG=>apw hs hsm hG;unfold uI at es;cases heq:decide (Sp.enc x=ls)with
    |false=>
     rw[heq]at hdb;have hd:=hdb rfl
     go_wp2_with (first
      |(go_at_call 28;refine avk vs ?_;rintro e w5 ⟨rfl,hb5⟩;have uq:=hlow.trans (hb5.mono hlow.size);have nR:=(hb5.block _ hPl).trans hP;clear d0 d1 d2 d3 z0 z1 z2 z3;obtain⟨⟨d0,d1,d2,d3⟩,z0,z1,z2,z3⟩:=four nR)
      |(go_at_call 14;refine avk (es w5 (xP.below hb5) (bG hG uq)) ?_;rintro e w6 ⟨v6,rfl,QK,hb6⟩;obtain⟨a6,c6,e6⟩:=lV QK;subst e6;have MQ:=hb5.trans (hb6.mono hb5.size);have uw:=uq.trans (hb6.mono uq.size))
      |(go_at_call 61;refine avk (aj2 QK (hv.keep' uw) (bG hG uw)) ?_;rintro e w7 ⟨rfl,hb7⟩;rw[heq];have MR:=MQ.trans (hb7.mono MQ.size);have S9:=uw.trans (hb7.mono uw.size);have hq7:=(MR.block W.heap.size (by omega)).trans hq;clear d0 d1 d2 d3 z0 z1 z2 z3;obtain⟨⟨d0,d1,d2,d3⟩,z0,z1,z2,z3⟩:=four hq7))
     all_goals (try simp only[Exit.inBlock,Exit.then])
     have r9:=vG (y0:=.slice none 0 0) (y1:=.slice none 0 0) (y2:=.int .i64 0) (y3:=.slice none 0 0) hq7;have Fz:=qX (y0:=.slice none 0 0) (y1:=.slice none 0 0) (y2:=.int .i64 0) (y3:=.slice none 0 0) S9 (auT _);unfold qJ at r9 Fz;clear d0 d1 d2 d3 z0 z1 z2 z3;refine awd (v:=.tuple #[.agg #[.slice none 0 0,.slice none 0 0,.int .i64 0,.slice none 0 0],.bool false]) ?_ rfl (by rw[hd];exact Gq Fz);obtain⟨⟨d0,d1,d2,d3⟩,z0,z1,z2,z3⟩:=four r9;rw[awO rfl]
     go_simp
    |true=>
     have hd:=hdg hval heq;obtain⟨aa,ca,rfl⟩:=xP.fa.form;obtain⟨ab,cb,rfl⟩:=xP.fl.form;obtain⟨ad,cd,rfl⟩:=xP.fd.form
     go_wp2_with (first
      |(go_at_call 28;refine avk vs ?_;rintro e w5 ⟨rfl,hb5⟩;have uq:=hlow.trans (hb5.mono hlow.size);have nR:=(hb5.block _ hPl).trans hP;clear d0 d1 d2 d3 z0 z1 z2 z3;obtain⟨⟨d0,d1,d2,d3⟩,z0,z1,z2,z3⟩:=four nR)
      |(go_at_call 14;refine avk (es w5 (xP.below hb5) (bG hG uq)) ?_;rintro e w6 ⟨v6,rfl,QK,hb6⟩;obtain⟨a6,c6,e6⟩:=lV QK;subst e6;have MQ:=hb5.trans (hb6.mono hb5.size);have uw:=uq.trans (hb6.mono uq.size))
      |(go_at_call 61;refine avk (aj2 QK (hv.keep' uw) (bG hG uw)) ?_;rintro e w7 ⟨rfl,hb7⟩;rw[heq];have MR:=MQ.trans (hb7.mono MQ.size);have S9:=uw.trans (hb7.mono uw.size);have hq7:=(MR.block W.heap.size (by omega)).trans hq;have hP7:=(MR.block _ hPl).trans hP;have anQ:=xP.below MR;clear d0 d1 d2 d3 z0 z1 z2 z3;obtain⟨⟨d0,d1,d2,d3⟩,z0,z1,z2,z3⟩:=four hq7;obtain⟨⟨p0,p1,p2,p3⟩,y0,y1,y2,y3⟩:=four hP7))
     all_goals (try simp only[Exit.inBlock,Exit.then])
     have r9:=vG (y0:=.slice aa x.1.length ca) (y1:=.slice ab x.2.1.length cb) (y2:=.int .i64 x.2.2.1) (y3:=.slice ad x.2.2.2.1.length cd) hq7;have Fz:=qX (y0:=.slice aa x.1.length ca) (y1:=.slice ab x.2.1.length cb) (y2:=.int .i64 x.2.2.1) (y3:=.slice ad x.2.2.2.1.length cd) S9 (auT _);have hs9:=ael (y0:=.slice aa x.1.length ca) (y1:=.slice ab x.2.1.length cb) (y2:=.int .i64 x.2.2.1) (y3:=.slice ad x.2.2.2.1.length cd) anQ (show W.heap.size<W.heap.size+2 by omega);unfold qJ at r9 Fz hs9;clear d0 d1 d2 d3 z0 z1 z2 z3;refine awd (v:=.tuple #[.agg #[.slice aa x.1.length ca,.slice ab x.2.1.length cb,.int .i64 x.2.2.1,.slice ad x.2.2.2.1.length cd],.bool true]) ?_ rfl (by rw[hd];exact ah0 (by omega) Fz hs9);obtain⟨⟨d0,d1,d2,d3⟩,z0,z1,z2,z3⟩:=four r9;rw[awO rfl]
     go_simp
theorem Pe:fG prog G zB wF:=by
 intro args p out k S vs w hcon hp hG hrep;unfold wF iw xK at hcon;split at hcon
 .next x hx=>
  obtain⟨ls,⟨⟩⟩:=x;have hv:=D8 yj args _ vs.toList hx hrep
  match hvs:vs.toList,hv with
  |[v],hv=>
   have e1:dh w.heap _ (.sl aU dK) v ls:=hv.1;have e2:vs=#[v]:=by obtain⟨l⟩:=vs;simp at hvs;rw[hvs]
   subst e2;have hF:=Option.some.inj hcon;have hp1:p=qH ls:=(congrArg Prod.fst hF).symm;have hout:out=⟨[(true,[.plain (.sl aB bK (Sp.dec ls).1.1 true),.plain (.sl aP dI (Sp.dec ls).1.2.1 true),.plain (.int .i64 (Sp.dec ls).1.2.2.1),.plain (.sl aX dA (Sp.dec ls).1.2.2.2.1 true)]),(false,[.plain (.bool (Sp.dec ls).2)])],none⟩:=(congrArg Prod.snd hF).symm;subst hp1 hout;refine(apu ls v w (dh.mono (λb hb=>⟨hb.1.1,rfl⟩) _ _ _ e1) hp hG).mono ?_;rintro e w' ⟨va,vl,vd,rfl,hb,hn,r1,r2,r3⟩;refine⟨_,λ_=>undef,rfl,hb.os,hb.tape,hb.output,hb.size,hb.block,?_,(λo x hx=>by cases hx),(λo x q y b hx=>by cases hx)⟩;exact⟨_,rfl,⟨_,rfl,dh.mono (λb hb=>⟨⟨⟨hb.2,λh=>absurd h (axt.2 hb.1),λo x hx=>by cases hx⟩,λ_=>hb.1⟩,rfl⟩) _ _ _ r1,dh.mono (λb hb=>⟨⟨⟨hb.2,λh=>absurd h (axt.2 hb.1),λo x hx=>by cases hx⟩,λ_=>hb.1⟩,rfl⟩) _ _ _ r2,⟨rfl,hn⟩,dh.mono (λb hb=>⟨⟨⟨hb.2,λh=>absurd h (axt.2 hb.1),λo x hx=>by cases hx⟩,λ_=>hb.1⟩,rfl⟩) _ _ _ r3,trivial⟩,rfl,trivial⟩
 .cases hcon
end Go.Proofs.Tryz
namespace Go.Proofs.Tryz
open Go Go.Fw Go.RowKit Sp
set_option maxRecDepth 100000
theorem EN(s:List UInt8)(hs:s.length<=1048576)(w:World)(hG:G.ok w):Calls prog 110 #[.string ⟨s.toArray⟩] w λe w'=>
 ∃a c,e=.returned (.tuple #[.slice a (bf s).length c,.bool (gZ s)])/\FW w'.heap.size w' (.slice a (bf s).length c) (bf s)/\Below w.heap.size w w':=by
 have hc:fG prog G 110 (iw kW.sh kW.bI kW.F):=Hf.1;refine(hc [.sv (.one (.str s))] (s.length<=1048576) _ 0 (λ_=>True) #[.string ⟨s.toArray⟩] w rfl hs hG ⟨⟨rfl,by rw[maxLen_eq];omega⟩,trivial⟩).mono ?_;rintro e w' ⟨v,vals,rfl,h1,h2,h3,h4,h5,h6,_,_⟩;obtain⟨vs,rfl,h7⟩:=h6;obtain⟨l⟩:=vs
 match l,h7 with
 |[x,y],h7=>obtain⟨hx,hy,_⟩:=h7;have hx:dh w'.heap _ (.sl aU dK) x (bf s):=hx;have hy:y=.bool (gZ s):=hy;obtain⟨a,c,ex⟩:=lV hx;rw[ex]at hx;rw[hy,ex];exact⟨a,c,rfl,dh.mono (λb hb=>⟨hb.1.1,rfl⟩) _ _ _ hx,h1,h2,h3,h4,h5⟩
theorem qK{w:World}{v:Value}{f:Sp.LS}(hv:FW w.heap.size w v f){i:Int}(h0:0<=i)(h1:i<=100000)(hG:G.ok w):Calls prog 111 #[v,.int .i64 i] w λe w'=>e=.returned (.string ⟨(Sp.wordAt f i).toArray⟩)/\Below w.heap.size w w':=by have hc:fG prog G 111 (iw lK.sh lK.bI lK.F):=Gs.1;refine(hc [.sv (.one (.sl aU dK f false)),.sv (.one (.int .i64 i))] (0<=i) _ 0 (λ_=>True) #[v,.int .i64 i] w rfl h0 hG ⟨xQ hv,⟨rfl,by show -9223372036854775808<=i;omega,by show i<=9223372036854775807;omega⟩,trivial⟩).mono ?_;rintro e w' ⟨v,vals,rfl,h1,h2,h3,h4,h5,h6,_,_⟩;have h6:v=.string ⟨(Sp.wordAt f i).toArray⟩/\_:=h6;exact⟨by rw[h6.1],h1,h2,h3,h4,h5⟩
theorem Yf{w:World}{v:Value}{f:Sp.LS}(hv:FW w.heap.size w v f){i:Int}(h0:0<=i)(h1:i<=100000)(hG:G.ok w):Calls prog 112 #[v,.int .i64 i] w λe w'=>e=.returned (.int .i64 (Sp.numAt f i))/\Below w.heap.size w w':=by have hc:fG prog G 112 (iw wL.sh wL.bI wL.F):=aem.1;refine(hc [.sv (.one (.sl aU dK f false)),.sv (.one (.int .i64 i))] (0<=i) _ 0 (λ_=>True) #[v,.int .i64 i] w rfl h0 hG ⟨xQ hv,⟨rfl,by show -9223372036854775808<=i;omega,by show i<=9223372036854775807;omega⟩,trivial⟩).mono ?_;rintro e w' ⟨v,vals,rfl,h1,h2,h3,h4,h5,h6,_,_⟩;have h6:v=.int .i64 (Sp.numAt f i)/\_:=h6;exact⟨by rw[h6.1],h1,h2,h3,h4,h5⟩
theorem anR(s:List UInt8)(hs:s.length<=1048576)(w:World)(hG:G.ok w):Calls prog 113 #[.string ⟨s.toArray⟩] w λe w'=>
 e=.returned (.tuple #[.agg #[.int .i64 (aV s).1.1,.int .i64 (aV s).1.2.1,.string ⟨(aV s).1.2.2.1.toArray⟩],.bool (aV s).2])/\Below w.heap.size w w'/\uy (aV s).1.1/\uy (aV s).1.2.1/\(aV s).1.2.2.1.length<=maxLen:=by
 have hc:fG prog G 113 (iw kE.sh kE.bI kE.F):=I9.1;refine(hc [.sv (.one (.str s))] (s.length<=1048576) _ 0 (λ_=>True) #[.string ⟨s.toArray⟩] w rfl hs hG ⟨⟨rfl,by rw[maxLen_eq];omega⟩,trivial⟩).mono ?_;rintro e w' ⟨v,vals,rfl,h1,h2,h3,h4,h5,h6,_,_⟩;obtain⟨vs,rfl,h7⟩:=h6;obtain⟨l⟩:=vs
 match l,h7 with
 |[a,b],h7=>
  obtain⟨⟨us,ea,h8⟩,h9,_⟩:=h7;obtain⟨ul⟩:=us
  match ul,h8 with
  |[x,y,z],h8=>obtain⟨x1,y1,z1,_⟩:=h8;have h9:b=.bool (aV s).2:=h9;rw[ea,h9,x1.1,y1.1,z1.1];exact⟨rfl,⟨h1,h2,h3,h4,h5⟩,x1.2,y1.2,z1.2⟩
theorem anS(s:List UInt8)(hs:s.length<=1048576)(w:World)(hG:G.ok w):Calls prog 114 #[.string ⟨s.toArray⟩] w λe w'=>
 ∃a c,e=.returned (.tuple #[.slice a (fM s).length c,.bool (gq s)])/\Below w.heap.size w w'/\dh w'.heap (λb=>w.heap.size<=b/\b<w'.heap.size) (.sl aF bg) (.slice a (fM s).length c) (fM s):=by
 have hcon:fG prog G 114 (iw pV.sh pV.bI pV.F):=Xb.1;refine(hcon [.sv (.one (.str s))] (s.length<=1048576) _ 0 (λ_=>False) #[.string ⟨s.toArray⟩] w rfl hs hG ⟨⟨rfl,by rw[maxLen_eq];omega⟩,trivial⟩).mono ?_;rintro e w' ⟨v,vals,rfl,h1,h2,h3,h4,h5,h6,_,_⟩;obtain⟨vs,rfl,h7⟩:=h6;obtain⟨l⟩:=vs
 match l,h7 with
 |[x,y],h7=>obtain⟨hx,hy,_⟩:=h7;have hx:dh w'.heap _ (.sl aF bg) x (fM s):=hx;have hy:y=.bool (gq s):=hy;obtain⟨a,c,ex⟩:=lV hx;rw[ex]at hx;rw[hy,ex];exact⟨a,c,rfl,⟨h1,h2,h3,h4,h5⟩,dh.mono (λb hb=>⟨⟨ax3 hb.1.2.1,hb.1.1⟩,rfl⟩) _ _ _ hx⟩
theorem apx(v:Value)(f:Sp.LS)(w:World)(hv:FW w.heap.size w v f)(hf:f.length<=1000)(hj:(gm f).length<=2097152)(hG:G.ok w):Calls prog 115 #[v] w λe w'=>
 e=.returned (.string ⟨(gm f).toArray⟩)/\Below w.heap.size w w':=by
 have hcon:fG prog G 115 (iw qG.sh qG.bI qG.F):=Oy.1;refine(hcon [.sv (.one (.sl aU dK f false))] (f.length<=1000/\(gm f).length<=2097152) _ 0 (λ_=>True) #[v] w rfl ⟨hf,hj⟩ hG ⟨xQ hv,trivial⟩).mono ?_;rintro e w' ⟨v,vals,rfl,h1,h2,h3,h4,h5,h6,_,_⟩;have h6:v=.string ⟨(gm f).toArray⟩/\_:=h6;rw[h6.1];exact⟨rfl,h1,h2,h3,h4,h5⟩
def Back(B:Nat)(W w':World)(e:Ending)(x:aZ):Prop:=∃va vl vd F,e=.returned (uI va vl vd x.2.2.1)/\Sn B w' va vl vd x F/\Kp B B W w'
theorem Tc{B:Nat}{W w:World}(hB:B<=W.heap.size)(k:Below W.heap.size W w):Kp B B W w:=⟨k.os,k.tape,k.output,k.size,λb hb _=>k.block b (by omega)⟩
theorem qY{line:List UInt8}:(bf line).length<=24/\∀y∈bf line,y.1.length<=600:=by
 unfold bf;cases h:gZ line with
 |false=>exact⟨avc _,λy hy=>by cases hy⟩
 |true=>have hs:=qZ.1 h;refine⟨?_,λy hy=>auU (Td y hy) hs.1⟩;show(Sp.wordsOf line).length<=24;rw[vH];exact hs.2.2
end Go.Proofs.Tryz
namespace Go.Proofs.Tryz
open Go Go.Fw Go.RowKit Sp
set_option maxRecDepth 100000
theorem Sn.far{B:Nat}{w w':World}{va vl vd:Value}{x:aZ}{F:Nat->Prop}(h:Sn B w va vl vd x F)(hs:w.heap.size<=w'.heap.size){g:Nat}(hg:¬F g/\va.ownBlock≠some g/\vl.ownBlock≠some g/\vd.ownBlock≠some g)(k:∀b,b<w.heap.size->b≠g->w'.heap[b]? =w.heap[b]?):Sn B w' va vl vd x F:=by obtain⟨g1,g2,g3,g4⟩:=hg;have hf:∀b,F b->w'.heap[b]? =w.heap[b]? :=λb hb=>k b (h.foot b hb).2.1 λe=>g1 (e▸hb);exact⟨h.fa.keep (λb hb=>k b (h.fa.lt hb).2 λe=>g2 (e▸hb)) hf,h.fl.keep (λb hb=>k b (h.fl.lt hb).2 λe=>g3 (e▸hb)) hf,h.fd.keep (λb hb=>k b (h.fd.lt hb).2 λe=>g4 (e▸hb)) hf,h.nx,h.ne,λb hb=>⟨(h.foot b hb).1,avh (h.foot b hb).2.1 hs,(h.foot b hb).2.2⟩⟩
theorem anT{w:World}{g b:Nat}{y0 y1 y2 y3:Value}(h:b≠g):(qJ w g y0 y1 y2 y3).heap[b]? =w.heap[b]? :=(ng _ h).trans ((ng _ h).trans ((ng _ h).trans (ng _ h)))
theorem amK{w:World}{g:Nat}{y0 y1 y2 y3:Value}:(qJ w g y0 y1 y2 y3).heap.size=w.heap.size:=by simp[qJ,World.setCell]
theorem Kp.high{B g k:Nat}{W w:World}{v:Value}(h:Kp B B W w)(hg:B<=g):Kp B B W (w.setCell ⟨g,k,none⟩ v):=
 ⟨h.os,h.tape,h.output,by simpa[World.setCell]using h.size,λb hb hn=>(ng v (show b≠g by omega)).trans (h.block b hb hn)⟩
theorem Kp.qJ{B g:Nat}{W w:World}{y0 y1 y2 y3:Value}(h:Kp B B W w)(hg:B<=g):Kp B B W (qJ w g y0 y1 y2 y3):=(((h.high hg).high hg).high hg).high hg
theorem Tf(W:World)(o:Obj):Below W.heap.size W ((W.alloc o).alloc (Obj.cells #[.slice none 0 0,.slice none 0 0,.int .i64 0,.slice none 0 0] 33 (0,0)))/\((W.alloc o).alloc (Obj.cells #[.slice none 0 0,.slice none 0 0,.int .i64 0,.slice none 0 0] 33 (0,0))).heap[W.heap.size]? =some o/\
 ((W.alloc o).alloc (Obj.cells #[.slice none 0 0,.slice none 0 0,.int .i64 0,.slice none 0 0] 33 (0,0))).heap[W.heap.size+1]? =some (Obj.cells #[.slice none 0 0,.slice none 0 0,.int .i64 0,.slice none 0 0] 33 (0,0))/\((W.alloc o).alloc (Obj.cells #[.slice none 0 0,.slice none 0 0,.int .i64 0,.slice none 0 0] 33 (0,0))).heap.size=W.heap.size+2:=
 ⟨below2 W o _,box1 W o _,anN W o _,aaK W o _⟩
theorem Sn.high{B:Nat}{w:World}{va vl vd:Value}{x:aZ}{F:Nat->Prop}(h:Sn B w va vl vd x F)(n:Nat)(hn:w.heap.size<=n):¬F n/\va.ownBlock≠some n/\vl.ownBlock≠some n/\vd.ownBlock≠some n:=
 ⟨(λe=>by have:=(h.foot n e).2.1;omega),(λe=>by have:=(h.fa.lt e).2;omega),(λe=>by have:=(h.fl.lt e).2;omega),λe=>by have:=(h.fd.lt e).2;omega⟩
theorem acw{own:Option Nat}{g H:Nat}{W:World}(h:own=some g\/g=H)(ho:∀b,own=some b->b<W.heap.size)(hH:W.heap.size+2<=H):∀n,W.heap.size<=n->n<=W.heap.size+1->some g≠some n:=λn h1 h2 e=>by
 cases e;rcases h with h|h
 .have:=ho _ h;omega
 .omega
theorem acy{B k:Nat}{W w:World}{x:aZ}{F:Nat->Prop}{va vl vd x0 x1 x2 x3:Value}{t:TypeId}(v y0 y1 y2 y3:Value)(hx:Sn B w va vl vd x F)(hk:Kp B B W w)(hB:B<=W.heap.size)
 (o0:∀n,W.heap.size<=n->n<=W.heap.size+1->¬F n/\va.ownBlock≠some n/\vl.ownBlock≠some n/\vd.ownBlock≠some n) (q:w.heap[W.heap.size+1]? =some (.cells #[x0,x1,x2,x3] t (0,0))):
 (qJ (w.setCell ⟨W.heap.size,k,none⟩ v) (W.heap.size+1) y0 y1 y2 y3).heap[W.heap.size+1]? =some (.cells #[y0,y1,y2,y3] t (0,0))/\Sn B (qJ (w.setCell ⟨W.heap.size,k,none⟩ v) (W.heap.size+1) y0 y1 y2 y3) va vl vd x F/\Kp B B W (qJ (w.setCell ⟨W.heap.size,k,none⟩ v) (W.heap.size+1) y0 y1 y2 y3):=by
 have q9:=(ng (w:=w) (p:=⟨W.heap.size,k,none⟩) (b:=W.heap.size+1) v (by show W.heap.size+1≠W.heap.size;omega)).trans q;have s7:=hx.far (w':=w.setCell ⟨W.heap.size,k,none⟩ v) (by simp[World.setCell]) (o0 _ (auT _) (by omega)) λb _ hb=>ng _ hb;exact⟨vG q9,s7.far (Nat.le_of_eq amK.symm) (o0 _ (by omega) (auT _)) λb _ hb=>anT hb,(hk.high (by omega)).qJ (by omega)⟩
set_option maxHeartbeats 16000000 in
theorem anU(B:Nat)(W:World)(va vl vd:Value)(x:aZ)(F:Nat->Prop)(line:List UInt8)(hl:line.length<=1048576)(hG:G.ok W)(hS:Sn B W va vl vd x F)(hB:B<=W.heap.size)
 (h1:¬Sp.wordAt (bf line) 0=gV) (h2:¬Sp.wordAt (bf line) 0=qA) (h3:¬Sp.wordAt (bf line) 0=jX) (h4:¬Sp.wordAt (bf line) 0=jw):
 Calls prog 64 #[uI va vl vd x.2.2.1,.string ⟨line.toArray⟩] W λe w'=>Back B W w' e x:=by
 have mixed:=Tryz.mixed;obtain⟨aa,ca,rfl⟩:=hS.fa.form;obtain⟨ab,cb,rfl⟩:=hS.fl.form;obtain⟨ad,cd,rfl⟩:=hS.fd.form;have sf:=λw hG=>EN line hl w hG;have hsm:=@qY line;unfold uI;generalize bf line=f at sf hsm h1 h2 h3 h4;generalize gZ line=sok at sf;have lp:=λ(w:World)(v:Value)(hv:FW w.heap.size w v f) hG=>qK hv (i:=0) (by decide) (by decide) hG;obtain⟨x0,hx0,hx1⟩:∃x0,Hid (x0=Sp.wordAt f 0)/\x0=Sp.wordAt f 0:=⟨_,rfl,rfl⟩;rw[← hx1]at h1 h2 h3 h4 lp;clear hx1;have g1:(x0==[102,105,101,108,100])=false:=auP.2 h1;have g2:(x0==[110,101,120,116])=false:=auP.2 h2;have g3:(x0==[102,105,108,101])=false:=auP.2 h3;have g4:(x0==[100,105,114])=false:=auP.2 h4;obtain⟨hbase,hN0,hN1,hsz2⟩:=Tf W (Obj.cells #[.slice aa x.1.length ca,.slice ab x.2.1.length cb,.int .i64 x.2.2.1,.slice ad x.2.2.2.1.length cd] 33 (0,0));have FB:=sf _ (bG hG hbase);clear sf
 go_enter Tryz.func64,Tryz.ntmps64
 go_wp2_with (first
  |(go_at_call 110;refine avk FB ?_;rintro e w1 ⟨a1,c1,rfl,hf1,hb1⟩;have hb1':=hbase.trans (hb1.mono hbase.size);have hG1:=bG hG hb1';clear FB)
  |(go_at_call 111;refine avk (lp w1 _ hf1 hG1) ?_;rintro e w2 ⟨rfl,hb2⟩;have lW:=hb1.trans (hb2.mono hb1.size);have hb2':=hbase.trans (lW.mono hbase.size);have q0:=(lW.block W.heap.size (by omega)).trans hN0;have q1:=(lW.block (W.heap.size+1) (by omega)).trans hN1;obtain⟨⟨d0,d1,d2,d3⟩,z0,z1,z2,z3⟩:=four q0;obtain⟨⟨p0,p1,p2,p3⟩,y0,y1,y2,y3⟩:=four q1))
 all_goals (try simp only[Exit.inBlock,Exit.then])
 have r9:=vG (y0:=.slice aa x.1.length ca) (y1:=.slice ab x.2.1.length cb) (y2:=.int .i64 x.2.2.1) (y3:=.slice ad x.2.2.2.1.length cd) q1;have s9:=hS.below (qX (y0:=.slice aa x.1.length ca) (y1:=.slice ab x.2.1.length cb) (y2:=.int .i64 x.2.2.1) (y3:=.slice ad x.2.2.2.1.length cd) hb2' (show W.heap.size<=W.heap.size+1 by omega));have k9:=Tc hB (qX (y0:=.slice aa x.1.length ca) (y1:=.slice ab x.2.1.length cb) (y2:=.int .i64 x.2.2.1) (y3:=.slice ad x.2.2.2.1.length cd) hb2' (show W.heap.size<=W.heap.size+1 by omega));unfold qJ at r9 s9 k9;exact awd (awP rfl _ _ (W.heap.size+1) _ _ _ _ (by rfl) r9 Tryz.underlying33 rfl (by kernel_rfl)) rfl ⟨_,_,_,_,rfl,s9,k9⟩
end Go.Proofs.Tryz
namespace Go.Proofs.Tryz
open Go Go.Fw Go.RowKit Sp
set_option maxRecDepth 100000
theorem uJ{f:Sp.LS}(h:∀y∈f,y.1.length<=600)(i:Int):(Sp.wordAt f i).length<=600:=by
 by_cases hh:i<(f.length:Int)
 .rw[qi hh,auS];cases e:f[i.toNat]? with
  |none=>exact avc _
  |some x=>exact h x (avx e)
 .rw[qj (by omega)];exact avc _
set_option maxHeartbeats 16000000 in
theorem anV(B:Nat)(W:World)(va vl vd:Value)(x:aZ)(F:Nat->Prop)(line:List UInt8)(hl:line.length<=1048576)(hG:G.ok W)(hS:Sn B W va vl vd x F)(hB:B<=W.heap.size)
 (h0:Sp.wordAt (bf line) 0=qA):
 Calls prog 64 #[uI va vl vd x.2.2.1,.string ⟨line.toArray⟩] W λe w'=>Back B W w' e (x.1,x.2.1,Sp.numAt (bf line) 1,x.2.2.2.1,()):=by
 have mixed:=Tryz.mixed;obtain⟨aa,ca,rfl⟩:=hS.fa.form;obtain⟨ab,cb,rfl⟩:=hS.fl.form;obtain⟨ad,cd,rfl⟩:=hS.fd.form;have sf:=λw hG=>EN line hl w hG;have hsm:=@qY line;unfold uI;generalize bf line=f at sf hsm h0 ⊢;generalize gZ line=sok at sf;have lp:=λ(w:World)(v:Value)(hv:FW w.heap.size w v f) hG=>qK hv (i:=0) (by decide) (by decide) hG;rw[show Sp.wordAt f 0=[110,101,120,116]from h0]at lp;have hno:uy (Sp.numAt f 1):=QL _;have ln:=λ(w:World)(v:Value)(hv:FW w.heap.size w v f) hG=>Yf hv (i:=1) (by decide) (by decide) hG;generalize Sp.numAt f 1=n at hno ln ⊢;obtain⟨hbase,hN0,hN1,hsz2⟩:=Tf W (Obj.cells #[.slice aa x.1.length ca,.slice ab x.2.1.length cb,.int .i64 x.2.2.1,.slice ad x.2.2.2.1.length cd] 33 (0,0));have FB:=sf _ (bG hG hbase);clear sf
 go_enter Tryz.func64,Tryz.ntmps64
 go_wp2_with (first
  |(go_at_call 110;refine avk FB ?_;rintro e w1 ⟨a1,c1,rfl,hf1,hb1⟩;have hb1':=hbase.trans (hb1.mono hbase.size);have hG1:=bG hG hb1';clear FB)
  |(go_at_call 111;refine avk (lp w1 _ hf1 hG1) ?_;rintro e w2 ⟨rfl,hb2⟩;have lW:=hb1.trans (hb2.mono hb1.size);have hb2':=hbase.trans (lW.mono hbase.size);have hG2:=bG hG hb2';have hf2:=hf1.keep' hb2;clear lp)
  |(go_at_call 112;refine avk (ln w2 _ hf2 hG2) ?_;rintro e w3 ⟨rfl,hb3⟩;have qL:=lW.trans (hb3.mono lW.size);have ah1:=hbase.trans (qL.mono hbase.size);have q0:=(qL.block W.heap.size (by omega)).trans hN0;have q1:=(qL.block (W.heap.size+1) (by omega)).trans hN1;obtain⟨⟨d0,d1,d2,d3⟩,z0,z1,z2,z3⟩:=four q0;obtain⟨⟨p0,p1,p2,p3⟩,y0,y1,y2,y3⟩:=four q1))
 all_goals (try simp only[Exit.inBlock,Exit.then])
 have q9:=(ng (w:=w3) (p:=⟨W.heap.size,2,none⟩) (b:=W.heap.size+1) (.int .i64 n) (by show W.heap.size+1≠W.heap.size;omega)).trans q1;have b9:=qX (y0:=.slice aa x.1.length ca) (y1:=.slice ab x.2.1.length cb) (y2:=.int .i64 n) (y3:=.slice ad x.2.2.2.1.length cd) (ah1.setCell (p:=⟨W.heap.size,2,none⟩) (auT _) (.int .i64 n)) (show W.heap.size<=W.heap.size+1 by omega);have r9:=vG (y0:=.slice aa x.1.length ca) (y1:=.slice ab x.2.1.length cb) (y2:=.int .i64 n) (y3:=.slice ad x.2.2.2.1.length cd) q9;have s9:=(hS.next hno).below b9;have k9:=Tc hB b9;unfold qJ at r9 s9 k9;exact awd (awP rfl _ _ (W.heap.size+1) _ _ _ _ (by rfl) r9 Tryz.underlying33 rfl (by kernel_rfl)) rfl ⟨_,_,_,_,rfl,s9,k9⟩
set_option maxHeartbeats 16000000 in
theorem agk(B:Nat)(W:World)(va vl vd:Value)(x:aZ)(F:Nat->Prop)(line:List UInt8)(hl:line.length<=1048576)(hG:G.ok W)(hS:Sn B W va vl vd x F)(hB:B<=W.heap.size)
 (h0:Sp.wordAt (bf line) 0=gV)
 (h2:Sp.wordAt (bf line) 2=Gt) (hz:x.1.length<=200):
 Calls prog 64 #[uI va vl vd x.2.2.1,.string ⟨line.toArray⟩] W λe w'=>Back B W w' e (x.1++[(Sp.wordAt (bf line) 1,1,())],x.2.1,x.2.2.1,x.2.2.2.1,()):=by
 have mixed:=Tryz.mixed;obtain⟨aa,ca,rfl⟩:=hS.fa.form;obtain⟨ab,cb,rfl⟩:=hS.fl.form;obtain⟨ad,cd,rfl⟩:=hS.fd.form;have sf:=λw hG=>EN line hl w hG;have hsm:=@qY line;unfold uI;generalize bf line=f at sf hsm h0 h2 ⊢;generalize gZ line=sok at sf;have lp:=λ(w:World)(v:Value)(hv:FW w.heap.size w v f) hG=>qK hv (i:=0) (by decide) (by decide) hG;rw[show Sp.wordAt f 0=[102,105,101,108,100]from h0]at lp;have hw1:(Sp.wordAt f 1).length<=600:=uJ hsm.2 1;have Oz:=λ(w:World)(v:Value)(hv:FW w.heap.size w v f) hG=>qK hv (i:=1) (by decide) (by decide) hG;have lp2:=λ(w:World)(v:Value)(hv:FW w.heap.size w v f) hG=>qK hv (i:=2) (by decide) (by decide) hG;generalize Sp.wordAt f 1=nm at hw1 Oz ⊢;rw[show Sp.wordAt f 2=[105,110,116]from h2]at lp2;obtain⟨i0,hi,hz0,hz1,hz2⟩:=awW ah2;have hqm:x.1.length+1<=maxLen:=by rw[maxLen_eq];omega
 have nG:(x.1.length+1)*24<=140737488355328:=by omega
 obtain⟨xs,hown,hrep⟩:=hS.fa;have hown:W.ownsRow B 54 2 (.slice aa x.1.length ca) x.1.length xs:=hown;have hrep:∀i z,x.1[i]? =some z->aI W.heap F bK ((xs.drop (i*2)).take 2) z:=hrep;have Gu:∀b,(Value.slice aa x.1.length ca).ownBlock=some b->b<W.heap.size:=λb e=>(hS.fa.lt e).2;obtain⟨hbase,hN0,hN1,hsz2⟩:=Tf W (Obj.cells #[.slice aa x.1.length ca,.slice ab x.2.1.length cb,.int .i64 x.2.2.1,.slice ad x.2.2.2.1.length cd] 33 (0,0));have FB:=sf _ (bG hG hbase);clear sf
 go_enter Tryz.func64,Tryz.ntmps64
 go_wp2_with (first
  |(go_at_call 110;refine avk FB ?_;rintro e w1 ⟨a1,c1,rfl,hf1,hb1⟩;have hb1':=hbase.trans (hb1.mono hbase.size);have hG1:=bG hG hb1';clear FB)
  |(go_at_call 111;refine avk (lp w1 _ hf1 hG1) ?_;rintro e w2 ⟨rfl,hb2⟩;have lW:=hb1.trans (hb2.mono hb1.size);have hb2':=hbase.trans (lW.mono hbase.size);have hG2:=bG hG hb2';have hf2:=hf1.keep' hb2;clear lp)
  |(go_at_call 111;refine avk (Oz w2 _ hf2 hG2) ?_;rintro e w3 ⟨rfl,hb3⟩;have qL:=lW.trans (hb3.mono lW.size);have Ie:=(Below.refl w3.heap.size w3).alloc (auT _) (Obj.cells #[.string ⟨nm.toArray⟩,.int .i64 2] 54 (0,0));have hrow3:=avz w3 (Obj.cells #[.string ⟨nm.toArray⟩,.int .i64 2] 54 (0,0));have Au:=qL.trans (Ie.mono qL.size);have Ti:=hbase.trans (Au.mono hbase.size);have hf3:=(hf2.keep' hb3).keep' Ie;clear Oz)
  |(go_at_call 111;refine avk (lp2 _ _ hf3 (bG hG Ti)) ?_;rintro e w4 ⟨rfl,hb4⟩;have hrow4:=(hb4.block w3.heap.size (by simp)).trans hrow3;have aqo:=Ie.size;have yx:=Au.trans (hb4.mono Au.size);have aaM:=hbase.trans (yx.mono hbase.size);have t0:=aN hrow4 0;have t1:=aN hrow4 1;have u0:=dN hrow4 0;have u1:=dN hrow4 1;have t0:w4.cell? ⟨w3.heap.size,0,none⟩=some (.string ⟨nm.toArray⟩):=t0;have t1:w4.cell? ⟨w3.heap.size,1,none⟩=some (.int .i64 2):=t1;have anW:=qL.size;have q0:=(yx.block W.heap.size (by omega)).trans hN0;have q1:=(yx.block (W.heap.size+1) (by omega)).trans hN1;obtain⟨⟨d0,d1,d2,d3⟩,z0,z1,z2,z3⟩:=four q0)
  |(at_builtin;have hbs:Below W.heap.size W (w4.setCell ⟨w3.heap.size,1,none⟩ (.int .i64 1)):=aaM.setCell (p:=⟨w3.heap.size,1,none⟩) (show W.heap.size<=w3.heap.size by omega) _;have hb6:Below W.heap.size W ((w4.setCell ⟨w3.heap.size,1,none⟩ (.int .i64 1)).alloc (Obj.cells #[.string ⟨nm.toArray⟩,.int .i64 1] 54 (0,0))):=hbs.alloc hbs.size _;have hxs:=vI (w':=(w4.setCell ⟨w3.heap.size,1,none⟩ (.int .i64 1)).alloc (Obj.cells #[.string ⟨nm.toArray⟩,.int .i64 1] 54 (0,0))) hown λb e=>hb6.block b (Gu b e);have QM:=avz (w4.setCell ⟨w3.heap.size,1,none⟩ (.int .i64 1)) (Obj.cells #[.string ⟨nm.toArray⟩,.int .i64 1] 54 (0,0));have Tj:(w4.setCell ⟨w3.heap.size,1,none⟩ (.int .i64 1)).heap.size=w4.heap.size:=(by first|rfl|simp);rw[Tj]at QM;refine wpList_append_lies _ rfl _ _ 26 (by rfl) B 54 i0 Xc 2 24 Tryz.underlying26 hi hz0 hz1 hz2 rfl (by decide) (.slice aa x.1.length ca) x.1.length xs (by rfl) hxs ⟨w4.heap.size,0,none⟩ 1 1 [.string ⟨nm.toArray⟩,.int .i64 1] (by rfl) rfl (World.news_of_block QM) (by intro u hu;simp at hu;rcases hu with rfl|rfl<;>rfl) (by decide) hqm nG (auU hB hb6.size) _ rfl ?_;intro g cap w6 hown6 hgrow6 Gv Tm;have hnN:∀b,W.heap.size<=b->(Value.slice aa x.1.length ca).ownBlock≠some b:=λb hb e=>by have:=Gu b e;omega
    have hsz5:=hbs.size;have hq5:∀b o,b<=W.heap.size+1->W.heap.size<=b->w4.heap[b]? =some o->w6.heap[b]? =some o:=λb o hb hb2 ho=>(hgrow6.block b (by have:=(auV.1 ho).1;simp;(try simp[World.setCell]);omega) (λe=>hnN b hb2 e.symm)).trans ((heap_alloc_old (w4.setCell ⟨w3.heap.size,1,none⟩ (.int .i64 1)) _ (by have:=(auV.1 ho).1;(try simp[World.setCell]);omega)).trans ((ng (w:=w4) (p:=⟨w3.heap.size,1,none⟩) _ (by show b≠w3.heap.size;omega)).trans ho));have q0':=hq5 _ _ (by omega) (auT _) q0;have q1':=hq5 _ _ (auT _) (by omega) q1;clear d0 d1 d2 d3 z0 z1 z2 z3;obtain⟨⟨d0,d1,d2,d3⟩,z0,z1,z2,z3⟩:=four q0';obtain⟨⟨p0,p1,p2,p3⟩,y0,y1,y2,y3⟩:=four q1'))
 all_goals (try simp only[Exit.inBlock,Exit.then])
 have hlw:W.heap.size+2<=w3.heap.size:=by omega
 have hx:=hS.agM (y:=(nm,1,())) (N:=λ_=>False) hB hb6 hown hrep hown6 hgrow6 Gv Tm (λb hb=>hb.elim) ⟨_,_,rfl,⟨rfl,by rw[maxLen_eq];omega⟩,_,_,rfl,⟨rfl,by decide,by decide⟩,rfl⟩;have hg0:=acw Gv Gu (by have:=(auV.1 q1).1;simp;(try simp[World.setCell]);omega);have o0:=λn(h1:W.heap.size<=n)(h2:n<=W.heap.size+1)=>(⟨λe=>e.elim (hS.high n h1).1 id,hg0 n h1 h2,(hS.high n h1).2.2.1,(hS.high n h1).2.2.2⟩:¬(F n\/False)/\_/\_/\_);have k6:Kp B B W w6:=(Tc hB hb6).grown hB hgrow6 λb e=>(hS.fa.lt e).1;obtain⟨r9,s9,k9⟩:=acy (k:=0) (.slice (some ⟨g,0,none⟩) (x.1.length+1) cap) (.slice (some ⟨g,0,none⟩) (x.1.length+1) cap) (.slice ab x.2.1.length cb) (.int .i64 x.2.2.1) (.slice ad x.2.2.2.1.length cd) hx k6 hB o0 q1';unfold qJ at r9 s9 k9;exact awd (awP rfl _ _ (W.heap.size+1) _ _ _ _ (by rfl) r9 Tryz.underlying33 rfl (by kernel_rfl)) rfl ⟨_,_,_,_,rfl,s9,k9⟩
set_option maxHeartbeats 16000000 in
theorem agl(B:Nat)(W:World)(va vl vd:Value)(x:aZ)(F:Nat->Prop)(line:List UInt8)(hl:line.length<=1048576)(hG:G.ok W)(hS:Sn B W va vl vd x F)(hB:B<=W.heap.size)
 (h0:Sp.wordAt (bf line) 0=gV)
 (h2:¬Sp.wordAt (bf line) 2=Gt) (hz:x.1.length<=200):
 Calls prog 64 #[uI va vl vd x.2.2.1,.string ⟨line.toArray⟩] W λe w'=>Back B W w' e (x.1++[(Sp.wordAt (bf line) 1,2,())],x.2.1,x.2.2.1,x.2.2.2.1,()):=by
 have mixed:=Tryz.mixed;obtain⟨aa,ca,rfl⟩:=hS.fa.form;obtain⟨ab,cb,rfl⟩:=hS.fl.form;obtain⟨ad,cd,rfl⟩:=hS.fd.form;have sf:=λw hG=>EN line hl w hG;have hsm:=@qY line;unfold uI;generalize bf line=f at sf hsm h0 h2 ⊢;generalize gZ line=sok at sf;have lp:=λ(w:World)(v:Value)(hv:FW w.heap.size w v f) hG=>qK hv (i:=0) (by decide) (by decide) hG;rw[show Sp.wordAt f 0=[102,105,101,108,100]from h0]at lp;have hw1:(Sp.wordAt f 1).length<=600:=uJ hsm.2 1;have Oz:=λ(w:World)(v:Value)(hv:FW w.heap.size w v f) hG=>qK hv (i:=1) (by decide) (by decide) hG;have lp2:=λ(w:World)(v:Value)(hv:FW w.heap.size w v f) hG=>qK hv (i:=2) (by decide) (by decide) hG;generalize Sp.wordAt f 1=nm at hw1 Oz ⊢;obtain⟨k2,hk2,hk3⟩:∃k2,Hid (k2=Sp.wordAt f 2)/\k2=Sp.wordAt f 2:=⟨_,rfl,rfl⟩;rw[← hk3]at lp2 h2;clear hk3;have g2:(k2==[105,110,116])=false:=auP.2 h2;obtain⟨i0,hi,hz0,hz1,hz2⟩:=awW ah2;have hqm:x.1.length+1<=maxLen:=by rw[maxLen_eq];omega
 have nG:(x.1.length+1)*24<=140737488355328:=by omega
 obtain⟨xs,hown,hrep⟩:=hS.fa;have hown:W.ownsRow B 54 2 (.slice aa x.1.length ca) x.1.length xs:=hown;have hrep:∀i z,x.1[i]? =some z->aI W.heap F bK ((xs.drop (i*2)).take 2) z:=hrep;have Gu:∀b,(Value.slice aa x.1.length ca).ownBlock=some b->b<W.heap.size:=λb e=>(hS.fa.lt e).2;obtain⟨hbase,hN0,hN1,hsz2⟩:=Tf W (Obj.cells #[.slice aa x.1.length ca,.slice ab x.2.1.length cb,.int .i64 x.2.2.1,.slice ad x.2.2.2.1.length cd] 33 (0,0));have FB:=sf _ (bG hG hbase);clear sf
 go_enter Tryz.func64,Tryz.ntmps64
 go_wp2_with (first
  |(go_at_call 110;refine avk FB ?_;rintro e w1 ⟨a1,c1,rfl,hf1,hb1⟩;have hb1':=hbase.trans (hb1.mono hbase.size);have hG1:=bG hG hb1';clear FB)
  |(go_at_call 111;refine avk (lp w1 _ hf1 hG1) ?_;rintro e w2 ⟨rfl,hb2⟩;have lW:=hb1.trans (hb2.mono hb1.size);have hb2':=hbase.trans (lW.mono hbase.size);have hG2:=bG hG hb2';have hf2:=hf1.keep' hb2;clear lp)
  |(go_at_call 111;refine avk (Oz w2 _ hf2 hG2) ?_;rintro e w3 ⟨rfl,hb3⟩;have qL:=lW.trans (hb3.mono lW.size);have Ie:=(Below.refl w3.heap.size w3).alloc (auT _) (Obj.cells #[.string ⟨nm.toArray⟩,.int .i64 2] 54 (0,0));have hrow3:=avz w3 (Obj.cells #[.string ⟨nm.toArray⟩,.int .i64 2] 54 (0,0));have Au:=qL.trans (Ie.mono qL.size);have Ti:=hbase.trans (Au.mono hbase.size);have hf3:=(hf2.keep' hb3).keep' Ie;clear Oz)
  |(go_at_call 111;refine avk (lp2 _ _ hf3 (bG hG Ti)) ?_;rintro e w4 ⟨rfl,hb4⟩;have hrow4:=(hb4.block w3.heap.size (by simp)).trans hrow3;have aqo:=Ie.size;have yx:=Au.trans (hb4.mono Au.size);have aaM:=hbase.trans (yx.mono hbase.size);have t0:=aN hrow4 0;have t1:=aN hrow4 1;have u0:=dN hrow4 0;have u1:=dN hrow4 1;have t0:w4.cell? ⟨w3.heap.size,0,none⟩=some (.string ⟨nm.toArray⟩):=t0;have t1:w4.cell? ⟨w3.heap.size,1,none⟩=some (.int .i64 2):=t1;have anW:=qL.size;have q0:=(yx.block W.heap.size (by omega)).trans hN0;have q1:=(yx.block (W.heap.size+1) (by omega)).trans hN1;obtain⟨⟨d0,d1,d2,d3⟩,z0,z1,z2,z3⟩:=four q0)
  |(at_builtin;have hbs:Below W.heap.size W w4:=aaM;have hb6:Below W.heap.size W (w4.alloc (Obj.cells #[.string ⟨nm.toArray⟩,.int .i64 2] 54 (0,0))):=hbs.alloc hbs.size _;have hxs:=vI (w':=w4.alloc (Obj.cells #[.string ⟨nm.toArray⟩,.int .i64 2] 54 (0,0))) hown λb e=>hb6.block b (Gu b e);have QM:=avz w4 (Obj.cells #[.string ⟨nm.toArray⟩,.int .i64 2] 54 (0,0));have Tj:w4.heap.size=w4.heap.size:=(by first|rfl|simp);rw[Tj]at QM;refine wpList_append_lies _ rfl _ _ 26 (by rfl) B 54 i0 Xc 2 24 Tryz.underlying26 hi hz0 hz1 hz2 rfl (by decide) (.slice aa x.1.length ca) x.1.length xs (by rfl) hxs ⟨w4.heap.size,0,none⟩ 1 1 [.string ⟨nm.toArray⟩,.int .i64 2] (by rfl) rfl (World.news_of_block QM) (by intro u hu;simp at hu;rcases hu with rfl|rfl<;>rfl) (by decide) hqm nG (auU hB hb6.size) _ rfl ?_;intro g cap w6 hown6 hgrow6 Gv Tm;have hnN:∀b,W.heap.size<=b->(Value.slice aa x.1.length ca).ownBlock≠some b:=λb hb e=>by have:=Gu b e;omega
    have hsz5:=hbs.size;have hq5:∀b o,b<=W.heap.size+1->W.heap.size<=b->w4.heap[b]? =some o->w6.heap[b]? =some o:=λb o hb hb2 ho=>(hgrow6.block b (by have:=(auV.1 ho).1;simp;(try simp[World.setCell]);omega) (λe=>hnN b hb2 e.symm)).trans ((heap_alloc_old w4 _ (by have:=(auV.1 ho).1;(try simp[World.setCell]);omega)).trans ((rfl:w4.heap[b]? =w4.heap[b]?).trans ho));have q0':=hq5 _ _ (by omega) (auT _) q0;have q1':=hq5 _ _ (auT _) (by omega) q1;clear d0 d1 d2 d3 z0 z1 z2 z3;obtain⟨⟨d0,d1,d2,d3⟩,z0,z1,z2,z3⟩:=four q0';obtain⟨⟨p0,p1,p2,p3⟩,y0,y1,y2,y3⟩:=four q1'))
 all_goals (try simp only[Exit.inBlock,Exit.then])
 have hlw:W.heap.size+2<=w3.heap.size:=by omega
 have hx:=hS.agM (y:=(nm,2,())) (N:=λ_=>False) hB hb6 hown hrep hown6 hgrow6 Gv Tm (λb hb=>hb.elim) ⟨_,_,rfl,⟨rfl,by rw[maxLen_eq];omega⟩,_,_,rfl,⟨rfl,by decide,by decide⟩,rfl⟩;have hg0:=acw Gv Gu (by have:=(auV.1 q1).1;simp;(try simp[World.setCell]);omega);have o0:=λn(h1:W.heap.size<=n)(h2:n<=W.heap.size+1)=>(⟨λe=>e.elim (hS.high n h1).1 id,hg0 n h1 h2,(hS.high n h1).2.2.1,(hS.high n h1).2.2.2⟩:¬(F n\/False)/\_/\_/\_);have k6:Kp B B W w6:=(Tc hB hb6).grown hB hgrow6 λb e=>(hS.fa.lt e).1;obtain⟨r9,s9,k9⟩:=acy (k:=0) (.slice (some ⟨g,0,none⟩) (x.1.length+1) cap) (.slice (some ⟨g,0,none⟩) (x.1.length+1) cap) (.slice ab x.2.1.length cb) (.int .i64 x.2.2.1) (.slice ad x.2.2.2.1.length cd) hx k6 hB o0 q1';unfold qJ at r9 s9 k9;exact awd (awP rfl _ _ (W.heap.size+1) _ _ _ _ (by rfl) r9 Tryz.underlying33 rfl (by kernel_rfl)) rfl ⟨_,_,_,_,rfl,s9,k9⟩
end Go.Proofs.Tryz
namespace Go.Proofs.Tryz
open Go Go.Fw Go.RowKit Sp
set_option maxRecDepth 100000
set_option maxHeartbeats 16000000 in
theorem agm(B:Nat)(W:World)(va vl vd:Value)(x:aZ)(F:Nat->Prop)(line:List UInt8)(hl:line.length<=1048576)(hG:G.ok W)(hS:Sn B W va vl vd x F)(hB:B<=W.heap.size)
 (h0:Sp.wordAt (bf line) 0=jw)
 (h2:¬(2:Int)<((bf line).length:Int)) (hz:x.2.2.2.1.length<=200):
 Calls prog 64 #[uI va vl vd x.2.2.1,.string ⟨line.toArray⟩] W λe w'=>Back B W w' e (x.1,x.2.1,x.2.2.1,x.2.2.2.1++[(Sp.wordAt (bf line) 1,[],())],()):=by
 have mixed:=Tryz.mixed;obtain⟨aa,ca,rfl⟩:=hS.fa.form;obtain⟨ab,cb,rfl⟩:=hS.fl.form;obtain⟨ad,cd,rfl⟩:=hS.fd.form;have sf:=λw hG=>EN line hl w hG;have hsm:=@qY line;unfold uI;generalize bf line=f at sf hsm h0 h2 ⊢;generalize gZ line=sok at sf;have lp:=λ(w:World)(v:Value)(hv:FW w.heap.size w v f) hG=>qK hv (i:=0) (by decide) (by decide) hG;rw[show Sp.wordAt f 0=[100,105,114]from h0]at lp;have hw1:(Sp.wordAt f 1).length<=600:=uJ hsm.2 1;have Oz:=λ(w:World)(v:Value)(hv:FW w.heap.size w v f) hG=>qK hv (i:=1) (by decide) (by decide) hG;generalize Sp.wordAt f 1=nm at hw1 Oz ⊢;obtain⟨i0,hi,hz0,hz1,hz2⟩:=awW ah3;have hqm:x.2.2.2.1.length+1<=maxLen:=by rw[maxLen_eq];omega
 have nG:(x.2.2.2.1.length+1)*40<=140737488355328:=by omega
 obtain⟨xs,hown,hrep⟩:=hS.fd;have hown:W.ownsRow B 93 2 (.slice ad x.2.2.2.1.length cd) x.2.2.2.1.length xs:=hown;have hrep:∀i z,x.2.2.2.1[i]? =some z->aI W.heap F dA ((xs.drop (i*2)).take 2) z:=hrep;have Gu:∀b,(Value.slice ad x.2.2.2.1.length cd).ownBlock=some b->b<W.heap.size:=λb e=>(hS.fd.lt e).2;obtain⟨hbase,hN0,hN1,hsz2⟩:=Tf W (Obj.cells #[.slice aa x.1.length ca,.slice ab x.2.1.length cb,.int .i64 x.2.2.1,.slice ad x.2.2.2.1.length cd] 33 (0,0));have FB:=sf _ (bG hG hbase);clear sf
 go_enter Tryz.func64,Tryz.ntmps64
 go_wp2_with (first
  |(go_at_call 110;refine avk FB ?_;rintro e w1 ⟨a1,c1,rfl,hf1,hb1⟩;have hb1':=hbase.trans (hb1.mono hbase.size);have hG1:=bG hG hb1';clear FB)
  |(go_at_call 111;refine avk (lp w1 _ hf1 hG1) ?_;rintro e w2 ⟨rfl,hb2⟩;have lW:=hb1.trans (hb2.mono hb1.size);have hb2':=hbase.trans (lW.mono hbase.size);have hG2:=bG hG hb2';have hf2:=hf1.keep' hb2;clear lp)
  |(go_at_call 111;refine avk (Oz w2 _ hf2 hG2) ?_;rintro e w3 ⟨rfl,hb3⟩;have qL:=lW.trans (hb3.mono lW.size);have anW:=qL.size;have Ie:=(Below.refl w3.heap.size w3).alloc (auT _) (Obj.cells #[.string ⟨nm.toArray⟩,.slice none 0 0] 93 (0,0));have hrow3:=avz w3 (Obj.cells #[.string ⟨nm.toArray⟩,.slice none 0 0] 93 (0,0));have Au:=qL.trans (Ie.mono qL.size);have Ti:=hbase.trans (Au.mono hbase.size);have asW:(w3.alloc (Obj.cells #[.string ⟨nm.toArray⟩,.slice none 0 0] 93 (0,0))).heap.size=w3.heap.size+1:=(by simp);have t0:=aN hrow3 0;have t1:=aN hrow3 1;have u0:=dN hrow3 0;have u1:=dN hrow3 1;have t0:(w3.alloc (Obj.cells #[.string ⟨nm.toArray⟩,.slice none 0 0] 93 (0,0))).cell? ⟨w3.heap.size,0,none⟩=some (.string ⟨nm.toArray⟩):=t0;have t1:(w3.alloc (Obj.cells #[.string ⟨nm.toArray⟩,.slice none 0 0] 93 (0,0))).cell? ⟨w3.heap.size,1,none⟩=some (.slice none 0 0):=t1;have q0:=(Au.block W.heap.size (by omega)).trans hN0;have q1:=(Au.block (W.heap.size+1) (by omega)).trans hN1;obtain⟨⟨d0,d1,d2,d3⟩,z0,z1,z2,z3⟩:=four q0)
  |(at_builtin;have hbs:Below W.heap.size W (w3.alloc (Obj.cells #[.string ⟨nm.toArray⟩,.slice none 0 0] 93 (0,0))):=Ti;have hb7:Below W.heap.size W ((w3.alloc (Obj.cells #[.string ⟨nm.toArray⟩,.slice none 0 0] 93 (0,0))).alloc (Obj.cells #[.string ⟨nm.toArray⟩,.slice none 0 0] 93 (0,0))):=hbs.alloc hbs.size _;have hxs:=vI (w':=(w3.alloc (Obj.cells #[.string ⟨nm.toArray⟩,.slice none 0 0] 93 (0,0))).alloc (Obj.cells #[.string ⟨nm.toArray⟩,.slice none 0 0] 93 (0,0))) hown λb e=>hb7.block b (Gu b e);have QM:=avz (w3.alloc (Obj.cells #[.string ⟨nm.toArray⟩,.slice none 0 0] 93 (0,0))) (Obj.cells #[.string ⟨nm.toArray⟩,.slice none 0 0] 93 (0,0));have Tj:(w3.alloc (Obj.cells #[.string ⟨nm.toArray⟩,.slice none 0 0] 93 (0,0))).heap.size=w3.heap.size+1:=(by first|rfl|simp);rw[Tj]at QM;refine wpList_append_lies _ rfl _ _ 31 (by rfl) B 93 i0 acA 2 40 Tryz.underlying31 hi hz0 hz1 hz2 rfl (by decide) (.slice ad x.2.2.2.1.length cd) x.2.2.2.1.length xs (by rfl) hxs ⟨w3.heap.size+1,0,none⟩ 1 1 [.string ⟨nm.toArray⟩,.slice none 0 0] (by rfl) rfl (World.news_of_block QM) (by intro u hu;simp at hu;rcases hu with rfl|rfl<;>rfl) (by decide) hqm nG (auU hB hb7.size) _ rfl ?_;intro g cap w6 hown6 hgrow6 Gv Tm;have hnN:∀b,W.heap.size<=b->(Value.slice ad x.2.2.2.1.length cd).ownBlock≠some b:=λb hb e=>(by have:=Gu b e;omega);have hsz5:=hbs.size;have hq5:∀b o,b<=W.heap.size+1->W.heap.size<=b->(w3.alloc (Obj.cells #[.string ⟨nm.toArray⟩,.slice none 0 0] 93 (0,0))).heap[b]? =some o->w6.heap[b]? =some o:=λb o hb hb2 ho=>(hgrow6.block b (by have:=(auV.1 ho).1;simp;(try simp[World.setCell]);(try simp at this);omega) (λe=>hnN b hb2 e.symm)).trans ((heap_alloc_old (w3.alloc (Obj.cells #[.string ⟨nm.toArray⟩,.slice none 0 0] 93 (0,0))) _ (by have:=(auV.1 ho).1;(try simp[World.setCell]);(try simp at this);omega)).trans ((rfl:(w3.alloc (Obj.cells #[.string ⟨nm.toArray⟩,.slice none 0 0] 93 (0,0))).heap[b]? =(w3.alloc (Obj.cells #[.string ⟨nm.toArray⟩,.slice none 0 0] 93 (0,0))).heap[b]?).trans ho));have q0':=hq5 _ _ (by omega) (auT _) q0;have q1':=hq5 _ _ (auT _) (by omega) q1;clear d0 d1 d2 d3 z0 z1 z2 z3;obtain⟨⟨d0,d1,d2,d3⟩,z0,z1,z2,z3⟩:=four q0';obtain⟨⟨p0,p1,p2,p3⟩,y0',y1',y2',y3'⟩:=four q1'))
 all_goals (try simp only[Exit.inBlock,Exit.then])
 have hlw:W.heap.size+2<=w3.heap.size:=by omega
 have hx:=hS.alh (y:=(nm,[],())) (N:=λ_=>False) hB hb7 hown hrep hown6 hgrow6 Gv Tm (λb hb=>hb.elim) ⟨_,_,rfl,⟨rfl,by rw[maxLen_eq];omega⟩,_,_,rfl,⟨avc _,.inl ⟨rfl,none,0,rfl⟩⟩,rfl⟩;have hg0:=acw Gv Gu (by have:=(auV.1 q1).1;simp;(try simp[World.setCell]);omega);have o0:=λn(h1:W.heap.size<=n)(h2:n<=W.heap.size+1)=>(⟨λe=>e.elim (hS.high n h1).1 id,(hS.high n h1).2.1,(hS.high n h1).2.2.1,hg0 n h1 h2⟩:¬(F n\/False)/\_/\_/\_);have k6:Kp B B W w6:=(Tc hB hb7).grown hB hgrow6 λb e=>(hS.fd.lt e).1;obtain⟨r9,s9,k9⟩:=acy (k:=3) (.slice (some ⟨g,0,none⟩) (x.2.2.2.1.length+1) cap) (.slice aa x.1.length ca) (.slice ab x.2.1.length cb) (.int .i64 x.2.2.1) (.slice (some ⟨g,0,none⟩) (x.2.2.2.1.length+1) cap) hx k6 hB o0 q1';unfold qJ at r9 s9 k9;exact awd (awP rfl _ _ (W.heap.size+1) _ _ _ _ (by rfl) r9 Tryz.underlying33 rfl (by kernel_rfl)) rfl ⟨_,_,_,_,rfl,s9,k9⟩
set_option maxHeartbeats 16000000 in
theorem ah4(B:Nat)(W:World)(va vl vd:Value)(x:aZ)(F:Nat->Prop)(line:List UInt8)(hl:line.length<=1048576)(hG:G.ok W)(hS:Sn B W va vl vd x F)(hB:B<=W.heap.size)
 (h0:Sp.wordAt (bf line) 0=jw)
 (h2:2<(bf line).length) (hz:x.2.2.2.1.length<=200):
 Calls prog 64 #[uI va vl vd x.2.2.1,.string ⟨line.toArray⟩] W λe w'=>Back B W w' e (x.1,x.2.1,x.2.2.1,x.2.2.2.1++[(Sp.wordAt (bf line) 1,fM (gm ((bf line).drop 2)),())],()):=by
 have mixed:=Tryz.mixed;obtain⟨aa,ca,rfl⟩:=hS.fa.form;obtain⟨ab,cb,rfl⟩:=hS.fl.form;obtain⟨ad,cd,rfl⟩:=hS.fd.form;have sf:=λw hG=>EN line hl w hG;have hsm:=@qY line;unfold uI;generalize bf line=f at sf hsm h0 h2 ⊢;generalize gZ line=sok at sf;have lp:=λ(w:World)(v:Value)(hv:FW w.heap.size w v f) hG=>qK hv (i:=0) (by decide) (by decide) hG;rw[show Sp.wordAt f 0=[100,105,114]from h0]at lp;have hw1:(Sp.wordAt f 1).length<=600:=uJ hsm.2 1;have Oz:=λ(w:World)(v:Value)(hv:FW w.heap.size w v f) hG=>qK hv (i:=1) (by decide) (by decide) hG;generalize Sp.wordAt f 1=nm at hw1 Oz ⊢;obtain⟨y0,y1,r,rfl,hr⟩:∃y0 y1 r,f=y0::y1::r/\0<r.length:=by
  match f,h2 with
  |y0::y1::r,h=>exact⟨y0,y1,r,rfl,by simp at h;omega⟩
  |[_],h=>exact absurd h (by simp)
  |[],h=>exact absurd h (by simp)
 obtain⟨hs1,hs2⟩:=hsm;have hrl:r.length<=24:=by rw[auQ,auQ]at hs1;omega
 have hj:(gm r).length<=24*601:=auU (aaN (m:=600) λy hy=>hs2 y (auZ _ (auZ _ hy))) (ave _ hrl);rw[show(y0::y1::r).drop 2=r from rfl];have lj:=λ(w:World)(v:Value)(hv:FW w.heap.size w v r) hG=>apx v r w hv (by omega) (by omega) hG;generalize gm r=t at lj hj ⊢;have pq:=λw hG=>anS t (by omega) w hG;generalize fM t=q at pq ⊢;generalize gq t=ok at pq;have hlt2:(2:Int)<(r.length:Int)+2:=by omega
 have hlt3:(2:Int)<(r.length:Int)+1+1:=by omega
 obtain⟨i0,hi,hz0,hz1,hz2⟩:=awW ah3;have hqm:x.2.2.2.1.length+1<=maxLen:=by rw[maxLen_eq];omega
 have nG:(x.2.2.2.1.length+1)*40<=140737488355328:=by omega
 obtain⟨xs,hown,hrep⟩:=hS.fd;have hown:W.ownsRow B 93 2 (.slice ad x.2.2.2.1.length cd) x.2.2.2.1.length xs:=hown;have hrep:∀i z,x.2.2.2.1[i]? =some z->aI W.heap F dA ((xs.drop (i*2)).take 2) z:=hrep;have Gu:∀b,(Value.slice ad x.2.2.2.1.length cd).ownBlock=some b->b<W.heap.size:=λb e=>(hS.fd.lt e).2;obtain⟨hbase,hN0,hN1,hsz2⟩:=Tf W (Obj.cells #[.slice aa x.1.length ca,.slice ab x.2.1.length cb,.int .i64 x.2.2.1,.slice ad x.2.2.2.1.length cd] 33 (0,0));have FB:=sf _ (bG hG hbase);clear sf
 go_enter Tryz.func64,Tryz.ntmps64
 go_wp2_with (first
  |(go_at_call 110;refine avk FB ?_;rintro e w1 ⟨a1,c1,rfl,hf1,hb1⟩;have hb1':=hbase.trans (hb1.mono hbase.size);have hG1:=bG hG hb1';clear FB;have hf1:FW w1.heap.size w1 (.slice a1 (r.length+2) c1) (y0::y1::r):=hf1;obtain⟨b2,o2,e2,-,-⟩:=FW.cell (a:=a1) (c:=c1) (f:=y0::y1::r) hf1 (n:=0) (by simp);subst e2;obtain⟨hc2,ht1⟩:=hf1.aoU hr)
  |(go_at_call 111;refine avk (lp w1 _ hf1 hG1) ?_;rintro e w2 ⟨rfl,hb2⟩;have lW:=hb1.trans (hb2.mono hb1.size);have hb2':=hbase.trans (lW.mono hbase.size);have hG2:=bG hG hb2';have hf2:=hf1.keep' hb2;have ht2:=ht1.keep' hb2;clear lp)
  |(go_at_call 111;refine avk (Oz w2 _ hf2 hG2) ?_;rintro e w3 ⟨rfl,hb3⟩;have qL:=lW.trans (hb3.mono lW.size);have anW:=qL.size;have Ie:=(Below.refl w3.heap.size w3).alloc (auT _) (Obj.cells #[.string ⟨nm.toArray⟩,.slice none 0 0] 93 (0,0));have hrow3:=avz w3 (Obj.cells #[.string ⟨nm.toArray⟩,.slice none 0 0] 93 (0,0));have Au:=qL.trans (Ie.mono qL.size);have Ti:=hbase.trans (Au.mono hbase.size);have ht3:=(ht2.keep' hb3).keep' Ie;clear Oz)
  |(go_at_call 115;refine avk (lj _ _ ht3 (bG hG Ti)) ?_;rintro e w4 ⟨rfl,hb4⟩;have yx:=Au.trans (hb4.mono Au.size);have aaM:=hbase.trans (yx.mono hbase.size);have aqo:=Ie.size;have auq:=hb4.size;have asW:(w3.alloc (Obj.cells #[.string ⟨nm.toArray⟩,.slice none 0 0] 93 (0,0))).heap.size=w3.heap.size+1:=by simp)
  |(go_at_call 114;refine avk (pq w4 (bG hG aaM)) ?_;rintro e w5 ⟨a6,c6,rfl,hb5,hra⟩;have asX:=hb4.trans (hb5.mono hb4.size);have qp:=(asX.block w3.heap.size (by simp)).trans hrow3;have hb16:=yx.trans (hb5.mono yx.size);have anX:=hbase.trans (hb16.mono hbase.size);have aur:=hb5.size;have t0:=aN qp 0;have t1:=aN qp 1;have u0:=dN qp 0;have u1:=dN qp 1;have t0:w5.cell? ⟨w3.heap.size,0,none⟩=some (.string ⟨nm.toArray⟩):=t0;have t1:w5.cell? ⟨w3.heap.size,1,none⟩=some (.slice none 0 0):=t1;have q0:=(hb16.block W.heap.size (by omega)).trans hN0;have q1:=(hb16.block (W.heap.size+1) (by omega)).trans hN1;obtain⟨⟨d0,d1,d2,d3⟩,z0,z1,z2,z3⟩:=four q0)
  |(at_builtin;have hbs:Below W.heap.size W (w5.setCell ⟨w3.heap.size,1,none⟩ (.slice a6 q.length c6)):=anX.setCell (p:=⟨w3.heap.size,1,none⟩) (show W.heap.size<=w3.heap.size by omega) _;have hb7:Below W.heap.size W ((w5.setCell ⟨w3.heap.size,1,none⟩ (.slice a6 q.length c6)).alloc (Obj.cells #[.string ⟨nm.toArray⟩,.slice a6 q.length c6] 93 (0,0))):=hbs.alloc hbs.size _;have hxs:=vI (w':=(w5.setCell ⟨w3.heap.size,1,none⟩ (.slice a6 q.length c6)).alloc (Obj.cells #[.string ⟨nm.toArray⟩,.slice a6 q.length c6] 93 (0,0))) hown λb e=>hb7.block b (Gu b e);have QM:=avz (w5.setCell ⟨w3.heap.size,1,none⟩ (.slice a6 q.length c6)) (Obj.cells #[.string ⟨nm.toArray⟩,.slice a6 q.length c6] 93 (0,0));have Tj:(w5.setCell ⟨w3.heap.size,1,none⟩ (.slice a6 q.length c6)).heap.size=w5.heap.size:=(by first|rfl|simp);rw[Tj]at QM;refine wpList_append_lies _ rfl _ _ 31 (by rfl) B 93 i0 acA 2 40 Tryz.underlying31 hi hz0 hz1 hz2 rfl (by decide) (.slice ad x.2.2.2.1.length cd) x.2.2.2.1.length xs (by rfl) hxs ⟨w5.heap.size,0,none⟩ 1 1 [.string ⟨nm.toArray⟩,.slice a6 q.length c6] (by rfl) rfl (World.news_of_block QM) (by intro u hu;simp at hu;rcases hu with rfl|rfl<;>rfl) (by decide) hqm nG (auU hB hb7.size) _ rfl ?_;intro g cap w6 hown6 hgrow6 Gv Tm;have hnN:∀b,W.heap.size<=b->(Value.slice ad x.2.2.2.1.length cd).ownBlock≠some b:=λb hb e=>(by have:=Gu b e;omega);have hsz5:=hbs.size;have hq5:∀b o,b<=W.heap.size+1->W.heap.size<=b->w5.heap[b]? =some o->w6.heap[b]? =some o:=λb o hb hb2 ho=>(hgrow6.block b (by have:=(auV.1 ho).1;simp;(try simp[World.setCell]);(try simp at this);omega) (λe=>hnN b hb2 e.symm)).trans ((heap_alloc_old (w5.setCell ⟨w3.heap.size,1,none⟩ (.slice a6 q.length c6)) _ (by have:=(auV.1 ho).1;(try simp[World.setCell]);(try simp at this);omega)).trans ((ng (w:=w5) (p:=⟨w3.heap.size,1,none⟩) _ (by show b≠w3.heap.size;omega)).trans ho));have q0':=hq5 _ _ (by omega) (auT _) q0;have q1':=hq5 _ _ (auT _) (by omega) q1;clear d0 d1 d2 d3 z0 z1 z2 z3;obtain⟨⟨d0,d1,d2,d3⟩,z0,z1,z2,z3⟩:=four q0';obtain⟨⟨p0,p1,p2,p3⟩,y0',y1',y2',y3'⟩:=four q1'))
 all_goals (try simp only[Exit.inBlock,Exit.then])
 have hlw:W.heap.size+2<=w3.heap.size:=by omega
 have hx:=hS.alh (y:=(nm,q,())) (N:=λb=>w4.heap.size<=b/\b<w5.heap.size) hB hb7 hown hrep hown6 hgrow6 Gv Tm (λb hb=>⟨by omega,by have:=hb.2;simp[World.setCell];omega⟩) ⟨_,_,rfl,⟨rfl,by rw[maxLen_eq];omega⟩,_,_,rfl,dh.mono (λb hb=>⟨hb,(heap_alloc_old (w5.setCell ⟨w3.heap.size,1,none⟩ (.slice a6 q.length c6)) _ (by simp[World.setCell];exact hb.2)).trans (ng _ (by show b≠w3.heap.size;omega))⟩) _ _ _ hra,rfl⟩;have hg0:=acw Gv Gu (by have:=(auV.1 q1).1;simp;(try simp[World.setCell]);omega);have o0:=λn(h1:W.heap.size<=n)(h2:n<=W.heap.size+1)=>(⟨λe=>e.elim (hS.high n h1).1 (λe=>by have:=e.1;omega),(hS.high n h1).2.1,(hS.high n h1).2.2.1,hg0 n h1 h2⟩:¬(F n\/(w4.heap.size<=n/\n<w5.heap.size))/\_/\_/\_);have k6:Kp B B W w6:=(Tc hB hb7).grown hB hgrow6 λb e=>(hS.fd.lt e).1;obtain⟨r9,s9,k9⟩:=acy (k:=3) (.slice (some ⟨g,0,none⟩) (x.2.2.2.1.length+1) cap) (.slice aa x.1.length ca) (.slice ab x.2.1.length cb) (.int .i64 x.2.2.1) (.slice (some ⟨g,0,none⟩) (x.2.2.2.1.length+1) cap) hx k6 hB o0 q1';unfold qJ at r9 s9 k9;exact awd (awP rfl _ _ (W.heap.size+1) _ _ _ _ (by rfl) r9 Tryz.underlying33 rfl (by kernel_rfl)) rfl ⟨_,_,_,_,rfl,s9,k9⟩
end Go.Proofs.Tryz
namespace Go.Proofs.Tryz
open Go Go.Fw Go.RowKit Sp
set_option maxRecDepth 100000
theorem uK(f:Sp.LS)(k i:Nat):Sp.wordAt (f.drop k) (i:Int)=Sp.wordAt f ((k+i:Nat):Int):=by
 rcases avb (k+i) f.length with h|h
 .rw[qi (show(i:Int)<((f.drop k).length:Int) by rw[avl];omega),qi (show((k+i:Nat):Int)<(f.length:Int) by omega),ava,ava];simp[auS,avs]
 .rw[qj (show((f.drop k).length:Int)<=(i:Int) by rw[avl];omega),qj (show(f.length:Int)<=((k+i:Nat):Int) by omega)]
theorem anY(f:Sp.LS):Dp (Sp.numAt f 1) (f.drop 2)=(Sp.numAt f 1,Sp.numAt f 2,Sp.wordAt f 3==[115],Sp.numAt f 4,iM (f.drop 5),()):=by
 unfold Dp Sp.numAt;have h0:=uK f 2 0;have h1:=uK f 2 1;have h2:=uK f 2 2;have h3:(f.drop 2).drop 3=f.drop 5:=by rw[awo]
 rw[h3,show Sp.wordAt (f.drop 2) 0=Sp.wordAt f 2 from h0,show Sp.wordAt (f.drop 2) 1=Sp.wordAt f 3 from h1,show Sp.wordAt (f.drop 2) 2=Sp.wordAt f 4 from h2]
def zeroAt:Value:=.agg #[.string ⟨#[]⟩,.int .i64 0,.int .i64 0,.string ⟨#[]⟩]
theorem infoAt:(prog.info? 102).map (λi=>(i.zero,i.size,i.bytes))=some (some zeroAt,4,48):=by kernel_rfl
theorem ali(f:Sp.LS)(m:Nat)(h:m<f.length):iM (f.drop m)=((f.getD m ([],())).1,(aV (Sp.wordAt f ((m:Int)+1))).1)::iM (f.drop (m+2)):=by
 rcases avb (m+1) f.length with h2|h2
 .rw[ah5 h2,show((m:Int)+1)=((m+1:Nat):Int) by omega,← Ja h2];rfl
 .rw[drop_cons f m ([],()) h,av6 h2,av6 (by omega),qj (by omega)];rfl
structure AtM(f:Sp.LS)(A:List aW)(m:Nat)(al:List aW):Prop where
 hi:m=5\/m<=f.length+1
 ln:2*al.length+5=m
 eq:al++iM (f.drop m)=A
theorem AtM.step{f:Sp.LS}{A:List aW}{m:Nat}{al:List aW}(h:AtM f A m al)(hlt:m<f.length):AtM f A (m+2) (al++[((f.getD m ([],())).1,(aV (Sp.wordAt f ((m:Int)+1))).1)]):=by obtain⟨h1,h2,h3⟩:=h;refine⟨.inr (by omega),by rw[auN,auQ,auW];omega,?_⟩;rw[ali f m hlt]at h3;rw[au4];exact h3
theorem AtM.done{f:Sp.LS}{A:List aW}{m:Nat}{al:List aW}(h:AtM f A m al)(hge:f.length<=m):A=al:=by obtain⟨h1,h2,h3⟩:=h;rw[av6 hge]at h3;rw[← h3];exact avi _
theorem below_grown{n:Nat}{W w w':World}{o:Option Nat}(h:Below n W w)(k:w.grownBy w' o)(hn:n<=W.heap.size)(ho:∀b,o=some b->n<=b):Below n W w':=
 ⟨k.os.trans h.os,k.tape.trans h.tape,k.output.trans h.output,auU h.size k.size,λb hb=>(k.block b (by have:=h.size;omega) λe=>by have:=ho b e.symm;omega).trans (h.block b hb)⟩
set_option maxHeartbeats 16000000 in
theorem anZ(B:Nat)(W:World)(va vl vd:Value)(x:aZ)(F:Nat->Prop)(line:List UInt8)(hl:line.length<=1048576)(hG:G.ok W)(hS:Sn B W va vl vd x F)(hB:B<=W.heap.size)
 (h0:Sp.wordAt (bf line) 0=jX)
 (hz:x.2.1.length<=200):
 Calls prog 64 #[uI va vl vd x.2.2.1,.string ⟨line.toArray⟩] W λe w'=>Back B W w' e (x.1,x.2.1++[Dp (Sp.numAt (bf line) 1) ((bf line).drop 2)],x.2.2.1,x.2.2.2.1,()):=by
 rw[anY];have mixed:=Tryz.mixed;obtain⟨aa,ca,rfl⟩:=hS.fa.form;obtain⟨ab,cb,rfl⟩:=hS.fl.form;obtain⟨ad,cd,rfl⟩:=hS.fd.form;have sf:=λw hG=>EN line hl w hG;have hsm:=@qY line;unfold uI;generalize bf line=f at sf hsm h0 ⊢;generalize gZ line=sok at sf;have lp:=λ(w:World)(v:Value)(hv:FW w.heap.size w v f) hG=>qK hv (i:=0) (by decide) (by decide) hG;rw[show Sp.wordAt f 0=[102,105,108,101]from h0]at lp;have hw3:(Sp.wordAt f 3).length<=600:=uJ hsm.2 3;have lp3:=λ(w:World)(v:Value)(hv:FW w.heap.size w v f) hG=>qK hv (i:=3) (by decide) (by decide) hG;have ln1:=λ(w:World)(v:Value)(hv:FW w.heap.size w v f) hG=>Yf hv (i:=1) (by decide) (by decide) hG;have ln2:=λ(w:World)(v:Value)(hv:FW w.heap.size w v f) hG=>Yf hv (i:=2) (by decide) (by decide) hG;have ln4:=λ(w:World)(v:Value)(hv:FW w.heap.size w v f) hG=>Yf hv (i:=4) (by decide) (by decide) hG;have hn1:uy (Sp.numAt f 1):=QL _;have hn2:uy (Sp.numAt f 2):=QL _;have hn4:uy (Sp.numAt f 4):=QL _;generalize Sp.numAt f 1=n1 at ln1 hn1 ⊢;generalize Sp.numAt f 2=n2 at ln2 hn2 ⊢;generalize Sp.numAt f 4=n4 at ln4 hn4 ⊢;generalize Sp.wordAt f 3=s3 at lp3 hw3 ⊢;obtain⟨sh,hsh⟩:∃sh,(s3==[115])=sh:=⟨_,rfl⟩;rw[hsh];generalize hA:iM (f.drop 5)=A;obtain⟨i0,hi,hz0,hz1,hz2⟩:=awW amL;obtain⟨i1,hi1,hz3,hz4,hz5⟩:=awW infoAt;have hqm:x.2.1.length+1<=maxLen:=by rw[maxLen_eq];omega
 have nG:(x.2.1.length+1)*56<=140737488355328:=by omega
 obtain⟨xs,hown,hrep⟩:=hS.fl;have hown:W.ownsRow B 51 5 (.slice ab x.2.1.length cb) x.2.1.length xs:=hown;have hrep:∀i z,x.2.1[i]? =some z->aI W.heap F dI ((xs.drop (i*5)).take 5) z:=hrep;have Gu:∀b,(Value.slice ab x.2.1.length cb).ownBlock=some b->b<W.heap.size:=λb e=>(hS.fl.lt e).2;have aus:=hsm.1;obtain⟨hbase,hN0,hN1,hsz2⟩:=Tf W (Obj.cells #[.slice aa x.1.length ca,.slice ab x.2.1.length cb,.int .i64 x.2.2.1,.slice ad x.2.2.2.1.length cd] 33 (0,0));have FB:=sf _ (bG hG hbase);clear sf
 go_enter Tryz.func64,Tryz.ntmps64
 go_wp2_with (first
  |(go_at_call 110;refine avk FB ?_;rintro e w1 ⟨a1,c1,rfl,hf1,hb1⟩;have hb1':=hbase.trans (hb1.mono hbase.size);have hG1:=bG hG hb1';clear FB)
  |(go_at_call 111;refine avk (lp w1 _ hf1 hG1) ?_;rintro e w2 ⟨rfl,hb2⟩;have lW:=hb1.trans (hb2.mono hb1.size);have hb2':=hbase.trans (lW.mono hbase.size);have hG2:=bG hG hb2';have hf2:=hf1.keep' hb2;clear lp)
  |(go_at_call 112;refine avk (ln1 w2 _ hf2 hG2) ?_;rintro e w3 ⟨rfl,hb3⟩;have qL:=lW.trans (hb3.mono lW.size);have hf3:=hf2.keep' hb3;have ah1:=hbase.trans (qL.mono hbase.size);have hG3:=bG hG ah1;clear ln1)
  |(go_at_call 112;refine avk (ln2 w3 _ hf3 hG3) ?_;rintro e w4 ⟨rfl,hb4⟩;have Au:=qL.trans (hb4.mono qL.size);have hf4:=hf3.keep' hb4;have Ti:=hbase.trans (Au.mono hbase.size);have hG4:=bG hG Ti;clear ln2)
  |(go_at_call 111;refine avk (lp3 w4 _ hf4 hG4) ?_;rintro e w5 ⟨rfl,hb5⟩;have yx:=Au.trans (hb5.mono Au.size);have hf5:=hf4.keep' hb5;have aaM:=hbase.trans (yx.mono hbase.size);have hG5:=bG hG aaM;clear lp3)
  |(go_at_call 112;refine avk (ln4 w5 _ hf5 hG5) ?_;rintro e w6 ⟨rfl,hb6⟩;have hb16:=yx.trans (hb6.mono yx.size);have QK:=hf5.keep' hb6;have anX:=hbase.trans (hb16.mono hbase.size);have hG6:=bG hG anX;clear ln4))
 have aut:=hb16.size
 go_loopw [9] (λi wr=>∃(m:Nat)(al:List aW)(vt:Value),i=.int .i64 (m:Int)/\AtM f A m al/\wr.heap[w6.heap.size]? =some (.cells #[.int .i64 n1,.int .i64 n2,.bool sh,.int .i64 n4,vt] 51 (0,0))/\
  OL wr (w6.heap.size+1) (λ_=>False) 102 dY vt al/\Below w6.heap.size w6 wr/\w6.heap.size+1<=wr.heap.size)
  (λi _=>f.length-(intOf i).toNat)
 case atStart=>exact⟨5,[],.slice none 0 0,rfl,⟨.inl rfl,rfl,hA⟩,avz w6 _,OL.nil,(Below.refl _ w6).alloc (auT _) _,by simp⟩
 case round=>
  obtain⟨m,al,vt,rfl,hat,hrow,hOL,hbr,hsr⟩:=hrel;have an0:=hb16.trans (hbr.mono hb16.size);have agN:=hbase.trans (an0.mono hbase.size);have hGr:G.ok wr:=bG hG agN;have hfr:=QK.keep' hbr;rcases avb m f.length with hlt|hge
  .have hlt':((m:Nat):Int)<f.length:=by omega
   have hnx:=hat.step hlt;have aue:al.length<=24:=by have:=hat.ln;omega
   clear hat;have lpm:=qK hfr (i:=(m:Int)+1) (by omega) (by omega) hGr;have hwm:(Sp.wordAt f ((m:Int)+1)).length<=600:=uJ hsm.2 _;have hkm:(f.getD m ([],())).1.length<=600:=hsm.2 _ (getD_mem hlt);obtain⟨b2,o2,rfl,hbl,cw⟩:=FW.cell hfr hlt;generalize (f.getD m ([],())).1=am at hnx hkm cw;generalize Sp.wordAt f ((m:Int)+1)=vm at hnx hwm lpm;have pv:=λw hG=>anR vm (by omega) w hG;generalize aV vm=z at hnx pv;obtain⟨⟨k,vi,vs,⟨⟩⟩,ok⟩:=z;dsimp only at pv
   go_wp2_with (first
    |(go_at_call 111;refine avk lpm ?_;rintro e w7 ⟨rfl,hb7⟩;have asY:=agN.trans (hb7.mono agN.size))
    |(go_at_call 113;refine avk (pv w7 (bG hG asY)) ?_;rintro e w8 ⟨rfl,hb8,p1,p2,p3⟩))
   have hs7:=hb7.size;have hs8:=hb8.size;have aqu:=hb7.trans (hb8.mono hs7);have agO:=avz w8 (Obj.cells #[.int .i64 k,.int .i64 vi,.string ⟨vs.toArray⟩] 81 (0,0));have an1:Below w8.heap.size w8 (w8.alloc (Obj.cells #[.int .i64 k,.int .i64 vi,.string ⟨vs.toArray⟩] 81 (0,0))):=(Below.refl _ w8).alloc (auT _) _;generalize w8.alloc (Obj.cells #[.int .i64 k,.int .i64 vi,.string ⟨vs.toArray⟩] 81 (0,0))=w9 at agO an1 ⊢;have hs9:=an1.size;have ah6:=aqu.trans (an1.mono aqu.size);have hbox:=(ah6.block w6.heap.size (by omega)).trans hrow;have vJ:w6.heap.size<w9.heap.size:=(auV.1 hbox).1;have e4:w9.cell? ⟨w6.heap.size,4,none⟩=some vt:=aN hbox 4;have v0:w9.cell? ⟨w8.heap.size,0,none⟩=some (.int .i64 k):=aN agO 0;have v1:w9.cell? ⟨w8.heap.size,1,none⟩=some (.int .i64 vi):=aN agO 1;have v2:w9.cell? ⟨w8.heap.size,2,none⟩=some (.string ⟨vs.toArray⟩):=aN agO 2;have cw9:w9.cell? ⟨b2,o2+m,none⟩=some (.string ⟨am.toArray⟩):=(awr (a:=⟨b2,o2+m,none⟩) (ah6.block b2 hbl)).trans cw;have hlt0:∀b,vt.ownBlock=some b->w6.heap.size+1<=b/\b<wr.heap.size:=λb e=>hOL.lt e;obtain⟨ys,hownA,alj⟩:=hOL;have hownA:wr.ownsRow (w6.heap.size+1) 102 4 vt al.length ys:=hownA;have alj:∀i z,al[i]? =some z->aI wr.heap (λ_=>False) dY ((ys.drop (i*4)).take 4) z:=alj;have arK:w9.ownsRow (w6.heap.size+1) 102 4 vt al.length ys:=vI hownA λb e=>ah6.block b (hlt0 b e).2;have hnB:vt.ownBlock≠some w6.heap.size:=λe=>by have:=(hlt0 _ e).1;omega
   have asZ:al.length+1<=maxLen:=by rw[maxLen_eq];omega
   have as1:(al.length+1)*48<=140737488355328:=by omega
   go_region_law (refine step_append_lies _ rfl (.tmp 70) (.tmp 77) 49 rfl (w6.heap.size+1) 102 i1 zeroAt 4 48 Tryz.underlying49 hi1 hz3 hz4 hz5 rfl (by decide) vt al.length ys (by simp[Act.eval]) ((awS arK).alloc _) ⟨w9.heap.size,0,none⟩ 1 1 [.string ⟨am.toArray⟩,.int .i64 k,.int .i64 vi,.string ⟨vs.toArray⟩] (by simp[Act.eval]) rfl (World.news_of_block (avz _ _)) (by intro u hu;simp at hu;rcases hu with rfl|rfl|rfl|rfl<;>rfl) (by decide) asZ as1 (by simp;omega) _ rfl ?_;intro g cap w10 aqv aen auf aug;have an2:=(aen.block w6.heap.size (by simp;omega) (λe=>hnB e.symm)).trans ((heap_alloc_old w9.drew _ vJ).trans hbox);have k10:w10.cell? ⟨w6.heap.size,4,none⟩=some vt:=aN an2 4;have z10:=dN an2 4)
   all_goals go_wp2
   all_goals
    have hbd:Below w9.heap.size w9 (w9.drew.alloc (Obj.cells #[.string ⟨am.toArray⟩,.int .i64 k,.int .i64 vi,.string ⟨vs.toArray⟩] 102 (0,0))):=((Below.refl _ w9).drew).alloc (auT _) _;have hb0:Below w6.heap.size w6 (w9.drew.alloc (Obj.cells #[.string ⟨am.toArray⟩,.int .i64 k,.int .i64 vi,.string ⟨vs.toArray⟩] 102 (0,0))):=hbr.trans ((ah6.trans (hbd.mono ah6.size)).mono hbr.size);have as2:=below_grown hb0 aen (auT _) λb e=>Nat.le_of_succ_le (hlt0 b e).1;have as3:=as2.setCell (p:=⟨w6.heap.size,4,none⟩) (auT _) (.slice (some ⟨g,0,none⟩) (al.length+1) cap);have hO:OL w10 (w6.heap.size+1) (λ_=>False) 102 dY (.slice (some ⟨g,0,none⟩) (al.length+1) cap) (al++[(am,k,vi,vs,())]):=OL.push (r:=dY) (F:=λ_=>False) alj hownA.1 aqv (λb hb=>hb.elim) ⟨_,_,rfl,⟨rfl,by rw[maxLen_eq];omega⟩,_,_,rfl,⟨rfl,p1⟩,_,_,rfl,⟨rfl,p2⟩,_,_,rfl,⟨rfl,p3⟩,rfl⟩;have hO2:OL (w10.setCell ⟨w6.heap.size,4,none⟩ (.slice (some ⟨g,0,none⟩) (al.length+1) cap)) (w6.heap.size+1) (λ_=>False) 102 dY (.slice (some ⟨g,0,none⟩) (al.length+1) cap) (al++[(am,k,vi,vs,())]):=hO.keep (λb e=>ng _ (by have:=(hO.lt e).1;show b≠w6.heap.size;omega)) λb hb=>hb.elim;exact⟨⟨m+2,_,_,by go_num,hnx,gG an2 4 _,hO2,as3,by have:=aen.size;simp[World.setCell]at this ⊢;omega⟩,by simp only[intOf];omega⟩
  .have hge':¬((m:Nat):Int)<f.length:=by omega
   obtain rfl:=hat.done hge;clear hA hat;obtain⟨ac,cc,rfl⟩:=hOL.form;have q0:=(an0.block W.heap.size (by omega)).trans hN0;have q1:=(an0.block (W.heap.size+1) (by omega)).trans hN1;obtain⟨⟨d0,d1,d2,d3⟩,z0,z1,z2,z3⟩:=four q0;have e0:wr.cell? ⟨w6.heap.size,0,none⟩=some (.int .i64 n1):=aN hrow 0;have e1:wr.cell? ⟨w6.heap.size,1,none⟩=some (.int .i64 n2):=aN hrow 1;have e2:wr.cell? ⟨w6.heap.size,2,none⟩=some (.bool sh):=aN hrow 2;have e3:wr.cell? ⟨w6.heap.size,3,none⟩=some (.int .i64 n4):=aN hrow 3;have e4:wr.cell? ⟨w6.heap.size,4,none⟩=some (.slice ac A.length cc):=aN hrow 4
   go_wp2_with (first
    |(at_builtin;have hbs:Below W.heap.size W wr:=agN;have hb7:Below W.heap.size W (wr.alloc (Obj.cells #[.int .i64 n1,.int .i64 n2,.bool sh,.int .i64 n4,.slice ac A.length cc] 51 (0,0))):=hbs.alloc hbs.size _;have hxs:=vI (w':=wr.alloc (Obj.cells #[.int .i64 n1,.int .i64 n2,.bool sh,.int .i64 n4,.slice ac A.length cc] 51 (0,0))) hown λb e=>hb7.block b (Gu b e);have QM:=avz wr (Obj.cells #[.int .i64 n1,.int .i64 n2,.bool sh,.int .i64 n4,.slice ac A.length cc] 51 (0,0));refine wpList_append_lies _ rfl _ _ 27 (by rfl) B 51 i0 ah7 5 56 Tryz.underlying27 hi hz0 hz1 hz2 rfl (by decide) (.slice ab x.2.1.length cb) x.2.1.length xs (by rfl) hxs ⟨wr.heap.size,0,none⟩ 1 1 [.int .i64 n1,.int .i64 n2,.bool sh,.int .i64 n4,.slice ac A.length cc] (by rfl) rfl (World.news_of_block QM) (by intro u hu;simp at hu;rcases hu with rfl|rfl|rfl|rfl|rfl<;>rfl) (by decide) hqm nG (auU hB hb7.size) _ rfl ?_;intro g cap w7 hown6 hgrow6 Gv Tm;have hnN:∀b,W.heap.size<=b->(Value.slice ab x.2.1.length cb).ownBlock≠some b:=λb hb e=>(by have:=Gu b e;omega);have hsz5:=hbs.size;have hq5:∀b o,b<=W.heap.size+1->W.heap.size<=b->wr.heap[b]? =some o->w7.heap[b]? =some o:=λb o hb hb2 ho=>(hgrow6.block b (by have:=(auV.1 ho).1;simp;omega) (λe=>hnN b hb2 e.symm)).trans ((heap_alloc_old wr _ (auV.1 ho).1).trans ho);have q0':=hq5 _ _ (by omega) (auT _) q0;have q1':=hq5 _ _ (auT _) (by omega) q1;clear d0 d1 d2 d3 z0 z1 z2 z3;obtain⟨⟨d0,d1,d2,d3⟩,z0,z1,z2,z3⟩:=four q0';obtain⟨⟨p0,p1,p2,p3⟩,y0',y1',y2',y3'⟩:=four q1'))
   all_goals (try simp only[Exit.inBlock,Exit.then])
   have hlw:W.heap.size+2<=w6.heap.size:=by omega
   have hlt0:∀b,(Value.slice ac A.length cc).ownBlock=some b->w6.heap.size+1<=b/\b<wr.heap.size:=λb e=>hOL.lt e;have hx:=hS.aoV (y:=(n1,n2,sh,n4,A,())) (N:=λb=>(Value.slice ac A.length cc).ownBlock=some b) hB hb7 hown hrep hown6 hgrow6 Gv Tm (λb hb=>⟨by have:=(hlt0 b hb).1;omega,by have:=(hlt0 b hb).2;simp;omega⟩)
    ⟨_,_,rfl,⟨rfl,hn1⟩,_,_,rfl,⟨rfl,hn2⟩,_,_,rfl,rfl,_,_,rfl,⟨rfl,hn4⟩,_,_,rfl,dh.mono (λb hb=>⟨hb,heap_alloc_old wr _ (hlt0 b hb).2⟩) _ _ _ (hOL.rep (by decide) (S:=λb=>(Value.slice ac A.length cc).ownBlock=some b) λb hb=>hb.elim False.elim id),rfl⟩
   have hg0:=acw Gv Gu (by have:=(auV.1 q1).1;simp;omega);have o0:=λn(h1:W.heap.size<=n)(h2:n<=W.heap.size+1)=>(⟨λe=>e.elim (hS.high n h1).1 (λe=>by have:=(hlt0 n e).1;omega),(hS.high n h1).2.1,hg0 n h1 h2,(hS.high n h1).2.2.2⟩:¬(F n\/(Value.slice ac A.length cc).ownBlock=some n)/\_/\_/\_);have k6:Kp B B W w7:=(Tc hB hb7).grown hB hgrow6 λb e=>(hS.fl.lt e).1;obtain⟨r9,s9,k9⟩:=acy (k:=1) (.slice (some ⟨g,0,none⟩) (x.2.1.length+1) cap) (.slice aa x.1.length ca) (.slice (some ⟨g,0,none⟩) (x.2.1.length+1) cap) (.int .i64 x.2.2.1) (.slice ad x.2.2.2.1.length cd) hx k6 hB o0 q1';unfold qJ at r9 s9 k9;exact awd (awP rfl _ _ (W.heap.size+1) _ _ _ _ (by rfl) r9 Tryz.underlying33 rfl (by kernel_rfl)) rfl ⟨_,_,_,_,rfl,s9,k9⟩
end Go.Proofs.Tryz

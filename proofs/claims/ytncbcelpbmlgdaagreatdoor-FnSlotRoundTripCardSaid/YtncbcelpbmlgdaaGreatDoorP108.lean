import Derived.Test.YtncbcelpbmlgdaaGreatDoorP98
import Derived.StillTailTactics
namespace Go.Proofs.Tryz
open Go Go.Fw Go.RowKit Sp
set_option maxRecDepth 100000
theorem anQ{B:Nat}{w:World}{va vl vd:Value}{x:aV}{F:Nat->Prop}(h:Sn B w va vl vd x F)(hx:fH x)(hG:G.ok w):Calls prog 29 #[Gf va vl vd x.2.2.1] w λe w'=>e=.returned (.bool (bM x))/\Below w.heap.size w w':=by have hc:fD prog G 29 (ig iK.sh iK.bH iK.F):=vK.1;refine(hc [ahM x] (fH x) ⟨[(false,[.plain (.bool (bM x))])],none⟩ 0 (λ_=>True) #[Gf va vl vd x.2.2.1] w rfl hx hG ⟨abY h,trivial⟩).mono ?_;rintro e w' ⟨v,vals,rfl,h1,h2,h3,h4,h5,h6,_,_⟩;have h6:v=.bool (bM x):=h6;exact⟨by rw[h6],h1,h2,h3,h4,h5⟩
theorem anR{B:Nat}{w:World}{va vl vd:Value}{x:aV}{F:Nat->Prop}(h:Sn B w va vl vd x F)(hx:fH x)(hG:G.ok w):Calls prog 22 #[Gf va vl vd x.2.2.1] w λe w'=>∃v,e=.returned v/\FW w'.heap.size w' v (Sp.enc x)/\Below w.heap.size w w':=by have hc:fD prog G 22 (ig jG.sh jG.bH jG.F):=DR.1;refine(hc [ahM x] (fH x) _ 0 (λ_=>True) #[Gf va vl vd x.2.2.1] w rfl hx hG ⟨abY h,trivial⟩).mono ?_;rintro e w' ⟨v,vals,rfl,h1,h2,h3,h4,h5,h6,_,_⟩;have h6:bY w'.heap _ (.sl aT dJ) v (Sp.enc x):=h6;exact⟨v,rfl,bY.mono (λb hb=>⟨hb.1.1,rfl⟩) _ _ _ h6,h1,h2,h3,h4,h5⟩
theorem ajT{w:World}{u v:Value}{a b:Sp.LS}(ha:FW w.heap.size w u a)(hb:FW w.heap.size w v b)(hG:G.ok w):Calls prog 65 #[u,v] w λe w'=>e=.returned (.bool (decide (a=b)))/\Below w.heap.size w w':=by have hc:fD prog G 65 (ig qX.sh qX.bH qX.F):=aal.1;refine(hc [.sv (.one (.sl aT dJ a false)),.sv (.one (.sl aT dJ b false))] True ⟨[(false,[.plain (.bool (decide (a=b)))])],none⟩ 0 (λ_=>True) #[u,v] w rfl trivial hG ⟨wX ha,wX hb,trivial⟩).mono ?_;rintro e w' ⟨v,vals,rfl,h1,h2,h3,h4,h5,h6,_,_⟩;have h6:v=.bool (decide (a=b)):=h6;exact⟨by rw[h6],h1,h2,h3,h4,h5⟩
theorem anS{ls:Sp.LS}(k:(bM (jf cu ls)&&decide (Sp.enc (jf cu ls)=ls))=false):Sp.dec ls=(cu,false):=by unfold Sp.dec;rw[k];rfl
theorem amB{ls:Sp.LS}(k1:bM (jf cu ls)=true)(k2:decide (Sp.enc (jf cu ls)=ls)=true):Sp.dec ls=(jf cu ls,true):=by unfold Sp.dec;rw[k1,k2];rfl
theorem Kp.weak{B P:Nat}{W w:World}(h:Kp B B W w)(hP:P<B):Kp B P W w:=⟨h.os,h.tape,h.output,h.size,λb hb _=>h.block b hb aaV⟩
set_option maxHeartbeats 16000000 in
theorem anT(ls:Sp.LS)(v:Value)(W:World)(hv:FW W.heap.size W v ls)(hfit:zM ls)(hG:G.ok W):Calls prog 17 #[v] W λe w'=>Gives W w' e (Sp.dec ls).1 (Sp.dec ls).2:=by
 have mixed:=Tryz.mixed;obtain⟨arA,hlx⟩:=hfit;obtain⟨al,cl,rfl⟩:=lW hv;have hbase:=below2 W (Obj.cells yx 33 (0,0)) (Obj.cells yx 33 (0,0));have hsize:=aaj W (Obj.cells yx 33 (0,0)) (Obj.cells yx 33 (0,0));have hN0:=box1 W (Obj.cells yx 33 (0,0)) (Obj.cells yx 33 (0,0))
 go_enter Tryz.func17,Tryz.ntmps17
 go_wp2
 go_loopw [5] (λi wr=>∃n:Nat,n<=ls.length/\i=.int .i64 n/\Ui n (jf cu (ls.take n))/\Held (W.heap.size+2) (W.heap.size+1) wr (jf cu (ls.take n))/\Kp (W.heap.size+2) (W.heap.size+1) ((W.alloc (Obj.cells yx 33 (0,0))).alloc (Obj.cells yx 33 (0,0))) wr)
  (λi _=>ls.length-(intOf i).toNat)
 case atStart=>exact⟨0,auZ _,rfl,ahK,⟨_,_,_,_,anI W _ _,Sn.zero _ _⟩,rfl,rfl,rfl,auH _,λ_ _ _=>rfl⟩
 case round=>
  obtain⟨n,hn,rfl,hsz,hH,hK⟩:=hrel;have hlow:=hK.low aaV hbase;have hGr:G.ok wr:=dL hG hlow;have hwr:=hK.size;rw[hsize]at hwr;rcases au2 n ls.length with hlt|hge
  .have hlt':((n:Nat):Int)<ls.length:=aaV;obtain⟨bl,off,rfl,hbl,hcl⟩:=hv.cell hlt;have hcl:=(awe (a:=⟨bl,off+n,none⟩) (hlow.block bl hbl)).trans hcl;have hLl:=hlx _ (getD_in (d:=([],())) hlt);have hnext:=amC hlt;have RN:Ui (n+1) (oZ (jf cu (ls.take n)) (gG (ls.getD n ([],())).1)):=amD hsz (auK Ot.1 abV) λy hy=>auK (Ot.2 y hy) abV;generalize (ls.getD n ([],())).1=L at hcl hLl hnext RN;obtain⟨va,vl,vd,F,hP,wW⟩:=hH;have hPl:=(auL.1 hP).1;have rr:=λw(hs:Sn (W.heap.size+2) w va vl vd _ F)(hG:G.ok w)(hB:W.heap.size+2<=w.heap.size)=>anU (W.heap.size+2) w va vl vd _ F L aaV hG hs hB ⟨auK hsz.1 aaV,auK hsz.2.1 aaV,hsz.2.2.1,auK hsz.2.2.2.1 aaV,hsz.2.2.2.2⟩;generalize hxx:jf cu (ls.take n)=x at hP wW rr hnext RN;generalize oZ x (gG L)=x' at rr hnext RN;unfold Gf at rr;obtain⟨⟨d0,d1,d2,d3⟩,z0,z1,z2,z3⟩:=four hP;clear hsz hxx
   go_wp2
   go_still_tail 5,aa1
   change wpList _ _ _ _ _ wr.drew;have hdw:Below wr.heap.size wr wr.drew:=(Below.refl _ wr).drew;generalize wr.drew=w2 at hdw ⊢;have hsd:=hdw.size
   go_wp2_with (first
    |(go_at_call 64;refine avd (rr w2 (wW.below hdw) (dL hGr hdw) aaV) ?_;rintro e w' ⟨va',vl',vd',F',rfl,hS',hK'⟩;obtain⟨aa,ca,rfl⟩:=hS'.fa.form;obtain⟨ab,cb,rfl⟩:=hS'.fl.form;obtain⟨ad,cd,rfl⟩:=hS'.fd.form;unfold Gf;have hP':=(hK'.block (W.heap.size+1) aaV aaV).trans ((hdw.block _ hPl).trans hP);clear d0 d1 d2 d3 z0 z1 z2 z3;obtain⟨⟨d0,d1,d2,d3⟩,z0,z1,z2,z3⟩:=four hP'))
   have r9:=uH (y0:=.slice aa x'.1.length ca) (y1:=.slice ab x'.2.1.length cb) (y2:=.int .i64 x'.2.2.1) (y3:=.slice ad x'.2.2.2.1.length cd) hP';have s9:=adZ (g:=W.heap.size+1) (y0:=.slice aa x'.1.length ca) (y1:=.slice ab x'.2.1.length cb) (y2:=.int .i64 x'.2.2.1) (y3:=.slice ad x'.2.2.2.1.length cd) hS' aaV;have k9:=((((Kp.trans hK (((Kp.of (P:=W.heap.size+1) hwr hdw).trans (hK'.weak aaV)))).set (k:=0) (v:=.slice aa x'.1.length ca)).set (k:=1) (v:=.slice ab x'.2.1.length cb)).set (k:=2) (v:=.int .i64 x'.2.2.1)).set (k:=3) (v:=.slice ad x'.2.2.2.1.length cd);unfold qp at r9 s9;exact⟨⟨n+1,hlt,rfl,by rw[hnext];exact RN,by rw[hnext];exact⟨_,_,_,_,r9,s9⟩,k9⟩,by simp only[intOf];omega⟩
  .have hge':¬((n:Nat):Int)<ls.length:=aaV;obtain rfl:n=ls.length:=aaV;rw[avQ]at hsz hH;have hsm:=afe hsz aaV;obtain⟨va,vl,vd,F,hP,wW⟩:=hH;have hdb:=anS (ls:=ls);have hdg:=amB (ls:=ls);generalize jf cu ls=x at hsz hsm hP wW hdb hdg;have hPl:=(auL.1 hP).1;have hq:=(hK.block W.heap.size aaV aaV).trans hN0;have vs:=anQ wW hsm hGr;unfold Gf at vs;obtain⟨⟨d0,d1,d2,d3⟩,z0,z1,z2,z3⟩:=four hP;cases hval:bM x with
   |false=>
    rw[hval]at vs hdb;have hd:=hdb rfl
    go_wp2_with (first
     |(go_at_call 29;refine avd vs ?_;rintro e w5 ⟨rfl,hb5⟩;have sS:=hlow.trans (hb5.mono hlow.size);have nN:=(hb5.block _ hPl).trans hP;have hq5:=(hb5.block W.heap.size aaV).trans hq;clear d0 d1 d2 d3 z0 z1 z2 z3;obtain⟨⟨d0,d1,d2,d3⟩,z0,z1,z2,z3⟩:=four hq5))
    all_goals (try simp only[Exit.inBlock,Exit.then])
    have r9:=uH (y0:=.slice none 0 0) (y1:=.slice none 0 0) (y2:=.int .i64 0) (y3:=.slice none 0 0) hq5;have EY:=qF (y0:=.slice none 0 0) (y1:=.slice none 0 0) (y2:=.int .i64 0) (y3:=.slice none 0 0) sS (auH _);unfold qp at r9 EY;clear d0 d1 d2 d3 z0 z1 z2 z3;refine av1 (v:=.tuple #[.agg #[.slice none 0 0,.slice none 0 0,.int .i64 0,.slice none 0 0],.bool false]) ?_ rfl aqw;obtain⟨⟨d0,d1,d2,d3⟩,z0,z1,z2,z3⟩:=four r9;rw[awy rfl]
    go_simp
   |true=>
    rw[hval]at vs hdb;have es:=λw(hs:Sn (W.heap.size+2) w va vl vd x F) hG=>anR hs hsm hG;unfold Gf at es;cases heq:decide (Sp.enc x=ls)with
    |false=>
     rw[heq]at hdb;have hd:=hdb rfl
     go_wp2_with (first
      |(go_at_call 29;refine avd vs ?_;rintro e w5 ⟨rfl,hb5⟩;have sS:=hlow.trans (hb5.mono hlow.size);have nN:=(hb5.block _ hPl).trans hP;have hq5:=(hb5.block W.heap.size aaV).trans hq;clear d0 d1 d2 d3 z0 z1 z2 z3;obtain⟨⟨d0,d1,d2,d3⟩,z0,z1,z2,z3⟩:=four nN)
      |(go_at_call 22;refine avd (es w5 (wW.below hb5) (dL hG sS)) ?_;rintro e w6 ⟨v6,rfl,Qc,hb6⟩;obtain⟨a6,c6,e6⟩:=lW Qc;subst e6;have Lh:=hb5.trans (hb6.mono hb5.size);have sU:=sS.trans (hb6.mono sS.size))
      |(go_at_call 65;refine avd (ajT Qc (hv.keep' sU) (dL hG sU)) ?_;rintro e w7 ⟨rfl,hb7⟩;rw[heq];have Lj:=Lh.trans (hb7.mono Lh.size);have RP:=sU.trans (hb7.mono sU.size);have hq7:=(Lj.block W.heap.size aaV).trans hq;clear d0 d1 d2 d3 z0 z1 z2 z3;obtain⟨⟨d0,d1,d2,d3⟩,z0,z1,z2,z3⟩:=four hq7))
     all_goals (try simp only[Exit.inBlock,Exit.then])
     have r9:=uH (y0:=.slice none 0 0) (y1:=.slice none 0 0) (y2:=.int .i64 0) (y3:=.slice none 0 0) hq7;have EY:=qF (y0:=.slice none 0 0) (y1:=.slice none 0 0) (y2:=.int .i64 0) (y3:=.slice none 0 0) RP (auH _);unfold qp at r9 EY;clear d0 d1 d2 d3 z0 z1 z2 z3;refine av1 (v:=.tuple #[.agg #[.slice none 0 0,.slice none 0 0,.int .i64 0,.slice none 0 0],.bool false]) ?_ rfl aqw;obtain⟨⟨d0,d1,d2,d3⟩,z0,z1,z2,z3⟩:=four r9;rw[awy rfl]
     go_simp
    |true=>
     have hd:=hdg hval heq;obtain⟨aa,ca,rfl⟩:=wW.fa.form;obtain⟨ab,cb,rfl⟩:=wW.fl.form;obtain⟨ad,cd,rfl⟩:=wW.fd.form
     go_wp2_with (first
      |(go_at_call 29;refine avd vs ?_;rintro e w5 ⟨rfl,hb5⟩;have sS:=hlow.trans (hb5.mono hlow.size);have nN:=(hb5.block _ hPl).trans hP;have hq5:=(hb5.block W.heap.size aaV).trans hq;clear d0 d1 d2 d3 z0 z1 z2 z3;obtain⟨⟨d0,d1,d2,d3⟩,z0,z1,z2,z3⟩:=four nN)
      |(go_at_call 22;refine avd (es w5 (wW.below hb5) (dL hG sS)) ?_;rintro e w6 ⟨v6,rfl,Qc,hb6⟩;obtain⟨a6,c6,e6⟩:=lW Qc;subst e6;have Lh:=hb5.trans (hb6.mono hb5.size);have sU:=sS.trans (hb6.mono sS.size))
      |(go_at_call 65;refine avd (ajT Qc (hv.keep' sU) (dL hG sU)) ?_;rintro e w7 ⟨rfl,hb7⟩;rw[heq];have Lj:=Lh.trans (hb7.mono Lh.size);have RP:=sU.trans (hb7.mono sU.size);have hq7:=(Lj.block W.heap.size aaV).trans hq;have hP7:=(Lj.block _ hPl).trans hP;have anL:=wW.below Lj;clear d0 d1 d2 d3 z0 z1 z2 z3;obtain⟨⟨d0,d1,d2,d3⟩,z0,z1,z2,z3⟩:=four hq7;obtain⟨⟨p0,p1,p2,p3⟩,y0,y1,y2,y3⟩:=four hP7))
     all_goals (try simp only[Exit.inBlock,Exit.then])
     have r9:=uH (y0:=.slice aa x.1.length ca) (y1:=.slice ab x.2.1.length cb) (y2:=.int .i64 x.2.2.1) (y3:=.slice ad x.2.2.2.1.length cd) hq7;have EY:=qF (y0:=.slice aa x.1.length ca) (y1:=.slice ab x.2.1.length cb) (y2:=.int .i64 x.2.2.1) (y3:=.slice ad x.2.2.2.1.length cd) RP (auH _);have hs9:=adZ (y0:=.slice aa x.1.length ca) (y1:=.slice ab x.2.1.length cb) (y2:=.int .i64 x.2.2.1) (y3:=.slice ad x.2.2.2.1.length cd) anL (show W.heap.size<W.heap.size+2 from aaV);unfold qp at r9 EY hs9;clear d0 d1 d2 d3 z0 z1 z2 z3;refine av1 (v:=.tuple #[.agg #[.slice aa x.1.length ca,.slice ab x.2.1.length cb,.int .i64 x.2.2.1,.slice ad x.2.2.2.1.length cd],.bool true]) ?_ rfl (by rw[hd];exact ahL aaV EY hs9);obtain⟨⟨d0,d1,d2,d3⟩,z0,z1,z2,z3⟩:=four r9;rw[awy rfl]
     go_simp
theorem Ou:fD prog G zf vH:=by
 intro args p out k S vs w hcon hp hG hrep;unfold vH ig wS at hcon;split at hcon
 .next x hx=>
  obtain⟨ls,⟨⟩⟩:=x;have hv:=DI xE args _ vs.toList hx hrep
  match hvs:vs.toList,hv with
  |[v],hv=>
   have e1:bY w.heap _ (.sl aT dJ) v ls:=hv.1;have e2:vs=#[v]:=by obtain⟨l⟩:=vs;simp at hvs;rw[hvs]
   subst e2;have hF:=Option.some.inj hcon;have hp1:p=zM ls:=(congrArg Prod.fst hF).symm;have hout:out=⟨[(true,[.plain (.sl aG dh (Sp.dec ls).1.1 true),.plain (.sl aX dV (Sp.dec ls).1.2.1 true),.plain (.int .i64 (Sp.dec ls).1.2.2.1),.plain (.sl bF dK (Sp.dec ls).1.2.2.2.1 true)]),(false,[.plain (.bool (Sp.dec ls).2)])],none⟩:=(congrArg Prod.snd hF).symm;subst hp1 hout;refine(anT ls v w (bY.mono (λb hb=>⟨hb.1.1,rfl⟩) _ _ _ e1) hp hG).mono ?_;rintro e w' ⟨va,vl,vd,rfl,hb,hn,r1,r2,r3⟩;refine⟨_,λ_=>undef,rfl,hb.os,hb.tape,hb.output,hb.size,hb.block,?_,(λo x hx=>aeZ),(λo x q y b hx=>aeZ)⟩;exact⟨_,rfl,⟨_,rfl,bY.mono (λb hb=>⟨⟨⟨hb.2,λh=>absurd h (axk.2 hb.1),λo x hx=>aeZ⟩,λ_=>hb.1⟩,rfl⟩) _ _ _ r1,bY.mono (λb hb=>⟨⟨⟨hb.2,λh=>absurd h (axk.2 hb.1),λo x hx=>aeZ⟩,λ_=>hb.1⟩,rfl⟩) _ _ _ r2,⟨rfl,hn⟩,bY.mono (λb hb=>⟨⟨⟨hb.2,λh=>absurd h (axk.2 hb.1),λo x hx=>aeZ⟩,λ_=>hb.1⟩,rfl⟩) _ _ _ r3,trivial⟩,rfl,trivial⟩
 .cases hcon
end Go.Proofs.Tryz
namespace Go.Proofs.Tryz
open Go Go.Fw Go.IntWalk
set_option maxRecDepth 100000
theorem ak6{P Q:Prop}{b:Bool}(hb:b=true)(h:Q):bif !b then P else Q:=by rw[hb];exact h
end Go.Proofs.Tryz
namespace Go.Proofs.Tryz
open Go Go.Fw Go.IntWalk Sp
set_option maxRecDepth 100000
theorem Wp:OK yc.e:=by
 refine PA.ok mixed (aB [o8.e,(zf,.pure vH),qj.e,Ef.e] ⟨BP,⟨Ou,L9⟩,Di,ad2,trivial⟩) H0 aa1 (show∀s,yc.goal (IQ s) (s,())from ?_);intro s hin hp;dsimp only[yc]at hp ⊢;have hp:mW s:=hp;have hl:=XL hp;dsimp only[IQ];rw[show(1:Int).toNat=1 from rfl,show(0:Int).toNat=0 from rfl];have hcl:(qm s).length=(Sp.pieces 10 s).length-1:=by unfold qm;rw[auN];omega
 refine⟨aaV,af (λh=>?_) λh=>?_⟩
 .have h:((qm s).length:Int)=0:=acs;unfold cO;rw[auU aaV];rfl
 have h:¬((qm s).length:Int)=0:=acs;have h2:2<=(Sp.pieces 10 s).length:=aaV;have ei:List.drop 1 (List.take (qm s).length (qm s))=Sp.inner (Sp.pieces 10 s):=by rw[avQ];rfl
 have e0:(qm s).getD 0 ([],())=(Sp.pieces 10 s).getD 0 ([],()):=by unfold qm;rw[auF,auF,avN aaV]
 have hd:cO s=bif (Sp.dec (Sp.inner (Sp.pieces 10 s))).2&&decide (Sp.slot (Sp.parseNum ((Sp.pieces 10 s).getD 0 ([],())).1) (Sp.dec (Sp.inner (Sp.pieces 10 s))).1=s)then(Sp.parseNum ((Sp.pieces 10 s).getD 0 ([],())).1,(Sp.dec (Sp.inner (Sp.pieces 10 s))).1,true)else(0,cu,false):=by unfold cO;rw[auS h2];rfl
 rw[ei,e0,hd];refine⟨⟨abV,aaV⟩,trivial,⟨abV,aaV⟩,aff hp,af (λg2=>?_) λg2=>⟨afg _,af (λg3=>?_) λg3=>?_⟩⟩
 .rw[iZ g2];rfl
 .have g3:(Sp.slot (Sp.parseNum ((Sp.pieces 10 s).getD 0 ([],())).1) (Sp.dec (Sp.inner (Sp.pieces 10 s))).1==s)=false:=iZ g3;rw[auU (auD.1 g3),avP];rfl
 .have g3:(Sp.slot (Sp.parseNum ((Sp.pieces 10 s).getD 0 ([],())).1) (Sp.dec (Sp.inner (Sp.pieces 10 s))).1==s)=true:=fB g3;rw[auS (au5.1 g3),fB g2];rfl
end Go.Proofs.Tryz
namespace Go.Proofs.Tryz
open Go Go.Fw Go.IntWalk Sp
set_option maxRecDepth 100000
theorem ak7{n:Int}{x:aV}(h:Sp.slot n x≠[]):bM x=true/\1<=n/\n<=1000000000:=by
 unfold Sp.slot at h;cases hx:bM x with
 |false=>rw[hx]at h;exact absurd rfl h
 |true=>
  rw[hx]at h;by_cases h1:1<=n
  .by_cases h2:n<=1000000000
   .exact⟨rfl,h1,h2⟩
   .rw[auU h2,avP]at h;exact absurd rfl h
  .rw[auU h1]at h;exact absurd rfl h
theorem aoN{P Q:Prop}{b:Bool}(hb:b=false)(h:Q):bif b then P else Q:=by rw[hb];exact h
theorem ahN(a:Int):(a !=a)=false:=abZ
theorem MC:OK xG.e:=by
 refine PA.ok mixed (aB [uh.e,xX.e,wM.e,wO.e,uX.e,o8.e,uY.e,yc.e,qZ.e,yg.e,rP.e,qY.e,Jt.e] ⟨Jo,Wq,Ll,Lm,RU,BP,RV,Wp,Ov,Wl,IJ,Ox,ai9,trivial⟩) Oy aa1 (show∀code,xG.goal (MF code) (code,())from ?_);intro code hin hp;dsimp only[xG]at hp ⊢;refine⟨trivial,af (λ_=>rfl) λhc=>?_⟩;have hc:=fV hc;refine⟨aaV,λr1 h1=>?_⟩;obtain⟨⟨n,x,⟨⟩⟩,⟨⟩⟩:=r1;have hx:fH x:=h1;refine⟨hx,ahO n x,aaV,λr8 h8=>?_⟩;obtain⟨⟨t,⟨⟩⟩,⟨⟩⟩:=r8;have ht:mW t:=h8;refine⟨ht,ht,aaV,λNH h21=>?_⟩;have h21:NH.1.1.length<=1048576:=auK h21 abV;have hds:=@ahP n x;have hpn:=@amE n x;have hfit:=ahO n x;have hlen:=XL hfit;have hpp:=@ak7 n x;dsimp only at hx ⊢;generalize hE:Sp.slot n x=E at hds hpn hpp hfit hlen ⊢;have hno:E=[]->(cO E).2.2=false:=λe=>by rw[e];rfl
 generalize hD:cO E=D at hds hno ⊢;obtain⟨m,⟨a,f,nx,d,⟨⟩⟩,ok⟩:=D;generalize cO t=D2;dsimp only at hno ⊢;refine⟨λ_=>True,⟨hx,ak6 (awk _) (aoN (ahN _) (ak6 (awk _) ⟨trivial,ak6 (auS rfl) ⟨h21,h21,aoN (ahN _) ⟨rfl,trivial⟩⟩⟩))⟩,λ_ _=>af (λg=>?_) λg=>?_⟩
 .rw[hno (au5.1 g)];rfl
 have hne:E≠[]:=auD.1 g;obtain⟨p1,p2,p3⟩:=hpp hne;have hds:=hds p1 p2 p3;have hpos:0<E.length:=aw7.2 hne;refine⟨aaV,λr28 h28=>?_⟩;obtain⟨⟨p,⟨⟩⟩,⟨⟩⟩:=r28;obtain⟨aqh,hpx⟩:=h28;have aqh:p.length=12:=aqh;have hpx:∀z∈p,0<=z.1/\z.1<10000:=hpx;dsimp only;rw[show(0:Int).toNat=0 from rfl,show∀l:List UInt8,List.drop 0 l=l fromλ_=>rfl];have hz:=(hpx _ (getD_in (d:=(0,())) (n:=0) (l:=p) aaV)).1;have hm1:0<=(p.getD 0 (0,())).1.tmod (E.length:Int):=aw8 _ hz;have hm2:(p.getD 0 (0,())).1.tmod (E.length:Int)<(E.length:Int):=axI _ aaV;generalize (p.getD 0 (0,())).1.tmod (E.length:Int)=k at hm1 hm2 ⊢;have hnk:=hpn (k:=k.toNat) aaV;refine⟨⟨abV,by show(0:Int)<(p.length:Int);omega⟩,aaV,⟨hm1,aaV⟩,amF hfit _,?_⟩;rw[hnk];have e0:=congrArg Prod.fst hds;have e1:=congrArg (λz:Int×aV×Bool=>z.2.1) hds;have e2:=congrArg (λz:Int×aV×Bool=>z.2.2) hds;dsimp only at e0 e1 e2;rw[e0,e2,awk];have e3:((a,f,nx,()):dU)=(x.1,x.2.1,x.2.2.1,()):=by have:=congrArg (λz:aV=>((z.1,z.2.1,z.2.2.1,()):dU)) e1;exact this
 refine⟨trivial,?_⟩;rw[auS e3];rfl
end Go.Proofs.Tryz

import Derived.Test.YtncbcelpbmlgdaaGreatDoorP98
import Derived.StillTailTactics
namespace Go.Proofs.Tryz
open Go Go.Fw Go.RowKit Sp
set_option maxRecDepth 100000
theorem aou{B:Nat}{w:World}{va vl vd:Value}{x:aV}{F:Nat->Prop}(h:Sn B w va vl vd x F)(hx:bP x)(hG:G.ok w):Calls prog 29 #[Gv va vl vd x.2.2.1] w λe w'=>e=.returned (.bool (bT x))/\Below w.heap.size w w':=by have hc:fJ prog G 29 (iy iO.sh iO.bI iO.F):=vN.1;refine(hc [ait x] (bP x) ⟨[(false,[.plain (.bool (bT x))])],none⟩ 0 (λ_=>True) #[Gv va vl vd x.2.2.1] w rfl hx hG ⟨acD h,trivial⟩).mono ?_;rintro e w' ⟨v,vals,rfl,h1,h2,h3,h4,h5,h6,_,_⟩;have h6:v=.bool (bT x):=h6;exact⟨by rw[h6],h1,h2,h3,h4,h5⟩
theorem aov{B:Nat}{w:World}{va vl vd:Value}{x:aV}{F:Nat->Prop}(h:Sn B w va vl vd x F)(hx:bP x)(hG:G.ok w):Calls prog 22 #[Gv va vl vd x.2.2.1] w λe w'=>∃v,e=.returned v/\FW w'.heap.size w' v (Sp.enc x)/\Below w.heap.size w w':=by have hc:fJ prog G 22 (iy jh.sh jh.bI jh.F):=xJ.1;refine(hc [ait x] (bP x) _ 0 (λ_=>True) #[Gv va vl vd x.2.2.1] w rfl hx hG ⟨acD h,trivial⟩).mono ?_;rintro e w' ⟨v,vals,rfl,h1,h2,h3,h4,h5,h6,_,_⟩;have h6:cZ w'.heap _ (.sl aY dQ) v (Sp.enc x):=h6;exact⟨v,rfl,cZ.mono (λb hb=>⟨hb.1.1,rfl⟩) _ _ _ h6,h1,h2,h3,h4,h5⟩
theorem akB{w:World}{u v:Value}{a b:Sp.LS}(ha:FW w.heap.size w u a)(hb:FW w.heap.size w v b)(hG:G.ok w):Calls prog 65 #[u,v] w λe w'=>e=.returned (.bool (decide (a=b)))/\Below w.heap.size w w':=by have hc:fJ prog G 65 (iy rq.sh rq.bI rq.F):=aaL.1;refine(hc [.sv (.one (.sl aY dQ a false)),.sv (.one (.sl aY dQ b false))] True ⟨[(false,[.plain (.bool (decide (a=b)))])],none⟩ 0 (λ_=>True) #[u,v] w rfl trivial hG ⟨wY ha,wY hb,trivial⟩).mono ?_;rintro e w' ⟨v,vals,rfl,h1,h2,h3,h4,h5,h6,_,_⟩;have h6:v=.bool (decide (a=b)):=h6;exact⟨by rw[h6],h1,h2,h3,h4,h5⟩
theorem aow{ls:Sp.LS}(k:(bT (jl bZ ls)&&decide (Sp.enc (jl bZ ls)=ls))=false):Sp.dec ls=(bZ,false):=by unfold Sp.dec;rw[k];rfl
theorem anh{ls:Sp.LS}(k1:bT (jl bZ ls)=true)(k2:decide (Sp.enc (jl bZ ls)=ls)=true):Sp.dec ls=(jl bZ ls,true):=by unfold Sp.dec;rw[k1,k2];rfl
theorem Kp.weak{B P:Nat}{W w:World}(h:Kp B B W w)(hP:P<B):Kp B P W w:=⟨h.os,h.tape,h.output,h.size,λb hb _=>h.block b hb abn⟩
set_option maxHeartbeats 16000000 in
theorem aox(ls:Sp.LS)(v:Value)(W:World)(hv:FW W.heap.size W v ls)(hfit:zN ls)(hG:G.ok W):Calls prog 17 #[v] W λe w'=>Gives W w' e (Sp.dec ls).1 (Sp.dec ls).2:=by
 have mixed:=Tryz.mixed;obtain⟨asl,hlx⟩:=hfit;obtain⟨al,cl,rfl⟩:=lZ hv;have hbase:=below2 W (Obj.cells yw 33 (0,0)) (Obj.cells yw 33 (0,0));have hsize:=aaF W (Obj.cells yw 33 (0,0)) (Obj.cells yw 33 (0,0));have hN0:=box1 W (Obj.cells yw 33 (0,0)) (Obj.cells yw 33 (0,0))
 go_enter Tryz.func17,Tryz.ntmps17
 go_wp2
 go_loopw [5] (λi wr=>∃n:Nat,n<=ls.length/\i=.int .i64 n/\Uu n (jl bZ (ls.take n))/\Held (W.heap.size+2) (W.heap.size+1) wr (jl bZ (ls.take n))/\Kp (W.heap.size+2) (W.heap.size+1) ((W.alloc (Obj.cells yw 33 (0,0))).alloc (Obj.cells yw 33 (0,0))) wr)
  (λi _=>ls.length-(intOf i).toNat)
 case atStart=>exact⟨0,avM _,rfl,air,⟨_,_,_,_,aom W _ _,Sn.zero _ _⟩,rfl,rfl,rfl,avt _,λ_ _ _=>rfl⟩
 case round=>
  obtain⟨n,hn,rfl,hsz,hH,hK⟩:=hrel;have hlow:=hK.low abn hbase;have hGr:G.ok wr:=dR hG hlow;have hwr:=hK.size;rw[hsize]at hwr;rcases avN n ls.length with hlt|hge
  .have hlt':((n:Nat):Int)<ls.length:=abn;obtain⟨bl,off,rfl,hbl,hcl⟩:=hv.cell hlt;have hcl:=(aw3 (a:=⟨bl,off+n,none⟩) (hlow.block bl hbl)).trans hcl;have hLl:=hlx _ (getD_in (d:=([],())) hlt);have hnext:=ani hlt;have Si:Uu (n+1) (pz (jl bZ (ls.take n)) (gG (ls.getD n ([],())).1)):=anj hsz (avx OO.1 abA) λy hy=>avx (OO.2 y hy) abA;generalize (ls.getD n ([],())).1=L at hcl hLl hnext Si;obtain⟨va,vl,vd,F,hP,wX⟩:=hH;have hPl:=(avw.1 hP).1;have rr:=λw(hs:Sn (W.heap.size+2) w va vl vd _ F)(hG:G.ok w)(hB:W.heap.size+2<=w.heap.size)=>aoy (W.heap.size+2) w va vl vd _ F L abn hG hs hB ⟨avx hsz.1 abn,avx hsz.2.1 abn,hsz.2.2.1,avx hsz.2.2.2.1 abn,hsz.2.2.2.2⟩;generalize hxx:jl bZ (ls.take n)=x at hP wX rr hnext Si;generalize pz x (gG L)=x' at rr hnext Si;unfold Gv at rr;obtain⟨⟨d0,d1,d2,d3⟩,z0,z1,z2,z3⟩:=four hP;clear hsz hxx
   go_wp2
   go_still_tail 5,abu
   change wpList _ _ _ _ _ wr.drew;have hdw:Below wr.heap.size wr wr.drew:=(Below.refl _ wr).drew;generalize wr.drew=w2 at hdw ⊢;have hsd:=hdw.size
   go_wp2_with (first
    |(go_at_call 64;refine av2 (rr w2 (wX.below hdw) (dR hGr hdw) abn) ?_;rintro e w' ⟨va',vl',vd',F',rfl,hS',hK'⟩;obtain⟨aa,ca,rfl⟩:=hS'.fa.form;obtain⟨ab,cb,rfl⟩:=hS'.fl.form;obtain⟨ad,cd,rfl⟩:=hS'.fd.form;unfold Gv;have hP':=(hK'.block (W.heap.size+1) abn abn).trans ((hdw.block _ hPl).trans hP);clear d0 d1 d2 d3 z0 z1 z2 z3;obtain⟨⟨d0,d1,d2,d3⟩,z0,z1,z2,z3⟩:=four hP'))
   have r9:=uI (y0:=.slice aa x'.1.length ca) (y1:=.slice ab x'.2.1.length cb) (y2:=.int .i64 x'.2.2.1) (y3:=.slice ad x'.2.2.2.1.length cd) hP';have s9:=aeD (g:=W.heap.size+1) (y0:=.slice aa x'.1.length ca) (y1:=.slice ab x'.2.1.length cb) (y2:=.int .i64 x'.2.2.1) (y3:=.slice ad x'.2.2.2.1.length cd) hS' abn;have k9:=((((Kp.trans hK (((Kp.of (P:=W.heap.size+1) hwr hdw).trans (hK'.weak abn)))).set (k:=0) (v:=.slice aa x'.1.length ca)).set (k:=1) (v:=.slice ab x'.2.1.length cb)).set (k:=2) (v:=.int .i64 x'.2.2.1)).set (k:=3) (v:=.slice ad x'.2.2.2.1.length cd);unfold qy at r9 s9;exact⟨⟨n+1,hlt,rfl,by rw[hnext];exact Si,by rw[hnext];exact⟨_,_,_,_,r9,s9⟩,k9⟩,by simp only[intOf];omega⟩
  .have hge':¬((n:Nat):Int)<ls.length:=abn;obtain rfl:n=ls.length:=abn;rw[awE]at hsz hH;have hsm:=afP hsz abn;obtain⟨va,vl,vd,F,hP,wX⟩:=hH;have hdb:=aow (ls:=ls);have hdg:=anh (ls:=ls);generalize jl bZ ls=x at hsz hsm hP wX hdb hdg;have hPl:=(avw.1 hP).1;have hq:=(hK.block W.heap.size abn abn).trans hN0;have vs:=aou wX hsm hGr;unfold Gv at vs;obtain⟨⟨d0,d1,d2,d3⟩,z0,z1,z2,z3⟩:=four hP;cases hval:bT x with
   |false=>
    rw[hval]at vs hdb;have hd:=hdb rfl
    go_wp2_with (first
     |(go_at_call 29;refine av2 vs ?_;rintro e w5 ⟨rfl,hb5⟩;have sS:=hlow.trans (hb5.mono hlow.size);have nP:=(hb5.block _ hPl).trans hP;have hq5:=(hb5.block W.heap.size abn).trans hq;clear d0 d1 d2 d3 z0 z1 z2 z3;obtain⟨⟨d0,d1,d2,d3⟩,z0,z1,z2,z3⟩:=four hq5))
    all_goals (try simp only[Exit.inBlock,Exit.then])
    have r9:=uI (y0:=.slice none 0 0) (y1:=.slice none 0 0) (y2:=.int .i64 0) (y3:=.slice none 0 0) hq5;have Fq:=qH (y0:=.slice none 0 0) (y1:=.slice none 0 0) (y2:=.int .i64 0) (y3:=.slice none 0 0) sS (avt _);unfold qy at r9 Fq;clear d0 d1 d2 d3 z0 z1 z2 z3;refine awT (v:=.tuple #[.agg #[.slice none 0 0,.slice none 0 0,.int .i64 0,.slice none 0 0],.bool false]) ?_ rfl aq6;obtain⟨⟨d0,d1,d2,d3⟩,z0,z1,z2,z3⟩:=four r9;rw[axn rfl]
    go_simp
   |true=>
    rw[hval]at vs hdb;have es:=λw(hs:Sn (W.heap.size+2) w va vl vd x F) hG=>aov hs hsm hG;unfold Gv at es;cases heq:decide (Sp.enc x=ls)with
    |false=>
     rw[heq]at hdb;have hd:=hdb rfl
     go_wp2_with (first
      |(go_at_call 29;refine av2 vs ?_;rintro e w5 ⟨rfl,hb5⟩;have sS:=hlow.trans (hb5.mono hlow.size);have nP:=(hb5.block _ hPl).trans hP;have hq5:=(hb5.block W.heap.size abn).trans hq;clear d0 d1 d2 d3 z0 z1 z2 z3;obtain⟨⟨d0,d1,d2,d3⟩,z0,z1,z2,z3⟩:=four nP)
      |(go_at_call 22;refine av2 (es w5 (wX.below hb5) (dR hG sS)) ?_;rintro e w6 ⟨v6,rfl,Ql,hb6⟩;obtain⟨a6,c6,e6⟩:=lZ Ql;subst e6;have LW:=hb5.trans (hb6.mono hb5.size);have sU:=sS.trans (hb6.mono sS.size))
      |(go_at_call 65;refine av2 (akB Ql (hv.keep' sU) (dR hG sU)) ?_;rintro e w7 ⟨rfl,hb7⟩;rw[heq];have LX:=LW.trans (hb7.mono LW.size);have Sj:=sU.trans (hb7.mono sU.size);have hq7:=(LX.block W.heap.size abn).trans hq;clear d0 d1 d2 d3 z0 z1 z2 z3;obtain⟨⟨d0,d1,d2,d3⟩,z0,z1,z2,z3⟩:=four hq7))
     all_goals (try simp only[Exit.inBlock,Exit.then])
     have r9:=uI (y0:=.slice none 0 0) (y1:=.slice none 0 0) (y2:=.int .i64 0) (y3:=.slice none 0 0) hq7;have Fq:=qH (y0:=.slice none 0 0) (y1:=.slice none 0 0) (y2:=.int .i64 0) (y3:=.slice none 0 0) Sj (avt _);unfold qy at r9 Fq;clear d0 d1 d2 d3 z0 z1 z2 z3;refine awT (v:=.tuple #[.agg #[.slice none 0 0,.slice none 0 0,.int .i64 0,.slice none 0 0],.bool false]) ?_ rfl aq6;obtain⟨⟨d0,d1,d2,d3⟩,z0,z1,z2,z3⟩:=four r9;rw[axn rfl]
     go_simp
    |true=>
     have hd:=hdg hval heq;obtain⟨aa,ca,rfl⟩:=wX.fa.form;obtain⟨ab,cb,rfl⟩:=wX.fl.form;obtain⟨ad,cd,rfl⟩:=wX.fd.form
     go_wp2_with (first
      |(go_at_call 29;refine av2 vs ?_;rintro e w5 ⟨rfl,hb5⟩;have sS:=hlow.trans (hb5.mono hlow.size);have nP:=(hb5.block _ hPl).trans hP;have hq5:=(hb5.block W.heap.size abn).trans hq;clear d0 d1 d2 d3 z0 z1 z2 z3;obtain⟨⟨d0,d1,d2,d3⟩,z0,z1,z2,z3⟩:=four nP)
      |(go_at_call 22;refine av2 (es w5 (wX.below hb5) (dR hG sS)) ?_;rintro e w6 ⟨v6,rfl,Ql,hb6⟩;obtain⟨a6,c6,e6⟩:=lZ Ql;subst e6;have LW:=hb5.trans (hb6.mono hb5.size);have sU:=sS.trans (hb6.mono sS.size))
      |(go_at_call 65;refine av2 (akB Ql (hv.keep' sU) (dR hG sU)) ?_;rintro e w7 ⟨rfl,hb7⟩;rw[heq];have LX:=LW.trans (hb7.mono LW.size);have Sj:=sU.trans (hb7.mono sU.size);have hq7:=(LX.block W.heap.size abn).trans hq;have hP7:=(LX.block _ hPl).trans hP;have aop:=wX.below LX;clear d0 d1 d2 d3 z0 z1 z2 z3;obtain⟨⟨d0,d1,d2,d3⟩,z0,z1,z2,z3⟩:=four hq7;obtain⟨⟨p0,p1,p2,p3⟩,y0,y1,y2,y3⟩:=four hP7))
     all_goals (try simp only[Exit.inBlock,Exit.then])
     have r9:=uI (y0:=.slice aa x.1.length ca) (y1:=.slice ab x.2.1.length cb) (y2:=.int .i64 x.2.2.1) (y3:=.slice ad x.2.2.2.1.length cd) hq7;have Fq:=qH (y0:=.slice aa x.1.length ca) (y1:=.slice ab x.2.1.length cb) (y2:=.int .i64 x.2.2.1) (y3:=.slice ad x.2.2.2.1.length cd) Sj (avt _);have hs9:=aeD (y0:=.slice aa x.1.length ca) (y1:=.slice ab x.2.1.length cb) (y2:=.int .i64 x.2.2.1) (y3:=.slice ad x.2.2.2.1.length cd) aop (show W.heap.size<W.heap.size+2 from abn);unfold qy at r9 Fq hs9;clear d0 d1 d2 d3 z0 z1 z2 z3;refine awT (v:=.tuple #[.agg #[.slice aa x.1.length ca,.slice ab x.2.1.length cb,.int .i64 x.2.2.1,.slice ad x.2.2.2.1.length cd],.bool true]) ?_ rfl (by rw[hd];exact ais abn Fq hs9);obtain⟨⟨d0,d1,d2,d3⟩,z0,z1,z2,z3⟩:=four r9;rw[axn rfl]
     go_simp
theorem OQ:fJ prog G y7 vJ:=by
 intro args p out k S vs w hcon hp hG hrep;unfold vJ iy wU at hcon;split at hcon
 .next x hx=>
  obtain⟨ls,⟨⟩⟩:=x;have hv:=DZ xG args _ vs.toList hx hrep
  match hvs:vs.toList,hv with
  |[v],hv=>
   have e1:cZ w.heap _ (.sl aY dQ) v ls:=hv.1;have e2:vs=#[v]:=by obtain⟨l⟩:=vs;simp at hvs;rw[hvs]
   subst e2;have hF:=Option.some.inj hcon;have hp1:p=zN ls:=(congrArg Prod.fst hF).symm;have hout:out=⟨[(true,[.plain (.sl aA bK (Sp.dec ls).1.1 true),.plain (.sl aP dI (Sp.dec ls).1.2.1 true),.plain (.int .i64 (Sp.dec ls).1.2.2.1),.plain (.sl aX dA (Sp.dec ls).1.2.2.2.1 true)]),(false,[.plain (.bool (Sp.dec ls).2)])],none⟩:=(congrArg Prod.snd hF).symm;subst hp1 hout;refine(aox ls v w (cZ.mono (λb hb=>⟨hb.1.1,rfl⟩) _ _ _ e1) hp hG).mono ?_;rintro e w' ⟨va,vl,vd,rfl,hb,hn,r1,r2,r3⟩;refine⟨_,λ_=>undef,rfl,hb.os,hb.tape,hb.output,hb.size,hb.block,?_,(λo x hx=>afg),(λo x q y b hx=>afg)⟩;exact⟨_,rfl,⟨_,rfl,cZ.mono (λb hb=>⟨⟨⟨hb.2,λh=>absurd h (ax5.2 hb.1),λo x hx=>afg⟩,λ_=>hb.1⟩,rfl⟩) _ _ _ r1,cZ.mono (λb hb=>⟨⟨⟨hb.2,λh=>absurd h (ax5.2 hb.1),λo x hx=>afg⟩,λ_=>hb.1⟩,rfl⟩) _ _ _ r2,⟨rfl,hn⟩,cZ.mono (λb hb=>⟨⟨⟨hb.2,λh=>absurd h (ax5.2 hb.1),λo x hx=>afg⟩,λ_=>hb.1⟩,rfl⟩) _ _ _ r3,trivial⟩,rfl,trivial⟩
 .cases hcon
end Go.Proofs.Tryz
namespace Go.Proofs.Tryz
open Go Go.Fw Go.IntWalk
set_option maxRecDepth 100000
theorem ahb{P Q:Prop}{b:Bool}(hb:b=true)(h:Q):bif !b then P else Q:=by rw[hb];exact h
end Go.Proofs.Tryz
namespace Go.Proofs.Tryz
open Go Go.Fw Go.IntWalk Sp
set_option maxRecDepth 100000
theorem WI:OK x9.e:=by
 refine PA.ok mixed (aC [pJ.e,(y7,.pure vJ),qo.e,Ew.e] ⟨Cj,⟨OQ,MR⟩,Dy,aeG,trivial⟩) H0 abu (show∀s,x9.goal (Je s) (s,())from ?_);intro s hin hp;dsimp only[x9]at hp ⊢;have hp:aG s:=hp;have hl:=aeE hp;dsimp only[Je];rw[show(1:Int).toNat=1 from rfl,show(0:Int).toNat=0 from rfl];have hcl:(qw s).length=(Sp.pieces 10 s).length-1:=by unfold qw;rw[avz];omega
 refine⟨abn,af (λh=>?_) λh=>?_⟩
 .have h:((qw s).length:Int)=0:=acG;unfold au;rw[avH abn];rfl
 have h:¬((qw s).length:Int)=0:=acG;have h2:2<=(Sp.pieces 10 s).length:=abn;have ei:List.drop 1 (List.take (qw s).length (qw s))=Sp.inner (Sp.pieces 10 s):=by rw[awE];rfl
 have e0:(qw s).getD 0 ([],())=(Sp.pieces 10 s).getD 0 ([],()):=by unfold qw;rw[avr,avr,awI abn]
 have hd:au s=bif (Sp.dec (Sp.inner (Sp.pieces 10 s))).2&&decide (Sp.slot (Sp.parseNum ((Sp.pieces 10 s).getD 0 ([],())).1) (Sp.dec (Sp.inner (Sp.pieces 10 s))).1=s)then(Sp.parseNum ((Sp.pieces 10 s).getD 0 ([],())).1,(Sp.dec (Sp.inner (Sp.pieces 10 s))).1,true)else(0,bZ,false):=by unfold au;rw[avD h2];rfl
 rw[ei,e0,hd];refine⟨⟨abA,abn⟩,trivial,⟨abA,abn⟩,afQ hp,af (λg2=>?_) λg2=>⟨afR _,af (λg3=>?_) λg3=>?_⟩⟩
 .rw[iY g2];rfl
 .have g3:(Sp.slot (Sp.parseNum ((Sp.pieces 10 s).getD 0 ([],())).1) (Sp.dec (Sp.inner (Sp.pieces 10 s))).1==s)=false:=iY g3;rw[avH (avp.1 g3),awO];rfl
 .have g3:(Sp.slot (Sp.parseNum ((Sp.pieces 10 s).getD 0 ([],())).1) (Sp.dec (Sp.inner (Sp.pieces 10 s))).1==s)=true:=fG g3;rw[avD (avS.1 g3),fG g2];rfl
theorem JF:OK um.e:=by
 refine PA.ok mixed (aC [x9.e] ⟨WI,trivial⟩) H0 abu (show∀d0 d1,um.goal (YD d0 d1) ((d0,d1,()),())from ?_);intro a b hin hp;dsimp only[um]at hp ⊢;obtain⟨ha,hb⟩:aG a/\aG b:=hp;refine⟨ha,hb,?_⟩;dsimp only;rw[← ajP];generalize au a=u;generalize au b=v;obtain⟨n,x,ok⟩:=u;obtain⟨m,y,ok'⟩:=v;dsimp only;cases ok with
 |false=>rfl
 |true=>
  cases ok' with
  |false=>rfl
  |true=>cases hge:decide (n>=m)<;>rfl
theorem D9:OK oq.e:=by refine PA.ok mixed (aC [um.e] ⟨JF,trivial⟩) H0 abu (show∀d0 d1,oq.goal (OT d0 d1) ((d0,d1,()),())from ?_);intro a b hin hp;dsimp only[oq]at hp ⊢;exact⟨hp,rfl⟩
theorem ap8(k:Int)(t:List UInt8):(max 0 (min k (t.length:Int))==(t.length:Int))=(t.take (Sp.kept k t.length)==t):=by
 have e:max 0 (min k (t.length:Int))=((Sp.kept k t.length:Nat):Int):=by unfold Sp.kept;omega
 have hle:=ap9 k t.length;rw[e];by_cases h:Sp.kept k t.length=t.length
 .rw[h,awE,awF,awF]
 .rw[avp.2 abn,avp.2 (λe2=>h (by have:=congrArg List.length e2;rw[avz]at this;omega))]
theorem JG:OK uo.e:=by
 refine PA.ok mixed (aC [FQ.e,pJ.e,um.e] ⟨agJ,Cj,JF,trivial⟩) aaM abu (show∀d0 d1 x0 x1 x2 x3 keep,uo.goal (YE d0 d1 x0 x1 x2 x3 keep) ((d0,d1,()),(x0,x1,x2,x3,()),keep,())from ?_);intro a b x0 x1 x2 x3 k hin hp;dsimp only[uo]at hp ⊢;obtain⟨ha,hb,hx⟩:aG a/\aG b/\bP (x0,x1,x2,x3,()):=hp;have hn:=J8 a b;refine⟨⟨ha,hb⟩,hx,?_⟩;dsimp only;unfold dZ dK;rw[wrap_in (show -1000000000000<=(Sp.latest a b).1+1/\(Sp.latest a b).1+1<=1000000000000 from abn)];rw[show∀l:List UInt8,List.drop 0 l=l fromλ_=>rfl,show∀n:Nat,(max 0 (min k (n:Int))).toNat=Sp.kept k n fromλ_=>rfl,ap8];generalize Sp.slot ((Sp.latest a b).1+1) (x0,x1,x2,x3,())=t;refine af (λg=>by rw[g];rfl) λg=>?_;rw[g];refine⟨abn,af (λg2=>⟨⟨abn,abn⟩,?_⟩) λg2=>⟨⟨abn,abn⟩,?_⟩⟩
 .rw[g2];rfl
 .rw[g2];rfl
theorem aaN:OK BF.e:=by refine PA.ok mixed (aC [pJ.e,oq.e] ⟨Cj,D9,trivial⟩) H0 abu (show∀d0 d1 x0 x1 x2 x3,BF.goal (aaO d0 d1 x0 x1 x2 x3) ((d0,d1,()),(x0,x1,x2,x3,()),())from ?_);intro a b x0 x1 x2 x3 hin hp;dsimp only[BF]at hp ⊢;obtain⟨ha,hb,hx⟩:aG a/\aG b/\bP (x0,x1,x2,x3,()):=hp;have hn:=J8 a b;refine⟨⟨ha,hb⟩,hx,?_⟩;dsimp only;rw[wrap_in (show -1000000000000<=(Sp.latest a b).1+1/\(Sp.latest a b).1+1<=1000000000000 from abn)];rfl
end Go.Proofs.Tryz
namespace Go.Proofs.Tryz
open Go Go.Fw Go.IntWalk
set_option maxRecDepth 100000
theorem apv{P Q:Prop}{b:Bool}(hb:b=false)(h:Q):bif b then P else Q:=by rw[hb];exact h
theorem aiu(a:Int):(a !=a)=false:=acA
end Go.Proofs.Tryz
namespace Go.Proofs.Tryz
open Go Go.Fw Go.IntWalk Sp
set_option maxRecDepth 100000
theorem ank{s:List UInt8}(h:s∈([[],[49],[120,10],[49,10,110,101,120,116,32,49,10,53,46]]:List (List UInt8))):aG s:=by have key:∀s∈([[],[49],[120,10],[49,10,110,101,120,116,32,49,10,53,46]]:List (List UInt8)),(decide ((Sp.pieces 10 s).length<=100)&&(Sp.pieces 10 s).all λx=>decide (x.1.length<=1000))=true:=abA;have:=key s h;rw[avo,avC,avL]at this;exact⟨this.1,λx hx=>awQ (this.2 x hx)⟩
theorem acE:OK CV.e:=by
 refine XA.ok mixed (aC [iW.e,uo.e,nY.e,wz.e,dh.e] ⟨jM,JG,BI,LZ,dL,trivial⟩) aeH (λ_ _=>⟨((([],[],()),()),([],0,0,()),()),awk _,Fv,Fv⟩) abu (show∀c0 c1 c2,CV.goal (acF c0 c1 c2) ((c0,c1,c2,()),())from ?_);intro c0 c1 c2 hin hp;dsimp only[CV]at hp ⊢;have hp:0<=c1:=hp;refine⟨hp,λr0 h0=>?_⟩;obtain⟨h00,h01,h02,_⟩:=h0;have h02:=h02 abA;refine⟨λy=>0<=y.2.1.2.1/\ -1000<=y.1.1/\y.1.1<=4/\aG y.2.2.1.1/\aG y.2.2.1.2.1,λy=>y.1.1.toNat,⟨h00,by show -1000<=r0.1.1;omega,by show r0.1.1<=4;omega,Fv,Fv⟩,?_⟩;rintro y2 ⟨i1,i2,i3,i4,i5⟩;refine af (λg=>?_) λg=>?_
 .have g:y2.1.1>0:=fB g;refine⟨i1,λr3 h3=>⟨h3.1,λr4 h4=>?_⟩⟩;have h4:0<=r4.2.1.2.1:=by have:=Int.le_def.2 h4;omega
  have ew:IntKind.i64.wrap (y2.1.1-1)=y2.1.1-1:=wrap_in abn;rw[ew];refine af (λ_=>⟨h4,λr5 h5=>⟨⟨i4,i5,h3.2⟩,?_⟩⟩) λ_=>⟨⟨i4,i5,h3.2⟩,?_⟩
  .have f:=WJ (x:=r3.1.1) (k:=r5.1.1) i4 i5;exact⟨rfl,⟨h5.1,by show -1000<=y2.1.1-1;omega,by show y2.1.1-1<=4;omega,f.1,f.2⟩,by show(y2.1.1-1).toNat<y2.1.1.toNat;omega⟩
  .have f:=WJ (x:=r3.1.1) (k:=100000) i4 i5;exact⟨rfl,⟨h4,by show -1000<=y2.1.1-1;omega,by show y2.1.1-1<=4;omega,f.1,f.2⟩,by show(y2.1.1-1).toNat<y2.1.1.toNat;omega⟩
 .refine⟨i1,λr12 h12=>af (λ_=>⟨h12.1,i5,i5⟩) λ_=>af (λ_=>af (λg2=>?_) λ_=>⟨h12.1,i4,i5⟩) λ_=>af (λ_=>⟨⟨h12.1,acA⟩,λr13 h13=>⟨h13.1,i4,?_⟩⟩) λ_=>⟨h12.1,i4,i5⟩⟩
  .have hl:=aeE i4;have hne:y2.2.2.1.1≠[]:=by intro e;rw[e]at g2;exact absurd g2 abA
   have hpos:=axT.2 hne;rw[wrap_in (show -1000000000000<=((y2.2.2.1.1.length:Nat):Int)-1/\((y2.2.2.1.1.length:Nat):Int)-1<=1000000000000 from abn)];exact⟨⟨abn,abn⟩,h12.1,afS i4 _,i5⟩
  .refine ank ?_;have h:=h13.2;obtain⟨⟨s,⟨⟩⟩,_⟩:=r13;have h:(s,())∈([([],()),([49],()),([120,10],()),([49,10,110,101,120,116,32,49,10,53,46],())]:Sp.LS):=h;have:=List.mem_map_of_mem (f:=λz:List UInt8×Unit=>z.1) h;exact this
theorem Fz:OK oW.e:=by refine XA.ok mixed (aC [kL.e,Ep.e,CV.e,Eg.e] ⟨qV,aeI,acE,aeg,trivial⟩) H0 (λ_ _=>⟨((([],[],()),(Sp.usual,[],1,[],()),0,()),()),Fv,Fv,Sr aiv⟩) abu (show∀code,oW.goal (Qm code) (code,())from ?_);intro code hin hp;dsimp only[oW]at hp ⊢;refine⟨hp,λr hr=>⟨by rw[hr];decide,λx hx=>⟨hx.1,λy hy=>⟨⟨hy.1,acA⟩,λz hz=>⟨hx.2.1,hx.2.2,hy.2⟩⟩⟩⟩⟩
theorem Sv:OK ve.e:=by refine XA.ok mixed (aC [oW.e] ⟨Fz,trivial⟩) UL (λ_ _=>⟨((([],[],()),(Sp.usual,[],1,[],()),()),()),Fv,Fv,Sr aiv⟩) abu (show∀code,ve.goal (Sz code) (code,())from ?_);intro code hin hp;dsimp only[ve]at hp ⊢;exact⟨hp,λr hr=>hr⟩
end Go.Proofs.Tryz
namespace Go.Proofs.Tryz
open Go Go.Fw Go.IntWalk Sp
set_option maxRecDepth 100000
theorem UM:OK BP.e:=by
 refine PA.ok mixed (aC [zO.e,jh.e,BF.e,BG.e,uZ.e,ve.e,oq.e,ru.e,uo.e,zQ.e,oW.e,JL.e] ⟨YF,xJ,aaN,aaJ,SA,Sv,D9,OJ,JG,YB,Fz,ajN,trivial⟩) WL abu (show∀code,BP.goal (UN code) (code,())from ?_);intro code hin hp;dsimp only[BP]at hp ⊢;refine⟨trivial,af (λ_=>rfl) λhc=>?_⟩;have hc:=fO hc;refine⟨abn,λr1 h1=>?_⟩;obtain⟨⟨⟨a,b,⟨⟩⟩,x,k,⟨⟩⟩,⟨⟩⟩:=r1;obtain⟨ha,hb,hx⟩:aG a/\aG b/\bP x:=h1;have hln:=J8 a b;refine⟨⟨ha,hb,hx⟩,⟨ha,hb,hx⟩,⟨ha,hb⟩,⟨ha,hb⟩,abn,λzA h20=>?_⟩;have hf:=WJ (x:=x) (k:=k) ha hb;have ht:=@alQ a b x k;have hw:=@aiw a b x k;have hne:=@aoz x;dsimp only at hx h20 ⊢;generalize dZ a b x k=W at hf ht hw ⊢;obtain⟨⟨u,v,⟨⟩⟩,ok,⟨⟩⟩:=W;dsimp only at hf ht hw ⊢;generalize Sp.latest a b=L at hln ht hw ⊢;obtain⟨n,⟨f0,f1,f2,f3,⟨⟩⟩,lo,lw⟩:=L;have hsm:bP (Sp.latest u v).2.1:=by
  unfold Sp.latest;cases (au v).2.2&&(!(au u).2.2||decide ((au u).1<(au v).1))with
  |true=>exact Uw v
  |false=>exact Uw u
 generalize Sp.latest u v=M at ht hw hsm ⊢;obtain⟨m,⟨g0,g1,g2,g3,⟨⟩⟩,mo,mw⟩:=M;dsimp only at hln ht hw hsm ⊢;refine⟨λ_=>True,ahb (by rw[awF,awF];rfl) (ahb (awF _) (apv (aiu _) (ahb (awF _) ⟨trivial,ahb (avD rfl) ⟨h20,h20,apv (aiu _) ⟨rfl,trivial⟩⟩⟩))),λ_ _=>⟨hf,?_⟩⟩;cases ok with
 |false=>
  obtain⟨t1,t2,t3⟩:=ht rfl;rw[t1,t3,awF,awF];refine⟨trivial,?_⟩;rw[avD t2]
 |true=>obtain⟨hok,he⟩:=hw rfl;have e0:=congrArg Prod.fst he;have e1:=congrArg (λz:Int×aV×Bool×Bool=>z.2.1) he;have e2:=congrArg (λz:Int×aV×Bool×Bool=>z.2.2.1) he;dsimp only at e0 e1 e2;rw[e2,e0,wrap_in (show -1000000000000<=n+1/\n+1<=1000000000000 from abn),awF];refine⟨hsm,hx,trivial,?_⟩;rw[e1,hne hok,avD rfl]
end Go.Proofs.Tryz

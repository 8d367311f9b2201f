import Derived.Test.YtncbcelpbmlgdaaGreatDoorP98
import Derived.StillTailTactics
namespace Go.Proofs.Tryz
open Go Go.Fw Go.RowKit Sp
set_option maxRecDepth 100000
theorem an3{B:Nat}{w:World}{va vl vd:Value}{x:aZ}{F:Nat->Prop}(h:Sn B w va vl vd x F)(hx:fB x)(hG:G.ok w):Calls prog 29 #[uI va vl vd x.2.2.1] w λe w'=>e=.returned (.bool (bT x))/\Below w.heap.size w w':=by have hc:fG prog G 29 (iw gX.sh gX.bI gX.F):=qw.1;refine(hc [ah8 x] (fB x) ⟨[(false,[.plain (.bool (bT x))])],none⟩ 0 (λ_=>True) #[uI va vl vd x.2.2.1] w rfl hx hG ⟨acB h,trivial⟩).mono ?_;rintro e w' ⟨v,vals,rfl,h1,h2,h3,h4,h5,h6,_,_⟩;have h6:v=.bool (bT x):=h6;exact⟨by rw[h6],h1,h2,h3,h4,h5⟩
theorem an4{B:Nat}{w:World}{va vl vd:Value}{x:aZ}{F:Nat->Prop}(h:Sn B w va vl vd x F)(hx:fB x)(hG:G.ok w):Calls prog 22 #[uI va vl vd x.2.2.1] w λe w'=>∃v,e=.returned v/\FW w'.heap.size w' v (Sp.enc x)/\Below w.heap.size w w':=by have hc:fG prog G 22 (iw jH.sh jH.bI jH.F):=Ee.1;refine(hc [ah8 x] (fB x) _ 0 (λ_=>True) #[uI va vl vd x.2.2.1] w rfl hx hG ⟨acB h,trivial⟩).mono ?_;rintro e w' ⟨v,vals,rfl,h1,h2,h3,h4,h5,h6,_,_⟩;have h6:dh w'.heap _ (.sl aU dK) v (Sp.enc x):=h6;exact⟨v,rfl,dh.mono (λb hb=>⟨hb.1.1,rfl⟩) _ _ _ h6,h1,h2,h3,h4,h5⟩
theorem aj6{w:World}{u v:Value}{a b:Sp.LS}(ha:FW w.heap.size w u a)(hb:FW w.heap.size w v b)(hG:G.ok w):Calls prog 65 #[u,v] w λe w'=>e=.returned (.bool (decide (a=b)))/\Below w.heap.size w w':=by have hc:fG prog G 65 (iw sF.sh sF.bI sF.F):=aaO.1;refine(hc [.sv (.one (.sl aU dK a false)),.sv (.one (.sl aU dK b false))] True ⟨[(false,[.plain (.bool (decide (a=b)))])],none⟩ 0 (λ_=>True) #[u,v] w rfl trivial hG ⟨xQ ha,xQ hb,trivial⟩).mono ?_;rintro e w' ⟨v,vals,rfl,h1,h2,h3,h4,h5,h6,_,_⟩;have h6:v=.bool (decide (a=b)):=h6;exact⟨by rw[h6],h1,h2,h3,h4,h5⟩
theorem an5(B:Nat)(W:World)(va vl vd:Value)(x:aZ)(F:Nat->Prop)(line:List UInt8)(hl:line.length<=1048576)(hG:G.ok W)(hS:Sn B W va vl vd x F)(hB:B<=W.heap.size)(hz:UY 200 x):
 Calls prog 64 #[uI va vl vd x.2.2.1,.string ⟨line.toArray⟩] W λe w'=>Back B W w' e (Aw x (bf line)):=by
 unfold Aw;by_cases h1:Sp.wordAt (bf line) 0=gV
 .rw[h1,avO];by_cases h2:Sp.wordAt (bf line) 2=Gt
  .have:=agk B W va vl vd x F line hl hG hS hB h1 h2 hz.1;rw[h2,avO];exact this
  .have:=agl B W va vl vd x F line hl hG hS hB h1 h2 hz.1;rw[auP.2 h2];exact this
 rw[auP.2 h1];by_cases h2:Sp.wordAt (bf line) 0=qA
 .have:=anV B W va vl vd x F line hl hG hS hB h2;rw[h2,avO];exact this
 rw[auP.2 h2];by_cases h3:Sp.wordAt (bf line) 0=jX
 .have:=anZ B W va vl vd x F line hl hG hS hB h3 hz.2.1;rw[h3,avO];exact this
 rw[auP.2 h3];by_cases h4:Sp.wordAt (bf line) 0=jw
 .rw[h4,avO];by_cases h5:2<(bf line).length
  .have:=ah4 B W va vl vd x F line hl hG hS hB h4 h5 hz.2.2.2.1;rw[au2 (show(2:Int)<((bf line).length:Int) by omega)];exact this
  .have:=agm B W va vl vd x F line hl hG hS hB h4 (by omega) hz.2.2.2.1;rw[au6 (show ¬(2:Int)<((bf line).length:Int) by omega)];exact this
 rw[auP.2 h4];exact anU B W va vl vd x F line hl hG hS hB h1 h2 h3 h4
theorem an6{ls:Sp.LS}(k:(bT (jf cZ ls)&&decide (Sp.enc (jf cZ ls)=ls))=false):Sp.dec ls=(cZ,false):=by unfold Sp.dec;rw[k];rfl
theorem amN{ls:Sp.LS}(k1:bT (jf cZ ls)=true)(k2:decide (Sp.enc (jf cZ ls)=ls)=true):Sp.dec ls=(jf cZ ls,true):=by unfold Sp.dec;rw[k1,k2];rfl
theorem Kp.weak{B P:Nat}{W w:World}(h:Kp B B W w)(hP:P<B):Kp B P W w:=⟨h.os,h.tape,h.output,h.size,λb hb _=>h.block b hb (by omega)⟩
set_option maxHeartbeats 16000000 in
theorem an7(ls:Sp.LS)(v:Value)(W:World)(hv:FW W.heap.size W v ls)(hfit:qH ls)(hG:G.ok W):Calls prog 17 #[v] W λe w'=>Gives W w' e (Sp.dec ls).1 (Sp.dec ls).2:=by
 have mixed:=Tryz.mixed;obtain⟨arJ,hlx⟩:=hfit;obtain⟨al,cl,rfl⟩:=lV hv;have hbase:=below2 W (Obj.cells yN 33 (0,0)) (Obj.cells yN 33 (0,0));have hsize:=aaK W (Obj.cells yN 33 (0,0)) (Obj.cells yN 33 (0,0));have hN0:=box1 W (Obj.cells yN 33 (0,0)) (Obj.cells yN 33 (0,0))
 go_enter Tryz.func17,Tryz.ntmps17
 go_wp2
 go_loopw [5] (λi wr=>∃n:Nat,n<=ls.length/\i=.int .i64 n/\UY n (jf cZ (ls.take n))/\Held (W.heap.size+2) (W.heap.size+1) wr (jf cZ (ls.take n))/\Kp (W.heap.size+2) (W.heap.size+1) ((W.alloc (Obj.cells yN 33 (0,0))).alloc (Obj.cells yN 33 (0,0))) wr)
  (λi _=>ls.length-(intOf i).toNat)
 case atStart=>exact⟨0,avc _,rfl,ahZ,⟨_,_,_,_,anN W _ _,Sn.zero _ _⟩,rfl,rfl,rfl,auT _,λ_ _ _=>rfl⟩
 case round=>
  obtain⟨n,hn,rfl,hsz,hH,hK⟩:=hrel;have hlow:=hK.low (by omega) hbase;have hGr:G.ok wr:=bG hG hlow;have hwr:=hK.size;rw[hsize]at hwr;rcases avb n ls.length with hlt|hge
  .have hlt':((n:Nat):Int)<ls.length:=by omega
   obtain⟨bl,off,rfl,hbl,hcl⟩:=hv.cell hlt;have hcl:=(awr (a:=⟨bl,off+n,none⟩) (hlow.block bl hbl)).trans hcl;have hLl:=hlx _ (getD_in (d:=([],())) hlt);have hnext:=amO hlt;have SY:UY (n+1) (Aw (jf cZ (ls.take n)) (bf (ls.getD n ([],())).1)):=amP hsz (auU qY.1 (by decide)) λy hy=>auU (qY.2 y hy) (by decide);generalize (ls.getD n ([],())).1=L at hcl hLl hnext SY;obtain⟨va,vl,vd,F,hP,xP⟩:=hH;have hPl:=(auV.1 hP).1;have rr:=λw(hs:Sn (W.heap.size+2) w va vl vd _ F)(hG:G.ok w)(hB:W.heap.size+2<=w.heap.size)=>an5 (W.heap.size+2) w va vl vd _ F L (by omega) hG hs hB ⟨auU hsz.1 (by omega),auU hsz.2.1 (by omega),hsz.2.2.1,auU hsz.2.2.2.1 (by omega),hsz.2.2.2.2⟩;generalize hxx:jf cZ (ls.take n)=x at hP xP rr hnext SY;generalize Aw x (bf L)=x' at rr hnext SY;unfold uI at rr;obtain⟨⟨d0,d1,d2,d3⟩,z0,z1,z2,z3⟩:=four hP;clear hsz hxx
   go_wp2
   go_still_tail 5,(by kernel_rfl)
   change wpList _ _ _ _ _ wr.drew;have hdw:Below wr.heap.size wr wr.drew:=(Below.refl _ wr).drew;generalize wr.drew=w2 at hdw ⊢;have hsd:=hdw.size
   go_wp2_with (first
    |(go_at_call 64;refine avk (rr w2 (xP.below hdw) (bG hGr hdw) (by omega)) ?_;rintro e w' ⟨va',vl',vd',F',rfl,hS',hK'⟩;obtain⟨aa,ca,rfl⟩:=hS'.fa.form;obtain⟨ab,cb,rfl⟩:=hS'.fl.form;obtain⟨ad,cd,rfl⟩:=hS'.fd.form;unfold uI;have hP':=(hK'.block (W.heap.size+1) (by omega) (by omega)).trans ((hdw.block _ hPl).trans hP);clear d0 d1 d2 d3 z0 z1 z2 z3;obtain⟨⟨d0,d1,d2,d3⟩,z0,z1,z2,z3⟩:=four hP'))
   have r9:=vG (y0:=.slice aa x'.1.length ca) (y1:=.slice ab x'.2.1.length cb) (y2:=.int .i64 x'.2.2.1) (y3:=.slice ad x'.2.2.2.1.length cd) hP';have s9:=ael (g:=W.heap.size+1) (y0:=.slice aa x'.1.length ca) (y1:=.slice ab x'.2.1.length cb) (y2:=.int .i64 x'.2.2.1) (y3:=.slice ad x'.2.2.2.1.length cd) hS' (by omega);have k9:=((((Kp.trans hK (((Kp.of (P:=W.heap.size+1) hwr hdw).trans (hK'.weak (by omega))))).set (k:=0) (v:=.slice aa x'.1.length ca)).set (k:=1) (v:=.slice ab x'.2.1.length cb)).set (k:=2) (v:=.int .i64 x'.2.2.1)).set (k:=3) (v:=.slice ad x'.2.2.2.1.length cd);unfold qJ at r9 s9;exact⟨⟨n+1,hlt,rfl,by rw[hnext];exact SY,by rw[hnext];exact⟨_,_,_,_,r9,s9⟩,k9⟩,by simp only[intOf];omega⟩
  .have hge':¬((n:Nat):Int)<ls.length:=by omega
   obtain rfl:n=ls.length:=by omega
   rw[av7]at hsz hH;have hsm:=afv hsz (by omega);obtain⟨va,vl,vd,F,hP,xP⟩:=hH;have hdb:=an6 (ls:=ls);have hdg:=amN (ls:=ls);generalize jf cZ ls=x at hsz hsm hP xP hdb hdg;have hPl:=(auV.1 hP).1;have hq:=(hK.block W.heap.size (by omega) (by omega)).trans hN0;have vs:=an3 xP hsm hGr;unfold uI at vs;obtain⟨⟨d0,d1,d2,d3⟩,z0,z1,z2,z3⟩:=four hP;cases hval:bT x with
   |false=>
    rw[hval]at vs hdb;have hd:=hdb rfl
    go_wp2_with (first
     |(go_at_call 29;refine avk vs ?_;rintro e w5 ⟨rfl,hb5⟩;have uq:=hlow.trans (hb5.mono hlow.size);have nR:=(hb5.block _ hPl).trans hP;have hq5:=(hb5.block W.heap.size (by omega)).trans hq;clear d0 d1 d2 d3 z0 z1 z2 z3;obtain⟨⟨d0,d1,d2,d3⟩,z0,z1,z2,z3⟩:=four hq5))
    all_goals (try simp only[Exit.inBlock,Exit.then])
    have r9:=vG (y0:=.slice none 0 0) (y1:=.slice none 0 0) (y2:=.int .i64 0) (y3:=.slice none 0 0) hq5;have Fz:=qX (y0:=.slice none 0 0) (y1:=.slice none 0 0) (y2:=.int .i64 0) (y3:=.slice none 0 0) uq (auT _);unfold qJ at r9 Fz;clear d0 d1 d2 d3 z0 z1 z2 z3;refine awd (v:=.tuple #[.agg #[.slice none 0 0,.slice none 0 0,.int .i64 0,.slice none 0 0],.bool false]) ?_ rfl (by rw[hd];exact Gq Fz);obtain⟨⟨d0,d1,d2,d3⟩,z0,z1,z2,z3⟩:=four r9;rw[awO rfl]
    go_simp
   |true=>
    rw[hval]at vs hdb;have es:=λw(hs:Sn (W.heap.size+2) w va vl vd x F) hG=>an4 hs hsm hG;unfold uI at es;cases heq:decide (Sp.enc x=ls)with
    |false=>
     rw[heq]at hdb;have hd:=hdb rfl
     go_wp2_with (first
      |(go_at_call 29;refine avk vs ?_;rintro e w5 ⟨rfl,hb5⟩;have uq:=hlow.trans (hb5.mono hlow.size);have nR:=(hb5.block _ hPl).trans hP;have hq5:=(hb5.block W.heap.size (by omega)).trans hq;clear d0 d1 d2 d3 z0 z1 z2 z3;obtain⟨⟨d0,d1,d2,d3⟩,z0,z1,z2,z3⟩:=four nR)
      |(go_at_call 22;refine avk (es w5 (xP.below hb5) (bG hG uq)) ?_;rintro e w6 ⟨v6,rfl,QK,hb6⟩;obtain⟨a6,c6,e6⟩:=lV QK;subst e6;have MQ:=hb5.trans (hb6.mono hb5.size);have uw:=uq.trans (hb6.mono uq.size))
      |(go_at_call 65;refine avk (aj6 QK (hv.keep' uw) (bG hG uw)) ?_;rintro e w7 ⟨rfl,hb7⟩;rw[heq];have MR:=MQ.trans (hb7.mono MQ.size);have S9:=uw.trans (hb7.mono uw.size);have hq7:=(MR.block W.heap.size (by omega)).trans hq;clear d0 d1 d2 d3 z0 z1 z2 z3;obtain⟨⟨d0,d1,d2,d3⟩,z0,z1,z2,z3⟩:=four hq7))
     all_goals (try simp only[Exit.inBlock,Exit.then])
     have r9:=vG (y0:=.slice none 0 0) (y1:=.slice none 0 0) (y2:=.int .i64 0) (y3:=.slice none 0 0) hq7;have Fz:=qX (y0:=.slice none 0 0) (y1:=.slice none 0 0) (y2:=.int .i64 0) (y3:=.slice none 0 0) S9 (auT _);unfold qJ at r9 Fz;clear d0 d1 d2 d3 z0 z1 z2 z3;refine awd (v:=.tuple #[.agg #[.slice none 0 0,.slice none 0 0,.int .i64 0,.slice none 0 0],.bool false]) ?_ rfl (by rw[hd];exact Gq Fz);obtain⟨⟨d0,d1,d2,d3⟩,z0,z1,z2,z3⟩:=four r9;rw[awO rfl]
     go_simp
    |true=>
     have hd:=hdg hval heq;obtain⟨aa,ca,rfl⟩:=xP.fa.form;obtain⟨ab,cb,rfl⟩:=xP.fl.form;obtain⟨ad,cd,rfl⟩:=xP.fd.form
     go_wp2_with (first
      |(go_at_call 29;refine avk vs ?_;rintro e w5 ⟨rfl,hb5⟩;have uq:=hlow.trans (hb5.mono hlow.size);have nR:=(hb5.block _ hPl).trans hP;have hq5:=(hb5.block W.heap.size (by omega)).trans hq;clear d0 d1 d2 d3 z0 z1 z2 z3;obtain⟨⟨d0,d1,d2,d3⟩,z0,z1,z2,z3⟩:=four nR)
      |(go_at_call 22;refine avk (es w5 (xP.below hb5) (bG hG uq)) ?_;rintro e w6 ⟨v6,rfl,QK,hb6⟩;obtain⟨a6,c6,e6⟩:=lV QK;subst e6;have MQ:=hb5.trans (hb6.mono hb5.size);have uw:=uq.trans (hb6.mono uq.size))
      |(go_at_call 65;refine avk (aj6 QK (hv.keep' uw) (bG hG uw)) ?_;rintro e w7 ⟨rfl,hb7⟩;rw[heq];have MR:=MQ.trans (hb7.mono MQ.size);have S9:=uw.trans (hb7.mono uw.size);have hq7:=(MR.block W.heap.size (by omega)).trans hq;have hP7:=(MR.block _ hPl).trans hP;have anQ:=xP.below MR;clear d0 d1 d2 d3 z0 z1 z2 z3;obtain⟨⟨d0,d1,d2,d3⟩,z0,z1,z2,z3⟩:=four hq7;obtain⟨⟨p0,p1,p2,p3⟩,y0,y1,y2,y3⟩:=four hP7))
     all_goals (try simp only[Exit.inBlock,Exit.then])
     have r9:=vG (y0:=.slice aa x.1.length ca) (y1:=.slice ab x.2.1.length cb) (y2:=.int .i64 x.2.2.1) (y3:=.slice ad x.2.2.2.1.length cd) hq7;have Fz:=qX (y0:=.slice aa x.1.length ca) (y1:=.slice ab x.2.1.length cb) (y2:=.int .i64 x.2.2.1) (y3:=.slice ad x.2.2.2.1.length cd) S9 (auT _);have hs9:=ael (y0:=.slice aa x.1.length ca) (y1:=.slice ab x.2.1.length cb) (y2:=.int .i64 x.2.2.1) (y3:=.slice ad x.2.2.2.1.length cd) anQ (show W.heap.size<W.heap.size+2 by omega);unfold qJ at r9 Fz hs9;clear d0 d1 d2 d3 z0 z1 z2 z3;refine awd (v:=.tuple #[.agg #[.slice aa x.1.length ca,.slice ab x.2.1.length cb,.int .i64 x.2.2.1,.slice ad x.2.2.2.1.length cd],.bool true]) ?_ rfl (by rw[hd];exact ah0 (by omega) Fz hs9);obtain⟨⟨d0,d1,d2,d3⟩,z0,z1,z2,z3⟩:=four r9;rw[awO rfl]
     go_simp
theorem Pg:fG prog G zC wG:=by
 intro args p out k S vs w hcon hp hG hrep;unfold wG iw xK at hcon;split at hcon
 .next x hx=>
  obtain⟨ls,⟨⟩⟩:=x;have hv:=D8 yt args _ vs.toList hx hrep
  match hvs:vs.toList,hv with
  |[v],hv=>
   have e1:dh w.heap _ (.sl aU dK) v ls:=hv.1;have e2:vs=#[v]:=by obtain⟨l⟩:=vs;simp at hvs;rw[hvs]
   subst e2;have hF:=Option.some.inj hcon;have hp1:p=qH ls:=(congrArg Prod.fst hF).symm;have hout:out=⟨[(true,[.plain (.sl aB bK (Sp.dec ls).1.1 true),.plain (.sl aP dI (Sp.dec ls).1.2.1 true),.plain (.int .i64 (Sp.dec ls).1.2.2.1),.plain (.sl aX dA (Sp.dec ls).1.2.2.2.1 true)]),(false,[.plain (.bool (Sp.dec ls).2)])],none⟩:=(congrArg Prod.snd hF).symm;subst hp1 hout;refine(an7 ls v w (dh.mono (λb hb=>⟨hb.1.1,rfl⟩) _ _ _ e1) hp hG).mono ?_;rintro e w' ⟨va,vl,vd,rfl,hb,hn,r1,r2,r3⟩;refine⟨_,λ_=>undef,rfl,hb.os,hb.tape,hb.output,hb.size,hb.block,?_,(λo x hx=>by cases hx),(λo x q y b hx=>by cases hx)⟩;exact⟨_,rfl,⟨_,rfl,dh.mono (λb hb=>⟨⟨⟨hb.2,λh=>absurd h (axt.2 hb.1),λo x hx=>by cases hx⟩,λ_=>hb.1⟩,rfl⟩) _ _ _ r1,dh.mono (λb hb=>⟨⟨⟨hb.2,λh=>absurd h (axt.2 hb.1),λo x hx=>by cases hx⟩,λ_=>hb.1⟩,rfl⟩) _ _ _ r2,⟨rfl,hn⟩,dh.mono (λb hb=>⟨⟨⟨hb.2,λh=>absurd h (axt.2 hb.1),λo x hx=>by cases hx⟩,λ_=>hb.1⟩,rfl⟩) _ _ _ r3,trivial⟩,rfl,trivial⟩
 .cases hcon
end Go.Proofs.Tryz
namespace Go.Proofs.Tryz
open Go Go.Fw Go.IntWalk Sp
set_option maxRecDepth 100000
theorem apy:Sp.dec []=(cZ,false):=by
 unfold Sp.dec;rw[show jf cZ []=cZ from rfl];cases h:bT cZ with
 |false=>rfl
 |true=>rw[au6 (show ¬Sp.enc cZ=[]fromλe=>by unfold Sp.enc at e;rw[h]at e;exact absurd e (by decide))];rfl
theorem apz{a:List aW}(h:FP a=true):a.length<=1048576/\(dP a).length<=1073741824:=by unfold FP at h;rw[auO]at h;have h1:=av2 h.1;have:=acC _ h.2;exact⟨by omega,by omega⟩
theorem Tn{P Q:Prop}{b:Bool}(hb:b=true)(h:Q):bif !b then P else Q:=by rw[hb];exact h
theorem Jb:OK sO.e:=by
 refine PA.ok mixed (aA [uU.e,gX.e,iO.e,oz.e,rJ.e,pW.e,tq.e,su.e,vW.e,Ag.e,jH.e,qU.e,sG.e,oN.e,(zC,.pure wG),oM.e,(zB,.pure wF),jG.e,oL.e,J6.e] ⟨JX,qw,wJ,BG,Hg,CV,Jc,Ph,Tq,YJ,Ee,ND,Pj,Jz,⟨Pg,Ny⟩,JA,⟨Pe,Nw⟩,Ef,JB,ajh,trivial⟩) JC (by kernel_rfl) (show∀code,sO.goal (Jd code) (code,())from ?_);intro code hin hp;dsimp only[sO]at hp ⊢;refine⟨trivial,af (λ_=>rfl) λhc=>?_⟩;have hc:=fV hc;refine⟨by omega,λr1 h1=>?_⟩;obtain⟨⟨x,⟨⟩⟩,⟨⟩⟩:=r1;have hx:fB x:=h1;have hs1:=afw (Sp.enc x);have hd:(Sp.dec (Sp.enc x)).2=bT x/\(bT x=true->Sp.dec (Sp.enc x)=(Sp.norm x,true)):=by
  cases h:bT x with
  |true=>rw[alk h];exact⟨rfl,λ_=>rfl⟩
  |false=>rw[Xd h,apy];exact⟨rfl,λe=>(by cases e)⟩
 have hn:=@an8 x;have hf:=@apA x;refine⟨hx,hf,by omega,λr7 h7=>?_⟩;obtain⟨⟨l,⟨⟩⟩,⟨⟩⟩:=r7;have hl:qH l:=h7;have hs2:=afw l;have hsm:=@ah9 l;refine⟨hl,hl,by omega,λZu _=>⟨by omega,λMS h19=>⟨by omega,λJe h20=>?_⟩⟩⟩;have h19:=apz h19;have h20:Je.1.1.1.length<=1048576:=auU h20 (by decide);dsimp only at hx hs1 hd hn hf hl hs2 hsm ⊢;generalize hE:Sp.enc x=E at hs1 hd hn hf ⊢;generalize Sp.dec E=D at hs1 hd ⊢;generalize Sp.dec l=D2 at hs2 hsm ⊢;obtain⟨⟨a,f,nx,d,⟨⟩⟩,b⟩:=D;obtain⟨⟨a2,f2,Zv,d2,⟨⟩⟩,b2⟩:=D2;dsimp only at hs1 hd hs2 hsm ⊢;refine⟨λ_=>True,⟨hx,trivial,Tn (au2 rfl) (Tn (avO _) ⟨trivial,Tn (au2 rfl) ⟨trivial,trivial,Tn (avO _) ⟨h19,h19,Tn (avO _) ⟨h20,h20,Tn (avO _) ⟨hx,hx,Tn (avO _) ⟨rfl,trivial⟩⟩⟩⟩⟩⟩)⟩,λ_ _=>⟨hx,?_⟩⟩;obtain⟨hd1,hd2⟩:=hd;have hlast:(bif !b2 then True else fB (a2,f2,Zv,d2,())/\True/\decide (Sp.enc (a2,f2,Zv,d2,())=l)=true):=by
  cases b2 with
  |false=>trivial
  |true=>exact⟨hs2,trivial,au2 (hsm rfl).2.1⟩
 rw[hd1,avO];cases hok:bT x with
 |false=>
  cases b2 with
  |false=>rfl
  |true=>exact⟨hlast.1,trivial,by rw[hlast.2.2]⟩
 |true=>
  have hd2:=congrArg Prod.fst (hd2 hok);dsimp only at hd2;have e1:(a,f,nx,d,())=Sp.norm x:=hd2;have e2:Sp.enc (a,f,nx,d,())=E:=by rw[e1,hn hok]
  have e3:((a,f,nx,()):dZ)=(x.1,x.2.1,x.2.2.1,()):=by have:=congrArg (λz:aZ=>((z.1,z.2.1,z.2.2.1,()):dZ)) e1;exact this
  refine⟨trivial,?_⟩;rw[au2 e3];refine⟨hs1,trivial,?_⟩;rw[au2 e2];cases b2 with
  |false=>rfl
  |true=>exact⟨hlast.1,trivial,by rw[hlast.2.2]⟩
end Go.Proofs.Tryz

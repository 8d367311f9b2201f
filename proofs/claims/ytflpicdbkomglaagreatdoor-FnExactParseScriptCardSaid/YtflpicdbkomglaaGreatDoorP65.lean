import Derived.Test.YtflpicdbkomglaaGreatDoorP62
import Derived.Test.YtflpicdbkomglaaGreatDoorSp
import Derived.Test.YtflpicdbkomglaaGreatDoorV23
import Derived.Test.YtflpicdbkomglaaGreatDoorFwC
namespace Go.Proofs.Tryz
open Go Go.Fw Go.RowKit Sp
theorem adN(s:List UInt8)(hs:s.length<=1048576)(w:World)(hG:G.ok w):Calls prog 66 #[.string ⟨s.toArray⟩] w λe w'=>
 ∃v,e=.returned (.tuple #[v,.bool (bZ s)])/\FW w'.heap.size w' v (ai s)/\Below w.heap.size w w':=by
 have hc:gW prog G 66 (iM iW.sh iW.bU iW.F):=yw.1;refine(hc [.sv (.one (.str s))] (s.length<=1048576) _ 0 (λ_=>True) #[.string ⟨s.toArray⟩] w rfl hs hG ⟨⟨rfl,by rw[maxLen_eq];omega⟩,trivial⟩).mono ?_;rintro e w' ⟨v,vals,rfl,h1,h2,h3,h4,h5,h6,_,_⟩;obtain⟨vs,rfl,h7⟩:=h6;obtain⟨l⟩:=vs
 match l,h7 with
 |[a,b],h7=>
  obtain⟨ha,hb,_⟩:=h7;have hb:b=.bool (bZ s):=hb;have ha:bW w'.heap _ (.sl eF gm) a (ai s):=ha;refine⟨a,by rw[hb],⟨ha.1,?_⟩,h1,h2,h3,h4,h5⟩;rcases ha.2 with h|⟨b,off,cap,cs,t,fz,e1,e2,e3,e4,e5⟩
  .exact .inl h
  .exact .inr ⟨b,off,cap,cs,t,fz,e1,e2,e3.1.1,e4,λi x hx=>aU.flat (S:=_) _ _ _ rfl (e5 i x hx)⟩
theorem ZA{B P:Nat}{w:World}{v:Value}{q:List aC}(h:NW B P w v q)(hl:q.length<=1000)(S:Nat->Prop)(hS:∀b,B<=b->b<w.heap.size->S b):bW w.heap S (.sl 125 bY) v q:=by
 obtain⟨xs,h1,_,h3⟩:=h;refine⟨by rw[maxLen_eq];omega,?_⟩;rcases h1.2 with⟨e,e2⟩|⟨g,cap,cur,e,e2,e3,e4,e5,e6,e7⟩
 .exact .inl ⟨anV.1 e2,none,0,by rw[e]⟩
 .refine .inr ⟨g,0,cap,cur,125,(0,0),e,e4,hS g e2 (anq.1 e3).1,e3,λi x hx=>?_⟩;have hi:=(anv.1 hx).1;have:=h3 i x hx;rw[← e7,aqe,apU,apE (by omega)]at this;rw[anR];exact aU.flat (S:=λ_=>False) _ _ _ rfl this
theorem adO{B P:Nat}(v:Value)(q:List aC)(hq:q.length<=1000)(w:World)(hn:NW B P w v q)(hG:G.ok w):Calls prog 51 #[v] w λe w'=>e=.returned (.bool (aH q))/\Below w.heap.size w w':=by have hc:gW prog G 51 (iM iJ.sh iJ.bU iJ.F):=wZ.1;refine(hc [.sv (.one (.sl 125 bY q false))] (q.length<=2000000) _ 0 (λ_=>True) #[v] w rfl (by omega) hG ⟨ZA hn hq _ λb _ hb=>⟨⟨hb,λ_=>trivial,λo x hx=>by cases hx⟩,λh=>by cases h⟩,trivial⟩).mono ?_;rintro e w' ⟨v,vals,rfl,h1,h2,h3,h4,h5,h6,_,_⟩;have h6:v=.bool (aH q):=h6;exact⟨by rw[h6],h1,h2,h3,h4,h5⟩
theorem FW.form{B:Nat}{w:World}{v:Value}{f:Sp.LS}(h:FW B w v f):∃a cap,v=.slice a f.length cap:=by
 rcases h.2 with⟨rfl,a,c,e⟩|⟨b,off,cap,cs,t,fz,e,_⟩
 .exact⟨a,c,e⟩
 .exact⟨_,_,e⟩
theorem GK{w w1:World}{o:Obj}{f:Sp.LS}{q:List aC}{w2:World}(hb1:Below w.heap.size w w1)(hd:Done w1.heap.size w1.heap.size (w1.alloc o) none f q w2):Below w.heap.size w w2:=by
 obtain⟨_,_,_,_,_,h,_⟩:=hd;have hs:(w1.alloc o).heap.size=w1.heap.size+1:=by simp
 exact⟨h.os.trans hb1.os,h.tape.trans hb1.tape,h.output.trans hb1.output,by have:=h.size;have:=hb1.size;omega,λb hb=>(h.block b (by have:=hb1.size;omega) (by have:=hb1.size;omega) (λe=>by cases e)).trans ((heap_alloc_old w1 o (by have:=hb1.size;omega)).trans (hb1.block b hb))⟩
theorem Xm(B P:Nat)(w:World):NW B P w (.slice none 0 0) []/\([]:List aC).length<=1000:=⟨⟨[],aoE w B 125 7,(λe=>by cases e),λi x hx=>by simp at hx⟩,ant _⟩
theorem NW.base{B P B' P':Nat}{w:World}{v:Value}{q:List aC}(h:NW B P w v q)(hB:B'<=B)(hP:w.heap.size<=P'):NW B' P' w v q:=by have hl:=λg hg=>h.lt (g:=g) hg;obtain⟨xs,⟨h1,h2⟩,_,h3⟩:=h;refine⟨xs,⟨h1,h2.imp id λ⟨g,cap,cur,e,e2,e3⟩=>⟨g,cap,cur,e,anx hB e2,e3⟩⟩,λe=>?_,h3⟩;have:=(hl P' e).2.1;omega
set_option maxHeartbeats 16000000 in
set_option maxRecDepth 100000 in
theorem Xn(s:List UInt8)(hs:s.length<=1048576)(w:World)(hG:G.ok w):Calls prog 70 #[.string ⟨s.toArray⟩] w λe w'=>
 ∃v,e=.returned (.tuple #[v,.bool (fH s)])/\Below w.heap.size w w'/\NW w.heap.size w'.heap.size w' v (eH s)/\(eH s).length<=1000:=by
 have mixed:=Tryz.mixed;have sf:=adN s hs w hG;cases hok:bZ s with
 |false=>
  have e1:fH s=false:=by unfold fH;rw[hok];rfl
  have e2:eH s=[]:=by unfold eH;rw[e1];rfl
  rw[hok]at sf;rw[e1,e2];clear e1 e2 hok
  go_enter Tryz.func70,Tryz.ntmps70
  go_wp2_with (first
   |(go_at_call 66;refine sf.mono ?_;rintro e w1 ⟨v,rfl,-,hb1⟩))
  all_goals go_ret2
  all_goals exact⟨_,rfl,hb1,Xm _ _ _⟩
 |true=>
  have hpq:Hid (fH s=((uD (Sp.wordsOf s)).1&&(!decide (((uD (Sp.wordsOf s)).2.1.length:Int)>0)&&aH (uD (Sp.wordsOf s)).2.2))):=by show _=_;unfold fH;rw[hok,anQ]
  have hpl:Hid (eH s=bif fH s then(uD (Sp.wordsOf s)).2.2 else[]):=rfl;obtain⟨hw,hl,_⟩:=ku hok;have hws:∀x∈Sp.wordsOf s,x.1.length<=1000:=λx hx=>anx (Eo x hx) (anx (mV.1 hok).1 (by decide));have Vx:(Sp.wordsOf s).length<=24:=by rw[nH];have:=(mV.1 hok).2.2;omega
  rw[hok,hw]at sf;clear hok hw;generalize fH s=pq at hpq hpl ⊢;generalize eH s=pl at hpl ⊢;generalize Sp.wordsOf s=f at sf hpq hpl hl hws Vx;have hcnt:=uN (f.length+1) f [];unfold uD at hpq hpl;generalize hz:Sp.rd (f.length+1) f []=z at hpq hpl hcnt;obtain⟨b1,f2,q2⟩:=z;dsimp only at hpq hpl hcnt;have hz:Hid (Sp.rd (f.length+1) f []=(b1,f2,q2)):=hz;have n8:=G.low w hG;have nd:∀(W:World)(vf:Value)(P:Nat),w.heap.size<=P->G.ok W->W.heap[P]? =some (.cells #[vf,.slice none 0 0] 150 (0,0))->FW P W vf f->Calls prog 133 #[.pointer (some ⟨P,0,none⟩)] W λe w'=>e=.returned (.bool b1)/\Done P P W none f2 q2 w':=λW vf P hP hG2 hc hf=>by have:=Zy (f.length+1) P P W vf (.slice none 0 0) f [] (ao8 _) (anx n8 hP) (anr _) hG2 hc hf ⟨[],aoE W P 125 7,(λe=>by cases e),λi x hx=>by simp at hx⟩ hws (by rw[anw];omega);rw[hz.out]at this;exact this
  go_enter Tryz.func70,Tryz.ntmps70
  cases b1 with
  |false=>
   go_wp2_with (first
    |(go_at_call 66;refine sf.mono ?_;rintro e w1 ⟨v,rfl,hf1,hb1⟩;obtain⟨a1,c1,hv1⟩:=hf1.form;subst hv1;clear sf)
    |(go_at_call 133;refine(nd _ (.slice a1 f.length c1) w1.heap.size hb1.size (dh (dh hG hb1) ((Below.refl _ _).alloc (anr _) _)) (aof w1 _) (hf1.keep λb hb=>heap_alloc_old w1 _ hb)).mono ?_;rintro e w2 ⟨rfl,hd⟩))
   all_goals go_ret2
   all_goals exact⟨_,by rw[show pq=false from hpq.out];rfl,GK hb1 hd,by rw[show pl=[] by rw[hpl.out,hpq.out];rfl];exact Xm _ _ _⟩
  |true=>
   rcases aqi f2.length with h0|h0
   .obtain rfl:f2=[]:=anV.1 h0;clear h0;cases hq:aH q2 with
    |false=>
     go_wp2_with (first
      |(go_at_call 66;refine sf.mono ?_;rintro e w1 ⟨v,rfl,hf1,hb1⟩;obtain⟨a1,c1,hv1⟩:=hf1.form;subst hv1;clear sf)
      |(go_at_call 133;refine(nd _ (.slice a1 f.length c1) w1.heap.size hb1.size (dh (dh hG hb1) ((Below.refl _ _).alloc (anr _) _)) (aof w1 _) (hf1.keep λb hb=>heap_alloc_old w1 _ hb)).mono ?_;rintro e w2 ⟨rfl,hd⟩;obtain⟨JH,vn2,hc2,hf2,hn2,hst2⟩:=id hd;obtain⟨a2,c2,hv2⟩:=hf2.form;obtain⟨a3,c3,hv3⟩:=hn2.form;subst hv2 hv3;have p0:w2.cell? ⟨w1.heap.size,0,none⟩=some (.slice a2 0 c2):=aA hc2 0;have p1:w2.cell? ⟨w1.heap.size,1,none⟩=some (.slice a3 q2.length c3):=aA hc2 1;have hdb:=GK hb1 hd)
      |(go_at_call 51;refine(adO (.slice a3 q2.length c3) q2 (by omega) w2 hn2 (dh hG hdb)).mono ?_;rintro e w3 ⟨rfl,hb3⟩;rw[hq]))
     all_goals go_ret2
     all_goals exact⟨_,by rw[show pq=false by rw[hpq.out,hq];rfl];rfl,hdb.trans (hb3.mono hdb.size),by rw[show pl=[] by rw[hpl.out,hpq.out,hq];rfl];exact Xm _ _ _⟩
    |true=>
     go_wp2_with (first
      |(go_at_call 66;refine sf.mono ?_;rintro e w1 ⟨v,rfl,hf1,hb1⟩;obtain⟨a1,c1,hv1⟩:=hf1.form;subst hv1;clear sf)
      |(go_at_call 133;refine(nd _ (.slice a1 f.length c1) w1.heap.size hb1.size (dh (dh hG hb1) ((Below.refl _ _).alloc (anr _) _)) (aof w1 _) (hf1.keep λb hb=>heap_alloc_old w1 _ hb)).mono ?_;rintro e w2 ⟨rfl,hd⟩;obtain⟨JH,vn2,hc2,hf2,hn2,hst2⟩:=id hd;obtain⟨a2,c2,hv2⟩:=hf2.form;obtain⟨a3,c3,hv3⟩:=hn2.form;subst hv2 hv3;have p0:w2.cell? ⟨w1.heap.size,0,none⟩=some (.slice a2 0 c2):=aA hc2 0;have p1:w2.cell? ⟨w1.heap.size,1,none⟩=some (.slice a3 q2.length c3):=aA hc2 1;have hdb:=GK hb1 hd)
      |(go_at_call 51;refine(adO (.slice a3 q2.length c3) q2 (by omega) w2 hn2 (dh hG hdb)).mono ?_;rintro e w3 ⟨rfl,hb3⟩;rw[hq];have p3:w3.cell? ⟨w1.heap.size,1,none⟩=some (.slice a3 q2.length c3):=aA ((hb3.block _ (anq.1 hc2).1).trans hc2) 1))
     all_goals go_ret2
     all_goals refine⟨_,by rw[show pq=true by rw[hpq.out,hq];rfl];rfl,hdb.trans (hb3.mono hdb.size),?_⟩
     all_goals rw[show pl=q2 by rw[hpl.out,hpq.out,hq];rfl]
     all_goals exact⟨(hn2.keep λg hg=>hb3.block g (hn2.lt hg).2.1).base hb1.size (anr _),by omega⟩
   .have hpos:(0:Int)<(f2.length:Int):=by omega
    go_wp2_with (first
     |(go_at_call 66;refine sf.mono ?_;rintro e w1 ⟨v,rfl,hf1,hb1⟩;obtain⟨a1,c1,hv1⟩:=hf1.form;subst hv1;clear sf)
     |(go_at_call 133;refine(nd _ (.slice a1 f.length c1) w1.heap.size hb1.size (dh (dh hG hb1) ((Below.refl _ _).alloc (anr _) _)) (aof w1 _) (hf1.keep λb hb=>heap_alloc_old w1 _ hb)).mono ?_;rintro e w2 ⟨rfl,hd⟩;obtain⟨JH,vn2,hc2,hf2,hn2,hst2⟩:=id hd;obtain⟨a2,c2,hv2⟩:=hf2.form;subst hv2;have p0:w2.cell? ⟨w1.heap.size,0,none⟩=some (.slice a2 f2.length c2):=aA hc2 0;have hdb:=GK hb1 hd))
    all_goals go_ret2
    all_goals have hpf:pq=false:=by rw[hpq.out,anF (show(f2.length:Int)>0 from hpos)];rfl
    all_goals exact⟨_,by rw[hpf];rfl,hdb,by rw[show pl=[] by rw[hpl.out,hpf];rfl];exact Xm _ _ _⟩
theorem agX{h:Array Obj}{S S':Nat->Prop}(hS:∀b,S b->S' b){v:Value}{q:List aC}(H:bW h S (.sl 125 bY) v q):bW h S' (.sl 125 bY) v q:=by
 refine⟨H.1,?_⟩;rcases H.2 with e|⟨b,off,cap,cs,t,fz,e1,e2,e3,e4,e5⟩
 .exact .inl e
 .exact .inr ⟨b,off,cap,cs,t,fz,e1,e2,hS b e3,e4,λi x hx=>aU.flat (S:=S) _ _ _ rfl (e5 i x hx)⟩
theorem Rl:gW prog G zZ yt:=by
 intro args p out k S vs w hcon hp hG hrep;unfold yt iM uV at hcon;split at hcon
 .next x hx=>
  obtain⟨s,⟨⟩⟩:=x;have hv:=Df yN args _ vs.toList hx hrep
  match hvs:vs.toList,hv with
  |[v],hv=>
   have e1:v=.string ⟨s.toArray⟩:=hv.1.1;have e2:vs=#[.string ⟨s.toArray⟩]:=by obtain⟨l⟩:=vs;simp at hvs;rw[hvs,e1]
   subst e2;have hF:=Option.some.inj hcon;have hp1:p=(s.length<=1048576):=(congrArg Prod.fst hF).symm;have hout:out=⟨[(false,[.plain (.sl 125 bY (eH s) true)]),(false,[.plain (.bool (fH s))])],none⟩:=(congrArg Prod.snd hF).symm;subst hp1 hout;refine(Xn s hp w hG).mono ?_;rintro e w' ⟨u,rfl,hb,hn,hn2⟩;have hr:=ZA hn hn2 (λb=>w.heap.size<=b/\b<w'.heap.size) λb h1 h2=>⟨h1,h2⟩;refine⟨_,λ_=>undef,rfl,hb.os,hb.tape,hb.output,hb.size,hb.block,?_,(λo x hx=>by cases hx),(λo x q y b hx=>by cases hx)⟩;exact⟨_,rfl,agX (λb hb=>⟨⟨hb.2,λh=>absurd h (Nat.not_lt.2 hb.1),λo x hx=>by cases hx⟩,λ_=>hb.1⟩) hr,rfl,trivial⟩
 .cases hcon
end Go.Proofs.Tryz
namespace Go.Proofs.Tryz
open Go Go.Fw Go.IntWalk Sp
theorem Kr:OK pz.e:=by refine PA.ok mixed (aY [(zZ,.pure yt),oN.e] ⟨⟨Rl,OZ⟩,D6,trivial⟩) H0 (by kernel_rfl) (show∀q,pz.goal (Kt q) (q,())from ?_);intro q hin hp;dsimp only[pz]at hp ⊢;have hp:q.length<=2000000:=hp;exact⟨hp,anx (GI q) (by decide),rfl⟩
theorem iz{α:Type}(l:List α):((l.length:Int)==0)=l.isEmpty:=by
 cases l with
 |nil=>rfl
 |cons x r=>exact ann.2 (by rw[ano];omega)
theorem zG{x:aK}(h:bH x=[]):(([]:List UInt8),())=(bn x,()):=by unfold bn;rw[h];rfl
theorem L9{x:aK}{w:List (List UInt8)}(h:bH x=w){t:List UInt8}(e:t=Lib.join w [32]):(t,())=(bn x,()):=by unfold bn;rw[h,e]
theorem ZB{q:List aC}(h:aH q=true):Sp.textOf q=Lib.join (bD 9 q ((q.length:Int)-1)) [32]:=by unfold Sp.textOf;rw[h];rfl
theorem Xo{f:bQ}{id:Int}{n:List UInt8}{q:List aC}:bH (dI 1 f id n q)=bif fC f&&(f.1==0&&(id==0&&(n==[]&&q.isEmpty)))then iG::dm f else[]:=by unfold bH;show(bif true&&_ then _ else bif false&&_ then _ else bif false&&_ then _ else bif false&&_ then _ else bif false&&_ then _ else _)=_;rw[anQ];rfl
theorem abS{f:bQ}{id:Int}{n:List UInt8}{q:List aC}:bH (dI 2 f id n q)=bif fC f&&(id==0&&(n==[]&&q.isEmpty))then ig::Lib.itoa f.1::dm f else[]:=by unfold bH;show(bif false&&_ then _ else bif true&&_ then _ else bif false&&_ then _ else bif false&&_ then _ else bif false&&_ then _ else _)=_;rw[anQ];rfl
theorem abT{f:bQ}{id:Int}{n:List UInt8}{q:List aC}:bH (dI 3 f id n q)=bif decide (f=gQ)&&(aN id&&(n==[]&&q.isEmpty))then[jh,Lib.itoa id]else[]:=by unfold bH;show(bif false&&_ then _ else bif false&&_ then _ else bif true&&_ then _ else bif false&&_ then _ else bif false&&_ then _ else _)=_;rw[anQ];rfl
theorem Mc{f:bQ}{id:Int}{n:List UInt8}{q:List aC}:bH (dI 4 f id n q)=bif decide (f=gQ)&&(id==0&&(aF n&&iE q))then gu::n::bD 9 q ((q.length:Int)-1)else[]:=by unfold bH;show(bif false&&_ then _ else bif false&&_ then _ else bif false&&_ then _ else bif true&&_ then _ else bif false&&_ then _ else _)=_;rw[anQ];rfl
theorem Xp{f:bQ}{id:Int}{n:List UInt8}{q:List aC}:bH (dI 5 f id n q)=bif decide (f=gQ)&&(id==0&&(aF n&&q.isEmpty))then[gY,n]else[]:=by unfold bH;show(bif false&&_ then _ else bif false&&_ then _ else bif false&&_ then _ else bif false&&_ then _ else bif true&&_ then _ else _)=_;rw[anQ];rfl
theorem af2{k:Int}{f:bQ}{id:Int}{n:List UInt8}{q:List aC}(h1:k≠1)(h2:k≠2)(h3:k≠3)(h4:k≠4)(h5:k≠5):bH (dI k f id n q)=[]:=by unfold bH;rw[show(dI k f id n q).1=k from rfl,ann.2 h1,ann.2 h2,ann.2 h3,ann.2 h4,ann.2 h5];rfl
theorem Oc:OK su.e:=by
 refine PA.ok mixed (aY [lX.e,rY.e,pF.e,oh.e,je.e,iq.e,jO.e,zi.e,wM.e,zk.e] ⟨yA,Oa,Ko,Dq,pR,jZ,qA,Xk,TL,Xh,trivial⟩) PD (by kernel_rfl) (show∀o0 o1 o2 o3 o4 o5 o6 o7 o8,su.goal (Oe o0 o1 o2 o3 o4 o5 o6 o7 o8) ((o0,o1,o2,o3,o4,o5,o6,o7,o8,()),())from ?_);intro k f0 f1 f2 f3 f4 id n q hin hp;dsimp only[su]at hp ⊢;obtain⟨hl,ht,hn,hq⟩:f4.length<=1048576/\(dJ f4).length<=1073741824/\n.length<=1048576/\q.length<=2000000:=hp;have hbl:=(IC (f:=(f0,f1,f2,f3,f4,())) hin.1.2.1 hin.1.2.2.1 hin.1.2.2.2.2.1).2;have hbl:(Lib.join (dm (f0,f1,f2,f3,f4,())) [32]).length<=47+1073741824:=anx hbl (apB ht 47);have q1:=oK (n:=f0) hin.1.2.1;have q6:=oK (n:=id) hin.1.2.2.2.2.2.2.1;have hts:=GI q;have hx:(k,f0,f1,f2,f3,f4,id,n,q,())=dI k (f0,f1,f2,f3,f4,()) id n q:=rfl;rw[hx];clear hx hin;have hwb:dm (f0,f1,f2,f3,f4,())≠[]:=by unfold dm;exact apL _ _
 have j1:∀(a:List UInt8),Lib.join (a::dm (f0,f1,f2,f3,f4,())) [32]=a++32::Lib.join (dm (f0,f1,f2,f3,f4,())) [32]:=λa=>by unfold dm;rw[eu]
 have u:∀z:Int,(decide (0<=z)&&decide (z<=1000000000))=aN z:=λ_=>rfl;refine⟨trivial,λy=>y=((n==[]&&q.isEmpty,()),()),?_,?_⟩
 .cases n==[]with
  |true=>exact⟨rfl,by rw[iz];rfl⟩
  |false=>exact⟨rfl,rfl⟩
 rintro _ rfl;refine⟨λy=>y=((k==1&&(fC (f0,f1,f2,f3,f4,())&&(f0==0&&(id==0&&(n==[]&&q.isEmpty)))),()),()),?_,?_⟩
 .cases k==1 with
  |false=>exact⟨rfl,rfl⟩
  |true=>
   refine⟨hl,?_⟩;cases fC (f0,f1,f2,f3,f4,())with
   |false=>exact⟨rfl,rfl⟩
   |true=>
    cases f0==0 with
    |false=>exact⟨rfl,rfl⟩
    |true=>cases id==0<;>exact⟨rfl,rfl⟩
 rintro _ rfl;refine af (λh=>?_) λh1=>?_
 .rw[anl,anH]at h;obtain⟨rfl,h⟩:=h;refine⟨⟨hl,ht⟩,dH (by show 7+_<=_;omega),L9 (w:=iG::dm (f0,f1,f2,f3,f4,())) (by rw[Xo,h];rfl) ?_⟩;rw[j1];rfl
 refine⟨λy=>y=((k==2&&(fC (f0,f1,f2,f3,f4,())&&(id==0&&(n==[]&&q.isEmpty))),()),()),?_,?_⟩
 .cases k==2 with
  |false=>exact⟨rfl,rfl⟩
  |true=>
   refine⟨hl,?_⟩;cases fC (f0,f1,f2,f3,f4,())with
   |false=>exact⟨rfl,rfl⟩
   |true=>cases id==0<;>exact⟨rfl,rfl⟩
 rintro _ rfl;refine af (λh=>?_) λh2=>?_
 .rw[anl,anH]at h;obtain⟨rfl,h⟩:=h;refine⟨trivial,dH (by show 7+_<=_;omega),dH (by rw[anm];show 7+_+1<=_;omega),⟨hl,ht⟩,dH (by rw[anm,anm];show 7+_+1+_<=_;omega),L9 (w:=ig::Lib.itoa f0::dm (f0,f1,f2,f3,f4,())) (by rw[abS,h];rfl) ?_⟩;rw[eu,show∀a,Lib.join (a::dm (f0,f1,f2,f3,f4,())) [32]=a++32::Lib.join (dm (f0,f1,f2,f3,f4,())) [32]from j1];simp[ig]
 refine⟨λy=>y=((k==3&&(decide ((f0,f1,f2,f3,f4,())=gQ)&&(aN id&&(n==[]&&q.isEmpty))),()),()),?_,?_⟩
 .cases k==3 with
  |false=>exact⟨rfl,rfl⟩
  |true=>
   cases decide ((f0,f1,f2,f3,f4,())=gQ)with
   |false=>exact⟨rfl,rfl⟩
   |true=>
    cases n==[]&&q.isEmpty with
    |false=>exact⟨rfl,by rw[anJ];rfl⟩
    |true=>exact⟨trivial,rfl,by rw[u,an6];rfl⟩
 rintro _ rfl;refine af (λh=>?_) λh3=>?_
 .rw[anl,anH]at h;obtain⟨rfl,h⟩:=h;refine⟨trivial,dH (by show 7+_<=_;omega),L9 (w:=[jh,Lib.itoa id]) (by rw[abT,h];rfl) ?_⟩;rw[sJ];rfl
 have hqk:iE q=(aH q&&decide (eH (Sp.textOf q)=q)):=rfl;refine⟨λy=>y=((k==4&&(decide ((f0,f1,f2,f3,f4,())=gQ)&&(id==0&&(aF n&&iE q))),()),()),?_,?_⟩
 .rw[hqk];cases k==4 with
  |false=>exact⟨rfl,rfl⟩
  |true=>
   cases decide ((f0,f1,f2,f3,f4,())=gQ)with
   |false=>exact⟨rfl,rfl⟩
   |true=>
    cases id==0 with
    |false=>exact⟨rfl,rfl⟩
    |true=>
     refine⟨trivial,?_⟩;cases aF n with
     |false=>exact⟨rfl,rfl⟩
     |true=>
      refine⟨hq,?_⟩;cases aH q with
      |false=>exact⟨rfl,rfl⟩
      |true=>exact⟨hq,trivial,rfl,rfl⟩
 rintro _ rfl;refine af (λh=>?_) λh4=>?_
 .rw[anl,anH]at h;obtain⟨rfl,h⟩:=h;have hok:aH q=true:=by rw[anl,anl,anl,hqk,anl]at h;exact h.2.2.2.1
  refine⟨dH (by show 7+_<=_;omega),dH (by rw[anm];show 7+_+1<=_;omega),hq,dH (by rw[anm,anm];show 7+_+1+_<=_;omega),L9 (w:=gu::n::bD 9 q ((q.length:Int)-1)) (by rw[Mc,h];rfl) ?_⟩;obtain⟨y,r,e⟩:∃y r,bD 9 q ((q.length:Int)-1)=y::r:=by
   cases e:bD 9 q ((q.length:Int)-1)with
   |nil=>exact absurd e (BU 8 q _)
   |cons y r=>exact⟨y,r,rfl⟩
  rw[ZB hok,e,eu,eu];simp[gu]
 have off:k≠5->(([]:List UInt8),())=(bn (dI k (f0,f1,f2,f3,f4,()) id n q),()):=λh5=>zG (by
  by_cases c1:k=1
  .subst c1;rw[Xo];rw[aol,anQ]at h1;dsimp only at h1 ⊢;rw[h1];rfl
  by_cases c2:k=2
  .subst c2;rw[abS];rw[aol,anQ]at h2;dsimp only at h2 ⊢;rw[h2];rfl
  by_cases c3:k=3
  .subst c3;rw[abT];rw[aol,anQ]at h3;dsimp only at h3 ⊢;rw[h3];rfl
  by_cases c4:k=4
  .subst c4;rw[Mc];rw[aol,anQ]at h4;dsimp only at h4 ⊢;rw[h4];rfl
  exact af2 c1 c2 c3 c4 h5)
 refine af (λh=>?_) λh=>off (ann.1 h);obtain rfl:=anH.1 h;have aeR:(decide ((f0,f1,f2,f3,f4,())=gQ)&&(id==0&&(aF n&&q.isEmpty)))=false->(([]:List UInt8),())=(bn (dI 5 (f0,f1,f2,f3,f4,()) id n q),()):=λh=>zG (by rw[Xp,h];rfl);refine af (λg1=>af (λg2=>⟨trivial,af (λg3=>af (λg4=>⟨dH (by show 9+_<=_;omega),L9 (w:=[gY,n]) ?_ ?_⟩) λg4=>aeR ?_) λg3=>aeR ?_⟩) λg2=>aeR ?_) λg1=>aeR ?_
 .rw[iz]at g4;rw[Xp,show decide ((f0,f1,f2,f3,f4,())=gQ)=true from g1,g2,g3,g4];rfl
 .rw[sJ];rfl
 .rw[iz]at g4;rw[g4,anJ,anJ,anJ]
 .rw[g3,aoa,anJ,anJ]
 .rw[g2,aoa,anJ]
 .rw[show decide ((f0,f1,f2,f3,f4,())=gQ)=false from g1,aoa]
end Go.Proofs.Tryz
namespace Go.Proofs.Tryz
open Go Go.Fw Go.IntWalk Sp
theorem aeS{β:Type}(x5:List dY)(t:β)(hx:x5.length<=1048576){K:List UInt8×Unit->Prop}{E:Prop}(hbad:x5.all kJ=false->K ([],()))(hend:x5.all kJ=true->E):
 LP (α:=(Int×Unit)×Unit) (((0:Int),()),()) λI μ y=>
  bif decide (y.1.1<(x5.length:Int))then((0:Int)<=y.1.1/\y.1.1<(x5.length:Int))/\True/\
   (bif !eP (x5.getD (Int.toNat y.1.1) ([],0,0,[],())).1 then K ([],())else True/\
     (bif !bg (x5.getD (Int.toNat y.1.1) ([],0,0,[],())).2.1 (x5.getD (Int.toNat y.1.1) ([],0,0,[],())).2.2.1 (x5.getD (Int.toNat y.1.1) ([],0,0,[],())).2.2.2.1 then K ([],())
     else bif (x5.getD (Int.toNat y.1.1) ([],0,0,[],())).2.1==0 then K ([],())else NX t I μ ((IntKind.i64.wrap (y.1.1+1),()),()) y))else E:=by
 have hb:∀n,n<x5.length->kJ (x5.getD n ([],0,0,[],()))=false->K ([],()):=λn hn h=>hbad (aqo.2 ⟨_,getD_mem hn,by rw[h];decide⟩);refine GZ x5.length (by omega) (λn=>∀i,i<n->kJ (x5.getD i ([],0,0,[],()))=true) (λi hi=>absurd hi (aod _)) (λI μ n hn hJ next=>?_) λI μ hJ=>?_
 .dsimp only;rw[anY];have e:kJ (x5.getD n ([],0,0,[],()))=(eP (x5.getD n ([],0,0,[],())).1&&(bg (x5.getD n ([],0,0,[],())).2.1 (x5.getD n ([],0,0,[],())).2.2.1 (x5.getD n ([],0,0,[],())).2.2.2.1&&!((x5.getD n ([],0,0,[],())).2.1==0))):=rfl;refine qN (by omega) ⟨⟨by omega,by omega⟩,trivial,af (λh=>hb n hn ?_) λh=>⟨trivial,af (λh2=>hb n hn ?_) λh2=>af (λh3=>hb n hn ?_) λh3=>⟨rfl,next ?_⟩⟩⟩
  .rw[e,jX h];rfl
  .rw[e,jX h2,aoa,anJ]
  .rw[e,h3,aon,anJ,anJ]
  .intro i hi;rcases anL i n with h5|h5
   .exact hJ i h5
   .rw[show i=n by omega,e,iD h,iD h2,h3];rfl
 .dsimp only;refine qO (by omega) (hend (anI.2 λx hx=>?_));obtain⟨i,hi,rfl⟩:=aoL.1 hx;have:=hJ i hi;rw[anz,anu hi]at this;exact this
theorem Xq{f:bQ}:fC f=(f.2.2.2.2.1.all kJ&&(aN f.1&&(aN f.2.1&&aN f.2.2.2.1))):=rfl
theorem ajd(a b:Int):iO [(a,()),(b,())]=(aN a&&aN b):=by simp[iO]
theorem aje(a b c:Int):iO [(a,()),(b,()),(c,())]=(aN a&&(aN b&&aN c)):=by simp[iO]
theorem ajf(a:Int):iO [(a,())]=aN a:=by simp[iO]
theorem Og:OK rZ.e:=by
 refine PA.ok mixed (aY [(lZ,.pure jL),jy.e,lC.e,qo.e,uQ.e,rX.e,pz.e,iJ.e,jf.e,oN.e,lS.e,(Dl,.pure zU),uT.e] ⟨⟨um,rJ⟩,qM,zQ,E8,QO,NM,Kr,wZ,pU,D6,vg,⟨Ig,Tn⟩,Rj,trivial⟩) PE (by kernel_rfl) (show∀x0 x1 x2 x3 x4 x5 x6 x7 x8,rZ.goal (Oh x0 x1 x2 x3 x4 x5 x6 x7 x8) ((x0,x1,x2,x3,x4,x5,x6,x7,x8,()),())from ?_);intro k f0 f1 f2 f3 f4 id n q hin hp;dsimp only[rZ]at hp ⊢;obtain⟨hl,ht,hn,hq⟩:f4.length<=1048576/\(dJ f4).length<=1073741824/\n.length<=1048576/\q.length<=2000000:=hp;have hfl:=(IC (f:=(f0,f1,f2,f3,f4,())) hin.1.2.1 hin.1.2.2.1 hin.1.2.2.2.2.1);have ajg:(fJ (f0,f1,f2,f3,f4,())).length<=80+1073741824:=anx hfl.1 (apB ht 80);have ai0:(Lib.join (dm (f0,f1,f2,f3,f4,())) [32]).length<=47+1073741824:=anx hfl.2 (apB ht 47);have q0:=oK (n:=f0) hin.1.2.1;have q6:=oK (n:=id) hin.1.2.2.2.2.2.2.1;have hts:=GI q;clear hfl hin;have hx:(k,f0,f1,f2,f3,f4,id,n,q,())=dI k (f0,f1,f2,f3,f4,()) id n q:=rfl;rw[hx];clear hx;have hpl:=Sp.pieces_len 32 (fJ (f0,f1,f2,f3,f4,()));obtain⟨fp1,fp2,fp3⟩:=ac6 (f0,f1,f2,f3,f4,());have j1:∀(a:List UInt8),Lib.join (a::dm (f0,f1,f2,f3,f4,())) [32]=a++32::Lib.join (dm (f0,f1,f2,f3,f4,())) [32]:=λa=>by unfold dm;rw[eu]
 have hgd:([32]:List UInt8).getD 0 0=32:=rfl;have hdl:∀(m:Nat),((List.take (Sp.pieces 32 (fJ (f0,f1,f2,f3,f4,()))).length (Sp.pieces 32 (fJ (f0,f1,f2,f3,f4,())))).drop m).length<=81+1073741824:=λm=>by rw[anS,anO];omega
 let P1:Sp.LS:=[(iG,())]++List.drop (Int.toNat 2) (List.take (Sp.pieces 32 (fJ (f0,f1,f2,f3,f4,()))).length (Sp.pieces 32 (fJ (f0,f1,f2,f3,f4,()))))
 let P2:Sp.LS:=[(ig,())]++List.drop (Int.toNat 1) (List.take (Sp.pieces 32 (fJ (f0,f1,f2,f3,f4,()))).length (Sp.pieces 32 (fJ (f0,f1,f2,f3,f4,()))))
 have hqk:iE q=(aH q&&decide (eH (Sp.textOf q)=q)):=rfl;refine⟨λy=>(k=1/\f0=0/\y=((P1,()),(1,f0,f1,f2,f3,f4,0,[],[],()),[(f1,()),(f3,())],()))\/(k=2/\y=((P2,()),(2,f0,f1,f2,f3,f4,0,[],[],()),[(f0,()),(f1,()),(f3,())],()))\/
  (k=3/\y=(([(jh,()),(Lib.itoa id,())],()),(3,0,0,false,0,[],id,[],[],()),[(id,())],()))\/
  (k=4/\aF n=true/\iE q=true/\y=(([(gu,()),(n,()),(Sp.textOf q,())],()),(4,0,0,false,0,[],0,n,q,()),[],()))\/
  (k=5/\aF n=true/\y=(([(gY,()),(n,())],()),(5,0,0,false,0,[],0,n,[],()),[],())),?_,?_⟩
 .by_cases k1:k=1
  .subst k1;refine⟨Du rfl,⟨hl,ht⟩,⟨anx ajg (by decide),.inl rfl⟩,⟨by decide,?_⟩,pV ?_,af (λh=>zG ?_) λh=>⟨rfl,.inl ⟨rfl,by simpa using h,rfl⟩⟩⟩
   .show(2:Int)<=((Sp.pieces 32 _).length:Int);omega
   .have:=hdl 2;show 1+_<=_;exact anx (apB this 1) (by decide)
   .have h:f0≠0:=aoH.1 h;rw[Xo];dsimp only;rw[ann.2 h,aoa,anJ];rfl
  by_cases k2:k=2
  .subst k2;refine⟨Du rfl,⟨hl,ht⟩,⟨anx ajg (by decide),.inl rfl⟩,⟨by decide,?_⟩,pV ?_,rfl,.inr (.inl ⟨rfl,rfl⟩)⟩
   .show(1:Int)<=((Sp.pieces 32 _).length:Int);omega
   .have:=hdl 1;show 1+_<=_;exact anx (apB this 1) (by decide)
  by_cases k3:k=3
  .subst k3;exact⟨Du rfl,trivial,rfl,.inr (.inr (.inl ⟨rfl,rfl⟩))⟩
  by_cases k4:k=4
  .subst k4;refine⟨hq,trivial,af (λh=>zG ?_) λh=>⟨hq,af (λh2=>zG ?_) λh2=>⟨hq,trivial,af (λh3=>zG ?_) λh3=>⟨rfl,.inr (.inr (.inr (.inl ⟨rfl,iD h,?_,rfl⟩)))⟩⟩⟩⟩
   .rw[Mc,jX h,aoa,anJ,anJ];rfl
   .rw[Mc,hqk,jX h2,aoa,anJ,anJ,anJ];rfl
   .have h3:decide (eH (Sp.textOf q)=q)=false:=jX h3;rw[Mc,hqk,h3,anJ,anJ,anJ,anJ];rfl
   .have h3:decide (eH (Sp.textOf q)=q)=true:=iD h3;rw[hqk,iD h2,h3];rfl
  by_cases k5:k=5
  .subst k5;refine⟨trivial,af (λh=>zG ?_) λh=>⟨rfl,.inr (.inr (.inr (.inr ⟨rfl,iD h,rfl⟩)))⟩⟩;rw[Xp,jX h,aoa,anJ,anJ];rfl
  rw[ann.2 k1,ann.2 k2,ann.2 k3,ann.2 k4,ann.2 k5];exact zG (af2 k1 k2 k3 k4 k5)
 have rest:∀(y:(Sp.LS×Unit)×(Int×Int×Int×Bool×Int×List dY×Int×List UInt8×List aC×Unit)×List (Int×Unit)×Unit)(c:Bool)(w:List (List UInt8)),
  (bif decide ((y.2.1.2.1,y.2.1.2.2.1,y.2.1.2.2.2.1,y.2.1.2.2.2.2.1,y.2.1.2.2.2.2.2.1,())=(f0,f1,f2,f3,f4,()))then(y.2.1.2.2.2.2.2.2.1==id)&&((y.2.1.2.2.2.2.2.2.2.1==n)&&(decide (y.2.1.2.2.2.2.2.2.2.2.1=q)&&(iO y.2.2.1&&f4.all kJ)))else false)=c->
  bH (dI k (f0,f1,f2,f3,f4,()) id n q)=(bif c then w else[])->(c=true->y.1.1.length<=140737488355328/\(Lib.join w [32]).length<=140737488355328/\Lib.join (y.1.1.map λx=>x.1) [32]=Lib.join w [32])->
  ∃(J:Unit×Unit->Prop),(True/\(bif !decide ((y.2.1.2.1,y.2.1.2.2.1,y.2.1.2.2.2.1,y.2.1.2.2.2.2.1,y.2.1.2.2.2.2.2.1,())=(f0,f1,f2,f3,f4,()))then(([]:List UInt8),())=(bn (dI k (f0,f1,f2,f3,f4,()) id n q),())
   else bif y.2.1.2.2.2.2.2.2.1 !=id then(([]:List UInt8),())=(bn (dI k (f0,f1,f2,f3,f4,()) id n q),())
   else bif !y.2.1.2.2.2.2.2.2.2.1==n then(([]:List UInt8),())=(bn (dI k (f0,f1,f2,f3,f4,()) id n q),())
   else True/\(bif !decide (y.2.1.2.2.2.2.2.2.2.2.1=q)then(([]:List UInt8),())=(bn (dI k (f0,f1,f2,f3,f4,()) id n q),())
   else True/\(bif !iO y.2.2.1 then(([]:List UInt8),())=(bn (dI k (f0,f1,f2,f3,f4,()) id n q),())
   else(((k,f0,f1,f2,f3,f4,id,n,q,()),y.1),())=(((k,f0,f1,f2,f3,f4,id,n,q,()),y.1),())/\J ((),())))))/\
  ∀(z:Unit×Unit),J z->LP (α:=(Int×Unit)×Unit) (((0:Int),()),()) λI μ y13=>
   bif decide (y13.1.1<(f4.length:Int))then((0:Int)<=y13.1.1/\y13.1.1<(f4.length:Int))/\True/\
   (bif !eP (f4.getD (Int.toNat y13.1.1) ([],0,0,[],())).1 then(([]:List UInt8),())=(bn (dI k (f0,f1,f2,f3,f4,()) id n q),())else True/\
     (bif !bg (f4.getD (Int.toNat y13.1.1) ([],0,0,[],())).2.1 (f4.getD (Int.toNat y13.1.1) ([],0,0,[],())).2.2.1 (f4.getD (Int.toNat y13.1.1) ([],0,0,[],())).2.2.2.1 then(([]:List UInt8),())=(bn (dI k (f0,f1,f2,f3,f4,()) id n q),())
     else bif (f4.getD (Int.toNat y13.1.1) ([],0,0,[],())).2.1==0 then(([]:List UInt8),())=(bn (dI k (f0,f1,f2,f3,f4,()) id n q),())else NX ((y.1.1,f4,(f4.length:Int),()),()) I μ ((IntKind.i64.wrap (y13.1.1+1),()),()) y13))
   else(y.1.1.length<=140737488355328/\(Lib.join (y.1.1.map λx=>x.1) [32]).length<=140737488355328)/\(Lib.join (y.1.1.map λx=>x.1) [32],())=(bn (dI k (f0,f1,f2,f3,f4,()) id n q),()):=by
  intro y c w hc hw hg;have off:c=false->(([]:List UInt8),())=(bn (dI k (f0,f1,f2,f3,f4,()) id n q),()):=λh=>zG (by rw[hw,h];rfl);generalize decide ((y.2.1.2.1,y.2.1.2.2.1,y.2.1.2.2.2.1,y.2.1.2.2.2.2.1,y.2.1.2.2.2.2.2.1,())=(f0,f1,f2,f3,f4,()))=a1 at hc ⊢;generalize decide (y.2.1.2.2.2.2.2.2.2.2.1=q)=a4 at hc ⊢;have hb:(y.2.1.2.2.2.2.2.2.1 !=id)=!(y.2.1.2.2.2.2.2.2.1==id):=rfl;rw[hb];generalize (y.2.1.2.2.2.2.2.2.1==id)=a2 at hc ⊢;generalize (y.2.1.2.2.2.2.2.2.2.1==n)=a3 at hc ⊢;generalize iO y.2.2.1=a5 at hc ⊢;cases a1 with
  |false=>exact⟨λ_=>False,⟨trivial,off hc.symm⟩,λ_ h=>h.elim⟩
  |true=>
  cases a2 with
  |false=>exact⟨λ_=>False,⟨trivial,off hc.symm⟩,λ_ h=>h.elim⟩
  |true=>
  cases a3 with
  |false=>exact⟨λ_=>False,⟨trivial,off hc.symm⟩,λ_ h=>h.elim⟩
  |true=>
  cases a4 with
  |false=>exact⟨λ_=>False,⟨trivial,trivial,off hc.symm⟩,λ_ h=>h.elim⟩
  |true=>
  cases a5 with
  |false=>exact⟨λ_=>False,⟨trivial,trivial,trivial,off hc.symm⟩,λ_ h=>h.elim⟩
  |true=>
  have hc:f4.all kJ=c:=hc;refine⟨λ_=>True,⟨trivial,trivial,trivial,rfl,trivial⟩,λ_ _=>?_⟩;refine aeS (K:=λr=>r=(bn (dI k (f0,f1,f2,f3,f4,()) id n q),())) f4 _ hl (λh=>off (hc.symm.trans h)) λh=>?_;obtain⟨g1,g2,g3⟩:=hg (hc.symm.trans h);rw[g3];exact⟨⟨g1,g2⟩,(L9 (w:=w) (by rw[hw,← hc,h];rfl) rfl)⟩
 rintro y hy;have hTL:List.take (Sp.pieces 32 (fJ (f0,f1,f2,f3,f4,()))).length (Sp.pieces 32 (fJ (f0,f1,f2,f3,f4,())))=Sp.pieces 32 (fJ (f0,f1,f2,f3,f4,())):=aos (anr _);have hdt:∀f:bQ,decide (f=f)=true:=λf=>anF rfl;have hdq:∀q:List aC,decide (([]:List aC)=q)=q.isEmpty:=λq=>by cases q with
  |nil=>rfl
  |cons x r=>exact anM (λe=>by cases e)
 have hbn:∀n:List UInt8,(([]:List UInt8)==n)=(n==[]):=λn=>by cases n<;>rfl
 have hbz:∀z:Int,((0:Int)==z)=(z==0):=λz=>by
  by_cases h:z=0
  .subst h;rfl
  .rw[ann.2 h,ann.2 (apa h)]
 rcases hy with⟨rfl,rfl,rfl⟩|⟨rfl,rfl⟩|⟨rfl,rfl⟩|⟨rfl,hv,hk,rfl⟩|⟨rfl,hv,rfl⟩
 .refine rest _ (fC (0,f1,f2,f3,f4,())&&((0:Int)==0&&(id==0&&(n==[]&&q.isEmpty)))) (iG::dm (0,f1,f2,f3,f4,())) ?_ Xo λ_=>⟨?_,?_,?_⟩
  .dsimp only;rw[hdt,hdq,hbn,hbz,ajd,Xq,show aN (0,f1,f2,f3,f4,()).1=true from rfl,anQ];dsimp only;cases f4.all kJ<;>cases aN f1<;>cases aN f3<;>cases id==0<;>cases n==[]<;>cases q.isEmpty<;>rfl
  .have:=hdl 2;show _+1<=_;exact anx (Nat.add_le_add_right this 1) (by decide)
  .rw[j1,anm,ano];show 6+_<=_;omega
  .show Lib.join (iG::(List.drop 2 (List.take (Sp.pieces 32 (fJ (0,f1,f2,f3,f4,()))).length (Sp.pieces 32 (fJ (0,f1,f2,f3,f4,()))))).map (·.1)) [32]=_;rw[hTL,fp1,Ux,j1]
 .refine rest _ (fC (f0,f1,f2,f3,f4,())&&(id==0&&(n==[]&&q.isEmpty))) (ig::Lib.itoa f0::dm (f0,f1,f2,f3,f4,())) ?_ abS λ_=>⟨?_,?_,?_⟩
  .dsimp only;rw[hdt,hdq,hbn,hbz,aje,Xq];dsimp only;cases f4.all kJ<;>cases aN f0<;>cases aN f1<;>cases aN f3<;>cases id==0<;>cases n==[]<;>cases q.isEmpty<;>rfl
  .have:=hdl 1;show _+1<=_;exact anx (Nat.add_le_add_right this 1) (by decide)
  .rw[eu,j1,anm,ano,anm,ano];show 6+_<=_;omega
  .show Lib.join (ig::(List.drop 1 (List.take (Sp.pieces 32 (fJ (f0,f1,f2,f3,f4,()))).length (Sp.pieces 32 (fJ (f0,f1,f2,f3,f4,()))))).map (·.1)) [32]=_;rw[hTL,fp2,anP,eu,Ux,eu,j1]
 .refine rest _ (decide ((f0,f1,f2,f3,f4,())=gQ)&&(aN id&&(n==[]&&q.isEmpty))) [jh,Lib.itoa id] ?_ abT λ_=>⟨xO rfl,?_,rfl⟩
  .dsimp only;rw[hdq,hbn,ajf,aol,anQ];cases hd:decide ((f0,f1,f2,f3,f4,())=gQ)with
   |false=>rw[anM (λe=>ao0 hd (by rw[← e];rfl))];rfl
   |true=>have e:=aoC hd;have e4:f4=[]:=congrArg (·.2.2.2.2.1) e;rw[anF (by rw[e];rfl),e4];cases aN id<;>cases n==[]<;>cases q.isEmpty<;>rfl
  .rw[sJ];simp only[anm];show 6+1+_<=_;omega
 .have hok:aH q=true:=by rw[hqk,anl]at hk;exact hk.1
  refine rest _ (decide ((f0,f1,f2,f3,f4,())=gQ)&&(id==0&&(aF n&&iE q))) (gu::n::bD 9 q ((q.length:Int)-1)) ?_ Mc λ_=>?_
  .dsimp only;rw[hbz,aol,anQ,anF rfl,anQ,hv,hk];cases hd:decide ((f0,f1,f2,f3,f4,())=gQ)with
   |false=>rw[anM (λe=>ao0 hd (by rw[← e];rfl))];rfl
   |true=>have e:=aoC hd;have e4:f4=[]:=congrArg (·.2.2.2.2.1) e;rw[anF (by rw[e];rfl),e4];cases id==0<;>rfl
  .obtain⟨y,r,e⟩:∃y r,bD 9 q ((q.length:Int)-1)=y::r:=by
    cases e:bD 9 q ((q.length:Int)-1)with
    |nil=>exact absurd e (BU 8 q _)
    |cons y r=>exact⟨y,r,rfl⟩
   have e2:=ZB hok;rw[e]at e2 ⊢;have e3:Lib.join (gu::n::y::r) [32]=Lib.join [gu,n,Sp.textOf q] [32]:=by rw[eu,eu,Bc,e2];simp
   refine⟨xO rfl,?_,e3.symm⟩;rw[e3,Bc];simp only[anm];show 6+1+_+1+_<=_;omega
 .refine rest _ (decide ((f0,f1,f2,f3,f4,())=gQ)&&(id==0&&(aF n&&q.isEmpty))) [gY,n] ?_ Xp λ_=>⟨xO rfl,?_,rfl⟩
  .dsimp only;rw[hbz,aol,anQ,hdq,hv];cases hd:decide ((f0,f1,f2,f3,f4,())=gQ)with
   |false=>rw[anM (λe=>ao0 hd (by rw[← e];rfl))];rfl
   |true=>have e:=aoC hd;have e4:f4=[]:=congrArg (·.2.2.2.2.1) e;rw[anF (by rw[e];rfl),e4];cases id==0<;>cases q.isEmpty<;>rfl
  .rw[sJ];simp only[anm];show 8+1+_<=_;omega
end Go.Proofs.Tryz
namespace Go.Proofs.Tryz
open Go Go.Fw Go.IntWalk Sp
theorem adP(n:Nat):((n:Int).tmod 2 !=0)=!(n%2==0):=by
 have e:(n:Int).tmod 2=((n%2:Nat):Int):=rfl;rw[e];cases h:n%2 with
 |zero=>rfl
 |succ k=>rw[show((k+1:Nat)==0)=false from rfl];exact aoH.2 (by omega)
theorem Fq{w:Sp.LS}{n:Nat}(h:n<w.length):(w.getD n ([],())).1=Sp.wordAt w n:=by rw[jb (by omega),anY]
theorem abU{w:Sp.LS}{n:Nat}(h:n+1<w.length):w.drop n=w.getD n ([],())::w.getD (n+1) ([],())::w.drop (n+2):=by rw[drop_cons w n ([],()) (by omega),drop_cons w (n+1) ([],()) h]
theorem Xr:OK zo.e:=by
 refine PA.ok mixed (aY [nN.e,lV.e,sU.e] ⟨Fg,yH,Em,trivial⟩) YH (by kernel_rfl) (show∀p id,zo.goal (Xt p id) (p,id,())from ?_);intro w id hin hp;dsimp only[zo]at hp ⊢;obtain⟨hl,hw⟩:w.length<=1000/\∀x∈w,x.1.length<=1048576:=hp;refine⟨by decide,by decide,by decide,?_⟩;refine⟨λy=>∃(n:Nat)(al:List dY),y=((((3+2*n:Nat):Int),()),(id,Sp.numAt w 0,Sp.wordAt w 1==[115],Sp.numAt w 2,(),()),al,())/\(n=0\/3+2*n<=w.length+1)/\al.length=n/\al++gy (w.drop (3+2*n))=gy (w.drop 3),
  λy=>((w.length:Int)-y.1.1).toNat,⟨0,[],rfl,.inl rfl,rfl,rfl⟩,?_⟩
 rintro _ ⟨n,al,rfl,hn,hal,has⟩;dsimp only;refine af (λh=>?_) λh=>?_
 .have hlt:3+2*n<w.length:=by have:=kH h;omega
  have e1:IntKind.i64.wrap (((3+2*n:Nat):Int)+1)=((3+2*n+1:Nat):Int):=(wrap_in (by omega)).trans (by omega);have e2:IntKind.i64.wrap (((3+2*n:Nat):Int)+2)=((3+2*(n+1):Nat):Int):=(wrap_in (by omega)).trans (by omega);rw[e1,e2,anY];have hwl:(Sp.wordAt w ((3+2*n+1:Nat):Int)).length<=1048576:=by
   by_cases hh:((3+2*n+1:Nat):Int)<(w.length:Int)
   .rw[jb hh];exact hw _ (getD_mem (by omega))
   .rw[nU (by omega)];exact ant _
  have ha:gy (w.drop (3+2*n))=((w.getD (3+2*n) ([],())).1,(aW (Sp.wordAt w ((3+2*n+1:Nat):Int))).1)::gy (w.drop (3+2*(n+1))):=by
   rcases anL (3+2*n+1) w.length with h2|h2
   .rw[abU h2,← Fq h2,show 3+2*n+2=3+2*(n+1) by omega];rfl
   .rw[drop_cons w (3+2*n) ([],()) hlt,aoI h2,aoI (by omega),nU (by omega)];rfl
  rw[ha]at has;refine⟨by omega,hwl,⟨by omega,by omega⟩,pV (by rw[ano,anw];omega),rfl,⟨n+1,_,rfl,.inr (by omega),by rw[anm,ano,anw,hal],?_⟩,by omega⟩;rw[anG];exact has
 .have hge:w.length<=3+2*n:=by have:=jC h;omega
  rw[aoI hge]at has;have e1:al=gy (w.drop 3):=by rw[← has];exact(an4 _).symm
  rw[e1];rfl
theorem aax{s:List UInt8}(h:dB s=false):((dI 0 gQ 0 [] [],false,()):aK×Bool×Unit)=(bK s,dB s,()):=by unfold bK;rw[h];rfl
theorem agY(w:Sp.LS):(if(w.length:Int)<2 then(w.length:Int)else 2).toNat=min 2 w.length:=by split<;>omega
theorem D7:OK jT.e:=by
 refine PA.ok mixed (aY [su.e,qm.e,qV.e,sU.e,zo.e,jP.e] ⟨Oc,Fp,Dt,Em,Xr,sK,trivial⟩) Rn (by kernel_rfl) (show∀line,jT.goal (PG line) (line,())from ?_);intro line hin hp;dsimp only[jT]at hp ⊢;have hp:line.length<=1048576:=hp;refine⟨hp,λ_=>bZ line=true/\2<=(ai line).length,af (λh=>aax ?_) λh=>af (λh2=>aax ?_) λh2=>⟨rfl,iD h,by have:=jC h2;omega⟩,λ_ hj=>?_⟩
 .rw[← Oi];unfold IE;rw[jX h];rfl
 .rw[← Oi];unfold IE;rw[(ku (iD h)).1]at h2;rw[h2];cases bZ line<;>rfl
 obtain⟨hok,hlen⟩:=hj;obtain⟨hw,hl1,hl2,_,_⟩:=ku hok;have hs:=mV.1 hok;have hws:∀x∈Sp.wordsOf line,x.1.length<=1000:=λx hx=>anx (Eo x hx) (anx hs.1 (by decide));have Vx:(Sp.wordsOf line).length<=24:=by rw[nH];have:=hs.2.2;omega
 rw[hw]at hlen;have hpc:dB line=(!(bn (lH (Sp.wordsOf line))==[])&&bn (lH (Sp.wordsOf line))==dX (Sp.wordsOf line)):=by rw[← Oi];unfold IE;rw[hok,anM (show ¬(((Sp.wordsOf line).length:Int)<2) by omega)];rfl
 have hpl:dB line=true->bK line=lH (Sp.wordsOf line):=λh=>(Ku h).1;have off:dB line=false->((dI 0 gQ 0 [] [],false,()):aK×Bool×Unit)=(bK line,dB line,()):=aax;obtain⟨hsm,hat⟩:=abV Vx hws;rw[hw];generalize dB line=pc at hpc hpl off ⊢;generalize bK line=pl at hpl off ⊢;generalize Sp.wordsOf line=w at hlen hl1 hl2 hws Vx hpc hpl hsm hat ⊢;have e0:(List.getD w (Int.toNat (0:Int)) ([],())).fst=Sp.wordAt w 0:=(jb (by omega)).symm;have e1:(List.getD w (Int.toNat (1:Int)) ([],())).fst=Sp.wordAt w 1:=(jb (by omega)).symm;have htk:List.take w.length w=w:=aos (anr _);have hwd:∀n,∀x∈w.drop n,x.1.length<=1048576:=λn x hx=>anx (hws x (aoG hx)) (by decide);have n1:(0:Int)<=1:=by decide
 have n2:(0:Int)<=2:=by decide
 have t1:Int.toNat (1:Int)=1:=rfl;have t2:Int.toNat (2:Int)=2:=rfl;have hdl:∀n,(w.drop n).length<=1000:=λn=>by rw[anS];omega
 refine⟨λy=>y=((),lH w,()),⟨⟨by decide,by omega⟩,?_⟩,?_⟩
 .rw[e0,e1,htk,t1,t2];unfold lH iG ig jh gu gY;cases Sp.wordAt w 0==[99,114,101,97,116,101]with
  |true=>exact⟨⟨n1,by omega⟩,⟨hdl 1,hwd 1⟩,rfl,rfl⟩
  |false=>
  cases Sp.wordAt w 0==[117,112,100,97,116,101]with
  |true=>exact⟨⟨n2,by omega⟩,n1,⟨hdl 2,hwd 2⟩,rfl,rfl⟩
  |false=>
  cases Sp.wordAt w 0==[100,101,108,101,116,101]with
  |true=>exact⟨n1,rfl,rfl⟩
  |false=>
  cases Sp.wordAt w 0==[100,101,102,105,110,101]with
  |true=>
   have hmj:(dX (w.drop 2)).length<=1048576:=by
    have hj:=Vy (m:=1000) (w:=w.drop 2) λx hx=>hws x (aoG hx);have hdl:(w.drop 2).length<=24:=by rw[anS];omega
    have:(w.drop 2).length*(1000+1)<=24*(1000+1):=anD _ hdl;omega
   exact⟨⟨n2,by omega⟩,⟨hdl 2,anx hmj (by decide)⟩,hmj,⟨n1,by omega⟩,rfl,rfl⟩
  |false=>
  cases Sp.wordAt w 0==[117,110,100,101,102,105,110,101]with
  |true=>exact⟨⟨n1,by omega⟩,rfl,rfl⟩
  |false=>exact⟨rfl,rfl⟩
 rintro _ rfl;dsimp only;refine⟨hsm,af (λh=>off ?_) λh=>⟨⟨hl1,hl2⟩,af (λh2=>off ?_) λh2=>?_⟩⟩
 .rw[hpc,show(bn (lH w)==[])=true from h];rfl
 .have h2:(bn (lH w)==dX w)=false:=jX h2;rw[hpc,h2,anJ]
 .have h2:(bn (lH w)==dX w)=true:=iD h2;have h:(bn (lH w)==[])=false:=h;have hpt:pc=true:=by rw[hpc,h2,h];rfl
  rw[hpl hpt,hpt]
end Go.Proofs.Tryz
namespace Go.Proofs.Tryz
open Go Go.Fw Go.IntWalk Sp
set_option maxRecDepth 100000
theorem rQ:OK iU.e:=by
 refine PA.ok mixed (aY [] trivial) Xu (by kernel_rfl) (show∀k,iU.goal (Vz k) (k,())from ?_);intro k hin hp;dsimp only[iU]at hp ⊢;obtain⟨h0,h1⟩:0<=k/\k<=1000000000:=hp;refine af (λh=>?_) λh=>?_
 .obtain rfl:k=0:=by have:=kH h;omega
  exact congrArg (·,()) (show[109,48]=Sp.markT 0 by unfold Sp.markT Lib.itoa;rw[if_neg (by decide)];show _=109::Lib.decDigits 0;rw[Lib.decDigits];rfl)
 have hk:0<k:=by have:=jC h;omega
 have hL:=zB k (by omega);have hit:Lib.itoa k=Lib.decDigits k.natAbs:=by rw[Lib.itoa,if_neg (by omega),show k.toNat=k.natAbs by omega]
 have hD:(Lib.decDigits k.natAbs).length<=21:=by rw[← hit];exact hL
 refine⟨λy=>0<=y.1.1/\y.1.1<=1000000000/\Lib.decDigits k.natAbs=(if y.1.1.natAbs=0 then[]else Lib.decDigits y.1.1.natAbs)++y.1.2.1,λy=>y.1.1.natAbs,⟨h0,h1,?_⟩,?_⟩
 .show _=(if k.natAbs=0 then _ else _)++_;rw[if_neg (by omega)];simp
 rintro⟨⟨c,s,⟨⟩⟩,⟨⟩⟩ ⟨hc1,hc2,hJ⟩;dsimp only at hc1 hc2 hJ ⊢;have hs:s.length<=21:=by rw[hJ,anm]at hD;omega
 refine af (λh=>?_) λh=>?_
 .have hcp:0<c:=kH h;have hc:c.natAbs≠0:=by omega
  have hstep:=WQ hc hJ;have hm:c.natAbs%10<10:=apV _ (by decide);have hlt:c.natAbs / 10<c.natAbs:=Nat.div_lt_self (by omega) (by decide);have hq:(c.tdiv 10).natAbs=c.natAbs / 10:=Int.natAbs_tdiv c 10;have hq0:0<=c.tdiv 10:=Int.tdiv_nonneg hc1 (by decide);have hw:IntKind.i64.wrap (c.tdiv 10)=c.tdiv 10:=iC _ (by omega);have e:=LH (c:=c) (by have:=aqw 10 hc1;omega);have e8:IntKind.u8.wrap (IntKind.i64.wrap (48+c.tmod 10))=48+((c.natAbs%10:Nat):Int):=by rw[e,i64_in _ (by omega),u8_in _ (by omega)]
  rw[e8,hw,JD];refine⟨by decide,dH (by rw[ano,anw];omega),by decide,rfl,⟨hq0,by omega,?_⟩,?_⟩
  .show _=(if(c.tdiv 10).natAbs=0 then[]else Lib.decDigits (c.tdiv 10).natAbs)++_;rw[hq];exact hstep
  .show(c.tdiv 10).natAbs<c.natAbs;rw[hq];exact hlt
 .obtain rfl:c=0:=by have:=jC h;omega
  have hJ:Lib.decDigits k.natAbs=s:=by simpa using hJ
  refine⟨dH (by rw[ano,anw];omega),?_⟩;unfold Sp.markT;rw[hit,hJ];rfl
theorem TP:OK wO.e:=by
 refine PA.ok mixed (aY [iU.e] ⟨rQ,trivial⟩) VA (by kernel_rfl) (show∀a k,wO.goal (TQ a k) (a,k,())from ?_);intro a k hin hp;dsimp only[wO]at hp ⊢;obtain⟨h0,h1,hl⟩:0<=k/\k<=10000000/\a.length<=1000000:=hp;refine oC (mk:=λi(v:Int)=>((v,i,()),())) (λy=>y.1.2.1) (λ_ _=>rfl) a.length (by omega) (λn v=>v=k+7*n/\mZ a k=mZ (a.drop n) v) ⟨by omega,rfl⟩ (λI μ n v hn hJ next=>?_) λI μ v hJ=>?_
 .obtain⟨rfl,hh⟩:=hJ;have hv:0<=k+7*(n:Int)/\k+7*(n:Int)<=17000000:=by omega
  rw[drop_cons a n (0,0,0,[],0,0,[],()) hn,mZ]at hh;dsimp only;have w1:IntKind.i64.wrap (k+7*(n:Int)+1)=k+7*n+1:=wrap_in (by omega);have w2:IntKind.i64.wrap (k+7*(n:Int)+1+1)=k+7*n+2:=(wrap_in (by omega)).trans (by omega);have w3:IntKind.i64.wrap (k+7*(n:Int)+2+1)=k+7*n+3:=(wrap_in (by omega)).trans (by omega);have w4:IntKind.i64.wrap (k+7*(n:Int)+3+1)=k+7*n+4:=(wrap_in (by omega)).trans (by omega);have w5:IntKind.i64.wrap (k+7*(n:Int)+4+1)=k+7*n+5:=(wrap_in (by omega)).trans (by omega);have w6:IntKind.i64.wrap (k+7*(n:Int)+5+1)=k+7*n+6:=(wrap_in (by omega)).trans (by omega);have w7:IntKind.i64.wrap (k+7*(n:Int)+6+1)=k+7*n+7:=(wrap_in (by omega)).trans (by omega);rw[w1,w2,w3,w4,w5,w6,w7,anY];have no:a.getD n (0,0,0,[],0,0,[],())≠(k+7*n,k+7*n+1,k+7*n+2,Sp.markT (k+7*n+3),k+7*n+4,k+7*n+5,Sp.markT (k+7*n+6),())->((-1:Int),())=(mZ a k,()):=λh=>by rw[hh,anM h];rfl
  have hi:(0:Int)<=n/\(n:Int)<a.length:=by omega
  refine qN (by omega) ⟨hi,af (λg1=>no ?_) λg1=>⟨hi,af (λg2=>no ?_) λg2=>⟨hi,af (λg3=>no ?_) λg3=>⟨hi,⟨by omega,by omega⟩,af (λg4=>no ?_) λg4=>⟨hi,af (λg5=>no ?_) λg5=>⟨hi,af (λg6=>no ?_) λg6=>⟨hi,⟨by omega,by omega⟩,af (λg7=>no ?_) λg7=>⟨rfl,?_⟩⟩⟩⟩⟩⟩⟩⟩
  .exactλe=>aoH.1 g1 (congrArg (·.1) e)
  .exactλe=>aoH.1 g2 (congrArg (·.2.1) e)
  .exactλe=>aoH.1 g3 (congrArg (·.2.2.1) e)
  .exactλe=>ann.1 (jX g4) (congrArg (·.2.2.2.1) e)
  .exactλe=>aoH.1 g5 (congrArg (·.2.2.2.2.1) e)
  .exactλe=>aoH.1 g6 (congrArg (·.2.2.2.2.2.1) e)
  .exactλe=>ann.1 (jX g7) (congrArg (·.2.2.2.2.2.2.1) e)
  .refine next _ ⟨by omega,?_⟩;have e1:=aoo.1 g1;have e2:=aoo.1 g2;have e3:=aoo.1 g3;have e4:=anH.1 (iD g4);have e5:=aoo.1 g5;have e6:=aoo.1 g6;have e7:=anH.1 (iD g7);have eq:a.getD n (0,0,0,[],0,0,[],())=(k+7*n,k+7*n+1,k+7*n+2,Sp.markT (k+7*n+3),k+7*n+4,k+7*n+5,Sp.markT (k+7*n+6),()):=apy e1 (apy e2 (apy e3 (apy e4 (apy e5 (apy e6 (apy e7 rfl))))));rw[hh,anF eq];rfl
 .obtain⟨rfl,hh⟩:=hJ;rw[aoU]at hh;dsimp only;exact qO (by omega) (by rw[hh];rfl)
end Go.Proofs.Tryz
namespace Go.Proofs.Tryz
open Go Go.Fw Go.RowKit Go.IntWalk Sp
set_option maxRecDepth 100000
theorem PI:OK tZ.e:=by
 refine XA.ok mixed (aY [kN.e,(rH,.pure oM)] ⟨Fe,⟨zY,yV⟩,trivial⟩) Ro (λ_ _=>⟨((_,_,()),()),⟨rfl,rfl⟩⟩) (by kernel_rfl) (show∀w,tZ.goal (PK w) (w,())from ?_);intro w hin hp;dsimp only[tZ]at hp ⊢;obtain⟨hl,hw⟩:w.length<=1000/\∀x∈w,x.1.length<=1048576:=hp;have no:(decide ((w.length:Int)<4)||!(w.length%2==0))=true->((0,0,false,0,[],()):bQ)=(lI w).1/\false=(lI w).2:=λh=>by unfold lI;rw[h];exact⟨rfl,rfl⟩
 refine⟨λ_=>4<=w.length/\w.length%2=0,af (λh=>no (by rw[h];rfl)) λh=>⟨by decide,af (λh2=>no ?_) λh2=>⟨rfl,?_⟩⟩,?_⟩
 .rw[adP]at h2;rw[h2,aqu]
 .rw[adP]at h2;exact⟨by have:=jC h;omega,anH.1 (iD h2)⟩
 rintro⟨⟨⟩,⟨⟩⟩ ⟨h4,akr⟩;have ef:lI w=((Sp.numAt w 0,Sp.numAt (w.drop 1) 0,Sp.wordAt (w.drop 1) 1==[115],Sp.numAt (w.drop 1) 2,gy (w.drop 4),()),(aQ (Sp.wordAt w 0)&&(aQ (Sp.wordAt w 1)&&aQ (Sp.wordAt w 3)))&&rU (w.drop 4)):=by unfold lI;rw[anM (show ¬((w.length:Int)<4) by omega),akr];show(jE _ _,_)=_;unfold jE;rw[ao1]
 have w1:∀i:Int,0<=i->Sp.wordAt (w.drop 1) i=Sp.wordAt w (1+i):=λi hi=>EF w 1 i (by decide) hi;have en:∀v i,Sp.numAt v i=Sp.parseNum (Sp.wordAt v i):=λ_ _=>rfl;rw[en,en,en,w1 0 (by decide),w1 1 (by decide),w1 2 (by decide)]at ef;have g0:(w.getD 0 ([],())).1=Sp.wordAt w 0:=Fq (by omega);have g1:(w.getD 1 ([],())).1=Sp.wordAt w 1:=Fq (by omega);have g2:(w.getD 2 ([],())).1=Sp.wordAt w 2:=Fq (by omega);have g3:(w.getD 3 ([],())).1=Sp.wordAt w 3:=Fq (by omega);have t0:Int.toNat (0:Int)=0:=rfl;have t1:Int.toNat (1:Int)=1:=rfl;have t2:Int.toNat (2:Int)=2:=rfl;have t3:Int.toNat (3:Int)=3:=rfl;rw[ef];refine⟨⟨by decide,by omega⟩,trivial,⟨by decide,by omega⟩,trivial,⟨by decide,by omega⟩,trivial,⟨by decide,by omega⟩,?_⟩;dsimp only;rw[t0,t1,t2,t3,g0,g1,g2,g3];refine⟨λy=>y=((aQ (Sp.wordAt w 0)&&(aQ (Sp.wordAt w 1)&&aQ (Sp.wordAt w 3)),()),()),?_,?_⟩
 .cases aQ (Sp.wordAt w 0)with
  |false=>exact⟨rfl,rfl⟩
  |true=>cases aQ (Sp.wordAt w 1)<;>exact⟨rfl,rfl⟩
 rintro _ rfl;generalize (aQ (Sp.wordAt w 0)&&(aQ (Sp.wordAt w 1)&&aQ (Sp.wordAt w 3)))=ok0;refine⟨λy=>∃(n:Nat)(ok:Bool)(al:List dY),y=((ok,((4+2*n:Nat):Int),()),(Sp.parseNum (Sp.wordAt w 0),Sp.parseNum (Sp.wordAt w 1),Sp.wordAt w 2==[115],Sp.parseNum (Sp.wordAt w 3),(),()),al,())/\4+2*n<=w.length/\al.length=n/\
  al++gy (w.drop (4+2*n))=gy (w.drop 4)/\(ok&&rU (w.drop (4+2*n)))=(ok0&&rU (w.drop 4)),λy=>((w.length:Int)-y.1.2.1).toNat,⟨0,ok0,[],rfl,h4,rfl,rfl,rfl⟩,?_⟩
 rintro _ ⟨n,ok,al,rfl,hn,hal,has,hok⟩;dsimp only;refine af (λh=>?_) λh=>?_
 .have hlt:=kH h;have hlt2:4+2*n+1<w.length:=by omega
  have e1:IntKind.i64.wrap (((4+2*n:Nat):Int)+1)=((4+2*n+1:Nat):Int):=(wrap_in (by omega)).trans (by omega);have e2:IntKind.i64.wrap (((4+2*n:Nat):Int)+2)=((4+2*(n+1):Nat):Int):=(wrap_in (by omega)).trans (by omega);rw[e1,e2,anY,anY];have hd:=abU hlt2;have hd2:w.drop (4+2*n+2)=w.drop (4+2*(n+1)):=by rw[show 4+2*n+2=4+2*(n+1) by omega]
  rw[hd2]at hd;rw[hd]at has hok;have ha:gy (w.getD (4+2*n) ([],())::w.getD (4+2*n+1) ([],())::w.drop (4+2*(n+1)))=((w.getD (4+2*n) ([],())).1,(aW (w.getD (4+2*n+1) ([],())).1).1)::gy (w.drop (4+2*(n+1))):=rfl;have hv:rU (w.getD (4+2*n) ([],())::w.getD (4+2*n+1) ([],())::w.drop (4+2*(n+1)))=((aW (w.getD (4+2*n+1) ([],())).1).2&&rU (w.drop (4+2*(n+1)))):=rfl;rw[ha]at has;rw[hv]at hok;refine⟨⟨by omega,by omega⟩,hw _ (getD_mem hlt2),⟨by omega,by omega⟩,pV (by rw[ano,anw];omega),?_⟩;have next:∀b:Bool,(b&&rU (w.drop (4+2*(n+1))))=(ok0&&rU (w.drop 4))->∃(m:Nat)(ok:Bool)(al':List dY),((b,((4+2*(n+1):Nat):Int),()),(Sp.parseNum (Sp.wordAt w 0),Sp.parseNum (Sp.wordAt w 1),Sp.wordAt w 2==[115],Sp.parseNum (Sp.wordAt w 3),(),()),al++[((w.getD (4+2*n) ([],())).1,(aW (w.getD (4+2*n+1) ([],())).1).1)],())=((ok,((4+2*m:Nat):Int),()),(Sp.parseNum (Sp.wordAt w 0),Sp.parseNum (Sp.wordAt w 1),Sp.wordAt w 2==[115],Sp.parseNum (Sp.wordAt w 3),(),()),al',())/\4+2*m<=w.length/\al'.length=m/\
   al'++gy (w.drop (4+2*m))=gy (w.drop 4)/\(ok&&rU (w.drop (4+2*m)))=(ok0&&rU (w.drop 4)):=λb hb=>
   ⟨n+1,b,_,rfl,by omega,by rw[anm,ano,anw,hal],by rw[anG];exact has,hb⟩
  cases ok with
  |true=>exact⟨rfl,next _ (by rw[← hok,anQ]),by omega⟩
  |false=>exact⟨rfl,next _ (by rw[← hok,aoa,aoa]),by omega⟩
 .have hge:4+2*n=w.length:=by have:=jC h;omega
  rw[hge,aoU]at has hok;have e1:al=gy (w.drop 4):=by rw[← has];exact(an4 _).symm
  have e2:ok=(ok0&&rU (w.drop 4)):=by rw[← hok];exact(an6 _).symm
  rw[e1,e2];exact⟨rfl,rfl⟩
theorem af4(k:Nat)(x:aG):Fw.look [(k,x)] k=some x:=by simp[Fw.look]
theorem VB{k o:Nat}{x y:aG}(h:Fw.look [(k,x)] o=some y):o=k/\y=x:=by
 rw[Fw.look]at h;cases hb:Nat.beq o k with
 |true=>rw[hb]at h;exact⟨anp hb,by cases h;rfl⟩
 |false=>rw[hb]at h;cases h
theorem Jh:qw prog G uM ru:=by
 intro args p ρ hcon hp;unfold ru zX at hcon;split at hcon
 .next x hx=>
  revert x;show∀x:List UInt8×Unit,_;rintro⟨s,⟨⟩⟩ hx hcon;have hF:=Option.some.inj hcon;have hp1:(s.length<=1048576)=p:=congrArg Prod.fst hF;have hρ:=congrArg Prod.snd hF;simp only at hρ;subst hρ;have hs:s.length<=1048576:=by rw[hp1];exact hp
  obtain⟨a0,r0,rfl,hx0,h1⟩:=acW hx;have:=aeB h1;subst this;refine⟨⟨((eH s,fH s,()),()),⟨rfl,rfl⟩⟩,?_⟩;intro k S γ vs w hG hrep oz hap hk
  match hvs:vs.toList,hrep with
  |[v],hrep=>
   have harg:ny ⟨w,w.heap.size,S,γ,dN [a0]⟩ a0 v:=by
    have hr:=hrep.1;cases a0 with
    |sv _|kp _|fn _ _=>exact hr
    |own _ _ _|ptr _=>simp[iH.read,gG.read]at hx0
   have hno:∀q,dN [a0] q=none:=by
    cases a0 with
    |sv _|kp _|fn _ _=>exactλq=>by unfold dN;rcases q / 64 with _|n<;>rfl
    |own _ _ _|ptr _=>simp[iH.read,gG.read]at hx0
   have hv:=gG.weak (.v (.one .str)) a0 s v hx0 harg;have e1:v=.string ⟨s.toArray⟩:=hv.1;have evs:vs=#[.string ⟨s.toArray⟩]:=by obtain⟨vl⟩:=vs;simp at hvs;rw[hvs,e1]
   subst evs;refine(Xn s hs w hG).mono ?_;rintro e w' ⟨u,rfl,hb,hn,hl⟩;obtain⟨xs,hn1,hn2,hn3⟩:=id hn;have Rq:∀q y,¬kD [Eff.lose] q=some y:=λq y h=>by
    have e:kD [Eff.lose] q=none:=by unfold kD;rcases q / 64 with _|n<;>rfl
    rw[e]at h;cases h
   have ub:∀b,blk u=some b->u.ownBlock=some b:=λb hb2=>by obtain⟨a,cap,rfl⟩:=hn.form;cases a with|none=>cases hb2|some a=>exact hb2
   refine⟨((eH s,fH s,()),()),⟨rfl,rfl⟩,_,λ_=>u,rfl,hb.os,hb.tape,hb.output,hb.size,λb hb2 _=>hb.block b hb2,?_,?_,?_,?_⟩
   .refine⟨_,rfl,⟨⟨_,_,_,_,af4 k _⟩,rfl,?_⟩,rfl,trivial⟩;obtain⟨a,cap,e⟩:=hn.form;rw[e];rfl
   .intro o x ho;obtain⟨rfl,rfl⟩:=VB ho;refine⟨⟨xs,⟨hn1.1,hn1.2.imp id λ⟨g,cap,cur,e,e2,e3⟩=>⟨g,cap,cur,e,ant _,e3⟩⟩,by decide,λb hb2 _=>(hn.lt (ub b hb2)).1,λi x hx=>aU.flat (S:=λ_=>False) _ _ _ rfl (hn3 i x hx)⟩,λb hb2=>⟨(hn.lt (ub b hb2)).2.1,.inl (hn.lt (ub b hb2)).1,λq y hq=>absurd hq (Rq q y)⟩⟩
   .intro o x q y b ho hq hne;exact absurd ((VB ho).1.trans (VB hq).1.symm) hne
   .exactλo x ho=>absurd ho (Rq o x)
 .cases hcon
theorem abW{line:List UInt8}(h:dB line=false):dI 0 gQ 0 [] []=bK line/\false=dB line:=by have:=aax h;exact⟨congrArg (·.1) this,congrArg (·.2.1) this⟩
theorem IG:OK jc.e:=by
 refine XA.ok mixed (aY [qj.e,rZ.e,(uM,.eff (KI nY) ru),(lZ,.pure jL),sS.e,tX.e,tZ.e,iW.e] ⟨Fa,Og,⟨Jh,Ii⟩,⟨um,rJ⟩,Ej,Iu,PI,yw,trivial⟩) Ji (λ_ _=>⟨((_,_,()),()),⟨rfl,rfl⟩⟩) (by kernel_rfl) (show∀line,jc.goal (II line) (line,())from ?_);intro line hin hp;dsimp only[jc]at hp ⊢;have hp:line.length<=1048576:=hp;refine⟨hp,λ_=>bZ line=true/\ai line≠[],af (λh=>abW ?_) λh=>af (λh2=>abW ?_) λh2=>⟨rfl,iD h,λe=>?_⟩,λ_ hj=>?_⟩
 .unfold dB;rw[jX h];rfl
 .have h2:((ai line).length:Int)=0:=by simpa using h2
  have hn:Sp.wordsOf line=[]:=by rw[← (ku (iD h)).1];exact anV.1 (by omega)
  unfold dB;rw[hn];cases bZ line<;>rfl
 .rw[e]at h2;revert h2;decide
 obtain⟨hok,hne⟩:=hj;obtain⟨hw,hl1,hl2,_,_⟩:=ku hok;have hs:=mV.1 hok;have hws:∀x∈Sp.wordsOf line,x.1.length<=1000:=λx hx=>anx (Eo x hx) (anx hs.1 (by decide));have Vx:(Sp.wordsOf line).length<=24:=by rw[nH];have:=hs.2.2;omega
 have hpc:dB line=((gJ (Sp.wordsOf line)).2&&(!(bn (gJ (Sp.wordsOf line)).1==[])&&decide (Sp.wordsOf (bn (gJ (Sp.wordsOf line)).1)=Sp.wordsOf line))):=by unfold dB;rw[hok,show(Sp.wordsOf line==[])=false from ann.2 (by rw[← hw];exact hne)];rfl
 have hpl:dB line=true->bK line=(gJ (Sp.wordsOf line)).1:=λh=>(Ku h).2;have off:dB line=false->dI 0 gQ 0 [] []=bK line/\false=dB line:=abW;obtain⟨hsm,hat⟩:=Rt Vx hws;have hft:=abX _ hat;have hfa:=af5 (gJ (Sp.wordsOf line)).1;rw[hw]at hne ⊢;rw[hok];generalize dB line=pc at hpc hpl off ⊢;generalize bK line=pl at hpl off ⊢;generalize Sp.wordsOf line=w at hne hl1 hl2 hws Vx hpc hpl hsm hat hft hfa ⊢;have hlen:0<w.length:=aph.2 hne;have hlen2:(0:Int)<(w.length:Int):=by omega
 have e0:(List.getD w (Int.toNat (0:Int)) ([],())).fst=Sp.wordAt w 0:=(jb (by omega)).symm;have htk:List.take w.length w=w:=aos (anr _);have hwd:∀n,∀x∈w.drop n,x.1.length<=1048576:=λn x hx=>anx (hws x (aoG hx)) (by decide);have n1:(0:Int)<=1:=by decide
 have t1:Int.toNat (1:Int)=1:=rfl;refine⟨λy=>y.1.1=(gJ w).2/\(y.2.1.1,y.2.1.2.1,y.2.1.2.2.1,y.2.1.2.2.2.1,y.2.1.2.2.2.2.1,y.2.2.1,y.2.1.2.2.2.2.2.2.1,y.2.1.2.2.2.2.2.2.2.1,y.2.2.2.1,())=(gJ w).1,⟨⟨by decide,hlen2⟩,?_⟩,?_⟩
 .rw[e0,htk,t1];unfold gJ iG ig jh gu gY;cases Sp.wordAt w 0==[99,114,101,97,116,101]with
  |true=>
   refine⟨⟨n1,by omega⟩,pV (by rw[anS,ano,anw];omega),⟨by rw[anm,anS,ano,anw];omega,λx hx=>?_⟩,λr hr=>⟨rfl,hr.2,congrArg (λf=>dI 1 f 0 [] []) hr.1⟩⟩;rcases aoc.1 hx with hx|hx
   .rw[aoq.1 hx];show 1<=_;decide
   .exact hwd 1 x hx
  |false=>
  cases Sp.wordAt w 0==[117,112,100,97,116,101]with
  |true=>exact⟨⟨n1,by omega⟩,⟨by rw[anS];omega,hwd 1⟩,λr hr=>⟨rfl,hr.2,congrArg (λf=>dI 2 f 0 [] []) hr.1⟩⟩
  |false=>
  cases Sp.wordAt w 0==[100,101,108,101,116,101]with
  |true=>exact⟨n1,rfl,rfl,rfl⟩
  |false=>
  cases Sp.wordAt w 0==[100,101,102,105,110,101]with
  |true=>
   have hmd:w.drop (if(w.length:Int)<2 then(w.length:Int)else 2).toNat=w.drop 2:=by
    rw[agY];rcases anL w.length 2 with h|h
    .rw[Nat.min_eq_right (by omega),aoU,aoI (by omega)]
    .rw[apE h]
   have hmj:(Lib.join ((w.drop 2).map λx=>x.1) [32]).length<=1048576:=by
    have hj:=Vy (m:=1000) (w:=w.drop 2) λx hx=>hws x (aoG hx);have hdl:(w.drop 2).length<=24:=by rw[anS];omega
    have:(w.drop 2).length*(1000+1)<=24*(1000+1):=anD _ hdl;exact anx hj (by omega)
   dsimp only;rw[hmd];refine⟨n1,⟨?_,?_⟩,⟨by rw[anS];omega,anx hmj (by decide)⟩,hmj,λr hr=>⟨rfl,hr.2,congrArg (λq=>dI 4 gQ 0 (Sp.wordAt w 1) q) hr.1⟩⟩
   .split<;>omega
   .split<;>omega
  |false=>
  cases Sp.wordAt w 0==[117,110,100,101,102,105,110,101]with
  |true=>exact⟨n1,rfl,rfl,rfl⟩
  |false=>exact⟨rfl,rfl,rfl⟩
 rintro⟨⟨b,⟨⟩⟩,⟨k,f0,f1,f2,f3,⟨⟩,id,nm,⟨⟩,⟨⟩⟩,at',q,⟨⟩⟩ ⟨hb,hc⟩;dsimp only at hb hc ⊢;obtain rfl:=hb;rw[hc];refine af (λh=>off ?_) λh=>⟨hsm,⟨anx hft (by decide),hfa⟩,af (λh2=>off ?_) λh2=>?_⟩
 .rw[hpc,jX h];rfl
 .have h2:(!(bn (gJ w).1==[])&&decide (Sp.wordsOf (bn (gJ w).1)=w))=false:=jX h2;rw[hpc,h2,anJ]
 .have h2:(!(bn (gJ w).1==[])&&decide (Sp.wordsOf (bn (gJ w).1)=w))=true:=iD h2;have hpt:pc=true:=by rw[hpc,h2,iD h];rfl
  rw[hpl hpt,hpt]
  first|exact⟨rfl,rfl⟩|exact⟨hc,rfl⟩
end Go.Proofs.Tryz
namespace Go.Proofs.Tryz
open Go Go.Fw Go.RowKit Sp
set_option maxRecDepth 100000
theorem SH(k:Int)(h:0<=k/\k<=1000000000)(w:World)(hG:G.ok w):Calls prog 96 #[.int .i64 k] w λe w'=>e=.returned (.string ⟨(Sp.markT k).toArray⟩)/\Below w.heap.size w w':=by have hc:gW prog G 96 (iM iU.sh iU.bU iU.F):=rQ.1;refine(hc [.sv (.one (.int .i64 k))] (0<=k/\k<=1000000000) ⟨[(false,[.plain (.str (Sp.markT k))])],none⟩ 0 (λ_=>True) #[.int .i64 k] w rfl h hG ⟨⟨rfl,by show -9223372036854775808<=k;omega,by show k<=9223372036854775807;omega⟩,trivial⟩).mono ?_;rintro e w' ⟨v,vals,rfl,h1,h2,h3,h4,h5,h6,_,_⟩;have h6:v=.string ⟨(Sp.markT k).toArray⟩/\(Sp.markT k).length<=maxLen:=h6;exact⟨by rw[h6.1],h1,h2,h3,h4,h5⟩
theorem Step.set{a b:World}{P j:Nat}{o:Option Nat}{v:Value}(h:Step a b P o):Step a (b.setCell ⟨P,j,none⟩ v) P o:=
 ⟨h.os,h.tape,h.output,by simpa[World.setCell]using h.size,λx hx hP ho=>(mO v hP).trans (h.block x hx hP ho)⟩
theorem ahO{W w:World}{g:Nat}(hG:G.ok W)(hg:G.n<=g)(h:Step W w g none):G.ok w:=
 G.stable W w hG h.size λb hb=>h.block b (anE hb (G.low W hG)) (by omega) λe=>by cases e
theorem VD(k:Int)(h:0<=k/\k<=1000000000){W w:World}{g i j l t:Nat}{x y z:Value}{cur:Array Value}(hG:G.ok W)(hg:G.n<=g)(st:Step W w g none)(hr:w.heap[g]? =some (.cells cur t (0,0))):
 Calls prog 96 #[.int .i64 k] (((w.setCell ⟨g,i,none⟩ x).setCell ⟨g,j,none⟩ y).setCell ⟨g,l,none⟩ z) λe w'=>e=.returned (.string ⟨(Sp.markT k).toArray⟩)/\
  w'.heap[g]? =some (.cells (((cur.setIfInBounds i x).setIfInBounds j y).setIfInBounds l z) t (0,0))/\Step W w' g none:=by
 have hr3:=dM (dM (dM hr i x) j y) l z;have Uy:Step W (((w.setCell ⟨g,i,none⟩ x).setCell ⟨g,j,none⟩ y).setCell ⟨g,l,none⟩ z) g none:=st.set.set.set;generalize (((w.setCell ⟨g,i,none⟩ x).setCell ⟨g,j,none⟩ y).setCell ⟨g,l,none⟩ z)=w3 at hr3 Uy ⊢;refine(SH k h w3 (ahO hG hg Uy)).mono ?_;rintro e w' ⟨rfl,hb⟩;exact⟨rfl,(hb.block g (anq.1 hr3).1).trans hr3,Uy.below hb⟩
def YI(cur:Array Value)(k:Int)(n:Nat):Prop:=∀j,j<n->cur[j*4]? =some (.string ⟨(Sp.markT (k+4*j)).toArray⟩)/\cur[j*4+1]? =some (.int .i64 (k+4*j+1))/\cur[j*4+2]? =some (.int .i64 (k+4*j+2))/\cur[j*4+3]? =some (.string ⟨(Sp.markT (k+4*j+3)).toArray⟩)
theorem kK{cur:Array Value}{i:Nat}{v:Value}(h:i<cur.size):(cur.setIfInBounds i v)[i]? =some v:=by rw[Array.getElem?_setIfInBounds_self,if_pos h]
theorem YI.next{cur:Array Value}{k:Int}{n:Nat}(h:YI cur k n)(hs:(n+1)*4<=cur.size):
 YI ((((cur.setIfInBounds (n*4) (.string ⟨(Sp.markT (k+4*n)).toArray⟩)).setIfInBounds (n*4+1) (.int .i64 (k+4*n+1))).setIfInBounds (n*4+1+1) (.int .i64 (k+4*n+1+1))).setIfInBounds (n*4+1+2) (.string ⟨(Sp.markT (k+4*n+1+1+1)).toArray⟩)) k (n+1):=by
 intro j hj;rcases anL j n with hlt|hge
 .obtain⟨h1,h2,h3,h4⟩:=h j hlt;refine⟨?_,?_,?_,?_⟩<;>rw[anX (by omega),anX (by omega),anX (by omega),anX (by omega)]<;>assumption
 .obtain rfl:j=n:=by omega
  rw[show k+4*(j:Int)+2=k+4*j+1+1 by omega,show k+4*(j:Int)+3=k+4*j+1+1+1 by omega];refine⟨?_,?_,?_,?_⟩
  .rw[anX (by omega),anX (by omega),anX (by omega)];exact kK (by omega)
  .rw[anX (by omega),anX (by omega)];exact kK (by rw[anT];omega)
  .rw[anX (by omega)];exact kK (by rw[anT,anT];omega)
  .exact kK (by rw[anT,anT,anT];omega)
set_option maxHeartbeats 16000000 in
theorem aeT(W:World)(g cap:Nat)(cur:Array Value)(len:Nat)(k:Int)(hG:G.ok W)(hg:G.n<=g)(hrow:W.heap[g]? =some (.cells cur 84 (0,0)))(hsz:cur.size=cap*4)(hle:len<=cap)(hk:0<=k/\k<=10000000)(hl:len<=1000000):
 Calls prog 135 #[.slice (some ⟨g,0,none⟩) len cap,.int .i64 k] W λe w'=>e=.returned (.int .i64 (k+4*len))/\(∃cur',w'.heap[g]? =some (.cells cur' 84 (0,0))/\cur'.size=cap*4/\YI cur' k len)/\Step W w' g none:=by
 have mixed:=Tryz.mixed
 go_enter Tryz.func135,Tryz.ntmps135
 go_wp2
 go_loopw [1,5] (λkk i wr=>∃(n:Nat)(cur':Array Value),n<=len/\kk=.int .i64 (k+4*n)/\i=.int .i64 n/\wr.heap[g]? =some (.cells cur' 84 (0,0))/\cur'.size=cap*4/\YI cur' k n/\Step W wr g none)
  (λ_ i _=>len-(intOf i).toNat)
 case atStart=>exact⟨0,cur,ant _,by simp,rfl,hrow,hsz,λj hj=>absurd hj (aod _),rfl,rfl,rfl,anr _,λ_ _ _ _=>rfl⟩
 case round=>
  obtain⟨n,cur',hn,rfl,rfl,hr,hs,hA,hst⟩:=hrel;rcases anL n len with hlt|hge
  .have hlt':((n:Nat):Int)<len:=by omega
   have hin:∀i,i<4->∃u,cur'[n*4+i]? =some u:=λi hi=>by have:(n+1)*4<=cap*4:=anD _ (by omega);exact⟨_,aoZ (by omega)⟩
   obtain⟨u0,hu0⟩:=hin 0 (by decide);obtain⟨u1,hu1⟩:=hin 1 (by decide);obtain⟨u2,hu2⟩:=hin 2 (by decide);obtain⟨u3,hu3⟩:=hin 3 (by decide);clear hin;have mt1:=SH (k+4*n) (by omega) wr (ahO hG hg hst)
   go_wp2_with (first
    |(go_at_call 96;refine mt1.mono ?_;rintro e w2 ⟨rfl,hb2⟩;have hr2:=(hb2.block g (anq.1 hr).1).trans hr;have z0:=aX hr2 (n*4);have z1:=aX hr2 (n*4+1);have z2:=aX hr2 (n*4+1+1);have c0:w2.cell? ⟨g,n*4,none⟩=some u0:=(aA hr2 _).trans hu0;have c1:w2.cell? ⟨g,n*4+1,none⟩=some u1:=(aA hr2 _).trans hu1;have c2:w2.cell? ⟨g,n*4+1+1,none⟩=some u2:=(aA hr2 _).trans hu2;have st2:=hst.below hb2;clear mt1)
    |(go_at_call 96;have hx:=VD (k+4*↑n+1+1+1) (by omega) hG hg st2 hr2 (i:=n*4) (j:=n*4+1) (l:=n*4+1+1) (x:=.string ⟨(Sp.markT (k+4*↑n)).toArray⟩) (y:=.int .i64 (k+4*↑n+1)) (z:=.int .i64 (k+4*↑n+1+1));refine anU hx ?_;clear hx;rintro e w3 ⟨rfl,hr3,Uy⟩;have z3:=aX hr3 (n*4+1+2);have c3:w3.cell? ⟨g,n*4+1+2,none⟩=some u3:=(aA hr3 _).trans (by rw[anX (by omega),anX (by omega),anX (by omega)];exact hu3)))
   have alR:(n+1)*4<=cap*4:=anD _ (by omega);refine⟨⟨n+1,_,hlt,congrArg _ (by omega),rfl,dM hr3 _ _,?_,hA.next (by omega),Uy.set⟩,?_⟩
   .rw[anT,anT,anT,anT];exact hs
   .simp only[intOf];omega
  .have hge':¬((n:Nat):Int)<len:=by omega
   obtain rfl:n=len:=by omega
   go_wp2
   all_goals go_ret
   all_goals exact⟨rfl,⟨_,hr,hs,hA⟩,hst⟩
def YJ(cur:Array Value)(k:Int)(n:Nat):Prop:=∀j,j<n->cur[j*7]? =some (.int .i64 (k+7*j))/\cur[j*7+1]? =some (.int .i64 (k+7*j+1))/\cur[j*7+2]? =some (.int .i64 (k+7*j+2))/\cur[j*7+3]? =some (.string ⟨(Sp.markT (k+7*j+3)).toArray⟩)/\cur[j*7+4]? =some (.int .i64 (k+7*j+4))/\cur[j*7+5]? =some (.int .i64 (k+7*j+5))/\cur[j*7+6]? =some (.string ⟨(Sp.markT (k+7*j+6)).toArray⟩)
theorem ay{cur:Array Value}{i j:Nat}{v u:Value}(h:i≠j)(hc:cur[j]? =some u):(cur.setIfInBounds i v)[j]? =some u:=by rw[anX h];exact hc
theorem YJ.next{cur:Array Value}{k:Int}{n:Nat}(h:YJ cur k n)(hs:(n+1)*7<=cur.size):
 YJ (((((((cur.setIfInBounds (n*7) (.int .i64 (k+7*n))).setIfInBounds (n*7+1) (.int .i64 (k+7*n+1))).setIfInBounds (n*7+2) (.int .i64 (k+7*n+1+1))).setIfInBounds (n*7+3) (.string ⟨(Sp.markT (k+7*n+1+1+1)).toArray⟩)).setIfInBounds (n*7+4) (.int .i64 (k+7*n+1+1+1+1))).setIfInBounds (n*7+4+1) (.int .i64 (k+7*n+1+1+1+1+1))).setIfInBounds (n*7+4+2) (.string ⟨(Sp.markT (k+7*n+1+1+1+1+1+1)).toArray⟩)) k (n+1):=by
 intro j hj;rcases anL j n with hlt|hge
 .obtain⟨h1,h2,h3,h4,h5,h6,h7⟩:=h j hlt;refine⟨?_,?_,?_,?_,?_,?_,?_⟩<;>refine ay (by omega) (ay (by omega) (ay (by omega) (ay (by omega) (ay (by omega) (ay (by omega) (ay (by omega) ?_))))))<;>assumption
 .obtain rfl:j=n:=by omega
  rw[show k+7*(j:Int)+2=k+7*j+1+1 by omega,show k+7*(j:Int)+3=k+7*j+1+1+1 by omega,show k+7*(j:Int)+4=k+7*j+1+1+1+1 by omega,show k+7*(j:Int)+5=k+7*j+1+1+1+1+1 by omega,show k+7*(j:Int)+6=k+7*j+1+1+1+1+1+1 by omega];refine⟨ay (by omega) (ay (by omega) (ay (by omega) (ay (by omega) (ay (by omega) (ay (by omega) (kK ?_)))))),ay (by omega) (ay (by omega) (ay (by omega) (ay (by omega) (ay (by omega) (kK ?_))))),ay (by omega) (ay (by omega) (ay (by omega) (ay (by omega) (kK ?_)))),ay (by omega) (ay (by omega) (ay (by omega) (kK ?_))),ay (by omega) (ay (by omega) (kK ?_)),ay (by omega) (kK ?_),kK ?_⟩<;>(try simp only[anT])<;>omega
set_option maxHeartbeats 16000000 in
theorem aeU(W:World)(g cap:Nat)(cur:Array Value)(len:Nat)(k:Int)(hG:G.ok W)(hg:G.n<=g)(hrow:W.heap[g]? =some (.cells cur 125 (0,0)))(hsz:cur.size=cap*7)(hle:len<=cap)(hk:0<=k/\k<=10000000)(hl:len<=1000000):
 Calls prog 136 #[.slice (some ⟨g,0,none⟩) len cap,.int .i64 k] W λe w'=>e=.returned (.int .i64 (k+7*len))/\(∃cur',w'.heap[g]? =some (.cells cur' 125 (0,0))/\cur'.size=cap*7/\YJ cur' k len)/\Step W w' g none:=by
 have mixed:=Tryz.mixed
 go_enter Tryz.func136,Tryz.ntmps136
 go_wp2
 go_loopw [1,5] (λkk i wr=>∃(n:Nat)(cur':Array Value),n<=len/\kk=.int .i64 (k+7*n)/\i=.int .i64 n/\wr.heap[g]? =some (.cells cur' 125 (0,0))/\cur'.size=cap*7/\YJ cur' k n/\Step W wr g none)
  (λ_ i _=>len-(intOf i).toNat)
 case atStart=>exact⟨0,cur,ant _,by simp,rfl,hrow,hsz,λj hj=>absurd hj (aod _),rfl,rfl,rfl,anr _,λ_ _ _ _=>rfl⟩
 case round=>
  obtain⟨n,cur',hn,rfl,rfl,hr,hs,hA,hst⟩:=hrel;rcases anL n len with hlt|hge
  .have hlt':((n:Nat):Int)<len:=by omega
   have alR:(n+1)*7<=cap*7:=anD _ (by omega);have hin:∀i,i<7->∃u,cur'[n*7+i]? =some u:=λi hi=>⟨_,aoZ (by omega)⟩;obtain⟨u0,hu0⟩:=hin 0 (by decide);obtain⟨u1,hu1⟩:=hin 1 (by decide);obtain⟨u2,hu2⟩:=hin 2 (by decide);obtain⟨u3,hu3⟩:=hin 3 (by decide);obtain⟨u4,hu4⟩:=hin 4 (by decide);obtain⟨u5,hu5⟩:=hin 5 (by decide);obtain⟨u6,hu6⟩:=hin 6 (by decide);clear hin;have mt1:=VD (k+7*n+1+1+1) (by omega) hG hg hst hr (i:=n*7) (j:=n*7+1) (l:=n*7+2) (x:=.int .i64 (k+7*n)) (y:=.int .i64 (k+7*n+1)) (z:=.int .i64 (k+7*n+1+1));have z0:=aX hr (n*7);have z1:=aX hr (n*7+1);have z2:=aX hr (n*7+2);have c0:wr.cell? ⟨g,n*7,none⟩=some u0:=(aA hr _).trans hu0;have c1:wr.cell? ⟨g,n*7+1,none⟩=some u1:=(aA hr _).trans hu1;have c2:wr.cell? ⟨g,n*7+2,none⟩=some u2:=(aA hr _).trans hu2
   go_wp2_with (first
    |(go_at_call 96;refine anU mt1 ?_;rintro e w2 ⟨rfl,hr2,st2⟩;have z3:=aX hr2 (n*7+3);have z4:=aX hr2 (n*7+4);have z5:=aX hr2 (n*7+4+1);have c3:w2.cell? ⟨g,n*7+3,none⟩=some u3:=(aA hr2 _).trans (ay (by omega) (ay (by omega) (ay (by omega) hu3)));have c4:w2.cell? ⟨g,n*7+4,none⟩=some u4:=(aA hr2 _).trans (ay (by omega) (ay (by omega) (ay (by omega) hu4)));have c5:w2.cell? ⟨g,n*7+4+1,none⟩=some u5:=(aA hr2 _).trans (ay (by omega) (ay (by omega) (ay (by omega) hu5)));clear mt1)
    |(go_at_call 96;have hx:=VD (k+7*↑n+1+1+1+1+1+1) (by omega) hG hg st2 hr2 (i:=n*7+3) (j:=n*7+4) (l:=n*7+4+1) (x:=.string ⟨(Sp.markT (k+7*↑n+1+1+1)).toArray⟩) (y:=.int .i64 (k+7*↑n+1+1+1+1)) (z:=.int .i64 (k+7*↑n+1+1+1+1+1));refine anU hx ?_;clear hx;rintro e w3 ⟨rfl,hr3,Uy⟩;have z6:=aX hr3 (n*7+4+2);have c6:w3.cell? ⟨g,n*7+4+2,none⟩=some u6:=(aA hr3 _).trans (ay (by omega) (ay (by omega) (ay (by omega) (ay (by omega) (ay (by omega) (ay (by omega) hu6))))))))
   refine⟨⟨n+1,_,hlt,congrArg _ (by omega),rfl,dM hr3 _ _,?_,hA.next (by omega),Uy.set⟩,?_⟩
   .simp only[anT];exact hs
   .simp only[intOf];omega
  .have hge':¬((n:Nat):Int)<len:=by omega
   obtain rfl:n=len:=by omega
   go_wp2
   all_goals go_ret
   all_goals exact⟨rfl,⟨_,hr,hs,hA⟩,hst⟩
theorem af8(W:World)(k:Int):Calls prog 135 #[.slice none 0 0,.int .i64 k] W λe w'=>e=.returned (.int .i64 k)/\w'=W:=by
 have mixed:=Tryz.mixed
 go_enter Tryz.func135,Tryz.ntmps135
 go_wp2
 go_loopw [1,5] (λkk i wr=>kk=.int .i64 k/\i=.int .i64 0/\wr=W) (λ_ _ _=>0)
 case atStart=>exact⟨rfl,rfl,rfl⟩
 case round=>
  obtain⟨rfl,rfl,rfl⟩:=hrel
  go_wp2
  all_goals go_ret
  all_goals exact⟨rfl,rfl⟩
theorem af9(W:World)(k:Int):Calls prog 136 #[.slice none 0 0,.int .i64 k] W λe w'=>e=.returned (.int .i64 k)/\w'=W:=by
 have mixed:=Tryz.mixed
 go_enter Tryz.func136,Tryz.ntmps136
 go_wp2
 go_loopw [1,5] (λkk i wr=>kk=.int .i64 k/\i=.int .i64 0/\wr=W) (λ_ _ _=>0)
 case atStart=>exact⟨rfl,rfl,rfl⟩
 case round=>
  obtain⟨rfl,rfl,rfl⟩:=hrel
  go_wp2
  all_goals go_ret
  all_goals exact⟨rfl,rfl⟩
end Go.Proofs.Tryz
namespace Go.Proofs.Tryz
open Go Go.Fw Go.RowKit
set_option maxRecDepth 100000
structure Wr(W w:World)(S:Nat->Prop):Prop where
 os:w.os=W.os
 tape:w.tape=W.tape
 output:w.output=W.output
 size:W.heap.size<=w.heap.size
 block:∀b,b<W.heap.size->¬S b->w.heap[b]? =W.heap[b]?
theorem Wr.trans{a b c:World}{S:Nat->Prop}(h:Wr a b S)(k:Wr b c S):Wr a c S:=
 ⟨k.os.trans h.os,k.tape.trans h.tape,k.output.trans h.output,anx h.size k.size,λx hx hs=>(k.block x (anE hx h.size) hs).trans (h.block x hx hs)⟩
theorem Wr.mono{a b:World}{S S':Nat->Prop}(h:Wr a b S)(hs:∀x,S x->S' x):Wr a b S':=
 ⟨h.os,h.tape,h.output,h.size,λx hx hn=>h.block x hx λe=>hn (hs x e)⟩
theorem Wr.of{a b:World}(S:Nat->Prop)(h:Below a.heap.size a b):Wr a b S:=⟨h.os,h.tape,h.output,h.size,λx hx _=>h.block x hx⟩
theorem Wr.fresh{a b:World}{S:Nat->Prop}(h:Wr a b S)(hs:∀x,x<a.heap.size->¬S x):Below a.heap.size a b:=⟨h.os,h.tape,h.output,h.size,λx hx=>h.block x hx (hs x hx)⟩
def OA(w:World)(B t z:Nat)(v:Value)(n:Nat):Prop:=
 (v=.slice none 0 0/\n=0)\/∃g cap cur,v=.slice (some ⟨g,0,none⟩) n cap/\B<=g/\w.heap[g]? =some (.cells cur t (0,0))/\n<=cap/\cur.size=cap*z
def MAt(w:World)(v:Value)(n:Nat)(k:Int):Prop:=
 (v=.slice none 0 0/\n=0)\/∃g cap cur,v=.slice (some ⟨g,0,none⟩) n cap/\n<=cap/\w.heap[g]? =some (.cells cur 84 (0,0))/\YI cur k n
def MNt(w:World)(v:Value)(n:Nat)(k:Int):Prop:=
 (v=.slice none 0 0/\n=0)\/∃g cap cur,v=.slice (some ⟨g,0,none⟩) n cap/\n<=cap/\w.heap[g]? =some (.cells cur 125 (0,0))/\YJ cur k n
theorem OA.form{w:World}{B t z:Nat}{v:Value}{n:Nat}(h:OA w B t z v n):∃a c,v=.slice a n c:=by rcases h with⟨rfl,rfl⟩|⟨g,cap,cur,rfl,_⟩<;>exact⟨_,_,rfl⟩
theorem OA.keep{w w':World}{B t z:Nat}{v:Value}{n:Nat}(h:OA w B t z v n)(hk:∀g,v.ownBlock=some g->w'.heap[g]? =w.heap[g]?):OA w' B t z v n:=by
 rcases h with h|⟨g,cap,cur,rfl,h1,h2,h3⟩
 .exact .inl h
 .exact .inr ⟨g,cap,cur,rfl,h1,(hk g rfl).trans h2,h3⟩
theorem OA.lt{w:World}{B t z:Nat}{v:Value}{n:Nat}(h:OA w B t z v n){g:Nat}(hg:v.ownBlock=some g):B<=g/\g<w.heap.size:=by
 rcases h with⟨rfl,_⟩|⟨g',cap,cur,rfl,h1,h2,_⟩
 .cases hg
 .cases hg;exact⟨h1,(anq.1 h2).1⟩
theorem MAt.keep{w w':World}{v:Value}{n:Nat}{k:Int}(h:MAt w v n k)(hk:∀g,v.ownBlock=some g->w'.heap[g]? =w.heap[g]?):MAt w' v n k:=by
 rcases h with h|⟨g,cap,cur,rfl,h1,h2,h3⟩
 .exact .inl h
 .exact .inr ⟨g,cap,cur,rfl,h1,(hk g rfl).trans h2,h3⟩
theorem MNt.keep{w w':World}{v:Value}{n:Nat}{k:Int}(h:MNt w v n k)(hk:∀g,v.ownBlock=some g->w'.heap[g]? =w.heap[g]?):MNt w' v n k:=by
 rcases h with h|⟨g,cap,cur,rfl,h1,h2,h3⟩
 .exact .inl h
 .exact .inr ⟨g,cap,cur,rfl,h1,(hk g rfl).trans h2,h3⟩
theorem aga{W:World}{B:Nat}{v:Value}{n:Nat}{k:Int}(hG:G.ok W)(hB:G.n<=B)(h:OA W B 84 4 v n)(hk:0<=k/\k<=10000000)(hl:n<=1000000):
 Calls prog 135 #[v,.int .i64 k] W λe w'=>e=.returned (.int .i64 (k+4*n))/\MAt w' v n k/\Wr W w' λb=>v.ownBlock=some b:=by
 rcases h with⟨rfl,rfl⟩|⟨g,cap,cur,rfl,h1,h2,h3,h4⟩
 .refine(af8 W k).mono ?_;rintro e w' ⟨rfl,rfl⟩;exact⟨by simp,.inl ⟨rfl,rfl⟩,rfl,rfl,rfl,anr _,λ_ _ _=>rfl⟩
 .refine(aeT W g cap cur n k hG (anx hB h1) h2 h4 h3 hk hl).mono ?_;rintro e w' ⟨rfl,⟨cur',h5,h6,h7⟩,hst⟩;exact⟨rfl,.inr ⟨g,cap,cur',rfl,h3,h5,h7⟩,hst.os,hst.tape,hst.output,hst.size,λb hb hn=>hst.block b hb (λe=>hn (by rw[e];rfl)) (λe=>by cases e)⟩
theorem agb{W:World}{B:Nat}{v:Value}{n:Nat}{k:Int}(hG:G.ok W)(hB:G.n<=B)(h:OA W B 125 7 v n)(hk:0<=k/\k<=10000000)(hl:n<=1000000):
 Calls prog 136 #[v,.int .i64 k] W λe w'=>e=.returned (.int .i64 (k+7*n))/\MNt w' v n k/\Wr W w' λb=>v.ownBlock=some b:=by
 rcases h with⟨rfl,rfl⟩|⟨g,cap,cur,rfl,h1,h2,h3,h4⟩
 .refine(af9 W k).mono ?_;rintro e w' ⟨rfl,rfl⟩;exact⟨by simp,.inl ⟨rfl,rfl⟩,rfl,rfl,rfl,anr _,λ_ _ _=>rfl⟩
 .refine(aeU W g cap cur n k hG (anx hB h1) h2 h4 h3 hk hl).mono ?_;rintro e w' ⟨rfl,⟨cur',h5,h6,h7⟩,hst⟩;exact⟨rfl,.inr ⟨g,cap,cur',rfl,h3,h5,h7⟩,hst.os,hst.tape,hst.output,hst.size,λb hb hn=>hst.block b hb (λe=>hn (by rw[e];rfl)) (λe=>by cases e)⟩
theorem Wr.pre{a b c:World}{S:Nat->Prop}(h:Below a.heap.size a b)(k:Wr b c S):Wr a c S:=(Wr.of S h).trans k
end Go.Proofs.Tryz
namespace Go.Proofs.Tryz
open Go Go.Fw Go.RowKit Sp
set_option maxRecDepth 100000
theorem bV{cur:Array Value}{j:Nat}{a:Value}(h:cur[j]? =some a):cur.toList.drop j=a::cur.toList.drop (j+1):=by obtain⟨hl,e⟩:=anq.1 h;rw[aoY (by simpa using hl),Array.getElem_toList,e]
theorem BV(k:Int)(h:0<=k/\k<=1000000000):(Sp.markT k).length<=maxLen:=by have:=zB k (by omega);rw[maxLen_eq];show(Lib.itoa k).length+1<=_;omega
theorem jo{k:Int}(h:0<=k/\k<=1000000000):IntKind.i64.min<=k/\k<=IntKind.i64.max:=⟨by show -9223372036854775808<=k;omega,by show k<=9223372036854775807;omega⟩
theorem aim{w:World}{v:Value}{n:Nat}{k:Int}(h:MAt w v n k)(hn:n<=1000000)(hk:0<=k/\k<=10000000):bW w.heap (λb=>b<w.heap.size) (.sl bG jm) v (Dz n k):=by
 refine⟨by rw[BZ,maxLen_eq];omega,?_⟩;rcases h with⟨rfl,rfl⟩|⟨g,cap,cur,rfl,h1,h2,h3⟩
 .exact .inl ⟨rfl,none,0,rfl⟩
 .refine .inr ⟨g,0,cap,cur,84,(0,0),by rw[BZ],by rw[BZ];exact h1,(anq.1 h2).1,h2,λi x hx=>?_⟩;have hi:i<n:=by have:=(anv.1 hx).1;rw[BZ]at this;exact this
  rw[abY n k i hi]at hx;obtain rfl:=Option.some.inj hx;obtain⟨e1,e2,e3,e4⟩:=h3 i hi;rw[anR,show i*jm.len=i*4 from rfl,bV e1,bV e2,bV e3,bV e4];exact⟨_,_,rfl,⟨rfl,BV _ (by omega)⟩,_,_,rfl,⟨rfl,jo (by omega)⟩,_,_,rfl,⟨rfl,jo (by omega)⟩,_,_,rfl,⟨rfl,BV _ (by omega)⟩,rfl⟩
theorem ain{w:World}{v:Value}{n:Nat}{k:Int}(h:MNt w v n k)(hn:n<=1000000)(hk:0<=k/\k<=10000000):bW w.heap (λb=>b<w.heap.size) (.sl aI bY) v (DC n k):=by
 refine⟨by rw[Cb,maxLen_eq];omega,?_⟩;rcases h with⟨rfl,rfl⟩|⟨g,cap,cur,rfl,h1,h2,h3⟩
 .exact .inl ⟨rfl,none,0,rfl⟩
 .refine .inr ⟨g,0,cap,cur,125,(0,0),by rw[Cb],by rw[Cb];exact h1,(anq.1 h2).1,h2,λi x hx=>?_⟩;have hi:i<n:=by have:=(anv.1 hx).1;rw[Cb]at this;exact this
  rw[abZ n k i hi]at hx;obtain rfl:=Option.some.inj hx;obtain⟨e1,e2,e3,e4,e5,e6,e7⟩:=h3 i hi;rw[anR,show i*bY.len=i*7 from rfl,bV e1,bV e2,bV e3,bV e4,bV e5,bV e6,bV e7];exact⟨_,_,rfl,⟨rfl,jo (by omega)⟩,_,_,rfl,⟨rfl,jo (by omega)⟩,_,_,rfl,⟨rfl,jo (by omega)⟩,_,_,rfl,⟨rfl,BV _ (by omega)⟩,_,_,rfl,⟨rfl,jo (by omega)⟩,_,_,rfl,⟨rfl,jo (by omega)⟩,_,_,rfl,⟨rfl,BV _ (by omega)⟩,rfl⟩
def YK(c:aK):Prop:=yI c.1/\yI c.2.1/\yI c.2.2.1/\yI c.2.2.2.2.1/\yI c.2.2.2.2.2.2.1/\c.2.2.2.2.2.2.2.1.length<=maxLen
def chV(c:aK)(va vq:Value):Value:=.agg #[.int .i64 c.1,.int .i64 c.2.1,.int .i64 c.2.2.1,.bool c.2.2.2.1,.int .i64 c.2.2.2.2.1,va,.int .i64 c.2.2.2.2.2.2.1,.string ⟨c.2.2.2.2.2.2.2.1.toArray⟩,vq]
def Ru(w:World)(S:Nat->Prop)(c:aK)(va vq:Value):Prop:=
 bW w.heap S (.sl bG jm) va c.2.2.2.2.2.1/\bW w.heap S (.sl aI bY) vq c.2.2.2.2.2.2.2.2.1
theorem Ru.keep{w w':World}{S S':Nat->Prop}{c:aK}{va vq:Value}(h:Ru w S c va vq)(hk:∀b,S b->S' b/\w'.heap[b]? =w.heap[b]?):Ru w' S' c va vq:=
 ⟨bW.mono hk _ _ _ h.1,bW.mono hk _ _ _ h.2⟩
end Go.Proofs.Tryz

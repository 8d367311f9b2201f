import Derived.Test.YtflpicdbkomglaaGreatDoorP62
import Derived.Test.YtflpicdbkomglaaGreatDoorSp
namespace Go.Proofs.Tryz
open Go Go.Fw Go.RowKit Sp
theorem ain(s:List UInt8)(hs:s.length<=1048576)(w:World)(hG:G.ok w):Calls prog 66 #[.string ⟨s.toArray⟩] w λe w'=>
 ∃v,e=.returned (.tuple #[v,.bool (bW s)])/\FW w'.heap.size w' v (ai s)/\Below w.heap.size w w':=by
 have hc:jM prog G 66 (lT jd.sh jd.bK jd.F):=yU.1;refine(hc [.sv (.one (.str s))] (s.length<=1048576) _ 0 (λ_=>True) #[.string ⟨s.toArray⟩] w rfl hs hG ⟨⟨rfl,by rw[maxLen_eq];omega⟩,trivial⟩).mono ?_;rintro e w' ⟨v,vals,rfl,h1,h2,h3,h4,h5,h6,_,_⟩;obtain⟨vs,rfl,h7⟩:=h6;obtain⟨l⟩:=vs
 match l,h7 with
 |[a,b],h7=>
  obtain⟨ha,hb,_⟩:=h7;have hb:b=.bool (bW s):=hb;have ha:gy w'.heap _ (.sl eu iw) a (ai s):=ha;refine⟨a,by rw[hb],⟨ha.1,?_⟩,h1,h2,h3,h4,h5⟩;rcases ha.2 with h|⟨b,off,cap,cs,t,fz,e1,e2,e3,e4,e5⟩
  .exact .inl h
  .exact .inr ⟨b,off,cap,cs,t,fz,e1,e2,e3.1.1,e4,λi x hx=>aU.flat (S:=_) _ _ _ rfl (e5 i x hx)⟩
theorem aal{B P:Nat}{w:World}{v:Value}{q:List aA}(h:NW B P w v q)(hl:q.length<=1000)(S:Nat->Prop)(hS:∀b,B<=b->b<w.heap.size->S b):gy w.heap S (.sl 125 bM) v q:=by
 obtain⟨xs,h1,_,h3⟩:=h;refine⟨by rw[maxLen_eq];omega,?_⟩;rcases h1.2 with⟨e,e2⟩|⟨g,cap,cur,e,e2,e3,e4,e5,e6,e7⟩
 .exact .inl ⟨an0.1 e2,none,0,by rw[e]⟩
 .refine .inr ⟨g,0,cap,cur,125,(0,0),e,e4,hS g e2 (anw.1 e3).1,e3,λi x hx=>?_⟩;have hi:=(anr.1 hx).1;have:=h3 i x hx;rw[← e7,aqa,apW,apv (by omega)]at this;rw[anJ];exact aU.flat (S:=λ_=>False) _ _ _ rfl this
theorem ael{B P:Nat}(v:Value)(q:List aA)(hq:q.length<=1000)(w:World)(hn:NW B P w v q)(hG:G.ok w):Calls prog 51 #[v] w λe w'=>e=.returned (.bool (aH q))/\Below w.heap.size w w':=by have hc:jM prog G 51 (lT iO.sh iO.bK iO.F):=xO.1;refine(hc [.sv (.one (.sl 125 bM q false))] (q.length<=2000000) _ 0 (λ_=>True) #[v] w rfl (by omega) hG ⟨aal hn hq _ λb _ hb=>⟨⟨hb,λ_=>trivial,λo x hx=>by cases hx⟩,λh=>by cases h⟩,trivial⟩).mono ?_;rintro e w' ⟨v,vals,rfl,h1,h2,h3,h4,h5,h6,_,_⟩;have h6:v=.bool (aH q):=h6;exact⟨by rw[h6],h1,h2,h3,h4,h5⟩
theorem FW.form{B:Nat}{w:World}{v:Value}{f:Sp.LS}(h:FW B w v f):∃a cap,v=.slice a f.length cap:=by
 rcases h.2 with⟨rfl,a,c,e⟩|⟨b,off,cap,cs,t,fz,e,_⟩
 .exact⟨a,c,e⟩
 .exact⟨_,_,e⟩
theorem H8{w w1:World}{o:Obj}{f:Sp.LS}{q:List aA}{w2:World}(hb1:Below w.heap.size w w1)(hd:Done w1.heap.size w1.heap.size (w1.alloc o) none f q w2):Below w.heap.size w w2:=by
 obtain⟨_,_,_,_,_,h,_⟩:=hd;have hs:(w1.alloc o).heap.size=w1.heap.size+1:=by simp
 exact⟨h.os.trans hb1.os,h.tape.trans hb1.tape,h.output.trans hb1.output,by have:=h.size;have:=hb1.size;omega,λb hb=>(h.block b (by have:=hb1.size;omega) (by have:=hb1.size;omega) (λe=>by cases e)).trans ((heap_alloc_old w1 o (by have:=hb1.size;omega)).trans (hb1.block b hb))⟩
theorem X7(B P:Nat)(w:World):NW B P w (.slice none 0 0) []/\([]:List aA).length<=1000:=⟨⟨[],aph w B 125 7,(λe=>by cases e),λi x hx=>by simp at hx⟩,ano _⟩
theorem NW.base{B P B' P':Nat}{w:World}{v:Value}{q:List aA}(h:NW B P w v q)(hB:B'<=B)(hP:w.heap.size<=P'):NW B' P' w v q:=by have hl:=λg hg=>h.lt (g:=g) hg;obtain⟨xs,⟨h1,h2⟩,_,h3⟩:=h;refine⟨xs,⟨h1,h2.imp id λ⟨g,cap,cur,e,e2,e3⟩=>⟨g,cap,cur,e,ank hB e2,e3⟩⟩,λe=>?_,h3⟩;have:=(hl P' e).2.1;omega
set_option maxHeartbeats 16000000 in
set_option maxRecDepth 100000 in
theorem afj(s:List UInt8)(hs:s.length<=1048576)(w:World)(hG:G.ok w):Calls prog 70 #[.string ⟨s.toArray⟩] w λe w'=>
 ∃v,e=.returned (.tuple #[v,.bool (gU s)])/\Below w.heap.size w w'/\NW w.heap.size w'.heap.size w' v (fA s)/\(fA s).length<=1000:=by
 have mixed:=Tryz.mixed;have sf:=ain s hs w hG;cases hok:bW s with
 |false=>
  have e1:gU s=false:=by unfold gU;rw[hok];rfl
  have e2:fA s=[]:=by unfold fA;rw[e1];rfl
  rw[hok]at sf;rw[e1,e2];clear e1 e2 hok
  go_enter Tryz.func70,Tryz.ntmps70
  go_wp2_with (first
   |(go_at_call 66;refine sf.mono ?_;rintro e w1 ⟨v,rfl,-,hb1⟩))
  all_goals go_ret2
  all_goals exact⟨_,rfl,hb1,X7 _ _ _⟩
 |true=>
  have hpq:Hid (gU s=((ve (Sp.wordsOf s)).1&&(!decide (((ve (Sp.wordsOf s)).2.1.length:Int)>0)&&aH (ve (Sp.wordsOf s)).2.2))):=by show _=_;unfold gU;rw[hok,anF]
  have hpl:Hid (fA s=bif gU s then(ve (Sp.wordsOf s)).2.2 else[]):=rfl;obtain⟨hw,hl,_⟩:=nJ hok;have hws:∀x∈Sp.wordsOf s,x.1.length<=1000:=λx hx=>ank (Jg x hx) (ank (kE.1 hok).1 (by decide));have Wj:(Sp.wordsOf s).length<=24:=by rw[lX];have:=(kE.1 hok).2.2;omega
  rw[hok,hw]at sf;clear hok hw;generalize gU s=pq at hpq hpl ⊢;generalize fA s=pl at hpl ⊢;generalize Sp.wordsOf s=f at sf hpq hpl hl hws Wj;have hcnt:=vI (f.length+1) f [];unfold ve at hpq hpl;generalize hz:Sp.rd (f.length+1) f []=z at hpq hpl hcnt;obtain⟨b1,f2,q2⟩:=z;dsimp only at hpq hpl hcnt;have hz:Hid (Sp.rd (f.length+1) f []=(b1,f2,q2)):=hz;have n8:=G.low w hG;have nd:∀(W:World)(vf:Value)(P:Nat),w.heap.size<=P->G.ok W->W.heap[P]? =some (.cells #[vf,.slice none 0 0] 150 (0,0))->FW P W vf f->Calls prog 133 #[.pointer (some ⟨P,0,none⟩)] W λe w'=>e=.returned (.bool b1)/\Done P P W none f2 q2 w':=λW vf P hP hG2 hc hf=>by have:=aaj (f.length+1) P P W vf (.slice none 0 0) f [] (aoF _) (ank n8 hP) (ann _) hG2 hc hf ⟨[],aph W P 125 7,(λe=>by cases e),λi x hx=>by simp at hx⟩ hws (by rw[anj];omega);rw[hz.out]at this;exact this
  go_enter Tryz.func70,Tryz.ntmps70
  cases b1 with
  |false=>
   go_wp2_with (first
    |(go_at_call 66;refine sf.mono ?_;rintro e w1 ⟨v,rfl,hf1,hb1⟩;obtain⟨a1,c1,hv1⟩:=hf1.form;subst hv1;clear sf)
    |(go_at_call 133;refine(nd _ (.slice a1 f.length c1) w1.heap.size hb1.size (o9 (o9 hG hb1) ((Below.refl _ _).alloc (ann _) _)) (aog w1 _) (hf1.keep λb hb=>heap_alloc_old w1 _ hb)).mono ?_;rintro e w2 ⟨rfl,hd⟩))
   all_goals go_ret2
   all_goals exact⟨_,by rw[show pq=false from hpq.out];rfl,H8 hb1 hd,by rw[show pl=[] by rw[hpl.out,hpq.out];rfl];exact X7 _ _ _⟩
  |true=>
   rcases Nat.eq_zero_or_pos f2.length with h0|h0
   .obtain rfl:f2=[]:=an0.1 h0;clear h0;cases hq:aH q2 with
    |false=>
     go_wp2_with (first
      |(go_at_call 66;refine sf.mono ?_;rintro e w1 ⟨v,rfl,hf1,hb1⟩;obtain⟨a1,c1,hv1⟩:=hf1.form;subst hv1;clear sf)
      |(go_at_call 133;refine(nd _ (.slice a1 f.length c1) w1.heap.size hb1.size (o9 (o9 hG hb1) ((Below.refl _ _).alloc (ann _) _)) (aog w1 _) (hf1.keep λb hb=>heap_alloc_old w1 _ hb)).mono ?_;rintro e w2 ⟨rfl,hd⟩;obtain⟨Kt,vn2,hc2,hf2,hn2,hst2⟩:=id hd;obtain⟨a2,c2,hv2⟩:=hf2.form;obtain⟨a3,c3,hv3⟩:=hn2.form;subst hv2 hv3;have p0:w2.cell? ⟨w1.heap.size,0,none⟩=some (.slice a2 0 c2):=ay hc2 0;have p1:w2.cell? ⟨w1.heap.size,1,none⟩=some (.slice a3 q2.length c3):=ay hc2 1;have hdb:=H8 hb1 hd)
      |(go_at_call 51;refine(ael (.slice a3 q2.length c3) q2 (by omega) w2 hn2 (o9 hG hdb)).mono ?_;rintro e w3 ⟨rfl,hb3⟩;rw[hq]))
     all_goals go_ret2
     all_goals exact⟨_,by rw[show pq=false by rw[hpq.out,hq];rfl];rfl,hdb.trans (hb3.mono hdb.size),by rw[show pl=[] by rw[hpl.out,hpq.out,hq];rfl];exact X7 _ _ _⟩
    |true=>
     go_wp2_with (first
      |(go_at_call 66;refine sf.mono ?_;rintro e w1 ⟨v,rfl,hf1,hb1⟩;obtain⟨a1,c1,hv1⟩:=hf1.form;subst hv1;clear sf)
      |(go_at_call 133;refine(nd _ (.slice a1 f.length c1) w1.heap.size hb1.size (o9 (o9 hG hb1) ((Below.refl _ _).alloc (ann _) _)) (aog w1 _) (hf1.keep λb hb=>heap_alloc_old w1 _ hb)).mono ?_;rintro e w2 ⟨rfl,hd⟩;obtain⟨Kt,vn2,hc2,hf2,hn2,hst2⟩:=id hd;obtain⟨a2,c2,hv2⟩:=hf2.form;obtain⟨a3,c3,hv3⟩:=hn2.form;subst hv2 hv3;have p0:w2.cell? ⟨w1.heap.size,0,none⟩=some (.slice a2 0 c2):=ay hc2 0;have p1:w2.cell? ⟨w1.heap.size,1,none⟩=some (.slice a3 q2.length c3):=ay hc2 1;have hdb:=H8 hb1 hd)
      |(go_at_call 51;refine(ael (.slice a3 q2.length c3) q2 (by omega) w2 hn2 (o9 hG hdb)).mono ?_;rintro e w3 ⟨rfl,hb3⟩;rw[hq];have p3:w3.cell? ⟨w1.heap.size,1,none⟩=some (.slice a3 q2.length c3):=ay ((hb3.block _ (anw.1 hc2).1).trans hc2) 1))
     all_goals go_ret2
     all_goals refine⟨_,by rw[show pq=true by rw[hpq.out,hq];rfl];rfl,hdb.trans (hb3.mono hdb.size),?_⟩
     all_goals rw[show pl=q2 by rw[hpl.out,hpq.out,hq];rfl]
     all_goals exact⟨(hn2.keep λg hg=>hb3.block g (hn2.lt hg).2.1).base hb1.size (ann _),by omega⟩
   .have hpos:(0:Int)<(f2.length:Int):=by omega
    go_wp2_with (first
     |(go_at_call 66;refine sf.mono ?_;rintro e w1 ⟨v,rfl,hf1,hb1⟩;obtain⟨a1,c1,hv1⟩:=hf1.form;subst hv1;clear sf)
     |(go_at_call 133;refine(nd _ (.slice a1 f.length c1) w1.heap.size hb1.size (o9 (o9 hG hb1) ((Below.refl _ _).alloc (ann _) _)) (aog w1 _) (hf1.keep λb hb=>heap_alloc_old w1 _ hb)).mono ?_;rintro e w2 ⟨rfl,hd⟩;obtain⟨Kt,vn2,hc2,hf2,hn2,hst2⟩:=id hd;obtain⟨a2,c2,hv2⟩:=hf2.form;subst hv2;have p0:w2.cell? ⟨w1.heap.size,0,none⟩=some (.slice a2 f2.length c2):=ay hc2 0;have hdb:=H8 hb1 hd))
    all_goals go_ret2
    all_goals have hpf:pq=false:=by rw[hpq.out,anE (show(f2.length:Int)>0 from hpos)];rfl
    all_goals exact⟨_,by rw[hpf];rfl,hdb,by rw[show pl=[] by rw[hpl.out,hpf];rfl];exact X7 _ _ _⟩
theorem ahd{h:Array Obj}{S S':Nat->Prop}(hS:∀b,S b->S' b){v:Value}{q:List aA}(H:gy h S (.sl 125 bM) v q):gy h S' (.sl 125 bM) v q:=by
 refine⟨H.1,?_⟩;rcases H.2 with e|⟨b,off,cap,cs,t,fz,e1,e2,e3,e4,e5⟩
 .exact .inl e
 .exact .inr ⟨b,off,cap,cs,t,fz,e1,e2,hS b e3,e4,λi x hx=>aU.flat (S:=S) _ _ _ rfl (e5 i x hx)⟩
theorem F9:jM prog G vW tH:=by
 intro args p out k S vs w hcon hp hG hrep;unfold tH lT xG at hcon;split at hcon
 .next x hx=>
  obtain⟨s,⟨⟩⟩:=x;have hv:=FN zq args _ vs.toList hx hrep
  match hvs:vs.toList,hv with
  |[v],hv=>
   have e1:v=.string ⟨s.toArray⟩:=hv.1.1;have e2:vs=#[.string ⟨s.toArray⟩]:=by obtain⟨l⟩:=vs;simp at hvs;rw[hvs,e1]
   subst e2;have hF:=Option.some.inj hcon;have hp1:p=(s.length<=1048576):=(congrArg Prod.fst hF).symm;have hout:out=⟨[(false,[.plain (.sl 125 bM (fA s) true)]),(false,[.plain (.bool (gU s))])],none⟩:=(congrArg Prod.snd hF).symm;subst hp1 hout;refine(afj s hp w hG).mono ?_;rintro e w' ⟨u,rfl,hb,hn,hn2⟩;have hr:=aal hn hn2 (λb=>w.heap.size<=b/\b<w'.heap.size) λb h1 h2=>⟨h1,h2⟩;refine⟨_,λ_=>undef,rfl,hb.os,hb.tape,hb.output,hb.size,hb.block,?_,(λo x hx=>by cases hx),(λo x q y b hx=>by cases hx)⟩;exact⟨_,rfl,ahd (λb hb=>⟨⟨hb.2,λh=>absurd h (Nat.not_lt.2 hb.1),λo x hx=>by cases hx⟩,λ_=>hb.1⟩) hr,rfl,trivial⟩
 .cases hcon
end Go.Proofs.Tryz
namespace Go.Proofs.Tryz
open Go Go.Fw Go.IntWalk Sp
theorem La:OK qp.e:=by refine PA.ok mixed (aQ [(vW,.pure tH),pX.e] ⟨⟨F9,Et⟩,EC,trivial⟩) H0 (by kernel_rfl) (show∀q,qp.goal (Lc q) (q,())from ?_);intro q hin hp;dsimp only[qp]at hp ⊢;have hp:q.length<=2000000:=hp;exact⟨hp,ank (H7 q) (by decide),rfl⟩
theorem iz{α:Type}(l:List α):((l.length:Int)==0)=l.isEmpty:=by
 cases l with
 |nil=>rfl
 |cons x r=>exact ang.2 (by rw[anh];omega)
theorem Ag{x:dG}(h:aV x=[]):(([]:List UInt8),())=(aI x,()):=by unfold aI;rw[h];rfl
theorem Na{x:dG}{w:List (List UInt8)}(h:aV x=w){t:List UInt8}(e:t=Lib.join w [32]):(t,())=(aI x,()):=by unfold aI;rw[h,e]
theorem aam{q:List aA}(h:aH q=true):Sp.textOf q=Lib.join (bf 9 q ((q.length:Int)-1)) [32]:=by unfold Sp.textOf;rw[h];rfl
theorem X8{f:bH}{id:Int}{n:List UInt8}{q:List aA}:aV (bZ 1 f id n q)=bif dU f&&(f.1==0&&(id==0&&(n==[]&&q.isEmpty)))then iD::bI f else[]:=by unfold aV;show(bif true&&_ then _ else bif false&&_ then _ else bif false&&_ then _ else bif false&&_ then _ else bif false&&_ then _ else _)=_;rw[anF];rfl
theorem acE{f:bH}{id:Int}{n:List UInt8}{q:List aA}:aV (bZ 2 f id n q)=bif dU f&&(id==0&&(n==[]&&q.isEmpty))then fK::Lib.itoa f.1::bI f else[]:=by unfold aV;show(bif false&&_ then _ else bif true&&_ then _ else bif false&&_ then _ else bif false&&_ then _ else bif false&&_ then _ else _)=_;rw[anF];rfl
theorem acF{f:bH}{id:Int}{n:List UInt8}{q:List aA}:aV (bZ 3 f id n q)=bif decide (f=fO)&&(aB id&&(n==[]&&q.isEmpty))then[iE,Lib.itoa id]else[]:=by unfold aV;show(bif false&&_ then _ else bif false&&_ then _ else bif true&&_ then _ else bif false&&_ then _ else bif false&&_ then _ else _)=_;rw[anF];rfl
theorem Nb{f:bH}{id:Int}{n:List UInt8}{q:List aA}:aV (bZ 4 f id n q)=bif decide (f=fO)&&(id==0&&(au n&&fM q))then eP::n::bf 9 q ((q.length:Int)-1)else[]:=by unfold aV;show(bif false&&_ then _ else bif false&&_ then _ else bif false&&_ then _ else bif true&&_ then _ else bif false&&_ then _ else _)=_;rw[anF];rfl
theorem X9{f:bH}{id:Int}{n:List UInt8}{q:List aA}:aV (bZ 5 f id n q)=bif decide (f=fO)&&(id==0&&(au n&&q.isEmpty))then[fV,n]else[]:=by unfold aV;show(bif false&&_ then _ else bif false&&_ then _ else bif false&&_ then _ else bif false&&_ then _ else bif true&&_ then _ else _)=_;rw[anF];rfl
theorem agu{k:Int}{f:bH}{id:Int}{n:List UInt8}{q:List aA}(h1:k≠1)(h2:k≠2)(h3:k≠3)(h4:k≠4)(h5:k≠5):aV (bZ k f id n q)=[]:=by unfold aV;rw[show(bZ k f id n q).1=k from rfl,ang.2 h1,ang.2 h2,ang.2 h3,ang.2 h4,ang.2 h5];rfl
theorem xY:OK lI.e:=by
 refine PA.ok mixed (aQ [mW.e,tC.e,qw.e,oN.e,jm.e,iF.e,jV.e,zV.e,xA.e,zW.e] ⟨yX,OH,KY,D5,qC,kD,qW,X5,Uy,X0,trivial⟩) Qe (by kernel_rfl) (show∀o0 o1 o2 o3 o4 o5 o6 o7 o8,lI.goal (OJ o0 o1 o2 o3 o4 o5 o6 o7 o8) ((o0,o1,o2,o3,o4,o5,o6,o7,o8,()),())from ?_);intro k f0 f1 f2 f3 f4 id n q hin hp;dsimp only[lI]at hp ⊢;obtain⟨hl,ht,hn,hq⟩:f4.length<=1048576/\(cZ f4).length<=1073741824/\n.length<=1048576/\q.length<=2000000:=hp;have hbl:=(Jh (f:=(f0,f1,f2,f3,f4,())) hin.1.2.1 hin.1.2.2.1 hin.1.2.2.2.2.1).2;have hbl:(Lib.join (bI (f0,f1,f2,f3,f4,())) [32]).length<=47+1073741824:=ank hbl (apd ht 47);have q1:=pR (n:=f0) hin.1.2.1;have q6:=pR (n:=id) hin.1.2.2.2.2.2.2.1;have hts:=H7 q;have hx:(k,f0,f1,f2,f3,f4,id,n,q,())=bZ k (f0,f1,f2,f3,f4,()) id n q:=rfl;rw[hx];clear hx hin;have hwb:bI (f0,f1,f2,f3,f4,())≠[]:=by unfold bI;exact aps _ _
 have j1:∀(a:List UInt8),Lib.join (a::bI (f0,f1,f2,f3,f4,())) [32]=a++32::Lib.join (bI (f0,f1,f2,f3,f4,())) [32]:=λa=>by unfold bI;rw[dX]
 have u:∀z:Int,(decide (0<=z)&&decide (z<=1000000000))=aB z:=λ_=>rfl;refine⟨trivial,λy=>y=((n==[]&&q.isEmpty,()),()),?_,?_⟩
 .cases n==[]with
  |true=>exact⟨rfl,by rw[iz];rfl⟩
  |false=>exact⟨rfl,rfl⟩
 rintro _ rfl;refine⟨λy=>y=((k==1&&(dU (f0,f1,f2,f3,f4,())&&(f0==0&&(id==0&&(n==[]&&q.isEmpty)))),()),()),?_,?_⟩
 .cases k==1 with
  |false=>exact⟨rfl,rfl⟩
  |true=>
   refine⟨hl,?_⟩;cases dU (f0,f1,f2,f3,f4,())with
   |false=>exact⟨rfl,rfl⟩
   |true=>
    cases f0==0 with
    |false=>exact⟨rfl,rfl⟩
    |true=>cases id==0<;>exact⟨rfl,rfl⟩
 rintro _ rfl;refine af (λh=>?_) λh1=>?_
 .rw[ane,anq]at h;obtain⟨rfl,h⟩:=h;refine⟨⟨hl,ht⟩,bQ (by show 7+_<=_;omega),Na (w:=iD::bI (f0,f1,f2,f3,f4,())) (by rw[X8,h];rfl) ?_⟩;rw[j1];rfl
 refine⟨λy=>y=((k==2&&(dU (f0,f1,f2,f3,f4,())&&(id==0&&(n==[]&&q.isEmpty))),()),()),?_,?_⟩
 .cases k==2 with
  |false=>exact⟨rfl,rfl⟩
  |true=>
   refine⟨hl,?_⟩;cases dU (f0,f1,f2,f3,f4,())with
   |false=>exact⟨rfl,rfl⟩
   |true=>cases id==0<;>exact⟨rfl,rfl⟩
 rintro _ rfl;refine af (λh=>?_) λh2=>?_
 .rw[ane,anq]at h;obtain⟨rfl,h⟩:=h;refine⟨trivial,bQ (by show 7+_<=_;omega),bQ (by rw[anf];show 7+_+1<=_;omega),⟨hl,ht⟩,bQ (by rw[anf,anf];show 7+_+1+_<=_;omega),Na (w:=fK::Lib.itoa f0::bI (f0,f1,f2,f3,f4,())) (by rw[acE,h];rfl) ?_⟩;rw[dX,show∀a,Lib.join (a::bI (f0,f1,f2,f3,f4,())) [32]=a++32::Lib.join (bI (f0,f1,f2,f3,f4,())) [32]from j1];simp[fK]
 refine⟨λy=>y=((k==3&&(decide ((f0,f1,f2,f3,f4,())=fO)&&(aB id&&(n==[]&&q.isEmpty))),()),()),?_,?_⟩
 .cases k==3 with
  |false=>exact⟨rfl,rfl⟩
  |true=>
   cases decide ((f0,f1,f2,f3,f4,())=fO)with
   |false=>exact⟨rfl,rfl⟩
   |true=>
    cases n==[]&&q.isEmpty with
    |false=>exact⟨rfl,by rw[anB];rfl⟩
    |true=>exact⟨trivial,rfl,by rw[u,anQ];rfl⟩
 rintro _ rfl;refine af (λh=>?_) λh3=>?_
 .rw[ane,anq]at h;obtain⟨rfl,h⟩:=h;refine⟨trivial,bQ (by show 7+_<=_;omega),Na (w:=[iE,Lib.itoa id]) (by rw[acF,h];rfl) ?_⟩;rw[tV];rfl
 have hqk:fM q=(aH q&&decide (fA (Sp.textOf q)=q)):=rfl;refine⟨λy=>y=((k==4&&(decide ((f0,f1,f2,f3,f4,())=fO)&&(id==0&&(au n&&fM q))),()),()),?_,?_⟩
 .rw[hqk];cases k==4 with
  |false=>exact⟨rfl,rfl⟩
  |true=>
   cases decide ((f0,f1,f2,f3,f4,())=fO)with
   |false=>exact⟨rfl,rfl⟩
   |true=>
    cases id==0 with
    |false=>exact⟨rfl,rfl⟩
    |true=>
     refine⟨trivial,?_⟩;cases au n with
     |false=>exact⟨rfl,rfl⟩
     |true=>
      refine⟨hq,?_⟩;cases aH q with
      |false=>exact⟨rfl,rfl⟩
      |true=>exact⟨hq,trivial,rfl,rfl⟩
 rintro _ rfl;refine af (λh=>?_) λh4=>?_
 .rw[ane,anq]at h;obtain⟨rfl,h⟩:=h;have hok:aH q=true:=by rw[ane,ane,ane,hqk,ane]at h;exact h.2.2.2.1
  refine⟨bQ (by show 7+_<=_;omega),bQ (by rw[anf];show 7+_+1<=_;omega),hq,bQ (by rw[anf,anf];show 7+_+1+_<=_;omega),Na (w:=eP::n::bf 9 q ((q.length:Int)-1)) (by rw[Nb,h];rfl) ?_⟩;obtain⟨y,r,e⟩:∃y r,bf 9 q ((q.length:Int)-1)=y::r:=by
   cases e:bf 9 q ((q.length:Int)-1)with
   |nil=>exact absurd e (CY 8 q _)
   |cons y r=>exact⟨y,r,rfl⟩
  rw[aam hok,e,dX,dX];simp[eP]
 have off:k≠5->(([]:List UInt8),())=(aI (bZ k (f0,f1,f2,f3,f4,()) id n q),()):=λh5=>Ag (by
  by_cases c1:k=1
  .subst c1;rw[X8];rw[anT,anF]at h1;dsimp only at h1 ⊢;rw[h1];rfl
  by_cases c2:k=2
  .subst c2;rw[acE];rw[anT,anF]at h2;dsimp only at h2 ⊢;rw[h2];rfl
  by_cases c3:k=3
  .subst c3;rw[acF];rw[anT,anF]at h3;dsimp only at h3 ⊢;rw[h3];rfl
  by_cases c4:k=4
  .subst c4;rw[Nb];rw[anT,anF]at h4;dsimp only at h4 ⊢;rw[h4];rfl
  exact agu c1 c2 c3 c4 h5)
 refine af (λh=>?_) λh=>off (ang.1 h);obtain rfl:=anq.1 h;have afk:(decide ((f0,f1,f2,f3,f4,())=fO)&&(id==0&&(au n&&q.isEmpty)))=false->(([]:List UInt8),())=(aI (bZ 5 (f0,f1,f2,f3,f4,()) id n q),()):=λh=>Ag (by rw[X9,h];rfl);refine af (λg1=>af (λg2=>⟨trivial,af (λg3=>af (λg4=>⟨bQ (by show 9+_<=_;omega),Na (w:=[fV,n]) ?_ ?_⟩) λg4=>afk ?_) λg3=>afk ?_⟩) λg2=>afk ?_) λg1=>afk ?_
 .rw[iz]at g4;rw[X9,show decide ((f0,f1,f2,f3,f4,())=fO)=true from g1,g2,g3,g4];rfl
 .rw[tV];rfl
 .rw[iz]at g4;rw[g4,anB,anB,anB]
 .rw[g3,anY,anB,anB]
 .rw[g2,anY,anB]
 .rw[show decide ((f0,f1,f2,f3,f4,())=fO)=false from g1,anY]
end Go.Proofs.Tryz
namespace Go.Proofs.Tryz
open Go Go.Fw Go.IntWalk Sp
theorem afl{β:Type}(x5:List bJ)(t:β)(hx:x5.length<=1048576){K:List UInt8×Unit->Prop}{E:Prop}(hbad:x5.all kQ=false->K ([],()))(hend:x5.all kQ=true->E):
 LP (α:=(Int×Unit)×Unit) (((0:Int),()),()) λI μ y=>
  bif decide (y.1.1<(x5.length:Int))then((0:Int)<=y.1.1/\y.1.1<(x5.length:Int))/\True/\
   (bif !eF (x5.getD (Int.toNat y.1.1) ([],0,0,[],())).1 then K ([],())else True/\
     (bif !aZ (x5.getD (Int.toNat y.1.1) ([],0,0,[],())).2.1 (x5.getD (Int.toNat y.1.1) ([],0,0,[],())).2.2.1 (x5.getD (Int.toNat y.1.1) ([],0,0,[],())).2.2.2.1 then K ([],())
     else bif (x5.getD (Int.toNat y.1.1) ([],0,0,[],())).2.1==0 then K ([],())else NX t I μ ((IntKind.i64.wrap (y.1.1+1),()),()) y))else E:=by
 have hb:∀n,n<x5.length->kQ (x5.getD n ([],0,0,[],()))=false->K ([],()):=λn hn h=>hbad (ap1.2 ⟨_,getD_mem hn,by rw[h];decide⟩);refine CX x5.length (by omega) (λn=>∀i,i<n->kQ (x5.getD i ([],0,0,[],()))=true) (λi hi=>absurd hi (aoo _)) (λI μ n hn hJ next=>?_) λI μ hJ=>?_
 .dsimp only;rw[an9];have e:kQ (x5.getD n ([],0,0,[],()))=(eF (x5.getD n ([],0,0,[],())).1&&(aZ (x5.getD n ([],0,0,[],())).2.1 (x5.getD n ([],0,0,[],())).2.2.1 (x5.getD n ([],0,0,[],())).2.2.2.1&&!((x5.getD n ([],0,0,[],())).2.1==0))):=rfl;refine vX (by omega) ⟨⟨by omega,by omega⟩,trivial,af (λh=>hb n hn ?_) λh=>⟨trivial,af (λh2=>hb n hn ?_) λh2=>af (λh3=>hb n hn ?_) λh3=>⟨rfl,next ?_⟩⟩⟩
  .rw[e,nV h];rfl
  .rw[e,nV h2,anY,anB]
  .rw[e,h3,aoc,anB,anB]
  .intro i hi;rcases anL i n with h5|h5
   .exact hJ i h5
   .rw[show i=n by omega,e,jL h,jL h2,h3];rfl
 .dsimp only;refine vY (by omega) (hend (anx.2 λx hx=>?_));obtain⟨i,hi,rfl⟩:=aoB.1 hx;have:=hJ i hi;rw[anm,anu hi]at this;exact this
theorem Ya{f:bH}:dU f=(f.2.2.2.2.1.all kQ&&(aB f.1&&(aB f.2.1&&aB f.2.2.2.1))):=rfl
theorem ajc(a b:Int):iU [(a,()),(b,())]=(aB a&&aB b):=by simp[iU]
theorem ajd(a b c:Int):iU [(a,()),(b,()),(c,())]=(aB a&&(aB b&&aB c)):=by simp[iU]
theorem aje(a:Int):iU [(a,())]=aB a:=by simp[iU]
theorem Ed:OK oO.e:=by
 refine PA.ok mixed (aQ [(mX,.pure jT),jH.e,lS.e,qQ.e,vM.e,tu.e,qp.e,iO.e,jo.e,pX.e,mD.e,(DV,.pure AA),vO.e] ⟨⟨uT,sS⟩,rJ,Ar,FX,RI,Ov,La,xO,qE,EC,vZ,⟨VP,Ug⟩,Sv,trivial⟩) Qg (by kernel_rfl) (show∀x0 x1 x2 x3 x4 x5 x6 x7 x8,oO.goal (OL x0 x1 x2 x3 x4 x5 x6 x7 x8) ((x0,x1,x2,x3,x4,x5,x6,x7,x8,()),())from ?_);intro k f0 f1 f2 f3 f4 id n q hin hp;dsimp only[oO]at hp ⊢;obtain⟨hl,ht,hn,hq⟩:f4.length<=1048576/\(cZ f4).length<=1073741824/\n.length<=1048576/\q.length<=2000000:=hp;have hfl:=(Jh (f:=(f0,f1,f2,f3,f4,())) hin.1.2.1 hin.1.2.2.1 hin.1.2.2.2.2.1);have ajf:(fH (f0,f1,f2,f3,f4,())).length<=80+1073741824:=ank hfl.1 (apd ht 80);have aiY:(Lib.join (bI (f0,f1,f2,f3,f4,())) [32]).length<=47+1073741824:=ank hfl.2 (apd ht 47);have q0:=pR (n:=f0) hin.1.2.1;have q6:=pR (n:=id) hin.1.2.2.2.2.2.2.1;have hts:=H7 q;clear hfl hin;have hx:(k,f0,f1,f2,f3,f4,id,n,q,())=bZ k (f0,f1,f2,f3,f4,()) id n q:=rfl;rw[hx];clear hx;have hpl:=Sp.pieces_len 32 (fH (f0,f1,f2,f3,f4,()));obtain⟨fp1,fp2,fp3⟩:=adC (f0,f1,f2,f3,f4,());have j1:∀(a:List UInt8),Lib.join (a::bI (f0,f1,f2,f3,f4,())) [32]=a++32::Lib.join (bI (f0,f1,f2,f3,f4,())) [32]:=λa=>by unfold bI;rw[dX]
 have hgd:([32]:List UInt8).getD 0 0=32:=rfl;have hdl:∀(m:Nat),((List.take (Sp.pieces 32 (fH (f0,f1,f2,f3,f4,()))).length (Sp.pieces 32 (fH (f0,f1,f2,f3,f4,())))).drop m).length<=81+1073741824:=λm=>by rw[anI,anv];omega
 let P1:Sp.LS:=[(iD,())]++List.drop (Int.toNat 2) (List.take (Sp.pieces 32 (fH (f0,f1,f2,f3,f4,()))).length (Sp.pieces 32 (fH (f0,f1,f2,f3,f4,()))))
 let P2:Sp.LS:=[(fK,())]++List.drop (Int.toNat 1) (List.take (Sp.pieces 32 (fH (f0,f1,f2,f3,f4,()))).length (Sp.pieces 32 (fH (f0,f1,f2,f3,f4,()))))
 have hqk:fM q=(aH q&&decide (fA (Sp.textOf q)=q)):=rfl;refine⟨λy=>(k=1/\f0=0/\y=((P1,()),(1,f0,f1,f2,f3,f4,0,[],[],()),[(f1,()),(f3,())],()))\/(k=2/\y=((P2,()),(2,f0,f1,f2,f3,f4,0,[],[],()),[(f0,()),(f1,()),(f3,())],()))\/
  (k=3/\y=(([(iE,()),(Lib.itoa id,())],()),(3,0,0,false,0,[],id,[],[],()),[(id,())],()))\/
  (k=4/\au n=true/\fM q=true/\y=(([(eP,()),(n,()),(Sp.textOf q,())],()),(4,0,0,false,0,[],0,n,q,()),[],()))\/
  (k=5/\au n=true/\y=(([(fV,()),(n,())],()),(5,0,0,false,0,[],0,n,[],()),[],())),?_,?_⟩
 .by_cases k1:k=1
  .subst k1;refine⟨D8 rfl,⟨hl,ht⟩,⟨ank ajf (by decide),.inl rfl⟩,⟨by decide,?_⟩,yM ?_,af (λh=>Ag ?_) λh=>⟨rfl,.inl ⟨rfl,by simpa using h,rfl⟩⟩⟩
   .show(2:Int)<=((Sp.pieces 32 _).length:Int);omega
   .have:=hdl 2;show 1+_<=_;exact ank (apd this 1) (by decide)
   .have h:f0≠0:=apE.1 h;rw[X8];dsimp only;rw[ang.2 h,anY,anB];rfl
  by_cases k2:k=2
  .subst k2;refine⟨D8 rfl,⟨hl,ht⟩,⟨ank ajf (by decide),.inl rfl⟩,⟨by decide,?_⟩,yM ?_,rfl,.inr (.inl ⟨rfl,rfl⟩)⟩
   .show(1:Int)<=((Sp.pieces 32 _).length:Int);omega
   .have:=hdl 1;show 1+_<=_;exact ank (apd this 1) (by decide)
  by_cases k3:k=3
  .subst k3;exact⟨D8 rfl,trivial,rfl,.inr (.inr (.inl ⟨rfl,rfl⟩))⟩
  by_cases k4:k=4
  .subst k4;refine⟨hq,trivial,af (λh=>Ag ?_) λh=>⟨hq,af (λh2=>Ag ?_) λh2=>⟨hq,trivial,af (λh3=>Ag ?_) λh3=>⟨rfl,.inr (.inr (.inr (.inl ⟨rfl,jL h,?_,rfl⟩)))⟩⟩⟩⟩
   .rw[Nb,nV h,anY,anB,anB];rfl
   .rw[Nb,hqk,nV h2,anY,anB,anB,anB];rfl
   .have h3:decide (fA (Sp.textOf q)=q)=false:=nV h3;rw[Nb,hqk,h3,anB,anB,anB,anB];rfl
   .have h3:decide (fA (Sp.textOf q)=q)=true:=jL h3;rw[hqk,jL h2,h3];rfl
  by_cases k5:k=5
  .subst k5;refine⟨trivial,af (λh=>Ag ?_) λh=>⟨rfl,.inr (.inr (.inr (.inr ⟨rfl,jL h,rfl⟩)))⟩⟩;rw[X9,nV h,anY,anB,anB];rfl
  rw[ang.2 k1,ang.2 k2,ang.2 k3,ang.2 k4,ang.2 k5];exact Ag (agu k1 k2 k3 k4 k5)
 have rest:∀(y:(Sp.LS×Unit)×(Int×Int×Int×Bool×Int×List bJ×Int×List UInt8×List aA×Unit)×List (Int×Unit)×Unit)(c:Bool)(w:List (List UInt8)),
  (bif decide ((y.2.1.2.1,y.2.1.2.2.1,y.2.1.2.2.2.1,y.2.1.2.2.2.2.1,y.2.1.2.2.2.2.2.1,())=(f0,f1,f2,f3,f4,()))then(y.2.1.2.2.2.2.2.2.1==id)&&((y.2.1.2.2.2.2.2.2.2.1==n)&&(decide (y.2.1.2.2.2.2.2.2.2.2.1=q)&&(iU y.2.2.1&&f4.all kQ)))else false)=c->
  aV (bZ k (f0,f1,f2,f3,f4,()) id n q)=(bif c then w else[])->(c=true->y.1.1.length<=140737488355328/\(Lib.join w [32]).length<=140737488355328/\Lib.join (y.1.1.map λx=>x.1) [32]=Lib.join w [32])->
  ∃(J:Unit×Unit->Prop),(True/\(bif !decide ((y.2.1.2.1,y.2.1.2.2.1,y.2.1.2.2.2.1,y.2.1.2.2.2.2.1,y.2.1.2.2.2.2.2.1,())=(f0,f1,f2,f3,f4,()))then(([]:List UInt8),())=(aI (bZ k (f0,f1,f2,f3,f4,()) id n q),())
   else bif y.2.1.2.2.2.2.2.2.1 !=id then(([]:List UInt8),())=(aI (bZ k (f0,f1,f2,f3,f4,()) id n q),())
   else bif !y.2.1.2.2.2.2.2.2.2.1==n then(([]:List UInt8),())=(aI (bZ k (f0,f1,f2,f3,f4,()) id n q),())
   else True/\(bif !decide (y.2.1.2.2.2.2.2.2.2.2.1=q)then(([]:List UInt8),())=(aI (bZ k (f0,f1,f2,f3,f4,()) id n q),())
   else True/\(bif !iU y.2.2.1 then(([]:List UInt8),())=(aI (bZ k (f0,f1,f2,f3,f4,()) id n q),())
   else(((k,f0,f1,f2,f3,f4,id,n,q,()),y.1),())=(((k,f0,f1,f2,f3,f4,id,n,q,()),y.1),())/\J ((),())))))/\
  ∀(z:Unit×Unit),J z->LP (α:=(Int×Unit)×Unit) (((0:Int),()),()) λI μ y13=>
   bif decide (y13.1.1<(f4.length:Int))then((0:Int)<=y13.1.1/\y13.1.1<(f4.length:Int))/\True/\
   (bif !eF (f4.getD (Int.toNat y13.1.1) ([],0,0,[],())).1 then(([]:List UInt8),())=(aI (bZ k (f0,f1,f2,f3,f4,()) id n q),())else True/\
     (bif !aZ (f4.getD (Int.toNat y13.1.1) ([],0,0,[],())).2.1 (f4.getD (Int.toNat y13.1.1) ([],0,0,[],())).2.2.1 (f4.getD (Int.toNat y13.1.1) ([],0,0,[],())).2.2.2.1 then(([]:List UInt8),())=(aI (bZ k (f0,f1,f2,f3,f4,()) id n q),())
     else bif (f4.getD (Int.toNat y13.1.1) ([],0,0,[],())).2.1==0 then(([]:List UInt8),())=(aI (bZ k (f0,f1,f2,f3,f4,()) id n q),())else NX ((y.1.1,f4,(f4.length:Int),()),()) I μ ((IntKind.i64.wrap (y13.1.1+1),()),()) y13))
   else(y.1.1.length<=140737488355328/\(Lib.join (y.1.1.map λx=>x.1) [32]).length<=140737488355328)/\(Lib.join (y.1.1.map λx=>x.1) [32],())=(aI (bZ k (f0,f1,f2,f3,f4,()) id n q),()):=by
  intro y c w hc hw hg;have off:c=false->(([]:List UInt8),())=(aI (bZ k (f0,f1,f2,f3,f4,()) id n q),()):=λh=>Ag (by rw[hw,h];rfl);generalize decide ((y.2.1.2.1,y.2.1.2.2.1,y.2.1.2.2.2.1,y.2.1.2.2.2.2.1,y.2.1.2.2.2.2.2.1,())=(f0,f1,f2,f3,f4,()))=a1 at hc ⊢;generalize decide (y.2.1.2.2.2.2.2.2.2.2.1=q)=a4 at hc ⊢;have hb:(y.2.1.2.2.2.2.2.2.1 !=id)=!(y.2.1.2.2.2.2.2.2.1==id):=rfl;rw[hb];generalize (y.2.1.2.2.2.2.2.2.1==id)=a2 at hc ⊢;generalize (y.2.1.2.2.2.2.2.2.2.1==n)=a3 at hc ⊢;generalize iU y.2.2.1=a5 at hc ⊢;cases a1 with
  |false=>exact⟨λ_=>False,⟨trivial,off hc.symm⟩,λ_ h=>h.elim⟩
  |true=>
  cases a2 with
  |false=>exact⟨λ_=>False,⟨trivial,off hc.symm⟩,λ_ h=>h.elim⟩
  |true=>
  cases a3 with
  |false=>exact⟨λ_=>False,⟨trivial,off hc.symm⟩,λ_ h=>h.elim⟩
  |true=>
  cases a4 with
  |false=>exact⟨λ_=>False,⟨trivial,trivial,off hc.symm⟩,λ_ h=>h.elim⟩
  |true=>
  cases a5 with
  |false=>exact⟨λ_=>False,⟨trivial,trivial,trivial,off hc.symm⟩,λ_ h=>h.elim⟩
  |true=>
  have hc:f4.all kQ=c:=hc;refine⟨λ_=>True,⟨trivial,trivial,trivial,rfl,trivial⟩,λ_ _=>?_⟩;refine afl (K:=λr=>r=(aI (bZ k (f0,f1,f2,f3,f4,()) id n q),())) f4 _ hl (λh=>off (hc.symm.trans h)) λh=>?_;obtain⟨g1,g2,g3⟩:=hg (hc.symm.trans h);rw[g3];exact⟨⟨g1,g2⟩,(Na (w:=w) (by rw[hw,← hc,h];rfl) rfl)⟩
 rintro y hy;have hTL:List.take (Sp.pieces 32 (fH (f0,f1,f2,f3,f4,()))).length (Sp.pieces 32 (fH (f0,f1,f2,f3,f4,())))=Sp.pieces 32 (fH (f0,f1,f2,f3,f4,())):=aok (ann _);have hdt:∀f:bH,decide (f=f)=true:=λf=>anE rfl;have hdq:∀q:List aA,decide (([]:List aA)=q)=q.isEmpty:=λq=>by cases q with
  |nil=>rfl
  |cons x r=>exact anC (λe=>by cases e)
 have hbn:∀n:List UInt8,(([]:List UInt8)==n)=(n==[]):=λn=>by cases n<;>rfl
 have hbz:∀z:Int,((0:Int)==z)=(z==0):=λz=>by
  by_cases h:z=0
  .subst h;rfl
  .rw[ang.2 h,ang.2 (aoQ h)]
 rcases hy with⟨rfl,rfl,rfl⟩|⟨rfl,rfl⟩|⟨rfl,rfl⟩|⟨rfl,hv,hk,rfl⟩|⟨rfl,hv,rfl⟩
 .refine rest _ (dU (0,f1,f2,f3,f4,())&&((0:Int)==0&&(id==0&&(n==[]&&q.isEmpty)))) (iD::bI (0,f1,f2,f3,f4,())) ?_ X8 λ_=>⟨?_,?_,?_⟩
  .dsimp only;rw[hdt,hdq,hbn,hbz,ajc,Ya,show aB (0,f1,f2,f3,f4,()).1=true from rfl,anF];dsimp only;cases f4.all kQ<;>cases aB f1<;>cases aB f3<;>cases id==0<;>cases n==[]<;>cases q.isEmpty<;>rfl
  .have:=hdl 2;show _+1<=_;exact ank (Nat.add_le_add_right this 1) (by decide)
  .rw[j1,anf,anh];show 6+_<=_;omega
  .show Lib.join (iD::(List.drop 2 (List.take (Sp.pieces 32 (fH (0,f1,f2,f3,f4,()))).length (Sp.pieces 32 (fH (0,f1,f2,f3,f4,()))))).map (·.1)) [32]=_;rw[hTL,fp1,U2,j1]
 .refine rest _ (dU (f0,f1,f2,f3,f4,())&&(id==0&&(n==[]&&q.isEmpty))) (fK::Lib.itoa f0::bI (f0,f1,f2,f3,f4,())) ?_ acE λ_=>⟨?_,?_,?_⟩
  .dsimp only;rw[hdt,hdq,hbn,hbz,ajd,Ya];dsimp only;cases f4.all kQ<;>cases aB f0<;>cases aB f1<;>cases aB f3<;>cases id==0<;>cases n==[]<;>cases q.isEmpty<;>rfl
  .have:=hdl 1;show _+1<=_;exact ank (Nat.add_le_add_right this 1) (by decide)
  .rw[dX,j1,anf,anh,anf,anh];show 6+_<=_;omega
  .show Lib.join (fK::(List.drop 1 (List.take (Sp.pieces 32 (fH (f0,f1,f2,f3,f4,()))).length (Sp.pieces 32 (fH (f0,f1,f2,f3,f4,()))))).map (·.1)) [32]=_;rw[hTL,fp2,anH,dX,U2,dX,j1]
 .refine rest _ (decide ((f0,f1,f2,f3,f4,())=fO)&&(aB id&&(n==[]&&q.isEmpty))) [iE,Lib.itoa id] ?_ acF λ_=>⟨yC rfl,?_,rfl⟩
  .dsimp only;rw[hdq,hbn,aje,anT,anF];cases hd:decide ((f0,f1,f2,f3,f4,())=fO)with
   |false=>rw[anC (λe=>aoS hd (by rw[← e];rfl))];rfl
   |true=>have e:=aoe hd;have e4:f4=[]:=congrArg (·.2.2.2.2.1) e;rw[anE (by rw[e];rfl),e4];cases aB id<;>cases n==[]<;>cases q.isEmpty<;>rfl
  .rw[tV];simp only[anf];show 6+1+_<=_;omega
 .have hok:aH q=true:=by rw[hqk,ane]at hk;exact hk.1
  refine rest _ (decide ((f0,f1,f2,f3,f4,())=fO)&&(id==0&&(au n&&fM q))) (eP::n::bf 9 q ((q.length:Int)-1)) ?_ Nb λ_=>?_
  .dsimp only;rw[hbz,anT,anF,anE rfl,anF,hv,hk];cases hd:decide ((f0,f1,f2,f3,f4,())=fO)with
   |false=>rw[anC (λe=>aoS hd (by rw[← e];rfl))];rfl
   |true=>have e:=aoe hd;have e4:f4=[]:=congrArg (·.2.2.2.2.1) e;rw[anE (by rw[e];rfl),e4];cases id==0<;>rfl
  .obtain⟨y,r,e⟩:∃y r,bf 9 q ((q.length:Int)-1)=y::r:=by
    cases e:bf 9 q ((q.length:Int)-1)with
    |nil=>exact absurd e (CY 8 q _)
    |cons y r=>exact⟨y,r,rfl⟩
   have e2:=aam hok;rw[e]at e2 ⊢;have e3:Lib.join (eP::n::y::r) [32]=Lib.join [eP,n,Sp.textOf q] [32]:=by rw[dX,dX,BL,e2];simp
   refine⟨yC rfl,?_,e3.symm⟩;rw[e3,BL];simp only[anf];show 6+1+_+1+_<=_;omega
 .refine rest _ (decide ((f0,f1,f2,f3,f4,())=fO)&&(id==0&&(au n&&q.isEmpty))) [fV,n] ?_ X9 λ_=>⟨yC rfl,?_,rfl⟩
  .dsimp only;rw[hbz,anT,anF,hdq,hv];cases hd:decide ((f0,f1,f2,f3,f4,())=fO)with
   |false=>rw[anC (λe=>aoS hd (by rw[← e];rfl))];rfl
   |true=>have e:=aoe hd;have e4:f4=[]:=congrArg (·.2.2.2.2.1) e;rw[anE (by rw[e];rfl),e4];cases id==0<;>cases q.isEmpty<;>rfl
  .rw[tV];simp only[anf];show 8+1+_<=_;omega
end Go.Proofs.Tryz
namespace Go.Proofs.Tryz
open Go Go.Fw Go.IntWalk Sp
theorem aem(n:Nat):((n:Int).tmod 2 !=0)=!(n%2==0):=by
 have e:(n:Int).tmod 2=((n%2:Nat):Int):=rfl;rw[e];cases h:n%2 with
 |zero=>rfl
 |succ k=>rw[show((k+1:Nat)==0)=false from rfl];exact apE.2 (by omega)
theorem Gf{w:Sp.LS}{n:Nat}(h:n<w.length):(w.getD n ([],())).1=Sp.wordAt w n:=by rw[jk (by omega),an9]
theorem acG{w:Sp.LS}{n:Nat}(h:n+1<w.length):w.drop n=w.getD n ([],())::w.getD (n+1) ([],())::w.drop (n+2):=by rw[drop_cons w n ([],()) (by omega),drop_cons w (n+1) ([],()) h]
theorem Zm:OK BF.e:=by
 refine PA.ok mixed (aQ [kT.e,(sQ,.pure pW)] ⟨F5,⟨AO,zG⟩,trivial⟩) aaQ (by kernel_rfl) (show∀w,BF.goal (Zn w) (w,())from ?_);intro w hin hp;dsimp only[BF]at hp ⊢;obtain⟨hl,hw⟩:w.length<=1000/\∀x∈w,x.1.length<=1048576:=hp;have no:(decide ((w.length:Int)<4)||!(w.length%2==0))=true->((((0,0,false,0,[],()):bH),false,()):bH×Bool×Unit)=((iP w).1,(iP w).2,()):=λh=>by unfold iP;rw[h];rfl
 refine⟨λ_=>4<=w.length/\w.length%2=0,af (λh=>no (by rw[h];rfl)) λh=>⟨by decide,af (λh2=>no ?_) λh2=>⟨rfl,?_⟩⟩,?_⟩
 .rw[aem]at h2;rw[h2,Bool.or_true]
 .rw[aem]at h2;exact⟨by have:=nH h;omega,anq.1 (jL h2)⟩
 rintro⟨⟨⟩,⟨⟩⟩ ⟨h4,akg⟩;have ef:iP w=((Sp.numAt w 0,Sp.numAt (w.drop 1) 0,Sp.wordAt (w.drop 1) 1==[115],Sp.numAt (w.drop 1) 2,gG (w.drop 4),()),(aN (Sp.wordAt w 0)&&(aN (Sp.wordAt w 1)&&aN (Sp.wordAt w 3)))&&sZ (w.drop 4)):=by unfold iP;rw[anC (show ¬((w.length:Int)<4) by omega),akg];show(jr _ _,_)=_;unfold jr;rw[aoG]
 have w1:∀i:Int,0<=i->Sp.wordAt (w.drop 1) i=Sp.wordAt w (1+i):=λi hi=>Fe w 1 i (by decide) hi;have en:∀v i,Sp.numAt v i=Sp.parseNum (Sp.wordAt v i):=λ_ _=>rfl;rw[en,en,en,w1 0 (by decide),w1 1 (by decide),w1 2 (by decide)]at ef;have g0:(w.getD 0 ([],())).1=Sp.wordAt w 0:=Gf (by omega);have g1:(w.getD 1 ([],())).1=Sp.wordAt w 1:=Gf (by omega);have g2:(w.getD 2 ([],())).1=Sp.wordAt w 2:=Gf (by omega);have g3:(w.getD 3 ([],())).1=Sp.wordAt w 3:=Gf (by omega);have t0:Int.toNat (0:Int)=0:=rfl;have t1:Int.toNat (1:Int)=1:=rfl;have t2:Int.toNat (2:Int)=2:=rfl;have t3:Int.toNat (3:Int)=3:=rfl;rw[ef];refine⟨⟨by decide,by omega⟩,trivial,⟨by decide,by omega⟩,trivial,⟨by decide,by omega⟩,trivial,⟨by decide,by omega⟩,?_⟩;dsimp only;rw[t0,t1,t2,t3,g0,g1,g2,g3];refine⟨λy=>y=((aN (Sp.wordAt w 0)&&(aN (Sp.wordAt w 1)&&aN (Sp.wordAt w 3)),()),()),?_,?_⟩
 .cases aN (Sp.wordAt w 0)with
  |false=>exact⟨rfl,rfl⟩
  |true=>cases aN (Sp.wordAt w 1)<;>exact⟨rfl,rfl⟩
 rintro _ rfl;generalize (aN (Sp.wordAt w 0)&&(aN (Sp.wordAt w 1)&&aN (Sp.wordAt w 3)))=ok0;refine⟨λy=>∃(n:Nat)(ok:Bool)(al:List bJ),y=((ok,((4+2*n:Nat):Int),()),(Sp.parseNum (Sp.wordAt w 0),Sp.parseNum (Sp.wordAt w 1),Sp.wordAt w 2==[115],Sp.parseNum (Sp.wordAt w 3),(),()),al,())/\4+2*n<=w.length/\al.length=n/\
  al++gG (w.drop (4+2*n))=gG (w.drop 4)/\(ok&&sZ (w.drop (4+2*n)))=(ok0&&sZ (w.drop 4)),λy=>((w.length:Int)-y.1.2.1).toNat,⟨0,ok0,[],rfl,h4,rfl,rfl,rfl⟩,?_⟩
 rintro _ ⟨n,ok,al,rfl,hn,hal,has,hok⟩;dsimp only;refine af (λh=>?_) λh=>?_
 .have hlt:=lV h;have hlt2:4+2*n+1<w.length:=by omega
  have e1:IntKind.i64.wrap (((4+2*n:Nat):Int)+1)=((4+2*n+1:Nat):Int):=(wrap_in (by omega)).trans (by omega);have e2:IntKind.i64.wrap (((4+2*n:Nat):Int)+2)=((4+2*(n+1):Nat):Int):=(wrap_in (by omega)).trans (by omega);rw[e1,e2,an9,an9];have hd:=acG hlt2;have hd2:w.drop (4+2*n+2)=w.drop (4+2*(n+1)):=by rw[show 4+2*n+2=4+2*(n+1) by omega]
  rw[hd2]at hd;rw[hd]at has hok;have ha:gG (w.getD (4+2*n) ([],())::w.getD (4+2*n+1) ([],())::w.drop (4+2*(n+1)))=((w.getD (4+2*n) ([],())).1,(aY (w.getD (4+2*n+1) ([],())).1).1)::gG (w.drop (4+2*(n+1))):=rfl;have hv:sZ (w.getD (4+2*n) ([],())::w.getD (4+2*n+1) ([],())::w.drop (4+2*(n+1)))=((aY (w.getD (4+2*n+1) ([],())).1).2&&sZ (w.drop (4+2*(n+1)))):=rfl;rw[ha]at has;rw[hv]at hok;refine⟨⟨by omega,by omega⟩,hw _ (getD_mem hlt2),⟨by omega,by omega⟩,yM (by rw[anh,anj];omega),?_⟩;have next:∀b:Bool,(b&&sZ (w.drop (4+2*(n+1))))=(ok0&&sZ (w.drop 4))->∃(m:Nat)(ok:Bool)(al':List bJ),((b,((4+2*(n+1):Nat):Int),()),(Sp.parseNum (Sp.wordAt w 0),Sp.parseNum (Sp.wordAt w 1),Sp.wordAt w 2==[115],Sp.parseNum (Sp.wordAt w 3),(),()),al++[((w.getD (4+2*n) ([],())).1,(aY (w.getD (4+2*n+1) ([],())).1).1)],())=((ok,((4+2*m:Nat):Int),()),(Sp.parseNum (Sp.wordAt w 0),Sp.parseNum (Sp.wordAt w 1),Sp.wordAt w 2==[115],Sp.parseNum (Sp.wordAt w 3),(),()),al',())/\4+2*m<=w.length/\al'.length=m/\
   al'++gG (w.drop (4+2*m))=gG (w.drop 4)/\(ok&&sZ (w.drop (4+2*m)))=(ok0&&sZ (w.drop 4)):=λb hb=>
   ⟨n+1,b,_,rfl,by omega,by rw[anf,anh,anj,hal],by rw[anz];exact has,hb⟩
  cases ok with
  |true=>exact⟨rfl,next _ (by rw[← hok,anF]),by omega⟩
  |false=>exact⟨rfl,next _ (by rw[← hok,anY,anY]),by omega⟩
 .have hge:4+2*n=w.length:=by have:=nH h;omega
  rw[hge,ap7]at has hok;have e1:al=gG (w.drop 4):=by rw[← has];exact(anN _).symm
  have e2:ok=(ok0&&sZ (w.drop 4)):=by rw[← hok];exact(anQ _).symm
  rw[e1,e2];rfl
theorem Yb:OK zX.e:=by
 refine PA.ok mixed (aQ [nZ.e,mQ.e,uf.e] ⟨F6,zi,EO,trivial⟩) Zo (by kernel_rfl) (show∀p id,zX.goal (Yc p id) (p,id,())from ?_);intro w id hin hp;dsimp only[zX]at hp ⊢;obtain⟨hl,hw⟩:w.length<=1000/\∀x∈w,x.1.length<=1048576:=hp;refine⟨by decide,by decide,by decide,?_⟩;refine⟨λy=>∃(n:Nat)(al:List bJ),y=((((3+2*n:Nat):Int),()),(id,Sp.numAt w 0,Sp.wordAt w 1==[115],Sp.numAt w 2,(),()),al,())/\(n=0\/3+2*n<=w.length+1)/\al.length=n/\al++gG (w.drop (3+2*n))=gG (w.drop 3),
  λy=>((w.length:Int)-y.1.1).toNat,⟨0,[],rfl,.inl rfl,rfl,rfl⟩,?_⟩
 rintro _ ⟨n,al,rfl,hn,hal,has⟩;dsimp only;refine af (λh=>?_) λh=>?_
 .have hlt:3+2*n<w.length:=by have:=lV h;omega
  have e1:IntKind.i64.wrap (((3+2*n:Nat):Int)+1)=((3+2*n+1:Nat):Int):=(wrap_in (by omega)).trans (by omega);have e2:IntKind.i64.wrap (((3+2*n:Nat):Int)+2)=((3+2*(n+1):Nat):Int):=(wrap_in (by omega)).trans (by omega);rw[e1,e2,an9];have hwl:(Sp.wordAt w ((3+2*n+1:Nat):Int)).length<=1048576:=by
   by_cases hh:((3+2*n+1:Nat):Int)<(w.length:Int)
   .rw[jk hh];exact hw _ (getD_mem (by omega))
   .rw[oD (by omega)];exact ano _
  have ha:gG (w.drop (3+2*n))=((w.getD (3+2*n) ([],())).1,(aY (Sp.wordAt w ((3+2*n+1:Nat):Int))).1)::gG (w.drop (3+2*(n+1))):=by
   rcases anL (3+2*n+1) w.length with h2|h2
   .rw[acG h2,← Gf h2,show 3+2*n+2=3+2*(n+1) by omega];rfl
   .rw[drop_cons w (3+2*n) ([],()) hlt,aor h2,aor (by omega),oD (by omega)];rfl
  rw[ha]at has;refine⟨by omega,hwl,⟨by omega,by omega⟩,yM (by rw[anh,anj];omega),rfl,⟨n+1,_,rfl,.inr (by omega),by rw[anf,anh,anj,hal],?_⟩,by omega⟩;rw[anz];exact has
 .have hge:w.length<=3+2*n:=by have:=nH h;omega
  rw[aor hge]at has;have e1:al=gG (w.drop 3):=by rw[← has];exact(anN _).symm
  rw[e1];rfl
theorem TS{s:List UInt8}(h:fP s=false):((bZ 0 fO 0 [] [],false,()):dG×Bool×Unit)=(dO s,fP s,()):=by unfold dO;rw[h];rfl
theorem ahe(w:Sp.LS):(if(w.length:Int)<2 then(w.length:Int)else 2).toNat=min 2 w.length:=by split<;>omega
theorem Qh:OK uJ.e:=by
 refine PA.ok mixed (aQ [qO.e,oO.e,(vW,.pure tH),(mX,.pure jT),tZ.e,uG.e,BF.e,jd.e] ⟨FY,Ed,⟨F9,Et⟩,⟨uT,sS⟩,EN,Ja,Zm,yU,trivial⟩) SB (by kernel_rfl) (show∀line,uJ.goal (Qi line) (line,())from ?_);intro line hin hp;dsimp only[uJ]at hp ⊢;have hp:line.length<=1048576:=hp;refine⟨hp,λ_=>bW line=true/\ai line≠[],af (λh=>TS ?_) λh=>af (λh2=>TS ?_) λh2=>⟨rfl,jL h,λe=>?_⟩,λ_ hj=>?_⟩
 .unfold fP;rw[nV h];rfl
 .have h2:((ai line).length:Int)=0:=by simpa using h2
  have hn:Sp.wordsOf line=[]:=by rw[← (nJ (jL h)).1];exact an0.1 (by omega)
  unfold fP;rw[hn];cases bW line<;>rfl
 .rw[e]at h2;revert h2;decide
 obtain⟨hok,hne⟩:=hj;obtain⟨hw,hl1,hl2,_,_⟩:=nJ hok;have hs:=kE.1 hok;have hws:∀x∈Sp.wordsOf line,x.1.length<=1000:=λx hx=>ank (Jg x hx) (ank hs.1 (by decide));have Wj:(Sp.wordsOf line).length<=24:=by rw[lX];have:=hs.2.2;omega
 have hpc:fP line=((iL (Sp.wordsOf line)).2&&(!(aI (iL (Sp.wordsOf line)).1==[])&&decide (Sp.wordsOf (aI (iL (Sp.wordsOf line)).1)=Sp.wordsOf line))):=by unfold fP;rw[hok,show(Sp.wordsOf line==[])=false from ang.2 (by rw[← hw];exact hne)];rfl
 have hpl:fP line=true->dO line=(iL (Sp.wordsOf line)).1:=λh=>(Ld h).2;have off:fP line=false->((bZ 0 fO 0 [] [],false,()):dG×Bool×Unit)=(dO line,fP line,()):=TS;obtain⟨hsm,hat⟩:=acH Wj hws;have hft:=Ji _ hat;have hfa:=agv (iL (Sp.wordsOf line)).1;rw[hw]at hne ⊢;rw[hok];generalize fP line=pc at hpc hpl off ⊢;generalize dO line=pl at hpl off ⊢;generalize Sp.wordsOf line=w at hne hl1 hl2 hws Wj hpc hpl hsm hat hft hfa ⊢;have hlen:0<w.length:=aoZ.2 hne;have hlen2:(0:Int)<(w.length:Int):=by omega
 have e0:(List.getD w (Int.toNat (0:Int)) ([],())).fst=Sp.wordAt w 0:=(jk (by omega)).symm;have htk:List.take w.length w=w:=aok (ann _);have hwd:∀n,∀x∈w.drop n,x.1.length<=1048576:=λn x hx=>ank (hws x (aoq hx)) (by decide);have n1:(0:Int)<=1:=by decide
 have t1:Int.toNat (1:Int)=1:=rfl;refine⟨λy=>y=(((iL w).2,()),(iL w).1,()),⟨⟨by decide,hlen2⟩,?_⟩,?_⟩
 .rw[e0,htk,t1];unfold iL iD fK iE eP fV;cases Sp.wordAt w 0==[99,114,101,97,116,101]with
  |true=>
   refine⟨⟨n1,by omega⟩,yM (by rw[anI,anh,anj];omega),⟨by rw[anf,anI,anh,anj];omega,λx hx=>?_⟩,rfl,rfl⟩;rcases an4.1 hx with hx|hx
   .rw[aod.1 hx];show 1<=_;decide
   .exact hwd 1 x hx
  |false=>
  cases Sp.wordAt w 0==[117,112,100,97,116,101]with
  |true=>exact⟨⟨n1,by omega⟩,⟨by rw[anI];omega,hwd 1⟩,rfl,rfl⟩
  |false=>
  cases Sp.wordAt w 0==[100,101,108,101,116,101]with
  |true=>exact⟨n1,rfl,rfl⟩
  |false=>
  cases Sp.wordAt w 0==[100,101,102,105,110,101]with
  |true=>
   have hmd:w.drop (if(w.length:Int)<2 then(w.length:Int)else 2).toNat=w.drop 2:=by
    rw[ahe];rcases anL w.length 2 with h|h
    .rw[Nat.min_eq_right (by omega),ap7,aor (by omega)]
    .rw[apv h]
   have hmj:(Lib.join ((w.drop 2).map λx=>x.1) [32]).length<=1048576:=by
    have hj:=Wl (m:=1000) (w:=w.drop 2) λx hx=>hws x (aoq hx);have hdl:(w.drop 2).length<=24:=by rw[anI];omega
    have:(w.drop 2).length*(1000+1)<=24*(1000+1):=anG _ hdl;exact ank hj (by omega)
   dsimp only;rw[hmd];refine⟨n1,⟨?_,?_⟩,⟨by rw[anI];omega,ank hmj (by decide)⟩,hmj,rfl,rfl⟩
   .split<;>omega
   .split<;>omega
  |false=>
  cases Sp.wordAt w 0==[117,110,100,101,102,105,110,101]with
  |true=>exact⟨n1,rfl,rfl⟩
  |false=>exact⟨rfl,rfl⟩
 rintro _ rfl;dsimp only;refine af (λh=>off ?_) λh=>⟨hsm,⟨ank hft (by decide),hfa⟩,af (λh2=>off ?_) λh2=>?_⟩
 .rw[hpc,nV h];rfl
 .have h2:(!(aI (iL w).1==[])&&decide (Sp.wordsOf (aI (iL w).1)=w))=false:=nV h2;rw[hpc,h2,anB]
 .have h2:(!(aI (iL w).1==[])&&decide (Sp.wordsOf (aI (iL w).1)=w))=true:=jL h2;have hpt:pc=true:=by rw[hpc,h2,jL h];rfl
  rw[hpl hpt,hpt]
theorem Qj:OK uK.e:=by
 refine PA.ok mixed (aQ [lI.e,qP.e,rX.e,uf.e,zX.e,mP.e] ⟨xY,F8,D7,EO,Yb,yT,trivial⟩) SC (by kernel_rfl) (show∀line,uK.goal (Qk line) (line,())from ?_);intro line hin hp;dsimp only[uK]at hp ⊢;have hp:line.length<=1048576:=hp;refine⟨hp,λ_=>bW line=true/\2<=(ai line).length,af (λh=>TS ?_) λh=>af (λh2=>TS ?_) λh2=>⟨rfl,jL h,by have:=nH h2;omega⟩,λ_ hj=>?_⟩
 .rw[← H9];unfold ES;rw[nV h];rfl
 .rw[← H9];unfold ES;rw[(nJ (jL h)).1]at h2;rw[h2];cases bW line<;>rfl
 obtain⟨hok,hlen⟩:=hj;obtain⟨hw,hl1,hl2,_,_⟩:=nJ hok;have hs:=kE.1 hok;have hws:∀x∈Sp.wordsOf line,x.1.length<=1000:=λx hx=>ank (Jg x hx) (ank hs.1 (by decide));have Wj:(Sp.wordsOf line).length<=24:=by rw[lX];have:=hs.2.2;omega
 rw[hw]at hlen;have hpc:fP line=(!(aI (gq (Sp.wordsOf line))==[])&&aI (gq (Sp.wordsOf line))==dL (Sp.wordsOf line)):=by rw[← H9];unfold ES;rw[hok,anC (show ¬(((Sp.wordsOf line).length:Int)<2) by omega)];rfl
 have hpl:fP line=true->dO line=gq (Sp.wordsOf line):=λh=>(Ld h).1;have off:fP line=false->((bZ 0 fO 0 [] [],false,()):dG×Bool×Unit)=(dO line,fP line,()):=TS;obtain⟨hsm,hat⟩:=acI Wj hws;rw[hw];generalize fP line=pc at hpc hpl off ⊢;generalize dO line=pl at hpl off ⊢;generalize Sp.wordsOf line=w at hlen hl1 hl2 hws Wj hpc hpl hsm hat ⊢;have e0:(List.getD w (Int.toNat (0:Int)) ([],())).fst=Sp.wordAt w 0:=(jk (by omega)).symm;have e1:(List.getD w (Int.toNat (1:Int)) ([],())).fst=Sp.wordAt w 1:=(jk (by omega)).symm;have htk:List.take w.length w=w:=aok (ann _);have hwd:∀n,∀x∈w.drop n,x.1.length<=1048576:=λn x hx=>ank (hws x (aoq hx)) (by decide);have n1:(0:Int)<=1:=by decide
 have n2:(0:Int)<=2:=by decide
 have t1:Int.toNat (1:Int)=1:=rfl;have t2:Int.toNat (2:Int)=2:=rfl;have hdl:∀n,(w.drop n).length<=1000:=λn=>by rw[anI];omega
 refine⟨λy=>y=((),gq w,()),⟨⟨by decide,by omega⟩,?_⟩,?_⟩
 .rw[e0,e1,htk,t1,t2];unfold gq iD fK iE eP fV;cases Sp.wordAt w 0==[99,114,101,97,116,101]with
  |true=>exact⟨⟨n1,by omega⟩,⟨hdl 1,hwd 1⟩,rfl,rfl⟩
  |false=>
  cases Sp.wordAt w 0==[117,112,100,97,116,101]with
  |true=>exact⟨⟨n2,by omega⟩,n1,⟨hdl 2,hwd 2⟩,rfl,rfl⟩
  |false=>
  cases Sp.wordAt w 0==[100,101,108,101,116,101]with
  |true=>exact⟨n1,rfl,rfl⟩
  |false=>
  cases Sp.wordAt w 0==[100,101,102,105,110,101]with
  |true=>
   have hmj:(dL (w.drop 2)).length<=1048576:=by
    have hj:=Wl (m:=1000) (w:=w.drop 2) λx hx=>hws x (aoq hx);have hdl:(w.drop 2).length<=24:=by rw[anI];omega
    have:(w.drop 2).length*(1000+1)<=24*(1000+1):=anG _ hdl;omega
   exact⟨⟨n2,by omega⟩,⟨hdl 2,ank hmj (by decide)⟩,hmj,⟨n1,by omega⟩,rfl,rfl⟩
  |false=>
  cases Sp.wordAt w 0==[117,110,100,101,102,105,110,101]with
  |true=>exact⟨⟨n1,by omega⟩,rfl,rfl⟩
  |false=>exact⟨rfl,rfl⟩
 rintro _ rfl;dsimp only;refine⟨hsm,af (λh=>off ?_) λh=>⟨⟨hl1,hl2⟩,af (λh2=>off ?_) λh2=>?_⟩⟩
 .rw[hpc,show(aI (gq w)==[])=true from h];rfl
 .have h2:(aI (gq w)==dL w)=false:=nV h2;rw[hpc,h2,anB]
 .have h2:(aI (gq w)==dL w)=true:=jL h2;have h:(aI (gq w)==[])=false:=h;have hpt:pc=true:=by rw[hpc,h2,h];rfl
  rw[hpl hpt,hpt]
end Go.Proofs.Tryz
namespace Go.Proofs.Tryz
open Go Go.Fw Go.IntWalk Sp
set_option maxRecDepth 100000
theorem Gg:OK qR.e:=by
 refine PA.ok mixed (aQ [zS.e,yZ.e] ⟨XC,VZ,trivial⟩) H0 (by kernel_rfl) (show∀a0 a1 a2 a3 a4 a5 a6 a7 a8 b0 b1 b2 b3 b4 b5 b6 b7 b8,qR.goal (SE a0 a1 a2 a3 a4 a5 a6 a7 a8 b0 b1 b2 b3 b4 b5 b6 b7 b8) ((a0,a1,a2,a3,a4,a5,a6,a7,a8,()),(b0,b1,b2,b3,b4,b5,b6,b7,b8,()),())from ?_);intro a0 a1 a2 a3 a4 a5 a6 a7 a8 b0 b1 b2 b3 b4 b5 b6 b7 b8 hin hp;dsimp only[qR]at hp ⊢;refine af (λh0=>⟨trivial,af (λh1=>af (λh2=>⟨trivial,?_⟩) λh2=>?_) λh1=>?_⟩) λh0=>?_
 .have e1:=aoe h1;obtain rfl:=anq.1 h0;obtain rfl:=anq.1 h2;cases e1;refine congrArg (·,()) (an2.2 ?_);rw[anl,anl];constructor
  .intro e;cases e;rfl
  .intro e;cases e;rfl
 .exact congrArg (·,()) (anC λe=>ang.1 h2 (congrArg (·.2.2.2.2.2.2.1) e)).symm
 .exact congrArg (·,()) (anC λe=>aoS h1 (by cases e;rfl)).symm
 .exact congrArg (·,()) (anC λe=>ang.1 h0 (congrArg (·.1) e)).symm
theorem Ql:OK uM.e:=by refine PA.ok mixed (aQ [qR.e] ⟨Gg,trivial⟩) SG (by kernel_rfl) (show∀a b,uM.goal (Qm a b) (a,b,())from ?_);intro a b hin hp;dsimp only[uM]at hp ⊢;exact alB (K:=λr=>r=(decide (a=b),())) (λx y=>!decide (x=y)) (λx y=>by simp) (0,0,0,false,0,[],0,[],[],()) a b _ hin.1.1 rfl
theorem SH:OK vP.e:=by
 refine PA.ok mixed (aQ [uM.e] ⟨Ql,trivial⟩) H0 (by kernel_rfl) (show∀a0 a1 a2 a3 a4 b0 b1 b2 b3 b4,vP.goal (SI a0 a1 a2 a3 a4 b0 b1 b2 b3 b4) ((a0,a1,a2,a3,a4,()),(b0,b1,b2,b3,b4,()),())from ?_);intro a0 a1 a2 a3 a4 b0 b1 b2 b3 b4 hin hp;dsimp only[vP]at hp ⊢;refine af (λh0=>af (λh1=>⟨trivial,af (λh2=>af (λh3=>?_) λh3=>?_) λh2=>?_⟩) λh1=>?_) λh0=>?_
 .have e2:=aoe h2;obtain rfl:=anq.1 h0;obtain rfl:=anq.1 h1;obtain rfl:=anq.1 h3;subst e2;refine congrArg (·,()) (an2.2 ?_);rw[anq,anl];constructor
  .intro e;rw[e]
  .intro e;exact congrArg (·.2.2.2.2.1) e
 .exact congrArg (·,()) (anC λe=>ang.1 h3 (congrArg (·.2.2.2.1) e)).symm
 .exact congrArg (·,()) (anC λe=>aoS h2 (congrArg (·.2.2.1) e)).symm
 .exact congrArg (·,()) (anC λe=>ang.1 h1 (congrArg (·.2.1) e)).symm
 .exact congrArg (·,()) (anC λe=>ang.1 h0 (congrArg (·.1) e)).symm
theorem aan:∀(fs:List jP)(name:List UInt8),Sp.kindOf fs name≠0->∃f∈fs,f.1=name
 |[],name,h=>absurd rfl h
 |f::r,name,h=>by
  rw[Sp.kindOf]at h;cases e:decide (f.1=name)with
  |true=>exact⟨f,anp,aoe e⟩
  |false=>rw[e]at h;obtain⟨g,h1,h2⟩:=aan r name h;exact⟨g,ant _ h1,h2⟩
theorem agw{k n:Int}{s:List UInt8}(h:aZ k n s=true):s.length<=6:=by
 by_cases h0:k=0
 .subst h0;unfold aZ at h;simp at h;rw[h.2];decide
 by_cases h1:k=1
 .subst h1;rw[(afm h).2.2];decide
 by_cases h2:k=2
 .subst h2;have:=(ahT h).1;unfold au at this;simp only[ane,anl]at this;omega
 unfold aZ at h;rw[anC h0,anC h1,anC h2]at h;cases h
theorem aen{a:List bJ}(h:oW Sp.usual a=true):∀x∈a,x.1.length<=10/\x.2.2.2.1.length<=10:=by
 intro x hx;have hm:=(adD.1 h).1 x hx;unfold OM at hm;rw[ane,ane,anl]at hm;obtain⟨⟨h1,h2⟩,h3⟩:=hm;have hk:Sp.kindOf Sp.usual x.1≠0:=by rw[← h3];exact aoS (nV h2)
 obtain⟨f,hf,e⟩:=aan _ _ hk;have hn:∀f∈Sp.usual,f.1.length<=10:=by decide
 exact⟨by rw[← e];exact hn f hf,ank (agw h1) (by decide)⟩
theorem acJ{a:List bJ}(hl:a.length<=9)(h:∀x∈a,x.1.length<=10/\x.2.2.2.1.length<=10):zY a=true:=by unfold zY;rw[anE hl,anF,anx];intro x hx;rw[anE (h x hx).1,anE (h x hx).2];rfl
theorem acK{a:List bJ}(h:oW Sp.usual a=true)(hl:a.length<=4):zY a=true:=acJ (by omega) (aen h)
theorem adE{a:List bJ}{name:List UInt8}{k n:Int}{s:List UInt8}{x:bJ}(hx:x∈iT a name k n s):x∈a\/x=(name,k,n,s,()):=by
 unfold iT at hx;cases h:decide (k=0)with
 |true=>rw[h]at hx;exact .inl ((ao5.1 hx).1)
 |false=>
  rw[h]at hx;have hx:x∈Ig (a.filter (mM name)) (name,k,n,s,()):=hx;unfold Ig at hx;rcases an4.1 hx with h|h
  .exact .inl (ao5.1 (List.takeWhile_subset _ h)).1
  .rcases anA.1 h with h|h
   .exact .inr h
   .exact .inl (ao5.1 (List.dropWhile_subset _ h)).1
theorem Qn:OK uN.e:=by
 refine XA.ok mixed (aQ [wz.e,jc.e,yg.e,zQ.e,gm.e,rV.e,bT.e] ⟨J8,oU,MH,Xn,jh,DZ,dD,trivial⟩) SK (λ_ _=>⟨(((0,0,false,0,[],()),()),(([],0,0,()),())),⟨by decide,by decide⟩⟩) (by kernel_rfl) (show∀c0 c1 c2,uN.goal (Qo c0 c1 c2) ((c0,c1,c2,()),())from ?_);intro b i h hin hp;dsimp only[uN]at hp ⊢;have hp:0<=i:=hp;refine⟨hp,?_⟩;rintro⟨⟨x0,⟨⟩⟩,⟨b0,i0,g0,⟨⟩⟩,⟨⟩⟩ ⟨p0,_⟩;refine⟨p0,?_⟩;rintro⟨⟨⟨d,o,s,l,a,⟨⟩⟩,⟨⟩⟩,⟨b1,i1,g1,⟨⟩⟩,⟨⟩⟩ ⟨p1,_,_,_,_,_,hok,ha⟩;have ha:a.length<=4:=ha;have hok:oW Sp.usual a=true:=hok;have hfew:=acK hok ha;have hall:=aen hok;refine⟨p1,?_⟩;rintro⟨⟨x2,⟨⟩⟩,⟨b2,i2,g2,⟨⟩⟩,⟨⟩⟩ ⟨p2,_⟩;refine af (λ_=>⟨⟨p2,by simp⟩,?_⟩) λ_=>af (λ_=>⟨⟨p2,by simp⟩,?_⟩) λ_=>af (λ_=>⟨⟨p2,by simp⟩,?_⟩) λ_=>af (λ_=>⟨p2,?_⟩) λ_=>af (λ_=>⟨trivial,(show a.length<=1000 by omega),?_⟩) λ_=>⟨p2,hfew⟩
 .rintro⟨⟨x3,⟨⟩⟩,⟨b3,i3,g3,⟨⟩⟩,⟨⟩⟩ ⟨p3,_⟩;exact⟨p3,hfew⟩
 .rintro⟨⟨x3,⟨⟩⟩,⟨b3,i3,g3,⟨⟩⟩,⟨⟩⟩ ⟨p3,_⟩;exact⟨p3,hfew⟩
 .rintro⟨⟨x3,⟨⟩⟩,⟨b3,i3,g3,⟨⟩⟩,⟨⟩⟩ ⟨p3,_⟩;exact⟨p3,hfew⟩
 .rintro⟨⟨x3,⟨⟩⟩,⟨b3,i3,g3,⟨⟩⟩,⟨⟩⟩ ⟨p3,hx3⟩;have hx3:x3.length<=1:=hx3;refine⟨p3,?_⟩;rintro⟨⟨⟨k,n,w,⟨⟩⟩,⟨⟩⟩,⟨b4,i4,g4,⟨⟩⟩,⟨⟩⟩ ⟨p4,hw⟩;have hw:w.length<=10:=hw;refine⟨(show a.length+1<=big by rw[yx];omega),p4,?_⟩;show zY (a++[(x3,k,n,w,())])=true;refine acJ (by rw[anf,anh,anj];omega) λx hx=>?_;rcases an4.1 hx with h|h
  .exact hall x h
  .rw[aod.1 h];exact⟨ank hx3 (by decide),hw⟩
 .rintro⟨⟨⟨d',o',s',l',a',⟨⟩⟩,⟨⟩⟩,⟨⟩⟩ ⟨_,_,_,_,e5⟩;refine⟨p2,?_⟩;have e5:a'=iT a [97] 2 0 [114,101,100]:=e5;show zY a'=true;rw[e5];refine acJ (ank (adu _ _ _ _ _) (by omega)) λx hx=>?_;rcases adE hx with h|h
  .exact hall x h
  .rw[h];decide
theorem Gh{k i o l id:Int}{s:Bool}{n:List UInt8}{q:List aA}(hn:n.length<=10)(hq:q.length<=1000):oZ (k,i,o,s,l,[],id,n,q,()):=⟨by show zY []=true;decide,hn,hq⟩
theorem rM{k i o l id:Int}{s:Bool}{a:List bJ}{n:List UInt8}{q:List aA}(ha:zY a=true)(hn:n.length<=10)(hq:q.length<=1000):oZ (k,i,o,s,l,a,id,n,q,()):=⟨ha,hn,hq⟩
theorem OO:∀y∈([([100,97],()),([100,98],()),([100,99],())]:List (List UInt8×Unit)),List.length y.1<=10:=by decide
theorem Kw:OK wG.e:=by
 refine XA.ok mixed (aQ [rV.e,pV.e,dY.e,kK.e] ⟨DZ,Eu,fU,uU,trivial⟩) H0 (λ_ _=>⟨(((0,0,0,false,0,[],0,[],[],()),()),(([],0,0,()),())),⟨by decide,by decide,by decide,by decide⟩⟩) (by kernel_rfl) (show∀c0 c1 c2 u,wG.goal (Yd c0 c1 c2 u) ((c0,c1,c2,()),u,())from ?_);intro b i h u hin hp;dsimp only[wG]at hp ⊢;refine⟨hp,λr0 hr0=>af (λ_=>⟨⟨hr0,by simp⟩,λr1 hr1=>⟨hr1.1,λr2 hr2=>⟨hr2.1,?_⟩⟩⟩) λ_=>⟨hr0,λr3 hr3=>⟨hr3.1,?_⟩⟩⟩
 .exact Gh (OO _ hr1.2) (ank hr2.2.2 (by decide))
 .exact rM (acK hr3.2.2.2.2.2.2.1 hr3.2.2.2.2.2.2.2) (ano _) (ano _)
theorem Px:OK zu.e:=by
 refine XA.ok mixed (aQ [rV.e,dY.e,bT.e,gm.e,wG.e,kK.e] ⟨DZ,fU,dD,jh,Kw,uU,trivial⟩) H0 (λ_ _=>⟨(((0,0,0,false,0,[],0,[],[],()),()),(([],0,0,()),())),⟨by decide,by decide,by decide,by decide⟩⟩) (by kernel_rfl) (show∀c0 c1 c2 u,zu.goal (aaR c0 c1 c2 u) ((c0,c1,c2,()),u,())from ?_);intro b i h u hin hp;dsimp only[zu]at hp ⊢;refine⟨hp,λr0 hr0=>af (λ_=>⟨hr0,λr1 hr1=>hr1⟩) λ_=>⟨⟨hr0,by simp⟩,λr2 hr2=>⟨hr2.1,λr3 hr3=>⟨⟨hr3.1,by simp⟩,λr4 hr4=>af (λ_=>⟨hr4.1,λr5 Ye=>⟨Ye.1,?_⟩⟩) λ_=>⟨hr4.1,?_⟩⟩⟩⟩⟩
 .exact rM (acK Ye.2.2.2.2.2.2.1 Ye.2.2.2.2.2.2.2) (OO _ hr4.2) (ano _)
 .exact Gh (OO _ hr4.2) (ano _)
theorem Py:OK zx.e:=by
 refine XA.ok mixed (aQ [zu.e,bT.e] ⟨Px,dD,trivial⟩) H0 (λ_ _=>⟨(((0,0,0,false,0,[],0,[],[],()),()),(([],0,0,()),())),⟨by decide,by decide,by decide,by decide⟩⟩) (by kernel_rfl) (show∀c0 c1 c2,zx.goal (aaS c0 c1 c2) ((c0,c1,c2,()),())from ?_);intro b i h hin hp;dsimp only[zx]at hp ⊢;refine⟨hp,λr0 hr0=>⟨hr0.1,?_⟩⟩;rintro⟨⟨⟨k,i,o,s,l,a,id,n,q,⟨⟩⟩,⟨⟩⟩,cu,⟨⟩⟩ ⟨p1,d1,d2,d3⟩;have d1:zY a=true:=d1;have d2:n.length<=10:=d2;have d3:q.length<=1000:=d3;exact af (λ_=>⟨p1,rM d1 (ano _) (ano _)⟩) λ_=>af (λ_=>⟨p1,rM d1 (ano _) (ano _)⟩) λ_=>af (λ_=>⟨p1,Gh (ano _) (ano _)⟩) λ_=>
  af (λ_=>⟨p1,Gh d2 d3⟩) λ_=>⟨p1,Gh d2 (ano _)⟩
theorem Nc:OK yh.e:=by
 refine XA.ok mixed (aQ [dY.e,zu.e,bT.e,gm.e] ⟨fU,Px,dD,jh,trivial⟩) aaT (λ_ _=>⟨(((0,0,[],[],0,()),()),(([],0,0,()),())),⟨by decide,by decide,by decide⟩⟩) (by kernel_rfl) (show∀c0 c1 c2,yh.goal (Zp c0 c1 c2) ((c0,c1,c2,()),())from ?_);intro b i h hin hp;dsimp only[yh]at hp ⊢;refine⟨⟨hp,by simp⟩,λr0 hr0=>⟨hr0.1,λr1 hr1=>⟨λ_=>True,?_,λy _=>?_⟩⟩⟩
 .exact af (λ_=>⟨rfl,trivial⟩) λ_=>⟨rfl,trivial⟩
 have q1:=hr1.1;refine af (λ_=>⟨q1,λr4 hr4=>?_⟩) λ_=>?_
 .have g0:=hr4.2.1;have g1:=hr4.2.2.1 (by decide);have ew:IntKind.i64.wrap (1+r4.1.1)=1+r4.1.1:=wrap_in (by omega);rw[ew];refine⟨λy=>0<=y.2.1.2.1/\0<=y.1.1/\(y.2.2.2.1.length:Int)+y.1.1<=2/\y.2.2.1.2.2.2.1.length<=10,λy=>y.1.1.toNat,⟨hr4.1,by dsimp only;omega,by dsimp only;rw[anj];omega,ano _⟩,?_⟩;rintro⟨⟨n,⟨⟩⟩,cu,hd,l,⟨⟩⟩ ⟨p1,p2,p3,p4⟩;have p2:0<=n:=p2;have p3:(l.length:Int)+n<=2:=p3;refine af (λh=>⟨p1,λr7 hr7=>?_⟩) λh=>⟨⟨p1,by simp⟩,λr8 hr8=>⟨hr8.1,?_,p4⟩⟩
  .have h:=lV h;have ew2:IntKind.i64.wrap (n-1)=n-1:=wrap_in (by omega);dsimp only at h ⊢;rw[ew2];refine⟨yM (by rw[anh,anj];omega),rfl,⟨hr7.1,by omega,?_,p4⟩,by omega⟩;show((l++[r7.1.1]).length:Int)+(n-1)<=2;rw[anf,anh,anj];omega
  .show l.length<=2;omega
 have xZ:([]:List dG).length<=2:=ano _;have TT:([]:List UInt8).length<=10:=ano _;have nm:=λ(r:(List UInt8×Unit)×(List (Int×Unit)×Int×Int×Unit)×Unit)(h:r.1∈([([100,97],()),([100,98],()),([100,99],())]:List (List UInt8×Unit)))=>OO _ h;refine af (λ_=>⟨⟨q1,by simp⟩,λr9 hr9=>⟨hr9.1,xZ,nm r9 hr9.2⟩⟩) λ_=>af (λ_=>af (λ_=>⟨q1,λr10 alC=>⟨alC.1,xZ,TT⟩⟩) λ_=>af (λ_=>af (λ_=>⟨⟨q1,by simp⟩,λr11 ajg=>⟨ajg.1,λr12 alD=>⟨alD.1,xZ,nm r11 ajg.2⟩⟩⟩) λ_=>⟨q1,xZ,TT⟩) λ_=>af (λ_=>⟨⟨q1,by simp⟩,λr13 ajh=>⟨ajh.1,λkR alE=>⟨alE.1,xZ,nm r13 ajh.2⟩⟩⟩) λ_=>⟨q1,xZ,TT⟩)
  λ_=>af (λ_=>⟨q1,λoH alF=>⟨alF.1,xZ,TT⟩⟩) λ_=>af (λ_=>af (λ_=>⟨⟨q1,by simp⟩,λr16 aji=>⟨aji.1,λtq alG=>⟨alG.1,xZ,nm r16 aji.2⟩⟩⟩) λ_=>⟨q1,xZ,TT⟩) λ_=>af (λ_=>⟨⟨q1,by simp⟩,λEe ajj=>⟨ajj.1,λED alH=>⟨alH.1,xZ,nm Ee ajj.2⟩⟩⟩) λ_=>⟨q1,xZ,TT⟩
theorem Zq:OK BG.e:=by
 refine XA.ok mixed (aQ [wG.e,gm.e,zU.e,bT.e,yh.e] ⟨Kw,jh,XJ,dD,Nc,trivial⟩) aaU (λ_ _=>⟨(((0,0,[],[],0,()),()),(([],0,0,()),())),⟨by decide,by decide,by decide⟩⟩) (by kernel_rfl) (show∀c0 c1 c2,BG.goal (Zr c0 c1 c2) ((c0,c1,c2,()),())from ?_);intro b i h hin hp;dsimp only[BG]at hp ⊢;refine⟨hp,λr0 hr0=>⟨hr0.1,λr1 hr1=>?_⟩⟩;have q1:=hr1.1;have c2:r0.1.1.2.2.1.length<=7:=ank hr0.2.1 (by decide);have c3:=hr0.2.2;refine af (λ_=>⟨q1,λr2 hr2=>⟨hr2.1,c2,c3⟩⟩) λ_=>af (λ_=>⟨q1,λr3 hr3=>⟨hr3,c2,c3⟩⟩) λ_=>af (λ_=>⟨⟨q1,by simp⟩,λr4 hr4=>⟨hr4.1,c2,c3⟩⟩) λ_=>af (λ_=>?_) λ_=>⟨q1,c2,c3⟩;refine⟨λy=>0<=y.2.1.2.1/\y.2.2.1.length<=7,λy=>7-y.2.2.1.length,⟨q1,c2⟩,?_⟩;rintro⟨⟨⟩,cu,l,⟨⟩⟩ ⟨p1,p2⟩;have p2:l.length<=7:=p2;refine af (λh=>⟨p1,λr7 hr7=>?_⟩) λh=>⟨p1,p2,c3⟩;have h:=lV h;dsimp only at h ⊢;refine⟨yM (by rw[anh,anj];omega),rfl,⟨hr7.1,?_⟩,?_⟩
 .show(l++[r7.1.1]).length<=7;rw[anf,anh,anj];omega
 .show 7-(l++[r7.1.1]).length<7-l.length;rw[anf,anh,anj];omega
theorem Nh:OK yj.e:=by refine XA.ok mixed (aQ [yh.e] ⟨Nc,trivial⟩) H0 (λ_ _=>⟨(((0,0,[],[],0,()),()),(([],0,0,()),())),⟨by decide,by decide,by decide⟩⟩) (by kernel_rfl) (show∀c0 c1 c2,yj.goal (Zt c0 c1 c2) ((c0,c1,c2,()),())from ?_);intro b i h hin hp;dsimp only[yj]at hp ⊢;refine⟨hp,λr0 hr0=>?_⟩;have xZ:([]:List dG).length<=2:=ano _;have c3:=hr0.2.2;have q1:=hr0.1;exact af (λ_=>⟨q1,xZ,c3⟩) λ_=>af (λ_=>af (λ_=>⟨q1,xZ,c3⟩) λ_=>⟨q1,xZ,c3⟩) λ_=>af (λ_=>af (λ_=>⟨q1,xZ,c3⟩) λ_=>⟨q1,xZ,c3⟩) λ_=>af (λ_=>⟨q1,xZ,c3⟩) λ_=>⟨q1,xZ,c3⟩
theorem Jj:OK oK.e:=by
 refine XA.ok mixed (aQ [BD.e,zT.e,uN.e,gm.e,bT.e,zx.e,qI.e] ⟨Y9,XH,Qn,jh,dD,Py,Ae,trivial⟩) H0 (λ_ _=>⟨(((0,0,0,false,0,[],0,[],[],()),()),()),⟨by decide,by decide,by decide⟩⟩) (by kernel_rfl) (show∀code,oK.goal (Jk code) (code,())from ?_);intro code hin hp;dsimp only[oK]at hp ⊢;refine⟨hp,λr0 hr0=>⟨by rw[hr0];exact aol _,?_⟩⟩;rintro⟨⟨⟨k,i,o,s,l,a,id,n,q,⟨⟩⟩,⟨⟩⟩,cu,⟨⟩⟩ ⟨p1,d1,d2,d3⟩;have d1:zY a=true:=d1;have d2:n.length<=10:=d2;have d3:q.length<=1000:=d3;refine⟨p1,λr2 hr2=>af (λ_=>⟨hr2.1,λr3 hr3=>rM d1 d2 d3⟩) λ_=>af (λ_=>⟨⟨hr2.1,by simp⟩,λr4 hr4=>rM d1 d2 d3⟩) λ_=>af (λ_=>⟨hr2.1,λr5 Ye=>rM Ye.2 d2 d3⟩) λ_=>
  af (λ_=>⟨hr2.1,λr6 hr6=>⟨hr6.1,λr7 hr7=>rM d1 hr6.2 (ank hr7.2 (by decide))⟩⟩) λ_=>rM d1 d2 d3⟩
theorem Jl:OK oL.e:=by refine XA.ok mixed (aQ [yj.e,BG.e,kK.e,qI.e] ⟨Nh,Zq,uU,Ae,trivial⟩) H0 (λ_ _=>⟨(((0,0,[],[],0,()),()),()),ano 10⟩) (by kernel_rfl) (show∀code,oL.goal (Jm code) (code,())from ?_);intro code hin hp;dsimp only[oL]at hp ⊢;exact⟨hp,λr0 hr0=>⟨by rw[hr0];exact aol _,λr1 hr1=>af (λ_=>⟨hr1,λr2 hr2=>hr2.2.2⟩) λ_=>⟨hr1,λr3 hr3=>hr3.2.2⟩⟩⟩
theorem JH:OK pI.e:=by
 refine XA.ok mixed (aQ [dY.e,bT.e,lI.e,zx.e,qI.e] ⟨fU,dD,xY,Py,Ae,trivial⟩) H0 (λ_ _=>⟨(([],()),()),ano _⟩) (by kernel_rfl) (show∀code,pI.goal (JI code) (code,())from ?_);intro code hin hp;dsimp only[pI]at hp ⊢;refine⟨hp,λr0 hr0=>⟨by rw[hr0];exact aol _,λr1 hr1=>?_⟩⟩;obtain⟨hs,ha⟩:=Pz hr1.2;have ht:=Ji r1.1.1 (ank ha (by decide));have n1:([32]:List UInt8).length=1:=rfl;have n2:([32,32]:List UInt8).length=2:=rfl;refine⟨hs,hr1.1,λr3 hr3=>?_⟩;dsimp only;generalize aI r1.1.1=t at ht ⊢;refine af (λ_=>⟨bQ (by rw[n1];omega),bQ (by rw[anf,n1,n2];omega),?_⟩) λ_=>af (λ_=>⟨⟨hr3.1,by simp⟩,λr4 hr4=>?_⟩) λ_=>af (λ_=>⟨⟨hr3.1,by simp⟩,λr5 Ye=>?_⟩) λ_=>?_
 .show([32]++t++[32,32]).length<=1000000;rw[anf,anf,n1,n2];omega
 .have h4:r4.1.1.length<=10:=(show∀y∈([([32,49],()),([120],()),([32,97],())]:List (List UInt8×Unit)),List.length y.1<=10 from by decide) _ hr4.2;refine⟨bQ (by omega),?_⟩;show(t++r4.1.1).length<=1000000;rw[anf];omega
 .exact ank ((show∀y∈_,List.length y.1<=100 from by decide) _ Ye.2) (by decide)
 .exact ank ht (by decide)
theorem JJ:OK pJ.e:=by
 refine XA.ok mixed (aQ [dY.e,bT.e,lK.e,yj.e,qI.e] ⟨fU,dD,xQ,Nh,Ae,trivial⟩) H0 (λ_ _=>⟨(([],()),()),ano _⟩) (by kernel_rfl) (show∀code,pJ.goal (JK code) (code,())from ?_);intro code hin hp;dsimp only[pJ]at hp ⊢;refine⟨hp,λr0 hr0=>⟨by rw[hr0];exact aol _,λr1 hr1=>?_⟩⟩;have ht:=Gw r1.1.1.1 r1.1.1.2.1 r1.1.1.2.2.1.length r1.1.1.2.2.2.1 r1.1.1.2.2.2.2.1;have n1:([32]:List UInt8).length=1:=rfl;have n2:([32,32]:List UInt8).length=2:=rfl;refine⟨ank hr1.2.2 (by decide),hr1.1,λr3 hr3=>?_⟩;dsimp only;generalize aS r1.1.1.1 r1.1.1.2.1 r1.1.1.2.2.1.length r1.1.1.2.2.2.1 r1.1.1.2.2.2.2.1=t at ht ⊢;refine af (λ_=>⟨bQ (by rw[n1];omega),bQ (by rw[anf,n1,n2];omega),?_⟩) λ_=>af (λ_=>⟨⟨hr3.1,by simp⟩,λr4 hr4=>?_⟩) λ_=>af (λ_=>⟨⟨hr3.1,by simp⟩,λr5 Ye=>?_⟩) λ_=>?_
 .show([32]++t++[32,32]).length<=1000000;rw[anf,anf,n1,n2];omega
 .have h4:r4.1.1.length<=10:=(show∀y∈([([32,49],()),([120],()),([32,97],())]:List (List UInt8×Unit)),List.length y.1<=10 from by decide) _ hr4.2;refine⟨bQ (by omega),?_⟩;show(t++r4.1.1).length<=1000000;rw[anf];omega
 .exact ank ((show∀y∈_,List.length y.1<=100 from by decide) _ Ye.2) (by decide)
 .exact ank ht (by decide)
theorem acL:fP [32,32,32]=false/\dR [32]=false:=⟨by decide+kernel,by decide+kernel⟩
theorem OQ:OK yQ.e:=by
 refine PA.ok mixed (aQ [vP.e,lK.e,qR.e,lI.e,uH.e,pJ.e,uI.e,oP.e,oL.e,uK.e,pI.e,uJ.e,oO.e,oK.e,GY.e] ⟨SH,xQ,Gg,xY,P5,JJ,P7,D6,Jl,Qj,JH,Qh,Ed,Jj,adw,trivial⟩) Qp (by kernel_rfl) (show∀code,yQ.goal (OT code) (code,())from ?_);intro code hin hp;dsimp only[yQ]at hp ⊢;refine⟨trivial,af (λ_=>rfl) λhb=>?_⟩;have hc:code.length<=1048576:=by have:=nH hb;omega
 refine⟨hc,?_⟩;rintro⟨⟨x,⟨⟩⟩,⟨⟩⟩ hx;have hx:oZ x:=hx;obtain⟨hs,ha⟩:=Pz hx;have ht:=Ji x (ank ha (by decide));have n1:([32]:List UInt8).length=1:=rfl;have n2:([32,32]:List UInt8).length=2:=rfl;have hread:fP ([32,32]++aI x++[32])=!(aI x==[])/\(aI x≠[]->dO ([32,32]++aI x++[32])=x):=by
  by_cases h0:aI x=[]
  .rw[h0];exact⟨acL.1,λh=>absurd rfl h⟩
  .obtain⟨g1,g2⟩:=ahf x ha h0;rw[g1,ang.2 h0];exact⟨rfl,λ_=>g2⟩
 refine⟨hs,bQ (by dsimp only;rw[n2];omega),bQ (by dsimp only;rw[anf,n1,n2];omega),by dsimp only;rw[anf,anf,n1,n2];omega,hc,?_⟩;rintro⟨⟨t,⟨⟩⟩,⟨⟩⟩ ht2;have ht2:t.length<=1000000:=ht2;have ht3:t.length<=1048576:=by omega
 refine⟨ht3,ht3,hc,?_⟩;rintro⟨⟨⟨k,u,cs,n,a,⟨⟩⟩,⟨⟩⟩,⟨⟩⟩ hn;have hn:n.length<=10:=hn;have hn2:n.length<=1048576:=by omega
 have hal:=Gw k u cs.length n a;have acM:dR ([32]++aS k u cs.length n a)=!(aS k u cs.length n a==[])/\(aS k u cs.length n a≠[]->gu ([32]++aS k u cs.length n a)=(k,u,[],n,a,())):=by
  by_cases h0:aS k u cs.length n a=[]
  .rw[h0];exact⟨acL.2,λh=>absurd rfl h⟩
  .obtain⟨g1,g2⟩:=ahg h0;rw[g1,ang.2 h0];exact⟨rfl,λ_=>g2⟩
 refine⟨hn2,bQ (by dsimp only;rw[n1];omega),by dsimp only;rw[anf,n1];omega,hc,?_⟩;rintro⟨⟨m,⟨⟩⟩,⟨⟩⟩ hm;have hm:m.length<=1000000:=hm;have hm3:m.length<=1048576:=by omega
 refine⟨hm3,hm3,λ_=>True,⟨hs,?_⟩,λ_ _=>?_⟩
 .dsimp only;rw[anT,anT,anE rfl,anT,anT,anE rfl];exact⟨trivial,hn2,trivial,rfl,trivial⟩
 .dsimp only;have e6:aS 6 0 0 [] 0=[99,111,108,108,101,99,116]:=by decide
  have z0:(0:Nat)<=1048576:=ano _;rw[hread.1,acM.1,anT,anT];have eC:∀y:dG,((y.1,y.2.1,y.2.2.1,y.2.2.2.1,y.2.2.2.2.1,y.2.2.2.2.2.1,y.2.2.2.2.2.2.1,y.2.2.2.2.2.2.2.1,y.2.2.2.2.2.2.2.2.1,()):dG)=y:=λ_=>rfl;have eA:∀y:Zu,((y.1,y.2.1,y.2.2.1,y.2.2.2.1,y.2.2.2.2.1,()):Zu)=y:=λ_=>rfl;by_cases h0:aI x=[]
  .rw[h0];by_cases h1:aS k u cs.length n a=[]
   .rw[h1];exact⟨z0,by rw[e6];rfl⟩
   .rw[eA,acM.2 h1,ang.2 h1,anE rfl];exact⟨trivial,z0,by rw[e6];rfl⟩
  .rw[eC,hread.2 h0,ang.2 h0,anE rfl];by_cases h1:aS k u cs.length n a=[]
   .rw[h1];exact⟨trivial,z0,by rw[e6];rfl⟩
   .rw[eA,acM.2 h1,ang.2 h1,anE rfl];exact⟨trivial,trivial,z0,by rw[e6];rfl⟩
end Go.Proofs.Tryz

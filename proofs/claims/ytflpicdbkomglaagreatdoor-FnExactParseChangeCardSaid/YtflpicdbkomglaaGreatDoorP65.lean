import Derived.Test.YtflpicdbkomglaaGreatDoorP62
import Derived.Test.YtflpicdbkomglaaGreatDoorSp
import Derived.Test.YtflpicdbkomglaaGreatDoorV23
import Derived.Test.YtflpicdbkomglaaGreatDoorFwC
namespace Go.Proofs.Tryz
open Go Go.Fw Go.RowKit Sp
theorem afz(s:List UInt8)(hs:s.length<=1048576)(w:World)(hG:G.ok w):Calls prog 66 #[.string ⟨s.toArray⟩] w λe w'=>
 ∃v,e=.returned (.tuple #[v,.bool (dN s)])/\FW w'.heap.size w' v (aA s)/\Below w.heap.size w w':=by
 have hc:fZ prog G 66 (iE iW.sh iW.bG iW.F):=Bj.1;refine(hc [.sv (.one (.str s))] (s.length<=1048576) _ 0 (λ_=>True) #[.string ⟨s.toArray⟩] w rfl hs hG ⟨⟨rfl,by rw[maxLen_eq];omega⟩,trivial⟩).mono ?_;rintro e w' ⟨v,vals,rfl,h1,h2,h3,h4,h5,h6,_,_⟩;obtain⟨vs,rfl,h7⟩:=h6;obtain⟨l⟩:=vs
 match l,h7 with
 |[a,b],h7=>
  obtain⟨ha,hb,_⟩:=h7;have hb:b=.bool (dN s):=hb;have ha:dG w'.heap _ (.sl dM iF) a (aA s):=ha;refine⟨a,by rw[hb],⟨ha.1,?_⟩,h1,h2,h3,h4,h5⟩;rcases ha.2 with h|⟨b,off,cap,cs,t,fz,e1,e2,e3,e4,e5⟩
  .exact .inl h
  .exact .inr ⟨b,off,cap,cs,t,fz,e1,e2,e3.1.1,e4,λi x hx=>aK.flat (S:=_) _ _ _ rfl (e5 i x hx)⟩
theorem Xg{B P:Nat}{w:World}{v:Value}{q:List ax}(h:NW B P w v q)(hl:q.length<=1000)(S:Nat->Prop)(hS:∀b,B<=b->b<w.heap.size->S b):dG w.heap S (.sl 125 bH) v q:=by
 obtain⟨xs,h1,_,h3⟩:=h;refine⟨by rw[maxLen_eq];omega,?_⟩;rcases h1.2 with⟨e,e2⟩|⟨g,cap,cur,e,e2,e3,e4,e5,e6,e7⟩
 .exact .inl ⟨akL.1 e2,none,0,by rw[e]⟩
 .refine .inr ⟨g,0,cap,cur,125,(0,0),e,e4,hS g e2 (aj7.1 e3).1,e3,λi x hx=>?_⟩;have hi:=(akc.1 hx).1;have:=h3 i x hx;rw[← e7,amK,amn,al3 (by omega)]at this;rw[akr];exact aK.flat (S:=λ_=>False) _ _ _ rfl this
theorem abb{B P:Nat}(v:Value)(q:List ax)(hq:q.length<=1000)(w:World)(hn:NW B P w v q)(hG:G.ok w):Calls prog 51 #[v] w λe w'=>e=.returned (.bool (aC q))/\Below w.heap.size w w':=by have hc:fZ prog G 51 (iE gy.sh gy.bG gy.F):=uM.1;refine(hc [.sv (.one (.sl 125 bH q false))] (q.length<=2000000) _ 0 (λ_=>True) #[v] w rfl (by omega) hG ⟨Xg hn hq _ λb _ hb=>⟨⟨hb,λ_=>trivial,λo x hx=>by cases hx⟩,λh=>by cases h⟩,trivial⟩).mono ?_;rintro e w' ⟨v,vals,rfl,h1,h2,h3,h4,h5,h6,_,_⟩;have h6:v=.bool (aC q):=h6;exact⟨by rw[h6],h1,h2,h3,h4,h5⟩
theorem FW.form{B:Nat}{w:World}{v:Value}{f:Sp.LS}(h:FW B w v f):∃a cap,v=.slice a f.length cap:=by
 rcases h.2 with⟨rfl,a,c,e⟩|⟨b,off,cap,cs,t,fz,e,_⟩
 .exact⟨a,c,e⟩
 .exact⟨_,_,e⟩
theorem Eg{w w1:World}{o:Obj}{f:Sp.LS}{q:List ax}{w2:World}(hb1:Below w.heap.size w w1)(hd:Done w1.heap.size w1.heap.size (w1.alloc o) none f q w2):Below w.heap.size w w2:=by
 obtain⟨_,_,_,_,_,h,_⟩:=hd;have hs:(w1.alloc o).heap.size=w1.heap.size+1:=by simp
 exact⟨h.os.trans hb1.os,h.tape.trans hb1.tape,h.output.trans hb1.output,by have:=h.size;have:=hb1.size;omega,λb hb=>(h.block b (by have:=hb1.size;omega) (by have:=hb1.size;omega) (λe=>by cases e)).trans ((heap_alloc_old w1 o (by have:=hb1.size;omega)).trans (hb1.block b hb))⟩
theorem UK(B P:Nat)(w:World):NW B P w (.slice none 0 0) []/\([]:List ax).length<=1000:=⟨⟨[],amv w B 125 7,(λe=>by cases e),λi x hx=>by simp at hx⟩,ake _⟩
theorem NW.base{B P B' P':Nat}{w:World}{v:Value}{q:List ax}(h:NW B P w v q)(hB:B'<=B)(hP:w.heap.size<=P'):NW B' P' w v q:=by have hl:=λg hg=>h.lt (g:=g) hg;obtain⟨xs,⟨h1,h2⟩,_,h3⟩:=h;refine⟨xs,⟨h1,h2.imp id λ⟨g,cap,cur,e,e2,e3⟩=>⟨g,cap,cur,e,akb hB e2,e3⟩⟩,λe=>?_,h3⟩;have:=(hl P' e).2.1;omega
set_option maxHeartbeats 16000000 in
set_option maxRecDepth 100000 in
theorem UL(s:List UInt8)(hs:s.length<=1048576)(w:World)(hG:G.ok w):Calls prog 70 #[.string ⟨s.toArray⟩] w λe w'=>
 ∃v,e=.returned (.tuple #[v,.bool (dV s)])/\Below w.heap.size w w'/\NW w.heap.size w'.heap.size w' v (dJ s)/\(dJ s).length<=1000:=by
 have mixed:=Tryz.mixed;have sf:=afz s hs w hG;cases hok:dN s with
 |false=>
  have e1:dV s=false:=by unfold dV;rw[hok];rfl
  have e2:dJ s=[]:=by unfold dJ;rw[e1];rfl
  rw[hok]at sf;rw[e1,e2];clear e1 e2 hok
  go_enter Tryz.func70,Tryz.ntmps70
  go_wp2_with (first
   |(go_at_call 66;refine sf.mono ?_;rintro e w1 ⟨v,rfl,-,hb1⟩))
  all_goals go_ret2
  all_goals exact⟨_,rfl,hb1,UK _ _ _⟩
 |true=>
  have hpq:Hid (dV s=((qV (Sp.wordsOf s)).1&&(!decide (((qV (Sp.wordsOf s)).2.1.length:Int)>0)&&aC (qV (Sp.wordsOf s)).2.2))):=by show _=_;unfold dV;rw[hok,akV]
  have hpl:Hid (dJ s=bif dV s then(qV (Sp.wordsOf s)).2.2 else[]):=rfl;obtain⟨hw,hl,_⟩:=vN hok;have hws:∀x∈Sp.wordsOf s,x.1.length<=1000:=λx hx=>akb (BI x hx) (akb (kU.1 hok).1 (by decide));have Sr:(Sp.wordsOf s).length<=24:=by rw[lD];have:=(kU.1 hok).2.2;omega
  rw[hok,hw]at sf;clear hok hw;generalize dV s=pq at hpq hpl ⊢;generalize dJ s=pl at hpl ⊢;generalize Sp.wordsOf s=f at sf hpq hpl hl hws Sr;have hcnt:=rD (f.length+1) f [];unfold qV at hpq hpl;generalize hz:Sp.rd (f.length+1) f []=z at hpq hpl hcnt;obtain⟨b1,f2,q2⟩:=z;dsimp only at hpq hpl hcnt;have hz:Hid (Sp.rd (f.length+1) f []=(b1,f2,q2)):=hz;have n8:=G.low w hG;have nd:∀(W:World)(vf:Value)(P:Nat),w.heap.size<=P->G.ok W->W.heap[P]? =some (.cells #[vf,.slice none 0 0] 150 (0,0))->FW P W vf f->Calls prog 133 #[.pointer (some ⟨P,0,none⟩)] W λe w'=>e=.returned (.bool b1)/\Done P P W none f2 q2 w':=λW vf P hP hG2 hc hf=>by have:=Xe (f.length+1) P P W vf (.slice none 0 0) f [] (alB _) (akb n8 hP) (aj8 _) hG2 hc hf ⟨[],amv W P 125 7,(λe=>by cases e),λi x hx=>by simp at hx⟩ hws (by rw[akn];omega);rw[hz.out]at this;exact this
  go_enter Tryz.func70,Tryz.ntmps70
  cases b1 with
  |false=>
   go_wp2_with (first
    |(go_at_call 66;refine sf.mono ?_;rintro e w1 ⟨v,rfl,hf1,hb1⟩;obtain⟨a1,c1,hv1⟩:=hf1.form;subst hv1;clear sf)
    |(go_at_call 133;refine(nd _ (.slice a1 f.length c1) w1.heap.size hb1.size (gQ (gQ hG hb1) ((Below.refl _ _).alloc (aj8 _) _)) (akT w1 _) (hf1.keep λb hb=>heap_alloc_old w1 _ hb)).mono ?_;rintro e w2 ⟨rfl,hd⟩))
   all_goals go_ret2
   all_goals exact⟨_,by rw[show pq=false from hpq.out];rfl,Eg hb1 hd,by rw[show pl=[] by rw[hpl.out,hpq.out];rfl];exact UK _ _ _⟩
  |true=>
   rcases Nat.eq_zero_or_pos f2.length with h0|h0
   .obtain rfl:f2=[]:=akL.1 h0;clear h0;cases hq:aC q2 with
    |false=>
     go_wp2_with (first
      |(go_at_call 66;refine sf.mono ?_;rintro e w1 ⟨v,rfl,hf1,hb1⟩;obtain⟨a1,c1,hv1⟩:=hf1.form;subst hv1;clear sf)
      |(go_at_call 133;refine(nd _ (.slice a1 f.length c1) w1.heap.size hb1.size (gQ (gQ hG hb1) ((Below.refl _ _).alloc (aj8 _) _)) (akT w1 _) (hf1.keep λb hb=>heap_alloc_old w1 _ hb)).mono ?_;rintro e w2 ⟨rfl,hd⟩;obtain⟨GU,Zq,hc2,hf2,hn2,hst2⟩:=id hd;obtain⟨a2,c2,hv2⟩:=hf2.form;obtain⟨a3,c3,hv3⟩:=hn2.form;subst hv2 hv3;have p0:w2.cell? ⟨w1.heap.size,0,none⟩=some (.slice a2 0 c2):=ak hc2 0;have p1:w2.cell? ⟨w1.heap.size,1,none⟩=some (.slice a3 q2.length c3):=ak hc2 1;have hdb:=Eg hb1 hd)
      |(go_at_call 51;refine(abb (.slice a3 q2.length c3) q2 (by omega) w2 hn2 (gQ hG hdb)).mono ?_;rintro e w3 ⟨rfl,hb3⟩;rw[hq]))
     all_goals go_ret2
     all_goals exact⟨_,by rw[show pq=false by rw[hpq.out,hq];rfl];rfl,hdb.trans (hb3.mono hdb.size),by rw[show pl=[] by rw[hpl.out,hpq.out,hq];rfl];exact UK _ _ _⟩
    |true=>
     go_wp2_with (first
      |(go_at_call 66;refine sf.mono ?_;rintro e w1 ⟨v,rfl,hf1,hb1⟩;obtain⟨a1,c1,hv1⟩:=hf1.form;subst hv1;clear sf)
      |(go_at_call 133;refine(nd _ (.slice a1 f.length c1) w1.heap.size hb1.size (gQ (gQ hG hb1) ((Below.refl _ _).alloc (aj8 _) _)) (akT w1 _) (hf1.keep λb hb=>heap_alloc_old w1 _ hb)).mono ?_;rintro e w2 ⟨rfl,hd⟩;obtain⟨GU,Zq,hc2,hf2,hn2,hst2⟩:=id hd;obtain⟨a2,c2,hv2⟩:=hf2.form;obtain⟨a3,c3,hv3⟩:=hn2.form;subst hv2 hv3;have p0:w2.cell? ⟨w1.heap.size,0,none⟩=some (.slice a2 0 c2):=ak hc2 0;have p1:w2.cell? ⟨w1.heap.size,1,none⟩=some (.slice a3 q2.length c3):=ak hc2 1;have hdb:=Eg hb1 hd)
      |(go_at_call 51;refine(abb (.slice a3 q2.length c3) q2 (by omega) w2 hn2 (gQ hG hdb)).mono ?_;rintro e w3 ⟨rfl,hb3⟩;rw[hq];have p3:w3.cell? ⟨w1.heap.size,1,none⟩=some (.slice a3 q2.length c3):=ak ((hb3.block _ (aj7.1 hc2).1).trans hc2) 1))
     all_goals go_ret2
     all_goals refine⟨_,by rw[show pq=true by rw[hpq.out,hq];rfl];rfl,hdb.trans (hb3.mono hdb.size),?_⟩
     all_goals rw[show pl=q2 by rw[hpl.out,hpq.out,hq];rfl]
     all_goals exact⟨(hn2.keep λg hg=>hb3.block g (hn2.lt hg).2.1).base hb1.size (aj8 _),by omega⟩
   .have hpos:(0:Int)<(f2.length:Int):=by omega
    go_wp2_with (first
     |(go_at_call 66;refine sf.mono ?_;rintro e w1 ⟨v,rfl,hf1,hb1⟩;obtain⟨a1,c1,hv1⟩:=hf1.form;subst hv1;clear sf)
     |(go_at_call 133;refine(nd _ (.slice a1 f.length c1) w1.heap.size hb1.size (gQ (gQ hG hb1) ((Below.refl _ _).alloc (aj8 _) _)) (akT w1 _) (hf1.keep λb hb=>heap_alloc_old w1 _ hb)).mono ?_;rintro e w2 ⟨rfl,hd⟩;obtain⟨GU,Zq,hc2,hf2,hn2,hst2⟩:=id hd;obtain⟨a2,c2,hv2⟩:=hf2.form;subst hv2;have p0:w2.cell? ⟨w1.heap.size,0,none⟩=some (.slice a2 f2.length c2):=ak hc2 0;have hdb:=Eg hb1 hd))
    all_goals go_ret2
    all_goals have hpf:pq=false:=by rw[hpq.out,aku (show(f2.length:Int)>0 from hpos)];rfl
    all_goals exact⟨_,by rw[hpf];rfl,hdb,by rw[show pl=[] by rw[hpl.out,hpf];rfl];exact UK _ _ _⟩
theorem aej{h:Array Obj}{S S':Nat->Prop}(hS:∀b,S b->S' b){v:Value}{q:List ax}(H:dG h S (.sl 125 bH) v q):dG h S' (.sl 125 bH) v q:=by
 refine⟨H.1,?_⟩;rcases H.2 with e|⟨b,off,cap,cs,t,fz,e1,e2,e3,e4,e5⟩
 .exact .inl e
 .exact .inr ⟨b,off,cap,cs,t,fz,e1,e2,hS b e3,e4,λi x hx=>aK.flat (S:=S) _ _ _ rfl (e5 i x hx)⟩
theorem OB:fZ prog G xZ vS:=by
 intro args p out k S vs w hcon hp hG hrep;unfold vS iE rP at hcon;split at hcon
 .next x hx=>
  obtain⟨s,⟨⟩⟩:=x;have hv:=Ah wF args _ vs.toList hx hrep
  match hvs:vs.toList,hv with
  |[v],hv=>
   have e1:v=.string ⟨s.toArray⟩:=hv.1.1;have e2:vs=#[.string ⟨s.toArray⟩]:=by obtain⟨l⟩:=vs;simp at hvs;rw[hvs,e1]
   subst e2;have hF:=Option.some.inj hcon;have hp1:p=(s.length<=1048576):=(congrArg Prod.fst hF).symm;have hout:out=⟨[(false,[.plain (.sl 125 bH (dJ s) true)]),(false,[.plain (.bool (dV s))])],none⟩:=(congrArg Prod.snd hF).symm;subst hp1 hout;refine(UL s hp w hG).mono ?_;rintro e w' ⟨u,rfl,hb,hn,hn2⟩;have hr:=Xg hn hn2 (λb=>w.heap.size<=b/\b<w'.heap.size) λb h1 h2=>⟨h1,h2⟩;refine⟨_,λ_=>undef,rfl,hb.os,hb.tape,hb.output,hb.size,hb.block,?_,(λo x hx=>by cases hx),(λo x q y b hx=>by cases hx)⟩;exact⟨_,rfl,aej (λb hb=>⟨⟨hb.2,λh=>absurd h (Nat.not_lt.2 hb.1),λo x hx=>by cases hx⟩,λ_=>hb.1⟩) hr,rfl,trivial⟩
 .cases hcon
end Go.Proofs.Tryz
namespace Go.Proofs.Tryz
open Go Go.Fw Go.IntWalk Sp
theorem Ib:OK nM.e:=by refine PA.ok mixed (bf [(xZ,.pure vS),ni.e] ⟨⟨OB,LY⟩,Bo,trivial⟩) H0 (by kernel_rfl) (show∀q,nM.goal (Ic q) (q,())from ?_);intro q hin hp;dsimp only[nM]at hp ⊢;have hp:q.length<=2000000:=hp;exact⟨hp,akb (Ef q) (by decide),rfl⟩
theorem iz{α:Type}(l:List α):((l.length:Int)==0)=l.isEmpty:=by
 cases l with
 |nil=>rfl
 |cons x r=>exact aj2.2 (by rw[aj6];omega)
theorem xE{x:bV}(h:aZ x=[]):(([]:List UInt8),())=(aX x,()):=by unfold aX;rw[h];rfl
theorem Jq{x:bV}{w:List (List UInt8)}(h:aZ x=w){t:List UInt8}(e:t=Lib.join w [32]):(t,())=(aX x,()):=by unfold aX;rw[h,e]
theorem Xh{q:List ax}(h:aC q=true):Sp.textOf q=Lib.join (aW 9 q ((q.length:Int)-1)) [32]:=by unfold Sp.textOf;rw[h];rfl
theorem UM{f:bD}{id:Int}{n:List UInt8}{q:List ax}:aZ (bT 1 f id n q)=bif dR f&&(f.1==0&&(id==0&&(n==[]&&q.isEmpty)))then gV::bJ f else[]:=by unfold aZ;show(bif true&&_ then _ else bif false&&_ then _ else bif false&&_ then _ else bif false&&_ then _ else bif false&&_ then _ else _)=_;rw[akV];rfl
theorem Zr{f:bD}{id:Int}{n:List UInt8}{q:List ax}:aZ (bT 2 f id n q)=bif dR f&&(id==0&&(n==[]&&q.isEmpty))then fV::Lib.itoa f.1::bJ f else[]:=by unfold aZ;show(bif false&&_ then _ else bif true&&_ then _ else bif false&&_ then _ else bif false&&_ then _ else bif false&&_ then _ else _)=_;rw[akV];rfl
theorem Zt{f:bD}{id:Int}{n:List UInt8}{q:List ax}:aZ (bT 3 f id n q)=bif decide (f=fD)&&(aP id&&(n==[]&&q.isEmpty))then[iO,Lib.itoa id]else[]:=by unfold aZ;show(bif false&&_ then _ else bif false&&_ then _ else bif true&&_ then _ else bif false&&_ then _ else bif false&&_ then _ else _)=_;rw[akV];rfl
theorem Jr{f:bD}{id:Int}{n:List UInt8}{q:List ax}:aZ (bT 4 f id n q)=bif decide (f=fD)&&(id==0&&(aG n&&fP q))then fG::n::aW 9 q ((q.length:Int)-1)else[]:=by unfold aZ;show(bif false&&_ then _ else bif false&&_ then _ else bif false&&_ then _ else bif true&&_ then _ else bif false&&_ then _ else _)=_;rw[akV];rfl
theorem UN{f:bD}{id:Int}{n:List UInt8}{q:List ax}:aZ (bT 5 f id n q)=bif decide (f=fD)&&(id==0&&(aG n&&q.isEmpty))then[fQ,n]else[]:=by unfold aZ;show(bif false&&_ then _ else bif false&&_ then _ else bif false&&_ then _ else bif false&&_ then _ else bif true&&_ then _ else _)=_;rw[akV];rfl
theorem adz{k:Int}{f:bD}{id:Int}{n:List UInt8}{q:List ax}(h1:k≠1)(h2:k≠2)(h3:k≠3)(h4:k≠4)(h5:k≠5):aZ (bT k f id n q)=[]:=by unfold aZ;rw[show(bT k f id n q).1=k from rfl,aj2.2 h1,aj2.2 h2,aj2.2 h3,aj2.2 h4,aj2.2 h5];rfl
theorem KJ:OK ql.e:=by
 refine PA.ok mixed (bf [kJ.e,qi.e,nN.e,lZ.e,jl.e,iD.e,kE.e,wX.e,ug.e,wY.e] ⟨vV,KH,H9,Au,sZ,lT,rX,UI,P6,UF,trivial⟩) ML (by kernel_rfl) (show∀o0 o1 o2 o3 o4 o5 o6 o7 o8,ql.goal (KL o0 o1 o2 o3 o4 o5 o6 o7 o8) ((o0,o1,o2,o3,o4,o5,o6,o7,o8,()),())from ?_);intro k f0 f1 f2 f3 f4 id n q hin hp;dsimp only[ql]at hp ⊢;obtain⟨hl,ht,hn,hq⟩:f4.length<=1048576/\(bU f4).length<=1073741824/\n.length<=1048576/\q.length<=2000000:=hp;have hbl:=(FC (f:=(f0,f1,f2,f3,f4,())) hin.1.2.1 hin.1.2.2.1 hin.1.2.2.2.2.1).2;have hbl:(Lib.join (bJ (f0,f1,f2,f3,f4,())) [32]).length<=47+1073741824:=akb hbl (al1 ht 47);have q1:=mW (n:=f0) hin.1.2.1;have q6:=mW (n:=id) hin.1.2.2.2.2.2.2.1;have hts:=Ef q;have hx:(k,f0,f1,f2,f3,f4,id,n,q,())=bT k (f0,f1,f2,f3,f4,()) id n q:=rfl;rw[hx];clear hx hin;have hwb:bJ (f0,f1,f2,f3,f4,())≠[]:=by unfold bJ;exact amd _ _
 have j1:∀(a:List UInt8),Lib.join (a::bJ (f0,f1,f2,f3,f4,())) [32]=a++32::Lib.join (bJ (f0,f1,f2,f3,f4,())) [32]:=λa=>by unfold bJ;rw[dF]
 have u:∀z:Int,(decide (0<=z)&&decide (z<=1000000000))=aP z:=λ_=>rfl;refine⟨trivial,λy=>y=((n==[]&&q.isEmpty,()),()),?_,?_⟩
 .cases n==[]with
  |true=>exact⟨rfl,by rw[iz];rfl⟩
  |false=>exact⟨rfl,rfl⟩
 rintro _ rfl;refine⟨λy=>y=((k==1&&(dR (f0,f1,f2,f3,f4,())&&(f0==0&&(id==0&&(n==[]&&q.isEmpty)))),()),()),?_,?_⟩
 .cases k==1 with
  |false=>exact⟨rfl,rfl⟩
  |true=>
   refine⟨hl,?_⟩;cases dR (f0,f1,f2,f3,f4,())with
   |false=>exact⟨rfl,rfl⟩
   |true=>
    cases f0==0 with
    |false=>exact⟨rfl,rfl⟩
    |true=>cases id==0<;>exact⟨rfl,rfl⟩
 rintro _ rfl;refine af (λh=>?_) λh1=>?_
 .rw[aj0,akq]at h;obtain⟨rfl,h⟩:=h;refine⟨⟨hl,ht⟩,bQ (by show 7+_<=_;omega),Jq (w:=gV::bJ (f0,f1,f2,f3,f4,())) (by rw[UM,h];rfl) ?_⟩;rw[j1];rfl
 refine⟨λy=>y=((k==2&&(dR (f0,f1,f2,f3,f4,())&&(id==0&&(n==[]&&q.isEmpty))),()),()),?_,?_⟩
 .cases k==2 with
  |false=>exact⟨rfl,rfl⟩
  |true=>
   refine⟨hl,?_⟩;cases dR (f0,f1,f2,f3,f4,())with
   |false=>exact⟨rfl,rfl⟩
   |true=>cases id==0<;>exact⟨rfl,rfl⟩
 rintro _ rfl;refine af (λh=>?_) λh2=>?_
 .rw[aj0,akq]at h;obtain⟨rfl,h⟩:=h;refine⟨trivial,bQ (by show 7+_<=_;omega),bQ (by rw[aj1];show 7+_+1<=_;omega),⟨hl,ht⟩,bQ (by rw[aj1,aj1];show 7+_+1+_<=_;omega),Jq (w:=fV::Lib.itoa f0::bJ (f0,f1,f2,f3,f4,())) (by rw[Zr,h];rfl) ?_⟩;rw[dF,show∀a,Lib.join (a::bJ (f0,f1,f2,f3,f4,())) [32]=a++32::Lib.join (bJ (f0,f1,f2,f3,f4,())) [32]from j1];simp[fV]
 refine⟨λy=>y=((k==3&&(decide ((f0,f1,f2,f3,f4,())=fD)&&(aP id&&(n==[]&&q.isEmpty))),()),()),?_,?_⟩
 .cases k==3 with
  |false=>exact⟨rfl,rfl⟩
  |true=>
   cases decide ((f0,f1,f2,f3,f4,())=fD)with
   |false=>exact⟨rfl,rfl⟩
   |true=>
    cases n==[]&&q.isEmpty with
    |false=>exact⟨rfl,by rw[akD];rfl⟩
    |true=>exact⟨trivial,rfl,by rw[u,alI];rfl⟩
 rintro _ rfl;refine af (λh=>?_) λh3=>?_
 .rw[aj0,akq]at h;obtain⟨rfl,h⟩:=h;refine⟨trivial,bQ (by show 7+_<=_;omega),Jq (w:=[iO,Lib.itoa id]) (by rw[Zt,h];rfl) ?_⟩;rw[Ee];rfl
 have hqk:fP q=(aC q&&decide (dJ (Sp.textOf q)=q)):=rfl;refine⟨λy=>y=((k==4&&(decide ((f0,f1,f2,f3,f4,())=fD)&&(id==0&&(aG n&&fP q))),()),()),?_,?_⟩
 .rw[hqk];cases k==4 with
  |false=>exact⟨rfl,rfl⟩
  |true=>
   cases decide ((f0,f1,f2,f3,f4,())=fD)with
   |false=>exact⟨rfl,rfl⟩
   |true=>
    cases id==0 with
    |false=>exact⟨rfl,rfl⟩
    |true=>
     refine⟨trivial,?_⟩;cases aG n with
     |false=>exact⟨rfl,rfl⟩
     |true=>
      refine⟨hq,?_⟩;cases aC q with
      |false=>exact⟨rfl,rfl⟩
      |true=>exact⟨hq,trivial,rfl,rfl⟩
 rintro _ rfl;refine af (λh=>?_) λh4=>?_
 .rw[aj0,akq]at h;obtain⟨rfl,h⟩:=h;have hok:aC q=true:=by rw[aj0,aj0,aj0,hqk,aj0]at h;exact h.2.2.2.1
  refine⟨bQ (by show 7+_<=_;omega),bQ (by rw[aj1];show 7+_+1<=_;omega),hq,bQ (by rw[aj1,aj1];show 7+_+1+_<=_;omega),Jq (w:=fG::n::aW 9 q ((q.length:Int)-1)) (by rw[Jr,h];rfl) ?_⟩;obtain⟨y,r,e⟩:∃y r,aW 9 q ((q.length:Int)-1)=y::r:=by
   cases e:aW 9 q ((q.length:Int)-1)with
   |nil=>exact absurd e (zK 8 q _)
   |cons y r=>exact⟨y,r,rfl⟩
  rw[Xh hok,e,dF,dF];simp[fG]
 have off:k≠5->(([]:List UInt8),())=(aX (bT k (f0,f1,f2,f3,f4,()) id n q),()):=λh5=>xE (by
  by_cases c1:k=1
  .subst c1;rw[UM];rw[ale,akV]at h1;dsimp only at h1 ⊢;rw[h1];rfl
  by_cases c2:k=2
  .subst c2;rw[Zr];rw[ale,akV]at h2;dsimp only at h2 ⊢;rw[h2];rfl
  by_cases c3:k=3
  .subst c3;rw[Zt];rw[ale,akV]at h3;dsimp only at h3 ⊢;rw[h3];rfl
  by_cases c4:k=4
  .subst c4;rw[Jr];rw[ale,akV]at h4;dsimp only at h4 ⊢;rw[h4];rfl
  exact adz c1 c2 c3 c4 h5)
 refine af (λh=>?_) λh=>off (aj2.1 h);obtain rfl:=akq.1 h;have acg:(decide ((f0,f1,f2,f3,f4,())=fD)&&(id==0&&(aG n&&q.isEmpty)))=false->(([]:List UInt8),())=(aX (bT 5 (f0,f1,f2,f3,f4,()) id n q),()):=λh=>xE (by rw[UN,h];rfl);refine af (λg1=>af (λg2=>⟨trivial,af (λg3=>af (λg4=>⟨bQ (by show 9+_<=_;omega),Jq (w:=[fQ,n]) ?_ ?_⟩) λg4=>acg ?_) λg3=>acg ?_⟩) λg2=>acg ?_) λg1=>acg ?_
 .rw[iz]at g4;rw[UN,show decide ((f0,f1,f2,f3,f4,())=fD)=true from g1,g2,g3,g4];rfl
 .rw[Ee];rfl
 .rw[iz]at g4;rw[g4,akD,akD,akD]
 .rw[g3,alc,akD,akD]
 .rw[g2,alc,akD]
 .rw[show decide ((f0,f1,f2,f3,f4,())=fD)=false from g1,alc]
end Go.Proofs.Tryz
namespace Go.Proofs.Tryz
open Go Go.Fw Go.IntWalk Sp
theorem ach{β:Type}(x5:List dH)(t:β)(hx:x5.length<=1048576){K:List UInt8×Unit->Prop}{E:Prop}(hbad:x5.all jy=false->K ([],()))(hend:x5.all jy=true->E):
 LP (α:=(Int×Unit)×Unit) (((0:Int),()),()) λI μ y=>
  bif decide (y.1.1<(x5.length:Int))then((0:Int)<=y.1.1/\y.1.1<(x5.length:Int))/\True/\
   (bif !dK (x5.getD (Int.toNat y.1.1) ([],0,0,[],())).1 then K ([],())else True/\
     (bif !aU (x5.getD (Int.toNat y.1.1) ([],0,0,[],())).2.1 (x5.getD (Int.toNat y.1.1) ([],0,0,[],())).2.2.1 (x5.getD (Int.toNat y.1.1) ([],0,0,[],())).2.2.2.1 then K ([],())
     else bif (x5.getD (Int.toNat y.1.1) ([],0,0,[],())).2.1==0 then K ([],())else NX t I μ ((IntKind.i64.wrap (y.1.1+1),()),()) y))else E:=by
 have hb:∀n,n<x5.length->jy (x5.getD n ([],0,0,[],()))=false->K ([],()):=λn hn h=>hbad (amR.2 ⟨_,getD_mem hn,by rw[h];decide⟩);refine Ep x5.length (by omega) (λn=>∀i,i<n->jy (x5.getD i ([],0,0,[],()))=true) (λi hi=>absurd hi (ak0 _)) (λI μ n hn hJ next=>?_) λI μ hJ=>?_
 .dsimp only;rw[akG];have e:jy (x5.getD n ([],0,0,[],()))=(dK (x5.getD n ([],0,0,[],())).1&&(aU (x5.getD n ([],0,0,[],())).2.1 (x5.getD n ([],0,0,[],())).2.2.1 (x5.getD n ([],0,0,[],())).2.2.2.1&&!((x5.getD n ([],0,0,[],())).2.1==0))):=rfl;refine uJ (by omega) ⟨⟨by omega,by omega⟩,trivial,af (λh=>hb n hn ?_) λh=>⟨trivial,af (λh2=>hb n hn ?_) λh2=>af (λh3=>hb n hn ?_) λh3=>⟨rfl,next ?_⟩⟩⟩
  .rw[e,mM h];rfl
  .rw[e,mM h2,alc,akD]
  .rw[e,h3,Bool.not_true,akD,akD]
  .intro i hi;rcases aks i n with h5|h5
   .exact hJ i h5
   .rw[show i=n by omega,e,jw h,jw h2,h3];rfl
 .dsimp only;refine uK (by omega) (hend (akk.2 λx hx=>?_));obtain⟨i,hi,rfl⟩:=alk.1 hx;have:=hJ i hi;rw[aj9,akd hi]at this;exact this
theorem UO{f:bD}:dR f=(f.2.2.2.2.1.all jy&&(aP f.1&&(aP f.2.1&&aP f.2.2.2.1))):=rfl
theorem agx(a b:Int):ja [(a,()),(b,())]=(aP a&&aP b):=by simp[ja]
theorem agy(a b c:Int):ja [(a,()),(b,()),(c,())]=(aP a&&(aP b&&aP c)):=by simp[ja]
theorem agz(a:Int):ja [(a,())]=aP a:=by simp[ja]
theorem KN:OK qj.e:=by
 refine PA.ok mixed (bf [(mF,.pure kD),iK.e,jR.e,rM.e,rF.e,qh.e,nM.e,gy.e,jm.e,ni.e,mr.e,(Ap,.pure xR),rJ.e] ⟨⟨wz,uH⟩,oQ,xQ,Oe,Ob,Ky,Ib,uM,tu,Bo,x9,⟨RI,PL⟩,Oy,trivial⟩) MN (by kernel_rfl) (show∀x0 x1 x2 x3 x4 x5 x6 x7 x8,qj.goal (KO x0 x1 x2 x3 x4 x5 x6 x7 x8) ((x0,x1,x2,x3,x4,x5,x6,x7,x8,()),())from ?_);intro k f0 f1 f2 f3 f4 id n q hin hp;dsimp only[qj]at hp ⊢;obtain⟨hl,ht,hn,hq⟩:f4.length<=1048576/\(bU f4).length<=1073741824/\n.length<=1048576/\q.length<=2000000:=hp;have hfl:=(FC (f:=(f0,f1,f2,f3,f4,())) hin.1.2.1 hin.1.2.2.1 hin.1.2.2.2.2.1);have agA:(dW (f0,f1,f2,f3,f4,())).length<=80+1073741824:=akb hfl.1 (al1 ht 80);have agj:(Lib.join (bJ (f0,f1,f2,f3,f4,())) [32]).length<=47+1073741824:=akb hfl.2 (al1 ht 47);have q0:=mW (n:=f0) hin.1.2.1;have q6:=mW (n:=id) hin.1.2.2.2.2.2.2.1;have hts:=Ef q;clear hfl hin;have hx:(k,f0,f1,f2,f3,f4,id,n,q,())=bT k (f0,f1,f2,f3,f4,()) id n q:=rfl;rw[hx];clear hx;have hpl:=Sp.pieces_len 32 (dW (f0,f1,f2,f3,f4,()));obtain⟨fp1,fp2,fp3⟩:=aaB (f0,f1,f2,f3,f4,());have j1:∀(a:List UInt8),Lib.join (a::bJ (f0,f1,f2,f3,f4,())) [32]=a++32::Lib.join (bJ (f0,f1,f2,f3,f4,())) [32]:=λa=>by unfold bJ;rw[dF]
 have hgd:([32]:List UInt8).getD 0 0=32:=rfl;have hdl:∀(m:Nat),((List.take (Sp.pieces 32 (dW (f0,f1,f2,f3,f4,()))).length (Sp.pieces 32 (dW (f0,f1,f2,f3,f4,())))).drop m).length<=81+1073741824:=λm=>by rw[akp,akt];omega
 let P1:Sp.LS:=[(gV,())]++List.drop (Int.toNat 2) (List.take (Sp.pieces 32 (dW (f0,f1,f2,f3,f4,()))).length (Sp.pieces 32 (dW (f0,f1,f2,f3,f4,()))))
 let P2:Sp.LS:=[(fV,())]++List.drop (Int.toNat 1) (List.take (Sp.pieces 32 (dW (f0,f1,f2,f3,f4,()))).length (Sp.pieces 32 (dW (f0,f1,f2,f3,f4,()))))
 have hqk:fP q=(aC q&&decide (dJ (Sp.textOf q)=q)):=rfl;refine⟨λy=>(k=1/\f0=0/\y=((P1,()),(1,f0,f1,f2,f3,f4,0,[],[],()),[(f1,()),(f3,())],()))\/(k=2/\y=((P2,()),(2,f0,f1,f2,f3,f4,0,[],[],()),[(f0,()),(f1,()),(f3,())],()))\/
  (k=3/\y=(([(iO,()),(Lib.itoa id,())],()),(3,0,0,false,0,[],id,[],[],()),[(id,())],()))\/
  (k=4/\aG n=true/\fP q=true/\y=(([(fG,()),(n,()),(Sp.textOf q,())],()),(4,0,0,false,0,[],0,n,q,()),[],()))\/
  (k=5/\aG n=true/\y=(([(fQ,()),(n,())],()),(5,0,0,false,0,[],0,n,[],()),[],())),?_,?_⟩
 .by_cases k1:k=1
  .subst k1;refine⟨Az rfl,⟨hl,ht⟩,⟨akb agA (by decide),.inl rfl⟩,⟨by decide,?_⟩,zJ ?_,af (λh=>xE ?_) λh=>⟨rfl,.inl ⟨rfl,by simpa using h,rfl⟩⟩⟩
   .show(2:Int)<=((Sp.pieces 32 _).length:Int);omega
   .have:=hdl 2;show 1+_<=_;exact akb (al1 this 1) (by decide)
   .have h:f0≠0:=alr.1 h;rw[UM];dsimp only;rw[aj2.2 h,alc,akD];rfl
  by_cases k2:k=2
  .subst k2;refine⟨Az rfl,⟨hl,ht⟩,⟨akb agA (by decide),.inl rfl⟩,⟨by decide,?_⟩,zJ ?_,rfl,.inr (.inl ⟨rfl,rfl⟩)⟩
   .show(1:Int)<=((Sp.pieces 32 _).length:Int);omega
   .have:=hdl 1;show 1+_<=_;exact akb (al1 this 1) (by decide)
  by_cases k3:k=3
  .subst k3;exact⟨Az rfl,trivial,rfl,.inr (.inr (.inl ⟨rfl,rfl⟩))⟩
  by_cases k4:k=4
  .subst k4;refine⟨hq,trivial,af (λh=>xE ?_) λh=>⟨hq,af (λh2=>xE ?_) λh2=>⟨hq,trivial,af (λh3=>xE ?_) λh3=>⟨rfl,.inr (.inr (.inr (.inl ⟨rfl,jw h,?_,rfl⟩)))⟩⟩⟩⟩
   .rw[Jr,mM h,alc,akD,akD];rfl
   .rw[Jr,hqk,mM h2,alc,akD,akD,akD];rfl
   .have h3:decide (dJ (Sp.textOf q)=q)=false:=mM h3;rw[Jr,hqk,h3,akD,akD,akD,akD];rfl
   .have h3:decide (dJ (Sp.textOf q)=q)=true:=jw h3;rw[hqk,jw h2,h3];rfl
  by_cases k5:k=5
  .subst k5;refine⟨trivial,af (λh=>xE ?_) λh=>⟨rfl,.inr (.inr (.inr (.inr ⟨rfl,jw h,rfl⟩)))⟩⟩;rw[UN,mM h,alc,akD,akD];rfl
  rw[aj2.2 k1,aj2.2 k2,aj2.2 k3,aj2.2 k4,aj2.2 k5];exact xE (adz k1 k2 k3 k4 k5)
 have rest:∀(y:(Sp.LS×Unit)×(Int×Int×Int×Bool×Int×List dH×Int×List UInt8×List ax×Unit)×List (Int×Unit)×Unit)(c:Bool)(w:List (List UInt8)),
  (bif decide ((y.2.1.2.1,y.2.1.2.2.1,y.2.1.2.2.2.1,y.2.1.2.2.2.2.1,y.2.1.2.2.2.2.2.1,())=(f0,f1,f2,f3,f4,()))then(y.2.1.2.2.2.2.2.2.1==id)&&((y.2.1.2.2.2.2.2.2.2.1==n)&&(decide (y.2.1.2.2.2.2.2.2.2.2.1=q)&&(ja y.2.2.1&&f4.all jy)))else false)=c->
  aZ (bT k (f0,f1,f2,f3,f4,()) id n q)=(bif c then w else[])->(c=true->y.1.1.length<=140737488355328/\(Lib.join w [32]).length<=140737488355328/\Lib.join (y.1.1.map λx=>x.1) [32]=Lib.join w [32])->
  ∃(J:Unit×Unit->Prop),(True/\(bif !decide ((y.2.1.2.1,y.2.1.2.2.1,y.2.1.2.2.2.1,y.2.1.2.2.2.2.1,y.2.1.2.2.2.2.2.1,())=(f0,f1,f2,f3,f4,()))then(([]:List UInt8),())=(aX (bT k (f0,f1,f2,f3,f4,()) id n q),())
   else bif y.2.1.2.2.2.2.2.2.1 !=id then(([]:List UInt8),())=(aX (bT k (f0,f1,f2,f3,f4,()) id n q),())
   else bif !y.2.1.2.2.2.2.2.2.2.1==n then(([]:List UInt8),())=(aX (bT k (f0,f1,f2,f3,f4,()) id n q),())
   else True/\(bif !decide (y.2.1.2.2.2.2.2.2.2.2.1=q)then(([]:List UInt8),())=(aX (bT k (f0,f1,f2,f3,f4,()) id n q),())
   else True/\(bif !ja y.2.2.1 then(([]:List UInt8),())=(aX (bT k (f0,f1,f2,f3,f4,()) id n q),())
   else(((k,f0,f1,f2,f3,f4,id,n,q,()),y.1),())=(((k,f0,f1,f2,f3,f4,id,n,q,()),y.1),())/\J ((),())))))/\
  ∀(z:Unit×Unit),J z->LP (α:=(Int×Unit)×Unit) (((0:Int),()),()) λI μ y13=>
   bif decide (y13.1.1<(f4.length:Int))then((0:Int)<=y13.1.1/\y13.1.1<(f4.length:Int))/\True/\
   (bif !dK (f4.getD (Int.toNat y13.1.1) ([],0,0,[],())).1 then(([]:List UInt8),())=(aX (bT k (f0,f1,f2,f3,f4,()) id n q),())else True/\
     (bif !aU (f4.getD (Int.toNat y13.1.1) ([],0,0,[],())).2.1 (f4.getD (Int.toNat y13.1.1) ([],0,0,[],())).2.2.1 (f4.getD (Int.toNat y13.1.1) ([],0,0,[],())).2.2.2.1 then(([]:List UInt8),())=(aX (bT k (f0,f1,f2,f3,f4,()) id n q),())
     else bif (f4.getD (Int.toNat y13.1.1) ([],0,0,[],())).2.1==0 then(([]:List UInt8),())=(aX (bT k (f0,f1,f2,f3,f4,()) id n q),())else NX ((y.1.1,f4,(f4.length:Int),()),()) I μ ((IntKind.i64.wrap (y13.1.1+1),()),()) y13))
   else(y.1.1.length<=140737488355328/\(Lib.join (y.1.1.map λx=>x.1) [32]).length<=140737488355328)/\(Lib.join (y.1.1.map λx=>x.1) [32],())=(aX (bT k (f0,f1,f2,f3,f4,()) id n q),()):=by
  intro y c w hc hw hg;have off:c=false->(([]:List UInt8),())=(aX (bT k (f0,f1,f2,f3,f4,()) id n q),()):=λh=>xE (by rw[hw,h];rfl);generalize decide ((y.2.1.2.1,y.2.1.2.2.1,y.2.1.2.2.2.1,y.2.1.2.2.2.2.1,y.2.1.2.2.2.2.2.1,())=(f0,f1,f2,f3,f4,()))=a1 at hc ⊢;generalize decide (y.2.1.2.2.2.2.2.2.2.2.1=q)=a4 at hc ⊢;have hb:(y.2.1.2.2.2.2.2.2.1 !=id)=!(y.2.1.2.2.2.2.2.2.1==id):=rfl;rw[hb];generalize (y.2.1.2.2.2.2.2.2.1==id)=a2 at hc ⊢;generalize (y.2.1.2.2.2.2.2.2.2.1==n)=a3 at hc ⊢;generalize ja y.2.2.1=a5 at hc ⊢;cases a1 with
  |false=>exact⟨λ_=>False,⟨trivial,off hc.symm⟩,λ_ h=>h.elim⟩
  |true=>
  cases a2 with
  |false=>exact⟨λ_=>False,⟨trivial,off hc.symm⟩,λ_ h=>h.elim⟩
  |true=>
  cases a3 with
  |false=>exact⟨λ_=>False,⟨trivial,off hc.symm⟩,λ_ h=>h.elim⟩
  |true=>
  cases a4 with
  |false=>exact⟨λ_=>False,⟨trivial,trivial,off hc.symm⟩,λ_ h=>h.elim⟩
  |true=>
  cases a5 with
  |false=>exact⟨λ_=>False,⟨trivial,trivial,trivial,off hc.symm⟩,λ_ h=>h.elim⟩
  |true=>
  have hc:f4.all jy=c:=hc;refine⟨λ_=>True,⟨trivial,trivial,trivial,rfl,trivial⟩,λ_ _=>?_⟩;refine ach (K:=λr=>r=(aX (bT k (f0,f1,f2,f3,f4,()) id n q),())) f4 _ hl (λh=>off (hc.symm.trans h)) λh=>?_;obtain⟨g1,g2,g3⟩:=hg (hc.symm.trans h);rw[g3];exact⟨⟨g1,g2⟩,(Jq (w:=w) (by rw[hw,← hc,h];rfl) rfl)⟩
 rintro y hy;have hTL:List.take (Sp.pieces 32 (dW (f0,f1,f2,f3,f4,()))).length (Sp.pieces 32 (dW (f0,f1,f2,f3,f4,())))=Sp.pieces 32 (dW (f0,f1,f2,f3,f4,())):=akX (aj8 _);have hdt:∀f:bD,decide (f=f)=true:=λf=>aku rfl;have hdq:∀q:List ax,decide (([]:List ax)=q)=q.isEmpty:=λq=>by cases q with
  |nil=>rfl
  |cons x r=>exact aky (λe=>by cases e)
 have hbn:∀n:List UInt8,(([]:List UInt8)==n)=(n==[]):=λn=>by cases n<;>rfl
 have hbz:∀z:Int,((0:Int)==z)=(z==0):=λz=>by
  by_cases h:z=0
  .subst h;rfl
  .rw[aj2.2 h,aj2.2 (alH h)]
 rcases hy with⟨rfl,rfl,rfl⟩|⟨rfl,rfl⟩|⟨rfl,rfl⟩|⟨rfl,hv,hk,rfl⟩|⟨rfl,hv,rfl⟩
 .refine rest _ (dR (0,f1,f2,f3,f4,())&&((0:Int)==0&&(id==0&&(n==[]&&q.isEmpty)))) (gV::bJ (0,f1,f2,f3,f4,())) ?_ UM λ_=>⟨?_,?_,?_⟩
  .dsimp only;rw[hdt,hdq,hbn,hbz,agx,UO,show aP (0,f1,f2,f3,f4,()).1=true from rfl,akV];dsimp only;cases f4.all jy<;>cases aP f1<;>cases aP f3<;>cases id==0<;>cases n==[]<;>cases q.isEmpty<;>rfl
  .have:=hdl 2;show _+1<=_;exact akb (Nat.add_le_add_right this 1) (by decide)
  .rw[j1,aj1,aj6];show 6+_<=_;omega
  .show Lib.join (gV::(List.drop 2 (List.take (Sp.pieces 32 (dW (0,f1,f2,f3,f4,()))).length (Sp.pieces 32 (dW (0,f1,f2,f3,f4,()))))).map (·.1)) [32]=_;rw[hTL,fp1,QD,j1]
 .refine rest _ (dR (f0,f1,f2,f3,f4,())&&(id==0&&(n==[]&&q.isEmpty))) (fV::Lib.itoa f0::bJ (f0,f1,f2,f3,f4,())) ?_ Zr λ_=>⟨?_,?_,?_⟩
  .dsimp only;rw[hdt,hdq,hbn,hbz,agy,UO];dsimp only;cases f4.all jy<;>cases aP f0<;>cases aP f1<;>cases aP f3<;>cases id==0<;>cases n==[]<;>cases q.isEmpty<;>rfl
  .have:=hdl 1;show _+1<=_;exact akb (Nat.add_le_add_right this 1) (by decide)
  .rw[dF,j1,aj1,aj6,aj1,aj6];show 6+_<=_;omega
  .show Lib.join (fV::(List.drop 1 (List.take (Sp.pieces 32 (dW (f0,f1,f2,f3,f4,()))).length (Sp.pieces 32 (dW (f0,f1,f2,f3,f4,()))))).map (·.1)) [32]=_;rw[hTL,fp2,ako,dF,QD,dF,j1]
 .refine rest _ (decide ((f0,f1,f2,f3,f4,())=fD)&&(aP id&&(n==[]&&q.isEmpty))) [iO,Lib.itoa id] ?_ Zt λ_=>⟨vw rfl,?_,rfl⟩
  .dsimp only;rw[hdq,hbn,agz,ale,akV];cases hd:decide ((f0,f1,f2,f3,f4,())=fD)with
   |false=>rw[aky (λe=>aml hd (by rw[← e];rfl))];rfl
   |true=>have e:=ak4 hd;have e4:f4=[]:=congrArg (·.2.2.2.2.1) e;rw[aku (by rw[e];rfl),e4];cases aP id<;>cases n==[]<;>cases q.isEmpty<;>rfl
  .rw[Ee];simp only[aj1];show 6+1+_<=_;omega
 .have hok:aC q=true:=by rw[hqk,aj0]at hk;exact hk.1
  refine rest _ (decide ((f0,f1,f2,f3,f4,())=fD)&&(id==0&&(aG n&&fP q))) (fG::n::aW 9 q ((q.length:Int)-1)) ?_ Jr λ_=>?_
  .dsimp only;rw[hbz,ale,akV,aku rfl,akV,hv,hk];cases hd:decide ((f0,f1,f2,f3,f4,())=fD)with
   |false=>rw[aky (λe=>aml hd (by rw[← e];rfl))];rfl
   |true=>have e:=ak4 hd;have e4:f4=[]:=congrArg (·.2.2.2.2.1) e;rw[aku (by rw[e];rfl),e4];cases id==0<;>rfl
  .obtain⟨y,r,e⟩:∃y r,aW 9 q ((q.length:Int)-1)=y::r:=by
    cases e:aW 9 q ((q.length:Int)-1)with
    |nil=>exact absurd e (zK 8 q _)
    |cons y r=>exact⟨y,r,rfl⟩
   have e2:=Xh hok;rw[e]at e2 ⊢;have e3:Lib.join (fG::n::y::r) [32]=Lib.join [fG,n,Sp.textOf q] [32]:=by rw[dF,dF,Ph,e2];simp
   refine⟨vw rfl,?_,e3.symm⟩;rw[e3,Ph];simp only[aj1];show 6+1+_+1+_<=_;omega
 .refine rest _ (decide ((f0,f1,f2,f3,f4,())=fD)&&(id==0&&(aG n&&q.isEmpty))) [fQ,n] ?_ UN λ_=>⟨vw rfl,?_,rfl⟩
  .dsimp only;rw[hbz,ale,akV,hdq,hv];cases hd:decide ((f0,f1,f2,f3,f4,())=fD)with
   |false=>rw[aky (λe=>aml hd (by rw[← e];rfl))];rfl
   |true=>have e:=ak4 hd;have e4:f4=[]:=congrArg (·.2.2.2.2.1) e;rw[aku (by rw[e];rfl),e4];cases id==0<;>cases q.isEmpty<;>rfl
  .rw[Ee];simp only[aj1];show 8+1+_<=_;omega
end Go.Proofs.Tryz
namespace Go.Proofs.Tryz
open Go Go.Fw Go.IntWalk Sp
theorem abd(n:Nat):((n:Int).tmod 2 !=0)=!(n%2==0):=by
 have e:(n:Int).tmod 2=((n%2:Nat):Int):=rfl;rw[e];cases h:n%2 with
 |zero=>rfl
 |succ k=>rw[show((k+1:Nat)==0)=false from rfl];exact alr.2 (by omega)
theorem C9{w:Sp.LS}{n:Nat}(h:n<w.length):(w.getD n ([],())).1=Sp.wordAt w n:=by rw[jf (by omega),akG]
theorem Zu{w:Sp.LS}{n:Nat}(h:n+1<w.length):w.drop n=w.getD n ([],())::w.getD (n+1) ([],())::w.drop (n+2):=by rw[drop_cons w n ([],()) (by omega),drop_cons w (n+1) ([],()) h]
theorem UQ:OK xk.e:=by
 refine PA.ok mixed (bf [lI.e,mD.e,uX.e] ⟨CX,Aw,Ji,trivial⟩) V9 (by kernel_rfl) (show∀p id,xk.goal (UR p id) (p,id,())from ?_);intro w id hin hp;dsimp only[xk]at hp ⊢;obtain⟨hl,hw⟩:w.length<=1000/\∀x∈w,x.1.length<=1048576:=hp;refine⟨by decide,by decide,by decide,?_⟩;refine⟨λy=>∃(n:Nat)(al:List dH),y=((((3+2*n:Nat):Int),()),(id,Sp.numAt w 0,Sp.wordAt w 1==[115],Sp.numAt w 2,(),()),al,())/\(n=0\/3+2*n<=w.length+1)/\al.length=n/\al++fA (w.drop (3+2*n))=fA (w.drop 3),
  λy=>((w.length:Int)-y.1.1).toNat,⟨0,[],rfl,.inl rfl,rfl,rfl⟩,?_⟩
 rintro _ ⟨n,al,rfl,hn,hal,has⟩;dsimp only;refine af (λh=>?_) λh=>?_
 .have hlt:3+2*n<w.length:=by have:=je h;omega
  have e1:IntKind.i64.wrap (((3+2*n:Nat):Int)+1)=((3+2*n+1:Nat):Int):=(wrap_in (by omega)).trans (by omega);have e2:IntKind.i64.wrap (((3+2*n:Nat):Int)+2)=((3+2*(n+1):Nat):Int):=(wrap_in (by omega)).trans (by omega);rw[e1,e2,akG];have hwl:(Sp.wordAt w ((3+2*n+1:Nat):Int)).length<=1048576:=by
   by_cases hh:((3+2*n+1:Nat):Int)<(w.length:Int)
   .rw[jf hh];exact hw _ (getD_mem (by omega))
   .rw[lU (by omega)];exact ake _
  have ha:fA (w.drop (3+2*n))=((w.getD (3+2*n) ([],())).1,(aO (Sp.wordAt w ((3+2*n+1:Nat):Int))).1)::fA (w.drop (3+2*(n+1))):=by
   rcases aks (3+2*n+1) w.length with h2|h2
   .rw[Zu h2,← C9 h2,show 3+2*n+2=3+2*(n+1) by omega];rfl
   .rw[drop_cons w (3+2*n) ([],()) hlt,ak7 h2,ak7 (by omega),lU (by omega)];rfl
  rw[ha]at has;refine⟨by omega,hwl,⟨by omega,by omega⟩,zJ (by rw[aj6,akn];omega),rfl,⟨n+1,_,rfl,.inr (by omega),by rw[aj1,aj6,akn,hal],?_⟩,by omega⟩;rw[aki];exact has
 .have hge:w.length<=3+2*n:=by have:=jT h;omega
  rw[ak7 hge]at has;have e1:al=fA (w.drop 3):=by rw[← has];exact(akz _).symm
  rw[e1];rfl
theorem X7{s:List UInt8}(h:dO s=false):((bT 0 fD 0 [] [],false,()):bV×Bool×Unit)=(fM s,dO s,()):=by unfold fM;rw[h];rfl
theorem aek(w:Sp.LS):(if(w.length:Int)<2 then(w.length:Int)else 2).toNat=min 2 w.length:=by split<;>omega
theorem MO:OK kK.e:=by
 refine PA.ok mixed (bf [ql.e,oz.e,rZ.e,uX.e,xk.e,ng.e] ⟨KJ,CZ,GR,Ji,UQ,Bh,trivial⟩) OC (by kernel_rfl) (show∀line,kK.goal (MP line) (line,())from ?_);intro line hin hp;dsimp only[kK]at hp ⊢;have hp:line.length<=1048576:=hp;refine⟨hp,λ_=>dN line=true/\2<=(aA line).length,af (λh=>X7 ?_) λh=>af (λh2=>X7 ?_) λh2=>⟨rfl,jw h,by have:=jT h2;omega⟩,λ_ hj=>?_⟩
 .rw[← KP];unfold FD;rw[mM h];rfl
 .rw[← KP];unfold FD;rw[(vN (jw h)).1]at h2;rw[h2];cases dN line<;>rfl
 obtain⟨hok,hlen⟩:=hj;obtain⟨hw,hl1,hl2,_,_⟩:=vN hok;have hs:=kU.1 hok;have hws:∀x∈Sp.wordsOf line,x.1.length<=1000:=λx hx=>akb (BI x hx) (akb hs.1 (by decide));have Sr:(Sp.wordsOf line).length<=24:=by rw[lD];have:=hs.2.2;omega
 rw[hw]at hlen;have hpc:dO line=(!(aX (jV (Sp.wordsOf line))==[])&&aX (jV (Sp.wordsOf line))==eF (Sp.wordsOf line)):=by rw[← KP];unfold FD;rw[hok,aky (show ¬(((Sp.wordsOf line).length:Int)<2) by omega)];rfl
 have hpl:dO line=true->fM line=jV (Sp.wordsOf line):=λh=>(Ie h).1;have off:dO line=false->((bT 0 fD 0 [] [],false,()):bV×Bool×Unit)=(fM line,dO line,()):=X7;obtain⟨hsm,hat⟩:=Zv Sr hws;rw[hw];generalize dO line=pc at hpc hpl off ⊢;generalize fM line=pl at hpl off ⊢;generalize Sp.wordsOf line=w at hlen hl1 hl2 hws Sr hpc hpl hsm hat ⊢;have e0:(List.getD w (Int.toNat (0:Int)) ([],())).fst=Sp.wordAt w 0:=(jf (by omega)).symm;have e1:(List.getD w (Int.toNat (1:Int)) ([],())).fst=Sp.wordAt w 1:=(jf (by omega)).symm;have htk:List.take w.length w=w:=akX (aj8 _);have hwd:∀n,∀x∈w.drop n,x.1.length<=1048576:=λn x hx=>akb (hws x (ak6 hx)) (by decide);have n1:(0:Int)<=1:=by decide
 have n2:(0:Int)<=2:=by decide
 have t1:Int.toNat (1:Int)=1:=rfl;have t2:Int.toNat (2:Int)=2:=rfl;have hdl:∀n,(w.drop n).length<=1000:=λn=>by rw[akp];omega
 refine⟨λy=>y=((),jV w,()),⟨⟨by decide,by omega⟩,?_⟩,?_⟩
 .rw[e0,e1,htk,t1,t2];unfold jV gV fV iO fG fQ;cases Sp.wordAt w 0==[99,114,101,97,116,101]with
  |true=>exact⟨⟨n1,by omega⟩,⟨hdl 1,hwd 1⟩,rfl,rfl⟩
  |false=>
  cases Sp.wordAt w 0==[117,112,100,97,116,101]with
  |true=>exact⟨⟨n2,by omega⟩,n1,⟨hdl 2,hwd 2⟩,rfl,rfl⟩
  |false=>
  cases Sp.wordAt w 0==[100,101,108,101,116,101]with
  |true=>exact⟨n1,rfl,rfl⟩
  |false=>
  cases Sp.wordAt w 0==[100,101,102,105,110,101]with
  |true=>
   have hmj:(eF (w.drop 2)).length<=1048576:=by
    have hj:=Sv (m:=1000) (w:=w.drop 2) λx hx=>hws x (ak6 hx);have hdl:(w.drop 2).length<=24:=by rw[akp];omega
    have:(w.drop 2).length*(1000+1)<=24*(1000+1):=akj _ hdl;omega
   exact⟨⟨n2,by omega⟩,⟨hdl 2,akb hmj (by decide)⟩,hmj,⟨n1,by omega⟩,rfl,rfl⟩
  |false=>
  cases Sp.wordAt w 0==[117,110,100,101,102,105,110,101]with
  |true=>exact⟨⟨n1,by omega⟩,rfl,rfl⟩
  |false=>exact⟨rfl,rfl⟩
 rintro _ rfl;dsimp only;refine⟨hsm,af (λh=>off ?_) λh=>⟨⟨hl1,hl2⟩,af (λh2=>off ?_) λh2=>?_⟩⟩
 .rw[hpc,show(aX (jV w)==[])=true from h];rfl
 .have h2:(aX (jV w)==eF w)=false:=mM h2;rw[hpc,h2,akD]
 .have h2:(aX (jV w)==eF w)=true:=jw h2;have h:(aX (jV w)==[])=false:=h;have hpt:pc=true:=by rw[hpc,h2,h];rfl
  rw[hpl hpt,hpt]
end Go.Proofs.Tryz
namespace Go.Proofs.Tryz
open Go Go.Fw Go.IntWalk Sp
set_option maxRecDepth 100000
theorem zo:OK jG.e:=by
 refine PA.ok mixed (bf [] trivial) UU (by kernel_rfl) (show∀k,jG.goal (Sz k) (k,())from ?_);intro k hin hp;dsimp only[jG]at hp ⊢;obtain⟨h0,h1⟩:0<=k/\k<=1000000000:=hp;refine af (λh=>?_) λh=>?_
 .obtain rfl:k=0:=by have:=je h;omega
  exact congrArg (·,()) (show[109,48]=Sp.markT 0 by unfold Sp.markT Lib.itoa;rw[if_neg (by decide)];show _=109::Lib.decDigits 0;rw[Lib.decDigits];rfl)
 have hk:0<k:=by have:=jT h;omega
 have hL:=Ur k (by omega);have hit:Lib.itoa k=Lib.decDigits k.natAbs:=by rw[Lib.itoa,if_neg (by omega),show k.toNat=k.natAbs by omega]
 have hD:(Lib.decDigits k.natAbs).length<=21:=by rw[← hit];exact hL
 refine⟨λy=>0<=y.1.1/\y.1.1<=1000000000/\Lib.decDigits k.natAbs=(if y.1.1.natAbs=0 then[]else Lib.decDigits y.1.1.natAbs)++y.1.2.1,λy=>y.1.1.natAbs,⟨h0,h1,?_⟩,?_⟩
 .show _=(if k.natAbs=0 then _ else _)++_;rw[if_neg (by omega)];simp
 rintro⟨⟨c,s,⟨⟩⟩,⟨⟩⟩ ⟨hc1,hc2,hJ⟩;dsimp only at hc1 hc2 hJ ⊢;have hs:s.length<=21:=by rw[hJ,aj1]at hD;omega
 refine af (λh=>?_) λh=>?_
 .have hcp:0<c:=je h;have hc:c.natAbs≠0:=by omega
  have hstep:=Uk hc hJ;have hm:c.natAbs%10<10:=amo _ (by decide);have hlt:c.natAbs / 10<c.natAbs:=Nat.div_lt_self (by omega) (by decide);have hq:(c.tdiv 10).natAbs=c.natAbs / 10:=Int.natAbs_tdiv c 10;have hq0:0<=c.tdiv 10:=Int.tdiv_nonneg hc1 (by decide);have hw:IntKind.i64.wrap (c.tdiv 10)=c.tdiv 10:=gq _ (by omega);have e:=Jd (c:=c) (by have:=amX 10 hc1;omega);have e8:IntKind.u8.wrap (IntKind.i64.wrap (48+c.tmod 10))=48+((c.natAbs%10:Nat):Int):=by rw[e,i64_in _ (by omega),u8_in _ (by omega)]
  rw[e8,hw,GI];refine⟨by decide,bQ (by rw[aj6,akn];omega),by decide,rfl,⟨hq0,by omega,?_⟩,?_⟩
  .show _=(if(c.tdiv 10).natAbs=0 then[]else Lib.decDigits (c.tdiv 10).natAbs)++_;rw[hq];exact hstep
  .show(c.tdiv 10).natAbs<c.natAbs;rw[hq];exact hlt
 .obtain rfl:c=0:=by have:=jT h;omega
  have hJ:Lib.decDigits k.natAbs=s:=by simpa using hJ
  refine⟨bQ (by rw[aj6,akn];omega),?_⟩;unfold Sp.markT;rw[hit,hJ];rfl
theorem P9:OK uh.e:=by
 refine PA.ok mixed (bf [jG.e] ⟨zo,trivial⟩) SA (by kernel_rfl) (show∀a k,uh.goal (Qa a k) (a,k,())from ?_);intro a k hin hp;dsimp only[uh]at hp ⊢;obtain⟨h0,h1,hl⟩:0<=k/\k<=1000/\a.length<=1000000:=hp;refine uI (mk:=λi(v:Int)=>((v,i,()),())) (λy=>y.1.2.1) (λ_ _=>rfl) a.length (by omega) (λn v=>v=k+4*n/\jX a k=jX (a.drop n) v) ⟨by omega,rfl⟩ (λI μ n v hn hJ next=>?_) λI μ v hJ=>?_
 .obtain⟨rfl,hh⟩:=hJ;have hv:0<=k+4*(n:Int)/\k+4*(n:Int)<=4100000:=by omega
  rw[drop_cons a n ([],0,0,[],()) hn,jX]at hh;dsimp only;have w1:IntKind.i64.wrap (k+4*(n:Int)+1)=k+4*n+1:=wrap_in (by omega);have w2:IntKind.i64.wrap (k+4*(n:Int)+1+1)=k+4*n+2:=(wrap_in (by omega)).trans (by omega);have w3:IntKind.i64.wrap (k+4*(n:Int)+2+1)=k+4*n+3:=(wrap_in (by omega)).trans (by omega);have w4:IntKind.i64.wrap (k+4*(n:Int)+3+1)=k+4*n+4:=(wrap_in (by omega)).trans (by omega);rw[w1,w2,w3,w4,akG];have no:a.getD n ([],0,0,[],())≠(Sp.markT (k+4*n),k+4*n+1,k+4*n+2,Sp.markT (k+4*n+3),())->((-1:Int),())=(jX a k,()):=λh=>by rw[hh,aky h];rfl
  refine uJ (by omega) ⟨⟨by omega,by omega⟩,⟨by omega,by omega⟩,af (λg1=>no ?_) λg1=>⟨⟨by omega,by omega⟩,af (λg2=>no ?_) λg2=>⟨⟨by omega,by omega⟩,af (λg3=>no ?_) λg3=>⟨⟨by omega,by omega⟩,⟨by omega,by omega⟩,af (λg4=>no ?_) λg4=>⟨rfl,?_⟩⟩⟩⟩⟩
  .exactλe=>aj2.1 (mM g1) (congrArg (·.1) e)
  .exactλe=>alr.1 g2 (congrArg (·.2.1) e)
  .exactλe=>alr.1 g3 (congrArg (·.2.2.1) e)
  .exactλe=>aj2.1 (mM g4) (congrArg (·.2.2.2.1) e)
  .refine next _ ⟨by omega,?_⟩;have e1:=akq.1 (jw g1);have e2:=alx.1 g2;have e3:=alx.1 g3;have e4:=akq.1 (jw g4);have eq:a.getD n ([],0,0,[],())=(Sp.markT (k+4*n),k+4*n+1,k+4*n+2,Sp.markT (k+4*n+3),()):=alZ e1 (alZ e2 (alZ e3 (alZ e4 rfl)));rw[hh,aku eq];rfl
 .obtain⟨rfl,hh⟩:=hJ;rw[amc]at hh;dsimp only;exact uK (by omega) (by rw[hh];rfl)
theorem Qb:OK uj.e:=by
 refine PA.ok mixed (bf [jG.e] ⟨zo,trivial⟩) SB (by kernel_rfl) (show∀a k,uj.goal (Qc a k) (a,k,())from ?_);intro a k hin hp;dsimp only[uj]at hp ⊢;obtain⟨h0,h1,hl⟩:0<=k/\k<=10000000/\a.length<=1000000:=hp;refine uI (mk:=λi(v:Int)=>((v,i,()),())) (λy=>y.1.2.1) (λ_ _=>rfl) a.length (by omega) (λn v=>v=k+7*n/\qm a k=qm (a.drop n) v) ⟨by omega,rfl⟩ (λI μ n v hn hJ next=>?_) λI μ v hJ=>?_
 .obtain⟨rfl,hh⟩:=hJ;have hv:0<=k+7*(n:Int)/\k+7*(n:Int)<=17000000:=by omega
  rw[drop_cons a n (0,0,0,[],0,0,[],()) hn,qm]at hh;dsimp only;have w1:IntKind.i64.wrap (k+7*(n:Int)+1)=k+7*n+1:=wrap_in (by omega);have w2:IntKind.i64.wrap (k+7*(n:Int)+1+1)=k+7*n+2:=(wrap_in (by omega)).trans (by omega);have w3:IntKind.i64.wrap (k+7*(n:Int)+2+1)=k+7*n+3:=(wrap_in (by omega)).trans (by omega);have w4:IntKind.i64.wrap (k+7*(n:Int)+3+1)=k+7*n+4:=(wrap_in (by omega)).trans (by omega);have w5:IntKind.i64.wrap (k+7*(n:Int)+4+1)=k+7*n+5:=(wrap_in (by omega)).trans (by omega);have w6:IntKind.i64.wrap (k+7*(n:Int)+5+1)=k+7*n+6:=(wrap_in (by omega)).trans (by omega);have w7:IntKind.i64.wrap (k+7*(n:Int)+6+1)=k+7*n+7:=(wrap_in (by omega)).trans (by omega);rw[w1,w2,w3,w4,w5,w6,w7,akG];have no:a.getD n (0,0,0,[],0,0,[],())≠(k+7*n,k+7*n+1,k+7*n+2,Sp.markT (k+7*n+3),k+7*n+4,k+7*n+5,Sp.markT (k+7*n+6),())->((-1:Int),())=(qm a k,()):=λh=>by rw[hh,aky h];rfl
  have hi:(0:Int)<=n/\(n:Int)<a.length:=by omega
  refine uJ (by omega) ⟨hi,af (λg1=>no ?_) λg1=>⟨hi,af (λg2=>no ?_) λg2=>⟨hi,af (λg3=>no ?_) λg3=>⟨hi,⟨by omega,by omega⟩,af (λg4=>no ?_) λg4=>⟨hi,af (λg5=>no ?_) λg5=>⟨hi,af (λg6=>no ?_) λg6=>⟨hi,⟨by omega,by omega⟩,af (λg7=>no ?_) λg7=>⟨rfl,?_⟩⟩⟩⟩⟩⟩⟩⟩
  .exactλe=>alr.1 g1 (congrArg (·.1) e)
  .exactλe=>alr.1 g2 (congrArg (·.2.1) e)
  .exactλe=>alr.1 g3 (congrArg (·.2.2.1) e)
  .exactλe=>aj2.1 (mM g4) (congrArg (·.2.2.2.1) e)
  .exactλe=>alr.1 g5 (congrArg (·.2.2.2.2.1) e)
  .exactλe=>alr.1 g6 (congrArg (·.2.2.2.2.2.1) e)
  .exactλe=>aj2.1 (mM g7) (congrArg (·.2.2.2.2.2.2.1) e)
  .refine next _ ⟨by omega,?_⟩;have e1:=alx.1 g1;have e2:=alx.1 g2;have e3:=alx.1 g3;have e4:=akq.1 (jw g4);have e5:=alx.1 g5;have e6:=alx.1 g6;have e7:=akq.1 (jw g7);have eq:a.getD n (0,0,0,[],0,0,[],())=(k+7*n,k+7*n+1,k+7*n+2,Sp.markT (k+7*n+3),k+7*n+4,k+7*n+5,Sp.markT (k+7*n+6),()):=alZ e1 (alZ e2 (alZ e3 (alZ e4 (alZ e5 (alZ e6 (alZ e7 rfl))))));rw[hh,aku eq];rfl
 .obtain⟨rfl,hh⟩:=hJ;rw[amc]at hh;dsimp only;exact uK (by omega) (by rw[hh];rfl)
theorem SC:OK wo.e:=by
 refine PA.ok mixed (bf [uh.e] ⟨P9,trivial⟩) H0 (by kernel_rfl) (show∀a0 a1 a2 a3 a4 k,wo.goal (SE a0 a1 a2 a3 a4 k) ((a0,a1,a2,a3,a4,()),k,())from ?_);intro a0 a1 a2 a3 a k hin hp;dsimp only[wo]at hp ⊢;refine⟨hp,?_⟩;refine af (λh=>?_) λh=>rfl;have h0:0<=k:=hp.1;rcases SG a k with e|e
 .rw[e]
 .have:=je h;omega
theorem UW:OK xq.e:=by
 refine PA.ok mixed (bf [uj.e] ⟨Qb,trivial⟩) H0 (by kernel_rfl) (show∀a0 a1 k,xq.goal (UX a0 a1 k) ((a0,a1,()),k,())from ?_);intro a0 a k hin hp;dsimp only[xq]at hp ⊢;refine⟨hp,?_⟩;refine af (λh=>?_) λh=>rfl;have h0:0<=k:=hp.1;rcases SH a k with e|e
 .rw[e]
 .have:=je h;omega
theorem OD:OK lJ.e:=by
 refine PA.ok mixed (bf [xq.e,wo.e] ⟨UW,SC,trivial⟩) H0 (by kernel_rfl) (show∀a0 a1 a2 a3 a4 a5 a6 a7 a8 k,lJ.goal (OE a0 a1 a2 a3 a4 a5 a6 a7 a8 k) ((a0,a1,a2,a3,a4,a5,a6,a7,a8,()),k,())from ?_);intro a0 a1 a2 a3 a4 a5 a6 a7 a8 k hin hp;dsimp only[lJ]at hp ⊢;obtain⟨h0,h1,ha,hq⟩:0<=k/\k<=1000/\a5.length<=1000000/\a8.length<=1000000:=hp;unfold OV;refine⟨⟨h0,h1,ha⟩,af (λh=>?_) λh=>?_⟩
 .rw[h];rfl
 .rw[h];have hg:=jT h;have hb:0<=jX a5 k/\jX a5 k<=10000000:=by rcases SG a5 k with e|e<;>omega
  refine⟨⟨hb.1,hb.2,hq⟩,af (λg=>?_) λg=>rfl⟩;rcases SH a8 (jX a5 k)with e|e
  .rw[e];rfl
  .have:=je g;omega
end Go.Proofs.Tryz
namespace Go.Proofs.Tryz
open Go Go.Fw Go.RowKit Go.IntWalk Sp
set_option maxRecDepth 100000
theorem MQ:OK qL.e:=by
 refine XA.ok mixed (bf [jB.e,(pX,.pure mZ)] ⟨CW,⟨xY,wO⟩,trivial⟩) OG (λ_ _=>⟨((_,_,()),()),⟨rfl,rfl⟩⟩) (by kernel_rfl) (show∀w,qL.goal (MR w) (w,())from ?_);intro w hin hp;dsimp only[qL]at hp ⊢;obtain⟨hl,hw⟩:w.length<=1000/\∀x∈w,x.1.length<=1048576:=hp;have no:(decide ((w.length:Int)<4)||!(w.length%2==0))=true->((0,0,false,0,[],()):bD)=(jW w).1/\false=(jW w).2:=λh=>by unfold jW;rw[h];exact⟨rfl,rfl⟩
 refine⟨λ_=>4<=w.length/\w.length%2=0,af (λh=>no (by rw[h];rfl)) λh=>⟨by decide,af (λh2=>no ?_) λh2=>⟨rfl,?_⟩⟩,?_⟩
 .rw[abd]at h2;rw[h2,Bool.or_true]
 .rw[abd]at h2;exact⟨by have:=jT h;omega,akq.1 (jw h2)⟩
 rintro⟨⟨⟩,⟨⟩⟩ ⟨h4,ahu⟩;have ef:jW w=((Sp.numAt w 0,Sp.numAt (w.drop 1) 0,Sp.wordAt (w.drop 1) 1==[115],Sp.numAt (w.drop 1) 2,fA (w.drop 4),()),(aQ (Sp.wordAt w 0)&&(aQ (Sp.wordAt w 1)&&aQ (Sp.wordAt w 3)))&&qg (w.drop 4)):=by unfold jW;rw[aky (show ¬((w.length:Int)<4) by omega),ahu];show(iP _ _,_)=_;unfold iP;rw[alq]
 have w1:∀i:Int,0<=i->Sp.wordAt (w.drop 1) i=Sp.wordAt w (1+i):=λi hi=>BR w 1 i (by decide) hi;have en:∀v i,Sp.numAt v i=Sp.parseNum (Sp.wordAt v i):=λ_ _=>rfl;rw[en,en,en,w1 0 (by decide),w1 1 (by decide),w1 2 (by decide)]at ef;have g0:(w.getD 0 ([],())).1=Sp.wordAt w 0:=C9 (by omega);have g1:(w.getD 1 ([],())).1=Sp.wordAt w 1:=C9 (by omega);have g2:(w.getD 2 ([],())).1=Sp.wordAt w 2:=C9 (by omega);have g3:(w.getD 3 ([],())).1=Sp.wordAt w 3:=C9 (by omega);have t0:Int.toNat (0:Int)=0:=rfl;have t1:Int.toNat (1:Int)=1:=rfl;have t2:Int.toNat (2:Int)=2:=rfl;have t3:Int.toNat (3:Int)=3:=rfl;rw[ef];refine⟨⟨by decide,by omega⟩,trivial,⟨by decide,by omega⟩,trivial,⟨by decide,by omega⟩,trivial,⟨by decide,by omega⟩,?_⟩;dsimp only;rw[t0,t1,t2,t3,g0,g1,g2,g3];refine⟨λy=>y=((aQ (Sp.wordAt w 0)&&(aQ (Sp.wordAt w 1)&&aQ (Sp.wordAt w 3)),()),()),?_,?_⟩
 .cases aQ (Sp.wordAt w 0)with
  |false=>exact⟨rfl,rfl⟩
  |true=>cases aQ (Sp.wordAt w 1)<;>exact⟨rfl,rfl⟩
 rintro _ rfl;generalize (aQ (Sp.wordAt w 0)&&(aQ (Sp.wordAt w 1)&&aQ (Sp.wordAt w 3)))=ok0;refine⟨λy=>∃(n:Nat)(ok:Bool)(al:List dH),y=((ok,((4+2*n:Nat):Int),()),(Sp.parseNum (Sp.wordAt w 0),Sp.parseNum (Sp.wordAt w 1),Sp.wordAt w 2==[115],Sp.parseNum (Sp.wordAt w 3),(),()),al,())/\4+2*n<=w.length/\al.length=n/\
  al++fA (w.drop (4+2*n))=fA (w.drop 4)/\(ok&&qg (w.drop (4+2*n)))=(ok0&&qg (w.drop 4)),λy=>((w.length:Int)-y.1.2.1).toNat,⟨0,ok0,[],rfl,h4,rfl,rfl,rfl⟩,?_⟩
 rintro _ ⟨n,ok,al,rfl,hn,hal,has,hok⟩;dsimp only;refine af (λh=>?_) λh=>?_
 .have hlt:=je h;have hlt2:4+2*n+1<w.length:=by omega
  have e1:IntKind.i64.wrap (((4+2*n:Nat):Int)+1)=((4+2*n+1:Nat):Int):=(wrap_in (by omega)).trans (by omega);have e2:IntKind.i64.wrap (((4+2*n:Nat):Int)+2)=((4+2*(n+1):Nat):Int):=(wrap_in (by omega)).trans (by omega);rw[e1,e2,akG,akG];have hd:=Zu hlt2;have hd2:w.drop (4+2*n+2)=w.drop (4+2*(n+1)):=by rw[show 4+2*n+2=4+2*(n+1) by omega]
  rw[hd2]at hd;rw[hd]at has hok;have ha:fA (w.getD (4+2*n) ([],())::w.getD (4+2*n+1) ([],())::w.drop (4+2*(n+1)))=((w.getD (4+2*n) ([],())).1,(aO (w.getD (4+2*n+1) ([],())).1).1)::fA (w.drop (4+2*(n+1))):=rfl;have hv:qg (w.getD (4+2*n) ([],())::w.getD (4+2*n+1) ([],())::w.drop (4+2*(n+1)))=((aO (w.getD (4+2*n+1) ([],())).1).2&&qg (w.drop (4+2*(n+1)))):=rfl;rw[ha]at has;rw[hv]at hok;refine⟨⟨by omega,by omega⟩,hw _ (getD_mem hlt2),⟨by omega,by omega⟩,zJ (by rw[aj6,akn];omega),?_⟩;have next:∀b:Bool,(b&&qg (w.drop (4+2*(n+1))))=(ok0&&qg (w.drop 4))->∃(m:Nat)(ok:Bool)(al':List dH),((b,((4+2*(n+1):Nat):Int),()),(Sp.parseNum (Sp.wordAt w 0),Sp.parseNum (Sp.wordAt w 1),Sp.wordAt w 2==[115],Sp.parseNum (Sp.wordAt w 3),(),()),al++[((w.getD (4+2*n) ([],())).1,(aO (w.getD (4+2*n+1) ([],())).1).1)],())=((ok,((4+2*m:Nat):Int),()),(Sp.parseNum (Sp.wordAt w 0),Sp.parseNum (Sp.wordAt w 1),Sp.wordAt w 2==[115],Sp.parseNum (Sp.wordAt w 3),(),()),al',())/\4+2*m<=w.length/\al'.length=m/\
   al'++fA (w.drop (4+2*m))=fA (w.drop 4)/\(ok&&qg (w.drop (4+2*m)))=(ok0&&qg (w.drop 4)):=λb hb=>
   ⟨n+1,b,_,rfl,by omega,by rw[aj1,aj6,akn,hal],by rw[aki];exact has,hb⟩
  cases ok with
  |true=>exact⟨rfl,next _ (by rw[← hok,akV]),by omega⟩
  |false=>exact⟨rfl,next _ (by rw[← hok,alc,alc]),by omega⟩
 .have hge:4+2*n=w.length:=by have:=jT h;omega
  rw[hge,amc]at has hok;have e1:al=fA (w.drop 4):=by rw[← has];exact(akz _).symm
  have e2:ok=(ok0&&qg (w.drop 4)):=by rw[← hok];exact(alI _).symm
  rw[e1,e2];exact⟨rfl,rfl⟩
theorem adA(k:Nat)(x:ay):Fw.look [(k,x)] k=some x:=by simp[Fw.look]
theorem SI{k o:Nat}{x y:ay}(h:Fw.look [(k,x)] o=some y):o=k/\y=x:=by
 rw[Fw.look]at h;cases hb:Nat.beq o k with
 |true=>rw[hb]at h;exact⟨aj3 hb,by cases h;rfl⟩
 |false=>rw[hb]at h;cases h
theorem Gf:oD prog G rC pK:=by
 intro args p ρ hcon hp;unfold pK xX at hcon;split at hcon
 .next x hx=>
  revert x;show∀x:List UInt8×Unit,_;rintro⟨s,⟨⟩⟩ hx hcon;have hF:=Option.some.inj hcon;have hp1:(s.length<=1048576)=p:=congrArg Prod.fst hF;have hρ:=congrArg Prod.snd hF;simp only at hρ;subst hρ;have hs:s.length<=1048576:=by rw[hp1];exact hp
  obtain⟨a0,r0,rfl,hx0,h1⟩:=aas hx;have:=abV h1;subst this;refine⟨⟨((dJ s,dV s,()),()),⟨rfl,rfl⟩⟩,?_⟩;intro k S γ vs w hG hrep mG hap hk
  match hvs:vs.toList,hrep with
  |[v],hrep=>
   have harg:lg ⟨w,w.heap.size,S,γ,bZ [a0]⟩ a0 v:=by
    have hr:=hrep.1;cases a0 with
    |sv _|kp _|fn _ _=>exact hr
    |own _ _ _|ptr _=>simp[gm.read,fB.read]at hx0
   have hno:∀q,bZ [a0] q=none:=by
    cases a0 with
    |sv _|kp _|fn _ _=>exactλq=>by unfold bZ;rcases q / 64 with _|n<;>rfl
    |own _ _ _|ptr _=>simp[gm.read,fB.read]at hx0
   have hv:=fB.weak (.v (.one .str)) a0 s v hx0 harg;have e1:v=.string ⟨s.toArray⟩:=hv.1;have evs:vs=#[.string ⟨s.toArray⟩]:=by obtain⟨vl⟩:=vs;simp at hvs;rw[hvs,e1]
   subst evs;refine(UL s hs w hG).mono ?_;rintro e w' ⟨u,rfl,hb,hn,hl⟩;obtain⟨xs,hn1,hn2,hn3⟩:=id hn;have no1:∀q y,¬jo [Eff.lose] q=some y:=λq y h=>by
    have e:jo [Eff.lose] q=none:=by unfold jo;rcases q / 64 with _|n<;>rfl
    rw[e]at h;cases h
   have ub:∀b,blk u=some b->u.ownBlock=some b:=λb hb2=>by obtain⟨a,cap,rfl⟩:=hn.form;cases a with|none=>cases hb2|some a=>exact hb2
   refine⟨((dJ s,dV s,()),()),⟨rfl,rfl⟩,_,λ_=>u,rfl,hb.os,hb.tape,hb.output,hb.size,λb hb2 _=>hb.block b hb2,?_,?_,?_,?_⟩
   .refine⟨_,rfl,⟨⟨_,_,_,_,adA k _⟩,rfl,?_⟩,rfl,trivial⟩;obtain⟨a,cap,e⟩:=hn.form;rw[e];rfl
   .intro o x ho;obtain⟨rfl,rfl⟩:=SI ho;refine⟨⟨xs,⟨hn1.1,hn1.2.imp id λ⟨g,cap,cur,e,e2,e3⟩=>⟨g,cap,cur,e,ake _,e3⟩⟩,by decide,λb hb2 _=>(hn.lt (ub b hb2)).1,λi x hx=>aK.flat (S:=λ_=>False) _ _ _ rfl (hn3 i x hx)⟩,λb hb2=>⟨(hn.lt (ub b hb2)).2.1,.inl (hn.lt (ub b hb2)).1,λq y hq=>absurd hq (no1 q y)⟩⟩
   .intro o x q y b ho hq hne;exact absurd ((SI ho).1.trans (SI hq).1.symm) hne
   .exactλo x ho=>absurd ho (no1 o x)
 .cases hcon
theorem Zw{line:List UInt8}(h:dO line=false):bT 0 fD 0 [] []=fM line/\false=dO line:=by have:=X7 h;exact⟨congrArg (·.1) this,congrArg (·.2.1) this⟩
theorem FH:OK iw.e:=by
 refine XA.ok mixed (bf [rG.e,qj.e,(rC,.eff (Ir lX) pK),(mF,.pure kD),uV.e,vX.e,qL.e,iW.e] ⟨Oj,KN,⟨Gf,E5⟩,⟨wz,uH⟩,Jh,RZ,MQ,Bj,trivial⟩) Gg (λ_ _=>⟨((_,_,()),()),⟨rfl,rfl⟩⟩) (by kernel_rfl) (show∀line,iw.goal (FI line) (line,())from ?_);intro line hin hp;dsimp only[iw]at hp ⊢;have hp:line.length<=1048576:=hp;refine⟨hp,λ_=>dN line=true/\aA line≠[],af (λh=>Zw ?_) λh=>af (λh2=>Zw ?_) λh2=>⟨rfl,jw h,λe=>?_⟩,λ_ hj=>?_⟩
 .unfold dO;rw[mM h];rfl
 .have h2:((aA line).length:Int)=0:=by simpa using h2
  have hn:Sp.wordsOf line=[]:=by rw[← (vN (jw h)).1];exact akL.1 (by omega)
  unfold dO;rw[hn];cases dN line<;>rfl
 .rw[e]at h2;revert h2;decide
 obtain⟨hok,hne⟩:=hj;obtain⟨hw,hl1,hl2,_,_⟩:=vN hok;have hs:=kU.1 hok;have hws:∀x∈Sp.wordsOf line,x.1.length<=1000:=λx hx=>akb (BI x hx) (akb hs.1 (by decide));have Sr:(Sp.wordsOf line).length<=24:=by rw[lD];have:=hs.2.2;omega
 have hpc:dO line=((fJ (Sp.wordsOf line)).2&&(!(aX (fJ (Sp.wordsOf line)).1==[])&&decide (Sp.wordsOf (aX (fJ (Sp.wordsOf line)).1)=Sp.wordsOf line))):=by unfold dO;rw[hok,show(Sp.wordsOf line==[])=false from aj2.2 (by rw[← hw];exact hne)];rfl
 have hpl:dO line=true->fM line=(fJ (Sp.wordsOf line)).1:=λh=>(Ie h).2;have off:dO line=false->bT 0 fD 0 [] []=fM line/\false=dO line:=Zw;obtain⟨hsm,hat⟩:=OH Sr hws;have hft:=Zx _ hat;have hfa:=adB (fJ (Sp.wordsOf line)).1;rw[hw]at hne ⊢;rw[hok];generalize dO line=pc at hpc hpl off ⊢;generalize fM line=pl at hpl off ⊢;generalize Sp.wordsOf line=w at hne hl1 hl2 hws Sr hpc hpl hsm hat hft hfa ⊢;have hlen:0<w.length:=List.length_pos_iff.2 hne;have hlen2:(0:Int)<(w.length:Int):=by omega
 have e0:(List.getD w (Int.toNat (0:Int)) ([],())).fst=Sp.wordAt w 0:=(jf (by omega)).symm;have htk:List.take w.length w=w:=akX (aj8 _);have hwd:∀n,∀x∈w.drop n,x.1.length<=1048576:=λn x hx=>akb (hws x (ak6 hx)) (by decide);have n1:(0:Int)<=1:=by decide
 have t1:Int.toNat (1:Int)=1:=rfl;refine⟨λy=>y.1.1=(fJ w).2/\(y.2.1.1,y.2.1.2.1,y.2.1.2.2.1,y.2.1.2.2.2.1,y.2.1.2.2.2.2.1,y.2.2.1,y.2.1.2.2.2.2.2.2.1,y.2.1.2.2.2.2.2.2.2.1,y.2.2.2.1,())=(fJ w).1,⟨⟨by decide,hlen2⟩,?_⟩,?_⟩
 .rw[e0,htk,t1];unfold fJ gV fV iO fG fQ;cases Sp.wordAt w 0==[99,114,101,97,116,101]with
  |true=>
   refine⟨⟨n1,by omega⟩,zJ (by rw[akp,aj6,akn];omega),⟨by rw[aj1,akp,aj6,akn];omega,λx hx=>?_⟩,λr hr=>⟨rfl,hr.2,congrArg (λf=>bT 1 f 0 [] []) hr.1⟩⟩;rcases akS.1 hx with hx|hx
   .rw[ak2.1 hx];show 1<=_;decide
   .exact hwd 1 x hx
  |false=>
  cases Sp.wordAt w 0==[117,112,100,97,116,101]with
  |true=>exact⟨⟨n1,by omega⟩,⟨by rw[akp];omega,hwd 1⟩,λr hr=>⟨rfl,hr.2,congrArg (λf=>bT 2 f 0 [] []) hr.1⟩⟩
  |false=>
  cases Sp.wordAt w 0==[100,101,108,101,116,101]with
  |true=>exact⟨n1,rfl,rfl,rfl⟩
  |false=>
  cases Sp.wordAt w 0==[100,101,102,105,110,101]with
  |true=>
   have hmd:w.drop (if(w.length:Int)<2 then(w.length:Int)else 2).toNat=w.drop 2:=by
    rw[aek];rcases aks w.length 2 with h|h
    .rw[Nat.min_eq_right (by omega),amc,ak7 (by omega)]
    .rw[al3 h]
   have hmj:(Lib.join ((w.drop 2).map λx=>x.1) [32]).length<=1048576:=by
    have hj:=Sv (m:=1000) (w:=w.drop 2) λx hx=>hws x (ak6 hx);have hdl:(w.drop 2).length<=24:=by rw[akp];omega
    have:(w.drop 2).length*(1000+1)<=24*(1000+1):=akj _ hdl;exact akb hj (by omega)
   dsimp only;rw[hmd];refine⟨n1,⟨?_,?_⟩,⟨by rw[akp];omega,akb hmj (by decide)⟩,hmj,λr hr=>⟨rfl,hr.2,congrArg (λq=>bT 4 fD 0 (Sp.wordAt w 1) q) hr.1⟩⟩
   .split<;>omega
   .split<;>omega
  |false=>
  cases Sp.wordAt w 0==[117,110,100,101,102,105,110,101]with
  |true=>exact⟨n1,rfl,rfl,rfl⟩
  |false=>exact⟨rfl,rfl,rfl⟩
 rintro⟨⟨b,⟨⟩⟩,⟨k,f0,f1,f2,f3,⟨⟩,id,nm,⟨⟩,⟨⟩⟩,at',q,⟨⟩⟩ ⟨hb,hc⟩;dsimp only at hb hc ⊢;obtain rfl:=hb;rw[hc];refine af (λh=>off ?_) λh=>⟨hsm,⟨akb hft (by decide),hfa⟩,af (λh2=>off ?_) λh2=>?_⟩
 .rw[hpc,mM h];rfl
 .have h2:(!(aX (fJ w).1==[])&&decide (Sp.wordsOf (aX (fJ w).1)=w))=false:=mM h2;rw[hpc,h2,akD]
 .have h2:(!(aX (fJ w).1==[])&&decide (Sp.wordsOf (aX (fJ w).1)=w))=true:=jw h2;have hpt:pc=true:=by rw[hpc,h2,jw h];rfl
  rw[hpl hpt,hpt]
  first|exact⟨rfl,rfl⟩|exact⟨hc,rfl⟩
end Go.Proofs.Tryz
namespace Go.Proofs.Tryz
open Go Go.Fw Go.RowKit Sp
set_option maxRecDepth 100000
theorem abe(k:Int)(h:0<=k/\k<=1000000000)(w:World)(hG:G.ok w):Calls prog 96 #[.int .i64 k] w λe w'=>e=.returned (.string ⟨(Sp.markT k).toArray⟩)/\Below w.heap.size w w':=by have hc:fZ prog G 96 (iE jG.sh jG.bG jG.F):=zo.1;refine(hc [.sv (.one (.int .i64 k))] (0<=k/\k<=1000000000) ⟨[(false,[.plain (.str (Sp.markT k))])],none⟩ 0 (λ_=>True) #[.int .i64 k] w rfl h hG ⟨⟨rfl,by show -9223372036854775808<=k;omega,by show k<=9223372036854775807;omega⟩,trivial⟩).mono ?_;rintro e w' ⟨v,vals,rfl,h1,h2,h3,h4,h5,h6,_,_⟩;have h6:v=.string ⟨(Sp.markT k).toArray⟩/\(Sp.markT k).length<=maxLen:=h6;exact⟨by rw[h6.1],h1,h2,h3,h4,h5⟩
theorem Step.set{a b:World}{P j:Nat}{o:Option Nat}{v:Value}(h:Step a b P o):Step a (b.setCell ⟨P,j,none⟩ v) P o:=
 ⟨h.os,h.tape,h.output,by simpa[World.setCell]using h.size,λx hx hP ho=>(Jm v hP).trans (h.block x hx hP ho)⟩
theorem ae3{W w:World}{g:Nat}(hG:G.ok W)(hg:G.n<=g)(h:Step W w g none):G.ok w:=
 G.stable W w hG h.size λb hb=>h.block b (akw hb (G.low W hG)) (by omega) λe=>by cases e
theorem SK(k:Int)(h:0<=k/\k<=1000000000){W w:World}{g i j l t:Nat}{x y z:Value}{cur:Array Value}(hG:G.ok W)(hg:G.n<=g)(st:Step W w g none)(hr:w.heap[g]? =some (.cells cur t (0,0))):
 Calls prog 96 #[.int .i64 k] (((w.setCell ⟨g,i,none⟩ x).setCell ⟨g,j,none⟩ y).setCell ⟨g,l,none⟩ z) λe w'=>e=.returned (.string ⟨(Sp.markT k).toArray⟩)/\
  w'.heap[g]? =some (.cells (((cur.setIfInBounds i x).setIfInBounds j y).setIfInBounds l z) t (0,0))/\Step W w' g none:=by
 have hr3:=eX (eX (eX hr i x) j y) l z;have OI:Step W (((w.setCell ⟨g,i,none⟩ x).setCell ⟨g,j,none⟩ y).setCell ⟨g,l,none⟩ z) g none:=st.set.set.set;generalize (((w.setCell ⟨g,i,none⟩ x).setCell ⟨g,j,none⟩ y).setCell ⟨g,l,none⟩ z)=w3 at hr3 OI ⊢;refine(abe k h w3 (ae3 hG hg OI)).mono ?_;rintro e w' ⟨rfl,hb⟩;exact⟨rfl,(hb.block g (aj7.1 hr3).1).trans hr3,OI.below hb⟩
def Wh(cur:Array Value)(k:Int)(n:Nat):Prop:=∀j,j<n->cur[j*4]? =some (.string ⟨(Sp.markT (k+4*j)).toArray⟩)/\cur[j*4+1]? =some (.int .i64 (k+4*j+1))/\cur[j*4+2]? =some (.int .i64 (k+4*j+2))/\cur[j*4+3]? =some (.string ⟨(Sp.markT (k+4*j+3)).toArray⟩)
theorem wR{cur:Array Value}{i:Nat}{v:Value}(h:i<cur.size):(cur.setIfInBounds i v)[i]? =some v:=by rw[Array.getElem?_setIfInBounds_self,if_pos h]
theorem Wh.next{cur:Array Value}{k:Int}{n:Nat}(h:Wh cur k n)(hs:(n+1)*4<=cur.size):
 Wh ((((cur.setIfInBounds (n*4) (.string ⟨(Sp.markT (k+4*n)).toArray⟩)).setIfInBounds (n*4+1) (.int .i64 (k+4*n+1))).setIfInBounds (n*4+1+1) (.int .i64 (k+4*n+1+1))).setIfInBounds (n*4+1+2) (.string ⟨(Sp.markT (k+4*n+1+1+1)).toArray⟩)) k (n+1):=by
 intro j hj;rcases aks j n with hlt|hge
 .obtain⟨h1,h2,h3,h4⟩:=h j hlt;refine⟨?_,?_,?_,?_⟩<;>rw[akx (by omega),akx (by omega),akx (by omega),akx (by omega)]<;>assumption
 .obtain rfl:j=n:=by omega
  rw[show k+4*(j:Int)+2=k+4*j+1+1 by omega,show k+4*(j:Int)+3=k+4*j+1+1+1 by omega];refine⟨?_,?_,?_,?_⟩
  .rw[akx (by omega),akx (by omega),akx (by omega)];exact wR (by omega)
  .rw[akx (by omega),akx (by omega)];exact wR (by rw[akM];omega)
  .rw[akx (by omega)];exact wR (by rw[akM,akM];omega)
  .exact wR (by rw[akM,akM,akM];omega)
set_option maxHeartbeats 16000000 in
theorem aci(W:World)(g cap:Nat)(cur:Array Value)(len:Nat)(k:Int)(hG:G.ok W)(hg:G.n<=g)(hrow:W.heap[g]? =some (.cells cur 84 (0,0)))(hsz:cur.size=cap*4)(hle:len<=cap)(hk:0<=k/\k<=1000000)(hl:len<=1000000):
 Calls prog 135 #[.slice (some ⟨g,0,none⟩) len cap,.int .i64 k] W λe w'=>e=.returned (.int .i64 (k+4*len))/\(∃cur',w'.heap[g]? =some (.cells cur' 84 (0,0))/\cur'.size=cap*4/\Wh cur' k len)/\Step W w' g none:=by
 have mixed:=Tryz.mixed
 go_enter Tryz.func135,Tryz.ntmps135
 go_wp2
 go_loopw [1,5] (λkk i wr=>∃(n:Nat)(cur':Array Value),n<=len/\kk=.int .i64 (k+4*n)/\i=.int .i64 n/\wr.heap[g]? =some (.cells cur' 84 (0,0))/\cur'.size=cap*4/\Wh cur' k n/\Step W wr g none)
  (λ_ i _=>len-(intOf i).toNat)
 case atStart=>exact⟨0,cur,ake _,by simp,rfl,hrow,hsz,λj hj=>absurd hj (ak0 _),rfl,rfl,rfl,aj8 _,λ_ _ _ _=>rfl⟩
 case round=>
  obtain⟨n,cur',hn,rfl,rfl,hr,hs,hA,hst⟩:=hrel;rcases aks n len with hlt|hge
  .have hlt':((n:Nat):Int)<len:=by omega
   have hin:∀i,i<4->∃u,cur'[n*4+i]? =some u:=λi hi=>by have:(n+1)*4<=cap*4:=akj _ (by omega);exact⟨_,alR (by omega)⟩
   obtain⟨u0,hu0⟩:=hin 0 (by decide);obtain⟨u1,hu1⟩:=hin 1 (by decide);obtain⟨u2,hu2⟩:=hin 2 (by decide);obtain⟨u3,hu3⟩:=hin 3 (by decide);clear hin;have mt1:=abe (k+4*n) (by omega) wr (ae3 hG hg hst)
   go_wp2_with (first
    |(go_at_call 96;refine mt1.mono ?_;rintro e w2 ⟨rfl,hb2⟩;have hr2:=(hb2.block g (aj7.1 hr).1).trans hr;have z0:=bn hr2 (n*4);have z1:=bn hr2 (n*4+1);have z2:=bn hr2 (n*4+1+1);have c0:w2.cell? ⟨g,n*4,none⟩=some u0:=(ak hr2 _).trans hu0;have c1:w2.cell? ⟨g,n*4+1,none⟩=some u1:=(ak hr2 _).trans hu1;have c2:w2.cell? ⟨g,n*4+1+1,none⟩=some u2:=(ak hr2 _).trans hu2;have st2:=hst.below hb2;clear mt1)
    |(go_at_call 96;have hx:=SK (k+4*↑n+1+1+1) (by omega) hG hg st2 hr2 (i:=n*4) (j:=n*4+1) (l:=n*4+1+1) (x:=.string ⟨(Sp.markT (k+4*↑n)).toArray⟩) (y:=.int .i64 (k+4*↑n+1)) (z:=.int .i64 (k+4*↑n+1+1));refine alo hx ?_;clear hx;rintro e w3 ⟨rfl,hr3,OI⟩;have z3:=bn hr3 (n*4+1+2);have c3:w3.cell? ⟨g,n*4+1+2,none⟩=some u3:=(ak hr3 _).trans (by rw[akx (by omega),akx (by omega),akx (by omega)];exact hu3)))
   have aiL:(n+1)*4<=cap*4:=akj _ (by omega);refine⟨⟨n+1,_,hlt,congrArg _ (by omega),rfl,eX hr3 _ _,?_,hA.next (by omega),OI.set⟩,?_⟩
   .rw[akM,akM,akM,akM];exact hs
   .simp only[intOf];omega
  .have hge':¬((n:Nat):Int)<len:=by omega
   obtain rfl:n=len:=by omega
   go_wp2
   all_goals go_ret
   all_goals exact⟨rfl,⟨_,hr,hs,hA⟩,hst⟩
def Wi(cur:Array Value)(k:Int)(n:Nat):Prop:=∀j,j<n->cur[j*7]? =some (.int .i64 (k+7*j))/\cur[j*7+1]? =some (.int .i64 (k+7*j+1))/\cur[j*7+2]? =some (.int .i64 (k+7*j+2))/\cur[j*7+3]? =some (.string ⟨(Sp.markT (k+7*j+3)).toArray⟩)/\cur[j*7+4]? =some (.int .i64 (k+7*j+4))/\cur[j*7+5]? =some (.int .i64 (k+7*j+5))/\cur[j*7+6]? =some (.string ⟨(Sp.markT (k+7*j+6)).toArray⟩)
theorem dm{cur:Array Value}{i j:Nat}{v u:Value}(h:i≠j)(hc:cur[j]? =some u):(cur.setIfInBounds i v)[j]? =some u:=by rw[akx h];exact hc
theorem Wi.next{cur:Array Value}{k:Int}{n:Nat}(h:Wi cur k n)(hs:(n+1)*7<=cur.size):
 Wi (((((((cur.setIfInBounds (n*7) (.int .i64 (k+7*n))).setIfInBounds (n*7+1) (.int .i64 (k+7*n+1))).setIfInBounds (n*7+2) (.int .i64 (k+7*n+1+1))).setIfInBounds (n*7+3) (.string ⟨(Sp.markT (k+7*n+1+1+1)).toArray⟩)).setIfInBounds (n*7+4) (.int .i64 (k+7*n+1+1+1+1))).setIfInBounds (n*7+4+1) (.int .i64 (k+7*n+1+1+1+1+1))).setIfInBounds (n*7+4+2) (.string ⟨(Sp.markT (k+7*n+1+1+1+1+1+1)).toArray⟩)) k (n+1):=by
 intro j hj;rcases aks j n with hlt|hge
 .obtain⟨h1,h2,h3,h4,h5,h6,h7⟩:=h j hlt;refine⟨?_,?_,?_,?_,?_,?_,?_⟩<;>refine dm (by omega) (dm (by omega) (dm (by omega) (dm (by omega) (dm (by omega) (dm (by omega) (dm (by omega) ?_))))))<;>assumption
 .obtain rfl:j=n:=by omega
  rw[show k+7*(j:Int)+2=k+7*j+1+1 by omega,show k+7*(j:Int)+3=k+7*j+1+1+1 by omega,show k+7*(j:Int)+4=k+7*j+1+1+1+1 by omega,show k+7*(j:Int)+5=k+7*j+1+1+1+1+1 by omega,show k+7*(j:Int)+6=k+7*j+1+1+1+1+1+1 by omega];refine⟨dm (by omega) (dm (by omega) (dm (by omega) (dm (by omega) (dm (by omega) (dm (by omega) (wR ?_)))))),dm (by omega) (dm (by omega) (dm (by omega) (dm (by omega) (dm (by omega) (wR ?_))))),dm (by omega) (dm (by omega) (dm (by omega) (dm (by omega) (wR ?_)))),dm (by omega) (dm (by omega) (dm (by omega) (wR ?_))),dm (by omega) (dm (by omega) (wR ?_)),dm (by omega) (wR ?_),wR ?_⟩<;>(try simp only[akM])<;>omega
set_option maxHeartbeats 16000000 in
theorem acj(W:World)(g cap:Nat)(cur:Array Value)(len:Nat)(k:Int)(hG:G.ok W)(hg:G.n<=g)(hrow:W.heap[g]? =some (.cells cur 125 (0,0)))(hsz:cur.size=cap*7)(hle:len<=cap)(hk:0<=k/\k<=10000000)(hl:len<=1000000):
 Calls prog 136 #[.slice (some ⟨g,0,none⟩) len cap,.int .i64 k] W λe w'=>e=.returned (.int .i64 (k+7*len))/\(∃cur',w'.heap[g]? =some (.cells cur' 125 (0,0))/\cur'.size=cap*7/\Wi cur' k len)/\Step W w' g none:=by
 have mixed:=Tryz.mixed
 go_enter Tryz.func136,Tryz.ntmps136
 go_wp2
 go_loopw [1,5] (λkk i wr=>∃(n:Nat)(cur':Array Value),n<=len/\kk=.int .i64 (k+7*n)/\i=.int .i64 n/\wr.heap[g]? =some (.cells cur' 125 (0,0))/\cur'.size=cap*7/\Wi cur' k n/\Step W wr g none)
  (λ_ i _=>len-(intOf i).toNat)
 case atStart=>exact⟨0,cur,ake _,by simp,rfl,hrow,hsz,λj hj=>absurd hj (ak0 _),rfl,rfl,rfl,aj8 _,λ_ _ _ _=>rfl⟩
 case round=>
  obtain⟨n,cur',hn,rfl,rfl,hr,hs,hA,hst⟩:=hrel;rcases aks n len with hlt|hge
  .have hlt':((n:Nat):Int)<len:=by omega
   have aiL:(n+1)*7<=cap*7:=akj _ (by omega);have hin:∀i,i<7->∃u,cur'[n*7+i]? =some u:=λi hi=>⟨_,alR (by omega)⟩;obtain⟨u0,hu0⟩:=hin 0 (by decide);obtain⟨u1,hu1⟩:=hin 1 (by decide);obtain⟨u2,hu2⟩:=hin 2 (by decide);obtain⟨u3,hu3⟩:=hin 3 (by decide);obtain⟨u4,hu4⟩:=hin 4 (by decide);obtain⟨u5,hu5⟩:=hin 5 (by decide);obtain⟨u6,hu6⟩:=hin 6 (by decide);clear hin;have mt1:=SK (k+7*n+1+1+1) (by omega) hG hg hst hr (i:=n*7) (j:=n*7+1) (l:=n*7+2) (x:=.int .i64 (k+7*n)) (y:=.int .i64 (k+7*n+1)) (z:=.int .i64 (k+7*n+1+1));have z0:=bn hr (n*7);have z1:=bn hr (n*7+1);have z2:=bn hr (n*7+2);have c0:wr.cell? ⟨g,n*7,none⟩=some u0:=(ak hr _).trans hu0;have c1:wr.cell? ⟨g,n*7+1,none⟩=some u1:=(ak hr _).trans hu1;have c2:wr.cell? ⟨g,n*7+2,none⟩=some u2:=(ak hr _).trans hu2
   go_wp2_with (first
    |(go_at_call 96;refine alo mt1 ?_;rintro e w2 ⟨rfl,hr2,st2⟩;have z3:=bn hr2 (n*7+3);have z4:=bn hr2 (n*7+4);have z5:=bn hr2 (n*7+4+1);have c3:w2.cell? ⟨g,n*7+3,none⟩=some u3:=(ak hr2 _).trans (dm (by omega) (dm (by omega) (dm (by omega) hu3)));have c4:w2.cell? ⟨g,n*7+4,none⟩=some u4:=(ak hr2 _).trans (dm (by omega) (dm (by omega) (dm (by omega) hu4)));have c5:w2.cell? ⟨g,n*7+4+1,none⟩=some u5:=(ak hr2 _).trans (dm (by omega) (dm (by omega) (dm (by omega) hu5)));clear mt1)
    |(go_at_call 96;have hx:=SK (k+7*↑n+1+1+1+1+1+1) (by omega) hG hg st2 hr2 (i:=n*7+3) (j:=n*7+4) (l:=n*7+4+1) (x:=.string ⟨(Sp.markT (k+7*↑n+1+1+1)).toArray⟩) (y:=.int .i64 (k+7*↑n+1+1+1+1)) (z:=.int .i64 (k+7*↑n+1+1+1+1+1));refine alo hx ?_;clear hx;rintro e w3 ⟨rfl,hr3,OI⟩;have z6:=bn hr3 (n*7+4+2);have c6:w3.cell? ⟨g,n*7+4+2,none⟩=some u6:=(ak hr3 _).trans (dm (by omega) (dm (by omega) (dm (by omega) (dm (by omega) (dm (by omega) (dm (by omega) hu6))))))))
   refine⟨⟨n+1,_,hlt,congrArg _ (by omega),rfl,eX hr3 _ _,?_,hA.next (by omega),OI.set⟩,?_⟩
   .simp only[akM];exact hs
   .simp only[intOf];omega
  .have hge':¬((n:Nat):Int)<len:=by omega
   obtain rfl:n=len:=by omega
   go_wp2
   all_goals go_ret
   all_goals exact⟨rfl,⟨_,hr,hs,hA⟩,hst⟩
theorem adD(W:World)(k:Int):Calls prog 135 #[.slice none 0 0,.int .i64 k] W λe w'=>e=.returned (.int .i64 k)/\w'=W:=by
 have mixed:=Tryz.mixed
 go_enter Tryz.func135,Tryz.ntmps135
 go_wp2
 go_loopw [1,5] (λkk i wr=>kk=.int .i64 k/\i=.int .i64 0/\wr=W) (λ_ _ _=>0)
 case atStart=>exact⟨rfl,rfl,rfl⟩
 case round=>
  obtain⟨rfl,rfl,rfl⟩:=hrel
  go_wp2
  all_goals go_ret
  all_goals exact⟨rfl,rfl⟩
theorem adE(W:World)(k:Int):Calls prog 136 #[.slice none 0 0,.int .i64 k] W λe w'=>e=.returned (.int .i64 k)/\w'=W:=by
 have mixed:=Tryz.mixed
 go_enter Tryz.func136,Tryz.ntmps136
 go_wp2
 go_loopw [1,5] (λkk i wr=>kk=.int .i64 k/\i=.int .i64 0/\wr=W) (λ_ _ _=>0)
 case atStart=>exact⟨rfl,rfl,rfl⟩
 case round=>
  obtain⟨rfl,rfl,rfl⟩:=hrel
  go_wp2
  all_goals go_ret
  all_goals exact⟨rfl,rfl⟩
end Go.Proofs.Tryz
namespace Go.Proofs.Tryz
open Go Go.Fw Go.RowKit
set_option maxRecDepth 100000
structure Wr(W w:World)(S:Nat->Prop):Prop where
 os:w.os=W.os
 tape:w.tape=W.tape
 output:w.output=W.output
 size:W.heap.size<=w.heap.size
 block:∀b,b<W.heap.size->¬S b->w.heap[b]? =W.heap[b]?
theorem Wr.trans{a b c:World}{S:Nat->Prop}(h:Wr a b S)(k:Wr b c S):Wr a c S:=
 ⟨k.os.trans h.os,k.tape.trans h.tape,k.output.trans h.output,akb h.size k.size,λx hx hs=>(k.block x (akw hx h.size) hs).trans (h.block x hx hs)⟩
theorem Wr.mono{a b:World}{S S':Nat->Prop}(h:Wr a b S)(hs:∀x,S x->S' x):Wr a b S':=
 ⟨h.os,h.tape,h.output,h.size,λx hx hn=>h.block x hx λe=>hn (hs x e)⟩
theorem Wr.of{a b:World}(S:Nat->Prop)(h:Below a.heap.size a b):Wr a b S:=⟨h.os,h.tape,h.output,h.size,λx hx _=>h.block x hx⟩
theorem Wr.fresh{a b:World}{S:Nat->Prop}(h:Wr a b S)(hs:∀x,x<a.heap.size->¬S x):Below a.heap.size a b:=⟨h.os,h.tape,h.output,h.size,λx hx=>h.block x hx (hs x hx)⟩
def OA(w:World)(B t z:Nat)(v:Value)(n:Nat):Prop:=
 (v=.slice none 0 0/\n=0)\/∃g cap cur,v=.slice (some ⟨g,0,none⟩) n cap/\B<=g/\w.heap[g]? =some (.cells cur t (0,0))/\n<=cap/\cur.size=cap*z
def LU(w:World)(v:Value)(n:Nat)(k:Int):Prop:=
 (v=.slice none 0 0/\n=0)\/∃g cap cur,v=.slice (some ⟨g,0,none⟩) n cap/\n<=cap/\w.heap[g]? =some (.cells cur 84 (0,0))/\Wh cur k n
def QE(w:World)(v:Value)(n:Nat)(k:Int):Prop:=
 (v=.slice none 0 0/\n=0)\/∃g cap cur,v=.slice (some ⟨g,0,none⟩) n cap/\n<=cap/\w.heap[g]? =some (.cells cur 125 (0,0))/\Wi cur k n
theorem OA.form{w:World}{B t z:Nat}{v:Value}{n:Nat}(h:OA w B t z v n):∃a c,v=.slice a n c:=by rcases h with⟨rfl,rfl⟩|⟨g,cap,cur,rfl,_⟩<;>exact⟨_,_,rfl⟩
theorem OA.keep{w w':World}{B t z:Nat}{v:Value}{n:Nat}(h:OA w B t z v n)(hk:∀g,v.ownBlock=some g->w'.heap[g]? =w.heap[g]?):OA w' B t z v n:=by
 rcases h with h|⟨g,cap,cur,rfl,h1,h2,h3⟩
 .exact .inl h
 .exact .inr ⟨g,cap,cur,rfl,h1,(hk g rfl).trans h2,h3⟩
theorem OA.lt{w:World}{B t z:Nat}{v:Value}{n:Nat}(h:OA w B t z v n){g:Nat}(hg:v.ownBlock=some g):B<=g/\g<w.heap.size:=by
 rcases h with⟨rfl,_⟩|⟨g',cap,cur,rfl,h1,h2,_⟩
 .cases hg
 .cases hg;exact⟨h1,(aj7.1 h2).1⟩
theorem LU.keep{w w':World}{v:Value}{n:Nat}{k:Int}(h:LU w v n k)(hk:∀g,v.ownBlock=some g->w'.heap[g]? =w.heap[g]?):LU w' v n k:=by
 rcases h with h|⟨g,cap,cur,rfl,h1,h2,h3⟩
 .exact .inl h
 .exact .inr ⟨g,cap,cur,rfl,h1,(hk g rfl).trans h2,h3⟩
theorem QE.keep{w w':World}{v:Value}{n:Nat}{k:Int}(h:QE w v n k)(hk:∀g,v.ownBlock=some g->w'.heap[g]? =w.heap[g]?):QE w' v n k:=by
 rcases h with h|⟨g,cap,cur,rfl,h1,h2,h3⟩
 .exact .inl h
 .exact .inr ⟨g,cap,cur,rfl,h1,(hk g rfl).trans h2,h3⟩
theorem adF{W:World}{B:Nat}{v:Value}{n:Nat}{k:Int}(hG:G.ok W)(hB:G.n<=B)(h:OA W B 84 4 v n)(hk:0<=k/\k<=1000000)(hl:n<=1000000):
 Calls prog 135 #[v,.int .i64 k] W λe w'=>e=.returned (.int .i64 (k+4*n))/\LU w' v n k/\Wr W w' λb=>v.ownBlock=some b:=by
 rcases h with⟨rfl,rfl⟩|⟨g,cap,cur,rfl,h1,h2,h3,h4⟩
 .refine(adD W k).mono ?_;rintro e w' ⟨rfl,rfl⟩;exact⟨by simp,.inl ⟨rfl,rfl⟩,rfl,rfl,rfl,aj8 _,λ_ _ _=>rfl⟩
 .refine(aci W g cap cur n k hG (akb hB h1) h2 h4 h3 hk hl).mono ?_;rintro e w' ⟨rfl,⟨cur',h5,h6,h7⟩,hst⟩;exact⟨rfl,.inr ⟨g,cap,cur',rfl,h3,h5,h7⟩,hst.os,hst.tape,hst.output,hst.size,λb hb hn=>hst.block b hb (λe=>hn (by rw[e];rfl)) (λe=>by cases e)⟩
theorem adG{W:World}{B:Nat}{v:Value}{n:Nat}{k:Int}(hG:G.ok W)(hB:G.n<=B)(h:OA W B 125 7 v n)(hk:0<=k/\k<=10000000)(hl:n<=1000000):
 Calls prog 136 #[v,.int .i64 k] W λe w'=>e=.returned (.int .i64 (k+7*n))/\QE w' v n k/\Wr W w' λb=>v.ownBlock=some b:=by
 rcases h with⟨rfl,rfl⟩|⟨g,cap,cur,rfl,h1,h2,h3,h4⟩
 .refine(adE W k).mono ?_;rintro e w' ⟨rfl,rfl⟩;exact⟨by simp,.inl ⟨rfl,rfl⟩,rfl,rfl,rfl,aj8 _,λ_ _ _=>rfl⟩
 .refine(acj W g cap cur n k hG (akb hB h1) h2 h4 h3 hk hl).mono ?_;rintro e w' ⟨rfl,⟨cur',h5,h6,h7⟩,hst⟩;exact⟨rfl,.inr ⟨g,cap,cur',rfl,h3,h5,h7⟩,hst.os,hst.tape,hst.output,hst.size,λb hb hn=>hst.block b hb (λe=>hn (by rw[e];rfl)) (λe=>by cases e)⟩
theorem Po{W:World}(hG:G.ok W)(o:Obj):G.ok (W.alloc o):=gQ hG ((Below.refl _ _).alloc (aj8 _) o)
theorem Wr.pre{a b c:World}{S:Nat->Prop}(h:Below a.heap.size a b)(k:Wr b c S):Wr a c S:=(Wr.of S h).trans k
set_option maxHeartbeats 4000000 in
theorem XL{W:World}{B:Nat}{v:Value}{n:Nat}{k:Int}(i0 i1 i3:Int)(b:Bool)(hG:G.ok W)(hB:G.n<=B)(h:OA W B 84 4 v n)(hk:0<=k/\k<=1000000)(hl:n<=1000000):
 Calls prog 72 #[.agg #[.int .i64 i0,.int .i64 i1,.bool b,.int .i64 i3,v],.int .i64 k] W λe w'=>e=.returned (.int .i64 (k+4*n))/\LU w' v n k/\Wr W w' λb=>v.ownBlock=some b:=by
 have mixed:=Tryz.mixed;have H:∀o,Calls prog 135 #[v,.int .i64 k] (W.alloc o) λe w'=>e=.returned (.int .i64 (k+4*n))/\LU w' v n k/\Wr W w' λb=>v.ownBlock=some b:=λo=>
  (adF (Po hG o) hB (h.keep λg hg=>heap_alloc_old W o (h.lt hg).2) hk hl).mono λe w'⟨h1,h2,h3⟩=>⟨h1,h2,h3.pre ((Below.refl _ _).alloc (aj8 _) o)⟩
 obtain⟨a,c,rfl⟩:=h.form;clear h
 go_enter Tryz.func72,Tryz.ntmps72
 go_wp2_with (first|(go_at_call 135;refine alo (H _) ?_;rintro e w' ⟨rfl,hm,hw⟩))
 all_goals go_ret
 all_goals exact⟨rfl,hm,hw⟩
set_option maxHeartbeats 4000000 in
theorem Zy{W:World}{B:Nat}{v:Value}{n:Nat}{k:Int}(s:ByteArray)(hG:G.ok W)(hB:G.n<=B)(h:OA W B 125 7 v n)(hk:0<=k/\k<=10000000)(hl:n<=1000000):
 Calls prog 73 #[.agg #[.string s,v],.int .i64 k] W λe w'=>e=.returned (.int .i64 (k+7*n))/\QE w' v n k/\Wr W w' λb=>v.ownBlock=some b:=by
 have mixed:=Tryz.mixed;have H:∀o,Calls prog 136 #[v,.int .i64 k] (W.alloc o) λe w'=>e=.returned (.int .i64 (k+7*n))/\QE w' v n k/\Wr W w' λb=>v.ownBlock=some b:=λo=>
  (adG (Po hG o) hB (h.keep λg hg=>heap_alloc_old W o (h.lt hg).2) hk hl).mono λe w'⟨h1,h2,h3⟩=>⟨h1,h2,h3.pre ((Below.refl _ _).alloc (aj8 _) o)⟩
 obtain⟨a,c,rfl⟩:=h.form;clear h
 go_enter Tryz.func73,Tryz.ntmps73
 go_wp2_with (first|(go_at_call 136;refine alo (H _) ?_;rintro e w' ⟨rfl,hm,hw⟩))
 all_goals go_ret
 all_goals exact⟨rfl,hm,hw⟩
set_option maxHeartbeats 4000000 in
theorem UY{W:World}{B:Nat}{va vq:Value}{n m:Nat}{k:Int}(c i0 i1 i3 d:Int)(b:Bool)(s:ByteArray)(hG:G.ok W)(hB:G.n<=B)(ha:OA W B 84 4 va n)(hq:OA W B 125 7 vq m)(hsep:∀g,va.ownBlock=some g->vq.ownBlock≠some g)
 (hk:0<=k/\k<=1000000) (hn:n<=1000000) (hm:m<=1000000):
 Calls prog 14 #[.agg #[.int .i64 c,.int .i64 i0,.int .i64 i1,.bool b,.int .i64 i3,va,.int .i64 d,.string s,vq],.int .i64 k] W λe w'=>e=.returned (.int .i64 (k+4*n+7*m))/\LU w' va n k/\QE w' vq m (k+4*n)/\
  Wr W w' λb=>va.ownBlock=some b\/vq.ownBlock=some b:=by
 have mixed:=Tryz.mixed;have H:∀o,Calls prog 72 #[.agg #[.int .i64 i0,.int .i64 i1,.bool b,.int .i64 i3,va],.int .i64 k] (W.alloc o) λe w'=>e=.returned (.int .i64 (k+4*n))/\LU w' va n k/\Wr (W.alloc o) w' λb=>va.ownBlock=some b:=λo=>
  XL i0 i1 i3 b (Po hG o) hB (ha.keep λg hg=>heap_alloc_old W o (ha.lt hg).2) hk hn
 have H2:∀(o:Obj)(w1:World),LU w1 va n k->Wr (W.alloc o) w1 (λb=>va.ownBlock=some b)->Calls prog 73 #[.agg #[.string s,vq],.int .i64 (k+4*n)] w1 λe w'=>e=.returned (.int .i64 (k+4*n+7*m))/\LU w' va n k/\QE w' vq m (k+4*n)/\Wr W w' λb=>va.ownBlock=some b\/vq.ownBlock=some b:=λo w1 hm1 hw1=>by
  have hsz:(W.alloc o).heap.size=W.heap.size+1:=by simp
  have hG1:G.ok w1:=G.stable W w1 hG (by have:=hw1.size;omega) λx hx=>by have hl:=G.low W hG;refine(hw1.block x (by omega) λe=>?_).trans (heap_alloc_old W o (by omega));have:=(ha.lt e).1;omega
  have hq1:OA w1 B 125 7 vq m:=hq.keep λg hg=>(hw1.block g (by have:=(hq.lt hg).2;omega) λe=>hsep g e hg).trans (heap_alloc_old W o (hq.lt hg).2);refine(Zy (k:=k+4*n) s hG1 hB hq1 (by omega) hm).mono ?_;rintro e w' ⟨h1,h2,h3⟩;refine⟨h1,hm1.keep λg hg=>h3.block g ?_ (hsep g hg),h2,((hw1.mono λx hx=>.inl hx).pre ((Below.refl _ _).alloc (aj8 _) o)).trans (h3.mono λx hx=>.inr hx)⟩;have:=(ha.lt hg).2;have:=hw1.size;omega
 obtain⟨a1,c1,rfl⟩:=ha.form;obtain⟨a2,c2,rfl⟩:=hq.form;have hNa:∀g,(Value.slice a1 n c1).ownBlock=some g->g≠W.heap.size:=λg hg=>by have:=(ha.lt hg).2;omega
 clear ha hq hsep
 go_enter Tryz.func14,Tryz.ntmps14
 go_wp2_with (first
  |(go_at_call 72;refine alo (H _) ?_;rintro e w1 ⟨rfl,hm1,hw1⟩;have hN:=(hw1.block W.heap.size (by simp) (λe=>hNa _ e rfl)).trans (akT W _);have c7:w1.cell? ⟨W.heap.size,7,none⟩=some (.string s):=ak hN 7;have c8:w1.cell? ⟨W.heap.size,8,none⟩=some (.slice a2 m c2):=ak hN 8)
  |(go_at_call 73;refine alo (H2 _ w1 hm1 hw1) ?_;rintro e w' ⟨rfl,hm2,hm3,hw⟩))
 all_goals go_ret
 all_goals exact⟨rfl,hm2,hm3,hw⟩
end Go.Proofs.Tryz

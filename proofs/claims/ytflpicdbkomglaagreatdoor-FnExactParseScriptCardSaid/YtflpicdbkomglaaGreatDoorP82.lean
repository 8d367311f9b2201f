import Derived.Test.YtflpicdbkomglaaGreatDoorP78
namespace Go.Proofs.Tryz
open Go Go.Fw Go.RowKit Sp
set_option maxRecDepth 100000
theorem ac9(a:Option Addr)(c:Nat)(W:World)(k:Int):Calls prog 30 #[.slice a 0 c,.int .i64 k] W λe w'=>e=.returned (.int .i64 k)/\w'=W:=by
 have mixed:=Tryz.mixed
 go_enter Tryz.func30,Tryz.ntmps30
 go_wp2
 go_loopw [1,5] (λkk i wr=>kk=.int .i64 k/\i=.int .i64 0/\wr=W) (λ_ _ _=>0)
 case atStart=>exact⟨rfl,rfl,rfl⟩
 case round=>
  obtain⟨rfl,rfl,rfl⟩:=hrel
  go_wp2
  all_goals go_ret
  all_goals exact⟨rfl,rfl⟩
def AK(w:World)(v:Value)(l:List aZ)(k:Int)(F:Nat->Prop):Prop:=
 (l=[]/\∃a c,v=.slice a 0 c)\/∃(g cap:Nat)(cur:Array Value)(hd:Nat->Value)(Fj:Nat->Nat->Prop),v=.slice (some ⟨g,0,none⟩) l.length cap/\l.length<=cap/\F g/\(∀j b,j<l.length->Fj j b->F b)/\
   w.heap[g]? =some (.cells cur 53 (0,0))/\(∀j,j<l.length->cur[j*5+2]? =some (hd j))/\∀j,j<l.length->ajr w cur hd Fj l k j
theorem AK.keep{w w':World}{v:Value}{l:List aZ}{k:Int}{F:Nat->Prop}(h:AK w v l k F)(hk:∀b,F b->w'.heap[b]? =w.heap[b]?):AK w' v l k F:=by
 rcases h with h|⟨g,cap,cur,hd,Fj,h1,h2,h3,h4,h5,h6,h7⟩
 .exact .inl h
 .refine .inr ⟨g,cap,cur,hd,Fj,h1,h2,h3,h4,(hk g h3).trans h5,h6,λj hj c hc=>?_⟩;obtain⟨f0,f1,m,f3,f4⟩:=h7 j hj c hc;exact⟨f0,f1,m.keep λb hb=>hk b (h4 _ b hj hb),f3,f4⟩
theorem VK{w:World}{g cap n:Nat}{cur:Array Value}{t z:Nat}{xs row:List Value}{j i:Nat}(e7:cur.toList.take (n*z)=xs)(hr:(xs.drop (j*z)).take z=row)(hj:j<n)(hi:i<z):cur[j*z+i]? =row[i]? :=by have hmul:(j+1)*z<=n*z:=anD _ hj;rw[an9,aqh]at hmul;rw[← hr,← e7,aow hi,anZ,aow (by omega),ap4]
theorem ae0{W:World}{v:Value}{l:List aZ}{k:Int}{F:Nat->Prop}(hG:G.ok W)(h:AT W v l F)(hF:∀b,F b->G.n<=b/\b<W.heap.size)(hk:0<=k/\k<=10)(hl:l.length<=40)(hx:∀a∈l,nJ a.2.2.1):
 Calls prog 30 #[v,.int .i64 k] W λe w'=>e=.returned (.int .i64 (k+rW l))/\AK w' v l k F/\Wr W w' F:=by
 obtain⟨xs,hd,Fj,h1,h2,h3,h4,h5⟩:=h;rcases h1.2 with⟨rfl,e2⟩|⟨g,cap,cur,rfl,e2,e3,e4,e5,e6,e7⟩
 .obtain rfl:l=[]:=anV.1 e2;refine(ac9 none 0 W k).mono ?_;rintro e w' ⟨rfl,rfl⟩;exact⟨by simp[rW],.inl ⟨rfl,none,0,rfl⟩,rfl,rfl,rfl,anr _,λ_ _ _=>rfl⟩
 have hFg:F g:=h2 g rfl;have hhd:∀j,j<l.length->cur[j*5+2]? =some (hd j):=λj hj=>by obtain⟨i1,_⟩:=h3 j _ (anu hj);exact VK (w:=W) (g:=g) (cap:=cap) (t:=0) e7 i1 hj (by decide)
 refine(ac8 W g cap cur hd Fj l k hG (hF g hFg).1 e3 e6 e4 hk hl hx hhd (λj c hc=>(h3 j c hc).2.2) (λj b hj hb=>?_) h5).mono ?_
 .obtain⟨q1,q2⟩:=h4 j b hj hb;exact⟨(hF b q1).1,λe=>q2 (by rw[e];rfl),(hF b q1).2⟩
 .rintro e w' ⟨rfl,cur',hM⟩;refine⟨rfl,.inr ⟨g,cap,cur',hd,Fj,rfl,e4,hFg,λj b hj hb=>(h4 j b hj hb).1,hM.row,hM.heads,hM.done⟩,hM.wr.mono λb hb=>?_⟩;rcases hb with rfl|⟨p,hp,hb⟩
  .exact hFg
  .exact(h4 p b hp hb).1
theorem xB:∀(l:List aK)(k:Int),(xP l k).length=l.length
 |[],_=>rfl
 |c::r,k=>by rw[xP,ano,xB r,ano]
theorem xC:∀(l:List aZ)(k:Int),(uF l k).length=l.length
 |[],_=>rfl
 |c::r,k=>by rw[uF,ano,xC r,ano]
theorem RD:∀(l:List aK)(k:Int)(j:Nat)(c:aK),l[j]? =some c->(xP l k)[j]? =some (Xx c.2.2.2.2.2.1.length c.2.2.2.2.2.2.2.2.1.length (uP l k j))
 |x::r,k,0,c,h=>by
  obtain rfl:x=c:=Option.some.inj h;rw[xP,apC,show uP (x::r) k 0=k by unfold uP;simp[fZ]]
 |x::r,k,j+1,c,h=>by rw[xP,apg,RD r _ j c h];unfold uP;rw[aoz,fZ];exact congrArg (λk=>some (Xx _ _ k)) (by omega)
theorem RG:∀(l:List aZ)(k:Int)(j:Nat)(a:aZ),l[j]? =some a->(uF l k)[j]? =some (sN l k j,sN l k j+1,xP a.2.2.1 (sN l k j+2),Sp.markT (sN l k j+2+fZ a.2.2.1),sN l k j+3+fZ a.2.2.1,())
 |x::r,k,0,c,h=>by
  obtain rfl:x=c:=Option.some.inj h;rw[uF,apC,show sN (x::r) k 0=k by unfold sN;simp[rW]]
 |x::r,k,j+1,c,h=>by
  rw[uF,apg,RG r _ j c h];have e:sN r (k+4+fZ x.2.2.1) j=sN (x::r) k (j+1):=by unfold sN;rw[aoz,rW];omega
  rw[e]
theorem ajs{w:World}{v:Value}{l:List aK}{k:Int}{F:Nat->Prop}(h:CK w v l k F)(hk:0<=k/\k<=5000000)(hx:nJ l):bW w.heap (λb=>b<w.heap.size) (.sl dU vK) v (xP l k):=by
 have h6:=hx.1;refine⟨by rw[xB,maxLen_eq];omega,?_⟩;rcases h with⟨rfl,a,c,rfl⟩|⟨g,cap,cur,hd,rfl,h2,h3,h4,h5,h6',h7⟩
 .exact .inl ⟨rfl,a,c,rfl⟩
 .refine .inr ⟨g,0,cap,cur,39,(0,0),by rw[xB],by rw[xB];exact h2,(anq.1 h5).1,h5,λi x hxi=>?_⟩;have hi:i<l.length:=by have:=(anv.1 hxi).1;rw[xB]at this;exact this
  obtain⟨c,hc⟩:∃c,l[i]? =some c:=⟨_,anu hi⟩;rw[RD l k i c hc]at hxi;obtain rfl:=Option.some.inj hxi;obtain⟨f0,f1,f2,f3,f4,f6,f7,m1,m2⟩:=h7 i hi c hc;obtain⟨f5,f8⟩:=h6' i hi;have hcx:=hx.2 c (an1 hc);have hkb:0<=uP l k i/\uP l k i<=5100000:=by have h1:=Es (l.take i) λx hx2=>hx.2 x (aoT hx2);rw[anO]at h1;unfold uP;omega
  generalize uP l k i=kk at f0 f1 f2 f3 f4 f6 f7 m1 m2 hkb ⊢;rw[anR,show i*vK.len=i*9 from rfl,bV f0,bV f1,bV f2,bV f3,bV f4,bV f5,bV f6,bV f7,bV f8];exact⟨_,_,rfl,⟨rfl,jo (by omega)⟩,_,_,rfl,⟨rfl,jo (by omega)⟩,_,_,rfl,⟨rfl,jo (by omega)⟩,_,_,rfl,rfl,_,_,rfl,⟨rfl,jo (by omega)⟩,_,_,rfl,aim m1 (by omega) (by omega),_,_,rfl,⟨rfl,jo (by omega)⟩,_,_,rfl,⟨rfl,BV _ (by omega)⟩,_,_,rfl,ain m2 (by omega) (by omega),rfl⟩
theorem ajt{w:World}{v:Value}{l:List aZ}{k:Int}{F:Nat->Prop}(h:AK w v l k F)(hk:0<=k/\k<=10)(hl:l.length<=40)(hx:∀a∈l,nJ a.2.2.1):bW w.heap (λb=>b<w.heap.size) (.sl dV vM) v (uF l k):=by
 refine⟨by rw[xC,maxLen_eq];omega,?_⟩;rcases h with⟨rfl,a,c,rfl⟩|⟨g,cap,cur,hd,Fj,rfl,h2,h3,h4,h5,h6',h7⟩
 .exact .inl ⟨rfl,a,c,rfl⟩
 .refine .inr ⟨g,0,cap,cur,53,(0,0),by rw[xC],by rw[xC];exact h2,(anq.1 h5).1,h5,λi x hxi=>?_⟩;have hi:i<l.length:=by have:=(anv.1 hxi).1;rw[xC]at this;exact this
  obtain⟨c,hc⟩:∃c,l[i]? =some c:=⟨_,anu hi⟩;rw[RG l k i c hc]at hxi;obtain rfl:=Option.some.inj hxi;obtain⟨f0,f1,m,f3,f4⟩:=h7 i hi c hc;have f2:=h6' i hi;have hcx:=hx c (an1 hc);have hsz:=Es _ hcx.2;have hcl:=hcx.1;have hkb:0<=sN l k i/\sN l k i<=3000000:=by have h1:=YR (l.take i) λx hx2=>hx x (aoT hx2);rw[anO]at h1;unfold sN;omega
  generalize sN l k i=kk at f0 f1 f3 f4 m hkb ⊢;rw[anR,show i*vM.len=i*5 from rfl,bV f0,bV f1,bV f2,bV f3,bV f4];exact⟨_,_,rfl,⟨rfl,jo (by omega)⟩,_,_,rfl,⟨rfl,jo (by omega)⟩,_,_,rfl,ajs m (by omega) hcx,_,_,rfl,⟨rfl,BV _ (by omega)⟩,_,_,rfl,⟨rfl,jo (by omega)⟩,rfl⟩
theorem aju{w:World}{v:Value}{l:List aK}{F:Nat->Prop}(h:Xv w v l F)(hF:∀b,F b->b<w.heap.size):bW w.heap (λb=>b<w.heap.size) (.sl dU vK) v l:=by
 rcases h with⟨rfl,a,c,rfl⟩|⟨xs,hd,h1,h2,h3,h4,h5⟩
 .exact⟨ant _,.inl ⟨rfl,a,c,rfl⟩⟩
 rcases h1.2 with⟨rfl,e2⟩|⟨g,cap,cur,rfl,e2,e3,e4,e5,e6,e7⟩
 .obtain rfl:l=[]:=anV.1 e2;exact⟨ant _,.inl ⟨rfl,none,0,rfl⟩⟩
 refine⟨anx e4 e5,.inr ⟨g,0,cap,cur,39,(0,0),rfl,e4,(anq.1 e3).1,e3,λi x hxi=>?_⟩⟩;have hi:=(anv.1 hxi).1;obtain⟨i1,⟨k1,k2,k3,k4,k5,k6⟩,i3,i4⟩:=h3 i x hxi;have at':∀j,j<9->cur[i*9+j]? =(YN x (hd (2*i)) (hd (2*i+1)))[j]? :=λj hj=>VK (w:=w) (g:=g) (cap:=cap) (t:=0) e7 i1 hi hj;have f0:cur[i*9]? =_:=at' 0 (by decide);have f1:cur[i*9+1]? =_:=at' 1 (by decide);have f2:cur[i*9+2]? =_:=at' 2 (by decide);have f3:cur[i*9+3]? =_:=at' 3 (by decide);have f4:cur[i*9+4]? =_:=at' 4 (by decide);have f5:cur[i*9+5]? =_:=at' 5 (by decide);have f6:cur[i*9+6]? =_:=at' 6 (by decide);have f7:cur[i*9+7]? =_:=at' 7 (by decide);have f8:cur[i*9+8]? =_:=at' 8 (by decide);rw[anR,show i*vK.len=i*9 from rfl,bV f0,bV f1,bV f2,bV f3,bV f4,bV f5,bV f6,bV f7,bV f8];exact⟨_,_,rfl,⟨rfl,k1⟩,_,_,rfl,⟨rfl,k2⟩,_,_,rfl,⟨rfl,k3⟩,_,_,rfl,rfl,_,_,rfl,⟨rfl,k4⟩,_,_,rfl,bW.mono (λb hb=>⟨hF b (h4 _ b (by omega) hb).1,rfl⟩) _ _ _ i3.1,_,_,rfl,⟨rfl,k5⟩,_,_,rfl,⟨rfl,k6⟩,_,_,rfl,bW.mono (λb hb=>⟨hF b (h4 _ b (by omega) hb).1,rfl⟩) _ _ _ i4.1,rfl⟩
theorem agk{w:World}{v:Value}{l:List aZ}{F:Nat->Prop}(h:AT w v l F)(hF:∀b,F b->b<w.heap.size):bW w.heap (λb=>b<w.heap.size) (.sl dV vM) v l:=by
 obtain⟨xs,hd,Fj,h1,h2,h3,h4,h5⟩:=h;rcases h1.2 with⟨rfl,e2⟩|⟨g,cap,cur,rfl,e2,e3,e4,e5,e6,e7⟩
 .obtain rfl:l=[]:=anV.1 e2;exact⟨ant _,.inl ⟨rfl,none,0,rfl⟩⟩
 refine⟨anx e4 e5,.inr ⟨g,0,cap,cur,53,(0,0),rfl,e4,(anq.1 e3).1,e3,λi x hxi=>?_⟩⟩;have hi:=(anv.1 hxi).1;obtain⟨i1,⟨k1,k2,k3,k4⟩,i3⟩:=h3 i x hxi;have at':∀j,j<5->cur[i*5+j]? =(ab3 x (hd i))[j]? :=λj hj=>VK (w:=w) (g:=g) (cap:=cap) (t:=0) e7 i1 hi hj;have f0:cur[i*5]? =_:=at' 0 (by decide);have f1:cur[i*5+1]? =_:=at' 1 (by decide);have f2:cur[i*5+2]? =_:=at' 2 (by decide);have f3:cur[i*5+3]? =_:=at' 3 (by decide);have f4:cur[i*5+4]? =_:=at' 4 (by decide);rw[anR,show i*vM.len=i*5 from rfl,bV f0,bV f1,bV f2,bV f3,bV f4];exact⟨_,_,rfl,⟨rfl,k1⟩,_,_,rfl,⟨rfl,k2⟩,_,_,rfl,aju i3 (λb hb=>hF b (h4 _ b hi hb).1),_,_,rfl,⟨rfl,k3⟩,_,_,rfl,⟨rfl,k4⟩,rfl⟩
theorem ag8(a:aZ)(c:List aK):(AB a c).2.2.1=c:=rfl
theorem AL:∀(ls:Sp.LS)(i:Nat)(acts:List aZ)(bJ:List aK),acts.length<=40->(∀a∈acts,nJ a.2.2.1)->nJ bJ->(dS i ls acts bJ).1.length<=40/\∀a∈(dS i ls acts bJ).1,nJ a.2.2.1
 |[],i,acts,bJ,h1,h2,h3=>by
  rw[dS];cases decide ((bJ.length:Int)>0)with
  |true=>exact⟨ant _,λa ha=>by cases ha⟩
  |false=>exact⟨h1,h2⟩
 |x::r,i,acts,bJ,h1,h2,h3=>by
  have none:∀k:Int,(([],k):List aZ×Int).1.length<=40/\∀a∈(([],k):List aZ×Int).1,nJ a.2.2.1:=λk=>⟨ant _,λa ha=>by cases ha⟩;have sm:∀(acts:List aZ)(a:aZ),(∀a∈acts,nJ a.2.2.1)->nJ a.2.2.1->∀b∈acts++[a],nJ b.2.2.1:=λacts a h1 h2 b hb=>by
   rcases aoc.1 hb with hb|hb
   .exact h1 b hb
   .rw[aoq.1 hb];exact h2
  rw[dS];cases Sp.skipped x.1 with
  |true=>exact AL r _ _ _ h1 h2 h3
  |false=>
  cases dB x.1 with
  |true=>
   cases h6:decide ((bJ.length:Int)>=6)with
   |true=>exact none _
   |false=>
    have h6:=ao0 h6;refine AL r _ _ _ h1 h2 ⟨by rw[anm,ano,anw];omega,λc hc=>?_⟩;rcases aoc.1 hc with hc|hc
    .exact h3.2 c hc
    .rw[aoq.1 hc];exact ab1 _
  |false=>
  cases h7:(!cu x.1||decide ((acts.length:Int)>=40))with
  |true=>exact none _
  |false=>
   have h7:=ao0 (aoF.1 h7).2;cases (bM x.1).1==1||(bM x.1).1==2 with
   |true=>exact AL r _ _ _ (by rw[anm,ano,anw];omega) (sm _ _ h2 (by rw[ag8];exact h3)) ⟨ant _,λc hc=>by cases hc⟩
   |false=>exact AL r _ _ _ (by rw[anm,ano,anw];omega) (sm _ _ h2 (by rw[Bf];exact⟨ant _,λc hc=>by cases hc⟩)) h3
theorem agl(t:List UInt8):(Sp.scr t).1.length<=40/\∀a∈(Sp.scr t).1,nJ a.2.2.1:=by
 unfold Sp.scr;cases decide ((t.length:Int)>8000)with
 |true=>exact⟨ant _,λa ha=>by cases ha⟩
 |false=>exact AL _ _ _ _ (ant _) (λa ha=>by cases ha) ⟨ant _,λc hc=>by cases hc⟩
theorem ab8:∀(l:List aK)(k:Int),nJ l->nJ (xP l k):=by
 intro l k ⟨h1,h2⟩;refine⟨by rw[xB];exact h1,λc hc=>?_⟩;obtain⟨i,hi,e⟩:=aoL.1 hc;have hil:i<l.length:=by rw[xB]at hi;exact hi
 have h3:=RD l k i _ (anu hil);rw[anu hi,e]at h3;rw[Option.some.inj h3];have:=h2 _ (apk hil);unfold Xx;dsimp only;rw[BZ,Cb];exact this
theorem ab9(l:List aZ)(k:Int)(h:∀a∈l,nJ a.2.2.1):∀a∈uF l k,nJ a.2.2.1:=by
 intro c hc;obtain⟨i,hi,e⟩:=aoL.1 hc;have hil:i<l.length:=by rw[xC]at hi;exact hi
 have h3:=RG l k i _ (anu hil);rw[anu hi,e]at h3;rw[Option.some.inj h3];exact ab8 _ _ (h _ (apk hil))
end Go.Proofs.Tryz
namespace Go.Proofs.Tryz
open Go Go.Fw Go.RowKit Sp
set_option maxRecDepth 100000
theorem aio(s:List UInt8)(hs:s.length<=1048576)(w:World)(hG:G.ok w):Calls prog 27 #[.string ⟨s.toArray⟩] w λe w'=>
 ∃a c,e=.returned (.tuple #[.slice a (Sp.scr s).1.length c,.int .i64 (Sp.scr s).2])/\Below w.heap.size w w'/\bW w'.heap (λb=>b<w'.heap.size) (.sl dV vM) (.slice a (Sp.scr s).1.length c) (Sp.scr s).1:=by
 have hcon:gW prog G 27 (iM l9.sh l9.bU l9.F):=PV.1;refine(hcon [.sv (.one (.str s))] (s.length<=1048576) _ 0 (λ_=>False) #[.string ⟨s.toArray⟩] w rfl hs hG ⟨⟨rfl,by rw[maxLen_eq];omega⟩,trivial⟩).mono ?_;rintro e w' ⟨v,vals,rfl,h1,h2,h3,h4,h5,h6,_,_⟩;obtain⟨vs,rfl,h7⟩:=h6;obtain⟨l⟩:=vs
 match l,h7 with
 |[x,y],h7=>obtain⟨hx,hy,_⟩:=h7;have hx:bW w'.heap _ (.sl dV vM) x (Sp.scr s).1:=hx;have hy:y=.int .i64 (Sp.scr s).2:=hy.1;obtain⟨a,c,ex⟩:=SI hx;rw[ex]at hx;rw[hy,ex];exact⟨a,c,rfl,⟨h1,h2,h3,h4,h5⟩,bW.mono (λb hb=>⟨hb.1.1,rfl⟩) _ _ _ hx⟩
def aaz(l:List aZ):Arg:=.sv (.one (.sl dV vM l false))
theorem YS{w:World}{l:List aZ}{v:Value}(h:bW w.heap (λb=>b<w.heap.size) (.sl dV vM) v l):ny ⟨w,w.heap.size,λ_=>True,λ_=>undef,λ_=>none⟩ (aaz l) v:=
 bW.mono (S':=V.bT ⟨w,w.heap.size,λ_=>True,λ_=>undef,λ_=>none⟩ false) (h':=w.heap) (λb hb=>⟨⟨⟨hb,λ_=>trivial,λo x hx=>by cases hx⟩,λe=>by cases e⟩,rfl⟩) _ _ _ h
theorem ag9{w:World}{l:List aZ}{u v:Value}(hG:G.ok w)(h:bW w.heap (λb=>b<w.heap.size) (.sl dV vM) u l)(k:bW w.heap (λb=>b<w.heap.size) (.sl dV vM) v l):
 Calls prog 29 #[u,v] w λe w'=>e=.returned (.bool true)/\Below w.heap.size w w':=by
 have hcon:gW prog G 29 (iM ou.sh ou.bU ou.F):=TT.1;refine(hcon [aaz l,aaz l] True ⟨[(false,[.plain (.bool (decide (l=l)))])],none⟩ 0 (λ_=>True) #[u,v] w rfl trivial hG ⟨YS h,YS k,trivial⟩).mono ?_;rintro e w' ⟨v,vals,rfl,h1,h2,h3,h4,h5,h6,_,_⟩;have h6:v=.bool (decide (l=l)):=h6;exact⟨by rw[h6,anF rfl],h1,h2,h3,h4,h5⟩
theorem ae1{w:World}{l:List aZ}{v:Value}{F:Nat->Prop}(hG:G.ok w)(h:AK w v l 1 F)(hl:l.length<=40)(hx:∀a∈l,nJ a.2.2.1):
 Calls prog 31 #[v,.int .i64 1] w λe w'=>e=.returned (.int .i64 (1+rW l))/\Below w.heap.size w w':=by
 have hr:=ajt h (by decide) hl hx;have hcon:gW prog G 31 (iM mg.sh mg.bU mg.F):=PO.1;refine(hcon [aaz (uF l 1),.sv (.one (.int .i64 1))] (0<=(1:Int)/\(1:Int)<=10/\(uF l 1).length<=40/\(∀x∈uF l 1,x.2.2.1.length<=6/\∀y∈x.2.2.1,y.2.2.2.2.2.1.length<=1000/\y.2.2.2.2.2.2.2.2.1.length<=1000)) ⟨[(false,[.plain (.int .i64 (vN (uF l 1) 1))])],none⟩ 0 (λ_=>True) #[v,.int .i64 1] w rfl ⟨by decide,by decide,by rw[xC];exact hl,ab9 l 1 hx⟩ hG ⟨YS hr,⟨rfl,jo (by decide)⟩,trivial⟩).mono ?_;rintro e w' ⟨v,vals,rfl,h1,h2,h3,h4,h5,h6,_,_⟩;have h6:v=.int .i64 _/\_:=h6;exact⟨by rw[h6.1,Uz _ _ (by decide)],h1,h2,h3,h4,h5⟩
structure SS(W:World)(N0:Nat)(l:List aZ)(v:Value)(w:World):Prop where
 low:Below W.heap.size W w
 spec:bW w.heap (λb=>b<N0) (.sl dV vM) v l
 le:W.heap.size<=N0
 lt:N0<=w.heap.size
theorem SS.below{W w w':World}{N0:Nat}{l:List aZ}{v:Value}(h:SS W N0 l v w)(k:Below w.heap.size w w'):SS W N0 l v w':=by have:=h.lt;exact⟨h.low.trans (k.mono h.low.size),bW.mono (λb hb=>⟨hb,k.block b (by omega)⟩) _ _ _ h.spec,h.le,anx h.lt k.size⟩
theorem SS.mark{W w w':World}{N0:Nat}{l:List aZ}{v:Value}{F:Nat->Prop}(h:SS W N0 l v w)(k:Wr w w' F)(hF:∀b,F b->N0<=b):SS W N0 l v w':=by
 have:=h.lt;have:=h.le;refine⟨⟨k.os.trans h.low.os,k.tape.trans h.low.tape,k.output.trans h.low.output,anx h.low.size k.size,λb hb=>(k.block b (by omega) λe=>?_).trans (h.low.block b hb)⟩,bW.mono (λb hb=>⟨hb,k.block b (by omega) λe=>?_⟩) _ _ _ h.spec,h.le,anx h.lt k.size⟩
 .have:=hF b e;omega
 .have:=hF b e;omega
theorem SS.arg{W w:World}{N0:Nat}{l:List aZ}{v:Value}(h:SS W N0 l v w):bW w.heap (λb=>b<w.heap.size) (.sl dV vM) v l:=by have:=h.lt;exact bW.mono (λb hb=>⟨by omega,rfl⟩) _ _ _ h.spec
theorem aha(s:List UInt8)(hs:s.length<=maxLen)(W:World)(hG:G.ok W):Calls prog 6 #[.string ⟨s.toArray⟩] W λe w'=>e=.returned (.bool true)/\Below W.heap.size W w':=by
 have mixed:=Tryz.mixed;rcases anL 1048576 s.length with hlen|hlen
 .have hl:(1048576:Int)<s.length:=by omega
  go_enter Tryz.func6,Tryz.ntmps6
  go_wp2
  all_goals go_ret
  all_goals exact⟨rfl,Below.refl _ _⟩
 .have hl:¬(1048576:Int)<s.length:=by omega
  have ss:=aio s hlen W hG;have ps:=λw hG=>ag4 s hlen w hG;have hsm:=agl s;generalize Sp.scr s=z at ss ps hsm;obtain⟨l,x⟩:=z;obtain⟨ajv,hx⟩:l.length<=40/\∀a∈l,nJ a.2.2.1:=hsm;dsimp only at ss ps;have ps1:=ps;have hq0:¬1+(rW l:Int)<0:=by omega
  have eqr:∀(w:World)(u v:Value),G.ok w->bW w.heap (λb=>b<w.heap.size) (.sl dV vM) u l->bW w.heap (λb=>b<w.heap.size) (.sl dV vM) v l->Calls prog 29 #[u,v] w λe w'=>e=.returned (.bool true)/\Below w.heap.size w w':=λw u v hG h k=>ag9 hG h k;have ajw:=eqr;have ahU:∀(w:World)(v:Value)(F:Nat->Prop),G.ok w->AK w v l 1 F->Calls prog 31 #[v,.int .i64 1] w λe w'=>e=.returned (.int .i64 (1+rW l))/\Below w.heap.size w w':=λw v F hG h=>ae1 hG h ajv hx;have agm:=ahU
  go_enter Tryz.func6,Tryz.ntmps6
  go_wp2_with (first
   |(go_at_call 27;refine anU ss ?_;rintro e w1 ⟨a1,c1,rfl,hb1,hr1⟩;have st1:SS W w1.heap.size l (.slice a1 l.length c1) w1:=⟨hb1,hr1,hb1.size,anr _⟩;clear ss)
   |(go_at_call 28;refine anU (ps1 w1 (dh hG st1.low)) ?_;rintro e w2 ⟨a2,c2,rfl,hb2,F,ht2,hF2⟩;have st2:=st1.below hb2;clear ps1)
   |(go_at_call 29;refine anU (ajw _ _ _ (dh hG st2.low) (agk ht2 λb hb=>(hF2 b hb).2) st2.arg) ?_;rintro e w3 ⟨rfl,hb3⟩;have Uy:=st2.below hb3;have ht3:=ht2.keep λb hb=>hb3.block b (hF2 b hb).2;have hF3:∀b,F b->w1.heap.size<=b/\b<w3.heap.size:=λb hb=>⟨(hF2 b hb).1,anE (hF2 b hb).2 hb3.size⟩;clear ajw)
   |(go_at_call 30;refine anU (ae0 (dh hG Uy.low) ht3 (λb hb=>⟨anx (G.low W hG) (anx hb1.size (hF3 b hb).1),(hF3 b hb).2⟩) (by decide) ajv hx) ?_;rintro e w4 ⟨rfl,hm4,hw4⟩;have st4:=Uy.mark hw4 (λb hb=>(hF3 b hb).1);have hF4:∀b,F b->b<w4.heap.size:=λb hb=>anE (hF3 b hb).2 hw4.size)
   |(go_at_call 31;refine anU (agm _ _ F (dh hG st4.low) hm4) ?_;rintro e w5 ⟨rfl,hb5⟩;have st5:=st4.below hb5;have hm5:=hm4.keep λb hb=>hb5.block b (hF4 b hb);have hF5:∀b,F b->b<w5.heap.size:=λb hb=>anE (hF4 b hb) hb5.size;clear agm)
   |(go_at_call 28;refine anU (ps _ (dh hG st5.low)) ?_;rintro e w6 ⟨a6,c6,rfl,hb6,F6,ht6,hF6⟩;have st6:=st5.below hb6;have hm6:=hm5.keep λb hb=>hb6.block b (hF5 b hb);have al0:∀b,F b->b<w6.heap.size:=λb hb=>anE (hF5 b hb) hb6.size)
   |(go_at_call 29;refine anU (eqr _ _ _ (dh hG st6.low) (agk ht6 λb hb=>(hF6 b hb).2) st6.arg) ?_;rintro e w7 ⟨rfl,hb7⟩;have st7:=st6.below hb7;have hm7:=hm6.keep λb hb=>hb7.block b (al0 b hb))
   |(go_at_call 31;refine anU (ahU _ _ F (dh hG st7.low) hm7) ?_;rintro e w8 ⟨rfl,hb8⟩;have st8:=st7.below hb8))
  all_goals go_ret
  all_goals exact⟨rfl,st8.low⟩
theorem FM:gW prog G 6 (iM [.v (.one .str)] [.one .bool] λ_=>(True,true,()))/\True:=by
 refine⟨?_,trivial⟩;intro args p out k S vs w hcon hp hG hrep;unfold iM uV at hcon;split at hcon
 .next x hx=>
  revert x;show∀x:List UInt8×Unit,_;rintro⟨s,⟨⟩⟩ hx hcon;have hv:=Df [.v (.one .str)] args _ vs.toList hx hrep
  match hvs:vs.toList,hv with
  |[v],hv=>
   have e1:v=.string ⟨s.toArray⟩:=hv.1.1;have hl:s.length<=maxLen:=hv.1.2;have e2:vs=#[.string ⟨s.toArray⟩]:=by obtain⟨l⟩:=vs;simp at hvs;rw[hvs,e1]
   subst e2;have hF:=Option.some.inj hcon;have hout:out=⟨[(false,[.plain (.bool true)])],none⟩:=(congrArg Prod.snd hF).symm;subst hout;refine(aha s hl w hG).mono ?_;rintro e w' ⟨rfl,hb⟩;exact⟨_,λ_=>undef,rfl,hb.os,hb.tape,hb.output,hb.size,hb.block,rfl,(λo x hx=>by cases hx),(λo x q y b hx=>by cases hx)⟩
 .cases hcon
end Go.Proofs.Tryz

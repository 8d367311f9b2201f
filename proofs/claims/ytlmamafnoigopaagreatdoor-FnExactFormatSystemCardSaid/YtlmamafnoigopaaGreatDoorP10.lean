import Derived.Test.YtlmamafnoigopaaGreatDoorP1
import Derived.Test.YtlmamafnoigopaaGreatDoorSp
import Derived.Test.YtlmamafnoigopaaGreatDoorL5
import Derived.Test.YtlmamafnoigopaaGreatDoorV3
import Derived.Test.YtlmamafnoigopaaGreatDoorFwC
namespace Go.Proofs.Tryz
open Go Go.Fw Go.IntWalk Sp
theorem TR{d:List ay}{au r:List (Int×Unit)}(h:Sp.raised d au r)(h0:∀i,i<d.length->0<=Sp.lv au i)(hp:gG (cO d) λi=>(Sp.lv au i).toNat):∀i,i<d.length->Sp.lv r i=Sp.lv au i:=by obtain⟨_,h2,_,_,h5⟩:=h;intro i hi;have a:Sp.lv au i<=Sp.lv r i:=h2 i hi;have b:Sp.lv r i<=((Sp.lv au i).toNat:Int):=h5 _ hp (λj hj=>by have:=h0 j hj;show Sp.lv au j<=((Sp.lv au j).toNat:Int);omega) i hi;have:=h0 i hi;omega
theorem ahg{d:List ay}{au r:List (Int×Unit)}(h:Sp.raised d au r)(hp:¬gG (cO d) λi=>(Sp.lv au i).toNat):∃i,i<d.length/\Sp.lv au i<Sp.lv r i:=by obtain⟨_,h2,_,h4,_⟩:=h;refine atC λhno=>hp (h4 λi hi=>?_);have a:Sp.lv au i<=Sp.lv r i:=h2 i hi;have b:¬Sp.lv au i<Sp.lv r i:=λh=>hno ⟨i,hi,h⟩;show Sp.lv r i=Sp.lv au i;omega
theorem ae2{d:List ay}(h1:dV d=true){L:Nat->Nat}(h2:gG (cO d) L):aI d=true:=jl.2 ⟨h1,L,h2⟩
theorem ahh{d:List ay}(h:∀M,gG (cO d) M->(∀i,i<d.length->M i<d.length)->False):aI d=false:=by rw[auJ];intro h1;obtain⟨_,h2⟩:=jl.1 h1;obtain⟨M,h3,h4⟩:=Fe (jv d) h2;exact h M h3 h4
theorem ae3{d:List ay}(h:dV d=false):aI d=false:=by rw[auJ];intro h1;rw[(jl.1 h1).1]at h;cases h
theorem NV(n i:Nat):Sp.lv (List.replicate n (0,())) i=0:=by
 unfold Sp.lv;rw[atn];by_cases h:i<n
 .rw[List.getElem?_replicate,if_pos h];rfl
 .rw[auq (by simp;omega)];rfl
theorem ahi{d:List ay}(h:aI d=true):∃s,jV d s:=by obtain⟨hok,h2⟩:=jl.1 h;exact aaK (Fe (jv d) h2)
theorem aaL{d:List ay}:∃s:List (Int×Unit),(aI d=true->jV d s)/\(aI d=false->s=[]):=by
 cases h:aI d with
 |true=>obtain⟨s,hs⟩:=ahi h;exact⟨s,λ_=>hs,λh=>by cases h⟩
 |false=>exact⟨[],λh=>(by cases h),λ_=>rfl⟩
theorem NW:OK xW.e:=by
 refine FV [vH.e,oZ.e,sK.e] ⟨KZ,Yk,QN,⟨⟩⟩ afz (λ⟨d,_⟩ hp=>by obtain⟨s,h1,h2⟩:=aaL (d:=d);exact⟨(((s,aI d,()),())),⟨rfl,h1,h2⟩⟩) λd=>show xW.goal (adr d) (d,())fromλhin hp=>?_
 dsimp only[xW]at hp ⊢;have hp:fF d:=hp;refine⟨hp,af (λh=>⟨(ae3 (iR h)).symm,λh=>(by cases h),λ_=>rfl⟩) λh=>?_⟩;have hok:=dY h;have hp:qW d:=Ag hok;have hlen:=Pj hok;refine⟨⟨by omega,by omega,by rw[dm];omega⟩,?_⟩;have hnn:d.length*d.length<=25:=avl hlen hlen;have e1:(d.length:Int)*(d.length:Int)=((d.length*d.length:Nat):Int):=by simp
 have w:IntKind.i64.wrap (IntKind.i64.wrap ((d.length:Int)*(d.length:Int))+1)=((d.length*d.length:Nat):Int)+1:=by rw[e1,eu ((d.length*d.length:Nat):Int) (by omega)];exact eu _ (by omega)
 rw[w];have hmem:∀au:List (Int×Unit),au.length=d.length->∀k:Nat,k<=27->(∀i,i<d.length->0<=Sp.lv au i/\Sp.lv au i<=5000*k)->∀x∈au,0<=x.1/\x.1<=1000000:=λau hl k hk h=>
  ahj (p:=λz=>0<=z/\z<=1000000) λi hi=>by have:=h i (by omega);omega
 refine eH (λi(x:List (Int×Unit))=>((x,i,()),())) (λy=>y.1.2.1) (λ_ _=>rfl) (d.length*d.length+2) (by omega)
  (λk au=>au.length=d.length/\(∀i,i<d.length->0<=Sp.lv au i/\Sp.lv au i<=5000*k)/\(∀M,gG (cO d) M->∀i,i<d.length->Sp.lv au i<=M i)/\((gG (cO d) λi=>(Sp.lv au i).toNat)\/(k:Int)<=tZ au d.length))
  ⟨by simp,λi hi=>by rw[ata,NV];omega,λM hM i hi=>by rw[ata,NV];omega,.inr (TS _ λi hi=>by rw[ata,NV];omega)⟩ (λI μ k au hk hJ next=>?_) λI μ au hJ=>?_
 .obtain⟨g1,g2,g3,g4⟩:=hJ;dsimp only;refine bY (by omega) ⟨⟨hp,hlen,g1,hmem au g1 k (by omega) g2⟩,?_⟩;rintro⟨⟨r,⟨⟩⟩,⟨⟩⟩ hr;have hr:Sp.raised d au r:=hr;have hr':=hr;obtain⟨q1,q2,q3,q4,q5⟩:=hr';have hup:∀i,i<d.length->Sp.lv au i<=Sp.lv r i:=q2;refine⟨rfl,next r ⟨q1,λi hi=>?_,λM hM i hi=>q5 M hM (g3 M hM) i hi,?_⟩⟩
  .have a:=hup i hi;have b:=q3 (5000*k) (λj hj=>(g2 j hj).2) i hi;have b:Sp.lv r i<=5000*k+5000:=b;have c:=g2 i hi;omega
  .by_cases hpf:gG (cO d) λi=>(Sp.lv au i).toNat
   .left;have hs:=TR hr (λi hi=>(g2 i hi).1) hpf;intro e he;have:=hpf e he;obtain⟨a,b,_⟩:=jv d e he;dsimp only at this ⊢;rw[hs _ a,hs _ b];exact this
   .right;have hm:=Yl d.length hup (ahg hr hpf);rcases g4 with g4|g4
    .exact(hpf g4).elim
    .omega
 .obtain⟨g1,g2,g3,g4⟩:=hJ;dsimp only;refine bV (by omega) ⟨⟨hp,hlen,g1,hmem au g1 _ (by omega) g2⟩,?_⟩;rintro⟨⟨r,⟨⟩⟩,⟨⟩⟩ hr;have hr:Sp.raised d au r:=hr;refine⟨trivial,af (λhne=>?_) λhe=>?_⟩
  .have hne:¬r=au:=iW (iR hne);refine⟨(ahh λM hM hb=>?_).symm,λh=>(by cases h),λ_=>rfl⟩;rcases g4 with g4|g4
   .exact hne (alc (by rw[hr.1,g1]) λi hi=>TR hr (λi hi=>(g2 i hi).1) g4 i (by rw[← hr.1];exact hi))
   .have:=MI (a:=au) (b:=d.length) d.length λi hi=>by have a:=g3 M hM i hi;have b:=hb i hi;omega
    omega
  .have he:r=au:=iK (dY he);subst he;have hpf:=hr.2.2.2.1 λi hi=>rfl;obtain⟨M,hM,hb⟩:=Fe (jv d) ⟨_,hpf⟩;exact⟨(ae2 hok hpf).symm,λ_=>⟨g1,λi hi=>⟨(g2 i hi).1,by have a:=g3 M hM i hi;have b:=hb i hi;omega⟩,hpf,g3⟩,λh=>by cases h⟩
theorem NY:OK xU.e:=by
 refine FV [rH.e,sQ.e,rG.e,sN.e] ⟨Pm,QO,Pn,QS,⟨⟩⟩ afA (λ⟨d,_⟩ hp=>by obtain⟨s,h1,h2⟩:=aaL (d:=d);exact⟨(((s,aI d,()),())),⟨rfl,h1⟩⟩) λd=>show xU.goal (ads d) (d,())fromλhin hp=>?_
 dsimp only[xU]at hp ⊢;have hp:fF d:=hp;refine⟨hp,af (λh=>⟨(ae3 (iR h)).symm,λh=>by cases h⟩) λh=>?_⟩;have hok:=dY h;have hp:qW d:=Ag hok;have hlen:=Pj hok;refine⟨⟨by omega,by omega,by rw[dm];omega⟩,?_⟩;have hmem:∀au:List (Int×Unit),au.length=d.length->(∀i,i<d.length->0<=Sp.lv au i/\Sp.lv au i<=d.length)->∀x∈au,0<=x.1/\x.1<=1000000:=λau hl h=>
  ahj (p:=λz=>0<=z/\z<=1000000) λi hi=>by have:=h i (by omega);omega
 refine⟨λy=>y.2.1.length=d.length/\(∀i,i<d.length->0<=Sp.lv y.2.1 i/\Sp.lv y.2.1 i<=d.length)/\(∀M,gG (cO d) M->∀i,i<d.length->Sp.lv y.2.1 i<=M i)/\(y.1.1=false->gG (cO d) λi=>(Sp.lv y.2.1 i).toNat),
  λy=>(((d.length*d.length:Nat):Int)-tZ y.2.1 d.length).toNat*2+(if y.1.1=true then 1 else 0),⟨by simp,λi hi=>by rw[ata,NV];omega,λM hM i hi=>by rw[ata,NV];omega,λh=>by cases h⟩,?_⟩
 rintro⟨⟨ch,⟨⟩⟩,au,⟨⟩⟩ ⟨g1,g2,g3,g4⟩;dsimp only at g1 g2 g3 g4 ⊢;refine af (λhch=>?_) λhch=>⟨(ae2 hok (g4 hch)).symm,λ_=>⟨g1,g2,g4 hch,g3⟩⟩;subst hch;refine eH (λi(x:Bool×List (Int×Unit))=>((x.1,i,()),x.2,())) (λy=>y.1.2.1) (λ_ _=>rfl) d.length (by omega)
  (λi(x:Bool×List (Int×Unit))=>x.2.length=d.length/\(∀i,i<d.length->Sp.lv au i<=Sp.lv x.2 i/\Sp.lv x.2 i<=d.length)/\(∀M,gG (cO d) M->∀i,i<d.length->Sp.lv x.2 i<=M i)/\
    (x.1=true->tZ au d.length<tZ x.2 d.length)/\(x.1=false->x.2=au/\∀e∈cO d,e.1<i->Sp.lv au e.2.1+e.2.2<=Sp.lv au e.1))
  (s0:=(false,au)) ⟨g1,λi hi=>⟨atD _,(g2 i hi).2⟩,g3,λh=>(by cases h),λ_=>⟨rfl,λe _ h=>by omega⟩⟩ (λI μ i x hi hJ next=>?_) λI μ x hJ=>?_
 .obtain⟨c,cur⟩:=x;obtain⟨q1,q2,q3,q4,q5⟩:=hJ;have q1:cur.length=d.length:=q1;have hcur:∀i,i<d.length->0<=Sp.lv cur i/\Sp.lv cur i<=d.length:=λi hi=>⟨Int.le_trans (g2 i hi).1 (q2 i hi).1,(q2 i hi).2⟩;have hm:=hmem cur q1 hcur;dsimp only;rw[ata];refine bY (by omega) ⟨⟨by omega,by omega⟩,Gn hp hi,?_⟩;rintro⟨⟨r4,⟨⟩⟩,⟨⟩⟩ hr4;have hr4:gW r4 (dP (bQ d i).2.1 false):=hr4;refine⟨⟨by omega,hr4.1,by omega,by omega,hm⟩,Gn hp hi,?_⟩;rintro⟨⟨r6,⟨⟩⟩,⟨⟩⟩ hr6;have hr6:gW r6 (dP (bQ d i).2.1 true):=hr6;refine⟨⟨by omega,hr6.1,by omega,by omega,hm⟩,?_⟩;dsimp only;have hle:∀M,gG (cO d) M->sS d cur 0 r4<=M i/\sS d cur 1 r6<=M i:=by
   intro M hM;refine⟨(Ej r4 _).2 ⟨by omega,λx hx h0=>?_⟩,(Ej r6 _).2 ⟨by omega,λx hx h0=>?_⟩⟩
   .have he:=Ah.2 ⟨hi,x.1,.inl ⟨rfl,(hr4.2 x.1).1 hx⟩,h0,rfl⟩;have a:=hM _ he;have a:M (aG d x.1).toNat+0<=M i:=a;have b:=q3 M hM _ (jv d _ he).2.1;have b:Sp.lv cur (aG d x.1).toNat<=M (aG d x.1).toNat:=b;omega
   .have he:=Ah.2 ⟨hi,x.1,.inr ⟨rfl,(hr6.2 x.1).1 hx⟩,h0,rfl⟩;have a:=hM _ he;have a:M (aG d x.1).toNat+1<=M i:=a;have b:=q3 M hM _ (jv d _ he).2.1;have b:Sp.lv cur (aG d x.1).toNat<=M (aG d x.1).toNat:=b;omega
  have hge:∀e∈cO d,e.1=i->Sp.lv cur e.2.1+e.2.2<=sS d cur 0 r4\/Sp.lv cur e.2.1+e.2.2<=sS d cur 1 r6:=by
   rintro⟨a,b,m⟩ he ha;have ha:a=i:=ha;subst ha;have hm1:m<=1:=(jv d _ he).2.2;rcases aum m with h|h
   .subst h;obtain⟨p,p1,p2,p3⟩:=La hr4 he rfl;left;have:=((Ej (d:=d) (au:=cur) (more:=0) r4 _).1 (atD _)).2 _ (getD_mem (d:=(([]:List UInt8),())) p1) p2;show Sp.lv cur b+((0:Nat):Int)<=_;rw[p3];omega
   .have:m=1:=by omega
    subst this;obtain⟨p,p1,p2,p3⟩:=La hr6 he rfl;right;have:=((Ej (d:=d) (au:=cur) (more:=1) r6 _).1 (atD _)).2 _ (getD_mem (d:=(([]:List UInt8),())) p1) p2;show Sp.lv cur b+((1:Nat):Int)<=_;rw[p3];omega
  generalize sS d cur 0 r4=u at hle hge ⊢;generalize sS d cur 1 r6=v at hle hge ⊢;have hv:∃z,(if v>u then v else u)=z/\u<=z/\v<=z/\(z=u\/z=v):=by refine⟨_,rfl,?_,?_,?_⟩<;>split<;>omega
  obtain⟨z,ez,hz1,hz2,hz3⟩:=hv;rw[ez];have e2:(cur.getD i (0,())).1=Sp.lv cur i:=rfl;rw[e2];refine af (λhbig=>?_) λhbig=>⟨⟨by omega,by omega⟩,by omega,af (λhup=>⟨⟨by omega,by omega⟩,by omega,rfl,next (true,cur.set i (z,())) ?_⟩) λhup=>⟨rfl,next (c,cur) ?_⟩⟩
  .have hbig:z>(d.length:Int):=iK hbig;refine⟨(ahh λM hM hb=>?_).symm,λh=>by cases h⟩;have a:=hle M hM;have b:=hb i hi;omega
  .have hbig:¬z>(d.length:Int):=iW hbig;have hup:z>Sp.lv cur i:=iK hup;have hs:=λk=>ahk (l:=cur) (i:=i) (by omega) z k;refine⟨by simp;omega,λk hk=>?_,λM hM k hk=>?_,λ_=>?_,λh=>by cases h⟩
   .dsimp only;rw[hs];have:=q2 k hk;dsimp only at this;split
    .next e=>subst e;omega
    .exact this
   .dsimp only;rw[hs];split
    .next e=>subst e;have:=hle M hM;omega
    .exact q3 M hM k hk
   .have a:=Ym (a:=au) (b:=cur) d.length λk hk=>(q2 k hk).1;have hsk:∀k,k<d.length->Sp.lv cur k<=Sp.lv (cur.set i (z,())) k:=λk hk=>by
     rw[hs];split
     .next e=>subst e;omega
     .exact atD _
    have b:=Yl (a:=cur) (b:=cur.set i (z,())) d.length hsk ⟨i,hi,by rw[hs,if_pos rfl];omega⟩;show tZ au d.length<tZ (cur.set i (z,())) d.length;omega
  .have hup:¬z>Sp.lv cur i:=iW hup;refine⟨q1,q2,q3,q4,λh=>?_⟩;obtain⟨a,b⟩:=q5 h;have a:cur=au:=a;subst a;refine⟨rfl,λe he hlt=>?_⟩;rcases atm e.1 i with h'|h'
   .exact b e he h'
   .have hei:e.1=i:=by omega
    have:=hge e he hei;rw[hei];omega
 .obtain⟨c,cur⟩:=x;obtain⟨q1,q2,q3,q4,q5⟩:=hJ;dsimp only at q1 q2 q3 q4 q5 ⊢;have hcur:∀i,i<d.length->0<=Sp.lv cur i/\Sp.lv cur i<=d.length:=λi hi=>⟨Int.le_trans (g2 i hi).1 (q2 i hi).1,(q2 i hi).2⟩;have hsum:=MI (a:=cur) (b:=d.length) d.length λi hi=>(q2 i hi).2;refine bV (by omega) ⟨rfl,⟨q1,hcur,q3,λhc e he=>?_⟩,?_⟩
  .obtain⟨a,b⟩:=q5 hc;subst a;obtain⟨x1,x2,_⟩:=jv d e he;have:=b e he x1;have y1:=(hcur _ x1).1;have y2:=(hcur _ x2).1;dsimp only;omega
  .cases c with
   |true=>
    have:=q4 rfl;simp only[if_true];omega
   |false=>obtain⟨a,_⟩:=q5 rfl;subst a;simp
end Go.Proofs.Tryz
namespace Go.Proofs.Tryz
open Go Go.Fw Go.IntWalk Sp
theorem Pz:∀{l:List dK}{n:Nat}{s:Sp.Bytes},n<l.length->(∀i,i<n->(bZ l i).1≠s)->(bZ l n).1=s->bU l s=(bZ l n).2
 |[],n,_,h,_,_=>by simp at h
 |x::r,0,s,_,_,e=>by
  have e:x.1=s:=e;rw[bU,atd.2 e];rfl
 |x::r,n+1,s,h,hn,e=>by have h0:x.1≠s:=hn 0 (by omega);rw[bU,asZ.2 h0];exact Pz (l:=r) (by simpa using h) (λi hi=>hn (i+1) (by omega)) e
theorem JK:∀{l:List dK}{s:Sp.Bytes},(∀i,i<l.length->(bZ l i).1≠s)->bU l s=(0,0,[],())
 |[],_,_=>rfl
 |x::r,s,h=>by have h0:x.1≠s:=h 0 (by simp);rw[bU,asZ.2 h0];exact JK λi hi=>h (i+1) (by simpa using hi)
theorem Fq:OK nT.e:=by
 refine aV [] ⟨⟩ aea λf0 f1 f2 f3 l s=>show nT.goal (abO f0 f1 f2 f3 l s) ((f0,f1,f2,f3,l,()),s,())fromλhin hp=>?_
 dsimp only[nT]at hp ⊢;have hlen:l.length<=maxLen:=hin.1.2.2.2.2.1.1;rw[maxLen_eq]at hlen;refine eP l.length hlen (λn=>∀i,i<n->(bZ l i).1≠s) (λi hi=>by omega) (λI μ n hn hJ next=>?_) λI μ hJ=>?_
 .dsimp only;refine bY (by omega) ⟨⟨by omega,by omega⟩,af (λh=>?_) λh=>⟨rfl,next λi hi=>?_⟩⟩
  .exact congrArg (·,()) (Pz hn hJ (atd.1 h)).symm
  .rcases atm i n with h'|h'
   .exact hJ i h'
   .have:i=n:=by omega
    rw[this];exact asZ.1 h
 .dsimp only;exact bV (by omega) (congrArg (·,()) (JK hJ).symm)
theorem LH:OK qQ.e:=by
 refine aV [] ⟨⟩ aeb λf0 f1 f2 f3 l s=>show qQ.goal (abP f0 f1 f2 f3 l s) ((f0,f1,f2,f3,l,()),s,())fromλhin hp=>?_
 dsimp only[qQ]at hp ⊢;have hlen:l.length<=maxLen:=hin.1.2.2.2.2.1.1;rw[maxLen_eq]at hlen;refine eP l.length hlen (λn=>∀i,i<n->(bZ l i).1≠s) (λi hi=>by omega) (λI μ n hn hJ next=>?_) λI μ hJ=>?_
 .dsimp only;refine bY (by omega) ⟨⟨by omega,by omega⟩,af (λh=>⟨⟨by omega,by omega⟩,?_⟩) λh=>⟨rfl,next λi hi=>?_⟩⟩
  .exact congrArg (·,()) (Pz hn hJ (atd.1 h)).symm
  .rcases atm i n with h'|h'
   .exact hJ i h'
   .have:i=n:=by omega
    rw[this];exact asZ.1 h
 .dsimp only;exact bV (by omega) (congrArg (·,()) (JK hJ).symm)
theorem abQ:OK vI.e:=by
 refine aV [nT.e] ⟨Fq,⟨⟩⟩ H0 λf0 f1 f2 f3 l s=>show vI.goal (abR f0 f1 f2 f3 l s) ((f0,f1,f2,f3,l,()),s,())fromλhin hp=>?_
 dsimp only[vI]at hp ⊢;refine⟨trivial,?_⟩;cases h:((bU l s).1==1)with
 |true=>dsimp only[bne];rw[h];rfl
 |false=>dsimp only[bne];rw[h];rfl
theorem ae7{α β:Type}[BEq β][LawfulBEq β](g:α->β)(v:β)(s:List α):Sp.findAt (λx=>v==g x) s=Sp.findAt (λx=>g x==v) s:=by
 congr 1
 funext x
 rw[atu,atd,atd];exact eq_comm
theorem Rf:OK sU.e:=by
 refine aV [] ⟨⟩ Ur λs v=>show sU.goal (Rh s v) (s,v,())fromλhin hp=>?_
 dsimp only[sU]at hp ⊢;exact alm (K:=λr=>r=(Sp.findAt (λx=>x.1==v) s,())) (λx:Int×Unit=>v==x.1) (0,()) s _ hin.1.1 (by rw[ae7])
theorem MJ:OK o6.e:=by
 refine aV [] ⟨⟩ Oh λs v=>show o6.goal (MK s v) (s,v,())fromλhin hp=>?_
 dsimp only[o6]at hp ⊢;exact alm (K:=λr=>r=(Sp.findAt (λx=>x.1==v) s,())) (λx:List UInt8×Unit=>v==x.1) ([],()) s _ hin.1.1 (by rw[ae7])
theorem ML:OK o5.e:=by
 refine aV [sU.e] ⟨Rf,⟨⟩⟩ H0 λs v=>show o5.goal (MN s v) (s,v,())fromλhin hp=>?_
 dsimp only[o5]at hp ⊢;exact⟨trivial,congrArg (·,()) (ahq _ s)⟩
theorem zJ:OK jG.e:=by
 refine aV [o6.e] ⟨MJ,⟨⟩⟩ H0 λs v=>show jG.goal (IX s v) (s,v,())fromλhin hp=>?_
 dsimp only[jG]at hp ⊢;exact⟨trivial,congrArg (·,()) (ahq _ s)⟩
theorem Us:OK qg.e:=by
 refine aV [o5.e] ⟨ML,⟨⟩⟩ H0 λs v=>show qg.goal (Ut s v) (s,v,())fromλhin hp=>?_
 dsimp only[qg]at hp ⊢;exact⟨trivial,rfl⟩
theorem Uu:OK qh.e:=by
 refine aV [] ⟨⟩ WE λs v=>show qh.goal (Uw s v) (s,v,())fromλhin hp=>?_
 dsimp only[qh]at hp ⊢;exact arB (K:=λr=>r=(jh s v,())) (λx:Int×Unit=>x.1==v) (0,()) s _ hin.1.1 rfl
theorem Ri:OK sV.e:=by
 refine aV [] ⟨⟩ Ux λs=>show sV.goal (Rj s) (s,())fromλhin hp=>?_
 dsimp only[sV]at hp ⊢;have hp:s.length<=10000000:=hp;intro g hg;refine af (λh=>?_) λh=>⟨by rw[dm];omega,rfl⟩;exact congrArg (·,()) (atH.1 (hg h)).symm
abbrev RR0:bK:=([],[],())
theorem ae8{r:List bK}(h:bW r){n:Nat}(hn:n<r.length):(r.getD n RR0).2.1.length<=1000:=h.2 _ (getD_mem (d:=RR0) hn)
theorem abS{r:List bK}{n:Nat}{s:Sp.Bytes}(hn:n<r.length)(hJ:∀i,i<n->(oL r i).1≠s)(e:(oL r n).1=s):dZ r s=gm r n:=by rw[← e];exact Uy hn λj hj=>by rw[e];exact hJ j hj
theorem BZ:OK lH.e:=by
 refine aV [sV.e] ⟨Ri,⟨⟩⟩ Y6 λr s=>show lH.goal (WG r s) (r,s,())fromλhin hp=>?_
 dsimp only[lH]at hp ⊢;have hp:bW r:=hp;have hlen:r.length<=1000:=hp.1;refine eP r.length (by omega) (λn=>∀i,i<n->(oL r i).1≠s) (λi hi=>by omega) (λI μ n hn hJ next=>?_) λI μ hJ=>?_
 .dsimp only;refine bY (by omega) ⟨⟨by omega,by omega⟩,af (λh=>⟨as3 (ae8 hp hn) (by decide),?_⟩) λh=>⟨rfl,next λi hi=>?_⟩⟩
  .exact congrArg (·,()) (abS hn hJ (atd.1 h)).symm
  .rcases atm i n with h'|h'
   .exact hJ i h'
   .have:i=n:=by omega
    rw[this];exact asZ.1 h
 .dsimp only;exact bV (by omega) (congrArg (·,()) (GI hJ).symm)
theorem Il:OK nU.e:=by
 refine aV [] ⟨⟩ Y7 λr s=>show nU.goal (WH r s) (r,s,())fromλhin hp=>?_
 dsimp only[nU]at hp ⊢;have hp:bW r:=hp;have hlen:r.length<=1000:=hp.1;refine eP r.length (by omega) (λn=>∀i,i<n->(oL r i).1≠s) (λi hi=>by omega) (λI μ n hn hJ next=>?_) λI μ hJ=>?_
 .dsimp only;refine bY (by omega) ⟨⟨by omega,by omega⟩,af (λh=>⟨⟨by omega,by omega⟩,by have:(r.getD n ([],[],())).2.1.length<=1000:=ae8 hp hn;rw[dm,ata];omega,?_⟩) λh=>⟨rfl,next λi hi=>?_⟩⟩
  .exact congrArg (·,()) (abS hn hJ (atd.1 h)).symm
  .rcases atm i n with h'|h'
   .exact hJ i h'
   .have:i=n:=by omega
    rw[this];exact asZ.1 h
 .dsimp only;exact bV (by omega) (congrArg (·,()) (GI hJ).symm)
theorem Y8{q:List aS}{f:aA}{X:BX}{a:Nat}(h5:(Sp.nodeAt q a).1≠5)(h6:(Sp.nodeAt q a).1≠6)(h7:(Sp.nodeAt q a).1≠7):Sp.val q f X a=jw (Sp.nodeAt q a) f X:=by rw[Oi,if_neg h5,if_neg h6,if_neg h7]
theorem aiR{q:List aS}{f:aA}{X:BX}{a:Nat}(h5:(Sp.nodeAt q a).1=5)(hl:(Sp.nodeAt q a).2.1.toNat<a):Sp.val q f X a=!Sp.val q f X (Sp.nodeAt q a).2.1.toNat:=by rw[Oi q f X a,if_pos h5,dif_pos hl]
theorem aiS{q:List aS}{f:aA}{X:BX}{a:Nat}(h6:(Sp.nodeAt q a).1=6)(hl:(Sp.nodeAt q a).2.1.toNat<a/\(Sp.nodeAt q a).2.2.1.toNat<a):Sp.val q f X a=(Sp.val q f X (Sp.nodeAt q a).2.1.toNat&&Sp.val q f X (Sp.nodeAt q a).2.2.1.toNat):=by rw[Oi q f X a,if_neg (by omega),if_pos h6,dif_pos hl]
theorem aln{q:List aS}{f:aA}{X:BX}{a:Nat}(h7:(Sp.nodeAt q a).1=7)(hl:(Sp.nodeAt q a).2.1.toNat<a/\(Sp.nodeAt q a).2.2.1.toNat<a):Sp.val q f X a=(Sp.val q f X (Sp.nodeAt q a).2.1.toNat||Sp.val q f X (Sp.nodeAt q a).2.2.1.toNat):=by rw[Oi q f X a,if_neg (by omega),if_neg (by omega),if_pos h7,dif_pos hl]
theorem ani{n:aS}{f:aA}{X:BX}(h:n.1=2):jw n f X=!((bU f.2.2.2.2.1 n.2.2.2.1).1==0):=by unfold jw;rw[h];rfl
theorem anj{n:aS}{f:aA}{X:BX}(h:n.1=3):jw n f X=decide (bU f.2.2.2.2.1 n.2.2.2.1=(n.2.2.2.2.1,n.2.2.2.2.2.1,n.2.2.2.2.2.2.1,())):=by unfold jw;rw[h];rfl
theorem ank{n:aS}{f:aA}{X:BX}(h:n.1=4):jw n f X=((bU f.2.2.2.2.1 n.2.2.2.1).1==1&&decide ((bU f.2.2.2.2.1 n.2.2.2.1).2.1<n.2.2.2.2.2.1)):=by unfold jw;rw[h];rfl
theorem anl{n:aS}{f:aA}{X:BX}(h:n.1=8):jw n f X=X n.2.2.2.1 f.1:=by unfold jw;rw[h];rfl
theorem anm{n:aS}{f:aA}{X:BX}(h:n.1=9):jw n f X=(!(f.2.2.2.1==0)&&X n.2.2.2.1 f.2.2.2.1):=by unfold jw;rw[h];rfl
theorem ann{n:aS}{f:aA}{X:BX}(h2:n.1≠2)(h3:n.1≠3)(h4:n.1≠4)(h8:n.1≠8)(h9:n.1≠9):jw n f X=true:=by unfold jw;rw[asZ.2 h2,asZ.2 h3,asZ.2 h4,asZ.2 h8,asZ.2 h9];rfl
theorem eq3(v w:Uz):(v.1==w.1&&(v.2.1==w.2.1&&(v.2.2.1==w.2.2.1&&true)))=decide (v=w):=by rw[atu];simp[Prod.ext_iff]
theorem Fv{x y z:Int}(h:x=y)(hne:y≠z):x≠z:=by rw[h];exact hne
theorem aj8{n:aS}{a:Int}(h:iY n a=true):n.1=1\/n.1=2\/n.1=3\/n.1=4\/n.1=5\/n.1=6\/n.1=7\/n.1=8\/n.1=9:=by unfold iY at h;dsimp only at h;refine atC λhno=>?_;have e:∀k:Int,n.1≠k->(n.1==k)=false:=λk hk=>asZ.2 hk;rw[e 1 (λh=>hno (by simp[h])),e 2 (λh=>hno (by simp[h])),e 3 (λh=>hno (by simp[h])),e 4 (λh=>hno (by simp[h])),e 5 (λh=>hno (by simp[h])),e 6 (λh=>hno (by simp[h])),e 7 (λh=>hno (by simp[h])),e 8 (λh=>hno (by simp[h])),e 9 (λh=>hno (by simp[h]))]at h;cases h
theorem J7[yM](MO:iM prog G pI rQ):iM prog G CV zS:=by
 refine J8 (af5 [qg.e,lH.e,(pI,.pure rQ),vI.e,nT.e] ⟨Us,BZ,⟨MO,J4⟩,abQ,Fq,trivial⟩) ?_;intro q a f0 f1 f2 f3 f4 r hin hp;obtain⟨⟨hq,h0,h1,hr⟩,hm⟩:=hp;have ha:a.toNat<q.length:=by omega
 obtain⟨k1,k2⟩:=Oj hq ha;have fin:∀z:Bool,Sp.val q (f0,f1,f2,f3,f4,()) (aY r) a.toNat=z->(z,())=(Sp.val q (f0,f1,f2,f3,f4,()) (aY r) a.toNat,()):=λz h=>by rw[h]
 have leaf:∀k:Int,k≠5->k≠6->k≠7->(Sp.nodeAt q a.toNat).1=k->Sp.val q (f0,f1,f2,f3,f4,()) (aY r) a.toNat=jw (Sp.nodeAt q a.toNat) (f0,f1,f2,f3,f4,()) (aY r):=λk a b c h=>Y8 (Fv h a) (Fv h b) (Fv h c);have kid:∀k:Int,0<=k->k.toNat<a.toNat->(aW q=true/\0<=k/\k<(q.length:Int)/\bW r)/\k.toNat<yN:=λk h2 h3=>⟨⟨hq,h2,by omega,hr⟩,by omega⟩;refine⟨⟨h0,h1⟩,af (λh=>⟨trivial,fin _ ((leaf 2 (by decide) (by decide) (by decide) (atd.1 h)).trans (ani (atd.1 h)))⟩) λh2=>af (λh=>⟨trivial,fin _ ((leaf 3 (by decide) (by decide) (by decide) (atd.1 h)).trans ((anj (atd.1 h)).trans (eq3 _ _).symm))⟩) λh3=>af (λh=>⟨trivial,?_⟩) λh4=>af (λh=>?_) λh5=>af (λh=>?_) λh6=>af (λh=>?_) λh7=>af (λh=>⟨hr,trivial,fin _ ((leaf 8 (by decide) (by decide) (by decide) (atd.1 h)).trans (anl (atd.1 h)))⟩) λh8=>af (λh=>?_) λh9=>?_⟩
 .have e:=(leaf 4 (by decide) (by decide) (by decide) (atd.1 h)).trans (ank (atd.1 h));dsimp only at e ⊢;refine af (λg=>fin _ (e.trans ?_)) λg=>fin _ (e.trans ?_)
  .unfold Sp.nodeAt;rw[g];rfl
  .unfold Sp.nodeAt;rw[g];rfl
 .have hk:=k1 (.inl (atd.1 h));exact⟨kid _ hk.1 hk.2,fin _ (aiR (atd.1 h) hk.2)⟩
 .have ht:kN (Sp.nodeAt q a.toNat)=true:=wL.2 (.inl (atd.1 h));have hk:=k1 (.inr ht);have hk2:=k2 ht;have e:=aiS (f:=(f0,f1,f2,f3,f4,())) (X:=aY r) (atd.1 h) ⟨hk.2,hk2.2⟩;refine⟨kid _ hk.1 hk.2,af (λg=>⟨kid _ hk2.1 hk2.2,fin _ (e.trans ?_)⟩) λg=>fin _ (e.trans ?_)⟩
  .have g:Sp.val q (f0,f1,f2,f3,f4,()) (aY r) (Sp.nodeAt q a.toNat).2.1.toNat=true:=g;rw[g];rfl
  .have g:Sp.val q (f0,f1,f2,f3,f4,()) (aY r) (Sp.nodeAt q a.toNat).2.1.toNat=false:=g;rw[g];rfl
 .have ht:kN (Sp.nodeAt q a.toNat)=true:=wL.2 (.inr (atd.1 h));have hk:=k1 (.inr ht);have hk2:=k2 ht;have e:=aln (f:=(f0,f1,f2,f3,f4,())) (X:=aY r) (atd.1 h) ⟨hk.2,hk2.2⟩;refine⟨kid _ hk.1 hk.2,af (λg=>fin _ (e.trans ?_)) λg=>⟨kid _ hk2.1 hk2.2,fin _ (e.trans ?_)⟩⟩
  .have g:Sp.val q (f0,f1,f2,f3,f4,()) (aY r) (Sp.nodeAt q a.toNat).2.1.toNat=true:=g;rw[g];rfl
  .have g:Sp.val q (f0,f1,f2,f3,f4,()) (aY r) (Sp.nodeAt q a.toNat).2.1.toNat=false:=g;rw[g];rfl
 .have e:=(leaf 9 (by decide) (by decide) (by decide) (atd.1 h)).trans (anm (atd.1 h));refine af (λg=>⟨hr,trivial,fin _ (e.trans ?_)⟩) λg=>fin _ (e.trans ?_)
  .have g:(!(f3==0))=true:=g;dsimp only;rw[g];rfl
  .have g:(!(f3==0))=false:=g;dsimp only;rw[g];rfl
 .have n2:=asZ.1 h2;have n3:=asZ.1 h3;have n4:=asZ.1 h4;have n8:=asZ.1 h8;have n9:=asZ.1 h9;exact fin _ ((Y8 (asZ.1 h5) (asZ.1 h6) (asZ.1 h7)).trans (ann n2 n3 n4 n8 n9))
theorem WI:iM prog G D9 GX:=
 akY (λn=>@Ea ⟨n⟩) (λn=>@Cc ⟨n⟩) (by rintro⟨q,at',⟨i,o,s,l,a,⟨⟩⟩,r,⟨⟩⟩ h;exact auS _ h.2) (by rintro _ ⟨q,at',⟨i,o,s,l,a,⟨⟩⟩,r,⟨⟩⟩;rfl) (by rintro⟨q,at',⟨i,o,s,l,a,⟨⟩⟩,r,⟨⟩⟩ h;exact⟨_,h,Nat.lt_succ_self _⟩) (by rintro _ ⟨q,at',⟨i,o,s,l,a,⟨⟩⟩,r,⟨⟩⟩;rfl) λn h=>@J7 ⟨n⟩ h
theorem Ol[yM](PD:iM prog G rP vJ):iM prog G EZ Ci:=by
 refine Om (af5 [qh.e,nU.e,(rP,.pure vJ),qQ.e] ⟨Uu,Il,⟨PD,NJ⟩,LH,trivial⟩) ?_;intro q a f0 f1 f2 f3 f4 r hin hp;obtain⟨⟨hq,h0,h1,hr⟩,hm⟩:=hp;have ha:a.toNat<q.length:=by omega
 obtain⟨k1,k2⟩:=Oj hq ha;have fin:∀z:Bool,Sp.val q (f0,f1,f2,f3,f4,()) (aY r) a.toNat=z->(z,())=(Sp.val q (f0,f1,f2,f3,f4,()) (aY r) a.toNat,()):=λz h=>by rw[h]
 have leaf:∀k:Int,k≠5->k≠6->k≠7->(Sp.nodeAt q a.toNat).1=k->Sp.val q (f0,f1,f2,f3,f4,()) (aY r) a.toNat=jw (Sp.nodeAt q a.toNat) (f0,f1,f2,f3,f4,()) (aY r):=λk a b c h=>Y8 (Fv h a) (Fv h b) (Fv h c);have kid:∀k:Int,0<=k->k.toNat<a.toNat->(aW q=true/\0<=k/\k<(q.length:Int)/\bW r)/\k.toNat<yN:=λk h2 h3=>⟨⟨hq,h2,by omega,hr⟩,by omega⟩;refine⟨⟨h0,h1⟩,trivial,af (λh=>fin _ ((leaf 1 (by decide) (by decide) (by decide) (atd.1 h)).trans (ann (Fv (atd.1 h) (by decide)) (Fv (atd.1 h) (by decide)) (Fv (atd.1 h) (by decide)) (Fv (atd.1 h) (by decide)) (Fv (atd.1 h) (by decide))))) λh1=>af (λh=>fin _ ((leaf 2 (by decide) (by decide) (by decide) (atd.1 h)).trans (ani (atd.1 h)))) λh2=>af (λh=>fin _ ((leaf 3 (by decide) (by decide) (by decide) (atd.1 h)).trans ((anj (atd.1 h)).trans (eq3 _ _).symm))) λh3=>af (λh=>?_) λh4=>af (λh=>?_) λh5=>af (λh=>?_) λh6=>af (λh=>?_) λh7=>af (λh=>⟨hr,trivial,fin _ ((leaf 8 (by decide) (by decide) (by decide) (atd.1 h)).trans (anl (atd.1 h)))⟩) λh8=>?_⟩
 .have e:=(leaf 4 (by decide) (by decide) (by decide) (atd.1 h)).trans (ank (atd.1 h));dsimp only at e ⊢;refine af (λg=>fin _ (e.trans ?_)) λg=>fin _ (e.trans ?_)
  .unfold Sp.nodeAt;rw[g];rfl
  .unfold Sp.nodeAt;rw[g];rfl
 .have hk:=k1 (.inl (atd.1 h));exact⟨kid _ hk.1 hk.2,fin _ (aiR (atd.1 h) hk.2)⟩
 .have ht:kN (Sp.nodeAt q a.toNat)=true:=wL.2 (.inl (atd.1 h));have hk:=k1 (.inr ht);have hk2:=k2 ht;have e:=aiS (f:=(f0,f1,f2,f3,f4,())) (X:=aY r) (atd.1 h) ⟨hk.2,hk2.2⟩;refine⟨kid _ hk.1 hk.2,af (λg=>⟨kid _ hk2.1 hk2.2,fin _ (e.trans ?_)⟩) λg=>fin _ (e.trans ?_)⟩
  .have g:Sp.val q (f0,f1,f2,f3,f4,()) (aY r) (Sp.nodeAt q a.toNat).2.1.toNat=true:=g;rw[g];rfl
  .have g:Sp.val q (f0,f1,f2,f3,f4,()) (aY r) (Sp.nodeAt q a.toNat).2.1.toNat=false:=g;rw[g];rfl
 .have ht:kN (Sp.nodeAt q a.toNat)=true:=wL.2 (.inr (atd.1 h));have hk:=k1 (.inr ht);have hk2:=k2 ht;have e:=aln (f:=(f0,f1,f2,f3,f4,())) (X:=aY r) (atd.1 h) ⟨hk.2,hk2.2⟩;refine⟨kid _ hk.1 hk.2,af (λg=>fin _ (e.trans ?_)) λg=>⟨kid _ hk2.1 hk2.2,fin _ (e.trans ?_)⟩⟩
  .have g:Sp.val q (f0,f1,f2,f3,f4,()) (aY r) (Sp.nodeAt q a.toNat).2.1.toNat=true:=g;rw[g];rfl
  .have g:Sp.val q (f0,f1,f2,f3,f4,()) (aY r) (Sp.nodeAt q a.toNat).2.1.toNat=false:=g;rw[g];rfl
 .have n1:=asZ.1 h1;have n2:=asZ.1 h2;have n3:=asZ.1 h3;have n4:=asZ.1 h4;have n5:=asZ.1 h5;have n6:=asZ.1 h6;have n7:=asZ.1 h7;have n8:=asZ.1 h8;have h9:(Sp.nodeAt q a.toNat).1=9:=by
   rcases aj8 (JL hq ha).1 with h|h|h|h|h|h|h|h|h
   .exact(n1 h).elim
   .exact(n2 h).elim
   .exact(n3 h).elim
   .exact(n4 h).elim
   .exact(n5 h).elim
   .exact(n6 h).elim
   .exact(n7 h).elim
   .exact(n8 h).elim
   .exact h
  have e:=(leaf 9 (by decide) (by decide) (by decide) h9).trans (anm h9);refine af (λg=>⟨hr,trivial,fin _ (e.trans ?_)⟩) λg=>fin _ (e.trans ?_)
  .have g:(!(f3==0))=true:=g;dsimp only;rw[g];rfl
  .have g:(!(f3==0))=false:=g;dsimp only;rw[g];rfl
theorem abT:iM prog G Gj Jg:=
 akY (λn=>@FP ⟨n⟩) (λn=>@Et ⟨n⟩) (by rintro⟨q,at',⟨i,o,s,l,a,⟨⟩⟩,r,⟨⟩⟩ h;exact auS _ h.2) (by rintro _ ⟨q,at',⟨i,o,s,l,a,⟨⟩⟩,r,⟨⟩⟩;rfl) (by rintro⟨q,at',⟨i,o,s,l,a,⟨⟩⟩,r,⟨⟩⟩ h;exact⟨_,h,Nat.lt_succ_self _⟩) (by rintro _ ⟨q,at',⟨i,o,s,l,a,⟨⟩⟩,r,⟨⟩⟩;rfl) λn h=>@Ol ⟨n⟩ h
theorem abU:OK Ap.e:=by
 refine aV [(D9,.pure GX),kQ.e] ⟨⟨WI,TL⟩,xM,⟨⟩⟩ H0 λq f0 f1 f2 f3 f4 r=>show Ap.goal (abV q f0 f1 f2 f3 f4 r) (q,(f0,f1,f2,f3,f4,()),r,())fromλhin hp=>?_
 dsimp only[Ap]at hp ⊢;obtain⟨h1,h2⟩:=hp;have e:∀z,aW q=z->kC q (f0,f1,f2,f3,f4,()) (aY r)=(z&&Sp.val q (f0,f1,f2,f3,f4,()) (aY r) (q.length-1)):=λz hz=>by unfold kC;rw[hz]
 refine⟨by omega,af (λh=>?_) λh=>?_⟩
 .have hl:=Sp.yK h;rw[rZ (by omega) (by omega)];refine⟨⟨h,by omega,by omega,h2⟩,?_⟩;rw[e _ h,ata];rfl
 .rw[e _ h];rfl
theorem abW:OK Aq.e:=by
 refine aV [(Gj,.pure Jg),kP.e] ⟨⟨abT,Yd⟩,xO,⟨⟩⟩ H0 λq f0 f1 f2 f3 f4 r=>show Aq.goal (abX q f0 f1 f2 f3 f4 r) (q,(f0,f1,f2,f3,f4,()),r,())fromλhin hp=>?_
 dsimp only[Aq]at hp ⊢;obtain⟨h1,h2⟩:=hp;have e:∀z,aW q=z->kC q (f0,f1,f2,f3,f4,()) (aY r)=(z&&Sp.val q (f0,f1,f2,f3,f4,()) (aY r) (q.length-1)):=λz hz=>by unfold kC;rw[hz]
 refine⟨by omega,af (λh=>?_) λh=>?_⟩
 .have hl:=Sp.yK h;rw[rZ (by omega) (by omega)];refine⟨⟨h,by omega,by omega,h2⟩,?_⟩;rw[e _ h,ata];rfl
 .rw[e _ h];rfl
theorem Rk:OK sW.e:=by
 refine aV [Ap.e] ⟨abU,⟨⟩⟩ UA λs0 fs nx q r=>show sW.goal (Rl s0 fs nx q r) ((s0,fs,nx,()),q,r,())fromλhin hp=>?_
 dsimp only[sW]at hp ⊢;obtain⟨h1,h2,h3⟩:=hp;have hl:fs.length<=1000:=h1.2.1;exact Y9 (K:=λz=>z=(Sp.sel fs q (aY r),())) (λf=>kC q f (aY r)) (λf:aA=>(f.1,())) (0,0,false,0,[],()) fs _ (A:=λ_=>q.length<=1000/\bW r) (λ_ _=>⟨h2,h3⟩) (by omega) rfl
theorem Rn:OK tq.e:=by
 refine aV [] ⟨⟩ UB λa b=>show tq.goal (Ro a b) (a,b,())fromλhin hp=>?_
 dsimp only[tq]at hp ⊢;exact eqL (K:=λr=>r=(decide (a=b),())) (λx y:Int×Unit=>x.1 !=y.1) (λx y=>by simp[Prod.ext_iff]) _ a b _ hin.1.1 rfl
end Go.Proofs.Tryz
namespace Go.Proofs.Tryz
open Go Go.Fw Go.IntWalk Sp
theorem amo{fs:List aA}{a:List dI}{nx:Int}{d:List ay}(r:List bK)(nm:Sp.Bytes->Bool):∃out,(aI d&&bf (a,fs,nx,()))=true->kH fs d r nm out:=by
 by_cases h:(aI d&&bf (a,fs,nx,()))=true
 .rw[as1]at h;obtain⟨au,hl⟩:=ahi h.1;obtain⟨out,ho⟩:=ace r nm (jl.1 h.1).1 hl (BI h.2);exact⟨out,λ_=>ho⟩
 .exact⟨[],λh'=>(h h').elim⟩
theorem LM{fs:List aA}{a:List dI}{nx:Int}{d:List ay}(r:List bK)(nm:Sp.Bytes->Bool):∃out,((aI d&&bf (a,fs,nx,()))=true->kH fs d r nm out)/\((aI d&&bf (a,fs,nx,()))=false->out=[]):=by
 cases h:(aI d&&bf (a,fs,nx,()))with
 |true=>obtain⟨out,ho⟩:=amo (fs:=fs) (a:=a) (nx:=nx) (d:=d) r nm;exact⟨out,λ_=>ho h,λh=>by cases h⟩
 |false=>exact⟨[],λh=>(by cases h),λ_=>rfl⟩
abbrev DD0:ay:=([],[],())
theorem aoN{a b:Int}(h:(a !=b)=false):a=b:=by simpa using h
theorem ahs{α β:Type}(g:α->β)(d:α)(l:List α){n:Nat}(h:n<l.length):(l.take n).map g++[g (l.getD n d)]=(l.take (n+1)).map g:=by rw[Sp.take_succ' l n d h,atE];rfl
theorem Em{d:List ay}(h:aI d=true):dV d=true/\d.length<=5:=⟨(jl.1 h).1,Pj (jl.1 h).1⟩
theorem still_at{d:List ay}{au:List (Int×Unit)}{nm:Sp.Bytes->Bool}{fs:List aA}{out:List bK}{k:Nat}
 (h:∀j,j<d.length->j<d.length->nm (Sp.nameOf d j)=true->Sp.lv au j=k->Sp.sel fs (fA d j) (aY out)=gm out j):∀i,i<d.length->nm (Sp.nameOf d i)=true->Sp.lv au i=k->Sp.sel fs (fA d i) (aY out)=gm out i:=λi hi=>h i hi hi
theorem aht:∀(l:List (Int×Unit)),0<l.length->∃m:Int,(∀x∈l,x.1<=m)/\(m,())∈l
 |[x],_=>⟨x.1,λy hy=>by rw[atI.1 hy];exact atD _,atI.2 rfl⟩
 |x::y::r,_=>by
  obtain⟨m,h1,h2⟩:=aht (y::r) (by simp);by_cases h:x.1<=m
  .exact⟨m,λz hz=>by rcases atw.1 hz with rfl|hz;exact h;exact h1 z hz,as8 _ h2⟩
  .exact⟨x.1,λz hz=>by rcases atw.1 hz with rfl|hz;exact atD _;have:=h1 z hz;omega,as9⟩
theorem Ru:OK sZ.e:=by
 refine aV [Aq.e] ⟨abW,⟨⟩⟩ UL λs0 fs nx q r=>show sZ.goal (Rw s0 fs nx q r) ((s0,fs,nx,()),q,r,())fromλhin hp=>?_
 dsimp only[sZ]at hp ⊢;obtain⟨h1,h2,h3⟩:=hp;have hl:fs.length<=1000:=h1.2.1;obtain⟨I,μ,g0,g1⟩:=Y9 (K:=λz=>z=(Sp.sel fs q (aY r),())) (λf=>kC q f (aY r)) (λf:aA=>(f.1,())) (0,0,false,0,[],()) fs (q,r,(s0,fs,nx,()),()) (A:=λ_=>q.length<=1000/\bW r) (λ_ _=>⟨h2,h3⟩) (by omega) rfl;refine⟨I,μ,g0,λy hy=>?_⟩;have h:=g1 y hy;dsimp only at h ⊢;revert h;cases decide (y.1.2.1<(fs.length:Int))with
 |false=>exact id
 |true=>
  rintro⟨b,a,h⟩;refine⟨b,a,?_⟩;revert h;cases kC q (fs.getD (Int.toNat y.1.2.1) (0,0,false,0,[],())) (aY r)with
  |true=>exactλh=>⟨b,h.1,rfl,h.2.2⟩
  |false=>exactλh=>⟨rfl,h.2⟩
theorem Zm:OK yU.e:=by
 refine aV [] ⟨⟩ acf λd=>show yU.goal (Zn d) (d,())fromλhin hp=>?_
 dsimp only[yU]at hp ⊢;exact arC (K:=λr=>r=(mD d,())) (λx:ay=>(x.1,())) ([],[],()) d _ (by have hp:d.length<=2000000:=hp;omega) rfl
theorem WO:OK wQ.e:=by
 refine FV [] ⟨⟩ Zo (λ⟨l,_⟩ hp=>by obtain⟨m,h⟩:=aht l hp;exact⟨((m,()),()),h⟩) λl=>show wQ.goal (WQ l) (l,())fromλhin hp=>?_
 dsimp only[wQ]at hp ⊢;have hp:0<l.length:=hp;have hlen:l.length<=maxLen:=hin.1.1;rw[maxLen_eq]at hlen;refine⟨λ_=>True,af (λh=>by have:=iK h;omega) λh=>⟨rfl,trivial⟩,λ_ _=>⟨⟨by omega,by omega⟩,?_⟩⟩;refine⟨λy=>∃n:Nat,y.1.2.1=n/\1<=n/\n<=l.length/\(∀i,i<n->Sp.lv l i<=y.1.1)/\∃i,i<l.length/\Sp.lv l i=y.1.1,λy=>((l.length:Int)-y.1.2.1).toNat,⟨1,rfl,by omega,by omega,λi hi=>by rw[show i=0 by omega];exact atD _,0,hp,rfl⟩,?_⟩;rintro⟨⟨m,_,⟨⟩⟩,⟨⟩⟩ ⟨n,rfl,n1,n2,h1,h2⟩;dsimp only at h1 h2 ⊢;refine af (λhc=>?_) λhc=>⟨λx hx=>?_,?_⟩
 .have hc:=iK hc;have w:IntKind.i64.wrap ((n:Int)+1)=((n+1:Nat):Int):=eu _ (by omega);rw[w];have e:(l.getD (Int.toNat (n:Int)) (0,())).1=Sp.lv l n:=rfl;rw[e];refine⟨⟨by omega,by omega⟩,rfl,⟨n+1,rfl,by omega,by omega,λi hi=>?_,?_⟩,by omega⟩
  .by_cases hi':i=n
   .subst hi';split<;>omega
   .have:=h1 i (by omega);split<;>omega
  .split
   .exact⟨n,by omega,rfl⟩
   .exact h2
 .have hc:=iW hc;exact ahj (p:=λz=>z<=m) (λi hi=>h1 i (by omega)) x hx
 .obtain⟨i,hi,e⟩:=h2;have:=UM hi;rw[e]at this;exact this
theorem UN:OK uO.e:=by
 refine FV [wQ.e,xU.e] ⟨WO,NY,⟨⟩⟩ H0 (λ⟨d,_⟩ _=>⟨(((1000:Int),()),()),⟨atD _,λau hs hl i hi=>by have:=(hl.2.1 i hi).2;have:=(Em hs).2;show Sp.lv au i<=1000;omega⟩⟩) λd=>show uO.goal (UO d) (d,())fromλhin hp=>?_
 dsimp only[uO]at hp ⊢;refine⟨hp,?_⟩;rintro⟨⟨au,ok,⟨⟩⟩,⟨⟩⟩ ⟨e1,e2⟩;have e1:ok=aI d:=e1;have e2:ok=true->jV d au:=e2;refine af (λh=>?_) λh=>af (λh2=>?_) λh2=>⟨?_,?_⟩
 .have h:ok=false:=iR h;exact⟨by decide,λl hs=>by rw[← e1,h]at hs;cases hs⟩
 .have h2:(au.length:Int)=0:=by simpa using h2
  have hl:=e2 (dY h);exact⟨by decide,λl hs hl' i hi=>by have:=hl.1;omega⟩
 .have h2:¬(au.length:Int)=0:=by simpa using h2
  show 0<au.length;omega
 .rintro⟨⟨m,⟨⟩⟩,⟨⟩⟩ ⟨g1,g2⟩;have hl:=e2 (dY h);have hlen:=(Em (e1▸dY h)).2;have g2:(m,())∈au:=g2;refine⟨?_,λl hs hl' i hi=>?_⟩
  .obtain⟨i,hi,e⟩:=atF g2;have hi':i<d.length:=by rw[← hl.1];exact hi
   have:=(hl.2.1 i hi').2;have e3:Sp.lv au i=m:=by unfold Sp.lv;rw[atn,as5 hi,e];rfl
   show m<=1000;omega
  .rw[UQ hl' hl];exact g1 _ (UM (by rw[hl.1];exact hi))
theorem UR:OK uP.e:=by
 refine FV [xW.e] ⟨NW,⟨⟩⟩ WR (λ⟨d,_⟩ _=>⟨(((1000:Int),()),()),⟨atD _,λau hs hl i hi=>by have:=(hl.2.1 i hi).2;have:=(Em hs).2;show Sp.lv au i<=1000;omega⟩⟩) λd=>show uP.goal (UU d) (d,())fromλhin hp=>?_
 dsimp only[uP]at hp ⊢;refine⟨hp,?_⟩;rintro⟨⟨au,ok,⟨⟩⟩,⟨⟩⟩ ⟨e1,e2,e3⟩;have e1:ok=aI d:=e1;have e2:ok=true->jV d au:=e2;have e3:ok=false->au=[]:=e3;have hlen:au.length<=5/\∀i,i<au.length->Sp.lv au i<=1000:=by
  cases hk:ok with
  |false=>rw[e3 hk];exact⟨by decide,λi hi=>by simp at hi⟩
  |true=>have hl:=e2 hk;have h5:=(Em (e1▸hk)).2;exact⟨by rw[hl.1];exact h5,λi hi=>by have:=(hl.2.1 i (by rw[← hl.1];exact hi)).2;omega⟩
 refine⟨λy=>∃n:Nat,y.1.2.1=n/\n<=au.length/\y.1.1<=1000/\∀i,i<n->Sp.lv au i<=y.1.1,λy=>((au.length:Int)-y.1.2.1).toNat,⟨0,rfl,by omega,by decide,λi hi=>by omega⟩,?_⟩;rintro⟨⟨m,_,⟨⟩⟩,⟨⟩⟩ ⟨n,rfl,n2,hm,h1⟩;dsimp only at hm h1 ⊢;have e:(au.getD (Int.toNat (n:Int)) (0,())).1=Sp.lv au n:=rfl;rw[e];refine af (λhc=>?_) λhc=>?_
 .have hc:=iK hc;have w:IntKind.i64.wrap ((n:Int)+1)=((n+1:Nat):Int):=eu _ (by omega);rw[w];have ap2:=hlen.2 n (by omega);refine⟨⟨by omega,by omega⟩,af (λg=>⟨⟨by omega,by omega⟩,rfl,⟨n+1,rfl,by omega,ap2,λi hi=>?_⟩,by dsimp only;omega⟩) λg=>⟨rfl,⟨n+1,rfl,by omega,hm,λi hi=>?_⟩,by dsimp only;omega⟩⟩
  .have g:=iK g;by_cases hi':i=n
   .subst hi';exact atD _
   .have:=h1 i (by omega);dsimp only;omega
  .have g:=iW g;by_cases hi':i=n
   .subst hi';dsimp only;omega
   .exact h1 i (by omega)
 .have hc:=iW hc;refine⟨hm,λl hs hl' i hi=>?_⟩;have hl:=e2 (e1.trans hs);rw[UQ hl' hl];exact h1 i (by rw[← hl.1]at hi;omega)
theorem WS:OK wR.e:=by
 refine FV [tq.e,sW.e,uO.e,lH.e,jG.e,nN.e,xU.e] ⟨Rn,Rk,UN,BZ,zJ,Fb,NY,⟨⟩⟩ Zp (λ⟨(a,fs,nx,_),d,r,names,_⟩ _=>by obtain⟨out,h⟩:=LM (fs:=fs) (a:=a) (nx:=nx) (d:=d) r (lG names);exact⟨(((out,0,(aI d&&bf (a,fs,nx,())),()),())),⟨rfl,h⟩⟩) λa fs nx d r names=>show wR.goal (WT a fs nx d r names) ((a,fs,nx,()),d,r,names,())fromλhin hp=>?_
 dsimp only[wR]at hp ⊢;obtain⟨hs,hd,hr⟩:dH (a,fs,nx,())/\fF d/\bW r:=hp;refine⟨hd,?_⟩;rintro⟨⟨au,ok0,⟨⟩⟩,⟨⟩⟩ ⟨e1,e2⟩;have e1:ok0=aI d:=e1;have e2:ok0=true->jV d au:=e2;refine⟨λ_=>ok0=true/\bf (a,fs,nx,())=true,af (λh=>?_) λh=>⟨trivial,af (λh2=>?_) λh2=>⟨rfl,dY h,dY h2⟩⟩,?_⟩
 .have h:ok0=false:=iR h;have hz:(aI d&&bf (a,fs,nx,()))=false:=by rw[← e1,h];rfl
  exact⟨hz.symm,λh=>(by cases h),λ_=>rfl⟩
 .have h2:bf (a,fs,nx,())=false:=iR h2;have hz:(aI d&&bf (a,fs,nx,()))=false:=by rw[h2,aub]
  exact⟨hz.symm,λh=>(by cases h),λ_=>rfl⟩
 rintro y3 ⟨hk,hst⟩;have JO:aI d=true:=e1▸hk;have hz:(aI d&&bf (a,fs,nx,()))=true:=by rw[JO,hst];rfl
 obtain⟨hok,hlen⟩:=Em JO;have hd:qW d:=Ag hok;have hl:jV d au:=e2 hk;have hf:=BI hst;have hf:Sp.distinct fs:=hf;have hfs:fs.length<=1000:=hs.2.1;refine eH (λi(x:List bK)=>(((),i,()),x,())) (λy=>y.1.2.1) (λ_ _=>rfl) d.length (by omega) (λn l=>l=(d.take n).map (wH r (lG names))) rfl (λI μ n l hn hJ next=>?_) λI μ l hJ=>?_
 .subst hJ;have hl:((d.take n).map (wH r (lG names))).length<=n:=by rw[atb,atv];omega
  have step:=ahs (wH r (lG names)) DD0 d hn;dsimp only;refine bY (by omega) ⟨⟨by omega,by omega⟩,trivial,af (λh=>⟨hr,by rw[dm];simp only[asY,as6];omega,rfl,next _ ?_⟩) λh=>⟨by rw[dm];simp only[asY,as6];omega,rfl,next _ ?_⟩⟩
  .rw[← step];have h:lG names (d.getD n DD0).1=false:=iR h;unfold wH;rw[h];rfl
  .rw[← step];have h:lG names (d.getD n DD0).1=true:=dY h;unfold wH;rw[h];rfl
 subst hJ;rw[atg];dsimp only;refine bV (by omega) ⟨λy=>∃k:Nat,y.1.2.1=k/\ng fs d r (lG names) au k y.2.1,λy=>(1002-y.1.2.1).toNat,⟨0,rfl,MQ hok hl⟩,?_⟩;rintro⟨⟨ps,_,⟨⟩⟩,out,⟨⟩⟩ ⟨k,rfl,A⟩;dsimp only at A ⊢;refine⟨afb hd,?_⟩;rintro⟨⟨m,⟨⟩⟩,⟨⟩⟩ ⟨m1,m2⟩;have m1:m<=1000:=m1;have m2:∀i,i<d.length->Sp.lv au i<=m:=m2 au JO hl;refine af (λhc=>?_) λhc=>⟨hz.symm,λ_=>Sp.at_end hok hl A λi hi=>(by have:=m2 i hi;have hc:¬(k:Int)<=m:=iW hc;omega),λh=>by cases h⟩;have hc:(k:Int)<=m:=iK hc;refine⟨λy=>ng fs d r (lG names) au k y.2.1/\(y.1.2.1=false->∀i,i<d.length->lG names (Sp.nameOf d i)=true->Sp.lv au i=k->Sp.sel fs (fA d i) (aY y.2.1)=gm y.2.1 i),λy=>Sp.room fs.length y.2.1*2+(if y.1.2.1=true then 1 else 0),⟨A,λh=>by cases h⟩,?_⟩;rintro⟨⟨ps2,ch,⟨⟩⟩,ahu,⟨⟩⟩ ⟨A2,st2⟩;dsimp only at A2 st2 ⊢;have wk:IntKind.i64.wrap ((k:Int)+1)=((k+1:Nat):Int):=eu _ (by omega);refine af (λhch=>?_) λhch=>⟨rfl,⟨k+1,wk,Sp.at_next hok A2 (st2 hch)⟩,by rw[wk];dsimp only;omega⟩;subst hch;refine eH (λi(x:Bool×List bK)=>((x.1,i,()),x.2,())) (λy=>y.1.2.1) (λ_ _=>rfl) d.length (by omega) (λi x=>Jb fs d r (lG names) au k ahu i x.1 x.2) (s0:=(false,ahu)) ⟨A2,λh=>(by cases h),λ_=>⟨rfl,λj hj=>by omega⟩⟩ (λI μ i x hi hJ next=>?_) λI μ x hJ=>?_
 .obtain⟨c,MR⟩:=x;have A3:=hJ.1;have ol:MR.length=d.length:=A3.order.1;have hsm:=Xw A3 (by omega) hfs hr;dsimp only;rw[ata];refine bY (by omega) ⟨⟨by omega,by omega⟩,⟨by omega,by rw[hl.1];omega⟩,af (λh=>⟨rfl,next (c,MR) (Hw hJ λ_ h'=>?_)⟩) λh=>⟨trivial,af (λh2=>⟨rfl,next (c,MR) (Hw hJ λh'=>?_)⟩) λh2=>⟨⟨hs,Gn hd hi,hsm⟩,⟨by omega,by omega⟩,by omega,trivial,af (λh3=>⟨⟨by omega,by omega⟩,by omega,rfl,next (true,_) (ahv hok hl hf hJ hi (dY h2) ?_ ?_)⟩) λh3=>⟨rfl,next (c,MR) (Hw hJ λ_ _=>?_)⟩⟩⟩⟩
  .exact(bne_iff_ne.1 h h').elim
  .have h2:lG names (Sp.nameOf d i)=false:=iR h2;rw[h2]at h';cases h'
  .exact aoN h
  .exact iW (iR h3)
  .exact iK (dY h3)
 .obtain⟨c,MR⟩:=x;dsimp only;obtain⟨A3,c1,c2⟩:=hJ;refine bV (by omega) ⟨rfl,⟨A3,λhc=>still_at (c2 hc).2⟩,?_⟩;cases c with
  |true=>have:=c1 rfl;dsimp only at this ⊢;simp only[if_true];omega
  |false=>have:=(c2 rfl).1;dsimp only at this ⊢;rw[this];simp
theorem aed:OK Dh.e:=by
 refine FV [vH.e,sZ.e,uP.e,nM.e,xW.e] ⟨KZ,Ru,UR,E8,NW,⟨⟩⟩ afL (λ⟨(a,fs,nx,_),d,_⟩ _=>by obtain⟨out,h⟩:=LM (fs:=fs) (a:=a) (nx:=nx) (d:=d) [] (λ_=>true);exact⟨(((out,0,(aI d&&bf (a,fs,nx,())),()),())),⟨rfl,h⟩⟩) λa fs nx d=>show Dh.goal (aee a fs nx d) ((a,fs,nx,()),d,())fromλhin hp=>?_
 dsimp only[Dh]at hp ⊢;obtain⟨hs,hd⟩:dH (a,fs,nx,())/\fF d:=hp;have hr:bW []:=⟨by decide,λx hx=>by cases hx⟩;refine⟨hd,?_⟩;rintro⟨⟨au,ok0,⟨⟩⟩,⟨⟩⟩ ⟨e1,e2,_⟩;have e1:ok0=aI d:=e1;have e2:ok0=true->jV d au:=e2;refine⟨λ_=>ok0=true/\bf (a,fs,nx,())=true,af (λh=>?_) λh=>⟨trivial,af (λh2=>?_) λh2=>⟨rfl,dY h,dY h2⟩⟩,?_⟩
 .have h:ok0=false:=iR h;have hz:(aI d&&bf (a,fs,nx,()))=false:=by rw[← e1,h];rfl
  exact⟨hz.symm,λh=>(by cases h),λ_=>rfl⟩
 .have h2:bf (a,fs,nx,())=false:=iR h2;have hz:(aI d&&bf (a,fs,nx,()))=false:=by rw[h2,aub]
  exact⟨hz.symm,λh=>(by cases h),λ_=>rfl⟩
 rintro y3 ⟨hk,hst⟩;have JO:aI d=true:=e1▸hk;have hz:(aI d&&bf (a,fs,nx,()))=true:=by rw[JO,hst];rfl
 obtain⟨hok,hlen⟩:=Em JO;have hd:qW d:=Ag hok;have hl:jV d au:=e2 hk;have hf:=BI hst;have hf:Sp.distinct fs:=hf;have hfs:fs.length<=1000:=hs.2.1;refine eH (λi(x:List bK)=>(((),i,()),x,())) (λy=>y.1.2.1) (λ_ _=>rfl) d.length (by omega) (λn l=>l=(d.take n).map (wH [] (λ_=>true))) rfl (λI μ n l hn hJ next=>?_) λI μ l hJ=>?_
 .subst hJ;have hl:((d.take n).map (wH [] (λ_=>true))).length<=n:=by rw[atb,atv];omega
  have step:=ahs (wH [] (λ_=>true)) DD0 d hn;dsimp only;refine bY (by omega) ⟨⟨by omega,by omega⟩,by rw[dm];simp only[asY,as6];omega,rfl,next _ ?_⟩;rw[← step];rfl
 subst hJ;rw[atg];dsimp only;refine bV (by omega) ⟨λy=>∃k:Nat,y.1.2.1=k/\ng fs d [] (λ_=>true) au k y.2.1,λy=>(1002-y.1.2.1).toNat,⟨0,rfl,MQ hok hl⟩,?_⟩;rintro⟨⟨ps,_,⟨⟩⟩,out,⟨⟩⟩ ⟨k,rfl,A⟩;dsimp only at A ⊢;refine⟨afb hd,?_⟩;rintro⟨⟨m,⟨⟩⟩,⟨⟩⟩ ⟨m1,m2⟩;have m1:m<=1000:=m1;have m2:∀i,i<d.length->Sp.lv au i<=m:=m2 au JO hl;refine af (λhc=>?_) λhc=>⟨hz.symm,λ_=>Sp.at_end hok hl A λi hi=>(by have:=m2 i hi;have hc:¬(k:Int)<=m:=iW hc;omega),λh=>by cases h⟩;have hc:(k:Int)<=m:=iK hc;refine⟨λy=>ng fs d [] (λ_=>true) au k y.2.1/\(y.1.2.1=false->∀i,i<d.length->true=true->Sp.lv au i=k->Sp.sel fs (fA d i) (aY y.2.1)=gm y.2.1 i),λy=>Sp.room fs.length y.2.1*2+(if y.1.2.1=true then 1 else 0),⟨A,λh=>by cases h⟩,?_⟩;rintro⟨⟨ps2,ch,⟨⟩⟩,ahu,⟨⟩⟩ ⟨A2,st2⟩;dsimp only at A2 st2 ⊢;have wk:IntKind.i64.wrap ((k:Int)+1)=((k+1:Nat):Int):=eu _ (by omega);refine af (λhch=>?_) λhch=>⟨rfl,⟨k+1,wk,Sp.at_next hok A2 (st2 hch)⟩,by rw[wk];dsimp only;omega⟩;subst hch;refine eH (λi(x:Bool×List bK)=>((x.1,i,()),x.2,())) (λy=>y.1.2.1) (λ_ _=>rfl) d.length (by omega) (λi x=>Jb fs d [] (λ_=>true) au k ahu i x.1 x.2) (s0:=(false,ahu)) ⟨A2,λh=>(by cases h),λ_=>⟨rfl,λj hj=>by omega⟩⟩ (λI μ i x hi hJ next=>?_) λI μ x hJ=>?_
 .obtain⟨c,MR⟩:=x;have A3:=hJ.1;have ol:MR.length=d.length:=A3.order.1;have hsm:=Xw A3 (by omega) hfs hr;dsimp only;rw[ata];refine bY (by omega) ⟨⟨by omega,by rw[hl.1];omega⟩,af (λh=>⟨rfl,next (c,MR) (Hw hJ λ_ h'=>?_)⟩) λh=>⟨⟨by omega,by omega⟩,⟨hs,Gn hd hi,hsm⟩,⟨by omega,by omega⟩,by omega,trivial,af (λh3=>⟨⟨by omega,by omega⟩,by omega,rfl,next (true,_) (ahv hok hl hf hJ hi rfl ?_ ?_)⟩) λh3=>⟨rfl,next (c,MR) (Hw hJ λ_ _=>?_)⟩⟩⟩
  .exact(bne_iff_ne.1 h h').elim
  .exact aoN h
  .exact iW (iR h3)
  .exact iK (dY h3)
 .obtain⟨c,MR⟩:=x;dsimp only;obtain⟨A3,c1,c2⟩:=hJ;refine bV (by omega) ⟨rfl,⟨A3,λhc=>still_at (nm:=λ_=>true) (c2 hc).2⟩,?_⟩;cases c with
  |true=>have:=c1 rfl;dsimp only at this ⊢;simp only[if_true];omega
  |false=>have:=(c2 rfl).1;dsimp only at this ⊢;rw[this];simp
end Go.Proofs.Tryz
namespace Go.Proofs.Tryz
open Go Go.Fw Go.IntWalk Sp
theorem JQ:OK tu.e:=by
 refine aV [] ⟨⟩ H0 λf0 f1 f2 f3 f4 id=>show tu.goal (Zq f0 f1 f2 f3 f4 id) ((f0,f1,f2,f3,f4,()),(id,()),())fromλhin hp=>?_
 dsimp only[tu]at hp ⊢;exact rfl
theorem uJ:OK fM.e:=by
 refine aV [tu.e] ⟨JQ,⟨⟩⟩ uN λs1 id=>show fM.goal (uK s1 id) (s1,((id,()),()),())fromλhin hp=>?_
 dsimp only[fM]at hp ⊢;have hlen:s1.length<=maxLen:=hin.1.1;rw[maxLen_eq]at hlen;refine eP s1.length hlen (λn=>∀i,i<n->(Sp.fileAt s1 i).1≠id) (λi hi=>by omega) (λI μ n hn hJ next=>?_) λI μ hJ=>?_
 .dsimp only;refine bY (by omega) ⟨⟨by omega,by omega⟩,trivial,af (λh=>?_) λh=>⟨rfl,next λi hi=>?_⟩⟩
  .have h:(Sp.fileAt s1 n).1=id:=iK h;exact congrArg (·,()) (Sp.Gm hn hJ h).symm
  .rcases atm i n with h'|h'
   .exact hJ i h'
   .have:i=n:=by omega
    subst this;have h:¬(Sp.fileAt s1 i).1=id:=iW h;exact h
 .dsimp only;exact bV (by omega) (congrArg (·,()) (O7 hJ).symm)
theorem Oo:OK xX.e:=by
 refine aV [fM.e,tu.e] ⟨uJ,JQ,⟨⟩⟩ H0 λs0 s1 s2 id=>show xX.goal (aef s0 s1 s2 id) ((s0,s1,s2,()),id,())fromλhin hp=>?_
 dsimp only[xX]at hp ⊢;exact⟨trivial,rfl⟩
theorem PL{d:List ay}{i:Nat}(hi:i<d.length):lG (mD d) (Sp.nameOf d i)=true:=by rw[ahw];unfold mD;rw[atY];exact⟨bQ d i,getD_mem hi,rfl⟩
theorem FH:bW []:=⟨by decide,λx hx=>by cases hx⟩
theorem alr{fs:List aA}{d:List ay}{out:List bK}(h:kH fs d [] (lG (mD d)) out):kH fs d [] (λ_=>true) out:=
 ain h (λi hi=>PL hi) λi hi hn=>absurd ((PL hi).symm.trans hn) (by decide)
theorem Zr:OK yV.e:=by
 refine FV [wR.e,yU.e] ⟨WS,Zm,⟨⟩⟩ H0 (λ⟨(a,fs,nx,_),d,_⟩ _=>by obtain⟨out,h⟩:=LM (fs:=fs) (a:=a) (nx:=nx) (d:=d) [] (λ_=>true);exact⟨(((out,(aI d&&bf (a,fs,nx,())),()),())),⟨rfl,h⟩⟩) λa fs nx d=>show yV.goal (Zt a fs nx d) ((a,fs,nx,()),d,())fromλhin hp=>?_
 dsimp only[yV]at hp ⊢;refine⟨hp.2.1,⟨hp.1,hp.2,FH⟩,λr hr=>⟨hr.1,λh=>alr (hr.2.1 h),hr.2.2⟩⟩
theorem Zu:OK yX.e:=by
 refine FV [Dh.e] ⟨aed,⟨⟩⟩ acg (λ⟨(a,fs,nx,_),d,_⟩ _=>by obtain⟨out,h⟩:=LM (fs:=fs) (a:=a) (nx:=nx) (d:=d) [] (λ_=>true);exact⟨(((out,(aI d&&bf (a,fs,nx,())),()),())),⟨rfl,h⟩⟩) λa fs nx d=>show yX.goal (Zv a fs nx d) ((a,fs,nx,()),d,())fromλhin hp=>?_
 dsimp only[yX]at hp ⊢;exact⟨hp,λr hr=>hr⟩
end Go.Proofs.Tryz
namespace Go.Proofs.Tryz
open Go Go.Fw Go.IntWalk Sp
def asks(name:Sp.Bytes)(x:ay):Bool:=(ach x.2.1).contains name
theorem UW{α:Type}[BEq α][LawfulBEq α]:∀(a b:List α),a.Nodup->(∀x∈a,x∈b)->a.length<=b.length
 |[],_,_,_=>atl _
 |x::r,b,hn,h=>by
  rw[avj]at hn;have hx:=h x as9;have ih:=UW r (b.erase x) hn.2 λy hy=>by
   have hne:y≠x:=λe=>by subst e;exact hn.1 hy
   rw[List.mem_erase_of_ne hne];exact h y (as8 _ hy)
  rw[List.length_erase_of_mem hx]at ih;have:0<b.length:=List.length_pos_of_mem hx;rw[asY];omega
def Grown(d:List ay)(names out:Sp.LS):Prop:=∃ex,out=names++ex/\ex.Nodup/\(∀x∈ex,x∈mD d)/\∀x∈out,Sp.Reach d (λs=>lG names s=true) x.1
theorem Grown.len{d:List ay}{names out:Sp.LS}(h:Grown d names out):out.length<=names.length+d.length:=by obtain⟨ex,rfl,h1,h2,_⟩:=h;have:=UW ex (mD d) h1 h2;unfold mD at this;rw[atb]at this;rw[as4];omega
theorem Grown.add{d:List ay}{names out:Sp.LS}(h:Grown d names out){x:Sp.Bytes×Unit}(h1:x∈mD d)(h2:x ∉ out)(h3:Sp.Reach d (λs=>lG names s=true) x.1):Grown d names (out++[x]):=by
 obtain⟨ex,rfl,g1,g2,g3⟩:=h;refine⟨ex++[x],by rw[atz],?_,λy hy=>?_,λy hy=>?_⟩
 .rw[List.nodup_append];refine⟨g1,avj.2 ⟨by simp,List.nodup_nil⟩,λa ha b hb e=>h2 ?_⟩;rw[atI.1 hb]at e;exact atA.2 (.inr (e▸ha))
 .rcases atA.1 hy with hy|hy
  .exact g2 y hy
  .rw[atI.1 hy];exact h1
 .rcases atA.1 hy with hy|hy
  .exact g3 y hy
  .rw[atI.1 hy];exact h3
theorem ahx{d:List ay}{i:Nat}(hi:i<d.length):(Sp.nameOf d i,())∈mD d:=ahw.1 (PL hi)
end Go.Proofs.Tryz
namespace Go.Proofs.Tryz
open Go Go.Fw Go.IntWalk Sp
theorem PG{r:List bK}(h:bW r)(s:Sp.Bytes):(dZ r s).length<=1000:=by
 have:∀l:List bK,(∀x∈l,x.2.1.length<=1000)->(dZ l s).length<=1000:=by
  intro l
  induction l with
  |nil=>exactλ_=>atl _
  |cons x t ih=>
   intro hl;rw[dZ];cases x.1==s with
   |true=>exact hl x as9
   |false=>exact ih λy hy=>hl y (as8 _ hy)
 exact this r h.2
theorem aio{fs:List aA}{d:List ay}{r out:List bK}{nm:Sp.Bytes->Bool}(h:kH fs d r nm out)(hd:d.length<=1000)(hf:fs.length<=1000)(hr:bW r):bW out:=by
 refine⟨by rw[h.order.1];exact hd,λx hx=>?_⟩;obtain⟨i,hi,rfl⟩:=atF hx;have hi':i<d.length:=by rw[← h.order.1];exact hi
 have e:(out[i]).2.1=gm out i:=by unfold gm oL;rw[atn,as5 hi];rfl
 rw[e];cases hn:nm (Sp.nameOf d i)with
 |true=>
  rw[h.fix i hi' hn];unfold Sp.sel;rw[atb];exact as3 (aur _ _) hf
 |false=>rw[h.kept i hi' hn];exact PG hr _
end Go.Proofs.Tryz
namespace Go.Proofs.Tryz
open Go Go.Fw Go.IntWalk Sp
def akb(l:Sp.LS):Prop:=l.Pairwise λx y=>Op.bytesLess x.1 y.1=true
theorem als{x:Sp.Bytes×Unit}{r:Sp.LS}{s:Sp.Bytes}:DW (x::r) s=if Op.bytesLess x.1 s=true then x::DW r s else if x.1=s then x::r else(s,())::x::r:=by
 unfold DW;by_cases h:Op.bytesLess x.1 s=true
 .rw[if_pos h,List.takeWhile_cons_of_pos (p:=λx:Sp.Bytes×Unit=>Op.bytesLess x.1 s) h];dsimp only;rw[asY];cases hc:(decide ((r.takeWhile λx=>Op.bytesLess x.1 s).length<r.length)&&(r.getD (r.takeWhile λx=>Op.bytesLess x.1 s).length ([],())).1==s)with
  |true=>
   have:(decide ((r.takeWhile λx=>Op.bytesLess x.1 s).length+1<(x::r).length)&&((x::r).getD ((r.takeWhile λx=>Op.bytesLess x.1 s).length+1) ([],())).1==s)=true:=by rw[← hc,asY];simp[auB]
   rw[this];rfl
  |false=>
   have:(decide ((r.takeWhile λx=>Op.bytesLess x.1 s).length+1<(x::r).length)&&((x::r).getD ((r.takeWhile λx=>Op.bytesLess x.1 s).length+1) ([],())).1==s)=false:=by rw[← hc,asY];simp[auB]
   rw[this];rfl
 .rw[if_neg h,List.takeWhile_cons_of_neg (p:=λx:Sp.Bytes×Unit=>Op.bytesLess x.1 s) h];by_cases e:x.1=s
  .rw[if_pos e];simp[e]
  .rw[if_neg e];simp[asZ.2 e]
theorem ahy{s:Sp.Bytes}:∀{l:Sp.LS},akb l->akb (DW l s)
 |[],_=>List.pairwise_singleton _ _
 |y::r,h=>by
  obtain⟨h1,h2⟩:=atZ.1 h;have i1:=ahy (s:=s) h2;rw[als];by_cases c1:Op.bytesLess y.1 s=true
  .rw[if_pos c1];refine atZ.2 ⟨λz hz=>?_,i1⟩;rcases(JR z).1 hz with rfl|hz
   .exact c1
   .exact h1 z hz
  .rw[if_neg c1];by_cases c2:y.1=s
   .rw[if_pos c2];exact h
   .rw[if_neg c2];have c3:Op.bytesLess s y.1=true:=aci y.1 s (by simpa using c1) c2;refine atZ.2 ⟨λz hz=>?_,h⟩;rcases atw.1 hz with rfl|hz
    .exact c3
    .exact FI _ _ _ c3 (h1 z hz)
theorem anT{l b:Sp.LS}(h:akb l)(hs:∀x∈l,x∈b):l.length<=b.length:=by
 have hn:l.Nodup:=by unfold List.Nodup;exact List.Pairwise.imp (λ{a b} hab e=>VD hab (congrArg Prod.fst e)) h
 exact UW l b hn hs
structure Rd(d:List ay)(names out:Sp.LS):Prop where
 asc:akb out
 base:∀x∈names,x∈out
 reach:∀x∈out,Sp.Reach d (λs=>lG names s=true) x.1
 sub:∀x∈out,x∈names++mD d
theorem Rd.len{d:List ay}{names out:Sp.LS}(h:Rd d names out):out.length<=names.length+d.length:=by
 have:=anT h.asc h.sub;rw[as4]at this;have e:(mD d).length=d.length:=by unfold mD;rw[atb]
 omega
theorem Rd.put{d:List ay}{names out:Sp.LS}(h:Rd d names out){i:Nat}(hi:i<d.length){s:Sp.Bytes}(hs:(s,())∈out)(ha:s∈ach (fA d i)):Rd d names (DW out (Sp.nameOf d i)) where
 asc:=ahy h.asc
 base:=λx hx=>(JR x).2 (.inr (h.base x hx))
 reach:=λx hx=>by
  rcases(JR x).1 hx with rfl|hx
  .exact .step (h.reach _ hs) hi ha
  .exact h.reach x hx
 sub:=λx hx=>by
  rcases(JR x).1 hx with rfl|hx
  .exact atA.2 (.inr (ahx hi))
  .exact h.sub x hx
def shut(d:List ay)(out:Sp.LS):Prop:=∀i,i<d.length->∀s∈ach (fA d i),(s,())∈out->(Sp.nameOf d i,())∈out
end Go.Proofs.Tryz
namespace Go.Proofs.Tryz
open Go Go.Fw Go.IntWalk Sp
theorem stays{c:jL}{s:aT}{d:List ay}{b:Bool}(hb:b=false){z:jL}(e:z=c):Sp.became c s d b z [] false:=⟨hb.symm,λh=>(by cases h),λ_=>⟨e,rfl⟩⟩
end Go.Proofs.Tryz
namespace Go.Proofs.Tryz
open Go Go.Fw Go.IntWalk
theorem acj:OK Ar.e:=by
 refine aV [iO.e] ⟨jQ,⟨⟩⟩ H0 λf0 f1 f2 f3 f4 u=>show Ar.goal (ack f0 f1 f2 f3 f4 u) ((f0,f1,f2,f3,f4,()),u,())fromλhin hp=>?_
 dsimp only[Ar]at hp ⊢;refine⟨trivial,af (λh=>af (λh2=>?_) λh2=>?_) λh=>?_⟩
 all_goals refine congrArg (·,()) ?_
 .show _=((decide (0<=u)&&decide (u<=2))&&(decide (f1=u)||f2));rw[h,show decide (f1=u)=true from h2];rfl
 .show _=((decide (0<=u)&&decide (u<=2))&&(decide (f1=u)||f2));rw[h,show decide (f1=u)=false from h2];rfl
 .show _=((decide (0<=u)&&decide (u<=2))&&(decide (f1=u)||f2));rw[h];rfl
theorem acn:OK Au.e:=by
 refine aV [rW.e] ⟨Gl,⟨⟩⟩ H0 λf0 f1 f2 f3 f4 u=>show Au.goal (aco f0 f1 f2 f3 f4 u) ((f0,f1,f2,f3,f4,()),u,())fromλhin hp=>?_
 dsimp only[Au]at hp ⊢;refine⟨trivial,af (λh=>af (λh2=>?_) λh2=>?_) λh=>?_⟩
 all_goals refine congrArg (·,()) ?_
 .show _=((decide (0<=u)&&decide (u<=2))&&(decide (f1=u)||f2));rw[h,show decide (f1=u)=true from h2];rfl
 .show _=((decide (0<=u)&&decide (u<=2))&&(decide (f1=u)||f2));rw[h,show decide (f1=u)=false from h2];rfl
 .show _=((decide (0<=u)&&decide (u<=2))&&(decide (f1=u)||f2));rw[h];rfl
end Go.Proofs.Tryz
namespace Go.Proofs.Tryz
open Go Go.Fw Go.IntWalk Sp
theorem made{c z:jL}{u:Int}{x:ja}{s:aT}{d:List ay}{b ok:Bool}{df:List LQ}(hu:yx u=true)(hc:LU c=true)(h1:aiT c x=s)(h2:alu c x=d)(h3:anp c u x=b)(h:Sp.became c s d b z df ok):Sp.applied c u x z df ok:=by unfold Sp.applied amq;rw[h1,h2,h3,hu,hc];exact h
theorem seen{c z:jL}{u:Int}{x:ja}{df:List LQ}{ok:Bool}(h:Sp.applied c u x z df ok):(ok=false->amq c u x=false)/\(ok=true->Sp.applied c u x z df true):=
 ⟨λe=>h.1.symm.trans e,λe=>by rw[e]at h;exact h⟩
end Go.Proofs.Tryz
namespace Go.Proofs.Tryz
open Go Go.Fw Go.IntWalk Sp
theorem FC:OK nO.e:=by
 refine aV [sG.e,vF.e,Ar.e] ⟨JE,KX,acj,⟨⟩⟩ Rz λs0 s1 s2 u=>show nO.goal (PN s0 s1 s2 u) ((s0,s1,s2,()),u,())fromλhin hp=>?_
 dsimp only[nO]at hp ⊢;obtain⟨h0,h1,h2⟩:s0.length<=1000/\s1.length<=1000/\∀f∈s1,Oq f:=hp;refine⟨by rw[dm];omega,?_⟩;refine eH (λi(x:List aA)=>((i,()),((),(),s2,()),x,())) (λy=>y.1.1) (λ_ _=>rfl) s1.length (by omega) (λn l=>l=(s1.take n).filter (iJ · u)) (by simp) (λI μ n l hn hJ next=>?_) λI μ l hJ=>?_
 .subst hJ;have hl:=KY s1 (iJ · u) n;dsimp only;refine bY (by omega) ⟨⟨by omega,by omega⟩,trivial,af (λh=>⟨⟨by omega,by omega⟩,IY (h2 _ (getD_mem (d:=((0:Int),(0:Int),false,(0:Int),[],())) hn)),by rw[dm];simp only[asY,as6];omega,rfl,next _ ?_⟩) λh=>⟨rfl,next _ ?_⟩⟩
  .rw[Gx _ hn,if_pos (show iJ (Sp.fileAt s1 n) u=true from h)];rfl
  .rw[Gx _ hn,if_neg (show ¬iJ (Sp.fileAt s1 n) u=true fromλh'=>by have h:iJ (Sp.fileAt s1 n) u=false:=h;rw[h]at h';cases h'),atM]
 .rw[atg]at hJ;subst hJ;dsimp only;have hl:=aur (iJ · u) s1;refine bV (by omega) ?_;generalize hfs:List.filter (λx=>iJ x u) s1=fs at hl ⊢;refine eH (λi(x:List aA)=>((i,()),x,())) (λy=>y.1.1) (λ_ _=>rfl) fs.length (by omega) (λn l=>l=iD fs n) (by simp[iD]) (λI μ n l hn hJ next=>?_) λI μ l hJ=>?_
  .subst hJ;have hu:=Af fs (show n<=fs.length by omega);have ha:=MH fs hn;dsimp only;simp only[ata,ha,hu];refine bY (by omega) ⟨⟨by omega,by omega⟩,hn,trivial,af (λh=>⟨⟨by omega,by omega⟩,hn,trivial,next _ ?_⟩) λh=>⟨rfl,next _ ?_⟩⟩
   .exact((DJ fs hn).1 (iK h)).symm
   .exact((DJ fs hn).2 (iW h)).symm
  .subst hJ;have hu:=Af fs (as7 fs.length);dsimp only;refine bV (by omega) ?_;show _=(Sp.visible (s0,s1,s2,()) u,());unfold Sp.visible;rw[TP,← hfs]
theorem Fz:OK nP.e:=by
 refine aV [xX.e,sF.e,Au.e,lV.e] ⟨Oo,JD,acn,H8,⟨⟩⟩ RD λs0 s1 s2 u=>show nP.goal (PO s0 s1 s2 u) ((s0,s1,s2,()),u,())fromλhin hp=>?_
 dsimp only[nP]at hp ⊢;obtain⟨h0,h1,h2⟩:s0.length<=1000/\s1.length<=1000/\∀f∈s1,Oq f:=hp;refine⟨as3 h0 (by decide),?_⟩;refine eH (λi(x:List aA)=>((i,()),(s0,(),s2,()),x,())) (λy=>y.1.1) (λ_ _=>rfl) s1.length (by omega) (λn l=>l=(s1.take n).filter (iJ · u)) (by simp) (λI μ n l hn hJ next=>?_) λI μ l hJ=>?_
 .subst hJ;have hl:=KY s1 (iJ · u) n;dsimp only;refine bY (by omega) ⟨⟨by omega,by omega⟩,trivial,af (λh=>⟨IY (h2 _ (getD_mem (d:=((0:Int),(0:Int),false,(0:Int),[],())) hn)),by rw[dm];simp only[asY,as6];omega,rfl,next _ ?_⟩) λh=>⟨rfl,next _ ?_⟩⟩
  .rw[Gx _ hn,if_pos (show iJ (Sp.fileAt s1 n) u=true from h)];rfl
  .rw[Gx _ hn,if_neg (show ¬iJ (Sp.fileAt s1 n) u=true fromλh'=>by have h:iJ (Sp.fileAt s1 n) u=false:=h;rw[h]at h';cases h'),atM]
 .rw[atg]at hJ;subst hJ;dsimp only;have hl:=aur (iJ · u) s1;refine bV (by omega) ?_;generalize hfs:List.filter (λx=>iJ x u) s1=fs at hl ⊢;refine eH (λi(x:List aA)=>((i,()),x,())) (λy=>y.1.1) (λ_ _=>rfl) fs.length (by omega) (λn l=>l=iD fs n) (by simp[iD]) (λI μ n l hn hJ next=>?_) λI μ l hJ=>?_
  .subst hJ;have hu:=Af fs (show n<=fs.length by omega);have ha:=MH fs hn;dsimp only;simp only[ata,ha,hu];refine bY (by omega) ⟨⟨by omega,by omega⟩,hn,trivial,af (λh=>⟨⟨by omega,by omega⟩,hn,trivial,next _ ?_⟩) λh=>⟨rfl,next _ ?_⟩⟩
   .exact((DJ fs hn).1 (iK h)).symm
   .exact((DJ fs hn).2 (iW h)).symm
  .subst hJ;have hu:=Af fs (as7 fs.length);dsimp only;refine bV (by omega) ?_;show _=(Sp.visible (s0,s1,s2,()) u,());unfold Sp.visible;rw[TP,← hfs]
theorem UZ{s:aT}{d:List ay}{u:Int}(h:aiU s d u):dR s d u=(Aj (Sp.visible s u).2.1 d,true):=by unfold dR;rw[h.1,h.2.1,h.2.2];rfl
theorem qN{s:aT}{d:List ay}{u:Int}(h:bf s=false\/aI d=false\/yx u=false):dR s d u=([],false):=by
 unfold dR;have:(bf s&&(aI d&&yx u))=false:=by rcases h with h|h|h<;>rw[h]<;>simp
 rw[this];rfl
theorem U0{s:aT}{d:List ay}{u:Int}(h1:bf s=true)(h2:yx u=true){out:List bK}{ok:Bool}(hk:ok=(aI d&&bf (Sp.visible s u)))(ht:ok=true->kH (Sp.visible s u).2.1 d [] (λ_=>true) out)(hf:ok=false->out=[]):out=(dR s d u).1/\ok=(dR s d u).2:=by
 rw[PS u h1,auw]at hk;cases ok with
 |true=>rw[UZ ⟨h1,hk.symm,h2⟩];exact⟨(alv (Fp hk.symm) (ht rfl)).symm,rfl⟩
 |false=>rw[qN (.inr (.inl hk.symm))];exact⟨hf rfl,rfl⟩
theorem BQ:OK kW.e:=by
 refine FV [yV.e,nP.e,rW.e,nN.e] ⟨Zr,Fz,Gl,Fb,⟨⟩⟩ H0 (λ⟨s,d,u,_⟩ _=>⟨(((dR s d u).1,(dR s d u).2,()),()),⟨rfl,rfl⟩⟩) λs0 s1 s2 d u=>show kW.goal (J9 s0 s1 s2 d u) ((s0,s1,s2,()),d,u,())fromλhin hp=>?_
 dsimp only[kW]at hp ⊢;have hd:fF d:=hp;have hs:bf (s0,s1,s2,())=true->dH (s0,s1,s2,()):=DL;refine⟨trivial,af (λh=>?_) λh=>⟨trivial,af (λh2=>?_) λh2=>⟨hs (dY h),⟨yw u (hs (dY h)),hd⟩,λr hr=>?_⟩⟩⟩
 .dsimp only;rw[qN (.inl (iR h))];exact⟨rfl,rfl⟩
 .dsimp only;rw[qN (.inr (.inr (iR h2)))];exact⟨rfl,rfl⟩
 .exact U0 (dY h) (dY h2) hr.1 hr.2.1 hr.2.2
theorem BR:OK kX.e:=by
 refine FV [yX.e,nO.e,nM.e,iO.e] ⟨Zu,FC,E8,jQ,⟨⟩⟩ H0 (λ⟨s,d,u,_⟩ _=>⟨(((dR s d u).1,(dR s d u).2,()),()),⟨rfl,rfl⟩⟩) λs0 s1 s2 d u=>show kX.goal (Ko s0 s1 s2 d u) ((s0,s1,s2,()),d,u,())fromλhin hp=>?_
 dsimp only[kX]at hp ⊢;have hd:fF d:=hp;have hs:bf (s0,s1,s2,())=true->dH (s0,s1,s2,()):=DL;refine⟨trivial,af (λh=>?_) λh=>⟨trivial,af (λh2=>?_) λh2=>⟨hs (dY h2),⟨yw u (hs (dY h2)),hd⟩,λr hr=>?_⟩⟩⟩
 .dsimp only;rw[qN (.inr (.inr (iR h)))];exact⟨rfl,rfl⟩
 .dsimp only;rw[qN (.inl (iR h2))];exact⟨rfl,rfl⟩
 .exact U0 (dY h2) (dY h) hr.1 hr.2.1 hr.2.2
theorem akc{s:aT}{d:List ay}{u:Int}(hs:dH s)(hd:qW d)(hf:aiU s d u):bW (Aj (Sp.visible s u).2.1 d):=
 aio (afc (PS u hf.1) hf.2.1) hd.1 (yw u hs).2.1 FH
theorem afM{s:aT}{d:List ay}{u:Int}(hs:dH s)(hd:qW d):bW (dR s d u).1:=by
 cases h1:bf s with
 |false=>rw[qN (.inl h1)];exact FH
 |true=>cases h2:aI d with
  |false=>rw[qN (.inr (.inl h2))];exact FH
  |true=>cases h3:yx u with
   |false=>rw[qN (.inr (.inr h3))];exact FH
   |true=>rw[UZ ⟨h1,h2,h3⟩];exact akc hs hd ⟨h1,h2,h3⟩
theorem GL{s:aT}{d:List ay}{u:Int}:bW (dR s d u).1:=by
 cases h:bf s&&(aI d&&yx u)with
 |false=>
  unfold dR;rw[h];exact⟨atl _,λx hx=>by cases hx⟩
 |true=>simp only[as1]at h;exact afM (DL h.1) (Ag (Fp h.2.1))
theorem ab4:OK Aw.e:=by
 refine aV [lH.e,kW.e] ⟨BZ,BQ,⟨⟩⟩ H0 λs0 s1 s2 d u name=>show Aw.goal (acp s0 s1 s2 d u name) ((s0,s1,s2,()),d,u,name,())fromλhin hp=>?_
 dsimp only[Aw]at hp ⊢;have hd:fF d:=hp;refine⟨hd,λr hr=>?_⟩;dsimp only;rw[hr.1];exact⟨GL,rfl⟩
theorem ab7:OK Az.e:=by
 refine aV [nU.e,kX.e] ⟨Il,BR,⟨⟩⟩ H0 λs0 s1 s2 d u name=>show Az.goal (acr s0 s1 s2 d u name) ((s0,s1,s2,()),d,u,name,())fromλhin hp=>?_
 dsimp only[Az]at hp ⊢;have hd:fF d:=hp;refine⟨hd,λr hr=>?_⟩;dsimp only;rw[hr.1];exact⟨GL,rfl⟩
end Go.Proofs.Tryz
namespace Go.Proofs.Tryz
open Go Go.Fw Go.IntWalk Sp
theorem ql:OK jH.e:=by
 refine aV [(Gh,.pure DX)] ⟨⟨aaD,Ye⟩,⟨⟩⟩ H0 λn=>show jH.goal (Wq n) (n,())fromλhin hp=>?_
 dsimp only[jH]at hp ⊢;exact⟨hin.1,rfl⟩
theorem Ws:OK wS.e:=by
 refine aV [] ⟨⟩ H0 λx=>show wS.goal (Wu x) (x,())fromλhin hp=>?_
 dsimp only[wS]at hp ⊢;obtain⟨h0,h1⟩:=hp;refine af (λh=>?_) λh=>?_<;>simp only[ate,atc]at h
 .rw[i64_in (48+x) (by omega),u8_in (48+x) (by omega)]
 .omega
theorem oJ{l:List (Int×Unit)}(h:∀(x:Int×Unit),x∈l->((-9223372036854775808:Int)<=x.fst/\x.fst<=(9223372036854775807:Int))/\True):oK l:=λx hx=>(h x hx).1
theorem Og{c:Int}(h:¬c.tmod 10<0):c.tmod 10=((c.natAbs%10:Nat):Int):=by have:(c.tmod 10).natAbs=c.natAbs%10:=avf c 10;omega
theorem ail{c:Int}(h:c.tmod 10<0):0-c.tmod 10=((c.natAbs%10:Nat):Int):=by have:(c.tmod 10).natAbs=c.natAbs%10:=avf c 10;omega
theorem LG(k:Nat):byteRow [((48:Int)+(k:Int),())]=[UInt8.ofNat (48+k)]:=by
 have:((48:Int)+(k:Int)).toNat=48+k:=by omega
 simp[byteRow,acU,this]
theorem abI{n c:Nat}{s:List UInt8}(hc:c≠0)(hJ:Lib.decDigits n=(if c=0 then[]else Lib.decDigits c)++s):
 Lib.decDigits n=(if c / 10=0 then[]else Lib.decDigits (c / 10))++(UInt8.ofNat (48+c%10)::s):=by
 rw[hJ,if_neg hc,ad9 c];simp
theorem qm:OK jI.e:=by
 refine aV [wS.e] ⟨Ws,⟨⟩⟩ YZ λn=>show jI.goal (Wv n) (n,())fromλhin hp=>?_
 dsimp only[jI]at hp ⊢;have h0:(-9223372036854775808:Int)<=n/\n<=9223372036854775807:=hin.1;have hL:=Lib.itoa_length_le n h0.1 h0.2;have hD:(Lib.decDigits n.natAbs).length<=21:=by
  unfold Lib.itoa at hL;split at hL
  .simp at hL;omega
  .rw[show n.natAbs=n.toNat by omega];exact hL
 refine af (λh=>?_) λh=>?_
 .have:n=0:=by simpa using h
  subst this;simp[Lib.itoa,Lib.decDigits]
 .have hn0:n≠0:=by simpa using h
  refine⟨λy=>-9223372036854775808<=y.1.1/\y.1.1<=9223372036854775807/\Lib.decDigits n.natAbs=(if y.1.1.natAbs=0 then[]else Lib.decDigits y.1.1.natAbs)++y.1.2.1,λy=>y.1.1.natAbs,⟨h0.1,h0.2,?_⟩,?_⟩
  .show _=(if n.natAbs=0 then _ else _)++_;rw[if_neg (by omega)];simp
  rintro⟨⟨c,s,⟨⟩⟩,⟨⟩⟩ ⟨hc1,hc2,hJ⟩;dsimp only at hc1 hc2 hJ ⊢;have hs:s.length<=21:=by rw[hJ,as4]at hD;omega
  have hq:(c.tdiv 10).natAbs=c.natAbs / 10:=Int.natAbs_tdiv c 10;have hrow:∀k:Nat,(byteRow [((48:Int)+(k:Int),())]).length=1:=λk=>by rw[LG];rfl
  refine af (λh=>?_) λh=>?_
  .have hc:c.natAbs≠0:=by simp at h;omega
   have hstep:=abI hc hJ;have hm:c.natAbs%10<10:=au7 _ (by decide);have hlt:c.natAbs / 10<c.natAbs:=Nat.div_lt_self (by omega) (by decide);have hw:IntKind.i64.wrap (c.tdiv 10)=c.tdiv 10:=eu _ (by omega);refine⟨by decide,af (λhd=>?_) λhd=>?_⟩<;>simp only[ate,atc]at hd
   .have e:=ail hd;rw[eu (0-c.tmod 10) (by omega),e,hw,LG];refine⟨⟨by omega,by omega⟩,by simp only[asY,as6];rw[maxLen_eq];omega,by decide,rfl,⟨by dsimp only;omega,by dsimp only;omega,?_⟩,?_⟩
    .show _=(if(c.tdiv 10).natAbs=0 then[]else Lib.decDigits (c.tdiv 10).natAbs)++_;rw[hq];exact hstep
    .show(c.tdiv 10).natAbs<c.natAbs;rw[hq];exact hlt
   .have e:=Og hd;rw[e,hw,LG];refine⟨⟨by omega,by omega⟩,by simp only[asY,as6];rw[maxLen_eq];omega,by decide,rfl,⟨by dsimp only;omega,by dsimp only;omega,?_⟩,?_⟩
    .show _=(if(c.tdiv 10).natAbs=0 then[]else Lib.decDigits (c.tdiv 10).natAbs)++_;rw[hq];exact hstep
    .show(c.tdiv 10).natAbs<c.natAbs;rw[hq];exact hlt
  .have hc:c=0:=by simpa using h
   subst hc;have hJ:Lib.decDigits n.natAbs=s:=by simpa using hJ
   subst hJ;refine af (λhd=>?_) λhd=>?_<;>simp only[ate,atc]at hd
   .refine⟨by simp only[asY,as6];rw[maxLen_eq];omega,?_⟩;rw[Lib.itoa,if_pos hd];rfl
   .rw[Lib.itoa,if_neg hd,show n.toNat=n.natAbs by omega]
theorem QV:OK tC.e:=by
 refine aV [jI.e] ⟨qm,⟨⟩⟩ Uj λv a r=>show tC.goal (QW v a r) ((v,a,r,()),())fromλhin hp=>?_
 dsimp only[tC]at hp ⊢;obtain⟨ha,hr⟩:=hp;have Ik:oK a:=oJ hin.1.2.1.2;have okr:oK r:=oJ hin.1.2.2.1.2;have hv:=Lib.itoa_length_le v hin.1.1.1 hin.1.1.2;refine⟨trivial,λy=>∃n:Nat,y.1.2.1=n/\n<=a.length/\y.1.1=Lib.itoa v++Sp.marked [32,43] (a.take n),λy=>((a.length:Int)-y.1.2.1).toNat,⟨0,rfl,by omega,by simp[Sp.marked]⟩,?_⟩;rintro⟨⟨_,_,⟨⟩⟩,⟨⟩⟩ ⟨n,rfl,hn,rfl⟩;dsimp only;have hl:=pU [32,43] a Ik n 1048576 (by omega);have hl2:=pU [32,43] a Ik a.length 1048576 (by omega);simp only[asY,as6]at hl hl2;refine af (λh=>?_) λh=>?_<;>simp only[ate,atc]at h
 .have hlt:n<a.length:=by omega
  have hg:=Ik.get hlt (0,());rw[eu _ (by omega),ata];refine⟨by simp only[as4,asY,as6];rw[maxLen_eq];omega,⟨by omega,by omega⟩,trivial,by simp only[as4,asY,as6];rw[maxLen_eq];omega,rfl,⟨n+1,by simp,by omega,?_⟩,by dsimp only;omega⟩;rw[CY _ _ _ (0,()) hlt];simp
 .have hge:n=a.length:=by omega
  subst hge;rw[atg]at hl ⊢;refine⟨λy=>∃n:Nat,y.1.2.1=n/\n<=r.length/\y.1.1=Lib.itoa v++Sp.marked [32,43] a++Sp.marked [32,45] (r.take n),λy=>((r.length:Int)-y.1.2.1).toNat,⟨0,rfl,by omega,by simp[Sp.marked]⟩,?_⟩;rintro⟨⟨_,_,⟨⟩⟩,⟨⟩⟩ ⟨n,rfl,hn,rfl⟩;dsimp only;have hl3:=pU [32,45] r okr n 1048576 (by omega);simp only[asY,as6]at hl3;refine af (λh=>?_) λh=>?_<;>simp only[ate,atc]at h
  .have hlt:n<r.length:=by omega
   have hg:=okr.get hlt (0,());rw[eu _ (by omega),ata];refine⟨by simp only[as4,asY,as6];rw[maxLen_eq];omega,⟨by omega,by omega⟩,trivial,by simp only[as4,asY,as6];rw[maxLen_eq];omega,rfl,⟨n+1,by simp,by omega,?_⟩,by dsimp only;omega⟩;rw[CY _ _ _ (0,()) hlt];simp
  .have hge:n=r.length:=by omega
   subst hge;rw[atg];rfl
theorem QX:OK tH.e:=by
 refine aV [jH.e] ⟨ql,⟨⟩⟩ Uk λv a r=>show tH.goal (QY v a r) ((v,a,r,()),())fromλhin hp=>?_
 dsimp only[tH]at hp ⊢;obtain⟨ha,hr⟩:=hp;have Ik:oK a:=oJ hin.1.2.1.2;have okr:oK r:=oJ hin.1.2.2.1.2;have hv:=Lib.itoa_length_le v hin.1.1.1 hin.1.1.2;refine⟨trivial,λy=>∃n:Nat,y.1.2.1=n/\n<=a.length/\y.1.1=Lib.itoa v++Sp.marked [32,43] (a.take n),λy=>((a.length:Int)-y.1.2.1).toNat,⟨0,rfl,by omega,by simp[Sp.marked]⟩,?_⟩;rintro⟨⟨_,_,⟨⟩⟩,⟨⟩⟩ ⟨n,rfl,hn,rfl⟩;dsimp only;have hl:=pU [32,43] a Ik n 1048576 (by omega);have hl2:=pU [32,43] a Ik a.length 1048576 (by omega);simp only[asY,as6]at hl hl2;refine af (λh=>?_) λh=>?_<;>simp only[ate,atc]at h
 .have hlt:n<a.length:=by omega
  have hg:=Ik.get hlt (0,());rw[eu _ (by omega),ata];refine⟨⟨by omega,by omega⟩,trivial,by simp only[as4,asY,as6];rw[maxLen_eq];omega,by simp only[as4,asY,as6];rw[maxLen_eq];omega,rfl,⟨n+1,by simp,by omega,?_⟩,by dsimp only;omega⟩;rw[CY _ _ _ (0,()) hlt];simp
 .have hge:n=a.length:=by omega
  subst hge;rw[atg]at hl ⊢;refine⟨λy=>∃n:Nat,y.1.2.1=n/\n<=r.length/\y.1.1=Lib.itoa v++Sp.marked [32,43] a++Sp.marked [32,45] (r.take n),λy=>((r.length:Int)-y.1.2.1).toNat,⟨0,rfl,by omega,by simp[Sp.marked]⟩,?_⟩;rintro⟨⟨_,_,⟨⟩⟩,⟨⟩⟩ ⟨n,rfl,hn,rfl⟩;dsimp only;have hl3:=pU [32,45] r okr n 1048576 (by omega);simp only[asY,as6]at hl3;refine af (λh=>?_) λh=>?_<;>simp only[ate,atc]at h
  .have hlt:n<r.length:=by omega
   have hg:=okr.get hlt (0,());rw[eu _ (by omega),ata];refine⟨⟨by omega,by omega⟩,trivial,by simp only[as4,asY,as6];rw[maxLen_eq];omega,by simp only[as4,asY,as6];rw[maxLen_eq];omega,rfl,⟨n+1,by simp,by omega,?_⟩,by dsimp only;omega⟩;rw[CY _ _ _ (0,()) hlt];simp
  .have hge:n=r.length:=by omega
   subst hge;rw[atg];rfl
theorem Wx:OK wU.e:=by
 refine aV [jI.e] ⟨qm,⟨⟩⟩ Y0 λa=>show wU.goal (Wy a) (a,())fromλhin hp=>?_
 dsimp only[wU]at hp ⊢;have hp:a.length<=1048576:=hp;have Ik:oK a:=oJ hin.1.2;refine⟨λy=>∃n:Nat,y.1.2.1=n/\n<=a.length/\y.1.1=jW (a.take n),λy=>((a.length:Int)-y.1.2.1).toNat,⟨0,rfl,by omega,by simp[jW]⟩,?_⟩;rintro⟨⟨_,_,⟨⟩⟩,⟨⟩⟩ ⟨n,rfl,hn,rfl⟩;dsimp only;have hl:=GH (a.take n) (Ik.take n);have hl2:(a.take n).length<=n:=by rw[atv];omega
 refine af (λh=>?_) λh=>?_<;>simp only[ate,atc]at h
 .have hlt:n<a.length:=by omega
  have hg:=Ik.get hlt (0,());rw[eu _ (by omega),ata];have hs:=aim a n (0,()) hlt;refine af (λh2=>?_) λh2=>?_<;>simp only[ate,atc]at h2
  .rw[if_neg (by omega)]at hs;refine⟨by simp only[as4,asY,as6];rw[maxLen_eq];omega,⟨by omega,by omega⟩,trivial,by simp only[as4,asY,as6];rw[maxLen_eq];omega,rfl,⟨n+1,by simp,by omega,hs.symm⟩,by dsimp only;omega⟩
  .rw[if_pos (by omega)]at hs;refine⟨⟨by omega,by omega⟩,trivial,by rw[maxLen_eq];omega,rfl,⟨n+1,by simp,by omega,?_⟩,by dsimp only;omega⟩;rw[hs];have:n=0:=by omega
   subst this;simp[jW]
 .have hge:n=a.length:=by omega
  subst hge;rw[atg]
theorem WA:OK wV.e:=by
 refine aV [(Gi,.pure DY),jH.e] ⟨⟨aaE,Yf⟩,ql,⟨⟩⟩ Y3 λa=>show wV.goal (WB a) (a,())fromλhin hp=>?_
 dsimp only[wV]at hp ⊢;have hp:a.length<=1048576:=hp;have Ik:oK a:=oJ hin.1.2;refine⟨λy=>∃n:Nat,y.1.2.1=n/\n<=a.length/\y.2.1=(a.take n).map λx=>(Lib.itoa x.1,()),λy=>((a.length:Int)-y.1.2.1).toNat,⟨0,rfl,by omega,by simp⟩,?_⟩;rintro⟨⟨⟨⟩,_,⟨⟩⟩,_,⟨⟩⟩ ⟨n,rfl,hn,rfl⟩;dsimp only;refine af (λh=>?_) λh=>?_<;>simp only[ate,atc]at h
 .have hlt:n<a.length:=by omega
  rw[eu _ (by omega),ata];refine⟨⟨by omega,by omega⟩,trivial,by simp only[atb,atv,asY,as6];rw[dm];omega,rfl,⟨n+1,by simp,by omega,?_⟩,by dsimp only;omega⟩;rw[Sp.take_succ' a n (0,()) hlt];simp
 .have hge:n=a.length:=by omega
  subst hge;rw[atg];have e:List.map (λx:List UInt8×Unit=>x.fst) (a.map λx=>(Lib.itoa x.1,()))=a.map λx=>Lib.itoa x.1:=by rw[aud];rfl
  have hl:=GH a Ik;rw[e,amn];exact⟨⟨by rw[atb];omega,by omega⟩,rfl⟩
theorem abJ:OK AA.e:=by
 refine aV [wU.e] ⟨Wx,⟨⟩⟩ H0 λs a=>show AA.goal (abK s a) (s,a,())fromλhin hp=>?_
 dsimp only[AA]at hp ⊢;obtain⟨h1,h2⟩:=hp;have Ik:oK a:=oJ hin.2.1.2;have hl:=GH a Ik;refine af (λh=>?_) λh=>?_
 .have:a=[]:=by simpa using h
  subst this;simp[Sp.withIds]
 .have hne:a≠[]:=by simpa using h
  refine⟨by simp only[asY,as6];rw[maxLen_eq];omega,h2,by simp only[as4,asY,as6];rw[maxLen_eq];omega,?_⟩;rw[Sp.withIds,if_neg (by simp[hne])]
theorem abL:OK AB.e:=by
 refine aV [wV.e] ⟨WA,⟨⟩⟩ H0 λs a=>show AB.goal (abM s a) (s,a,())fromλhin hp=>?_
 dsimp only[AB]at hp ⊢;obtain⟨h1,h2⟩:=hp;have Ik:oK a:=oJ hin.2.1.2;have hl:=GH a Ik;refine af (λh=>?_) λh=>?_
 .have:a=[]:=by simpa using h
  subst this;simp[Sp.withIds]
 .have hne:a≠[]:=by simpa using h
  refine⟨by simp only[asY,as6];rw[maxLen_eq];omega,h2,by simp only[as4,asY,as6];rw[maxLen_eq];omega,?_⟩;rw[Sp.withIds,if_neg (by simp[hne])]
theorem uf(n:Int)(h:(-9223372036854775808:Int)<=n/\n<=(9223372036854775807:Int)):(Lib.itoa n).length<=21:=Lib.itoa_length_le n h.1 h.2
theorem pV{n:Nat}(h:n<=100000000):n<=maxLen:=by rw[maxLen_eq];omega
theorem QZ:OK tJ.e:=by
 refine aV [tC.e,AA.e,jI.e] ⟨QV,abJ,qm,⟨⟩⟩ Ul λw0 w1 w2 w3=>show tJ.goal (Q5 w0 w1 w2 w3) ((w0,w1,w2,w3,()),())fromλhin hp=>?_
 dsimp only[tJ]at hp ⊢;have hp:w1.length+(w2.length+fB GZ w3)<=1048576:=hp;have hl:=jd GZ w3;have hi:=uf w0 hin.1.1;refine⟨trivial,pV (by simp only[asY,as6];omega),pV (by simp only[as4,asY,as6];omega),pV (by simp only[as4,asY,as6];omega),⟨by simp only[as4,asY,as6];omega,by omega⟩,?_⟩;refine⟨λy=>∃n:Nat,y.1.2.1=n/\n<=w3.length/\y.2.1=(Um (w0,w1,w2,w3,()),())::(w3.take n).map (λe=>(ahp e,())),λy=>((w3.length:Int)-y.1.2.1).toNat,⟨0,rfl,atl _,rfl⟩,?_⟩;rintro⟨⟨⟨⟩,_,⟨⟩⟩,_,⟨⟩⟩ ⟨n,rfl,hn,rfl⟩;dsimp only;refine af (λh=>?_) λh=>?_<;>simp only[ate,atc]at h
 .have hlt:n<w3.length:=by omega
  have hx:(w3.getD n (0,[],[],())).2.1.length+(w3.getD n (0,[],[],())).2.2.1.length<=fB GZ w3:=jK GZ w3 _ (getD_mem hlt);rw[eu _ (by omega),ata];refine⟨⟨by omega,by omega⟩,⟨by omega,by omega⟩,by simp only[asY,atb,atv,as6];rw[dm];omega,rfl,⟨n+1,by simp,by omega,?_⟩,by dsimp only;omega⟩;rw[Sp.take_succ' w3 n (0,[],[],()) hlt,atE];rfl
 .obtain rfl:n=w3.length:=by omega
  rw[atg];rfl
theorem Q7:OK tK.e:=by
 refine aV [tH.e,AB.e,jH.e] ⟨QX,abL,ql,⟨⟩⟩ Un λw0 w1 w2 w3=>show tK.goal (Q8 w0 w1 w2 w3) ((w0,w1,w2,w3,()),())fromλhin hp=>?_
 dsimp only[tK]at hp ⊢;have hp:w1.length+(w2.length+fB GZ w3)<=1048576:=hp;have hl:=jd GZ w3;have hi:=uf w0 hin.1.1;refine⟨trivial,pV (by simp only[asY,as6];omega),pV (by simp only[as4,asY,as6];omega),pV (by simp only[as4,asY,as6];omega),⟨by simp only[as4,asY,as6];omega,by omega⟩,?_⟩;refine⟨λy=>∃n:Nat,y.1.2.1=n/\n<=w3.length/\y.2.1=(Um (w0,w1,w2,w3,()),())::(w3.take n).map (λe=>(ahp e,())),λy=>((w3.length:Int)-y.1.2.1).toNat,⟨0,rfl,atl _,rfl⟩,?_⟩;rintro⟨⟨⟨⟩,_,⟨⟩⟩,_,⟨⟩⟩ ⟨n,rfl,hn,rfl⟩;dsimp only;refine af (λh=>?_) λh=>?_<;>simp only[ate,atc]at h
 .have hlt:n<w3.length:=by omega
  have hx:(w3.getD n (0,[],[],())).2.1.length+(w3.getD n (0,[],[],())).2.2.1.length<=fB GZ w3:=jK GZ w3 _ (getD_mem hlt);rw[eu _ (by omega),ata];refine⟨⟨by omega,by omega⟩,⟨by omega,by omega⟩,by simp only[asY,atb,atv,as6];rw[dm];omega,rfl,⟨n+1,by simp,by omega,?_⟩,by dsimp only;omega⟩;rw[Sp.take_succ' w3 n (0,[],[],()) hlt,atE];rfl
 .obtain rfl:n=w3.length:=by omega
  rw[atg];rfl
theorem JI:OK mF.e:=by
 refine aV [] ⟨⟩ abN λk=>show mF.goal (Y4 k) (k,())fromλhin hp=>?_
 dsimp only[mF]at hp ⊢;obtain⟨h0,h1⟩:0<=k/\k<=1000000000:=hp;refine af (λh=>?_) λh=>?_
 .obtain rfl:k=0:=by have:=iK h;omega
  exact congrArg (·,()) (show[109,48]=Sp.markT 0 by unfold Sp.markT Lib.itoa;rw[if_neg (by decide)];show _=109::Lib.decDigits 0;rw[Lib.decDigits];rfl)
 have hk:0<k:=by have:=iW h;omega
 have hL:=uf k (by omega);have hit:Lib.itoa k=Lib.decDigits k.natAbs:=by rw[Lib.itoa,if_neg (by omega),show k.toNat=k.natAbs by omega]
 have hD:(Lib.decDigits k.natAbs).length<=21:=by rw[← hit];exact hL
 refine⟨λy=>0<=y.1.1/\y.1.1<=1000000000/\Lib.decDigits k.natAbs=(if y.1.1.natAbs=0 then[]else Lib.decDigits y.1.1.natAbs)++y.1.2.1,λy=>y.1.1.natAbs,⟨h0,h1,?_⟩,?_⟩
 .show _=(if k.natAbs=0 then _ else _)++_;rw[if_neg (by omega)];simp
 rintro⟨⟨c,s,⟨⟩⟩,⟨⟩⟩ ⟨hc1,hc2,hJ⟩;dsimp only at hc1 hc2 hJ ⊢;have hs:s.length<=21:=by rw[hJ,as4]at hD;omega
 refine af (λh=>?_) λh=>?_
 .have hcp:0<c:=iK h;have hc:c.natAbs≠0:=by omega
  have hstep:=abI hc hJ;have hm:c.natAbs%10<10:=au7 _ (by decide);have hlt:c.natAbs / 10<c.natAbs:=Nat.div_lt_self (by omega) (by decide);have hq:(c.tdiv 10).natAbs=c.natAbs / 10:=Int.natAbs_tdiv c 10;have hq0:0<=c.tdiv 10:=Int.tdiv_nonneg hc1 (by decide);have hw:IntKind.i64.wrap (c.tdiv 10)=c.tdiv 10:=eu _ (by omega);have e:=Og (c:=c) (by have:=Int.tmod_nonneg 10 hc1;omega);have e8:IntKind.u8.wrap (IntKind.i64.wrap (48+c.tmod 10))=48+((c.natAbs%10:Nat):Int):=by rw[e,i64_in _ (by omega),u8_in _ (by omega)]
  rw[e8,hw,LG];refine⟨by decide,pV (by rw[asY,as6];omega),by decide,rfl,⟨hq0,by omega,?_⟩,?_⟩
  .show _=(if(c.tdiv 10).natAbs=0 then[]else Lib.decDigits (c.tdiv 10).natAbs)++_;rw[hq];exact hstep
  .show(c.tdiv 10).natAbs<c.natAbs;rw[hq];exact hlt
 .obtain rfl:c=0:=by have:=iW h;omega
  have hJ:Lib.decDigits k.natAbs=s:=by simpa using hJ
  refine⟨pV (by rw[asY,as6];omega),?_⟩;unfold Sp.markT;rw[hit,hJ];rfl
theorem Wp:OK nV.e:=by
 refine aV [] ⟨⟩ Y5 λa b=>show nV.goal (WC a b) (a,b,())fromλhin hp=>?_
 dsimp only[nV]at hp ⊢;obtain rfl:a=b:=hp;exact af (λh=>absurd h (by simp)) λ_=>eP a.length hin.1.1 (λ_=>True) trivial (λI μ n hn _ next=>by dsimp only;exact bY (by omega) ⟨⟨by omega,by omega⟩,⟨by omega,by omega⟩,af (λh=>absurd h (by simp)) λ_=>⟨rfl,next trivial⟩⟩) λI μ _=>by dsimp only;exact bV (by omega) rfl
theorem QU:OK lK.e:=by
 refine aV [mF.e] ⟨JI,⟨⟩⟩ Uo λa k=>show lK.goal (Q9 a k) (a,k,())fromλhin hp=>?_
 dsimp only[lK]at hp ⊢;obtain⟨h0,h1,hl⟩:0<=k/\k<=10000000/\a.length<=4000000:=hp;refine eH (mk:=λi(v:Int)=>((v,i,()),())) (λy=>y.1.2.1) (λ_ _=>rfl) a.length (by omega) (λn v=>v=k+n/\Ip a k=Ip (a.drop n) v) ⟨by omega,rfl⟩ (λI μ n v hn hJ next=>?_) λI μ v hJ=>?_
 .obtain⟨rfl,hh⟩:=hJ;rw[drop_cons a n ([],()) hn,Ip]at hh;dsimp only;rw[eu (k+(n:Int)+1) (by omega),ata];refine bY (by omega) ⟨⟨by omega,by omega⟩,⟨by omega,by omega⟩,af (λh=>?_) λh=>⟨rfl,next _ ⟨by omega,?_⟩⟩⟩
  .rw[if_neg (by simpa using h)]at hh;rw[hh]
  .rw[if_pos (by simpa using h)]at hh;exact hh
 .obtain⟨rfl,hh⟩:=hJ;rw[List.drop_length]at hh;dsimp only;exact bV (by omega) (by rw[hh];rfl)
end Go.Proofs.Tryz

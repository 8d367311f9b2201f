import Derived.Test.YtkogcnaellmcdaaGreatP1
import Derived.Test.YtkogcnaellmcdaaGreatSp
namespace Go.Proofs.Tryz
open Go Go.Fw Go.IntWalk Sp
theorem Ri{d:List aB}{au r:List (Int×Unit)}(h:Sp.raised d au r)(h0:∀i,i<d.length->0<=Sp.lv au i)(hp:fK (bV d) λi=>(Sp.lv au i).toNat):∀i,i<d.length->Sp.lv r i=Sp.lv au i:=by obtain⟨_,h2,_,_,h5⟩:=h;intro i hi;have a:Sp.lv au i<=Sp.lv r i:=h2 i hi;have b:Sp.lv r i<=((Sp.lv au i).toNat:Int):=h5 _ hp (λj hj=>by have:=h0 j hj;show Sp.lv au j<=((Sp.lv au j).toNat:Int);omega) i hi;have:=h0 i hi;omega
theorem afa{d:List aB}{au r:List (Int×Unit)}(h:Sp.raised d au r)(hp:¬fK (bV d) λi=>(Sp.lv au i).toNat):∃i,i<d.length/\Sp.lv au i<Sp.lv r i:=by obtain⟨_,h2,_,h4,_⟩:=h;refine ap2 λhno=>hp (h4 λi hi=>?_);have a:Sp.lv au i<=Sp.lv r i:=h2 i hi;have b:¬Sp.lv au i<Sp.lv r i:=λh=>hno ⟨i,hi,h⟩;show Sp.lv r i=Sp.lv au i;omega
theorem ac3{d:List aB}(h1:dM d=true){L:Nat->Nat}(h2:fK (bV d) L):aI d=true:=iZ.2 ⟨h1,L,h2⟩
theorem afb{d:List aB}(h:∀M,fK (bV d) M->(∀i,i<d.length->M i<d.length)->False):aI d=false:=by rw[aq5];intro h1;obtain⟨_,h2⟩:=iZ.1 h1;obtain⟨M,h3,h4⟩:=Ec (jc d) h2;exact h M h3 h4
theorem ac4{d:List aB}(h:dM d=false):aI d=false:=by rw[aq5];intro h1;rw[(iZ.1 h1).1]at h;cases h
theorem LY(n i:Nat):Sp.lv (List.replicate n (0,())) i=0:=by
 unfold Sp.lv;rw[apI];by_cases h:i<n
 .rw[List.getElem?_replicate,if_pos h];rfl
 .rw[aqu (by simp;omega)];rfl
theorem afc{d:List aB}(h:aI d=true):∃s,jA d s:=by obtain⟨hok,h2⟩:=iZ.1 h;exact YW (Ec (jc d) h2)
theorem YX{d:List aB}:∃s:List (Int×Unit),(aI d=true->jA d s)/\(aI d=false->s=[]):=by
 cases h:aI d with
 |true=>obtain⟨s,hs⟩:=afc h;exact⟨s,λ_=>hs,λh=>by cases h⟩
 |false=>exact⟨[],λh=>(by cases h),λ_=>rfl⟩
theorem LZ:OK wM.e:=by
 refine uO [pR.e,oh.e,rD.e] ⟨Ed,WI,Pz,⟨⟩⟩ adE (λ⟨d,_⟩ hp=>by obtain⟨s,h1,h2⟩:=YX (d:=d);exact⟨(((s,aI d,()),())),⟨rfl,h1,h2⟩⟩) λd=>show wM.goal (abr d) (d,())fromλhin hp=>?_
 dsimp only[wM]at hp ⊢;have hp:iq d:=hp;refine⟨hp,af (λh=>⟨(ac4 (gY h)).symm,λh=>(by cases h),λ_=>rfl⟩) λh=>?_⟩;have hok:=dO h;have hp:qf d:=zk hok;have hlen:=NT hok;refine⟨⟨by omega,by omega,by rw[cZ];omega⟩,?_⟩;have hnn:d.length*d.length<=25:=arK hlen hlen;have e1:(d.length:Int)*(d.length:Int)=((d.length*d.length:Nat):Int):=by simp
 have w:IntKind.i64.wrap (IntKind.i64.wrap ((d.length:Int)*(d.length:Int))+1)=((d.length*d.length:Nat):Int)+1:=by rw[e1,fH ((d.length*d.length:Nat):Int) (by omega)];exact fH _ (by omega)
 rw[w];have hmem:∀au:List (Int×Unit),au.length=d.length->∀k:Nat,k<=27->(∀i,i<d.length->0<=Sp.lv au i/\Sp.lv au i<=5000*k)->∀x∈au,0<=x.1/\x.1<=1000000:=λau hl k hk h=>
  afd (p:=λz=>0<=z/\z<=1000000) λi hi=>by have:=h i (by omega);omega
 refine fB (λi(x:List (Int×Unit))=>((x,i,()),())) (λy=>y.1.2.1) (λ_ _=>rfl) (d.length*d.length+2) (by omega)
  (λk au=>au.length=d.length/\(∀i,i<d.length->0<=Sp.lv au i/\Sp.lv au i<=5000*k)/\(∀M,fK (bV d) M->∀i,i<d.length->Sp.lv au i<=M i)/\((fK (bV d) λi=>(Sp.lv au i).toNat)\/(k:Int)<=rX au d.length))
  ⟨by simp,λi hi=>by rw[apG,LY];omega,λM hM i hi=>by rw[apG,LY];omega,.inr (Rj _ λi hi=>by rw[apG,LY];omega)⟩ (λI μ k au hk hJ next=>?_) λI μ au hJ=>?_
 .obtain⟨g1,g2,g3,g4⟩:=hJ;dsimp only;refine cO (by omega) ⟨⟨hp,hlen,g1,hmem au g1 k (by omega) g2⟩,?_⟩;rintro⟨⟨r,⟨⟩⟩,⟨⟩⟩ hr;have hr:Sp.raised d au r:=hr;have hr':=hr;obtain⟨q1,q2,q3,q4,q5⟩:=hr';have hup:∀i,i<d.length->Sp.lv au i<=Sp.lv r i:=q2;refine⟨rfl,next r ⟨q1,λi hi=>?_,λM hM i hi=>q5 M hM (g3 M hM) i hi,?_⟩⟩
  .have a:=hup i hi;have b:=q3 (5000*k) (λj hj=>(g2 j hj).2) i hi;have b:Sp.lv r i<=5000*k+5000:=b;have c:=g2 i hi;omega
  .by_cases hpf:fK (bV d) λi=>(Sp.lv au i).toNat
   .left;have hs:=Ri hr (λi hi=>(g2 i hi).1) hpf;intro e he;have:=hpf e he;obtain⟨a,b,_⟩:=jc d e he;dsimp only at this ⊢;rw[hs _ a,hs _ b];exact this
   .right;have hm:=WJ d.length hup (afa hr hpf);rcases g4 with g4|g4
    .exact(hpf g4).elim
    .omega
 .obtain⟨g1,g2,g3,g4⟩:=hJ;dsimp only;refine bY (by omega) ⟨⟨hp,hlen,g1,hmem au g1 _ (by omega) g2⟩,?_⟩;rintro⟨⟨r,⟨⟩⟩,⟨⟩⟩ hr;have hr:Sp.raised d au r:=hr;refine⟨trivial,af (λhne=>?_) λhe=>?_⟩
  .have hne:¬r=au:=iV (gY hne);refine⟨(afb λM hM hb=>?_).symm,λh=>(by cases h),λ_=>rfl⟩;rcases g4 with g4|g4
   .exact hne (aiT (by rw[hr.1,g1]) λi hi=>Ri hr (λi hi=>(g2 i hi).1) g4 i (by rw[← hr.1];exact hi))
   .have:=Kv (a:=au) (b:=d.length) d.length λi hi=>by have a:=g3 M hM i hi;have b:=hb i hi;omega
    omega
  .have he:r=au:=iH (dO he);subst he;have hpf:=hr.2.2.2.1 λi hi=>rfl;obtain⟨M,hM,hb⟩:=Ec (jc d) ⟨_,hpf⟩;exact⟨(ac3 hok hpf).symm,λ_=>⟨g1,λi hi=>⟨(g2 i hi).1,by have a:=g3 M hM i hi;have b:=hb i hi;omega⟩,hpf,g3⟩,λh=>by cases h⟩
theorem L6:OK wL.e:=by
 refine uO [qA.e,rG.e,qy.e,rE.e] ⟨NU,PD,NV,PE,⟨⟩⟩ adF (λ⟨d,_⟩ hp=>by obtain⟨s,h1,h2⟩:=YX (d:=d);exact⟨(((s,aI d,()),())),⟨rfl,h1⟩⟩) λd=>show wL.goal (abt d) (d,())fromλhin hp=>?_
 dsimp only[wL]at hp ⊢;have hp:iq d:=hp;refine⟨hp,af (λh=>⟨(ac4 (gY h)).symm,λh=>by cases h⟩) λh=>?_⟩;have hok:=dO h;have hp:qf d:=zk hok;have hlen:=NT hok;refine⟨⟨by omega,by omega,by rw[cZ];omega⟩,?_⟩;have hmem:∀au:List (Int×Unit),au.length=d.length->(∀i,i<d.length->0<=Sp.lv au i/\Sp.lv au i<=d.length)->∀x∈au,0<=x.1/\x.1<=1000000:=λau hl h=>
  afd (p:=λz=>0<=z/\z<=1000000) λi hi=>by have:=h i (by omega);omega
 refine⟨λy=>y.2.1.length=d.length/\(∀i,i<d.length->0<=Sp.lv y.2.1 i/\Sp.lv y.2.1 i<=d.length)/\(∀M,fK (bV d) M->∀i,i<d.length->Sp.lv y.2.1 i<=M i)/\(y.1.1=false->fK (bV d) λi=>(Sp.lv y.2.1 i).toNat),
  λy=>(((d.length*d.length:Nat):Int)-rX y.2.1 d.length).toNat*2+(if y.1.1=true then 1 else 0),⟨by simp,λi hi=>by rw[apG,LY];omega,λM hM i hi=>by rw[apG,LY];omega,λh=>by cases h⟩,?_⟩
 rintro⟨⟨ch,⟨⟩⟩,au,⟨⟩⟩ ⟨g1,g2,g3,g4⟩;dsimp only at g1 g2 g3 g4 ⊢;refine af (λhch=>?_) λhch=>⟨(ac3 hok (g4 hch)).symm,λ_=>⟨g1,g2,g4 hch,g3⟩⟩;subst hch;refine fB (λi(x:Bool×List (Int×Unit))=>((x.1,i,()),x.2,())) (λy=>y.1.2.1) (λ_ _=>rfl) d.length (by omega)
  (λi(x:Bool×List (Int×Unit))=>x.2.length=d.length/\(∀i,i<d.length->Sp.lv au i<=Sp.lv x.2 i/\Sp.lv x.2 i<=d.length)/\(∀M,fK (bV d) M->∀i,i<d.length->Sp.lv x.2 i<=M i)/\
    (x.1=true->rX au d.length<rX x.2 d.length)/\(x.1=false->x.2=au/\∀e∈bV d,e.1<i->Sp.lv au e.2.1+e.2.2<=Sp.lv au e.1))
  (s0:=(false,au)) ⟨g1,λi hi=>⟨ap5 _,(g2 i hi).2⟩,g3,λh=>(by cases h),λ_=>⟨rfl,λe _ h=>by omega⟩⟩ (λI μ i x hi hJ next=>?_) λI μ x hJ=>?_
 .obtain⟨c,cur⟩:=x;obtain⟨q1,q2,q3,q4,q5⟩:=hJ;have q1:cur.length=d.length:=q1;have hcur:∀i,i<d.length->0<=Sp.lv cur i/\Sp.lv cur i<=d.length:=λi hi=>⟨Int.le_trans (g2 i hi).1 (q2 i hi).1,(q2 i hi).2⟩;have hm:=hmem cur q1 hcur;dsimp only;rw[apG];refine cO (by omega) ⟨⟨by omega,by omega⟩,EO hp hi,?_⟩;rintro⟨⟨r4,⟨⟩⟩,⟨⟩⟩ hr4;have hr4:gu r4 (dH (bJ d i).2.1 false):=hr4;refine⟨⟨by omega,hr4.1,by omega,by omega,hm⟩,EO hp hi,?_⟩;rintro⟨⟨r6,⟨⟩⟩,⟨⟩⟩ hr6;have hr6:gu r6 (dH (bJ d i).2.1 true):=hr6;refine⟨⟨by omega,hr6.1,by omega,by omega,hm⟩,?_⟩;dsimp only;have hle:∀M,fK (bV d) M->rH d cur 0 r4<=M i/\rH d cur 1 r6<=M i:=by
   intro M hM;refine⟨(Di r4 _).2 ⟨by omega,λx hx h0=>?_⟩,(Di r6 _).2 ⟨by omega,λx hx h0=>?_⟩⟩
   .have he:=zl.2 ⟨hi,x.1,.inl ⟨rfl,(hr4.2 x.1).1 hx⟩,h0,rfl⟩;have a:=hM _ he;have a:M (aC d x.1).toNat+0<=M i:=a;have b:=q3 M hM _ (jc d _ he).2.1;have b:Sp.lv cur (aC d x.1).toNat<=M (aC d x.1).toNat:=b;omega
   .have he:=zl.2 ⟨hi,x.1,.inr ⟨rfl,(hr6.2 x.1).1 hx⟩,h0,rfl⟩;have a:=hM _ he;have a:M (aC d x.1).toNat+1<=M i:=a;have b:=q3 M hM _ (jc d _ he).2.1;have b:Sp.lv cur (aC d x.1).toNat<=M (aC d x.1).toNat:=b;omega
  have hge:∀e∈bV d,e.1=i->Sp.lv cur e.2.1+e.2.2<=rH d cur 0 r4\/Sp.lv cur e.2.1+e.2.2<=rH d cur 1 r6:=by
   rintro⟨a,b,m⟩ he ha;have ha:a=i:=ha;subst ha;have hm1:m<=1:=(jc d _ he).2.2;rcases aqM m with h|h
   .subst h;obtain⟨p,p1,p2,p3⟩:=JD hr4 he rfl;left;have:=((Di (d:=d) (au:=cur) (more:=0) r4 _).1 (ap5 _)).2 _ (getD_mem (d:=(([]:List UInt8),())) p1) p2;show Sp.lv cur b+((0:Nat):Int)<=_;rw[p3];omega
   .have:m=1:=by omega
    subst this;obtain⟨p,p1,p2,p3⟩:=JD hr6 he rfl;right;have:=((Di (d:=d) (au:=cur) (more:=1) r6 _).1 (ap5 _)).2 _ (getD_mem (d:=(([]:List UInt8),())) p1) p2;show Sp.lv cur b+((1:Nat):Int)<=_;rw[p3];omega
  generalize rH d cur 0 r4=u at hle hge ⊢;generalize rH d cur 1 r6=v at hle hge ⊢;have hv:∃z,(if v>u then v else u)=z/\u<=z/\v<=z/\(z=u\/z=v):=by refine⟨_,rfl,?_,?_,?_⟩<;>split<;>omega
  obtain⟨z,ez,hz1,hz2,hz3⟩:=hv;rw[ez];have e2:(cur.getD i (0,())).1=Sp.lv cur i:=rfl;rw[e2];refine af (λhbig=>?_) λhbig=>⟨⟨by omega,by omega⟩,by omega,af (λhup=>⟨⟨by omega,by omega⟩,by omega,rfl,next (true,cur.set i (z,())) ?_⟩) λhup=>⟨rfl,next (c,cur) ?_⟩⟩
  .have hbig:z>(d.length:Int):=iH hbig;refine⟨(afb λM hM hb=>?_).symm,λh=>by cases h⟩;have a:=hle M hM;have b:=hb i hi;omega
  .have hbig:¬z>(d.length:Int):=iV hbig;have hup:z>Sp.lv cur i:=iH hup;have hs:=λk=>afe (l:=cur) (i:=i) (by omega) z k;refine⟨by simp;omega,λk hk=>?_,λM hM k hk=>?_,λ_=>?_,λh=>by cases h⟩
   .dsimp only;rw[hs];have:=q2 k hk;dsimp only at this;split
    .next e=>subst e;omega
    .exact this
   .dsimp only;rw[hs];split
    .next e=>subst e;have:=hle M hM;omega
    .exact q3 M hM k hk
   .have a:=WL (a:=au) (b:=cur) d.length λk hk=>(q2 k hk).1;have hsk:∀k,k<d.length->Sp.lv cur k<=Sp.lv (cur.set i (z,())) k:=λk hk=>by
     rw[hs];split
     .next e=>subst e;omega
     .exact ap5 _
    have b:=WJ (a:=cur) (b:=cur.set i (z,())) d.length hsk ⟨i,hi,by rw[hs,if_pos rfl];omega⟩;show rX au d.length<rX (cur.set i (z,())) d.length;omega
  .have hup:¬z>Sp.lv cur i:=iV hup;refine⟨q1,q2,q3,q4,λh=>?_⟩;obtain⟨a,b⟩:=q5 h;have a:cur=au:=a;subst a;refine⟨rfl,λe he hlt=>?_⟩;rcases apQ e.1 i with h'|h'
   .exact b e he h'
   .have YI:e.1=i:=by omega
    have:=hge e he YI;rw[YI];omega
 .obtain⟨c,cur⟩:=x;obtain⟨q1,q2,q3,q4,q5⟩:=hJ;dsimp only at q1 q2 q3 q4 q5 ⊢;have hcur:∀i,i<d.length->0<=Sp.lv cur i/\Sp.lv cur i<=d.length:=λi hi=>⟨Int.le_trans (g2 i hi).1 (q2 i hi).1,(q2 i hi).2⟩;have hsum:=Kv (a:=cur) (b:=d.length) d.length λi hi=>(q2 i hi).2;refine bY (by omega) ⟨rfl,⟨q1,hcur,q3,λhc e he=>?_⟩,?_⟩
  .obtain⟨a,b⟩:=q5 hc;subst a;obtain⟨x1,x2,_⟩:=jc d e he;have:=b e he x1;have y1:=(hcur _ x1).1;have y2:=(hcur _ x2).1;dsimp only;omega
  .cases c with
   |true=>
    have:=q4 rfl;simp only[if_true];omega
   |false=>obtain⟨a,_⟩:=q5 rfl;subst a;simp
end Go.Proofs.Tryz
namespace Go.Proofs.Tryz
open Go Go.Fw Go.IntWalk Sp
theorem Og:∀{l:List dN}{n:Nat}{s:Sp.Bytes},n<l.length->(∀i,i<n->(bU l i).1≠s)->(bU l n).1=s->dY l s=(bU l n).2
 |[],n,_,h,_,_=>by simp at h
 |x::r,0,s,_,_,e=>by
  have e:x.1=s:=e;rw[dY,apy.2 e];rfl
 |x::r,n+1,s,h,hn,e=>by have h0:x.1≠s:=hn 0 (by omega);rw[dY,apu.2 h0];exact Og (l:=r) (by simpa using h) (λi hi=>hn (i+1) (by omega)) e
theorem IE:∀{l:List dN}{s:Sp.Bytes},(∀i,i<l.length->(bU l i).1≠s)->dY l s=(0,0,[],())
 |[],_,_=>rfl
 |x::r,s,h=>by have h0:x.1≠s:=h 0 (by simp);rw[dY,apu.2 h0];exact IE λi hi=>h (i+1) (by simpa using hi)
theorem JS:OK pU.e:=by
 refine aV [] ⟨⟩ ab6 λf0 f1 f2 f3 l s=>show pU.goal (ZV f0 f1 f2 f3 l s) ((f0,f1,f2,f3,l,()),s,())fromλhin hp=>?_
 dsimp only[pU]at hp ⊢;have hlen:l.length<=maxLen:=hin.1.2.2.2.2.1.1;rw[maxLen_eq]at hlen;refine dP l.length hlen (λn=>∀i,i<n->(bU l i).1≠s) (λi hi=>by omega) (λI μ n hn hJ next=>?_) λI μ hJ=>?_
 .dsimp only;refine cO (by omega) ⟨⟨by omega,by omega⟩,af (λh=>?_) λh=>⟨rfl,next λi hi=>?_⟩⟩
  .exact congrArg (·,()) (Og hn hJ (apy.1 h)).symm
  .rcases apQ i n with h'|h'
   .exact hJ i h'
   .have:i=n:=by omega
    rw[this];exact apu.1 h
 .dsimp only;exact bY (by omega) (congrArg (·,()) (IE hJ).symm)
theorem ZW:OK uf.e:=by
 refine aV [] ⟨⟩ ab7 λf0 f1 f2 f3 l s=>show uf.goal (ZX f0 f1 f2 f3 l s) ((f0,f1,f2,f3,l,()),s,())fromλhin hp=>?_
 dsimp only[uf]at hp ⊢;have hlen:l.length<=maxLen:=hin.1.2.2.2.2.1.1;rw[maxLen_eq]at hlen;refine dP l.length hlen (λn=>∀i,i<n->(bU l i).1≠s) (λi hi=>by omega) (λI μ n hn hJ next=>?_) λI μ hJ=>?_
 .dsimp only;refine cO (by omega) ⟨⟨by omega,by omega⟩,af (λh=>⟨⟨by omega,by omega⟩,?_⟩) λh=>⟨rfl,next λi hi=>?_⟩⟩
  .exact congrArg (·,()) (Og hn hJ (apy.1 h)).symm
  .rcases apQ i n with h'|h'
   .exact hJ i h'
   .have:i=n:=by omega
    rw[this];exact apu.1 h
 .dsimp only;exact bY (by omega) (congrArg (·,()) (IE hJ).symm)
theorem ZY:OK ug.e:=by
 refine aV [pU.e] ⟨JS,⟨⟩⟩ H0 λf0 f1 f2 f3 l s=>show ug.goal (Z4 f0 f1 f2 f3 l s) ((f0,f1,f2,f3,l,()),s,())fromλhin hp=>?_
 dsimp only[ug]at hp ⊢;refine⟨trivial,?_⟩;cases h:((dY l s).1==1)with
 |true=>dsimp only[bne];rw[h];rfl
 |false=>dsimp only[bne];rw[h];rfl
theorem adb{α β:Type}[BEq β][LawfulBEq β](g:α->β)(v:β)(s:List α):Sp.findAt (λx=>v==g x) s=Sp.findAt (λx=>g x==v) s:=by
 congr 1
 funext x
 rw[apO,apy,apy];exact eq_comm
theorem PK:OK rJ.e:=by
 refine aV [] ⟨⟩ RJ λs v=>show rJ.goal (PL s v) (s,v,())fromλhin hp=>?_
 dsimp only[rJ]at hp ⊢;exact aiZ (K:=λr=>r=(Sp.findAt (λx=>x.1==v) s,())) (λx:Int×Unit=>v==x.1) (0,()) s _ hin.1.1 (by rw[adb])
theorem KC:OK oq.e:=by
 refine aV [] ⟨⟩ MI λs v=>show oq.goal (KD s v) (s,v,())fromλhin hp=>?_
 dsimp only[oq]at hp ⊢;exact aiZ (K:=λr=>r=(Sp.findAt (λx=>x.1==v) s,())) (λx:List UInt8×Unit=>v==x.1) ([],()) s _ hin.1.1 (by rw[adb])
theorem BB:OK kP.e:=by
 refine aV [rJ.e] ⟨PK,⟨⟩⟩ H0 λs v=>show kP.goal (KE s v) (s,v,())fromλhin hp=>?_
 dsimp only[kP]at hp ⊢;exact⟨trivial,congrArg (·,()) (afm _ s)⟩
theorem G8:OK lJ.e:=by
 refine aV [oq.e] ⟨KC,⟨⟩⟩ H0 λs v=>show lJ.goal (G9 s v) (s,v,())fromλhin hp=>?_
 dsimp only[lJ]at hp ⊢;exact⟨trivial,congrArg (·,()) (afm _ s)⟩
theorem RN:OK oP.e:=by
 refine aV [kP.e] ⟨BB,⟨⟩⟩ H0 λs v=>show oP.goal (RP s v) (s,v,())fromλhin hp=>?_
 dsimp only[oP]at hp ⊢;exact⟨trivial,rfl⟩
theorem FU:OK l7.e:=by
 refine aV [] ⟨⟩ UN λs v=>show l7.goal (RQ s v) (s,v,())fromλhin hp=>?_
 dsimp only[l7]at hp ⊢;exact aoh (K:=λr=>r=(dh s v,())) (λx:Int×Unit=>x.1==v) (0,()) s _ hin.1.1 rfl
theorem qN:OK jk.e:=by
 refine aV [] ⟨⟩ RS λs=>show jk.goal (PN s) (s,())fromλhin hp=>?_
 dsimp only[jk]at hp ⊢;have hp:s.length<=10000000:=hp;intro g hg;refine af (λh=>?_) λh=>⟨by rw[cZ];omega,rfl⟩;exact congrArg (·,()) (ap1.1 (hg h)).symm
abbrev RR0:bT:=([],[],())
theorem ade{r:List bT}(h:bQ r){n:Nat}(hn:n<r.length):(r.getD n RR0).2.1.length<=1000:=h.2 _ (getD_mem (d:=RR0) hn)
theorem Z5{r:List bT}{n:Nat}{s:Sp.Bytes}(hn:n<r.length)(hJ:∀i,i<n->(nR r i).1≠s)(e:(nR r n).1=s):dV r s=fF r n:=by rw[← e];exact RU hn λj hj=>by rw[e];exact hJ j hj
theorem AX:OK kL.e:=by
 refine aV [jk.e] ⟨qN,⟨⟩⟩ Xw λr s=>show kL.goal (UO r s) (r,s,())fromλhin hp=>?_
 dsimp only[kL]at hp ⊢;have hp:bQ r:=hp;have hlen:r.length<=1000:=hp.1;refine dP r.length (by omega) (λn=>∀i,i<n->(nR r i).1≠s) (λi hi=>by omega) (λI μ n hn hJ next=>?_) λI μ hJ=>?_
 .dsimp only;refine cO (by omega) ⟨⟨by omega,by omega⟩,af (λh=>⟨apv (ade hp hn) (by decide),?_⟩) λh=>⟨rfl,next λi hi=>?_⟩⟩
  .exact congrArg (·,()) (Z5 hn hJ (apy.1 h)).symm
  .rcases apQ i n with h'|h'
   .exact hJ i h'
   .have:i=n:=by omega
    rw[this];exact apu.1 h
 .dsimp only;exact bY (by omega) (congrArg (·,()) (Fg hJ).symm)
theorem Gt:OK ng.e:=by
 refine aV [] ⟨⟩ Xx λr s=>show ng.goal (UQ r s) (r,s,())fromλhin hp=>?_
 dsimp only[ng]at hp ⊢;have hp:bQ r:=hp;have hlen:r.length<=1000:=hp.1;refine dP r.length (by omega) (λn=>∀i,i<n->(nR r i).1≠s) (λi hi=>by omega) (λI μ n hn hJ next=>?_) λI μ hJ=>?_
 .dsimp only;refine cO (by omega) ⟨⟨by omega,by omega⟩,af (λh=>⟨⟨by omega,by omega⟩,by have:(r.getD n ([],[],())).2.1.length<=1000:=ade hp hn;rw[cZ,apG];omega,?_⟩) λh=>⟨rfl,next λi hi=>?_⟩⟩
  .exact congrArg (·,()) (Z5 hn hJ (apy.1 h)).symm
  .rcases apQ i n with h'|h'
   .exact hJ i h'
   .have:i=n:=by omega
    rw[this];exact apu.1 h
 .dsimp only;exact bY (by omega) (congrArg (·,()) (Fg hJ).symm)
theorem Xy{q:List aU}{f:aA}{X:BX}{a:Nat}(h5:(Sp.nodeAt q a).1≠5)(h6:(Sp.nodeAt q a).1≠6)(h7:(Sp.nodeAt q a).1≠7):Sp.val q f X a=jd (Sp.nodeAt q a) f X:=by rw[MJ,if_neg h5,if_neg h6,if_neg h7]
theorem agM{q:List aU}{f:aA}{X:BX}{a:Nat}(h5:(Sp.nodeAt q a).1=5)(hl:(Sp.nodeAt q a).2.1.toNat<a):Sp.val q f X a=!Sp.val q f X (Sp.nodeAt q a).2.1.toNat:=by rw[MJ q f X a,if_pos h5,dif_pos hl]
theorem agN{q:List aU}{f:aA}{X:BX}{a:Nat}(h6:(Sp.nodeAt q a).1=6)(hl:(Sp.nodeAt q a).2.1.toNat<a/\(Sp.nodeAt q a).2.2.1.toNat<a):Sp.val q f X a=(Sp.val q f X (Sp.nodeAt q a).2.1.toNat&&Sp.val q f X (Sp.nodeAt q a).2.2.1.toNat):=by rw[MJ q f X a,if_neg (by omega),if_pos h6,dif_pos hl]
theorem ai0{q:List aU}{f:aA}{X:BX}{a:Nat}(h7:(Sp.nodeAt q a).1=7)(hl:(Sp.nodeAt q a).2.1.toNat<a/\(Sp.nodeAt q a).2.2.1.toNat<a):Sp.val q f X a=(Sp.val q f X (Sp.nodeAt q a).2.1.toNat||Sp.val q f X (Sp.nodeAt q a).2.2.1.toNat):=by rw[MJ q f X a,if_neg (by omega),if_neg (by omega),if_pos h7,dif_pos hl]
theorem akB{n:aU}{f:aA}{X:BX}(h:n.1=2):jd n f X=!((dY f.2.2.2.2.1 n.2.2.2.1).1==0):=by unfold jd;rw[h];rfl
theorem akC{n:aU}{f:aA}{X:BX}(h:n.1=3):jd n f X=decide (dY f.2.2.2.2.1 n.2.2.2.1=(n.2.2.2.2.1,n.2.2.2.2.2.1,n.2.2.2.2.2.2.1,())):=by unfold jd;rw[h];rfl
theorem akD{n:aU}{f:aA}{X:BX}(h:n.1=4):jd n f X=((dY f.2.2.2.2.1 n.2.2.2.1).1==1&&decide ((dY f.2.2.2.2.1 n.2.2.2.1).2.1<n.2.2.2.2.2.1)):=by unfold jd;rw[h];rfl
theorem akE{n:aU}{f:aA}{X:BX}(h:n.1=8):jd n f X=X n.2.2.2.1 f.1:=by unfold jd;rw[h];rfl
theorem akF{n:aU}{f:aA}{X:BX}(h:n.1=9):jd n f X=(!(f.2.2.2.1==0)&&X n.2.2.2.1 f.2.2.2.1):=by unfold jd;rw[h];rfl
theorem akG{n:aU}{f:aA}{X:BX}(h2:n.1≠2)(h3:n.1≠3)(h4:n.1≠4)(h8:n.1≠8)(h9:n.1≠9):jd n f X=true:=by unfold jd;rw[apu.2 h2,apu.2 h3,apu.2 h4,apu.2 h8,apu.2 h9];rfl
theorem eq3(v w:RV):(v.1==w.1&&(v.2.1==w.2.1&&(v.2.2.1==w.2.2.1&&true)))=decide (v=w):=by rw[apO];simp[Prod.ext_iff]
theorem Eh{x y z:Int}(h:x=y)(hne:y≠z):x≠z:=by rw[h];exact hne
theorem ahS{n:aU}{a:Int}(h:iI n a=true):n.1=1\/n.1=2\/n.1=3\/n.1=4\/n.1=5\/n.1=6\/n.1=7\/n.1=8\/n.1=9:=by unfold iI at h;dsimp only at h;refine ap2 λhno=>?_;have e:∀k:Int,n.1≠k->(n.1==k)=false:=λk hk=>apu.2 hk;rw[e 1 (λh=>hno (by simp[h])),e 2 (λh=>hno (by simp[h])),e 3 (λh=>hno (by simp[h])),e 4 (λh=>hno (by simp[h])),e 5 (λh=>hno (by simp[h])),e 6 (λh=>hno (by simp[h])),e 7 (λh=>hno (by simp[h])),e 8 (λh=>hno (by simp[h])),e 9 (λh=>hno (by simp[h]))]at h;cases h
theorem I5[xI](KF:lV prog G oC qQ):lV prog G Bz yR:=by
 refine I7 (ad5 [oP.e,kL.e,(oC,.pure qQ),ug.e,pU.e] ⟨RN,AX,⟨KF,IY⟩,ZY,JS,trivial⟩) ?_;intro q a f0 f1 f2 f3 f4 r hin hp;obtain⟨⟨hq,h0,h1,hr⟩,hm⟩:=hp;have ha:a.toNat<q.length:=by omega
 obtain⟨k1,k2⟩:=MK hq ha;have fin:∀z:Bool,Sp.val q (f0,f1,f2,f3,f4,()) (aT r) a.toNat=z->(z,())=(Sp.val q (f0,f1,f2,f3,f4,()) (aT r) a.toNat,()):=λz h=>by rw[h]
 have leaf:∀k:Int,k≠5->k≠6->k≠7->(Sp.nodeAt q a.toNat).1=k->Sp.val q (f0,f1,f2,f3,f4,()) (aT r) a.toNat=jd (Sp.nodeAt q a.toNat) (f0,f1,f2,f3,f4,()) (aT r):=λk a b c h=>Xy (Eh h a) (Eh h b) (Eh h c);have kid:∀k:Int,0<=k->k.toNat<a.toNat->(aS q=true/\0<=k/\k<(q.length:Int)/\bQ r)/\k.toNat<xJ:=λk h2 h3=>⟨⟨hq,h2,by omega,hr⟩,by omega⟩;refine⟨⟨h0,h1⟩,af (λh=>⟨trivial,fin _ ((leaf 2 (by decide) (by decide) (by decide) (apy.1 h)).trans (akB (apy.1 h)))⟩) λh2=>af (λh=>⟨trivial,fin _ ((leaf 3 (by decide) (by decide) (by decide) (apy.1 h)).trans ((akC (apy.1 h)).trans (eq3 _ _).symm))⟩) λh3=>af (λh=>⟨trivial,?_⟩) λh4=>af (λh=>?_) λh5=>af (λh=>?_) λh6=>af (λh=>?_) λh7=>af (λh=>⟨hr,trivial,fin _ ((leaf 8 (by decide) (by decide) (by decide) (apy.1 h)).trans (akE (apy.1 h)))⟩) λh8=>af (λh=>?_) λh9=>?_⟩
 .have e:=(leaf 4 (by decide) (by decide) (by decide) (apy.1 h)).trans (akD (apy.1 h));dsimp only at e ⊢;refine af (λg=>fin _ (e.trans ?_)) λg=>fin _ (e.trans ?_)
  .unfold Sp.nodeAt;rw[g];rfl
  .unfold Sp.nodeAt;rw[g];rfl
 .have hk:=k1 (.inl (apy.1 h));exact⟨kid _ hk.1 hk.2,fin _ (agM (apy.1 h) hk.2)⟩
 .have ht:jX (Sp.nodeAt q a.toNat)=true:=uX.2 (.inl (apy.1 h));have hk:=k1 (.inr ht);have hk2:=k2 ht;have e:=agN (f:=(f0,f1,f2,f3,f4,())) (X:=aT r) (apy.1 h) ⟨hk.2,hk2.2⟩;refine⟨kid _ hk.1 hk.2,af (λg=>⟨kid _ hk2.1 hk2.2,fin _ (e.trans ?_)⟩) λg=>fin _ (e.trans ?_)⟩
  .have g:Sp.val q (f0,f1,f2,f3,f4,()) (aT r) (Sp.nodeAt q a.toNat).2.1.toNat=true:=g;rw[g];rfl
  .have g:Sp.val q (f0,f1,f2,f3,f4,()) (aT r) (Sp.nodeAt q a.toNat).2.1.toNat=false:=g;rw[g];rfl
 .have ht:jX (Sp.nodeAt q a.toNat)=true:=uX.2 (.inr (apy.1 h));have hk:=k1 (.inr ht);have hk2:=k2 ht;have e:=ai0 (f:=(f0,f1,f2,f3,f4,())) (X:=aT r) (apy.1 h) ⟨hk.2,hk2.2⟩;refine⟨kid _ hk.1 hk.2,af (λg=>fin _ (e.trans ?_)) λg=>⟨kid _ hk2.1 hk2.2,fin _ (e.trans ?_)⟩⟩
  .have g:Sp.val q (f0,f1,f2,f3,f4,()) (aT r) (Sp.nodeAt q a.toNat).2.1.toNat=true:=g;rw[g];rfl
  .have g:Sp.val q (f0,f1,f2,f3,f4,()) (aT r) (Sp.nodeAt q a.toNat).2.1.toNat=false:=g;rw[g];rfl
 .have e:=(leaf 9 (by decide) (by decide) (by decide) (apy.1 h)).trans (akF (apy.1 h));refine af (λg=>⟨hr,trivial,fin _ (e.trans ?_)⟩) λg=>fin _ (e.trans ?_)
  .have g:(!(f3==0))=true:=g;dsimp only;rw[g];rfl
  .have g:(!(f3==0))=false:=g;dsimp only;rw[g];rfl
 .have n2:=apu.1 h2;have n3:=apu.1 h3;have n4:=apu.1 h4;have n8:=apu.1 h8;have n9:=apu.1 h9;exact fin _ ((Xy (apu.1 h5) (apu.1 h6) (apu.1 h7)).trans (akG n2 n3 n4 n8 n9))
theorem UR:lV prog G CV Fq:=
 aiG (λn=>@CW ⟨n⟩) (λn=>@Ba ⟨n⟩) (by rintro⟨q,at',⟨i,o,s,l,a,⟨⟩⟩,r,⟨⟩⟩ h;exact Nat.not_lt_zero _ h.2) (by rintro _ ⟨q,at',⟨i,o,s,l,a,⟨⟩⟩,r,⟨⟩⟩;rfl) (by rintro⟨q,at',⟨i,o,s,l,a,⟨⟩⟩,r,⟨⟩⟩ h;exact⟨_,h,Nat.lt_succ_self _⟩) (by rintro _ ⟨q,at',⟨i,o,s,l,a,⟨⟩⟩,r,⟨⟩⟩;rfl) λn h=>@I5 ⟨n⟩ h
theorem ML[xI](Oh:lV prog G qM uh):lV prog G D6 Bd:=by
 refine MN (ad5 [l7.e,ng.e,(qM,.pure uh),uf.e] ⟨FU,Gt,⟨Oh,LH⟩,ZW,trivial⟩) ?_;intro q a f0 f1 f2 f3 f4 r hin hp;obtain⟨⟨hq,h0,h1,hr⟩,hm⟩:=hp;have ha:a.toNat<q.length:=by omega
 obtain⟨k1,k2⟩:=MK hq ha;have fin:∀z:Bool,Sp.val q (f0,f1,f2,f3,f4,()) (aT r) a.toNat=z->(z,())=(Sp.val q (f0,f1,f2,f3,f4,()) (aT r) a.toNat,()):=λz h=>by rw[h]
 have leaf:∀k:Int,k≠5->k≠6->k≠7->(Sp.nodeAt q a.toNat).1=k->Sp.val q (f0,f1,f2,f3,f4,()) (aT r) a.toNat=jd (Sp.nodeAt q a.toNat) (f0,f1,f2,f3,f4,()) (aT r):=λk a b c h=>Xy (Eh h a) (Eh h b) (Eh h c);have kid:∀k:Int,0<=k->k.toNat<a.toNat->(aS q=true/\0<=k/\k<(q.length:Int)/\bQ r)/\k.toNat<xJ:=λk h2 h3=>⟨⟨hq,h2,by omega,hr⟩,by omega⟩;refine⟨⟨h0,h1⟩,trivial,af (λh=>fin _ ((leaf 1 (by decide) (by decide) (by decide) (apy.1 h)).trans (akG (Eh (apy.1 h) (by decide)) (Eh (apy.1 h) (by decide)) (Eh (apy.1 h) (by decide)) (Eh (apy.1 h) (by decide)) (Eh (apy.1 h) (by decide))))) λh1=>af (λh=>fin _ ((leaf 2 (by decide) (by decide) (by decide) (apy.1 h)).trans (akB (apy.1 h)))) λh2=>af (λh=>fin _ ((leaf 3 (by decide) (by decide) (by decide) (apy.1 h)).trans ((akC (apy.1 h)).trans (eq3 _ _).symm))) λh3=>af (λh=>?_) λh4=>af (λh=>?_) λh5=>af (λh=>?_) λh6=>af (λh=>?_) λh7=>af (λh=>⟨hr,trivial,fin _ ((leaf 8 (by decide) (by decide) (by decide) (apy.1 h)).trans (akE (apy.1 h)))⟩) λh8=>?_⟩
 .have e:=(leaf 4 (by decide) (by decide) (by decide) (apy.1 h)).trans (akD (apy.1 h));dsimp only at e ⊢;refine af (λg=>fin _ (e.trans ?_)) λg=>fin _ (e.trans ?_)
  .unfold Sp.nodeAt;rw[g];rfl
  .unfold Sp.nodeAt;rw[g];rfl
 .have hk:=k1 (.inl (apy.1 h));exact⟨kid _ hk.1 hk.2,fin _ (agM (apy.1 h) hk.2)⟩
 .have ht:jX (Sp.nodeAt q a.toNat)=true:=uX.2 (.inl (apy.1 h));have hk:=k1 (.inr ht);have hk2:=k2 ht;have e:=agN (f:=(f0,f1,f2,f3,f4,())) (X:=aT r) (apy.1 h) ⟨hk.2,hk2.2⟩;refine⟨kid _ hk.1 hk.2,af (λg=>⟨kid _ hk2.1 hk2.2,fin _ (e.trans ?_)⟩) λg=>fin _ (e.trans ?_)⟩
  .have g:Sp.val q (f0,f1,f2,f3,f4,()) (aT r) (Sp.nodeAt q a.toNat).2.1.toNat=true:=g;rw[g];rfl
  .have g:Sp.val q (f0,f1,f2,f3,f4,()) (aT r) (Sp.nodeAt q a.toNat).2.1.toNat=false:=g;rw[g];rfl
 .have ht:jX (Sp.nodeAt q a.toNat)=true:=uX.2 (.inr (apy.1 h));have hk:=k1 (.inr ht);have hk2:=k2 ht;have e:=ai0 (f:=(f0,f1,f2,f3,f4,())) (X:=aT r) (apy.1 h) ⟨hk.2,hk2.2⟩;refine⟨kid _ hk.1 hk.2,af (λg=>fin _ (e.trans ?_)) λg=>⟨kid _ hk2.1 hk2.2,fin _ (e.trans ?_)⟩⟩
  .have g:Sp.val q (f0,f1,f2,f3,f4,()) (aT r) (Sp.nodeAt q a.toNat).2.1.toNat=true:=g;rw[g];rfl
  .have g:Sp.val q (f0,f1,f2,f3,f4,()) (aT r) (Sp.nodeAt q a.toNat).2.1.toNat=false:=g;rw[g];rfl
 .have n1:=apu.1 h1;have n2:=apu.1 h2;have n3:=apu.1 h3;have n4:=apu.1 h4;have n5:=apu.1 h5;have n6:=apu.1 h6;have n7:=apu.1 h7;have n8:=apu.1 h8;have h9:(Sp.nodeAt q a.toNat).1=9:=by
   rcases ahS (IG hq ha).1 with h|h|h|h|h|h|h|h|h
   .exact(n1 h).elim
   .exact(n2 h).elim
   .exact(n3 h).elim
   .exact(n4 h).elim
   .exact(n5 h).elim
   .exact(n6 h).elim
   .exact(n7 h).elim
   .exact(n8 h).elim
   .exact h
  have e:=(leaf 9 (by decide) (by decide) (by decide) h9).trans (akF h9);refine af (λg=>⟨hr,trivial,fin _ (e.trans ?_)⟩) λg=>fin _ (e.trans ?_)
  .have g:(!(f3==0))=true:=g;dsimp only;rw[g];rfl
  .have g:(!(f3==0))=false:=g;dsimp only;rw[g];rfl
theorem Z7:lV prog G EM Hy:=
 aiG (λn=>@Ep ⟨n⟩) (λn=>@Dq ⟨n⟩) (by rintro⟨q,at',⟨i,o,s,l,a,⟨⟩⟩,r,⟨⟩⟩ h;exact Nat.not_lt_zero _ h.2) (by rintro _ ⟨q,at',⟨i,o,s,l,a,⟨⟩⟩,r,⟨⟩⟩;rfl) (by rintro⟨q,at',⟨i,o,s,l,a,⟨⟩⟩,r,⟨⟩⟩ h;exact⟨_,h,Nat.lt_succ_self _⟩) (by rintro _ ⟨q,at',⟨i,o,s,l,a,⟨⟩⟩,r,⟨⟩⟩;rfl) λn h=>@ML ⟨n⟩ h
theorem Z8:OK zy.e:=by
 refine aV [(CV,.pure Fq),jZ.e] ⟨⟨UR,Q8⟩,wC,⟨⟩⟩ H0 λq f0 f1 f2 f3 f4 r=>show zy.goal (Z9 q f0 f1 f2 f3 f4 r) (q,(f0,f1,f2,f3,f4,()),r,())fromλhin hp=>?_
 dsimp only[zy]at hp ⊢;obtain⟨h1,h2⟩:=hp;have e:∀z,aS q=z->jM q (f0,f1,f2,f3,f4,()) (aT r)=(z&&Sp.val q (f0,f1,f2,f3,f4,()) (aT r) (q.length-1)):=λz hz=>by unfold jM;rw[hz]
 refine⟨by omega,af (λh=>?_) λh=>?_⟩
 .have hl:=Sp.xG h;rw[qY (by omega) (by omega)];refine⟨⟨h,by omega,by omega,h2⟩,?_⟩;rw[e _ h,apG];rfl
 .rw[e _ h];rfl
theorem aac:OK zA.e:=by
 refine aV [(EM,.pure Hy),jY.e] ⟨⟨Z7,Wy⟩,wE,⟨⟩⟩ H0 λq f0 f1 f2 f3 f4 r=>show zA.goal (aad q f0 f1 f2 f3 f4 r) (q,(f0,f1,f2,f3,f4,()),r,())fromλhin hp=>?_
 dsimp only[zA]at hp ⊢;obtain⟨h1,h2⟩:=hp;have e:∀z,aS q=z->jM q (f0,f1,f2,f3,f4,()) (aT r)=(z&&Sp.val q (f0,f1,f2,f3,f4,()) (aT r) (q.length-1)):=λz hz=>by unfold jM;rw[hz]
 refine⟨by omega,af (λh=>?_) λh=>?_⟩
 .have hl:=Sp.xG h;rw[qY (by omega) (by omega)];refine⟨⟨h,by omega,by omega,h2⟩,?_⟩;rw[e _ h,apG];rfl
 .rw[e _ h];rfl
theorem PO:OK rM.e:=by
 refine aV [zy.e] ⟨Z8,⟨⟩⟩ RX λs0 fs nx q r=>show rM.goal (PS s0 fs nx q r) ((s0,fs,nx,()),q,r,())fromλhin hp=>?_
 dsimp only[rM]at hp ⊢;obtain⟨h1,h2,h3⟩:=hp;have hl:fs.length<=1000:=h1.2.1;exact Xz (K:=λz=>z=(Sp.sel fs q (aT r),())) (λf=>jM q f (aT r)) (λf:aA=>(f.1,())) (0,0,false,0,[],()) fs _ (A:=λ_=>q.length<=1000/\bQ r) (λ_ _=>⟨h2,h3⟩) (by omega) rfl
theorem Ew:OK nT.e:=by
 refine aV [] ⟨⟩ RY λa b=>show nT.goal (PU a b) (a,b,())fromλhin hp=>?_
 dsimp only[nT]at hp ⊢;exact eqL (K:=λr=>r=(decide (a=b),())) (λx y:Int×Unit=>x.1 !=y.1) (λx y=>by simp[Prod.ext_iff]) _ a b _ hin.1.1 rfl
end Go.Proofs.Tryz
namespace Go.Proofs.Tryz
open Go Go.Fw Go.IntWalk Sp
theorem ajM{fs:List aA}{a:List bM}{nx:Int}{d:List aB}(r:List bT)(nm:Sp.Bytes->Bool):∃out,(aI d&&aW (a,fs,nx,()))=true->jR fs d r nm out:=by
 by_cases h:(aI d&&aW (a,fs,nx,()))=true
 .rw[apt]at h;obtain⟨au,hl⟩:=afc h.1;obtain⟨out,ho⟩:=aae r nm (iZ.1 h.1).1 hl (Am h.2);exact⟨out,λ_=>ho⟩
 .exact⟨[],λh'=>(h h').elim⟩
theorem JU{fs:List aA}{a:List bM}{nx:Int}{d:List aB}(r:List bT)(nm:Sp.Bytes->Bool):∃out,((aI d&&aW (a,fs,nx,()))=true->jR fs d r nm out)/\((aI d&&aW (a,fs,nx,()))=false->out=[]):=by
 cases h:(aI d&&aW (a,fs,nx,()))with
 |true=>obtain⟨out,ho⟩:=ajM (fs:=fs) (a:=a) (nx:=nx) (d:=d) r nm;exact⟨out,λ_=>ho h,λh=>by cases h⟩
 |false=>exact⟨[],λh=>(by cases h),λ_=>rfl⟩
abbrev DD0:aB:=([],[],())
theorem alR{a b:Int}(h:(a !=b)=false):a=b:=by simpa using h
theorem afn{α β:Type}(g:α->β)(d:α)(l:List α){n:Nat}(h:n<l.length):(l.take n).map g++[g (l.getD n d)]=(l.take (n+1)).map g:=by rw[Sp.take_succ' l n d h,aqb];rfl
theorem Dj{d:List aB}(h:aI d=true):dM d=true/\d.length<=5:=⟨(iZ.1 h).1,NT (iZ.1 h).1⟩
theorem still_at{d:List aB}{au:List (Int×Unit)}{nm:Sp.Bytes->Bool}{fs:List aA}{out:List bT}{k:Nat}
 (h:∀j,j<d.length->j<d.length->nm (Sp.nameOf d j)=true->Sp.lv au j=k->Sp.sel fs (dZ d j) (aT out)=fF out j):∀i,i<d.length->nm (Sp.nameOf d i)=true->Sp.lv au i=k->Sp.sel fs (dZ d i) (aT out)=fF out i:=λi hi=>h i hi hi
theorem afo:∀(l:List (Int×Unit)),0<l.length->∃m:Int,(∀x∈l,x.1<=m)/\(m,())∈l
 |[x],_=>⟨x.1,λy hy=>by rw[ap9.1 hy];exact ap5 _,ap9.2 rfl⟩
 |x::y::r,_=>by
  obtain⟨m,h1,h2⟩:=afo (y::r) (by simp);by_cases h:x.1<=m
  .exact⟨m,λz hz=>by rcases apN.1 hz with rfl|hz;exact h;exact h1 z hz,apx _ h2⟩
  .exact⟨x.1,λz hz=>by rcases apN.1 hz with rfl|hz;exact ap5 _;have:=h1 z hz;omega,apB⟩
theorem PV:OK rO.e:=by
 refine aV [zA.e] ⟨aac,⟨⟩⟩ RZ λs0 fs nx q r=>show rO.goal (PW s0 fs nx q r) ((s0,fs,nx,()),q,r,())fromλhin hp=>?_
 dsimp only[rO]at hp ⊢;obtain⟨h1,h2,h3⟩:=hp;have hl:fs.length<=1000:=h1.2.1;obtain⟨I,μ,g0,g1⟩:=Xz (K:=λz=>z=(Sp.sel fs q (aT r),())) (λf=>jM q f (aT r)) (λf:aA=>(f.1,())) (0,0,false,0,[],()) fs (q,r,(s0,fs,nx,()),()) (A:=λ_=>q.length<=1000/\bQ r) (λ_ _=>⟨h2,h3⟩) (by omega) rfl;refine⟨I,μ,g0,λy hy=>?_⟩;have h:=g1 y hy;dsimp only at h ⊢;revert h;cases decide (y.1.2.1<(fs.length:Int))with
 |false=>exact id
 |true=>
  rintro⟨b,a,h⟩;refine⟨b,a,?_⟩;revert h;cases jM q (fs.getD (Int.toNat y.1.2.1) (0,0,false,0,[],())) (aT r)with
  |true=>exactλh=>⟨b,h.1,rfl,h.2.2⟩
  |false=>exactλh=>⟨rfl,h.2⟩
theorem XB:OK yg.e:=by
 refine aV [] ⟨⟩ aaf λd=>show yg.goal (XC d) (d,())fromλhin hp=>?_
 dsimp only[yg]at hp ⊢;exact aoi (K:=λr=>r=(lK d,())) (λx:aB=>(x.1,())) ([],[],()) d _ (by have hp:d.length<=2000000:=hp;omega) rfl
theorem UU:OK vz.e:=by
 refine uO [] ⟨⟩ XD (λ⟨l,_⟩ hp=>by obtain⟨m,h⟩:=afo l hp;exact⟨((m,()),()),h⟩) λl=>show vz.goal (UW l) (l,())fromλhin hp=>?_
 dsimp only[vz]at hp ⊢;have hp:0<l.length:=hp;have hlen:l.length<=maxLen:=hin.1.1;rw[maxLen_eq]at hlen;refine⟨λ_=>True,af (λh=>by have:=iH h;omega) λh=>⟨rfl,trivial⟩,λ_ _=>⟨⟨by omega,by omega⟩,?_⟩⟩;refine⟨λy=>∃n:Nat,y.1.2.1=n/\1<=n/\n<=l.length/\(∀i,i<n->Sp.lv l i<=y.1.1)/\∃i,i<l.length/\Sp.lv l i=y.1.1,λy=>((l.length:Int)-y.1.2.1).toNat,⟨1,rfl,by omega,by omega,λi hi=>by rw[show i=0 by omega];exact ap5 _,0,hp,rfl⟩,?_⟩;rintro⟨⟨m,_,⟨⟩⟩,⟨⟩⟩ ⟨n,rfl,n1,n2,h1,h2⟩;dsimp only at h1 h2 ⊢;refine af (λhc=>?_) λhc=>⟨λx hx=>?_,?_⟩
 .have hc:=iH hc;have w:IntKind.i64.wrap ((n:Int)+1)=((n+1:Nat):Int):=fH _ (by omega);rw[w];have e:(l.getD (Int.toNat (n:Int)) (0,())).1=Sp.lv l n:=rfl;rw[e];refine⟨⟨by omega,by omega⟩,rfl,⟨n+1,rfl,by omega,by omega,λi hi=>?_,?_⟩,by omega⟩
  .by_cases hi':i=n
   .subst hi';split<;>omega
   .have:=h1 i (by omega);split<;>omega
  .split
   .exact⟨n,by omega,rfl⟩
   .exact h2
 .have hc:=iV hc;exact afd (p:=λz=>z<=m) (λi hi=>h1 i (by omega)) x hx
 .obtain⟨i,hi,e⟩:=h2;have:=Si hi;rw[e]at this;exact this
theorem Sj:OK tq.e:=by
 refine uO [vz.e,wL.e] ⟨UU,L6,⟨⟩⟩ H0 (λ⟨d,_⟩ _=>⟨(((1000:Int),()),()),⟨ap5 _,λau hs hl i hi=>by have:=(hl.2.1 i hi).2;have:=(Dj hs).2;show Sp.lv au i<=1000;omega⟩⟩) λd=>show tq.goal (Sl d) (d,())fromλhin hp=>?_
 dsimp only[tq]at hp ⊢;refine⟨hp,?_⟩;rintro⟨⟨au,ok,⟨⟩⟩,⟨⟩⟩ ⟨e1,e2⟩;have e1:ok=aI d:=e1;have e2:ok=true->jA d au:=e2;refine af (λh=>?_) λh=>af (λh2=>?_) λh2=>⟨?_,?_⟩
 .have h:ok=false:=gY h;exact⟨by decide,λl hs=>by rw[← e1,h]at hs;cases hs⟩
 .have h2:(au.length:Int)=0:=by simpa using h2
  have hl:=e2 (dO h);exact⟨by decide,λl hs hl' i hi=>by have:=hl.1;omega⟩
 .have h2:¬(au.length:Int)=0:=by simpa using h2
  show 0<au.length;omega
 .rintro⟨⟨m,⟨⟩⟩,⟨⟩⟩ ⟨g1,g2⟩;have hl:=e2 (dO h);have hlen:=(Dj (e1▸dO h)).2;have g2:(m,())∈au:=g2;refine⟨?_,λl hs hl' i hi=>?_⟩
  .obtain⟨i,hi,e⟩:=ap3 g2;have hi':i<d.length:=by rw[← hl.1];exact hi
   have:=(hl.2.1 i hi').2;have e3:Sp.lv au i=m:=by unfold Sp.lv;rw[apI,apw hi,e];rfl
   show m<=1000;omega
  .rw[Sm hl' hl];exact g1 _ (Si (by rw[hl.1];exact hi))
theorem Sr:OK tu.e:=by
 refine uO [wM.e] ⟨LZ,⟨⟩⟩ UX (λ⟨d,_⟩ _=>⟨(((1000:Int),()),()),⟨ap5 _,λau hs hl i hi=>by have:=(hl.2.1 i hi).2;have:=(Dj hs).2;show Sp.lv au i<=1000;omega⟩⟩) λd=>show tu.goal (Sv d) (d,())fromλhin hp=>?_
 dsimp only[tu]at hp ⊢;refine⟨hp,?_⟩;rintro⟨⟨au,ok,⟨⟩⟩,⟨⟩⟩ ⟨e1,e2,e3⟩;have e1:ok=aI d:=e1;have e2:ok=true->jA d au:=e2;have e3:ok=false->au=[]:=e3;have hlen:au.length<=5/\∀i,i<au.length->Sp.lv au i<=1000:=by
  cases hk:ok with
  |false=>rw[e3 hk];exact⟨by decide,λi hi=>by simp at hi⟩
  |true=>have hl:=e2 hk;have h5:=(Dj (e1▸hk)).2;exact⟨by rw[hl.1];exact h5,λi hi=>by have:=(hl.2.1 i (by rw[← hl.1];exact hi)).2;omega⟩
 refine⟨λy=>∃n:Nat,y.1.2.1=n/\n<=au.length/\y.1.1<=1000/\∀i,i<n->Sp.lv au i<=y.1.1,λy=>((au.length:Int)-y.1.2.1).toNat,⟨0,rfl,by omega,by decide,λi hi=>by omega⟩,?_⟩;rintro⟨⟨m,_,⟨⟩⟩,⟨⟩⟩ ⟨n,rfl,n2,hm,h1⟩;dsimp only at hm h1 ⊢;have e:(au.getD (Int.toNat (n:Int)) (0,())).1=Sp.lv au n:=rfl;rw[e];refine af (λhc=>?_) λhc=>?_
 .have hc:=iH hc;have w:IntKind.i64.wrap ((n:Int)+1)=((n+1:Nat):Int):=fH _ (by omega);rw[w];have am2:=hlen.2 n (by omega);refine⟨⟨by omega,by omega⟩,af (λg=>⟨⟨by omega,by omega⟩,rfl,⟨n+1,rfl,by omega,am2,λi hi=>?_⟩,by dsimp only;omega⟩) λg=>⟨rfl,⟨n+1,rfl,by omega,hm,λi hi=>?_⟩,by dsimp only;omega⟩⟩
  .have g:=iH g;by_cases hi':i=n
   .subst hi';exact ap5 _
   .have:=h1 i (by omega);dsimp only;omega
  .have g:=iV g;by_cases hi':i=n
   .subst hi';dsimp only;omega
   .exact h1 i (by omega)
 .have hc:=iV hc;refine⟨hm,λl hs hl' i hi=>?_⟩;have hl:=e2 (e1.trans hs);rw[Sm hl' hl];exact h1 i (by rw[← hl.1]at hi;omega)
theorem UY:OK vC.e:=by
 refine uO [nT.e,rM.e,tq.e,kL.e,lJ.e,mX.e,wL.e] ⟨Ew,PO,Sj,AX,G8,Eb,L6,⟨⟩⟩ XF (λ⟨(a,fs,nx,_),d,r,names,_⟩ _=>by obtain⟨out,h⟩:=JU (fs:=fs) (a:=a) (nx:=nx) (d:=d) r (qg names);exact⟨(((out,0,(aI d&&aW (a,fs,nx,())),()),())),⟨rfl,h⟩⟩) λa fs nx d r names=>show vC.goal (UZ a fs nx d r names) ((a,fs,nx,()),d,r,names,())fromλhin hp=>?_
 dsimp only[vC]at hp ⊢;obtain⟨hs,hd,hr⟩:iy (a,fs,nx,())/\iq d/\bQ r:=hp;refine⟨hd,?_⟩;rintro⟨⟨au,ok0,⟨⟩⟩,⟨⟩⟩ ⟨e1,e2⟩;have e1:ok0=aI d:=e1;have e2:ok0=true->jA d au:=e2;refine⟨λ_=>ok0=true/\aW (a,fs,nx,())=true,af (λh=>?_) λh=>⟨trivial,af (λh2=>?_) λh2=>⟨rfl,dO h,dO h2⟩⟩,?_⟩
 .have h:ok0=false:=gY h;have hz:(aI d&&aW (a,fs,nx,()))=false:=by rw[← e1,h];rfl
  exact⟨hz.symm,λh=>(by cases h),λ_=>rfl⟩
 .have h2:aW (a,fs,nx,())=false:=gY h2;have hz:(aI d&&aW (a,fs,nx,()))=false:=by rw[h2,aqD]
  exact⟨hz.symm,λh=>(by cases h),λ_=>rfl⟩
 rintro y3 ⟨hk,hst⟩;have II:aI d=true:=e1▸hk;have hz:(aI d&&aW (a,fs,nx,()))=true:=by rw[II,hst];rfl
 obtain⟨hok,hlen⟩:=Dj II;have hd:qf d:=zk hok;have hl:jA d au:=e2 hk;have hf:=Am hst;have hf:Sp.distinct fs:=hf;have hfs:fs.length<=1000:=hs.2.1;refine fB (λi(x:List bT)=>(((),i,()),x,())) (λy=>y.1.2.1) (λ_ _=>rfl) d.length (by omega) (λn l=>l=(d.take n).map (uS r (qg names))) rfl (λI μ n l hn hJ next=>?_) λI μ l hJ=>?_
 .subst hJ;have hl:((d.take n).map (uS r (qg names))).length<=n:=by rw[apD,apM];omega
  have step:=afn (uS r (qg names)) DD0 d hn;dsimp only;refine cO (by omega) ⟨⟨by omega,by omega⟩,trivial,af (λh=>⟨hr,by rw[cZ];simp only[apH,apV];omega,rfl,next _ ?_⟩) λh=>⟨by rw[cZ];simp only[apH,apV];omega,rfl,next _ ?_⟩⟩
  .rw[← step];have h:qg names (d.getD n DD0).1=false:=gY h;unfold uS;rw[h];rfl
  .rw[← step];have h:qg names (d.getD n DD0).1=true:=dO h;unfold uS;rw[h];rfl
 subst hJ;rw[apZ];dsimp only;refine bY (by omega) ⟨λy=>∃k:Nat,y.1.2.1=k/\l9 fs d r (qg names) au k y.2.1,λy=>(1002-y.1.2.1).toNat,⟨0,rfl,KG hok hl⟩,?_⟩;rintro⟨⟨ps,_,⟨⟩⟩,out,⟨⟩⟩ ⟨k,rfl,A⟩;dsimp only at A ⊢;refine⟨adf hd,?_⟩;rintro⟨⟨m,⟨⟩⟩,⟨⟩⟩ ⟨m1,m2⟩;have m1:m<=1000:=m1;have m2:∀i,i<d.length->Sp.lv au i<=m:=m2 au II hl;refine af (λhc=>?_) λhc=>⟨hz.symm,λ_=>Sp.at_end hok hl A λi hi=>(by have:=m2 i hi;have hc:¬(k:Int)<=m:=iV hc;omega),λh=>by cases h⟩;have hc:(k:Int)<=m:=iH hc;refine⟨λy=>l9 fs d r (qg names) au k y.2.1/\(y.1.2.1=false->∀i,i<d.length->qg names (Sp.nameOf d i)=true->Sp.lv au i=k->Sp.sel fs (dZ d i) (aT y.2.1)=fF y.2.1 i),λy=>Sp.room fs.length y.2.1*2+(if y.1.2.1=true then 1 else 0),⟨A,λh=>by cases h⟩,?_⟩;rintro⟨⟨ps2,ch,⟨⟩⟩,afp,⟨⟩⟩ ⟨A2,st2⟩;dsimp only at A2 st2 ⊢;have wk:IntKind.i64.wrap ((k:Int)+1)=((k+1:Nat):Int):=fH _ (by omega);refine af (λhch=>?_) λhch=>⟨rfl,⟨k+1,wk,Sp.at_next hok A2 (st2 hch)⟩,by rw[wk];dsimp only;omega⟩;subst hch;refine fB (λi(x:Bool×List bT)=>((x.1,i,()),x.2,())) (λy=>y.1.2.1) (λ_ _=>rfl) d.length (by omega) (λi x=>Hq fs d r (qg names) au k afp i x.1 x.2) (s0:=(false,afp)) ⟨A2,λh=>(by cases h),λ_=>⟨rfl,λj hj=>by omega⟩⟩ (λI μ i x hi hJ next=>?_) λI μ x hJ=>?_
 .obtain⟨c,KH⟩:=x;have A3:=hJ.1;have ol:KH.length=d.length:=A3.order.1;have hsm:=Vt A3 (by omega) hfs hr;dsimp only;rw[apG];refine cO (by omega) ⟨⟨by omega,by omega⟩,⟨by omega,by rw[hl.1];omega⟩,af (λh=>⟨rfl,next (c,KH) (FV hJ λ_ h'=>?_)⟩) λh=>⟨trivial,af (λh2=>⟨rfl,next (c,KH) (FV hJ λh'=>?_)⟩) λh2=>⟨⟨hs,EO hd hi,hsm⟩,⟨by omega,by omega⟩,by omega,trivial,af (λh3=>⟨⟨by omega,by omega⟩,by omega,rfl,next (true,_) (afq hok hl hf hJ hi (dO h2) ?_ ?_)⟩) λh3=>⟨rfl,next (c,KH) (FV hJ λ_ _=>?_)⟩⟩⟩⟩
  .exact(bne_iff_ne.1 h h').elim
  .have h2:qg names (Sp.nameOf d i)=false:=gY h2;rw[h2]at h';cases h'
  .exact alR h
  .exact iV (gY h3)
  .exact iH (dO h3)
 .obtain⟨c,KH⟩:=x;dsimp only;obtain⟨A3,c1,c2⟩:=hJ;refine bY (by omega) ⟨rfl,⟨A3,λhc=>still_at (c2 hc).2⟩,?_⟩;cases c with
  |true=>have:=c1 rfl;dsimp only at this ⊢;simp only[if_true];omega
  |false=>have:=(c2 rfl).1;dsimp only at this ⊢;rw[this];simp
theorem ab8:OK BI.e:=by
 refine uO [pR.e,rO.e,tu.e,mW.e,wM.e] ⟨Ed,PV,Sr,D9,LZ,⟨⟩⟩ adR (λ⟨(a,fs,nx,_),d,_⟩ _=>by obtain⟨out,h⟩:=JU (fs:=fs) (a:=a) (nx:=nx) (d:=d) [] (λ_=>true);exact⟨(((out,0,(aI d&&aW (a,fs,nx,())),()),())),⟨rfl,h⟩⟩) λa fs nx d=>show BI.goal (ab9 a fs nx d) ((a,fs,nx,()),d,())fromλhin hp=>?_
 dsimp only[BI]at hp ⊢;obtain⟨hs,hd⟩:iy (a,fs,nx,())/\iq d:=hp;have hr:bQ []:=⟨by decide,λx hx=>by cases hx⟩;refine⟨hd,?_⟩;rintro⟨⟨au,ok0,⟨⟩⟩,⟨⟩⟩ ⟨e1,e2,_⟩;have e1:ok0=aI d:=e1;have e2:ok0=true->jA d au:=e2;refine⟨λ_=>ok0=true/\aW (a,fs,nx,())=true,af (λh=>?_) λh=>⟨trivial,af (λh2=>?_) λh2=>⟨rfl,dO h,dO h2⟩⟩,?_⟩
 .have h:ok0=false:=gY h;have hz:(aI d&&aW (a,fs,nx,()))=false:=by rw[← e1,h];rfl
  exact⟨hz.symm,λh=>(by cases h),λ_=>rfl⟩
 .have h2:aW (a,fs,nx,())=false:=gY h2;have hz:(aI d&&aW (a,fs,nx,()))=false:=by rw[h2,aqD]
  exact⟨hz.symm,λh=>(by cases h),λ_=>rfl⟩
 rintro y3 ⟨hk,hst⟩;have II:aI d=true:=e1▸hk;have hz:(aI d&&aW (a,fs,nx,()))=true:=by rw[II,hst];rfl
 obtain⟨hok,hlen⟩:=Dj II;have hd:qf d:=zk hok;have hl:jA d au:=e2 hk;have hf:=Am hst;have hf:Sp.distinct fs:=hf;have hfs:fs.length<=1000:=hs.2.1;refine fB (λi(x:List bT)=>(((),i,()),x,())) (λy=>y.1.2.1) (λ_ _=>rfl) d.length (by omega) (λn l=>l=(d.take n).map (uS [] (λ_=>true))) rfl (λI μ n l hn hJ next=>?_) λI μ l hJ=>?_
 .subst hJ;have hl:((d.take n).map (uS [] (λ_=>true))).length<=n:=by rw[apD,apM];omega
  have step:=afn (uS [] (λ_=>true)) DD0 d hn;dsimp only;refine cO (by omega) ⟨⟨by omega,by omega⟩,by rw[cZ];simp only[apH,apV];omega,rfl,next _ ?_⟩;rw[← step];rfl
 subst hJ;rw[apZ];dsimp only;refine bY (by omega) ⟨λy=>∃k:Nat,y.1.2.1=k/\l9 fs d [] (λ_=>true) au k y.2.1,λy=>(1002-y.1.2.1).toNat,⟨0,rfl,KG hok hl⟩,?_⟩;rintro⟨⟨ps,_,⟨⟩⟩,out,⟨⟩⟩ ⟨k,rfl,A⟩;dsimp only at A ⊢;refine⟨adf hd,?_⟩;rintro⟨⟨m,⟨⟩⟩,⟨⟩⟩ ⟨m1,m2⟩;have m1:m<=1000:=m1;have m2:∀i,i<d.length->Sp.lv au i<=m:=m2 au II hl;refine af (λhc=>?_) λhc=>⟨hz.symm,λ_=>Sp.at_end hok hl A λi hi=>(by have:=m2 i hi;have hc:¬(k:Int)<=m:=iV hc;omega),λh=>by cases h⟩;have hc:(k:Int)<=m:=iH hc;refine⟨λy=>l9 fs d [] (λ_=>true) au k y.2.1/\(y.1.2.1=false->∀i,i<d.length->true=true->Sp.lv au i=k->Sp.sel fs (dZ d i) (aT y.2.1)=fF y.2.1 i),λy=>Sp.room fs.length y.2.1*2+(if y.1.2.1=true then 1 else 0),⟨A,λh=>by cases h⟩,?_⟩;rintro⟨⟨ps2,ch,⟨⟩⟩,afp,⟨⟩⟩ ⟨A2,st2⟩;dsimp only at A2 st2 ⊢;have wk:IntKind.i64.wrap ((k:Int)+1)=((k+1:Nat):Int):=fH _ (by omega);refine af (λhch=>?_) λhch=>⟨rfl,⟨k+1,wk,Sp.at_next hok A2 (st2 hch)⟩,by rw[wk];dsimp only;omega⟩;subst hch;refine fB (λi(x:Bool×List bT)=>((x.1,i,()),x.2,())) (λy=>y.1.2.1) (λ_ _=>rfl) d.length (by omega) (λi x=>Hq fs d [] (λ_=>true) au k afp i x.1 x.2) (s0:=(false,afp)) ⟨A2,λh=>(by cases h),λ_=>⟨rfl,λj hj=>by omega⟩⟩ (λI μ i x hi hJ next=>?_) λI μ x hJ=>?_
 .obtain⟨c,KH⟩:=x;have A3:=hJ.1;have ol:KH.length=d.length:=A3.order.1;have hsm:=Vt A3 (by omega) hfs hr;dsimp only;rw[apG];refine cO (by omega) ⟨⟨by omega,by rw[hl.1];omega⟩,af (λh=>⟨rfl,next (c,KH) (FV hJ λ_ h'=>?_)⟩) λh=>⟨⟨by omega,by omega⟩,⟨hs,EO hd hi,hsm⟩,⟨by omega,by omega⟩,by omega,trivial,af (λh3=>⟨⟨by omega,by omega⟩,by omega,rfl,next (true,_) (afq hok hl hf hJ hi rfl ?_ ?_)⟩) λh3=>⟨rfl,next (c,KH) (FV hJ λ_ _=>?_)⟩⟩⟩
  .exact(bne_iff_ne.1 h h').elim
  .exact alR h
  .exact iV (gY h3)
  .exact iH (dO h3)
 .obtain⟨c,KH⟩:=x;dsimp only;obtain⟨A3,c1,c2⟩:=hJ;refine bY (by omega) ⟨rfl,⟨A3,λhc=>still_at (nm:=λ_=>true) (c2 hc).2⟩,?_⟩;cases c with
  |true=>have:=c1 rfl;dsimp only at this ⊢;simp only[if_true];omega
  |false=>have:=(c2 rfl).1;dsimp only at this ⊢;rw[this];simp
end Go.Proofs.Tryz
namespace Go.Proofs.Tryz
open Go Go.Fw Go.IntWalk Sp
theorem IJ:OK rP.e:=by
 refine aV [] ⟨⟩ H0 λf0 f1 f2 f3 f4 id=>show rP.goal (XG f0 f1 f2 f3 f4 id) ((f0,f1,f2,f3,f4,()),(id,()),())fromλhin hp=>?_
 dsimp only[rP]at hp ⊢;exact rfl
theorem sU:OK eY.e:=by
 refine aV [rP.e] ⟨IJ,⟨⟩⟩ sZ λs1 id=>show eY.goal (sV s1 id) (s1,((id,()),()),())fromλhin hp=>?_
 dsimp only[eY]at hp ⊢;have hlen:s1.length<=maxLen:=hin.1.1;rw[maxLen_eq]at hlen;refine dP s1.length hlen (λn=>∀i,i<n->(Sp.fileAt s1 i).1≠id) (λi hi=>by omega) (λI μ n hn hJ next=>?_) λI μ hJ=>?_
 .dsimp only;refine cO (by omega) ⟨⟨by omega,by omega⟩,trivial,af (λh=>?_) λh=>⟨rfl,next λi hi=>?_⟩⟩
  .have h:(Sp.fileAt s1 n).1=id:=iH h;exact congrArg (·,()) (Sp.Iy hn hJ h).symm
  .rcases apQ i n with h'|h'
   .exact hJ i h'
   .have:i=n:=by omega
    subst this;have h:¬(Sp.fileAt s1 i).1=id:=iV h;exact h
 .dsimp only;exact bY (by omega) (congrArg (·,()) (YV hJ).symm)
theorem acd:OK BJ.e:=by
 refine aV [eY.e,rP.e] ⟨sU,IJ,⟨⟩⟩ H0 λs0 s1 s2 id=>show BJ.goal (ace s0 s1 s2 id) ((s0,s1,s2,()),id,())fromλhin hp=>?_
 dsimp only[BJ]at hp ⊢;exact⟨trivial,rfl⟩
theorem Oi{d:List aB}{i:Nat}(hi:i<d.length):qg (lK d) (Sp.nameOf d i)=true:=by rw[afr];unfold lK;rw[aqh];exact⟨bJ d i,getD_mem hi,rfl⟩
theorem Ei:bQ []:=⟨by decide,λx hx=>by cases hx⟩
theorem ai1{fs:List aA}{d:List aB}{out:List bT}(h:jR fs d [] (qg (lK d)) out):jR fs d [] (λ_=>true) out:=
 agk h (λi hi=>Oi hi) λi hi hn=>absurd ((Oi hi).symm.trans hn) (by decide)
theorem XH:OK yh.e:=by
 refine uO [vC.e,yg.e] ⟨UY,XB,⟨⟩⟩ H0 (λ⟨(a,fs,nx,_),d,_⟩ _=>by obtain⟨out,h⟩:=JU (fs:=fs) (a:=a) (nx:=nx) (d:=d) [] (λ_=>true);exact⟨(((out,(aI d&&aW (a,fs,nx,())),()),())),⟨rfl,h⟩⟩) λa fs nx d=>show yh.goal (XI a fs nx d) ((a,fs,nx,()),d,())fromλhin hp=>?_
 dsimp only[yh]at hp ⊢;refine⟨hp.2.1,⟨hp.1,hp.2,Ei⟩,λr hr=>⟨hr.1,λh=>ai1 (hr.2.1 h),hr.2.2⟩⟩
theorem XJ:OK yj.e:=by
 refine uO [BI.e] ⟨ab8,⟨⟩⟩ aag (λ⟨(a,fs,nx,_),d,_⟩ _=>by obtain⟨out,h⟩:=JU (fs:=fs) (a:=a) (nx:=nx) (d:=d) [] (λ_=>true);exact⟨(((out,(aI d&&aW (a,fs,nx,())),()),())),⟨rfl,h⟩⟩) λa fs nx d=>show yj.goal (XK a fs nx d) ((a,fs,nx,()),d,())fromλhin hp=>?_
 dsimp only[yj]at hp ⊢;exact⟨hp,λr hr=>hr⟩
end Go.Proofs.Tryz
namespace Go.Proofs.Tryz
open Go Go.Fw Go.IntWalk Sp
def asks(name:Sp.Bytes)(x:aB):Bool:=(aah x.2.1).contains name
theorem IK:OK mM.e:=by
 refine uO [] ⟨⟩ I8 (λ⟨s,_⟩ _=>⟨((s,()),()),rfl⟩) λs=>show mM.goal (IL s) (s,())fromλhin hp=>?_
 dsimp only[mM]at hp ⊢;have hp:s.length<=10000000:=hp;intro g hg;refine af (λh=>?_) λh=>⟨by rw[cZ];omega,rfl⟩;exact(ap1.1 (hg h)).symm
theorem Sz{α:Type}[BEq α][LawfulBEq α]:∀(a b:List α),a.Nodup->(∀x∈a,x∈b)->a.length<=b.length
 |[],_,_,_=>apW _
 |x::r,b,hn,h=>by
  rw[arI]at hn;have hx:=h x apB;have ih:=Sz r (b.erase x) hn.2 λy hy=>by
   have hne:y≠x:=λe=>by subst e;exact hn.1 hy
   rw[List.mem_erase_of_ne hne];exact h y (apx _ hy)
  rw[List.length_erase_of_mem hx]at ih;have:0<b.length:=List.length_pos_of_mem hx;rw[apH];omega
def Grown(d:List aB)(names out:Sp.LS):Prop:=∃ex,out=names++ex/\ex.Nodup/\(∀x∈ex,x∈lK d)/\∀x∈out,Sp.Reach d (λs=>qg names s=true) x.1
theorem Grown.len{d:List aB}{names out:Sp.LS}(h:Grown d names out):out.length<=names.length+d.length:=by obtain⟨ex,rfl,h1,h2,_⟩:=h;have:=Sz ex (lK d) h1 h2;unfold lK at this;rw[apD]at this;rw[apT];omega
theorem Grown.add{d:List aB}{names out:Sp.LS}(h:Grown d names out){x:Sp.Bytes×Unit}(h1:x∈lK d)(h2:x ∉ out)(h3:Sp.Reach d (λs=>qg names s=true) x.1):Grown d names (out++[x]):=by
 obtain⟨ex,rfl,g1,g2,g3⟩:=h;refine⟨ex++[x],by rw[aqp],?_,λy hy=>?_,λy hy=>?_⟩
 .rw[List.nodup_append];refine⟨g1,arI.2 ⟨by simp,List.nodup_nil⟩,λa ha b hb e=>h2 ?_⟩;rw[ap9.1 hb]at e;exact apX.2 (.inr (e▸ha))
 .rcases apX.1 hy with hy|hy
  .exact g2 y hy
  .rw[ap9.1 hy];exact h1
 .rcases apX.1 hy with hy|hy
  .exact g3 y hy
  .rw[ap9.1 hy];exact h3
theorem afs{d:List aB}{i:Nat}(hi:i<d.length):(Sp.nameOf d i,())∈lK d:=afr.1 (Oi hi)
end Go.Proofs.Tryz
namespace Go.Proofs.Tryz
open Go Go.Fw Go.IntWalk Sp
theorem AY:OK ni.e:=by
 refine aV [kP.e] ⟨BB,⟨⟩⟩ H0 λx b=>show ni.goal (U0 x b) (x,(b,()),())fromλhin hp=>?_
 dsimp only[ni]at hp ⊢;exact⟨trivial,rfl⟩
theorem wW:OK gm.e:=by
 refine aV [ni.e] ⟨AY,⟨⟩⟩ xU λl b=>show gm.goal (wX l b) (l,((b,()),()),())fromλhin hp=>?_
 dsimp only[gm]at hp ⊢;exact ai2 (K:=λr=>r=(Sp.findAt (λx:Int×Unit=>dh b x.1) l,())) (λx:Int×Unit=>dh b x.1) (0,()) l _ hin.1.1 rfl
theorem wF:OK fP.e:=by
 refine uO [gm.e,ni.e] ⟨wW,AY,⟨⟩⟩ wY (λ⟨s,((b,_),_),_⟩ _=>⟨((s.filter (λx=>!dh b x.1),()),()),rfl⟩) λs b=>show fP.goal (wG s b) (s,((b,()),()),())fromλhin hp=>?_
 dsimp only[fP]at hp ⊢;exact⟨trivial,ak9 (K:=λr=>r.1.1=s.filter λx=>!dh b x.1) (λx:Int×Unit=>dh b x.1) (0,()) s _ (by have hp:s.length<=10000000:=hp;omega) rfl⟩
theorem YZ:OK pV.e:=by
 refine uO [fP.e,ni.e,mM.e] ⟨wF,AY,IK,⟨⟩⟩ acf (λ⟨a,b,_⟩ _=>⟨((Sp.without a b,()),()),rfl⟩) λa b=>show pV.goal (aai a b) (a,b,())fromλhin hp=>?_
 dsimp only[pV]at hp ⊢;have hp:a.length<=10000000:=hp;refine⟨hp,?_⟩;rintro⟨⟨r0,⟨⟩⟩,⟨⟩⟩ e;have e:r0=a:=e;subst e;exact⟨hp,λr h=>h⟩
theorem ahT{r:List bT}(h:bQ r)(s:Sp.Bytes):(dV r s).length<=1000:=by
 have:∀l:List bT,(∀x∈l,x.2.1.length<=1000)->(dV l s).length<=1000:=by
  intro l
  induction l with
  |nil=>exactλ_=>apW _
  |cons x t ih=>
   intro hl;rw[dV];cases x.1==s with
   |true=>exact hl x apB
   |false=>exact ih λy hy=>hl y (apx _ hy)
 exact this r h.2
theorem agl{fs:List aA}{d:List aB}{r out:List bT}{nm:Sp.Bytes->Bool}(h:jR fs d r nm out)(hd:d.length<=1000)(hf:fs.length<=1000)(hr:bQ r):bQ out:=by
 refine⟨by rw[h.order.1];exact hd,λx hx=>?_⟩;obtain⟨i,hi,rfl⟩:=ap3 hx;have hi':i<d.length:=by rw[← h.order.1];exact hi
 have e:(out[i]).2.1=fF out i:=by unfold fF nR;rw[apI,apw hi];rfl
 rw[e];cases hn:nm (Sp.nameOf d i)with
 |true=>
  rw[h.fix i hi' hn];unfold Sp.sel;rw[apD];exact apv (aqd _ _) hf
 |false=>rw[h.kept i hi' hn];exact ahT hr _
end Go.Proofs.Tryz
namespace Go.Proofs.Tryz
open Go Go.Fw Go.IntWalk Sp
theorem agO{l:List (Int×Unit)}{s:Int}{m:Nat}(hm:m<=l.length)(h1:∀i,i<m->decide ((l.getD i (0,())).1<s)=true)(h2:m<l.length->decide ((l.getD m (0,())).1<s)=false):
 xP l s=bif decide (m<l.length)&&(l.getD m (0,())).1==s then l else l.take m++[(s,())]++l.drop m:=by
 obtain⟨e1,_⟩:=Ej (d:=((0:Int),())) l m hm (p:=λx=>decide (x.1<s)) h1 h2;unfold xP;rw[e1];have:(l.take m).length=m:=by rw[apM];omega
 rw[this]
theorem ajN(l:List (Int×Unit))(s:Int):(xP l s).length<=l.length+1:=by
 unfold xP;dsimp only;generalize (l.takeWhile λx=>decide (x.1<s)).length=n;cases decide (n<l.length)&&(l.getD n (0,())).1==s with
 |true=>exact Nat.le_succ _
 |false=>show(l.take n++[(s,())]++l.drop n).length<=_;simp only[apT,apM,aqm,apH,apV];omega
theorem XL:OK yt.e:=by
 refine aV [] ⟨⟩ aaj λl s=>show yt.goal (XM l s) (l,s,())fromλhin hp=>?_
 dsimp only[yt]at hp ⊢;have hp:l.length<=10000000:=hp;have fin:∀m:Nat,m<=l.length->xP l s=l.take m++[(s,())]++l.drop m->((0:Int)<=m/\(m:Int)<=l.length)/\0+(List.drop 0 (List.take m l)).length<=big/\(List.drop 0 (List.take m l)).length+[(s,())].length<=big/\((0:Int)<=m/\(m:Int)<=l.length)/\
  (List.drop 0 (List.take m l)++[(s,())]).length+(List.drop m (List.take l.length l)).length<=big/\(List.drop 0 (List.take m l)++[(s,())]++List.drop m (List.take l.length l),())=(xP l s,()):=by
  intro m hm h;refine⟨⟨by omega,by omega⟩,?_,?_,⟨by omega,by omega⟩,?_,?_⟩
  .rw[cZ];simp only[aqm,apM];omega
  .rw[cZ];simp only[aqm,apM,apH,apV];omega
  .rw[cZ];simp only[apT,aqm,apM,apH,apV];omega
  .rw[h,apZ,List.drop_zero]
 refine dP l.length (by omega) (λn=>∀i,i<n->decide ((l.getD i (0,())).1<s)=true) (λi hi=>by omega) (λI μ n hn hJ next=>?_) λI μ hJ=>?_
 .dsimp only;refine cO (by omega) ⟨⟨by omega,by omega⟩,af (λh=>⟨rfl,next (bZ (f:=λi=>decide ((l.getD i (0,())).1<s)) hJ h)⟩) λh=>cO (by omega) ⟨⟨by omega,by omega⟩,?_⟩⟩;have e:=agO (arC hn) hJ λ_=>h;rw[apE hn,aq6]at e;refine af (λh2=>?_) λh2=>fin n (arC hn) ?_
  .rw[show((l.getD n (0,())).1==s)=true from h2]at e;rw[e];rfl
  .rw[show((l.getD n (0,())).1==s)=false from h2]at e;exact e
 .dsimp only;refine bY (by omega) (bY (by omega) (fin l.length (apz _) ?_));have e:=agO (apz _) hJ λh=>by omega
  rw[apK (by omega)]at e;exact e
theorem Ap(l xs:List (Int×Unit)):(kY l xs).length<=l.length+xs.length:=by
 induction xs generalizing l with
 |nil=>exact apz _
 |cons x r ih=>have:=ih (xP l x.1);have:=ajN l x.1;show(kY (xP l x.1) r).length<=_;rw[apH];omega
theorem aak(l xs:List (Int×Unit))(x:Int×Unit):kY l (xs++[x])=xP (kY l xs) x.1:=by unfold kY;rw[List.foldl_append];rfl
theorem Kw:OK ou.e:=by
 refine aV [yt.e,l7.e] ⟨XL,FU,⟨⟩⟩ MO λl nm x y=>show ou.goal (KI l nm x y) (l,(nm,x,y,()),())fromλhin hp=>?_
 dsimp only[ou]at hp ⊢;have h1:l.length+x.length<=8000000:=hp;refine fB (λi(z:List (Int×Unit))=>((z,i,()),())) (λy=>y.1.2.1) (λ_ _=>rfl) l.length (by omega) (λn z=>z=kY [] ((l.take n).filter λz=>!dh y z.1)) rfl (λI μ n z hn hJ next=>?_) λI μ z hJ=>?_
 .subst hJ;have hl:(kY [] ((l.take n).filter λz=>!dh y z.1)).length<=n:=by have a:=Ap [] ((l.take n).filter λz=>!dh y z.1);have b:=aqd (λz:Int×Unit=>!dh y z.1) (l.take n);rw[apM]at b;rw[apV]at a;omega
  have step:=Vu (λz:Int×Unit=>!dh y z.1) (0,()) l hn;dsimp only;refine cO (by omega) ⟨⟨by omega,by omega⟩,trivial,af (λh=>⟨⟨by omega,by omega⟩,by omega,rfl,next _ ?_⟩) λh=>⟨rfl,next _ ?_⟩⟩
  .have h:(!dh y (l.getD n (0,())).1)=true:=h;rw[step,h];exact(aak _ _ _).symm
  .have h:(!dh y (l.getD n (0,())).1)=false:=h;rw[step,h];simp
 .subst hJ;rw[apZ];dsimp only;have hl:(kY [] (l.filter λz=>!dh y z.1)).length<=l.length:=by have a:=Ap [] (l.filter λz=>!dh y z.1);have b:=aqd (λz:Int×Unit=>!dh y z.1) l;rw[apV]at a;omega
  refine bY (by omega) (fB (λi(z:List (Int×Unit))=>((z,i,()),())) (λy=>y.1.2.1) (λ_ _=>rfl) x.length (by omega) (λn z=>z=kY (kY [] (l.filter λz=>!dh y z.1)) (x.take n)) rfl (λI μ n z hn hJ next=>?_) λI μ z hJ=>?_)
  .subst hJ;have a:=Ap (kY [] (l.filter λz=>!dh y z.1)) (x.take n);rw[apM]at a;dsimp only;refine cO (by omega) ⟨⟨by omega,by omega⟩,by omega,rfl,next _ ?_⟩;rw[Sp.take_succ' x n (0,()) hn,aak];rfl
  .subst hJ;rw[apZ];have a:=Ap (kY [] (l.filter λz=>!dh y z.1)) x;dsimp only;exact bY (by omega) ⟨by rw[cZ];omega,rfl⟩
theorem afj(l x y:List (Int×Unit)):(lM l x y).length<=l.length+x.length:=by have a:=Ap (kY [] (l.filter λz=>!dh y z.1)) x;have b:=Ap [] (l.filter λz=>!dh y z.1);have c:=aqd (λz:Int×Unit=>!dh y z.1) l;rw[apV]at b;show(kY (kY [] _) x).length<=_;omega
end Go.Proofs.Tryz
namespace Go.Proofs.Tryz
open Go Go.Fw Go.IntWalk Sp
def ahU(l:Sp.LS):Prop:=l.Pairwise λx y=>Op.bytesLess x.1 y.1=true
theorem ai3{x:Sp.Bytes×Unit}{r:Sp.LS}{s:Sp.Bytes}:CP (x::r) s=if Op.bytesLess x.1 s=true then x::CP r s else if x.1=s then x::r else(s,())::x::r:=by
 unfold CP;by_cases h:Op.bytesLess x.1 s=true
 .rw[if_pos h,List.takeWhile_cons_of_pos (p:=λx:Sp.Bytes×Unit=>Op.bytesLess x.1 s) h];dsimp only;rw[apH];cases hc:(decide ((r.takeWhile λx=>Op.bytesLess x.1 s).length<r.length)&&(r.getD (r.takeWhile λx=>Op.bytesLess x.1 s).length ([],())).1==s)with
  |true=>
   have:(decide ((r.takeWhile λx=>Op.bytesLess x.1 s).length+1<(x::r).length)&&((x::r).getD ((r.takeWhile λx=>Op.bytesLess x.1 s).length+1) ([],())).1==s)=true:=by rw[← hc,apH];simp[arh]
   rw[this];rfl
  |false=>
   have:(decide ((r.takeWhile λx=>Op.bytesLess x.1 s).length+1<(x::r).length)&&((x::r).getD ((r.takeWhile λx=>Op.bytesLess x.1 s).length+1) ([],())).1==s)=false:=by rw[← hc,apH];simp[arh]
   rw[this];rfl
 .rw[if_neg h,List.takeWhile_cons_of_neg (p:=λx:Sp.Bytes×Unit=>Op.bytesLess x.1 s) h];by_cases e:x.1=s
  .rw[if_pos e];simp[e]
  .rw[if_neg e];simp[apu.2 e]
theorem aft{s:Sp.Bytes}:∀{l:Sp.LS},ahU l->ahU (CP l s)
 |[],_=>aq4 _ _
 |y::r,h=>by
  obtain⟨h1,h2⟩:=ap6.1 h;have i1:=aft (s:=s) h2;rw[ai3];by_cases c1:Op.bytesLess y.1 s=true
  .rw[if_pos c1];refine ap6.2 ⟨λz hz=>?_,i1⟩;rcases(IQ z).1 hz with rfl|hz
   .exact c1
   .exact h1 z hz
  .rw[if_neg c1];by_cases c2:y.1=s
   .rw[if_pos c2];exact h
   .rw[if_neg c2];have c3:Op.bytesLess s y.1=true:=aal y.1 s (by simpa using c1) c2;refine ap6.2 ⟨λz hz=>?_,h⟩;rcases apN.1 hz with rfl|hz
    .exact c3
    .exact Aq _ _ _ c3 (h1 z hz)
theorem ala{l b:Sp.LS}(h:ahU l)(hs:∀x∈l,x∈b):l.length<=b.length:=by
 have hn:l.Nodup:=by unfold List.Nodup;exact List.Pairwise.imp (λ{a b} hab e=>MP hab (congrArg Prod.fst e)) h
 exact Sz l b hn hs
structure Rd(d:List aB)(names out:Sp.LS):Prop where
 asc:ahU out
 base:∀x∈names,x∈out
 reach:∀x∈out,Sp.Reach d (λs=>qg names s=true) x.1
 sub:∀x∈out,x∈names++lK d
theorem Rd.len{d:List aB}{names out:Sp.LS}(h:Rd d names out):out.length<=names.length+d.length:=by
 have:=ala h.asc h.sub;rw[apT]at this;have e:(lK d).length=d.length:=by unfold lK;rw[apD]
 omega
theorem Rd.put{d:List aB}{names out:Sp.LS}(h:Rd d names out){i:Nat}(hi:i<d.length){s:Sp.Bytes}(hs:(s,())∈out)(ha:s∈aah (dZ d i)):Rd d names (CP out (Sp.nameOf d i)) where
 asc:=aft h.asc
 base:=λx hx=>(IQ x).2 (.inr (h.base x hx))
 reach:=λx hx=>by
  rcases(IQ x).1 hx with rfl|hx
  .exact .step (h.reach _ hs) hi ha
  .exact h.reach x hx
 sub:=λx hx=>by
  rcases(IQ x).1 hx with rfl|hx
  .exact apX.2 (.inr (afs hi))
  .exact h.sub x hx
def shut(d:List aB)(out:Sp.LS):Prop:=∀i,i<d.length->∀s∈aah (dZ d i),(s,())∈out->(Sp.nameOf d i,())∈out
end Go.Proofs.Tryz
namespace Go.Proofs.Tryz
open Go Go.Fw Go.IntWalk Sp
theorem stays{c:jI}{s:cu}{d:List aB}{b:Bool}(hb:b=false){z:jI}(e:z=c):Sp.became c s d b z [] false:=⟨hb.symm,λh=>(by cases h),λ_=>⟨e,rfl⟩⟩
end Go.Proofs.Tryz
namespace Go.Proofs.Tryz
open Go Go.Fw Go.IntWalk
theorem aam:OK zB.e:=by
 refine aV [gW.e] ⟨iU,⟨⟩⟩ H0 λf0 f1 f2 f3 f4 u=>show zB.goal (aan f0 f1 f2 f3 f4 u) ((f0,f1,f2,f3,f4,()),u,())fromλhin hp=>?_
 dsimp only[zB]at hp ⊢;refine⟨trivial,af (λh=>af (λh2=>?_) λh2=>?_) λh=>?_⟩
 all_goals refine congrArg (·,()) ?_
 .show _=((decide (0<=u)&&decide (u<=2))&&(decide (f1=u)||f2));rw[h,show decide (f1=u)=true from h2];rfl
 .show _=((decide (0<=u)&&decide (u<=2))&&(decide (f1=u)||f2));rw[h,show decide (f1=u)=false from h2];rfl
 .show _=((decide (0<=u)&&decide (u<=2))&&(decide (f1=u)||f2));rw[h];rfl
theorem aao:OK zC.e:=by
 refine aV [qV.e] ⟨EN,⟨⟩⟩ H0 λf0 f1 f2 f3 f4 u=>show zC.goal (aap f0 f1 f2 f3 f4 u) ((f0,f1,f2,f3,f4,()),u,())fromλhin hp=>?_
 dsimp only[zC]at hp ⊢;refine⟨trivial,af (λh=>af (λh2=>?_) λh2=>?_) λh=>?_⟩
 all_goals refine congrArg (·,()) ?_
 .show _=((decide (0<=u)&&decide (u<=2))&&(decide (f1=u)||f2));rw[h,show decide (f1=u)=true from h2];rfl
 .show _=((decide (0<=u)&&decide (u<=2))&&(decide (f1=u)||f2));rw[h,show decide (f1=u)=false from h2];rfl
 .show _=((decide (0<=u)&&decide (u<=2))&&(decide (f1=u)||f2));rw[h];rfl
end Go.Proofs.Tryz
namespace Go.Proofs.Tryz
open Go Go.Fw Go.IntWalk Sp
theorem made{c z:jI}{u:Int}{x:ja}{s:cu}{d:List aB}{b ok:Bool}{df:List Oj}(hu:zn u=true)(hc:G7 c=true)(h1:agP c x=s)(h2:ai4 c x=d)(h3:akI c u x=b)(h:Sp.became c s d b z df ok):Sp.applied c u x z df ok:=by unfold Sp.applied alT;rw[h1,h2,h3,hu,hc];exact h
end Go.Proofs.Tryz
namespace Go.Proofs.Tryz
open Go Go.Fw Go.IntWalk Sp
theorem Ol:OK qE.e:=by
 refine aV [xX.e,zx.e,zB.e] ⟨WE,YR,aam,⟨⟩⟩ PZ λs0 s1 s2 u=>show qE.goal (Om s0 s1 s2 u) ((s0,s1,s2,()),u,())fromλhin hp=>?_
 dsimp only[qE]at hp ⊢;obtain⟨h0,h1,h2⟩:s0.length<=1000/\s1.length<=1000/\∀f∈s1,Hu f:=hp;refine⟨by rw[cZ];omega,?_⟩;refine fB (λi(x:List aA)=>((i,()),((),(),s2,()),x,())) (λy=>y.1.1) (λ_ _=>rfl) s1.length (by omega) (λn l=>l=(s1.take n).filter (ig · u)) (by simp) (λI μ n l hn hJ next=>?_) λI μ l hJ=>?_
 .subst hJ;have hl:=JC s1 (ig · u) n;dsimp only;refine cO (by omega) ⟨⟨by omega,by omega⟩,trivial,af (λh=>⟨⟨by omega,by omega⟩,h2 _ (getD_mem (d:=((0:Int),(0:Int),false,(0:Int),[],())) hn),by rw[cZ];simp only[apH,apV];omega,rfl,next _ ?_⟩) λh=>⟨rfl,next _ ?_⟩⟩
  .rw[Fb _ hn,if_pos (show ig (Sp.fileAt s1 n) u=true from h)];rfl
  .rw[Fb _ hn,if_neg (show ¬ig (Sp.fileAt s1 n) u=true fromλh'=>by have h:ig (Sp.fileAt s1 n) u=false:=h;rw[h]at h';cases h'),aqe]
 .rw[apZ]at hJ;subst hJ;dsimp only;have hl:=aqd (ig · u) s1;refine bY (by omega) ?_;generalize hfs:List.filter (λx=>ig x u) s1=fs at hl ⊢;refine fB (λi(x:List aA)=>((i,()),x,())) (λy=>y.1.1) (λ_ _=>rfl) fs.length (by omega) (λn l=>l=gU fs n) (by simp[gU]) (λI μ n l hn hJ next=>?_) λI μ l hJ=>?_
  .subst hJ;have hu:=zi fs (show n<=fs.length by omega);have ha:=Ku fs hn;dsimp only;simp only[apG,ha,hu];refine cO (by omega) ⟨⟨by omega,by omega⟩,hn,trivial,af (λh=>⟨⟨by omega,by omega⟩,hn,trivial,next _ ?_⟩) λh=>⟨rfl,next _ ?_⟩⟩
   .exact((Cm fs hn).1 (iH h)).symm
   .exact((Cm fs hn).2 (iV h)).symm
  .subst hJ;have hu:=zi fs (apz fs.length);dsimp only;refine bY (by omega) ?_;show _=(Sp.visible (s0,s1,s2,()) u,());unfold Sp.visible;rw[Rf,← hfs]
theorem Oo:OK qF.e:=by
 refine aV [BJ.e,xW.e,zC.e,kZ.e] ⟨acd,WB,aao,F6,⟨⟩⟩ P5 λs0 s1 s2 u=>show qF.goal (Oq s0 s1 s2 u) ((s0,s1,s2,()),u,())fromλhin hp=>?_
 dsimp only[qF]at hp ⊢;obtain⟨h0,h1,h2⟩:s0.length<=1000/\s1.length<=1000/\∀f∈s1,Hu f:=hp;refine⟨h0,?_⟩;refine fB (λi(x:List aA)=>((i,()),(s0,(),s2,()),x,())) (λy=>y.1.1) (λ_ _=>rfl) s1.length (by omega) (λn l=>l=(s1.take n).filter (ig · u)) (by simp) (λI μ n l hn hJ next=>?_) λI μ l hJ=>?_
 .subst hJ;have hl:=JC s1 (ig · u) n;dsimp only;refine cO (by omega) ⟨⟨by omega,by omega⟩,trivial,af (λh=>⟨h2 _ (getD_mem (d:=((0:Int),(0:Int),false,(0:Int),[],())) hn),by rw[cZ];simp only[apH,apV];omega,rfl,next _ ?_⟩) λh=>⟨rfl,next _ ?_⟩⟩
  .rw[Fb _ hn,if_pos (show ig (Sp.fileAt s1 n) u=true from h)];rfl
  .rw[Fb _ hn,if_neg (show ¬ig (Sp.fileAt s1 n) u=true fromλh'=>by have h:ig (Sp.fileAt s1 n) u=false:=h;rw[h]at h';cases h'),aqe]
 .rw[apZ]at hJ;subst hJ;dsimp only;have hl:=aqd (ig · u) s1;refine bY (by omega) ?_;generalize hfs:List.filter (λx=>ig x u) s1=fs at hl ⊢;refine fB (λi(x:List aA)=>((i,()),x,())) (λy=>y.1.1) (λ_ _=>rfl) fs.length (by omega) (λn l=>l=gU fs n) (by simp[gU]) (λI μ n l hn hJ next=>?_) λI μ l hJ=>?_
  .subst hJ;have hu:=zi fs (show n<=fs.length by omega);have ha:=Ku fs hn;dsimp only;simp only[apG,ha,hu];refine cO (by omega) ⟨⟨by omega,by omega⟩,hn,trivial,af (λh=>⟨⟨by omega,by omega⟩,hn,trivial,next _ ?_⟩) λh=>⟨rfl,next _ ?_⟩⟩
   .exact((Cm fs hn).1 (iH h)).symm
   .exact((Cm fs hn).2 (iV h)).symm
  .subst hJ;have hu:=zi fs (apz fs.length);dsimp only;refine bY (by omega) ?_;show _=(Sp.visible (s0,s1,s2,()) u,());unfold Sp.visible;rw[Rf,← hfs]
theorem SC{s:cu}{d:List aB}{u:Int}(h:agQ s d u):iK s d u=(BD (Sp.visible s u).2.1 d,true):=by unfold iK;rw[h.1,h.2.1,h.2.2];rfl
theorem pK{s:cu}{d:List aB}{u:Int}(h:aW s=false\/aI d=false\/zn u=false):iK s d u=([],false):=by
 unfold iK;have:(aW s&&(aI d&&zn u))=false:=by rcases h with h|h|h<;>rw[h]<;>simp
 rw[this];rfl
theorem SE{s:cu}{d:List aB}{u:Int}(h1:aW s=true)(h2:zn u=true){out:List bT}{ok:Bool}(hk:ok=(aI d&&aW (Sp.visible s u)))(ht:ok=true->jR (Sp.visible s u).2.1 d [] (λ_=>true) out)(hf:ok=false->out=[]):out=(iK s d u).1/\ok=(iK s d u).2:=by
 rw[aaq u h1,aqX]at hk;cases ok with
 |true=>rw[SC ⟨h1,hk.symm,h2⟩];exact⟨(ai5 (Ot hk.symm) (ht rfl)).symm,rfl⟩
 |false=>rw[pK (.inr (.inl hk.symm))];exact⟨hf rfl,rfl⟩
theorem I9:OK nH.e:=by
 refine uO [yh.e,qF.e,qV.e,mX.e] ⟨XH,Oo,EN,Eb,⟨⟩⟩ H0 (λ⟨s,d,u,_⟩ _=>⟨(((iK s d u).1,(iK s d u).2,()),()),⟨rfl,rfl⟩⟩) λs0 s1 s2 d u=>show nH.goal (Ja s0 s1 s2 d u) ((s0,s1,s2,()),d,u,())fromλhin hp=>?_
 dsimp only[nH]at hp ⊢;have hd:iq d:=hp;have hs:aW (s0,s1,s2,())=true->iy (s0,s1,s2,()):=Gi;refine⟨trivial,af (λh=>?_) λh=>⟨trivial,af (λh2=>?_) λh2=>⟨hs (dO h),⟨Gj u (hs (dO h)),hd⟩,λr hr=>?_⟩⟩⟩
 .dsimp only;rw[pK (.inl (gY h))];exact⟨rfl,rfl⟩
 .dsimp only;rw[pK (.inr (.inr (gY h2)))];exact⟨rfl,rfl⟩
 .exact SE (dO h) (dO h2) hr.1 hr.2.1 hr.2.2
theorem Jb:OK nI.e:=by
 refine uO [yj.e,qE.e,mW.e,gW.e] ⟨XJ,Ol,D9,iU,⟨⟩⟩ H0 (λ⟨s,d,u,_⟩ _=>⟨(((iK s d u).1,(iK s d u).2,()),()),⟨rfl,rfl⟩⟩) λs0 s1 s2 d u=>show nI.goal (Jc s0 s1 s2 d u) ((s0,s1,s2,()),d,u,())fromλhin hp=>?_
 dsimp only[nI]at hp ⊢;have hd:iq d:=hp;have hs:aW (s0,s1,s2,())=true->iy (s0,s1,s2,()):=Gi;refine⟨trivial,af (λh=>?_) λh=>⟨trivial,af (λh2=>?_) λh2=>⟨hs (dO h2),⟨Gj u (hs (dO h2)),hd⟩,λr hr=>?_⟩⟩⟩
 .dsimp only;rw[pK (.inr (.inr (gY h)))];exact⟨rfl,rfl⟩
 .dsimp only;rw[pK (.inl (gY h2))];exact⟨rfl,rfl⟩
 .exact SE (dO h2) (dO h) hr.1 hr.2.1 hr.2.2
theorem ahV{s:cu}{d:List aB}{u:Int}(hs:iy s)(hd:qf d)(hf:agQ s d u):bQ (BD (Sp.visible s u).2.1 d):=
 agl (ai6 (aaq u hf.1) hf.2.1) hd.1 (Gj u hs).2.1 Ei
theorem adS{s:cu}{d:List aB}{u:Int}(hs:iy s)(hd:qf d):bQ (iK s d u).1:=by
 cases h1:aW s with
 |false=>rw[pK (.inl h1)];exact Ei
 |true=>cases h2:aI d with
  |false=>rw[pK (.inr (.inl h2))];exact Ei
  |true=>cases h3:zn u with
   |false=>rw[pK (.inr (.inr h3))];exact Ei
   |true=>rw[SC ⟨h1,h2,h3⟩];exact ahV hs hd ⟨h1,h2,h3⟩
theorem Vw{s:cu}{d:List aB}{u:Int}:bQ (iK s d u).1:=by
 cases h:aW s&&(aI d&&zn u)with
 |false=>
  unfold iK;rw[h];exact⟨apW _,λx hx=>by cases hx⟩
 |true=>simp only[apt]at h;exact adS (Gi h.1) (zk (Ot h.2.1))
theorem Y4:OK zD.e:=by
 refine aV [kL.e,nH.e] ⟨AX,I9,⟨⟩⟩ H0 λs0 s1 s2 d u name=>show zD.goal (aar s0 s1 s2 d u name) ((s0,s1,s2,()),d,u,name,())fromλhin hp=>?_
 dsimp only[zD]at hp ⊢;have hd:iq d:=hp;refine⟨hd,λr hr=>?_⟩;dsimp only;rw[hr.1];exact⟨Vw,rfl⟩
theorem Y7:OK zG.e:=by
 refine aV [ng.e,nI.e] ⟨Gt,Jb,⟨⟩⟩ H0 λs0 s1 s2 d u name=>show zG.goal (aas s0 s1 s2 d u name) ((s0,s1,s2,()),d,u,name,())fromλhin hp=>?_
 dsimp only[zG]at hp ⊢;have hd:iq d:=hp;refine⟨hd,λr hr=>?_⟩;dsimp only;rw[hr.1];exact⟨Vw,rfl⟩
end Go.Proofs.Tryz

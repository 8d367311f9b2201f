import Derived.Test.YtkgkfdphbkfjnaaGreatP9
namespace Go.Proofs.Tryz
open Go Go.Fw Go.IntWalk Sp
theorem Yf{d:List aF}{aH r:List (Int×Unit)}(h:Sp.raised d aH r)(h0:∀i,i<d.length->0<=Sp.lv aH i)(hp:jc (eH d) λi=>(Sp.lv aH i).toNat):∀i,i<d.length->Sp.lv r i=Sp.lv aH i:=by obtain⟨_,h2,_,_,h5⟩:=h;intro i hi;have a:Sp.lv aH i<=Sp.lv r i:=h2 i hi;have b:Sp.lv r i<=((Sp.lv aH i).toNat:Int):=h5 _ hp (λj hj=>by have:=h0 j hj;show Sp.lv aH j<=((Sp.lv aH j).toNat:Int);omega) i hi;have:=h0 i hi;omega
theorem akl{d:List aF}{aH r:List (Int×Unit)}(h:Sp.raised d aH r)(hp:¬jc (eH d) λi=>(Sp.lv aH i).toNat):∃i,i<d.length/\Sp.lv aH i<Sp.lv r i:=by obtain⟨_,h2,_,h4,_⟩:=h;refine au8 λhno=>hp (h4 λi hi=>?_);have a:Sp.lv aH i<=Sp.lv r i:=h2 i hi;have b:¬Sp.lv aH i<Sp.lv r i:=λh=>hno ⟨i,hi,h⟩;show Sp.lv r i=Sp.lv aH i;omega
theorem aia{d:List aF}(h1:bI d=true){L:Nat->Nat}(h2:jc (eH d) L):aj d=true:=kC.2 ⟨h1,L,h2⟩
theorem akm{d:List aF}(h:∀M,jc (eH d) M->(∀i,i<d.length->M i<d.length)->False):aj d=false:=by rw[avF];intro h1;obtain⟨_,h2⟩:=kC.1 h1;obtain⟨M,h3,h4⟩:=OL (lG d) h2;exact h M h3 h4
theorem aib{d:List aF}(h:bI d=false):aj d=false:=by rw[avF];intro h1;rw[(kC.1 h1).1]at h;cases h
theorem Tc(n i:Nat):Sp.lv (List.replicate n (0,())) i=0:=by
 unfold Sp.lv;rw[aur];by_cases h:i<n
 .rw[awx,if_pos h];rfl
 .rw[avi (by simp;omega)];rfl
theorem OM{d:List aF}(h:aj d=true):∃s,kF d s:=by obtain⟨hok,h2⟩:=kC.1 h;exact am6 (OL (lG d) h2)
theorem aeU{d:List aF}:∃s:List (Int×Unit),(aj d=true->kF d s)/\(aj d=false->s=[]):=by
 cases h:aj d with
 |true=>obtain⟨s,hs⟩:=OM h;exact⟨s,λ_=>hs,λh=>by cases h⟩
 |false=>exact⟨[],λh=>(by cases h),λ_=>rfl⟩
theorem FY:OK ve.e:=by
 refine XA.ok mixed (au [su.e,uJ.e,oZ.e] ⟨EH,acN,Ef,trivial⟩) aiJ (λ⟨d,_⟩ hp=>by obtain⟨s,h1,h2⟩:=aeU (d:=d);exact⟨(((s,aj d,()),())),⟨rfl,h1,h2⟩⟩) (by kernel_rfl) (show∀d,ve.goal (agY d) (d,())from ?_);intro d hin hp;dsimp only[ve]at hp ⊢;have hp:aC d:=hp;refine⟨hp,af (λh=>⟨(aib (dQ h)).symm,λh=>(by cases h),λ_=>rfl⟩) λh=>?_⟩;have hok:=bP h;have hlen:=UG hok;refine⟨⟨by omega,by omega,by rw[bY];omega⟩,?_⟩;have hnn:d.length*d.length<=25:=axJ hlen hlen;have e1:(d.length:Int)*(d.length:Int)=((d.length*d.length:Nat):Int):=by simp
 have w:IntKind.i64.wrap (IntKind.i64.wrap ((d.length:Int)*(d.length:Int))+1)=((d.length*d.length:Nat):Int)+1:=by rw[e1,eP ((d.length*d.length:Nat):Int) (by omega)];exact eP _ (by omega)
 rw[w];have hmem:∀aH:List (Int×Unit),aH.length=d.length->∀k:Nat,k<=27->(∀i,i<d.length->0<=Sp.lv aH i/\Sp.lv aH i<=5000*k)->∀x∈aH,0<=x.1/\x.1<=1000000:=λaH hl k hk h=>
  akn (p:=λz=>0<=z/\z<=1000000) λi hi=>by have:=h i (by omega);omega
 refine dM (λi(x:List (Int×Unit))=>((x,i,()),())) (λy=>y.1.2.1) (λ_ _=>rfl) (d.length*d.length+2) (by omega)
  (λk aH=>aH.length=d.length/\(∀i,i<d.length->0<=Sp.lv aH i/\Sp.lv aH i<=5000*k)/\(∀M,jc (eH d) M->∀i,i<d.length->Sp.lv aH i<=M i)/\((jc (eH d) λi=>(Sp.lv aH i).toNat)\/(k:Int)<=zB aH d.length))
  ⟨by simp,λi hi=>by rw[auA,Tc];omega,λM hM i hi=>by rw[auA,Tc];omega,.inr (Yg _ λi hi=>by rw[auA,Tc];omega)⟩ (λI μ k aH hk hJ next=>?_) λI μ aH hJ=>?_
 .obtain⟨g1,g2,g3,g4⟩:=hJ;dsimp only;refine dn (by omega) ⟨⟨hp,hlen,g1,hmem aH g1 k (by omega) g2⟩,?_⟩;rintro⟨⟨r,⟨⟩⟩,⟨⟩⟩ hr;have hr:Sp.raised d aH r:=hr;have hr':=hr;obtain⟨q1,q2,q3,q4,q5⟩:=hr';have hup:∀i,i<d.length->Sp.lv aH i<=Sp.lv r i:=q2;refine⟨rfl,next r ⟨q1,λi hi=>?_,λM hM i hi=>q5 M hM (g3 M hM) i hi,?_⟩⟩
  .have a:=hup i hi;have b:=q3 (5000*k) (λj hj=>(g2 j hj).2) i hi;have b:Sp.lv r i<=5000*k+5000:=b;have c:=g2 i hi;omega
  .by_cases hpf:jc (eH d) λi=>(Sp.lv aH i).toNat
   .left;have hs:=Yf hr (λi hi=>(g2 i hi).1) hpf;intro e he;have:=hpf e he;obtain⟨a,b,_⟩:=lG d e he;dsimp only at this ⊢;rw[hs _ a,hs _ b];exact this
   .right;have hm:=acO d.length hup (akl hr hpf);rcases g4 with g4|g4
    .exact(hpf g4).elim
    .omega
 .obtain⟨g1,g2,g3,g4⟩:=hJ;dsimp only;refine dw (by omega) ⟨⟨hp,hlen,g1,hmem aH g1 _ (by omega) g2⟩,?_⟩;rintro⟨⟨r,⟨⟩⟩,⟨⟩⟩ hr;have hr:Sp.raised d aH r:=hr;refine⟨trivial,af (λhne=>?_) λhe=>?_⟩
  .have hne:¬r=aH:=fZ (dQ hne);refine⟨(akm λM hM hb=>?_).symm,λh=>(by cases h),λ_=>rfl⟩;rcases g4 with g4|g4
   .exact hne (aoh (by rw[hr.1,g1]) λi hi=>Yf hr (λi hi=>(g2 i hi).1) g4 i (by rw[← hr.1];exact hi))
   .have:=QW (a:=aH) (b:=d.length) d.length λi hi=>by have a:=g3 M hM i hi;have b:=hb i hi;omega
    omega
  .have he:r=aH:=fG (bP he);subst he;have hpf:=hr.2.2.2.1 λi hi=>rfl;obtain⟨M,hM,hb⟩:=OL (lG d) ⟨_,hpf⟩;exact⟨(aia hok hpf).symm,λ_=>⟨g1,λi hi=>⟨(g2 i hi).1,by have a:=g3 M hM i hi;have b:=hb i hi;omega⟩,hpf,g3⟩,λh=>by cases h⟩
theorem Kv:OK yA.e:=by
 refine XA.ok mixed (au [xI.e,yP.e,xH.e,o9.e] ⟨UH,V7,UI,Eg,trivial⟩) aiK (λ⟨d,_⟩ hp=>by obtain⟨s,h1,h2⟩:=aeU (d:=d);exact⟨(((s,aj d,()),())),⟨rfl,h1⟩⟩) (by kernel_rfl) (show∀d,yA.goal (agZ d) (d,())from ?_);intro d hin hp;dsimp only[yA]at hp ⊢;have hp:aC d:=hp;refine⟨hp,af (λh=>⟨(aib (dQ h)).symm,λh=>by cases h⟩) λh=>?_⟩;have hok:=bP h;have hlen:=UG hok;refine⟨⟨by omega,by omega,by rw[bY];omega⟩,?_⟩;have hmem:∀aH:List (Int×Unit),aH.length=d.length->(∀i,i<d.length->0<=Sp.lv aH i/\Sp.lv aH i<=d.length)->∀x∈aH,0<=x.1/\x.1<=1000000:=λaH hl h=>
  akn (p:=λz=>0<=z/\z<=1000000) λi hi=>by have:=h i (by omega);omega
 refine⟨λy=>y.2.1.length=d.length/\(∀i,i<d.length->0<=Sp.lv y.2.1 i/\Sp.lv y.2.1 i<=d.length)/\(∀M,jc (eH d) M->∀i,i<d.length->Sp.lv y.2.1 i<=M i)/\(y.1.1=false->jc (eH d) λi=>(Sp.lv y.2.1 i).toNat),
  λy=>(((d.length*d.length:Nat):Int)-zB y.2.1 d.length).toNat*2+(if y.1.1=true then 1 else 0),⟨by simp,λi hi=>by rw[auA,Tc];omega,λM hM i hi=>by rw[auA,Tc];omega,λh=>by cases h⟩,?_⟩
 rintro⟨⟨ch,⟨⟩⟩,aH,⟨⟩⟩ ⟨g1,g2,g3,g4⟩;dsimp only at g1 g2 g3 g4 ⊢;refine af (λhch=>?_) λhch=>⟨(aia hok (g4 hch)).symm,λ_=>⟨g1,g2,g4 hch,g3⟩⟩;subst hch;refine dM (λi(x:Bool×List (Int×Unit))=>((x.1,i,()),x.2,())) (λy=>y.1.2.1) (λ_ _=>rfl) d.length (by omega)
  (λi(x:Bool×List (Int×Unit))=>x.2.length=d.length/\(∀i,i<d.length->Sp.lv aH i<=Sp.lv x.2 i/\Sp.lv x.2 i<=d.length)/\(∀M,jc (eH d) M->∀i,i<d.length->Sp.lv x.2 i<=M i)/\
    (x.1=true->zB aH d.length<zB x.2 d.length)/\(x.1=false->x.2=aH/\∀e∈eH d,e.1<i->Sp.lv aH e.2.1+e.2.2<=Sp.lv aH e.1))
  (s0:=(false,aH)) ⟨g1,λi hi=>⟨au7 _,(g2 i hi).2⟩,g3,λh=>(by cases h),λ_=>⟨rfl,λe _ h=>by omega⟩⟩ (λI μ i x hi hJ next=>?_) λI μ x hJ=>?_
 .obtain⟨c,cur⟩:=x;obtain⟨q1,q2,q3,q4,q5⟩:=hJ;have q1:cur.length=d.length:=q1;have hcur:∀i,i<d.length->0<=Sp.lv cur i/\Sp.lv cur i<=d.length:=λi hi=>⟨Int.le_trans (g2 i hi).1 (q2 i hi).1,(q2 i hi).2⟩;have hm:=hmem cur q1 hcur;dsimp only;rw[auA];refine dn (by omega) ⟨⟨by omega,by omega⟩,mZ hp hi,?_⟩;rintro⟨⟨r4,⟨⟩⟩,⟨⟩⟩ hr4;have hr4:dP r4 (fK (bH d i).2.1 false):=hr4;refine⟨⟨by omega,hr4.1,by omega,by omega,hm⟩,mZ hp hi,?_⟩;rintro⟨⟨r6,⟨⟩⟩,⟨⟩⟩ IE;have IE:dP r6 (fK (bH d i).2.1 true):=IE;refine⟨⟨by omega,IE.1,by omega,by omega,hm⟩,?_⟩;dsimp only;have hle:∀M,jc (eH d) M->yQ d cur 0 r4<=M i/\yQ d cur 1 r6<=M i:=by
   intro M hM;refine⟨(IG r4 _).2 ⟨by omega,λx hx h0=>?_⟩,(IG r6 _).2 ⟨by omega,λx hx h0=>?_⟩⟩
   .have he:=zC.2 ⟨hi,x.1,.inl ⟨rfl,(hr4.2 x.1).1 hx⟩,h0,rfl⟩;have a:=hM _ he;have a:M (aJ d x.1).toNat+0<=M i:=a;have b:=q3 M hM _ (lG d _ he).2.1;have b:Sp.lv cur (aJ d x.1).toNat<=M (aJ d x.1).toNat:=b;omega
   .have he:=zC.2 ⟨hi,x.1,.inr ⟨rfl,(IE.2 x.1).1 hx⟩,h0,rfl⟩;have a:=hM _ he;have a:M (aJ d x.1).toNat+1<=M i:=a;have b:=q3 M hM _ (lG d _ he).2.1;have b:Sp.lv cur (aJ d x.1).toNat<=M (aJ d x.1).toNat:=b;omega
  have hge:∀e∈eH d,e.1=i->Sp.lv cur e.2.1+e.2.2<=yQ d cur 0 r4\/Sp.lv cur e.2.1+e.2.2<=yQ d cur 1 r6:=by
   rintro⟨a,b,m⟩ he ha;have ha:a=i:=ha;subst ha;have hm1:m<=1:=(lG d _ he).2.2;rcases awh m with h|h
   .subst h;obtain⟨p,p1,p2,p3⟩:=Qx hr4 he rfl;left;have:=((IG (d:=d) (aH:=cur) (more:=0) r4 _).1 (au7 _)).2 _ (getD_mem (d:=(([]:List UInt8),())) p1) p2;show Sp.lv cur b+((0:Nat):Int)<=_;rw[p3];omega
   .have:m=1:=by omega
    subst this;obtain⟨p,p1,p2,p3⟩:=Qx IE he rfl;right;have:=((IG (d:=d) (aH:=cur) (more:=1) r6 _).1 (au7 _)).2 _ (getD_mem (d:=(([]:List UInt8),())) p1) p2;show Sp.lv cur b+((1:Nat):Int)<=_;rw[p3];omega
  generalize yQ d cur 0 r4=u at hle hge ⊢;generalize yQ d cur 1 r6=v at hle hge ⊢;have hv:∃z,(if v>u then v else u)=z/\u<=z/\v<=z/\(z=u\/z=v):=by refine⟨_,rfl,?_,?_,?_⟩<;>split<;>omega
  obtain⟨z,ez,hz1,hz2,hz3⟩:=hv;rw[ez];have e2:(cur.getD i (0,())).1=Sp.lv cur i:=rfl;rw[e2];refine af (λhbig=>?_) λhbig=>⟨⟨by omega,by omega⟩,by omega,af (λhup=>⟨⟨by omega,by omega⟩,by omega,rfl,next (true,cur.set i (z,())) ?_⟩) λhup=>⟨rfl,next (c,cur) ?_⟩⟩
  .have hbig:z>(d.length:Int):=fG hbig;refine⟨(akm λM hM hb=>?_).symm,λh=>by cases h⟩;have a:=hle M hM;have b:=hb i hi;omega
  .have hbig:¬z>(d.length:Int):=fZ hbig;have hup:z>Sp.lv cur i:=fG hup;have hs:=λk=>ako (l:=cur) (i:=i) (by omega) z k;refine⟨by simp;omega,λk hk=>?_,λM hM k hk=>?_,λ_=>?_,λh=>by cases h⟩
   .dsimp only;rw[hs];have:=q2 k hk;dsimp only at this;split
    .next e=>subst e;omega
    .exact this
   .dsimp only;rw[hs];split
    .next e=>subst e;have:=hle M hM;omega
    .exact q3 M hM k hk
   .have a:=acP (a:=aH) (b:=cur) d.length λk hk=>(q2 k hk).1;have hsk:∀k,k<d.length->Sp.lv cur k<=Sp.lv (cur.set i (z,())) k:=λk hk=>by
     rw[hs];split
     .next e=>subst e;omega
     .exact au7 _
    have b:=acO (a:=cur) (b:=cur.set i (z,())) d.length hsk ⟨i,hi,by rw[hs,if_pos rfl];omega⟩;show zB aH d.length<zB (cur.set i (z,())) d.length;omega
  .have hup:¬z>Sp.lv cur i:=fZ hup;refine⟨q1,q2,q3,q4,λh=>?_⟩;obtain⟨a,b⟩:=q5 h;have a:cur=aH:=a;subst a;refine⟨rfl,λe he hlt=>?_⟩;rcases auJ e.1 i with h'|h'
   .exact b e he h'
   .have SB:e.1=i:=by omega
    have:=hge e he SB;rw[SB];omega
 .obtain⟨c,cur⟩:=x;obtain⟨q1,q2,q3,q4,q5⟩:=hJ;dsimp only at q1 q2 q3 q4 q5 ⊢;have hcur:∀i,i<d.length->0<=Sp.lv cur i/\Sp.lv cur i<=d.length:=λi hi=>⟨Int.le_trans (g2 i hi).1 (q2 i hi).1,(q2 i hi).2⟩;have hsum:=QW (a:=cur) (b:=d.length) d.length λi hi=>(q2 i hi).2;refine dw (by omega) ⟨rfl,⟨q1,hcur,q3,λhc e he=>?_⟩,?_⟩
  .obtain⟨a,b⟩:=q5 hc;subst a;obtain⟨x1,x2,_⟩:=lG d e he;have:=b e he x1;have y1:=(hcur _ x1).1;have y2:=(hcur _ x2).1;dsimp only;omega
  .cases c with
   |true=>
    have:=q4 rfl;simp only[if_true];omega
   |false=>obtain⟨a,_⟩:=q5 rfl;subst a;simp
theorem UJ:OK xM.e:=by refine PA.ok mixed (au [yA.e] ⟨Kv,trivial⟩) H0 (by kernel_rfl) (show∀d,xM.goal (UK d) (d,())from ?_);intro d hin hp;dsimp only[xM]at hp ⊢;refine⟨hp,λr hr=>?_⟩;exact aw4 hr.1 rfl
theorem Ju:OK rO.e:=by refine PA.ok mixed (au [ve.e] ⟨FY,trivial⟩) H0 (by kernel_rfl) (show∀d,rO.goal (UL d) (d,())from ?_);intro d hin hp;dsimp only[rO]at hp ⊢;refine⟨hp,λr hr=>?_⟩;exact aw4 hr.1 rfl
end Go.Proofs.Tryz

import Derived.Test.YtkgkfdphbkfjnaaGreatP30
namespace Go.Proofs.Tryz
open Go Go.Fw Go.IntWalk Sp
theorem Vj{s:List aK}{u:Int}{n:Nat}(hn:n<s.length):jv (s.take (n+1)) u=jv (s.take n) u+(if(Sp.fileAt s n).2.1=u then CW (Sp.fileAt s n)else 0):=by
 unfold jv;rw[Sp.take_succ' s n (0,0,false,0,[],()) hn,avw,avd,List.sum_append];congr 1;show List.sum (List.map _ (List.filter _ [Sp.fileAt s n]))=_;by_cases h:(Sp.fileAt s n).2.1=u
 .rw[if_pos h,avf (by simp[h]),axE];simp
 .rw[if_neg h,avg (by simp[h]),axE];rfl
theorem akG{u:Int}:∀{s:List aK},(∀f∈s,f.2.2.2.2.1.length<=1000)->0<=jv s u/\jv s u<=1001*(s.length:Int)
 |[],_=>⟨au7 _,au7 _⟩
 |f::r,h=>by
  obtain⟨h1,h2⟩:=akG (u:=u) λg hg=>h g (auH _ hg);have h3:=h f auF;unfold jv at h1 h2 ⊢;by_cases hu:f.2.1=u
  .rw[avf (by simp[hu]),auW,awm,auv];have:CW f=1+(f.2.2.2.2.1.length:Int):=rfl;omega
  .rw[avg (by simp[hu]),auv];omega
theorem ads:OK Ey.e:=by refine PA.ok mixed (au [] trivial) H0 (by kernel_rfl) (show∀f0 f1 f2 f3 f4,Ey.goal (adt f0 f1 f2 f3 f4) ((f0,f1,f2,f3,f4,()),())from ?_);intro f0 f1 f2 f3 f4 hin hp;dsimp only[Ey]at hp ⊢;have hp:f4.length<=1000:=hp;exact congrArg (·,()) (eP _ (by omega))
theorem adu:OK Ez.e:=by refine PA.ok mixed (au [] trivial) H0 (by kernel_rfl) (show∀f0 f1 f2 f3 f4,Ez.goal (adv f0 f1 f2 f3 f4) ((f0,f1,f2,f3,f4,()),())from ?_);intro f0 f1 f2 f3 f4 hin hp;dsimp only[Ez]at hp ⊢;have hp:f4.length<=1000:=hp;exact congrArg (·,()) (eP _ (by omega))
theorem afM{s:List aK}{u:Int}{n:Nat}(h:∀f∈s,f.2.2.2.2.1.length<=1000)(hl:s.length<=1000)(hn:n<s.length)(hu:(Sp.fileAt s n).2.1=u):IntKind.i64.wrap (jv (s.take n) u+CW (Sp.fileAt s n))=jv (s.take (n+1)) u:=by rw[Vj hn,if_pos hu];obtain⟨h1,h2⟩:=akG (u:=u) (s:=s.take n) λf hf=>h f (avV hf);rw[aut]at h2;have h3:=h _ (Vk hn);have:CW (Sp.fileAt s n)=1+((Sp.fileAt s n).2.2.2.2.1.length:Int):=rfl;exact eP _ (by omega)
theorem aa6:OK CX.e:=by
 refine PA.ok mixed (au [Ey.e] ⟨ads,trivial⟩) adw (by kernel_rfl) (show∀s0 s1 s2 user,CX.goal (aa7 s0 s1 s2 user) ((s0,s1,s2,()),user,())from ?_);intro s0 s1 s2 u hin hp;dsimp only[CX]at hp ⊢;obtain⟨_,hl,hf⟩:s0.length<=1000/\s1.length<=1000/\∀f∈s1,bV f:=hp;refine dM (λi(x:Int)=>((x,i,()),())) (λy=>y.1.2.1) (λ_ _=>rfl) s1.length (by omega) (λn x=>x=jv (s1.take n) u) rfl (λI μ n x hn hJ next=>?_) λI μ x hJ=>?_
 .subst hJ;dsimp only;refine dn (by omega) ⟨⟨by omega,by omega⟩,af (λh=>⟨hf _ (Vk hn),rfl,next _ ?_⟩) λh=>⟨rfl,next _ ?_⟩⟩
  .rw[auA];exact afM hf hl hn (auE.1 h)
  .rw[Vj hn,if_neg (show ¬(Sp.fileAt s1 n).2.1=u from auu.1 h),awj]
 .subst hJ;dsimp only;rw[auO];exact dw (by omega) rfl
theorem aa8:OK CY.e:=by
 refine PA.ok mixed (au [Ez.e] ⟨adu,trivial⟩) adx (by kernel_rfl) (show∀s0 s1 s2 u,CY.goal (aa9 s0 s1 s2 u) ((s0,s1,s2,()),u,())from ?_);intro s0 s1 s2 u hin hp;dsimp only[CY]at hp ⊢;obtain⟨_,hl,hf⟩:s0.length<=1000/\s1.length<=1000/\∀f∈s1,bV f:=hp;refine dM (λi(x:Int)=>((x,i,()),())) (λy=>y.1.2.1) (λ_ _=>rfl) s1.length (by omega) (λn x=>x=jv (s1.take n) u) rfl (λI μ n x hn hJ next=>?_) λI μ x hJ=>?_
 .subst hJ;dsimp only;refine dn (by omega) ⟨⟨by omega,by omega⟩,af (λh=>⟨⟨by omega,by omega⟩,hf _ (Vk hn),rfl,next _ ?_⟩) λh=>⟨rfl,next _ ?_⟩⟩
  .rw[auA];exact afM hf hl hn (auE.1 h)
  .rw[Vj hn,if_neg (show ¬(Sp.fileAt s1 n).2.1=u from auu.1 h),awj]
 .subst hJ;dsimp only;rw[auO];exact dw (by omega) rfl
theorem afN:OK FO.e:=by
 refine PA.ok mixed (au [kT.e] ⟨pV,trivial⟩) H0 (by kernel_rfl) (show∀quota user,FO.goal (afO quota user) (quota,user,())from ?_);intro q u hin hp;dsimp only[FO]at hp ⊢;have hl:q.length<=maxLen:=hin.1.1;rw[maxLen_eq]at hl;have w:IntKind.i64.wrap ((q.length:Int)-1)=(q.length:Int)-1:=eP _ (by omega);refine⟨trivial,?_⟩;show bif !(decide (0<=u)&&decide (u<=IntKind.i64.wrap ((q.length:Int)-1)))then _ else _
 rw[w];refine af (λh=>congrArg (·,()) ?_) λh=>?_
 .unfold uQ;rw[dQ h];rfl
 .have h:=bP h;have h':=h;rw[auq,auK,auK]at h';refine⟨⟨h'.1,by omega⟩,congrArg (·,()) ?_⟩;unfold uQ;rw[h];rfl
theorem aiY:OK I7.e:=by
 refine PA.ok mixed (au [iT.e] ⟨jA,trivial⟩) H0 (by kernel_rfl) (show∀quota u,I7.goal (aiZ quota u) (quota,u,())from ?_);intro q u hin hp;dsimp only[I7]at hp ⊢;have hl:q.length<=maxLen:=hin.1.1;rw[maxLen_eq]at hl;have w:IntKind.i64.wrap ((q.length:Int)-1)=(q.length:Int)-1:=eP _ (by omega);refine⟨trivial,?_⟩;show bif !(decide (0<=u)&&decide (u<=IntKind.i64.wrap ((q.length:Int)-1)))then _ else _
 rw[w];refine af (λh=>congrArg (·,()) ?_) λh=>?_
 .unfold uQ;rw[dQ h];rfl
 .have h:=bP h;have h':=h;rw[auq,auK,auK]at h';refine⟨⟨h'.1,by omega⟩,congrArg (·,()) ?_⟩;unfold uQ;rw[h];rfl
theorem within_iff{fs:List aK}{q:List (Int×Unit)}:wP fs q=true↔∀i:Nat,i<3->jv fs i<=uQ q i:=by
 unfold wP;rw[auq,auq,auK,auK,auK];constructor
 .rintro⟨h0,h1,h2⟩ i hi;rcases(by omega:i=0\/i=1\/i=2)with rfl|rfl|rfl
  .exact h0
  .exact h1
  .exact h2
 .exactλh=>⟨h 0 (by decide),h 1 (by decide),h 2 (by decide)⟩
theorem TB:OK vZ.e:=by
 refine PA.ok mixed (au [FO.e,CX.e] ⟨afN,aa6,trivial⟩) Vl (by kernel_rfl) (show∀s0 s1 s2 quota,vZ.goal (TD s0 s1 s2 quota) ((s0,s1,s2,()),quota,())from ?_);intro s0 s1 s2 q hin hp;dsimp only[vZ]at hp ⊢;refine iL 3 (by decide) (λn=>∀i:Nat,i<n->jv s1 i<=uQ q i) (λi hi=>by omega) (λI μ n hn hJ next=>?_) λI μ hJ=>?_
 .dsimp only;refine dn (by omega) ⟨hp,trivial,af (λh=>congrArg (·,()) ?_) λh=>⟨rfl,next λi hi=>?_⟩⟩
  .refine(avF.2 λe=>?_).symm;have:=within_iff.1 e n hn;have h:=fG h;omega
  .rcases Nat.lt_succ_iff_lt_or_eq.1 hi with h'|rfl
   .exact hJ i h'
   .have h:=fZ h;omega
 .exact dw (by decide) (congrArg (·,()) (within_iff.2 hJ).symm)
theorem IL:OK qE.e:=by
 refine PA.ok mixed (au [I7.e,CY.e] ⟨aiY,aa8,trivial⟩) Vm (by kernel_rfl) (show∀s0 s1 s2 quota,qE.goal (TF s0 s1 s2 quota) ((s0,s1,s2,()),quota,())from ?_);intro s0 s1 s2 q hin hp;dsimp only[qE]at hp ⊢;refine iL 3 (by decide) (λn=>∀i:Nat,i<n->jv s1 i<=uQ q i) (λi hi=>by omega) (λI μ n hn hJ next=>?_) λI μ hJ=>?_
 .dsimp only;refine dn (by omega) ⟨hp,trivial,af (λh=>congrArg (·,()) ?_) λh=>⟨rfl,next λi hi=>?_⟩⟩
  .refine(avF.2 λe=>?_).symm;have:=within_iff.1 e n hn;have h:=fG h;omega
  .rcases Nat.lt_succ_iff_lt_or_eq.1 hi with h'|rfl
   .exact hJ i h'
   .have h:=fZ h;omega
 .exact dw (by decide) (congrArg (·,()) (within_iff.2 hJ).symm)
theorem ady:OK EC.e:=by
 refine XA.ok mixed (au [dS.e,iG.e] ⟨eG,jF,trivial⟩) afP (λ_ _=>⟨(([],()),(([],0,0,()),())),⟨au7 0,auX _⟩⟩) (by kernel_rfl) (show∀c0 c1 c2,EC.goal (adz c0 c1 c2) ((c0,c1,c2,()),())from ?_);intro b i h hin hp;dsimp only[EC]at hp ⊢;refine dM (λi(x:(List (Int×Unit)×Int×Int×Unit)×List (Int×Unit))=>(((),i,()),x.1,x.2,())) (λy=>y.1.2.1) (λ_ _=>rfl) 3 (by decide) (λn x=>0<=x.1.2.1/\x.2.length=n) (s0:=((b,i,h,()),[])) ⟨hp,rfl⟩ (λI μ n x hn hJ next=>?_) λI μ x hJ=>?_
 .obtain⟨h1,h2⟩:=hJ;dsimp only;refine dn (by omega) ⟨⟨h1,by simp⟩,λr2 hr2=>⟨by rw[bY];simp only[auv,auz];omega,rfl,next (r2.2.1,x.2++[r2.1]) ⟨hr2.1,?_⟩⟩⟩;rw[auy,h2];rfl
 .obtain⟨h1,h2⟩:=hJ;dsimp only;refine dw (by decide) ⟨h1,λr3 hr3=>af (λ_=>⟨hr3.1,λr4 hr4=>?_⟩) λ_=>af (λ_=>⟨hr3.1,λr5 QD=>⟨⟨QD.1,by simp⟩,λr6 IE=>?_⟩⟩) λ_=>⟨hr3.1,by rw[h2];decide⟩⟩
  .have a1:=hr4.2.1;have a2:=hr4.2.2.1 (by decide);refine⟨⟨a1,by omega⟩,hr4.1,?_⟩;show(List.take _ x.2).length<=3;rw[aut];omega
  .have a1:=QD.2.1;have a2:=QD.2.2.1 (by decide);refine⟨⟨a1,by omega⟩,by omega,IE.1,?_⟩;show(List.set x.2 _ _).length<=3;rw[auR];omega
theorem KF:OK nG.e:=by
 refine XA.ok mixed (au [EC.e,I5.e,iG.e,FN.e,G9.e] ⟨ady,aiW,jF,afK,agK,trivial⟩) LK (λ_ _=>by obtain⟨c,h⟩:=any_some;exact⟨((((c.1,c.2.1,c.2.2.1,c.2.2.2.1,c.2.2.2.2.1,()),0,[],[],()),())),⟨h,auX _,(λ_ h=>by cases h),auX _⟩⟩) (by kernel_rfl) (show∀code,nG.goal (KG code) (code,())from ?_);intro code hin hp;dsimp only[nG]at hp ⊢;refine⟨hp,λr0 hr0=>⟨by rw[hr0];exact au7 _,λr1 hr1=>⟨⟨hr1.1,by simp⟩,?_⟩⟩⟩;rintro⟨⟨k,⟨⟩⟩,cu,⟨⟩⟩ ⟨h1,h2⟩;have hk:0<=k/\k<=7:=by simp only[au1,axy,or_false,Prod.mk.injEq,aw3]at h2;omega
 refine⟨λy=>0<=y.1.2.1/\(y.2.2.1.length:Int)+y.1.2.1<=7/\0<=y.2.1.2.1/\∀x∈y.2.2.1,pG x,λy=>y.1.2.1.toNat,⟨hk.1,by dsimp only[List.length_nil];omega,h1,λ_ h=>by cases h⟩,?_⟩;rintro⟨⟨⟨⟩,n,⟨⟩⟩,c2,l,⟨⟩⟩ ⟨g1,g2,g3,g4⟩;have g1:0<=n:=g1;have g2:(l.length:Int)+n<=7:=g2;refine af (λh=>⟨⟨g3,hr1.2⟩,λr5 QD=>?_⟩) λh=>⟨g3,λr6 IE=>⟨hr1.2,?_,g4,IE.2⟩⟩
 .have h:n>0:=fG h;have w:IntKind.i64.wrap (n-1)=n-1:=eP _ (by omega);dsimp only;rw[w];refine⟨by rw[bY];simp only[auv,auz];omega,rfl,⟨by dsimp only;omega,?_,QD.1,λx hx=>?_⟩,by dsimp only;omega⟩
  .dsimp only;rw[auy];simp only[auv,auz];omega
  .rcases auL.1 hx with h'|h'
   .exact g4 x h'
   .rw[avk.1 h'];exact QD.2
 .show l.length<=7;omega
theorem apy{α:Type}{l:List α}{n:Nat}(d:α)(hn:n<l.length):l=l.take n++l.getD n d::l.drop (n+1):=by
 have:l.getD n d=l[n]:=by rw[aur,auw hn];rfl
 rw[this,← av4 hn,avJ]
theorem adA{c y z:eF}{u:Int}{l:List gq}{n:Nat}{df:List lJ}(d:gq)(hn:n<l.length)(h:qM u c (l.take n) y)(h2:Sp.applied y u (l.getD n d) z df true):qM u c (l.take (n+1)) z:=by rw[Sp.take_succ' l n d hn];exact akC h h2
theorem adB{c y z:eF}{u:Int}{l:List gq}{n:Nat}{df:List lJ}(d:gq)(hn:n<l.length)(h:qM u c (l.take n) y)(h2:Sp.applied y u (l.getD n d) z df false)(c2:eF):¬qM u c l c2:=by rw[apy d hn];exact aif h h2 c2
theorem Pv:OK rE.e:=by
 refine XA.ok mixed (au [tN.e,vZ.e,tX.e,iW.e,jJ.e] ⟨JR,TB,JX,lH,ng,trivial⟩) PX (λ⟨c,u,l,q,_⟩ _=>by obtain⟨c',df,ok,h⟩:=aii c u l q;exact⟨((((c'.1,c'.2.1,c'.2.2.1,c'.2.2.2.1,c'.2.2.2.2.1,()),df,ok,()),())),h⟩) (by kernel_rfl) (show∀c0 c1 c2 c3 c4 user changes quota,rE.goal (Px c0 c1 c2 c3 c4 user changes quota) ((c0,c1,c2,c3,c4,()),user,changes,quota,())from ?_);intro a l nx d r u list q hin hp;dsimp only[rE]at hp ⊢;obtain⟨hc,hl,hf⟩:iU (a,l,nx,d,r,())/\list.length<=1000/\∀x∈list,pG x:=hp;refine⟨λ_=>cO (a,l,nx,d,r,())=true/\list.length<=6,⟨hc.1,af (λh=>⟨hc.1,λr2 hr2=>Fa (λg=>?_) hr2⟩) λh=>af (λh2=>⟨hc.1,λr3 hr3=>Fa (λg=>?_) hr3⟩) λh2=>⟨rfl,bP h,by have:=fZ h2;omega⟩⟩,λ_ hJ=>⟨hc.1,?_⟩⟩
 .have:=g.1;rw[show cO (a,l,nx,d,r,())=false from dQ h]at this;cases this
 .have:=g.2.1;have h2:=fG h2;omega
 obtain⟨hcur,h6⟩:=hJ;rintro⟨⟨c0,⟨⟩⟩,⟨⟩⟩ ec;obtain rfl:c0=(a,l,nx,d,r,()):=ec;refine adC list.length (by omega) (λn x=>iU x/\qM u (a,l,nx,d,r,()) (list.take n) x) ⟨hc,rfl⟩ (λI μ n x hn hJ next=>?_) λI μ x hJ=>?_
 .obtain⟨j1,j2⟩:=hJ;dsimp only;rw[auA];have hx:=hf _ (getD_mem (d:=(0,0,0,false,0,[],0,[],[],())) hn);refine dn (by omega) ⟨⟨by omega,by omega⟩,⟨j1,hx⟩,?_⟩;rintro⟨⟨z,df,ok,⟨⟩⟩,⟨⟩⟩ h8;cases ok with
  |false=>exact⟨hc.1,λr9 hr9=>Fa (λg=>by obtain⟨_,_,c2,g3,_⟩:=g;exact adB _ hn j2 h8 c2 g3) hr9⟩
  |true=>exact⟨rfl,next z ⟨(akB j1 hx h8).2,adA _ hn j2 h8⟩⟩
 .obtain⟨j1,j2⟩:=hJ;rw[auO]at j2;refine dw (by dsimp only;omega) ⟨j1.1.1,af (λh=>⟨hc.1,λr9 hr9=>Fa (λg=>?_) hr9⟩) λh=>⟨⟨hc.1.2.2,j1.1.2.2⟩,λr12 apz=>aij hcur h6 j2 (bP h) apz⟩⟩;obtain⟨_,_,c2,g3,g4⟩:=g;have h:=dQ h;rw[NZ j2 g3]at h;rw[show wP c2.2.1 q=false from h]at g4;cases g4
theorem Py:OK rF.e:=by
 refine XA.ok mixed (au [tV.e,qE.e,zo.e,kQ.e,mJ.e] ⟨JU,IL,WS,qR,uZ,trivial⟩) PY (λ⟨c,u,l,q,_⟩ _=>by obtain⟨c',df,ok,h⟩:=aii c u l q;exact⟨((((c'.1,c'.2.1,c'.2.2.1,c'.2.2.2.1,c'.2.2.2.2.1,()),df,ok,()),())),h⟩) (by kernel_rfl) (show∀l0 l1 l2 l3 l4 u list quota,rF.goal (Pz l0 l1 l2 l3 l4 u list quota) ((l0,l1,l2,l3,l4,()),u,list,quota,())from ?_);intro a l nx d r u list q hin hp;dsimp only[rF]at hp ⊢;obtain⟨hc,hl,hf⟩:iU (a,l,nx,d,r,())/\list.length<=1000/\∀x∈list,pG x:=hp;refine⟨hc.1,λr0 hr0=>?_⟩;refine⟨λ_=>cO (a,l,nx,d,r,())=true/\list.length<=6,⟨hc.1,af (λh=>Fa (λg=>?_) hr0) λh=>af (λh2=>Fa (λg=>?_) hr0) λh2=>⟨rfl,bP h,by have:=fZ h2;omega⟩⟩,λ_ hJ=>⟨hc.1,?_⟩⟩
 .have:=g.1;rw[show cO (a,l,nx,d,r,())=false from dQ h]at this;cases this
 .have:=g.2.1;have h2:=fG h2;omega
 obtain⟨hcur,h6⟩:=hJ;rintro⟨⟨c0,⟨⟩⟩,⟨⟩⟩ ec;obtain rfl:c0=(a,l,nx,d,r,()):=ec;refine adC list.length (by omega) (λn x=>iU x/\qM u (a,l,nx,d,r,()) (list.take n) x) ⟨hc,rfl⟩ (λI μ n x hn hJ next=>?_) λI μ x hJ=>?_
 .obtain⟨j1,j2⟩:=hJ;dsimp only;rw[auA];have hx:=hf _ (getD_mem (d:=(0,0,0,false,0,[],0,[],[],())) hn);refine dn (by omega) ⟨⟨by omega,by omega⟩,⟨j1,hx⟩,?_⟩;rintro⟨⟨z,df,ok,⟨⟩⟩,⟨⟩⟩ h8;cases ok with
  |false=>exact Fa (λg=>by obtain⟨_,_,c2,g3,_⟩:=g;exact adB _ hn j2 h8 c2 g3) hr0
  |true=>exact⟨rfl,next z ⟨(akB j1 hx h8).2,adA _ hn j2 h8⟩⟩
 .obtain⟨j1,j2⟩:=hJ;rw[auO]at j2;refine dw (by dsimp only;omega) ⟨j1.1.1,af (λh=>Fa (λg=>?_) hr0) λh=>⟨⟨hc.1.2.2,j1.1.2.2⟩,λr12 apz=>aij hcur h6 j2 (bP h) apz⟩⟩;obtain⟨_,_,c2,g3,g4⟩:=g;have h:=dQ h;rw[NZ j2 g3]at h;rw[show wP c2.2.1 q=false from h]at g4;cases g4
theorem adD:OK I8.e:=by
 refine PA.ok mixed (au [jJ.e,qE.e,tX.e,CQ.e,zl.e,rF.e,rE.e,nG.e,MP.e] ⟨ng,IL,JX,aaT,WI,Py,Pv,KF,alm,trivial⟩) afQ (by kernel_rfl) (show∀code,I8.goal (adE code) (code,())from ?_);intro code hin hp;dsimp only[I8]at hp ⊢;refine⟨trivial,af (λ_=>rfl) λhb=>?_⟩;have hc:code.length<=1048576:=by have:=fZ hb;omega
 refine⟨hc,?_⟩;rintro⟨⟨c,u,list,q,⟨⟩⟩,⟨⟩⟩ ⟨hany,h7,hf,_⟩;have hany:iU c:=hany;have h7:list.length<=7:=h7;have hf:∀x∈list,pG x:=hf;have hd:iU c/\list.length<=1000/\∀x∈list,pG x:=⟨hany,by omega,hf⟩;refine⟨hd,?_⟩;rintro⟨⟨z,df,ok,⟨⟩⟩,⟨⟩⟩ h2;have h2:sS c u list q z df ok:=h2;refine⟨hd,?_⟩;rintro⟨⟨z2,df2,ok2,⟨⟩⟩,⟨⟩⟩ h3;obtain⟨rfl,rfl,rfl⟩:=aov h2 h3;refine⟨λ_=>True,?_,λ_ _=>?_⟩
 .dsimp only;rw[show(ok==ok)=true from beq_self_eq_true ok,auB (rfl:z=z),auB (rfl:df=df)];exact⟨trivial,trivial,rfl,trivial⟩
 .refine af (λh=>?_) λh=>?_
  .obtain⟨e1,e2⟩:=h2.2.2 (dQ h);have e1:z=c:=e1;have e2:df=[]:=e2;subst e1 e2;dsimp only;rw[auB (rfl:z=z)];exact⟨trivial,rfl⟩
  .have h:=bP h;have h:ok=true:=h;subst h;obtain⟨p1,p2,c2,p3,p4⟩:=h2.1.1 rfl;have p5:=(h2.2.1 rfl).1;obtain rfl:=NZ p5 p3;refine adC list.length (by omega) (λn x=>(cO x=true/\iU x)/\qM u c (list.take n) x) ⟨⟨p1,hany⟩,rfl⟩ (λI μ n x hn hJ next=>?_) λI μ x hJ=>?_
   .obtain⟨j1,j2⟩:=hJ;dsimp only;rw[auA];have hx:=hf _ (getD_mem (d:=(0,0,0,false,0,[],0,[],[],())) hn);refine dn (by omega) ⟨⟨by omega,by omega⟩,⟨j1.2,hx⟩,?_⟩;rintro⟨⟨y,df3,ok3,⟨⟩⟩,⟨⟩⟩ h8;cases ok3 with
    |false=>exact(adB _ hn j2 h8 _ p5).elim
    |true=>exact⟨rfl,next y ⟨akB j1.2 hx h8,adA _ hn j2 h8⟩⟩
   .obtain⟨j1,j2⟩:=hJ;rw[auO]at j2;obtain rfl:=NZ j2 p5;refine dw (by dsimp only;omega) ⟨trivial,?_⟩;dsimp only;rw[auB (rfl:x=x)];refine⟨j1.2.1.1,?_⟩;rw[p4];refine⟨j1.2.1,?_⟩;rw[j1.1];exact congrArg (·,()) (auB (by omega))
end Go.Proofs.Tryz

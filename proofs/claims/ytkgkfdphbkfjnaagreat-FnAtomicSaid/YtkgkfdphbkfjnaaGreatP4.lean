import Derived.Test.YtkgkfdphbkfjnaaGreatP3
namespace Go.Proofs.Tryz
open Go Go.Fw Go.IntWalk Sp
theorem EH:OK su.e:=by
 refine PA.ok mixed (au [] trivial) ahv (by kernel_rfl) (show∀a b,su.goal (afR a b) (a,b,())from ?_);intro a b hin hp;dsimp only[su]at hp ⊢;have hlen:a.length<=maxLen:=hin.1.1;rw[maxLen_eq]at hlen;refine af (λh=>?_) λh=>?_
 .have h:(a.length:Int)≠b.length:=by simpa using h
  exact congrArg (·,()) (auD λe=>h (by rw[e])).symm
 .have h:(a.length:Int)=b.length:=by simpa using h
  exact SQ (K:=λr=>r=(decide (a=b),())) (λx y=>x.1 !=y.1) (λx y=>by simp[awi]) _ a b _ hlen (by omega) (λe=>by rw[auD e]) λe=>by rw[auB e]
theorem abb:OK Cj.e:=by
 refine PA.ok mixed (au [] trivial) adF (by kernel_rfl) (show∀a b,Cj.goal (abd a b) (a,b,())from ?_);intro a b hin hp;dsimp only[Cj]at hp ⊢;have hlen:a.length<=maxLen:=hin.1.1;rw[maxLen_eq]at hlen;refine af (λh=>?_) λh=>?_
 .have h:(a.length:Int)≠b.length:=by simpa using h
  exact congrArg (·,()) (auD λe=>h (by rw[e])).symm
 .have h:(a.length:Int)=b.length:=by simpa using h
  exact SQ (K:=λr=>r=(decide (a=b),())) (λx y=>!(x.1==y.1&&(x.2.1==y.2.1&&(x.2.2.1==y.2.2.1&&(x.2.2.2.1==y.2.2.2.1&&(x.2.2.2.2.1==y.2.2.2.2.1&&(x.2.2.2.2.2.1==y.2.2.2.2.2.1&&(x.2.2.2.2.2.2.1==y.2.2.2.2.2.2.1&&true)))))))) (λx y=>by simp[awi]) _ a b _ hlen (by omega) (λe=>by rw[auD e]) λe=>by rw[auB e]
theorem afS:OK Fp.e:=by
 refine PA.ok mixed (au [Cj.e] ⟨abb,trivial⟩) H0 (by kernel_rfl) (show∀a0 a1 b0 b1,Fp.goal (afT a0 a1 b0 b1) ((a0,a1,()),(b0,b1,()),())from ?_);intro a0 a1 b0 b1 hin hp;dsimp only[Fp]at hp ⊢;refine af (λh0=>⟨trivial,?_⟩) λh0=>?_
 all_goals refine congrArg (·,()) (auS.2 ?_)
 .simp only[auE]at h0;subst h0;simp
 .have h0:a0≠b0:=by simpa using h0
  simp[h0]
theorem adb:OK Ep.e:=by
 refine PA.ok mixed (au [Fp.e] ⟨afS,trivial⟩) afU (by kernel_rfl) (show∀a b,Ep.goal (adG a b) (a,b,())from ?_);intro a b hin hp;dsimp only[Ep]at hp ⊢;have hlen:a.length<=maxLen:=hin.1.1;rw[maxLen_eq]at hlen;refine af (λh=>?_) λh=>?_
 .have h:(a.length:Int)≠b.length:=by simpa using h
  exact congrArg (·,()) (auD λe=>h (by rw[e])).symm
 .have h:(a.length:Int)=b.length:=by simpa using h
  exact acE (K:=λr=>r=(decide (a=b),())) (λx y=>!decide ((x.1,x.2.1,())=(y.1,y.2.1,()))) (λx y=>by simp[awi]) _ a b _ hlen (by omega) (λe=>by rw[auD e]) λe=>by rw[auB e]
theorem O0:OK yM.e:=by refine PA.ok mixed (au [] trivial) H0 (by kernel_rfl) (show∀n0 n1 n2 n3 n4 n5 n6,yM.goal (adH n0 n1 n2 n3 n4 n5 n6) ((n0,n1,n2,n3,n4,n5,n6,()),())from ?_);intro n0 n1 n2 n3 n4 n5 n6 hin hp;dsimp only[yM]at hp ⊢;exact af (λh=>by rw[h];rfl) λh=>by rw[h];rfl
theorem NR:OK qy.e:=by refine PA.ok mixed (au [] trivial) PD (by kernel_rfl) (show∀s,qy.goal (NS s) (s,())from ?_);intro s hin hp;dsimp only[qy]at hp ⊢;have hp:s.length<=1000:=hp;refineλg hg=>af (λh=>?_) λh=>⟨by rw[bY];omega,rfl⟩;have:=hg h;rw[List.eq_nil_of_length_eq_zero this]
theorem JB:OK wL.e:=by refine PA.ok mixed (au [qy.e] ⟨NR,trivial⟩) ahw (by kernel_rfl) (show∀x0 x1,wL.goal (afV x0 x1) ((x0,x1,()),())from ?_);intro x0 x1 hin hp;dsimp only[wL]at hp ⊢;exact⟨hp,rfl⟩
theorem mZ{d:List aF}(h:aC d){n:Nat}(hn:n<d.length):(d.getD n ([],[],())).2.1.length<=1000:=h.2 _ (getD_mem hn)
theorem O8:OK yR.e:=by
 refine PA.ok mixed (au [wL.e] ⟨JB,trivial⟩) afW (by kernel_rfl) (show∀d,yR.goal (adI d) (d,())from ?_);intro d hin hp;dsimp only[yR]at hp ⊢;have hp:aC d:=hp;have hlen:d.length<=1000:=hp.1;refine dM (λi(x:List aF)=>(((),i,()),x,())) (λy=>y.1.2.1) (λ_ _=>rfl) d.length (by omega) (λn l=>l=d.take n) (by simp) (λI μ n l hn hJ next=>?_) λI μ l hJ=>?_
 .subst hJ;have hl:(d.take n).length<=n:=by rw[aut];omega
  dsimp only;refine dn (by omega) ⟨⟨by omega,by omega⟩,mZ hp hn,by rw[bY];simp only[auv,auz];omega,rfl,next _ ?_⟩;exact(Sp.take_succ' d n ([],[],()) hn).symm
 .subst hJ;dsimp only;refine dw (by omega) ?_;rw[auO]
theorem EI:OK sD.e:=by
 refine PA.ok mixed (au [] trivial) ahx (by kernel_rfl) (show∀d,sD.goal (afX d) (d,())from ?_);intro d hin hp;dsimp only[sD]at hp ⊢;have hp:aC d:=hp;have hlen:d.length<=1000:=hp.1;refine dM (λi(x:List aF)=>(((),i,()),x,())) (λy=>y.1.2.1) (λ_ _=>rfl) d.length (by omega) (λn l=>l=d.take n) (by simp) (λI μ n l hn hJ next=>?_) λI μ l hJ=>?_
 .subst hJ;have hl:(d.take n).length<=n:=by rw[aut];omega
  dsimp only;refine dn (by omega) ⟨⟨by omega,by omega⟩,⟨by omega,by omega⟩,by rw[bY];have:=mZ hp hn;show 0+(d.getD n ([],[],())).2.1.length<=_;omega,by rw[bY];simp only[auv,auz];omega,rfl,next _ ?_⟩;exact(Sp.take_succ' d n ([],[],()) hn).symm
 .subst hJ;dsimp only;refine dw (by omega) ?_;rw[auO]
end Go.Proofs.Tryz

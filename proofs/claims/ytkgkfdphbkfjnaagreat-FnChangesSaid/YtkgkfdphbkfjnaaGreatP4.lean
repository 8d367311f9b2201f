import Derived.Test.YtkgkfdphbkfjnaaGreatP3
namespace Go.Proofs.Tryz
open Go Go.Fw Go.IntWalk Sp
theorem Eo:OK rO.e:=by
 refine PA.ok mixed (au [] trivial) agP (by kernel_rfl) (show ∀ a b,rO.goal (afd a b) (a,b,()) from ?_)
 intro a b hin hp
 dsimp only [rO] at hp ⊢
 have hlen:a.length≤maxLen:=hin.1.1
 rw [maxLen_eq] at hlen
 refine af (fun h=>?_) fun h=>?_
 · have h:(a.length:Int)≠b.length:=by simpa using h
   exact congrArg (·,()) (decide_eq_false fun e=>h (by rw [e])).symm
 · have h:(a.length:Int)=b.length:=by simpa using h
   exact RP (K:=fun r=>r=(decide (a=b),())) (fun x y=>x.1 !=y.1) (fun x y=>by simp [Prod.ext_iff]) _ a b _ hlen (by omega) (fun e=>by rw [decide_eq_false e]) fun e=>by rw [decide_eq_true e]
theorem aaJ:OK Cc.e:=by
 refine PA.ok mixed (au [] trivial) ac0 (by kernel_rfl) (show ∀ a b,Cc.goal (aaK a b) (a,b,()) from ?_)
 intro a b hin hp
 dsimp only [Cc] at hp ⊢
 have hlen:a.length≤maxLen:=hin.1.1
 rw [maxLen_eq] at hlen
 refine af (fun h=>?_) fun h=>?_
 · have h:(a.length:Int)≠b.length:=by simpa using h
   exact congrArg (·,()) (decide_eq_false fun e=>h (by rw [e])).symm
 · have h:(a.length:Int)=b.length:=by simpa using h
   exact RP (K:=fun r=>r=(decide (a=b),())) (fun x y=>!(x.1==y.1&&(x.2.1==y.2.1&&(x.2.2.1==y.2.2.1&&(x.2.2.2.1==y.2.2.2.1&&(x.2.2.2.2.1==y.2.2.2.2.1&&(x.2.2.2.2.2.1==y.2.2.2.2.2.1&&(x.2.2.2.2.2.2.1==y.2.2.2.2.2.2.1&&true)))))))) (fun x y=>by simp [Prod.ext_iff]) _ a b _ hlen (by omega) (fun e=>by rw [decide_eq_false e]) fun e=>by rw [decide_eq_true e]
theorem afe:OK EX.e:=by
 refine PA.ok mixed (au [Cc.e] ⟨aaJ,trivial⟩) H0 (by kernel_rfl) (show ∀ a0 a1 b0 b1,EX.goal (aff a0 a1 b0 b1) ((a0,a1,()),(b0,b1,()),()) from ?_)
 intro a0 a1 b0 b1 hin hp
 dsimp only [EX] at hp ⊢
 refine af (fun h0=>⟨trivial,?_⟩) fun h0=>?_
 all_goals refine congrArg (·,()) (Bool.eq_iff_iff.2 ?_)
 · simp only [beq_iff_eq] at h0
   subst h0
   simp
 · have h0:a0≠b0:=by simpa using h0
   simp [h0]
theorem acM:OK Ee.e:=by
 refine PA.ok mixed (au [EX.e] ⟨afe,trivial⟩) afg (by kernel_rfl) (show ∀ a b,Ee.goal (ac1 a b) (a,b,()) from ?_)
 intro a b hin hp
 dsimp only [Ee] at hp ⊢
 have hlen:a.length≤maxLen:=hin.1.1
 rw [maxLen_eq] at hlen
 refine af (fun h=>?_) fun h=>?_
 · have h:(a.length:Int)≠b.length:=by simpa using h
   exact congrArg (·,()) (decide_eq_false fun e=>h (by rw [e])).symm
 · have h:(a.length:Int)=b.length:=by simpa using h
   exact ab7 (K:=fun r=>r=(decide (a=b),())) (fun x y=>!decide ((x.1,x.2.1,())=(y.1,y.2.1,()))) (fun x y=>by simp [Prod.ext_iff]) _ a b _ hlen (by omega) (fun e=>by rw [decide_eq_false e]) fun e=>by rw [decide_eq_true e]
theorem OA:OK yD.e:=by
 refine PA.ok mixed (au [] trivial) H0 (by kernel_rfl) (show ∀ n0 n1 n2 n3 n4 n5 n6,yD.goal (ac2 n0 n1 n2 n3 n4 n5 n6) ((n0,n1,n2,n3,n4,n5,n6,()),()) from ?_)
 intro n0 n1 n2 n3 n4 n5 n6 hin hp
 dsimp only [yD] at hp ⊢
 exact af (fun h=>by rw [h];rfl) fun h=>by rw [h];rfl
theorem Np:OK ql.e:=by
 refine PA.ok mixed (au [] trivial) OV (by kernel_rfl) (show ∀ s,ql.goal (Nq s) (s,()) from ?_)
 intro s hin hp
 dsimp only [ql] at hp ⊢
 have hp:s.length≤1000:=hp
 refine fun g hg=>af (fun h=>?_) fun h=>⟨by rw [bW];omega,rfl⟩
 have:=hg h
 rw [List.eq_nil_of_length_eq_zero this]
theorem Jj:OK wC.e:=by
 refine PA.ok mixed (au [ql.e] ⟨Np,trivial⟩) agQ (by kernel_rfl) (show ∀ x0 x1,wC.goal (afh x0 x1) ((x0,x1,()),()) from ?_)
 intro x0 x1 hin hp
 dsimp only [wC] at hp ⊢
 exact ⟨hp,rfl⟩
theorem mV {d:List aC} (h:aA d) {n:Nat} (hn:n<d.length):(d.getD n ([],[],())).2.1.length≤1000:=h.2 _ (getD_mem hn)
theorem OI:OK yI.e:=by
 refine PA.ok mixed (au [wC.e] ⟨Jj,trivial⟩) afi (by kernel_rfl) (show ∀ d,yI.goal (ac3 d) (d,()) from ?_)
 intro d hin hp
 dsimp only [yI] at hp ⊢
 have hp:aA d:=hp
 have hlen:d.length≤1000:=hp.1
 refine dN (fun i (x:List aC)=>(((),i,()),x,())) (fun y=>y.1.2.1) (fun _ _=>rfl) d.length (by omega) (fun n l=>l=d.take n) (by simp) (fun I μ n l hn hJ next=>?_) fun I μ l hJ=>?_
 · subst hJ
   have hl:(d.take n).length≤n:=by rw [List.length_take];omega
   dsimp only
   refine dH (by omega) ⟨⟨by omega,by omega⟩,mV hp hn,by rw [bW];simp only [List.length_cons,List.length_nil];omega,rfl,next _ ?_⟩
   exact (Sp.take_succ' d n ([],[],()) hn).symm
 · subst hJ
   dsimp only
   refine dI (by omega) ?_
   rw [List.take_length]
theorem Ep:OK rP.e:=by
 refine PA.ok mixed (au [] trivial) agR (by kernel_rfl) (show ∀ d,rP.goal (afj d) (d,()) from ?_)
 intro d hin hp
 dsimp only [rP] at hp ⊢
 have hp:aA d:=hp
 have hlen:d.length≤1000:=hp.1
 refine dN (fun i (x:List aC)=>(((),i,()),x,())) (fun y=>y.1.2.1) (fun _ _=>rfl) d.length (by omega) (fun n l=>l=d.take n) (by simp) (fun I μ n l hn hJ next=>?_) fun I μ l hJ=>?_
 · subst hJ
   have hl:(d.take n).length≤n:=by rw [List.length_take];omega
   dsimp only
   refine dH (by omega) ⟨⟨by omega,by omega⟩,⟨by omega,by omega⟩,by rw [bW];have:=mV hp hn;show 0+(d.getD n ([],[],())).2.1.length≤_;omega,by rw [bW];simp only [List.length_cons,List.length_nil];omega,rfl,next _ ?_⟩
   exact (Sp.take_succ' d n ([],[],()) hn).symm
 · subst hJ
   dsimp only
   refine dI (by omega) ?_
   rw [List.take_length]
end Go.Proofs.Tryz

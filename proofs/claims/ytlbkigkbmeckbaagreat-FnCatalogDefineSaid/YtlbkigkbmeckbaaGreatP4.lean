import Derived.Test.YtlbkigkbmeckbaaGreatP3
namespace Go.Proofs.Tryz
open Go Go.Fw Go.IntWalk
theorem BU:ai prog G qg.e:=by
 refine af9 (ak ah trivial) ?_
 intro a b hin hp
 dsimp only [qg] at hp ⊢
 have hlen:a.length≤maxLen:=hin.1.1
 rw [maxLen_eq] at hlen
 refine af (fun h=>?_) fun h=>?_
 · have h:(a.length:Int)≠b.length:=by simpa using h
   exact congrArg (·,()) (decide_eq_false fun e=>h (by rw [e])).symm
 · have h:(a.length:Int)=b.length:=by simpa using h
   exact PV (K:=fun r=>r=(decide (a=b),())) (fun x y=>x.1 !=y.1) (fun x y=>by simp [Prod.ext_iff]) _ a b _ hlen (by omega) (fun e=>by rw [decide_eq_false e]) fun e=>by rw [decide_eq_true e]
theorem aaA:ai prog G xO.e:=by
 refine aaB (ak ah trivial) ?_
 intro a b hin hp
 dsimp only [xO] at hp ⊢
 have hlen:a.length≤maxLen:=hin.1.1
 rw [maxLen_eq] at hlen
 refine af (fun h=>?_) fun h=>?_
 · have h:(a.length:Int)≠b.length:=by simpa using h
   exact congrArg (·,()) (decide_eq_false fun e=>h (by rw [e])).symm
 · have h:(a.length:Int)=b.length:=by simpa using h
   exact PV (K:=fun r=>r=(decide (a=b),())) (fun x y=>!(x.1==y.1&&(x.2.1==y.2.1&&(x.2.2.1==y.2.2.1&&(x.2.2.2.1==y.2.2.2.1&&(x.2.2.2.2.1==y.2.2.2.2.1&&(x.2.2.2.2.2.1==y.2.2.2.2.2.1&&(x.2.2.2.2.2.2.1==y.2.2.2.2.2.2.1&&true)))))))) (fun x y=>by simp [Prod.ext_iff]) _ a b _ hlen (by omega) (fun e=>by rw [decide_eq_false e]) fun e=>by rw [decide_eq_true e]
theorem aga:ai prog G zC.e:=by
 refine agb (ak ah ⟨aaA,trivial⟩) ?_
 intro a0 a1 b0 b1 hin hp
 dsimp only [zC] at hp ⊢
 refine af (fun h0=>⟨trivial,?_⟩) fun h0=>?_
 all_goals refine congrArg (·,()) (Bool.eq_iff_iff.2 ?_)
 · simp only [beq_iff_eq] at h0
   subst h0
   simp
 · have h0:a0≠b0:=by simpa using h0
   simp [h0]
theorem adh:ai prog G yM.e:=by
 refine ado (ak ah ⟨aga,trivial⟩) ?_
 intro a b hin hp
 dsimp only [yM] at hp ⊢
 have hlen:a.length≤maxLen:=hin.1.1
 rw [maxLen_eq] at hlen
 refine af (fun h=>?_) fun h=>?_
 · have h:(a.length:Int)≠b.length:=by simpa using h
   exact congrArg (·,()) (decide_eq_false fun e=>h (by rw [e])).symm
 · have h:(a.length:Int)=b.length:=by simpa using h
   exact acT (K:=fun r=>r=(decide (a=b),())) (fun x y=>!decide ((x.1,x.2.1,())=(y.1,y.2.1,()))) (fun x y=>by simp [Prod.ext_iff]) _ a b _ hlen (by omega) (fun e=>by rw [decide_eq_false e]) fun e=>by rw [decide_eq_true e]
theorem LJ:ai prog G vO.e:=by
 refine adp (ak ah trivial) ?_
 intro n0 n1 n2 n3 n4 n5 n6 hin hp
 dsimp only [vO] at hp ⊢
 exact af (fun h=>by rw [h];rfl) fun h=>by rw [h];rfl
theorem JQ:ai prog G lF.e:=by
 refine JR (ak ah trivial) ?_
 intro s hin hp
 dsimp only [lF] at hp ⊢
 have hp:s.length≤1000:=hp
 refine fun g hg=>af (fun h=>?_) fun h=>⟨by rw [bV];omega,rfl⟩
 have:=hg h
 rw [List.eq_nil_of_length_eq_zero this]
theorem F5:ai prog G tu.e:=by
 refine agc (ak ah ⟨JQ,trivial⟩) ?_
 intro x0 x1 hin hp
 dsimp only [tu] at hp ⊢
 exact ⟨hp,rfl⟩
theorem rD {d:List Sp.aH} (h:Sp.aB d) {n:Nat} (hn:n<d.length):(d.getD n ([],[],())).2.1.length≤1000:=h.2 _ (getD_mem hn)
theorem Ep:ai prog G qU.e:=by
 refine adq (ak ah ⟨F5,trivial⟩) ?_
 intro d hin hp
 dsimp only [qU] at hp ⊢
 have hp:Sp.aB d:=hp
 have hlen:d.length≤1000:=hp.1
 refine dR (fun i (x:List Sp.aH)=>(((),i,()),x,())) (fun y=>y.1.2.1) (fun _ _=>rfl) d.length (by omega) (fun n l=>l=d.take n) (by simp) (fun I μ n l hn hJ next=>?_) fun I μ l hJ=>?_
 · subst hJ
   have hl:(d.take n).length≤n:=by rw [List.length_take];omega
   dsimp only
   refine dB (by omega) ⟨⟨by omega,by omega⟩,rD hp hn,by rw [bV];simp only [List.length_cons,List.length_nil];omega,rfl,next _ ?_⟩
   exact (Sp.take_succ' d n ([],[],()) hn).symm
 · subst hJ
   dsimp only
   refine dD (by omega) ?_
   rw [List.take_length]
theorem FW:ai prog G tC.e:=by
 refine agd (ak ah trivial) ?_
 intro d hin hp
 dsimp only [tC] at hp ⊢
 have hp:Sp.aB d:=hp
 have hlen:d.length≤1000:=hp.1
 refine dR (fun i (x:List Sp.aH)=>(((),i,()),x,())) (fun y=>y.1.2.1) (fun _ _=>rfl) d.length (by omega) (fun n l=>l=d.take n) (by simp) (fun I μ n l hn hJ next=>?_) fun I μ l hJ=>?_
 · subst hJ
   have hl:(d.take n).length≤n:=by rw [List.length_take];omega
   dsimp only
   refine dB (by omega) ⟨⟨by omega,by omega⟩,⟨by omega,by omega⟩,by rw [bV];have:=rD hp hn;show 0+(d.getD n ([],[],())).2.1.length≤_;omega,by rw [bV];simp only [List.length_cons,List.length_nil];omega,rfl,next _ ?_⟩
   exact (Sp.take_succ' d n ([],[],()) hn).symm
 · subst hJ
   dsimp only
   refine dD (by omega) ?_
   rw [List.take_length]
end Go.Proofs.Tryz

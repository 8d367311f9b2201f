import Derived.Test.YtnaiafihkjbmnaaDoorP7
namespace Go.Proofs.Tryd
open Go Go.Fw Go.IntWalk

theorem ok_impl_IsValidString : ConOK prog G n_impl_IsValidString con_impl_IsValidString := by
  refine wk_impl_IsValidString (env_of (l := [(n_impl_within, .pure con_impl_within)]) (types_ok types_checked) (by simp only [List.forall_mem_cons]; exact ⟨⟨ok_impl_within, cal_impl_within⟩, fun x hx => by cases hx⟩)) ?_
  intro s hin hp
  have hlen : s.length ≤ maxLen := hin.1
  rw [maxLen_eq] at hlen
  refine ⟨fun y => ∃ n : Nat, y.1.1 = n ∧ n ≤ s.length ∧ Sp.lower (s.take n) = true, fun y => ((s.length : Int) - y.1.1).toNat, ⟨0, rfl, by omega, rfl⟩, ?_⟩
  rintro ⟨⟨_, ⟨⟩⟩, ⟨⟩⟩ ⟨n, rfl, hn, hJ⟩
  dsimp only
  have hall : n < s.length → ∀ x, s.getD n 0 = x → Sp.lower s = true → 97 ≤ x.toNat ∧ x.toNat ≤ 122 := by
    intro hlt x hx hl
    have := List.all_eq_true.1 hl x (by rw [← hx]; exact getD_mem hlt)
    simpa using this
  refine cond_intro (fun h => ?_) fun h => ?_ <;> simp only [decide_eq_true_eq, decide_eq_false_iff_not] at h
  · have hlt : n < s.length := by omega
    rw [wrapIn _ (by omega), Int.toNat_natCast]
    refine ⟨⟨by omega, by omega⟩, cond_intro (fun h2 => ?_) fun h2 => ⟨⟨by omega, by omega⟩, cond_intro (fun h3 => ?_) fun h3 => ?_⟩⟩ <;> simp only [decide_eq_true_eq, decide_eq_false_iff_not] at *
    · unfold Sp.validStr
      cases hl : Sp.lower s with
      | false => rfl
      | true => have := hall hlt _ rfl hl; omega
    · unfold Sp.validStr
      cases hl : Sp.lower s with
      | false => rfl
      | true => have := hall hlt _ rfl hl; omega
    · refine ⟨trivial, ⟨n + 1, by simp, by omega, ?_⟩, by omega⟩
      rw [Sp.take_succ' s n 0 hlt]
      unfold Sp.lower at hJ ⊢
      rw [List.all_append, hJ]
      simp only [List.all_cons, List.all_nil, Bool.and_true, Bool.true_and, Bool.and_eq_true, decide_eq_true_eq]
      omega
  · have hge : n = s.length := by omega
    rw [hge, List.take_length] at hJ
    unfold Sp.validStr
    rw [hJ]
    exact ⟨trivial, rfl⟩


theorem ok_slices_IndexFunc_int__impl_areNumbers_1 : ConOK prog G n_slices_IndexFunc_int__impl_areNumbers_1 con_slices_IndexFunc_int__impl_areNumbers_1 := by
  refine wk_slices_IndexFunc_int__impl_areNumbers_1 (env_of (l := [(n_impl_areNumbers_1, .pure con_impl_areNumbers_1)]) (types_ok types_checked) (by simp only [List.forall_mem_cons]; exact ⟨⟨ok_impl_areNumbers_1, cal_impl_areNumbers_1⟩, fun x hx => by cases hx⟩)) ?_
  intro s hin hp
  have hlen : s.length ≤ maxLen := hin.1.1
  rw [maxLen_eq] at hlen
  refine ⟨fun y => ∃ n : Nat, y.1.1 = n ∧ n ≤ s.length ∧ Sp.idxOf s = Sp.idxFrom n (s.drop n), fun y => ((s.length : Int) - y.1.1).toNat, ⟨0, rfl, by omega, rfl⟩, ?_⟩
  rintro ⟨⟨_, ⟨⟩⟩, ⟨⟩⟩ ⟨n, rfl, hn, hJ⟩
  dsimp only
  refine cond_intro (fun h => ?_) fun h => ?_ <;> simp only [decide_eq_true_eq, decide_eq_false_iff_not] at h
  · have hlt : n < s.length := by omega
    rw [drop_cons s n (0, ()) hlt, Sp.idxFrom] at hJ
    rw [wrapIn _ (by omega), Int.toNat_natCast]
    refine ⟨⟨by omega, by omega⟩, trivial, cond_intro (fun h2 => ?_) fun h2 => ?_⟩
    · rw [if_neg (by intro h3; rw [h3] at h2; cases h2)] at hJ
      rw [hJ]
    · have h3 : Sp.isUint (s.getD n (0, ())).1 = true := by simpa using h2
      rw [if_pos h3] at hJ
      exact ⟨rfl, ⟨n + 1, by simp, by omega, hJ⟩, by omega⟩
  · have hge : n = s.length := by omega
    rw [hge, List.drop_length] at hJ
    rw [hJ]; rfl

theorem ok_slices_ContainsFunc_int__impl_areNumbers_1 : ConOK prog G n_slices_ContainsFunc_int__impl_areNumbers_1 con_slices_ContainsFunc_int__impl_areNumbers_1 := by
  refine wk_slices_ContainsFunc_int__impl_areNumbers_1 (env_of (l := [(n_slices_IndexFunc_int__impl_areNumbers_1, .pure con_slices_IndexFunc_int__impl_areNumbers_1), (n_impl_areNumbers_1, .pure con_impl_areNumbers_1)]) (types_ok types_checked) (by simp only [List.forall_mem_cons]; exact ⟨⟨ok_slices_IndexFunc_int__impl_areNumbers_1, cal_slices_IndexFunc_int__impl_areNumbers_1⟩, ⟨ok_impl_areNumbers_1, cal_impl_areNumbers_1⟩, fun x hx => by cases hx⟩)) ?_
  intro s hin hp
  have h : decide (Sp.idxOf s ≥ 0) = !Sp.areUints s := idxFrom_iff s 0 (by omega)
  exact ⟨trivial, by rw [h]⟩

theorem ok_impl_areNumbers : ConOK prog G n_impl_areNumbers con_impl_areNumbers := by
  refine wk_impl_areNumbers (env_of (l := [(n_impl_areNumbers_1, .pure con_impl_areNumbers_1), (n_slices_ContainsFunc_int__impl_areNumbers_1, .pure con_slices_ContainsFunc_int__impl_areNumbers_1)]) (types_ok types_checked) (by simp only [List.forall_mem_cons]; exact ⟨⟨ok_impl_areNumbers_1, cal_impl_areNumbers_1⟩, ⟨ok_slices_ContainsFunc_int__impl_areNumbers_1, cal_slices_ContainsFunc_int__impl_areNumbers_1⟩, fun x hx => by cases hx⟩)) ?_
  intro l hin hp
  exact ⟨trivial, by rw [Bool.not_not]⟩
end Go.Proofs.Tryd


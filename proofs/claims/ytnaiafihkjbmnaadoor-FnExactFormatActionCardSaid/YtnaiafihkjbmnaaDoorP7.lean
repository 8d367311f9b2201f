import Derived.Test.YtnaiafihkjbmnaaDoorP6
namespace Go.Proofs.Tryd
open Go Go.Fw Go.IntWalk

theorem ok_laws_szAction : ConOK prog G n_laws_szAction con_laws_szAction := by
  refine wk_laws_szAction (env_of (l := [(n_laws_szChangeS, .pure con_laws_szChangeS)]) (types_ok types_checked) (by simp only [List.forall_mem_cons]; exact ⟨⟨ok_laws_szChangeS, cal_laws_szChangeS⟩, fun x hx => by cases hx⟩)) ?_
  intro a0 a1 a2 a3 a4 left hin hp
  obtain ⟨h0, h1⟩ := hp
  have hn : a3.length ≤ maxLen := hin.1.2.2.2.1
  have hle := szLen_leq (n := Sp.wChangeS a2) h0
  refine ⟨⟨h0, h1⟩, cond_intro (fun h => ?_) fun h => ?_⟩ <;> simp only [decide_eq_true_eq, decide_eq_false_iff_not] at h
  · show ((-1 : Int), ()) = (Sp.szLen (Sp.wChangeS a2 + a3.length) left, ())
    rw [szLen_more h]
  · refine sz1 (K := fun r => r = (Sp.szLen (Sp.wChangeS a2 + a3.length) left, ())) hn (by omega) (by omega) ?_
    rw [szLen_add (by omega)]

theorem ok_spec_l02Text : ConOK prog G n_spec_l02Text con_spec_l02Text := by
  refine wk_spec_l02Text (env_of (l := [(n_spec_l01In, .pure con_spec_l01In)]) (types_ok types_checked) (by simp only [List.forall_mem_cons]; exact ⟨⟨ok_spec_l01In, cal_spec_l01In⟩, fun x hx => by cases hx⟩)) ?_
  intro s most hin hp
  have hlen : s.length ≤ maxLen := hin.1
  rw [maxLen_eq] at hlen
  refine ⟨fun y => ∃ n : Nat, y.1.1 = n ∧ n ≤ s.length ∧ Sp.lower (s.take n) = true, fun y => ((s.length : Int) - y.1.1).toNat, ⟨0, rfl, by omega, rfl⟩, ?_⟩
  rintro ⟨⟨_, ⟨⟩⟩, ⟨⟩⟩ ⟨n, rfl, hn, hJ⟩
  dsimp only
  have hall : n < s.length → ∀ x, s.getD n 0 = x → Sp.lower s = true → 97 ≤ x.toNat ∧ x.toNat ≤ 122 := by
    intro hlt x hx hl
    have := List.all_eq_true.1 hl x (by rw [← hx]; exact getD_mem hlt)
    simpa using this
  refine cond_intro (fun h => ?_) fun h => ?_ <;> simp only [decide_eq_true_eq, decide_eq_false_iff_not] at h
  · have hlt : n < s.length := by omega
    rw [wrapIn _ (by omega), Int.toNat_natCast]
    refine ⟨⟨by omega, by omega⟩, cond_intro (fun h2 => ?_) fun h2 => ⟨⟨by omega, by omega⟩, cond_intro (fun h3 => ?_) fun h3 => ?_⟩⟩ <;> simp only [decide_eq_true_eq, decide_eq_false_iff_not] at *
    · cases hl : Sp.lower s with
      | false => rfl
      | true => have := hall hlt _ rfl hl; omega
    · cases hl : Sp.lower s with
      | false => rfl
      | true => have := hall hlt _ rfl hl; omega
    · refine ⟨trivial, ⟨n + 1, by simp, by omega, ?_⟩, by omega⟩
      rw [Sp.take_succ' s n 0 hlt]
      unfold Sp.lower at hJ ⊢
      rw [List.all_append, hJ]
      simp only [List.all_cons, List.all_nil, Bool.and_true, Bool.true_and, Bool.and_eq_true, decide_eq_true_eq]
      omega
  · have hge : n = s.length := by omega
    rw [hge, List.take_length] at hJ
    rw [hJ]
    exact ⟨trivial, rfl⟩

theorem ok_spec_IsValidString : ConOK prog G n_spec_IsValidString con_spec_IsValidString := by
  refine wk_spec_IsValidString (env_of (l := [(n_spec_l02Text, .pure con_spec_l02Text)]) (types_ok types_checked) (by simp only [List.forall_mem_cons]; exact ⟨⟨ok_spec_l02Text, cal_spec_l02Text⟩, fun x hx => by cases hx⟩)) ?_
  intro s hin hp
  exact ⟨trivial, rfl⟩
end Go.Proofs.Tryd


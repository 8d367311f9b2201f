import Derived.Test.YtnaiafihkjbmnaaDoorP1
namespace Go.Proofs.Tryd
open Go Go.Fw Go.IntWalk

theorem inRange_ok {l : List (Int × Unit)} (h : ∀ (x : Int × Unit), x ∈ l → ((-9223372036854775808 : Int) ≤ x.fst ∧ x.fst ≤ (9223372036854775807 : Int)) ∧ True) : Sp.i64Ok l := fun x hx => (h x hx).1
theorem tmod_nonneg_eq {c : Int} (h : ¬ c.tmod 10 < 0) : c.tmod 10 = ((c.natAbs % 10 : Nat) : Int) := by
  have : (c.tmod 10).natAbs = c.natAbs % 10 := Int.natAbs_tmod c 10
  omega
theorem tmod_neg_eq {c : Int} (h : c.tmod 10 < 0) : 0 - c.tmod 10 = ((c.natAbs % 10 : Nat) : Int) := by
  have : (c.tmod 10).natAbs = c.natAbs % 10 := Int.natAbs_tmod c 10
  omega
theorem digit_row (k : Nat) : byteRow [((48 : Int) + (k : Int), ())] = [UInt8.ofNat (48 + k)] := by
  have : ((48 : Int) + (k : Int)).toNat = 48 + k := by omega
  simp [byteRow, u8of, this]
/-- One figure more. -/
theorem digit_step {n c : Nat} {s : List UInt8} (hc : c ≠ 0) (hJ : Lib.decDigits n = (if c = 0 then [] else Lib.decDigits c) ++ s) :
    Lib.decDigits n = (if c / 10 = 0 then [] else Lib.decDigits (c / 10)) ++ (UInt8.ofNat (48 + c % 10) :: s) := by
  rw [hJ, if_neg hc, Sp.decDigits_step c]
  simp

theorem ok_spec_FormatInt : ConOK prog G n_spec_FormatInt con_spec_FormatInt := by
  refine wk_spec_FormatInt (env_of (l := [(n_spec_l01Figure, .pure con_spec_l01Figure)]) (types_ok types_checked) (by simp only [List.forall_mem_cons]; exact ⟨⟨ok_spec_l01Figure, cal_spec_l01Figure⟩, fun x hx => by cases hx⟩)) ?_
  intro n hin hp
  have h0 : (-9223372036854775808 : Int) ≤ n ∧ n ≤ 9223372036854775807 := hin.1
  have hL := Lib.itoa_length_le n h0.1 h0.2
  have hD : (Lib.decDigits n.natAbs).length ≤ 21 := by
    unfold Lib.itoa at hL
    split at hL
    · simp at hL; omega
    · rw [show n.natAbs = n.toNat by omega]; exact hL
  refine cond_intro (fun h => ?_) fun h => ?_
  · have : n = 0 := by simpa using h
    subst this; simp [Lib.itoa, Lib.decDigits]
  · have hn0 : n ≠ 0 := by simpa using h
    refine ⟨fun y => -9223372036854775808 ≤ y.1.1 ∧ y.1.1 ≤ 9223372036854775807 ∧ Lib.decDigits n.natAbs = (if y.1.1.natAbs = 0 then [] else Lib.decDigits y.1.1.natAbs) ++ y.1.2.1, fun y => y.1.1.natAbs, ⟨h0.1, h0.2, ?_⟩, ?_⟩
    · show _ = (if n.natAbs = 0 then _ else _) ++ _
      rw [if_neg (by omega)]; simp
    rintro ⟨⟨c, s, ⟨⟩⟩, ⟨⟩⟩ ⟨hc1, hc2, hJ⟩
    dsimp only at hc1 hc2 hJ ⊢
    have hs : s.length ≤ 21 := by
      rw [hJ, List.length_append] at hD; omega
    have hq : (c.tdiv 10).natAbs = c.natAbs / 10 := Int.natAbs_tdiv c 10
    have hrow : ∀ k : Nat, (byteRow [((48 : Int) + (k : Int), ())]).length = 1 := fun k => by rw [digit_row]; rfl
    refine cond_intro (fun h => ?_) fun h => ?_
    · have hc : c.natAbs ≠ 0 := by simp at h; omega
      have hstep := digit_step hc hJ
      have hm : c.natAbs % 10 < 10 := Nat.mod_lt _ (by decide)
      have hlt : c.natAbs / 10 < c.natAbs := Nat.div_lt_self (by omega) (by decide)
      have hw : IntKind.i64.wrap (c.tdiv 10) = c.tdiv 10 := wrapIn _ (by omega)
      refine ⟨by decide, cond_intro (fun hd => ?_) fun hd => ?_⟩ <;> simp only [decide_eq_true_eq, decide_eq_false_iff_not] at hd
      · have e := tmod_neg_eq hd
        rw [wrapIn (0 - c.tmod 10) (by omega), e, hw, digit_row]
        refine ⟨⟨by omega, by omega⟩, by simp only [List.length_cons, List.length_nil]; rw [maxLen_eq]; omega, by decide, rfl, ⟨by omega, by omega, ?_⟩, ?_⟩
        · show _ = (if (c.tdiv 10).natAbs = 0 then [] else Lib.decDigits (c.tdiv 10).natAbs) ++ _
          rw [hq]; exact hstep
        · show (c.tdiv 10).natAbs < c.natAbs
          rw [hq]; exact hlt
      · have e := tmod_nonneg_eq hd
        rw [e, hw, digit_row]
        refine ⟨⟨by omega, by omega⟩, by simp only [List.length_cons, List.length_nil]; rw [maxLen_eq]; omega, by decide, rfl, ⟨by omega, by omega, ?_⟩, ?_⟩
        · show _ = (if (c.tdiv 10).natAbs = 0 then [] else Lib.decDigits (c.tdiv 10).natAbs) ++ _
          rw [hq]; exact hstep
        · show (c.tdiv 10).natAbs < c.natAbs
          rw [hq]; exact hlt
    · have hc : c = 0 := by simpa using h
      subst hc
      have hJ : Lib.decDigits n.natAbs = s := by simpa using hJ
      subst hJ
      refine cond_intro (fun hd => ?_) fun hd => ?_ <;> simp only [decide_eq_true_eq, decide_eq_false_iff_not] at hd
      · refine ⟨by simp only [List.length_cons, List.length_nil]; rw [maxLen_eq]; omega, ?_⟩
        rw [Lib.itoa, if_pos hd]; rfl
      · rw [Lib.itoa, if_neg hd, show n.toNat = n.natAbs by omega]

end Go.Proofs.Tryd


import Derived.Test.YtlhclabldgampaaDoorV1
import Derived.Test.YtlhclabldgampaaDoorL3
import Derived.Test.YtlhclabldgampaaDoorFwC
import Derived.Test.YtlhclabldgampaaDoorSp
namespace Go.Proofs.Tryd
open Go Go.Fw Go.IntWalk

theorem szLen_neg {n : Nat} {left : Int} (h : Sp.szLen n left < 0) : Sp.szLen n left = -1 := by
  unfold Sp.szLen at h ⊢
  split at h
  · rw [if_pos (by assumption)]
  · omega
theorem szLen_le {n : Nat} {left m : Int} (h : left ≤ m) (h0 : -1 ≤ m) : Sp.szLen n left ≤ m := by unfold Sp.szLen; split <;> omega
theorem ok_impl_FormatInt : ConOK prog G n_impl_FormatInt con_impl_FormatInt := by
  refine wk_impl_FormatInt (env_of (l := [(n_strconv_Itoa, .pure con_strconv_Itoa)]) (types_ok types_checked) (by simp only [List.forall_mem_cons]; exact ⟨⟨ok_strconv_Itoa, cal_strconv_Itoa⟩, fun x hx => by cases hx⟩)) ?_
  intro n hin hp
  exact ⟨hin.1, rfl⟩

theorem ok_spec_l01Figure : ConOK prog G n_spec_l01Figure con_spec_l01Figure := by
  refine wk_spec_l01Figure (env_of (l := []) (types_ok types_checked) (fun x hx => by cases hx)) ?_
  intro x hin hp
  obtain ⟨h0, h1⟩ := hp
  refine cond_intro (fun h => ?_) fun h => ?_ <;> simp only [decide_eq_true_eq, decide_eq_false_iff_not] at h
  · rw [i64_in (48 + x) (by omega), u8_in (48 + x) (by omega)]
  · omega


theorem inRange_ok {l : List (Int × Unit)} (h : ∀ (x : Int × Unit), x ∈ l → ((-9223372036854775808 : Int) ≤ x.fst ∧ x.fst ≤ (9223372036854775807 : Int)) ∧ True) : Sp.i64Ok l := fun x hx => (h x hx).1
theorem tmod_nonneg_eq {c : Int} (h : ¬ c.tmod 10 < 0) : c.tmod 10 = ((c.natAbs % 10 : Nat) : Int) := by
  have : (c.tmod 10).natAbs = c.natAbs % 10 := Int.natAbs_tmod c 10
  omega
theorem tmod_neg_eq {c : Int} (h : c.tmod 10 < 0) : 0 - c.tmod 10 = ((c.natAbs % 10 : Nat) : Int) := by
  have : (c.tmod 10).natAbs = c.natAbs % 10 := Int.natAbs_tmod c 10
  omega
theorem digit_row (k : Nat) : byteRow [((48 : Int) + (k : Int), ())] = [UInt8.ofNat (48 + k)] := by
  have : ((48 : Int) + (k : Int)).toNat = 48 + k := by omega
  simp [byteRow, u8of, this]
/-- One figure more. -/
theorem digit_step {n c : Nat} {s : List UInt8} (hc : c ≠ 0) (hJ : Lib.decDigits n = (if c = 0 then [] else Lib.decDigits c) ++ s) :
    Lib.decDigits n = (if c / 10 = 0 then [] else Lib.decDigits (c / 10)) ++ (UInt8.ofNat (48 + c % 10) :: s) := by
  rw [hJ, if_neg hc, Sp.decDigits_step c]
  simp

theorem ok_spec_FormatInt : ConOK prog G n_spec_FormatInt con_spec_FormatInt := by
  refine wk_spec_FormatInt (env_of (l := [(n_spec_l01Figure, .pure con_spec_l01Figure)]) (types_ok types_checked) (by simp only [List.forall_mem_cons]; exact ⟨⟨ok_spec_l01Figure, cal_spec_l01Figure⟩, fun x hx => by cases hx⟩)) ?_
  intro n hin hp
  have h0 : (-9223372036854775808 : Int) ≤ n ∧ n ≤ 9223372036854775807 := hin.1
  have hL := Lib.itoa_length_le n h0.1 h0.2
  have hD : (Lib.decDigits n.natAbs).length ≤ 21 := by
    unfold Lib.itoa at hL
    split at hL
    · simp at hL; omega
    · rw [show n.natAbs = n.toNat by omega]; exact hL
  refine cond_intro (fun h => ?_) fun h => ?_
  · have : n = 0 := by simpa using h
    subst this; simp [Lib.itoa, Lib.decDigits]
  · have hn0 : n ≠ 0 := by simpa using h
    refine ⟨fun y => -9223372036854775808 ≤ y.1.1 ∧ y.1.1 ≤ 9223372036854775807 ∧ Lib.decDigits n.natAbs = (if y.1.1.natAbs = 0 then [] else Lib.decDigits y.1.1.natAbs) ++ y.1.2.1, fun y => y.1.1.natAbs, ⟨h0.1, h0.2, ?_⟩, ?_⟩
    · show _ = (if n.natAbs = 0 then _ else _) ++ _
      rw [if_neg (by omega)]; simp
    rintro ⟨⟨c, s, ⟨⟩⟩, ⟨⟩⟩ ⟨hc1, hc2, hJ⟩
    dsimp only at hc1 hc2 hJ ⊢
    have hs : s.length ≤ 21 := by
      rw [hJ, List.length_append] at hD; omega
    have hq : (c.tdiv 10).natAbs = c.natAbs / 10 := Int.natAbs_tdiv c 10
    have hrow : ∀ k : Nat, (byteRow [((48 : Int) + (k : Int), ())]).length = 1 := fun k => by rw [digit_row]; rfl
    refine cond_intro (fun h => ?_) fun h => ?_
    · have hc : c.natAbs ≠ 0 := by simp at h; omega
      have hstep := digit_step hc hJ
      have hm : c.natAbs % 10 < 10 := Nat.mod_lt _ (by decide)
      have hlt : c.natAbs / 10 < c.natAbs := Nat.div_lt_self (by omega) (by decide)
      have hw : IntKind.i64.wrap (c.tdiv 10) = c.tdiv 10 := wrapIn _ (by omega)
      refine ⟨by decide, cond_intro (fun hd => ?_) fun hd => ?_⟩ <;> simp only [decide_eq_true_eq, decide_eq_false_iff_not] at hd
      · have e := tmod_neg_eq hd
        rw [wrapIn (0 - c.tmod 10) (by omega), e, hw, digit_row]
        refine ⟨⟨by omega, by omega⟩, by simp only [List.length_cons, List.length_nil]; rw [maxLen_eq]; omega, by decide, rfl, ⟨by omega, by omega, ?_⟩, ?_⟩
        · show _ = (if (c.tdiv 10).natAbs = 0 then [] else Lib.decDigits (c.tdiv 10).natAbs) ++ _
          rw [hq]; exact hstep
        · show (c.tdiv 10).natAbs < c.natAbs
          rw [hq]; exact hlt
      · have e := tmod_nonneg_eq hd
        rw [e, hw, digit_row]
        refine ⟨⟨by omega, by omega⟩, by simp only [List.length_cons, List.length_nil]; rw [maxLen_eq]; omega, by decide, rfl, ⟨by omega, by omega, ?_⟩, ?_⟩
        · show _ = (if (c.tdiv 10).natAbs = 0 then [] else Lib.decDigits (c.tdiv 10).natAbs) ++ _
          rw [hq]; exact hstep
        · show (c.tdiv 10).natAbs < c.natAbs
          rw [hq]; exact hlt
    · have hc : c = 0 := by simpa using h
      subst hc
      have hJ : Lib.decDigits n.natAbs = s := by simpa using hJ
      subst hJ
      refine cond_intro (fun hd => ?_) fun hd => ?_ <;> simp only [decide_eq_true_eq, decide_eq_false_iff_not] at hd
      · refine ⟨by simp only [List.length_cons, List.length_nil]; rw [maxLen_eq]; omega, ?_⟩
        rw [Lib.itoa, if_pos hd]; rfl
      · rw [Lib.itoa, if_neg hd, show n.toNat = n.natAbs by omega]


theorem sz1 {n : Nat} {left : Int} (hn : n ≤ maxLen) (h0 : 0 ≤ left) (h1 : left ≤ 1048576) {K : Int × Unit → Prop} (hK : K (Sp.szLen n left, ())) :
    bif decide (IntKind.i64.wrap (left - (n : Int)) < (0 : Int)) then K ((-1 : Int), ()) else K (IntKind.i64.wrap (left - (n : Int)), ()) := by
  rw [maxLen_eq] at hn
  rw [wrapIn _ (by omega)]
  unfold Sp.szLen at hK
  refine cond_intro (fun h => ?_) fun h => ?_ <;> simp only [decide_eq_true_eq, decide_eq_false_iff_not] at h
  · rw [if_pos h] at hK; exact hK
  · rw [if_neg h] at hK; exact hK
theorem szr {n : Nat} {left : Int} {K : Int × Unit → Prop} (hK : K (Sp.szLen n left, ())) :
    bif decide (Sp.szLen n left < (0 : Int)) then K ((-1 : Int), ()) else K (Sp.szLen n left, ()) := by
  refine cond_intro (fun h => ?_) fun h => ?_ <;> simp only [decide_eq_true_eq, decide_eq_false_iff_not] at h
  · have := szLen_more (m := 0) h
    rw [Nat.add_zero] at this
    rw [this] at hK; exact hK
  · exact hK
/-- First a length, then what the rest weighs. -/
theorem sz2 {n m : Nat} {left : Int} (hn : n ≤ maxLen) (h0 : 0 ≤ left) (h1 : left ≤ 1048576) {K : Int × Unit → Prop} (hK : K (Sp.szLen (n + m) left, ())) :
    bif decide (IntKind.i64.wrap (left - (n : Int)) < (0 : Int)) then K ((-1 : Int), ())
    else ((0 : Int) ≤ IntKind.i64.wrap (left - (n : Int)) ∧ IntKind.i64.wrap (left - (n : Int)) ≤ (1048576 : Int)) ∧
      (bif decide (Sp.szLen m (IntKind.i64.wrap (left - (n : Int))) < (0 : Int)) then K ((-1 : Int), ()) else K (Sp.szLen m (IntKind.i64.wrap (left - (n : Int))), ())) := by
  rw [maxLen_eq] at hn
  rw [wrapIn _ (by omega)]
  refine cond_intro (fun h => ?_) fun h => ?_ <;> simp only [decide_eq_true_eq, decide_eq_false_iff_not] at h
  · rw [szLen_more (by unfold Sp.szLen; rw [if_pos h]; omega)] at hK; exact hK
  · refine ⟨⟨by omega, by omega⟩, szr ?_⟩
    rw [← szLen_sub h, szLen_add (by rw [szLen_sub h]; omega)]; exact hK
theorem sz3 {n m : Nat} {left : Int} (h0 : 0 ≤ left) (h1 : left ≤ 1048576) {K : Int × Unit → Prop} (hK : K (Sp.szLen (n + m) left, ())) :
    ((0 : Int) ≤ left ∧ left ≤ (1048576 : Int)) ∧
    (bif decide (Sp.szLen n left < (0 : Int)) then K ((-1 : Int), ())
    else ((0 : Int) ≤ Sp.szLen n left ∧ Sp.szLen n left ≤ (1048576 : Int)) ∧
      (bif decide (Sp.szLen m (Sp.szLen n left) < (0 : Int)) then K ((-1 : Int), ()) else K (Sp.szLen m (Sp.szLen n left), ()))) := by
  refine ⟨⟨h0, h1⟩, cond_intro (fun h => ?_) fun h => ?_⟩ <;> simp only [decide_eq_true_eq, decide_eq_false_iff_not] at h
  · rw [szLen_more h] at hK; exact hK
  · have := szLen_leq (n := n) h0
    refine ⟨⟨by omega, by omega⟩, szr ?_⟩
    rw [szLen_add (by omega)]; exact hK

theorem ok_laws_eqValue : ConOK prog G n_laws_eqValue con_laws_eqValue := by
  refine wk_laws_eqValue (env_of (l := []) (types_ok types_checked) (fun x hx => by cases hx)) ?_
  intro a0 a1 a2 b0 b1 b2 hin hp
  have e : Sp.eqValue (a0, a1, a2, ()) (b0, b1, b2, ()) = ((a0 == b0) && (a1 == b1) && (a2 == b2)) := Bool.eq_iff_iff.2 (by simp [Sp.eqValue, and_assoc])
  simp only [VC_laws_eqValue, e, bne]
  cases (a0 == b0) <;> cases (a1 == b1) <;> cases (a2 == b2) <;> simp

theorem ok_laws_eqAttr : ConOK prog G n_laws_eqAttr con_laws_eqAttr := by
  refine wk_laws_eqAttr (env_of (l := [(n_laws_eqValue, .pure con_laws_eqValue)]) (types_ok types_checked) (by simp only [List.forall_mem_cons]; exact ⟨⟨ok_laws_eqValue, cal_laws_eqValue⟩, fun x hx => by cases hx⟩)) ?_
  intro a0 a1 a2 a3 b0 b1 b2 b3 hin hp
  have e : Sp.eqAttr (a0, a1, a2, a3, ()) (b0, b1, b2, b3, ()) = ((a0 == b0) && (Sp.eqValue (a1, a2, a3, ()) (b1, b2, b3, ()))) := Bool.eq_iff_iff.2 (by simp [Sp.eqAttr, Sp.eqValue, and_assoc])
  simp only [VC_laws_eqAttr, e, bne]
  cases (a0 == b0) <;> cases (Sp.eqValue (a1, a2, a3, ()) (b1, b2, b3, ())) <;> simp

theorem ok_laws_eqNode : ConOK prog G n_laws_eqNode con_laws_eqNode := by
  refine wk_laws_eqNode (env_of (l := [(n_laws_eqValue, .pure con_laws_eqValue)]) (types_ok types_checked) (by simp only [List.forall_mem_cons]; exact ⟨⟨ok_laws_eqValue, cal_laws_eqValue⟩, fun x hx => by cases hx⟩)) ?_
  intro a0 a1 a2 a3 a4 a5 a6 b0 b1 b2 b3 b4 b5 b6 hin hp
  have e : Sp.eqNode (a0, a1, a2, a3, a4, a5, a6, ()) (b0, b1, b2, b3, b4, b5, b6, ()) = ((a0 == b0) && (a1 == b1) && (a2 == b2) && (a3 == b3) && (Sp.eqValue (a4, a5, a6, ()) (b4, b5, b6, ()))) := Bool.eq_iff_iff.2 (by simp [Sp.eqNode, Sp.eqValue, and_assoc])
  simp only [VC_laws_eqNode, e, bne]
  cases (a0 == b0) <;> cases (a1 == b1) <;> cases (a2 == b2) <;> cases (a3 == b3) <;> cases (Sp.eqValue (a4, a5, a6, ()) (b4, b5, b6, ())) <;> simp

theorem ok_laws_eqAttrS : ConOK prog G n_laws_eqAttrS con_laws_eqAttrS := by
  refine wk_laws_eqAttrS (env_of (l := [(n_laws_eqAttr, .pure con_laws_eqAttr)]) (types_ok types_checked) (by simp only [List.forall_mem_cons]; exact ⟨⟨ok_laws_eqAttr, cal_laws_eqAttr⟩, fun x hx => by cases hx⟩)) ?_
  intro a b hin hp
  exact eqS_vc (K := fun r => r = (Sp.eqAttrS a b, ())) Sp.eqAttr (fun x y => by simp [Sp.eqAttr]) _ a b _ (by have h := hin.1.1; rw [maxLen_eq] at h; exact h) (fun z hz => by
    have : z = Sp.eqAttrS a b := Bool.eq_iff_iff.2 (hz.trans (by simp [Sp.eqAttrS]))
    rw [this])

theorem ok_laws_eqNodeS : ConOK prog G n_laws_eqNodeS con_laws_eqNodeS := by
  refine wk_laws_eqNodeS (env_of (l := [(n_laws_eqNode, .pure con_laws_eqNode)]) (types_ok types_checked) (by simp only [List.forall_mem_cons]; exact ⟨⟨ok_laws_eqNode, cal_laws_eqNode⟩, fun x hx => by cases hx⟩)) ?_
  intro a b hin hp
  exact eqS_vc (K := fun r => r = (Sp.eqNodeS a b, ())) Sp.eqNode (fun x y => by simp [Sp.eqNode]) _ a b _ (by have h := hin.1.1; rw [maxLen_eq] at h; exact h) (fun z hz => by
    have : z = Sp.eqNodeS a b := Bool.eq_iff_iff.2 (hz.trans (by simp [Sp.eqNodeS]))
    rw [this])

theorem ok_laws_eqFile : ConOK prog G n_laws_eqFile con_laws_eqFile := by
  refine wk_laws_eqFile (env_of (l := [(n_laws_eqAttrS, .pure con_laws_eqAttrS)]) (types_ok types_checked) (by simp only [List.forall_mem_cons]; exact ⟨⟨ok_laws_eqAttrS, cal_laws_eqAttrS⟩, fun x hx => by cases hx⟩)) ?_
  intro a0 a1 a2 a3 a4 b0 b1 b2 b3 b4 hin hp
  have e : Sp.eqFile (a0, a1, a2, a3, a4, ()) (b0, b1, b2, b3, b4, ()) = ((a0 == b0) && (a1 == b1) && (a2 == b2) && (a3 == b3) && (Sp.eqAttrS a4 b4)) := Bool.eq_iff_iff.2 (by simp [Sp.eqFile, Sp.eqAttrS, and_assoc])
  simp only [VC_laws_eqFile, e, bne]
  cases (a0 == b0) <;> cases (a1 == b1) <;> cases (a2 == b2) <;> cases (a3 == b3) <;> cases (Sp.eqAttrS a4 b4) <;> simp

theorem ok_laws_eqDir : ConOK prog G n_laws_eqDir con_laws_eqDir := by
  refine wk_laws_eqDir (env_of (l := [(n_laws_eqNodeS, .pure con_laws_eqNodeS)]) (types_ok types_checked) (by simp only [List.forall_mem_cons]; exact ⟨⟨ok_laws_eqNodeS, cal_laws_eqNodeS⟩, fun x hx => by cases hx⟩)) ?_
  intro a0 a1 b0 b1 hin hp
  have e : Sp.eqDir (a0, a1, ()) (b0, b1, ()) = ((a0 == b0) && (Sp.eqNodeS a1 b1)) := Bool.eq_iff_iff.2 (by simp [Sp.eqDir, Sp.eqNodeS, and_assoc])
  simp only [VC_laws_eqDir, e, bne]
  cases (a0 == b0) <;> cases (Sp.eqNodeS a1 b1) <;> simp

theorem ok_laws_eqChange : ConOK prog G n_laws_eqChange con_laws_eqChange := by
  refine wk_laws_eqChange (env_of (l := [(n_laws_eqDir, .pure con_laws_eqDir), (n_laws_eqFile, .pure con_laws_eqFile)]) (types_ok types_checked) (by simp only [List.forall_mem_cons]; exact ⟨⟨ok_laws_eqDir, cal_laws_eqDir⟩, ⟨ok_laws_eqFile, cal_laws_eqFile⟩, fun x hx => by cases hx⟩)) ?_
  intro a0 a1 a2 a3 a4 a5 a6 a7 a8 b0 b1 b2 b3 b4 b5 b6 b7 b8 hin hp
  have e : Sp.eqChange (a0, a1, a2, a3, a4, a5, a6, a7, a8, ()) (b0, b1, b2, b3, b4, b5, b6, b7, b8, ()) = ((a0 == b0) && (Sp.eqFile (a1, a2, a3, a4, a5, ()) (b1, b2, b3, b4, b5, ())) && (a6 == b6) && (Sp.eqDir (a7, a8, ()) (b7, b8, ()))) := Bool.eq_iff_iff.2 (by simp [Sp.eqChange, Sp.eqFile, Sp.eqDir, and_assoc])
  simp only [VC_laws_eqChange, e, bne]
  cases (a0 == b0) <;> cases (Sp.eqFile (a1, a2, a3, a4, a5, ()) (b1, b2, b3, b4, b5, ())) <;> cases (a6 == b6) <;> cases (Sp.eqDir (a7, a8, ()) (b7, b8, ())) <;> simp

theorem ok_laws_eqChangeS : ConOK prog G n_laws_eqChangeS con_laws_eqChangeS := by
  refine wk_laws_eqChangeS (env_of (l := [(n_laws_eqChange, .pure con_laws_eqChange)]) (types_ok types_checked) (by simp only [List.forall_mem_cons]; exact ⟨⟨ok_laws_eqChange, cal_laws_eqChange⟩, fun x hx => by cases hx⟩)) ?_
  intro a b hin hp
  exact eqS_vc (K := fun r => r = (Sp.eqChangeS a b, ())) Sp.eqChange (fun x y => by simp [Sp.eqChange]) _ a b _ (by have h := hin.1.1; rw [maxLen_eq] at h; exact h) (fun z hz => by
    have : z = Sp.eqChangeS a b := Bool.eq_iff_iff.2 (hz.trans (by simp [Sp.eqChangeS]))
    rw [this])

theorem ok_laws_eqAction : ConOK prog G n_laws_eqAction con_laws_eqAction := by
  refine wk_laws_eqAction (env_of (l := [(n_laws_eqChangeS, .pure con_laws_eqChangeS)]) (types_ok types_checked) (by simp only [List.forall_mem_cons]; exact ⟨⟨ok_laws_eqChangeS, cal_laws_eqChangeS⟩, fun x hx => by cases hx⟩)) ?_
  intro a0 a1 a2 a3 a4 b0 b1 b2 b3 b4 hin hp
  have e : Sp.eqAction (a0, a1, a2, a3, a4, ()) (b0, b1, b2, b3, b4, ()) = ((a0 == b0) && (a1 == b1) && (Sp.eqChangeS a2 b2) && (a3 == b3) && (a4 == b4)) := Bool.eq_iff_iff.2 (by simp [Sp.eqAction, Sp.eqChangeS, and_assoc])
  simp only [VC_laws_eqAction, e, bne]
  cases (a0 == b0) <;> cases (a1 == b1) <;> cases (Sp.eqChangeS a2 b2) <;> cases (a3 == b3) <;> cases (a4 == b4) <;> simp


theorem and2 {p q : Bool} {K : Bool × Unit → Prop} (h : K ((p && q), ())) : bif p then K (q, ()) else K (false, ()) := by
  cases p <;> exact h
theorem ok_spec_l01In : ConOK prog G n_spec_l01In con_spec_l01In := by
  refine wk_spec_l01In (env_of (l := []) (types_ok types_checked) (fun x hx => by cases hx)) ?_
  intro x a b hin hp
  exact and2 (K := fun r => r = (_, ())) rfl

theorem ok_impl_within : ConOK prog G n_impl_within con_impl_within := by
  refine wk_impl_within (env_of (l := []) (types_ok types_checked) (fun x hx => by cases hx)) ?_
  intro x a b hin hp
  exact and2 (K := fun r => r = (_, ())) rfl

theorem ok_spec_IsValidAction : ConOK prog G n_spec_IsValidAction con_spec_IsValidAction := by
  refine wk_spec_IsValidAction (env_of (l := [(n_spec_l01In, .pure con_spec_l01In)]) (types_ok types_checked) (by simp only [List.forall_mem_cons]; exact ⟨⟨ok_spec_l01In, cal_spec_l01In⟩, fun x hx => by cases hx⟩)) ?_
  intro a0 a1 a2 a3 a4 hin hp
  exact ⟨trivial, and2 (K := fun r => r = (_, ())) rfl⟩

theorem ok_impl_IsValidAction : ConOK prog G n_impl_IsValidAction con_impl_IsValidAction := by
  refine wk_impl_IsValidAction (env_of (l := [(n_impl_within, .pure con_impl_within)]) (types_ok types_checked) (by simp only [List.forall_mem_cons]; exact ⟨⟨ok_impl_within, cal_impl_within⟩, fun x hx => by cases hx⟩)) ?_
  intro a0 a1 a2 a3 a4 hin hp
  exact ⟨trivial, and2 (K := fun r => r = (_, ())) rfl⟩

theorem ok_impl_areNumbers_1 : ConOK prog G n_impl_areNumbers_1 con_impl_areNumbers_1 := by
  refine wk_impl_areNumbers_1 (env_of (l := [(n_impl_within, .pure con_impl_within)]) (types_ok types_checked) (by simp only [List.forall_mem_cons]; exact ⟨⟨ok_impl_within, cal_impl_within⟩, fun x hx => by cases hx⟩)) ?_
  intro n hin hp
  exact ⟨trivial, rfl⟩

theorem idxFrom_iff : ∀ (l : Sp.LI) (k : Int), 0 ≤ k → decide (Sp.idxFrom k l ≥ 0) = !Sp.areUints l
  | [], k, h => by simp [Sp.idxFrom, Sp.areUints]
  | x :: r, k, h => by
    have ih := idxFrom_iff r (k + 1) (by omega)
    unfold Sp.areUints at ih ⊢
    rw [Sp.idxFrom, List.all_cons]
    cases hx : Sp.isUint x.1 with
    | true => rw [if_pos rfl, ih]; rfl
    | false => rw [if_neg (by simp)]; simp [h]

theorem ok_spec_l02Text : ConOK prog G n_spec_l02Text con_spec_l02Text := by
  refine wk_spec_l02Text (env_of (l := [(n_spec_l01In, .pure con_spec_l01In)]) (types_ok types_checked) (by simp only [List.forall_mem_cons]; exact ⟨⟨ok_spec_l01In, cal_spec_l01In⟩, fun x hx => by cases hx⟩)) ?_
  intro s most hin hp
  have hlen : s.length ≤ maxLen := hin.1
  rw [maxLen_eq] at hlen
  refine ⟨fun y => ∃ n : Nat, y.1.1 = n ∧ n ≤ s.length ∧ Sp.lower (s.take n) = true, fun y => ((s.length : Int) - y.1.1).toNat, ⟨0, rfl, by omega, rfl⟩, ?_⟩
  rintro ⟨⟨_, ⟨⟩⟩, ⟨⟩⟩ ⟨n, rfl, hn, hJ⟩
  dsimp only
  have hall : n < s.length → ∀ x, s.getD n 0 = x → Sp.lower s = true → 97 ≤ x.toNat ∧ x.toNat ≤ 122 := by
    intro hlt x hx hl
    have := List.all_eq_true.1 hl x (by rw [← hx]; exact getD_mem hlt)
    simpa using this
  refine cond_intro (fun h => ?_) fun h => ?_ <;> simp only [decide_eq_true_eq, decide_eq_false_iff_not] at h
  · have hlt : n < s.length := by omega
    rw [wrapIn _ (by omega), Int.toNat_natCast]
    refine ⟨⟨by omega, by omega⟩, cond_intro (fun h2 => ?_) fun h2 => ⟨⟨by omega, by omega⟩, cond_intro (fun h3 => ?_) fun h3 => ?_⟩⟩ <;> simp only [decide_eq_true_eq, decide_eq_false_iff_not] at *
    · cases hl : Sp.lower s with
      | false => rfl
      | true => have := hall hlt _ rfl hl; omega
    · cases hl : Sp.lower s with
      | false => rfl
      | true => have := hall hlt _ rfl hl; omega
    · refine ⟨trivial, ⟨n + 1, by simp, by omega, ?_⟩, by omega⟩
      rw [Sp.take_succ' s n 0 hlt]
      unfold Sp.lower at hJ ⊢
      rw [List.all_append, hJ]
      simp only [List.all_cons, List.all_nil, Bool.and_true, Bool.true_and, Bool.and_eq_true, decide_eq_true_eq]
      omega
  · have hge : n = s.length := by omega
    rw [hge, List.take_length] at hJ
    rw [hJ]
    exact ⟨trivial, rfl⟩

theorem ok_spec_IsValidString : ConOK prog G n_spec_IsValidString con_spec_IsValidString := by
  refine wk_spec_IsValidString (env_of (l := [(n_spec_l02Text, .pure con_spec_l02Text)]) (types_ok types_checked) (by simp only [List.forall_mem_cons]; exact ⟨⟨ok_spec_l02Text, cal_spec_l02Text⟩, fun x hx => by cases hx⟩)) ?_
  intro s hin hp
  exact ⟨trivial, rfl⟩

theorem ok_impl_IsValidString : ConOK prog G n_impl_IsValidString con_impl_IsValidString := by
  refine wk_impl_IsValidString (env_of (l := [(n_impl_within, .pure con_impl_within)]) (types_ok types_checked) (by simp only [List.forall_mem_cons]; exact ⟨⟨ok_impl_within, cal_impl_within⟩, fun x hx => by cases hx⟩)) ?_
  intro s hin hp
  have hlen : s.length ≤ maxLen := hin.1
  rw [maxLen_eq] at hlen
  refine ⟨fun y => ∃ n : Nat, y.1.1 = n ∧ n ≤ s.length ∧ Sp.lower (s.take n) = true, fun y => ((s.length : Int) - y.1.1).toNat, ⟨0, rfl, by omega, rfl⟩, ?_⟩
  rintro ⟨⟨_, ⟨⟩⟩, ⟨⟩⟩ ⟨n, rfl, hn, hJ⟩
  dsimp only
  have hall : n < s.length → ∀ x, s.getD n 0 = x → Sp.lower s = true → 97 ≤ x.toNat ∧ x.toNat ≤ 122 := by
    intro hlt x hx hl
    have := List.all_eq_true.1 hl x (by rw [← hx]; exact getD_mem hlt)
    simpa using this
  refine cond_intro (fun h => ?_) fun h => ?_ <;> simp only [decide_eq_true_eq, decide_eq_false_iff_not] at h
  · have hlt : n < s.length := by omega
    rw [wrapIn _ (by omega), Int.toNat_natCast]
    refine ⟨⟨by omega, by omega⟩, cond_intro (fun h2 => ?_) fun h2 => ⟨⟨by omega, by omega⟩, cond_intro (fun h3 => ?_) fun h3 => ?_⟩⟩ <;> simp only [decide_eq_true_eq, decide_eq_false_iff_not] at *
    · unfold Sp.validStr
      cases hl : Sp.lower s with
      | false => rfl
      | true => have := hall hlt _ rfl hl; omega
    · unfold Sp.validStr
      cases hl : Sp.lower s with
      | false => rfl
      | true => have := hall hlt _ rfl hl; omega
    · refine ⟨trivial, ⟨n + 1, by simp, by omega, ?_⟩, by omega⟩
      rw [Sp.take_succ' s n 0 hlt]
      unfold Sp.lower at hJ ⊢
      rw [List.all_append, hJ]
      simp only [List.all_cons, List.all_nil, Bool.and_true, Bool.true_and, Bool.and_eq_true, decide_eq_true_eq]
      omega
  · have hge : n = s.length := by omega
    rw [hge, List.take_length] at hJ
    unfold Sp.validStr
    rw [hJ]
    exact ⟨trivial, rfl⟩


theorem ok_slices_IndexFunc_int__impl_areNumbers_1 : ConOK prog G n_slices_IndexFunc_int__impl_areNumbers_1 con_slices_IndexFunc_int__impl_areNumbers_1 := by
  refine wk_slices_IndexFunc_int__impl_areNumbers_1 (env_of (l := [(n_impl_areNumbers_1, .pure con_impl_areNumbers_1)]) (types_ok types_checked) (by simp only [List.forall_mem_cons]; exact ⟨⟨ok_impl_areNumbers_1, cal_impl_areNumbers_1⟩, fun x hx => by cases hx⟩)) ?_
  intro s hin hp
  have hlen : s.length ≤ maxLen := hin.1.1
  rw [maxLen_eq] at hlen
  refine ⟨fun y => ∃ n : Nat, y.1.1 = n ∧ n ≤ s.length ∧ Sp.idxOf s = Sp.idxFrom n (s.drop n), fun y => ((s.length : Int) - y.1.1).toNat, ⟨0, rfl, by omega, rfl⟩, ?_⟩
  rintro ⟨⟨_, ⟨⟩⟩, ⟨⟩⟩ ⟨n, rfl, hn, hJ⟩
  dsimp only
  refine cond_intro (fun h => ?_) fun h => ?_ <;> simp only [decide_eq_true_eq, decide_eq_false_iff_not] at h
  · have hlt : n < s.length := by omega
    rw [drop_cons s n (0, ()) hlt, Sp.idxFrom] at hJ
    rw [wrapIn _ (by omega), Int.toNat_natCast]
    refine ⟨⟨by omega, by omega⟩, trivial, cond_intro (fun h2 => ?_) fun h2 => ?_⟩
    · rw [if_neg (by intro h3; rw [h3] at h2; cases h2)] at hJ
      rw [hJ]
    · have h3 : Sp.isUint (s.getD n (0, ())).1 = true := by simpa using h2
      rw [if_pos h3] at hJ
      exact ⟨rfl, ⟨n + 1, by simp, by omega, hJ⟩, by omega⟩
  · have hge : n = s.length := by omega
    rw [hge, List.drop_length] at hJ
    rw [hJ]; rfl

theorem ok_slices_ContainsFunc_int__impl_areNumbers_1 : ConOK prog G n_slices_ContainsFunc_int__impl_areNumbers_1 con_slices_ContainsFunc_int__impl_areNumbers_1 := by
  refine wk_slices_ContainsFunc_int__impl_areNumbers_1 (env_of (l := [(n_slices_IndexFunc_int__impl_areNumbers_1, .pure con_slices_IndexFunc_int__impl_areNumbers_1), (n_impl_areNumbers_1, .pure con_impl_areNumbers_1)]) (types_ok types_checked) (by simp only [List.forall_mem_cons]; exact ⟨⟨ok_slices_IndexFunc_int__impl_areNumbers_1, cal_slices_IndexFunc_int__impl_areNumbers_1⟩, ⟨ok_impl_areNumbers_1, cal_impl_areNumbers_1⟩, fun x hx => by cases hx⟩)) ?_
  intro s hin hp
  have h : decide (Sp.idxOf s ≥ 0) = !Sp.areUints s := idxFrom_iff s 0 (by omega)
  exact ⟨trivial, by rw [h]⟩

theorem ok_impl_areNumbers : ConOK prog G n_impl_areNumbers con_impl_areNumbers := by
  refine wk_impl_areNumbers (env_of (l := [(n_impl_areNumbers_1, .pure con_impl_areNumbers_1), (n_slices_ContainsFunc_int__impl_areNumbers_1, .pure con_slices_ContainsFunc_int__impl_areNumbers_1)]) (types_ok types_checked) (by simp only [List.forall_mem_cons]; exact ⟨⟨ok_impl_areNumbers_1, cal_impl_areNumbers_1⟩, ⟨ok_slices_ContainsFunc_int__impl_areNumbers_1, cal_slices_ContainsFunc_int__impl_areNumbers_1⟩, fun x hx => by cases hx⟩)) ?_
  intro l hin hp
  exact ⟨trivial, by rw [Bool.not_not]⟩

theorem itoa_bound (n : Int) (h : (-9223372036854775808 : Int) ≤ n ∧ n ≤ (9223372036854775807 : Int)) : (Lib.itoa n).length ≤ 21 := Lib.itoa_length_le n h.1 h.2
theorem le_max {n : Nat} (h : n ≤ 9000000) : n ≤ maxLen := by rw [maxLen_eq]; omega

theorem ok_spec_FormatAction : ConOK prog G n_spec_FormatAction con_spec_FormatAction := by
  refine wk_spec_FormatAction (env_of (l := [(n_spec_FormatInt, .pure con_spec_FormatInt), (n_spec_IsValidAction, .pure con_spec_IsValidAction), (n_spec_IsValidString, .pure con_spec_IsValidString), (n_spec_l01In, .pure con_spec_l01In)]) (types_ok types_checked) (by simp only [List.forall_mem_cons]; exact ⟨⟨ok_spec_FormatInt, cal_spec_FormatInt⟩, ⟨ok_spec_IsValidAction, cal_spec_IsValidAction⟩, ⟨ok_spec_IsValidString, cal_spec_IsValidString⟩, ⟨ok_spec_l01In, cal_spec_l01In⟩, fun x hx => by cases hx⟩)) ?_
  intro k u c n a hin hp
  have hn : n.length ≤ 1048576 := hp
  have hu := itoa_bound u hin.1.2.1
  have ha := itoa_bound a hin.1.2.2.2.2.1
  refine ⟨trivial, ?_⟩
  intro r0
  refine ⟨trivial, ?_⟩
  intro r1
  refine ⟨trivial, ?_⟩
  have e0 : Sp.isUint u = r0 := rfl
  have e1 : Sp.isUint a = r1 := rfl
  unfold Sp.actionText
  rw [e0, e1]
  clear_value r0 r1
  cases hv : Sp.validAct k c.length with
  | false => exact ⟨fun _ => False, ⟨trivial, rfl⟩, fun _ h => h.elim⟩
  | true =>
  refine ⟨fun _ => (decide ((c.length : Int) > 0) && decide (k > 2)) = false, ⟨trivial, ?_⟩, fun _ hj => ?_⟩
  · cases decide ((c.length : Int) > 0) <;> cases decide (k > 2) <;> first | exact rfl | exact ⟨rfl, rfl⟩
  simp only [hj, Bool.not_true, cond_false]
  clear hj hv hp hin
  refine join_intro ((((k == 1) && (r0 && ((a == 0) && (n == [])))), ()), ()) (by cases (k == 1) <;> cases r0 <;> cases (a == 0) <;> exact ⟨by trivial, rfl⟩) ?_
  refine cond_intro (fun h => ?_) fun h => ?_
  · have h : ((k == 1) && (r0 && ((a == 0) && (n == [])))) = true := h
    simp only [h, cond_true]
    exact ⟨trivial, le_max (by simp only [List.length_append, List.length_cons, List.length_nil]; omega), trivial⟩
  replace h : ((k == 1) && (r0 && ((a == 0) && (n == [])))) = false := h
  simp only [h, cond_false]
  clear h
  refine join_intro ((((k == 2) && (r0 && (r1 && (n == [])))), ()), ()) (by cases (k == 2) <;> cases r0 <;> cases r1 <;> exact ⟨by trivial, rfl⟩) ?_
  refine cond_intro (fun h => ?_) fun h => ?_
  · have h : ((k == 2) && (r0 && (r1 && (n == [])))) = true := h
    simp only [h, cond_true]
    exact ⟨trivial, le_max (by simp only [List.length_append, List.length_cons, List.length_nil]; omega), le_max (by simp only [List.length_append, List.length_cons, List.length_nil]; omega), trivial, le_max (by simp only [List.length_append, List.length_cons, List.length_nil]; omega), trivial⟩
  replace h : ((k == 2) && (r0 && (r1 && (n == [])))) = false := h
  simp only [h, cond_false]
  clear h
  refine join_intro ((((k == 3) && (r0 && ((Sp.validStr n) && (a == 0)))), ()), ()) (by cases (k == 3) <;> cases r0 <;> cases (Sp.validStr n) <;> exact ⟨by trivial, rfl⟩) ?_
  refine cond_intro (fun h => ?_) fun h => ?_
  · have h : ((k == 3) && (r0 && ((Sp.validStr n) && (a == 0)))) = true := h
    simp only [h, cond_true]
    exact ⟨trivial, le_max (by simp only [List.length_append, List.length_cons, List.length_nil]; omega), le_max (by simp only [List.length_append, List.length_cons, List.length_nil]; omega), le_max (by simp only [List.length_append, List.length_cons, List.length_nil]; omega), trivial⟩
  replace h : ((k == 3) && (r0 && ((Sp.validStr n) && (a == 0)))) = false := h
  simp only [h, cond_false]
  clear h
  refine join_intro ((((k == 4) && ((u == 0) && (r1 && (n == [])))), ()), ()) (by cases (k == 4) <;> cases (u == 0) <;> cases r1 <;> exact ⟨by trivial, rfl⟩) ?_
  refine cond_intro (fun h => ?_) fun h => ?_
  · have h : ((k == 4) && ((u == 0) && (r1 && (n == [])))) = true := h
    simp only [h, cond_true]
    exact ⟨trivial, le_max (by simp only [List.length_append, List.length_cons, List.length_nil]; omega), trivial⟩
  replace h : ((k == 4) && ((u == 0) && (r1 && (n == [])))) = false := h
  simp only [h, cond_false]
  clear h
  refine join_intro ((((k == 5) && ((u == 0) && (r1 && (n == [])))), ()), ()) (by cases (k == 5) <;> cases (u == 0) <;> cases r1 <;> exact ⟨by trivial, rfl⟩) ?_
  refine cond_intro (fun h => ?_) fun h => ?_
  · have h : ((k == 5) && ((u == 0) && (r1 && (n == [])))) = true := h
    simp only [h, cond_true]
    exact ⟨trivial, le_max (by simp only [List.length_append, List.length_cons, List.length_nil]; omega), trivial⟩
  replace h : ((k == 5) && ((u == 0) && (r1 && (n == [])))) = false := h
  simp only [h, cond_false]
  clear h
  refine join_intro ((((k == 6) && ((u == 0) && ((a == 0) && (n == [])))), ()), ()) (by cases (k == 6) <;> cases (u == 0) <;> cases (a == 0) <;> exact ⟨by trivial, rfl⟩) ?_
  refine cond_intro (fun h => ?_) fun h => ?_
  · have h : ((k == 6) && ((u == 0) && ((a == 0) && (n == [])))) = true := h
    simp only [h, cond_true]
  replace h : ((k == 6) && ((u == 0) && ((a == 0) && (n == [])))) = false := h
  simp only [h, cond_false]
  clear h
  refine join_intro ((((k == 7) && (r0 && (r1 && (Sp.validStr n)))), ()), ()) (by cases (k == 7) <;> cases r0 <;> cases r1 <;> exact ⟨by trivial, rfl⟩) ?_
  refine cond_intro (fun h => ?_) fun h => ?_
  · have h : ((k == 7) && (r0 && (r1 && (Sp.validStr n)))) = true := h
    simp only [h, cond_true]
    exact ⟨trivial, le_max (by simp only [List.length_append, List.length_cons, List.length_nil]; omega), le_max (by simp only [List.length_append, List.length_cons, List.length_nil]; omega), le_max (by simp only [List.length_append, List.length_cons, List.length_nil]; omega), le_max (by simp only [List.length_append, List.length_cons, List.length_nil]; omega), trivial, le_max (by simp only [List.length_append, List.length_cons, List.length_nil]; omega), trivial⟩
  replace h : ((k == 7) && (r0 && (r1 && (Sp.validStr n)))) = false := h
  simp only [h, cond_false]
  clear h
  refine join_intro ((((k == 8) && (r0 && (r1 && (Sp.validStr n)))), ()), ()) (by cases (k == 8) <;> cases r0 <;> cases r1 <;> exact ⟨by trivial, rfl⟩) ?_
  refine cond_intro (fun h => ?_) fun h => ?_
  · have h : ((k == 8) && (r0 && (r1 && (Sp.validStr n)))) = true := h
    simp only [h, cond_true]
    exact ⟨trivial, le_max (by simp only [List.length_append, List.length_cons, List.length_nil]; omega), le_max (by simp only [List.length_append, List.length_cons, List.length_nil]; omega), le_max (by simp only [List.length_append, List.length_cons, List.length_nil]; omega), le_max (by simp only [List.length_append, List.length_cons, List.length_nil]; omega), trivial, le_max (by simp only [List.length_append, List.length_cons, List.length_nil]; omega), trivial⟩
  replace h : ((k == 8) && (r0 && (r1 && (Sp.validStr n)))) = false := h
  simp only [h, cond_false]

theorem join2 (x y : List UInt8) : Lib.join [x, y] [32] = x ++ [32] ++ y := by simp [Lib.join_cons, Lib.joinTail]
theorem join3 (x y z : List UInt8) : Lib.join [x, y, z] [32] = x ++ [32] ++ y ++ [32] ++ z := by simp [Lib.join_cons, Lib.joinTail]
theorem join4 (x y z w : List UInt8) : Lib.join [x, y, z, w] [32] = x ++ [32] ++ y ++ [32] ++ z ++ [32] ++ w := by simp [Lib.join_cons, Lib.joinTail]
theorem join1 (x : List UInt8) : Lib.join [x] [32] = x := by simp [Lib.join_cons, Lib.joinTail]

theorem bne_of {α : Type} [BEq α] [LawfulBEq α] {x y : α} (h : x ≠ y) : (x == y) = false ∧ (y == x) = false ∧ (x != y) = true ∧ (y != x) = true := by
  have h1 : (x == y) = false := by simpa using h
  have h2 : (y == x) = false := by simpa using Ne.symm h
  exact ⟨h1, h2, by simp [bne, h1], by simp [bne, h2]⟩
theorem ok_impl_FormatAction : ConOK prog G n_impl_FormatAction con_impl_FormatAction := by
  refine wk_impl_FormatAction (env_of (l := [(n_strings_Join, .pure con_strings_Join), (n_impl_IsValidString, .pure con_impl_IsValidString), (n_impl_areNumbers, .pure con_impl_areNumbers), (n_impl_IsValidAction, .pure con_impl_IsValidAction), (n_impl_FormatInt, .pure con_impl_FormatInt)]) (types_ok types_checked) (by simp only [List.forall_mem_cons]; exact ⟨⟨ok_strings_Join, cal_strings_Join⟩, ⟨ok_impl_IsValidString, cal_impl_IsValidString⟩, ⟨ok_impl_areNumbers, cal_impl_areNumbers⟩, ⟨ok_impl_IsValidAction, cal_impl_IsValidAction⟩, ⟨ok_impl_FormatInt, cal_impl_FormatInt⟩, fun x hx => by cases hx⟩)) ?_
  intro k u c n a hin hp
  have hn : n.length ≤ 1048576 := hp
  have hu := itoa_bound u hin.1.2.1
  have ha := itoa_bound a hin.1.2.2.2.2.1
  clear hin hp
  have eU : Sp.areUints [(u, ()), (a, ())] = (Sp.isUint u && Sp.isUint a) := by simp [Sp.areUints]
  have i0 : Sp.isUint 0 = true := rfl
  by_cases k1 : k = 1
  · subst k1
    simp only [VC_impl_FormatAction, Int.reduceBEq, cond_true, cond_false]
    refine join_intro _ ⟨by trivial, by trivial, rfl⟩ (join_intro _ ⟨by trivial, rfl⟩ (join_intro _ ⟨by trivial, rfl⟩ ⟨trivial, ?_⟩))
    dsimp only
    rw [eU]
    unfold Sp.actionText
    simp only [Int.reduceBEq, Bool.true_and, Bool.false_and, cond_false, Int.reduceGT, decide_true, decide_false, Bool.and_true, Bool.and_false]
    generalize decide ((c.length : Int) > 0) = z
    generalize Sp.validAct 1 c.length = v
    by_cases hn : n = []
    rotate_left
    · cases v <;> cases z <;> simp [hn, bne_of hn]
    subst hn
    by_cases ha : a = 0
    rotate_left
    · cases v <;> cases z <;> simp [ha, bne_of ha]
    subst ha
    simp only [i0, Bool.true_and, Bool.and_true, bne_self_eq_false, beq_self_eq_true, Bool.not_true, cond_false, Bool.not_false, cond_true]
    cases v <;> cases z <;> cases (Sp.isUint u) <;> simp only [Bool.not_true, Bool.not_false, cond_true, cond_false, true_and, Bool.and_true, Bool.and_false, Bool.true_and] <;> first
      | rfl
      | exact ⟨⟨by show 2 ≤ 140737488355328; omega, by show (Lib.join [_, _] [32]).length ≤ _; rw [join2]; simp only [List.length_append, List.length_cons, List.length_nil] <;> omega⟩, by show (Lib.join [_, _] [32], ()) = _; rw [join2]; rfl⟩
  by_cases k2 : k = 2
  · subst k2
    simp only [VC_impl_FormatAction, Int.reduceBEq, cond_true, cond_false]
    refine join_intro _ ⟨by trivial, by trivial, by trivial, rfl⟩ (join_intro _ ⟨by trivial, rfl⟩ (join_intro _ ⟨by trivial, rfl⟩ ⟨trivial, ?_⟩))
    dsimp only
    rw [eU]
    unfold Sp.actionText
    simp only [Int.reduceBEq, Bool.true_and, Bool.false_and, cond_false, Int.reduceGT, decide_true, decide_false, Bool.and_true, Bool.and_false]
    generalize decide ((c.length : Int) > 0) = z
    generalize Sp.validAct 2 c.length = v
    by_cases hn : n = []
    rotate_left
    · cases v <;> cases z <;> simp [hn, bne_of hn]
    subst hn
    simp only [i0, Bool.true_and, Bool.and_true, bne_self_eq_false, beq_self_eq_true, Bool.not_true, cond_false, Bool.not_false, cond_true]
    cases v <;> cases z <;> cases (Sp.isUint u) <;> cases (Sp.isUint a) <;> simp only [Bool.not_true, Bool.not_false, cond_true, cond_false, true_and, Bool.and_true, Bool.and_false, Bool.true_and] <;> first
      | rfl
      | exact ⟨⟨by show 3 ≤ 140737488355328; omega, by show (Lib.join [_, _, _] [32]).length ≤ _; rw [join3]; simp only [List.length_append, List.length_cons, List.length_nil] <;> omega⟩, by show (Lib.join [_, _, _] [32], ()) = _; rw [join3]; rfl⟩
  by_cases k3 : k = 3
  · subst k3
    simp only [VC_impl_FormatAction, Int.reduceBEq, cond_true, cond_false]
    refine join_intro _ ⟨by trivial, by trivial, rfl⟩ (join_intro _ ⟨by trivial, rfl⟩ (join_intro _ ⟨by trivial, rfl⟩ ⟨trivial, ?_⟩))
    dsimp only
    rw [eU]
    unfold Sp.actionText
    simp only [Int.reduceBEq, Bool.true_and, Bool.false_and, cond_false, Int.reduceGT, decide_true, decide_false, Bool.and_true, Bool.and_false]
    generalize decide ((c.length : Int) > 0) = z
    generalize Sp.validAct 3 c.length = v
    by_cases ha : a = 0
    rotate_left
    · cases v <;> cases z <;> simp [ha, bne_of ha]
    subst ha
    simp only [i0, Bool.true_and, Bool.and_true, bne_self_eq_false, beq_self_eq_true, Bool.not_true, cond_false, Bool.not_false, cond_true]
    cases v <;> cases z <;> cases (Sp.isUint u) <;> cases (Sp.validStr n) <;> simp only [Bool.not_true, Bool.not_false, cond_true, cond_false, true_and, Bool.and_true, Bool.and_false, Bool.true_and] <;> first
      | rfl
      | exact ⟨⟨by show 3 ≤ 140737488355328; omega, by show (Lib.join [_, _, _] [32]).length ≤ _; rw [join3]; simp only [List.length_append, List.length_cons, List.length_nil] <;> omega⟩, by show (Lib.join [_, _, _] [32], ()) = _; rw [join3]; rfl⟩
  by_cases k4 : k = 4
  · subst k4
    simp only [VC_impl_FormatAction, Int.reduceBEq, cond_true, cond_false]
    refine join_intro _ ⟨by trivial, by trivial, rfl⟩ (join_intro _ ⟨by trivial, rfl⟩ (join_intro _ ⟨by trivial, rfl⟩ ⟨trivial, ?_⟩))
    dsimp only
    rw [eU]
    unfold Sp.actionText
    simp only [Int.reduceBEq, Bool.true_and, Bool.false_and, cond_false, Int.reduceGT, decide_true, decide_false, Bool.and_true, Bool.and_false]
    generalize decide ((c.length : Int) > 0) = z
    generalize Sp.validAct 4 c.length = v
    by_cases hu : u = 0
    rotate_left
    · cases v <;> cases z <;> simp [hu, bne_of hu]
    subst hu
    by_cases hn : n = []
    rotate_left
    · cases v <;> cases z <;> simp [hn, bne_of hn]
    subst hn
    simp only [i0, Bool.true_and, Bool.and_true, bne_self_eq_false, beq_self_eq_true, Bool.not_true, cond_false, Bool.not_false, cond_true]
    cases v <;> cases z <;> cases (Sp.isUint a) <;> simp only [Bool.not_true, Bool.not_false, cond_true, cond_false, true_and, Bool.and_true, Bool.and_false, Bool.true_and] <;> first
      | rfl
      | exact ⟨⟨by show 2 ≤ 140737488355328; omega, by show (Lib.join [_, _] [32]).length ≤ _; rw [join2]; simp only [List.length_append, List.length_cons, List.length_nil] <;> omega⟩, by show (Lib.join [_, _] [32], ()) = _; rw [join2]; rfl⟩
  by_cases k5 : k = 5
  · subst k5
    simp only [VC_impl_FormatAction, Int.reduceBEq, cond_true, cond_false]
    refine join_intro _ ⟨by trivial, ⟨by decide, by simp⟩, by simp, by trivial, rfl⟩ (join_intro _ ⟨by trivial, rfl⟩ (join_intro _ ⟨by trivial, rfl⟩ ⟨trivial, ?_⟩))
    dsimp only
    rw [eU]
    unfold Sp.actionText
    simp only [Int.reduceBEq, Bool.true_and, Bool.false_and, cond_false, Int.reduceGT, decide_true, decide_false, Bool.and_true, Bool.and_false]
    generalize decide ((c.length : Int) > 0) = z
    generalize Sp.validAct 5 c.length = v
    by_cases hu : u = 0
    rotate_left
    · cases v <;> cases z <;> simp [hu, bne_of hu]
    subst hu
    by_cases hn : n = []
    rotate_left
    · cases v <;> cases z <;> simp [hn, bne_of hn]
    subst hn
    simp only [i0, Bool.true_and, Bool.and_true, bne_self_eq_false, beq_self_eq_true, Bool.not_true, cond_false, Bool.not_false, cond_true]
    cases v <;> cases z <;> cases (Sp.isUint a) <;> simp only [Bool.not_true, Bool.not_false, cond_true, cond_false, true_and, Bool.and_true, Bool.and_false, Bool.true_and] <;> first
      | rfl
      | exact ⟨⟨by show 2 ≤ 140737488355328; omega, by show (Lib.join [_, _] [32]).length ≤ _; rw [join2]; simp only [List.length_append, List.length_cons, List.length_nil] <;> omega⟩, by show (Lib.join [_, _] [32], ()) = _; rw [join2]; rfl⟩
  by_cases k6 : k = 6
  · subst k6
    simp only [VC_impl_FormatAction, Int.reduceBEq, cond_true, cond_false]
    refine join_intro _ ⟨by trivial, rfl⟩ (join_intro _ ⟨by trivial, rfl⟩ (join_intro _ ⟨by trivial, rfl⟩ ⟨trivial, ?_⟩))
    dsimp only
    rw [eU]
    unfold Sp.actionText
    simp only [Int.reduceBEq, Bool.true_and, Bool.false_and, cond_false, Int.reduceGT, decide_true, decide_false, Bool.and_true, Bool.and_false]
    generalize decide ((c.length : Int) > 0) = z
    generalize Sp.validAct 6 c.length = v
    by_cases hu : u = 0
    rotate_left
    · cases v <;> cases z <;> simp [hu, bne_of hu]
    subst hu
    by_cases hn : n = []
    rotate_left
    · cases v <;> cases z <;> simp [hn, bne_of hn]
    subst hn
    by_cases ha : a = 0
    rotate_left
    · cases v <;> cases z <;> simp [ha, bne_of ha]
    subst ha
    simp only [i0, Bool.true_and, Bool.and_true, bne_self_eq_false, beq_self_eq_true, Bool.not_true, cond_false, Bool.not_false, cond_true]
    cases v <;> cases z <;> simp only [Bool.not_true, Bool.not_false, cond_true, cond_false, true_and, Bool.and_true, Bool.and_false, Bool.true_and] <;> first
      | rfl
      | exact ⟨⟨by show 1 ≤ 140737488355328; omega, by show (Lib.join [_] [32]).length ≤ _; rw [join1]; simp only [List.length_append, List.length_cons, List.length_nil] <;> omega⟩, by show (Lib.join [_] [32], ()) = _; rw [join1]⟩
  by_cases k7 : k = 7
  · subst k7
    simp only [VC_impl_FormatAction, Int.reduceBEq, cond_true, cond_false]
    refine join_intro _ ⟨by trivial, by trivial, by trivial, rfl⟩ (join_intro _ ⟨by trivial, rfl⟩ (join_intro _ ⟨by trivial, rfl⟩ ⟨trivial, ?_⟩))
    dsimp only
    rw [eU]
    unfold Sp.actionText
    simp only [Int.reduceBEq, Bool.true_and, Bool.false_and, cond_false, Int.reduceGT, decide_true, decide_false, Bool.and_true, Bool.and_false]
    generalize decide ((c.length : Int) > 0) = z
    generalize Sp.validAct 7 c.length = v
    simp only [i0, Bool.true_and, Bool.and_true, bne_self_eq_false, beq_self_eq_true, Bool.not_true, cond_false, Bool.not_false, cond_true]
    cases v <;> cases z <;> cases (Sp.isUint u) <;> cases (Sp.isUint a) <;> cases (Sp.validStr n) <;> simp only [Bool.not_true, Bool.not_false, cond_true, cond_false, true_and, Bool.and_true, Bool.and_false, Bool.true_and] <;> first
      | rfl
      | exact ⟨⟨by show 4 ≤ 140737488355328; omega, by show (Lib.join [_, _, _, _] [32]).length ≤ _; rw [join4]; simp only [List.length_append, List.length_cons, List.length_nil] <;> omega⟩, by show (Lib.join [_, _, _, _] [32], ()) = _; rw [join4]; rfl⟩
  by_cases k8 : k = 8
  · subst k8
    simp only [VC_impl_FormatAction, Int.reduceBEq, cond_true, cond_false]
    refine join_intro _ ⟨by trivial, by trivial, by trivial, rfl⟩ (join_intro _ ⟨by trivial, rfl⟩ (join_intro _ ⟨by trivial, rfl⟩ ⟨trivial, ?_⟩))
    dsimp only
    rw [eU]
    unfold Sp.actionText
    simp only [Int.reduceBEq, Bool.true_and, Bool.false_and, cond_false, Int.reduceGT, decide_true, decide_false, Bool.and_true, Bool.and_false]
    generalize decide ((c.length : Int) > 0) = z
    generalize Sp.validAct 8 c.length = v
    simp only [i0, Bool.true_and, Bool.and_true, bne_self_eq_false, beq_self_eq_true, Bool.not_true, cond_false, Bool.not_false, cond_true]
    cases v <;> cases z <;> cases (Sp.isUint u) <;> cases (Sp.isUint a) <;> cases (Sp.validStr n) <;> simp only [Bool.not_true, Bool.not_false, cond_true, cond_false, true_and, Bool.and_true, Bool.and_false, Bool.true_and] <;> first
      | rfl
      | exact ⟨⟨by show 4 ≤ 140737488355328; omega, by show (Lib.join [_, _, _, _] [32]).length ≤ _; rw [join4]; simp only [List.length_append, List.length_cons, List.length_nil] <;> omega⟩, by show (Lib.join [_, _, _, _] [32], ()) = _; rw [join4]; rfl⟩
  have hv : Sp.validAct k c.length = false := by
    unfold Sp.validAct
    by_cases h1 : 1 ≤ k
    · by_cases h2 : k ≤ 8
      · omega
      · simp [h2]
    · simp [h1]
  simp only [VC_impl_FormatAction, bne_of k1, bne_of k2, bne_of k3, bne_of k4, bne_of k5, bne_of k6, bne_of k7, bne_of k8, cond_false]
  refine join_intro _ ⟨by trivial, rfl⟩ (join_intro _ ⟨by trivial, rfl⟩ (join_intro _ ⟨by trivial, rfl⟩ ⟨trivial, ?_⟩))
  unfold Sp.actionText
  rw [hv]
  rfl

theorem le_big {n : Nat} (h : n ≤ 1048576) : n ≤ big := by rw [big_eq]; omega
theorem szLen_big {n : Nat} (h : ¬ Sp.szLen n 1048576 < 0) : n ≤ 1048576 := by
  unfold Sp.szLen at h
  split at h <;> omega

end Go.Proofs.Tryd


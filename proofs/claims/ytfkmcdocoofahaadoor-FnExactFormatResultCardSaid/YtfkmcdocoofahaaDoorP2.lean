import Derived.Test.YtfkmcdocoofahaaDoorP1
namespace Go.Proofs.Tryd
open Go Go.Fw Go.IntWalk

theorem inRange_ok {l : List (Int × Unit)} (h : ∀ (x : Int × Unit), x ∈ l → ((-9223372036854775808 : Int) ≤ x.fst ∧ x.fst ≤ (9223372036854775807 : Int)) ∧ True) : Sp.i64Ok l := fun x hx => (h x hx).1
theorem tmod_nonneg_eq {c : Int} (h : ¬ c.tmod 10 < 0) : c.tmod 10 = ((c.natAbs % 10 : Nat) : Int) := by
  have : (c.tmod 10).natAbs = c.natAbs % 10 := Int.natAbs_tmod c 10
  omega
theorem tmod_neg_eq {c : Int} (h : c.tmod 10 < 0) : 0 - c.tmod 10 = ((c.natAbs % 10 : Nat) : Int) := by
  have : (c.tmod 10).natAbs = c.natAbs % 10 := Int.natAbs_tmod c 10
  omega
theorem digit_row (k : Nat) : byteRow [((48 : Int) + (k : Int), ())] = [UInt8.ofNat (48 + k)] := by
  have : ((48 : Int) + (k : Int)).toNat = 48 + k := by omega
  simp [byteRow, u8of, this]
/-- One figure more. -/
theorem digit_step {n c : Nat} {s : List UInt8} (hc : c ≠ 0) (hJ : Lib.decDigits n = (if c = 0 then [] else Lib.decDigits c) ++ s) :
    Lib.decDigits n = (if c / 10 = 0 then [] else Lib.decDigits (c / 10)) ++ (UInt8.ofNat (48 + c % 10) :: s) := by
  rw [hJ, if_neg hc, Sp.decDigits_step c]
  simp

theorem ok_spec_FormatInt : ConOK prog G n_spec_FormatInt con_spec_FormatInt := by
  refine wk_spec_FormatInt (env_of (l := [(n_spec_l01Figure, con_spec_l01Figure)]) (types_ok types_checked) (by simp only [List.forall_mem_cons]; exact ⟨⟨ok_spec_l01Figure, cal_spec_l01Figure⟩, fun x hx => by cases hx⟩)) ?_
  intro n hin hp
  have h0 : (-9223372036854775808 : Int) ≤ n ∧ n ≤ 9223372036854775807 := hin.1
  have hL := Lib.itoa_length_le n h0.1 h0.2
  have hD : (Lib.decDigits n.natAbs).length ≤ 21 := by
    unfold Lib.itoa at hL
    split at hL
    · simp at hL; omega
    · rw [show n.natAbs = n.toNat by omega]; exact hL
  refine cond_intro (fun h => ?_) fun h => ?_
  · have : n = 0 := by simpa using h
    subst this; simp [Lib.itoa, Lib.decDigits]
  · have hn0 : n ≠ 0 := by simpa using h
    refine ⟨fun y => -9223372036854775808 ≤ y.1.1 ∧ y.1.1 ≤ 9223372036854775807 ∧ Lib.decDigits n.natAbs = (if y.1.1.natAbs = 0 then [] else Lib.decDigits y.1.1.natAbs) ++ y.1.2.1, fun y => y.1.1.natAbs, ⟨h0.1, h0.2, ?_⟩, ?_⟩
    · show _ = (if n.natAbs = 0 then _ else _) ++ _
      rw [if_neg (by omega)]; simp
    rintro ⟨⟨c, s, ⟨⟩⟩, ⟨⟩⟩ ⟨hc1, hc2, hJ⟩
    dsimp only at hc1 hc2 hJ ⊢
    have hs : s.length ≤ 21 := by
      rw [hJ, List.length_append] at hD; omega
    have hq : (c.tdiv 10).natAbs = c.natAbs / 10 := Int.natAbs_tdiv c 10
    have hrow : ∀ k : Nat, (byteRow [((48 : Int) + (k : Int), ())]).length = 1 := fun k => by rw [digit_row]; rfl
    refine cond_intro (fun h => ?_) fun h => ?_
    · have hc : c.natAbs ≠ 0 := by simp at h; omega
      have hstep := digit_step hc hJ
      have hm : c.natAbs % 10 < 10 := Nat.mod_lt _ (by decide)
      have hlt : c.natAbs / 10 < c.natAbs := Nat.div_lt_self (by omega) (by decide)
      have hw : IntKind.i64.wrap (c.tdiv 10) = c.tdiv 10 := wrapIn _ (by omega)
      refine ⟨by decide, cond_intro (fun hd => ?_) fun hd => ?_⟩ <;> simp only [decide_eq_true_eq, decide_eq_false_iff_not] at hd
      · have e := tmod_neg_eq hd
        rw [wrapIn (0 - c.tmod 10) (by omega), e, hw, digit_row]
        refine ⟨⟨by omega, by omega⟩, by simp only [List.length_cons, List.length_nil]; rw [maxLen_eq]; omega, by decide, rfl, ⟨by omega, by omega, ?_⟩, ?_⟩
        · show _ = (if (c.tdiv 10).natAbs = 0 then [] else Lib.decDigits (c.tdiv 10).natAbs) ++ _
          rw [hq]; exact hstep
        · show (c.tdiv 10).natAbs < c.natAbs
          rw [hq]; exact hlt
      · have e := tmod_nonneg_eq hd
        rw [e, hw, digit_row]
        refine ⟨⟨by omega, by omega⟩, by simp only [List.length_cons, List.length_nil]; rw [maxLen_eq]; omega, by decide, rfl, ⟨by omega, by omega, ?_⟩, ?_⟩
        · show _ = (if (c.tdiv 10).natAbs = 0 then [] else Lib.decDigits (c.tdiv 10).natAbs) ++ _
          rw [hq]; exact hstep
        · show (c.tdiv 10).natAbs < c.natAbs
          rw [hq]; exact hlt
    · have hc : c = 0 := by simpa using h
      subst hc
      have hJ : Lib.decDigits n.natAbs = s := by simpa using hJ
      subst hJ
      refine cond_intro (fun hd => ?_) fun hd => ?_ <;> simp only [decide_eq_true_eq, decide_eq_false_iff_not] at hd
      · refine ⟨by simp only [List.length_cons, List.length_nil]; rw [maxLen_eq]; omega, ?_⟩
        rw [Lib.itoa, if_pos hd]; rfl
      · rw [Lib.itoa, if_neg hd, show n.toNat = n.natAbs by omega]

theorem ok_spec_FormatEvent : ConOK prog G n_spec_FormatEvent con_spec_FormatEvent := by
  refine wk_spec_FormatEvent (env_of (l := [(n_spec_FormatInt, con_spec_FormatInt)]) (types_ok types_checked) (by simp only [List.forall_mem_cons]; exact ⟨⟨ok_spec_FormatInt, cal_spec_FormatInt⟩, fun x hx => by cases hx⟩)) ?_
  intro v a r hin hp
  obtain ⟨ha, hr⟩ := hp
  have oka : Sp.i64Ok a := inRange_ok hin.1.2.1.2
  have okr : Sp.i64Ok r := inRange_ok hin.1.2.2.1.2
  have hv := Lib.itoa_length_le v hin.1.1.1 hin.1.1.2
  refine ⟨trivial, fun y => ∃ n : Nat, y.1.2.1 = n ∧ n ≤ a.length ∧ y.1.1 = Lib.itoa v ++ Sp.marked [32, 43] (a.take n), fun y => ((a.length : Int) - y.1.2.1).toNat, ⟨0, rfl, by omega, by simp [Sp.marked]⟩, ?_⟩
  rintro ⟨⟨_, _, ⟨⟩⟩, ⟨⟩⟩ ⟨n, rfl, hn, rfl⟩
  dsimp only
  have hl := Sp.marked_take_len [32, 43] a oka n 1048576 (by omega)
  have hl2 := Sp.marked_take_len [32, 43] a oka a.length 1048576 (by omega)
  simp only [List.length_cons, List.length_nil] at hl hl2
  refine cond_intro (fun h => ?_) fun h => ?_ <;> simp only [decide_eq_true_eq, decide_eq_false_iff_not] at h
  · have hlt : n < a.length := by omega
    have hg := oka.get hlt (0, ())
    rw [wrapIn _ (by omega), Int.toNat_natCast]
    refine ⟨by simp only [List.length_append, List.length_cons, List.length_nil]; rw [maxLen_eq]; omega, ⟨by omega, by omega⟩, trivial, by simp only [List.length_append, List.length_cons, List.length_nil]; rw [maxLen_eq]; omega, rfl, ⟨n + 1, by simp, by omega, ?_⟩, by omega⟩
    rw [Sp.marked_succ _ _ _ (0, ()) hlt]; simp
  · have hge : n = a.length := by omega
    subst hge
    rw [List.take_length] at hl ⊢
    refine ⟨fun y => ∃ n : Nat, y.1.2.1 = n ∧ n ≤ r.length ∧ y.1.1 = Lib.itoa v ++ Sp.marked [32, 43] a ++ Sp.marked [32, 45] (r.take n), fun y => ((r.length : Int) - y.1.2.1).toNat, ⟨0, rfl, by omega, by simp [Sp.marked]⟩, ?_⟩
    rintro ⟨⟨_, _, ⟨⟩⟩, ⟨⟩⟩ ⟨n, rfl, hn, rfl⟩
    dsimp only
    have hl3 := Sp.marked_take_len [32, 45] r okr n 1048576 (by omega)
    simp only [List.length_cons, List.length_nil] at hl3
    refine cond_intro (fun h => ?_) fun h => ?_ <;> simp only [decide_eq_true_eq, decide_eq_false_iff_not] at h
    · have hlt : n < r.length := by omega
      have hg := okr.get hlt (0, ())
      rw [wrapIn _ (by omega), Int.toNat_natCast]
      refine ⟨by simp only [List.length_append, List.length_cons, List.length_nil]; rw [maxLen_eq]; omega, ⟨by omega, by omega⟩, trivial, by simp only [List.length_append, List.length_cons, List.length_nil]; rw [maxLen_eq]; omega, rfl, ⟨n + 1, by simp, by omega, ?_⟩, by omega⟩
      rw [Sp.marked_succ _ _ _ (0, ()) hlt]; simp
    · have hge : n = r.length := by omega
      subst hge
      rw [List.take_length]; rfl

theorem ok_impl_FormatEvent : ConOK prog G n_impl_FormatEvent con_impl_FormatEvent := by
  refine wk_impl_FormatEvent (env_of (l := [(n_impl_FormatInt, con_impl_FormatInt)]) (types_ok types_checked) (by simp only [List.forall_mem_cons]; exact ⟨⟨ok_impl_FormatInt, cal_impl_FormatInt⟩, fun x hx => by cases hx⟩)) ?_
  intro v a r hin hp
  obtain ⟨ha, hr⟩ := hp
  have oka : Sp.i64Ok a := inRange_ok hin.1.2.1.2
  have okr : Sp.i64Ok r := inRange_ok hin.1.2.2.1.2
  have hv := Lib.itoa_length_le v hin.1.1.1 hin.1.1.2
  refine ⟨trivial, fun y => ∃ n : Nat, y.1.2.1 = n ∧ n ≤ a.length ∧ y.1.1 = Lib.itoa v ++ Sp.marked [32, 43] (a.take n), fun y => ((a.length : Int) - y.1.2.1).toNat, ⟨0, rfl, by omega, by simp [Sp.marked]⟩, ?_⟩
  rintro ⟨⟨_, _, ⟨⟩⟩, ⟨⟩⟩ ⟨n, rfl, hn, rfl⟩
  dsimp only
  have hl := Sp.marked_take_len [32, 43] a oka n 1048576 (by omega)
  have hl2 := Sp.marked_take_len [32, 43] a oka a.length 1048576 (by omega)
  simp only [List.length_cons, List.length_nil] at hl hl2
  refine cond_intro (fun h => ?_) fun h => ?_ <;> simp only [decide_eq_true_eq, decide_eq_false_iff_not] at h
  · have hlt : n < a.length := by omega
    have hg := oka.get hlt (0, ())
    rw [wrapIn _ (by omega), Int.toNat_natCast]
    refine ⟨⟨by omega, by omega⟩, trivial, by simp only [List.length_append, List.length_cons, List.length_nil]; rw [maxLen_eq]; omega, by simp only [List.length_append, List.length_cons, List.length_nil]; rw [maxLen_eq]; omega, rfl, ⟨n + 1, by simp, by omega, ?_⟩, by omega⟩
    rw [Sp.marked_succ _ _ _ (0, ()) hlt]; simp
  · have hge : n = a.length := by omega
    subst hge
    rw [List.take_length] at hl ⊢
    refine ⟨fun y => ∃ n : Nat, y.1.2.1 = n ∧ n ≤ r.length ∧ y.1.1 = Lib.itoa v ++ Sp.marked [32, 43] a ++ Sp.marked [32, 45] (r.take n), fun y => ((r.length : Int) - y.1.2.1).toNat, ⟨0, rfl, by omega, by simp [Sp.marked]⟩, ?_⟩
    rintro ⟨⟨_, _, ⟨⟩⟩, ⟨⟩⟩ ⟨n, rfl, hn, rfl⟩
    dsimp only
    have hl3 := Sp.marked_take_len [32, 45] r okr n 1048576 (by omega)
    simp only [List.length_cons, List.length_nil] at hl3
    refine cond_intro (fun h => ?_) fun h => ?_ <;> simp only [decide_eq_true_eq, decide_eq_false_iff_not] at h
    · have hlt : n < r.length := by omega
      have hg := okr.get hlt (0, ())
      rw [wrapIn _ (by omega), Int.toNat_natCast]
      refine ⟨⟨by omega, by omega⟩, trivial, by simp only [List.length_append, List.length_cons, List.length_nil]; rw [maxLen_eq]; omega, by simp only [List.length_append, List.length_cons, List.length_nil]; rw [maxLen_eq]; omega, rfl, ⟨n + 1, by simp, by omega, ?_⟩, by omega⟩
      rw [Sp.marked_succ _ _ _ (0, ()) hlt]; simp
    · have hge : n = r.length := by omega
      subst hge
      rw [List.take_length]; rfl

theorem ok_spec_FormatIDs : ConOK prog G n_spec_FormatIDs con_spec_FormatIDs := by
  refine wk_spec_FormatIDs (env_of (l := [(n_spec_FormatInt, con_spec_FormatInt)]) (types_ok types_checked) (by simp only [List.forall_mem_cons]; exact ⟨⟨ok_spec_FormatInt, cal_spec_FormatInt⟩, fun x hx => by cases hx⟩)) ?_
  intro a hin hp
  have hp : a.length ≤ 1048576 := hp
  have oka : Sp.i64Ok a := inRange_ok hin.1.2
  refine ⟨fun y => ∃ n : Nat, y.1.2.1 = n ∧ n ≤ a.length ∧ y.1.1 = Sp.idsText (a.take n), fun y => ((a.length : Int) - y.1.2.1).toNat, ⟨0, rfl, by omega, by simp [Sp.idsText]⟩, ?_⟩
  rintro ⟨⟨_, _, ⟨⟩⟩, ⟨⟩⟩ ⟨n, rfl, hn, rfl⟩
  dsimp only
  have hl := Sp.idsText_len (a.take n) (oka.take n)
  have hl2 : (a.take n).length ≤ n := by rw [List.length_take]; omega
  refine cond_intro (fun h => ?_) fun h => ?_ <;> simp only [decide_eq_true_eq, decide_eq_false_iff_not] at h
  · have hlt : n < a.length := by omega
    have hg := oka.get hlt (0, ())
    rw [wrapIn _ (by omega), Int.toNat_natCast]
    have hs := Sp.idsText_pos a n (0, ()) hlt
    refine cond_intro (fun h2 => ?_) fun h2 => ?_ <;> simp only [decide_eq_true_eq, decide_eq_false_iff_not] at h2
    · rw [if_neg (by omega)] at hs
      refine ⟨by simp only [List.length_append, List.length_cons, List.length_nil]; rw [maxLen_eq]; omega, ⟨by omega, by omega⟩, trivial, by simp only [List.length_append, List.length_cons, List.length_nil]; rw [maxLen_eq]; omega, rfl, ⟨n + 1, by simp, by omega, hs.symm⟩, by omega⟩
    · rw [if_pos (by omega)] at hs
      refine ⟨⟨by omega, by omega⟩, trivial, by rw [maxLen_eq]; omega, rfl, ⟨n + 1, by simp, by omega, ?_⟩, by omega⟩
      rw [hs]
      have : n = 0 := by omega
      subst this; simp [Sp.idsText]
  · have hge : n = a.length := by omega
    subst hge
    rw [List.take_length]

theorem ok_impl_FormatIDs : ConOK prog G n_impl_FormatIDs con_impl_FormatIDs := by
  refine wk_impl_FormatIDs (env_of (l := [(n_strings_Join, con_strings_Join), (n_impl_FormatInt, con_impl_FormatInt)]) (types_ok types_checked) (by simp only [List.forall_mem_cons]; exact ⟨⟨ok_strings_Join, cal_strings_Join⟩, ⟨ok_impl_FormatInt, cal_impl_FormatInt⟩, fun x hx => by cases hx⟩)) ?_
  intro a hin hp
  have hp : a.length ≤ 1048576 := hp
  have oka : Sp.i64Ok a := inRange_ok hin.1.2
  refine ⟨fun y => ∃ n : Nat, y.1.1 = n ∧ n ≤ a.length ∧ y.2.1 = (a.take n).map fun x => (Lib.itoa x.1, ()), fun y => ((a.length : Int) - y.1.1).toNat, ⟨0, rfl, by omega, by simp⟩, ?_⟩
  rintro ⟨⟨_, ⟨⟩⟩, _, ⟨⟩⟩ ⟨n, rfl, hn, rfl⟩
  dsimp only
  refine cond_intro (fun h => ?_) fun h => ?_ <;> simp only [decide_eq_true_eq, decide_eq_false_iff_not] at h
  · have hlt : n < a.length := by omega
    rw [wrapIn _ (by omega), Int.toNat_natCast]
    refine ⟨⟨by omega, by omega⟩, trivial, by simp only [List.length_map, List.length_take, List.length_cons, List.length_nil]; rw [big_eq]; omega, rfl, ⟨n + 1, by simp, by omega, ?_⟩, by omega⟩
    rw [Sp.take_succ' a n (0, ()) hlt]; simp
  · have hge : n = a.length := by omega
    subst hge
    rw [List.take_length]
    have e : List.map (fun x : List UInt8 × Unit => x.fst) (a.map fun x => (Lib.itoa x.1, ())) = a.map fun x => Lib.itoa x.1 := by rw [List.map_map]; rfl
    have hl := Sp.idsText_len a oka
    rw [e, Sp.join_ids]
    exact ⟨⟨by rw [List.length_map]; omega, by omega⟩, rfl⟩

theorem ok_spec_l39With : ConOK prog G n_spec_l39With con_spec_l39With := by
  refine wk_spec_l39With (env_of (l := [(n_spec_FormatIDs, con_spec_FormatIDs)]) (types_ok types_checked) (by simp only [List.forall_mem_cons]; exact ⟨⟨ok_spec_FormatIDs, cal_spec_FormatIDs⟩, fun x hx => by cases hx⟩)) ?_
  intro s a hin hp
  obtain ⟨h1, h2⟩ := hp
  have oka : Sp.i64Ok a := inRange_ok hin.2.1.2
  have hl := Sp.idsText_len a oka
  refine cond_intro (fun h => ?_) fun h => ?_
  · have : a = [] := by simpa using h
    subst this; simp [Sp.withIds]
  · have hne : a ≠ [] := by simpa using h
    refine ⟨by simp only [List.length_cons, List.length_nil]; rw [maxLen_eq]; omega, h2, by simp only [List.length_append, List.length_cons, List.length_nil]; rw [maxLen_eq]; omega, ?_⟩
    rw [Sp.withIds, if_neg (by simp [hne])]

theorem ok_impl_withIDs : ConOK prog G n_impl_withIDs con_impl_withIDs := by
  refine wk_impl_withIDs (env_of (l := [(n_impl_FormatIDs, con_impl_FormatIDs)]) (types_ok types_checked) (by simp only [List.forall_mem_cons]; exact ⟨⟨ok_impl_FormatIDs, cal_impl_FormatIDs⟩, fun x hx => by cases hx⟩)) ?_
  intro s a hin hp
  obtain ⟨h1, h2⟩ := hp
  have oka : Sp.i64Ok a := inRange_ok hin.2.1.2
  have hl := Sp.idsText_len a oka
  refine cond_intro (fun h => ?_) fun h => ?_
  · have : a = [] := by simpa using h
    subst this; simp [Sp.withIds]
  · have hne : a ≠ [] := by simpa using h
    refine ⟨by simp only [List.length_cons, List.length_nil]; rw [maxLen_eq]; omega, h2, by simp only [List.length_append, List.length_cons, List.length_nil]; rw [maxLen_eq]; omega, ?_⟩
    rw [Sp.withIds, if_neg (by simp [hne])]

theorem ok_spec_FormatResult : ConOK prog G n_spec_FormatResult con_spec_FormatResult := by
  refine wk_spec_FormatResult (env_of (l := [(n_spec_l39With, con_spec_l39With)]) (types_ok types_checked) (by simp only [List.forall_mem_cons]; exact ⟨⟨ok_spec_l39With, cal_spec_l39With⟩, fun x hx => by cases hx⟩)) ?_
  intro s a hin hp
  exact ⟨hp, rfl⟩

theorem ok_impl_FormatResult : ConOK prog G n_impl_FormatResult con_impl_FormatResult := by
  refine wk_impl_FormatResult (env_of (l := [(n_impl_withIDs, con_impl_withIDs)]) (types_ok types_checked) (by simp only [List.forall_mem_cons]; exact ⟨⟨ok_impl_withIDs, cal_impl_withIDs⟩, fun x hx => by cases hx⟩)) ?_
  intro s a hin hp
  exact ⟨hp, rfl⟩

end Go.Proofs.Tryd


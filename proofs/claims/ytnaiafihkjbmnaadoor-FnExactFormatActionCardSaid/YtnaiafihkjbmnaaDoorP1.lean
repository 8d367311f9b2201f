import Derived.Test.YtnaiafihkjbmnaaDoorV1
import Derived.Test.YtnaiafihkjbmnaaDoorL1
import Derived.Test.YtnaiafihkjbmnaaDoorFwC
namespace Go.Proofs.Tryd
open Go Go.Fw Go.IntWalk

theorem szLen_neg {n : Nat} {left : Int} (h : Sp.szLen n left < 0) : Sp.szLen n left = -1 := by
  unfold Sp.szLen at h ⊢
  split at h
  · rw [if_pos (by assumption)]
  · omega
theorem szLen_le {n : Nat} {left m : Int} (h : left ≤ m) (h0 : -1 ≤ m) : Sp.szLen n left ≤ m := by unfold Sp.szLen; split <;> omega
theorem ok_laws_szIntS : ConOK prog G n_laws_szIntS con_laws_szIntS := by
  refine wk_laws_szIntS (env_of (l := []) (types_ok types_checked) (fun x hx => by cases hx)) ?_
  intro a left hin hp
  obtain ⟨h1, h2⟩ := hp
  have hlen : a.length ≤ maxLen := hin.1.1
  rw [maxLen_eq] at hlen
  simp only [VC_laws_szIntS, Sp.szLen]
  rw [wrapIn _ (by omega)]
  refine cond_intro (fun h => ?_) fun h => ?_ <;> simp only [decide_eq_true_eq, decide_eq_false_iff_not] at h
  · rw [if_pos h]
  · rw [if_neg h]

theorem ok_laws_toIntS : ConOK prog G n_laws_toIntS con_laws_toIntS := by
  refine wk_laws_toIntS (env_of (l := []) (types_ok types_checked) (fun x hx => by cases hx)) ?_
  intro a hin hp
  have hbig : a.length ≤ 4294967296 := hp
  refine ⟨⟨by omega, by omega, by rw [big_eq]; omega⟩, fun y => ∃ n : Nat, y.1.1 = n ∧ n ≤ a.length ∧ y.2.1 = a.take n ++ List.replicate (a.length - n) (0, ()), fun y => ((a.length : Int) - y.1.1).toNat, ⟨0, rfl, by omega, by simp⟩, ?_⟩
  rintro ⟨⟨_, ⟨⟩⟩, l, ⟨⟩⟩ ⟨n, rfl, hn, rfl⟩
  refine cond_intro (fun h => ?_) fun h => ?_ <;> simp only [decide_eq_true_eq, decide_eq_false_iff_not] at h ⊢
  · have hlt : n < a.length := by omega
    rw [wrapIn _ (by omega)]
    have e : (a.take n ++ List.replicate (a.length - n) ((0 : Int), ())).set n ((a.getD n (0, ())).1, ()) = a.take (n + 1) ++ List.replicate (a.length - (n + 1)) (0, ()) := by
      rw [show a.length - n = a.length - (n + 1) + 1 by omega, List.replicate_succ, List.set_append_right _ _ (by rw [List.length_take]; omega), List.length_take, Nat.min_eq_left hn, Nat.sub_self, List.set_cons_zero,
        List.take_succ_eq_append_getElem hlt, List.append_assoc, List.getD_eq_getElem?_getD, List.getElem?_eq_getElem hlt]
      rfl
    refine ⟨⟨by omega, by omega⟩, ⟨by omega, by simp only [List.length_append, List.length_take, List.length_replicate]; omega⟩, by simp only [List.length_append, List.length_take, List.length_replicate]; omega, trivial, ⟨n + 1, by simp, by omega, ?_⟩, by omega⟩
    rw [Int.toNat_natCast, e]
  · have hge : n = a.length := by omega
    subst hge
    simp

theorem ok_laws_eqIntS : ConOK prog G n_laws_eqIntS con_laws_eqIntS := by
  refine wk_laws_eqIntS (env_of (l := []) (types_ok types_checked) (fun x hx => by cases hx)) ?_
  intro a b hin hp
  have hlen : a.length ≤ maxLen := hin.1.1
  rw [maxLen_eq] at hlen
  simp only [VC_laws_eqIntS]
  refine cond_intro (fun h => ?_) fun h => ?_
  · have : a ≠ b := by rintro rfl; simp at h
    rw [decide_eq_false this]
  · have hl : a.length = b.length := by simp at h; omega
    refine ⟨fun y => ∃ n : Nat, y.1.1 = n ∧ n ≤ a.length ∧ a.take n = b.take n, fun y => ((a.length : Int) - y.1.1).toNat, ⟨0, rfl, by omega, by simp⟩, ?_⟩
    rintro ⟨⟨_, ⟨⟩⟩, ⟨⟩⟩ ⟨n, rfl, hn, hJ⟩
    refine cond_intro (fun h => ?_) fun h => ?_ <;> simp only [decide_eq_true_eq, decide_eq_false_iff_not] at h ⊢
    · have hlt : n < a.length := by omega
      have hlt2 : n < b.length := by omega
      rw [wrapIn _ (by omega)]
      refine ⟨⟨by omega, by omega⟩, ⟨by omega, by omega⟩, cond_intro (fun hc => ?_) fun hc => ?_⟩
      · have : a ≠ b := by rintro rfl; simp at hc
        rw [decide_eq_false this]
      · refine ⟨trivial, ⟨n + 1, by simp, by omega, ?_⟩, by omega⟩
        simp only [Int.toNat_natCast, List.getD_eq_getElem?_getD, List.getElem?_eq_getElem hlt, List.getElem?_eq_getElem hlt2, Option.getD_some, bne_eq_false_iff_eq] at hc
        rw [List.take_succ_eq_append_getElem hlt, List.take_succ_eq_append_getElem hlt2, hJ, Prod.ext hc rfl]
    · have hge : n = a.length := by omega
      have : a = b := by
        rw [hge, List.take_length, hl, List.take_length] at hJ; exact hJ
      rw [decide_eq_true this]

theorem ok_impl_FormatInt : ConOK prog G n_impl_FormatInt con_impl_FormatInt := by
  refine wk_impl_FormatInt (env_of (l := [(n_strconv_Itoa, .pure con_strconv_Itoa)]) (types_ok types_checked) (by simp only [List.forall_mem_cons]; exact ⟨⟨ok_strconv_Itoa, cal_strconv_Itoa⟩, fun x hx => by cases hx⟩)) ?_
  intro n hin hp
  exact ⟨hin.1, rfl⟩

theorem ok_spec_l01Figure : ConOK prog G n_spec_l01Figure con_spec_l01Figure := by
  refine wk_spec_l01Figure (env_of (l := []) (types_ok types_checked) (fun x hx => by cases hx)) ?_
  intro x hin hp
  obtain ⟨h0, h1⟩ := hp
  refine cond_intro (fun h => ?_) fun h => ?_ <;> simp only [decide_eq_true_eq, decide_eq_false_iff_not] at h
  · rw [i64_in (48 + x) (by omega), u8_in (48 + x) (by omega)]
  · omega

theorem ok_laws_szEvent : ConOK prog G n_laws_szEvent con_laws_szEvent := by
  refine wk_laws_szEvent (env_of (l := [(n_laws_szIntS, .pure con_laws_szIntS)]) (types_ok types_checked) (by simp only [List.forall_mem_cons]; exact ⟨⟨ok_laws_szIntS, cal_laws_szIntS⟩, fun x hx => by cases hx⟩)) ?_
  intro a0 a1 a2 left hin hp
  obtain ⟨h1, h2⟩ := hp
  have hs : Sp.szLen a1.length left ≤ 1048576 := szLen_le h2 (by omega)
  refine ⟨⟨h1, h2⟩, cond_intro (fun h => ?_) fun h => ⟨⟨?_, hs⟩, cond_intro (fun h2 => ?_) fun h2 => ?_⟩⟩ <;> simp only [decide_eq_true_eq, decide_eq_false_iff_not] at *
  · simp only [Sp.szEvent, if_pos h]
  · omega
  · simp only [Sp.szEvent, if_neg h]; rw [szLen_neg h2]
  · simp only [Sp.szEvent, if_neg h]

theorem ok_laws_toEvent : ConOK prog G n_laws_toEvent con_laws_toEvent := by
  refine wk_laws_toEvent (env_of (l := [(n_laws_toIntS, .pure con_laws_toIntS)]) (types_ok types_checked) (by simp only [List.forall_mem_cons]; exact ⟨⟨ok_laws_toIntS, cal_laws_toIntS⟩, fun x hx => by cases hx⟩)) ?_
  intro a0 a1 a2 hin hp
  exact ⟨hp.1, hp.2, rfl⟩

theorem ok_laws_eqEvent : ConOK prog G n_laws_eqEvent con_laws_eqEvent := by
  refine wk_laws_eqEvent (env_of (l := [(n_laws_eqIntS, .pure con_laws_eqIntS)]) (types_ok types_checked) (by simp only [List.forall_mem_cons]; exact ⟨⟨ok_laws_eqIntS, cal_laws_eqIntS⟩, fun x hx => by cases hx⟩)) ?_
  intro a0 a1 a2 b0 b1 b2 hin hp
  simp only [VC_laws_eqEvent]
  refine cond_intro (fun h => ?_) fun h => ⟨trivial, cond_intro (fun h2 => ?_) fun h2 => ⟨trivial, cond_intro (fun h3 => ?_) fun h3 => ?_⟩⟩ <;> simp at * <;> simp_all

end Go.Proofs.Tryd


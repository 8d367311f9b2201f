import Derived.Test.YtfkmcdocoofahaaDoorP2
namespace Go.Proofs.Tryd
open Go Go.Fw Go.IntWalk

theorem szEvent_big {a r : List (Int × Unit)} (h : ¬ Sp.szEvent a r 1048576 < 0) : a.length ≤ 1048576 ∧ r.length ≤ 1048576 := by
  unfold Sp.szEvent at h
  split at h
  · omega
  · next h1 =>
    have ha : Sp.szLen a.length 1048576 = 1048576 - a.length := by unfold Sp.szLen at h1 ⊢; split <;> omega
    rw [ha] at h
    have hr : Sp.szLen r.length (1048576 - a.length) = 1048576 - a.length - r.length := by unfold Sp.szLen at h ⊢; split <;> omega
    omega
theorem le_big {n : Nat} (h : n ≤ 1048576) : n ≤ big := by rw [big_eq]; omega

theorem ok_laws_FnExactFormatEvent : ConOK prog G n_laws_FnExactFormatEvent con_laws_FnExactFormatEvent := by
  refine wk_laws_FnExactFormatEvent (env_of (l := [(n_laws_eqEvent, con_laws_eqEvent), (n_impl_FormatEvent, con_impl_FormatEvent), (n_spec_FormatEvent, con_spec_FormatEvent), (n_laws_toEvent, con_laws_toEvent), (n_laws_szEvent, con_laws_szEvent)]) (types_ok types_checked) (by simp only [List.forall_mem_cons]; exact ⟨⟨ok_laws_eqEvent, cal_laws_eqEvent⟩, ⟨ok_impl_FormatEvent, cal_impl_FormatEvent⟩, ⟨ok_spec_FormatEvent, cal_spec_FormatEvent⟩, ⟨ok_laws_toEvent, cal_laws_toEvent⟩, ⟨ok_laws_szEvent, cal_laws_szEvent⟩, fun x hx => by cases hx⟩)) ?_
  intro e0 a r hin hp
  refine ⟨⟨by decide, by decide⟩, cond_intro (fun h => rfl) fun h => ?_⟩
  have h := szEvent_big (of_decide_eq_false h)
  have hb := And.intro (le_big h.1) (le_big h.2)
  refine ⟨hb, h, hb, h, ?_⟩
  rw [beq_self_eq_true]
  refine ⟨hb, trivial, ?_⟩
  rw [decide_eq_true rfl]
  rfl

theorem ok_laws_FnExactFormatIDs : ConOK prog G n_laws_FnExactFormatIDs con_laws_FnExactFormatIDs := by
  refine wk_laws_FnExactFormatIDs (env_of (l := [(n_laws_eqIntS, con_laws_eqIntS), (n_impl_FormatIDs, con_impl_FormatIDs), (n_spec_FormatIDs, con_spec_FormatIDs), (n_laws_toIntS, con_laws_toIntS)]) (types_ok types_checked) (by simp only [List.forall_mem_cons]; exact ⟨⟨ok_laws_eqIntS, cal_laws_eqIntS⟩, ⟨ok_impl_FormatIDs, cal_impl_FormatIDs⟩, ⟨ok_spec_FormatIDs, cal_spec_FormatIDs⟩, ⟨ok_laws_toIntS, cal_laws_toIntS⟩, fun x hx => by cases hx⟩)) ?_
  intro a hin hp
  refine cond_intro (fun h => rfl) fun h => ?_
  have h := of_decide_eq_false h
  have hc : a.length ≤ 1048576 := by omega
  have hb := le_big hc
  refine ⟨hb, hc, hb, hc, ?_⟩
  rw [beq_self_eq_true]
  refine ⟨hb, trivial, ?_⟩
  rw [decide_eq_true rfl]
  rfl

theorem szResult_big {s : List UInt8} {a : List (Int × Unit)} (h : ¬ Sp.szResult s a 1048576 < 0) : s.length ≤ 1048576 ∧ a.length ≤ 1048576 := by
  unfold Sp.szResult at h
  split at h
  · omega
  · next h1 =>
    have ha : Sp.szLen s.length 1048576 = 1048576 - s.length := by unfold Sp.szLen at h1 ⊢; split <;> omega
    rw [ha] at h
    have hr : Sp.szLen a.length (1048576 - s.length) = 1048576 - s.length - a.length := by unfold Sp.szLen at h ⊢; split <;> omega
    omega

theorem ok_laws_FnExactFormatResult : ConOK prog G n_laws_FnExactFormatResult con_laws_FnExactFormatResult := by
  refine wk_laws_FnExactFormatResult (env_of (l := [(n_laws_eqResult, con_laws_eqResult), (n_impl_FormatResult, con_impl_FormatResult), (n_spec_FormatResult, con_spec_FormatResult), (n_laws_toResult, con_laws_toResult), (n_laws_szResult, con_laws_szResult)]) (types_ok types_checked) (by simp only [List.forall_mem_cons]; exact ⟨⟨ok_laws_eqResult, cal_laws_eqResult⟩, ⟨ok_impl_FormatResult, cal_impl_FormatResult⟩, ⟨ok_spec_FormatResult, cal_spec_FormatResult⟩, ⟨ok_laws_toResult, cal_laws_toResult⟩, ⟨ok_laws_szResult, cal_laws_szResult⟩, fun x hx => by cases hx⟩)) ?_
  intro s a hin hp
  refine ⟨⟨by decide, by decide⟩, cond_intro (fun h => rfl) fun h => ?_⟩
  have h := szResult_big (of_decide_eq_false h)
  have hb := le_big h.2
  refine ⟨hb, h, hb, h, ?_⟩
  rw [beq_self_eq_true]
  refine ⟨hb, trivial, ?_⟩
  rw [decide_eq_true rfl]
  rfl
end Go.Proofs.Tryd


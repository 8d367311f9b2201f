import Derived.Test.YtlhclabldgampaaDoorP2
namespace Go.Proofs.Tryd
open Go Go.Fw Go.IntWalk

theorem ok_spec_ParseAction : ConOK prog G n_spec_ParseAction con_spec_ParseAction := by
  refine wk_spec_ParseAction (env_of (l := [(n_spec_l10Join, .pure con_spec_l10Join), (n_spec_FormatAction, .pure con_spec_FormatAction), (n_spec_l10Part, .pure con_spec_l10Part), (n_spec_l26Num, .pure con_spec_l26Num), (n_spec_SplitFields, .pure con_spec_SplitFields)]) (types_ok types_checked) (by simp only [List.forall_mem_cons]; exact ⟨⟨ok_spec_l10Join, cal_spec_l10Join⟩, ⟨ok_spec_FormatAction, cal_spec_FormatAction⟩, ⟨ok_spec_l10Part, cal_spec_l10Part⟩, ⟨ok_spec_l26Num, cal_spec_l26Num⟩, ⟨ok_spec_SplitFields, cal_spec_SplitFields⟩, fun x hx => by cases hx⟩)) ?_
  intro line hin hp
  have hp : line.length ≤ 1048576 := hp
  refine ⟨hp, fun _ => Sp.splitOk line = true ∧ Sp.splitF line ≠ [], ?_, fun _ hj => ?_⟩
  · refine cond_intro (fun h => Sp.act_no (Sp.act_no1 (notT h))) fun h => cond_intro (fun h2 => ?_) fun h2 => ⟨rfl, notF h, fun e => ?_⟩
    · have h2 : ((Sp.splitF line).length : Int) = 0 := by simpa using h2
      refine Sp.act_no (Sp.act_no2 ?_)
      rw [← (Sp.split_facts (notF h)).1]
      exact List.length_eq_zero_iff.1 (by omega)
    · rw [e] at h2; revert h2; decide
  · obtain ⟨hok, hne⟩ := hj
    obtain ⟨hw, hl1, hl2, hl3, hl4⟩ := Sp.split_facts hok
    have hlen : 0 < (Sp.splitF line).length := List.length_pos_iff.2 hne
    have e0 : (List.getD (Sp.splitF line) (Int.toNat (0 : Int)) ([], ())).fst = Sp.wordAt (Sp.splitF line) 0 := (Sp.wordAt_lt (by omega)).symm
    refine ⟨fun y => y = ((), ((Sp.actOf (Sp.splitF line)).1, (Sp.actOf (Sp.splitF line)).2.1, (), (Sp.actOf (Sp.splitF line)).2.2.1, (Sp.actOf (Sp.splitF line)).2.2.2, ()), ()), ⟨⟨by decide, by omega⟩, ?_⟩, ?_⟩
    · rw [e0]
      have n1 : (0 : Int) ≤ 1 := by decide
      have n2 : (0 : Int) ≤ 2 := by decide
      have n3 : (0 : Int) ≤ 3 := by decide
      unfold Sp.actOf
      cases Sp.wordAt (Sp.splitF line) 0 == [99, 111, 109, 109, 105, 116] with
      | true => exact ⟨n1, rfl, rfl⟩
      | false =>
      cases Sp.wordAt (Sp.splitF line) 0 == [99, 114, 97, 115, 104] with
      | true => exact ⟨n1, n2, rfl, rfl⟩
      | false =>
      cases Sp.wordAt (Sp.splitF line) 0 == [119, 97, 116, 99, 104] with
      | true => exact ⟨n1, n2, rfl, rfl⟩
      | false =>
      cases Sp.wordAt (Sp.splitF line) 0 == [112, 105, 110] with
      | true => exact ⟨n1, rfl, rfl⟩
      | false =>
      cases Sp.wordAt (Sp.splitF line) 0 == [117, 110, 112, 105, 110] with
      | true => exact ⟨n1, rfl, rfl⟩
      | false =>
      cases Sp.wordAt (Sp.splitF line) 0 == [99, 111, 108, 108, 101, 99, 116] with
      | true => exact ⟨rfl, rfl⟩
      | false =>
      cases Sp.wordAt (Sp.splitF line) 0 == [97, 100, 100] with
      | true => exact ⟨n1, n2, n3, rfl, rfl⟩
      | false =>
      cases Sp.wordAt (Sp.splitF line) 0 == [114, 101, 109, 111, 118, 101] with
      | true => exact ⟨n1, n2, n3, rfl, rfl⟩
      | false => exact ⟨rfl, rfl⟩
    · rintro _ rfl
      dsimp only
      rw [hw]
      have hwne : (Sp.wordsOf line == []) = false := beq_eq_false_iff_ne.2 (by rw [← hw]; exact hne)
      refine ⟨hl3, cond_intro (fun h => ?_) fun h => ⟨⟨hl1, hl2⟩, cond_intro (fun h2 => ?_) fun h2 => ?_⟩⟩
      · refine Sp.act_no ?_
        have h : (Sp.actText (Sp.actOf (Sp.wordsOf line)) == []) = true := h
        unfold Sp.parseActOk
        rw [h, Bool.not_true, Bool.false_and, Bool.and_false]
      · refine Sp.act_no ?_
        have h2 : (Sp.actText (Sp.actOf (Sp.wordsOf line)) == Sp.joinW (Sp.wordsOf line)) = false := notT h2
        unfold Sp.parseActOk
        rw [h2, Bool.and_false, Bool.and_false]
      · refine Sp.act_yes ?_
        have h : (Sp.actText (Sp.actOf (Sp.wordsOf line)) == []) = false := h
        have h2 : (Sp.actText (Sp.actOf (Sp.wordsOf line)) == Sp.joinW (Sp.wordsOf line)) = true := notF h2
        unfold Sp.parseActOk
        rw [hok, hwne, h, h2]; rfl
theorem ok_impl_ParseAction : ConOK prog G n_impl_ParseAction con_impl_ParseAction := by
  refine wk_impl_ParseAction (env_of (l := [(n_impl_sameFields, .pure con_impl_sameFields), (n_impl_FormatAction, .pure con_impl_FormatAction), (n_impl_wordAt, .pure con_impl_wordAt), (n_impl_numberAt, .pure con_impl_numberAt), (n_impl_SplitFields, .pure con_impl_SplitFields)]) (types_ok types_checked) (by simp only [List.forall_mem_cons]; exact ⟨⟨ok_impl_sameFields, cal_impl_sameFields⟩, ⟨ok_impl_FormatAction, cal_impl_FormatAction⟩, ⟨ok_impl_wordAt, cal_impl_wordAt⟩, ⟨ok_impl_numberAt, cal_impl_numberAt⟩, ⟨ok_impl_SplitFields, cal_impl_SplitFields⟩, fun x hx => by cases hx⟩)) ?_
  intro line hin hp
  have hp : line.length ≤ 1048576 := hp
  refine ⟨hp, fun _ => Sp.splitOk line = true ∧ Sp.splitF line ≠ [], ?_, fun _ hj => ?_⟩
  · refine cond_intro (fun h => Sp.act_no (Sp.act_no1 (notT h))) fun h => cond_intro (fun h2 => ?_) fun h2 => ⟨rfl, notF h, fun e => ?_⟩
    · have h2 : ((Sp.splitF line).length : Int) = 0 := by simpa using h2
      refine Sp.act_no (Sp.act_no2 ?_)
      rw [← (Sp.split_facts (notF h)).1]
      exact List.length_eq_zero_iff.1 (by omega)
    · rw [e] at h2; revert h2; decide
  · obtain ⟨hok, hne⟩ := hj
    obtain ⟨hw, hl1, hl2, hl3, hl4⟩ := Sp.split_facts hok
    have hlen : 0 < (Sp.splitF line).length := List.length_pos_iff.2 hne
    have hlen2 : (0 : Int) < ((Sp.splitF line).length : Int) := by omega
    have e0 : (List.getD (Sp.splitF line) (Int.toNat (0 : Int)) ([], ())).fst = Sp.wordAt (Sp.splitF line) 0 := (Sp.wordAt_lt (by omega)).symm
    refine ⟨fun y => y = ((Sp.okOf (Sp.splitF line), ()), ((Sp.actOf (Sp.splitF line)).1, (Sp.actOf (Sp.splitF line)).2.1, (), (Sp.actOf (Sp.splitF line)).2.2.1, (Sp.actOf (Sp.splitF line)).2.2.2, ()), ()), ⟨⟨by decide, hlen2⟩, ?_⟩, ?_⟩
    · rw [e0, hok]
      have n0 : (0 : Int) ≤ 0 := by decide
      have n1 : (0 : Int) ≤ 1 := by decide
      have n2 : (0 : Int) ≤ 2 := by decide
      have n3 : (0 : Int) ≤ 3 := by decide
      unfold Sp.actOf Sp.okOf Sp.kwCommit Sp.kwCrash Sp.kwWatch Sp.kwPin Sp.kwUnpin Sp.kwCollect Sp.kwAdd Sp.kwRemove
      cases Sp.wordAt (Sp.splitF line) 0 == [99, 111, 109, 109, 105, 116] with
      | true => exact ⟨n1, rfl, rfl⟩
      | false =>
      cases Sp.wordAt (Sp.splitF line) 0 == [99, 114, 97, 115, 104] with
      | true => exact ⟨n1, n2, rfl, rfl⟩
      | false =>
      cases Sp.wordAt (Sp.splitF line) 0 == [119, 97, 116, 99, 104] with
      | true => exact ⟨n1, n2, rfl, rfl⟩
      | false =>
      refine ⟨fun y => y = (((Sp.wordAt (Sp.splitF line) 0 == [112, 105, 110]) || (Sp.wordAt (Sp.splitF line) 0 == [117, 110, 112, 105, 110]), ()), ()), ?_, ?_⟩
      · cases Sp.wordAt (Sp.splitF line) 0 == [112, 105, 110] <;> exact ⟨rfl, rfl⟩
      rintro _ rfl
      dsimp only
      cases h4 : Sp.wordAt (Sp.splitF line) 0 == [112, 105, 110] with
      | true =>
        have h5 : (Sp.wordAt (Sp.splitF line) 0 == [117, 110, 112, 105, 110]) = false := by rw [beq_iff_eq.1 h4]; decide
        rw [h5]
        exact ⟨⟨n0, hlen2⟩, n1, rfl, rfl⟩
      | false =>
      cases Sp.wordAt (Sp.splitF line) 0 == [117, 110, 112, 105, 110] with
      | true => exact ⟨⟨n0, hlen2⟩, n1, rfl, rfl⟩
      | false =>
      cases Sp.wordAt (Sp.splitF line) 0 == [99, 111, 108, 108, 101, 99, 116] with
      | true => exact ⟨rfl, rfl⟩
      | false =>
      cases h7 : Sp.wordAt (Sp.splitF line) 0 == [97, 100, 100] with
      | true =>
        have h8 : (Sp.wordAt (Sp.splitF line) 0 == [114, 101, 109, 111, 118, 101]) = false := by rw [beq_iff_eq.1 h7]; decide
        rw [h8]
        exact ⟨⟨n0, hlen2⟩, n1, n2, n3, rfl, rfl⟩
      | false =>
      cases Sp.wordAt (Sp.splitF line) 0 == [114, 101, 109, 111, 118, 101] with
      | true => exact ⟨⟨n0, hlen2⟩, n1, n2, n3, rfl, rfl⟩
      | false => exact ⟨rfl, rfl⟩
    · rintro _ rfl
      dsimp only
      rw [hw]
      have hwne : (Sp.wordsOf line == []) = false := beq_eq_false_iff_ne.2 (by rw [← hw]; exact hne)
      have heq := Sp.parseActOk_eq line
      rw [hok, hwne, Bool.not_false, Bool.true_and, Bool.true_and] at heq
      refine cond_intro (fun h => ?_) fun h => ⟨hl3, ⟨hl4, Sp.actText_ascii _⟩, cond_intro (fun h2 => ?_) fun h2 => ?_⟩
      · refine Sp.act_no ?_
        rw [heq, notT h, Bool.false_and]
      · refine Sp.act_no ?_
        have h2 : (!(Sp.actText (Sp.actOf (Sp.wordsOf line)) == []) && decide (Sp.wordsOf (Sp.actText (Sp.actOf (Sp.wordsOf line))) = Sp.wordsOf line)) = false := notT h2
        rw [heq, h2, Bool.and_false]
      · refine Sp.act_yes ?_
        have h2 : (!(Sp.actText (Sp.actOf (Sp.wordsOf line)) == []) && decide (Sp.wordsOf (Sp.actText (Sp.actOf (Sp.wordsOf line))) = Sp.wordsOf line)) = true := notF h2
        rw [heq, h2, notF h]; rfl
theorem ok_laws_FnExactParseAction : ConOK prog G n_laws_FnExactParseAction con_laws_FnExactParseAction := by
  refine wk_laws_FnExactParseAction (env_of (l := [(n_laws_heldAction, .pure con_laws_heldAction), (n_laws_markAction, .pure con_laws_markAction), (n_laws_eqAction, .pure con_laws_eqAction), (n_impl_ParseAction, .pure con_impl_ParseAction), (n_spec_ParseAction, .pure con_spec_ParseAction)]) (types_ok types_checked) (by simp only [List.forall_mem_cons]; exact ⟨⟨ok_laws_heldAction, cal_laws_heldAction⟩, ⟨ok_laws_markAction, cal_laws_markAction⟩, ⟨ok_laws_eqAction, cal_laws_eqAction⟩, ⟨ok_impl_ParseAction, cal_impl_ParseAction⟩, ⟨ok_spec_ParseAction, cal_spec_ParseAction⟩, fun x hx => by cases hx⟩)) ?_
  intro line hin hp
  refine cond_intro (fun _ => rfl) fun h => ?_
  have hl : line.length ≤ 1048576 := by have := decF h; omega
  have hnil : (Sp.parseAct line).2.2.1 = [] := by unfold Sp.parseAct; cases Sp.parseActOk line <;> rfl
  have heq : ∀ a : Sp.DAction, Sp.eqAction a a = true := fun a => decide_eq_true rfl
  refine ⟨hl, hl, fun _ => True, ?_, fun _ _ => ⟨hnil, ⟨hnil, by decide⟩, hl, trivial, ?_⟩⟩
  · dsimp only
    rw [heq, beq_self_eq_true]
    exact ⟨trivial, rfl, trivial⟩
  · dsimp only
    rw [heq, beq_self_eq_true]
    exact ⟨⟨hnil, by decide⟩, rfl⟩
end Go.Proofs.Tryd


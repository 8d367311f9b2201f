import Derived.Test.YtlhclabldgampaaGreatDoorP1
import Derived.Test.YtlhclabldgampaaGreatDoorSp
namespace Go.Proofs.Tryz
open Go Go.Fw Go.IntWalk

theorem ok_spec_DrawPlaces : XConOK prog G n_spec_DrawPlaces con_spec_DrawPlaces := by
  refine wk_spec_DrawPlaces (env_of (l := [(n_spec_l01Below, .eff (xmodes sh_spec_l01Below) con_spec_l01Below), (n_spec_l01New, .eff (xmodes sh_spec_l01New) con_spec_l01New)]) (types_ok types_checked) (by simp only [List.forall_mem_cons]; exact ⟨⟨ok_spec_l01Below, cal_spec_l01Below⟩, ⟨ok_spec_l01New, cal_spec_l01New⟩, fun x hx => by cases hx⟩)) (fun _ _ => ⟨(((List.replicate 12 ((0 : Int), ())), ()), ()), by decide, by decide⟩) ?_
  intro code hin hp
  have hp : code.length ≤ 1048576 := hp
  refine ⟨hp, ?_⟩
  rintro ⟨b, i, h, ⟨⟩⟩ e
  have e : i = 0 := e
  subst e
  refine ⟨fun y => ∃ n : Nat, y.1.2.1 = n ∧ n ≤ 12 ∧ 0 ≤ y.2.1.2.1 ∧ y.2.2.1.length = n ∧ ∀ j, j < n → 0 ≤ (y.2.2.1.getD j (0, ())).1 ∧ (y.2.2.1.getD j (0, ())).1 < 10000, fun y => (12 - y.1.2.1).toNat, ⟨0, rfl, by decide, Int.le_refl _, rfl, fun j hj => absurd hj (Nat.not_lt_zero _)⟩, ?_⟩
  rintro ⟨⟨⟨⟩, _, ⟨⟩⟩, ⟨b1, i1, h1, ⟨⟩⟩, out, ⟨⟩⟩ ⟨n, rfl, hn, hi, hl, ho⟩
  dsimp only at hi hl ho ⊢
  refine cond_intro (fun hc => ⟨hi, ?_⟩) fun hc => ?_
  · have hc := decT hc
    rintro ⟨⟨x, ⟨⟩⟩, ⟨b2, i2, h2, ⟨⟩⟩, ⟨⟩⟩ ⟨g1, g2, g3, _⟩
    dsimp only at g1 g2 g3 ⊢
    have hw : IntKind.i64.wrap ((n : Int) + 1) = ((n + 1 : Nat) : Int) := wrapIn _ (by omega)
    refine ⟨by rw [big_eq]; show _ + 1 ≤ _; omega, rfl, ⟨n + 1, hw, by omega, g1, ?_, fun j hj => ?_⟩, ?_⟩
    · rw [List.length_append]; show _ + 1 = _; omega
    · rw [List.getD_eq_getElem?_getD]
      by_cases h5 : j < out.length
      · rw [List.getElem?_append_left h5, ← List.getD_eq_getElem?_getD]
        exact ho j (by omega)
      · have : j - out.length = 0 := by omega
        rw [List.getElem?_append_right (by omega), this]
        exact ⟨g2, g3 (by decide)⟩
    · rw [hw]
      omega
  · have hc := decF hc
    have h12 : n = 12 := by omega
    subst h12
    exact ⟨hl, ho⟩
theorem ok_slices_Equal_impl_Node : ConOK prog G n_slices_Equal_impl_Node con_slices_Equal_impl_Node := by
  refine wk_slices_Equal_impl_Node (env_of (l := []) (types_ok types_checked) (fun x hx => by cases hx)) ?_
  intro a b hin hp
  have hlen : a.length ≤ maxLen := hin.1.1
  rw [maxLen_eq] at hlen
  refine cond_intro (fun h => ?_) fun h => ?_
  · have h : (a.length : Int) ≠ b.length := by simpa using h
    exact congrArg (·, ()) (decide_eq_false fun e => h (by rw [e])).symm
  · have h : (a.length : Int) = b.length := by simpa using h
    exact eq_loop (K := fun r => r = (decide (a = b), ())) (fun x y => !(x.1 == y.1 && (x.2.1 == y.2.1 && (x.2.2.1 == y.2.2.1 && (x.2.2.2.1 == y.2.2.2.1 && (x.2.2.2.2.1 == y.2.2.2.2.1 && (x.2.2.2.2.2.1 == y.2.2.2.2.2.1 && (x.2.2.2.2.2.2.1 == y.2.2.2.2.2.2.1 && true)))))))) (fun x y => by simp [Prod.ext_iff]) _ a b _ hlen (by omega) (fun e => by rw [decide_eq_false e]) fun e => by rw [decide_eq_true e]
theorem ok_impl_EqualQueries : ConOK prog G n_impl_EqualQueries con_impl_EqualQueries := by
  refine wk_impl_EqualQueries (env_of (l := [(n_slices_Equal_impl_Node, .pure con_slices_Equal_impl_Node)]) (types_ok types_checked) (by simp only [List.forall_mem_cons]; exact ⟨⟨ok_slices_Equal_impl_Node, cal_slices_Equal_impl_Node⟩, fun x hx => by cases hx⟩)) ?_
  intro a b hin hp
  exact ⟨trivial, rfl⟩
theorem ok_impl_FormatChange : ConOK prog G n_impl_FormatChange con_impl_FormatChange := by
  refine wk_impl_FormatChange (env_of (l := [(n_strings_Join, .pure con_strings_Join), (n_impl_IsValidValue, .pure con_impl_IsValidValue), (n_impl_IsValidAttrName, .pure con_impl_IsValidAttrName), (n_impl_areNumbers, .pure con_impl_areNumbers), (n_impl_EqualFiles, .pure con_impl_EqualFiles), (n_impl_EqualQueries, .pure con_impl_EqualQueries), (n_impl_PostorderQuery, .pure con_impl_PostorderQuery), (n_impl_IsValidQuery, .pure con_impl_IsValidQuery), (n_impl_IsValidString, .pure con_impl_IsValidString), (n_impl_FormatQuery, .pure con_impl_FormatQuery), (n_impl_FormatInt, .pure con_impl_FormatInt), (n_strings_Split, .pure con_strings_Split), (n_impl_FormatFile, .pure con_impl_FormatFile)]) (types_ok types_checked) (by simp only [List.forall_mem_cons]; exact ⟨⟨ok_strings_Join, cal_strings_Join⟩, ⟨ok_impl_IsValidValue, cal_impl_IsValidValue⟩, ⟨ok_impl_IsValidAttrName, cal_impl_IsValidAttrName⟩, ⟨ok_impl_areNumbers, cal_impl_areNumbers⟩, ⟨ok_impl_EqualFiles, cal_impl_EqualFiles⟩, ⟨ok_impl_EqualQueries, cal_impl_EqualQueries⟩, ⟨ok_impl_PostorderQuery, cal_impl_PostorderQuery⟩, ⟨ok_impl_IsValidQuery, cal_impl_IsValidQuery⟩, ⟨ok_impl_IsValidString, cal_impl_IsValidString⟩, ⟨ok_impl_FormatQuery, cal_impl_FormatQuery⟩, ⟨ok_impl_FormatInt, cal_impl_FormatInt⟩, ⟨ok_strings_Split, cal_strings_Split⟩, ⟨ok_impl_FormatFile, cal_impl_FormatFile⟩, fun x hx => by cases hx⟩)) ?_
  intro k i o sh l a id nm q hin hp
  obtain ⟨hk, rfl, rfl, rfl, rfl, rfl, rfl, rfl⟩ := hp
  refine ⟨fun y => k = 3 ∧ y = (([(Sp.kwDelete, ()), (Lib.itoa id, ())], ()), (k, 0, 0, false, 0, [], id, [], (), ()), [(id, ())], ()), ?_, ?_⟩
  · rcases hk with rfl | rfl
    · exact ⟨by rw [big_eq]; show 0 + 1 ≤ 4294967296; decide, trivial, rfl, rfl, rfl⟩
    · exact rfl
  · rintro _ ⟨rfl, rfl⟩
    dsimp only
    refine ⟨fun _ => Sp.isUint id = true, ⟨trivial, ?_⟩, fun _ hu => ?_⟩
    · have e : (id != id) = false := by simp
      rw [e]
      refine ⟨trivial, trivial, ?_⟩
      have ha : Sp.areUints [(id, ())] = Sp.isUint id := by simp [Sp.areUints]
      rw [ha]
      refine cond_intro (fun h => ?_) fun h => ⟨rfl, notF h⟩
      unfold Sp.chgText
      rw [notT h]; rfl
    · refine ⟨fun y => y = ((0, ()), ()), fun _ => 0, rfl, ?_⟩
      rintro _ rfl
      have hl := Sp.itoa_len hu
      have hj : Lib.join [Sp.kwDelete, Lib.itoa id] [32] = Sp.chgText 3 id := by
        rw [Sp.join2]
        unfold Sp.chgText
        rw [hu]; simp
      have hlen := (Sp.chgText_ascii 3 id).2
      refine ⟨⟨(by decide : (2 : Nat) ≤ 140737488355328), ?_⟩, ?_⟩
      · show (Lib.join [Sp.kwDelete, Lib.itoa id] [32]).length ≤ _
        rw [hj]; omega
      · exact congrArg (·, ()) hj
theorem ok_impl_ParseChange : ConOK prog G n_impl_ParseChange con_impl_ParseChange := by
  refine wk_impl_ParseChange (env_of (l := [(n_impl_sameFields, .pure con_impl_sameFields), (n_impl_FormatChange, .pure con_impl_FormatChange), (n_impl_ParseQuery, .pure con_impl_ParseQuery), (n_strings_Join, .pure con_strings_Join), (n_impl_wordAt, .pure con_impl_wordAt), (n_impl_numberAt, .pure con_impl_numberAt), (n_impl_fileIn, .pure con_impl_fileIn), (n_impl_SplitFields, .pure con_impl_SplitFields)]) (types_ok types_checked) (by simp only [List.forall_mem_cons]; exact ⟨⟨ok_impl_sameFields, cal_impl_sameFields⟩, ⟨ok_impl_FormatChange, cal_impl_FormatChange⟩, ⟨ok_impl_ParseQuery, cal_impl_ParseQuery⟩, ⟨ok_strings_Join, cal_strings_Join⟩, ⟨ok_impl_wordAt, cal_impl_wordAt⟩, ⟨ok_impl_numberAt, cal_impl_numberAt⟩, ⟨ok_impl_fileIn, cal_impl_fileIn⟩, ⟨ok_impl_SplitFields, cal_impl_SplitFields⟩, fun x hx => by cases hx⟩)) ?_
  intro line hin hp
  obtain ⟨hp, hsim⟩ := hp
  have hp : line.length ≤ 1048576 := hp
  have n1 : Sp.splitOk line = false → Sp.parseChgOk line = false := fun h => by unfold Sp.parseChgOk; rw [h]; rfl
  refine ⟨hp, fun _ => Sp.splitOk line = true ∧ Sp.splitF line ≠ [], ?_, fun _ hj => ?_⟩
  · refine cond_intro (fun h => Sp.chg_no (n1 (notT h))) fun h => cond_intro (fun h2 => ?_) fun h2 => ⟨rfl, notF h, fun e => ?_⟩
    · have h2 : ((Sp.splitF line).length : Int) = 0 := by simpa using h2
      refine Sp.chg_no ?_
      have hw : Sp.wordsOf line = [] := by rw [← (Sp.split_facts (notF h)).1]; exact List.length_eq_zero_iff.1 (by omega)
      unfold Sp.parseChgOk
      rw [hw]; cases Sp.splitOk line <;> rfl
    · rw [e] at h2; revert h2; decide
  · obtain ⟨hok, hne⟩ := hj
    obtain ⟨hw, hl1, hl2, hl3, hl4⟩ := Sp.split_facts hok
    have hlen : 0 < (Sp.splitF line).length := List.length_pos_iff.2 hne
    have e0 : (List.getD (Sp.splitF line) (Int.toNat (0 : Int)) ([], ())).fst = Sp.wordAt (Sp.splitF line) 0 := (Sp.wordAt_lt (by omega)).symm
    rw [← hw] at hsim
    unfold Sp.simpleW Sp.kwCreate Sp.kwUpdate Sp.kwDefine Sp.kwUndefine at hsim
    simp only [Bool.and_eq_true] at hsim
    obtain ⟨c1, c2, c4, c5⟩ := hsim
    refine ⟨fun y => y = ((Sp.okChg (Sp.splitF line), ()), ((Sp.chgOf (Sp.splitF line)).1, 0, 0, false, 0, [], (Sp.chgOf (Sp.splitF line)).2, [], [], ()), ()), ⟨⟨by decide, by omega⟩, ?_⟩, ?_⟩
    · rw [e0, hok, notT c1, notT c2, notT c4, notT c5]
      have n1 : (0 : Int) ≤ 1 := by decide
      unfold Sp.okChg Sp.chgOf Sp.kwDelete
      cases Sp.wordAt (Sp.splitF line) 0 == [100, 101, 108, 101, 116, 101] with
      | true => exact ⟨n1, rfl, rfl⟩
      | false => exact ⟨rfl, rfl⟩
    · rintro _ rfl
      dsimp only
      rw [hw]
      have hwne : (Sp.wordsOf line == []) = false := beq_eq_false_iff_ne.2 (by rw [← hw]; exact hne)
      have hk : (Sp.chgOf (Sp.wordsOf line)).1 = 3 ∨ (Sp.chgOf (Sp.wordsOf line)).1 = 0 := by
        unfold Sp.chgOf
        cases Sp.wordAt (Sp.wordsOf line) 0 == Sp.kwDelete with
        | true => exact .inl rfl
        | false => exact .inr rfl
      have heq : Sp.parseChgOk line = (Sp.okChg (Sp.wordsOf line) && (!(Sp.chgText (Sp.chgOf (Sp.wordsOf line)).1 (Sp.chgOf (Sp.wordsOf line)).2 == []) && decide (Sp.wordsOf (Sp.chgText (Sp.chgOf (Sp.wordsOf line)).1 (Sp.chgOf (Sp.wordsOf line)).2) = Sp.wordsOf line))) := by
        unfold Sp.parseChgOk
        rw [hok, hwne]; rfl
      obtain ⟨t1, t2⟩ := Sp.chgText_ascii (Sp.chgOf (Sp.wordsOf line)).1 (Sp.chgOf (Sp.wordsOf line)).2
      refine cond_intro (fun h => ?_) fun h => ⟨⟨hk, rfl, rfl, rfl, rfl, rfl, rfl, rfl⟩, ⟨t2, t1⟩, cond_intro (fun h2 => ?_) fun h2 => ?_⟩
      · refine Sp.chg_no ?_
        rw [heq, notT h, Bool.false_and]
      · refine Sp.chg_no ?_
        rw [heq, notT h2, Bool.and_false]
      · refine Sp.chg_yes ?_
        rw [heq, notF h2, notF h]; rfl
theorem ok_laws_FnCommands : ConOK prog G n_laws_FnCommands con_laws_FnCommands := by
  refine wk_laws_FnCommands (env_of (l := [(n_impl_ParseAction, .pure con_impl_ParseAction), (n_impl_ParseChange, .pure con_impl_ParseChange), (n_impl_FormatInt, .pure con_impl_FormatInt), (n_spec_DrawPlaces, .eff (xmodes sh_spec_DrawPlaces) con_spec_DrawPlaces), (n_laws_big, .pure con_laws_big)]) (types_ok types_checked) (by simp only [List.forall_mem_cons]; exact ⟨⟨ok_impl_ParseAction, cal_impl_ParseAction⟩, ⟨ok_impl_ParseChange, cal_impl_ParseChange⟩, ⟨ok_impl_FormatInt, cal_impl_FormatInt⟩, ⟨ok_spec_DrawPlaces, cal_spec_DrawPlaces⟩, ⟨ok_laws_big, cal_laws_big⟩, fun x hx => by cases hx⟩)) ?_
  intro code hin hp
  refine ⟨trivial, cond_intro (fun _ => rfl) fun hb => ?_⟩
  have hb : code.length ≤ 1048576 := by have := decF hb; omega
  refine ⟨hb, ?_⟩
  rintro ⟨⟨p, ⟨⟩⟩, ⟨⟩⟩ ⟨hpl, hpb⟩
  have hpl : p.length = 12 := hpl
  have hpb := hpb 0 (by decide)
  dsimp only at hpb ⊢
  have hn0 := Int.tmod_nonneg 99 hpb.1
  have hn1 : Int.tmod (p.getD 0 (0, ())).1 99 < 99 := Int.tmod_lt_of_pos _ (by decide)
  have hz : Int.toNat (0 : Int) = 0 := rfl
  rw [hz]
  generalize Int.tmod (p.getD 0 (0, ())).1 99 = n at *
  have hu : Sp.isUint n = true := Sp.isUint_iff.2 ⟨hn0, by omega⟩
  have hl := Sp.itoa_len hu
  obtain ⟨d1, d2, d3, _, _⟩ := Sp.delete_line hu
  obtain ⟨q1, q2⟩ := Sp.pin_line hu
  obtain ⟨r1, r2⟩ := Sp.remove_line hu
  have e1 : [(100 : UInt8), 101, 108, 101, 116, 101, 32] ++ Lib.itoa n = Sp.kwDelete ++ 32 :: Lib.itoa n := rfl
  have e2 : [(112 : UInt8), 105, 110, 32] ++ Lib.itoa n = Sp.kwPin ++ 32 :: Lib.itoa n := rfl
  have e3 : [(114 : UInt8), 101, 109, 111, 118, 101, 32, 49, 32, 100, 97, 32] ++ Lib.itoa n = Sp.kwRemove ++ 32 :: ([49] ++ 32 :: ([100, 97] ++ 32 :: Lib.itoa n)) := rfl
  have e4 : [(100 : UInt8), 101, 108, 101, 116, 101, 32, 49] = Sp.kwDelete ++ 32 :: [49] := rfl
  have e5 : [(112 : UInt8), 105, 110, 32, 49] = Sp.kwPin ++ 32 :: [49] := rfl
  have l1 : (Sp.kwDelete ++ 32 :: Lib.itoa n).length ≤ 1048576 := by simp only [List.length_append, List.length_cons, Sp.kwDelete, List.length_nil]; omega
  have l2 : (Sp.kwPin ++ 32 :: Lib.itoa n).length ≤ 1048576 := by simp only [List.length_append, List.length_cons, Sp.kwPin, List.length_nil]; omega
  have l3 : (Sp.kwRemove ++ 32 :: ([49] ++ 32 :: ([100, 97] ++ 32 :: Lib.itoa n))).length ≤ 1048576 := by simp only [List.length_append, List.length_cons, Sp.kwRemove, List.length_nil]; omega
  rw [e1, e2, e3, e4, e5, d2, d3, q1, q2, r1, r2, Sp.act_delete1, Sp.chg_pin1.2]
  have m : ∀ k : Nat, k ≤ 100 → k ≤ maxLen := fun k hk => by rw [maxLen_eq]; omega
  refine ⟨⟨by decide, by omega⟩, by decide, trivial, m _ (by simp only [List.length_cons, List.length_nil]; omega), ⟨l1, d1⟩, trivial, m _ (by simp only [List.length_cons, List.length_nil]; omega), l2, trivial, m _ (by simp only [List.length_cons, List.length_nil]; omega), l3, by decide, ⟨by decide, Sp.chg_pin1.1⟩, ?_⟩
  simp
end Go.Proofs.Tryz


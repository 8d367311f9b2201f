import Derived.Test.YtlhclabldgampaaDoorP1
import Derived.Test.YtlhclabldgampaaDoorV2
import Derived.Test.YtlhclabldgampaaDoorSp
namespace Go.Proofs.Tryd
open Go Go.Fw Go.IntWalk

theorem condB {b : Bool} {A B : Prop} (h : b = true) (a : A) : cond b A B := by rw [h]; exact a
theorem ok_spec_ParseUint : ConOK prog G n_spec_ParseUint con_spec_ParseUint := by
  refine wk_spec_ParseUint (env_of (l := [(n_spec_FormatInt, .pure con_spec_FormatInt)]) (types_ok types_checked) (by simp only [List.forall_mem_cons]; exact ⟨⟨ok_spec_FormatInt, cal_spec_FormatInt⟩, fun x hx => by cases hx⟩)) ?_
  intro text hin hp
  refine cond_intro (fun h => ?_) fun h => ?_
  · exact Sp.parse_no (Sp.parseOk_long (by have := decT h; omega))
  · have hl : text.length ≤ 10 := by have := decF h; omega
    refine up_loopG (mk := fun i v => ((v, i, ()), ())) (fun y => y.1.2.1) (fun _ _ => rfl) text.length (by omega)
      (fun n v => v = Sp.decVal (text.take n) ∧ ∀ i, i < n → 48 ≤ (text.getD i 0).toNat ∧ (text.getD i 0).toNat ≤ 57) ⟨rfl, fun i hi => absurd hi (Nat.not_lt_zero _)⟩ (fun I μ n v hn hJ next => ?_) fun I μ v hJ => ?_
    · obtain ⟨rfl, hd⟩ := hJ
      obtain ⟨b0, b1⟩ := Sp.decVal_small hn hl hd
      dsimp only
      rw [Int.toNat_natCast]
      refine condT (by omega) ⟨⟨by omega, by omega⟩, cond_intro (fun h2 => ?_) fun h2 => ⟨⟨by omega, by omega⟩, cond_intro (fun h3 => ?_) fun h3 => ⟨⟨by omega, by omega⟩, rfl, ?_⟩⟩⟩
      · exact Sp.parse_no (Sp.parseOk_nodigit hn (by have := decT h2; omega))
      · exact Sp.parse_no (Sp.parseOk_nodigit hn (by have := decT h3; omega))
      · have g2 := decF h2
        have g3 := decF h3
        have w1 : IntKind.i64.wrap (10 * Sp.decVal (text.take n)) = 10 * Sp.decVal (text.take n) := wrapIn _ (by omega)
        have w2 : IntKind.i64.wrap ((text.getD n 0).toNat : Int) = (text.getD n 0).toNat := wrapIn _ (by omega)
        have w3 : IntKind.i64.wrap (10 * Sp.decVal (text.take n) + (text.getD n 0).toNat) = 10 * Sp.decVal (text.take n) + (text.getD n 0).toNat := wrapIn _ (by omega)
        have w4 : IntKind.i64.wrap (10 * Sp.decVal (text.take n) + (text.getD n 0).toNat - 48) = 10 * Sp.decVal (text.take n) + (text.getD n 0).toNat - 48 := wrapIn _ (by omega)
        refine next _ ⟨?_, fun i hi => ?_⟩
        · rw [w1, w2, w3, w4, Sp.decVal_take hn]; omega
        · rcases Nat.lt_or_ge i n with h5 | h5
          · exact hd i h5
          · rw [show i = n by omega]; omega
    · obtain ⟨rfl, hd⟩ := hJ
      dsimp only
      rw [List.take_of_length_le (Nat.le_refl _)]
      refine condF (by omega) (cond_intro (fun h2 => ?_) fun h2 => ⟨trivial, cond_intro (fun h3 => ?_) fun h3 => ?_⟩)
      · refine Sp.parse_no ?_
        cases hk : Sp.parseOk text with
        | false => rfl
        | true => have := (Sp.isUint_iff.1 (Sp.parseOk_iff.1 hk).1).2; have := decT h2; omega
      · refine Sp.parse_no ?_
        cases hk : Sp.parseOk text with
        | false => rfl
        | true => exact absurd (Sp.parseOk_iff.1 hk).2 (ne_of_beq_false (notT h3))
      · have e := beq_iff_eq.1 (notF h3)
        have h0 : 0 ≤ Sp.decVal text := (Sp.decVal_bound text.length text rfl (fun b hb => by
          obtain ⟨i, hi, rfl⟩ := List.mem_iff_getElem.1 hb
          have := hd i hi
          rw [List.getD_eq_getElem?_getD, List.getElem?_eq_getElem hi] at this
          exact this)).1
        have := Sp.parseOk_of (Sp.isUint_iff.2 ⟨h0, by have := decF h2; omega⟩) e
        rw [this.1, this.2]
theorem ok_spec_SplitFields : ConOK prog G n_spec_SplitFields con_spec_SplitFields := by
  refine wk_spec_SplitFields (env_of (l := []) (types_ok types_checked) (fun x hx => by cases hx)) ?_
  intro line hin hp
  have hp : line.length ≤ 1048576 := hp
  refine cond_intro (fun h => ?_) fun h => ?_
  · exact (Sp.split_no fun hh => by have := decT h; omega).symm
  · have hl : line.length ≤ 600 := by have := decF h; omega
    refine up_loopG (mk := fun i (s : Int × Sp.LS) => (((), s.1, i, ()), s.2, ())) (fun y => y.1.2.2.1) (fun _ _ => rfl) (line.length + 1) (by omega)
      (fun n s => ∃ b : Nat, s.1 = b ∧ Sp.splitAt line n b s.2) (s0 := ((0 : Int), [])) ⟨0, rfl, Sp.splitAt_zero line⟩ (fun I μ n s hn hJ next => ?_) fun I μ s hJ => ?_
    · obtain ⟨b, out⟩ := s
      obtain ⟨b, rfl, hs⟩ := hJ
      dsimp only at hs ⊢
      have hb := hs.1
      have hout := hs.2.2.1
      have hw : IntKind.i64.wrap ((n : Int) + 1) = ((n + 1 : Nat) : Int) := wrapIn _ (by omega)
      rw [Int.toNat_natCast, Int.toNat_natCast]
      refine condT (by omega) ⟨fun _ => n < line.length → Sp.okByte (line.getD n 0) = true, ?_, fun _ hj => ?_⟩
      · refine cond_intro (fun h2 => ⟨⟨by omega, by have := decT h2; omega⟩, cond_intro (fun h3 => ?_) fun h3 => ⟨⟨by omega, by have := decT h2; omega⟩, cond_intro (fun h4 => ?_) fun h4 => ⟨rfl, fun _ => ?_⟩⟩⟩) fun h2 => ⟨rfl, fun hh => ?_⟩
        · exact (Sp.split_no fun hh => by have h5 := Sp.okByte_iff.1 (Sp.getD_all hh.2.1 (show n < line.length by have := decT h2; omega)); have := decT h3; omega).symm
        · exact (Sp.split_no fun hh => by have h5 := Sp.okByte_iff.1 (Sp.getD_all hh.2.1 (show n < line.length by have := decT h2; omega)); have := decT h4; omega).symm
        · exact Sp.okByte_iff.2 ⟨by have := decF h3; omega, by have := decF h4; omega⟩
        · have := decF h2; omega
      · have tail : (n < line.length → Sp.okByte (line.getD n 0) = true ∧ line.getD n 0 = 32) →
            bif decide ((b : Int) < n) then ((0 : Int) ≤ b ∧ (b : Int) ≤ n ∧ (n : Int) ≤ line.length) ∧ List.length out + [(List.drop b (List.take n line), ())].length ≤ big ∧ (((line, ()), ()) = ((line, ()), ())) ∧
                I (((), IntKind.i64.wrap ((n : Int) + 1), IntKind.i64.wrap ((n : Int) + 1), ()), out ++ [(List.drop b (List.take n line), ())], ()) ∧ μ (((), IntKind.i64.wrap ((n : Int) + 1), IntKind.i64.wrap ((n : Int) + 1), ()), out ++ [(List.drop b (List.take n line), ())], ()) < μ (((), (b : Int), (n : Int), ()), out, ())
              else (((line, ()), ()) = ((line, ()), ())) ∧ I (((), IntKind.i64.wrap ((n : Int) + 1), IntKind.i64.wrap ((n : Int) + 1), ()), out, ()) ∧ μ (((), IntKind.i64.wrap ((n : Int) + 1), IntKind.i64.wrap ((n : Int) + 1), ()), out, ()) < μ (((), (b : Int), (n : Int), ()), out, ()) := by
          intro ho
          refine cond_intro (fun h3 => ⟨⟨by omega, by omega, by omega⟩, ?_, rfl, ?_⟩) fun h3 => ⟨rfl, ?_⟩
          · rw [big_eq]; show _ + 1 ≤ _; omega
          · exact next (IntKind.i64.wrap ((n : Int) + 1), out ++ [((line.take n).drop b, ())]) ⟨n + 1, hw, Sp.splitAt_word hs (by omega) (by have := decT h3; omega) ho⟩
          · exact next (IntKind.i64.wrap ((n : Int) + 1), out) ⟨n + 1, hw, Sp.splitAt_skip hs (by omega) (by have := decF h3; omega) ho⟩
        refine cond_intro (fun h2 => ⟨⟨by omega, by have := decT h2; omega⟩, cond_intro (fun h3 => ⟨rfl, ?_⟩) fun h3 => ?_⟩) fun h2 => ?_
        · have hn2 : n < line.length := by have := decT h2; omega
          exact next ((b : Int), out) ⟨b, rfl, Sp.splitAt_more hs hn2 (hj hn2) fun e => by rw [e] at h3; revert h3; decide⟩
        · refine tail fun hn2 => ⟨hj hn2, ?_⟩
          have h3 : ((line.getD n 0).toNat : Int) = 32 := by simpa using h3
          exact UInt8.toNat_inj.1 (by show _ = 32; omega)
        · exact tail fun hn2 => by have := decF h2; omega
    · obtain ⟨b, out⟩ := s
      obtain ⟨b, rfl, hs⟩ := hJ
      dsimp only at hs ⊢
      obtain ⟨h1, h2⟩ := Sp.splitAt_end hs
      subst h2
      refine condF (by omega) (cond_intro (fun h2 => ?_) fun h2 => ?_)
      · exact (Sp.split_no fun hh => by have := decT h2; rw [Sp.words_length] at this; omega).symm
      · exact (Sp.split_yes (Sp.splitOk_iff.2 ⟨hl, h1, by have := decF h2; rw [Sp.words_length] at this; omega⟩)).symm
theorem ok_spec_l10Join : ConOK prog G n_spec_l10Join con_spec_l10Join := by
  refine wk_spec_l10Join (env_of (l := []) (types_ok types_checked) (fun x hx => by cases hx)) ?_
  intro p hin hp
  have hp1 : p.length ≤ 1000 := hp.1
  have hp2 : (Sp.joinW p).length ≤ 2097152 := hp.2
  refine up_loopG (mk := fun i s => ((s, i, ()), ())) (fun y => y.1.2.1) (fun _ _ => rfl) p.length (by omega) (fun n s => s = Sp.joinW (p.take n)) rfl (fun I μ n s hn hJ next => ?_) fun I μ s hJ => ?_
  · subst hJ
    have e := Sp.joinW_take hn
    have hle := Sp.joinW_take_le p (n + 1)
    have hll := congrArg List.length e
    have h1 : ([32] : Sp.Bytes).length = 1 := rfl
    dsimp only
    rw [Int.toNat_natCast]
    refine condT (by omega) (cond_intro (fun h2 => ?_) fun h2 => ?_)
    · have hn0 : n ≠ 0 := by have := decT h2; omega
      rw [if_neg hn0] at e hll
      rw [List.length_append, List.length_append, h1] at hll
      refine ⟨?_, ⟨by omega, by omega⟩, ?_, rfl, next _ e.symm⟩
      · rw [maxLen_eq, h1]; omega
      · rw [maxLen_eq, List.length_append, h1]; omega
    · have hn0 : n = 0 := by have := decF h2; omega
      subst hn0
      refine ⟨⟨by omega, by omega⟩, ?_, rfl, next _ e.symm⟩
      have h0 : (Sp.joinW (p.take 0)).length = 0 := rfl
      rw [maxLen_eq, h0]
      rw [if_pos rfl, List.nil_append] at hll
      omega
  · subst hJ
    dsimp only
    refine condF (by omega) ?_
    rw [List.take_of_length_le (Nat.le_refl _)]
theorem ok_impl_SplitFields : ConOK prog G n_impl_SplitFields con_impl_SplitFields := by
  refine wk_impl_SplitFields (env_of (l := [(n_strings_Fields, .pure con_strings_Fields), (n_impl_within, .pure con_impl_within)]) (types_ok types_checked) (by simp only [List.forall_mem_cons]; exact ⟨⟨ok_strings_Fields, cal_strings_Fields⟩, ⟨ok_impl_within, cal_impl_within⟩, fun x hx => by cases hx⟩)) ?_
  intro line hin hp
  refine cond_intro (fun h => ?_) fun h => ?_
  · exact (Sp.split_no fun hh => by have := decT h; omega).symm
  · have hl : line.length ≤ 600 := by have := decF h; omega
    refine up_loop line.length (by omega) (fun n => ∀ i, i < n → Sp.okByte (line.getD i 0) = true) (fun i hi => absurd hi (Nat.not_lt_zero _)) (fun I μ n hn hJ next => ?_) fun I μ hJ => ?_
    · dsimp only
      rw [Int.toNat_natCast, Sp.okByte_int]
      refine condT (by omega) ⟨⟨by omega, by omega⟩, trivial, cond_intro (fun h2 => ?_) fun h2 => ⟨rfl, next fun i hi => ?_⟩⟩
      · exact (Sp.split_no fun hh => by have := Sp.getD_all hh.2.1 hn; rw [notT h2] at this; cases this).symm
      · rcases Nat.lt_or_ge i n with h5 | h5
        · exact hJ i h5
        · rw [show i = n by omega]; exact notF h2
    · dsimp only
      have hall := Sp.all_getD hJ
      refine condF (by omega) ⟨⟨hp, Sp.ascii_ok hall⟩, cond_intro (fun h2 => ?_) fun h2 => ?_⟩
      · exact (Sp.split_no fun hh => by have := decT h2; rw [Sp.words_length] at this; omega).symm
      · exact (Sp.split_yes (Sp.splitOk_iff.2 ⟨hl, hall, by have := decF h2; rw [Sp.words_length] at this; omega⟩)).symm
theorem ok_spec_l10Part : ConOK prog G n_spec_l10Part con_spec_l10Part := by
  refine wk_spec_l10Part (env_of (l := []) (types_ok types_checked) (fun x hx => by cases hx)) ?_
  intro w i hin hp
  refine cond_intro (fun h => ?_) fun h => ⟨⟨hp, by have := decF h; omega⟩, ?_⟩
  · rw [Sp.wordAt_ge (decT h)]
  · rw [Sp.wordAt_lt (by have := decF h; omega)]
theorem ok_impl_wordAt : ConOK prog G n_impl_wordAt con_impl_wordAt := by
  refine wk_impl_wordAt (env_of (l := []) (types_ok types_checked) (fun x hx => by cases hx)) ?_
  intro w i hin hp
  refine cond_intro (fun h => ?_) fun h => ⟨⟨hp, by have := decF h; omega⟩, ?_⟩
  · rw [Sp.wordAt_ge (decT h)]
  · rw [Sp.wordAt_lt (by have := decF h; omega)]
theorem ok_spec_l26Num : ConOK prog G n_spec_l26Num con_spec_l26Num := by
  refine wk_spec_l26Num (env_of (l := [(n_spec_ParseUint, .pure con_spec_ParseUint), (n_spec_l10Part, .pure con_spec_l10Part)]) (types_ok types_checked) (by simp only [List.forall_mem_cons]; exact ⟨⟨ok_spec_ParseUint, cal_spec_ParseUint⟩, ⟨ok_spec_l10Part, cal_spec_l10Part⟩, fun x hx => by cases hx⟩)) ?_
  intro w i hin hp
  exact ⟨hp, trivial, rfl⟩
theorem ok_impl_numberAt : ConOK prog G n_impl_numberAt con_impl_numberAt := by
  refine wk_impl_numberAt (env_of (l := [(n_impl_ParseUint, .pure con_impl_ParseUint), (n_impl_wordAt, .pure con_impl_wordAt)]) (types_ok types_checked) (by simp only [List.forall_mem_cons]; exact ⟨⟨ok_impl_ParseUint, cal_impl_ParseUint⟩, ⟨ok_impl_wordAt, cal_impl_wordAt⟩, fun x hx => by cases hx⟩)) ?_
  intro w i hin hp
  exact ⟨hp, trivial, rfl⟩
theorem ok_slices_Equal_string : ConOK prog G n_slices_Equal_string con_slices_Equal_string := by
  refine wk_slices_Equal_string (env_of (l := []) (types_ok types_checked) (fun x hx => by cases hx)) ?_
  intro a b hin hp
  have hlen : a.length ≤ maxLen := hin.1.1
  rw [maxLen_eq] at hlen
  refine cond_intro (fun h => ?_) fun h => ?_
  · have h : (a.length : Int) ≠ b.length := by simpa using h
    exact congrArg (·, ()) (decide_eq_false fun e => h (by rw [e])).symm
  · have h : (a.length : Int) = b.length := by simpa using h
    exact eq_loop (K := fun r => r = (decide (a = b), ())) (fun x y => !(x.1 == y.1)) (fun x y => by simp [Prod.ext_iff]) _ a b _ hlen (by omega) (fun e => by rw [decide_eq_false e]) fun e => by rw [decide_eq_true e]
theorem ok_impl_sameFields : ConOK prog G n_impl_sameFields con_impl_sameFields := by
  refine wk_impl_sameFields (env_of (l := [(n_slices_Equal_string, .pure con_slices_Equal_string), (n_strings_Fields, .pure con_strings_Fields)]) (types_ok types_checked) (by simp only [List.forall_mem_cons]; exact ⟨⟨ok_slices_Equal_string, cal_slices_Equal_string⟩, ⟨ok_strings_Fields, cal_strings_Fields⟩, fun x hx => by cases hx⟩)) ?_
  intro text w hin hp
  refine cond_intro (fun h => ⟨hp, trivial, ?_⟩) fun h => ?_
  · rw [h, Bool.true_and]
  · rw [h, Bool.false_and]
theorem ok_laws_markChangeS : ConOK prog G n_laws_markChangeS con_laws_markChangeS := by
  refine wk_laws_markChangeS (env_of (l := []) (types_ok types_checked) (fun x hx => by cases hx)) ?_
  intro a k hin hp
  have hp : a = [] := hp
  subst hp
  refine ⟨fun y => y = ((k, 0, ()), ()), fun _ => 0, rfl, ?_⟩
  rintro _ rfl
  exact rfl
theorem ok_laws_heldChangeS : ConOK prog G n_laws_heldChangeS con_laws_heldChangeS := by
  refine wk_laws_heldChangeS (env_of (l := []) (types_ok types_checked) (fun x hx => by cases hx)) ?_
  intro a k hin hp
  have hp : a = [] := hp
  subst hp
  refine ⟨fun y => y = ((k, 0, ()), ()), fun _ => 0, rfl, ?_⟩
  rintro _ rfl
  exact rfl
theorem ok_laws_markAction : ConOK prog G n_laws_markAction con_laws_markAction := by
  refine wk_laws_markAction (env_of (l := [(n_laws_markChangeS, .pure con_laws_markChangeS)]) (types_ok types_checked) (by simp only [List.forall_mem_cons]; exact ⟨⟨ok_laws_markChangeS, cal_laws_markChangeS⟩, fun x hx => by cases hx⟩)) ?_
  intro a0 a1 a2 a3 a4 k hin hp
  exact ⟨hp, rfl⟩
theorem ok_laws_heldAction : ConOK prog G n_laws_heldAction con_laws_heldAction := by
  refine wk_laws_heldAction (env_of (l := [(n_laws_heldChangeS, .pure con_laws_heldChangeS)]) (types_ok types_checked) (by simp only [List.forall_mem_cons]; exact ⟨⟨ok_laws_heldChangeS, cal_laws_heldChangeS⟩, fun x hx => by cases hx⟩)) ?_
  intro a0 a1 a2 a3 a4 k hin hp
  exact ⟨hp.1, cond_intro (fun h => by have := decT h; have := hp.2; omega) fun _ => rfl⟩
end Go.Proofs.Tryd


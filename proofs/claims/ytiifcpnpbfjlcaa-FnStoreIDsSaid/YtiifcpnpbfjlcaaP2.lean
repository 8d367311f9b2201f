import Derived.Test.YtiifcpnpbfjlcaaP1
import Derived.Test.YtiifcpnpbfjlcaaSp
namespace Go.Proofs.Try
open Go Go.Fw Go.IntWalk

theorem ok_spec_l01In : ConOK prog G n_spec_l01In con_spec_l01In := by
  refine wk_spec_l01In (env_of (l := []) (types_ok types_checked) (fun x hx => by cases hx)) ?_
  intro x a b hin hp
  refine cond_intro (fun h => ?_) fun h => ?_
  · have h := decT h
    show (decide (x ≤ b), ()) = (decide (a ≤ x) && decide (x ≤ b), ())
    rw [decide_eq_true (show a ≤ x from h)]; rfl
  · have h := decF h
    show (false, ()) = (decide (a ≤ x) && decide (x ≤ b), ())
    rw [decide_eq_false (show ¬ a ≤ x from h)]; rfl
theorem ok_impl_within : ConOK prog G n_impl_within con_impl_within := by
  refine wk_impl_within (env_of (l := []) (types_ok types_checked) (fun x hx => by cases hx)) ?_
  intro x a b hin hp
  refine cond_intro (fun h => ?_) fun h => ?_
  · show (decide (x ≤ b), ()) = (decide (a ≤ x) && decide (x ≤ b), ())
    rw [h]; rfl
  · show (false, ()) = (decide (a ≤ x) && decide (x ≤ b), ())
    rw [h]; rfl

theorem lower_step {s : List UInt8} {n : Nat} (hlt : n < s.length) (hl : Sp.lower s = true) : 97 ≤ (s.getD n 0).toNat ∧ (s.getD n 0).toNat ≤ 122 := by
  have := List.all_eq_true.1 hl _ (getD_mem (d := 0) hlt)
  simpa using this
theorem ok_spec_l02Text : ConOK prog G n_spec_l02Text con_spec_l02Text := by
  refine wk_spec_l02Text (env_of (l := [(n_spec_l01In, .pure con_spec_l01In)]) (types_ok types_checked) (by simp only [List.forall_mem_cons]; exact ⟨⟨ok_spec_l01In, cal_spec_l01In⟩, fun x hx => by cases hx⟩)) ?_
  intro s most hin hp
  have hlen : s.length ≤ maxLen := hin.1
  rw [maxLen_eq] at hlen
  refine ⟨fun y => ∃ n : Nat, y.1.1 = n ∧ n ≤ s.length ∧ Sp.lower (s.take n) = true, fun y => ((s.length : Int) - y.1.1).toNat, ⟨0, rfl, by omega, rfl⟩, ?_⟩
  rintro ⟨⟨_, ⟨⟩⟩, ⟨⟩⟩ ⟨n, rfl, hn, hJ⟩
  dsimp only
  refine cond_intro (fun h => ?_) fun h => ?_ <;> simp only [decide_eq_true_eq, decide_eq_false_iff_not] at h
  · have hlt : n < s.length := by omega
    rw [wrapIn _ (by omega), Int.toNat_natCast]
    refine ⟨⟨by omega, by omega⟩, cond_intro (fun h2 => ?_) fun h2 => ⟨⟨by omega, by omega⟩, cond_intro (fun h3 => ?_) fun h3 => ?_⟩⟩ <;> simp only [decide_eq_true_eq, decide_eq_false_iff_not] at *
    · cases hl : Sp.lower s with
      | false => rfl
      | true => have := lower_step hlt hl; omega
    · cases hl : Sp.lower s with
      | false => rfl
      | true => have := lower_step hlt hl; omega
    · refine ⟨trivial, ⟨n + 1, by simp, by omega, ?_⟩, by omega⟩
      rw [Sp.take_succ' s n 0 hlt]
      unfold Sp.lower at hJ ⊢
      rw [List.all_append, hJ]
      simp only [List.all_cons, List.all_nil, Bool.and_true, Bool.true_and, Bool.and_eq_true, decide_eq_true_eq]
      omega
  · have hge : n = s.length := by omega
    rw [hge, List.take_length] at hJ
    rw [hJ]
    exact ⟨trivial, rfl⟩
theorem ok_spec_IsValidString : ConOK prog G n_spec_IsValidString con_spec_IsValidString := by
  refine wk_spec_IsValidString (env_of (l := [(n_spec_l02Text, .pure con_spec_l02Text)]) (types_ok types_checked) (by simp only [List.forall_mem_cons]; exact ⟨⟨ok_spec_l02Text, cal_spec_l02Text⟩, fun x hx => by cases hx⟩)) ?_
  intro s hin hp
  exact ⟨trivial, rfl⟩
theorem ok_spec_IsValidValue : ConOK prog G n_spec_IsValidValue con_spec_IsValidValue := by
  refine wk_spec_IsValidValue (env_of (l := [(n_spec_IsValidString, .pure con_spec_IsValidString), (n_spec_l01In, .pure con_spec_l01In)]) (types_ok types_checked) (by simp only [List.forall_mem_cons]; exact ⟨⟨ok_spec_IsValidString, cal_spec_IsValidString⟩, ⟨ok_spec_l01In, cal_spec_l01In⟩, fun x hx => by cases hx⟩)) ?_
  intro k n s hin hp
  refine cond_intro (fun h => ?_) fun h => cond_intro (fun h2 => ⟨trivial, cond_intro (fun h3 => ?_) fun h3 => ?_⟩) fun h2 => cond_intro (fun h3 => ⟨trivial, cond_intro (fun h4 => ?_) fun h4 => ?_⟩) fun h3 => ?_
  · have e : k = 0 := by simpa using h
    subst e
    exact congrArg (·, ()) (Bool.eq_iff_iff.2 (by simp [Sp.okValue]))
  · have e : k = 1 := by simpa using h2
    subst e
    exact congrArg (·, ()) (Bool.eq_iff_iff.2 (by simp only [Bool.and_eq_true, decide_eq_true_eq] at h3; simp [Sp.okValue, h3]))
  · have e : k = 1 := by simpa using h2
    subst e
    exact congrArg (·, ()) (Bool.eq_iff_iff.2 (by simp only [Sp.okValue, h3]; simp))
  · have e : k = 2 := by simpa using h3
    subst e
    exact congrArg (·, ()) (Bool.eq_iff_iff.2 (by simp [Sp.okValue, h4]))
  · have e : k = 2 := by simpa using h3
    subst e
    exact congrArg (·, ()) (Bool.eq_iff_iff.2 (by simp [Sp.okValue, h4]))
  · have e1 : k ≠ 0 := by simpa using h
    have e2 : k ≠ 1 := by simpa using h2
    have e3 : k ≠ 2 := by simpa using h3
    exact congrArg (·, ()) (Bool.eq_iff_iff.2 (by simp [Sp.okValue, e1, e2, e3]))
theorem ok_spec_IsValidAttrName : ConOK prog G n_spec_IsValidAttrName con_spec_IsValidAttrName := by
  refine wk_spec_IsValidAttrName (env_of (l := [(n_spec_l02Text, .pure con_spec_l02Text)]) (types_ok types_checked) (by simp only [List.forall_mem_cons]; exact ⟨⟨ok_spec_l02Text, cal_spec_l02Text⟩, fun x hx => by cases hx⟩)) ?_
  intro s hin hp
  exact ⟨trivial, rfl⟩
theorem ok_spec_FieldKind : ConOK prog G n_spec_FieldKind con_spec_FieldKind := by
  refine wk_spec_FieldKind (env_of (l := []) (types_ok types_checked) (fun x hx => by cases hx)) ?_
  intro s name hin hp
  have hlen : s.length ≤ maxLen := hin.1.1
  rw [maxLen_eq] at hlen
  refine up_loop s.length hlen (fun n => ∀ i, i < n → (s.getD i ([], 0, ())).1 ≠ name) (fun i hi => by omega) (fun I μ n hn hJ next => ?_) fun I μ hJ => ?_
  · dsimp only
    refine condT (by omega) ⟨⟨by omega, by omega⟩, cond_intro (fun h => ⟨⟨by omega, by omega⟩, ?_⟩) fun h => ⟨rfl, next fun i hi => ?_⟩⟩
    · exact congrArg (·, ()) (Sp.kindOf_at s n hn hJ (by simpa only [Int.toNat_natCast, beq_iff_eq] using h)).symm
    · rcases Nat.lt_or_ge i n with h' | h'
      · exact hJ i h'
      · have : i = n := by omega
        subst this
        have h2 : ((s.getD i ([], 0, ())).1 == name) = false := h
        exact fun e => by rw [e] at h2; simp at h2
  · dsimp only
    exact condF (by omega) (congrArg (·, ()) (Sp.kindOf_none s hJ).symm)
theorem ok_spec_IsValidSchema : ConOK prog G n_spec_IsValidSchema con_spec_IsValidSchema := by
  refine wk_spec_IsValidSchema (env_of (l := [(n_spec_l01In, .pure con_spec_l01In), (n_spec_IsValidAttrName, .pure con_spec_IsValidAttrName)]) (types_ok types_checked) (by simp only [List.forall_mem_cons]; exact ⟨⟨ok_spec_l01In, cal_spec_l01In⟩, ⟨ok_spec_IsValidAttrName, cal_spec_IsValidAttrName⟩, fun x hx => by cases hx⟩)) ?_
  intro s hin hp
  have hlen : s.length ≤ maxLen := hin.1.1
  rw [maxLen_eq] at hlen
  refine up_loop s.length hlen (fun n => ∀ i, i < n → Sp.okFieldAt s i = true) (fun i hi => by omega) (fun I μ n hn hJ next => ?_) fun I μ hJ => ?_
  · dsimp only
    have no : Sp.okFieldAt s n = false → (false, ()) = (Sp.okSchema s, ()) := fun h => by rw [Sp.okSchema_no hn h]
    refine condT (by omega) ⟨⟨by omega, by omega⟩, trivial, cond_intro (fun h2 => no ?_) fun h2 => ⟨⟨by omega, by omega⟩, trivial, cond_intro (fun h3 => no ?_) fun h3 => cond_intro (fun h4 => ?_) fun h4 => ⟨rfl, next (all_upto_next hJ ?_)⟩⟩⟩
    · have h2 : Sp.okName (Sp.fieldAt s n).1 = false := notT h2
      unfold Sp.okFieldAt; rw [h2]; rfl
    · have h2 : Sp.okName (Sp.fieldAt s n).1 = true := notF h2
      have h3 : (decide (1 ≤ (Sp.fieldAt s n).2.1) && decide ((Sp.fieldAt s n).2.1 ≤ 2)) = false := notT h3
      unfold Sp.okFieldAt; rw [h2, h3]; rfl
    · have h2 : Sp.okName (Sp.fieldAt s n).1 = true := notF h2
      have h3 : (decide (1 ≤ (Sp.fieldAt s n).2.1) && decide ((Sp.fieldAt s n).2.1 ≤ 2)) = true := notF h3
      have h4 : 0 < n := by have := decT h4; omega
      rw [pred_in h4 (by omega)]
      refine ⟨⟨by omega, by omega⟩, ⟨by omega, by omega⟩, cond_intro (fun h5 => no ?_) fun h5 => ⟨rfl, next (all_upto_next hJ ?_)⟩⟩
      · have h5 : Op.bytesLess (Sp.fieldAt s (n - 1)).1 (Sp.fieldAt s n).1 = false := notT h5
        unfold Sp.okFieldAt; rw [h2, h3, h5, decide_eq_true h4]; rfl
      · have h5 : Op.bytesLess (Sp.fieldAt s (n - 1)).1 (Sp.fieldAt s n).1 = true := notF h5
        unfold Sp.okFieldAt; rw [h2, h3, h5, decide_eq_true h4]; rfl
    · have h2 : Sp.okName (Sp.fieldAt s n).1 = true := notF h2
      have h3 : (decide (1 ≤ (Sp.fieldAt s n).2.1) && decide ((Sp.fieldAt s n).2.1 ≤ 2)) = true := notF h3
      have h4 : ¬ 0 < n := by have := decF h4; omega
      unfold Sp.okFieldAt; rw [h2, h3, decide_eq_false h4]; rfl
  · dsimp only
    refine condF (by omega) (congrArg (·, ()) ?_)
    unfold Sp.okSchema
    rw [allUpto_true hJ]; rfl
theorem ok_spec_MatchesSchema : ConOK prog G n_spec_MatchesSchema con_spec_MatchesSchema := by
  refine wk_spec_MatchesSchema (env_of (l := [(n_spec_FieldKind, .pure con_spec_FieldKind), (n_spec_IsValidValue, .pure con_spec_IsValidValue)]) (types_ok types_checked) (by simp only [List.forall_mem_cons]; exact ⟨⟨ok_spec_FieldKind, cal_spec_FieldKind⟩, ⟨ok_spec_IsValidValue, cal_spec_IsValidValue⟩, fun x hx => by cases hx⟩)) ?_
  intro fs s k n w hin hp
  refine ⟨trivial, cond_intro (fun h => cond_intro (fun h2 => ⟨trivial, ?_⟩) fun h2 => ?_) fun h => ?_⟩
  · exact congrArg (·, ()) (Bool.eq_iff_iff.2 (by simp only [bne_iff_ne, ne_eq] at h2; simp [Sp.matchesS, h, h2]))
  · exact congrArg (·, ()) (Bool.eq_iff_iff.2 (by simp at h2; simp [Sp.matchesS, h2]))
  · exact congrArg (·, ()) (Bool.eq_iff_iff.2 (by simp [Sp.matchesS, h]))
theorem ok_spec_IsValidFile : ConOK prog G n_spec_IsValidFile con_spec_IsValidFile := by
  refine wk_spec_IsValidFile (env_of (l := [(n_spec_l01In, .pure con_spec_l01In), (n_spec_IsValidSchema, .pure con_spec_IsValidSchema), (n_spec_MatchesSchema, .pure con_spec_MatchesSchema)]) (types_ok types_checked) (by simp only [List.forall_mem_cons]; exact ⟨⟨ok_spec_l01In, cal_spec_l01In⟩, ⟨ok_spec_IsValidSchema, cal_spec_IsValidSchema⟩, ⟨ok_spec_MatchesSchema, cal_spec_MatchesSchema⟩, fun x hx => by cases hx⟩)) ?_
  intro fs f0 f1 f2 f3 f4 hin hp
  have hlen : f4.length ≤ maxLen := hin.2.1.2.2.2.2.1.1
  rw [maxLen_eq] at hlen
  refine up_loop f4.length hlen (fun n => ∀ i, i < n → Sp.okAttrAt fs f4 i = true) (fun i hi => by omega) (fun I μ n hn hJ next => ?_) fun I μ hJ => ?_
  · dsimp only
    have no : Sp.okAttrAt fs f4 n = false → (false, ()) = (Sp.okFile fs (f0, f1, f2, f3, f4, ()), ()) := fun h => by rw [Sp.okFile_no (f := (f0, f1, f2, f3, f4, ())) hn h]
    refine condT (by omega) ⟨⟨by omega, by omega⟩, ⟨by omega, by omega⟩, trivial, cond_intro (fun h2 => no ?_) fun h2 => cond_intro (fun h4 => ?_) fun h4 => ⟨rfl, next (all_upto_next hJ ?_)⟩⟩
    · have h2 : Sp.matchesS fs (Sp.attrAt f4 n).1 (Sp.attrAt f4 n).2.1 (Sp.attrAt f4 n).2.2.1 (Sp.attrAt f4 n).2.2.2.1 = false := notT h2
      unfold Sp.okAttrAt; rw [h2]; rfl
    · have h2 : Sp.matchesS fs (Sp.attrAt f4 n).1 (Sp.attrAt f4 n).2.1 (Sp.attrAt f4 n).2.2.1 (Sp.attrAt f4 n).2.2.2.1 = true := notF h2
      have h4 : 0 < n := by have := decT h4; omega
      rw [pred_in h4 (by omega)]
      refine ⟨⟨by omega, by omega⟩, ⟨by omega, by omega⟩, cond_intro (fun h5 => no ?_) fun h5 => ⟨rfl, next (all_upto_next hJ ?_)⟩⟩
      · have h5 : Op.bytesLess (Sp.attrAt f4 (n - 1)).1 (Sp.attrAt f4 n).1 = false := notT h5
        unfold Sp.okAttrAt; rw [h2, h5, decide_eq_true h4]; rfl
      · have h5 : Op.bytesLess (Sp.attrAt f4 (n - 1)).1 (Sp.attrAt f4 n).1 = true := notF h5
        unfold Sp.okAttrAt; rw [h2, h5, decide_eq_true h4]; rfl
    · have h2 : Sp.matchesS fs (Sp.attrAt f4 n).1 (Sp.attrAt f4 n).2.1 (Sp.attrAt f4 n).2.2.1 (Sp.attrAt f4 n).2.2.2.1 = true := notF h2
      have h4 : ¬ 0 < n := by have := decF h4; omega
      unfold Sp.okAttrAt; rw [h2, decide_eq_false h4]; rfl
  · dsimp only
    have ha : Sp.okAttrs fs f4 = true := allUpto_true hJ
    refine condF (by omega) ⟨trivial, cond_intro (fun h1 => ⟨trivial, cond_intro (fun h2 => ⟨trivial, cond_intro (fun h3 => ⟨trivial, ?_⟩) fun h3 => ?_⟩) fun h2 => ?_⟩) fun h1 => ?_⟩
    · refine congrArg (·, ()) ?_
      unfold Sp.okFile
      rw [ha, h1, h2, h3]; rfl
    · refine congrArg (·, ()) ?_
      unfold Sp.okFile
      rw [ha, h1, h2, h3]; rfl
    · refine congrArg (·, ()) ?_
      unfold Sp.okFile
      rw [ha, h1, h2]; rfl
    · refine congrArg (·, ()) ?_
      unfold Sp.okFile
      rw [ha, h1]; rfl
theorem ok_spec_IsValidStore : ConOK prog G n_spec_IsValidStore con_spec_IsValidStore := by
  refine wk_spec_IsValidStore (env_of (l := [(n_spec_l01In, .pure con_spec_l01In), (n_spec_IsValidSchema, .pure con_spec_IsValidSchema), (n_spec_IsValidFile, .pure con_spec_IsValidFile)]) (types_ok types_checked) (by simp only [List.forall_mem_cons]; exact ⟨⟨ok_spec_l01In, cal_spec_l01In⟩, ⟨ok_spec_IsValidSchema, cal_spec_IsValidSchema⟩, ⟨ok_spec_IsValidFile, cal_spec_IsValidFile⟩, fun x hx => by cases hx⟩)) ?_
  intro s0 s1 s2 hin hp
  have hlen : s1.length ≤ maxLen := hin.1.2.1.1
  rw [maxLen_eq] at hlen
  refine up_loop s1.length hlen (fun n => ∀ i, i < n → Sp.okFileAt (s0, s1, s2, ()) i = true) (fun i hi => by omega) (fun I μ n hn hJ next => ?_) fun I μ hJ => ?_
  · dsimp only
    have no : Sp.okFileAt (s0, s1, s2, ()) n = false → (false, ()) = (Sp.okStore (s0, s1, s2, ()), ()) := fun h => by rw [Sp.okStore_no (s := (s0, s1, s2, ())) hn h]
    refine condT (by omega) ⟨⟨by omega, by omega⟩, trivial, cond_intro (fun h2 => no ?_) fun h2 => ⟨⟨by omega, by omega⟩, cond_intro (fun h3 => no ?_) fun h3 => cond_intro (fun h4 => ?_) fun h4 => ⟨rfl, next (all_upto_next hJ ?_)⟩⟩⟩
    · have h2 : Sp.okFile s0 (Sp.fileAt s1 n) = false := notT h2
      show (Sp.okFile s0 (Sp.fileAt s1 n) && _ && _) = false
      rw [h2]; rfl
    · have h2 : Sp.okFile s0 (Sp.fileAt s1 n) = true := notF h2
      have h3 : ¬ (Sp.fileAt s1 n).1 < s2 := by have h3 : (Sp.fileAt s1 n).1 ≥ s2 := decT h3; omega
      show (Sp.okFile s0 (Sp.fileAt s1 n) && decide ((Sp.fileAt s1 n).1 < s2) && _) = false
      rw [h2, decide_eq_false h3]; rfl
    · have h2 : Sp.okFile s0 (Sp.fileAt s1 n) = true := notF h2
      have h3 : (Sp.fileAt s1 n).1 < s2 := by have h3 : ¬ (Sp.fileAt s1 n).1 ≥ s2 := decF h3; omega
      have h4 : 0 < n := by have := decT h4; omega
      rw [pred_in h4 (by omega)]
      refine ⟨⟨by omega, by omega⟩, ⟨by omega, by omega⟩, cond_intro (fun h5 => no ?_) fun h5 => ⟨rfl, next (all_upto_next hJ ?_)⟩⟩
      · have h5 : ¬ (Sp.fileAt s1 (n - 1)).1 < (Sp.fileAt s1 n).1 := by have h5 : (Sp.fileAt s1 (n - 1)).1 ≥ (Sp.fileAt s1 n).1 := decT h5; omega
        show (Sp.okFile s0 (Sp.fileAt s1 n) && decide ((Sp.fileAt s1 n).1 < s2) && !(decide (0 < n) && !decide ((Sp.fileAt s1 (n - 1)).1 < (Sp.fileAt s1 n).1))) = false
        rw [h2, decide_eq_true h3, decide_eq_true h4, decide_eq_false h5]; rfl
      · have h5 : (Sp.fileAt s1 (n - 1)).1 < (Sp.fileAt s1 n).1 := by have h5 : ¬ (Sp.fileAt s1 (n - 1)).1 ≥ (Sp.fileAt s1 n).1 := decF h5; omega
        show (Sp.okFile s0 (Sp.fileAt s1 n) && decide ((Sp.fileAt s1 n).1 < s2) && !(decide (0 < n) && !decide ((Sp.fileAt s1 (n - 1)).1 < (Sp.fileAt s1 n).1))) = true
        rw [h2, decide_eq_true h3, decide_eq_true h4, decide_eq_true h5]; rfl
    · have h2 : Sp.okFile s0 (Sp.fileAt s1 n) = true := notF h2
      have h3 : (Sp.fileAt s1 n).1 < s2 := by have h3 : ¬ (Sp.fileAt s1 n).1 ≥ s2 := decF h3; omega
      have h4 : ¬ 0 < n := by have := decF h4; omega
      show (Sp.okFile s0 (Sp.fileAt s1 n) && decide ((Sp.fileAt s1 n).1 < s2) && !(decide (0 < n) && !decide ((Sp.fileAt s1 (n - 1)).1 < (Sp.fileAt s1 n).1))) = true
      rw [h2, decide_eq_true h3, decide_eq_false h4]; rfl
  · dsimp only
    have ha : Sp.allUpto s1.length (Sp.okFileAt (s0, s1, s2, ())) = true := allUpto_true hJ
    refine condF (by omega) ⟨trivial, cond_intro (fun h1 => cond_intro (fun h2 => ⟨trivial, ?_⟩) fun h2 => ?_) fun h1 => ?_⟩
    · refine congrArg (·, ()) ?_
      show _ = (Sp.allUpto s1.length (Sp.okFileAt (s0, s1, s2, ())) && Sp.okSchema s0 && decide ((s1.length : Int) ≤ 12) && (decide (1 ≤ s2) && decide (s2 ≤ 61)))
      rw [ha, h1, h2]; rfl
    · refine congrArg (·, ()) ?_
      show _ = (Sp.allUpto s1.length (Sp.okFileAt (s0, s1, s2, ())) && Sp.okSchema s0 && decide ((s1.length : Int) ≤ 12) && (decide (1 ≤ s2) && decide (s2 ≤ 61)))
      rw [ha, h1, h2]; rfl
    · refine congrArg (·, ()) ?_
      show _ = (Sp.allUpto s1.length (Sp.okFileAt (s0, s1, s2, ())) && Sp.okSchema s0 && decide ((s1.length : Int) ≤ 12) && (decide (1 ≤ s2) && decide (s2 ≤ 61)))
      rw [ha, h1]; rfl
end Go.Proofs.Try


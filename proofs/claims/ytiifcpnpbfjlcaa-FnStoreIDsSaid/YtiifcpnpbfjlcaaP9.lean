import Derived.Test.YtiifcpnpbfjlcaaP8
import Derived.Test.YtiifcpnpbfjlcaaV5
namespace Go.Proofs.Try
open Go Go.Fw Go.IntWalk

theorem ok_impl_IsValidString : ConOK prog G n_impl_IsValidString con_impl_IsValidString := by
  refine wk_impl_IsValidString (env_of (l := [(n_impl_within, .pure con_impl_within)]) (types_ok types_checked) (by simp only [List.forall_mem_cons]; exact ⟨⟨ok_impl_within, cal_impl_within⟩, fun x hx => by cases hx⟩)) ?_
  intro s hin hp
  have hlen : s.length ≤ maxLen := hin.1
  rw [maxLen_eq] at hlen
  refine ⟨fun y => ∃ n : Nat, y.1.1 = n ∧ n ≤ s.length ∧ Sp.lower (s.take n) = true, fun y => ((s.length : Int) - y.1.1).toNat, ⟨0, rfl, by omega, rfl⟩, ?_⟩
  rintro ⟨⟨_, ⟨⟩⟩, ⟨⟩⟩ ⟨n, rfl, hn, hJ⟩
  dsimp only
  refine cond_intro (fun h => ?_) fun h => ?_ <;> simp only [decide_eq_true_eq, decide_eq_false_iff_not] at h
  · have hlt : n < s.length := by omega
    rw [wrapIn _ (by omega), Int.toNat_natCast]
    refine ⟨⟨by omega, by omega⟩, cond_intro (fun h2 => ?_) fun h2 => ⟨⟨by omega, by omega⟩, cond_intro (fun h3 => ?_) fun h3 => ?_⟩⟩ <;> simp only [decide_eq_true_eq, decide_eq_false_iff_not] at *
    · unfold Sp.validStr
      cases hl : Sp.lower s with
      | false => rfl
      | true => have := lower_step hlt hl; omega
    · unfold Sp.validStr
      cases hl : Sp.lower s with
      | false => rfl
      | true => have := lower_step hlt hl; omega
    · refine ⟨trivial, ⟨n + 1, by simp, by omega, ?_⟩, by omega⟩
      rw [Sp.take_succ' s n 0 hlt]
      unfold Sp.lower at hJ ⊢
      rw [List.all_append, hJ]
      simp only [List.all_cons, List.all_nil, Bool.and_true, Bool.true_and, Bool.and_eq_true, decide_eq_true_eq]
      omega
  · have hge : n = s.length := by omega
    rw [hge, List.take_length] at hJ
    unfold Sp.validStr
    rw [hJ]
    exact ⟨trivial, rfl⟩
theorem ok_impl_IsValidValue : ConOK prog G n_impl_IsValidValue con_impl_IsValidValue := by
  refine wk_impl_IsValidValue (env_of (l := [(n_impl_IsValidString, .pure con_impl_IsValidString), (n_impl_within, .pure con_impl_within)]) (types_ok types_checked) (by simp only [List.forall_mem_cons]; exact ⟨⟨ok_impl_IsValidString, cal_impl_IsValidString⟩, ⟨ok_impl_within, cal_impl_within⟩, fun x hx => by cases hx⟩)) ?_
  intro k n s hin hp
  refine cond_intro (fun h => ?_) fun h => cond_intro (fun h2 => ⟨trivial, cond_intro (fun h3 => ?_) fun h3 => ?_⟩) fun h2 => cond_intro (fun h3 => ⟨trivial, cond_intro (fun h4 => ?_) fun h4 => ?_⟩) fun h3 => ?_
  · have e : k = 0 := by simpa using h
    subst e
    exact congrArg (·, ()) (Bool.eq_iff_iff.2 (by simp [Sp.okValue]))
  · have e : k = 1 := by simpa using h2
    subst e
    exact congrArg (·, ()) (Bool.eq_iff_iff.2 (by simp only [Bool.and_eq_true, decide_eq_true_eq] at h3; simp [Sp.okValue, h3]))
  · have e : k = 1 := by simpa using h2
    subst e
    exact congrArg (·, ()) (Bool.eq_iff_iff.2 (by simp only [Sp.okValue, h3]; simp))
  · have e : k = 2 := by simpa using h3
    subst e
    exact congrArg (·, ()) (Bool.eq_iff_iff.2 (by simp [Sp.okValue, h4]))
  · have e : k = 2 := by simpa using h3
    subst e
    exact congrArg (·, ()) (Bool.eq_iff_iff.2 (by simp [Sp.okValue, h4]))
  · have e1 : k ≠ 0 := by simpa using h
    have e2 : k ≠ 1 := by simpa using h2
    have e3 : k ≠ 2 := by simpa using h3
    exact congrArg (·, ()) (Bool.eq_iff_iff.2 (by simp [Sp.okValue, e1, e2, e3]))
theorem ok_impl_IsValidAttrName : ConOK prog G n_impl_IsValidAttrName con_impl_IsValidAttrName := by
  refine wk_impl_IsValidAttrName (env_of (l := []) (types_ok types_checked) (fun x hx => by cases hx)) ?_
  intro s hin hp
  refine cond_intro (fun h => ?_) fun h => ?_
  · have h : (s.length : Int) = 1 := decT h
    match s, h with
    | [c], _ =>
      refine ⟨⟨by decide, (by show (0 : Int) < 1; decide)⟩, cond_intro (fun h2 => ⟨⟨by decide, (by show (0 : Int) < 1; decide)⟩, ?_⟩) fun h2 => ?_⟩
      · have h2 : (c.toNat : Int) ≥ 97 := decT h2
        refine congrArg (·, ()) (Bool.eq_iff_iff.2 ?_)
        simp only [Sp.okName, Sp.lower, List.all_cons, List.all_nil, Bool.and_true, Bool.and_eq_true, decide_eq_true_eq, List.length_cons, List.length_nil]
        constructor
        · intro h3
          have h3 : (c.toNat : Int) ≤ 122 := h3
          exact ⟨⟨⟨by omega, by omega⟩, by decide⟩, by decide⟩
        · rintro ⟨⟨⟨_, h4⟩, _⟩, _⟩
          show (c.toNat : Int) ≤ 122
          omega
      · have h2 : ¬ (c.toNat : Int) ≥ 97 := decF h2
        refine congrArg (·, ()) (Bool.eq_iff_iff.2 ?_)
        simp only [Sp.okName, Sp.lower, List.all_cons, List.all_nil, Bool.and_true, Bool.and_eq_true, decide_eq_true_eq]
        constructor
        · intro h3; cases h3
        · rintro ⟨⟨⟨h4, _⟩, _⟩, _⟩; omega
  · have h : ¬ (s.length : Int) = 1 := decF h
    refine congrArg (·, ()) (Bool.eq_iff_iff.2 ?_)
    simp only [Sp.okName, Bool.and_eq_true, decide_eq_true_eq]
    constructor
    · intro h3; cases h3
    · rintro ⟨⟨_, h4⟩, h5⟩; omega
theorem ok_impl_FieldKind : ConOK prog G n_impl_FieldKind con_impl_FieldKind := by
  refine wk_impl_FieldKind (env_of (l := []) (types_ok types_checked) (fun x hx => by cases hx)) ?_
  intro s name hin hp
  have hlen : s.length ≤ maxLen := hin.1.1
  rw [maxLen_eq] at hlen
  refine up_loop s.length hlen (fun n => ∀ i, i < n → (s.getD i ([], 0, ())).1 ≠ name) (fun i hi => by omega) (fun I μ n hn hJ next => ?_) fun I μ hJ => ?_
  · dsimp only
    refine condT (by omega) ⟨⟨by omega, by omega⟩, cond_intro (fun h => ?_) fun h => ⟨rfl, next fun i hi => ?_⟩⟩
    · exact congrArg (·, ()) (Sp.kindOf_at s n hn hJ (by simpa only [Int.toNat_natCast, beq_iff_eq] using h)).symm
    · rcases Nat.lt_or_ge i n with h' | h'
      · exact hJ i h'
      · have : i = n := by omega
        subst this
        have h2 : ((s.getD i ([], 0, ())).1 == name) = false := h
        exact fun e => by rw [e] at h2; simp at h2
  · dsimp only
    exact condF (by omega) (congrArg (·, ()) (Sp.kindOf_none s hJ).symm)
theorem kind12 {k : Int} (h : (k != 1) = false ∨ (k != 2) = false) : (decide (1 ≤ k) && decide (k ≤ 2)) = true := by
  have : k = 1 ∨ k = 2 := h.imp (by simp) (by simp)
  rcases this with h | h <;> subst h <;> rfl
theorem kind_no {k : Int} (h1 : (k != 1) = true) (h2 : (k != 2) = true) : (decide (1 ≤ k) && decide (k ≤ 2)) = false := by
  have h1 : k ≠ 1 := by simpa using h1
  have h2 : k ≠ 2 := by simpa using h2
  rw [Bool.and_eq_false_iff]
  by_cases h : k < 1
  · left; exact decide_eq_false (by omega)
  · right; exact decide_eq_false (by omega)
theorem ok_impl_IsValidSchema : ConOK prog G n_impl_IsValidSchema con_impl_IsValidSchema := by
  refine wk_impl_IsValidSchema (env_of (l := [(n_impl_IsValidAttrName, .pure con_impl_IsValidAttrName)]) (types_ok types_checked) (by simp only [List.forall_mem_cons]; exact ⟨⟨ok_impl_IsValidAttrName, cal_impl_IsValidAttrName⟩, fun x hx => by cases hx⟩)) ?_
  intro s hin hp
  have hlen : s.length ≤ maxLen := hin.1.1
  rw [maxLen_eq] at hlen
  refine up_loop s.length hlen (fun n => ∀ i, i < n → Sp.okFieldAt s i = true) (fun i hi => by omega) (fun I μ n hn hJ next => ?_) fun I μ hJ => ?_
  · dsimp only
    have no : Sp.okFieldAt s n = false → (false, ()) = (Sp.okSchema s, ()) := fun h => by rw [Sp.okSchema_no hn h]
    have rest : Sp.okName (Sp.fieldAt s n).1 = true → (decide (1 ≤ (Sp.fieldAt s n).2.1) && decide ((Sp.fieldAt s n).2.1 ≤ 2)) = true →
        bif decide ((n : Int) > 0) then
          ((0 : Int) ≤ IntKind.i64.wrap ((n : Int) - 1) ∧ IntKind.i64.wrap ((n : Int) - 1) < (s.length : Int)) ∧
            bif !Op.bytesLess (s.getD (IntKind.i64.wrap ((n : Int) - 1)).toNat ([], 0, ())).fst (s.getD (Int.toNat (n : Int)) ([], 0, ())).fst then (false, ()) = (Sp.okSchema s, ())
            else True ∧ I ((IntKind.i64.wrap ((n : Int) + 1), ()), ()) ∧ μ ((IntKind.i64.wrap ((n : Int) + 1), ()), ()) < μ (((n : Int), ()), ())
        else True ∧ I ((IntKind.i64.wrap ((n : Int) + 1), ()), ()) ∧ μ ((IntKind.i64.wrap ((n : Int) + 1), ()), ()) < μ (((n : Int), ()), ()) := by
      intro h2 h3
      refine cond_intro (fun h4 => ?_) fun h4 => ⟨trivial, next (all_upto_next hJ ?_)⟩
      · have h4 : 0 < n := by have := decT h4; omega
        rw [pred_in h4 (by omega)]
        refine ⟨⟨by omega, by omega⟩, cond_intro (fun h5 => no ?_) fun h5 => ⟨trivial, next (all_upto_next hJ ?_)⟩⟩
        · have h5 : Op.bytesLess (Sp.fieldAt s (n - 1)).1 (Sp.fieldAt s n).1 = false := notT h5
          unfold Sp.okFieldAt; rw [h2, h3, h5, decide_eq_true h4]; rfl
        · have h5 : Op.bytesLess (Sp.fieldAt s (n - 1)).1 (Sp.fieldAt s n).1 = true := notF h5
          unfold Sp.okFieldAt; rw [h2, h3, h5, decide_eq_true h4]; rfl
      · have h4 : ¬ 0 < n := by have := decF h4; omega
        unfold Sp.okFieldAt; rw [h2, h3, decide_eq_false h4]; rfl
    simp only [true_and] at rest
    refine condT (by omega) ⟨⟨by omega, by omega⟩, trivial, cond_intro (fun h2 => no ?_) fun h2 => cond_intro (fun h3 => cond_intro (fun h4 => no ?_) fun h4 => ?_) fun h3 => ?_⟩
    · have h2 : Sp.okName (Sp.fieldAt s n).1 = false := notT h2
      unfold Sp.okFieldAt; rw [h2]; rfl
    · have h2 : Sp.okName (Sp.fieldAt s n).1 = true := notF h2
      have h3 : (decide (1 ≤ (Sp.fieldAt s n).2.1) && decide ((Sp.fieldAt s n).2.1 ≤ 2)) = false := kind_no h3 h4
      unfold Sp.okFieldAt; rw [h2, h3]; rfl
    · have h2 : Sp.okName (Sp.fieldAt s n).1 = true := notF h2
      have h3 : (decide (1 ≤ (Sp.fieldAt s n).2.1) && decide ((Sp.fieldAt s n).2.1 ≤ 2)) = true := kind12 (.inr h4)
      simp only [true_and]
      exact rest h2 h3
    · have h2 : Sp.okName (Sp.fieldAt s n).1 = true := notF h2
      have h3 : (decide (1 ≤ (Sp.fieldAt s n).2.1) && decide ((Sp.fieldAt s n).2.1 ≤ 2)) = true := kind12 (.inl h3)
      simp only [true_and]
      exact rest h2 h3
  · dsimp only
    refine condF (by omega) (congrArg (·, ()) ?_)
    unfold Sp.okSchema
    rw [allUpto_true hJ]; rfl
theorem ok_impl_MatchesSchema : ConOK prog G n_impl_MatchesSchema con_impl_MatchesSchema := by
  refine wk_impl_MatchesSchema (env_of (l := [(n_impl_FieldKind, .pure con_impl_FieldKind), (n_impl_IsValidValue, .pure con_impl_IsValidValue)]) (types_ok types_checked) (by simp only [List.forall_mem_cons]; exact ⟨⟨ok_impl_FieldKind, cal_impl_FieldKind⟩, ⟨ok_impl_IsValidValue, cal_impl_IsValidValue⟩, fun x hx => by cases hx⟩)) ?_
  intro fs s k n w hin hp
  refine ⟨trivial, cond_intro (fun h => cond_intro (fun h2 => ⟨trivial, ?_⟩) fun h2 => ?_) fun h => ?_⟩
  · exact congrArg (·, ()) (Bool.eq_iff_iff.2 (by simp only [bne_iff_ne, ne_eq] at h2; simp [Sp.matchesS, h, h2]))
  · exact congrArg (·, ()) (Bool.eq_iff_iff.2 (by simp at h2; simp [Sp.matchesS, h2]))
  · exact congrArg (·, ()) (Bool.eq_iff_iff.2 (by simp [Sp.matchesS, h]))
theorem ok_impl_IsValidFile : ConOK prog G n_impl_IsValidFile con_impl_IsValidFile := by
  refine wk_impl_IsValidFile (env_of (l := [(n_impl_IsValidSchema, .pure con_impl_IsValidSchema), (n_impl_isUser, .pure con_impl_isUser), (n_impl_within, .pure con_impl_within), (n_impl_MatchesSchema, .pure con_impl_MatchesSchema)]) (types_ok types_checked) (by simp only [List.forall_mem_cons]; exact ⟨⟨ok_impl_IsValidSchema, cal_impl_IsValidSchema⟩, ⟨ok_impl_isUser, cal_impl_isUser⟩, ⟨ok_impl_within, cal_impl_within⟩, ⟨ok_impl_MatchesSchema, cal_impl_MatchesSchema⟩, fun x hx => by cases hx⟩)) ?_
  intro fs f0 f1 f2 f3 f4 hin hp
  have hlen : f4.length ≤ maxLen := hin.2.1.2.2.2.2.1.1
  rw [maxLen_eq] at hlen
  refine up_loop f4.length hlen (fun n => ∀ i, i < n → Sp.okAttrAt fs f4 i = true) (fun i hi => by omega) (fun I μ n hn hJ next => ?_) fun I μ hJ => ?_
  · dsimp only
    have no : Sp.okAttrAt fs f4 n = false → (false, ()) = (Sp.okFile fs (f0, f1, f2, f3, f4, ()), ()) := fun h => by rw [Sp.okFile_no (f := (f0, f1, f2, f3, f4, ())) hn h]
    refine condT (by omega) ⟨⟨by omega, by omega⟩, cond_intro (fun h4 => ?_) fun h4 => ⟨trivial, cond_intro (fun h2 => no ?_) fun h2 => ⟨rfl, next (all_upto_next hJ ?_)⟩⟩⟩
    · have h4 : 0 < n := by have := decT h4; omega
      rw [pred_in h4 (by omega)]
      refine ⟨⟨by omega, by omega⟩, cond_intro (fun h5 => no ?_) fun h5 => ⟨trivial, cond_intro (fun h2 => no ?_) fun h2 => ⟨rfl, next (all_upto_next hJ ?_)⟩⟩⟩
      · have h5 : Op.bytesLess (Sp.attrAt f4 (n - 1)).1 (Sp.attrAt f4 n).1 = false := notT h5
        unfold Sp.okAttrAt; rw [h5, decide_eq_true h4]; exact Bool.and_false _
      · have h2 : Sp.matchesS fs (Sp.attrAt f4 n).1 (Sp.attrAt f4 n).2.1 (Sp.attrAt f4 n).2.2.1 (Sp.attrAt f4 n).2.2.2.1 = false := notT h2
        unfold Sp.okAttrAt; rw [h2]; rfl
      · have h2 : Sp.matchesS fs (Sp.attrAt f4 n).1 (Sp.attrAt f4 n).2.1 (Sp.attrAt f4 n).2.2.1 (Sp.attrAt f4 n).2.2.2.1 = true := notF h2
        have h5 : Op.bytesLess (Sp.attrAt f4 (n - 1)).1 (Sp.attrAt f4 n).1 = true := notF h5
        unfold Sp.okAttrAt; rw [h2, h5, decide_eq_true h4]; rfl
    · have h2 : Sp.matchesS fs (Sp.attrAt f4 n).1 (Sp.attrAt f4 n).2.1 (Sp.attrAt f4 n).2.2.1 (Sp.attrAt f4 n).2.2.2.1 = false := notT h2
      unfold Sp.okAttrAt; rw [h2]; rfl
    · have h2 : Sp.matchesS fs (Sp.attrAt f4 n).1 (Sp.attrAt f4 n).2.1 (Sp.attrAt f4 n).2.2.1 (Sp.attrAt f4 n).2.2.2.1 = true := notF h2
      have h4 : ¬ 0 < n := by have := decF h4; omega
      unfold Sp.okAttrAt; rw [h2, decide_eq_false h4]; rfl
  · dsimp only
    have ha : Sp.okAttrs fs f4 = true := allUpto_true hJ
    refine condF (by omega) ⟨trivial, cond_intro (fun h1 => ⟨trivial, cond_intro (fun h2 => ⟨trivial, cond_intro (fun h3 => ⟨trivial, ?_⟩) fun h3 => ?_⟩) fun h2 => ?_⟩) fun h1 => ?_⟩
    all_goals refine congrArg (·, ()) ?_
    · show Sp.okSchema fs = (Sp.okAttrs fs f4 && Sp.okSchema fs && (decide (1 ≤ f0) && decide (f0 ≤ 60)) && (decide (0 ≤ f1) && decide (f1 ≤ 2)) && (decide (0 ≤ f3) && decide (f3 ≤ 60)))
      rw [ha, h1, h2, h3]; cases Sp.okSchema fs <;> rfl
    · show false = (Sp.okAttrs fs f4 && Sp.okSchema fs && (decide (1 ≤ f0) && decide (f0 ≤ 60)) && (decide (0 ≤ f1) && decide (f1 ≤ 2)) && (decide (0 ≤ f3) && decide (f3 ≤ 60)))
      rw [h3, Bool.and_false]
    · show false = (Sp.okAttrs fs f4 && Sp.okSchema fs && (decide (1 ≤ f0) && decide (f0 ≤ 60)) && (decide (0 ≤ f1) && decide (f1 ≤ 2)) && (decide (0 ≤ f3) && decide (f3 ≤ 60)))
      rw [h2, Bool.and_false, Bool.false_and]
    · show false = (Sp.okAttrs fs f4 && Sp.okSchema fs && (decide (1 ≤ f0) && decide (f0 ≤ 60)) && (decide (0 ≤ f1) && decide (f1 ≤ 2)) && (decide (0 ≤ f3) && decide (f3 ≤ 60)))
      rw [h1, Bool.and_false, Bool.false_and, Bool.false_and]
theorem ok_impl_IsValidStore : ConOK prog G n_impl_IsValidStore con_impl_IsValidStore := by
  refine wk_impl_IsValidStore (env_of (l := [(n_impl_within, .pure con_impl_within), (n_impl_IsValidSchema, .pure con_impl_IsValidSchema), (n_impl_IsValidFile, .pure con_impl_IsValidFile)]) (types_ok types_checked) (by simp only [List.forall_mem_cons]; exact ⟨⟨ok_impl_within, cal_impl_within⟩, ⟨ok_impl_IsValidSchema, cal_impl_IsValidSchema⟩, ⟨ok_impl_IsValidFile, cal_impl_IsValidFile⟩, fun x hx => by cases hx⟩)) ?_
  intro s0 s1 s2 hin hp
  have hlen : s1.length ≤ maxLen := hin.1.2.1.1
  rw [maxLen_eq] at hlen
  refine up_loop s1.length hlen (fun n => ∀ i, i < n → Sp.okFileAt (s0, s1, s2, ()) i = true) (fun i hi => by omega) (fun I μ n hn hJ next => ?_) fun I μ hJ => ?_
  · dsimp only
    have no : Sp.okFileAt (s0, s1, s2, ()) n = false → (false, ()) = (Sp.okStore (s0, s1, s2, ()), ()) := fun h => by rw [Sp.okStore_no (s := (s0, s1, s2, ())) hn h]
    refine condT (by omega) ⟨⟨by omega, by omega⟩, trivial, cond_intro (fun h2 => no ?_) fun h2 => cond_intro (fun h3 => no ?_) fun h3 => cond_intro (fun h4 => ?_) fun h4 => ⟨rfl, next (all_upto_next hJ ?_)⟩⟩
    · have h2 : Sp.okFile s0 (Sp.fileAt s1 n) = false := notT h2
      show (Sp.okFile s0 (Sp.fileAt s1 n) && _ && _) = false
      rw [h2]; rfl
    · have h2 : Sp.okFile s0 (Sp.fileAt s1 n) = true := notF h2
      have h3 : ¬ (Sp.fileAt s1 n).1 < s2 := by have h3 : (Sp.fileAt s1 n).1 ≥ s2 := decT h3; omega
      show (Sp.okFile s0 (Sp.fileAt s1 n) && decide ((Sp.fileAt s1 n).1 < s2) && _) = false
      rw [h2, decide_eq_false h3]; rfl
    · have h2 : Sp.okFile s0 (Sp.fileAt s1 n) = true := notF h2
      have h3 : (Sp.fileAt s1 n).1 < s2 := by have h3 : ¬ (Sp.fileAt s1 n).1 ≥ s2 := decF h3; omega
      have h4 : 0 < n := by have := decT h4; omega
      rw [pred_in h4 (by omega)]
      refine ⟨⟨by omega, by omega⟩, cond_intro (fun h5 => no ?_) fun h5 => ⟨rfl, next (all_upto_next hJ ?_)⟩⟩
      · have h5 : ¬ (Sp.fileAt s1 (n - 1)).1 < (Sp.fileAt s1 n).1 := by have h5 : (Sp.fileAt s1 (n - 1)).1 ≥ (Sp.fileAt s1 n).1 := decT h5; omega
        show (Sp.okFile s0 (Sp.fileAt s1 n) && decide ((Sp.fileAt s1 n).1 < s2) && !(decide (0 < n) && !decide ((Sp.fileAt s1 (n - 1)).1 < (Sp.fileAt s1 n).1))) = false
        rw [h2, decide_eq_true h3, decide_eq_true h4, decide_eq_false h5]; rfl
      · have h5 : (Sp.fileAt s1 (n - 1)).1 < (Sp.fileAt s1 n).1 := by have h5 : ¬ (Sp.fileAt s1 (n - 1)).1 ≥ (Sp.fileAt s1 n).1 := decF h5; omega
        show (Sp.okFile s0 (Sp.fileAt s1 n) && decide ((Sp.fileAt s1 n).1 < s2) && !(decide (0 < n) && !decide ((Sp.fileAt s1 (n - 1)).1 < (Sp.fileAt s1 n).1))) = true
        rw [h2, decide_eq_true h3, decide_eq_true h4, decide_eq_true h5]; rfl
    · have h2 : Sp.okFile s0 (Sp.fileAt s1 n) = true := notF h2
      have h3 : (Sp.fileAt s1 n).1 < s2 := by have h3 : ¬ (Sp.fileAt s1 n).1 ≥ s2 := decF h3; omega
      have h4 : ¬ 0 < n := by have := decF h4; omega
      show (Sp.okFile s0 (Sp.fileAt s1 n) && decide ((Sp.fileAt s1 n).1 < s2) && !(decide (0 < n) && !decide ((Sp.fileAt s1 (n - 1)).1 < (Sp.fileAt s1 n).1))) = true
      rw [h2, decide_eq_true h3, decide_eq_false h4]; rfl
  · dsimp only
    have ha : Sp.allUpto s1.length (Sp.okFileAt (s0, s1, s2, ())) = true := allUpto_true hJ
    refine condF (by omega) ⟨trivial, cond_intro (fun h1 => cond_intro (fun h2 => ⟨trivial, ?_⟩) fun h2 => ?_) fun h1 => ?_⟩
    · refine congrArg (·, ()) ?_
      show _ = (Sp.allUpto s1.length (Sp.okFileAt (s0, s1, s2, ())) && Sp.okSchema s0 && decide ((s1.length : Int) ≤ 12) && (decide (1 ≤ s2) && decide (s2 ≤ 61)))
      rw [ha, h1, h2]; rfl
    · refine congrArg (·, ()) ?_
      show _ = (Sp.allUpto s1.length (Sp.okFileAt (s0, s1, s2, ())) && Sp.okSchema s0 && decide ((s1.length : Int) ≤ 12) && (decide (1 ≤ s2) && decide (s2 ≤ 61)))
      rw [ha, h1, h2]; rfl
    · refine congrArg (·, ()) ?_
      show _ = (Sp.allUpto s1.length (Sp.okFileAt (s0, s1, s2, ())) && Sp.okSchema s0 && decide ((s1.length : Int) ≤ 12) && (decide (1 ≤ s2) && decide (s2 ≤ 61)))
      rw [ha, h1]; rfl
theorem ok_impl_FindFile : ConOK prog G n_impl_FindFile con_impl_FindFile := by
  refine wk_impl_FindFile (env_of (l := [(n_impl_copyFile, .pure con_impl_copyFile), (n_impl_fileAt, .pure con_impl_fileAt)]) (types_ok types_checked) (by simp only [List.forall_mem_cons]; exact ⟨⟨ok_impl_copyFile, cal_impl_copyFile⟩, ⟨ok_impl_fileAt, cal_impl_fileAt⟩, fun x hx => by cases hx⟩)) ?_
  intro s0 s1 s2 id hin hp
  obtain ⟨h0, h1, h2⟩ : s0.length ≤ 1000 ∧ s1.length ≤ 1000 ∧ ∀ f ∈ s1, Sp.smallF f := hp
  refine ⟨trivial, ?_⟩
  rcases Sp.place_cases s1 id with ⟨h, _⟩ | ⟨n, hn, h, _, _⟩
  · have e : Sp.findFile (s0, s1, s2, ()) id = (Sp.noFile, false) := by
      show (bif decide (Sp.place s1 id < 0) then _ else _) = _
      rw [h]; rfl
    refine condF (by omega) ?_
    show _ = ((Sp.findFile (s0, s1, s2, ()) id).1, (Sp.findFile (s0, s1, s2, ()) id).2, ())
    rw [e]; rfl
  · have e : Sp.findFile (s0, s1, s2, ()) id = (Sp.fileAt s1 n, true) := by
      show (bif decide (Sp.place s1 id < 0) then _ else (Sp.fileAt s1 (Sp.place s1 id).toNat, true)) = _
      rw [h, decide_eq_false (by omega)]; rfl
    refine condT (by omega) ⟨⟨by omega, by omega⟩, ?_, ?_⟩
    · rw [h, Int.toNat_natCast]
      exact h2 _ (getD_mem (d := ((0 : Int), (0 : Int), false, (0 : Int), [], ())) hn)
    · show _ = ((Sp.findFile (s0, s1, s2, ()) id).1, (Sp.findFile (s0, s1, s2, ()) id).2, ())
      rw [e, h]; rfl
end Go.Proofs.Try


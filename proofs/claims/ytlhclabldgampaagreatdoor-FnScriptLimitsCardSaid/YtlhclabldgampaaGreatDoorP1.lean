import Derived.Test.YtlhclabldgampaaGreatDoorV1
import Derived.Test.YtlhclabldgampaaGreatDoorV2
import Derived.Test.YtlhclabldgampaaGreatDoorL4
import Derived.Test.YtlhclabldgampaaGreatDoorFwC
import Derived.Test.YtlhclabldgampaaGreatDoorSp
namespace Go.Proofs.Tryz
open Go Go.Fw Go.IntWalk

theorem ok_impl_FormatInt : ConOK prog G n_impl_FormatInt con_impl_FormatInt := by
  refine wk_impl_FormatInt (env_of (l := [(n_strconv_Itoa, .pure con_strconv_Itoa)]) (types_ok types_checked) (by simp only [List.forall_mem_cons]; exact ⟨⟨ok_strconv_Itoa, cal_strconv_Itoa⟩, fun x hx => by cases hx⟩)) ?_
  intro n hin hp
  exact ⟨hin.1, rfl⟩


theorem and2 {p q : Bool} {K : Bool × Unit → Prop} (h : K ((p && q), ())) : bif p then K (q, ()) else K (false, ()) := by
  cases p <;> exact h
theorem ok_impl_within : ConOK prog G n_impl_within con_impl_within := by
  refine wk_impl_within (env_of (l := []) (types_ok types_checked) (fun x hx => by cases hx)) ?_
  intro x a b hin hp
  exact and2 (K := fun r => r = (_, ())) rfl

theorem ok_impl_IsValidAction : ConOK prog G n_impl_IsValidAction con_impl_IsValidAction := by
  refine wk_impl_IsValidAction (env_of (l := [(n_impl_within, .pure con_impl_within)]) (types_ok types_checked) (by simp only [List.forall_mem_cons]; exact ⟨⟨ok_impl_within, cal_impl_within⟩, fun x hx => by cases hx⟩)) ?_
  intro a0 a1 a2 a3 a4 hin hp
  exact ⟨trivial, and2 (K := fun r => r = (_, ())) rfl⟩

theorem ok_impl_areNumbers_1 : ConOK prog G n_impl_areNumbers_1 con_impl_areNumbers_1 := by
  refine wk_impl_areNumbers_1 (env_of (l := [(n_impl_within, .pure con_impl_within)]) (types_ok types_checked) (by simp only [List.forall_mem_cons]; exact ⟨⟨ok_impl_within, cal_impl_within⟩, fun x hx => by cases hx⟩)) ?_
  intro n hin hp
  exact ⟨trivial, rfl⟩

theorem idxFrom_iff : ∀ (l : Sp.LI) (k : Int), 0 ≤ k → decide (Sp.idxFrom k l ≥ 0) = !Sp.areUints l
  | [], k, h => by simp [Sp.idxFrom, Sp.areUints]
  | x :: r, k, h => by
    have ih := idxFrom_iff r (k + 1) (by omega)
    unfold Sp.areUints at ih ⊢
    rw [Sp.idxFrom, List.all_cons]
    cases hx : Sp.isUint x.1 with
    | true => rw [if_pos rfl, ih]; rfl
    | false => rw [if_neg (by simp)]; simp [h]


theorem ok_impl_IsValidString : ConOK prog G n_impl_IsValidString con_impl_IsValidString := by
  refine wk_impl_IsValidString (env_of (l := [(n_impl_within, .pure con_impl_within)]) (types_ok types_checked) (by simp only [List.forall_mem_cons]; exact ⟨⟨ok_impl_within, cal_impl_within⟩, fun x hx => by cases hx⟩)) ?_
  intro s hin hp
  have hlen : s.length ≤ maxLen := hin.1
  rw [maxLen_eq] at hlen
  refine ⟨fun y => ∃ n : Nat, y.1.1 = n ∧ n ≤ s.length ∧ Sp.lower (s.take n) = true, fun y => ((s.length : Int) - y.1.1).toNat, ⟨0, rfl, by omega, rfl⟩, ?_⟩
  rintro ⟨⟨_, ⟨⟩⟩, ⟨⟩⟩ ⟨n, rfl, hn, hJ⟩
  dsimp only
  have hall : n < s.length → ∀ x, s.getD n 0 = x → Sp.lower s = true → 97 ≤ x.toNat ∧ x.toNat ≤ 122 := by
    intro hlt x hx hl
    have := List.all_eq_true.1 hl x (by rw [← hx]; exact getD_mem hlt)
    simpa using this
  refine cond_intro (fun h => ?_) fun h => ?_ <;> simp only [decide_eq_true_eq, decide_eq_false_iff_not] at h
  · have hlt : n < s.length := by omega
    rw [wrapIn _ (by omega), Int.toNat_natCast]
    refine ⟨⟨by omega, by omega⟩, cond_intro (fun h2 => ?_) fun h2 => ⟨⟨by omega, by omega⟩, cond_intro (fun h3 => ?_) fun h3 => ?_⟩⟩ <;> simp only [decide_eq_true_eq, decide_eq_false_iff_not] at *
    · unfold Sp.validStr
      cases hl : Sp.lower s with
      | false => rfl
      | true => have := hall hlt _ rfl hl; omega
    · unfold Sp.validStr
      cases hl : Sp.lower s with
      | false => rfl
      | true => have := hall hlt _ rfl hl; omega
    · refine ⟨trivial, ⟨n + 1, by simp, by omega, ?_⟩, by omega⟩
      rw [Sp.take_succ' s n 0 hlt]
      unfold Sp.lower at hJ ⊢
      rw [List.all_append, hJ]
      simp only [List.all_cons, List.all_nil, Bool.and_true, Bool.true_and, Bool.and_eq_true, decide_eq_true_eq]
      omega
  · have hge : n = s.length := by omega
    rw [hge, List.take_length] at hJ
    unfold Sp.validStr
    rw [hJ]
    exact ⟨trivial, rfl⟩


theorem ok_slices_IndexFunc_int__impl_areNumbers_1 : ConOK prog G n_slices_IndexFunc_int__impl_areNumbers_1 con_slices_IndexFunc_int__impl_areNumbers_1 := by
  refine wk_slices_IndexFunc_int__impl_areNumbers_1 (env_of (l := [(n_impl_areNumbers_1, .pure con_impl_areNumbers_1)]) (types_ok types_checked) (by simp only [List.forall_mem_cons]; exact ⟨⟨ok_impl_areNumbers_1, cal_impl_areNumbers_1⟩, fun x hx => by cases hx⟩)) ?_
  intro s hin hp
  have hlen : s.length ≤ maxLen := hin.1.1
  rw [maxLen_eq] at hlen
  refine ⟨fun y => ∃ n : Nat, y.1.1 = n ∧ n ≤ s.length ∧ Sp.idxOf s = Sp.idxFrom n (s.drop n), fun y => ((s.length : Int) - y.1.1).toNat, ⟨0, rfl, by omega, rfl⟩, ?_⟩
  rintro ⟨⟨_, ⟨⟩⟩, ⟨⟩⟩ ⟨n, rfl, hn, hJ⟩
  dsimp only
  refine cond_intro (fun h => ?_) fun h => ?_ <;> simp only [decide_eq_true_eq, decide_eq_false_iff_not] at h
  · have hlt : n < s.length := by omega
    rw [drop_cons s n (0, ()) hlt, Sp.idxFrom] at hJ
    rw [wrapIn _ (by omega), Int.toNat_natCast]
    refine ⟨⟨by omega, by omega⟩, trivial, cond_intro (fun h2 => ?_) fun h2 => ?_⟩
    · rw [if_neg (by intro h3; rw [h3] at h2; cases h2)] at hJ
      rw [hJ]
    · have h3 : Sp.isUint (s.getD n (0, ())).1 = true := by simpa using h2
      rw [if_pos h3] at hJ
      exact ⟨rfl, ⟨n + 1, by simp, by omega, hJ⟩, by omega⟩
  · have hge : n = s.length := by omega
    rw [hge, List.drop_length] at hJ
    rw [hJ]; rfl

theorem ok_slices_ContainsFunc_int__impl_areNumbers_1 : ConOK prog G n_slices_ContainsFunc_int__impl_areNumbers_1 con_slices_ContainsFunc_int__impl_areNumbers_1 := by
  refine wk_slices_ContainsFunc_int__impl_areNumbers_1 (env_of (l := [(n_slices_IndexFunc_int__impl_areNumbers_1, .pure con_slices_IndexFunc_int__impl_areNumbers_1), (n_impl_areNumbers_1, .pure con_impl_areNumbers_1)]) (types_ok types_checked) (by simp only [List.forall_mem_cons]; exact ⟨⟨ok_slices_IndexFunc_int__impl_areNumbers_1, cal_slices_IndexFunc_int__impl_areNumbers_1⟩, ⟨ok_impl_areNumbers_1, cal_impl_areNumbers_1⟩, fun x hx => by cases hx⟩)) ?_
  intro s hin hp
  have h : decide (Sp.idxOf s ≥ 0) = !Sp.areUints s := idxFrom_iff s 0 (by omega)
  exact ⟨trivial, by rw [h]⟩

theorem ok_impl_areNumbers : ConOK prog G n_impl_areNumbers con_impl_areNumbers := by
  refine wk_impl_areNumbers (env_of (l := [(n_impl_areNumbers_1, .pure con_impl_areNumbers_1), (n_slices_ContainsFunc_int__impl_areNumbers_1, .pure con_slices_ContainsFunc_int__impl_areNumbers_1)]) (types_ok types_checked) (by simp only [List.forall_mem_cons]; exact ⟨⟨ok_impl_areNumbers_1, cal_impl_areNumbers_1⟩, ⟨ok_slices_ContainsFunc_int__impl_areNumbers_1, cal_slices_ContainsFunc_int__impl_areNumbers_1⟩, fun x hx => by cases hx⟩)) ?_
  intro l hin hp
  exact ⟨trivial, by rw [Bool.not_not]⟩

theorem itoa_bound (n : Int) (h : (-9223372036854775808 : Int) ≤ n ∧ n ≤ (9223372036854775807 : Int)) : (Lib.itoa n).length ≤ 21 := Lib.itoa_length_le n h.1 h.2
theorem le_max {n : Nat} (h : n ≤ 9000000) : n ≤ maxLen := by rw [maxLen_eq]; omega

theorem join2 (x y : List UInt8) : Lib.join [x, y] [32] = x ++ [32] ++ y := by simp [Lib.join_cons, Lib.joinTail]
theorem join3 (x y z : List UInt8) : Lib.join [x, y, z] [32] = x ++ [32] ++ y ++ [32] ++ z := by simp [Lib.join_cons, Lib.joinTail]
theorem join4 (x y z w : List UInt8) : Lib.join [x, y, z, w] [32] = x ++ [32] ++ y ++ [32] ++ z ++ [32] ++ w := by simp [Lib.join_cons, Lib.joinTail]
theorem join1 (x : List UInt8) : Lib.join [x] [32] = x := by simp [Lib.join_cons, Lib.joinTail]

theorem bne_of {α : Type} [BEq α] [LawfulBEq α] {x y : α} (h : x ≠ y) : (x == y) = false ∧ (y == x) = false ∧ (x != y) = true ∧ (y != x) = true := by
  have h1 : (x == y) = false := by simpa using h
  have h2 : (y == x) = false := by simpa using Ne.symm h
  exact ⟨h1, h2, by simp [bne, h1], by simp [bne, h2]⟩
theorem ok_impl_FormatAction : ConOK prog G n_impl_FormatAction con_impl_FormatAction := by
  refine wk_impl_FormatAction (env_of (l := [(n_strings_Join, .pure con_strings_Join), (n_impl_IsValidString, .pure con_impl_IsValidString), (n_impl_areNumbers, .pure con_impl_areNumbers), (n_impl_IsValidAction, .pure con_impl_IsValidAction), (n_impl_FormatInt, .pure con_impl_FormatInt)]) (types_ok types_checked) (by simp only [List.forall_mem_cons]; exact ⟨⟨ok_strings_Join, cal_strings_Join⟩, ⟨ok_impl_IsValidString, cal_impl_IsValidString⟩, ⟨ok_impl_areNumbers, cal_impl_areNumbers⟩, ⟨ok_impl_IsValidAction, cal_impl_IsValidAction⟩, ⟨ok_impl_FormatInt, cal_impl_FormatInt⟩, fun x hx => by cases hx⟩)) ?_
  intro k u c n a hin hp
  have hn : n.length ≤ 1048576 := hp
  have hu := itoa_bound u hin.1.2.1
  have ha := itoa_bound a hin.1.2.2.2.2.1
  clear hin hp
  have eU : Sp.areUints [(u, ()), (a, ())] = (Sp.isUint u && Sp.isUint a) := by simp [Sp.areUints]
  have i0 : Sp.isUint 0 = true := rfl
  by_cases k1 : k = 1
  · subst k1
    simp only [VC_impl_FormatAction, Int.reduceBEq, cond_true, cond_false]
    refine join_intro _ ⟨by trivial, by trivial, rfl⟩ (join_intro _ ⟨by trivial, rfl⟩ (join_intro _ ⟨by trivial, rfl⟩ ⟨trivial, ?_⟩))
    dsimp only
    rw [eU]
    unfold Sp.actionText
    simp only [Int.reduceBEq, Bool.true_and, Bool.false_and, cond_false, Int.reduceGT, decide_true, decide_false, Bool.and_true, Bool.and_false]
    generalize decide ((c.length : Int) > 0) = z
    generalize Sp.validAct 1 c.length = v
    by_cases hn : n = []
    rotate_left
    · cases v <;> cases z <;> simp [hn, bne_of hn]
    subst hn
    by_cases ha : a = 0
    rotate_left
    · cases v <;> cases z <;> simp [ha, bne_of ha]
    subst ha
    simp only [i0, Bool.true_and, Bool.and_true, bne_self_eq_false, beq_self_eq_true, Bool.not_true, cond_false, Bool.not_false, cond_true]
    cases v <;> cases z <;> cases (Sp.isUint u) <;> simp only [Bool.not_true, Bool.not_false, cond_true, cond_false, true_and, Bool.and_true, Bool.and_false, Bool.true_and] <;> first
      | rfl
      | exact ⟨⟨by show 2 ≤ 140737488355328; omega, by show (Lib.join [_, _] [32]).length ≤ _; rw [join2]; simp only [List.length_append, List.length_cons, List.length_nil] <;> omega⟩, by show (Lib.join [_, _] [32], ()) = _; rw [join2]; rfl⟩
  by_cases k2 : k = 2
  · subst k2
    simp only [VC_impl_FormatAction, Int.reduceBEq, cond_true, cond_false]
    refine join_intro _ ⟨by trivial, by trivial, by trivial, rfl⟩ (join_intro _ ⟨by trivial, rfl⟩ (join_intro _ ⟨by trivial, rfl⟩ ⟨trivial, ?_⟩))
    dsimp only
    rw [eU]
    unfold Sp.actionText
    simp only [Int.reduceBEq, Bool.true_and, Bool.false_and, cond_false, Int.reduceGT, decide_true, decide_false, Bool.and_true, Bool.and_false]
    generalize decide ((c.length : Int) > 0) = z
    generalize Sp.validAct 2 c.length = v
    by_cases hn : n = []
    rotate_left
    · cases v <;> cases z <;> simp [hn, bne_of hn]
    subst hn
    simp only [i0, Bool.true_and, Bool.and_true, bne_self_eq_false, beq_self_eq_true, Bool.not_true, cond_false, Bool.not_false, cond_true]
    cases v <;> cases z <;> cases (Sp.isUint u) <;> cases (Sp.isUint a) <;> simp only [Bool.not_true, Bool.not_false, cond_true, cond_false, true_and, Bool.and_true, Bool.and_false, Bool.true_and] <;> first
      | rfl
      | exact ⟨⟨by show 3 ≤ 140737488355328; omega, by show (Lib.join [_, _, _] [32]).length ≤ _; rw [join3]; simp only [List.length_append, List.length_cons, List.length_nil] <;> omega⟩, by show (Lib.join [_, _, _] [32], ()) = _; rw [join3]; rfl⟩
  by_cases k3 : k = 3
  · subst k3
    simp only [VC_impl_FormatAction, Int.reduceBEq, cond_true, cond_false]
    refine join_intro _ ⟨by trivial, by trivial, rfl⟩ (join_intro _ ⟨by trivial, rfl⟩ (join_intro _ ⟨by trivial, rfl⟩ ⟨trivial, ?_⟩))
    dsimp only
    rw [eU]
    unfold Sp.actionText
    simp only [Int.reduceBEq, Bool.true_and, Bool.false_and, cond_false, Int.reduceGT, decide_true, decide_false, Bool.and_true, Bool.and_false]
    generalize decide ((c.length : Int) > 0) = z
    generalize Sp.validAct 3 c.length = v
    by_cases ha : a = 0
    rotate_left
    · cases v <;> cases z <;> simp [ha, bne_of ha]
    subst ha
    simp only [i0, Bool.true_and, Bool.and_true, bne_self_eq_false, beq_self_eq_true, Bool.not_true, cond_false, Bool.not_false, cond_true]
    cases v <;> cases z <;> cases (Sp.isUint u) <;> cases (Sp.validStr n) <;> simp only [Bool.not_true, Bool.not_false, cond_true, cond_false, true_and, Bool.and_true, Bool.and_false, Bool.true_and] <;> first
      | rfl
      | exact ⟨⟨by show 3 ≤ 140737488355328; omega, by show (Lib.join [_, _, _] [32]).length ≤ _; rw [join3]; simp only [List.length_append, List.length_cons, List.length_nil] <;> omega⟩, by show (Lib.join [_, _, _] [32], ()) = _; rw [join3]; rfl⟩
  by_cases k4 : k = 4
  · subst k4
    simp only [VC_impl_FormatAction, Int.reduceBEq, cond_true, cond_false]
    refine join_intro _ ⟨by trivial, by trivial, rfl⟩ (join_intro _ ⟨by trivial, rfl⟩ (join_intro _ ⟨by trivial, rfl⟩ ⟨trivial, ?_⟩))
    dsimp only
    rw [eU]
    unfold Sp.actionText
    simp only [Int.reduceBEq, Bool.true_and, Bool.false_and, cond_false, Int.reduceGT, decide_true, decide_false, Bool.and_true, Bool.and_false]
    generalize decide ((c.length : Int) > 0) = z
    generalize Sp.validAct 4 c.length = v
    by_cases hu : u = 0
    rotate_left
    · cases v <;> cases z <;> simp [hu, bne_of hu]
    subst hu
    by_cases hn : n = []
    rotate_left
    · cases v <;> cases z <;> simp [hn, bne_of hn]
    subst hn
    simp only [i0, Bool.true_and, Bool.and_true, bne_self_eq_false, beq_self_eq_true, Bool.not_true, cond_false, Bool.not_false, cond_true]
    cases v <;> cases z <;> cases (Sp.isUint a) <;> simp only [Bool.not_true, Bool.not_false, cond_true, cond_false, true_and, Bool.and_true, Bool.and_false, Bool.true_and] <;> first
      | rfl
      | exact ⟨⟨by show 2 ≤ 140737488355328; omega, by show (Lib.join [_, _] [32]).length ≤ _; rw [join2]; simp only [List.length_append, List.length_cons, List.length_nil] <;> omega⟩, by show (Lib.join [_, _] [32], ()) = _; rw [join2]; rfl⟩
  by_cases k5 : k = 5
  · subst k5
    simp only [VC_impl_FormatAction, Int.reduceBEq, cond_true, cond_false]
    refine join_intro _ ⟨by trivial, ⟨by decide, by simp⟩, by simp, by trivial, rfl⟩ (join_intro _ ⟨by trivial, rfl⟩ (join_intro _ ⟨by trivial, rfl⟩ ⟨trivial, ?_⟩))
    dsimp only
    rw [eU]
    unfold Sp.actionText
    simp only [Int.reduceBEq, Bool.true_and, Bool.false_and, cond_false, Int.reduceGT, decide_true, decide_false, Bool.and_true, Bool.and_false]
    generalize decide ((c.length : Int) > 0) = z
    generalize Sp.validAct 5 c.length = v
    by_cases hu : u = 0
    rotate_left
    · cases v <;> cases z <;> simp [hu, bne_of hu]
    subst hu
    by_cases hn : n = []
    rotate_left
    · cases v <;> cases z <;> simp [hn, bne_of hn]
    subst hn
    simp only [i0, Bool.true_and, Bool.and_true, bne_self_eq_false, beq_self_eq_true, Bool.not_true, cond_false, Bool.not_false, cond_true]
    cases v <;> cases z <;> cases (Sp.isUint a) <;> simp only [Bool.not_true, Bool.not_false, cond_true, cond_false, true_and, Bool.and_true, Bool.and_false, Bool.true_and] <;> first
      | rfl
      | exact ⟨⟨by show 2 ≤ 140737488355328; omega, by show (Lib.join [_, _] [32]).length ≤ _; rw [join2]; simp only [List.length_append, List.length_cons, List.length_nil] <;> omega⟩, by show (Lib.join [_, _] [32], ()) = _; rw [join2]; rfl⟩
  by_cases k6 : k = 6
  · subst k6
    simp only [VC_impl_FormatAction, Int.reduceBEq, cond_true, cond_false]
    refine join_intro _ ⟨by trivial, rfl⟩ (join_intro _ ⟨by trivial, rfl⟩ (join_intro _ ⟨by trivial, rfl⟩ ⟨trivial, ?_⟩))
    dsimp only
    rw [eU]
    unfold Sp.actionText
    simp only [Int.reduceBEq, Bool.true_and, Bool.false_and, cond_false, Int.reduceGT, decide_true, decide_false, Bool.and_true, Bool.and_false]
    generalize decide ((c.length : Int) > 0) = z
    generalize Sp.validAct 6 c.length = v
    by_cases hu : u = 0
    rotate_left
    · cases v <;> cases z <;> simp [hu, bne_of hu]
    subst hu
    by_cases hn : n = []
    rotate_left
    · cases v <;> cases z <;> simp [hn, bne_of hn]
    subst hn
    by_cases ha : a = 0
    rotate_left
    · cases v <;> cases z <;> simp [ha, bne_of ha]
    subst ha
    simp only [i0, Bool.true_and, Bool.and_true, bne_self_eq_false, beq_self_eq_true, Bool.not_true, cond_false, Bool.not_false, cond_true]
    cases v <;> cases z <;> simp only [Bool.not_true, Bool.not_false, cond_true, cond_false, true_and, Bool.and_true, Bool.and_false, Bool.true_and] <;> first
      | rfl
      | exact ⟨⟨by show 1 ≤ 140737488355328; omega, by show (Lib.join [_] [32]).length ≤ _; rw [join1]; simp only [List.length_append, List.length_cons, List.length_nil] <;> omega⟩, by show (Lib.join [_] [32], ()) = _; rw [join1]⟩
  by_cases k7 : k = 7
  · subst k7
    simp only [VC_impl_FormatAction, Int.reduceBEq, cond_true, cond_false]
    refine join_intro _ ⟨by trivial, by trivial, by trivial, rfl⟩ (join_intro _ ⟨by trivial, rfl⟩ (join_intro _ ⟨by trivial, rfl⟩ ⟨trivial, ?_⟩))
    dsimp only
    rw [eU]
    unfold Sp.actionText
    simp only [Int.reduceBEq, Bool.true_and, Bool.false_and, cond_false, Int.reduceGT, decide_true, decide_false, Bool.and_true, Bool.and_false]
    generalize decide ((c.length : Int) > 0) = z
    generalize Sp.validAct 7 c.length = v
    simp only [i0, Bool.true_and, Bool.and_true, bne_self_eq_false, beq_self_eq_true, Bool.not_true, cond_false, Bool.not_false, cond_true]
    cases v <;> cases z <;> cases (Sp.isUint u) <;> cases (Sp.isUint a) <;> cases (Sp.validStr n) <;> simp only [Bool.not_true, Bool.not_false, cond_true, cond_false, true_and, Bool.and_true, Bool.and_false, Bool.true_and] <;> first
      | rfl
      | exact ⟨⟨by show 4 ≤ 140737488355328; omega, by show (Lib.join [_, _, _, _] [32]).length ≤ _; rw [join4]; simp only [List.length_append, List.length_cons, List.length_nil] <;> omega⟩, by show (Lib.join [_, _, _, _] [32], ()) = _; rw [join4]; rfl⟩
  by_cases k8 : k = 8
  · subst k8
    simp only [VC_impl_FormatAction, Int.reduceBEq, cond_true, cond_false]
    refine join_intro _ ⟨by trivial, by trivial, by trivial, rfl⟩ (join_intro _ ⟨by trivial, rfl⟩ (join_intro _ ⟨by trivial, rfl⟩ ⟨trivial, ?_⟩))
    dsimp only
    rw [eU]
    unfold Sp.actionText
    simp only [Int.reduceBEq, Bool.true_and, Bool.false_and, cond_false, Int.reduceGT, decide_true, decide_false, Bool.and_true, Bool.and_false]
    generalize decide ((c.length : Int) > 0) = z
    generalize Sp.validAct 8 c.length = v
    simp only [i0, Bool.true_and, Bool.and_true, bne_self_eq_false, beq_self_eq_true, Bool.not_true, cond_false, Bool.not_false, cond_true]
    cases v <;> cases z <;> cases (Sp.isUint u) <;> cases (Sp.isUint a) <;> cases (Sp.validStr n) <;> simp only [Bool.not_true, Bool.not_false, cond_true, cond_false, true_and, Bool.and_true, Bool.and_false, Bool.true_and] <;> first
      | rfl
      | exact ⟨⟨by show 4 ≤ 140737488355328; omega, by show (Lib.join [_, _, _, _] [32]).length ≤ _; rw [join4]; simp only [List.length_append, List.length_cons, List.length_nil] <;> omega⟩, by show (Lib.join [_, _, _, _] [32], ()) = _; rw [join4]; rfl⟩
  have hv : Sp.validAct k c.length = false := by
    unfold Sp.validAct
    by_cases h1 : 1 ≤ k
    · by_cases h2 : k ≤ 8
      · omega
      · simp [h2]
    · simp [h1]
  simp only [VC_impl_FormatAction, bne_of k1, bne_of k2, bne_of k3, bne_of k4, bne_of k5, bne_of k6, bne_of k7, bne_of k8, cond_false]
  refine join_intro _ ⟨by trivial, rfl⟩ (join_intro _ ⟨by trivial, rfl⟩ (join_intro _ ⟨by trivial, rfl⟩ ⟨trivial, ?_⟩))
  unfold Sp.actionText
  rw [hv]
  rfl

theorem le_big {n : Nat} (h : n ≤ 1048576) : n ≤ big := by rw [big_eq]; omega
theorem szLen_big {n : Nat} (h : ¬ Sp.szLen n 1048576 < 0) : n ≤ 1048576 := by
  unfold Sp.szLen at h
  split at h <;> omega


theorem condB {b : Bool} {A B : Prop} (h : b = true) (a : A) : cond b A B := by rw [h]; exact a
theorem ok_impl_SplitFields : ConOK prog G n_impl_SplitFields con_impl_SplitFields := by
  refine wk_impl_SplitFields (env_of (l := [(n_strings_Fields, .pure con_strings_Fields), (n_impl_within, .pure con_impl_within)]) (types_ok types_checked) (by simp only [List.forall_mem_cons]; exact ⟨⟨ok_strings_Fields, cal_strings_Fields⟩, ⟨ok_impl_within, cal_impl_within⟩, fun x hx => by cases hx⟩)) ?_
  intro line hin hp
  refine cond_intro (fun h => ?_) fun h => ?_
  · exact (Sp.split_no fun hh => by have := decT h; omega).symm
  · have hl : line.length ≤ 600 := by have := decF h; omega
    refine up_loop line.length (by omega) (fun n => ∀ i, i < n → Sp.okByte (line.getD i 0) = true) (fun i hi => absurd hi (Nat.not_lt_zero _)) (fun I μ n hn hJ next => ?_) fun I μ hJ => ?_
    · dsimp only
      rw [Int.toNat_natCast, Sp.okByte_int]
      refine condT (by omega) ⟨⟨by omega, by omega⟩, trivial, cond_intro (fun h2 => ?_) fun h2 => ⟨rfl, next fun i hi => ?_⟩⟩
      · exact (Sp.split_no fun hh => by have := Sp.getD_all hh.2.1 hn; rw [notT h2] at this; cases this).symm
      · rcases Nat.lt_or_ge i n with h5 | h5
        · exact hJ i h5
        · rw [show i = n by omega]; exact notF h2
    · dsimp only
      have hall := Sp.all_getD hJ
      refine condF (by omega) ⟨⟨hp, Sp.ascii_ok hall⟩, cond_intro (fun h2 => ?_) fun h2 => ?_⟩
      · exact (Sp.split_no fun hh => by have := decT h2; rw [Sp.words_length] at this; omega).symm
      · exact (Sp.split_yes (Sp.splitOk_iff.2 ⟨hl, hall, by have := decF h2; rw [Sp.words_length] at this; omega⟩)).symm
theorem ok_impl_wordAt : ConOK prog G n_impl_wordAt con_impl_wordAt := by
  refine wk_impl_wordAt (env_of (l := []) (types_ok types_checked) (fun x hx => by cases hx)) ?_
  intro w i hin hp
  refine cond_intro (fun h => ?_) fun h => ⟨⟨hp, by have := decF h; omega⟩, ?_⟩
  · rw [Sp.wordAt_ge (decT h)]
  · rw [Sp.wordAt_lt (by have := decF h; omega)]
theorem ok_impl_numberAt : ConOK prog G n_impl_numberAt con_impl_numberAt := by
  refine wk_impl_numberAt (env_of (l := [(n_impl_ParseUint, .pure con_impl_ParseUint), (n_impl_wordAt, .pure con_impl_wordAt)]) (types_ok types_checked) (by simp only [List.forall_mem_cons]; exact ⟨⟨ok_impl_ParseUint, cal_impl_ParseUint⟩, ⟨ok_impl_wordAt, cal_impl_wordAt⟩, fun x hx => by cases hx⟩)) ?_
  intro w i hin hp
  exact ⟨hp, trivial, rfl⟩
theorem ok_slices_Equal_string : ConOK prog G n_slices_Equal_string con_slices_Equal_string := by
  refine wk_slices_Equal_string (env_of (l := []) (types_ok types_checked) (fun x hx => by cases hx)) ?_
  intro a b hin hp
  have hlen : a.length ≤ maxLen := hin.1.1
  rw [maxLen_eq] at hlen
  refine cond_intro (fun h => ?_) fun h => ?_
  · have h : (a.length : Int) ≠ b.length := by simpa using h
    exact congrArg (·, ()) (decide_eq_false fun e => h (by rw [e])).symm
  · have h : (a.length : Int) = b.length := by simpa using h
    exact eq_loop (K := fun r => r = (decide (a = b), ())) (fun x y => !(x.1 == y.1)) (fun x y => by simp [Prod.ext_iff]) _ a b _ hlen (by omega) (fun e => by rw [decide_eq_false e]) fun e => by rw [decide_eq_true e]
theorem ok_impl_sameFields : ConOK prog G n_impl_sameFields con_impl_sameFields := by
  refine wk_impl_sameFields (env_of (l := [(n_slices_Equal_string, .pure con_slices_Equal_string), (n_strings_Fields, .pure con_strings_Fields)]) (types_ok types_checked) (by simp only [List.forall_mem_cons]; exact ⟨⟨ok_slices_Equal_string, cal_slices_Equal_string⟩, ⟨ok_strings_Fields, cal_strings_Fields⟩, fun x hx => by cases hx⟩)) ?_
  intro text w hin hp
  refine cond_intro (fun h => ⟨hp, trivial, ?_⟩) fun h => ?_
  · rw [h, Bool.true_and]
  · rw [h, Bool.false_and]

theorem ok_impl_ParseAction : ConOK prog G n_impl_ParseAction con_impl_ParseAction := by
  refine wk_impl_ParseAction (env_of (l := [(n_impl_sameFields, .pure con_impl_sameFields), (n_impl_FormatAction, .pure con_impl_FormatAction), (n_impl_wordAt, .pure con_impl_wordAt), (n_impl_numberAt, .pure con_impl_numberAt), (n_impl_SplitFields, .pure con_impl_SplitFields)]) (types_ok types_checked) (by simp only [List.forall_mem_cons]; exact ⟨⟨ok_impl_sameFields, cal_impl_sameFields⟩, ⟨ok_impl_FormatAction, cal_impl_FormatAction⟩, ⟨ok_impl_wordAt, cal_impl_wordAt⟩, ⟨ok_impl_numberAt, cal_impl_numberAt⟩, ⟨ok_impl_SplitFields, cal_impl_SplitFields⟩, fun x hx => by cases hx⟩)) ?_
  intro line hin hp
  have hp : line.length ≤ 1048576 := hp
  refine ⟨hp, fun _ => Sp.splitOk line = true ∧ Sp.splitF line ≠ [], ?_, fun _ hj => ?_⟩
  · refine cond_intro (fun h => Sp.act_no (Sp.act_no1 (notT h))) fun h => cond_intro (fun h2 => ?_) fun h2 => ⟨rfl, notF h, fun e => ?_⟩
    · have h2 : ((Sp.splitF line).length : Int) = 0 := by simpa using h2
      refine Sp.act_no (Sp.act_no2 ?_)
      rw [← (Sp.split_facts (notF h)).1]
      exact List.length_eq_zero_iff.1 (by omega)
    · rw [e] at h2; revert h2; decide
  · obtain ⟨hok, hne⟩ := hj
    obtain ⟨hw, hl1, hl2, hl3, hl4⟩ := Sp.split_facts hok
    have hlen : 0 < (Sp.splitF line).length := List.length_pos_iff.2 hne
    have hlen2 : (0 : Int) < ((Sp.splitF line).length : Int) := by omega
    have e0 : (List.getD (Sp.splitF line) (Int.toNat (0 : Int)) ([], ())).fst = Sp.wordAt (Sp.splitF line) 0 := (Sp.wordAt_lt (by omega)).symm
    refine ⟨fun y => y = ((Sp.okOf (Sp.splitF line), ()), ((Sp.actOf (Sp.splitF line)).1, (Sp.actOf (Sp.splitF line)).2.1, (), (Sp.actOf (Sp.splitF line)).2.2.1, (Sp.actOf (Sp.splitF line)).2.2.2, ()), ()), ⟨⟨by decide, hlen2⟩, ?_⟩, ?_⟩
    · rw [e0, hok]
      have n0 : (0 : Int) ≤ 0 := by decide
      have n1 : (0 : Int) ≤ 1 := by decide
      have n2 : (0 : Int) ≤ 2 := by decide
      have n3 : (0 : Int) ≤ 3 := by decide
      unfold Sp.actOf Sp.okOf Sp.kwCommit Sp.kwCrash Sp.kwWatch Sp.kwPin Sp.kwUnpin Sp.kwCollect Sp.kwAdd Sp.kwRemove
      cases Sp.wordAt (Sp.splitF line) 0 == [99, 111, 109, 109, 105, 116] with
      | true => exact ⟨n1, rfl, rfl⟩
      | false =>
      cases Sp.wordAt (Sp.splitF line) 0 == [99, 114, 97, 115, 104] with
      | true => exact ⟨n1, n2, rfl, rfl⟩
      | false =>
      cases Sp.wordAt (Sp.splitF line) 0 == [119, 97, 116, 99, 104] with
      | true => exact ⟨n1, n2, rfl, rfl⟩
      | false =>
      refine ⟨fun y => y = (((Sp.wordAt (Sp.splitF line) 0 == [112, 105, 110]) || (Sp.wordAt (Sp.splitF line) 0 == [117, 110, 112, 105, 110]), ()), ()), ?_, ?_⟩
      · cases Sp.wordAt (Sp.splitF line) 0 == [112, 105, 110] <;> exact ⟨rfl, rfl⟩
      rintro _ rfl
      dsimp only
      cases h4 : Sp.wordAt (Sp.splitF line) 0 == [112, 105, 110] with
      | true =>
        have h5 : (Sp.wordAt (Sp.splitF line) 0 == [117, 110, 112, 105, 110]) = false := by rw [beq_iff_eq.1 h4]; decide
        rw [h5]
        exact ⟨⟨n0, hlen2⟩, n1, rfl, rfl⟩
      | false =>
      cases Sp.wordAt (Sp.splitF line) 0 == [117, 110, 112, 105, 110] with
      | true => exact ⟨⟨n0, hlen2⟩, n1, rfl, rfl⟩
      | false =>
      cases Sp.wordAt (Sp.splitF line) 0 == [99, 111, 108, 108, 101, 99, 116] with
      | true => exact ⟨rfl, rfl⟩
      | false =>
      cases h7 : Sp.wordAt (Sp.splitF line) 0 == [97, 100, 100] with
      | true =>
        have h8 : (Sp.wordAt (Sp.splitF line) 0 == [114, 101, 109, 111, 118, 101]) = false := by rw [beq_iff_eq.1 h7]; decide
        rw [h8]
        exact ⟨⟨n0, hlen2⟩, n1, n2, n3, rfl, rfl⟩
      | false =>
      cases Sp.wordAt (Sp.splitF line) 0 == [114, 101, 109, 111, 118, 101] with
      | true => exact ⟨⟨n0, hlen2⟩, n1, n2, n3, rfl, rfl⟩
      | false => exact ⟨rfl, rfl⟩
    · rintro _ rfl
      dsimp only
      rw [hw]
      have hwne : (Sp.wordsOf line == []) = false := beq_eq_false_iff_ne.2 (by rw [← hw]; exact hne)
      have heq := Sp.parseActOk_eq line
      rw [hok, hwne, Bool.not_false, Bool.true_and, Bool.true_and] at heq
      refine cond_intro (fun h => ?_) fun h => ⟨hl3, ⟨hl4, Sp.actText_ascii _⟩, cond_intro (fun h2 => ?_) fun h2 => ?_⟩
      · refine Sp.act_no ?_
        rw [heq, notT h, Bool.false_and]
      · refine Sp.act_no ?_
        have h2 : (!(Sp.actText (Sp.actOf (Sp.wordsOf line)) == []) && decide (Sp.wordsOf (Sp.actText (Sp.actOf (Sp.wordsOf line))) = Sp.wordsOf line)) = false := notT h2
        rw [heq, h2, Bool.and_false]
      · refine Sp.act_yes ?_
        have h2 : (!(Sp.actText (Sp.actOf (Sp.wordsOf line)) == []) && decide (Sp.wordsOf (Sp.actText (Sp.actOf (Sp.wordsOf line))) = Sp.wordsOf line)) = true := notF h2
        rw [heq, h2, notF h]; rfl

theorem and_small (x y : Int) (m : Nat) (hm : m < 9223372036854775807) (hy : (BitVec.ofInt 64 y).toNat = m) : 0 ≤ bitsOf .and .i64 x y ∧ bitsOf .and .i64 x y ≤ m := by
  have h : (BitVec.ofInt 64 x &&& BitVec.ofInt 64 y).toNat ≤ m := by
    rw [BitVec.toNat_and, hy]
    exact Nat.and_le_right
  show 0 ≤ IntKind.i64.wrap ((BitVec.ofInt 64 x &&& BitVec.ofInt 64 y).toNat : Int) ∧ IntKind.i64.wrap ((BitVec.ofInt 64 x &&& BitVec.ofInt 64 y).toNat : Int) ≤ m
  generalize (BitVec.ofInt 64 x &&& BitVec.ofInt 64 y).toNat = z at h ⊢
  rw [wrapIn _ (by omega)]
  omega
theorem and255 (x : Int) : 0 ≤ bitsOf .and .i64 x 255 ∧ bitsOf .and .i64 x 255 ≤ 255 := and_small x 255 255 (by omega) (by decide)

theorem ok_spec_l01New : XConOK prog G n_spec_l01New con_spec_l01New := by
  refine wk_spec_l01New (env_of (l := []) (types_ok types_checked) (fun x hx => by cases hx)) (fun ⟨_, ⟨⟩⟩ _ => ⟨([], 0, 0, ()), rfl⟩) ?_
  intro code hin hp
  have hp : code.length ≤ 1048576 := hp
  refine ⟨fun y => ∃ n : Nat, y.1.2.1 = n ∧ n ≤ code.length, fun y => ((code.length : Int) - y.1.2.1).toNat, ⟨0, rfl, by omega⟩, ?_⟩
  rintro ⟨⟨h, _, ⟨⟩⟩, ⟨⟩⟩ ⟨n, rfl, hn⟩
  dsimp only
  refine cond_intro (fun hc => ?_) fun hc => ?_
  · simp only [decide_eq_true_eq] at hc
    cases decide ((n : Int) < 4000) with
    | false => exact rfl
    | true =>
      have e : IntKind.i64.wrap ((n : Int) + 1) = ((n + 1 : Nat) : Int) := wrapIn _ (by omega)
      refine ⟨?_, ?_, ?_, ?_⟩
      · exact ⟨by omega, hc⟩
      · exact rfl
      · exact ⟨n + 1, e, by omega⟩
      show ((code.length : Int) - IntKind.i64.wrap ((n : Int) + 1)).toNat < ((code.length : Int) - n).toNat
      rw [e]
      omega
  · exact rfl

theorem ok_spec_l01Byte : XConOK prog G n_spec_l01Byte con_spec_l01Byte := by
  refine wk_spec_l01Byte (env_of (l := []) (types_ok types_checked) (fun x hx => by cases hx)) (fun _ _ => ⟨(((0 : Int), ()), (([], 0, 0, ()), ())), ⟨by decide, by decide, by decide⟩⟩) ?_
  intro b i h hin hp
  have hp : 0 ≤ i := hp
  refine ⟨by decide, by decide, cond_intro (fun hc => ?_) fun hc => ?_⟩ <;> simp only [decide_eq_true_eq, decide_eq_false_iff_not] at hc
  · have hl : b.length ≤ maxLen := hin.1.1.1
    rw [maxLen_eq] at hl
    refine ⟨⟨hp, hc⟩, ?_, and255 _⟩
    show 0 ≤ IntKind.i64.wrap (i + 1)
    rw [wrapIn _ (by omega)]
    omega
  · exact ⟨hp, and255 _⟩

theorem tmod_lt {a n : Int} (ha : 0 ≤ a) (hn : 0 < n) : 0 ≤ a.tmod n ∧ a.tmod n < n := ⟨Int.tmod_nonneg n ha, Int.tmod_lt_of_pos a hn⟩
theorem ok_spec_l01Below : XConOK prog G n_spec_l01Below con_spec_l01Below := by
  refine wk_spec_l01Below (env_of (l := [(n_spec_l01Byte, .eff (xmodes sh_spec_l01Byte) con_spec_l01Byte)]) (types_ok types_checked) (by simp only [List.forall_mem_cons]; exact ⟨⟨ok_spec_l01Byte, cal_spec_l01Byte⟩, fun x hx => by cases hx⟩)) (fun ⟨_, n, ⟨⟩⟩ _ => ⟨(((0 : Int), ()), (([], 0, 0, ()), ())), ⟨Int.le_refl _, Int.le_refl _, fun h => h, fun _ => rfl⟩⟩) ?_
  intro b i h n hin hp
  have hp : 0 ≤ i := hp
  refine cond_intro (fun hc => ?_) fun hc => ?_ <;> simp only [decide_eq_true_eq, decide_eq_false_iff_not] at hc
  · exact ⟨hp, Int.le_refl _, fun h => (by omega), fun _ => rfl⟩
  · refine cond_intro (fun hc2 => ?_) fun hc2 => ?_
    · refine ⟨hp, ?_⟩
      rintro ⟨⟨x, ⟨⟩⟩, ⟨b', i', h', ⟨⟩⟩, ⟨⟩⟩ ⟨h1, h2, h3⟩
      dsimp only at h1 h2 h3 ⊢
      have := tmod_lt h2 (show 0 < n by omega)
      exact ⟨by omega, h1, this.1, fun _ => this.2, fun h => (by omega)⟩
    · refine ⟨hp, ?_⟩
      rintro ⟨⟨x1, ⟨⟩⟩, ⟨b1, i1, g1, ⟨⟩⟩, ⟨⟩⟩ ⟨h1, h2, h3⟩
      refine ⟨h1, ?_⟩
      rintro ⟨⟨x2, ⟨⟩⟩, ⟨b2, i2, g2, ⟨⟩⟩, ⟨⟩⟩ ⟨k1, k2, k3⟩
      refine ⟨k1, ?_⟩
      rintro ⟨⟨x3, ⟨⟩⟩, ⟨b3, i3, g3, ⟨⟩⟩, ⟨⟩⟩ ⟨l1, l2, l3⟩
      refine ⟨l1, ?_⟩
      rintro ⟨⟨x4, ⟨⟩⟩, ⟨b4, i4, g4, ⟨⟩⟩, ⟨⟩⟩ ⟨m1, m2, m3⟩
      dsimp only at *
      rw [wrapIn (x1 * 16777216) (by omega), wrapIn (x2 * 65536) (by omega), wrapIn (x3 * 256) (by omega), wrapIn (x1 * 16777216 + x2 * 65536) (by omega), wrapIn (x1 * 16777216 + x2 * 65536 + x3 * 256) (by omega), wrapIn (x1 * 16777216 + x2 * 65536 + x3 * 256 + x4) (by omega)]
      have := tmod_lt (a := x1 * 16777216 + x2 * 65536 + x3 * 256 + x4) (n := n) (by omega) (by omega)
      exact ⟨by omega, m1, this.1, fun _ => this.2, fun h => (by omega)⟩

theorem usual_len : Sp.usual.length = 4 := rfl

theorem lower_step {s : List UInt8} {n : Nat} (hlt : n < s.length) (hl : Sp.lower s = true) : 97 ≤ (s.getD n 0).toNat ∧ (s.getD n 0).toNat ≤ 122 := by
  have := List.all_eq_true.1 hl _ (getD_mem (d := 0) hlt)
  simpa using this

theorem ok_slices_Equal_impl_Attr : ConOK prog G n_slices_Equal_impl_Attr con_slices_Equal_impl_Attr := by
  refine wk_slices_Equal_impl_Attr (env_of (l := []) (types_ok types_checked) (fun x hx => by cases hx)) ?_
  intro a b hin hp
  have hlen : a.length ≤ maxLen := hin.1.1
  rw [maxLen_eq] at hlen
  refine cond_intro (fun h => ?_) fun h => ?_
  · have h : (a.length : Int) ≠ b.length := by simpa using h
    exact congrArg (·, ()) (decide_eq_false fun e => h (by rw [e])).symm
  · have h : (a.length : Int) = b.length := by simpa using h
    exact eq_loop (K := fun r => r = (decide (a = b), ())) (fun x y => !(x.1 == y.1 && (x.2.1 == y.2.1 && (x.2.2.1 == y.2.2.1 && (x.2.2.2.1 == y.2.2.2.1 && true))))) (fun x y => by simp [Prod.ext_iff]) _ a b _ hlen (by omega) (fun e => by rw [decide_eq_false e]) fun e => by rw [decide_eq_true e]
theorem ok_impl_EqualFiles : ConOK prog G n_impl_EqualFiles con_impl_EqualFiles := by
  refine wk_impl_EqualFiles (env_of (l := [(n_slices_Equal_impl_Attr, .pure con_slices_Equal_impl_Attr)]) (types_ok types_checked) (by simp only [List.forall_mem_cons]; exact ⟨⟨ok_slices_Equal_impl_Attr, cal_slices_Equal_impl_Attr⟩, fun x hx => by cases hx⟩)) ?_
  intro a0 a1 a2 a3 a4 b0 b1 b2 b3 b4 hin hp
  refine cond_intro (fun h0 => cond_intro (fun h1 => cond_intro (fun h2 => cond_intro (fun h3 => ⟨trivial, ?_⟩) fun h3 => ?_) fun h2 => ?_) fun h1 => ?_) fun h0 => ?_
  all_goals refine congrArg (·, ()) (Bool.eq_iff_iff.2 ?_)
  · simp only [beq_iff_eq] at h0 h1 h2 h3
    subst h0 h1 h2 h3
    simp
  · have h3 : a3 ≠ b3 := by simpa using h3
    simp [h3]
  · have h2 : a2 ≠ b2 := by simpa using h2
    simp [h2]
  · have h1 : a1 ≠ b1 := by simpa using h1
    simp [h1]
  · have h0 : a0 ≠ b0 := by simpa using h0
    simp [h0]
theorem owned_step {s : List Sp.DFile} {u : Int} {n : Nat} (hn : n < s.length) : Sp.ownedBy (s.take (n + 1)) u = Sp.ownedBy (s.take n) u ++ (if (Sp.fileAt s n).2.1 = u then [((Sp.fileAt s n).1, ())] else []) := by
  unfold Sp.ownedBy
  rw [Sp.take_succ' s n (0, 0, false, 0, [], ()) hn, List.filter_append, List.map_append]
  congr 1
  show List.map _ (List.filter _ [Sp.fileAt s n]) = _
  by_cases h : (Sp.fileAt s n).2.1 = u
  · rw [List.filter_cons_of_pos (by simpa using h), if_pos h]; rfl
  · rw [List.filter_cons_of_neg (by simpa using h), if_neg h]; rfl
theorem owned_len (s : List Sp.DFile) (u : Int) : (Sp.ownedBy s u).length ≤ s.length := by
  unfold Sp.ownedBy
  rw [List.length_map]; exact List.length_filter_le ..

/-- What is known of a store while it is drawn. -/
structure Drawn (k : Int) (s : Sp.DStore) : Prop where
  sch : s.1 = Sp.usual
  ok : Sp.okStore s = true
  nx : s.2.2.1 ≤ s.2.1.length + k
  small : Sp.smallS s
theorem ok_laws_big : ConOK prog G n_laws_big con_laws_big := by
  refine wk_laws_big (env_of (l := []) (types_ok types_checked) (fun x hx => by cases hx)) ?_
  intro b hin hp
  exact rfl

theorem ok_impl_IsValidValue : ConOK prog G n_impl_IsValidValue con_impl_IsValidValue := by
  refine wk_impl_IsValidValue (env_of (l := [(n_impl_IsValidString, .pure con_impl_IsValidString), (n_impl_within, .pure con_impl_within)]) (types_ok types_checked) (by simp only [List.forall_mem_cons]; exact ⟨⟨ok_impl_IsValidString, cal_impl_IsValidString⟩, ⟨ok_impl_within, cal_impl_within⟩, fun x hx => by cases hx⟩)) ?_
  intro k n s hin hp
  refine cond_intro (fun h => ?_) fun h => cond_intro (fun h2 => ⟨trivial, cond_intro (fun h3 => ?_) fun h3 => ?_⟩) fun h2 => cond_intro (fun h3 => ⟨trivial, cond_intro (fun h4 => ?_) fun h4 => ?_⟩) fun h3 => ?_
  · have e : k = 0 := by simpa using h
    subst e
    exact congrArg (·, ()) (Bool.eq_iff_iff.2 (by simp [Sp.okValue]))
  · have e : k = 1 := by simpa using h2
    subst e
    exact congrArg (·, ()) (Bool.eq_iff_iff.2 (by simp only [Bool.and_eq_true, decide_eq_true_eq] at h3; simp [Sp.okValue, h3]))
  · have e : k = 1 := by simpa using h2
    subst e
    exact congrArg (·, ()) (Bool.eq_iff_iff.2 (by simp only [Sp.okValue, h3]; simp))
  · have e : k = 2 := by simpa using h3
    subst e
    exact congrArg (·, ()) (Bool.eq_iff_iff.2 (by simp [Sp.okValue, h4]))
  · have e : k = 2 := by simpa using h3
    subst e
    exact congrArg (·, ()) (Bool.eq_iff_iff.2 (by simp [Sp.okValue, h4]))
  · have e1 : k ≠ 0 := by simpa using h
    have e2 : k ≠ 1 := by simpa using h2
    have e3 : k ≠ 2 := by simpa using h3
    exact congrArg (·, ()) (Bool.eq_iff_iff.2 (by simp [Sp.okValue, e1, e2, e3]))
theorem ok_impl_IsValidAttrName : ConOK prog G n_impl_IsValidAttrName con_impl_IsValidAttrName := by
  refine wk_impl_IsValidAttrName (env_of (l := []) (types_ok types_checked) (fun x hx => by cases hx)) ?_
  intro s hin hp
  refine cond_intro (fun h => ?_) fun h => ?_
  · have h : (s.length : Int) = 1 := decT h
    match s, h with
    | [c], _ =>
      refine ⟨⟨by decide, (by show (0 : Int) < 1; decide)⟩, cond_intro (fun h2 => ⟨⟨by decide, (by show (0 : Int) < 1; decide)⟩, ?_⟩) fun h2 => ?_⟩
      · have h2 : (c.toNat : Int) ≥ 97 := decT h2
        refine congrArg (·, ()) (Bool.eq_iff_iff.2 ?_)
        simp only [Sp.okName, Sp.lower, List.all_cons, List.all_nil, Bool.and_true, Bool.and_eq_true, decide_eq_true_eq, List.length_cons, List.length_nil]
        constructor
        · intro h3
          have h3 : (c.toNat : Int) ≤ 122 := h3
          exact ⟨⟨⟨by omega, by omega⟩, by decide⟩, by decide⟩
        · rintro ⟨⟨⟨_, h4⟩, _⟩, _⟩
          show (c.toNat : Int) ≤ 122
          omega
      · have h2 : ¬ (c.toNat : Int) ≥ 97 := decF h2
        refine congrArg (·, ()) (Bool.eq_iff_iff.2 ?_)
        simp only [Sp.okName, Sp.lower, List.all_cons, List.all_nil, Bool.and_true, Bool.and_eq_true, decide_eq_true_eq]
        constructor
        · intro h3; cases h3
        · rintro ⟨⟨⟨h4, _⟩, _⟩, _⟩; omega
  · have h : ¬ (s.length : Int) = 1 := decF h
    refine congrArg (·, ()) (Bool.eq_iff_iff.2 ?_)
    simp only [Sp.okName, Bool.and_eq_true, decide_eq_true_eq]
    constructor
    · intro h3; cases h3
    · rintro ⟨⟨_, h4⟩, h5⟩; omega
theorem kind12 {k : Int} (h : (k != 1) = false ∨ (k != 2) = false) : (decide (1 ≤ k) && decide (k ≤ 2)) = true := by
  have : k = 1 ∨ k = 2 := h.imp (by simp) (by simp)
  rcases this with h | h <;> subst h <;> rfl
theorem kind_no {k : Int} (h1 : (k != 1) = true) (h2 : (k != 2) = true) : (decide (1 ≤ k) && decide (k ≤ 2)) = false := by
  have h1 : k ≠ 1 := by simpa using h1
  have h2 : k ≠ 2 := by simpa using h2
  rw [Bool.and_eq_false_iff]
  by_cases h : k < 1
  · left; exact decide_eq_false (by omega)
  · right; exact decide_eq_false (by omega)

theorem ok_spec_DrawPlaces : XConOK prog G n_spec_DrawPlaces con_spec_DrawPlaces := by
  refine wk_spec_DrawPlaces (env_of (l := [(n_spec_l01Below, .eff (xmodes sh_spec_l01Below) con_spec_l01Below), (n_spec_l01New, .eff (xmodes sh_spec_l01New) con_spec_l01New)]) (types_ok types_checked) (by simp only [List.forall_mem_cons]; exact ⟨⟨ok_spec_l01Below, cal_spec_l01Below⟩, ⟨ok_spec_l01New, cal_spec_l01New⟩, fun x hx => by cases hx⟩)) (fun _ _ => ⟨(((List.replicate 12 ((0 : Int), ())), ()), ()), by decide, by decide⟩) ?_
  intro code hin hp
  have hp : code.length ≤ 1048576 := hp
  refine ⟨hp, ?_⟩
  rintro ⟨b, i, h, ⟨⟩⟩ e
  have e : i = 0 := e
  subst e
  refine ⟨fun y => ∃ n : Nat, y.1.2.1 = n ∧ n ≤ 12 ∧ 0 ≤ y.2.1.2.1 ∧ y.2.2.1.length = n ∧ ∀ j, j < n → 0 ≤ (y.2.2.1.getD j (0, ())).1 ∧ (y.2.2.1.getD j (0, ())).1 < 10000, fun y => (12 - y.1.2.1).toNat, ⟨0, rfl, by decide, Int.le_refl _, rfl, fun j hj => absurd hj (Nat.not_lt_zero _)⟩, ?_⟩
  rintro ⟨⟨⟨⟩, _, ⟨⟩⟩, ⟨b1, i1, h1, ⟨⟩⟩, out, ⟨⟩⟩ ⟨n, rfl, hn, hi, hl, ho⟩
  dsimp only at hi hl ho ⊢
  refine cond_intro (fun hc => ⟨hi, ?_⟩) fun hc => ?_
  · have hc := decT hc
    rintro ⟨⟨x, ⟨⟩⟩, ⟨b2, i2, h2, ⟨⟩⟩, ⟨⟩⟩ ⟨g1, g2, g3, _⟩
    dsimp only at g1 g2 g3 ⊢
    have hw : IntKind.i64.wrap ((n : Int) + 1) = ((n + 1 : Nat) : Int) := wrapIn _ (by omega)
    refine ⟨by rw [big_eq]; show _ + 1 ≤ _; omega, rfl, ⟨n + 1, hw, by omega, g1, ?_, fun j hj => ?_⟩, ?_⟩
    · rw [List.length_append]; show _ + 1 = _; omega
    · rw [List.getD_eq_getElem?_getD]
      by_cases h5 : j < out.length
      · rw [List.getElem?_append_left h5, ← List.getD_eq_getElem?_getD]
        exact ho j (by omega)
      · have : j - out.length = 0 := by omega
        rw [List.getElem?_append_right (by omega), this]
        exact ⟨g2, g3 (by decide)⟩
    · rw [hw]
      omega
  · have hc := decF hc
    have h12 : n = 12 := by omega
    subst h12
    exact ⟨hl, ho⟩
theorem ok_slices_Equal_impl_Node : ConOK prog G n_slices_Equal_impl_Node con_slices_Equal_impl_Node := by
  refine wk_slices_Equal_impl_Node (env_of (l := []) (types_ok types_checked) (fun x hx => by cases hx)) ?_
  intro a b hin hp
  have hlen : a.length ≤ maxLen := hin.1.1
  rw [maxLen_eq] at hlen
  refine cond_intro (fun h => ?_) fun h => ?_
  · have h : (a.length : Int) ≠ b.length := by simpa using h
    exact congrArg (·, ()) (decide_eq_false fun e => h (by rw [e])).symm
  · have h : (a.length : Int) = b.length := by simpa using h
    exact eq_loop (K := fun r => r = (decide (a = b), ())) (fun x y => !(x.1 == y.1 && (x.2.1 == y.2.1 && (x.2.2.1 == y.2.2.1 && (x.2.2.2.1 == y.2.2.2.1 && (x.2.2.2.2.1 == y.2.2.2.2.1 && (x.2.2.2.2.2.1 == y.2.2.2.2.2.1 && (x.2.2.2.2.2.2.1 == y.2.2.2.2.2.2.1 && true)))))))) (fun x y => by simp [Prod.ext_iff]) _ a b _ hlen (by omega) (fun e => by rw [decide_eq_false e]) fun e => by rw [decide_eq_true e]
theorem ok_impl_EqualQueries : ConOK prog G n_impl_EqualQueries con_impl_EqualQueries := by
  refine wk_impl_EqualQueries (env_of (l := [(n_slices_Equal_impl_Node, .pure con_slices_Equal_impl_Node)]) (types_ok types_checked) (by simp only [List.forall_mem_cons]; exact ⟨⟨ok_slices_Equal_impl_Node, cal_slices_Equal_impl_Node⟩, fun x hx => by cases hx⟩)) ?_
  intro a b hin hp
  exact ⟨trivial, rfl⟩
theorem ok_impl_FormatChange : ConOK prog G n_impl_FormatChange con_impl_FormatChange := by
  refine wk_impl_FormatChange (env_of (l := [(n_strings_Join, .pure con_strings_Join), (n_impl_IsValidValue, .pure con_impl_IsValidValue), (n_impl_IsValidAttrName, .pure con_impl_IsValidAttrName), (n_impl_areNumbers, .pure con_impl_areNumbers), (n_impl_EqualFiles, .pure con_impl_EqualFiles), (n_impl_EqualQueries, .pure con_impl_EqualQueries), (n_impl_PostorderQuery, .pure con_impl_PostorderQuery), (n_impl_IsValidQuery, .pure con_impl_IsValidQuery), (n_impl_IsValidString, .pure con_impl_IsValidString), (n_impl_FormatQuery, .pure con_impl_FormatQuery), (n_impl_FormatInt, .pure con_impl_FormatInt), (n_strings_Split, .pure con_strings_Split), (n_impl_FormatFile, .pure con_impl_FormatFile)]) (types_ok types_checked) (by simp only [List.forall_mem_cons]; exact ⟨⟨ok_strings_Join, cal_strings_Join⟩, ⟨ok_impl_IsValidValue, cal_impl_IsValidValue⟩, ⟨ok_impl_IsValidAttrName, cal_impl_IsValidAttrName⟩, ⟨ok_impl_areNumbers, cal_impl_areNumbers⟩, ⟨ok_impl_EqualFiles, cal_impl_EqualFiles⟩, ⟨ok_impl_EqualQueries, cal_impl_EqualQueries⟩, ⟨ok_impl_PostorderQuery, cal_impl_PostorderQuery⟩, ⟨ok_impl_IsValidQuery, cal_impl_IsValidQuery⟩, ⟨ok_impl_IsValidString, cal_impl_IsValidString⟩, ⟨ok_impl_FormatQuery, cal_impl_FormatQuery⟩, ⟨ok_impl_FormatInt, cal_impl_FormatInt⟩, ⟨ok_strings_Split, cal_strings_Split⟩, ⟨ok_impl_FormatFile, cal_impl_FormatFile⟩, fun x hx => by cases hx⟩)) ?_
  intro k i o sh l a id nm q hin hp
  obtain ⟨hk, rfl, rfl, rfl, rfl, rfl, rfl, rfl⟩ := hp
  refine ⟨fun y => k = 3 ∧ y = (([(Sp.kwDelete, ()), (Lib.itoa id, ())], ()), (k, 0, 0, false, 0, [], id, [], (), ()), [(id, ())], ()), ?_, ?_⟩
  · rcases hk with rfl | rfl
    · exact ⟨by rw [big_eq]; show 0 + 1 ≤ 4294967296; decide, trivial, rfl, rfl, rfl⟩
    · exact rfl
  · rintro _ ⟨rfl, rfl⟩
    dsimp only
    refine ⟨fun _ => Sp.isUint id = true, ⟨trivial, ?_⟩, fun _ hu => ?_⟩
    · have e : (id != id) = false := by simp
      rw [e]
      refine ⟨trivial, trivial, ?_⟩
      have ha : Sp.areUints [(id, ())] = Sp.isUint id := by simp [Sp.areUints]
      rw [ha]
      refine cond_intro (fun h => ?_) fun h => ⟨rfl, notF h⟩
      unfold Sp.chgText
      rw [notT h]; rfl
    · refine ⟨fun y => y = ((0, ()), ()), fun _ => 0, rfl, ?_⟩
      rintro _ rfl
      have hl := Sp.itoa_len hu
      have hj : Lib.join [Sp.kwDelete, Lib.itoa id] [32] = Sp.chgText 3 id := by
        rw [Sp.join2]
        unfold Sp.chgText
        rw [hu]; simp
      have hlen := (Sp.chgText_ascii 3 id).2
      refine ⟨⟨(by decide : (2 : Nat) ≤ 140737488355328), ?_⟩, ?_⟩
      · show (Lib.join [Sp.kwDelete, Lib.itoa id] [32]).length ≤ _
        rw [hj]; omega
      · exact congrArg (·, ()) hj
theorem ok_impl_ParseChange : ConOK prog G n_impl_ParseChange con_impl_ParseChange := by
  refine wk_impl_ParseChange (env_of (l := [(n_impl_sameFields, .pure con_impl_sameFields), (n_impl_FormatChange, .pure con_impl_FormatChange), (n_impl_ParseQuery, .pure con_impl_ParseQuery), (n_strings_Join, .pure con_strings_Join), (n_impl_wordAt, .pure con_impl_wordAt), (n_impl_numberAt, .pure con_impl_numberAt), (n_impl_fileIn, .pure con_impl_fileIn), (n_impl_SplitFields, .pure con_impl_SplitFields)]) (types_ok types_checked) (by simp only [List.forall_mem_cons]; exact ⟨⟨ok_impl_sameFields, cal_impl_sameFields⟩, ⟨ok_impl_FormatChange, cal_impl_FormatChange⟩, ⟨ok_impl_ParseQuery, cal_impl_ParseQuery⟩, ⟨ok_strings_Join, cal_strings_Join⟩, ⟨ok_impl_wordAt, cal_impl_wordAt⟩, ⟨ok_impl_numberAt, cal_impl_numberAt⟩, ⟨ok_impl_fileIn, cal_impl_fileIn⟩, ⟨ok_impl_SplitFields, cal_impl_SplitFields⟩, fun x hx => by cases hx⟩)) ?_
  intro line hin hp
  obtain ⟨hp, hsim⟩ := hp
  have hp : line.length ≤ 1048576 := hp
  have n1 : Sp.splitOk line = false → Sp.parseChgOk line = false := fun h => by unfold Sp.parseChgOk; rw [h]; rfl
  refine ⟨hp, fun _ => Sp.splitOk line = true ∧ Sp.splitF line ≠ [], ?_, fun _ hj => ?_⟩
  · refine cond_intro (fun h => Sp.chg_no (n1 (notT h))) fun h => cond_intro (fun h2 => ?_) fun h2 => ⟨rfl, notF h, fun e => ?_⟩
    · have h2 : ((Sp.splitF line).length : Int) = 0 := by simpa using h2
      refine Sp.chg_no ?_
      have hw : Sp.wordsOf line = [] := by rw [← (Sp.split_facts (notF h)).1]; exact List.length_eq_zero_iff.1 (by omega)
      unfold Sp.parseChgOk
      rw [hw]; cases Sp.splitOk line <;> rfl
    · rw [e] at h2; revert h2; decide
  · obtain ⟨hok, hne⟩ := hj
    obtain ⟨hw, hl1, hl2, hl3, hl4⟩ := Sp.split_facts hok
    have hlen : 0 < (Sp.splitF line).length := List.length_pos_iff.2 hne
    have e0 : (List.getD (Sp.splitF line) (Int.toNat (0 : Int)) ([], ())).fst = Sp.wordAt (Sp.splitF line) 0 := (Sp.wordAt_lt (by omega)).symm
    rw [← hw] at hsim
    unfold Sp.simpleW Sp.kwCreate Sp.kwUpdate Sp.kwDefine Sp.kwUndefine at hsim
    simp only [Bool.and_eq_true] at hsim
    obtain ⟨c1, c2, c4, c5⟩ := hsim
    refine ⟨fun y => y = ((Sp.okChg (Sp.splitF line), ()), ((Sp.chgOf (Sp.splitF line)).1, 0, 0, false, 0, [], (Sp.chgOf (Sp.splitF line)).2, [], [], ()), ()), ⟨⟨by decide, by omega⟩, ?_⟩, ?_⟩
    · rw [e0, hok, notT c1, notT c2, notT c4, notT c5]
      have n1 : (0 : Int) ≤ 1 := by decide
      unfold Sp.okChg Sp.chgOf Sp.kwDelete
      cases Sp.wordAt (Sp.splitF line) 0 == [100, 101, 108, 101, 116, 101] with
      | true => exact ⟨n1, rfl, rfl⟩
      | false => exact ⟨rfl, rfl⟩
    · rintro _ rfl
      dsimp only
      rw [hw]
      have hwne : (Sp.wordsOf line == []) = false := beq_eq_false_iff_ne.2 (by rw [← hw]; exact hne)
      have hk : (Sp.chgOf (Sp.wordsOf line)).1 = 3 ∨ (Sp.chgOf (Sp.wordsOf line)).1 = 0 := by
        unfold Sp.chgOf
        cases Sp.wordAt (Sp.wordsOf line) 0 == Sp.kwDelete with
        | true => exact .inl rfl
        | false => exact .inr rfl
      have heq : Sp.parseChgOk line = (Sp.okChg (Sp.wordsOf line) && (!(Sp.chgText (Sp.chgOf (Sp.wordsOf line)).1 (Sp.chgOf (Sp.wordsOf line)).2 == []) && decide (Sp.wordsOf (Sp.chgText (Sp.chgOf (Sp.wordsOf line)).1 (Sp.chgOf (Sp.wordsOf line)).2) = Sp.wordsOf line))) := by
        unfold Sp.parseChgOk
        rw [hok, hwne]; rfl
      obtain ⟨t1, t2⟩ := Sp.chgText_ascii (Sp.chgOf (Sp.wordsOf line)).1 (Sp.chgOf (Sp.wordsOf line)).2
      refine cond_intro (fun h => ?_) fun h => ⟨⟨hk, rfl, rfl, rfl, rfl, rfl, rfl, rfl⟩, ⟨t2, t1⟩, cond_intro (fun h2 => ?_) fun h2 => ?_⟩
      · refine Sp.chg_no ?_
        rw [heq, notT h, Bool.false_and]
      · refine Sp.chg_no ?_
        rw [heq, notT h2, Bool.and_false]
      · refine Sp.chg_yes ?_
        rw [heq, notF h2, notF h]; rfl
end Go.Proofs.Tryz


import Derived.Test.YtnaiafihkjbmnaaDoorP8
import Derived.Test.YtnaiafihkjbmnaaDoorP2
namespace Go.Proofs.Tryd
open Go Go.Fw Go.IntWalk

theorem itoa_bound (n : Int) (h : (-9223372036854775808 : Int) ≤ n ∧ n ≤ (9223372036854775807 : Int)) : (Lib.itoa n).length ≤ 21 := Lib.itoa_length_le n h.1 h.2
theorem le_max {n : Nat} (h : n ≤ 9000000) : n ≤ maxLen := by rw [maxLen_eq]; omega

theorem ok_spec_FormatAction : ConOK prog G n_spec_FormatAction con_spec_FormatAction := by
  refine wk_spec_FormatAction (env_of (l := [(n_spec_FormatInt, .pure con_spec_FormatInt), (n_spec_IsValidAction, .pure con_spec_IsValidAction), (n_spec_IsValidString, .pure con_spec_IsValidString), (n_spec_l01In, .pure con_spec_l01In)]) (types_ok types_checked) (by simp only [List.forall_mem_cons]; exact ⟨⟨ok_spec_FormatInt, cal_spec_FormatInt⟩, ⟨ok_spec_IsValidAction, cal_spec_IsValidAction⟩, ⟨ok_spec_IsValidString, cal_spec_IsValidString⟩, ⟨ok_spec_l01In, cal_spec_l01In⟩, fun x hx => by cases hx⟩)) ?_
  intro k u c n a hin hp
  have hn : n.length ≤ 1048576 := hp
  have hu := itoa_bound u hin.1.2.1
  have ha := itoa_bound a hin.1.2.2.2.2.1
  refine ⟨trivial, ?_⟩
  intro r0
  refine ⟨trivial, ?_⟩
  intro r1
  refine ⟨trivial, ?_⟩
  have e0 : Sp.isUint u = r0 := rfl
  have e1 : Sp.isUint a = r1 := rfl
  unfold Sp.actionText
  rw [e0, e1]
  clear_value r0 r1
  cases hv : Sp.validAct k c.length with
  | false => exact ⟨fun _ => False, ⟨trivial, rfl⟩, fun _ h => h.elim⟩
  | true =>
  refine ⟨fun _ => (decide ((c.length : Int) > 0) && decide (k > 2)) = false, ⟨trivial, ?_⟩, fun _ hj => ?_⟩
  · cases decide ((c.length : Int) > 0) <;> cases decide (k > 2) <;> first | exact rfl | exact ⟨rfl, rfl⟩
  simp only [hj, Bool.not_true, cond_false]
  clear hj hv hp hin
  refine join_intro ((((k == 1) && (r0 && ((a == 0) && (n == [])))), ()), ()) (by cases (k == 1) <;> cases r0 <;> cases (a == 0) <;> exact ⟨by trivial, rfl⟩) ?_
  refine cond_intro (fun h => ?_) fun h => ?_
  · have h : ((k == 1) && (r0 && ((a == 0) && (n == [])))) = true := h
    simp only [h, cond_true]
    exact ⟨trivial, le_max (by simp only [List.length_append, List.length_cons, List.length_nil]; omega), trivial⟩
  replace h : ((k == 1) && (r0 && ((a == 0) && (n == [])))) = false := h
  simp only [h, cond_false]
  clear h
  refine join_intro ((((k == 2) && (r0 && (r1 && (n == [])))), ()), ()) (by cases (k == 2) <;> cases r0 <;> cases r1 <;> exact ⟨by trivial, rfl⟩) ?_
  refine cond_intro (fun h => ?_) fun h => ?_
  · have h : ((k == 2) && (r0 && (r1 && (n == [])))) = true := h
    simp only [h, cond_true]
    exact ⟨trivial, le_max (by simp only [List.length_append, List.length_cons, List.length_nil]; omega), le_max (by simp only [List.length_append, List.length_cons, List.length_nil]; omega), trivial, le_max (by simp only [List.length_append, List.length_cons, List.length_nil]; omega), trivial⟩
  replace h : ((k == 2) && (r0 && (r1 && (n == [])))) = false := h
  simp only [h, cond_false]
  clear h
  refine join_intro ((((k == 3) && (r0 && ((Sp.validStr n) && (a == 0)))), ()), ()) (by cases (k == 3) <;> cases r0 <;> cases (Sp.validStr n) <;> exact ⟨by trivial, rfl⟩) ?_
  refine cond_intro (fun h => ?_) fun h => ?_
  · have h : ((k == 3) && (r0 && ((Sp.validStr n) && (a == 0)))) = true := h
    simp only [h, cond_true]
    exact ⟨trivial, le_max (by simp only [List.length_append, List.length_cons, List.length_nil]; omega), le_max (by simp only [List.length_append, List.length_cons, List.length_nil]; omega), le_max (by simp only [List.length_append, List.length_cons, List.length_nil]; omega), trivial⟩
  replace h : ((k == 3) && (r0 && ((Sp.validStr n) && (a == 0)))) = false := h
  simp only [h, cond_false]
  clear h
  refine join_intro ((((k == 4) && ((u == 0) && (r1 && (n == [])))), ()), ()) (by cases (k == 4) <;> cases (u == 0) <;> cases r1 <;> exact ⟨by trivial, rfl⟩) ?_
  refine cond_intro (fun h => ?_) fun h => ?_
  · have h : ((k == 4) && ((u == 0) && (r1 && (n == [])))) = true := h
    simp only [h, cond_true]
    exact ⟨trivial, le_max (by simp only [List.length_append, List.length_cons, List.length_nil]; omega), trivial⟩
  replace h : ((k == 4) && ((u == 0) && (r1 && (n == [])))) = false := h
  simp only [h, cond_false]
  clear h
  refine join_intro ((((k == 5) && ((u == 0) && (r1 && (n == [])))), ()), ()) (by cases (k == 5) <;> cases (u == 0) <;> cases r1 <;> exact ⟨by trivial, rfl⟩) ?_
  refine cond_intro (fun h => ?_) fun h => ?_
  · have h : ((k == 5) && ((u == 0) && (r1 && (n == [])))) = true := h
    simp only [h, cond_true]
    exact ⟨trivial, le_max (by simp only [List.length_append, List.length_cons, List.length_nil]; omega), trivial⟩
  replace h : ((k == 5) && ((u == 0) && (r1 && (n == [])))) = false := h
  simp only [h, cond_false]
  clear h
  refine join_intro ((((k == 6) && ((u == 0) && ((a == 0) && (n == [])))), ()), ()) (by cases (k == 6) <;> cases (u == 0) <;> cases (a == 0) <;> exact ⟨by trivial, rfl⟩) ?_
  refine cond_intro (fun h => ?_) fun h => ?_
  · have h : ((k == 6) && ((u == 0) && ((a == 0) && (n == [])))) = true := h
    simp only [h, cond_true]
  replace h : ((k == 6) && ((u == 0) && ((a == 0) && (n == [])))) = false := h
  simp only [h, cond_false]
  clear h
  refine join_intro ((((k == 7) && (r0 && (r1 && (Sp.validStr n)))), ()), ()) (by cases (k == 7) <;> cases r0 <;> cases r1 <;> exact ⟨by trivial, rfl⟩) ?_
  refine cond_intro (fun h => ?_) fun h => ?_
  · have h : ((k == 7) && (r0 && (r1 && (Sp.validStr n)))) = true := h
    simp only [h, cond_true]
    exact ⟨trivial, le_max (by simp only [List.length_append, List.length_cons, List.length_nil]; omega), le_max (by simp only [List.length_append, List.length_cons, List.length_nil]; omega), le_max (by simp only [List.length_append, List.length_cons, List.length_nil]; omega), le_max (by simp only [List.length_append, List.length_cons, List.length_nil]; omega), trivial, le_max (by simp only [List.length_append, List.length_cons, List.length_nil]; omega), trivial⟩
  replace h : ((k == 7) && (r0 && (r1 && (Sp.validStr n)))) = false := h
  simp only [h, cond_false]
  clear h
  refine join_intro ((((k == 8) && (r0 && (r1 && (Sp.validStr n)))), ()), ()) (by cases (k == 8) <;> cases r0 <;> cases r1 <;> exact ⟨by trivial, rfl⟩) ?_
  refine cond_intro (fun h => ?_) fun h => ?_
  · have h : ((k == 8) && (r0 && (r1 && (Sp.validStr n)))) = true := h
    simp only [h, cond_true]
    exact ⟨trivial, le_max (by simp only [List.length_append, List.length_cons, List.length_nil]; omega), le_max (by simp only [List.length_append, List.length_cons, List.length_nil]; omega), le_max (by simp only [List.length_append, List.length_cons, List.length_nil]; omega), le_max (by simp only [List.length_append, List.length_cons, List.length_nil]; omega), trivial, le_max (by simp only [List.length_append, List.length_cons, List.length_nil]; omega), trivial⟩
  replace h : ((k == 8) && (r0 && (r1 && (Sp.validStr n)))) = false := h
  simp only [h, cond_false]

theorem join2 (x y : List UInt8) : Lib.join [x, y] [32] = x ++ [32] ++ y := by simp [Lib.join_cons, Lib.joinTail]
theorem join3 (x y z : List UInt8) : Lib.join [x, y, z] [32] = x ++ [32] ++ y ++ [32] ++ z := by simp [Lib.join_cons, Lib.joinTail]
theorem join4 (x y z w : List UInt8) : Lib.join [x, y, z, w] [32] = x ++ [32] ++ y ++ [32] ++ z ++ [32] ++ w := by simp [Lib.join_cons, Lib.joinTail]
theorem join1 (x : List UInt8) : Lib.join [x] [32] = x := by simp [Lib.join_cons, Lib.joinTail]

theorem bne_of {α : Type} [BEq α] [LawfulBEq α] {x y : α} (h : x ≠ y) : (x == y) = false ∧ (y == x) = false ∧ (x != y) = true ∧ (y != x) = true := by
  have h1 : (x == y) = false := by simpa using h
  have h2 : (y == x) = false := by simpa using Ne.symm h
  exact ⟨h1, h2, by simp [bne, h1], by simp [bne, h2]⟩
theorem ok_impl_FormatAction : ConOK prog G n_impl_FormatAction con_impl_FormatAction := by
  refine wk_impl_FormatAction (env_of (l := [(n_strings_Join, .pure con_strings_Join), (n_impl_IsValidString, .pure con_impl_IsValidString), (n_impl_areNumbers, .pure con_impl_areNumbers), (n_impl_IsValidAction, .pure con_impl_IsValidAction), (n_impl_FormatInt, .pure con_impl_FormatInt)]) (types_ok types_checked) (by simp only [List.forall_mem_cons]; exact ⟨⟨ok_strings_Join, cal_strings_Join⟩, ⟨ok_impl_IsValidString, cal_impl_IsValidString⟩, ⟨ok_impl_areNumbers, cal_impl_areNumbers⟩, ⟨ok_impl_IsValidAction, cal_impl_IsValidAction⟩, ⟨ok_impl_FormatInt, cal_impl_FormatInt⟩, fun x hx => by cases hx⟩)) ?_
  intro k u c n a hin hp
  have hn : n.length ≤ 1048576 := hp
  have hu := itoa_bound u hin.1.2.1
  have ha := itoa_bound a hin.1.2.2.2.2.1
  clear hin hp
  have eU : Sp.areUints [(u, ()), (a, ())] = (Sp.isUint u && Sp.isUint a) := by simp [Sp.areUints]
  have i0 : Sp.isUint 0 = true := rfl
  by_cases k1 : k = 1
  · subst k1
    simp only [VC_impl_FormatAction, Int.reduceBEq, cond_true, cond_false]
    refine join_intro _ ⟨by trivial, by trivial, rfl⟩ (join_intro _ ⟨by trivial, rfl⟩ (join_intro _ ⟨by trivial, rfl⟩ ⟨trivial, ?_⟩))
    dsimp only
    rw [eU]
    unfold Sp.actionText
    simp only [Int.reduceBEq, Bool.true_and, Bool.false_and, cond_false, Int.reduceGT, decide_true, decide_false, Bool.and_true, Bool.and_false]
    generalize decide ((c.length : Int) > 0) = z
    generalize Sp.validAct 1 c.length = v
    by_cases hn : n = []
    rotate_left
    · cases v <;> cases z <;> simp [hn, bne_of hn]
    subst hn
    by_cases ha : a = 0
    rotate_left
    · cases v <;> cases z <;> simp [ha, bne_of ha]
    subst ha
    simp only [i0, Bool.true_and, Bool.and_true, bne_self_eq_false, beq_self_eq_true, Bool.not_true, cond_false, Bool.not_false, cond_true]
    cases v <;> cases z <;> cases (Sp.isUint u) <;> simp only [Bool.not_true, Bool.not_false, cond_true, cond_false, true_and, Bool.and_true, Bool.and_false, Bool.true_and] <;> first
      | rfl
      | exact ⟨⟨by show 2 ≤ 140737488355328; omega, by show (Lib.join [_, _] [32]).length ≤ _; rw [join2]; simp only [List.length_append, List.length_cons, List.length_nil] <;> omega⟩, by show (Lib.join [_, _] [32], ()) = _; rw [join2]; rfl⟩
  by_cases k2 : k = 2
  · subst k2
    simp only [VC_impl_FormatAction, Int.reduceBEq, cond_true, cond_false]
    refine join_intro _ ⟨by trivial, by trivial, by trivial, rfl⟩ (join_intro _ ⟨by trivial, rfl⟩ (join_intro _ ⟨by trivial, rfl⟩ ⟨trivial, ?_⟩))
    dsimp only
    rw [eU]
    unfold Sp.actionText
    simp only [Int.reduceBEq, Bool.true_and, Bool.false_and, cond_false, Int.reduceGT, decide_true, decide_false, Bool.and_true, Bool.and_false]
    generalize decide ((c.length : Int) > 0) = z
    generalize Sp.validAct 2 c.length = v
    by_cases hn : n = []
    rotate_left
    · cases v <;> cases z <;> simp [hn, bne_of hn]
    subst hn
    simp only [i0, Bool.true_and, Bool.and_true, bne_self_eq_false, beq_self_eq_true, Bool.not_true, cond_false, Bool.not_false, cond_true]
    cases v <;> cases z <;> cases (Sp.isUint u) <;> cases (Sp.isUint a) <;> simp only [Bool.not_true, Bool.not_false, cond_true, cond_false, true_and, Bool.and_true, Bool.and_false, Bool.true_and] <;> first
      | rfl
      | exact ⟨⟨by show 3 ≤ 140737488355328; omega, by show (Lib.join [_, _, _] [32]).length ≤ _; rw [join3]; simp only [List.length_append, List.length_cons, List.length_nil] <;> omega⟩, by show (Lib.join [_, _, _] [32], ()) = _; rw [join3]; rfl⟩
  by_cases k3 : k = 3
  · subst k3
    simp only [VC_impl_FormatAction, Int.reduceBEq, cond_true, cond_false]
    refine join_intro _ ⟨by trivial, by trivial, rfl⟩ (join_intro _ ⟨by trivial, rfl⟩ (join_intro _ ⟨by trivial, rfl⟩ ⟨trivial, ?_⟩))
    dsimp only
    rw [eU]
    unfold Sp.actionText
    simp only [Int.reduceBEq, Bool.true_and, Bool.false_and, cond_false, Int.reduceGT, decide_true, decide_false, Bool.and_true, Bool.and_false]
    generalize decide ((c.length : Int) > 0) = z
    generalize Sp.validAct 3 c.length = v
    by_cases ha : a = 0
    rotate_left
    · cases v <;> cases z <;> simp [ha, bne_of ha]
    subst ha
    simp only [i0, Bool.true_and, Bool.and_true, bne_self_eq_false, beq_self_eq_true, Bool.not_true, cond_false, Bool.not_false, cond_true]
    cases v <;> cases z <;> cases (Sp.isUint u) <;> cases (Sp.validStr n) <;> simp only [Bool.not_true, Bool.not_false, cond_true, cond_false, true_and, Bool.and_true, Bool.and_false, Bool.true_and] <;> first
      | rfl
      | exact ⟨⟨by show 3 ≤ 140737488355328; omega, by show (Lib.join [_, _, _] [32]).length ≤ _; rw [join3]; simp only [List.length_append, List.length_cons, List.length_nil] <;> omega⟩, by show (Lib.join [_, _, _] [32], ()) = _; rw [join3]; rfl⟩
  by_cases k4 : k = 4
  · subst k4
    simp only [VC_impl_FormatAction, Int.reduceBEq, cond_true, cond_false]
    refine join_intro _ ⟨by trivial, by trivial, rfl⟩ (join_intro _ ⟨by trivial, rfl⟩ (join_intro _ ⟨by trivial, rfl⟩ ⟨trivial, ?_⟩))
    dsimp only
    rw [eU]
    unfold Sp.actionText
    simp only [Int.reduceBEq, Bool.true_and, Bool.false_and, cond_false, Int.reduceGT, decide_true, decide_false, Bool.and_true, Bool.and_false]
    generalize decide ((c.length : Int) > 0) = z
    generalize Sp.validAct 4 c.length = v
    by_cases hu : u = 0
    rotate_left
    · cases v <;> cases z <;> simp [hu, bne_of hu]
    subst hu
    by_cases hn : n = []
    rotate_left
    · cases v <;> cases z <;> simp [hn, bne_of hn]
    subst hn
    simp only [i0, Bool.true_and, Bool.and_true, bne_self_eq_false, beq_self_eq_true, Bool.not_true, cond_false, Bool.not_false, cond_true]
    cases v <;> cases z <;> cases (Sp.isUint a) <;> simp only [Bool.not_true, Bool.not_false, cond_true, cond_false, true_and, Bool.and_true, Bool.and_false, Bool.true_and] <;> first
      | rfl
      | exact ⟨⟨by show 2 ≤ 140737488355328; omega, by show (Lib.join [_, _] [32]).length ≤ _; rw [join2]; simp only [List.length_append, List.length_cons, List.length_nil] <;> omega⟩, by show (Lib.join [_, _] [32], ()) = _; rw [join2]; rfl⟩
  by_cases k5 : k = 5
  · subst k5
    simp only [VC_impl_FormatAction, Int.reduceBEq, cond_true, cond_false]
    refine join_intro _ ⟨by trivial, ⟨by decide, by simp⟩, by simp, by trivial, rfl⟩ (join_intro _ ⟨by trivial, rfl⟩ (join_intro _ ⟨by trivial, rfl⟩ ⟨trivial, ?_⟩))
    dsimp only
    rw [eU]
    unfold Sp.actionText
    simp only [Int.reduceBEq, Bool.true_and, Bool.false_and, cond_false, Int.reduceGT, decide_true, decide_false, Bool.and_true, Bool.and_false]
    generalize decide ((c.length : Int) > 0) = z
    generalize Sp.validAct 5 c.length = v
    by_cases hu : u = 0
    rotate_left
    · cases v <;> cases z <;> simp [hu, bne_of hu]
    subst hu
    by_cases hn : n = []
    rotate_left
    · cases v <;> cases z <;> simp [hn, bne_of hn]
    subst hn
    simp only [i0, Bool.true_and, Bool.and_true, bne_self_eq_false, beq_self_eq_true, Bool.not_true, cond_false, Bool.not_false, cond_true]
    cases v <;> cases z <;> cases (Sp.isUint a) <;> simp only [Bool.not_true, Bool.not_false, cond_true, cond_false, true_and, Bool.and_true, Bool.and_false, Bool.true_and] <;> first
      | rfl
      | exact ⟨⟨by show 2 ≤ 140737488355328; omega, by show (Lib.join [_, _] [32]).length ≤ _; rw [join2]; simp only [List.length_append, List.length_cons, List.length_nil] <;> omega⟩, by show (Lib.join [_, _] [32], ()) = _; rw [join2]; rfl⟩
  by_cases k6 : k = 6
  · subst k6
    simp only [VC_impl_FormatAction, Int.reduceBEq, cond_true, cond_false]
    refine join_intro _ ⟨by trivial, rfl⟩ (join_intro _ ⟨by trivial, rfl⟩ (join_intro _ ⟨by trivial, rfl⟩ ⟨trivial, ?_⟩))
    dsimp only
    rw [eU]
    unfold Sp.actionText
    simp only [Int.reduceBEq, Bool.true_and, Bool.false_and, cond_false, Int.reduceGT, decide_true, decide_false, Bool.and_true, Bool.and_false]
    generalize decide ((c.length : Int) > 0) = z
    generalize Sp.validAct 6 c.length = v
    by_cases hu : u = 0
    rotate_left
    · cases v <;> cases z <;> simp [hu, bne_of hu]
    subst hu
    by_cases hn : n = []
    rotate_left
    · cases v <;> cases z <;> simp [hn, bne_of hn]
    subst hn
    by_cases ha : a = 0
    rotate_left
    · cases v <;> cases z <;> simp [ha, bne_of ha]
    subst ha
    simp only [i0, Bool.true_and, Bool.and_true, bne_self_eq_false, beq_self_eq_true, Bool.not_true, cond_false, Bool.not_false, cond_true]
    cases v <;> cases z <;> simp only [Bool.not_true, Bool.not_false, cond_true, cond_false, true_and, Bool.and_true, Bool.and_false, Bool.true_and] <;> first
      | rfl
      | exact ⟨⟨by show 1 ≤ 140737488355328; omega, by show (Lib.join [_] [32]).length ≤ _; rw [join1]; simp only [List.length_append, List.length_cons, List.length_nil] <;> omega⟩, by show (Lib.join [_] [32], ()) = _; rw [join1]⟩
  by_cases k7 : k = 7
  · subst k7
    simp only [VC_impl_FormatAction, Int.reduceBEq, cond_true, cond_false]
    refine join_intro _ ⟨by trivial, by trivial, by trivial, rfl⟩ (join_intro _ ⟨by trivial, rfl⟩ (join_intro _ ⟨by trivial, rfl⟩ ⟨trivial, ?_⟩))
    dsimp only
    rw [eU]
    unfold Sp.actionText
    simp only [Int.reduceBEq, Bool.true_and, Bool.false_and, cond_false, Int.reduceGT, decide_true, decide_false, Bool.and_true, Bool.and_false]
    generalize decide ((c.length : Int) > 0) = z
    generalize Sp.validAct 7 c.length = v
    simp only [i0, Bool.true_and, Bool.and_true, bne_self_eq_false, beq_self_eq_true, Bool.not_true, cond_false, Bool.not_false, cond_true]
    cases v <;> cases z <;> cases (Sp.isUint u) <;> cases (Sp.isUint a) <;> cases (Sp.validStr n) <;> simp only [Bool.not_true, Bool.not_false, cond_true, cond_false, true_and, Bool.and_true, Bool.and_false, Bool.true_and] <;> first
      | rfl
      | exact ⟨⟨by show 4 ≤ 140737488355328; omega, by show (Lib.join [_, _, _, _] [32]).length ≤ _; rw [join4]; simp only [List.length_append, List.length_cons, List.length_nil] <;> omega⟩, by show (Lib.join [_, _, _, _] [32], ()) = _; rw [join4]; rfl⟩
  by_cases k8 : k = 8
  · subst k8
    simp only [VC_impl_FormatAction, Int.reduceBEq, cond_true, cond_false]
    refine join_intro _ ⟨by trivial, by trivial, by trivial, rfl⟩ (join_intro _ ⟨by trivial, rfl⟩ (join_intro _ ⟨by trivial, rfl⟩ ⟨trivial, ?_⟩))
    dsimp only
    rw [eU]
    unfold Sp.actionText
    simp only [Int.reduceBEq, Bool.true_and, Bool.false_and, cond_false, Int.reduceGT, decide_true, decide_false, Bool.and_true, Bool.and_false]
    generalize decide ((c.length : Int) > 0) = z
    generalize Sp.validAct 8 c.length = v
    simp only [i0, Bool.true_and, Bool.and_true, bne_self_eq_false, beq_self_eq_true, Bool.not_true, cond_false, Bool.not_false, cond_true]
    cases v <;> cases z <;> cases (Sp.isUint u) <;> cases (Sp.isUint a) <;> cases (Sp.validStr n) <;> simp only [Bool.not_true, Bool.not_false, cond_true, cond_false, true_and, Bool.and_true, Bool.and_false, Bool.true_and] <;> first
      | rfl
      | exact ⟨⟨by show 4 ≤ 140737488355328; omega, by show (Lib.join [_, _, _, _] [32]).length ≤ _; rw [join4]; simp only [List.length_append, List.length_cons, List.length_nil] <;> omega⟩, by show (Lib.join [_, _, _, _] [32], ()) = _; rw [join4]; rfl⟩
  have hv : Sp.validAct k c.length = false := by
    unfold Sp.validAct
    by_cases h1 : 1 ≤ k
    · by_cases h2 : k ≤ 8
      · omega
      · simp [h2]
    · simp [h1]
  simp only [VC_impl_FormatAction, bne_of k1, bne_of k2, bne_of k3, bne_of k4, bne_of k5, bne_of k6, bne_of k7, bne_of k8, cond_false]
  refine join_intro _ ⟨by trivial, rfl⟩ (join_intro _ ⟨by trivial, rfl⟩ (join_intro _ ⟨by trivial, rfl⟩ ⟨trivial, ?_⟩))
  unfold Sp.actionText
  rw [hv]
  rfl

theorem le_big {n : Nat} (h : n ≤ 1048576) : n ≤ big := by rw [big_eq]; omega
theorem szLen_big {n : Nat} (h : ¬ Sp.szLen n 1048576 < 0) : n ≤ 1048576 := by
  unfold Sp.szLen at h
  split at h <;> omega

theorem ok_laws_FnExactFormatAction : ConOK prog G n_laws_FnExactFormatAction con_laws_FnExactFormatAction := by
  refine wk_laws_FnExactFormatAction (env_of (l := [(n_laws_eqAction, .pure con_laws_eqAction), (n_impl_FormatAction, .pure con_impl_FormatAction), (n_spec_FormatAction, .pure con_spec_FormatAction), (n_laws_toAction, .pure con_laws_toAction), (n_laws_szAction, .pure con_laws_szAction)]) (types_ok types_checked) (by simp only [List.forall_mem_cons]; exact ⟨⟨ok_laws_eqAction, cal_laws_eqAction⟩, ⟨ok_impl_FormatAction, cal_impl_FormatAction⟩, ⟨ok_spec_FormatAction, cal_spec_FormatAction⟩, ⟨ok_laws_toAction, cal_laws_toAction⟩, ⟨ok_laws_szAction, cal_laws_szAction⟩, fun x hx => by cases hx⟩)) ?_
  intro k u c n a hin hp
  refine ⟨⟨by decide, by decide⟩, ?_⟩
  refine cond_intro (fun h => rfl) fun h => ?_
  have h := szLen_big (of_decide_eq_false h)
  have hb := le_big h
  have hn : n.length ≤ 1048576 := Nat.le_trans (Nat.le_add_left _ _) h
  refine ⟨hb, hn, hb, hn, ?_⟩
  intro r1
  rw [beq_self_eq_true]
  refine ⟨hb, trivial, ?_⟩
  rw [show Sp.eqAction (k, u, c, n, a, ()) (k, u, c, n, a, ()) = true from by simp [Sp.eqAction]]
  rfl
end Go.Proofs.Tryd


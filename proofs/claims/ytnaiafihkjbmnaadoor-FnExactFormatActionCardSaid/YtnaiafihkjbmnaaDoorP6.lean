import Derived.Test.YtnaiafihkjbmnaaDoorP5
namespace Go.Proofs.Tryd
open Go Go.Fw Go.IntWalk

theorem and2 {p q : Bool} {K : Bool × Unit → Prop} (h : K ((p && q), ())) : bif p then K (q, ()) else K (false, ()) := by
  cases p <;> exact h
theorem ok_spec_l01In : ConOK prog G n_spec_l01In con_spec_l01In := by
  refine wk_spec_l01In (env_of (l := []) (types_ok types_checked) (fun x hx => by cases hx)) ?_
  intro x a b hin hp
  exact and2 (K := fun r => r = (_, ())) rfl

theorem ok_impl_within : ConOK prog G n_impl_within con_impl_within := by
  refine wk_impl_within (env_of (l := []) (types_ok types_checked) (fun x hx => by cases hx)) ?_
  intro x a b hin hp
  exact and2 (K := fun r => r = (_, ())) rfl

theorem ok_spec_IsValidAction : ConOK prog G n_spec_IsValidAction con_spec_IsValidAction := by
  refine wk_spec_IsValidAction (env_of (l := [(n_spec_l01In, .pure con_spec_l01In)]) (types_ok types_checked) (by simp only [List.forall_mem_cons]; exact ⟨⟨ok_spec_l01In, cal_spec_l01In⟩, fun x hx => by cases hx⟩)) ?_
  intro a0 a1 a2 a3 a4 hin hp
  exact ⟨trivial, and2 (K := fun r => r = (_, ())) rfl⟩

theorem ok_impl_IsValidAction : ConOK prog G n_impl_IsValidAction con_impl_IsValidAction := by
  refine wk_impl_IsValidAction (env_of (l := [(n_impl_within, .pure con_impl_within)]) (types_ok types_checked) (by simp only [List.forall_mem_cons]; exact ⟨⟨ok_impl_within, cal_impl_within⟩, fun x hx => by cases hx⟩)) ?_
  intro a0 a1 a2 a3 a4 hin hp
  exact ⟨trivial, and2 (K := fun r => r = (_, ())) rfl⟩

theorem ok_impl_areNumbers_1 : ConOK prog G n_impl_areNumbers_1 con_impl_areNumbers_1 := by
  refine wk_impl_areNumbers_1 (env_of (l := [(n_impl_within, .pure con_impl_within)]) (types_ok types_checked) (by simp only [List.forall_mem_cons]; exact ⟨⟨ok_impl_within, cal_impl_within⟩, fun x hx => by cases hx⟩)) ?_
  intro n hin hp
  exact ⟨trivial, rfl⟩

theorem idxFrom_iff : ∀ (l : Sp.LI) (k : Int), 0 ≤ k → decide (Sp.idxFrom k l ≥ 0) = !Sp.areUints l
  | [], k, h => by simp [Sp.idxFrom, Sp.areUints]
  | x :: r, k, h => by
    have ih := idxFrom_iff r (k + 1) (by omega)
    unfold Sp.areUints at ih ⊢
    rw [Sp.idxFrom, List.all_cons]
    cases hx : Sp.isUint x.1 with
    | true => rw [if_pos rfl, ih]; rfl
    | false => rw [if_neg (by simp)]; simp [h]
end Go.Proofs.Tryd


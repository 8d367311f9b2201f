import Derived.Test.YtnaiafihkjbmnaaDoorV1
import Derived.Test.YtnaiafihkjbmnaaDoorSp
namespace Go.Proofs.Tryd
open Go Go.Fw Go.IntWalk

theorem sz1 {n : Nat} {left : Int} (hn : n ≤ maxLen) (h0 : 0 ≤ left) (h1 : left ≤ 1048576) {K : Int × Unit → Prop} (hK : K (Sp.szLen n left, ())) :
    bif decide (IntKind.i64.wrap (left - (n : Int)) < (0 : Int)) then K ((-1 : Int), ()) else K (IntKind.i64.wrap (left - (n : Int)), ()) := by
  rw [maxLen_eq] at hn
  rw [wrapIn _ (by omega)]
  unfold Sp.szLen at hK
  refine cond_intro (fun h => ?_) fun h => ?_ <;> simp only [decide_eq_true_eq, decide_eq_false_iff_not] at h
  · rw [if_pos h] at hK; exact hK
  · rw [if_neg h] at hK; exact hK
theorem szr {n : Nat} {left : Int} {K : Int × Unit → Prop} (hK : K (Sp.szLen n left, ())) :
    bif decide (Sp.szLen n left < (0 : Int)) then K ((-1 : Int), ()) else K (Sp.szLen n left, ()) := by
  refine cond_intro (fun h => ?_) fun h => ?_ <;> simp only [decide_eq_true_eq, decide_eq_false_iff_not] at h
  · have := szLen_more (m := 0) h
    rw [Nat.add_zero] at this
    rw [this] at hK; exact hK
  · exact hK
/-- First a length, then what the rest weighs. -/
theorem sz2 {n m : Nat} {left : Int} (hn : n ≤ maxLen) (h0 : 0 ≤ left) (h1 : left ≤ 1048576) {K : Int × Unit → Prop} (hK : K (Sp.szLen (n + m) left, ())) :
    bif decide (IntKind.i64.wrap (left - (n : Int)) < (0 : Int)) then K ((-1 : Int), ())
    else ((0 : Int) ≤ IntKind.i64.wrap (left - (n : Int)) ∧ IntKind.i64.wrap (left - (n : Int)) ≤ (1048576 : Int)) ∧
      (bif decide (Sp.szLen m (IntKind.i64.wrap (left - (n : Int))) < (0 : Int)) then K ((-1 : Int), ()) else K (Sp.szLen m (IntKind.i64.wrap (left - (n : Int))), ())) := by
  rw [maxLen_eq] at hn
  rw [wrapIn _ (by omega)]
  refine cond_intro (fun h => ?_) fun h => ?_ <;> simp only [decide_eq_true_eq, decide_eq_false_iff_not] at h
  · rw [szLen_more (by unfold Sp.szLen; rw [if_pos h]; omega)] at hK; exact hK
  · refine ⟨⟨by omega, by omega⟩, szr ?_⟩
    rw [← szLen_sub h, szLen_add (by rw [szLen_sub h]; omega)]; exact hK
theorem sz3 {n m : Nat} {left : Int} (h0 : 0 ≤ left) (h1 : left ≤ 1048576) {K : Int × Unit → Prop} (hK : K (Sp.szLen (n + m) left, ())) :
    ((0 : Int) ≤ left ∧ left ≤ (1048576 : Int)) ∧
    (bif decide (Sp.szLen n left < (0 : Int)) then K ((-1 : Int), ())
    else ((0 : Int) ≤ Sp.szLen n left ∧ Sp.szLen n left ≤ (1048576 : Int)) ∧
      (bif decide (Sp.szLen m (Sp.szLen n left) < (0 : Int)) then K ((-1 : Int), ()) else K (Sp.szLen m (Sp.szLen n left), ()))) := by
  refine ⟨⟨h0, h1⟩, cond_intro (fun h => ?_) fun h => ?_⟩ <;> simp only [decide_eq_true_eq, decide_eq_false_iff_not] at h
  · rw [szLen_more h] at hK; exact hK
  · have := szLen_leq (n := n) h0
    refine ⟨⟨by omega, by omega⟩, szr ?_⟩
    rw [szLen_add (by omega)]; exact hK
theorem ok_laws_szValue : ConOK prog G n_laws_szValue con_laws_szValue := by
  refine wk_laws_szValue (env_of (l := []) (types_ok types_checked) (fun x hx => by cases hx)) ?_
  intro a0 a1 a2 left hin hp
  exact sz1 (K := fun r => r = (_, ())) hin.1.2.2.1 hp.1 hp.2 rfl

theorem ok_laws_szAttr : ConOK prog G n_laws_szAttr con_laws_szAttr := by
  refine wk_laws_szAttr (env_of (l := [(n_laws_szValue, .pure con_laws_szValue)]) (types_ok types_checked) (by simp only [List.forall_mem_cons]; exact ⟨⟨ok_laws_szValue, cal_laws_szValue⟩, fun x hx => by cases hx⟩)) ?_
  intro a0 a1 a2 a3 left hin hp
  exact sz2 (K := fun r => r = (_, ())) hin.1.1 hp.1 hp.2 rfl

theorem ok_laws_szNode : ConOK prog G n_laws_szNode con_laws_szNode := by
  refine wk_laws_szNode (env_of (l := [(n_laws_szValue, .pure con_laws_szValue)]) (types_ok types_checked) (by simp only [List.forall_mem_cons]; exact ⟨⟨ok_laws_szValue, cal_laws_szValue⟩, fun x hx => by cases hx⟩)) ?_
  intro a0 a1 a2 a3 a4 a5 a6 left hin hp
  exact sz2 (K := fun r => r = (_, ())) hin.1.2.2.2.1 hp.1 hp.2 rfl

theorem ok_laws_szAttrS : ConOK prog G n_laws_szAttrS con_laws_szAttrS := by
  refine wk_laws_szAttrS (env_of (l := [(n_laws_szAttr, .pure con_laws_szAttr)]) (types_ok types_checked) (by simp only [List.forall_mem_cons]; exact ⟨⟨ok_laws_szAttr, cal_laws_szAttr⟩, fun x hx => by cases hx⟩)) ?_
  intro a left hin hp
  exact szS_vc (K := fun r => r = (_, ())) Sp.wAttr _ a left _ hin.1.1 hp.1 hp.2 rfl

theorem ok_laws_szNodeS : ConOK prog G n_laws_szNodeS con_laws_szNodeS := by
  refine wk_laws_szNodeS (env_of (l := [(n_laws_szNode, .pure con_laws_szNode)]) (types_ok types_checked) (by simp only [List.forall_mem_cons]; exact ⟨⟨ok_laws_szNode, cal_laws_szNode⟩, fun x hx => by cases hx⟩)) ?_
  intro a left hin hp
  exact szS_vc (K := fun r => r = (_, ())) Sp.wNode _ a left _ hin.1.1 hp.1 hp.2 rfl

theorem ok_laws_szFile : ConOK prog G n_laws_szFile con_laws_szFile := by
  refine wk_laws_szFile (env_of (l := [(n_laws_szAttrS, .pure con_laws_szAttrS)]) (types_ok types_checked) (by simp only [List.forall_mem_cons]; exact ⟨⟨ok_laws_szAttrS, cal_laws_szAttrS⟩, fun x hx => by cases hx⟩)) ?_
  intro a0 a1 a2 a3 a4 left hin hp
  exact ⟨hp, szr (K := fun r => r = (_, ())) rfl⟩

theorem ok_laws_szDir : ConOK prog G n_laws_szDir con_laws_szDir := by
  refine wk_laws_szDir (env_of (l := [(n_laws_szNodeS, .pure con_laws_szNodeS)]) (types_ok types_checked) (by simp only [List.forall_mem_cons]; exact ⟨⟨ok_laws_szNodeS, cal_laws_szNodeS⟩, fun x hx => by cases hx⟩)) ?_
  intro a0 a1 left hin hp
  exact sz2 (K := fun r => r = (_, ())) hin.1.1 hp.1 hp.2 rfl

theorem ok_laws_szChange : ConOK prog G n_laws_szChange con_laws_szChange := by
  refine wk_laws_szChange (env_of (l := [(n_laws_szDir, .pure con_laws_szDir), (n_laws_szFile, .pure con_laws_szFile)]) (types_ok types_checked) (by simp only [List.forall_mem_cons]; exact ⟨⟨ok_laws_szDir, cal_laws_szDir⟩, ⟨ok_laws_szFile, cal_laws_szFile⟩, fun x hx => by cases hx⟩)) ?_
  intro a0 a1 a2 a3 a4 a5 a6 a7 a8 left hin hp
  exact sz3 (K := fun r => r = (_, ())) hp.1 hp.2 rfl

theorem ok_laws_szChangeS : ConOK prog G n_laws_szChangeS con_laws_szChangeS := by
  refine wk_laws_szChangeS (env_of (l := [(n_laws_szChange, .pure con_laws_szChange)]) (types_ok types_checked) (by simp only [List.forall_mem_cons]; exact ⟨⟨ok_laws_szChange, cal_laws_szChange⟩, fun x hx => by cases hx⟩)) ?_
  intro a left hin hp
  exact szS_vc (K := fun r => r = (_, ())) Sp.wChange _ a left _ hin.1.1 hp.1 hp.2 rfl

theorem ok_laws_toValue : ConOK prog G n_laws_toValue con_laws_toValue := by
  refine wk_laws_toValue (env_of (l := []) (types_ok types_checked) (fun x hx => by cases hx)) ?_
  intro a0 a1 a2 hin hp
  exact rfl

theorem ok_laws_toAttr : ConOK prog G n_laws_toAttr con_laws_toAttr := by
  refine wk_laws_toAttr (env_of (l := [(n_laws_toValue, .pure con_laws_toValue)]) (types_ok types_checked) (by simp only [List.forall_mem_cons]; exact ⟨⟨ok_laws_toValue, cal_laws_toValue⟩, fun x hx => by cases hx⟩)) ?_
  intro a0 a1 a2 a3 hin hp
  exact ⟨trivial, rfl⟩

theorem ok_laws_toNode : ConOK prog G n_laws_toNode con_laws_toNode := by
  refine wk_laws_toNode (env_of (l := [(n_laws_toValue, .pure con_laws_toValue)]) (types_ok types_checked) (by simp only [List.forall_mem_cons]; exact ⟨⟨ok_laws_toValue, cal_laws_toValue⟩, fun x hx => by cases hx⟩)) ?_
  intro a0 a1 a2 a3 a4 a5 a6 hin hp
  exact ⟨trivial, rfl⟩

theorem ok_laws_toAttrS : ConOK prog G n_laws_toAttrS con_laws_toAttrS := by
  refine wk_laws_toAttrS (env_of (l := [(n_laws_toAttr, .pure con_laws_toAttr)]) (types_ok types_checked) (by simp only [List.forall_mem_cons]; exact ⟨⟨ok_laws_toAttr, cal_laws_toAttr⟩, fun x hx => by cases hx⟩)) ?_
  intro a hin hp
  exact toS_vc (K := fun r => r = (_, ())) (fun _ => True) _ a _ (by have h : Sp.wAttrS a ≤ big := hp; unfold Sp.wAttrS at h; rw [wList_eq, big_eq] at h; omega) (fun _ _ => trivial) rfl

theorem ok_laws_toNodeS : ConOK prog G n_laws_toNodeS con_laws_toNodeS := by
  refine wk_laws_toNodeS (env_of (l := [(n_laws_toNode, .pure con_laws_toNode)]) (types_ok types_checked) (by simp only [List.forall_mem_cons]; exact ⟨⟨ok_laws_toNode, cal_laws_toNode⟩, fun x hx => by cases hx⟩)) ?_
  intro a hin hp
  exact toS_vc (K := fun r => r = (_, ())) (fun _ => True) _ a _ (by have h : Sp.wNodeS a ≤ big := hp; unfold Sp.wNodeS at h; rw [wList_eq, big_eq] at h; omega) (fun _ _ => trivial) rfl

theorem ok_laws_toFile : ConOK prog G n_laws_toFile con_laws_toFile := by
  refine wk_laws_toFile (env_of (l := [(n_laws_toAttrS, .pure con_laws_toAttrS)]) (types_ok types_checked) (by simp only [List.forall_mem_cons]; exact ⟨⟨ok_laws_toAttrS, cal_laws_toAttrS⟩, fun x hx => by cases hx⟩)) ?_
  intro a0 a1 a2 a3 a4 hin hp
  exact ⟨hp, rfl⟩

theorem ok_laws_toDir : ConOK prog G n_laws_toDir con_laws_toDir := by
  refine wk_laws_toDir (env_of (l := [(n_laws_toNodeS, .pure con_laws_toNodeS)]) (types_ok types_checked) (by simp only [List.forall_mem_cons]; exact ⟨⟨ok_laws_toNodeS, cal_laws_toNodeS⟩, fun x hx => by cases hx⟩)) ?_
  intro a0 a1 hin hp
  exact ⟨hp, rfl⟩

theorem ok_laws_toChange : ConOK prog G n_laws_toChange con_laws_toChange := by
  refine wk_laws_toChange (env_of (l := [(n_laws_toDir, .pure con_laws_toDir), (n_laws_toFile, .pure con_laws_toFile)]) (types_ok types_checked) (by simp only [List.forall_mem_cons]; exact ⟨⟨ok_laws_toDir, cal_laws_toDir⟩, ⟨ok_laws_toFile, cal_laws_toFile⟩, fun x hx => by cases hx⟩)) ?_
  intro a0 a1 a2 a3 a4 a5 a6 a7 a8 hin hp
  have h : Sp.wAttrS a5 + (a7.length + Sp.wNodeS a8) ≤ big := hp
  exact ⟨Nat.le_trans (Nat.le_add_right _ _) h, Nat.le_trans (Nat.le_trans (Nat.le_add_left _ _) (Nat.le_add_left _ _)) h, rfl⟩

theorem ok_laws_toChangeS : ConOK prog G n_laws_toChangeS con_laws_toChangeS := by
  refine wk_laws_toChangeS (env_of (l := [(n_laws_toChange, .pure con_laws_toChange)]) (types_ok types_checked) (by simp only [List.forall_mem_cons]; exact ⟨⟨ok_laws_toChange, cal_laws_toChange⟩, fun x hx => by cases hx⟩)) ?_
  intro a hin hp
  have h : Sp.wList Sp.wChange a ≤ big := hp
  exact toS_vc (K := fun r => r = (_, ())) (fun x => Sp.wChange x ≤ big) _ a _ (by rw [wList_eq, big_eq] at h; omega) (fun x hx => Nat.le_trans (wList_mem Sp.wChange a x hx) h) rfl

theorem ok_laws_toAction : ConOK prog G n_laws_toAction con_laws_toAction := by
  refine wk_laws_toAction (env_of (l := [(n_laws_toChangeS, .pure con_laws_toChangeS)]) (types_ok types_checked) (by simp only [List.forall_mem_cons]; exact ⟨⟨ok_laws_toChangeS, cal_laws_toChangeS⟩, fun x hx => by cases hx⟩)) ?_
  intro a0 a1 a2 a3 a4 hin hp
  have h : Sp.wChangeS a2 + a3.length ≤ big := hp
  exact ⟨Nat.le_trans (Nat.le_add_right _ _) h, rfl⟩
end Go.Proofs.Tryd


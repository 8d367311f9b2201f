import Derived.Test.YtnaiafihkjbmnaaDoorP4
namespace Go.Proofs.Tryd
open Go Go.Fw Go.IntWalk

theorem ok_laws_eqValue : ConOK prog G n_laws_eqValue con_laws_eqValue := by
  refine wk_laws_eqValue (env_of (l := []) (types_ok types_checked) (fun x hx => by cases hx)) ?_
  intro a0 a1 a2 b0 b1 b2 hin hp
  have e : Sp.eqValue (a0, a1, a2, ()) (b0, b1, b2, ()) = ((a0 == b0) && (a1 == b1) && (a2 == b2)) := Bool.eq_iff_iff.2 (by simp [Sp.eqValue, and_assoc])
  simp only [VC_laws_eqValue, e, bne]
  cases (a0 == b0) <;> cases (a1 == b1) <;> cases (a2 == b2) <;> simp

theorem ok_laws_eqAttr : ConOK prog G n_laws_eqAttr con_laws_eqAttr := by
  refine wk_laws_eqAttr (env_of (l := [(n_laws_eqValue, .pure con_laws_eqValue)]) (types_ok types_checked) (by simp only [List.forall_mem_cons]; exact ⟨⟨ok_laws_eqValue, cal_laws_eqValue⟩, fun x hx => by cases hx⟩)) ?_
  intro a0 a1 a2 a3 b0 b1 b2 b3 hin hp
  have e : Sp.eqAttr (a0, a1, a2, a3, ()) (b0, b1, b2, b3, ()) = ((a0 == b0) && (Sp.eqValue (a1, a2, a3, ()) (b1, b2, b3, ()))) := Bool.eq_iff_iff.2 (by simp [Sp.eqAttr, Sp.eqValue, and_assoc])
  simp only [VC_laws_eqAttr, e, bne]
  cases (a0 == b0) <;> cases (Sp.eqValue (a1, a2, a3, ()) (b1, b2, b3, ())) <;> simp

theorem ok_laws_eqNode : ConOK prog G n_laws_eqNode con_laws_eqNode := by
  refine wk_laws_eqNode (env_of (l := [(n_laws_eqValue, .pure con_laws_eqValue)]) (types_ok types_checked) (by simp only [List.forall_mem_cons]; exact ⟨⟨ok_laws_eqValue, cal_laws_eqValue⟩, fun x hx => by cases hx⟩)) ?_
  intro a0 a1 a2 a3 a4 a5 a6 b0 b1 b2 b3 b4 b5 b6 hin hp
  have e : Sp.eqNode (a0, a1, a2, a3, a4, a5, a6, ()) (b0, b1, b2, b3, b4, b5, b6, ()) = ((a0 == b0) && (a1 == b1) && (a2 == b2) && (a3 == b3) && (Sp.eqValue (a4, a5, a6, ()) (b4, b5, b6, ()))) := Bool.eq_iff_iff.2 (by simp [Sp.eqNode, Sp.eqValue, and_assoc])
  simp only [VC_laws_eqNode, e, bne]
  cases (a0 == b0) <;> cases (a1 == b1) <;> cases (a2 == b2) <;> cases (a3 == b3) <;> cases (Sp.eqValue (a4, a5, a6, ()) (b4, b5, b6, ())) <;> simp

theorem ok_laws_eqAttrS : ConOK prog G n_laws_eqAttrS con_laws_eqAttrS := by
  refine wk_laws_eqAttrS (env_of (l := [(n_laws_eqAttr, .pure con_laws_eqAttr)]) (types_ok types_checked) (by simp only [List.forall_mem_cons]; exact ⟨⟨ok_laws_eqAttr, cal_laws_eqAttr⟩, fun x hx => by cases hx⟩)) ?_
  intro a b hin hp
  exact eqS_vc (K := fun r => r = (Sp.eqAttrS a b, ())) Sp.eqAttr (fun x y => by simp [Sp.eqAttr]) _ a b _ (by have h := hin.1.1; rw [maxLen_eq] at h; exact h) (fun z hz => by
    have : z = Sp.eqAttrS a b := Bool.eq_iff_iff.2 (hz.trans (by simp [Sp.eqAttrS]))
    rw [this])

theorem ok_laws_eqNodeS : ConOK prog G n_laws_eqNodeS con_laws_eqNodeS := by
  refine wk_laws_eqNodeS (env_of (l := [(n_laws_eqNode, .pure con_laws_eqNode)]) (types_ok types_checked) (by simp only [List.forall_mem_cons]; exact ⟨⟨ok_laws_eqNode, cal_laws_eqNode⟩, fun x hx => by cases hx⟩)) ?_
  intro a b hin hp
  exact eqS_vc (K := fun r => r = (Sp.eqNodeS a b, ())) Sp.eqNode (fun x y => by simp [Sp.eqNode]) _ a b _ (by have h := hin.1.1; rw [maxLen_eq] at h; exact h) (fun z hz => by
    have : z = Sp.eqNodeS a b := Bool.eq_iff_iff.2 (hz.trans (by simp [Sp.eqNodeS]))
    rw [this])

theorem ok_laws_eqFile : ConOK prog G n_laws_eqFile con_laws_eqFile := by
  refine wk_laws_eqFile (env_of (l := [(n_laws_eqAttrS, .pure con_laws_eqAttrS)]) (types_ok types_checked) (by simp only [List.forall_mem_cons]; exact ⟨⟨ok_laws_eqAttrS, cal_laws_eqAttrS⟩, fun x hx => by cases hx⟩)) ?_
  intro a0 a1 a2 a3 a4 b0 b1 b2 b3 b4 hin hp
  have e : Sp.eqFile (a0, a1, a2, a3, a4, ()) (b0, b1, b2, b3, b4, ()) = ((a0 == b0) && (a1 == b1) && (a2 == b2) && (a3 == b3) && (Sp.eqAttrS a4 b4)) := Bool.eq_iff_iff.2 (by simp [Sp.eqFile, Sp.eqAttrS, and_assoc])
  simp only [VC_laws_eqFile, e, bne]
  cases (a0 == b0) <;> cases (a1 == b1) <;> cases (a2 == b2) <;> cases (a3 == b3) <;> cases (Sp.eqAttrS a4 b4) <;> simp

theorem ok_laws_eqDir : ConOK prog G n_laws_eqDir con_laws_eqDir := by
  refine wk_laws_eqDir (env_of (l := [(n_laws_eqNodeS, .pure con_laws_eqNodeS)]) (types_ok types_checked) (by simp only [List.forall_mem_cons]; exact ⟨⟨ok_laws_eqNodeS, cal_laws_eqNodeS⟩, fun x hx => by cases hx⟩)) ?_
  intro a0 a1 b0 b1 hin hp
  have e : Sp.eqDir (a0, a1, ()) (b0, b1, ()) = ((a0 == b0) && (Sp.eqNodeS a1 b1)) := Bool.eq_iff_iff.2 (by simp [Sp.eqDir, Sp.eqNodeS, and_assoc])
  simp only [VC_laws_eqDir, e, bne]
  cases (a0 == b0) <;> cases (Sp.eqNodeS a1 b1) <;> simp

theorem ok_laws_eqChange : ConOK prog G n_laws_eqChange con_laws_eqChange := by
  refine wk_laws_eqChange (env_of (l := [(n_laws_eqDir, .pure con_laws_eqDir), (n_laws_eqFile, .pure con_laws_eqFile)]) (types_ok types_checked) (by simp only [List.forall_mem_cons]; exact ⟨⟨ok_laws_eqDir, cal_laws_eqDir⟩, ⟨ok_laws_eqFile, cal_laws_eqFile⟩, fun x hx => by cases hx⟩)) ?_
  intro a0 a1 a2 a3 a4 a5 a6 a7 a8 b0 b1 b2 b3 b4 b5 b6 b7 b8 hin hp
  have e : Sp.eqChange (a0, a1, a2, a3, a4, a5, a6, a7, a8, ()) (b0, b1, b2, b3, b4, b5, b6, b7, b8, ()) = ((a0 == b0) && (Sp.eqFile (a1, a2, a3, a4, a5, ()) (b1, b2, b3, b4, b5, ())) && (a6 == b6) && (Sp.eqDir (a7, a8, ()) (b7, b8, ()))) := Bool.eq_iff_iff.2 (by simp [Sp.eqChange, Sp.eqFile, Sp.eqDir, and_assoc])
  simp only [VC_laws_eqChange, e, bne]
  cases (a0 == b0) <;> cases (Sp.eqFile (a1, a2, a3, a4, a5, ()) (b1, b2, b3, b4, b5, ())) <;> cases (a6 == b6) <;> cases (Sp.eqDir (a7, a8, ()) (b7, b8, ())) <;> simp

theorem ok_laws_eqChangeS : ConOK prog G n_laws_eqChangeS con_laws_eqChangeS := by
  refine wk_laws_eqChangeS (env_of (l := [(n_laws_eqChange, .pure con_laws_eqChange)]) (types_ok types_checked) (by simp only [List.forall_mem_cons]; exact ⟨⟨ok_laws_eqChange, cal_laws_eqChange⟩, fun x hx => by cases hx⟩)) ?_
  intro a b hin hp
  exact eqS_vc (K := fun r => r = (Sp.eqChangeS a b, ())) Sp.eqChange (fun x y => by simp [Sp.eqChange]) _ a b _ (by have h := hin.1.1; rw [maxLen_eq] at h; exact h) (fun z hz => by
    have : z = Sp.eqChangeS a b := Bool.eq_iff_iff.2 (hz.trans (by simp [Sp.eqChangeS]))
    rw [this])

theorem ok_laws_eqAction : ConOK prog G n_laws_eqAction con_laws_eqAction := by
  refine wk_laws_eqAction (env_of (l := [(n_laws_eqChangeS, .pure con_laws_eqChangeS)]) (types_ok types_checked) (by simp only [List.forall_mem_cons]; exact ⟨⟨ok_laws_eqChangeS, cal_laws_eqChangeS⟩, fun x hx => by cases hx⟩)) ?_
  intro a0 a1 a2 a3 a4 b0 b1 b2 b3 b4 hin hp
  have e : Sp.eqAction (a0, a1, a2, a3, a4, ()) (b0, b1, b2, b3, b4, ()) = ((a0 == b0) && (a1 == b1) && (Sp.eqChangeS a2 b2) && (a3 == b3) && (a4 == b4)) := Bool.eq_iff_iff.2 (by simp [Sp.eqAction, Sp.eqChangeS, and_assoc])
  simp only [VC_laws_eqAction, e, bne]
  cases (a0 == b0) <;> cases (a1 == b1) <;> cases (Sp.eqChangeS a2 b2) <;> cases (a3 == b3) <;> cases (a4 == b4) <;> simp

end Go.Proofs.Tryd


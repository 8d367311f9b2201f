import Derived.Test.YtiifcpnpbfjlcaaP7
namespace Go.Proofs.Try
open Go Go.Fw Go.IntWalk

theorem ok_laws_FnReadWrite : ConOK prog G n_laws_FnReadWrite con_laws_FnReadWrite := by
  refine wk_laws_FnReadWrite (env_of (l := [(n_laws_sameInts, .pure con_laws_sameInts), (n_spec_FilesOwnedBy, .pure con_spec_FilesOwnedBy), (n_impl_FilesOwnedBy, .pure con_impl_FilesOwnedBy), (n_spec_IsValidStore, .pure con_spec_IsValidStore), (n_spec_FindFile, .pure con_spec_FindFile), (n_laws_sameStore, .pure con_laws_sameStore), (n_spec_VisibleStore, .pure con_spec_VisibleStore), (n_spec_CanWrite, .pure con_spec_CanWrite), (n_impl_CanWrite, .pure con_impl_CanWrite), (n_spec_CanRead, .pure con_spec_CanRead), (n_impl_CanRead, .pure con_impl_CanRead), (n_impl_VisibleStore, .pure con_impl_VisibleStore), (n_spec_DrawVisibleStore, .eff (xmodes sh_spec_DrawVisibleStore) con_spec_DrawVisibleStore), (n_spec_DrawCanRead, .eff (xmodes sh_spec_DrawCanRead) con_spec_DrawCanRead), (n_laws_big, .pure con_laws_big)]) (types_ok types_checked) (by simp only [List.forall_mem_cons]; exact ⟨⟨ok_laws_sameInts, cal_laws_sameInts⟩, ⟨ok_spec_FilesOwnedBy, cal_spec_FilesOwnedBy⟩, ⟨ok_impl_FilesOwnedBy, cal_impl_FilesOwnedBy⟩, ⟨ok_spec_IsValidStore, cal_spec_IsValidStore⟩, ⟨ok_spec_FindFile, cal_spec_FindFile⟩, ⟨ok_laws_sameStore, cal_laws_sameStore⟩, ⟨ok_spec_VisibleStore, cal_spec_VisibleStore⟩, ⟨ok_spec_CanWrite, cal_spec_CanWrite⟩, ⟨ok_impl_CanWrite, cal_impl_CanWrite⟩, ⟨ok_spec_CanRead, cal_spec_CanRead⟩, ⟨ok_impl_CanRead, cal_impl_CanRead⟩, ⟨ok_impl_VisibleStore, cal_impl_VisibleStore⟩, ⟨ok_spec_DrawVisibleStore, cal_spec_DrawVisibleStore⟩, ⟨ok_spec_DrawCanRead, cal_spec_DrawCanRead⟩, ⟨ok_laws_big, cal_laws_big⟩, fun x hx => by cases hx⟩)) ?_
  intro b hin hp
  refine ⟨trivial, cond_intro (fun _ => rfl) fun h => ?_⟩
  have h : ¬ (1048576 : Int) < b.length := decF h
  have hb : b.length ≤ 1048576 := by omega
  refine ⟨hb, ?_⟩
  rintro ⟨⟨⟨f0, f1, f2, f3, f4, ⟨⟩⟩, v, ⟨⟩⟩, ⟨⟩⟩ hF
  refine ⟨hb, ?_⟩
  rintro ⟨⟨⟨s0, s1, s2, ⟨⟩⟩, u, ⟨⟩⟩, ⟨⟩⟩ hS
  have hS : Sp.smallS (s0, s1, s2, ()) := hS
  have hl : s1.length ≤ 1000 := hS.2.1
  have hV : Sp.smallS (Sp.visible (s0, s1, s2, ()) u) := Sp.visible_small u hS
  have hV1 : (Sp.visible (s0, s1, s2, ()) u).2.1.length ≤ 1000 := hV.2.1
  have same : decide (((Sp.visible (s0, s1, s2, ()) u).1, (Sp.visible (s0, s1, s2, ()) u).2.1, (Sp.visible (s0, s1, s2, ()) u).2.2.1, ()) = ((Sp.visible (s0, s1, s2, ()) u).1, (Sp.visible (s0, s1, s2, ()) u).2.1, (Sp.visible (s0, s1, s2, ()) u).2.2.1, ())) = true := decide_eq_true rfl
  refine ⟨hS, fun _ => True, ?_, ?_⟩
  · refine ⟨trivial, trivial, cond_intro (fun h1 => ?_) fun _ => ⟨trivial, trivial, cond_intro (fun h2 => ?_) fun _ => ⟨trivial, cond_intro (fun h3 => ⟨trivial, cond_intro (fun h4 => ?_) fun _ => ⟨hS, trivial, cond_intro (fun h5 => ?_) fun _ => ⟨rfl, trivial⟩⟩⟩) fun _ => ⟨hS, trivial, cond_intro (fun h5 => ?_) fun _ => ⟨rfl, trivial⟩⟩⟩⟩⟩
    · simp at h1
    · simp at h2
    · have h4 : Sp.canRead (f0, f1, f2, f3, f4, ()) v = false := notT h4
      rw [Sp.write_read _ _ h3] at h4; cases h4
    · have h5 := notT h5
      rw [show _ = true from same] at h5; cases h5
    · have h5 := notT h5
      rw [show _ = true from same] at h5; cases h5
  · intro _ _
    refine up_loop s1.length (by omega) (fun _ => True) trivial (fun I μ n hn _ next => ?_) fun I μ _ => ?_
    · dsimp only
      refine condT (by omega) ⟨⟨by omega, by omega⟩, hV, trivial, cond_intro (fun ho => ⟨⟨by omega, by omega⟩, trivial, cond_intro (fun h1 => ?_) fun _ => ⟨rfl, next trivial⟩⟩) fun _ => ⟨rfl, next trivial⟩⟩
      have e := Sp.visible_read (s := (s0, s1, s2, ())) u ho (f := Sp.fileAt s1 n) (Sp.fileAt_mem hn)
      have h1 : (!((Sp.findFile (Sp.visible (s0, s1, s2, ()) u) (Sp.fileAt s1 n).1).2 == Sp.canRead (Sp.fileAt s1 n) u)) = true := h1
      rw [e] at h1
      simp at h1
    · dsimp only
      refine condF (by omega) ?_
      refine up_loop (Sp.visible (s0, s1, s2, ()) u).2.1.length (by omega) (fun _ => True) trivial (fun I μ n hn _ next => ?_) fun I μ _ => ?_
      · dsimp only
        refine condT (by omega) ⟨⟨by omega, by omega⟩, hV, ⟨by omega, by omega⟩, cond_intro (fun h0 => cond_intro (fun h1 => ?_) fun _ => ⟨rfl, next trivial⟩) fun _ => ⟨rfl, next trivial⟩⟩
        have h0 : (Sp.fileAt (Sp.visible (s0, s1, s2, ()) u).2.1 n).2.2.2.1 ≠ 0 := fun e => by
          have h0 : ((Sp.fileAt (Sp.visible (s0, s1, s2, ()) u).2.1 n).2.2.2.1 != 0) = true := h0
          rw [e] at h0; simp at h0
        have e := Sp.visible_link (s := (s0, s1, s2, ())) u (Sp.fileAt_mem hn) h0
        have h1 : (Sp.findFile (Sp.visible (s0, s1, s2, ()) u) (Sp.fileAt (Sp.visible (s0, s1, s2, ()) u).2.1 n).2.2.2.1).2 = false := notT h1
        rw [e] at h1; cases h1
      · dsimp only
        refine condF (by omega) ⟨hV, trivial, cond_intro (fun _ => ⟨hl, hl, trivial, ?_⟩) fun h1 => ?_⟩
        · exact congrArg (·, ()) (decide_eq_true rfl)
        · have h1 : ¬ Sp.visible (Sp.visible (s0, s1, s2, ()) u) u = Sp.visible (s0, s1, s2, ()) u := decF h1
          exact (h1 (Sp.visible_again _ _)).elim
end Go.Proofs.Try


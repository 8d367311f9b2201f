import Derived.Test.YtiifcpnpbfjlcaaP10
import Derived.Test.YtiifcpnpbfjlcaaV6
namespace Go.Proofs.Try
open Go Go.Fw Go.IntWalk

theorem sample_small (n : Int) : Sp.smallS (Sp.sample n) := by
  have hf : Sp.smallF (0, 0, false, 0, Sp.setAttr [] [97] 1 n [], ()) := by
    have hl := setAttr_len [] [97] 1 n []
    simp only [List.length_nil] at hl
    show (Sp.setAttr [] [97] 1 n []).length ≤ 1000
    omega
  exact Sp.smallS_create empty_small hf
theorem ok_laws_FnStoreFind : ConOK prog G n_laws_FnStoreFind con_laws_FnStoreFind := by
  refine wk_laws_FnStoreFind (env_of (l := [(n_laws_sameFile, .pure con_laws_sameFile), (n_impl_IsValidStore, .pure con_impl_IsValidStore), (n_impl_FindFile, .pure con_impl_FindFile), (n_laws_sameStore, .pure con_laws_sameStore), (n_spec_DeleteFile, .eff (xmodes sh_spec_DeleteFile) con_spec_DeleteFile), (n_impl_DeleteFile, .eff (xmodes sh_impl_DeleteFile) con_impl_DeleteFile), (n_spec_DrawDeleteFile, .eff (xmodes sh_spec_DrawDeleteFile) con_spec_DrawDeleteFile), (n_spec_ReplaceFile, .eff (xmodes sh_spec_ReplaceFile) con_spec_ReplaceFile), (n_impl_ReplaceFile, .eff (xmodes sh_impl_ReplaceFile) con_impl_ReplaceFile), (n_spec_DrawReplaceFile, .eff (xmodes sh_spec_DrawReplaceFile) con_spec_DrawReplaceFile), (n_spec_CreateFile, .eff (xmodes sh_spec_CreateFile) con_spec_CreateFile), (n_impl_CreateFile, .eff (xmodes sh_impl_CreateFile) con_impl_CreateFile), (n_spec_DrawCreateFile, .eff (xmodes sh_spec_DrawCreateFile) con_spec_DrawCreateFile), (n_laws_big, .pure con_laws_big)]) (types_ok types_checked) (by simp only [List.forall_mem_cons]; exact ⟨⟨ok_laws_sameFile, cal_laws_sameFile⟩, ⟨ok_impl_IsValidStore, cal_impl_IsValidStore⟩, ⟨ok_impl_FindFile, cal_impl_FindFile⟩, ⟨ok_laws_sameStore, cal_laws_sameStore⟩, ⟨ok_spec_DeleteFile, cal_spec_DeleteFile⟩, ⟨ok_impl_DeleteFile, cal_impl_DeleteFile⟩, ⟨ok_spec_DrawDeleteFile, cal_spec_DrawDeleteFile⟩, ⟨ok_spec_ReplaceFile, cal_spec_ReplaceFile⟩, ⟨ok_impl_ReplaceFile, cal_impl_ReplaceFile⟩, ⟨ok_spec_DrawReplaceFile, cal_spec_DrawReplaceFile⟩, ⟨ok_spec_CreateFile, cal_spec_CreateFile⟩, ⟨ok_impl_CreateFile, cal_impl_CreateFile⟩, ⟨ok_spec_DrawCreateFile, cal_spec_DrawCreateFile⟩, ⟨ok_laws_big, cal_laws_big⟩, fun x hx => by cases hx⟩)) ?_
  intro b hin hp
  refine ⟨trivial, cond_intro (fun _ => rfl) fun hb => ?_⟩
  have hb : b.length ≤ 1048576 := by have := decF hb; omega
  refine ⟨hb, ?_⟩
  rintro ⟨⟨⟨a1, l1, n1, ⟨⟩⟩, ⟨d, o, p, lk, al, ⟨⟩⟩, ⟨⟩⟩, ⟨⟩⟩ ⟨hs1, hf1⟩
  refine ⟨⟨hs1, hf1⟩, ?_⟩
  rintro ⟨⟨⟨a2, l2, n2, ⟨⟩⟩, i2, k2, ⟨⟩⟩, ⟨⟩⟩ ⟨p1, p2, p3, p4, p5⟩
  have c2 : ((a2, l2, n2, ()), i2, k2) = Sp.createFile (a1, l1, n1, ()) (d, o, p, lk, al, ()) := Prod.ext (Prod.ext p1 (Prod.ext p2 (Prod.ext p3 rfl))) (Prod.ext p4 p5)
  refine ⟨⟨hs1, hf1⟩, ?_⟩
  rintro ⟨⟨⟨a3, l3, n3, ⟨⟩⟩, i3, k3, ⟨⟩⟩, ⟨⟩⟩ ⟨q1, q2, q3, q4, q5⟩
  have c3 : ((a3, l3, n3, ()), i3, k3) = Sp.createFile (a1, l1, n1, ()) (d, o, p, lk, al, ()) := Prod.ext (Prod.ext q1 (Prod.ext q2 (Prod.ext q3 rfl))) (Prod.ext q4 q5)
  obtain ⟨⟨rfl, rfl, rfl⟩, rfl, rfl⟩ : (a2 = a3 ∧ l2 = l3 ∧ n2 = n3) ∧ i2 = i3 ∧ k2 = k3 := by simpa using c2.trans c3.symm
  clear p1 p2 p3 p4 p5 q1 q2 q3 q4 q5 c3
  refine ⟨hb, ?_⟩
  rintro ⟨⟨⟨a4, l4, n4, ⟨⟩⟩, ⟨d4, o4, p4, lk4, al4, ⟨⟩⟩, ⟨⟩⟩, ⟨⟩⟩ ⟨hs4, hf4⟩
  refine ⟨⟨hs4, hf4⟩, ?_⟩
  rintro ⟨⟨⟨a5, l5, n5, ⟨⟩⟩, k5, ⟨⟩⟩, ⟨⟩⟩ ⟨p1, p2, p3, p4⟩
  have c5 : ((a5, l5, n5, ()), k5) = Sp.replaceFile (a4, l4, n4, ()) (d4, o4, _, lk4, al4, ()) := Prod.ext (Prod.ext p1 (Prod.ext p2 (Prod.ext p3 rfl))) p4
  refine ⟨⟨hs4, hf4⟩, ?_⟩
  rintro ⟨⟨⟨a6, l6, n6, ⟨⟩⟩, k6, ⟨⟩⟩, ⟨⟩⟩ ⟨q1, q2, q3, q4⟩
  have c6 : ((a6, l6, n6, ()), k6) = Sp.replaceFile (a4, l4, n4, ()) (d4, o4, _, lk4, al4, ()) := Prod.ext (Prod.ext q1 (Prod.ext q2 (Prod.ext q3 rfl))) q4
  obtain ⟨⟨rfl, rfl, rfl⟩, rfl⟩ : (a5 = a6 ∧ l5 = l6 ∧ n5 = n6) ∧ k5 = k6 := by simpa using c5.trans c6.symm
  clear p1 p2 p3 p4 q1 q2 q3 q4 c6
  refine ⟨hb, ?_⟩
  rintro ⟨⟨⟨a7, l7, n7, ⟨⟩⟩, i7, ⟨⟩⟩, ⟨⟩⟩ hs7
  refine ⟨hs7, ?_⟩
  rintro ⟨⟨⟨a8, l8, n8, ⟨⟩⟩, k8, ⟨⟩⟩, ⟨⟩⟩ ⟨p1, p2, p3, p4⟩
  have c8 : ((a8, l8, n8, ()), k8) = Sp.deleteFile (a7, l7, n7, ()) i7 := Prod.ext (Prod.ext p1 (Prod.ext p2 (Prod.ext p3 rfl))) p4
  refine ⟨hs7, ?_⟩
  rintro ⟨⟨⟨a9, l9, n9, ⟨⟩⟩, k9, ⟨⟩⟩, ⟨⟩⟩ ⟨q1, q2, q3, q4⟩
  have c9 : ((a9, l9, n9, ()), k9) = Sp.deleteFile (a7, l7, n7, ()) i7 := Prod.ext (Prod.ext q1 (Prod.ext q2 (Prod.ext q3 rfl))) q4
  obtain ⟨⟨rfl, rfl, rfl⟩, rfl⟩ : (a8 = a9 ∧ l8 = l9 ∧ n8 = n9) ∧ k8 = k9 := by simpa using c8.trans c9.symm
  clear p1 p2 p3 p4 q1 q2 q3 q4 c9
  have s2 := Sp.smallS_create hs1 hf1
  have s5 := Sp.smallS_replace hs4 hf4
  have s8 := Sp.smallS_delete i7 hs7
  have t2 := @Sp.create_found (a1, l1, n1, ()) (d, o, p, lk, al, ())
  have u2 := @Sp.create_same (a1, l1, n1, ()) (d, o, p, lk, al, ())
  have t5 := @Sp.replace_found (a4, l4, n4, ()) (d4, o4, p4, lk4, al4, ())
  have t8 := @Sp.delete_gone (a7, l7, n7, ()) i7
  dsimp only at s2 s5
  rw [← c2] at s2 t2 u2
  rw [← c5] at s5 t5
  rw [← c8] at s8 t8
  dsimp only at s2 t2 u2 s5 t5 s8 t8
  refine ⟨fun _ => True, by simp, fun _ _ => ?_⟩
  refine ⟨fun _ => True, cond_intro (fun h => ?_) fun h => ⟨rfl, trivial⟩, fun _ _ => ?_⟩
  · obtain ⟨f1, f2, f3, f4, f5⟩ := t2 h
    have w : IntKind.i64.wrap ((l1.length : Int) + 1) = ((l1.length + 1 : Nat) : Int) := wrapIn _ (by omega)
    refine ⟨s2, ?_⟩
    simp [f1, f2, f3, f5, w]
  · have hl : k2 = false → decide (((a2, l2, n2, ()) : Sp.DStore) = (a1, l1, n1, ())) = true := fun h => decide_eq_true (u2 h)
    have fin : (bif k2 then ((true, ()) : Bool × Unit) = (true, ()) else True ∧ (decide (((a2, l2, n2, ()) : Sp.DStore) = (a1, l1, n1, ())), ()) = (true, ())) := by
      cases k2 with
      | true => rfl
      | false => exact ⟨trivial, by rw [hl rfl]⟩
    have del : (bif !k8 then (bif k2 then ((true, ()) : Bool × Unit) = (true, ()) else True ∧ (decide (((a2, l2, n2, ()) : Sp.DStore) = (a1, l1, n1, ())), ()) = (true, ())) else
        bif !(Sp.findFile (a8, l8, n8, ()) i7).2 then (bif (l8.length : Int) == IntKind.i64.wrap ((l7.length : Int) - 1) then
          (bif k2 then ((true, ()) : Bool × Unit) = (true, ()) else True ∧ (decide (((a2, l2, n2, ()) : Sp.DStore) = (a1, l1, n1, ())), ()) = (true, ())) else ((false, ()) : Bool × Unit) = (true, ())) else ((false, ()) : Bool × Unit) = (true, ())) := by
      cases k8 with
      | false => exact fin
      | true =>
        obtain ⟨f1, f2, f3, f4⟩ := t8 rfl
        have w : IntKind.i64.wrap ((l7.length : Int) - 1) = ((l7.length - 1 : Nat) : Int) := (wrapIn _ (by omega)).trans (by omega)
        rw [f1, w, f2, beq_self_eq_true]
        exact fin
    refine ⟨s8, s5, cond_intro (fun h5 => del) fun h5 => ?_⟩
    have h5 : k5 = true := by simpa using h5
    obtain ⟨f1, f2⟩ := t5 h5
    dsimp only
    rw [f1, f2]
    simp only [decide_true, cond_true, true_and] at del ⊢
    exact del
theorem ok_spec_DrawNewStore : XConOK prog G n_spec_DrawNewStore con_spec_DrawNewStore := by
  refine wk_spec_DrawNewStore (env_of (l := [(n_spec_l03Any, .eff (xmodes sh_spec_l03Any) con_spec_l03Any), (n_spec_l01New, .eff (xmodes sh_spec_l01New) con_spec_l01New)]) (types_ok types_checked) (by simp only [List.forall_mem_cons]; exact ⟨⟨ok_spec_l03Any, cal_spec_l03Any⟩, ⟨ok_spec_l01New, cal_spec_l01New⟩, fun x hx => by cases hx⟩)) (fun _ _ => ⟨((([] : List Sp.DField), ()), ()), (by decide : (0 : Nat) ≤ 6)⟩) ?_
  intro b hin hp
  refine ⟨hp, ?_⟩
  rintro ⟨b0, i0, g0, ⟨⟩⟩ e0
  have e0 : i0 = 0 := e0
  subst e0
  refine ⟨(show (0 : Int) ≤ 0 by decide), ?_⟩
  rintro ⟨⟨x, ⟨⟩⟩, ⟨b2, i2, g2, ⟨⟩⟩, ⟨⟩⟩ ⟨_, h⟩
  exact h
theorem ok_laws_FnStoreIDs : ConOK prog G n_laws_FnStoreIDs con_laws_FnStoreIDs := by
  refine wk_laws_FnStoreIDs (env_of (l := [(n_impl_DeleteFile, .eff (xmodes sh_impl_DeleteFile) con_impl_DeleteFile), (n_impl_CreateFile, .eff (xmodes sh_impl_CreateFile) con_impl_CreateFile), (n_laws_sampleStore, .eff (xmodes sh_laws_sampleStore) con_laws_sampleStore), (n_spec_IsValidStore, .pure con_spec_IsValidStore), (n_impl_IsValidStore, .pure con_impl_IsValidStore), (n_spec_NewStore, .eff (xmodes sh_spec_NewStore) con_spec_NewStore), (n_impl_NewStore, .pure con_impl_NewStore), (n_laws_sameStore, .pure con_laws_sameStore), (n_impl_EqualStores, .pure con_impl_EqualStores), (n_laws_sameInts, .pure con_laws_sameInts), (n_spec_FileIDs, .pure con_spec_FileIDs), (n_impl_FileIDs, .pure con_impl_FileIDs), (n_spec_DrawNewStore, .eff (xmodes sh_spec_DrawNewStore) con_spec_DrawNewStore), (n_spec_DrawEqualStores, .eff (xmodes sh_spec_DrawEqualStores) con_spec_DrawEqualStores), (n_spec_DrawFileIDs, .eff (xmodes sh_spec_DrawFileIDs) con_spec_DrawFileIDs), (n_laws_big, .pure con_laws_big)]) (types_ok types_checked) (by simp only [List.forall_mem_cons]; exact ⟨⟨ok_impl_DeleteFile, cal_impl_DeleteFile⟩, ⟨ok_impl_CreateFile, cal_impl_CreateFile⟩, ⟨ok_laws_sampleStore, cal_laws_sampleStore⟩, ⟨ok_spec_IsValidStore, cal_spec_IsValidStore⟩, ⟨ok_impl_IsValidStore, cal_impl_IsValidStore⟩, ⟨ok_spec_NewStore, cal_spec_NewStore⟩, ⟨ok_impl_NewStore, cal_impl_NewStore⟩, ⟨ok_laws_sameStore, cal_laws_sameStore⟩, ⟨ok_impl_EqualStores, cal_impl_EqualStores⟩, ⟨ok_laws_sameInts, cal_laws_sameInts⟩, ⟨ok_spec_FileIDs, cal_spec_FileIDs⟩, ⟨ok_impl_FileIDs, cal_impl_FileIDs⟩, ⟨ok_spec_DrawNewStore, cal_spec_DrawNewStore⟩, ⟨ok_spec_DrawEqualStores, cal_spec_DrawEqualStores⟩, ⟨ok_spec_DrawFileIDs, cal_spec_DrawFileIDs⟩, ⟨ok_laws_big, cal_laws_big⟩, fun x hx => by cases hx⟩)) ?_
  intro b hin hp
  refine ⟨trivial, cond_intro (fun _ => rfl) fun hb => ?_⟩
  have hb : b.length ≤ 1048576 := by have := decF hb; omega
  refine ⟨hb, ?_⟩
  rintro ⟨⟨⟨a1, l1, n1, ⟨⟩⟩, ⟨⟩⟩, ⟨⟩⟩ hs1
  refine ⟨hb, ?_⟩
  rintro ⟨⟨⟨a2, l2, n2, ⟨⟩⟩, ⟨a3, l3, n3, ⟨⟩⟩, ⟨⟩⟩, ⟨⟩⟩ ⟨hs2, hs3⟩
  refine ⟨hb, ?_⟩
  rintro ⟨⟨u, ⟨⟩⟩, ⟨⟩⟩ hu
  have hu : u.length ≤ 6 := hu
  refine ⟨fun _ => True, ?_, fun _ _ => ?_⟩
  · refine ⟨hs1.2.1, hs1.2.1, trivial, ?_⟩
    simp only [decide_true, Bool.not_true, cond_false, beq_self_eq_true, true_and]
    have hu2 : u.length ≤ 1000 := by omega
    refine ⟨hu2, hu2, ?_⟩
    rintro ⟨⟨⟨a4, l4, n4, ⟨⟩⟩, ⟨⟩⟩, ⟨⟩⟩ ⟨e1, e2, e3⟩
    have e1 : a4 = u := e1
    have e2 : l4 = [] := e2
    have e3 : n4 = 1 := e3
    subst e1 e2 e3
    simp
  · refine ⟨trivial, ?_⟩
    rintro ⟨⟨⟨a5, l5, n5, ⟨⟩⟩, ⟨⟩⟩, ⟨⟩⟩ ⟨e1, e2, e3⟩
    have e5 : ((a5, l5, n5, ()) : Sp.DStore) = Sp.sample 3 := Prod.ext e1 (Prod.ext e2 (Prod.ext e3 rfl))
    have h5 : Sp.smallS (a5, l5, n5, ()) := by rw [e5]; exact sample_small 3
    have hf : Sp.smallF (0, 0, false, 0, [], ()) := (by decide : ([] : List Sp.DAttr).length ≤ 1000)
    refine ⟨⟨h5, hf⟩, ?_⟩
    rintro ⟨⟨⟨a6, l6, n6, ⟨⟩⟩, i6, k6, ⟨⟩⟩, ⟨⟩⟩ ⟨p1, p2, p3, p4, p5⟩
    have c6 : ((a6, l6, n6, ()), i6, k6) = Sp.createFile (a5, l5, n5, ()) (0, 0, false, 0, [], ()) := Prod.ext (Prod.ext p1 (Prod.ext p2 (Prod.ext p3 rfl))) (Prod.ext p4 p5)
    have s6 := Sp.smallS_create h5 hf
    rw [← c6] at s6
    refine ⟨s6, ?_⟩
    rintro ⟨⟨⟨a7, l7, n7, ⟨⟩⟩, k7, ⟨⟩⟩, ⟨⟩⟩ ⟨p1, p2, p3, p4⟩
    have c7 : ((a7, l7, n7, ()), k7) = Sp.deleteFile (a6, l6, n6, ()) i6 := Prod.ext (Prod.ext p1 (Prod.ext p2 (Prod.ext p3 rfl))) p4
    have s7 := Sp.smallS_delete i6 s6
    rw [← c7] at s7
    refine ⟨⟨s7, hf⟩, ?_⟩
    rintro ⟨⟨⟨a8, l8, n8, ⟨⟩⟩, i8, k8, ⟨⟩⟩, ⟨⟩⟩ ⟨p1, p2, p3, p4, p5⟩
    have c8 : ((a8, l8, n8, ()), i8, k8) = Sp.createFile (a7, l7, n7, ()) (0, 0, false, 0, [], ()) := Prod.ext (Prod.ext p1 (Prod.ext p2 (Prod.ext p3 rfl))) (Prod.ext p4 p5)
    rw [e5] at c6
    have v6 : Sp.createFile (Sp.sample 3) (0, 0, false, 0, [], ()) = ((Sp.usual, [(1, 0, false, 0, [([97], 1, 3, [], ())], ()), (2, 0, false, 0, [], ())], 3, ()), 2, true) := by decide +kernel
    rw [v6] at c6
    obtain ⟨⟨rfl, rfl, rfl⟩, rfl, rfl⟩ : (a6 = Sp.usual ∧ l6 = [(1, 0, false, 0, [([97], 1, 3, [], ())], ()), (2, 0, false, 0, [], ())] ∧ n6 = 3) ∧ i6 = 2 ∧ k6 = true := by simpa using c6
    have v7 : Sp.deleteFile (Sp.usual, [(1, 0, false, 0, [([97], 1, 3, [], ())], ()), (2, 0, false, 0, [], ())], 3, ()) 2 = ((Sp.usual, [(1, 0, false, 0, [([97], 1, 3, [], ())], ())], 3, ()), true) := by decide +kernel
    rw [v7] at c7
    obtain ⟨⟨rfl, rfl, rfl⟩, rfl⟩ : (a7 = Sp.usual ∧ l7 = [(1, 0, false, 0, [([97], 1, 3, [], ())], ())] ∧ n7 = 3) ∧ k7 = true := by simpa using c7
    have v8 : Sp.createFile (Sp.usual, [(1, 0, false, 0, [([97], 1, 3, [], ())], ())], 3, ()) (0, 0, false, 0, [], ()) = ((Sp.usual, [(1, 0, false, 0, [([97], 1, 3, [], ())], ()), (3, 0, false, 0, [], ())], 4, ()), 3, true) := by decide +kernel
    rw [v8] at c8
    obtain ⟨⟨rfl, rfl, rfl⟩, rfl, rfl⟩ : (a8 = Sp.usual ∧ l8 = [(1, 0, false, 0, [([97], 1, 3, [], ())], ()), (3, 0, false, 0, [], ())] ∧ n8 = 4) ∧ i8 = 3 ∧ k8 = true := by simpa using c8
    rfl
end Go.Proofs.Try


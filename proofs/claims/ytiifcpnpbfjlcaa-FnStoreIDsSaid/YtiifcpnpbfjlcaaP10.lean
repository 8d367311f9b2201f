import Derived.Test.YtiifcpnpbfjlcaaP9
namespace Go.Proofs.Try
open Go Go.Fw Go.IntWalk

theorem over_len {α : Type} {l : List α} {lo : Nat} {news : List α} (h : lo + news.length ≤ l.length) : (overRows l lo news).length = l.length := by
  unfold overRows
  simp only [List.length_append, List.length_take, List.length_drop]
  omega
theorem over_take {α : Type} {l : List α} {lo k : Nat} {news : List α} (hk : k ≤ lo) (h : lo ≤ l.length) : (overRows l lo news).take k = l.take k := by
  unfold overRows
  rw [List.append_assoc, List.take_append_of_le_length (by rw [List.length_take]; omega), List.take_take, Nat.min_eq_left hk]
theorem over_all {α : Type} {l : List α} {lo k : Nat} {news : List α} (hk : k = lo + news.length) (h : lo ≤ l.length) : (overRows l lo news).take k = l.take lo ++ news := by
  unfold overRows
  have : (l.take lo ++ news).length = k := by rw [List.length_append, List.length_take]; omega
  rw [List.take_append_of_le_length (by omega), ← this, List.take_length]
theorem ok_slices_Delete_impl_File : XConOK prog G n_slices_Delete_impl_File con_slices_Delete_impl_File := by
  refine wk_slices_Delete_impl_File (env_of (l := []) (types_ok types_checked) (fun x hx => by cases hx)) (fun ⟨s, i, j, _⟩ _ => ⟨((s.take i.toNat ++ s.drop j.toNat, ()), ()), rfl⟩) ?_
  intro s i j hin hp
  obtain ⟨h0, h1, h2⟩ : 0 ≤ i ∧ i ≤ j ∧ j ≤ (s.length : Int) := hp
  obtain ⟨a, rfl⟩ : ∃ a : Nat, i = a := ⟨i.toNat, by omega⟩
  obtain ⟨b, rfl⟩ : ∃ b : Nat, j = b := ⟨j.toNat, by omega⟩
  refine ⟨⟨h0, h1, h2, Int.le_refl _⟩, cond_intro (fun h => ?_) fun h => ?_⟩
  · have h : (a : Int) = b := by simpa using h
    have : a = b := by omega
    subst this
    show s = s.take a ++ s.drop a
    rw [List.take_append_drop]
  · have h : ¬ (a : Int) = b := by simpa using h
    have hb : b ≤ s.length := by omega
    have hab : a < b := by omega
    simp only [Int.toNat_natCast, Nat.sub_zero, Nat.zero_add]
    have hn : (List.take (s.length - b) (List.drop b s)).length = s.length - b := by rw [List.length_take, List.length_drop]; omega
    have hd : List.take (s.length - b) (List.drop b s) = List.drop b s := List.take_of_length_le (by rw [List.length_drop]; omega)
    have l1 : (overRows s a (List.take (s.length - b) (List.drop b s))).length = s.length := over_len (by rw [hn]; omega)
    have l2 : (overRows (overRows s a (List.take (s.length - b) (List.drop b s))) (a + (s.length - b)) (List.replicate (s.length - (a + (s.length - b))) ((0 : Int), (0 : Int), false, (0 : Int), ([] : List Sp.DAttr), ()))).length = s.length := by
      rw [over_len (by rw [l1, List.length_replicate]; omega), l1]
    rw [l1, l2]
    refine ⟨by omega, ⟨by omega, by omega⟩, ⟨by omega, by omega⟩, ⟨by omega, by omega⟩, ⟨by omega, by omega, by omega⟩, by omega, ⟨by omega, by omega⟩, ?_⟩
    show List.take (a + (s.length - b)) (overRows _ _ _) = s.take a ++ s.drop b
    rw [over_take (Nat.le_refl _) (by rw [l1]; omega), over_all (by rw [hn]) (by omega), hd]
theorem ok_impl_copyFiles : XConOK prog G n_impl_copyFiles con_impl_copyFiles := by
  refine wk_impl_copyFiles (env_of (l := [(n_impl_copyFile, .pure con_impl_copyFile)]) (types_ok types_checked) (by simp only [List.forall_mem_cons]; exact ⟨⟨ok_impl_copyFile, cal_impl_copyFile⟩, fun x hx => by cases hx⟩)) (fun ⟨l, _⟩ _ => ⟨((l, ()), ()), rfl⟩) ?_
  intro l hin hp
  obtain ⟨h1, h2⟩ : l.length ≤ 1000 ∧ ∀ f ∈ l, Sp.smallF f := hp
  refine up_loopG (fun i (x : List Sp.DFile) => (((), i, ()), x, ())) (fun y => y.1.2.1) (fun _ _ => rfl) l.length (by omega) (fun n x => x = l.take n) (by simp) (fun I μ n x hn hJ next => ?_) fun I μ x hJ => ?_
  · subst hJ
    have hl : (l.take n).length ≤ n := by rw [List.length_take]; omega
    dsimp only
    refine condT (by omega) ⟨⟨by omega, by omega⟩, h2 _ (getD_mem (d := ((0 : Int), (0 : Int), false, (0 : Int), [], ())) hn), by rw [big_eq]; simp only [List.length_cons, List.length_nil]; omega, rfl, next _ ?_⟩
    exact (Sp.take_succ' l n (0, 0, false, 0, [], ()) hn).symm
  · subst hJ
    dsimp only
    refine condF (by omega) ?_
    show List.take l.length l = l
    rw [List.take_length]
theorem ok_impl_copyStore : XConOK prog G n_impl_copyStore con_impl_copyStore := by
  refine wk_impl_copyStore (env_of (l := [(n_impl_copyFiles, .eff (xmodes sh_impl_copyFiles) con_impl_copyFiles), (n_slices_Clone_impl_Field, .pure con_slices_Clone_impl_Field)]) (types_ok types_checked) (by simp only [List.forall_mem_cons]; exact ⟨⟨ok_impl_copyFiles, cal_impl_copyFiles⟩, ⟨ok_slices_Clone_impl_Field, cal_slices_Clone_impl_Field⟩, fun x hx => by cases hx⟩)) (fun ⟨(a, l, nx, _), _⟩ _ => ⟨(((a, l, nx, ()), ()), ()), rfl⟩) ?_
  intro s0 s1 s2 hin hp
  obtain ⟨h0, h1, h2⟩ : s0.length ≤ 1000 ∧ s1.length ≤ 1000 ∧ ∀ f ∈ s1, Sp.smallF f := hp
  refine ⟨h0, ⟨h1, h2⟩, ?_⟩
  rintro ⟨⟨x, ⟨⟩⟩, ⟨⟩⟩ e
  have e : x = s1 := e
  subst e
  exact rfl
theorem ok_impl_CreateFile : XConOK prog G n_impl_CreateFile con_impl_CreateFile := by
  refine wk_impl_CreateFile (env_of (l := [(n_impl_IsValidFile, .pure con_impl_IsValidFile), (n_impl_IsValidStore, .pure con_impl_IsValidStore), (n_impl_copyFile, .pure con_impl_copyFile), (n_impl_copyStore, .eff (xmodes sh_impl_copyStore) con_impl_copyStore)]) (types_ok types_checked) (by simp only [List.forall_mem_cons]; exact ⟨⟨ok_impl_IsValidFile, cal_impl_IsValidFile⟩, ⟨ok_impl_IsValidStore, cal_impl_IsValidStore⟩, ⟨ok_impl_copyFile, cal_impl_copyFile⟩, ⟨ok_impl_copyStore, cal_impl_copyStore⟩, fun x hx => by cases hx⟩)) (fun ⟨s, f, _⟩ _ => ⟨((((Sp.createFile s f).1.1, (Sp.createFile s f).1.2.1, (Sp.createFile s f).1.2.2.1, ()), (Sp.createFile s f).2.1, (Sp.createFile s f).2.2, ()), ()), ⟨rfl, rfl, rfl, rfl, rfl⟩⟩) ?_
  intro s0 s1 s2 f0 f1 f2 f3 f4 hin hp
  refine ⟨hp.1, ?_⟩
  rintro ⟨⟨⟨a, l, nx, ⟨⟩⟩, ⟨⟩⟩, ⟨⟩⟩ e
  obtain ⟨rfl, rfl, rfl⟩ : a = s0 ∧ l = s1 ∧ nx = s2 := by simpa using e
  have hs : l.length ≤ 1000 := hp.1.2.1
  have no : ¬ (Sp.okStore (a, l, nx, ()) = true ∧ l.length < 12 ∧ Sp.okFile a (nx, f1, f2, f3, f4, ()) = true) → Sp.createFile (a, l, nx, ()) (f0, f1, f2, f3, f4, ()) = ((a, l, nx, ()), 0, false) := fun h => by
    rcases Sp.createFile_cases (a, l, nx, ()) (f0, f1, f2, f3, f4, ()) with ⟨e, _⟩ | ⟨h1, h2, h3, _⟩
    · exact e
    · exact (h ⟨h1, h2, h3⟩).elim
  refine ⟨hp.2, trivial, cond_intro (fun h1 => ?_) fun h1 => cond_intro (fun h2 => ?_) fun h2 => ⟨trivial, cond_intro (fun h3 => ?_) fun h3 => ?_⟩⟩
  · have := no fun h => by have h1 := notT h1; have := h.1; rw [show Sp.okStore (a, l, nx, ()) = false from h1] at this; cases this
    dsimp only
    rw [this]; exact ⟨rfl, rfl, rfl, rfl, rfl⟩
  · have := no fun h => by have h2 : (l.length : Int) ≥ 12 := decT h2; omega
    dsimp only
    rw [this]; exact ⟨rfl, rfl, rfl, rfl, rfl⟩
  · have := no fun h => by have h3 := notT h3; have := h.2.2; rw [show Sp.okFile a (nx, f1, f2, f3, f4, ()) = false from h3] at this; cases this
    dsimp only
    rw [this]; exact ⟨rfl, rfl, rfl, rfl, rfl⟩
  · have g1 : Sp.okStore (a, l, nx, ()) = true := notF h1
    have g2 : l.length < 12 := by have h2 : ¬ (l.length : Int) ≥ 12 := decF h2; omega
    have g3 : Sp.okFile a (nx, f1, f2, f3, f4, ()) = true := notF h3
    rcases Sp.createFile_cases (a, l, nx, ()) (f0, f1, f2, f3, f4, ()) with ⟨_, e⟩ | ⟨_, _, _, e⟩
    · exact (e ⟨g1, g2, g3⟩).elim
    · have hnx := (Sp.okStore_iff.1 g1).2.2.2
      have w : IntKind.i64.wrap (nx + 1) = nx + 1 := wrapIn _ (by have h5 : nx ≤ 61 := hnx.2; have h6 : 1 ≤ nx := hnx.1; omega)
      refine ⟨by rw [big_eq]; simp only [List.length_cons, List.length_nil]; omega, ?_⟩
      dsimp only
      rw [e, w]; exact ⟨rfl, rfl, rfl, rfl, rfl⟩
theorem ok_impl_ReplaceFile : XConOK prog G n_impl_ReplaceFile con_impl_ReplaceFile := by
  refine wk_impl_ReplaceFile (env_of (l := [(n_impl_copyFile, .pure con_impl_copyFile), (n_impl_IsValidFile, .pure con_impl_IsValidFile), (n_impl_IsValidStore, .pure con_impl_IsValidStore), (n_impl_fileAt, .pure con_impl_fileAt), (n_impl_copyStore, .eff (xmodes sh_impl_copyStore) con_impl_copyStore)]) (types_ok types_checked) (by simp only [List.forall_mem_cons]; exact ⟨⟨ok_impl_copyFile, cal_impl_copyFile⟩, ⟨ok_impl_IsValidFile, cal_impl_IsValidFile⟩, ⟨ok_impl_IsValidStore, cal_impl_IsValidStore⟩, ⟨ok_impl_fileAt, cal_impl_fileAt⟩, ⟨ok_impl_copyStore, cal_impl_copyStore⟩, fun x hx => by cases hx⟩)) (fun ⟨s, f, _⟩ _ => ⟨((((Sp.replaceFile s f).1.1, (Sp.replaceFile s f).1.2.1, (Sp.replaceFile s f).1.2.2.1, ()), (Sp.replaceFile s f).2, ()), ()), ⟨rfl, rfl, rfl, rfl⟩⟩) ?_
  intro s0 s1 s2 f0 f1 f2 f3 f4 hin hp
  refine ⟨hp.1, ?_⟩
  rintro ⟨⟨⟨a, l, nx, ⟨⟩⟩, ⟨⟩⟩, ⟨⟩⟩ e
  obtain ⟨rfl, rfl, rfl⟩ : a = s0 ∧ l = s1 ∧ nx = s2 := by simpa using e
  have hs : l.length ≤ 1000 := hp.1.2.1
  have no : ¬ (Sp.okStore (a, l, nx, ()) = true ∧ 0 ≤ Sp.place l f0 ∧ Sp.okFile a (f0, f1, f2, f3, f4, ()) = true) → Sp.replaceFile (a, l, nx, ()) (f0, f1, f2, f3, f4, ()) = ((a, l, nx, ()), false) := fun h => by
    rcases Sp.replaceFile_cases (a, l, nx, ()) (f0, f1, f2, f3, f4, ()) with ⟨e, _⟩ | ⟨n, hn, h1, h2, h3, _⟩
    · exact e
    · exact (h ⟨h2, by have h1 : Sp.place l f0 = n := h1; omega, h3⟩).elim
  refine ⟨trivial, trivial, cond_intro (fun h1 => ?_) fun h1 => cond_intro (fun h2 => ?_) fun h2 => ⟨trivial, cond_intro (fun h3 => ?_) fun h3 => ?_⟩⟩
  · have := no fun h => by have h1 := notT h1; have := h.1; rw [show Sp.okStore (a, l, nx, ()) = false from h1] at this; cases this
    dsimp only
    rw [this]; exact ⟨rfl, rfl, rfl, rfl⟩
  · have := no fun h => by have h2 : Sp.place l f0 < 0 := decT h2; omega
    dsimp only
    rw [this]; exact ⟨rfl, rfl, rfl, rfl⟩
  · have := no fun h => by have h3 := notT h3; have := h.2.2; rw [show Sp.okFile a (f0, f1, f2, f3, f4, ()) = false from h3] at this; cases this
    dsimp only
    rw [this]; exact ⟨rfl, rfl, rfl, rfl⟩
  · have g1 : Sp.okStore (a, l, nx, ()) = true := notF h1
    have g2 : 0 ≤ Sp.place l f0 := by have h2 : ¬ Sp.place l f0 < 0 := decF h2; omega
    have g3 : Sp.okFile a (f0, f1, f2, f3, f4, ()) = true := notF h3
    rcases Sp.replaceFile_cases (a, l, nx, ()) (f0, f1, f2, f3, f4, ()) with ⟨_, e⟩ | ⟨n, hn, hpl, _, _, e⟩
    · exact (e ⟨g1, g2, g3⟩).elim
    · have hn : n < l.length := hn
      have hpl : Sp.place l f0 = n := hpl
      dsimp only
      rw [hpl, e]
      exact ⟨hp.2, ⟨by omega, by omega⟩, hn, rfl, rfl, rfl, rfl⟩
theorem ok_impl_DeleteFile : XConOK prog G n_impl_DeleteFile con_impl_DeleteFile := by
  refine wk_impl_DeleteFile (env_of (l := [(n_slices_Delete_impl_File, .eff (xmodes sh_slices_Delete_impl_File) con_slices_Delete_impl_File), (n_impl_IsValidStore, .pure con_impl_IsValidStore), (n_impl_fileAt, .pure con_impl_fileAt), (n_impl_copyStore, .eff (xmodes sh_impl_copyStore) con_impl_copyStore)]) (types_ok types_checked) (by simp only [List.forall_mem_cons]; exact ⟨⟨ok_slices_Delete_impl_File, cal_slices_Delete_impl_File⟩, ⟨ok_impl_IsValidStore, cal_impl_IsValidStore⟩, ⟨ok_impl_fileAt, cal_impl_fileAt⟩, ⟨ok_impl_copyStore, cal_impl_copyStore⟩, fun x hx => by cases hx⟩)) (fun ⟨s, id, _⟩ _ => ⟨((((Sp.deleteFile s id).1.1, (Sp.deleteFile s id).1.2.1, (Sp.deleteFile s id).1.2.2.1, ()), (Sp.deleteFile s id).2, ()), ()), ⟨rfl, rfl, rfl, rfl⟩⟩) ?_
  intro s0 s1 s2 id hin hp
  refine ⟨hp, ?_⟩
  rintro ⟨⟨⟨a, l, nx, ⟨⟩⟩, ⟨⟩⟩, ⟨⟩⟩ e
  obtain ⟨rfl, rfl, rfl⟩ : a = s0 ∧ l = s1 ∧ nx = s2 := by simpa using e
  have hs : l.length ≤ 1000 := hp.2.1
  have no : ¬ (Sp.okStore (a, l, nx, ()) = true ∧ 0 ≤ Sp.place l id) → Sp.deleteFile (a, l, nx, ()) id = ((a, l, nx, ()), false) := fun h => by
    rcases Sp.deleteFile_cases (a, l, nx, ()) id with ⟨e, _⟩ | ⟨n, hn, h1, h2, _⟩
    · exact e
    · exact (h ⟨h2, by have h1 : Sp.place l id = n := h1; omega⟩).elim
  refine ⟨trivial, trivial, cond_intro (fun h1 => ?_) fun h1 => cond_intro (fun h2 => ?_) fun h2 => ?_⟩
  · have := no fun h => by have h1 := notT h1; have := h.1; rw [show Sp.okStore (a, l, nx, ()) = false from h1] at this; cases this
    dsimp only
    rw [this]; exact ⟨rfl, rfl, rfl, rfl⟩
  · have := no fun h => by have h2 : Sp.place l id < 0 := decT h2; omega
    dsimp only
    rw [this]; exact ⟨rfl, rfl, rfl, rfl⟩
  · have g1 : Sp.okStore (a, l, nx, ()) = true := notF h1
    have g2 : 0 ≤ Sp.place l id := by have h2 : ¬ Sp.place l id < 0 := decF h2; omega
    rcases Sp.deleteFile_cases (a, l, nx, ()) id with ⟨_, e⟩ | ⟨n, hn, hpl, _, e⟩
    · exact (e ⟨g1, g2⟩).elim
    · have hn : n < l.length := hn
      have hpl : Sp.place l id = n := hpl
      have w : IntKind.i64.wrap ((n : Int) + 1) = ((n + 1 : Nat) : Int) := wrapIn _ (by omega)
      dsimp only
      rw [hpl, e, w, Int.toNat_natCast, Int.toNat_natCast]
      refine ⟨⟨by omega, by omega, by omega⟩, ?_⟩
      rintro ⟨⟨x, ⟨⟩⟩, ⟨⟩⟩ e2
      have e2 : x = l.take n ++ l.drop (n + 1) := e2
      subst e2
      exact ⟨rfl, (List.eraseIdx_eq_take_drop_succ ..).symm, rfl, rfl⟩
theorem ok_impl_NewStore : ConOK prog G n_impl_NewStore con_impl_NewStore := by
  refine wk_impl_NewStore (env_of (l := [(n_slices_Clone_impl_Field, .pure con_slices_Clone_impl_Field)]) (types_ok types_checked) (by simp only [List.forall_mem_cons]; exact ⟨⟨ok_slices_Clone_impl_Field, cal_slices_Clone_impl_Field⟩, fun x hx => by cases hx⟩)) ?_
  intro s hin hp
  exact ⟨hp, rfl⟩
theorem ok_impl_FileIDs : ConOK prog G n_impl_FileIDs con_impl_FileIDs := by
  refine wk_impl_FileIDs (env_of (l := []) (types_ok types_checked) (fun x hx => by cases hx)) ?_
  intro s0 s1 s2 hin hp
  have hp : s1.length ≤ 1000 := hp
  refine up_loopG (fun i (x : List (Int × Unit)) => (((), i, ()), x, ())) (fun y => y.1.2.1) (fun _ _ => rfl) s1.length (by omega) (fun n l => l = Sp.fileIDs (s1.take n)) rfl (fun I μ n l hn hJ next => ?_) fun I μ l hJ => ?_
  · subst hJ
    have hl : (Sp.fileIDs (s1.take n)).length ≤ n := by unfold Sp.fileIDs; rw [List.length_map, List.length_take]; omega
    dsimp only
    refine condT (by omega) ⟨⟨by omega, by omega⟩, by rw [big_eq]; simp only [List.length_cons, List.length_nil]; omega, rfl, next _ ?_⟩
    unfold Sp.fileIDs
    rw [Sp.take_succ' s1 n (0, 0, false, 0, [], ()) hn, List.map_append]
    rfl
  · subst hJ
    dsimp only
    refine condF (by omega) ?_
    rw [List.take_length]
theorem ok_spec_FileIDs : ConOK prog G n_spec_FileIDs con_spec_FileIDs := by
  refine wk_spec_FileIDs (env_of (l := []) (types_ok types_checked) (fun x hx => by cases hx)) ?_
  intro s0 s1 s2 hin hp
  have hp : s1.length ≤ 1000 := hp
  refine up_loopG (fun i (x : List (Int × Unit)) => (((), i, ()), x, ())) (fun y => y.1.2.1) (fun _ _ => rfl) s1.length (by omega) (fun n l => l = Sp.fileIDs (s1.take n)) rfl (fun I μ n l hn hJ next => ?_) fun I μ l hJ => ?_
  · subst hJ
    have hl : (Sp.fileIDs (s1.take n)).length ≤ n := by unfold Sp.fileIDs; rw [List.length_map, List.length_take]; omega
    dsimp only
    refine condT (by omega) ⟨⟨by omega, by omega⟩, by rw [big_eq]; simp only [List.length_cons, List.length_nil]; omega, rfl, next _ ?_⟩
    unfold Sp.fileIDs
    rw [Sp.take_succ' s1 n (0, 0, false, 0, [], ()) hn, List.map_append]
    rfl
  · subst hJ
    dsimp only
    refine condF (by omega) ?_
    rw [List.take_length]
theorem ok_impl_EqualStores : ConOK prog G n_impl_EqualStores con_impl_EqualStores := by
  refine wk_impl_EqualStores (env_of (l := [(n_impl_EqualFiles, .pure con_impl_EqualFiles), (n_slices_EqualFunc_impl_File_impl_File__impl_EqualFiles, .pure con_slices_EqualFunc_impl_File_impl_File__impl_EqualFiles), (n_slices_Equal_impl_Field, .pure con_slices_Equal_impl_Field)]) (types_ok types_checked) (by simp only [List.forall_mem_cons]; exact ⟨⟨ok_impl_EqualFiles, cal_impl_EqualFiles⟩, ⟨ok_slices_EqualFunc_impl_File_impl_File__impl_EqualFiles, cal_slices_EqualFunc_impl_File_impl_File__impl_EqualFiles⟩, ⟨ok_slices_Equal_impl_Field, cal_slices_Equal_impl_Field⟩, fun x hx => by cases hx⟩)) ?_
  intro a0 a1 a2 b0 b1 b2 hin hp
  refine ⟨trivial, cond_intro (fun h0 => ⟨trivial, cond_intro (fun h1 => ?_) fun h1 => ?_⟩) fun h0 => ?_⟩
  all_goals refine congrArg (·, ()) (Bool.eq_iff_iff.2 ?_)
  · have h0 := decT h0
    have h1 := decT h1
    subst h0 h1
    simp
  · have h1 := decF h1
    simp [h1]
  · have h0 := decF h0
    simp [h0]
theorem ok_spec_l05Id : XConOK prog G n_spec_l05Id con_spec_l05Id := by
  refine wk_spec_l05Id (env_of (l := [(n_spec_l01PickInt, .eff (xmodes sh_spec_l01PickInt) con_spec_l01PickInt)]) (types_ok types_checked) (by simp only [List.forall_mem_cons]; exact ⟨⟨ok_spec_l01PickInt, cal_spec_l01PickInt⟩, fun x hx => by cases hx⟩)) (fun _ _ => ⟨(((0 : Int), ()), (([], 0, 0, ()), ())), (by decide : (0 : Int) ≤ 0)⟩) ?_
  intro b i h hin hp
  have hp : 0 ≤ i := hp
  refine ⟨⟨hp, by simp⟩, ?_⟩
  rintro ⟨⟨x3, ⟨⟩⟩, ⟨b3, i3, g3, ⟨⟩⟩, ⟨⟩⟩ ⟨p3, _⟩
  exact p3
theorem ok_spec_DrawFindFile : XConOK prog G n_spec_DrawFindFile con_spec_DrawFindFile := by
  refine wk_spec_DrawFindFile (env_of (l := [(n_spec_l05Id, .eff (xmodes sh_spec_l05Id) con_spec_l05Id), (n_spec_l05Any, .eff (xmodes sh_spec_l05Any) con_spec_l05Any), (n_spec_l01New, .eff (xmodes sh_spec_l01New) con_spec_l01New)]) (types_ok types_checked) (by simp only [List.forall_mem_cons]; exact ⟨⟨ok_spec_l05Id, cal_spec_l05Id⟩, ⟨ok_spec_l05Any, cal_spec_l05Any⟩, ⟨ok_spec_l01New, cal_spec_l01New⟩, fun x hx => by cases hx⟩)) (fun _ _ => ⟨((([], [], 0, ()), (0 : Int), ()), ()), ⟨by decide, by decide, fun f hf => by cases hf⟩⟩) ?_
  intro b hin hp
  have hp : b.length ≤ 1048576 := hp
  refine ⟨hp, ?_⟩
  rintro ⟨b0, i0, g0, ⟨⟩⟩ e0
  have e0 : i0 = 0 := e0
  subst e0
  refine ⟨(show (0 : Int) ≤ 0 by decide), ?_⟩
  rintro ⟨⟨⟨a, l, nx, ⟨⟩⟩, ⟨⟩⟩, ⟨b2, i2, g2, ⟨⟩⟩, ⟨⟩⟩ ⟨p2, hs⟩
  refine ⟨p2, ?_⟩
  rintro ⟨⟨x4, ⟨⟩⟩, ⟨b4, i4, g4, ⟨⟩⟩, ⟨⟩⟩ p4
  exact hs
theorem ok_spec_DrawDeleteFile : XConOK prog G n_spec_DrawDeleteFile con_spec_DrawDeleteFile := by
  refine wk_spec_DrawDeleteFile (env_of (l := [(n_spec_DrawFindFile, .eff (xmodes sh_spec_DrawFindFile) con_spec_DrawFindFile)]) (types_ok types_checked) (by simp only [List.forall_mem_cons]; exact ⟨⟨ok_spec_DrawFindFile, cal_spec_DrawFindFile⟩, fun x hx => by cases hx⟩)) (fun _ _ => ⟨((([], [], 0, ()), (0 : Int), ()), ()), ⟨by decide, by decide, fun f hf => by cases hf⟩⟩) ?_
  intro b hin hp
  refine ⟨hp, ?_⟩
  rintro ⟨⟨⟨a, l, nx, ⟨⟩⟩, x, ⟨⟩⟩, ⟨⟩⟩ hs
  exact hs
theorem ok_spec_DrawReplaceFile : XConOK prog G n_spec_DrawReplaceFile con_spec_DrawReplaceFile := by
  refine wk_spec_DrawReplaceFile (env_of (l := [(n_spec_l04Any, .eff (xmodes sh_spec_l04Any) con_spec_l04Any), (n_spec_l05Any, .eff (xmodes sh_spec_l05Any) con_spec_l05Any), (n_spec_l01New, .eff (xmodes sh_spec_l01New) con_spec_l01New)]) (types_ok types_checked) (by simp only [List.forall_mem_cons]; exact ⟨⟨ok_spec_l04Any, cal_spec_l04Any⟩, ⟨ok_spec_l05Any, cal_spec_l05Any⟩, ⟨ok_spec_l01New, cal_spec_l01New⟩, fun x hx => by cases hx⟩)) (fun _ _ => ⟨((([], [], 0, ()), (0, 0, false, 0, [], ()), ()), ()), ⟨⟨by decide, by decide, fun f hf => by cases hf⟩, (by decide : ([] : List Sp.DAttr).length ≤ 1000)⟩⟩) ?_
  intro b hin hp
  have hp : b.length ≤ 1048576 := hp
  refine ⟨hp, ?_⟩
  rintro ⟨b0, i0, g0, ⟨⟩⟩ e0
  have e0 : i0 = 0 := e0
  subst e0
  refine ⟨(show (0 : Int) ≤ 0 by decide), ?_⟩
  rintro ⟨⟨⟨a, l, nx, ⟨⟩⟩, ⟨⟩⟩, ⟨b2, i2, g2, ⟨⟩⟩, ⟨⟩⟩ ⟨p2, hs⟩
  refine ⟨p2, ?_⟩
  rintro ⟨⟨⟨d, o, s, lk, al, ⟨⟩⟩, ⟨⟩⟩, ⟨b4, i4, g4, ⟨⟩⟩, ⟨⟩⟩ ⟨p4, ha⟩
  exact ⟨hs, Nat.le_trans (show al.length ≤ 10 from ha) (by decide)⟩
theorem ok_spec_DrawCreateFile : XConOK prog G n_spec_DrawCreateFile con_spec_DrawCreateFile := by
  refine wk_spec_DrawCreateFile (env_of (l := [(n_spec_DrawReplaceFile, .eff (xmodes sh_spec_DrawReplaceFile) con_spec_DrawReplaceFile)]) (types_ok types_checked) (by simp only [List.forall_mem_cons]; exact ⟨⟨ok_spec_DrawReplaceFile, cal_spec_DrawReplaceFile⟩, fun x hx => by cases hx⟩)) (fun _ _ => ⟨((([], [], 0, ()), (0, 0, false, 0, [], ()), ()), ()), ⟨⟨by decide, by decide, fun f hf => by cases hf⟩, (by decide : ([] : List Sp.DAttr).length ≤ 1000)⟩⟩) ?_
  intro b hin hp
  refine ⟨hp, ?_⟩
  rintro ⟨⟨⟨a, l, nx, ⟨⟩⟩, ⟨d, o, s, lk, al, ⟨⟩⟩, ⟨⟩⟩, ⟨⟩⟩ hs
  exact hs
theorem ok_spec_DrawFileIDs : XConOK prog G n_spec_DrawFileIDs con_spec_DrawFileIDs := by
  refine wk_spec_DrawFileIDs (env_of (l := [(n_spec_l05Any, .eff (xmodes sh_spec_l05Any) con_spec_l05Any), (n_spec_l01New, .eff (xmodes sh_spec_l01New) con_spec_l01New)]) (types_ok types_checked) (by simp only [List.forall_mem_cons]; exact ⟨⟨ok_spec_l05Any, cal_spec_l05Any⟩, ⟨ok_spec_l01New, cal_spec_l01New⟩, fun x hx => by cases hx⟩)) (fun _ _ => ⟨((([], [], 0, ()), ()), ()), ⟨by decide, by decide, fun f hf => by cases hf⟩⟩) ?_
  intro b hin hp
  have hp : b.length ≤ 1048576 := hp
  refine ⟨hp, ?_⟩
  rintro ⟨b0, i0, g0, ⟨⟩⟩ e0
  have e0 : i0 = 0 := e0
  subst e0
  refine ⟨(show (0 : Int) ≤ 0 by decide), ?_⟩
  rintro ⟨⟨⟨a, l, nx, ⟨⟩⟩, ⟨⟩⟩, ⟨b2, i2, g2, ⟨⟩⟩, ⟨⟩⟩ ⟨p2, hs⟩
  exact hs
theorem ok_spec_DrawEqualStores : XConOK prog G n_spec_DrawEqualStores con_spec_DrawEqualStores := by
  refine wk_spec_DrawEqualStores (env_of (l := [(n_spec_l05Copy, .eff (xmodes sh_spec_l05Copy) con_spec_l05Copy), (n_spec_l01Once, .eff (xmodes sh_spec_l01Once) con_spec_l01Once), (n_spec_l05Any, .eff (xmodes sh_spec_l05Any) con_spec_l05Any), (n_spec_l01New, .eff (xmodes sh_spec_l01New) con_spec_l01New)]) (types_ok types_checked) (by simp only [List.forall_mem_cons]; exact ⟨⟨ok_spec_l05Copy, cal_spec_l05Copy⟩, ⟨ok_spec_l01Once, cal_spec_l01Once⟩, ⟨ok_spec_l05Any, cal_spec_l05Any⟩, ⟨ok_spec_l01New, cal_spec_l01New⟩, fun x hx => by cases hx⟩)) (fun _ _ => ⟨((([], [], 0, ()), ([], [], 0, ()), ()), ()), ⟨⟨by decide, by decide, fun f hf => by cases hf⟩, ⟨by decide, by decide, fun f hf => by cases hf⟩⟩⟩) ?_
  intro b hin hp
  have hp : b.length ≤ 1048576 := hp
  refine ⟨hp, ?_⟩
  rintro ⟨b0, i0, g0, ⟨⟩⟩ e0
  have e0 : i0 = 0 := e0
  subst e0
  refine ⟨(show (0 : Int) ≤ 0 by decide), ?_⟩
  rintro ⟨⟨⟨a, l, nx, ⟨⟩⟩, ⟨⟩⟩, ⟨b2, i2, g2, ⟨⟩⟩, ⟨⟩⟩ ⟨p2, hs⟩
  refine ⟨p2, ?_⟩
  rintro ⟨⟨x4, ⟨⟩⟩, ⟨b4, i4, g4, ⟨⟩⟩, ⟨⟩⟩ p4
  refine cond_intro (fun _ => ⟨hs, ?_⟩) fun _ => ⟨p4, ?_⟩
  · rintro ⟨⟨⟨a5, l5, nx5, ⟨⟩⟩, ⟨⟩⟩, ⟨⟩⟩ e
    have e : ((a5, l5, nx5, ()) : Sp.DStore) = (a, l, nx, ()) := e
    refine ⟨hs, ?_⟩
    show Sp.smallS (a5, l5, nx5, ())
    rw [e]; exact hs
  · rintro ⟨⟨⟨a5, l5, nx5, ⟨⟩⟩, ⟨⟩⟩, ⟨b5, i5, g5, ⟨⟩⟩, ⟨⟩⟩ ⟨p5, hs5⟩
    exact ⟨hs, hs5⟩
theorem ok_spec_DefaultSchema : XConOK prog G n_spec_DefaultSchema con_spec_DefaultSchema := by
  refine wk_spec_DefaultSchema (env_of (l := [(n_spec_l03Usual, .eff (xmodes sh_spec_l03Usual) con_spec_l03Usual)]) (types_ok types_checked) (by simp only [List.forall_mem_cons]; exact ⟨⟨ok_spec_l03Usual, cal_spec_l03Usual⟩, fun x hx => by cases hx⟩)) (fun _ _ => ⟨((Sp.usual, ()), ()), rfl⟩) ?_
  intro hin hp
  refine ⟨trivial, ?_⟩
  rintro ⟨⟨u, ⟨⟩⟩, ⟨⟩⟩ hu
  exact hu
theorem ok_laws_sampleStore : XConOK prog G n_laws_sampleStore con_laws_sampleStore := by
  refine wk_laws_sampleStore (env_of (l := [(n_spec_CreateFile, .eff (xmodes sh_spec_CreateFile) con_spec_CreateFile), (n_spec_SetAttr, .eff (xmodes sh_spec_SetAttr) con_spec_SetAttr), (n_spec_IntValue, .pure con_spec_IntValue), (n_spec_NewStore, .eff (xmodes sh_spec_NewStore) con_spec_NewStore), (n_spec_DefaultSchema, .eff (xmodes sh_spec_DefaultSchema) con_spec_DefaultSchema)]) (types_ok types_checked) (by simp only [List.forall_mem_cons]; exact ⟨⟨ok_spec_CreateFile, cal_spec_CreateFile⟩, ⟨ok_spec_SetAttr, cal_spec_SetAttr⟩, ⟨ok_spec_IntValue, cal_spec_IntValue⟩, ⟨ok_spec_NewStore, cal_spec_NewStore⟩, ⟨ok_spec_DefaultSchema, cal_spec_DefaultSchema⟩, fun x hx => by cases hx⟩)) (fun ⟨n, _⟩ _ => ⟨((((Sp.sample n).1, (Sp.sample n).2.1, (Sp.sample n).2.2.1, ()), ()), ()), ⟨rfl, rfl, rfl⟩⟩) ?_
  intro n hin hp
  refine ⟨trivial, ?_⟩
  rintro ⟨⟨u, ⟨⟩⟩, ⟨⟩⟩ hu
  have hu : u = Sp.usual := hu
  subst hu
  refine ⟨(show Sp.usual.length ≤ 1000 by decide), ?_⟩
  rintro ⟨⟨⟨a, l, nx, ⟨⟩⟩, ⟨⟩⟩, ⟨⟩⟩ ⟨e1, e2, e3⟩
  have e1 : a = Sp.usual := e1
  have e2 : l = [] := e2
  have e3 : nx = 1 := e3
  subst e1 e2 e3
  refine ⟨trivial, by decide, ?_⟩
  rintro ⟨⟨⟨d, o, s, lk, al, ⟨⟩⟩, ⟨⟩⟩, ⟨⟩⟩ ⟨e1, e2, e3, e4, e5⟩
  have e1 : d = 0 := e1
  have e2 : o = 0 := e2
  have e3 : s = false := e3
  have e4 : lk = 0 := e4
  have e5 : al = Sp.setAttr [] [97] 1 n [] := e5
  subst e1 e2 e3 e4
  have hf : al.length ≤ 1000 := by
    have hl := setAttr_len [] [97] 1 n []
    have ea : al = Sp.setAttr [] [97] 1 n [] := by assumption
    rw [← ea] at hl
    simp only [List.length_nil] at hl
    omega
  refine ⟨⟨empty_small, hf⟩, ?_⟩
  subst e5
  rintro ⟨⟨⟨a3, l3, nx3, ⟨⟩⟩, id3, ok3, ⟨⟩⟩, ⟨⟩⟩ ⟨g1, g2, g3, _⟩
  exact ⟨g1, g2, g3⟩
end Go.Proofs.Try


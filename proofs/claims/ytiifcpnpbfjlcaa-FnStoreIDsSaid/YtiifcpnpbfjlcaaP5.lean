import Derived.Test.YtiifcpnpbfjlcaaP4
namespace Go.Proofs.Try
open Go Go.Fw Go.IntWalk

theorem attr_filter_step {s : List Sp.DAttr} (p : Sp.DAttr → Bool) {n : Nat} (hn : n < s.length) : (s.take (n + 1)).filter p = (s.take n).filter p ++ (if p (Sp.attrAt s n) = true then [Sp.attrAt s n] else []) := by
  rw [Sp.take_succ' s n ([], 0, 0, [], ()) hn, List.filter_append]
  congr 1
  show List.filter _ [Sp.attrAt s n] = _
  by_cases h : p (Sp.attrAt s n) = true
  · rw [List.filter_cons_of_pos h, if_pos h]; rfl
  · rw [List.filter_cons_of_neg h, if_neg h]; rfl
theorem attr_filter_len (s : List Sp.DAttr) (p : Sp.DAttr → Bool) (n : Nat) : ((s.take n).filter p).length ≤ n := by
  have := List.length_filter_le p (s.take n)
  rw [List.length_take] at this
  omega
theorem setAttr_zero (al : List Sp.DAttr) (name : Sp.Bytes) (n : Int) (s : Sp.Bytes) : Sp.setAttr al name 0 n s = al.filter (Sp.notNamed name) := rfl
theorem setAttr_at {al : List Sp.DAttr} {name : Sp.Bytes} {k n : Int} {s : Sp.Bytes} (hk : k ≠ 0) {l : List Sp.DAttr} (hl : l = al.filter (Sp.notNamed name)) {m : Nat} (hm : m ≤ l.length)
    (h1 : ∀ i, i < m → Sp.notAbove name (Sp.attrAt l i) = true) (h2 : m < l.length → Sp.notAbove name (Sp.attrAt l m) = false) :
    List.drop 0 (List.take m l) ++ [(name, k, n, s, ())] ++ List.drop m (List.take l.length l) = Sp.setAttr al name k n s := by
  obtain ⟨e1, e2⟩ := Sp.takeWhile_at (d := (([] : List UInt8), (0 : Int), (0 : Int), ([] : List UInt8), ())) l m hm h1 h2
  unfold Sp.setAttr Sp.putAttr
  rw [decide_eq_false hk, ← hl]
  show _ = l.takeWhile (Sp.notAbove name) ++ _ :: l.dropWhile (Sp.notAbove name)
  rw [e1, e2, List.take_length, List.drop_zero, List.append_assoc]
  rfl
theorem ok_spec_SetAttr : XConOK prog G n_spec_SetAttr con_spec_SetAttr := by
  refine wk_spec_SetAttr (env_of (l := []) (types_ok types_checked) (fun x hx => by cases hx)) (fun ⟨(i, o, s, l, a, _), name, (k, n, w, _), _⟩ _ => ⟨(((i, o, s, l, Sp.setAttr a name k n w, ()), ()), ()), ⟨rfl, rfl, rfl, rfl, rfl⟩⟩) ?_
  intro f0 f1 f2 f3 f4 name k n s hin hp
  have hp : f4.length ≤ 1000 := hp
  refine up_loopG (fun i (x : List Sp.DAttr) => (((), i, ()), x, ())) (fun y => y.1.2.1) (fun _ _ => rfl) f4.length (by omega) (fun m l => l = (f4.take m).filter (Sp.notNamed name)) (by simp) (fun I μ m l hm hJ next => ?_) fun I μ l hJ => ?_
  · subst hJ
    have hl := attr_filter_len f4 (Sp.notNamed name) m
    dsimp only
    refine condT (by omega) ⟨⟨by omega, by omega⟩, cond_intro (fun h => ⟨⟨by omega, by omega⟩, by rw [big_eq]; simp only [List.length_cons, List.length_nil]; omega, rfl, next _ ?_⟩) fun h => ⟨rfl, next _ ?_⟩⟩
    · rw [attr_filter_step _ hm, if_pos (show Sp.notNamed name (Sp.attrAt f4 m) = true from h)]; rfl
    · rw [attr_filter_step _ hm, if_neg (show ¬ Sp.notNamed name (Sp.attrAt f4 m) = true from fun h' => by have h : Sp.notNamed name (Sp.attrAt f4 m) = false := h; rw [h] at h'; cases h'), List.append_nil]
  · rw [List.take_length] at hJ
    have hl : l.length ≤ 1000 := by rw [hJ]; have := List.length_filter_le (Sp.notNamed name) f4; omega
    dsimp only
    refine condF (by omega) (cond_intro (fun h => ?_) fun h => ?_)
    · have hk : k ≠ 0 := by simpa using h
      have fin : ∀ m : Nat, m ≤ l.length → (∀ i, i < m → Sp.notAbove name (Sp.attrAt l i) = true) → (m < l.length → Sp.notAbove name (Sp.attrAt l m) = false) →
          ((0 : Int) ≤ m ∧ (m : Int) ≤ l.length) ∧ 0 + (List.drop 0 (List.take m l)).length ≤ big ∧ (List.drop 0 (List.take m l)).length + [(name, k, n, s, ())].length ≤ big ∧ ((0 : Int) ≤ m ∧ (m : Int) ≤ l.length) ∧
          (List.drop 0 (List.take m l) ++ [(name, k, n, s, ())]).length + (List.drop m (List.take l.length l)).length ≤ big ∧
          (f0 = f0 ∧ f1 = f1 ∧ f2 = f2 ∧ f3 = f3 ∧ List.drop 0 (List.take m l) ++ [(name, k, n, s, ())] ++ List.drop m (List.take l.length l) = Sp.setAttr f4 name k n s) := by
        intro m hm h1 h2
        refine ⟨⟨by omega, by omega⟩, ?_, ?_, ⟨by omega, by omega⟩, ?_, rfl, rfl, rfl, rfl, setAttr_at hk hJ hm h1 h2⟩
        all_goals
          rw [big_eq]
          simp only [List.length_append, List.length_drop, List.length_take, List.length_cons, List.length_nil]
          omega
      refine up_loop l.length (by omega) (fun m => ∀ i, i < m → Sp.notAbove name (Sp.attrAt l i) = true) (fun i hi => by omega) (fun I μ m hm hJ2 next => ?_) fun I μ hJ2 => ?_
      · dsimp only
        refine condT (by omega) ⟨⟨by omega, by omega⟩, hm, cond_intro (fun h2 => ⟨rfl, next (all_upto_next (f := fun i => Sp.notAbove name (Sp.attrAt l i)) hJ2 h2)⟩) fun h2 => ?_⟩
        exact fin m (by omega) hJ2 fun _ => h2
      · dsimp only
        exact condF (by omega) (fin l.length (Nat.le_refl _) hJ2 fun h' => by omega)
    · have hk : k = 0 := by simpa using h
      subst hk
      exact ⟨rfl, rfl, rfl, rfl, by rw [setAttr_zero]; exact hJ⟩

theorem ok_spec_NewStore : XConOK prog G n_spec_NewStore con_spec_NewStore := by
  refine wk_spec_NewStore (env_of (l := []) (types_ok types_checked) (fun x hx => by cases hx)) (fun ⟨s, _⟩ _ => ⟨(((s, [], 1, ()), ()), ()), ⟨rfl, rfl, rfl⟩⟩) ?_
  intro s hin hp
  have hp : s.length ≤ 1000 := hp
  exact ⟨by rw [big_eq]; omega, rfl, rfl, rfl⟩
theorem ok_spec_l05Copy : XConOK prog G n_spec_l05Copy con_spec_l05Copy := by
  refine wk_spec_l05Copy (env_of (l := [(n_spec_l04Copy, .pure con_spec_l04Copy)]) (types_ok types_checked) (by simp only [List.forall_mem_cons]; exact ⟨⟨ok_spec_l04Copy, cal_spec_l04Copy⟩, fun x hx => by cases hx⟩)) (fun ⟨(a, l, nx, _), _⟩ _ => ⟨(((a, l, nx, ()), ()), ()), rfl⟩) ?_
  intro s0 s1 s2 hin hp
  obtain ⟨h0, h1, h2⟩ : s0.length ≤ 1000 ∧ s1.length ≤ 1000 ∧ ∀ f ∈ s1, Sp.smallF f := hp
  refine ⟨by rw [big_eq]; omega, ?_⟩
  refine up_loopG (fun i (x : List Sp.DFile) => ((i, ()), ((), (), s2, ()), x, ())) (fun y => y.1.1) (fun _ _ => rfl) s1.length (by omega) (fun n l => l = s1.take n) (by simp) (fun I μ n l hn hJ next => ?_) fun I μ l hJ => ?_
  · subst hJ
    have hl : (s1.take n).length ≤ n := by rw [List.length_take]; omega
    dsimp only
    refine condT (by omega) ⟨⟨by omega, by omega⟩, h2 _ (getD_mem (d := ((0 : Int), (0 : Int), false, (0 : Int), [], ())) hn), by rw [big_eq]; simp only [List.length_cons, List.length_nil]; omega, rfl, next _ ?_⟩
    exact (Sp.take_succ' s1 n (0, 0, false, 0, [], ()) hn).symm
  · subst hJ
    dsimp only
    refine condF (by omega) ?_
    rw [List.take_length]
theorem ok_spec_CreateFile : XConOK prog G n_spec_CreateFile con_spec_CreateFile := by
  refine wk_spec_CreateFile (env_of (l := [(n_spec_IsValidFile, .pure con_spec_IsValidFile), (n_spec_IsValidStore, .pure con_spec_IsValidStore), (n_spec_l04Copy, .pure con_spec_l04Copy), (n_spec_l05Copy, .eff (xmodes sh_spec_l05Copy) con_spec_l05Copy)]) (types_ok types_checked) (by simp only [List.forall_mem_cons]; exact ⟨⟨ok_spec_IsValidFile, cal_spec_IsValidFile⟩, ⟨ok_spec_IsValidStore, cal_spec_IsValidStore⟩, ⟨ok_spec_l04Copy, cal_spec_l04Copy⟩, ⟨ok_spec_l05Copy, cal_spec_l05Copy⟩, fun x hx => by cases hx⟩)) (fun ⟨s, f, _⟩ _ => ⟨((((Sp.createFile s f).1.1, (Sp.createFile s f).1.2.1, (Sp.createFile s f).1.2.2.1, ()), (Sp.createFile s f).2.1, (Sp.createFile s f).2.2, ()), ()), ⟨rfl, rfl, rfl, rfl, rfl⟩⟩) ?_
  intro s0 s1 s2 f0 f1 f2 f3 f4 hin hp
  refine ⟨hp.1, ?_⟩
  rintro ⟨⟨⟨a, l, nx, ⟨⟩⟩, ⟨⟩⟩, ⟨⟩⟩ e
  obtain ⟨rfl, rfl, rfl⟩ : a = s0 ∧ l = s1 ∧ nx = s2 := by simpa using e
  have hs : l.length ≤ 1000 := hp.1.2.1
  have no : ¬ (Sp.okStore (a, l, nx, ()) = true ∧ l.length < 12 ∧ Sp.okFile a (nx, f1, f2, f3, f4, ()) = true) → Sp.createFile (a, l, nx, ()) (f0, f1, f2, f3, f4, ()) = ((a, l, nx, ()), 0, false) := fun h => by
    rcases Sp.createFile_cases (a, l, nx, ()) (f0, f1, f2, f3, f4, ()) with ⟨e, _⟩ | ⟨h1, h2, h3, _⟩
    · exact e
    · exact (h ⟨h1, h2, h3⟩).elim
  refine ⟨hp.2, trivial, cond_intro (fun h1 => ?_) fun h1 => cond_intro (fun h2 => ?_) fun h2 => ⟨trivial, cond_intro (fun h3 => ?_) fun h3 => ?_⟩⟩
  · have := no fun h => by have h1 := notT h1; have := h.1; rw [show Sp.okStore (a, l, nx, ()) = false from h1] at this; cases this
    dsimp only
    rw [this]; exact ⟨rfl, rfl, rfl, rfl, rfl⟩
  · have := no fun h => by have h2 : (l.length : Int) ≥ 12 := decT h2; omega
    dsimp only
    rw [this]; exact ⟨rfl, rfl, rfl, rfl, rfl⟩
  · have := no fun h => by have h3 := notT h3; have := h.2.2; rw [show Sp.okFile a (nx, f1, f2, f3, f4, ()) = false from h3] at this; cases this
    dsimp only
    rw [this]; exact ⟨rfl, rfl, rfl, rfl, rfl⟩
  · have g1 : Sp.okStore (a, l, nx, ()) = true := notF h1
    have g2 : l.length < 12 := by have h2 : ¬ (l.length : Int) ≥ 12 := decF h2; omega
    have g3 : Sp.okFile a (nx, f1, f2, f3, f4, ()) = true := notF h3
    rcases Sp.createFile_cases (a, l, nx, ()) (f0, f1, f2, f3, f4, ()) with ⟨_, e⟩ | ⟨_, _, _, e⟩
    · exact (e ⟨g1, g2, g3⟩).elim
    · have hnx := (Sp.okStore_iff.1 g1).2.2.2
      have w : IntKind.i64.wrap (nx + 1) = nx + 1 := wrapIn _ (by have h5 : nx ≤ 61 := hnx.2; have h6 : 1 ≤ nx := hnx.1; omega)
      refine ⟨by rw [big_eq]; simp only [List.length_cons, List.length_nil]; omega, ?_⟩
      dsimp only
      rw [e, w]; exact ⟨rfl, rfl, rfl, rfl, rfl⟩
theorem ok_spec_ReplaceFile : XConOK prog G n_spec_ReplaceFile con_spec_ReplaceFile := by
  refine wk_spec_ReplaceFile (env_of (l := [(n_spec_l04Copy, .pure con_spec_l04Copy), (n_spec_IsValidFile, .pure con_spec_IsValidFile), (n_spec_IsValidStore, .pure con_spec_IsValidStore), (n_spec_l05Place, .pure con_spec_l05Place), (n_spec_l05Copy, .eff (xmodes sh_spec_l05Copy) con_spec_l05Copy)]) (types_ok types_checked) (by simp only [List.forall_mem_cons]; exact ⟨⟨ok_spec_l04Copy, cal_spec_l04Copy⟩, ⟨ok_spec_IsValidFile, cal_spec_IsValidFile⟩, ⟨ok_spec_IsValidStore, cal_spec_IsValidStore⟩, ⟨ok_spec_l05Place, cal_spec_l05Place⟩, ⟨ok_spec_l05Copy, cal_spec_l05Copy⟩, fun x hx => by cases hx⟩)) (fun ⟨s, f, _⟩ _ => ⟨((((Sp.replaceFile s f).1.1, (Sp.replaceFile s f).1.2.1, (Sp.replaceFile s f).1.2.2.1, ()), (Sp.replaceFile s f).2, ()), ()), ⟨rfl, rfl, rfl, rfl⟩⟩) ?_
  intro s0 s1 s2 f0 f1 f2 f3 f4 hin hp
  refine ⟨hp.1, ?_⟩
  rintro ⟨⟨⟨a, l, nx, ⟨⟩⟩, ⟨⟩⟩, ⟨⟩⟩ e
  obtain ⟨rfl, rfl, rfl⟩ : a = s0 ∧ l = s1 ∧ nx = s2 := by simpa using e
  have hs : l.length ≤ 1000 := hp.1.2.1
  have no : ¬ (Sp.okStore (a, l, nx, ()) = true ∧ 0 ≤ Sp.place l f0 ∧ Sp.okFile a (f0, f1, f2, f3, f4, ()) = true) → Sp.replaceFile (a, l, nx, ()) (f0, f1, f2, f3, f4, ()) = ((a, l, nx, ()), false) := fun h => by
    rcases Sp.replaceFile_cases (a, l, nx, ()) (f0, f1, f2, f3, f4, ()) with ⟨e, _⟩ | ⟨n, hn, h1, h2, h3, _⟩
    · exact e
    · exact (h ⟨h2, by have h1 : Sp.place l f0 = n := h1; omega, h3⟩).elim
  refine ⟨trivial, trivial, cond_intro (fun h1 => ?_) fun h1 => cond_intro (fun h2 => ?_) fun h2 => ⟨trivial, cond_intro (fun h3 => ?_) fun h3 => ?_⟩⟩
  · have := no fun h => by have h1 := notT h1; have := h.1; rw [show Sp.okStore (a, l, nx, ()) = false from h1] at this; cases this
    dsimp only
    rw [this]; exact ⟨rfl, rfl, rfl, rfl⟩
  · have := no fun h => by have h2 : Sp.place l f0 < 0 := decT h2; omega
    dsimp only
    rw [this]; exact ⟨rfl, rfl, rfl, rfl⟩
  · have := no fun h => by have h3 := notT h3; have := h.2.2; rw [show Sp.okFile a (f0, f1, f2, f3, f4, ()) = false from h3] at this; cases this
    dsimp only
    rw [this]; exact ⟨rfl, rfl, rfl, rfl⟩
  · have g1 : Sp.okStore (a, l, nx, ()) = true := notF h1
    have g2 : 0 ≤ Sp.place l f0 := by have h2 : ¬ Sp.place l f0 < 0 := decF h2; omega
    have g3 : Sp.okFile a (f0, f1, f2, f3, f4, ()) = true := notF h3
    rcases Sp.replaceFile_cases (a, l, nx, ()) (f0, f1, f2, f3, f4, ()) with ⟨_, e⟩ | ⟨n, hn, hpl, _, _, e⟩
    · exact (e ⟨g1, g2, g3⟩).elim
    · have hn : n < l.length := hn
      have hpl : Sp.place l f0 = n := hpl
      dsimp only
      rw [hpl, e]
      exact ⟨hp.2, ⟨by omega, by omega⟩, hn, rfl, rfl, rfl, rfl⟩
theorem ok_spec_DeleteFile : XConOK prog G n_spec_DeleteFile con_spec_DeleteFile := by
  refine wk_spec_DeleteFile (env_of (l := [(n_spec_IsValidStore, .pure con_spec_IsValidStore), (n_spec_l05Place, .pure con_spec_l05Place), (n_spec_l05Copy, .eff (xmodes sh_spec_l05Copy) con_spec_l05Copy)]) (types_ok types_checked) (by simp only [List.forall_mem_cons]; exact ⟨⟨ok_spec_IsValidStore, cal_spec_IsValidStore⟩, ⟨ok_spec_l05Place, cal_spec_l05Place⟩, ⟨ok_spec_l05Copy, cal_spec_l05Copy⟩, fun x hx => by cases hx⟩)) (fun ⟨s, id, _⟩ _ => ⟨((((Sp.deleteFile s id).1.1, (Sp.deleteFile s id).1.2.1, (Sp.deleteFile s id).1.2.2.1, ()), (Sp.deleteFile s id).2, ()), ()), ⟨rfl, rfl, rfl, rfl⟩⟩) ?_
  intro s0 s1 s2 id hin hp
  refine ⟨hp, ?_⟩
  rintro ⟨⟨⟨a, l, nx, ⟨⟩⟩, ⟨⟩⟩, ⟨⟩⟩ e
  obtain ⟨rfl, rfl, rfl⟩ : a = s0 ∧ l = s1 ∧ nx = s2 := by simpa using e
  have hs : l.length ≤ 1000 := hp.2.1
  have no : ¬ (Sp.okStore (a, l, nx, ()) = true ∧ 0 ≤ Sp.place l id) → Sp.deleteFile (a, l, nx, ()) id = ((a, l, nx, ()), false) := fun h => by
    rcases Sp.deleteFile_cases (a, l, nx, ()) id with ⟨e, _⟩ | ⟨n, hn, h1, h2, _⟩
    · exact e
    · exact (h ⟨h2, by have h1 : Sp.place l id = n := h1; omega⟩).elim
  refine ⟨trivial, trivial, cond_intro (fun h1 => ?_) fun h1 => cond_intro (fun h2 => ?_) fun h2 => ?_⟩
  · have := no fun h => by have h1 := notT h1; have := h.1; rw [show Sp.okStore (a, l, nx, ()) = false from h1] at this; cases this
    dsimp only
    rw [this]; exact ⟨rfl, rfl, rfl, rfl⟩
  · have := no fun h => by have h2 : Sp.place l id < 0 := decT h2; omega
    dsimp only
    rw [this]; exact ⟨rfl, rfl, rfl, rfl⟩
  · have g1 : Sp.okStore (a, l, nx, ()) = true := notF h1
    have g2 : 0 ≤ Sp.place l id := by have h2 : ¬ Sp.place l id < 0 := decF h2; omega
    rcases Sp.deleteFile_cases (a, l, nx, ()) id with ⟨_, e⟩ | ⟨n, hn, hpl, _, e⟩
    · exact (e ⟨g1, g2⟩).elim
    · have hn : n < l.length := hn
      have hpl : Sp.place l id = n := hpl
      have w : IntKind.i64.wrap ((n : Int) + 1) = ((n + 1 : Nat) : Int) := wrapIn _ (by omega)
      dsimp only
      rw [hpl, e, w, Int.toNat_natCast, Int.toNat_natCast, List.drop_zero, List.take_length, big_eq]
      refine ⟨⟨by omega, by omega⟩, by rw [List.length_take]; omega, ⟨by omega, by omega⟩, by rw [List.length_take, List.length_drop]; omega, rfl, ?_, rfl, rfl⟩
      exact (List.eraseIdx_eq_take_drop_succ ..).symm
end Go.Proofs.Try


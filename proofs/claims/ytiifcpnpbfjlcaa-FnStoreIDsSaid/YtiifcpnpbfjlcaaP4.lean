import Derived.Test.YtiifcpnpbfjlcaaP3
import Derived.Test.YtiifcpnpbfjlcaaV2
namespace Go.Proofs.Try
open Go Go.Fw Go.IntWalk

theorem ok_spec_EqualFiles : ConOK prog G n_spec_EqualFiles con_spec_EqualFiles := by
  refine wk_spec_EqualFiles (env_of (l := []) (types_ok types_checked) (fun x hx => by cases hx)) ?_
  intro a0 a1 a2 a3 a4 b0 b1 b2 b3 b4 hin hp
  have hlen : a4.length ≤ maxLen := hin.1.2.2.2.2.1.1
  rw [maxLen_eq] at hlen
  refine ⟨fun _ => a0 = b0 ∧ a1 = b1 ∧ a2 = b2 ∧ a3 = b3 ∧ a4.length = b4.length, ?_, ?_⟩
  · refine cond_intro (fun h0 => ?_) fun h0 => cond_intro (fun h1 => ?_) fun h1 => cond_intro (fun h2 => ?_) fun h2 => cond_intro (fun h3 => ?_) fun h3 => cond_intro (fun h4 => ?_) fun h4 => ⟨rfl, ?_⟩
    · have h0 : a0 ≠ b0 := by simpa using h0
      exact congrArg (·, ()) (Bool.eq_iff_iff.2 (by simp [h0]))
    · have h1 : a1 ≠ b1 := by simpa using h1
      exact congrArg (·, ()) (Bool.eq_iff_iff.2 (by simp [h1]))
    · have h2 : a2 ≠ b2 := by simpa using h2
      exact congrArg (·, ()) (Bool.eq_iff_iff.2 (by simp [h2]))
    · have h3 : a3 ≠ b3 := by simpa using h3
      exact congrArg (·, ()) (Bool.eq_iff_iff.2 (by simp [h3]))
    · have h4 : (a4.length : Int) ≠ b4.length := by simpa using h4
      have h5 : a4 ≠ b4 := fun e => h4 (by rw [e])
      exact congrArg (·, ()) (Bool.eq_iff_iff.2 (by simp [h5]))
    · exact ⟨by simpa using h0, by simpa using h1, by simpa using h2, by simpa using h3, Int.ofNat.inj (show (a4.length : Int) = b4.length by simpa using h4)⟩
  · rintro _ ⟨h0, h1, h2, h3, h4⟩
    subst h0 h1 h2 h3
    have key : decide ((a0, a1, a2, a3, a4, ()) = (a0, a1, a2, a3, b4, ())) = decide (a4 = b4) := Bool.eq_iff_iff.2 (by simp)
    have e : ∀ z : Bool, (z, ()) = (decide (a4 = b4), ()) → (z, ()) = (decide ((a0, a1, a2, a3, a4, ()) = (a0, a1, a2, a3, b4, ())), ()) := fun z h => by rw [key]; exact h
    exact eq_loop (K := fun r => r = (decide ((a0, a1, a2, a3, a4, ()) = (a0, a1, a2, a3, b4, ())), ())) (fun x y => !(x.1 == y.1 && (x.2.1 == y.2.1 && (x.2.2.1 == y.2.2.1 && (x.2.2.2.1 == y.2.2.2.1 && true))))) (fun x y => by simp [Prod.ext_iff]) _ a4 b4 _ hlen h4 (fun h => e _ (by rw [decide_eq_false h])) fun h => e _ (by rw [decide_eq_true h])
theorem ok_spec_l05Fields : ConOK prog G n_spec_l05Fields con_spec_l05Fields := by
  refine wk_spec_l05Fields (env_of (l := []) (types_ok types_checked) (fun x hx => by cases hx)) ?_
  intro a b hin hp
  have hlen : a.length ≤ maxLen := hin.1.1
  rw [maxLen_eq] at hlen
  refine cond_intro (fun h => ?_) fun h => ?_
  · have h : (a.length : Int) ≠ b.length := by simpa using h
    exact congrArg (·, ()) (decide_eq_false fun e => h (by rw [e])).symm
  · have h : (a.length : Int) = b.length := by simpa using h
    exact eq_loop (K := fun r => r = (decide (a = b), ())) (fun x y => !(x.1 == y.1 && (x.2.1 == y.2.1 && true))) (fun x y => by simp [Prod.ext_iff]) _ a b _ hlen (by omega) (fun e => by rw [decide_eq_false e]) fun e => by rw [decide_eq_true e]
theorem ok_spec_EqualStores : ConOK prog G n_spec_EqualStores con_spec_EqualStores := by
  refine wk_spec_EqualStores (env_of (l := [(n_spec_EqualFiles, .pure con_spec_EqualFiles), (n_spec_l05Fields, .pure con_spec_l05Fields)]) (types_ok types_checked) (by simp only [List.forall_mem_cons]; exact ⟨⟨ok_spec_EqualFiles, cal_spec_EqualFiles⟩, ⟨ok_spec_l05Fields, cal_spec_l05Fields⟩, fun x hx => by cases hx⟩)) ?_
  intro a0 a1 a2 b0 b1 b2 hin hp
  have hlen : a1.length ≤ maxLen := hin.1.2.1.1
  rw [maxLen_eq] at hlen
  refine ⟨fun _ => a0 = b0 ∧ a2 = b2 ∧ a1.length = b1.length, ?_, ?_⟩
  · refine ⟨trivial, cond_intro (fun h0 => ?_) fun h0 => cond_intro (fun h1 => ?_) fun h1 => cond_intro (fun h4 => ?_) fun h4 => ⟨rfl, ?_⟩⟩
    · have h0 : a0 ≠ b0 := decF (notT h0)
      exact congrArg (·, ()) (Bool.eq_iff_iff.2 (by simp [h0]))
    · have h1 : a2 ≠ b2 := by simpa using h1
      exact congrArg (·, ()) (Bool.eq_iff_iff.2 (by simp [h1]))
    · have h4 : (a1.length : Int) ≠ b1.length := by simpa using h4
      have h5 : a1 ≠ b1 := fun e => h4 (by rw [e])
      exact congrArg (·, ()) (Bool.eq_iff_iff.2 (by simp [h5]))
    · exact ⟨decT (notF h0), by simpa using h1, Int.ofNat.inj (show (a1.length : Int) = b1.length by simpa using h4)⟩
  · rintro _ ⟨h0, h1, h4⟩
    subst h0 h1
    have key : decide ((a0, a1, a2, ()) = (a0, b1, a2, ())) = decide (a1 = b1) := Bool.eq_iff_iff.2 (by simp)
    have e : ∀ z : Bool, (z, ()) = (decide (a1 = b1), ()) → (z, ()) = (decide ((a0, a1, a2, ()) = (a0, b1, a2, ())), ()) := fun z h => by rw [key]; exact h
    exact eq_loopT (K := fun r => r = (decide ((a0, a1, a2, ()) = (a0, b1, a2, ())), ())) (fun x y => !decide ((x.1, x.2.1, x.2.2.1, x.2.2.2.1, x.2.2.2.2.1, ()) = (y.1, y.2.1, y.2.2.1, y.2.2.2.1, y.2.2.2.2.1, ()))) (fun x y => by simp [Prod.ext_iff]) _ a1 b1 _ hlen h4 (fun h => e _ (by rw [decide_eq_false h])) fun h => e _ (by rw [decide_eq_true h])

theorem filter_step {s : List Sp.DFile} (p : Sp.DFile → Bool) {n : Nat} (hn : n < s.length) : (s.take (n + 1)).filter p = (s.take n).filter p ++ (if p (Sp.fileAt s n) = true then [Sp.fileAt s n] else []) := by
  rw [Sp.take_succ' s n (0, 0, false, 0, [], ()) hn, List.filter_append]
  congr 1
  show List.filter _ [Sp.fileAt s n] = _
  by_cases h : p (Sp.fileAt s n) = true
  · rw [List.filter_cons_of_pos h, if_pos h]; rfl
  · rw [List.filter_cons_of_neg h, if_neg h]; rfl
theorem filter_take_len (s : List Sp.DFile) (p : Sp.DFile → Bool) (n : Nat) : ((s.take n).filter p).length ≤ n := by
  have := List.length_filter_le p (s.take n)
  rw [List.length_take] at this
  omega
/-- The links of the first n are looked at. -/
def unlinked (fs : List Sp.DFile) (n : Nat) : List Sp.DFile := (fs.take n).map (Sp.unlink fs) ++ fs.drop n
theorem unlinked_len (fs : List Sp.DFile) {n : Nat} (hn : n ≤ fs.length) : (unlinked fs n).length = fs.length := by
  unfold unlinked
  rw [List.length_append, List.length_map, List.length_take, List.length_drop]; omega
theorem unlinked_ids (fs : List Sp.DFile) (n : Nat) : (unlinked fs n).map (·.1) = fs.map (·.1) := by
  unfold unlinked
  rw [List.map_append, List.map_map]
  have : ((·.1) ∘ Sp.unlink fs : Sp.DFile → Int) = (·.1) := rfl
  rw [this, ← List.map_append, List.take_append_drop]
theorem unlinked_at (fs : List Sp.DFile) {n : Nat} (hn : n < fs.length) : (unlinked fs n).getD n (0, 0, false, 0, [], ()) = Sp.fileAt fs n := by
  unfold unlinked Sp.fileAt
  rw [List.getD_eq_getElem?_getD, List.getElem?_append_right (by simp; omega), List.length_map, List.length_take, Nat.min_eq_left (by omega), Nat.sub_self, List.getElem?_drop, Nat.add_zero, ← List.getD_eq_getElem?_getD]
theorem unlinked_next (fs : List Sp.DFile) {n : Nat} (hn : n < fs.length) : unlinked fs (n + 1) = (unlinked fs n).set n (Sp.unlink fs (Sp.fileAt fs n)) := by
  unfold unlinked
  rw [drop_cons fs n (0, 0, false, 0, [], ()) hn, Sp.take_succ' fs n (0, 0, false, 0, [], ()) hn, List.map_append, List.set_append_right _ _ (by simp; omega), List.length_map, List.length_take, Nat.min_eq_left (by omega), Nat.sub_self, List.set_cons_zero, List.append_assoc]
  rfl
theorem set_self {fs : List Sp.DFile} {n : Nat} (hn : n < fs.length) : fs.set n (fs.getD n (0, 0, false, 0, [], ())) = fs := by
  refine List.ext_getElem (by simp) fun i h1 h2 => ?_
  rw [List.getElem_set]
  split
  · next e => subst e; rw [List.getD_eq_getElem?_getD, List.getElem?_eq_getElem hn]; rfl
  · rfl
theorem unlinked_step (fs : List Sp.DFile) {n : Nat} (hn : n < fs.length) :
    (Sp.place (unlinked fs n) (Sp.fileAt fs n).2.2.2.1 < 0 → unlinked fs (n + 1) = (unlinked fs n).set n ((Sp.fileAt fs n).1, (Sp.fileAt fs n).2.1, (Sp.fileAt fs n).2.2.1, 0, (Sp.fileAt fs n).2.2.2.2.1, ())) ∧
    (¬ Sp.place (unlinked fs n) (Sp.fileAt fs n).2.2.2.1 < 0 → unlinked fs (n + 1) = unlinked fs n) := by
  rw [Sp.place_ids _ (unlinked_ids fs n)]
  refine ⟨fun h => ?_, fun h => ?_⟩
  · rw [unlinked_next fs hn]
    unfold Sp.unlink
    rw [decide_eq_true h]; rfl
  · rw [unlinked_next fs hn]
    have e : Sp.unlink fs (Sp.fileAt fs n) = (unlinked fs n).getD n (0, 0, false, 0, [], ()) := by
      rw [unlinked_at fs hn]
      unfold Sp.unlink
      rw [decide_eq_false h]; rfl
    rw [e]
    exact set_self (by rw [unlinked_len fs (by omega)]; exact hn)
theorem unlinked_end (fs : List Sp.DFile) : unlinked fs fs.length = fs.map (Sp.unlink fs) := by
  unfold unlinked
  rw [List.take_length, List.drop_length, List.append_nil]

theorem ok_spec_VisibleStore : ConOK prog G n_spec_VisibleStore con_spec_VisibleStore := by
  refine wk_spec_VisibleStore (env_of (l := [(n_spec_l05Place, .pure con_spec_l05Place), (n_spec_l04Copy, .pure con_spec_l04Copy), (n_spec_CanRead, .pure con_spec_CanRead)]) (types_ok types_checked) (by simp only [List.forall_mem_cons]; exact ⟨⟨ok_spec_l05Place, cal_spec_l05Place⟩, ⟨ok_spec_l04Copy, cal_spec_l04Copy⟩, ⟨ok_spec_CanRead, cal_spec_CanRead⟩, fun x hx => by cases hx⟩)) ?_
  intro s0 s1 s2 u hin hp
  obtain ⟨h0, h1, h2⟩ : s0.length ≤ 1000 ∧ s1.length ≤ 1000 ∧ ∀ f ∈ s1, Sp.smallF f := hp
  refine ⟨by rw [big_eq]; omega, ?_⟩
  refine up_loopG (fun i (x : List Sp.DFile) => ((i, ()), ((), (), s2, ()), x, ())) (fun y => y.1.1) (fun _ _ => rfl) s1.length (by omega) (fun n l => l = (s1.take n).filter (Sp.canRead · u)) (by simp) (fun I μ n l hn hJ next => ?_) fun I μ l hJ => ?_
  · subst hJ
    have hl := filter_take_len s1 (Sp.canRead · u) n
    dsimp only
    refine condT (by omega) ⟨⟨by omega, by omega⟩, trivial, cond_intro (fun h => ⟨⟨by omega, by omega⟩, h2 _ (getD_mem (d := ((0 : Int), (0 : Int), false, (0 : Int), [], ())) hn), by rw [big_eq]; simp only [List.length_cons, List.length_nil]; omega, rfl, next _ ?_⟩) fun h => ⟨rfl, next _ ?_⟩⟩
    · rw [filter_step _ hn, if_pos (show Sp.canRead (Sp.fileAt s1 n) u = true from h)]; rfl
    · rw [filter_step _ hn, if_neg (show ¬ Sp.canRead (Sp.fileAt s1 n) u = true from fun h' => by have h : Sp.canRead (Sp.fileAt s1 n) u = false := h; rw [h] at h'; cases h'), List.append_nil]
  · rw [List.take_length] at hJ
    subst hJ
    dsimp only
    have hl := List.length_filter_le (Sp.canRead · u) s1
    refine condF (by omega) ?_
    generalize hfs : List.filter (fun x => Sp.canRead x u) s1 = fs at hl ⊢
    refine up_loopG (fun i (x : List Sp.DFile) => ((i, ()), x, ())) (fun y => y.1.1) (fun _ _ => rfl) fs.length (by omega) (fun n l => l = unlinked fs n) (by simp [unlinked]) (fun I μ n l hn hJ next => ?_) fun I μ l hJ => ?_
    · subst hJ
      have hu := unlinked_len fs (show n ≤ fs.length by omega)
      have ha := unlinked_at fs hn
      dsimp only
      simp only [Int.toNat_natCast, ha, hu]
      refine condT (by omega) ⟨⟨by omega, by omega⟩, hn, trivial, cond_intro (fun h => ⟨⟨by omega, by omega⟩, hn, trivial, next _ ?_⟩) fun h => ⟨trivial, next _ ?_⟩⟩
      · exact ((unlinked_step fs hn).1 (decT h)).symm
      · exact ((unlinked_step fs hn).2 (decF h)).symm
    · subst hJ
      have hu := unlinked_len fs (Nat.le_refl fs.length)
      dsimp only
      refine condF (by omega) ?_
      show _ = (Sp.visible (s0, s1, s2, ()) u, ())
      unfold Sp.visible
      rw [unlinked_end, ← hfs]
theorem ok_impl_VisibleStore : ConOK prog G n_impl_VisibleStore con_impl_VisibleStore := by
  refine wk_impl_VisibleStore (env_of (l := [(n_impl_fileAt, .pure con_impl_fileAt), (n_impl_copyFile, .pure con_impl_copyFile), (n_impl_CanRead, .pure con_impl_CanRead), (n_slices_Clone_impl_Field, .pure con_slices_Clone_impl_Field)]) (types_ok types_checked) (by simp only [List.forall_mem_cons]; exact ⟨⟨ok_impl_fileAt, cal_impl_fileAt⟩, ⟨ok_impl_copyFile, cal_impl_copyFile⟩, ⟨ok_impl_CanRead, cal_impl_CanRead⟩, ⟨ok_slices_Clone_impl_Field, cal_slices_Clone_impl_Field⟩, fun x hx => by cases hx⟩)) ?_
  intro s0 s1 s2 u hin hp
  obtain ⟨h0, h1, h2⟩ : s0.length ≤ 1000 ∧ s1.length ≤ 1000 ∧ ∀ f ∈ s1, Sp.smallF f := hp
  refine ⟨h0, ?_⟩
  refine up_loopG (fun i (x : List Sp.DFile) => ((i, ()), (s0, (), s2, ()), x, ())) (fun y => y.1.1) (fun _ _ => rfl) s1.length (by omega) (fun n l => l = (s1.take n).filter (Sp.canRead · u)) (by simp) (fun I μ n l hn hJ next => ?_) fun I μ l hJ => ?_
  · subst hJ
    have hl := filter_take_len s1 (Sp.canRead · u) n
    dsimp only
    refine condT (by omega) ⟨⟨by omega, by omega⟩, trivial, cond_intro (fun h => ⟨h2 _ (getD_mem (d := ((0 : Int), (0 : Int), false, (0 : Int), [], ())) hn), by rw [big_eq]; simp only [List.length_cons, List.length_nil]; omega, rfl, next _ ?_⟩) fun h => ⟨rfl, next _ ?_⟩⟩
    · rw [filter_step _ hn, if_pos (show Sp.canRead (Sp.fileAt s1 n) u = true from h)]; rfl
    · rw [filter_step _ hn, if_neg (show ¬ Sp.canRead (Sp.fileAt s1 n) u = true from fun h' => by have h : Sp.canRead (Sp.fileAt s1 n) u = false := h; rw [h] at h'; cases h'), List.append_nil]
  · rw [List.take_length] at hJ
    subst hJ
    dsimp only
    have hl := List.length_filter_le (Sp.canRead · u) s1
    refine condF (by omega) ?_
    generalize hfs : List.filter (fun x => Sp.canRead x u) s1 = fs at hl ⊢
    refine up_loopG (fun i (x : List Sp.DFile) => ((i, ()), x, ())) (fun y => y.1.1) (fun _ _ => rfl) fs.length (by omega) (fun n l => l = unlinked fs n) (by simp [unlinked]) (fun I μ n l hn hJ next => ?_) fun I μ l hJ => ?_
    · subst hJ
      have hu := unlinked_len fs (show n ≤ fs.length by omega)
      have ha := unlinked_at fs hn
      dsimp only
      simp only [Int.toNat_natCast, ha, hu]
      refine condT (by omega) ⟨⟨by omega, by omega⟩, hn, trivial, cond_intro (fun h => ⟨⟨by omega, by omega⟩, hn, trivial, next _ ?_⟩) fun h => ⟨trivial, next _ ?_⟩⟩
      · exact ((unlinked_step fs hn).1 (decT h)).symm
      · exact ((unlinked_step fs hn).2 (decF h)).symm
    · subst hJ
      have hu := unlinked_len fs (Nat.le_refl fs.length)
      dsimp only
      refine condF (by omega) ?_
      show _ = (Sp.visible (s0, s1, s2, ()) u, ())
      unfold Sp.visible
      rw [unlinked_end, ← hfs]
theorem ok_spec_EqualForUser : ConOK prog G n_spec_EqualForUser con_spec_EqualForUser := by
  refine wk_spec_EqualForUser (env_of (l := [(n_spec_EqualStores, .pure con_spec_EqualStores), (n_spec_VisibleStore, .pure con_spec_VisibleStore)]) (types_ok types_checked) (by simp only [List.forall_mem_cons]; exact ⟨⟨ok_spec_EqualStores, cal_spec_EqualStores⟩, ⟨ok_spec_VisibleStore, cal_spec_VisibleStore⟩, fun x hx => by cases hx⟩)) ?_
  intro a0 a1 a2 b0 b1 b2 u hin hp
  refine ⟨hp.1, hp.2, trivial, ?_⟩
  exact congrArg (·, ()) (Bool.eq_iff_iff.2 (by simp))
theorem ok_impl_EqualForUser : ConOK prog G n_impl_EqualForUser con_impl_EqualForUser := by
  refine wk_impl_EqualForUser (env_of (l := [(n_impl_EqualFiles, .pure con_impl_EqualFiles), (n_slices_EqualFunc_impl_File_impl_File__impl_EqualFiles, .pure con_slices_EqualFunc_impl_File_impl_File__impl_EqualFiles), (n_slices_Equal_impl_Field, .pure con_slices_Equal_impl_Field), (n_impl_VisibleStore, .pure con_impl_VisibleStore)]) (types_ok types_checked) (by simp only [List.forall_mem_cons]; exact ⟨⟨ok_impl_EqualFiles, cal_impl_EqualFiles⟩, ⟨ok_slices_EqualFunc_impl_File_impl_File__impl_EqualFiles, cal_slices_EqualFunc_impl_File_impl_File__impl_EqualFiles⟩, ⟨ok_slices_Equal_impl_Field, cal_slices_Equal_impl_Field⟩, ⟨ok_impl_VisibleStore, cal_impl_VisibleStore⟩, fun x hx => by cases hx⟩)) ?_
  intro a0 a1 a2 b0 b1 b2 u hin hp
  refine ⟨hp.1, hp.2, trivial, cond_intro (fun h => ⟨trivial, ?_⟩) fun h => ?_⟩
  · have h : decide ((Sp.visible (a0, a1, a2, ()) u).1 = (Sp.visible (b0, b1, b2, ()) u).1) = true := h
    show _ = (decide ((Sp.visible (a0, a1, a2, ()) u).1 = (Sp.visible (b0, b1, b2, ()) u).1) && decide ((Sp.visible (a0, a1, a2, ()) u).2.1 = (Sp.visible (b0, b1, b2, ()) u).2.1), ())
    rw [h]; rfl
  · have h : decide ((Sp.visible (a0, a1, a2, ()) u).1 = (Sp.visible (b0, b1, b2, ()) u).1) = false := h
    show _ = (decide ((Sp.visible (a0, a1, a2, ()) u).1 = (Sp.visible (b0, b1, b2, ()) u).1) && decide ((Sp.visible (a0, a1, a2, ()) u).2.1 = (Sp.visible (b0, b1, b2, ()) u).2.1), ())
    rw [h]; rfl
end Go.Proofs.Try


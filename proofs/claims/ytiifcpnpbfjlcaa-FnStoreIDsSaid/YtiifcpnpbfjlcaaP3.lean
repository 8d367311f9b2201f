import Derived.Test.YtiifcpnpbfjlcaaP2
namespace Go.Proofs.Try
open Go Go.Fw Go.IntWalk

theorem ok_laws_sameFields : ConOK prog G n_laws_sameFields con_laws_sameFields := by
  refine wk_laws_sameFields (env_of (l := []) (types_ok types_checked) (fun x hx => by cases hx)) ?_
  intro a b hin hp
  have hlen : a.length ≤ maxLen := hin.1.1
  rw [maxLen_eq] at hlen
  refine cond_intro (fun h => ?_) fun h => ?_
  · have h : (a.length : Int) ≠ b.length := by simpa using h
    exact congrArg (·, ()) (decide_eq_false fun e => h (by rw [e])).symm
  · have h : (a.length : Int) = b.length := by simpa using h
    exact eq_loop (K := fun r => r = (decide (a = b), ())) (fun x y => !(x.1 == y.1 && (x.2.1 == y.2.1 && true))) (fun x y => by simp [Prod.ext_iff]) _ a b _ hlen (by omega) (fun e => by rw [decide_eq_false e]) fun e => by rw [decide_eq_true e]
theorem ok_slices_Equal_impl_Field : ConOK prog G n_slices_Equal_impl_Field con_slices_Equal_impl_Field := by
  refine wk_slices_Equal_impl_Field (env_of (l := []) (types_ok types_checked) (fun x hx => by cases hx)) ?_
  intro a b hin hp
  have hlen : a.length ≤ maxLen := hin.1.1
  rw [maxLen_eq] at hlen
  refine cond_intro (fun h => ?_) fun h => ?_
  · have h : (a.length : Int) ≠ b.length := by simpa using h
    exact congrArg (·, ()) (decide_eq_false fun e => h (by rw [e])).symm
  · have h : (a.length : Int) = b.length := by simpa using h
    exact eq_loop (K := fun r => r = (decide (a = b), ())) (fun x y => !(x.1 == y.1 && (x.2.1 == y.2.1 && true))) (fun x y => by simp [Prod.ext_iff]) _ a b _ hlen (by omega) (fun e => by rw [decide_eq_false e]) fun e => by rw [decide_eq_true e]
theorem ok_laws_sameAttrs : ConOK prog G n_laws_sameAttrs con_laws_sameAttrs := by
  refine wk_laws_sameAttrs (env_of (l := []) (types_ok types_checked) (fun x hx => by cases hx)) ?_
  intro a b hin hp
  have hlen : a.length ≤ maxLen := hin.1.1
  rw [maxLen_eq] at hlen
  refine cond_intro (fun h => ?_) fun h => ?_
  · have h : (a.length : Int) ≠ b.length := by simpa using h
    exact congrArg (·, ()) (decide_eq_false fun e => h (by rw [e])).symm
  · have h : (a.length : Int) = b.length := by simpa using h
    exact eq_loop (K := fun r => r = (decide (a = b), ())) (fun x y => !(x.1 == y.1 && (x.2.1 == y.2.1 && (x.2.2.1 == y.2.2.1 && (x.2.2.2.1 == y.2.2.2.1 && true))))) (fun x y => by simp [Prod.ext_iff]) _ a b _ hlen (by omega) (fun e => by rw [decide_eq_false e]) fun e => by rw [decide_eq_true e]
theorem ok_slices_Equal_impl_Attr : ConOK prog G n_slices_Equal_impl_Attr con_slices_Equal_impl_Attr := by
  refine wk_slices_Equal_impl_Attr (env_of (l := []) (types_ok types_checked) (fun x hx => by cases hx)) ?_
  intro a b hin hp
  have hlen : a.length ≤ maxLen := hin.1.1
  rw [maxLen_eq] at hlen
  refine cond_intro (fun h => ?_) fun h => ?_
  · have h : (a.length : Int) ≠ b.length := by simpa using h
    exact congrArg (·, ()) (decide_eq_false fun e => h (by rw [e])).symm
  · have h : (a.length : Int) = b.length := by simpa using h
    exact eq_loop (K := fun r => r = (decide (a = b), ())) (fun x y => !(x.1 == y.1 && (x.2.1 == y.2.1 && (x.2.2.1 == y.2.2.1 && (x.2.2.2.1 == y.2.2.2.1 && true))))) (fun x y => by simp [Prod.ext_iff]) _ a b _ hlen (by omega) (fun e => by rw [decide_eq_false e]) fun e => by rw [decide_eq_true e]
theorem ok_laws_sameFile : ConOK prog G n_laws_sameFile con_laws_sameFile := by
  refine wk_laws_sameFile (env_of (l := [(n_laws_sameAttrs, .pure con_laws_sameAttrs)]) (types_ok types_checked) (by simp only [List.forall_mem_cons]; exact ⟨⟨ok_laws_sameAttrs, cal_laws_sameAttrs⟩, fun x hx => by cases hx⟩)) ?_
  intro a0 a1 a2 a3 a4 b0 b1 b2 b3 b4 hin hp
  refine cond_intro (fun h0 => cond_intro (fun h1 => cond_intro (fun h2 => cond_intro (fun h3 => ⟨trivial, ?_⟩) fun h3 => ?_) fun h2 => ?_) fun h1 => ?_) fun h0 => ?_
  all_goals refine congrArg (·, ()) (Bool.eq_iff_iff.2 ?_)
  · simp only [beq_iff_eq] at h0 h1 h2 h3
    subst h0 h1 h2 h3
    simp
  · have h3 : a3 ≠ b3 := by simpa using h3
    simp [h3]
  · have h2 : a2 ≠ b2 := by simpa using h2
    simp [h2]
  · have h1 : a1 ≠ b1 := by simpa using h1
    simp [h1]
  · have h0 : a0 ≠ b0 := by simpa using h0
    simp [h0]
theorem ok_laws_sameFiles : ConOK prog G n_laws_sameFiles con_laws_sameFiles := by
  refine wk_laws_sameFiles (env_of (l := [(n_laws_sameFile, .pure con_laws_sameFile)]) (types_ok types_checked) (by simp only [List.forall_mem_cons]; exact ⟨⟨ok_laws_sameFile, cal_laws_sameFile⟩, fun x hx => by cases hx⟩)) ?_
  intro a b hin hp
  have hlen : a.length ≤ maxLen := hin.1.1
  rw [maxLen_eq] at hlen
  refine cond_intro (fun h => ?_) fun h => ?_
  · have h : (a.length : Int) ≠ b.length := by simpa using h
    exact congrArg (·, ()) (decide_eq_false fun e => h (by rw [e])).symm
  · have h : (a.length : Int) = b.length := by simpa using h
    exact eq_loopT (K := fun r => r = (decide (a = b), ())) (fun x y => !decide ((x.1, x.2.1, x.2.2.1, x.2.2.2.1, x.2.2.2.2.1, ()) = (y.1, y.2.1, y.2.2.1, y.2.2.2.1, y.2.2.2.2.1, ()))) (fun x y => by simp [Prod.ext_iff]) _ a b _ hlen (by omega) (fun e => by rw [decide_eq_false e]) fun e => by rw [decide_eq_true e]
theorem ok_impl_EqualFiles : ConOK prog G n_impl_EqualFiles con_impl_EqualFiles := by
  refine wk_impl_EqualFiles (env_of (l := [(n_slices_Equal_impl_Attr, .pure con_slices_Equal_impl_Attr)]) (types_ok types_checked) (by simp only [List.forall_mem_cons]; exact ⟨⟨ok_slices_Equal_impl_Attr, cal_slices_Equal_impl_Attr⟩, fun x hx => by cases hx⟩)) ?_
  intro a0 a1 a2 a3 a4 b0 b1 b2 b3 b4 hin hp
  refine cond_intro (fun h0 => cond_intro (fun h1 => cond_intro (fun h2 => cond_intro (fun h3 => ⟨trivial, ?_⟩) fun h3 => ?_) fun h2 => ?_) fun h1 => ?_) fun h0 => ?_
  all_goals refine congrArg (·, ()) (Bool.eq_iff_iff.2 ?_)
  · simp only [beq_iff_eq] at h0 h1 h2 h3
    subst h0 h1 h2 h3
    simp
  · have h3 : a3 ≠ b3 := by simpa using h3
    simp [h3]
  · have h2 : a2 ≠ b2 := by simpa using h2
    simp [h2]
  · have h1 : a1 ≠ b1 := by simpa using h1
    simp [h1]
  · have h0 : a0 ≠ b0 := by simpa using h0
    simp [h0]
theorem ok_slices_EqualFunc_impl_File_impl_File__impl_EqualFiles : ConOK prog G n_slices_EqualFunc_impl_File_impl_File__impl_EqualFiles con_slices_EqualFunc_impl_File_impl_File__impl_EqualFiles := by
  refine wk_slices_EqualFunc_impl_File_impl_File__impl_EqualFiles (env_of (l := [(n_impl_EqualFiles, .pure con_impl_EqualFiles)]) (types_ok types_checked) (by simp only [List.forall_mem_cons]; exact ⟨⟨ok_impl_EqualFiles, cal_impl_EqualFiles⟩, fun x hx => by cases hx⟩)) ?_
  intro a b hin hp
  have hlen : a.length ≤ maxLen := hin.1.1
  rw [maxLen_eq] at hlen
  refine cond_intro (fun h => ?_) fun h => ?_
  · have h : (a.length : Int) ≠ b.length := by simpa using h
    exact congrArg (·, ()) (decide_eq_false fun e => h (by rw [e])).symm
  · have h : (a.length : Int) = b.length := by simpa using h
    exact eq_loopT (K := fun r => r = (decide (a = b), ())) (fun x y => !decide ((x.1, x.2.1, x.2.2.1, x.2.2.2.1, x.2.2.2.2.1, ()) = (y.1, y.2.1, y.2.2.1, y.2.2.2.1, y.2.2.2.2.1, ()))) (fun x y => by simp [Prod.ext_iff]) _ a b _ hlen (by omega) (fun e => by rw [decide_eq_false e]) fun e => by rw [decide_eq_true e]
theorem ok_laws_sameStore : ConOK prog G n_laws_sameStore con_laws_sameStore := by
  refine wk_laws_sameStore (env_of (l := [(n_laws_sameFiles, .pure con_laws_sameFiles), (n_laws_sameFields, .pure con_laws_sameFields)]) (types_ok types_checked) (by simp only [List.forall_mem_cons]; exact ⟨⟨ok_laws_sameFiles, cal_laws_sameFiles⟩, ⟨ok_laws_sameFields, cal_laws_sameFields⟩, fun x hx => by cases hx⟩)) ?_
  intro a0 a1 a2 b0 b1 b2 hin hp
  refine ⟨trivial, cond_intro (fun h0 => ⟨trivial, cond_intro (fun h1 => ?_) fun h1 => ?_⟩) fun h0 => ?_⟩
  all_goals refine congrArg (·, ()) (Bool.eq_iff_iff.2 ?_)
  · have h0 := decT h0
    have h1 := decT h1
    subst h0 h1
    simp
  · have h1 := decF h1
    simp [h1]
  · have h0 := decF h0
    simp [h0]
theorem ok_laws_sameInts : ConOK prog G n_laws_sameInts con_laws_sameInts := by
  refine wk_laws_sameInts (env_of (l := []) (types_ok types_checked) (fun x hx => by cases hx)) ?_
  intro a b hin hp
  have hlen : a.length ≤ maxLen := hin.1.1
  rw [maxLen_eq] at hlen
  refine cond_intro (fun h => ?_) fun h => ?_
  · have h : (a.length : Int) ≠ b.length := by simpa using h
    exact congrArg (·, ()) (decide_eq_false fun e => h (by rw [e])).symm
  · have h : (a.length : Int) = b.length := by simpa using h
    exact eq_loop (K := fun r => r = (decide (a = b), ())) (fun x y => x.1 != y.1) (fun x y => by simp [Prod.ext_iff]) _ a b _ hlen (by omega) (fun e => by rw [decide_eq_false e]) fun e => by rw [decide_eq_true e]
theorem ok_spec_l04Copy : ConOK prog G n_spec_l04Copy con_spec_l04Copy := by
  refine wk_spec_l04Copy (env_of (l := []) (types_ok types_checked) (fun x hx => by cases hx)) ?_
  intro f0 f1 f2 f3 f4 hin hp
  have hp : f4.length ≤ 1000 := hp
  exact ⟨by rw [big_eq]; omega, rfl⟩
theorem ok_slices_Clone_impl_Field : ConOK prog G n_slices_Clone_impl_Field con_slices_Clone_impl_Field := by
  refine wk_slices_Clone_impl_Field (env_of (l := []) (types_ok types_checked) (fun x hx => by cases hx)) ?_
  intro l hin hp
  intro g hg
  have hp : l.length ≤ 1000 := hp
  refine cond_intro (fun h => ?_) fun h => ⟨by rw [big_eq]; omega, rfl⟩
  have := List.length_eq_zero_iff.1 (hg h)
  rw [this]
theorem ok_slices_Clone_impl_Attr : ConOK prog G n_slices_Clone_impl_Attr con_slices_Clone_impl_Attr := by
  refine wk_slices_Clone_impl_Attr (env_of (l := []) (types_ok types_checked) (fun x hx => by cases hx)) ?_
  intro l hin hp
  intro g hg
  have hp : l.length ≤ 1000 := hp
  refine cond_intro (fun h => ?_) fun h => ⟨by rw [big_eq]; omega, rfl⟩
  have := List.length_eq_zero_iff.1 (hg h)
  rw [this]
theorem ok_impl_copyFile : ConOK prog G n_impl_copyFile con_impl_copyFile := by
  refine wk_impl_copyFile (env_of (l := [(n_slices_Clone_impl_Attr, .pure con_slices_Clone_impl_Attr)]) (types_ok types_checked) (by simp only [List.forall_mem_cons]; exact ⟨⟨ok_slices_Clone_impl_Attr, cal_slices_Clone_impl_Attr⟩, fun x hx => by cases hx⟩)) ?_
  intro f0 f1 f2 f3 f4 hin hp
  exact ⟨hp, rfl⟩
theorem ok_impl_isUser : ConOK prog G n_impl_isUser con_impl_isUser := by
  refine wk_impl_isUser (env_of (l := [(n_impl_within, .pure con_impl_within)]) (types_ok types_checked) (by simp only [List.forall_mem_cons]; exact ⟨⟨ok_impl_within, cal_impl_within⟩, fun x hx => by cases hx⟩)) ?_
  intro n hin hp
  exact ⟨trivial, rfl⟩
theorem ok_spec_CanRead : ConOK prog G n_spec_CanRead con_spec_CanRead := by
  refine wk_spec_CanRead (env_of (l := [(n_spec_l01In, .pure con_spec_l01In)]) (types_ok types_checked) (by simp only [List.forall_mem_cons]; exact ⟨⟨ok_spec_l01In, cal_spec_l01In⟩, fun x hx => by cases hx⟩)) ?_
  intro f0 f1 f2 f3 f4 u hin hp
  refine ⟨trivial, cond_intro (fun h => cond_intro (fun h2 => ?_) fun h2 => ?_) fun h => ?_⟩
  all_goals refine congrArg (·, ()) ?_
  · show _ = ((decide (0 ≤ u) && decide (u ≤ 2)) && (decide (f1 = u) || f2))
    rw [h, show decide (f1 = u) = true from h2]; rfl
  · show _ = ((decide (0 ≤ u) && decide (u ≤ 2)) && (decide (f1 = u) || f2))
    rw [h, show decide (f1 = u) = false from h2]; rfl
  · show _ = ((decide (0 ≤ u) && decide (u ≤ 2)) && (decide (f1 = u) || f2))
    rw [h]; rfl
theorem ok_impl_CanRead : ConOK prog G n_impl_CanRead con_impl_CanRead := by
  refine wk_impl_CanRead (env_of (l := [(n_impl_isUser, .pure con_impl_isUser)]) (types_ok types_checked) (by simp only [List.forall_mem_cons]; exact ⟨⟨ok_impl_isUser, cal_impl_isUser⟩, fun x hx => by cases hx⟩)) ?_
  intro f0 f1 f2 f3 f4 u hin hp
  refine ⟨trivial, cond_intro (fun h => cond_intro (fun h2 => ?_) fun h2 => ?_) fun h => ?_⟩
  all_goals refine congrArg (·, ()) ?_
  · show _ = ((decide (0 ≤ u) && decide (u ≤ 2)) && (decide (f1 = u) || f2))
    rw [h, show decide (f1 = u) = true from h2]; rfl
  · show _ = ((decide (0 ≤ u) && decide (u ≤ 2)) && (decide (f1 = u) || f2))
    rw [h, show decide (f1 = u) = false from h2]; rfl
  · show _ = ((decide (0 ≤ u) && decide (u ≤ 2)) && (decide (f1 = u) || f2))
    rw [h]; rfl
theorem ok_spec_CanWrite : ConOK prog G n_spec_CanWrite con_spec_CanWrite := by
  refine wk_spec_CanWrite (env_of (l := [(n_spec_l01In, .pure con_spec_l01In)]) (types_ok types_checked) (by simp only [List.forall_mem_cons]; exact ⟨⟨ok_spec_l01In, cal_spec_l01In⟩, fun x hx => by cases hx⟩)) ?_
  intro f0 f1 f2 f3 f4 u hin hp
  refine ⟨trivial, cond_intro (fun h => ?_) fun h => ?_⟩
  all_goals refine congrArg (·, ()) ?_
  · show _ = ((decide (0 ≤ u) && decide (u ≤ 2)) && decide (f1 = u))
    rw [h]; rfl
  · show _ = ((decide (0 ≤ u) && decide (u ≤ 2)) && decide (f1 = u))
    rw [h]; rfl
theorem ok_impl_CanWrite : ConOK prog G n_impl_CanWrite con_impl_CanWrite := by
  refine wk_impl_CanWrite (env_of (l := [(n_impl_isUser, .pure con_impl_isUser)]) (types_ok types_checked) (by simp only [List.forall_mem_cons]; exact ⟨⟨ok_impl_isUser, cal_impl_isUser⟩, fun x hx => by cases hx⟩)) ?_
  intro f0 f1 f2 f3 f4 u hin hp
  refine ⟨trivial, cond_intro (fun h => ?_) fun h => ?_⟩
  all_goals refine congrArg (·, ()) ?_
  · show _ = ((decide (0 ≤ u) && decide (u ≤ 2)) && decide (f1 = u))
    rw [h]; rfl
  · show _ = ((decide (0 ≤ u) && decide (u ≤ 2)) && decide (f1 = u))
    rw [h]; rfl
theorem ok_spec_l05Place : ConOK prog G n_spec_l05Place con_spec_l05Place := by
  refine wk_spec_l05Place (env_of (l := []) (types_ok types_checked) (fun x hx => by cases hx)) ?_
  intro s0 s1 s2 id hin hp
  have hlen : s1.length ≤ maxLen := hin.1.2.1.1
  rw [maxLen_eq] at hlen
  refine up_loop s1.length hlen (fun n => ∀ i, i < n → (Sp.fileAt s1 i).1 ≠ id) (fun i hi => by omega) (fun I μ n hn hJ next => ?_) fun I μ hJ => ?_
  · dsimp only
    refine condT (by omega) ⟨⟨by omega, by omega⟩, cond_intro (fun h => ?_) fun h => ⟨rfl, next fun i hi => ?_⟩⟩
    · have h : (Sp.fileAt s1 n).1 = id := decT h
      exact congrArg (·, ()) (Sp.place_at hn hJ h).symm
    · rcases Nat.lt_or_ge i n with h' | h'
      · exact hJ i h'
      · have : i = n := by omega
        subst this
        have h : ¬ (Sp.fileAt s1 i).1 = id := decF h
        exact h
  · dsimp only
    exact condF (by omega) (congrArg (·, ()) (Sp.place_none hJ).symm)
theorem ok_impl_fileAt_1 : ConOK prog G n_impl_fileAt_1 con_impl_fileAt_1 := by
  refine wk_impl_fileAt_1 (env_of (l := []) (types_ok types_checked) (fun x hx => by cases hx)) ?_
  intro f0 f1 f2 f3 f4 id hin hp
  exact rfl
theorem ok_slices_IndexFunc_impl_File__impl_fileAt_1 : ConOK prog G n_slices_IndexFunc_impl_File__impl_fileAt_1 con_slices_IndexFunc_impl_File__impl_fileAt_1 := by
  refine wk_slices_IndexFunc_impl_File__impl_fileAt_1 (env_of (l := [(n_impl_fileAt_1, .pure con_impl_fileAt_1)]) (types_ok types_checked) (by simp only [List.forall_mem_cons]; exact ⟨⟨ok_impl_fileAt_1, cal_impl_fileAt_1⟩, fun x hx => by cases hx⟩)) ?_
  intro s1 id hin hp
  have hlen : s1.length ≤ maxLen := hin.1.1
  rw [maxLen_eq] at hlen
  refine up_loop s1.length hlen (fun n => ∀ i, i < n → (Sp.fileAt s1 i).1 ≠ id) (fun i hi => by omega) (fun I μ n hn hJ next => ?_) fun I μ hJ => ?_
  · dsimp only
    refine condT (by omega) ⟨⟨by omega, by omega⟩, trivial, cond_intro (fun h => ?_) fun h => ⟨rfl, next fun i hi => ?_⟩⟩
    · have h : (Sp.fileAt s1 n).1 = id := decT h
      exact congrArg (·, ()) (Sp.place_at hn hJ h).symm
    · rcases Nat.lt_or_ge i n with h' | h'
      · exact hJ i h'
      · have : i = n := by omega
        subst this
        have h : ¬ (Sp.fileAt s1 i).1 = id := decF h
        exact h
  · dsimp only
    exact condF (by omega) (congrArg (·, ()) (Sp.place_none hJ).symm)
theorem ok_impl_fileAt : ConOK prog G n_impl_fileAt con_impl_fileAt := by
  refine wk_impl_fileAt (env_of (l := [(n_slices_IndexFunc_impl_File__impl_fileAt_1, .pure con_slices_IndexFunc_impl_File__impl_fileAt_1), (n_impl_fileAt_1, .pure con_impl_fileAt_1)]) (types_ok types_checked) (by simp only [List.forall_mem_cons]; exact ⟨⟨ok_slices_IndexFunc_impl_File__impl_fileAt_1, cal_slices_IndexFunc_impl_File__impl_fileAt_1⟩, ⟨ok_impl_fileAt_1, cal_impl_fileAt_1⟩, fun x hx => by cases hx⟩)) ?_
  intro s0 s1 s2 id hin hp
  exact ⟨trivial, rfl⟩
theorem ok_spec_FindFile : ConOK prog G n_spec_FindFile con_spec_FindFile := by
  refine wk_spec_FindFile (env_of (l := [(n_spec_l04Copy, .pure con_spec_l04Copy), (n_spec_l05Place, .pure con_spec_l05Place)]) (types_ok types_checked) (by simp only [List.forall_mem_cons]; exact ⟨⟨ok_spec_l04Copy, cal_spec_l04Copy⟩, ⟨ok_spec_l05Place, cal_spec_l05Place⟩, fun x hx => by cases hx⟩)) ?_
  intro s0 s1 s2 id hin hp
  obtain ⟨h0, h1, h2⟩ : s0.length ≤ 1000 ∧ s1.length ≤ 1000 ∧ ∀ f ∈ s1, Sp.smallF f := hp
  refine ⟨trivial, ?_⟩
  rcases Sp.place_cases s1 id with ⟨h, _⟩ | ⟨n, hn, h, _, _⟩
  · have e : Sp.findFile (s0, s1, s2, ()) id = (Sp.noFile, false) := by
      show (bif decide (Sp.place s1 id < 0) then _ else _) = _
      rw [h]; rfl
    refine condT (by omega) ?_
    show _ = ((Sp.findFile (s0, s1, s2, ()) id).1, (Sp.findFile (s0, s1, s2, ()) id).2, ())
    rw [e]; rfl
  · have e : Sp.findFile (s0, s1, s2, ()) id = (Sp.fileAt s1 n, true) := by
      show (bif decide (Sp.place s1 id < 0) then _ else (Sp.fileAt s1 (Sp.place s1 id).toNat, true)) = _
      rw [h, decide_eq_false (by omega)]; rfl
    refine condF (by omega) ⟨⟨by omega, by omega⟩, ?_, ?_⟩
    · rw [h, Int.toNat_natCast]
      exact h2 _ (getD_mem (d := ((0 : Int), (0 : Int), false, (0 : Int), [], ())) hn)
    · show _ = ((Sp.findFile (s0, s1, s2, ()) id).1, (Sp.findFile (s0, s1, s2, ()) id).2, ())
      rw [e, h]; rfl
theorem owned_step {s : List Sp.DFile} {u : Int} {n : Nat} (hn : n < s.length) : Sp.ownedBy (s.take (n + 1)) u = Sp.ownedBy (s.take n) u ++ (if (Sp.fileAt s n).2.1 = u then [((Sp.fileAt s n).1, ())] else []) := by
  unfold Sp.ownedBy
  rw [Sp.take_succ' s n (0, 0, false, 0, [], ()) hn, List.filter_append, List.map_append]
  congr 1
  show List.map _ (List.filter _ [Sp.fileAt s n]) = _
  by_cases h : (Sp.fileAt s n).2.1 = u
  · rw [List.filter_cons_of_pos (by simpa using h), if_pos h]; rfl
  · rw [List.filter_cons_of_neg (by simpa using h), if_neg h]; rfl
theorem owned_len (s : List Sp.DFile) (u : Int) : (Sp.ownedBy s u).length ≤ s.length := by
  unfold Sp.ownedBy
  rw [List.length_map]; exact List.length_filter_le ..
theorem ok_spec_FilesOwnedBy : ConOK prog G n_spec_FilesOwnedBy con_spec_FilesOwnedBy := by
  refine wk_spec_FilesOwnedBy (env_of (l := []) (types_ok types_checked) (fun x hx => by cases hx)) ?_
  intro s0 s1 s2 u hin hp
  have hp : s1.length ≤ 1000 := hp
  refine up_loopG (fun i (x : List (Int × Unit)) => (((), i, ()), x, ())) (fun y => y.1.2.1) (fun _ _ => rfl) s1.length (by omega) (fun n l => l = Sp.ownedBy (s1.take n) u) rfl (fun I μ n l hn hJ next => ?_) fun I μ l hJ => ?_
  · subst hJ
    have hl := owned_len (s1.take n) u
    rw [List.length_take] at hl
    dsimp only
    refine condT (by omega) ⟨⟨by omega, by omega⟩, cond_intro (fun h => ⟨⟨by omega, by omega⟩, by rw [big_eq]; simp only [List.length_cons, List.length_nil]; omega, rfl, next _ ?_⟩) fun h => ⟨rfl, next _ ?_⟩⟩
    · rw [owned_step hn, if_pos (show (Sp.fileAt s1 n).2.1 = u from decT h)]; rfl
    · rw [owned_step hn, if_neg (show ¬ (Sp.fileAt s1 n).2.1 = u from decF h), List.append_nil]
  · subst hJ
    dsimp only
    refine condF (by omega) ?_
    rw [List.take_length]
theorem ok_impl_FilesOwnedBy : ConOK prog G n_impl_FilesOwnedBy con_impl_FilesOwnedBy := by
  refine wk_impl_FilesOwnedBy (env_of (l := []) (types_ok types_checked) (fun x hx => by cases hx)) ?_
  intro s0 s1 s2 u hin hp
  have hp : s1.length ≤ 1000 := hp
  refine up_loopG (fun i (x : List (Int × Unit)) => (((), i, ()), x, ())) (fun y => y.1.2.1) (fun _ _ => rfl) s1.length (by omega) (fun n l => l = Sp.ownedBy (s1.take n) u) rfl (fun I μ n l hn hJ next => ?_) fun I μ l hJ => ?_
  · subst hJ
    have hl := owned_len (s1.take n) u
    rw [List.length_take] at hl
    dsimp only
    refine condT (by omega) ⟨⟨by omega, by omega⟩, cond_intro (fun h => ⟨by rw [big_eq]; simp only [List.length_cons, List.length_nil]; omega, rfl, next _ ?_⟩) fun h => ⟨rfl, next _ ?_⟩⟩
    · rw [owned_step hn, if_pos (show (Sp.fileAt s1 n).2.1 = u from decT h)]; rfl
    · rw [owned_step hn, if_neg (show ¬ (Sp.fileAt s1 n).2.1 = u from decF h), List.append_nil]
  · subst hJ
    dsimp only
    refine condF (by omega) ?_
    rw [List.take_length]
end Go.Proofs.Try


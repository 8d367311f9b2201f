import Derived.Test.YtiifcpnpbfjlcaaP6
namespace Go.Proofs.Try
open Go Go.Fw Go.IntWalk

theorem usual_ok : Sp.okSchema Sp.usual = true := by kernel_rfl
theorem empty_ok : Sp.okStore (Sp.usual, [], 1, ()) = true := by kernel_rfl
theorem empty_small : Sp.smallS (Sp.usual, [], 1, ()) := ⟨by decide, by decide, fun f hf => by cases hf⟩
theorem store_of {a : List Sp.DField} {l : List Sp.DFile} {nx : Int} {X : Sp.DStore} (h1 : a = X.1) (h2 : l = X.2.1) (h3 : nx = X.2.2.1) : ((a, l, nx, ()) : Sp.DStore) = X := by subst h1 h2 h3; rfl
theorem create_shape (s : Sp.DStore) (f : Sp.DFile) : (Sp.createFile s f).1.1 = s.1 ∧ ((Sp.createFile s f).1.2.1.length : Int) - (Sp.createFile s f).1.2.2.1 = s.2.1.length - s.2.2.1 := by
  rcases Sp.createFile_cases s f with ⟨e, _⟩ | ⟨_, _, _, e⟩
  · rw [e]; exact ⟨rfl, rfl⟩
  · rw [e]
    refine ⟨rfl, ?_⟩
    show ((s.2.1 ++ [(s.2.2.1, f.2)]).length : Int) - (s.2.2.1 + 1) = _
    rw [List.length_append, List.length_cons, List.length_nil]; omega
theorem delete_shape (s : Sp.DStore) (id : Int) : (Sp.deleteFile s id).1.1 = s.1 ∧ (Sp.deleteFile s id).1.2.2.1 = s.2.2.1 ∧ s.2.1.length ≤ (Sp.deleteFile s id).1.2.1.length + 1 := by
  rcases Sp.deleteFile_cases s id with ⟨e, _⟩ | ⟨n, hn, _, _, e⟩
  · rw [e]; exact ⟨rfl, rfl, Nat.le_succ _⟩
  · rw [e]
    refine ⟨rfl, rfl, ?_⟩
    show s.2.1.length ≤ (s.2.1.eraseIdx n).length + 1
    rw [List.length_eraseIdx_of_lt hn]; omega
/-- What is known of a store while it is drawn. -/
structure Drawn (k : Int) (s : Sp.DStore) : Prop where
  sch : s.1 = Sp.usual
  ok : Sp.okStore s = true
  nx : s.2.2.1 ≤ s.2.1.length + k
  small : Sp.smallS s
theorem Drawn.create {k : Int} {s : Sp.DStore} (h : Drawn k s) {f : Sp.DFile} (hf : Sp.smallF f) : Drawn k (Sp.createFile s f).1 := by
  obtain ⟨h1, h2⟩ := create_shape s f
  exact ⟨h1.trans h.sch, Sp.okStore_create f h.ok, by have := h.nx; omega, Sp.smallS_create h.small hf⟩
theorem Drawn.delete {k : Int} {s : Sp.DStore} (h : Drawn k s) (id : Int) : Drawn (k + 1) (Sp.deleteFile s id).1 := by
  obtain ⟨h1, h2, h3⟩ := delete_shape s id
  exact ⟨h1.trans h.sch, Sp.okStore_delete id h.ok, by have := h.nx; omega, Sp.smallS_delete id h.small⟩
theorem Drawn.more {k k' : Int} {s : Sp.DStore} (h : Drawn k s) (hk : k ≤ k') : Drawn k' s := ⟨h.sch, h.ok, by have := h.nx; omega, h.small⟩
theorem Drawn.grows {s : Sp.DStore} (h : Drawn 2 s) (hl : s.2.1.length < 12) {f : Sp.DFile} (ho : 0 ≤ f.2.1 ∧ f.2.1 ≤ 2) (hk : 0 ≤ f.2.2.2.1 ∧ f.2.2.2.1 ≤ 6) (ha : Sp.okAttrs Sp.usual f.2.2.2.2.1 = true) : (Sp.createFile s f).1.2.1.length = s.2.1.length + 1 := by
  have hnx := (Sp.okStore_iff.1 h.ok).2.2.2
  have h2 := h.nx
  have hf : Sp.okFile s.1 (s.2.2.1, f.2) = true := by
    rw [h.sch]
    show (Sp.okAttrs Sp.usual f.2.2.2.2.1 && Sp.okSchema Sp.usual && (decide (1 ≤ s.2.2.1) && decide (s.2.2.1 ≤ 60)) && (decide (0 ≤ f.2.1) && decide (f.2.1 ≤ 2)) && (decide (0 ≤ f.2.2.2.1) && decide (f.2.2.2.1 ≤ 60))) = true
    rw [ha, usual_ok, decide_eq_true hnx.1, decide_eq_true (by omega), decide_eq_true ho.1, decide_eq_true ho.2, decide_eq_true hk.1, decide_eq_true (by omega)]
    rfl
  rcases Sp.createFile_cases s f with ⟨_, e⟩ | ⟨_, _, _, e⟩
  · exact (e ⟨h.ok, hl, hf⟩).elim
  · rw [e]
    show (s.2.1 ++ [_]).length = _
    rw [List.length_append]; rfl
theorem ok_spec_l05Store : XConOK prog G n_spec_l05Store con_spec_l05Store := by
  refine wk_spec_l05Store (env_of (l := [(n_spec_DeleteFile, .eff (xmodes sh_spec_DeleteFile) con_spec_DeleteFile), (n_spec_l01Once, .eff (xmodes sh_spec_l01Once) con_spec_l01Once), (n_spec_CreateFile, .eff (xmodes sh_spec_CreateFile) con_spec_CreateFile), (n_spec_l04File, .eff (xmodes sh_spec_l04File) con_spec_l04File), (n_spec_l01Below, .eff (xmodes sh_spec_l01Below) con_spec_l01Below), (n_spec_NewStore, .eff (xmodes sh_spec_NewStore) con_spec_NewStore), (n_spec_l03Usual, .eff (xmodes sh_spec_l03Usual) con_spec_l03Usual)]) (types_ok types_checked) (by simp only [List.forall_mem_cons]; exact ⟨⟨ok_spec_DeleteFile, cal_spec_DeleteFile⟩, ⟨ok_spec_l01Once, cal_spec_l01Once⟩, ⟨ok_spec_CreateFile, cal_spec_CreateFile⟩, ⟨ok_spec_l04File, cal_spec_l04File⟩, ⟨ok_spec_l01Below, cal_spec_l01Below⟩, ⟨ok_spec_NewStore, cal_spec_NewStore⟩, ⟨ok_spec_l03Usual, cal_spec_l03Usual⟩, fun x hx => by cases hx⟩)) (fun _ _ => ⟨(((Sp.usual, [], 1, ()), ()), (([], 0, 0, ()), ())), ⟨by decide, rfl, empty_ok, by decide, empty_small⟩⟩) ?_
  intro b i h hin hp
  have hp : 0 ≤ i := hp
  refine ⟨trivial, ?_⟩
  rintro ⟨⟨u, ⟨⟩⟩, ⟨⟩⟩ hu
  have hu : u = Sp.usual := hu
  subst hu
  refine ⟨(show Sp.usual.length ≤ 1000 by decide), ?_⟩
  rintro ⟨⟨⟨a, l, nx, ⟨⟩⟩, ⟨⟩⟩, ⟨⟩⟩ ⟨e1, e2, e3⟩
  have e1 : a = Sp.usual := e1
  have e2 : l = [] := e2
  have e3 : nx = 1 := e3
  subst e1 e2 e3
  refine ⟨fun y => 0 ≤ y.2.1.2.1 ∧ (0 ≤ y.1.1 ∧ y.1.1 ≤ 7) ∧ Drawn 1 (y.2.2.2.1, y.2.2.2.2.1, y.2.2.1.2.2.1, ()), fun y => (8 - y.1.1).toNat, ⟨hp, ⟨(show (0 : Int) ≤ 0 by decide), (show (0 : Int) ≤ 7 by decide)⟩, ⟨rfl, empty_ok, (show (1 : Int) ≤ ((0 : Nat) : Int) + 1 by decide), empty_small⟩⟩, ?_⟩
  rintro ⟨⟨n, ⟨⟩⟩, ⟨b0, i0, g0, ⟨⟩⟩, ⟨⟨⟩, ⟨⟩, nx, ⟨⟩⟩, a, l, ⟨⟩⟩ ⟨p0, ⟨k0, k1⟩, D⟩
  have p0 : 0 ≤ i0 := p0
  have k0 : 0 ≤ n := k0
  have k1 : n ≤ 7 := k1
  have D : Drawn 1 (a, l, nx, ()) := D
  refine ⟨p0, ?_⟩
  rintro ⟨⟨x1, ⟨⟩⟩, ⟨b1, i1, g1, ⟨⟩⟩, ⟨⟩⟩ ⟨p1, q0, q1, _⟩
  have q1 : x1 < 7 := q1 (by decide)
  have q0 : 0 ≤ x1 := q0
  have w : IntKind.i64.wrap (1 + x1) = 1 + x1 := wrapIn _ (by omega)
  dsimp only
  rw [w]
  refine cond_intro (fun hc => ⟨p1, ?_⟩) fun hc => cond_intro (fun h2 => ⟨p1, ?_⟩) fun h2 => ?_
  · have hc := decT hc
    have wn : IntKind.i64.wrap (n + 1) = n + 1 := wrapIn _ (by omega)
    rw [wn]
    rintro ⟨⟨⟨d, o, s, lk, al, ⟨⟩⟩, ⟨⟩⟩, ⟨b2, i2, g2, ⟨⟩⟩, ⟨⟩⟩ ⟨p2, _, _, _, _, _, _, ha⟩
    have hf : Sp.smallF (d, o, s, lk, al, ()) := (show al.length ≤ 1000 from Nat.le_trans ha (by decide))
    refine ⟨⟨D.small, hf⟩, ?_⟩
    rintro ⟨⟨⟨a3, l3, nx3, ⟨⟩⟩, id3, ok3, ⟨⟩⟩, ⟨⟩⟩ ⟨e1, e2, e3, _⟩
    have e : ((a3, l3, nx3, ()) : Sp.DStore) = (Sp.createFile (a, l, nx, ()) (d, o, s, lk, al, ())).1 := store_of e1 e2 e3
    refine ⟨rfl, ⟨p2, ⟨(show 0 ≤ n + 1 by omega), (show n + 1 ≤ 7 by omega)⟩, ?_⟩, ?_⟩
    · show Drawn 1 (a3, l3, nx3, ())
      rw [e]; exact D.create hf
    · show (8 - (n + 1)).toNat < (8 - n).toNat
      omega
  · rintro ⟨⟨x3, ⟨⟩⟩, ⟨b3, i3, g3, ⟨⟩⟩, ⟨⟩⟩ p3
    have h2 : (l.length : Int) > 2 := decT h2
    refine cond_intro (fun _ => ⟨⟨by decide, (show (1 : Int) < l.length by omega)⟩, (show 1 < l.length by omega), D.small, ?_⟩) fun _ => ?_
    · rintro ⟨⟨⟨a3, l3, nx3, ⟨⟩⟩, ok3, ⟨⟩⟩, ⟨⟩⟩ ⟨e1, e2, e3, _⟩
      have e := store_of e1 e2 e3
      have D' := D.delete (List.getD l (Int.toNat 1) (0, 0, false, 0, [], ())).1
      have D' : Drawn 2 (a3, l3, nx3, ()) := by
        have e : ((a3, l3, nx3, ()) : Sp.DStore) = (Sp.deleteFile (a, l, nx, ()) (List.getD l (Int.toNat 1) (0, 0, false, 0, [], ())).1).1 := e
        rw [e]; exact D'
      exact ⟨p3, D'.sch, D'.ok, D'.nx, D'.small⟩
    · have D' := D.more (show (1 : Int) ≤ 2 by decide)
      exact ⟨p3, D'.sch, D'.ok, D'.nx, D'.small⟩
  · have D' := D.more (show (1 : Int) ≤ 2 by decide)
    exact ⟨p1, D'.sch, D'.ok, D'.nx, D'.small⟩
theorem ok_spec_l05Any : XConOK prog G n_spec_l05Any con_spec_l05Any := by
  refine wk_spec_l05Any (env_of (l := [(n_spec_CreateFile, .eff (xmodes sh_spec_CreateFile) con_spec_CreateFile), (n_spec_l04File, .eff (xmodes sh_spec_l04File) con_spec_l04File), (n_spec_l03Any, .eff (xmodes sh_spec_l03Any) con_spec_l03Any), (n_spec_l04Any, .eff (xmodes sh_spec_l04Any) con_spec_l04Any), (n_spec_l01PickInt, .eff (xmodes sh_spec_l01PickInt) con_spec_l01PickInt), (n_spec_l01Below, .eff (xmodes sh_spec_l01Below) con_spec_l01Below), (n_spec_l05Store, .eff (xmodes sh_spec_l05Store) con_spec_l05Store)]) (types_ok types_checked) (by simp only [List.forall_mem_cons]; exact ⟨⟨ok_spec_CreateFile, cal_spec_CreateFile⟩, ⟨ok_spec_l04File, cal_spec_l04File⟩, ⟨ok_spec_l03Any, cal_spec_l03Any⟩, ⟨ok_spec_l04Any, cal_spec_l04Any⟩, ⟨ok_spec_l01PickInt, cal_spec_l01PickInt⟩, ⟨ok_spec_l01Below, cal_spec_l01Below⟩, ⟨ok_spec_l05Store, cal_spec_l05Store⟩, fun x hx => by cases hx⟩)) (fun _ _ => ⟨((([], [], 0, ()), ()), (([], 0, 0, ()), ())), ⟨by decide, by decide, by decide, fun f hf => by cases hf⟩⟩) ?_
  intro b i h hin hp
  have hp : 0 ≤ i := hp
  refine ⟨hp, ?_⟩
  rintro ⟨⟨⟨a, l, nx, ⟨⟩⟩, ⟨⟩⟩, ⟨b0, i0, g0, ⟨⟩⟩, ⟨⟩⟩ ⟨p0, d1, d2, d3, d4⟩
  have D : Drawn 2 (a, l, nx, ()) := ⟨d1, d2, d3, d4⟩
  obtain ⟨z0, z1, z2⟩ : a.length ≤ 1000 ∧ l.length ≤ 1000 ∧ ∀ f ∈ l, Sp.smallF f := d4
  have z3 : l.length ≤ 12 := (Sp.okStore_iff.1 D.ok).2.2.1
  refine ⟨p0, ?_⟩
  rintro ⟨⟨x1, ⟨⟩⟩, ⟨b1, i1, g1, ⟨⟩⟩, ⟨⟩⟩ ⟨p1, _⟩
  refine cond_intro (fun _ => ⟨⟨p1, by simp⟩, ?_⟩) fun _ => cond_intro (fun _ => ⟨p1, ?_⟩) fun _ => cond_intro (fun _ => ⟨p1, ?_⟩) fun _ => cond_intro (fun _ => ?_) fun _ => ⟨p1, D.small⟩
  · rintro ⟨⟨x3, ⟨⟩⟩, ⟨b3, i3, g3, ⟨⟩⟩, ⟨⟩⟩ ⟨p3, _⟩
    exact ⟨p3, z0, z1, z2⟩
  · rintro ⟨⟨⟨d, o, s, lk, al, ⟨⟩⟩, ⟨⟩⟩, ⟨b2, i2, g2, ⟨⟩⟩, ⟨⟩⟩ ⟨p2, ha⟩
    have hf : Sp.smallF (d, o, s, lk, al, ()) := (show al.length ≤ 1000 from Nat.le_trans ha (by decide))
    refine ⟨(show l.length + 1 ≤ big by rw [big_eq]; omega), p2, z0, ?_, fun f hf' => ?_⟩
    · show (l ++ [_]).length ≤ 1000
      rw [List.length_append, List.length_cons, List.length_nil]; omega
    · rcases List.mem_append.1 hf' with h' | h'
      · exact z2 f h'
      · have : f = (d, o, s, lk, al, ()) := by simpa using h'
        rw [this]; exact hf
  · rintro ⟨⟨x3, ⟨⟩⟩, ⟨b3, i3, g3, ⟨⟩⟩, ⟨⟩⟩ ⟨p3, hx⟩
    exact ⟨p3, Nat.le_trans (show x3.length ≤ 6 from hx) (by decide), z1, z2⟩
  · refine ⟨fun y => 0 ≤ y.2.1.2.1 ∧ Drawn 2 y.2.2.1, fun y => 12 - y.2.2.1.2.1.length, ⟨p1, D⟩, ?_⟩
    rintro ⟨⟨⟩, ⟨b2, i2, g2, ⟨⟩⟩, ⟨a, l, nx, ⟨⟩⟩, ⟨⟩⟩ ⟨p2, D⟩
    have D : Drawn 2 (a, l, nx, ()) := D
    refine cond_intro (fun hc => ⟨p2, ?_⟩) fun _ => ⟨p2, D.small⟩
    have hc : (l.length : Int) < 12 := decT hc
    rintro ⟨⟨⟨d, o, s, lk, al, ⟨⟩⟩, ⟨⟩⟩, ⟨b3, i3, g3, ⟨⟩⟩, ⟨⟩⟩ ⟨p3, _, ho1, ho2, hl1, hl2, hok, ha⟩
    have hf : Sp.smallF (d, o, s, lk, al, ()) := (show al.length ≤ 1000 from Nat.le_trans ha (by decide))
    refine ⟨⟨D.small, hf⟩, ?_⟩
    rintro ⟨⟨⟨a3, l3, nx3, ⟨⟩⟩, id3, ok3, ⟨⟩⟩, ⟨⟩⟩ ⟨e1, e2, e3, _⟩
    have e : ((a3, l3, nx3, ()) : Sp.DStore) = (Sp.createFile (a, l, nx, ()) (d, o, s, lk, al, ())).1 := store_of e1 e2 e3
    have hg := D.grows (f := (d, o, s, lk, al, ())) (show l.length < 12 by omega) ⟨ho1, ho2⟩ ⟨hl1, hl2⟩ hok
    have e2 : l3 = (Sp.createFile (a, l, nx, ()) (d, o, s, lk, al, ())).1.2.1 := e2
    refine ⟨rfl, ⟨p3, ?_⟩, ?_⟩
    · show Drawn 2 (a3, l3, nx3, ())
      rw [e]; exact D.create hf
    · show 12 - l3.length < 12 - l.length
      have hg : (Sp.createFile (a, l, nx, ()) (d, o, s, lk, al, ())).1.2.1.length = l.length + 1 := hg
      rw [e2, hg]; omega
theorem ok_spec_l06User : XConOK prog G n_spec_l06User con_spec_l06User := by
  refine wk_spec_l06User (env_of (l := [(n_spec_l01PickInt, .eff (xmodes sh_spec_l01PickInt) con_spec_l01PickInt)]) (types_ok types_checked) (by simp only [List.forall_mem_cons]; exact ⟨⟨ok_spec_l01PickInt, cal_spec_l01PickInt⟩, fun x hx => by cases hx⟩)) (fun _ _ => ⟨(((0 : Int), ()), (([], 0, 0, ()), ())), (by decide : (0 : Int) ≤ 0)⟩) ?_
  intro b i h hin hp
  have hp : 0 ≤ i := hp
  refine ⟨⟨hp, by simp⟩, ?_⟩
  rintro ⟨⟨x3, ⟨⟩⟩, ⟨b3, i3, g3, ⟨⟩⟩, ⟨⟩⟩ ⟨p3, _⟩
  exact p3
theorem ok_spec_l06Hidden : XConOK prog G n_spec_l06Hidden con_spec_l06Hidden := by
  refine wk_spec_l06Hidden (env_of (l := [(n_spec_DeleteFile, .eff (xmodes sh_spec_DeleteFile) con_spec_DeleteFile), (n_spec_ReplaceFile, .eff (xmodes sh_spec_ReplaceFile) con_spec_ReplaceFile), (n_spec_CanRead, .pure con_spec_CanRead), (n_spec_CreateFile, .eff (xmodes sh_spec_CreateFile) con_spec_CreateFile), (n_spec_l04File, .eff (xmodes sh_spec_l04File) con_spec_l04File), (n_spec_l01Below, .eff (xmodes sh_spec_l01Below) con_spec_l01Below)]) (types_ok types_checked) (by simp only [List.forall_mem_cons]; exact ⟨⟨ok_spec_DeleteFile, cal_spec_DeleteFile⟩, ⟨ok_spec_ReplaceFile, cal_spec_ReplaceFile⟩, ⟨ok_spec_CanRead, cal_spec_CanRead⟩, ⟨ok_spec_CreateFile, cal_spec_CreateFile⟩, ⟨ok_spec_l04File, cal_spec_l04File⟩, ⟨ok_spec_l01Below, cal_spec_l01Below⟩, fun x hx => by cases hx⟩)) (fun _ _ => ⟨((([], [], 0, ()), ()), (([], 0, 0, ()), ())), ⟨by decide, by decide, by decide, fun f hf => by cases hf⟩⟩) ?_
  intro b i h s0 s1 s2 u hin hp
  obtain ⟨hp, hu0, hu1, hs⟩ : 0 ≤ i ∧ 0 ≤ u ∧ u ≤ 2 ∧ Sp.smallS (s0, s1, s2, ()) := hp
  refine ⟨fun y => 0 ≤ y.2.1.2.1 ∧ (0 ≤ y.1.1 ∧ y.1.1 ≤ 4) ∧ Sp.smallS y.2.2.1, fun y => (5 - y.1.1).toNat, ⟨hp, ⟨(show (0 : Int) ≤ 0 by decide), (show (0 : Int) ≤ 4 by decide)⟩, hs⟩, ?_⟩
  rintro ⟨⟨n, ⟨⟩⟩, ⟨b0, i0, g0, ⟨⟩⟩, ⟨a, l, nx, ⟨⟩⟩, ⟨⟩⟩ ⟨p0, ⟨k0, k1⟩, S⟩
  have p0 : 0 ≤ i0 := p0
  have k0 : 0 ≤ n := k0
  have k1 : n ≤ 4 := k1
  have S : Sp.smallS (a, l, nx, ()) := S
  refine ⟨p0, ?_⟩
  rintro ⟨⟨x1, ⟨⟩⟩, ⟨b1, i1, g1, ⟨⟩⟩, ⟨⟩⟩ ⟨p1, q0, q1, _⟩
  have q1 : x1 < 4 := q1 (by decide)
  have q0 : 0 ≤ x1 := q0
  have w : IntKind.i64.wrap (1 + x1) = 1 + x1 := wrapIn _ (by omega)
  have wn : IntKind.i64.wrap (n + 1) = n + 1 := wrapIn _ (by omega)
  dsimp only
  rw [w, wn]
  refine cond_intro (fun hc => ⟨p1, ?_⟩) fun hc => ⟨p1, S⟩
  have hc := decT hc
  have next : ∀ {j : Int} {s : Sp.DStore}, 0 ≤ j → Sp.smallS s → (0 ≤ j ∧ (0 ≤ n + 1 ∧ n + 1 ≤ 4) ∧ Sp.smallS s) ∧ (5 - (n + 1)).toNat < (5 - n).toNat := fun hj hs' => ⟨⟨hj, ⟨by omega, by omega⟩, hs'⟩, by omega⟩
  rintro ⟨⟨⟨d, o, s, lk, al, ⟨⟩⟩, ⟨⟩⟩, ⟨b2, i2, g2, ⟨⟩⟩, ⟨⟩⟩ ⟨p2, _, _, _, _, _, _, ha⟩
  have ha : al.length ≤ 1000 := Nat.le_trans ha (by decide)
  refine ⟨by decide, p2, ?_⟩
  rintro ⟨⟨x3, ⟨⟩⟩, ⟨b3, i3, g3, ⟨⟩⟩, ⟨⟩⟩ ⟨p3, _⟩
  refine cond_intro (fun _ => ⟨⟨S, ha⟩, ?_⟩) fun _ => cond_intro (fun _ => ⟨p3, ?_⟩) fun _ => ⟨p3, ?_⟩
  · rintro ⟨⟨⟨a3, l3, nx3, ⟨⟩⟩, id3, ok3, ⟨⟩⟩, ⟨⟩⟩ ⟨e1, e2, e3, _⟩
    refine ⟨rfl, next p3 ?_⟩
    have e := store_of e1 e2 e3
    dsimp only at e
    rw [e]; exact Sp.smallS_create S ha
  · rintro ⟨⟨x4, ⟨⟩⟩, ⟨b4, i4, g4, ⟨⟩⟩, ⟨⟩⟩ ⟨p4, q4, _⟩
    have q4 : 0 ≤ x4 := q4
    refine cond_intro (fun hx => ?_) fun _ => ⟨rfl, next p4 S⟩
    have hx : x4 < l.length := decT hx
    refine ⟨⟨q4, hx⟩, trivial, cond_intro (fun _ => ⟨⟨q4, hx⟩, ⟨S, ha⟩, ?_⟩) fun _ => ⟨rfl, next p4 S⟩⟩
    rintro ⟨⟨⟨a3, l3, nx3, ⟨⟩⟩, ok3, ⟨⟩⟩, ⟨⟩⟩ ⟨e1, e2, e3, _⟩
    refine ⟨rfl, next p4 ?_⟩
    have e := store_of e1 e2 e3
    dsimp only at e
    rw [e]; exact Sp.smallS_replace S ha
  · rintro ⟨⟨x4, ⟨⟩⟩, ⟨b4, i4, g4, ⟨⟩⟩, ⟨⟩⟩ ⟨p4, q4, _⟩
    have q4 : 0 ≤ x4 := q4
    refine cond_intro (fun hx => ?_) fun _ => ⟨rfl, next p4 S⟩
    have hx : x4 < l.length := decT hx
    refine ⟨⟨q4, hx⟩, trivial, cond_intro (fun _ => ⟨⟨q4, hx⟩, S, ?_⟩) fun _ => ⟨rfl, next p4 S⟩⟩
    rintro ⟨⟨⟨a3, l3, nx3, ⟨⟩⟩, ok3, ⟨⟩⟩, ⟨⟩⟩ ⟨e1, e2, e3, _⟩
    refine ⟨rfl, next p4 ?_⟩
    have e := store_of e1 e2 e3
    dsimp only at e
    rw [e]; exact Sp.smallS_delete _ S
theorem ok_spec_DrawCanRead : XConOK prog G n_spec_DrawCanRead con_spec_DrawCanRead := by
  refine wk_spec_DrawCanRead (env_of (l := [(n_spec_l06User, .eff (xmodes sh_spec_l06User) con_spec_l06User), (n_spec_l04Any, .eff (xmodes sh_spec_l04Any) con_spec_l04Any), (n_spec_l01New, .eff (xmodes sh_spec_l01New) con_spec_l01New)]) (types_ok types_checked) (by simp only [List.forall_mem_cons]; exact ⟨⟨ok_spec_l06User, cal_spec_l06User⟩, ⟨ok_spec_l04Any, cal_spec_l04Any⟩, ⟨ok_spec_l01New, cal_spec_l01New⟩, fun x hx => by cases hx⟩)) (fun _ _ => ⟨(((0, 0, false, 0, [], ()), (0 : Int), ()), ()), (by decide : ([] : List Sp.DAttr).length ≤ 1000)⟩) ?_
  intro b hin hp
  have hp : b.length ≤ 1048576 := hp
  refine ⟨hp, ?_⟩
  rintro ⟨b0, i0, g0, ⟨⟩⟩ e0
  have e0 : i0 = 0 := e0
  subst e0
  refine ⟨(show (0 : Int) ≤ 0 by decide), ?_⟩
  rintro ⟨⟨⟨d, o, s, lk, al, ⟨⟩⟩, ⟨⟩⟩, ⟨b2, i2, g2, ⟨⟩⟩, ⟨⟩⟩ ⟨p2, ha⟩
  refine ⟨p2, ?_⟩
  rintro ⟨⟨x4, ⟨⟩⟩, ⟨b4, i4, g4, ⟨⟩⟩, ⟨⟩⟩ p4
  exact Nat.le_trans (show al.length ≤ 10 from ha) (by decide)
theorem ok_spec_DrawVisibleStore : XConOK prog G n_spec_DrawVisibleStore con_spec_DrawVisibleStore := by
  refine wk_spec_DrawVisibleStore (env_of (l := [(n_spec_l06User, .eff (xmodes sh_spec_l06User) con_spec_l06User), (n_spec_l05Any, .eff (xmodes sh_spec_l05Any) con_spec_l05Any), (n_spec_l01New, .eff (xmodes sh_spec_l01New) con_spec_l01New)]) (types_ok types_checked) (by simp only [List.forall_mem_cons]; exact ⟨⟨ok_spec_l06User, cal_spec_l06User⟩, ⟨ok_spec_l05Any, cal_spec_l05Any⟩, ⟨ok_spec_l01New, cal_spec_l01New⟩, fun x hx => by cases hx⟩)) (fun _ _ => ⟨((([], [], 0, ()), (0 : Int), ()), ()), ⟨by decide, by decide, fun f hf => by cases hf⟩⟩) ?_
  intro b hin hp
  have hp : b.length ≤ 1048576 := hp
  refine ⟨hp, ?_⟩
  rintro ⟨b0, i0, g0, ⟨⟩⟩ e0
  have e0 : i0 = 0 := e0
  subst e0
  refine ⟨(show (0 : Int) ≤ 0 by decide), ?_⟩
  rintro ⟨⟨⟨a, l, nx, ⟨⟩⟩, ⟨⟩⟩, ⟨b2, i2, g2, ⟨⟩⟩, ⟨⟩⟩ ⟨p2, hs⟩
  refine ⟨p2, ?_⟩
  rintro ⟨⟨x4, ⟨⟩⟩, ⟨b4, i4, g4, ⟨⟩⟩, ⟨⟩⟩ p4
  exact hs
theorem ok_spec_DrawEqualForUser : XConOK prog G n_spec_DrawEqualForUser con_spec_DrawEqualForUser := by
  refine wk_spec_DrawEqualForUser (env_of (l := [(n_spec_l06Hidden, .eff (xmodes sh_spec_l06Hidden) con_spec_l06Hidden), (n_spec_l06User, .eff (xmodes sh_spec_l06User) con_spec_l06User), (n_spec_l05Any, .eff (xmodes sh_spec_l05Any) con_spec_l05Any), (n_spec_l01Once, .eff (xmodes sh_spec_l01Once) con_spec_l01Once), (n_spec_l01Below, .eff (xmodes sh_spec_l01Below) con_spec_l01Below), (n_spec_l05Store, .eff (xmodes sh_spec_l05Store) con_spec_l05Store), (n_spec_l01New, .eff (xmodes sh_spec_l01New) con_spec_l01New)]) (types_ok types_checked) (by simp only [List.forall_mem_cons]; exact ⟨⟨ok_spec_l06Hidden, cal_spec_l06Hidden⟩, ⟨ok_spec_l06User, cal_spec_l06User⟩, ⟨ok_spec_l05Any, cal_spec_l05Any⟩, ⟨ok_spec_l01Once, cal_spec_l01Once⟩, ⟨ok_spec_l01Below, cal_spec_l01Below⟩, ⟨ok_spec_l05Store, cal_spec_l05Store⟩, ⟨ok_spec_l01New, cal_spec_l01New⟩, fun x hx => by cases hx⟩)) (fun _ _ => ⟨((([], [], 0, ()), ([], [], 0, ()), (0 : Int), ()), ()), ⟨⟨by decide, by decide, fun f hf => by cases hf⟩, ⟨by decide, by decide, fun f hf => by cases hf⟩⟩⟩) ?_
  intro b hin hp
  have hp : b.length ≤ 1048576 := hp
  refine ⟨hp, ?_⟩
  rintro ⟨b0, i0, g0, ⟨⟩⟩ e0
  have e0 : i0 = 0 := e0
  subst e0
  refine ⟨(show (0 : Int) ≤ 0 by decide), ?_⟩
  rintro ⟨⟨⟨a, l, nx, ⟨⟩⟩, ⟨⟩⟩, ⟨b2, i2, g2, ⟨⟩⟩, ⟨⟩⟩ ⟨p2, _, _, _, hs⟩
  refine ⟨p2, ?_⟩
  rintro ⟨⟨x3, ⟨⟩⟩, ⟨b3, i3, g3, ⟨⟩⟩, ⟨⟩⟩ ⟨p3, q0, q1, _⟩
  have q1 : x3 < 3 := q1 (by decide)
  refine ⟨p3, ?_⟩
  rintro ⟨⟨x4, ⟨⟩⟩, ⟨b4, i4, g4, ⟨⟩⟩, ⟨⟩⟩ p4
  refine cond_intro (fun _ => ⟨p4, ?_⟩) fun _ => ⟨⟨p4, q0, (show x3 ≤ 2 by omega), hs⟩, ?_⟩
  · rintro ⟨⟨⟨a5, l5, nx5, ⟨⟩⟩, ⟨⟩⟩, ⟨b5, i5, g5, ⟨⟩⟩, ⟨⟩⟩ ⟨p5, hs5⟩
    refine ⟨p5, ?_⟩
    rintro ⟨⟨x6, ⟨⟩⟩, ⟨b6, i6, g6, ⟨⟩⟩, ⟨⟩⟩ p6
    exact ⟨hs, hs5⟩
  · rintro ⟨⟨⟨a5, l5, nx5, ⟨⟩⟩, ⟨⟩⟩, ⟨b5, i5, g5, ⟨⟩⟩, ⟨⟩⟩ ⟨p5, hs5⟩
    exact ⟨hs, hs5⟩
theorem ok_laws_big : ConOK prog G n_laws_big con_laws_big := by
  refine wk_laws_big (env_of (l := []) (types_ok types_checked) (fun x hx => by cases hx)) ?_
  intro b hin hp
  exact rfl
theorem ok_laws_FnHiddenChanges : ConOK prog G n_laws_FnHiddenChanges con_laws_FnHiddenChanges := by
  refine wk_laws_FnHiddenChanges (env_of (l := [(n_laws_sameFiles, .pure con_laws_sameFiles), (n_laws_sameFields, .pure con_laws_sameFields), (n_spec_EqualForUser, .pure con_spec_EqualForUser), (n_spec_VisibleStore, .pure con_spec_VisibleStore), (n_impl_EqualForUser, .pure con_impl_EqualForUser), (n_spec_DrawEqualForUser, .eff (xmodes sh_spec_DrawEqualForUser) con_spec_DrawEqualForUser), (n_laws_big, .pure con_laws_big)]) (types_ok types_checked) (by simp only [List.forall_mem_cons]; exact ⟨⟨ok_laws_sameFiles, cal_laws_sameFiles⟩, ⟨ok_laws_sameFields, cal_laws_sameFields⟩, ⟨ok_spec_EqualForUser, cal_spec_EqualForUser⟩, ⟨ok_spec_VisibleStore, cal_spec_VisibleStore⟩, ⟨ok_impl_EqualForUser, cal_impl_EqualForUser⟩, ⟨ok_spec_DrawEqualForUser, cal_spec_DrawEqualForUser⟩, ⟨ok_laws_big, cal_laws_big⟩, fun x hx => by cases hx⟩)) ?_
  intro b hin hp
  refine ⟨trivial, cond_intro (fun _ => rfl) fun h => ?_⟩
  have h : ¬ (1048576 : Int) < b.length := decF h
  refine ⟨by omega, ?_⟩
  rintro ⟨⟨⟨a0, a1, a2, ⟨⟩⟩, ⟨b0, b1, b2, ⟨⟩⟩, u, ⟨⟩⟩, ⟨⟩⟩ ⟨hA, hB⟩
  have hA : Sp.smallS (a0, a1, a2, ()) := hA
  have hB : Sp.smallS (b0, b1, b2, ()) := hB
  have self : (decide ((Sp.visible (a0, a1, a2, ()) u).1 = (Sp.visible (a0, a1, a2, ()) u).1) && decide ((Sp.visible (a0, a1, a2, ()) u).2.1 = (Sp.visible (a0, a1, a2, ()) u).2.1)) = true := by simp
  refine ⟨⟨hA, hB⟩, hA, hB, ⟨hA, hB⟩, cond_intro (fun _ => ⟨trivial, cond_intro (fun h1 => ⟨trivial, cond_intro (fun h2 => ⟨⟨hA, hA⟩, congrArg (·, ()) self⟩) fun h2 => ?_⟩) fun h1 => cond_intro (fun h2 => ⟨⟨hA, hA⟩, congrArg (·, ()) self⟩) fun h2 => ?_⟩) fun h0 => ?_⟩
  · exfalso
    have h1 : decide ((Sp.visible (a0, a1, a2, ()) u).1 = (Sp.visible (b0, b1, b2, ()) u).1) = true := h1
    dsimp only at h2
    rw [h1, Bool.true_and] at h2
    simp at h2
  · exfalso
    have h1 : decide ((Sp.visible (a0, a1, a2, ()) u).1 = (Sp.visible (b0, b1, b2, ()) u).1) = false := h1
    dsimp only at h2
    rw [h1, Bool.false_and] at h2
    simp at h2
  · exfalso
    simp at h0
end Go.Proofs.Try


import Derived.Test.YtiifcpnpbfjlcaaP5
import Derived.Test.YtiifcpnpbfjlcaaV3
import Derived.Test.YtiifcpnpbfjlcaaV4
namespace Go.Proofs.Try
open Go Go.Fw Go.IntWalk

/-- What a draw may put under a name. -/
def addTo (L : List (List Sp.DAttr)) (name : Sp.Bytes) (vals : List (Int × Int × Sp.Bytes)) : List (List Sp.DAttr) := L ++ L.flatMap fun a => vals.map fun v => Sp.setAttr a name v.1 v.2.1 v.2.2
theorem addTo_old {L : List (List Sp.DAttr)} {name : Sp.Bytes} {vals : List (Int × Int × Sp.Bytes)} {a : List Sp.DAttr} (h : a ∈ L) : a ∈ addTo L name vals := List.mem_append_left _ h
theorem addTo_new {L : List (List Sp.DAttr)} {name : Sp.Bytes} {vals : List (Int × Int × Sp.Bytes)} {a : List Sp.DAttr} (h : a ∈ L) {k n : Int} {s : Sp.Bytes} (hv : (k, n, s) ∈ vals) : Sp.setAttr a name k n s ∈ addTo L name vals :=
  List.mem_append_right _ (List.mem_flatMap.2 ⟨a, h, List.mem_map.2 ⟨(k, n, s), hv, rfl⟩⟩)
def ints : List (Int × Int × Sp.Bytes) := [(1, 0, []), (1, 1, []), (1, 2, []), (1, 3, [])]
def names : List (Int × Int × Sp.Bytes) := [(2, 0, [105, 110, 107]), (2, 0, [115, 101, 97])]
def tags : List (Int × Int × Sp.Bytes) := [(2, 0, [114, 101, 100]), (2, 0, [98, 108, 117, 101])]
def drawn1 : List (List Sp.DAttr) := addTo [[]] [97] ints
def drawn2 : List (List Sp.DAttr) := addTo drawn1 [98] ints
def drawn3 : List (List Sp.DAttr) := addTo drawn2 [110] names
def drawn4 : List (List Sp.DAttr) := addTo drawn3 [116] tags
theorem drawn_ok : (drawn4.all fun a => Sp.okAttrs Sp.usual a && decide (a.length ≤ 4)) = true := by kernel_rfl
theorem drawn_mem {a : List Sp.DAttr} (h : a ∈ drawn4) : Sp.okAttrs Sp.usual a = true ∧ a.length ≤ 4 := by
  have := List.all_eq_true.1 drawn_ok a h
  simpa using this
theorem drawn12 {a : List Sp.DAttr} (h : a ∈ drawn1) : a.length ≤ 4 := (drawn_mem (addTo_old (addTo_old (addTo_old h)))).2
theorem drawn22 {a : List Sp.DAttr} (h : a ∈ drawn2) : a.length ≤ 4 := (drawn_mem (addTo_old (addTo_old h))).2
theorem drawn32 {a : List Sp.DAttr} (h : a ∈ drawn3) : a.length ≤ 4 := (drawn_mem (addTo_old h)).2
theorem ints_mem {x : Int} (h0 : 0 ≤ x) (h1 : x < 4) : ((1 : Int), x, ([] : Sp.Bytes)) ∈ ints := by
  rcases (show x = 0 ∨ x = 1 ∨ x = 2 ∨ x = 3 by omega) with h | h | h | h <;> subst h <;> simp [ints]
theorem names_mem {w : Sp.Bytes} (h : (w, ()) ∈ [(([105, 110, 107] : Sp.Bytes), ()), ([115, 101, 97], ())]) : ((2 : Int), (0 : Int), w) ∈ names := by
  simp only [List.mem_cons, Prod.mk.injEq, and_true, List.not_mem_nil, or_false] at h
  rcases h with h | h <;> subst h <;> simp [names]
theorem tags_mem {w : Sp.Bytes} (h : (w, ()) ∈ [(([114, 101, 100] : Sp.Bytes), ()), ([98, 108, 117, 101], ())]) : ((2 : Int), (0 : Int), w) ∈ tags := by
  simp only [List.mem_cons, Prod.mk.injEq, and_true, List.not_mem_nil, or_false] at h
  rcases h with h | h <;> subst h <;> simp [tags]
/-- The plain cells of a drawn file. -/
def Head (id : Int) (f : Int × Int × Bool × Int × Unit × Unit) : Prop := f.1 = id ∧ 0 ≤ f.2.1 ∧ f.2.1 ≤ 2 ∧ 0 ≤ f.2.2.2.1 ∧ f.2.2.2.1 ≤ 6

theorem ok_spec_l04File : XConOK prog G n_spec_l04File con_spec_l04File := by
  refine wk_spec_l04File (env_of (l := [(n_spec_StringValue, .pure con_spec_StringValue), (n_spec_l01Pick, .eff (xmodes sh_spec_l01Pick) con_spec_l01Pick), (n_spec_SetAttr, .eff (xmodes sh_spec_SetAttr) con_spec_SetAttr), (n_spec_IntValue, .pure con_spec_IntValue), (n_spec_l01Once, .eff (xmodes sh_spec_l01Once) con_spec_l01Once), (n_spec_l01Below, .eff (xmodes sh_spec_l01Below) con_spec_l01Below)]) (types_ok types_checked) (by simp only [List.forall_mem_cons]; exact ⟨⟨ok_spec_StringValue, cal_spec_StringValue⟩, ⟨ok_spec_l01Pick, cal_spec_l01Pick⟩, ⟨ok_spec_SetAttr, cal_spec_SetAttr⟩, ⟨ok_spec_IntValue, cal_spec_IntValue⟩, ⟨ok_spec_l01Once, cal_spec_l01Once⟩, ⟨ok_spec_l01Below, cal_spec_l01Below⟩, fun x hx => by cases hx⟩)) (fun ⟨_, id, _⟩ _ => ⟨(((id, 0, false, 0, [], ()), ()), (([], 0, 0, ()), ())), ⟨by decide, rfl, by decide, by decide, by decide, by decide, rfl, by decide⟩⟩) ?_
  intro b i h id hin hp
  have hp : 0 ≤ i := hp
  refine ⟨hp, ?_⟩
  rintro ⟨⟨x0, ⟨⟩⟩, ⟨b0, i0, g0, ⟨⟩⟩, ⟨⟩⟩ ⟨p0, q0, q1, _⟩
  refine ⟨p0, ?_⟩
  rintro ⟨⟨x1, ⟨⟩⟩, ⟨b1, i1, g1, ⟨⟩⟩, ⟨⟩⟩ p1
  have q1 : x0 < 3 := q1 (by decide)
  have q0 : 0 ≤ x0 := q0
  refine ⟨fun y => 0 ≤ y.2.1.2.1 ∧ Head id y.2.2.1, ⟨p1, ?_⟩, ?_⟩
  · rintro ⟨⟨x3, ⟨⟩⟩, ⟨b3, i3, g3, ⟨⟩⟩, ⟨⟩⟩ p3
    refine cond_intro (fun _ => ⟨p3, ?_⟩) fun _ => ⟨rfl, p3, rfl, q0, (show x0 ≤ 2 by omega), Int.le_refl _, (show (0 : Int) ≤ 6 by decide)⟩
    rintro ⟨⟨x4, ⟨⟩⟩, ⟨b4, i4, g4, ⟨⟩⟩, ⟨⟩⟩ ⟨p4, q4, q5, _⟩
    have q5 : x4 < 7 := q5 (by decide)
    exact ⟨rfl, p4, rfl, q0, (show x0 ≤ 2 by omega), q4, (show x4 ≤ 6 by omega)⟩
  rintro ⟨⟨⟩, ⟨b5, i5, g5, ⟨⟩⟩, f5, ⟨⟩⟩ ⟨p5, H5⟩
  refine ⟨fun y => 0 ≤ y.2.1.2.1 ∧ Head id y.2.2.1 ∧ y.2.2.2.1 ∈ drawn1, ⟨p5, ?_⟩, ?_⟩
  · rintro ⟨⟨x7, ⟨⟩⟩, ⟨b7, i7, g7, ⟨⟩⟩, ⟨⟩⟩ p7
    refine cond_intro (fun _ => ⟨p7, ?_⟩) fun _ => ⟨rfl, p7, H5, addTo_old List.mem_cons_self⟩
    rintro ⟨⟨x8, ⟨⟩⟩, ⟨b8, i8, g8, ⟨⟩⟩, ⟨⟩⟩ ⟨p8, q8, q9, _⟩
    refine ⟨trivial, (show (0 : Nat) ≤ 1000 by decide), ?_⟩
    rintro ⟨⟨⟨d, o, s, l, a, ⟨⟩⟩, ⟨⟩⟩, ⟨⟩⟩ ⟨e1, e2, e3, e4, e5⟩
    refine ⟨rfl, p8, ?_, ?_⟩
    · exact ⟨(show d = id from (show d = f5.1 from e1).trans H5.1), by rw [show o = f5.2.1 from e2]; exact H5.2.1, by rw [show o = f5.2.1 from e2]; exact H5.2.2.1, by rw [show l = f5.2.2.2.1 from e4]; exact H5.2.2.2.1, by rw [show l = f5.2.2.2.1 from e4]; exact H5.2.2.2.2⟩
    · have e5 : a = Sp.setAttr [] [97] 1 x8 [] := e5
      show a ∈ drawn1
      rw [e5]; exact addTo_new List.mem_cons_self (ints_mem q8 (q9 (by decide)))
  rintro ⟨⟨⟩, ⟨b11, i11, g11, ⟨⟩⟩, f11, a11, ⟨⟩⟩ ⟨p11, H11, m11⟩
  refine ⟨fun y => 0 ≤ y.2.1.2.1 ∧ Head id y.2.2.1 ∧ y.2.2.2.1 ∈ drawn2, ⟨p11, ?_⟩, ?_⟩
  · rintro ⟨⟨x7, ⟨⟩⟩, ⟨b7, i7, g7, ⟨⟩⟩, ⟨⟩⟩ p7
    refine cond_intro (fun _ => ⟨p7, ?_⟩) fun _ => ⟨rfl, p7, H11, addTo_old m11⟩
    rintro ⟨⟨x8, ⟨⟩⟩, ⟨b8, i8, g8, ⟨⟩⟩, ⟨⟩⟩ ⟨p8, q8, q9, _⟩
    refine ⟨trivial, Nat.le_trans (drawn12 m11) (by decide), ?_⟩
    rintro ⟨⟨⟨d, o, s, l, a, ⟨⟩⟩, ⟨⟩⟩, ⟨⟩⟩ ⟨e1, e2, e3, e4, e5⟩
    refine ⟨rfl, p8, ?_, ?_⟩
    · exact ⟨(show d = id from (show d = f11.1 from e1).trans H11.1), by rw [show o = f11.2.1 from e2]; exact H11.2.1, by rw [show o = f11.2.1 from e2]; exact H11.2.2.1, by rw [show l = f11.2.2.2.1 from e4]; exact H11.2.2.2.1, by rw [show l = f11.2.2.2.1 from e4]; exact H11.2.2.2.2⟩
    · have e5 : a = Sp.setAttr a11 [98] 1 x8 [] := e5
      show a ∈ drawn2
      rw [e5]; exact addTo_new m11 (ints_mem q8 (q9 (by decide)))
  rintro ⟨⟨⟩, ⟨b17, i17, g17, ⟨⟩⟩, f17, a17, ⟨⟩⟩ ⟨p17, H17, m17⟩
  refine ⟨fun y => 0 ≤ y.2.1.2.1 ∧ Head id y.2.2.1 ∧ y.2.2.2.1 ∈ drawn3, ⟨p17, ?_⟩, ?_⟩
  · rintro ⟨⟨x7, ⟨⟩⟩, ⟨b7, i7, g7, ⟨⟩⟩, ⟨⟩⟩ p7
    refine cond_intro (fun _ => ⟨⟨p7, by simp⟩, ?_⟩) fun _ => ⟨rfl, p7, H17, addTo_old m17⟩
    rintro ⟨⟨x8, ⟨⟩⟩, ⟨b8, i8, g8, ⟨⟩⟩, ⟨⟩⟩ ⟨p8, q8⟩
    refine ⟨trivial, Nat.le_trans (drawn22 m17) (by decide), ?_⟩
    rintro ⟨⟨⟨d, o, s, l, a, ⟨⟩⟩, ⟨⟩⟩, ⟨⟩⟩ ⟨e1, e2, e3, e4, e5⟩
    refine ⟨rfl, p8, ?_, ?_⟩
    · exact ⟨(show d = id from (show d = f17.1 from e1).trans H17.1), by rw [show o = f17.2.1 from e2]; exact H17.2.1, by rw [show o = f17.2.1 from e2]; exact H17.2.2.1, by rw [show l = f17.2.2.2.1 from e4]; exact H17.2.2.2.1, by rw [show l = f17.2.2.2.1 from e4]; exact H17.2.2.2.2⟩
    · have e5 : a = Sp.setAttr a17 [110] 2 0 x8 := e5
      show a ∈ drawn3
      rw [e5]; exact addTo_new m17 (names_mem q8)
  rintro ⟨⟨⟩, ⟨b23, i23, g23, ⟨⟩⟩, f23, a23, ⟨⟩⟩ ⟨p23, H23, m23⟩
  refine ⟨fun y => 0 ≤ y.2.1.2.1 ∧ Head id y.2.2.1 ∧ y.2.2.2.1 ∈ drawn4, ⟨p23, ?_⟩, ?_⟩
  · rintro ⟨⟨x7, ⟨⟩⟩, ⟨b7, i7, g7, ⟨⟩⟩, ⟨⟩⟩ p7
    refine cond_intro (fun _ => ⟨⟨p7, by simp⟩, ?_⟩) fun _ => ⟨rfl, p7, H23, addTo_old m23⟩
    rintro ⟨⟨x8, ⟨⟩⟩, ⟨b8, i8, g8, ⟨⟩⟩, ⟨⟩⟩ ⟨p8, q8⟩
    refine ⟨trivial, Nat.le_trans (drawn32 m23) (by decide), ?_⟩
    rintro ⟨⟨⟨d, o, s, l, a, ⟨⟩⟩, ⟨⟩⟩, ⟨⟩⟩ ⟨e1, e2, e3, e4, e5⟩
    refine ⟨rfl, p8, ?_, ?_⟩
    · exact ⟨(show d = id from (show d = f23.1 from e1).trans H23.1), by rw [show o = f23.2.1 from e2]; exact H23.2.1, by rw [show o = f23.2.1 from e2]; exact H23.2.2.1, by rw [show l = f23.2.2.2.1 from e4]; exact H23.2.2.2.1, by rw [show l = f23.2.2.2.1 from e4]; exact H23.2.2.2.2⟩
    · have e5 : a = Sp.setAttr a23 [116] 2 0 x8 := e5
      show a ∈ drawn4
      rw [e5]; exact addTo_new m23 (tags_mem q8)
  rintro ⟨⟨⟩, ⟨b29, i29, g29, ⟨⟩⟩, f29, a29, ⟨⟩⟩ ⟨p29, H29, m29⟩
  have hm := drawn_mem m29
  exact ⟨p29, H29.1, H29.2.1, H29.2.2.1, H29.2.2.2.1, H29.2.2.2.2, hm.1, hm.2⟩

theorem setAttr_len (al : List Sp.DAttr) (name : Sp.Bytes) (k n : Int) (s : Sp.Bytes) : (Sp.setAttr al name k n s).length ≤ al.length + 1 := by
  have hf := List.length_filter_le (Sp.notNamed name) al
  unfold Sp.setAttr
  cases decide (k = 0) with
  | true => show (al.filter _).length ≤ _; omega
  | false =>
    show (Sp.putAttr _ _).length ≤ _
    unfold Sp.putAttr
    have := congrArg List.length (List.takeWhile_append_dropWhile (p := Sp.notAbove name) (l := al.filter (Sp.notNamed name)))
    rw [List.length_append] at this
    rw [List.length_append, List.length_cons]
    show ((al.filter (Sp.notNamed name)).takeWhile (Sp.notAbove name)).length + (((al.filter (Sp.notNamed name)).dropWhile (Sp.notAbove name)).length + 1) ≤ _
    omega
theorem ok_spec_l04Any : XConOK prog G n_spec_l04Any con_spec_l04Any := by
  refine wk_spec_l04Any (env_of (l := [(n_spec_SetAttr, .eff (xmodes sh_spec_SetAttr) con_spec_SetAttr), (n_spec_StringValue, .pure con_spec_StringValue), (n_spec_l02Any, .eff (xmodes sh_spec_l02Any) con_spec_l02Any), (n_spec_l03Name, .eff (xmodes sh_spec_l03Name) con_spec_l03Name), (n_spec_l01PickInt, .eff (xmodes sh_spec_l01PickInt) con_spec_l01PickInt), (n_spec_l04File, .eff (xmodes sh_spec_l04File) con_spec_l04File), (n_spec_l01Below, .eff (xmodes sh_spec_l01Below) con_spec_l01Below)]) (types_ok types_checked) (by simp only [List.forall_mem_cons]; exact ⟨⟨ok_spec_SetAttr, cal_spec_SetAttr⟩, ⟨ok_spec_StringValue, cal_spec_StringValue⟩, ⟨ok_spec_l02Any, cal_spec_l02Any⟩, ⟨ok_spec_l03Name, cal_spec_l03Name⟩, ⟨ok_spec_l01PickInt, cal_spec_l01PickInt⟩, ⟨ok_spec_l04File, cal_spec_l04File⟩, ⟨ok_spec_l01Below, cal_spec_l01Below⟩, fun x hx => by cases hx⟩)) (fun _ _ => ⟨(((0, 0, false, 0, [], ()), ()), (([], 0, 0, ()), ())), ⟨by decide, by decide⟩⟩) ?_
  intro b i h hin hp
  have hp : 0 ≤ i := hp
  refine ⟨hp, ?_⟩
  rintro ⟨⟨x0, ⟨⟩⟩, ⟨b0, i0, g0, ⟨⟩⟩, ⟨⟩⟩ ⟨p0, _⟩
  refine ⟨p0, ?_⟩
  rintro ⟨⟨⟨d, o, s, l, a, ⟨⟩⟩, ⟨⟩⟩, ⟨b1, i1, g1, ⟨⟩⟩, ⟨⟩⟩ ⟨p1, _, _, _, _, _, _, ha⟩
  have ha : a.length ≤ 4 := ha
  refine ⟨p1, ?_⟩
  rintro ⟨⟨x2, ⟨⟩⟩, ⟨b2, i2, g2, ⟨⟩⟩, ⟨⟩⟩ ⟨p2, _⟩
  refine cond_intro (fun _ => ⟨⟨p2, by simp⟩, ?_⟩) fun _ => cond_intro (fun _ => ⟨⟨p2, by simp⟩, ?_⟩) fun _ => cond_intro (fun _ => ⟨⟨p2, by simp⟩, ?_⟩) fun _ => cond_intro (fun _ => ⟨p2, ?_⟩) fun _ => cond_intro (fun _ => ⟨trivial, (show a.length ≤ 1000 by omega), ?_⟩) fun _ => ⟨p2, (show a.length ≤ 10 by omega)⟩
  · rintro ⟨⟨x3, ⟨⟩⟩, ⟨b3, i3, g3, ⟨⟩⟩, ⟨⟩⟩ ⟨p3, _⟩
    exact ⟨p3, (show a.length ≤ 10 by omega)⟩
  · rintro ⟨⟨x3, ⟨⟩⟩, ⟨b3, i3, g3, ⟨⟩⟩, ⟨⟩⟩ ⟨p3, _⟩
    exact ⟨p3, (show a.length ≤ 10 by omega)⟩
  · rintro ⟨⟨x3, ⟨⟩⟩, ⟨b3, i3, g3, ⟨⟩⟩, ⟨⟩⟩ ⟨p3, _⟩
    exact ⟨p3, (show a.length ≤ 10 by omega)⟩
  · rintro ⟨⟨x3, ⟨⟩⟩, ⟨b3, i3, g3, ⟨⟩⟩, ⟨⟩⟩ ⟨p3, _⟩
    refine ⟨p3, ?_⟩
    rintro ⟨⟨⟨k, n, w, ⟨⟩⟩, ⟨⟩⟩, ⟨b4, i4, g4, ⟨⟩⟩, ⟨⟩⟩ ⟨p4, _⟩
    refine ⟨(show a.length + 1 ≤ big by rw [big_eq]; omega), p4, ?_⟩
    show (a ++ [_]).length ≤ 10
    rw [List.length_append, List.length_cons, List.length_nil]; omega
  · rintro ⟨⟨⟨d', o', s', l', a', ⟨⟩⟩, ⟨⟩⟩, ⟨⟩⟩ ⟨_, _, _, _, e5⟩
    refine ⟨p2, ?_⟩
    have e5 : a' = Sp.setAttr a [97] 2 0 [114, 101, 100] := e5
    show a'.length ≤ 10
    rw [e5]
    have := setAttr_len a [97] 2 0 [114, 101, 100]
    omega
end Go.Proofs.Try


import Derived.Test.YtiifcpnpbfjlcaaF
namespace Go.Proofs.Try
open Go Go.Fw
set_option maxRecDepth 100000
def H_slices_Delete_impl_File : Hints := Go.Fw.hints [] [] [] [] [(7, [.closes 0]), (5, [.opens 0])]
def VC_slices_Delete_impl_File (s : List (Int × Int × Bool × Int × List (List UInt8 × Int × Int × List UInt8 × Unit) × Unit)) (i : Int) (j : Int) (K : (List (Int × Int × Bool × Int × List (List UInt8 × Int × Int × List UInt8 × Unit) × Unit) × Unit) × Unit → Prop) : Prop :=
  ((0 : Int) ≤ i ∧ i ≤ j ∧ j ≤ (↑s.length : Int) ∧ (↑s.length : Int) ≤ (↑s.length : Int)) ∧
  bif i == j then K ((s, ()), ())
  else
  (0 : Nat) < s.length ∧
  ((0 : Int) ≤ i ∧ i ≤ (↑(s.length - (0 : Nat)) : Int)) ∧
  ((0 : Int) ≤ j ∧ j ≤ (↑s.length : Int)) ∧
  (i.toNat - (0 : Nat) + (s.length - j.toNat) ≤ s.length ∧ (0 : Nat) + j.toNat + (s.length - j.toNat) ≤ s.length) ∧
  ((0 : Int) ≤ (↑(i.toNat - (0 : Nat) + (s.length - j.toNat)) : Int) ∧
  (↑(i.toNat - (0 : Nat) + (s.length - j.toNat)) : Int) ≤ (↑s.length : Int) ∧
  (↑s.length : Int) ≤ (↑((overRows s (i.toNat - (0 : Nat)) (List.take (s.length - j.toNat) (List.drop ((0 : Nat) + j.toNat) s))).length - (0 : Nat)) : Int)) ∧
  (0 : Nat) + (↑(i.toNat - (0 : Nat) + (s.length - j.toNat)) : Int).toNat + ((↑s.length : Int).toNat - (↑(i.toNat - (0 : Nat) + (s.length - j.toNat)) : Int).toNat) ≤
  (overRows s (i.toNat - (0 : Nat)) (List.take (s.length - j.toNat) (List.drop ((0 : Nat) + j.toNat) s))).length ∧
  ((0 : Nat) <
  (overRows (overRows s (i.toNat - (0 : Nat)) (List.take (s.length - j.toNat) (List.drop ((0 : Nat) + j.toNat) s)))
  ((0 : Nat) + (↑(i.toNat - (0 : Nat) + (s.length - j.toNat)) : Int).toNat)
  (List.replicate ((↑s.length : Int).toNat - (↑(i.toNat - (0 : Nat) + (s.length - j.toNat)) : Int).toNat)
  ((0 : Int), (0 : Int), false, (0 : Int), [], ()))).length ∧
  i.toNat - (0 : Nat) + (s.length - j.toNat) ≤
  (overRows (overRows s (i.toNat - (0 : Nat)) (List.take (s.length - j.toNat) (List.drop ((0 : Nat) + j.toNat) s)))
  ((0 : Nat) + (↑(i.toNat - (0 : Nat) + (s.length - j.toNat)) : Int).toNat)
  (List.replicate ((↑s.length : Int).toNat - (↑(i.toNat - (0 : Nat) + (s.length - j.toNat)) : Int).toNat)
  ((0 : Int), (0 : Int), false, (0 : Int), [], ()))).length) ∧
  K
  ((List.take (i.toNat - (0 : Nat) + (s.length - j.toNat))
  (overRows (overRows s (i.toNat - (0 : Nat)) (List.take (s.length - j.toNat) (List.drop ((0 : Nat) + j.toNat) s)))
  ((0 : Nat) + (↑(i.toNat - (0 : Nat) + (s.length - j.toNat)) : Int).toNat)
  (List.replicate ((↑s.length : Int).toNat - (↑(i.toNat - (0 : Nat) + (s.length - j.toNat)) : Int).toNat)
  ((0 : Int), (0 : Int), false, (0 : Int), [], ()))),
  ()),
  ())
theorem wk_slices_Delete_impl_File (env : EnvB prog G Θ Γ_slices_Delete_impl_File) (hne : ∀ x, (F_slices_Delete_impl_File x).1 → ∃ t, (F_slices_Delete_impl_File x).2 t) (h : ∀ (s : List (Int × Int × Bool × Int × List (List UInt8 × Int × Int × List UInt8 × Unit) × Unit)) (i : Int) (j : Int), xsInR sh_slices_Delete_impl_File (s, i, j, ()) → ((0 : Int) ≤ i ∧ i ≤ j ∧ j ≤ (↑s.length : Int)) → VC_slices_Delete_impl_File s i j fun (r : (List (Int × Int × Bool × Int × List (List UInt8 × Int × Int × List UInt8 × Unit) × Unit) × Unit) × Unit) => ((0 : Int) ≤ i ∧ i ≤ j ∧ j ≤ (↑s.length : Int), fun (x : (List (Int × Int × Bool × Int × List (List UInt8 × Int × Int × List UInt8 × Unit) × Unit) × Unit) × Unit) =>
  x.1.1 = List.take i.toNat s ++ List.drop j.toNat s).2
  r) : XConOK prog G n_slices_Delete_impl_File con_slices_Delete_impl_File :=
  conX_ok env mixed (fn := f86) (c := codeOf f86) (by kernel_rfl) (by kernel_rfl) H_slices_Delete_impl_File (by kernel_rfl) hne fun ⟨s, i, j, ⟨⟩⟩ hin hp =>
  Eq.mpr ((by kernel_rfl : awp Θ Γ_slices_Delete_impl_File H_slices_Delete_impl_File (codeOf f86) (endsX Θ f86.results.toList sh_slices_Delete_impl_File rsh_slices_Delete_impl_File (F_slices_Delete_impl_File (s, i, j, ())).2) (entryX f86.ntmps (xsVals sh_slices_Delete_impl_File (s, i, j, ()))) = VC_slices_Delete_impl_File s i j fun (r : (List (Int × Int × Bool × Int × List (List UInt8 × Int × Int × List UInt8 × Unit) × Unit) × Unit) × Unit) => ((0 : Int) ≤ i ∧ i ≤ j ∧ j ≤ (↑s.length : Int), fun (x : (List (Int × Int × Bool × Int × List (List UInt8 × Int × Int × List UInt8 × Unit) × Unit) × Unit) × Unit) =>
  x.1.1 = List.take i.toNat s ++ List.drop j.toNat s).2
  r)) (h s i j hin hp)

def H_impl_copyFiles : Hints := Go.Fw.hints [6, 6, 15, 16] [(3, ⟨[(.slot 3 0, 225, 39, (.cons (.int .i64) (.cons (.int .i64) (.cons .bool (.cons (.int .i64) (.cons (.sl 116 (.cons .str (.cons (.int .i64) (.cons (.int .i64) (.cons .str .nil))))) .nil))))), false)], ⟨[(7, .one (.sl 39 (.cons (.int .i64) (.cons (.int .i64) (.cons .bool (.cons (.int .i64) (.cons (.sl 116 (.cons .str (.cons (.int .i64) (.cons (.int .i64) (.cons .str .nil))))) .nil))))) false)), (8, .one (.int .i64))], []⟩, ⟨[(3, .one (.ref 225)), (9, .one (.int .i64))], [(225, .arr 39 (.cons (.int .i64) (.cons (.int .i64) (.cons .bool (.cons (.int .i64) (.cons (.sl 116 (.cons .str (.cons (.int .i64) (.cons (.int .i64) (.cons .str .nil))))) .nil))))) false)]⟩⟩)] [] [] []
def VC_impl_copyFiles (l : List (Int × Int × Bool × Int × List (List UInt8 × Int × Int × List UInt8 × Unit) × Unit)) (K : (List (Int × Int × Bool × Int × List (List UInt8 × Int × Int × List UInt8 × Unit) × Unit) × Unit) × Unit → Prop) : Prop :=
 let s0 := ((l, (↑l.length : Int), ()), ());
  ∃ (I : (Unit × Int × Unit) × List (Int × Int × Bool × Int × List (List UInt8 × Int × Int × List UInt8 × Unit) × Unit) × Unit → Prop),
  ∃ (μ : (Unit × Int × Unit) × List (Int × Int × Bool × Int × List (List UInt8 × Int × Int × List UInt8 × Unit) × Unit) × Unit → Nat),
  I (((), (0 : Int), ()), [], ()) ∧
  ∀ (y1 : (Unit × Int × Unit) × List (Int × Int × Bool × Int × List (List UInt8 × Int × Int × List UInt8 × Unit) × Unit) × Unit),
  I y1 →
  bif decide (y1.1.2.1 < (↑l.length : Int)) then
  ((0 : Int) ≤ y1.1.2.1 ∧ y1.1.2.1 < (↑l.length : Int)) ∧
  Sp.smallF
  ((l.getD (Int.toNat y1.1.2.1) ((0 : Int), (0 : Int), false, (0 : Int), [], ())).1,
  (l.getD (Int.toNat y1.1.2.1) ((0 : Int), (0 : Int), false, (0 : Int), [], ())).2.1,
  (l.getD (Int.toNat y1.1.2.1) ((0 : Int), (0 : Int), false, (0 : Int), [], ())).2.2.1,
  (l.getD (Int.toNat y1.1.2.1) ((0 : Int), (0 : Int), false, (0 : Int), [], ())).2.2.2.1,
  (l.getD (Int.toNat y1.1.2.1) ((0 : Int), (0 : Int), false, (0 : Int), [], ())).2.2.2.2.1, ()) ∧
 let r2 := (l.getD (Int.toNat y1.1.2.1) ((0 : Int), (0 : Int), false, (0 : Int), [], ())).1;
 let r3 := (l.getD (Int.toNat y1.1.2.1) ((0 : Int), (0 : Int), false, (0 : Int), [], ())).2.1;
 let r4 := (l.getD (Int.toNat y1.1.2.1) ((0 : Int), (0 : Int), false, (0 : Int), [], ())).2.2.1;
 let r5 := (l.getD (Int.toNat y1.1.2.1) ((0 : Int), (0 : Int), false, (0 : Int), [], ())).2.2.2.1;
 let r6 := (l.getD (Int.toNat y1.1.2.1) ((0 : Int), (0 : Int), false, (0 : Int), [], ())).2.2.2.2.1;
  List.length y1.2.1 + [(r2, r3, r4, r5, r6, ())].length ≤ big ∧
  s0 = s0 ∧
  I (((), IntKind.i64.wrap (y1.1.2.1 + (1 : Int)), ()), y1.2.1 ++ [(r2, r3, r4, r5, r6, ())], ()) ∧
  μ (((), IntKind.i64.wrap (y1.1.2.1 + (1 : Int)), ()), y1.2.1 ++ [(r2, r3, r4, r5, r6, ())], ()) < μ y1
  else K ((y1.2.1, ()), ())
theorem wk_impl_copyFiles (env : EnvB prog G Θ Γ_impl_copyFiles) (hne : ∀ x, (F_impl_copyFiles x).1 → ∃ t, (F_impl_copyFiles x).2 t) (h : ∀ (l : List (Int × Int × Bool × Int × List (List UInt8 × Int × Int × List UInt8 × Unit) × Unit)), xsInR sh_impl_copyFiles (l, ()) → (l.length ≤ (1000 : Nat) ∧ ∀ (f : Int × Int × Bool × Int × List (List UInt8 × Int × Int × List UInt8 × Unit) × Unit), f ∈ l → Sp.smallF f) → VC_impl_copyFiles l fun (r : (List (Int × Int × Bool × Int × List (List UInt8 × Int × Int × List UInt8 × Unit) × Unit) × Unit) × Unit) => (l.length ≤ (1000 : Nat) ∧ ∀ (f : Int × Int × Bool × Int × List (List UInt8 × Int × Int × List UInt8 × Unit) × Unit), f ∈ l → Sp.smallF f,
  fun (x : (List (Int × Int × Bool × Int × List (List UInt8 × Int × Int × List UInt8 × Unit) × Unit) × Unit) × Unit) => x.1.1 = l).2
  r) : XConOK prog G n_impl_copyFiles con_impl_copyFiles :=
  conX_ok env mixed (fn := f114) (c := codeOf f114) (by kernel_rfl) (by kernel_rfl) H_impl_copyFiles (by kernel_rfl) hne fun ⟨l, ⟨⟩⟩ hin hp =>
  Eq.mpr ((by kernel_rfl : awp Θ Γ_impl_copyFiles H_impl_copyFiles (codeOf f114) (endsX Θ f114.results.toList sh_impl_copyFiles rsh_impl_copyFiles (F_impl_copyFiles (l, ())).2) (entryX f114.ntmps (xsVals sh_impl_copyFiles (l, ()))) = VC_impl_copyFiles l fun (r : (List (Int × Int × Bool × Int × List (List UInt8 × Int × Int × List UInt8 × Unit) × Unit) × Unit) × Unit) => (l.length ≤ (1000 : Nat) ∧ ∀ (f : Int × Int × Bool × Int × List (List UInt8 × Int × Int × List UInt8 × Unit) × Unit), f ∈ l → Sp.smallF f,
  fun (x : (List (Int × Int × Bool × Int × List (List UInt8 × Int × Int × List UInt8 × Unit) × Unit) × Unit) × Unit) => x.1.1 = l).2
  r)) (h l hin hp)

def H_impl_copyStore : Hints := Go.Fw.hints [5, 8] [] [] [] []
def VC_impl_copyStore (s0 : List (List UInt8 × Int × Unit)) (s1 : List (Int × Int × Bool × Int × List (List UInt8 × Int × Int × List UInt8 × Unit) × Unit)) (s2 : Int) (K : ((List (List UInt8 × Int × Unit) × List (Int × Int × Bool × Int × List (List UInt8 × Int × Int × List UInt8 × Unit) × Unit) × Int × Unit) × Unit) × Unit → Prop) : Prop :=
  s0.length ≤ (1000 : Nat) ∧
  (s1.length ≤ (1000 : Nat) ∧ ∀ (f : Int × Int × Bool × Int × List (List UInt8 × Int × Int × List UInt8 × Unit) × Unit), f ∈ s1 → Sp.smallF f) ∧
  ∀ (r0 : (List (Int × Int × Bool × Int × List (List UInt8 × Int × Int × List UInt8 × Unit) × Unit) × Unit) × Unit), r0.1.1 = s1 → K (((s0, r0.1.1, s2, ()), ()), ())
theorem wk_impl_copyStore (env : EnvB prog G Θ Γ_impl_copyStore) (hne : ∀ x, (F_impl_copyStore x).1 → ∃ t, (F_impl_copyStore x).2 t) (h : ∀ (s0 : List (List UInt8 × Int × Unit)) (s1 : List (Int × Int × Bool × Int × List (List UInt8 × Int × Int × List UInt8 × Unit) × Unit)) (s2 : Int), xsInR sh_impl_copyStore ((s0, s1, s2, ()), ()) → (Sp.smallS (s0, s1, s2, ())) → VC_impl_copyStore s0 s1 s2 fun (r : ((List (List UInt8 × Int × Unit) × List (Int × Int × Bool × Int × List (List UInt8 × Int × Int × List UInt8 × Unit) × Unit) × Int × Unit) × Unit) × Unit) => (Sp.smallS (s0, s1, s2, ()),
  fun (x : ((List (List UInt8 × Int × Unit) × List (Int × Int × Bool × Int × List (List UInt8 × Int × Int × List UInt8 × Unit) × Unit) × Int × Unit) × Unit) × Unit) =>
  (x.1.1.1, x.1.1.2.1, x.1.1.2.2.1, ()) = (s0, s1, s2, ())).2
  r) : XConOK prog G n_impl_copyStore con_impl_copyStore :=
  conX_ok env mixed (fn := f82) (c := codeOf f82) (by kernel_rfl) (by kernel_rfl) H_impl_copyStore (by kernel_rfl) hne fun ⟨⟨s0, s1, s2, ⟨⟩⟩, ⟨⟩⟩ hin hp =>
  Eq.mpr ((by kernel_rfl : awp Θ Γ_impl_copyStore H_impl_copyStore (codeOf f82) (endsX Θ f82.results.toList sh_impl_copyStore rsh_impl_copyStore (F_impl_copyStore ((s0, s1, s2, ()), ())).2) (entryX f82.ntmps (xsVals sh_impl_copyStore ((s0, s1, s2, ()), ()))) = VC_impl_copyStore s0 s1 s2 fun (r : ((List (List UInt8 × Int × Unit) × List (Int × Int × Bool × Int × List (List UInt8 × Int × Int × List UInt8 × Unit) × Unit) × Int × Unit) × Unit) × Unit) => (Sp.smallS (s0, s1, s2, ()),
  fun (x : ((List (List UInt8 × Int × Unit) × List (Int × Int × Bool × Int × List (List UInt8 × Int × Int × List UInt8 × Unit) × Unit) × Int × Unit) × Unit) × Unit) =>
  (x.1.1.1, x.1.1.2.1, x.1.1.2.2.1, ()) = (s0, s1, s2, ())).2
  r)) (h s0 s1 s2 hin hp)

def H_impl_CreateFile : Hints := Go.Fw.hints [9, 9, 11, 16, 28, 35, 3] [] [] [256] []
def VC_impl_CreateFile (s0 : List (List UInt8 × Int × Unit)) (s1 : List (Int × Int × Bool × Int × List (List UInt8 × Int × Int × List UInt8 × Unit) × Unit)) (s2 : Int) (f0 : Int) (f1 : Int) (f2 : Bool) (f3 : Int) (f4 : List (List UInt8 × Int × Int × List UInt8 × Unit)) (K : ((List (List UInt8 × Int × Unit) × List (Int × Int × Bool × Int × List (List UInt8 × Int × Int × List UInt8 × Unit) × Unit) × Int × Unit) × Int × Bool × Unit) × Unit → Prop) : Prop :=
  Sp.smallS (s0, s1, s2, ()) ∧
  ∀ (r0 : ((List (List UInt8 × Int × Unit) × List (Int × Int × Bool × Int × List (List UInt8 × Int × Int × List UInt8 × Unit) × Unit) × Int × Unit) × Unit) × Unit),
  (r0.1.1.1, r0.1.1.2.1, r0.1.1.2.2.1, ()) = (s0, s1, s2, ()) →
  Sp.smallF (f0, f1, f2, f3, f4, ()) ∧
  True ∧
 let r1 := Sp.okStore (s0, s1, s2, ());
  bif !r1 then K (((r0.1.1.1, r0.1.1.2.1, r0.1.1.2.2.1, ()), (0 : Int), false, ()), ())
  else
  bif decide ((↑s1.length : Int) ≥ (12 : Int)) then K (((r0.1.1.1, r0.1.1.2.1, r0.1.1.2.2.1, ()), (0 : Int), false, ()), ())
  else
  True ∧
 let r2 := Sp.okFile s0 (s2, f1, f2, f3, f4, ());
  bif !r2 then K (((r0.1.1.1, r0.1.1.2.1, r0.1.1.2.2.1, ()), (0 : Int), false, ()), ())
  else
  List.length r0.1.1.2.1 + [(s2, f1, f2, f3, f4, ())].length ≤ big ∧
  K (((r0.1.1.1, r0.1.1.2.1 ++ [(s2, f1, f2, f3, f4, ())], IntKind.i64.wrap (r0.1.1.2.2.1 + (1 : Int)), ()), s2, true, ()), ())
theorem wk_impl_CreateFile (env : EnvB prog G Θ Γ_impl_CreateFile) (hne : ∀ x, (F_impl_CreateFile x).1 → ∃ t, (F_impl_CreateFile x).2 t) (h : ∀ (s0 : List (List UInt8 × Int × Unit)) (s1 : List (Int × Int × Bool × Int × List (List UInt8 × Int × Int × List UInt8 × Unit) × Unit)) (s2 : Int) (f0 : Int) (f1 : Int) (f2 : Bool) (f3 : Int) (f4 : List (List UInt8 × Int × Int × List UInt8 × Unit)), xsInR sh_impl_CreateFile ((s0, s1, s2, ()), (f0, f1, f2, f3, f4, ()), ()) → (Sp.smallS (s0, s1, s2, ()) ∧ Sp.smallF (f0, f1, f2, f3, f4, ())) → VC_impl_CreateFile s0 s1 s2 f0 f1 f2 f3 f4 fun (r : ((List (List UInt8 × Int × Unit) × List (Int × Int × Bool × Int × List (List UInt8 × Int × Int × List UInt8 × Unit) × Unit) × Int × Unit) × Int × Bool × Unit) × Unit) => (Sp.smallS (s0, s1, s2, ()) ∧ Sp.smallF (f0, f1, f2, f3, f4, ()),
  fun
  (x :
  ((List (List UInt8 × Int × Unit) × List (Int × Int × Bool × Int × List (List UInt8 × Int × Int × List UInt8 × Unit) × Unit) × Int × Unit) × Int × Bool × Unit) × Unit) =>
  x.1.1.1 = (Sp.createFile (s0, s1, s2, ()) (f0, f1, f2, f3, f4, ())).1.1 ∧
  x.1.1.2.1 = (Sp.createFile (s0, s1, s2, ()) (f0, f1, f2, f3, f4, ())).1.2.1 ∧
  x.1.1.2.2.1 = (Sp.createFile (s0, s1, s2, ()) (f0, f1, f2, f3, f4, ())).1.2.2.1 ∧
  x.1.2.1 = (Sp.createFile (s0, s1, s2, ()) (f0, f1, f2, f3, f4, ())).2.1 ∧ x.1.2.2.1 = (Sp.createFile (s0, s1, s2, ()) (f0, f1, f2, f3, f4, ())).2.2).2
  r) : XConOK prog G n_impl_CreateFile con_impl_CreateFile :=
  conX_ok env mixed (fn := f33) (c := codeOf f33) (by kernel_rfl) (by kernel_rfl) H_impl_CreateFile (by kernel_rfl) hne fun ⟨⟨s0, s1, s2, ⟨⟩⟩, ⟨f0, f1, f2, f3, f4, ⟨⟩⟩, ⟨⟩⟩ hin hp =>
  Eq.mpr ((by kernel_rfl : awp Θ Γ_impl_CreateFile H_impl_CreateFile (codeOf f33) (endsX Θ f33.results.toList sh_impl_CreateFile rsh_impl_CreateFile (F_impl_CreateFile ((s0, s1, s2, ()), (f0, f1, f2, f3, f4, ()), ())).2) (entryX f33.ntmps (xsVals sh_impl_CreateFile ((s0, s1, s2, ()), (f0, f1, f2, f3, f4, ()), ()))) = VC_impl_CreateFile s0 s1 s2 f0 f1 f2 f3 f4 fun (r : ((List (List UInt8 × Int × Unit) × List (Int × Int × Bool × Int × List (List UInt8 × Int × Int × List UInt8 × Unit) × Unit) × Int × Unit) × Int × Bool × Unit) × Unit) => (Sp.smallS (s0, s1, s2, ()) ∧ Sp.smallF (f0, f1, f2, f3, f4, ()),
  fun
  (x :
  ((List (List UInt8 × Int × Unit) × List (Int × Int × Bool × Int × List (List UInt8 × Int × Int × List UInt8 × Unit) × Unit) × Int × Unit) × Int × Bool × Unit) × Unit) =>
  x.1.1.1 = (Sp.createFile (s0, s1, s2, ()) (f0, f1, f2, f3, f4, ())).1.1 ∧
  x.1.1.2.1 = (Sp.createFile (s0, s1, s2, ()) (f0, f1, f2, f3, f4, ())).1.2.1 ∧
  x.1.1.2.2.1 = (Sp.createFile (s0, s1, s2, ()) (f0, f1, f2, f3, f4, ())).1.2.2.1 ∧
  x.1.2.1 = (Sp.createFile (s0, s1, s2, ()) (f0, f1, f2, f3, f4, ())).2.1 ∧ x.1.2.2.1 = (Sp.createFile (s0, s1, s2, ()) (f0, f1, f2, f3, f4, ())).2.2).2
  r)) (h s0 s1 s2 f0 f1 f2 f3 f4 hin hp)

def H_impl_ReplaceFile : Hints := Go.Fw.hints [9, 33, 9, 13, 15, 25, 33] [] [] [] []
def VC_impl_ReplaceFile (s0 : List (List UInt8 × Int × Unit)) (s1 : List (Int × Int × Bool × Int × List (List UInt8 × Int × Int × List UInt8 × Unit) × Unit)) (s2 : Int) (f0 : Int) (f1 : Int) (f2 : Bool) (f3 : Int) (f4 : List (List UInt8 × Int × Int × List UInt8 × Unit)) (K : ((List (List UInt8 × Int × Unit) × List (Int × Int × Bool × Int × List (List UInt8 × Int × Int × List UInt8 × Unit) × Unit) × Int × Unit) × Bool × Unit) × Unit → Prop) : Prop :=
  Sp.smallS (s0, s1, s2, ()) ∧
  ∀ (r0 : ((List (List UInt8 × Int × Unit) × List (Int × Int × Bool × Int × List (List UInt8 × Int × Int × List UInt8 × Unit) × Unit) × Int × Unit) × Unit) × Unit),
  (r0.1.1.1, r0.1.1.2.1, r0.1.1.2.2.1, ()) = (s0, s1, s2, ()) →
  True ∧
  True ∧
 let r1 := Sp.okStore (s0, s1, s2, ());
  bif !r1 then K (((r0.1.1.1, r0.1.1.2.1, r0.1.1.2.2.1, ()), false, ()), ())
  else
  bif decide (Sp.place s1 f0 < (0 : Int)) then K (((r0.1.1.1, r0.1.1.2.1, r0.1.1.2.2.1, ()), false, ()), ())
  else
  True ∧
 let r2 := Sp.okFile s0 (f0, f1, f2, f3, f4, ());
  bif !r2 then K (((r0.1.1.1, r0.1.1.2.1, r0.1.1.2.2.1, ()), false, ()), ())
  else
  Sp.smallF (f0, f1, f2, f3, f4, ()) ∧
  ((0 : Int) ≤ Sp.place s1 f0 ∧ Sp.place s1 f0 < (↑(List.length r0.1.1.2.1) : Int)) ∧
  (Sp.place s1 f0).toNat < List.length r0.1.1.2.1 ∧
  K (((r0.1.1.1, List.set r0.1.1.2.1 (Sp.place s1 f0).toNat (f0, f1, f2, f3, f4, ()), r0.1.1.2.2.1, ()), true, ()), ())
theorem wk_impl_ReplaceFile (env : EnvB prog G Θ Γ_impl_ReplaceFile) (hne : ∀ x, (F_impl_ReplaceFile x).1 → ∃ t, (F_impl_ReplaceFile x).2 t) (h : ∀ (s0 : List (List UInt8 × Int × Unit)) (s1 : List (Int × Int × Bool × Int × List (List UInt8 × Int × Int × List UInt8 × Unit) × Unit)) (s2 : Int) (f0 : Int) (f1 : Int) (f2 : Bool) (f3 : Int) (f4 : List (List UInt8 × Int × Int × List UInt8 × Unit)), xsInR sh_impl_ReplaceFile ((s0, s1, s2, ()), (f0, f1, f2, f3, f4, ()), ()) → (Sp.smallS (s0, s1, s2, ()) ∧ Sp.smallF (f0, f1, f2, f3, f4, ())) → VC_impl_ReplaceFile s0 s1 s2 f0 f1 f2 f3 f4 fun (r : ((List (List UInt8 × Int × Unit) × List (Int × Int × Bool × Int × List (List UInt8 × Int × Int × List UInt8 × Unit) × Unit) × Int × Unit) × Bool × Unit) × Unit) => (Sp.smallS (s0, s1, s2, ()) ∧ Sp.smallF (f0, f1, f2, f3, f4, ()),
  fun (x : ((List (List UInt8 × Int × Unit) × List (Int × Int × Bool × Int × List (List UInt8 × Int × Int × List UInt8 × Unit) × Unit) × Int × Unit) × Bool × Unit) × Unit) =>
  x.1.1.1 = (Sp.replaceFile (s0, s1, s2, ()) (f0, f1, f2, f3, f4, ())).1.1 ∧
  x.1.1.2.1 = (Sp.replaceFile (s0, s1, s2, ()) (f0, f1, f2, f3, f4, ())).1.2.1 ∧
  x.1.1.2.2.1 = (Sp.replaceFile (s0, s1, s2, ()) (f0, f1, f2, f3, f4, ())).1.2.2.1 ∧
  x.1.2.1 = (Sp.replaceFile (s0, s1, s2, ()) (f0, f1, f2, f3, f4, ())).2).2
  r) : XConOK prog G n_impl_ReplaceFile con_impl_ReplaceFile :=
  conX_ok env mixed (fn := f36) (c := codeOf f36) (by kernel_rfl) (by kernel_rfl) H_impl_ReplaceFile (by kernel_rfl) hne fun ⟨⟨s0, s1, s2, ⟨⟩⟩, ⟨f0, f1, f2, f3, f4, ⟨⟩⟩, ⟨⟩⟩ hin hp =>
  Eq.mpr ((by kernel_rfl : awp Θ Γ_impl_ReplaceFile H_impl_ReplaceFile (codeOf f36) (endsX Θ f36.results.toList sh_impl_ReplaceFile rsh_impl_ReplaceFile (F_impl_ReplaceFile ((s0, s1, s2, ()), (f0, f1, f2, f3, f4, ()), ())).2) (entryX f36.ntmps (xsVals sh_impl_ReplaceFile ((s0, s1, s2, ()), (f0, f1, f2, f3, f4, ()), ()))) = VC_impl_ReplaceFile s0 s1 s2 f0 f1 f2 f3 f4 fun (r : ((List (List UInt8 × Int × Unit) × List (Int × Int × Bool × Int × List (List UInt8 × Int × Int × List UInt8 × Unit) × Unit) × Int × Unit) × Bool × Unit) × Unit) => (Sp.smallS (s0, s1, s2, ()) ∧ Sp.smallF (f0, f1, f2, f3, f4, ()),
  fun (x : ((List (List UInt8 × Int × Unit) × List (Int × Int × Bool × Int × List (List UInt8 × Int × Int × List UInt8 × Unit) × Unit) × Int × Unit) × Bool × Unit) × Unit) =>
  x.1.1.1 = (Sp.replaceFile (s0, s1, s2, ()) (f0, f1, f2, f3, f4, ())).1.1 ∧
  x.1.1.2.1 = (Sp.replaceFile (s0, s1, s2, ()) (f0, f1, f2, f3, f4, ())).1.2.1 ∧
  x.1.1.2.2.1 = (Sp.replaceFile (s0, s1, s2, ()) (f0, f1, f2, f3, f4, ())).1.2.2.1 ∧
  x.1.2.1 = (Sp.replaceFile (s0, s1, s2, ()) (f0, f1, f2, f3, f4, ())).2).2
  r)) (h s0 s1 s2 f0 f1 f2 f3 f4 hin hp)

def H_impl_DeleteFile : Hints := Go.Fw.hints [9, 12, 14, 26] [] [] [] []
def VC_impl_DeleteFile (s0 : List (List UInt8 × Int × Unit)) (s1 : List (Int × Int × Bool × Int × List (List UInt8 × Int × Int × List UInt8 × Unit) × Unit)) (s2 : Int) (id : Int) (K : ((List (List UInt8 × Int × Unit) × List (Int × Int × Bool × Int × List (List UInt8 × Int × Int × List UInt8 × Unit) × Unit) × Int × Unit) × Bool × Unit) × Unit → Prop) : Prop :=
  Sp.smallS (s0, s1, s2, ()) ∧
  ∀ (r0 : ((List (List UInt8 × Int × Unit) × List (Int × Int × Bool × Int × List (List UInt8 × Int × Int × List UInt8 × Unit) × Unit) × Int × Unit) × Unit) × Unit),
  (r0.1.1.1, r0.1.1.2.1, r0.1.1.2.2.1, ()) = (s0, s1, s2, ()) →
  True ∧
  True ∧
 let r1 := Sp.okStore (s0, s1, s2, ());
  bif !r1 then K (((r0.1.1.1, r0.1.1.2.1, r0.1.1.2.2.1, ()), false, ()), ())
  else
  bif decide (Sp.place s1 id < (0 : Int)) then K (((r0.1.1.1, r0.1.1.2.1, r0.1.1.2.2.1, ()), false, ()), ())
  else
  ((0 : Int) ≤ Sp.place s1 id ∧
  Sp.place s1 id ≤ IntKind.i64.wrap (Sp.place s1 id + (1 : Int)) ∧ IntKind.i64.wrap (Sp.place s1 id + (1 : Int)) ≤ (↑(List.length r0.1.1.2.1) : Int)) ∧
  ∀ (r2 : (List (Int × Int × Bool × Int × List (List UInt8 × Int × Int × List UInt8 × Unit) × Unit) × Unit) × Unit),
  r2.1.1 = List.take (Sp.place s1 id).toNat r0.1.1.2.1 ++ List.drop (IntKind.i64.wrap (Sp.place s1 id + (1 : Int))).toNat r0.1.1.2.1 →
  K (((r0.1.1.1, r2.1.1, r0.1.1.2.2.1, ()), true, ()), ())
theorem wk_impl_DeleteFile (env : EnvB prog G Θ Γ_impl_DeleteFile) (hne : ∀ x, (F_impl_DeleteFile x).1 → ∃ t, (F_impl_DeleteFile x).2 t) (h : ∀ (s0 : List (List UInt8 × Int × Unit)) (s1 : List (Int × Int × Bool × Int × List (List UInt8 × Int × Int × List UInt8 × Unit) × Unit)) (s2 : Int) (id : Int), xsInR sh_impl_DeleteFile ((s0, s1, s2, ()), id, ()) → (Sp.smallS (s0, s1, s2, ())) → VC_impl_DeleteFile s0 s1 s2 id fun (r : ((List (List UInt8 × Int × Unit) × List (Int × Int × Bool × Int × List (List UInt8 × Int × Int × List UInt8 × Unit) × Unit) × Int × Unit) × Bool × Unit) × Unit) => (Sp.smallS (s0, s1, s2, ()),
  fun (x : ((List (List UInt8 × Int × Unit) × List (Int × Int × Bool × Int × List (List UInt8 × Int × Int × List UInt8 × Unit) × Unit) × Int × Unit) × Bool × Unit) × Unit) =>
  x.1.1.1 = (Sp.deleteFile (s0, s1, s2, ()) id).1.1 ∧
  x.1.1.2.1 = (Sp.deleteFile (s0, s1, s2, ()) id).1.2.1 ∧
  x.1.1.2.2.1 = (Sp.deleteFile (s0, s1, s2, ()) id).1.2.2.1 ∧ x.1.2.1 = (Sp.deleteFile (s0, s1, s2, ()) id).2).2
  r) : XConOK prog G n_impl_DeleteFile con_impl_DeleteFile :=
  conX_ok env mixed (fn := f39) (c := codeOf f39) (by kernel_rfl) (by kernel_rfl) H_impl_DeleteFile (by kernel_rfl) hne fun ⟨⟨s0, s1, s2, ⟨⟩⟩, id, ⟨⟩⟩ hin hp =>
  Eq.mpr ((by kernel_rfl : awp Θ Γ_impl_DeleteFile H_impl_DeleteFile (codeOf f39) (endsX Θ f39.results.toList sh_impl_DeleteFile rsh_impl_DeleteFile (F_impl_DeleteFile ((s0, s1, s2, ()), id, ())).2) (entryX f39.ntmps (xsVals sh_impl_DeleteFile ((s0, s1, s2, ()), id, ()))) = VC_impl_DeleteFile s0 s1 s2 id fun (r : ((List (List UInt8 × Int × Unit) × List (Int × Int × Bool × Int × List (List UInt8 × Int × Int × List UInt8 × Unit) × Unit) × Int × Unit) × Bool × Unit) × Unit) => (Sp.smallS (s0, s1, s2, ()),
  fun (x : ((List (List UInt8 × Int × Unit) × List (Int × Int × Bool × Int × List (List UInt8 × Int × Int × List UInt8 × Unit) × Unit) × Int × Unit) × Bool × Unit) × Unit) =>
  x.1.1.1 = (Sp.deleteFile (s0, s1, s2, ()) id).1.1 ∧
  x.1.1.2.1 = (Sp.deleteFile (s0, s1, s2, ()) id).1.2.1 ∧
  x.1.1.2.2.1 = (Sp.deleteFile (s0, s1, s2, ()) id).1.2.2.1 ∧ x.1.2.1 = (Sp.deleteFile (s0, s1, s2, ()) id).2).2
  r)) (h s0 s1 s2 id hin hp)

def H_impl_NewStore : Hints := Go.Fw.hints [] [] [] [] []
def VC_impl_NewStore (s : List (List UInt8 × Int × Unit)) (K : (List (List UInt8 × Int × Unit) × List (Int × Int × Bool × Int × List (List UInt8 × Int × Int × List UInt8 × Unit) × Unit) × Int × Unit) × Unit → Prop) : Prop :=
  s.length ≤ (1000 : Nat) ∧ K ((s, [], (1 : Int), ()), ())
theorem wk_impl_NewStore (env : EnvB prog G Θ Γ_impl_NewStore) (h : ∀ (s : List (List UInt8 × Int × Unit)), psInR sh_impl_NewStore (s, ()) → (s.length ≤ (1000 : Nat)) → VC_impl_NewStore s fun r => r = (((s, [], (1 : Int), ()), ()))) : ConOK prog G n_impl_NewStore con_impl_NewStore :=
  conR_ok env mixed (fn := f54) (c := codeOf f54) (by kernel_rfl) (by kernel_rfl) H_impl_NewStore (by kernel_rfl) fun ⟨s, ⟨⟩⟩ hin hp =>
  Eq.mpr ((by kernel_rfl : awp Θ Γ_impl_NewStore H_impl_NewStore (codeOf f54) (endsV Θ f54.results.toList rsh_impl_NewStore fun r => r = (F_impl_NewStore (s, ())).2) (entry f54.ntmps (psVals sh_impl_NewStore (s, ()))) = VC_impl_NewStore s fun r => r = (((s, [], (1 : Int), ()), ())))) (h s hin hp)

def H_impl_FileIDs : Hints := Go.Fw.hints [6] [(3, ⟨[], ⟨[(8, .one (.sl 39 (.cons (.int .i64) (.cons (.int .i64) (.cons .bool (.cons (.int .i64) (.cons (.sl 116 (.cons .str (.cons (.int .i64) (.cons (.int .i64) (.cons .str .nil))))) .nil))))) false)), (9, .one (.int .i64))], []⟩, ⟨[(3, .one (.ref 385)), (10, .one (.int .i64))], [(385, .arr 3 (.cons (.int .i64) .nil) true)]⟩⟩)] [] [] []
def VC_impl_FileIDs (s0 : List (List UInt8 × Int × Unit)) (s1 : List (Int × Int × Bool × Int × List (List UInt8 × Int × Int × List UInt8 × Unit) × Unit)) (s2 : Int) (K : List (Int × Unit) × Unit → Prop) : Prop :=
 let s0 := ((s1, (↑s1.length : Int), ()), ());
  ∃ (I : (Unit × Int × Unit) × List (Int × Unit) × Unit → Prop),
  ∃ (μ : (Unit × Int × Unit) × List (Int × Unit) × Unit → Nat),
  I (((), (0 : Int), ()), [], ()) ∧
  ∀ (y1 : (Unit × Int × Unit) × List (Int × Unit) × Unit),
  I y1 →
  bif decide (y1.1.2.1 < (↑s1.length : Int)) then
  ((0 : Int) ≤ y1.1.2.1 ∧ y1.1.2.1 < (↑s1.length : Int)) ∧
  List.length y1.2.1 + [((s1.getD (Int.toNat y1.1.2.1) ((0 : Int), (0 : Int), false, (0 : Int), [], ())).1, ())].length ≤ big ∧
  s0 = s0 ∧
  I
  (((), IntKind.i64.wrap (y1.1.2.1 + (1 : Int)), ()),
  y1.2.1 ++ [((s1.getD (Int.toNat y1.1.2.1) ((0 : Int), (0 : Int), false, (0 : Int), [], ())).1, ())], ()) ∧
  μ
  (((), IntKind.i64.wrap (y1.1.2.1 + (1 : Int)), ()),
  y1.2.1 ++ [((s1.getD (Int.toNat y1.1.2.1) ((0 : Int), (0 : Int), false, (0 : Int), [], ())).1, ())], ()) <
  μ y1
  else K (y1.2.1, ())
theorem wk_impl_FileIDs (env : EnvB prog G Θ Γ_impl_FileIDs) (h : ∀ (s0 : List (List UInt8 × Int × Unit)) (s1 : List (Int × Int × Bool × Int × List (List UInt8 × Int × Int × List UInt8 × Unit) × Unit)) (s2 : Int), psInR sh_impl_FileIDs ((s0, s1, s2, ()), ()) → (s1.length ≤ (1000 : Nat)) → VC_impl_FileIDs s0 s1 s2 fun r => r = ((Sp.fileIDs s1, ()))) : ConOK prog G n_impl_FileIDs con_impl_FileIDs :=
  conR_ok env mixed (fn := f51) (c := codeOf f51) (by kernel_rfl) (by kernel_rfl) H_impl_FileIDs (by kernel_rfl) fun ⟨⟨s0, s1, s2, ⟨⟩⟩, ⟨⟩⟩ hin hp =>
  Eq.mpr ((by kernel_rfl : awp Θ Γ_impl_FileIDs H_impl_FileIDs (codeOf f51) (endsV Θ f51.results.toList rsh_impl_FileIDs fun r => r = (F_impl_FileIDs ((s0, s1, s2, ()), ())).2) (entry f51.ntmps (psVals sh_impl_FileIDs ((s0, s1, s2, ()), ()))) = VC_impl_FileIDs s0 s1 s2 fun r => r = ((Sp.fileIDs s1, ())))) (h s0 s1 s2 hin hp)

def H_spec_FileIDs : Hints := Go.Fw.hints [5] [(3, ⟨[], ⟨[(1, .kptr [.sl 26 (.cons .str (.cons (.int .i64) .nil)) false, .sl 39 (.cons (.int .i64) (.cons (.int .i64) (.cons .bool (.cons (.int .i64) (.cons (.sl 116 (.cons .str (.cons (.int .i64) (.cons (.int .i64) (.cons .str .nil))))) .nil))))) false, .int .i64] 0)], []⟩, ⟨[(3, .one (.ref 321)), (4, .one (.int .i64))], [(321, .arr 3 (.cons (.int .i64) .nil) true)]⟩⟩)] [] [] []
def VC_spec_FileIDs (s0 : List (List UInt8 × Int × Unit)) (s1 : List (Int × Int × Bool × Int × List (List UInt8 × Int × Int × List UInt8 × Unit) × Unit)) (s2 : Int) (K : List (Int × Unit) × Unit → Prop) : Prop :=
 let s0 := (((s0, s1, s2, ()), ()), ());
  ∃ (I : (Unit × Int × Unit) × List (Int × Unit) × Unit → Prop),
  ∃ (μ : (Unit × Int × Unit) × List (Int × Unit) × Unit → Nat),
  I (((), (0 : Int), ()), [], ()) ∧
  ∀ (y1 : (Unit × Int × Unit) × List (Int × Unit) × Unit),
  I y1 →
  bif decide (y1.1.2.1 < (↑s1.length : Int)) then
  ((0 : Int) ≤ y1.1.2.1 ∧ y1.1.2.1 < (↑s1.length : Int)) ∧
  List.length y1.2.1 + [((s1.getD (Int.toNat y1.1.2.1) ((0 : Int), (0 : Int), false, (0 : Int), [], ())).1, ())].length ≤ big ∧
  s0 = s0 ∧
  I
  (((), IntKind.i64.wrap (y1.1.2.1 + (1 : Int)), ()),
  y1.2.1 ++ [((s1.getD (Int.toNat y1.1.2.1) ((0 : Int), (0 : Int), false, (0 : Int), [], ())).1, ())], ()) ∧
  μ
  (((), IntKind.i64.wrap (y1.1.2.1 + (1 : Int)), ()),
  y1.2.1 ++ [((s1.getD (Int.toNat y1.1.2.1) ((0 : Int), (0 : Int), false, (0 : Int), [], ())).1, ())], ()) <
  μ y1
  else K (y1.2.1, ())
theorem wk_spec_FileIDs (env : EnvB prog G Θ Γ_spec_FileIDs) (h : ∀ (s0 : List (List UInt8 × Int × Unit)) (s1 : List (Int × Int × Bool × Int × List (List UInt8 × Int × Int × List UInt8 × Unit) × Unit)) (s2 : Int), psInR sh_spec_FileIDs ((s0, s1, s2, ()), ()) → (s1.length ≤ (1000 : Nat)) → VC_spec_FileIDs s0 s1 s2 fun r => r = ((Sp.fileIDs s1, ()))) : ConOK prog G n_spec_FileIDs con_spec_FileIDs :=
  conR_ok env mixed (fn := f52) (c := codeOf f52) (by kernel_rfl) (by kernel_rfl) H_spec_FileIDs (by kernel_rfl) fun ⟨⟨s0, s1, s2, ⟨⟩⟩, ⟨⟩⟩ hin hp =>
  Eq.mpr ((by kernel_rfl : awp Θ Γ_spec_FileIDs H_spec_FileIDs (codeOf f52) (endsV Θ f52.results.toList rsh_spec_FileIDs fun r => r = (F_spec_FileIDs ((s0, s1, s2, ()), ())).2) (entry f52.ntmps (psVals sh_spec_FileIDs ((s0, s1, s2, ()), ()))) = VC_spec_FileIDs s0 s1 s2 fun r => r = ((Sp.fileIDs s1, ())))) (h s0 s1 s2 hin hp)

def H_impl_EqualStores : Hints := Go.Fw.hints [] [] [] [] []
def VC_impl_EqualStores (a0 : List (List UInt8 × Int × Unit)) (a1 : List (Int × Int × Bool × Int × List (List UInt8 × Int × Int × List UInt8 × Unit) × Unit)) (a2 : Int) (b0 : List (List UInt8 × Int × Unit)) (b1 : List (Int × Int × Bool × Int × List (List UInt8 × Int × Int × List UInt8 × Unit) × Unit)) (b2 : Int) (K : Bool × Unit → Prop) : Prop :=
  True ∧
 let r0 := decide (a0 = b0);
  bif r0 then
  True ∧
 let r1 := decide (a1 = b1);
  bif r1 then K (a2 == b2, ()) else K (false, ())
  else K (false, ())
theorem wk_impl_EqualStores (env : EnvB prog G Θ Γ_impl_EqualStores) (h : ∀ (a0 : List (List UInt8 × Int × Unit)) (a1 : List (Int × Int × Bool × Int × List (List UInt8 × Int × Int × List UInt8 × Unit) × Unit)) (a2 : Int) (b0 : List (List UInt8 × Int × Unit)) (b1 : List (Int × Int × Bool × Int × List (List UInt8 × Int × Int × List UInt8 × Unit) × Unit)) (b2 : Int), psInR sh_impl_EqualStores ((a0, a1, a2, ()), (b0, b1, b2, ()), ()) → (True) → VC_impl_EqualStores a0 a1 a2 b0 b1 b2 fun r => r = ((decide ((a0, a1, a2, ()) = (b0, b1, b2, ())), ()))) : ConOK prog G n_impl_EqualStores con_impl_EqualStores :=
  conR_ok env mixed (fn := f53) (c := codeOf f53) (by kernel_rfl) (by kernel_rfl) H_impl_EqualStores (by kernel_rfl) fun ⟨⟨a0, a1, a2, ⟨⟩⟩, ⟨b0, b1, b2, ⟨⟩⟩, ⟨⟩⟩ hin hp =>
  Eq.mpr ((by kernel_rfl : awp Θ Γ_impl_EqualStores H_impl_EqualStores (codeOf f53) (endsV Θ f53.results.toList rsh_impl_EqualStores fun r => r = (F_impl_EqualStores ((a0, a1, a2, ()), (b0, b1, b2, ()), ())).2) (entry f53.ntmps (psVals sh_impl_EqualStores ((a0, a1, a2, ()), (b0, b1, b2, ()), ()))) = VC_impl_EqualStores a0 a1 a2 b0 b1 b2 fun r => r = ((decide ((a0, a1, a2, ()) = (b0, b1, b2, ())), ())))) (h a0 a1 a2 b0 b1 b2 hin hp)

def H_spec_l05Id : Hints := Go.Fw.hints [] [] [] [] []
def VC_spec_l05Id (c0 : List (Int × Unit)) (c1 : Int) (c2 : Int) (K : (Int × Unit) × (List (Int × Unit) × Int × Int × Unit) × Unit → Prop) : Prop :=
  ((0 : Int) ≤ c1 ∧
  [((1 : Int), ()), ((2 : Int), ()), ((3 : Int), ()), ((4 : Int), ()), ((5 : Int), ()), ((2 : Int), ()), ((3 : Int), ()), ((9 : Int), ()), ((0 : Int), ()), ((-1 : Int), ()),
  ((9223372036854775807 : Int), ())] ≠
  []) ∧
  ∀ (r0 : (Int × Unit) × (List (Int × Unit) × Int × Int × Unit) × Unit),
  (0 : Int) ≤ r0.2.1.2.1 ∧
  (r0.1.1, ()) ∈
  [((1 : Int), ()), ((2 : Int), ()), ((3 : Int), ()), ((4 : Int), ()), ((5 : Int), ()), ((2 : Int), ()), ((3 : Int), ()), ((9 : Int), ()), ((0 : Int), ()),
  ((-1 : Int), ()), ((9223372036854775807 : Int), ())] →
  K ((r0.1.1, ()), (r0.2.1.1, r0.2.1.2.1, r0.2.1.2.2.1, ()), ())
theorem wk_spec_l05Id (env : EnvB prog G Θ Γ_spec_l05Id) (hne : ∀ x, (F_spec_l05Id x).1 → ∃ t, (F_spec_l05Id x).2 t) (h : ∀ (c0 : List (Int × Unit)) (c1 : Int) (c2 : Int), xsInR sh_spec_l05Id ((c0, c1, c2, ()), ()) → ((0 : Int) ≤ c1) → VC_spec_l05Id c0 c1 c2 fun (r : (Int × Unit) × (List (Int × Unit) × Int × Int × Unit) × Unit) => ((0 : Int) ≤ c1, fun (x : (Int × Unit) × (List (Int × Unit) × Int × Int × Unit) × Unit) => (x.2.1.2.1 - (0 : Int)).NonNeg).2 r) : XConOK prog G n_spec_l05Id con_spec_l05Id :=
  conX_ok env mixed (fn := f116) (c := codeOf f116) (by kernel_rfl) (by kernel_rfl) H_spec_l05Id (by kernel_rfl) hne fun ⟨⟨c0, c1, c2, ⟨⟩⟩, ⟨⟩⟩ hin hp =>
  Eq.mpr ((by kernel_rfl : awp Θ Γ_spec_l05Id H_spec_l05Id (codeOf f116) (endsX Θ f116.results.toList sh_spec_l05Id rsh_spec_l05Id (F_spec_l05Id ((c0, c1, c2, ()), ())).2) (entryX f116.ntmps (xsVals sh_spec_l05Id ((c0, c1, c2, ()), ()))) = VC_spec_l05Id c0 c1 c2 fun (r : (Int × Unit) × (List (Int × Unit) × Int × Int × Unit) × Unit) => ((0 : Int) ≤ c1, fun (x : (Int × Unit) × (List (Int × Unit) × Int × Int × Unit) × Unit) => (x.2.1.2.1 - (0 : Int)).NonNeg).2 r)) (h c0 c1 c2 hin hp)

def H_spec_DrawFindFile : Hints := Go.Fw.hints [] [] [] [] []
def VC_spec_DrawFindFile (code : List (Int × Unit)) (K : ((List (List UInt8 × Int × Unit) × List (Int × Int × Bool × Int × List (List UInt8 × Int × Int × List UInt8 × Unit) × Unit) × Int × Unit) × Int × Unit) × Unit → Prop) : Prop :=
  code.length ≤ (1048576 : Nat) ∧
  ∀ (r0 : List (Int × Unit) × Int × Int × Unit),
  r0.2.1 = (0 : Int) →
  (0 : Int) ≤ r0.2.1 ∧
  ∀
  (r1 :
  ((List (List UInt8 × Int × Unit) × List (Int × Int × Bool × Int × List (List UInt8 × Int × Int × List UInt8 × Unit) × Unit) × Int × Unit) × Unit) ×
  (List (Int × Unit) × Int × Int × Unit) × Unit),
  (0 : Int) ≤ r1.2.1.2.1 ∧ Sp.smallS (r1.1.1.1, r1.1.1.2.1, r1.1.1.2.2.1, ()) →
  (0 : Int) ≤ r1.2.1.2.1 ∧
  ∀ (r2 : (Int × Unit) × (List (Int × Unit) × Int × Int × Unit) × Unit),
  (r2.2.1.2.1 - (0 : Int)).NonNeg → K (((r1.1.1.1, r1.1.1.2.1, r1.1.1.2.2.1, ()), r2.1.1, ()), ())
theorem wk_spec_DrawFindFile (env : EnvB prog G Θ Γ_spec_DrawFindFile) (hne : ∀ x, (F_spec_DrawFindFile x).1 → ∃ t, (F_spec_DrawFindFile x).2 t) (h : ∀ (code : List (Int × Unit)), xsInR sh_spec_DrawFindFile (code, ()) → (code.length ≤ (1048576 : Nat)) → VC_spec_DrawFindFile code fun (r : ((List (List UInt8 × Int × Unit) × List (Int × Int × Bool × Int × List (List UInt8 × Int × Int × List UInt8 × Unit) × Unit) × Int × Unit) × Int × Unit) × Unit) => (code.length ≤ (1048576 : Nat),
  fun (x : ((List (List UInt8 × Int × Unit) × List (Int × Int × Bool × Int × List (List UInt8 × Int × Int × List UInt8 × Unit) × Unit) × Int × Unit) × Int × Unit) × Unit) =>
  Sp.smallS (x.1.1.1, x.1.1.2.1, x.1.1.2.2.1, ())).2
  r) : XConOK prog G n_spec_DrawFindFile con_spec_DrawFindFile :=
  conX_ok env mixed (fn := f85) (c := codeOf f85) (by kernel_rfl) (by kernel_rfl) H_spec_DrawFindFile (by kernel_rfl) hne fun ⟨code, ⟨⟩⟩ hin hp =>
  Eq.mpr ((by kernel_rfl : awp Θ Γ_spec_DrawFindFile H_spec_DrawFindFile (codeOf f85) (endsX Θ f85.results.toList sh_spec_DrawFindFile rsh_spec_DrawFindFile (F_spec_DrawFindFile (code, ())).2) (entryX f85.ntmps (xsVals sh_spec_DrawFindFile (code, ()))) = VC_spec_DrawFindFile code fun (r : ((List (List UInt8 × Int × Unit) × List (Int × Int × Bool × Int × List (List UInt8 × Int × Int × List UInt8 × Unit) × Unit) × Int × Unit) × Int × Unit) × Unit) => (code.length ≤ (1048576 : Nat),
  fun (x : ((List (List UInt8 × Int × Unit) × List (Int × Int × Bool × Int × List (List UInt8 × Int × Int × List UInt8 × Unit) × Unit) × Int × Unit) × Int × Unit) × Unit) =>
  Sp.smallS (x.1.1.1, x.1.1.2.1, x.1.1.2.2.1, ())).2
  r)) (h code hin hp)

def H_spec_DrawDeleteFile : Hints := Go.Fw.hints [] [] [] [] []
def VC_spec_DrawDeleteFile (code : List (Int × Unit)) (K : ((List (List UInt8 × Int × Unit) × List (Int × Int × Bool × Int × List (List UInt8 × Int × Int × List UInt8 × Unit) × Unit) × Int × Unit) × Int × Unit) × Unit → Prop) : Prop :=
  code.length ≤ (1048576 : Nat) ∧
  ∀ (r0 : ((List (List UInt8 × Int × Unit) × List (Int × Int × Bool × Int × List (List UInt8 × Int × Int × List UInt8 × Unit) × Unit) × Int × Unit) × Int × Unit) × Unit),
  Sp.smallS (r0.1.1.1, r0.1.1.2.1, r0.1.1.2.2.1, ()) → K (((r0.1.1.1, r0.1.1.2.1, r0.1.1.2.2.1, ()), r0.1.2.1, ()), ())
theorem wk_spec_DrawDeleteFile (env : EnvB prog G Θ Γ_spec_DrawDeleteFile) (hne : ∀ x, (F_spec_DrawDeleteFile x).1 → ∃ t, (F_spec_DrawDeleteFile x).2 t) (h : ∀ (code : List (Int × Unit)), xsInR sh_spec_DrawDeleteFile (code, ()) → (code.length ≤ (1048576 : Nat)) → VC_spec_DrawDeleteFile code fun (r : ((List (List UInt8 × Int × Unit) × List (Int × Int × Bool × Int × List (List UInt8 × Int × Int × List UInt8 × Unit) × Unit) × Int × Unit) × Int × Unit) × Unit) => (code.length ≤ (1048576 : Nat),
  fun (x : ((List (List UInt8 × Int × Unit) × List (Int × Int × Bool × Int × List (List UInt8 × Int × Int × List UInt8 × Unit) × Unit) × Int × Unit) × Int × Unit) × Unit) =>
  Sp.smallS (x.1.1.1, x.1.1.2.1, x.1.1.2.2.1, ())).2
  r) : XConOK prog G n_spec_DrawDeleteFile con_spec_DrawDeleteFile :=
  conX_ok env mixed (fn := f38) (c := codeOf f38) (by kernel_rfl) (by kernel_rfl) H_spec_DrawDeleteFile (by kernel_rfl) hne fun ⟨code, ⟨⟩⟩ hin hp =>
  Eq.mpr ((by kernel_rfl : awp Θ Γ_spec_DrawDeleteFile H_spec_DrawDeleteFile (codeOf f38) (endsX Θ f38.results.toList sh_spec_DrawDeleteFile rsh_spec_DrawDeleteFile (F_spec_DrawDeleteFile (code, ())).2) (entryX f38.ntmps (xsVals sh_spec_DrawDeleteFile (code, ()))) = VC_spec_DrawDeleteFile code fun (r : ((List (List UInt8 × Int × Unit) × List (Int × Int × Bool × Int × List (List UInt8 × Int × Int × List UInt8 × Unit) × Unit) × Int × Unit) × Int × Unit) × Unit) => (code.length ≤ (1048576 : Nat),
  fun (x : ((List (List UInt8 × Int × Unit) × List (Int × Int × Bool × Int × List (List UInt8 × Int × Int × List UInt8 × Unit) × Unit) × Int × Unit) × Int × Unit) × Unit) =>
  Sp.smallS (x.1.1.1, x.1.1.2.1, x.1.1.2.2.1, ())).2
  r)) (h code hin hp)

def H_spec_DrawReplaceFile : Hints := Go.Fw.hints [] [] [] [] []
def VC_spec_DrawReplaceFile (code : List (Int × Unit)) (K : ((List (List UInt8 × Int × Unit) × List (Int × Int × Bool × Int × List (List UInt8 × Int × Int × List UInt8 × Unit) × Unit) × Int × Unit) ×
  (Int × Int × Bool × Int × List (List UInt8 × Int × Int × List UInt8 × Unit) × Unit) × Unit) ×
  Unit → Prop) : Prop :=
  code.length ≤ (1048576 : Nat) ∧
  ∀ (r0 : List (Int × Unit) × Int × Int × Unit),
  r0.2.1 = (0 : Int) →
  (0 : Int) ≤ r0.2.1 ∧
  ∀
  (r1 :
  ((List (List UInt8 × Int × Unit) × List (Int × Int × Bool × Int × List (List UInt8 × Int × Int × List UInt8 × Unit) × Unit) × Int × Unit) × Unit) ×
  (List (Int × Unit) × Int × Int × Unit) × Unit),
  (0 : Int) ≤ r1.2.1.2.1 ∧ Sp.smallS (r1.1.1.1, r1.1.1.2.1, r1.1.1.2.2.1, ()) →
  (0 : Int) ≤ r1.2.1.2.1 ∧
  ∀ (r2 : ((Int × Int × Bool × Int × List (List UInt8 × Int × Int × List UInt8 × Unit) × Unit) × Unit) × (List (Int × Unit) × Int × Int × Unit) × Unit),
  (0 : Int) ≤ r2.2.1.2.1 ∧ r2.1.1.2.2.2.2.1.length ≤ (10 : Nat) →
  K
  (((r1.1.1.1, r1.1.1.2.1, r1.1.1.2.2.1, ()),
  (r2.1.1.1, r2.1.1.2.1, r2.1.1.2.2.1, r2.1.1.2.2.2.1, r2.1.1.2.2.2.2.1, ()), ()),
  ())
theorem wk_spec_DrawReplaceFile (env : EnvB prog G Θ Γ_spec_DrawReplaceFile) (hne : ∀ x, (F_spec_DrawReplaceFile x).1 → ∃ t, (F_spec_DrawReplaceFile x).2 t) (h : ∀ (code : List (Int × Unit)), xsInR sh_spec_DrawReplaceFile (code, ()) → (code.length ≤ (1048576 : Nat)) → VC_spec_DrawReplaceFile code fun (r : ((List (List UInt8 × Int × Unit) × List (Int × Int × Bool × Int × List (List UInt8 × Int × Int × List UInt8 × Unit) × Unit) × Int × Unit) ×
  (Int × Int × Bool × Int × List (List UInt8 × Int × Int × List UInt8 × Unit) × Unit) × Unit) ×
  Unit) => (code.length ≤ (1048576 : Nat),
  fun
  (x :
  ((List (List UInt8 × Int × Unit) × List (Int × Int × Bool × Int × List (List UInt8 × Int × Int × List UInt8 × Unit) × Unit) × Int × Unit) ×
  (Int × Int × Bool × Int × List (List UInt8 × Int × Int × List UInt8 × Unit) × Unit) × Unit) ×
  Unit) =>
  Sp.smallS (x.1.1.1, x.1.1.2.1, x.1.1.2.2.1, ()) ∧ Sp.smallF (x.1.2.1.1, x.1.2.1.2.1, x.1.2.1.2.2.1, x.1.2.1.2.2.2.1, x.1.2.1.2.2.2.2.1, ())).2
  r) : XConOK prog G n_spec_DrawReplaceFile con_spec_DrawReplaceFile :=
  conX_ok env mixed (fn := f35) (c := codeOf f35) (by kernel_rfl) (by kernel_rfl) H_spec_DrawReplaceFile (by kernel_rfl) hne fun ⟨code, ⟨⟩⟩ hin hp =>
  Eq.mpr ((by kernel_rfl : awp Θ Γ_spec_DrawReplaceFile H_spec_DrawReplaceFile (codeOf f35) (endsX Θ f35.results.toList sh_spec_DrawReplaceFile rsh_spec_DrawReplaceFile (F_spec_DrawReplaceFile (code, ())).2) (entryX f35.ntmps (xsVals sh_spec_DrawReplaceFile (code, ()))) = VC_spec_DrawReplaceFile code fun (r : ((List (List UInt8 × Int × Unit) × List (Int × Int × Bool × Int × List (List UInt8 × Int × Int × List UInt8 × Unit) × Unit) × Int × Unit) ×
  (Int × Int × Bool × Int × List (List UInt8 × Int × Int × List UInt8 × Unit) × Unit) × Unit) ×
  Unit) => (code.length ≤ (1048576 : Nat),
  fun
  (x :
  ((List (List UInt8 × Int × Unit) × List (Int × Int × Bool × Int × List (List UInt8 × Int × Int × List UInt8 × Unit) × Unit) × Int × Unit) ×
  (Int × Int × Bool × Int × List (List UInt8 × Int × Int × List UInt8 × Unit) × Unit) × Unit) ×
  Unit) =>
  Sp.smallS (x.1.1.1, x.1.1.2.1, x.1.1.2.2.1, ()) ∧ Sp.smallF (x.1.2.1.1, x.1.2.1.2.1, x.1.2.1.2.2.1, x.1.2.1.2.2.2.1, x.1.2.1.2.2.2.2.1, ())).2
  r)) (h code hin hp)

def H_spec_DrawCreateFile : Hints := Go.Fw.hints [] [] [] [] []
def VC_spec_DrawCreateFile (code : List (Int × Unit)) (K : ((List (List UInt8 × Int × Unit) × List (Int × Int × Bool × Int × List (List UInt8 × Int × Int × List UInt8 × Unit) × Unit) × Int × Unit) ×
  (Int × Int × Bool × Int × List (List UInt8 × Int × Int × List UInt8 × Unit) × Unit) × Unit) ×
  Unit → Prop) : Prop :=
  code.length ≤ (1048576 : Nat) ∧
  ∀
  (r0 :
  ((List (List UInt8 × Int × Unit) × List (Int × Int × Bool × Int × List (List UInt8 × Int × Int × List UInt8 × Unit) × Unit) × Int × Unit) ×
  (Int × Int × Bool × Int × List (List UInt8 × Int × Int × List UInt8 × Unit) × Unit) × Unit) ×
  Unit),
  Sp.smallS (r0.1.1.1, r0.1.1.2.1, r0.1.1.2.2.1, ()) ∧ Sp.smallF (r0.1.2.1.1, r0.1.2.1.2.1, r0.1.2.1.2.2.1, r0.1.2.1.2.2.2.1, r0.1.2.1.2.2.2.2.1, ()) →
  K
  (((r0.1.1.1, r0.1.1.2.1, r0.1.1.2.2.1, ()),
  (r0.1.2.1.1, r0.1.2.1.2.1, r0.1.2.1.2.2.1, r0.1.2.1.2.2.2.1, r0.1.2.1.2.2.2.2.1, ()), ()),
  ())
theorem wk_spec_DrawCreateFile (env : EnvB prog G Θ Γ_spec_DrawCreateFile) (hne : ∀ x, (F_spec_DrawCreateFile x).1 → ∃ t, (F_spec_DrawCreateFile x).2 t) (h : ∀ (code : List (Int × Unit)), xsInR sh_spec_DrawCreateFile (code, ()) → (code.length ≤ (1048576 : Nat)) → VC_spec_DrawCreateFile code fun (r : ((List (List UInt8 × Int × Unit) × List (Int × Int × Bool × Int × List (List UInt8 × Int × Int × List UInt8 × Unit) × Unit) × Int × Unit) ×
  (Int × Int × Bool × Int × List (List UInt8 × Int × Int × List UInt8 × Unit) × Unit) × Unit) ×
  Unit) => (code.length ≤ (1048576 : Nat),
  fun
  (x :
  ((List (List UInt8 × Int × Unit) × List (Int × Int × Bool × Int × List (List UInt8 × Int × Int × List UInt8 × Unit) × Unit) × Int × Unit) ×
  (Int × Int × Bool × Int × List (List UInt8 × Int × Int × List UInt8 × Unit) × Unit) × Unit) ×
  Unit) =>
  Sp.smallS (x.1.1.1, x.1.1.2.1, x.1.1.2.2.1, ()) ∧ Sp.smallF (x.1.2.1.1, x.1.2.1.2.1, x.1.2.1.2.2.1, x.1.2.1.2.2.2.1, x.1.2.1.2.2.2.2.1, ())).2
  r) : XConOK prog G n_spec_DrawCreateFile con_spec_DrawCreateFile :=
  conX_ok env mixed (fn := f32) (c := codeOf f32) (by kernel_rfl) (by kernel_rfl) H_spec_DrawCreateFile (by kernel_rfl) hne fun ⟨code, ⟨⟩⟩ hin hp =>
  Eq.mpr ((by kernel_rfl : awp Θ Γ_spec_DrawCreateFile H_spec_DrawCreateFile (codeOf f32) (endsX Θ f32.results.toList sh_spec_DrawCreateFile rsh_spec_DrawCreateFile (F_spec_DrawCreateFile (code, ())).2) (entryX f32.ntmps (xsVals sh_spec_DrawCreateFile (code, ()))) = VC_spec_DrawCreateFile code fun (r : ((List (List UInt8 × Int × Unit) × List (Int × Int × Bool × Int × List (List UInt8 × Int × Int × List UInt8 × Unit) × Unit) × Int × Unit) ×
  (Int × Int × Bool × Int × List (List UInt8 × Int × Int × List UInt8 × Unit) × Unit) × Unit) ×
  Unit) => (code.length ≤ (1048576 : Nat),
  fun
  (x :
  ((List (List UInt8 × Int × Unit) × List (Int × Int × Bool × Int × List (List UInt8 × Int × Int × List UInt8 × Unit) × Unit) × Int × Unit) ×
  (Int × Int × Bool × Int × List (List UInt8 × Int × Int × List UInt8 × Unit) × Unit) × Unit) ×
  Unit) =>
  Sp.smallS (x.1.1.1, x.1.1.2.1, x.1.1.2.2.1, ()) ∧ Sp.smallF (x.1.2.1.1, x.1.2.1.2.1, x.1.2.1.2.2.1, x.1.2.1.2.2.2.1, x.1.2.1.2.2.2.2.1, ())).2
  r)) (h code hin hp)

def H_spec_DrawFileIDs : Hints := Go.Fw.hints [] [] [] [] []
def VC_spec_DrawFileIDs (code : List (Int × Unit)) (K : ((List (List UInt8 × Int × Unit) × List (Int × Int × Bool × Int × List (List UInt8 × Int × Int × List UInt8 × Unit) × Unit) × Int × Unit) × Unit) × Unit → Prop) : Prop :=
  code.length ≤ (1048576 : Nat) ∧
  ∀ (r0 : List (Int × Unit) × Int × Int × Unit),
  r0.2.1 = (0 : Int) →
  (0 : Int) ≤ r0.2.1 ∧
  ∀
  (r1 :
  ((List (List UInt8 × Int × Unit) × List (Int × Int × Bool × Int × List (List UInt8 × Int × Int × List UInt8 × Unit) × Unit) × Int × Unit) × Unit) ×
  (List (Int × Unit) × Int × Int × Unit) × Unit),
  (0 : Int) ≤ r1.2.1.2.1 ∧ Sp.smallS (r1.1.1.1, r1.1.1.2.1, r1.1.1.2.2.1, ()) → K (((r1.1.1.1, r1.1.1.2.1, r1.1.1.2.2.1, ()), ()), ())
theorem wk_spec_DrawFileIDs (env : EnvB prog G Θ Γ_spec_DrawFileIDs) (hne : ∀ x, (F_spec_DrawFileIDs x).1 → ∃ t, (F_spec_DrawFileIDs x).2 t) (h : ∀ (code : List (Int × Unit)), xsInR sh_spec_DrawFileIDs (code, ()) → (code.length ≤ (1048576 : Nat)) → VC_spec_DrawFileIDs code fun (r : ((List (List UInt8 × Int × Unit) × List (Int × Int × Bool × Int × List (List UInt8 × Int × Int × List UInt8 × Unit) × Unit) × Int × Unit) × Unit) × Unit) => (code.length ≤ (1048576 : Nat),
  fun (x : ((List (List UInt8 × Int × Unit) × List (Int × Int × Bool × Int × List (List UInt8 × Int × Int × List UInt8 × Unit) × Unit) × Int × Unit) × Unit) × Unit) =>
  Sp.smallS (x.1.1.1, x.1.1.2.1, x.1.1.2.2.1, ())).2
  r) : XConOK prog G n_spec_DrawFileIDs con_spec_DrawFileIDs :=
  conX_ok env mixed (fn := f48) (c := codeOf f48) (by kernel_rfl) (by kernel_rfl) H_spec_DrawFileIDs (by kernel_rfl) hne fun ⟨code, ⟨⟩⟩ hin hp =>
  Eq.mpr ((by kernel_rfl : awp Θ Γ_spec_DrawFileIDs H_spec_DrawFileIDs (codeOf f48) (endsX Θ f48.results.toList sh_spec_DrawFileIDs rsh_spec_DrawFileIDs (F_spec_DrawFileIDs (code, ())).2) (entryX f48.ntmps (xsVals sh_spec_DrawFileIDs (code, ()))) = VC_spec_DrawFileIDs code fun (r : ((List (List UInt8 × Int × Unit) × List (Int × Int × Bool × Int × List (List UInt8 × Int × Int × List UInt8 × Unit) × Unit) × Int × Unit) × Unit) × Unit) => (code.length ≤ (1048576 : Nat),
  fun (x : ((List (List UInt8 × Int × Unit) × List (Int × Int × Bool × Int × List (List UInt8 × Int × Int × List UInt8 × Unit) × Unit) × Int × Unit) × Unit) × Unit) =>
  Sp.smallS (x.1.1.1, x.1.1.2.1, x.1.1.2.2.1, ())).2
  r)) (h code hin hp)

def H_spec_DrawEqualStores : Hints := Go.Fw.hints [] [] [] [448] []
def VC_spec_DrawEqualStores (code : List (Int × Unit)) (K : ((List (List UInt8 × Int × Unit) × List (Int × Int × Bool × Int × List (List UInt8 × Int × Int × List UInt8 × Unit) × Unit) × Int × Unit) ×
  (List (List UInt8 × Int × Unit) × List (Int × Int × Bool × Int × List (List UInt8 × Int × Int × List UInt8 × Unit) × Unit) × Int × Unit) × Unit) ×
  Unit → Prop) : Prop :=
  code.length ≤ (1048576 : Nat) ∧
  ∀ (r0 : List (Int × Unit) × Int × Int × Unit),
  r0.2.1 = (0 : Int) →
  (0 : Int) ≤ r0.2.1 ∧
  ∀
  (r1 :
  ((List (List UInt8 × Int × Unit) × List (Int × Int × Bool × Int × List (List UInt8 × Int × Int × List UInt8 × Unit) × Unit) × Int × Unit) × Unit) ×
  (List (Int × Unit) × Int × Int × Unit) × Unit),
  (0 : Int) ≤ r1.2.1.2.1 ∧ Sp.smallS (r1.1.1.1, r1.1.1.2.1, r1.1.1.2.2.1, ()) →
  (0 : Int) ≤ r1.2.1.2.1 ∧
  ∀ (r2 : (Bool × Unit) × (List (Int × Unit) × Int × Int × Unit) × Unit),
  (r2.2.1.2.1 - (0 : Int)).NonNeg →
  bif r2.1.1 then
  Sp.smallS (r1.1.1.1, r1.1.1.2.1, r1.1.1.2.2.1, ()) ∧
  ∀
  (r3 :
  ((List (List UInt8 × Int × Unit) × List (Int × Int × Bool × Int × List (List UInt8 × Int × Int × List UInt8 × Unit) × Unit) × Int × Unit) × Unit) × Unit),
  (r3.1.1.1, r3.1.1.2.1, r3.1.1.2.2.1, ()) = (r1.1.1.1, r1.1.1.2.1, r1.1.1.2.2.1, ()) →
  K (((r1.1.1.1, r1.1.1.2.1, r1.1.1.2.2.1, ()), (r3.1.1.1, r3.1.1.2.1, r3.1.1.2.2.1, ()), ()), ())
  else
  (0 : Int) ≤ r2.2.1.2.1 ∧
  ∀
  (r4 :
  ((List (List UInt8 × Int × Unit) × List (Int × Int × Bool × Int × List (List UInt8 × Int × Int × List UInt8 × Unit) × Unit) × Int × Unit) × Unit) ×
  (List (Int × Unit) × Int × Int × Unit) × Unit),
  (0 : Int) ≤ r4.2.1.2.1 ∧ Sp.smallS (r4.1.1.1, r4.1.1.2.1, r4.1.1.2.2.1, ()) →
  K (((r1.1.1.1, r1.1.1.2.1, r1.1.1.2.2.1, ()), (r4.1.1.1, r4.1.1.2.1, r4.1.1.2.2.1, ()), ()), ())
theorem wk_spec_DrawEqualStores (env : EnvB prog G Θ Γ_spec_DrawEqualStores) (hne : ∀ x, (F_spec_DrawEqualStores x).1 → ∃ t, (F_spec_DrawEqualStores x).2 t) (h : ∀ (code : List (Int × Unit)), xsInR sh_spec_DrawEqualStores (code, ()) → (code.length ≤ (1048576 : Nat)) → VC_spec_DrawEqualStores code fun (r : ((List (List UInt8 × Int × Unit) × List (Int × Int × Bool × Int × List (List UInt8 × Int × Int × List UInt8 × Unit) × Unit) × Int × Unit) ×
  (List (List UInt8 × Int × Unit) × List (Int × Int × Bool × Int × List (List UInt8 × Int × Int × List UInt8 × Unit) × Unit) × Int × Unit) × Unit) ×
  Unit) => (code.length ≤ (1048576 : Nat),
  fun
  (x :
  ((List (List UInt8 × Int × Unit) × List (Int × Int × Bool × Int × List (List UInt8 × Int × Int × List UInt8 × Unit) × Unit) × Int × Unit) ×
  (List (List UInt8 × Int × Unit) × List (Int × Int × Bool × Int × List (List UInt8 × Int × Int × List UInt8 × Unit) × Unit) × Int × Unit) × Unit) ×
  Unit) =>
  Sp.smallS (x.1.1.1, x.1.1.2.1, x.1.1.2.2.1, ()) ∧ Sp.smallS (x.1.2.1.1, x.1.2.1.2.1, x.1.2.1.2.2.1, ())).2
  r) : XConOK prog G n_spec_DrawEqualStores con_spec_DrawEqualStores :=
  conX_ok env mixed (fn := f49) (c := codeOf f49) (by kernel_rfl) (by kernel_rfl) H_spec_DrawEqualStores (by kernel_rfl) hne fun ⟨code, ⟨⟩⟩ hin hp =>
  Eq.mpr ((by kernel_rfl : awp Θ Γ_spec_DrawEqualStores H_spec_DrawEqualStores (codeOf f49) (endsX Θ f49.results.toList sh_spec_DrawEqualStores rsh_spec_DrawEqualStores (F_spec_DrawEqualStores (code, ())).2) (entryX f49.ntmps (xsVals sh_spec_DrawEqualStores (code, ()))) = VC_spec_DrawEqualStores code fun (r : ((List (List UInt8 × Int × Unit) × List (Int × Int × Bool × Int × List (List UInt8 × Int × Int × List UInt8 × Unit) × Unit) × Int × Unit) ×
  (List (List UInt8 × Int × Unit) × List (Int × Int × Bool × Int × List (List UInt8 × Int × Int × List UInt8 × Unit) × Unit) × Int × Unit) × Unit) ×
  Unit) => (code.length ≤ (1048576 : Nat),
  fun
  (x :
  ((List (List UInt8 × Int × Unit) × List (Int × Int × Bool × Int × List (List UInt8 × Int × Int × List UInt8 × Unit) × Unit) × Int × Unit) ×
  (List (List UInt8 × Int × Unit) × List (Int × Int × Bool × Int × List (List UInt8 × Int × Int × List UInt8 × Unit) × Unit) × Int × Unit) × Unit) ×
  Unit) =>
  Sp.smallS (x.1.1.1, x.1.1.2.1, x.1.1.2.2.1, ()) ∧ Sp.smallS (x.1.2.1.1, x.1.2.1.2.1, x.1.2.1.2.2.1, ())).2
  r)) (h code hin hp)

def H_spec_DefaultSchema : Hints := Go.Fw.hints [1] [] [] [] []
def VC_spec_DefaultSchema  (K : (List (List UInt8 × Int × Unit) × Unit) × Unit → Prop) : Prop :=
  True ∧ ∀ (r0 : (List (List UInt8 × Int × Unit) × Unit) × Unit), r0.1.1 = Sp.usual → K ((r0.1.1, ()), ())
theorem wk_spec_DefaultSchema (env : EnvB prog G Θ Γ_spec_DefaultSchema) (hne : ∀ x, (F_spec_DefaultSchema x).1 → ∃ t, (F_spec_DefaultSchema x).2 t) (h : xsInR sh_spec_DefaultSchema (()) → (True) → VC_spec_DefaultSchema  fun (r : (List (List UInt8 × Int × Unit) × Unit) × Unit) => (True, fun (x : (List (List UInt8 × Int × Unit) × Unit) × Unit) => x.1.1 = Sp.usual).2 r) : XConOK prog G n_spec_DefaultSchema con_spec_DefaultSchema :=
  conX_ok env mixed (fn := f97) (c := codeOf f97) (by kernel_rfl) (by kernel_rfl) H_spec_DefaultSchema (by kernel_rfl) hne fun ⟨⟩ hin hp =>
  Eq.mpr ((by kernel_rfl : awp Θ Γ_spec_DefaultSchema H_spec_DefaultSchema (codeOf f97) (endsX Θ f97.results.toList sh_spec_DefaultSchema rsh_spec_DefaultSchema (F_spec_DefaultSchema (())).2) (entryX f97.ntmps (xsVals sh_spec_DefaultSchema (()))) = VC_spec_DefaultSchema  fun (r : (List (List UInt8 × Int × Unit) × Unit) × Unit) => (True, fun (x : (List (List UInt8 × Int × Unit) × Unit) × Unit) => x.1.1 = Sp.usual).2 r)) (h  hin hp)

def H_laws_sampleStore : Hints := Go.Fw.hints [] [] [] [] []
def VC_laws_sampleStore (n : Int) (K : ((List (List UInt8 × Int × Unit) × List (Int × Int × Bool × Int × List (List UInt8 × Int × Int × List UInt8 × Unit) × Unit) × Int × Unit) × Unit) × Unit → Prop) : Prop :=
  True ∧
  ∀ (r0 : (List (List UInt8 × Int × Unit) × Unit) × Unit),
  r0.1.1 = Sp.usual →
  List.length r0.1.1 ≤ (1000 : Nat) ∧
  ∀ (r1 : ((List (List UInt8 × Int × Unit) × List (Int × Int × Bool × Int × List (List UInt8 × Int × Int × List UInt8 × Unit) × Unit) × Int × Unit) × Unit) × Unit),
  r1.1.1.1 = r0.1.1 ∧ r1.1.1.2.1 = [] ∧ r1.1.1.2.2.1 = (1 : Int) →
  True ∧
  (0 : Nat) ≤ (1000 : Nat) ∧
  ∀ (r2 : ((Int × Int × Bool × Int × List (List UInt8 × Int × Int × List UInt8 × Unit) × Unit) × Unit) × Unit),
  r2.1.1.1 = (0 : Int) ∧
  r2.1.1.2.1 = (0 : Int) ∧ r2.1.1.2.2.1 = false ∧ r2.1.1.2.2.2.1 = (0 : Int) ∧ r2.1.1.2.2.2.2.1 = Sp.setAttr [] [(97 : UInt8)] (1 : Int) n [] →
  (Sp.smallS (r1.1.1.1, r1.1.1.2.1, r1.1.1.2.2.1, ()) ∧
  Sp.smallF (r2.1.1.1, r2.1.1.2.1, r2.1.1.2.2.1, r2.1.1.2.2.2.1, r2.1.1.2.2.2.2.1, ())) ∧
  ∀
  (r3 :
  ((List (List UInt8 × Int × Unit) × List (Int × Int × Bool × Int × List (List UInt8 × Int × Int × List UInt8 × Unit) × Unit) × Int × Unit) ×
  Int × Bool × Unit) ×
  Unit),
  r3.1.1.1 =
  (Sp.createFile (r1.1.1.1, r1.1.1.2.1, r1.1.1.2.2.1, ())
  (r2.1.1.1, r2.1.1.2.1, r2.1.1.2.2.1, r2.1.1.2.2.2.1, r2.1.1.2.2.2.2.1, ())).1.1 ∧
  r3.1.1.2.1 =
  (Sp.createFile (r1.1.1.1, r1.1.1.2.1, r1.1.1.2.2.1, ())
  (r2.1.1.1, r2.1.1.2.1, r2.1.1.2.2.1, r2.1.1.2.2.2.1, r2.1.1.2.2.2.2.1, ())).1.2.1 ∧
  r3.1.1.2.2.1 =
  (Sp.createFile (r1.1.1.1, r1.1.1.2.1, r1.1.1.2.2.1, ())
  (r2.1.1.1, r2.1.1.2.1, r2.1.1.2.2.1, r2.1.1.2.2.2.1, r2.1.1.2.2.2.2.1,
  ())).1.2.2.1 ∧
  r3.1.2.1 =
  (Sp.createFile (r1.1.1.1, r1.1.1.2.1, r1.1.1.2.2.1, ())
  (r2.1.1.1, r2.1.1.2.1, r2.1.1.2.2.1, r2.1.1.2.2.2.1, r2.1.1.2.2.2.2.1, ())).2.1 ∧
  r3.1.2.2.1 =
  (Sp.createFile (r1.1.1.1, r1.1.1.2.1, r1.1.1.2.2.1, ())
  (r2.1.1.1, r2.1.1.2.1, r2.1.1.2.2.1, r2.1.1.2.2.2.1, r2.1.1.2.2.2.2.1, ())).2.2 →
  K (((r3.1.1.1, r3.1.1.2.1, r3.1.1.2.2.1, ()), ()), ())
theorem wk_laws_sampleStore (env : EnvB prog G Θ Γ_laws_sampleStore) (hne : ∀ x, (F_laws_sampleStore x).1 → ∃ t, (F_laws_sampleStore x).2 t) (h : ∀ (n : Int), xsInR sh_laws_sampleStore (n, ()) → (True) → VC_laws_sampleStore n fun (r : ((List (List UInt8 × Int × Unit) × List (Int × Int × Bool × Int × List (List UInt8 × Int × Int × List UInt8 × Unit) × Unit) × Int × Unit) × Unit) × Unit) => (True, fun (x : ((List (List UInt8 × Int × Unit) × List (Int × Int × Bool × Int × List (List UInt8 × Int × Int × List UInt8 × Unit) × Unit) × Int × Unit) × Unit) × Unit) =>
  x.1.1.1 = (Sp.sample n).1 ∧ x.1.1.2.1 = (Sp.sample n).2.1 ∧ x.1.1.2.2.1 = (Sp.sample n).2.2.1).2
  r) : XConOK prog G n_laws_sampleStore con_laws_sampleStore :=
  conX_ok env mixed (fn := f56) (c := codeOf f56) (by kernel_rfl) (by kernel_rfl) H_laws_sampleStore (by kernel_rfl) hne fun ⟨n, ⟨⟩⟩ hin hp =>
  Eq.mpr ((by kernel_rfl : awp Θ Γ_laws_sampleStore H_laws_sampleStore (codeOf f56) (endsX Θ f56.results.toList sh_laws_sampleStore rsh_laws_sampleStore (F_laws_sampleStore (n, ())).2) (entryX f56.ntmps (xsVals sh_laws_sampleStore (n, ()))) = VC_laws_sampleStore n fun (r : ((List (List UInt8 × Int × Unit) × List (Int × Int × Bool × Int × List (List UInt8 × Int × Int × List UInt8 × Unit) × Unit) × Int × Unit) × Unit) × Unit) => (True, fun (x : ((List (List UInt8 × Int × Unit) × List (Int × Int × Bool × Int × List (List UInt8 × Int × Int × List UInt8 × Unit) × Unit) × Int × Unit) × Unit) × Unit) =>
  x.1.1.1 = (Sp.sample n).1 ∧ x.1.1.2.1 = (Sp.sample n).2.1 ∧ x.1.1.2.2.1 = (Sp.sample n).2.2.1).2
  r)) (h n hin hp)

end Go.Proofs.Try

import Derived.Test.YtiifcpnpbfjlcaaF
namespace Go.Proofs.Try
open Go Go.Fw
set_option maxRecDepth 100000
def H_spec_SetAttr : Hints := Go.Fw.hints [11, 53, 11, 33, 53, 61, 3] [(3, ⟨[], ⟨[(1, .one (.str)), (3, .vptr 192 0), (5, .kptr [.int .i64, .int .i64, .str] 0), (6, .vptr 384 0)], [(192, .var [.int .i64, .int .i64, .bool, .int .i64, .sl 116 (.cons .str (.cons (.int .i64) (.cons (.int .i64) (.cons .str .nil)))) false]), (384, .var [.int .i64, .int .i64, .bool, .int .i64, .nil])]⟩, ⟨[(7, .one (.ref 705)), (8, .one (.int .i64))], [(705, .arr 116 (.cons .str (.cons (.int .i64) (.cons (.int .i64) (.cons .str .nil)))) true)]⟩⟩), (9, ⟨[], ⟨[(1, .one (.str)), (3, .vptr 192 0), (5, .kptr [.int .i64, .int .i64, .str] 0), (6, .vptr 384 0), (7, .one (.ref 705))], [(192, .var [.int .i64, .int .i64, .bool, .int .i64, .sl 116 (.cons .str (.cons (.int .i64) (.cons (.int .i64) (.cons .str .nil)))) false]), (384, .var [.int .i64, .int .i64, .bool, .int .i64, .nil]), (705, .arr 116 (.cons .str (.cons (.int .i64) (.cons (.int .i64) (.cons .str .nil)))) true)]⟩, ⟨[(9, .one (.int .i64))], []⟩⟩)] [] [] [(11, [.still 705])]
def VC_spec_SetAttr (f0 : Int) (f1 : Int) (f2 : Bool) (f3 : Int) (f4 : List (List UInt8 × Int × Int × List UInt8 × Unit)) (name : List UInt8) (v0 : Int) (v1 : Int) (v2 : List UInt8) (K : ((Int × Int × Bool × Int × List (List UInt8 × Int × Int × List UInt8 × Unit) × Unit) × Unit) × Unit → Prop) : Prop :=
 let s0 := ((name, (), (v0, v1, v2, ()), (), ()), (f0, f1, f2, f3, f4, ()), ((0 : Int), (0 : Int), false, (0 : Int), (), ()), ());
  ∃ (I : (Unit × Int × Unit) × List (List UInt8 × Int × Int × List UInt8 × Unit) × Unit → Prop),
  ∃ (μ : (Unit × Int × Unit) × List (List UInt8 × Int × Int × List UInt8 × Unit) × Unit → Nat),
  I (((), (0 : Int), ()), [], ()) ∧
  ∀ (y1 : (Unit × Int × Unit) × List (List UInt8 × Int × Int × List UInt8 × Unit) × Unit),
  I y1 →
  bif decide (y1.1.2.1 < (↑f4.length : Int)) then
  ((0 : Int) ≤ y1.1.2.1 ∧ y1.1.2.1 < (↑f4.length : Int)) ∧
  bif !(f4.getD (Int.toNat y1.1.2.1) ([], (0 : Int), (0 : Int), [], ())).1 == name then
  ((0 : Int) ≤ y1.1.2.1 ∧ y1.1.2.1 < (↑f4.length : Int)) ∧
  List.length y1.2.1 +
  [((f4.getD (Int.toNat y1.1.2.1) ([], (0 : Int), (0 : Int), [], ())).1,
  (f4.getD (Int.toNat y1.1.2.1) ([], (0 : Int), (0 : Int), [], ())).2.1,
  (f4.getD (Int.toNat y1.1.2.1) ([], (0 : Int), (0 : Int), [], ())).2.2.1,
  (f4.getD (Int.toNat y1.1.2.1) ([], (0 : Int), (0 : Int), [], ())).2.2.2.1, ())].length ≤
  big ∧
  s0 = s0 ∧
  I
  (((), IntKind.i64.wrap (y1.1.2.1 + (1 : Int)), ()),
  y1.2.1 ++
  [((f4.getD (Int.toNat y1.1.2.1) ([], (0 : Int), (0 : Int), [], ())).1,
  (f4.getD (Int.toNat y1.1.2.1) ([], (0 : Int), (0 : Int), [], ())).2.1,
  (f4.getD (Int.toNat y1.1.2.1) ([], (0 : Int), (0 : Int), [], ())).2.2.1,
  (f4.getD (Int.toNat y1.1.2.1) ([], (0 : Int), (0 : Int), [], ())).2.2.2.1, ())],
  ()) ∧
  μ
  (((), IntKind.i64.wrap (y1.1.2.1 + (1 : Int)), ()),
  y1.2.1 ++
  [((f4.getD (Int.toNat y1.1.2.1) ([], (0 : Int), (0 : Int), [], ())).1,
  (f4.getD (Int.toNat y1.1.2.1) ([], (0 : Int), (0 : Int), [], ())).2.1,
  (f4.getD (Int.toNat y1.1.2.1) ([], (0 : Int), (0 : Int), [], ())).2.2.1,
  (f4.getD (Int.toNat y1.1.2.1) ([], (0 : Int), (0 : Int), [], ())).2.2.2.1, ())],
  ()) <
  μ y1
  else
  s0 = s0 ∧
  I (((), IntKind.i64.wrap (y1.1.2.1 + (1 : Int)), ()), y1.2.1, ()) ∧ μ (((), IntKind.i64.wrap (y1.1.2.1 + (1 : Int)), ()), y1.2.1, ()) < μ y1
  else
  bif v0 != (0 : Int) then
 let s2 := ((name, (), (v0, v1, v2, ()), (), (), ()), (f0, f1, f2, f3, f4, ()), ((0 : Int), (0 : Int), false, (0 : Int), (), ()), y1.2.1, ());
  ∃ (I : (Int × Unit) × Unit → Prop),
  ∃ (μ : (Int × Unit) × Unit → Nat),
  I (((0 : Int), ()), ()) ∧
  ∀ (y3 : (Int × Unit) × Unit),
  I y3 →
  bif decide (y3.1.1 < (↑(List.length y1.2.1) : Int)) then
  ((0 : Int) ≤ y3.1.1 ∧ y3.1.1 < (↑(List.length y1.2.1) : Int)) ∧
  Int.toNat y3.1.1 < List.length y1.2.1 ∧
  bif
  Op.bytesLess (List.getD y1.2.1 (Int.toNat y3.1.1) ([], (0 : Int), (0 : Int), [], ())).1 name ||
  (List.getD y1.2.1 (Int.toNat y3.1.1) ([], (0 : Int), (0 : Int), [], ())).1 == name then
  s2 = s2 ∧ I ((IntKind.i64.wrap (y3.1.1 + (1 : Int)), ()), ()) ∧ μ ((IntKind.i64.wrap (y3.1.1 + (1 : Int)), ()), ()) < μ y3
  else
  ((0 : Int) ≤ y3.1.1 ∧ y3.1.1 ≤ (↑(List.length y1.2.1) : Int)) ∧
  (0 : Nat) + (List.drop (0 : Nat) (List.take (Int.toNat y3.1.1) y1.2.1)).length ≤ big ∧
  (List.drop (0 : Nat) (List.take (Int.toNat y3.1.1) y1.2.1)).length + [(name, v0, v1, v2, ())].length ≤ big ∧
  ((0 : Int) ≤ y3.1.1 ∧ y3.1.1 ≤ (↑(List.length y1.2.1) : Int)) ∧
  (List.drop (0 : Nat) (List.take (Int.toNat y3.1.1) y1.2.1) ++ [(name, v0, v1, v2, ())]).length +
  (List.drop (Int.toNat y3.1.1) (List.take (List.length y1.2.1) y1.2.1)).length ≤
  big ∧
  K
  (((f0, f1, f2, f3,
  List.drop (0 : Nat) (List.take (Int.toNat y3.1.1) y1.2.1) ++ [(name, v0, v1, v2, ())] ++
  List.drop (Int.toNat y3.1.1) (List.take (List.length y1.2.1) y1.2.1),
  ()),
  ()),
  ())
  else
  ((0 : Int) ≤ y3.1.1 ∧ y3.1.1 ≤ (↑(List.length y1.2.1) : Int)) ∧
  (0 : Nat) + (List.drop (0 : Nat) (List.take (Int.toNat y3.1.1) y1.2.1)).length ≤ big ∧
  (List.drop (0 : Nat) (List.take (Int.toNat y3.1.1) y1.2.1)).length + [(name, v0, v1, v2, ())].length ≤ big ∧
  ((0 : Int) ≤ y3.1.1 ∧ y3.1.1 ≤ (↑(List.length y1.2.1) : Int)) ∧
  (List.drop (0 : Nat) (List.take (Int.toNat y3.1.1) y1.2.1) ++ [(name, v0, v1, v2, ())]).length +
  (List.drop (Int.toNat y3.1.1) (List.take (List.length y1.2.1) y1.2.1)).length ≤
  big ∧
  K
  (((f0, f1, f2, f3,
  List.drop (0 : Nat) (List.take (Int.toNat y3.1.1) y1.2.1) ++ [(name, v0, v1, v2, ())] ++
  List.drop (Int.toNat y3.1.1) (List.take (List.length y1.2.1) y1.2.1),
  ()),
  ()),
  ())
  else K (((f0, f1, f2, f3, y1.2.1, ()), ()), ())
theorem wk_spec_SetAttr (env : EnvB prog G Θ Γ_spec_SetAttr) (hne : ∀ x, (F_spec_SetAttr x).1 → ∃ t, (F_spec_SetAttr x).2 t) (h : ∀ (f0 : Int) (f1 : Int) (f2 : Bool) (f3 : Int) (f4 : List (List UInt8 × Int × Int × List UInt8 × Unit)) (name : List UInt8) (v0 : Int) (v1 : Int) (v2 : List UInt8), xsInR sh_spec_SetAttr ((f0, f1, f2, f3, f4, ()), name, (v0, v1, v2, ()), ()) → (f4.length ≤ (1000 : Nat)) → VC_spec_SetAttr f0 f1 f2 f3 f4 name v0 v1 v2 fun (r : ((Int × Int × Bool × Int × List (List UInt8 × Int × Int × List UInt8 × Unit) × Unit) × Unit) × Unit) => (f4.length ≤ (1000 : Nat), fun (x : ((Int × Int × Bool × Int × List (List UInt8 × Int × Int × List UInt8 × Unit) × Unit) × Unit) × Unit) =>
  x.1.1.1 = f0 ∧ x.1.1.2.1 = f1 ∧ x.1.1.2.2.1 = f2 ∧ x.1.1.2.2.2.1 = f3 ∧ x.1.1.2.2.2.2.1 = Sp.setAttr f4 name v0 v1 v2).2
  r) : XConOK prog G n_spec_SetAttr con_spec_SetAttr :=
  conX_ok env mixed (fn := f98) (c := codeOf f98) (by kernel_rfl) (by kernel_rfl) H_spec_SetAttr (by kernel_rfl) hne fun ⟨⟨f0, f1, f2, f3, f4, ⟨⟩⟩, name, ⟨v0, v1, v2, ⟨⟩⟩, ⟨⟩⟩ hin hp =>
  Eq.mpr ((by kernel_rfl : awp Θ Γ_spec_SetAttr H_spec_SetAttr (codeOf f98) (endsX Θ f98.results.toList sh_spec_SetAttr rsh_spec_SetAttr (F_spec_SetAttr ((f0, f1, f2, f3, f4, ()), name, (v0, v1, v2, ()), ())).2) (entryX f98.ntmps (xsVals sh_spec_SetAttr ((f0, f1, f2, f3, f4, ()), name, (v0, v1, v2, ()), ()))) = VC_spec_SetAttr f0 f1 f2 f3 f4 name v0 v1 v2 fun (r : ((Int × Int × Bool × Int × List (List UInt8 × Int × Int × List UInt8 × Unit) × Unit) × Unit) × Unit) => (f4.length ≤ (1000 : Nat), fun (x : ((Int × Int × Bool × Int × List (List UInt8 × Int × Int × List UInt8 × Unit) × Unit) × Unit) × Unit) =>
  x.1.1.1 = f0 ∧ x.1.1.2.1 = f1 ∧ x.1.1.2.2.1 = f2 ∧ x.1.1.2.2.2.1 = f3 ∧ x.1.1.2.2.2.2.1 = Sp.setAttr f4 name v0 v1 v2).2
  r)) (h f0 f1 f2 f3 f4 name v0 v1 v2 hin hp)

def H_spec_l04Any : Hints := Go.Fw.hints [8, 15, 21, 27, 45] [] [] [48] []
def VC_spec_l04Any (c0 : List (Int × Unit)) (c1 : Int) (c2 : Int) (K : ((Int × Int × Bool × Int × List (List UInt8 × Int × Int × List UInt8 × Unit) × Unit) × Unit) × (List (Int × Unit) × Int × Int × Unit) × Unit → Prop) : Prop :=
  (0 : Int) ≤ c1 ∧
  ∀ (r0 : (Int × Unit) × (List (Int × Unit) × Int × Int × Unit) × Unit),
  (0 : Int) ≤ r0.2.1.2.1 ∧ (0 : Int) ≤ r0.1.1 ∧ ((0 : Int) < (7 : Int) → r0.1.1 < (7 : Int)) ∧ ((7 : Int) ≤ (0 : Int) → r0.1.1 = (0 : Int)) →
  (0 : Int) ≤ r0.2.1.2.1 ∧
  ∀ (r1 : ((Int × Int × Bool × Int × List (List UInt8 × Int × Int × List UInt8 × Unit) × Unit) × Unit) × (List (Int × Unit) × Int × Int × Unit) × Unit),
  (0 : Int) ≤ r1.2.1.2.1 ∧
  r1.1.1.1 = IntKind.i64.wrap ((1 : Int) + r0.1.1) ∧
  (0 : Int) ≤ r1.1.1.2.1 ∧
  r1.1.1.2.1 ≤ (2 : Int) ∧
  (0 : Int) ≤ r1.1.1.2.2.2.1 ∧ r1.1.1.2.2.2.1 ≤ (6 : Int) ∧ Sp.okAttrs Sp.usual r1.1.1.2.2.2.2.1 = true ∧ r1.1.1.2.2.2.2.1.length ≤ (4 : Nat) →
  (0 : Int) ≤ r1.2.1.2.1 ∧
  ∀ (r2 : (Int × Unit) × (List (Int × Unit) × Int × Int × Unit) × Unit),
  (0 : Int) ≤ r2.2.1.2.1 ∧ (0 : Int) ≤ r2.1.1 ∧ ((0 : Int) < (14 : Int) → r2.1.1 < (14 : Int)) ∧ ((14 : Int) ≤ (0 : Int) → r2.1.1 = (0 : Int)) →
  bif r2.1.1 == (0 : Int) then
  ((0 : Int) ≤ r2.2.1.2.1 ∧ [((0 : Int), ()), ((60 : Int), ()), ((61 : Int), ()), ((-1 : Int), ())] ≠ []) ∧
  ∀ (r3 : (Int × Unit) × (List (Int × Unit) × Int × Int × Unit) × Unit),
  (0 : Int) ≤ r3.2.1.2.1 ∧ (r3.1.1, ()) ∈ [((0 : Int), ()), ((60 : Int), ()), ((61 : Int), ()), ((-1 : Int), ())] →
  K
  (((r3.1.1, r1.1.1.2.1, r1.1.1.2.2.1, r1.1.1.2.2.2.1, r1.1.1.2.2.2.2.1, ()), ()),
  (r3.2.1.1, r3.2.1.2.1, r3.2.1.2.2.1, ()), ())
  else
  bif r2.1.1 == (1 : Int) then
  ((0 : Int) ≤ r2.2.1.2.1 ∧ [((-1 : Int), ()), ((2 : Int), ()), ((3 : Int), ())] ≠ []) ∧
  ∀ (r4 : (Int × Unit) × (List (Int × Unit) × Int × Int × Unit) × Unit),
  (0 : Int) ≤ r4.2.1.2.1 ∧ (r4.1.1, ()) ∈ [((-1 : Int), ()), ((2 : Int), ()), ((3 : Int), ())] →
  K
  (((r1.1.1.1, r4.1.1, r1.1.1.2.2.1, r1.1.1.2.2.2.1, r1.1.1.2.2.2.2.1, ()), ()),
  (r4.2.1.1, r4.2.1.2.1, r4.2.1.2.2.1, ()), ())
  else
  bif r2.1.1 == (2 : Int) then
  ((0 : Int) ≤ r2.2.1.2.1 ∧ [((-1 : Int), ()), ((60 : Int), ()), ((61 : Int), ()), ((9223372036854775807 : Int), ())] ≠ []) ∧
  ∀ (r5 : (Int × Unit) × (List (Int × Unit) × Int × Int × Unit) × Unit),
  (0 : Int) ≤ r5.2.1.2.1 ∧ (r5.1.1, ()) ∈ [((-1 : Int), ()), ((60 : Int), ()), ((61 : Int), ()), ((9223372036854775807 : Int), ())] →
  K
  (((r1.1.1.1, r1.1.1.2.1, r1.1.1.2.2.1, r5.1.1, r1.1.1.2.2.2.2.1, ()), ()),
  (r5.2.1.1, r5.2.1.2.1, r5.2.1.2.2.1, ()), ())
  else
  bif r2.1.1 == (3 : Int) then
  (0 : Int) ≤ r2.2.1.2.1 ∧
  ∀ (r6 : (List UInt8 × Unit) × (List (Int × Unit) × Int × Int × Unit) × Unit),
  (0 : Int) ≤ r6.2.1.2.1 ∧ r6.1.1.length ≤ (1 : Nat) →
  (0 : Int) ≤ r6.2.1.2.1 ∧
  ∀ (r7 : ((Int × Int × List UInt8 × Unit) × Unit) × (List (Int × Unit) × Int × Int × Unit) × Unit),
  (0 : Int) ≤ r7.2.1.2.1 ∧ r7.1.1.2.2.1.length ≤ (10 : Nat) →
  List.length r1.1.1.2.2.2.2.1 + [(r6.1.1, r7.1.1.1, r7.1.1.2.1, r7.1.1.2.2.1, ())].length ≤ big ∧
  K
  (((r1.1.1.1, r1.1.1.2.1, r1.1.1.2.2.1, r1.1.1.2.2.2.1,
  r1.1.1.2.2.2.2.1 ++ [(r6.1.1, r7.1.1.1, r7.1.1.2.1, r7.1.1.2.2.1, ())], ()),
  ()),
  (r7.2.1.1, r7.2.1.2.1, r7.2.1.2.2.1, ()), ())
  else
  bif r2.1.1 == (4 : Int) then
  True ∧
 let r8 := [(114 : UInt8), (101 : UInt8), (100 : UInt8)];
  List.length r1.1.1.2.2.2.2.1 ≤ (1000 : Nat) ∧
  ∀ (r9 : ((Int × Int × Bool × Int × List (List UInt8 × Int × Int × List UInt8 × Unit) × Unit) × Unit) × Unit),
  r9.1.1.1 = r1.1.1.1 ∧
  r9.1.1.2.1 = r1.1.1.2.1 ∧
  r9.1.1.2.2.1 = r1.1.1.2.2.1 ∧
  r9.1.1.2.2.2.1 = r1.1.1.2.2.2.1 ∧
  r9.1.1.2.2.2.2.1 = Sp.setAttr r1.1.1.2.2.2.2.1 [(97 : UInt8)] (2 : Int) (0 : Int) r8 →
  K
  (((r9.1.1.1, r9.1.1.2.1, r9.1.1.2.2.1, r9.1.1.2.2.2.1, r9.1.1.2.2.2.2.1, ()), ()),
  (r2.2.1.1, r2.2.1.2.1, r2.2.1.2.2.1, ()), ())
  else
  K
  (((r1.1.1.1, r1.1.1.2.1, r1.1.1.2.2.1, r1.1.1.2.2.2.1, r1.1.1.2.2.2.2.1, ()), ()),
  (r2.2.1.1, r2.2.1.2.1, r2.2.1.2.2.1, ()), ())
theorem wk_spec_l04Any (env : EnvB prog G Θ Γ_spec_l04Any) (hne : ∀ x, (F_spec_l04Any x).1 → ∃ t, (F_spec_l04Any x).2 t) (h : ∀ (c0 : List (Int × Unit)) (c1 : Int) (c2 : Int), xsInR sh_spec_l04Any ((c0, c1, c2, ()), ()) → ((0 : Int) ≤ c1) → VC_spec_l04Any c0 c1 c2 fun (r : ((Int × Int × Bool × Int × List (List UInt8 × Int × Int × List UInt8 × Unit) × Unit) × Unit) × (List (Int × Unit) × Int × Int × Unit) × Unit) => ((0 : Int) ≤ c1, fun (x : ((Int × Int × Bool × Int × List (List UInt8 × Int × Int × List UInt8 × Unit) × Unit) × Unit) × (List (Int × Unit) × Int × Int × Unit) × Unit) =>
  (0 : Int) ≤ x.2.1.2.1 ∧ x.1.1.2.2.2.2.1.length ≤ (10 : Nat)).2
  r) : XConOK prog G n_spec_l04Any con_spec_l04Any :=
  conX_ok env mixed (fn := f72) (c := codeOf f72) (by kernel_rfl) (by kernel_rfl) H_spec_l04Any (by kernel_rfl) hne fun ⟨⟨c0, c1, c2, ⟨⟩⟩, ⟨⟩⟩ hin hp =>
  Eq.mpr ((by kernel_rfl : awp Θ Γ_spec_l04Any H_spec_l04Any (codeOf f72) (endsX Θ f72.results.toList sh_spec_l04Any rsh_spec_l04Any (F_spec_l04Any ((c0, c1, c2, ()), ())).2) (entryX f72.ntmps (xsVals sh_spec_l04Any ((c0, c1, c2, ()), ()))) = VC_spec_l04Any c0 c1 c2 fun (r : ((Int × Int × Bool × Int × List (List UInt8 × Int × Int × List UInt8 × Unit) × Unit) × Unit) × (List (Int × Unit) × Int × Int × Unit) × Unit) => ((0 : Int) ≤ c1, fun (x : ((Int × Int × Bool × Int × List (List UInt8 × Int × Int × List UInt8 × Unit) × Unit) × Unit) × (List (Int × Unit) × Int × Int × Unit) × Unit) =>
  (0 : Int) ≤ x.2.1.2.1 ∧ x.1.1.2.2.2.2.1.length ≤ (10 : Nat)).2
  r)) (h c0 c1 c2 hin hp)

def H_spec_NewStore : Hints := Go.Fw.hints [3, 3] [] [] [] []
def VC_spec_NewStore (s : List (List UInt8 × Int × Unit)) (K : ((List (List UInt8 × Int × Unit) × List (Int × Int × Bool × Int × List (List UInt8 × Int × Int × List UInt8 × Unit) × Unit) × Int × Unit) × Unit) × Unit → Prop) : Prop :=
  (0 : Nat) + s.length ≤ big ∧ K (((s, [], (1 : Int), ()), ()), ())
theorem wk_spec_NewStore (env : EnvB prog G Θ Γ_spec_NewStore) (hne : ∀ x, (F_spec_NewStore x).1 → ∃ t, (F_spec_NewStore x).2 t) (h : ∀ (s : List (List UInt8 × Int × Unit)), xsInR sh_spec_NewStore (s, ()) → (s.length ≤ (1000 : Nat)) → VC_spec_NewStore s fun (r : ((List (List UInt8 × Int × Unit) × List (Int × Int × Bool × Int × List (List UInt8 × Int × Int × List UInt8 × Unit) × Unit) × Int × Unit) × Unit) × Unit) => (s.length ≤ (1000 : Nat),
  fun (x : ((List (List UInt8 × Int × Unit) × List (Int × Int × Bool × Int × List (List UInt8 × Int × Int × List UInt8 × Unit) × Unit) × Int × Unit) × Unit) × Unit) =>
  x.1.1.1 = s ∧ x.1.1.2.1 = [] ∧ x.1.1.2.2.1 = (1 : Int)).2
  r) : XConOK prog G n_spec_NewStore con_spec_NewStore :=
  conX_ok env mixed (fn := f55) (c := codeOf f55) (by kernel_rfl) (by kernel_rfl) H_spec_NewStore (by kernel_rfl) hne fun ⟨s, ⟨⟩⟩ hin hp =>
  Eq.mpr ((by kernel_rfl : awp Θ Γ_spec_NewStore H_spec_NewStore (codeOf f55) (endsX Θ f55.results.toList sh_spec_NewStore rsh_spec_NewStore (F_spec_NewStore (s, ())).2) (entryX f55.ntmps (xsVals sh_spec_NewStore (s, ()))) = VC_spec_NewStore s fun (r : ((List (List UInt8 × Int × Unit) × List (Int × Int × Bool × Int × List (List UInt8 × Int × Int × List UInt8 × Unit) × Unit) × Int × Unit) × Unit) × Unit) => (s.length ≤ (1000 : Nat),
  fun (x : ((List (List UInt8 × Int × Unit) × List (Int × Int × Bool × Int × List (List UInt8 × Int × Int × List UInt8 × Unit) × Unit) × Int × Unit) × Unit) × Unit) =>
  x.1.1.1 = s ∧ x.1.1.2.1 = [] ∧ x.1.1.2.2.1 = (1 : Int)).2
  r)) (h s hin hp)

def H_spec_l05Copy : Hints := Go.Fw.hints [5, 5, 26, 27] [(3, ⟨[(.obj 192 1, 226, 39, (.cons (.int .i64) (.cons (.int .i64) (.cons .bool (.cons (.int .i64) (.cons (.sl 116 (.cons .str (.cons (.int .i64) (.cons (.int .i64) (.cons .str .nil))))) .nil))))), true)], ⟨[(1, .kptr [.sl 26 (.cons .str (.cons (.int .i64) .nil)) false, .sl 39 (.cons (.int .i64) (.cons (.int .i64) (.cons .bool (.cons (.int .i64) (.cons (.sl 116 (.cons .str (.cons (.int .i64) (.cons (.int .i64) (.cons .str .nil))))) .nil))))) false, .int .i64] 0), (2, .vptr 128 0), (3, .vptr 192 0)], [(128, .var [.nil, .nil, .int .i64]), (513, .arr 26 (.cons .str (.cons (.int .i64) .nil)) true)]⟩, ⟨[(4, .one (.int .i64))], [(192, .var [.ref 513, .ref 226, .int .i64]), (226, .arr 39 (.cons (.int .i64) (.cons (.int .i64) (.cons .bool (.cons (.int .i64) (.cons (.sl 116 (.cons .str (.cons (.int .i64) (.cons (.int .i64) (.cons .str .nil))))) .nil))))) true)]⟩⟩)] [] [] []
def VC_spec_l05Copy (s0 : List (List UInt8 × Int × Unit)) (s1 : List (Int × Int × Bool × Int × List (List UInt8 × Int × Int × List UInt8 × Unit) × Unit)) (s2 : Int) (K : ((List (List UInt8 × Int × Unit) × List (Int × Int × Bool × Int × List (List UInt8 × Int × Int × List UInt8 × Unit) × Unit) × Int × Unit) × Unit) × Unit → Prop) : Prop :=
  (0 : Nat) + s0.length ≤ big ∧
 let s0_1 := (((s0, s1, s2, ()), (), (), ()), ((), (), (0 : Int), ()), s0, ());
  ∃ (I : (Int × Unit) × (Unit × Unit × Int × Unit) × List (Int × Int × Bool × Int × List (List UInt8 × Int × Int × List UInt8 × Unit) × Unit) × Unit → Prop),
  ∃ (μ : (Int × Unit) × (Unit × Unit × Int × Unit) × List (Int × Int × Bool × Int × List (List UInt8 × Int × Int × List UInt8 × Unit) × Unit) × Unit → Nat),
  I (((0 : Int), ()), ((), (), s2, ()), [], ()) ∧
  ∀ (y1 : (Int × Unit) × (Unit × Unit × Int × Unit) × List (Int × Int × Bool × Int × List (List UInt8 × Int × Int × List UInt8 × Unit) × Unit) × Unit),
  I y1 →
  bif decide (y1.1.1 < (↑s1.length : Int)) then
  ((0 : Int) ≤ y1.1.1 ∧ y1.1.1 < (↑s1.length : Int)) ∧
  Sp.smallF
  ((s1.getD (Int.toNat y1.1.1) ((0 : Int), (0 : Int), false, (0 : Int), [], ())).1,
  (s1.getD (Int.toNat y1.1.1) ((0 : Int), (0 : Int), false, (0 : Int), [], ())).2.1,
  (s1.getD (Int.toNat y1.1.1) ((0 : Int), (0 : Int), false, (0 : Int), [], ())).2.2.1,
  (s1.getD (Int.toNat y1.1.1) ((0 : Int), (0 : Int), false, (0 : Int), [], ())).2.2.2.1,
  (s1.getD (Int.toNat y1.1.1) ((0 : Int), (0 : Int), false, (0 : Int), [], ())).2.2.2.2.1, ()) ∧
 let r2 := (s1.getD (Int.toNat y1.1.1) ((0 : Int), (0 : Int), false, (0 : Int), [], ())).1;
 let r3 := (s1.getD (Int.toNat y1.1.1) ((0 : Int), (0 : Int), false, (0 : Int), [], ())).2.1;
 let r4 := (s1.getD (Int.toNat y1.1.1) ((0 : Int), (0 : Int), false, (0 : Int), [], ())).2.2.1;
 let r5 := (s1.getD (Int.toNat y1.1.1) ((0 : Int), (0 : Int), false, (0 : Int), [], ())).2.2.2.1;
 let r6 := (s1.getD (Int.toNat y1.1.1) ((0 : Int), (0 : Int), false, (0 : Int), [], ())).2.2.2.2.1;
  List.length y1.2.2.1 + [(r2, r3, r4, r5, r6, ())].length ≤ big ∧
  s0_1 = s0_1 ∧
  I ((IntKind.i64.wrap (y1.1.1 + (1 : Int)), ()), ((), (), y1.2.1.2.2.1, ()), y1.2.2.1 ++ [(r2, r3, r4, r5, r6, ())], ()) ∧
  μ ((IntKind.i64.wrap (y1.1.1 + (1 : Int)), ()), ((), (), y1.2.1.2.2.1, ()), y1.2.2.1 ++ [(r2, r3, r4, r5, r6, ())], ()) < μ y1
  else K (((s0, y1.2.2.1, y1.2.1.2.2.1, ()), ()), ())
theorem wk_spec_l05Copy (env : EnvB prog G Θ Γ_spec_l05Copy) (hne : ∀ x, (F_spec_l05Copy x).1 → ∃ t, (F_spec_l05Copy x).2 t) (h : ∀ (s0 : List (List UInt8 × Int × Unit)) (s1 : List (Int × Int × Bool × Int × List (List UInt8 × Int × Int × List UInt8 × Unit) × Unit)) (s2 : Int), xsInR sh_spec_l05Copy ((s0, s1, s2, ()), ()) → (Sp.smallS (s0, s1, s2, ())) → VC_spec_l05Copy s0 s1 s2 fun (r : ((List (List UInt8 × Int × Unit) × List (Int × Int × Bool × Int × List (List UInt8 × Int × Int × List UInt8 × Unit) × Unit) × Int × Unit) × Unit) × Unit) => (Sp.smallS (s0, s1, s2, ()),
  fun (x : ((List (List UInt8 × Int × Unit) × List (Int × Int × Bool × Int × List (List UInt8 × Int × Int × List UInt8 × Unit) × Unit) × Int × Unit) × Unit) × Unit) =>
  (x.1.1.1, x.1.1.2.1, x.1.1.2.2.1, ()) = (s0, s1, s2, ())).2
  r) : XConOK prog G n_spec_l05Copy con_spec_l05Copy :=
  conX_ok env mixed (fn := f84) (c := codeOf f84) (by kernel_rfl) (by kernel_rfl) H_spec_l05Copy (by kernel_rfl) hne fun ⟨⟨s0, s1, s2, ⟨⟩⟩, ⟨⟩⟩ hin hp =>
  Eq.mpr ((by kernel_rfl : awp Θ Γ_spec_l05Copy H_spec_l05Copy (codeOf f84) (endsX Θ f84.results.toList sh_spec_l05Copy rsh_spec_l05Copy (F_spec_l05Copy ((s0, s1, s2, ()), ())).2) (entryX f84.ntmps (xsVals sh_spec_l05Copy ((s0, s1, s2, ()), ()))) = VC_spec_l05Copy s0 s1 s2 fun (r : ((List (List UInt8 × Int × Unit) × List (Int × Int × Bool × Int × List (List UInt8 × Int × Int × List UInt8 × Unit) × Unit) × Int × Unit) × Unit) × Unit) => (Sp.smallS (s0, s1, s2, ()),
  fun (x : ((List (List UInt8 × Int × Unit) × List (Int × Int × Bool × Int × List (List UInt8 × Int × Int × List UInt8 × Unit) × Unit) × Int × Unit) × Unit) × Unit) =>
  (x.1.1.1, x.1.1.2.1, x.1.1.2.2.1, ()) = (s0, s1, s2, ())).2
  r)) (h s0 s1 s2 hin hp)

def H_spec_CreateFile : Hints := Go.Fw.hints [8, 8, 10, 15, 27, 34, 2, 3] [] [] [256] []
def VC_spec_CreateFile (s0 : List (List UInt8 × Int × Unit)) (s1 : List (Int × Int × Bool × Int × List (List UInt8 × Int × Int × List UInt8 × Unit) × Unit)) (s2 : Int) (f0 : Int) (f1 : Int) (f2 : Bool) (f3 : Int) (f4 : List (List UInt8 × Int × Int × List UInt8 × Unit)) (K : ((List (List UInt8 × Int × Unit) × List (Int × Int × Bool × Int × List (List UInt8 × Int × Int × List UInt8 × Unit) × Unit) × Int × Unit) × Int × Bool × Unit) × Unit → Prop) : Prop :=
  Sp.smallS (s0, s1, s2, ()) ∧
  ∀ (r0 : ((List (List UInt8 × Int × Unit) × List (Int × Int × Bool × Int × List (List UInt8 × Int × Int × List UInt8 × Unit) × Unit) × Int × Unit) × Unit) × Unit),
  (r0.1.1.1, r0.1.1.2.1, r0.1.1.2.2.1, ()) = (s0, s1, s2, ()) →
  Sp.smallF (f0, f1, f2, f3, f4, ()) ∧
  True ∧
 let r1 := Sp.okStore (r0.1.1.1, r0.1.1.2.1, r0.1.1.2.2.1, ());
  bif !r1 then K (((r0.1.1.1, r0.1.1.2.1, r0.1.1.2.2.1, ()), (0 : Int), false, ()), ())
  else
  bif decide ((↑(List.length r0.1.1.2.1) : Int) ≥ (12 : Int)) then
  K (((r0.1.1.1, r0.1.1.2.1, r0.1.1.2.2.1, ()), (0 : Int), false, ()), ())
  else
  True ∧
 let r2 := Sp.okFile r0.1.1.1 (r0.1.1.2.2.1, f1, f2, f3, f4, ());
  bif !r2 then K (((r0.1.1.1, r0.1.1.2.1, r0.1.1.2.2.1, ()), (0 : Int), false, ()), ())
  else
  List.length r0.1.1.2.1 + [(r0.1.1.2.2.1, f1, f2, f3, f4, ())].length ≤ big ∧
  K
  (((r0.1.1.1, r0.1.1.2.1 ++ [(r0.1.1.2.2.1, f1, f2, f3, f4, ())], IntKind.i64.wrap (r0.1.1.2.2.1 + (1 : Int)), ()),
  r0.1.1.2.2.1, true, ()),
  ())
theorem wk_spec_CreateFile (env : EnvB prog G Θ Γ_spec_CreateFile) (hne : ∀ x, (F_spec_CreateFile x).1 → ∃ t, (F_spec_CreateFile x).2 t) (h : ∀ (s0 : List (List UInt8 × Int × Unit)) (s1 : List (Int × Int × Bool × Int × List (List UInt8 × Int × Int × List UInt8 × Unit) × Unit)) (s2 : Int) (f0 : Int) (f1 : Int) (f2 : Bool) (f3 : Int) (f4 : List (List UInt8 × Int × Int × List UInt8 × Unit)), xsInR sh_spec_CreateFile ((s0, s1, s2, ()), (f0, f1, f2, f3, f4, ()), ()) → (Sp.smallS (s0, s1, s2, ()) ∧ Sp.smallF (f0, f1, f2, f3, f4, ())) → VC_spec_CreateFile s0 s1 s2 f0 f1 f2 f3 f4 fun (r : ((List (List UInt8 × Int × Unit) × List (Int × Int × Bool × Int × List (List UInt8 × Int × Int × List UInt8 × Unit) × Unit) × Int × Unit) × Int × Bool × Unit) × Unit) => (Sp.smallS (s0, s1, s2, ()) ∧ Sp.smallF (f0, f1, f2, f3, f4, ()),
  fun
  (x :
  ((List (List UInt8 × Int × Unit) × List (Int × Int × Bool × Int × List (List UInt8 × Int × Int × List UInt8 × Unit) × Unit) × Int × Unit) × Int × Bool × Unit) × Unit) =>
  x.1.1.1 = (Sp.createFile (s0, s1, s2, ()) (f0, f1, f2, f3, f4, ())).1.1 ∧
  x.1.1.2.1 = (Sp.createFile (s0, s1, s2, ()) (f0, f1, f2, f3, f4, ())).1.2.1 ∧
  x.1.1.2.2.1 = (Sp.createFile (s0, s1, s2, ()) (f0, f1, f2, f3, f4, ())).1.2.2.1 ∧
  x.1.2.1 = (Sp.createFile (s0, s1, s2, ()) (f0, f1, f2, f3, f4, ())).2.1 ∧ x.1.2.2.1 = (Sp.createFile (s0, s1, s2, ()) (f0, f1, f2, f3, f4, ())).2.2).2
  r) : XConOK prog G n_spec_CreateFile con_spec_CreateFile :=
  conX_ok env mixed (fn := f34) (c := codeOf f34) (by kernel_rfl) (by kernel_rfl) H_spec_CreateFile (by kernel_rfl) hne fun ⟨⟨s0, s1, s2, ⟨⟩⟩, ⟨f0, f1, f2, f3, f4, ⟨⟩⟩, ⟨⟩⟩ hin hp =>
  Eq.mpr ((by kernel_rfl : awp Θ Γ_spec_CreateFile H_spec_CreateFile (codeOf f34) (endsX Θ f34.results.toList sh_spec_CreateFile rsh_spec_CreateFile (F_spec_CreateFile ((s0, s1, s2, ()), (f0, f1, f2, f3, f4, ()), ())).2) (entryX f34.ntmps (xsVals sh_spec_CreateFile ((s0, s1, s2, ()), (f0, f1, f2, f3, f4, ()), ()))) = VC_spec_CreateFile s0 s1 s2 f0 f1 f2 f3 f4 fun (r : ((List (List UInt8 × Int × Unit) × List (Int × Int × Bool × Int × List (List UInt8 × Int × Int × List UInt8 × Unit) × Unit) × Int × Unit) × Int × Bool × Unit) × Unit) => (Sp.smallS (s0, s1, s2, ()) ∧ Sp.smallF (f0, f1, f2, f3, f4, ()),
  fun
  (x :
  ((List (List UInt8 × Int × Unit) × List (Int × Int × Bool × Int × List (List UInt8 × Int × Int × List UInt8 × Unit) × Unit) × Int × Unit) × Int × Bool × Unit) × Unit) =>
  x.1.1.1 = (Sp.createFile (s0, s1, s2, ()) (f0, f1, f2, f3, f4, ())).1.1 ∧
  x.1.1.2.1 = (Sp.createFile (s0, s1, s2, ()) (f0, f1, f2, f3, f4, ())).1.2.1 ∧
  x.1.1.2.2.1 = (Sp.createFile (s0, s1, s2, ()) (f0, f1, f2, f3, f4, ())).1.2.2.1 ∧
  x.1.2.1 = (Sp.createFile (s0, s1, s2, ()) (f0, f1, f2, f3, f4, ())).2.1 ∧ x.1.2.2.1 = (Sp.createFile (s0, s1, s2, ()) (f0, f1, f2, f3, f4, ())).2.2).2
  r)) (h s0 s1 s2 f0 f1 f2 f3 f4 hin hp)

def H_spec_ReplaceFile : Hints := Go.Fw.hints [8, 32, 8, 12, 14, 24, 32, 2] [] [] [] []
def VC_spec_ReplaceFile (s0 : List (List UInt8 × Int × Unit)) (s1 : List (Int × Int × Bool × Int × List (List UInt8 × Int × Int × List UInt8 × Unit) × Unit)) (s2 : Int) (f0 : Int) (f1 : Int) (f2 : Bool) (f3 : Int) (f4 : List (List UInt8 × Int × Int × List UInt8 × Unit)) (K : ((List (List UInt8 × Int × Unit) × List (Int × Int × Bool × Int × List (List UInt8 × Int × Int × List UInt8 × Unit) × Unit) × Int × Unit) × Bool × Unit) × Unit → Prop) : Prop :=
  Sp.smallS (s0, s1, s2, ()) ∧
  ∀ (r0 : ((List (List UInt8 × Int × Unit) × List (Int × Int × Bool × Int × List (List UInt8 × Int × Int × List UInt8 × Unit) × Unit) × Int × Unit) × Unit) × Unit),
  (r0.1.1.1, r0.1.1.2.1, r0.1.1.2.2.1, ()) = (s0, s1, s2, ()) →
  True ∧
 let r1 := Sp.place r0.1.1.2.1 f0;
  True ∧
 let r2 := Sp.okStore (r0.1.1.1, r0.1.1.2.1, r0.1.1.2.2.1, ());
  bif !r2 then K (((r0.1.1.1, r0.1.1.2.1, r0.1.1.2.2.1, ()), false, ()), ())
  else
  bif decide (r1 < (0 : Int)) then K (((r0.1.1.1, r0.1.1.2.1, r0.1.1.2.2.1, ()), false, ()), ())
  else
  True ∧
 let r3 := Sp.okFile r0.1.1.1 (f0, f1, f2, f3, f4, ());
  bif !r3 then K (((r0.1.1.1, r0.1.1.2.1, r0.1.1.2.2.1, ()), false, ()), ())
  else
  Sp.smallF (f0, f1, f2, f3, f4, ()) ∧
  ((0 : Int) ≤ r1 ∧ r1 < (↑(List.length r0.1.1.2.1) : Int)) ∧
  r1.toNat < List.length r0.1.1.2.1 ∧
  K (((r0.1.1.1, List.set r0.1.1.2.1 r1.toNat (f0, f1, f2, f3, f4, ()), r0.1.1.2.2.1, ()), true, ()), ())
theorem wk_spec_ReplaceFile (env : EnvB prog G Θ Γ_spec_ReplaceFile) (hne : ∀ x, (F_spec_ReplaceFile x).1 → ∃ t, (F_spec_ReplaceFile x).2 t) (h : ∀ (s0 : List (List UInt8 × Int × Unit)) (s1 : List (Int × Int × Bool × Int × List (List UInt8 × Int × Int × List UInt8 × Unit) × Unit)) (s2 : Int) (f0 : Int) (f1 : Int) (f2 : Bool) (f3 : Int) (f4 : List (List UInt8 × Int × Int × List UInt8 × Unit)), xsInR sh_spec_ReplaceFile ((s0, s1, s2, ()), (f0, f1, f2, f3, f4, ()), ()) → (Sp.smallS (s0, s1, s2, ()) ∧ Sp.smallF (f0, f1, f2, f3, f4, ())) → VC_spec_ReplaceFile s0 s1 s2 f0 f1 f2 f3 f4 fun (r : ((List (List UInt8 × Int × Unit) × List (Int × Int × Bool × Int × List (List UInt8 × Int × Int × List UInt8 × Unit) × Unit) × Int × Unit) × Bool × Unit) × Unit) => (Sp.smallS (s0, s1, s2, ()) ∧ Sp.smallF (f0, f1, f2, f3, f4, ()),
  fun (x : ((List (List UInt8 × Int × Unit) × List (Int × Int × Bool × Int × List (List UInt8 × Int × Int × List UInt8 × Unit) × Unit) × Int × Unit) × Bool × Unit) × Unit) =>
  x.1.1.1 = (Sp.replaceFile (s0, s1, s2, ()) (f0, f1, f2, f3, f4, ())).1.1 ∧
  x.1.1.2.1 = (Sp.replaceFile (s0, s1, s2, ()) (f0, f1, f2, f3, f4, ())).1.2.1 ∧
  x.1.1.2.2.1 = (Sp.replaceFile (s0, s1, s2, ()) (f0, f1, f2, f3, f4, ())).1.2.2.1 ∧
  x.1.2.1 = (Sp.replaceFile (s0, s1, s2, ()) (f0, f1, f2, f3, f4, ())).2).2
  r) : XConOK prog G n_spec_ReplaceFile con_spec_ReplaceFile :=
  conX_ok env mixed (fn := f37) (c := codeOf f37) (by kernel_rfl) (by kernel_rfl) H_spec_ReplaceFile (by kernel_rfl) hne fun ⟨⟨s0, s1, s2, ⟨⟩⟩, ⟨f0, f1, f2, f3, f4, ⟨⟩⟩, ⟨⟩⟩ hin hp =>
  Eq.mpr ((by kernel_rfl : awp Θ Γ_spec_ReplaceFile H_spec_ReplaceFile (codeOf f37) (endsX Θ f37.results.toList sh_spec_ReplaceFile rsh_spec_ReplaceFile (F_spec_ReplaceFile ((s0, s1, s2, ()), (f0, f1, f2, f3, f4, ()), ())).2) (entryX f37.ntmps (xsVals sh_spec_ReplaceFile ((s0, s1, s2, ()), (f0, f1, f2, f3, f4, ()), ()))) = VC_spec_ReplaceFile s0 s1 s2 f0 f1 f2 f3 f4 fun (r : ((List (List UInt8 × Int × Unit) × List (Int × Int × Bool × Int × List (List UInt8 × Int × Int × List UInt8 × Unit) × Unit) × Int × Unit) × Bool × Unit) × Unit) => (Sp.smallS (s0, s1, s2, ()) ∧ Sp.smallF (f0, f1, f2, f3, f4, ()),
  fun (x : ((List (List UInt8 × Int × Unit) × List (Int × Int × Bool × Int × List (List UInt8 × Int × Int × List UInt8 × Unit) × Unit) × Int × Unit) × Bool × Unit) × Unit) =>
  x.1.1.1 = (Sp.replaceFile (s0, s1, s2, ()) (f0, f1, f2, f3, f4, ())).1.1 ∧
  x.1.1.2.1 = (Sp.replaceFile (s0, s1, s2, ()) (f0, f1, f2, f3, f4, ())).1.2.1 ∧
  x.1.1.2.2.1 = (Sp.replaceFile (s0, s1, s2, ()) (f0, f1, f2, f3, f4, ())).1.2.2.1 ∧
  x.1.2.1 = (Sp.replaceFile (s0, s1, s2, ()) (f0, f1, f2, f3, f4, ())).2).2
  r)) (h s0 s1 s2 f0 f1 f2 f3 f4 hin hp)

def H_spec_DeleteFile : Hints := Go.Fw.hints [20, 8, 11, 13, 20, 2] [] [] [] [(5, [.still 514])]
def VC_spec_DeleteFile (s0 : List (List UInt8 × Int × Unit)) (s1 : List (Int × Int × Bool × Int × List (List UInt8 × Int × Int × List UInt8 × Unit) × Unit)) (s2 : Int) (id : Int) (K : ((List (List UInt8 × Int × Unit) × List (Int × Int × Bool × Int × List (List UInt8 × Int × Int × List UInt8 × Unit) × Unit) × Int × Unit) × Bool × Unit) × Unit → Prop) : Prop :=
  Sp.smallS (s0, s1, s2, ()) ∧
  ∀ (r0 : ((List (List UInt8 × Int × Unit) × List (Int × Int × Bool × Int × List (List UInt8 × Int × Int × List UInt8 × Unit) × Unit) × Int × Unit) × Unit) × Unit),
  (r0.1.1.1, r0.1.1.2.1, r0.1.1.2.2.1, ()) = (s0, s1, s2, ()) →
  True ∧
 let r1 := Sp.place r0.1.1.2.1 id;
  True ∧
 let r2 := Sp.okStore (r0.1.1.1, r0.1.1.2.1, r0.1.1.2.2.1, ());
  bif !r2 then K (((r0.1.1.1, r0.1.1.2.1, r0.1.1.2.2.1, ()), false, ()), ())
  else
  bif decide (r1 < (0 : Int)) then K (((r0.1.1.1, r0.1.1.2.1, r0.1.1.2.2.1, ()), false, ()), ())
  else
  ((0 : Int) ≤ r1 ∧ r1 ≤ (↑(List.length r0.1.1.2.1) : Int)) ∧
  (0 : Nat) + (List.drop (0 : Nat) (List.take r1.toNat r0.1.1.2.1)).length ≤ big ∧
  ((0 : Int) ≤ IntKind.i64.wrap (r1 + (1 : Int)) ∧ IntKind.i64.wrap (r1 + (1 : Int)) ≤ (↑(List.length r0.1.1.2.1) : Int)) ∧
  (List.drop (0 : Nat) (List.take r1.toNat r0.1.1.2.1)).length +
  (List.drop (IntKind.i64.wrap (r1 + (1 : Int))).toNat (List.take (List.length r0.1.1.2.1) r0.1.1.2.1)).length ≤
  big ∧
  K
  (((r0.1.1.1,
  List.drop (0 : Nat) (List.take r1.toNat r0.1.1.2.1) ++
  List.drop (IntKind.i64.wrap (r1 + (1 : Int))).toNat (List.take (List.length r0.1.1.2.1) r0.1.1.2.1),
  r0.1.1.2.2.1, ()),
  true, ()),
  ())
theorem wk_spec_DeleteFile (env : EnvB prog G Θ Γ_spec_DeleteFile) (hne : ∀ x, (F_spec_DeleteFile x).1 → ∃ t, (F_spec_DeleteFile x).2 t) (h : ∀ (s0 : List (List UInt8 × Int × Unit)) (s1 : List (Int × Int × Bool × Int × List (List UInt8 × Int × Int × List UInt8 × Unit) × Unit)) (s2 : Int) (id : Int), xsInR sh_spec_DeleteFile ((s0, s1, s2, ()), id, ()) → (Sp.smallS (s0, s1, s2, ())) → VC_spec_DeleteFile s0 s1 s2 id fun (r : ((List (List UInt8 × Int × Unit) × List (Int × Int × Bool × Int × List (List UInt8 × Int × Int × List UInt8 × Unit) × Unit) × Int × Unit) × Bool × Unit) × Unit) => (Sp.smallS (s0, s1, s2, ()),
  fun (x : ((List (List UInt8 × Int × Unit) × List (Int × Int × Bool × Int × List (List UInt8 × Int × Int × List UInt8 × Unit) × Unit) × Int × Unit) × Bool × Unit) × Unit) =>
  x.1.1.1 = (Sp.deleteFile (s0, s1, s2, ()) id).1.1 ∧
  x.1.1.2.1 = (Sp.deleteFile (s0, s1, s2, ()) id).1.2.1 ∧
  x.1.1.2.2.1 = (Sp.deleteFile (s0, s1, s2, ()) id).1.2.2.1 ∧ x.1.2.1 = (Sp.deleteFile (s0, s1, s2, ()) id).2).2
  r) : XConOK prog G n_spec_DeleteFile con_spec_DeleteFile :=
  conX_ok env mixed (fn := f40) (c := codeOf f40) (by kernel_rfl) (by kernel_rfl) H_spec_DeleteFile (by kernel_rfl) hne fun ⟨⟨s0, s1, s2, ⟨⟩⟩, id, ⟨⟩⟩ hin hp =>
  Eq.mpr ((by kernel_rfl : awp Θ Γ_spec_DeleteFile H_spec_DeleteFile (codeOf f40) (endsX Θ f40.results.toList sh_spec_DeleteFile rsh_spec_DeleteFile (F_spec_DeleteFile ((s0, s1, s2, ()), id, ())).2) (entryX f40.ntmps (xsVals sh_spec_DeleteFile ((s0, s1, s2, ()), id, ()))) = VC_spec_DeleteFile s0 s1 s2 id fun (r : ((List (List UInt8 × Int × Unit) × List (Int × Int × Bool × Int × List (List UInt8 × Int × Int × List UInt8 × Unit) × Unit) × Int × Unit) × Bool × Unit) × Unit) => (Sp.smallS (s0, s1, s2, ()),
  fun (x : ((List (List UInt8 × Int × Unit) × List (Int × Int × Bool × Int × List (List UInt8 × Int × Int × List UInt8 × Unit) × Unit) × Int × Unit) × Bool × Unit) × Unit) =>
  x.1.1.1 = (Sp.deleteFile (s0, s1, s2, ()) id).1.1 ∧
  x.1.1.2.1 = (Sp.deleteFile (s0, s1, s2, ()) id).1.2.1 ∧
  x.1.1.2.2.1 = (Sp.deleteFile (s0, s1, s2, ()) id).1.2.2.1 ∧ x.1.2.1 = (Sp.deleteFile (s0, s1, s2, ()) id).2).2
  r)) (h s0 s1 s2 id hin hp)

def H_spec_l05Store : Hints := Go.Fw.hints [6, 9, 18, 28, 37] [(3, ⟨[(.obj 192 0, 225, 26, (.cons .str (.cons (.int .i64) .nil)), true), (.obj 192 1, 226, 39, (.cons (.int .i64) (.cons (.int .i64) (.cons .bool (.cons (.int .i64) (.cons (.sl 116 (.cons .str (.cons (.int .i64) (.cons (.int .i64) (.cons .str .nil))))) .nil))))), true)], ⟨[(0, .vptr 48 0), (2, .vptr 128 0), (3, .vptr 192 0)], [(128, .var [.nil, .nil, .int .i64])]⟩, ⟨[(4, .one (.int .i64))], [(48, .var [.sl 5 (.cons (.int .u8) .nil) false, .int .i64, .int .i64]), (192, .var [.ref 225, .ref 226, .int .i64]), (225, .arr 26 (.cons .str (.cons (.int .i64) .nil)) true), (226, .arr 39 (.cons (.int .i64) (.cons (.int .i64) (.cons .bool (.cons (.int .i64) (.cons (.sl 116 (.cons .str (.cons (.int .i64) (.cons (.int .i64) (.cons .str .nil))))) .nil))))) true)]⟩⟩)] [] [48] []
def VC_spec_l05Store (c0 : List (Int × Unit)) (c1 : Int) (c2 : Int) (K : ((List (List UInt8 × Int × Unit) × List (Int × Int × Bool × Int × List (List UInt8 × Int × Int × List UInt8 × Unit) × Unit) × Int × Unit) × Unit) ×
  (List (Int × Unit) × Int × Int × Unit) × Unit → Prop) : Prop :=
  True ∧
  ∀ (r0 : (List (List UInt8 × Int × Unit) × Unit) × Unit),
  r0.1.1 = Sp.usual →
  List.length r0.1.1 ≤ (1000 : Nat) ∧
  ∀ (r1 : ((List (List UInt8 × Int × Unit) × List (Int × Int × Bool × Int × List (List UInt8 × Int × Int × List UInt8 × Unit) × Unit) × Int × Unit) × Unit) × Unit),
  r1.1.1.1 = r0.1.1 ∧ r1.1.1.2.1 = [] ∧ r1.1.1.2.2.1 = (1 : Int) →
 let s2 := (((), (), (), ()), ((), (), (0 : Int), ()), ());
  ∃ (I :
  (Int × Unit) ×
  (List (Int × Unit) × Int × Int × Unit) ×
  (Unit × Unit × Int × Unit) × List (List UInt8 × Int × Unit) × List (Int × Int × Bool × Int × List (List UInt8 × Int × Int × List UInt8 × Unit) × Unit) × Unit →
  Prop),
  ∃ (μ :
  (Int × Unit) ×
  (List (Int × Unit) × Int × Int × Unit) ×
  (Unit × Unit × Int × Unit) ×
  List (List UInt8 × Int × Unit) × List (Int × Int × Bool × Int × List (List UInt8 × Int × Int × List UInt8 × Unit) × Unit) × Unit →
  Nat),
  I (((0 : Int), ()), (c0, c1, c2, ()), ((), (), r1.1.1.2.2.1, ()), r1.1.1.1, r1.1.1.2.1, ()) ∧
  ∀
  (y3 :
  (Int × Unit) ×
  (List (Int × Unit) × Int × Int × Unit) ×
  (Unit × Unit × Int × Unit) ×
  List (List UInt8 × Int × Unit) × List (Int × Int × Bool × Int × List (List UInt8 × Int × Int × List UInt8 × Unit) × Unit) × Unit),
  I y3 →
  (0 : Int) ≤ y3.2.1.2.1 ∧
  ∀ (r4 : (Int × Unit) × (List (Int × Unit) × Int × Int × Unit) × Unit),
  (0 : Int) ≤ r4.2.1.2.1 ∧ (0 : Int) ≤ r4.1.1 ∧ ((0 : Int) < (7 : Int) → r4.1.1 < (7 : Int)) ∧ ((7 : Int) ≤ (0 : Int) → r4.1.1 = (0 : Int)) →
  bif decide (y3.1.1 < IntKind.i64.wrap ((1 : Int) + r4.1.1)) then
  (0 : Int) ≤ r4.2.1.2.1 ∧
  ∀
  (r5 :
  ((Int × Int × Bool × Int × List (List UInt8 × Int × Int × List UInt8 × Unit) × Unit) × Unit) × (List (Int × Unit) × Int × Int × Unit) × Unit),
  (0 : Int) ≤ r5.2.1.2.1 ∧
  r5.1.1.1 = (1 : Int) ∧
  (0 : Int) ≤ r5.1.1.2.1 ∧
  r5.1.1.2.1 ≤ (2 : Int) ∧
  (0 : Int) ≤ r5.1.1.2.2.2.1 ∧
  r5.1.1.2.2.2.1 ≤ (6 : Int) ∧ Sp.okAttrs Sp.usual r5.1.1.2.2.2.2.1 = true ∧ r5.1.1.2.2.2.2.1.length ≤ (4 : Nat) →
  (Sp.smallS (y3.2.2.2.1, y3.2.2.2.2.1, y3.2.2.1.2.2.1, ()) ∧
  Sp.smallF (r5.1.1.1, r5.1.1.2.1, r5.1.1.2.2.1, r5.1.1.2.2.2.1, r5.1.1.2.2.2.2.1, ())) ∧
  ∀
  (r6 :
  ((List (List UInt8 × Int × Unit) ×
  List (Int × Int × Bool × Int × List (List UInt8 × Int × Int × List UInt8 × Unit) × Unit) × Int × Unit) ×
  Int × Bool × Unit) ×
  Unit),
  r6.1.1.1 =
  (Sp.createFile (y3.2.2.2.1, y3.2.2.2.2.1, y3.2.2.1.2.2.1, ())
  (r5.1.1.1, r5.1.1.2.1, r5.1.1.2.2.1, r5.1.1.2.2.2.1, r5.1.1.2.2.2.2.1,
  ())).1.1 ∧
  r6.1.1.2.1 =
  (Sp.createFile (y3.2.2.2.1, y3.2.2.2.2.1, y3.2.2.1.2.2.1, ())
  (r5.1.1.1, r5.1.1.2.1, r5.1.1.2.2.1, r5.1.1.2.2.2.1, r5.1.1.2.2.2.2.1,
  ())).1.2.1 ∧
  r6.1.1.2.2.1 =
  (Sp.createFile (y3.2.2.2.1, y3.2.2.2.2.1, y3.2.2.1.2.2.1, ())
  (r5.1.1.1, r5.1.1.2.1, r5.1.1.2.2.1, r5.1.1.2.2.2.1, r5.1.1.2.2.2.2.1,
  ())).1.2.2.1 ∧
  r6.1.2.1 =
  (Sp.createFile (y3.2.2.2.1, y3.2.2.2.2.1, y3.2.2.1.2.2.1, ())
  (r5.1.1.1, r5.1.1.2.1, r5.1.1.2.2.1, r5.1.1.2.2.2.1, r5.1.1.2.2.2.2.1,
  ())).2.1 ∧
  r6.1.2.2.1 =
  (Sp.createFile (y3.2.2.2.1, y3.2.2.2.2.1, y3.2.2.1.2.2.1, ())
  (r5.1.1.1, r5.1.1.2.1, r5.1.1.2.2.1, r5.1.1.2.2.2.1, r5.1.1.2.2.2.2.1,
  ())).2.2 →
  s2 = s2 ∧
  I
  ((IntKind.i64.wrap (y3.1.1 + (1 : Int)), ()), (r5.2.1.1, r5.2.1.2.1, r5.2.1.2.2.1, ()),
  ((), (), r6.1.1.2.2.1, ()), r6.1.1.1, r6.1.1.2.1, ()) ∧
  μ
  ((IntKind.i64.wrap (y3.1.1 + (1 : Int)), ()), (r5.2.1.1, r5.2.1.2.1, r5.2.1.2.2.1, ()),
  ((), (), r6.1.1.2.2.1, ()), r6.1.1.1, r6.1.1.2.1, ()) <
  μ y3
  else
  bif decide ((↑(List.length y3.2.2.2.2.1) : Int) > (2 : Int)) then
  (0 : Int) ≤ r4.2.1.2.1 ∧
  ∀ (r7 : (Bool × Unit) × (List (Int × Unit) × Int × Int × Unit) × Unit),
  (r7.2.1.2.1 - (0 : Int)).NonNeg →
  bif r7.1.1 then
  ((0 : Int) ≤ (1 : Int) ∧ (1 : Int) < (↑(List.length y3.2.2.2.2.1) : Int)) ∧
  Int.toNat (1 : Int) < List.length y3.2.2.2.2.1 ∧
  Sp.smallS (y3.2.2.2.1, y3.2.2.2.2.1, y3.2.2.1.2.2.1, ()) ∧
  ∀
  (r8 :
  ((List (List UInt8 × Int × Unit) ×
  List (Int × Int × Bool × Int × List (List UInt8 × Int × Int × List UInt8 × Unit) × Unit) × Int × Unit) ×
  Bool × Unit) ×
  Unit),
  r8.1.1.1 =
  (Sp.deleteFile (y3.2.2.2.1, y3.2.2.2.2.1, y3.2.2.1.2.2.1, ())
  (List.getD y3.2.2.2.2.1 (Int.toNat (1 : Int)) ((0 : Int), (0 : Int), false, (0 : Int), [], ())).1).1.1 ∧
  r8.1.1.2.1 =
  (Sp.deleteFile (y3.2.2.2.1, y3.2.2.2.2.1, y3.2.2.1.2.2.1, ())
  (List.getD y3.2.2.2.2.1 (Int.toNat (1 : Int))
  ((0 : Int), (0 : Int), false, (0 : Int), [], ())).1).1.2.1 ∧
  r8.1.1.2.2.1 =
  (Sp.deleteFile (y3.2.2.2.1, y3.2.2.2.2.1, y3.2.2.1.2.2.1, ())
  (List.getD y3.2.2.2.2.1 (Int.toNat (1 : Int))
  ((0 : Int), (0 : Int), false, (0 : Int), [], ())).1).1.2.2.1 ∧
  r8.1.2.1 =
  (Sp.deleteFile (y3.2.2.2.1, y3.2.2.2.2.1, y3.2.2.1.2.2.1, ())
  (List.getD y3.2.2.2.2.1 (Int.toNat (1 : Int)) ((0 : Int), (0 : Int), false, (0 : Int), [], ())).1).2 →
  K
  (((r8.1.1.1, r8.1.1.2.1, r8.1.1.2.2.1, ()), ()),
  (r7.2.1.1, r7.2.1.2.1, r7.2.1.2.2.1, ()), ())
  else
  K
  (((y3.2.2.2.1, y3.2.2.2.2.1, y3.2.2.1.2.2.1, ()), ()),
  (r7.2.1.1, r7.2.1.2.1, r7.2.1.2.2.1, ()), ())
  else
  K
  (((y3.2.2.2.1, y3.2.2.2.2.1, y3.2.2.1.2.2.1, ()), ()),
  (r4.2.1.1, r4.2.1.2.1, r4.2.1.2.2.1, ()), ())
theorem wk_spec_l05Store (env : EnvB prog G Θ Γ_spec_l05Store) (hne : ∀ x, (F_spec_l05Store x).1 → ∃ t, (F_spec_l05Store x).2 t) (h : ∀ (c0 : List (Int × Unit)) (c1 : Int) (c2 : Int), xsInR sh_spec_l05Store ((c0, c1, c2, ()), ()) → ((0 : Int) ≤ c1) → VC_spec_l05Store c0 c1 c2 fun (r : ((List (List UInt8 × Int × Unit) × List (Int × Int × Bool × Int × List (List UInt8 × Int × Int × List UInt8 × Unit) × Unit) × Int × Unit) × Unit) ×
  (List (Int × Unit) × Int × Int × Unit) × Unit) => ((0 : Int) ≤ c1,
  fun
  (x :
  ((List (List UInt8 × Int × Unit) × List (Int × Int × Bool × Int × List (List UInt8 × Int × Int × List UInt8 × Unit) × Unit) × Int × Unit) × Unit) ×
  (List (Int × Unit) × Int × Int × Unit) × Unit) =>
  (0 : Int) ≤ x.2.1.2.1 ∧
  x.1.1.1 = Sp.usual ∧
  Sp.okStore (x.1.1.1, x.1.1.2.1, x.1.1.2.2.1, ()) = true ∧
  x.1.1.2.2.1 ≤ (↑x.1.1.2.1.length : Int) + (2 : Int) ∧ Sp.smallS (x.1.1.1, x.1.1.2.1, x.1.1.2.2.1, ())).2
  r) : XConOK prog G n_spec_l05Store con_spec_l05Store :=
  conX_ok env mixed (fn := f89) (c := codeOf f89) (by kernel_rfl) (by kernel_rfl) H_spec_l05Store (by kernel_rfl) hne fun ⟨⟨c0, c1, c2, ⟨⟩⟩, ⟨⟩⟩ hin hp =>
  Eq.mpr ((by kernel_rfl : awp Θ Γ_spec_l05Store H_spec_l05Store (codeOf f89) (endsX Θ f89.results.toList sh_spec_l05Store rsh_spec_l05Store (F_spec_l05Store ((c0, c1, c2, ()), ())).2) (entryX f89.ntmps (xsVals sh_spec_l05Store ((c0, c1, c2, ()), ()))) = VC_spec_l05Store c0 c1 c2 fun (r : ((List (List UInt8 × Int × Unit) × List (Int × Int × Bool × Int × List (List UInt8 × Int × Int × List UInt8 × Unit) × Unit) × Int × Unit) × Unit) ×
  (List (Int × Unit) × Int × Int × Unit) × Unit) => ((0 : Int) ≤ c1,
  fun
  (x :
  ((List (List UInt8 × Int × Unit) × List (Int × Int × Bool × Int × List (List UInt8 × Int × Int × List UInt8 × Unit) × Unit) × Int × Unit) × Unit) ×
  (List (Int × Unit) × Int × Int × Unit) × Unit) =>
  (0 : Int) ≤ x.2.1.2.1 ∧
  x.1.1.1 = Sp.usual ∧
  Sp.okStore (x.1.1.1, x.1.1.2.1, x.1.1.2.2.1, ()) = true ∧
  x.1.1.2.2.1 ≤ (↑x.1.1.2.1.length : Int) + (2 : Int) ∧ Sp.smallS (x.1.1.1, x.1.1.2.1, x.1.1.2.2.1, ())).2
  r)) (h c0 c1 c2 hin hp)

def H_spec_l05Any : Hints := Go.Fw.hints [5, 12, 26] [(10, ⟨[], ⟨[(0, .vptr 48 0), (2, .vptr 128 0), (3, .vptr 192 0), (28, .one (.bool))], [(128, .var [.nil, .nil, .int .i64])]⟩, ⟨[], [(48, .var [.sl 5 (.cons (.int .u8) .nil) false, .int .i64, .int .i64]), (192, .var [.sl 26 (.cons .str (.cons (.int .i64) .nil)) true, .sl 39 (.cons (.int .i64) (.cons (.int .i64) (.cons .bool (.cons (.int .i64) (.cons (.sl 116 (.cons .str (.cons (.int .i64) (.cons (.int .i64) (.cons .str .nil))))) .nil))))) true, .int .i64])]⟩⟩)] [] [48] []
def VC_spec_l05Any (c0 : List (Int × Unit)) (c1 : Int) (c2 : Int) (K : ((List (List UInt8 × Int × Unit) × List (Int × Int × Bool × Int × List (List UInt8 × Int × Int × List UInt8 × Unit) × Unit) × Int × Unit) × Unit) ×
  (List (Int × Unit) × Int × Int × Unit) × Unit → Prop) : Prop :=
  (0 : Int) ≤ c1 ∧
  ∀
  (r0 :
  ((List (List UInt8 × Int × Unit) × List (Int × Int × Bool × Int × List (List UInt8 × Int × Int × List UInt8 × Unit) × Unit) × Int × Unit) × Unit) ×
  (List (Int × Unit) × Int × Int × Unit) × Unit),
  (0 : Int) ≤ r0.2.1.2.1 ∧
  r0.1.1.1 = Sp.usual ∧
  Sp.okStore (r0.1.1.1, r0.1.1.2.1, r0.1.1.2.2.1, ()) = true ∧
  r0.1.1.2.2.1 ≤ (↑r0.1.1.2.1.length : Int) + (2 : Int) ∧ Sp.smallS (r0.1.1.1, r0.1.1.2.1, r0.1.1.2.2.1, ()) →
  (0 : Int) ≤ r0.2.1.2.1 ∧
  ∀ (r1 : (Int × Unit) × (List (Int × Unit) × Int × Int × Unit) × Unit),
  (0 : Int) ≤ r1.2.1.2.1 ∧ (0 : Int) ≤ r1.1.1 ∧ ((0 : Int) < (14 : Int) → r1.1.1 < (14 : Int)) ∧ ((14 : Int) ≤ (0 : Int) → r1.1.1 = (0 : Int)) →
  bif r1.1.1 == (0 : Int) then
  ((0 : Int) ≤ r1.2.1.2.1 ∧ [((0 : Int), ()), ((60 : Int), ()), ((61 : Int), ()), ((62 : Int), ())] ≠ []) ∧
  ∀ (r2 : (Int × Unit) × (List (Int × Unit) × Int × Int × Unit) × Unit),
  (0 : Int) ≤ r2.2.1.2.1 ∧ (r2.1.1, ()) ∈ [((0 : Int), ()), ((60 : Int), ()), ((61 : Int), ()), ((62 : Int), ())] →
  K (((r0.1.1.1, r0.1.1.2.1, r2.1.1, ()), ()), (r2.2.1.1, r2.2.1.2.1, r2.2.1.2.2.1, ()), ())
  else
  bif r1.1.1 == (1 : Int) then
  (0 : Int) ≤ r1.2.1.2.1 ∧
  ∀ (r3 : ((Int × Int × Bool × Int × List (List UInt8 × Int × Int × List UInt8 × Unit) × Unit) × Unit) × (List (Int × Unit) × Int × Int × Unit) × Unit),
  (0 : Int) ≤ r3.2.1.2.1 ∧ r3.1.1.2.2.2.2.1.length ≤ (10 : Nat) →
  List.length r0.1.1.2.1 +
  [(r3.1.1.1, r3.1.1.2.1, r3.1.1.2.2.1, r3.1.1.2.2.2.1, r3.1.1.2.2.2.2.1, ())].length ≤
  big ∧
  K
  (((r0.1.1.1,
  r0.1.1.2.1 ++
  [(r3.1.1.1, r3.1.1.2.1, r3.1.1.2.2.1, r3.1.1.2.2.2.1, r3.1.1.2.2.2.2.1, ())],
  r0.1.1.2.2.1, ()),
  ()),
  (r3.2.1.1, r3.2.1.2.1, r3.2.1.2.2.1, ()), ())
  else
  bif r1.1.1 == (2 : Int) then
  (0 : Int) ≤ r1.2.1.2.1 ∧
  ∀ (r4 : (List (List UInt8 × Int × Unit) × Unit) × (List (Int × Unit) × Int × Int × Unit) × Unit),
  (0 : Int) ≤ r4.2.1.2.1 ∧ r4.1.1.length ≤ (6 : Nat) →
  K (((r4.1.1, r0.1.1.2.1, r0.1.1.2.2.1, ()), ()), (r4.2.1.1, r4.2.1.2.1, r4.2.1.2.2.1, ()), ())
  else
  bif r1.1.1 == (3 : Int) then
 let s5 := (((), (), (), r1.1.1 == (3 : Int), ()), ((), (), (0 : Int), ()), ());
  ∃ (I :
  Unit ×
  (List (Int × Unit) × Int × Int × Unit) ×
  (List (List UInt8 × Int × Unit) × List (Int × Int × Bool × Int × List (List UInt8 × Int × Int × List UInt8 × Unit) × Unit) × Int × Unit) × Unit →
  Prop),
  ∃ (μ :
  Unit ×
  (List (Int × Unit) × Int × Int × Unit) ×
  (List (List UInt8 × Int × Unit) × List (Int × Int × Bool × Int × List (List UInt8 × Int × Int × List UInt8 × Unit) × Unit) × Int × Unit) × Unit →
  Nat),
  I ((), (r1.2.1.1, r1.2.1.2.1, r1.2.1.2.2.1, ()), (r0.1.1.1, r0.1.1.2.1, r0.1.1.2.2.1, ()), ()) ∧
  ∀
  (y6 :
  Unit ×
  (List (Int × Unit) × Int × Int × Unit) ×
  (List (List UInt8 × Int × Unit) × List (Int × Int × Bool × Int × List (List UInt8 × Int × Int × List UInt8 × Unit) × Unit) × Int × Unit) × Unit),
  I y6 →
  bif decide ((↑(List.length y6.2.2.1.2.1) : Int) < (12 : Int)) then
  (0 : Int) ≤ y6.2.1.2.1 ∧
  ∀
  (r7 :
  ((Int × Int × Bool × Int × List (List UInt8 × Int × Int × List UInt8 × Unit) × Unit) × Unit) × (List (Int × Unit) × Int × Int × Unit) × Unit),
  (0 : Int) ≤ r7.2.1.2.1 ∧
  r7.1.1.1 = (1 : Int) ∧
  (0 : Int) ≤ r7.1.1.2.1 ∧
  r7.1.1.2.1 ≤ (2 : Int) ∧
  (0 : Int) ≤ r7.1.1.2.2.2.1 ∧
  r7.1.1.2.2.2.1 ≤ (6 : Int) ∧ Sp.okAttrs Sp.usual r7.1.1.2.2.2.2.1 = true ∧ r7.1.1.2.2.2.2.1.length ≤ (4 : Nat) →
  (Sp.smallS (y6.2.2.1.1, y6.2.2.1.2.1, y6.2.2.1.2.2.1, ()) ∧
  Sp.smallF (r7.1.1.1, r7.1.1.2.1, r7.1.1.2.2.1, r7.1.1.2.2.2.1, r7.1.1.2.2.2.2.1, ())) ∧
  ∀
  (r8 :
  ((List (List UInt8 × Int × Unit) ×
  List (Int × Int × Bool × Int × List (List UInt8 × Int × Int × List UInt8 × Unit) × Unit) × Int × Unit) ×
  Int × Bool × Unit) ×
  Unit),
  r8.1.1.1 =
  (Sp.createFile (y6.2.2.1.1, y6.2.2.1.2.1, y6.2.2.1.2.2.1, ())
  (r7.1.1.1, r7.1.1.2.1, r7.1.1.2.2.1, r7.1.1.2.2.2.1, r7.1.1.2.2.2.2.1,
  ())).1.1 ∧
  r8.1.1.2.1 =
  (Sp.createFile (y6.2.2.1.1, y6.2.2.1.2.1, y6.2.2.1.2.2.1, ())
  (r7.1.1.1, r7.1.1.2.1, r7.1.1.2.2.1, r7.1.1.2.2.2.1, r7.1.1.2.2.2.2.1,
  ())).1.2.1 ∧
  r8.1.1.2.2.1 =
  (Sp.createFile (y6.2.2.1.1, y6.2.2.1.2.1, y6.2.2.1.2.2.1, ())
  (r7.1.1.1, r7.1.1.2.1, r7.1.1.2.2.1, r7.1.1.2.2.2.1,
  r7.1.1.2.2.2.2.1, ())).1.2.2.1 ∧
  r8.1.2.1 =
  (Sp.createFile (y6.2.2.1.1, y6.2.2.1.2.1, y6.2.2.1.2.2.1, ())
  (r7.1.1.1, r7.1.1.2.1, r7.1.1.2.2.1, r7.1.1.2.2.2.1, r7.1.1.2.2.2.2.1,
  ())).2.1 ∧
  r8.1.2.2.1 =
  (Sp.createFile (y6.2.2.1.1, y6.2.2.1.2.1, y6.2.2.1.2.2.1, ())
  (r7.1.1.1, r7.1.1.2.1, r7.1.1.2.2.1, r7.1.1.2.2.2.1, r7.1.1.2.2.2.2.1,
  ())).2.2 →
  s5 = s5 ∧
  I
  ((), (r7.2.1.1, r7.2.1.2.1, r7.2.1.2.2.1, ()),
  (r8.1.1.1, r8.1.1.2.1, r8.1.1.2.2.1, ()), ()) ∧
  μ
  ((), (r7.2.1.1, r7.2.1.2.1, r7.2.1.2.2.1, ()),
  (r8.1.1.1, r8.1.1.2.1, r8.1.1.2.2.1, ()), ()) <
  μ y6
  else
  K
  (((y6.2.2.1.1, y6.2.2.1.2.1, y6.2.2.1.2.2.1, ()), ()),
  (y6.2.1.1, y6.2.1.2.1, y6.2.1.2.2.1, ()), ())
  else K (((r0.1.1.1, r0.1.1.2.1, r0.1.1.2.2.1, ()), ()), (r1.2.1.1, r1.2.1.2.1, r1.2.1.2.2.1, ()), ())
theorem wk_spec_l05Any (env : EnvB prog G Θ Γ_spec_l05Any) (hne : ∀ x, (F_spec_l05Any x).1 → ∃ t, (F_spec_l05Any x).2 t) (h : ∀ (c0 : List (Int × Unit)) (c1 : Int) (c2 : Int), xsInR sh_spec_l05Any ((c0, c1, c2, ()), ()) → ((0 : Int) ≤ c1) → VC_spec_l05Any c0 c1 c2 fun (r : ((List (List UInt8 × Int × Unit) × List (Int × Int × Bool × Int × List (List UInt8 × Int × Int × List UInt8 × Unit) × Unit) × Int × Unit) × Unit) ×
  (List (Int × Unit) × Int × Int × Unit) × Unit) => ((0 : Int) ≤ c1,
  fun
  (x :
  ((List (List UInt8 × Int × Unit) × List (Int × Int × Bool × Int × List (List UInt8 × Int × Int × List UInt8 × Unit) × Unit) × Int × Unit) × Unit) ×
  (List (Int × Unit) × Int × Int × Unit) × Unit) =>
  (0 : Int) ≤ x.2.1.2.1 ∧ Sp.smallS (x.1.1.1, x.1.1.2.1, x.1.1.2.2.1, ())).2
  r) : XConOK prog G n_spec_l05Any con_spec_l05Any :=
  conX_ok env mixed (fn := f74) (c := codeOf f74) (by kernel_rfl) (by kernel_rfl) H_spec_l05Any (by kernel_rfl) hne fun ⟨⟨c0, c1, c2, ⟨⟩⟩, ⟨⟩⟩ hin hp =>
  Eq.mpr ((by kernel_rfl : awp Θ Γ_spec_l05Any H_spec_l05Any (codeOf f74) (endsX Θ f74.results.toList sh_spec_l05Any rsh_spec_l05Any (F_spec_l05Any ((c0, c1, c2, ()), ())).2) (entryX f74.ntmps (xsVals sh_spec_l05Any ((c0, c1, c2, ()), ()))) = VC_spec_l05Any c0 c1 c2 fun (r : ((List (List UInt8 × Int × Unit) × List (Int × Int × Bool × Int × List (List UInt8 × Int × Int × List UInt8 × Unit) × Unit) × Int × Unit) × Unit) ×
  (List (Int × Unit) × Int × Int × Unit) × Unit) => ((0 : Int) ≤ c1,
  fun
  (x :
  ((List (List UInt8 × Int × Unit) × List (Int × Int × Bool × Int × List (List UInt8 × Int × Int × List UInt8 × Unit) × Unit) × Int × Unit) × Unit) ×
  (List (Int × Unit) × Int × Int × Unit) × Unit) =>
  (0 : Int) ≤ x.2.1.2.1 ∧ Sp.smallS (x.1.1.1, x.1.1.2.1, x.1.1.2.2.1, ())).2
  r)) (h c0 c1 c2 hin hp)

def H_spec_l06User : Hints := Go.Fw.hints [] [] [] [] []
def VC_spec_l06User (c0 : List (Int × Unit)) (c1 : Int) (c2 : Int) (K : (Int × Unit) × (List (Int × Unit) × Int × Int × Unit) × Unit → Prop) : Prop :=
  ((0 : Int) ≤ c1 ∧ [((0 : Int), ()), ((1 : Int), ()), ((2 : Int), ()), ((0 : Int), ()), ((1 : Int), ()), ((3 : Int), ()), ((-1 : Int), ())] ≠ []) ∧
  ∀ (r0 : (Int × Unit) × (List (Int × Unit) × Int × Int × Unit) × Unit),
  (0 : Int) ≤ r0.2.1.2.1 ∧ (r0.1.1, ()) ∈ [((0 : Int), ()), ((1 : Int), ()), ((2 : Int), ()), ((0 : Int), ()), ((1 : Int), ()), ((3 : Int), ()), ((-1 : Int), ())] →
  K ((r0.1.1, ()), (r0.2.1.1, r0.2.1.2.1, r0.2.1.2.2.1, ()), ())
theorem wk_spec_l06User (env : EnvB prog G Θ Γ_spec_l06User) (hne : ∀ x, (F_spec_l06User x).1 → ∃ t, (F_spec_l06User x).2 t) (h : ∀ (c0 : List (Int × Unit)) (c1 : Int) (c2 : Int), xsInR sh_spec_l06User ((c0, c1, c2, ()), ()) → ((0 : Int) ≤ c1) → VC_spec_l06User c0 c1 c2 fun (r : (Int × Unit) × (List (Int × Unit) × Int × Int × Unit) × Unit) => ((0 : Int) ≤ c1, fun (x : (Int × Unit) × (List (Int × Unit) × Int × Int × Unit) × Unit) => (x.2.1.2.1 - (0 : Int)).NonNeg).2 r) : XConOK prog G n_spec_l06User con_spec_l06User :=
  conX_ok env mixed (fn := f73) (c := codeOf f73) (by kernel_rfl) (by kernel_rfl) H_spec_l06User (by kernel_rfl) hne fun ⟨⟨c0, c1, c2, ⟨⟩⟩, ⟨⟩⟩ hin hp =>
  Eq.mpr ((by kernel_rfl : awp Θ Γ_spec_l06User H_spec_l06User (codeOf f73) (endsX Θ f73.results.toList sh_spec_l06User rsh_spec_l06User (F_spec_l06User ((c0, c1, c2, ()), ())).2) (entryX f73.ntmps (xsVals sh_spec_l06User ((c0, c1, c2, ()), ()))) = VC_spec_l06User c0 c1 c2 fun (r : (Int × Unit) × (List (Int × Unit) × Int × Int × Unit) × Unit) => ((0 : Int) ≤ c1, fun (x : (Int × Unit) × (List (Int × Unit) × Int × Int × Unit) × Unit) => (x.2.1.2.1 - (0 : Int)).NonNeg).2 r)) (h c0 c1 c2 hin hp)

def H_spec_DrawCanRead : Hints := Go.Fw.hints [] [] [] [] []
def VC_spec_DrawCanRead (code : List (Int × Unit)) (K : ((Int × Int × Bool × Int × List (List UInt8 × Int × Int × List UInt8 × Unit) × Unit) × Int × Unit) × Unit → Prop) : Prop :=
  code.length ≤ (1048576 : Nat) ∧
  ∀ (r0 : List (Int × Unit) × Int × Int × Unit),
  r0.2.1 = (0 : Int) →
  (0 : Int) ≤ r0.2.1 ∧
  ∀ (r1 : ((Int × Int × Bool × Int × List (List UInt8 × Int × Int × List UInt8 × Unit) × Unit) × Unit) × (List (Int × Unit) × Int × Int × Unit) × Unit),
  (0 : Int) ≤ r1.2.1.2.1 ∧ r1.1.1.2.2.2.2.1.length ≤ (10 : Nat) →
  (0 : Int) ≤ r1.2.1.2.1 ∧
  ∀ (r2 : (Int × Unit) × (List (Int × Unit) × Int × Int × Unit) × Unit),
  (r2.2.1.2.1 - (0 : Int)).NonNeg →
  K (((r1.1.1.1, r1.1.1.2.1, r1.1.1.2.2.1, r1.1.1.2.2.2.1, r1.1.1.2.2.2.2.1, ()), r2.1.1, ()), ())
theorem wk_spec_DrawCanRead (env : EnvB prog G Θ Γ_spec_DrawCanRead) (hne : ∀ x, (F_spec_DrawCanRead x).1 → ∃ t, (F_spec_DrawCanRead x).2 t) (h : ∀ (code : List (Int × Unit)), xsInR sh_spec_DrawCanRead (code, ()) → (code.length ≤ (1048576 : Nat)) → VC_spec_DrawCanRead code fun (r : ((Int × Int × Bool × Int × List (List UInt8 × Int × Int × List UInt8 × Unit) × Unit) × Int × Unit) × Unit) => (code.length ≤ (1048576 : Nat), fun (x : ((Int × Int × Bool × Int × List (List UInt8 × Int × Int × List UInt8 × Unit) × Unit) × Int × Unit) × Unit) =>
  Sp.smallF (x.1.1.1, x.1.1.2.1, x.1.1.2.2.1, x.1.1.2.2.2.1, x.1.1.2.2.2.2.1, ())).2
  r) : XConOK prog G n_spec_DrawCanRead con_spec_DrawCanRead :=
  conX_ok env mixed (fn := f18) (c := codeOf f18) (by kernel_rfl) (by kernel_rfl) H_spec_DrawCanRead (by kernel_rfl) hne fun ⟨code, ⟨⟩⟩ hin hp =>
  Eq.mpr ((by kernel_rfl : awp Θ Γ_spec_DrawCanRead H_spec_DrawCanRead (codeOf f18) (endsX Θ f18.results.toList sh_spec_DrawCanRead rsh_spec_DrawCanRead (F_spec_DrawCanRead (code, ())).2) (entryX f18.ntmps (xsVals sh_spec_DrawCanRead (code, ()))) = VC_spec_DrawCanRead code fun (r : ((Int × Int × Bool × Int × List (List UInt8 × Int × Int × List UInt8 × Unit) × Unit) × Int × Unit) × Unit) => (code.length ≤ (1048576 : Nat), fun (x : ((Int × Int × Bool × Int × List (List UInt8 × Int × Int × List UInt8 × Unit) × Unit) × Int × Unit) × Unit) =>
  Sp.smallF (x.1.1.1, x.1.1.2.1, x.1.1.2.2.1, x.1.1.2.2.2.1, x.1.1.2.2.2.2.1, ())).2
  r)) (h code hin hp)

def H_spec_DrawVisibleStore : Hints := Go.Fw.hints [] [] [] [] []
def VC_spec_DrawVisibleStore (code : List (Int × Unit)) (K : ((List (List UInt8 × Int × Unit) × List (Int × Int × Bool × Int × List (List UInt8 × Int × Int × List UInt8 × Unit) × Unit) × Int × Unit) × Int × Unit) × Unit → Prop) : Prop :=
  code.length ≤ (1048576 : Nat) ∧
  ∀ (r0 : List (Int × Unit) × Int × Int × Unit),
  r0.2.1 = (0 : Int) →
  (0 : Int) ≤ r0.2.1 ∧
  ∀
  (r1 :
  ((List (List UInt8 × Int × Unit) × List (Int × Int × Bool × Int × List (List UInt8 × Int × Int × List UInt8 × Unit) × Unit) × Int × Unit) × Unit) ×
  (List (Int × Unit) × Int × Int × Unit) × Unit),
  (0 : Int) ≤ r1.2.1.2.1 ∧ Sp.smallS (r1.1.1.1, r1.1.1.2.1, r1.1.1.2.2.1, ()) →
  (0 : Int) ≤ r1.2.1.2.1 ∧
  ∀ (r2 : (Int × Unit) × (List (Int × Unit) × Int × Int × Unit) × Unit),
  (r2.2.1.2.1 - (0 : Int)).NonNeg → K (((r1.1.1.1, r1.1.1.2.1, r1.1.1.2.2.1, ()), r2.1.1, ()), ())
theorem wk_spec_DrawVisibleStore (env : EnvB prog G Θ Γ_spec_DrawVisibleStore) (hne : ∀ x, (F_spec_DrawVisibleStore x).1 → ∃ t, (F_spec_DrawVisibleStore x).2 t) (h : ∀ (code : List (Int × Unit)), xsInR sh_spec_DrawVisibleStore (code, ()) → (code.length ≤ (1048576 : Nat)) → VC_spec_DrawVisibleStore code fun (r : ((List (List UInt8 × Int × Unit) × List (Int × Int × Bool × Int × List (List UInt8 × Int × Int × List UInt8 × Unit) × Unit) × Int × Unit) × Int × Unit) × Unit) => (code.length ≤ (1048576 : Nat),
  fun (x : ((List (List UInt8 × Int × Unit) × List (Int × Int × Bool × Int × List (List UInt8 × Int × Int × List UInt8 × Unit) × Unit) × Int × Unit) × Int × Unit) × Unit) =>
  Sp.smallS (x.1.1.1, x.1.1.2.1, x.1.1.2.2.1, ())).2
  r) : XConOK prog G n_spec_DrawVisibleStore con_spec_DrawVisibleStore :=
  conX_ok env mixed (fn := f19) (c := codeOf f19) (by kernel_rfl) (by kernel_rfl) H_spec_DrawVisibleStore (by kernel_rfl) hne fun ⟨code, ⟨⟩⟩ hin hp =>
  Eq.mpr ((by kernel_rfl : awp Θ Γ_spec_DrawVisibleStore H_spec_DrawVisibleStore (codeOf f19) (endsX Θ f19.results.toList sh_spec_DrawVisibleStore rsh_spec_DrawVisibleStore (F_spec_DrawVisibleStore (code, ())).2) (entryX f19.ntmps (xsVals sh_spec_DrawVisibleStore (code, ()))) = VC_spec_DrawVisibleStore code fun (r : ((List (List UInt8 × Int × Unit) × List (Int × Int × Bool × Int × List (List UInt8 × Int × Int × List UInt8 × Unit) × Unit) × Int × Unit) × Int × Unit) × Unit) => (code.length ≤ (1048576 : Nat),
  fun (x : ((List (List UInt8 × Int × Unit) × List (Int × Int × Bool × Int × List (List UInt8 × Int × Int × List UInt8 × Unit) × Unit) × Int × Unit) × Int × Unit) × Unit) =>
  Sp.smallS (x.1.1.1, x.1.1.2.1, x.1.1.2.2.1, ())).2
  r)) (h code hin hp)

def H_spec_DrawEqualForUser : Hints := Go.Fw.hints [] [] [] [576] []
def VC_spec_DrawEqualForUser (code : List (Int × Unit)) (K : ((List (List UInt8 × Int × Unit) × List (Int × Int × Bool × Int × List (List UInt8 × Int × Int × List UInt8 × Unit) × Unit) × Int × Unit) ×
  (List (List UInt8 × Int × Unit) × List (Int × Int × Bool × Int × List (List UInt8 × Int × Int × List UInt8 × Unit) × Unit) × Int × Unit) × Int × Unit) ×
  Unit → Prop) : Prop :=
  code.length ≤ (1048576 : Nat) ∧
  ∀ (r0 : List (Int × Unit) × Int × Int × Unit),
  r0.2.1 = (0 : Int) →
  (0 : Int) ≤ r0.2.1 ∧
  ∀
  (r1 :
  ((List (List UInt8 × Int × Unit) × List (Int × Int × Bool × Int × List (List UInt8 × Int × Int × List UInt8 × Unit) × Unit) × Int × Unit) × Unit) ×
  (List (Int × Unit) × Int × Int × Unit) × Unit),
  (0 : Int) ≤ r1.2.1.2.1 ∧
  r1.1.1.1 = Sp.usual ∧
  Sp.okStore (r1.1.1.1, r1.1.1.2.1, r1.1.1.2.2.1, ()) = true ∧
  r1.1.1.2.2.1 ≤ (↑r1.1.1.2.1.length : Int) + (2 : Int) ∧ Sp.smallS (r1.1.1.1, r1.1.1.2.1, r1.1.1.2.2.1, ()) →
  (0 : Int) ≤ r1.2.1.2.1 ∧
  ∀ (r2 : (Int × Unit) × (List (Int × Unit) × Int × Int × Unit) × Unit),
  (0 : Int) ≤ r2.2.1.2.1 ∧ (0 : Int) ≤ r2.1.1 ∧ ((0 : Int) < (3 : Int) → r2.1.1 < (3 : Int)) ∧ ((3 : Int) ≤ (0 : Int) → r2.1.1 = (0 : Int)) →
  (0 : Int) ≤ r2.2.1.2.1 ∧
  ∀ (r3 : (Bool × Unit) × (List (Int × Unit) × Int × Int × Unit) × Unit),
  (r3.2.1.2.1 - (0 : Int)).NonNeg →
  bif r3.1.1 then
  (0 : Int) ≤ r3.2.1.2.1 ∧
  ∀
  (r4 :
  ((List (List UInt8 × Int × Unit) × List (Int × Int × Bool × Int × List (List UInt8 × Int × Int × List UInt8 × Unit) × Unit) × Int × Unit) × Unit) ×
  (List (Int × Unit) × Int × Int × Unit) × Unit),
  (0 : Int) ≤ r4.2.1.2.1 ∧ Sp.smallS (r4.1.1.1, r4.1.1.2.1, r4.1.1.2.2.1, ()) →
  (0 : Int) ≤ r4.2.1.2.1 ∧
  ∀ (r5 : (Int × Unit) × (List (Int × Unit) × Int × Int × Unit) × Unit),
  (r5.2.1.2.1 - (0 : Int)).NonNeg →
  K
  (((r1.1.1.1, r1.1.1.2.1, r1.1.1.2.2.1, ()), (r4.1.1.1, r4.1.1.2.1, r4.1.1.2.2.1, ()),
  r5.1.1, ()),
  ())
  else
  ((0 : Int) ≤ r3.2.1.2.1 ∧
  (0 : Int) ≤ r2.1.1 ∧ r2.1.1 ≤ (2 : Int) ∧ Sp.smallS (r1.1.1.1, r1.1.1.2.1, r1.1.1.2.2.1, ())) ∧
  ∀
  (r6 :
  ((List (List UInt8 × Int × Unit) × List (Int × Int × Bool × Int × List (List UInt8 × Int × Int × List UInt8 × Unit) × Unit) × Int × Unit) × Unit) ×
  (List (Int × Unit) × Int × Int × Unit) × Unit),
  (0 : Int) ≤ r6.2.1.2.1 ∧ Sp.smallS (r6.1.1.1, r6.1.1.2.1, r6.1.1.2.2.1, ()) →
  K
  (((r1.1.1.1, r1.1.1.2.1, r1.1.1.2.2.1, ()), (r6.1.1.1, r6.1.1.2.1, r6.1.1.2.2.1, ()), r2.1.1,
  ()),
  ())
theorem wk_spec_DrawEqualForUser (env : EnvB prog G Θ Γ_spec_DrawEqualForUser) (hne : ∀ x, (F_spec_DrawEqualForUser x).1 → ∃ t, (F_spec_DrawEqualForUser x).2 t) (h : ∀ (code : List (Int × Unit)), xsInR sh_spec_DrawEqualForUser (code, ()) → (code.length ≤ (1048576 : Nat)) → VC_spec_DrawEqualForUser code fun (r : ((List (List UInt8 × Int × Unit) × List (Int × Int × Bool × Int × List (List UInt8 × Int × Int × List UInt8 × Unit) × Unit) × Int × Unit) ×
  (List (List UInt8 × Int × Unit) × List (Int × Int × Bool × Int × List (List UInt8 × Int × Int × List UInt8 × Unit) × Unit) × Int × Unit) × Int × Unit) ×
  Unit) => (code.length ≤ (1048576 : Nat),
  fun
  (x :
  ((List (List UInt8 × Int × Unit) × List (Int × Int × Bool × Int × List (List UInt8 × Int × Int × List UInt8 × Unit) × Unit) × Int × Unit) ×
  (List (List UInt8 × Int × Unit) × List (Int × Int × Bool × Int × List (List UInt8 × Int × Int × List UInt8 × Unit) × Unit) × Int × Unit) × Int × Unit) ×
  Unit) =>
  Sp.smallS (x.1.1.1, x.1.1.2.1, x.1.1.2.2.1, ()) ∧ Sp.smallS (x.1.2.1.1, x.1.2.1.2.1, x.1.2.1.2.2.1, ())).2
  r) : XConOK prog G n_spec_DrawEqualForUser con_spec_DrawEqualForUser :=
  conX_ok env mixed (fn := f44) (c := codeOf f44) (by kernel_rfl) (by kernel_rfl) H_spec_DrawEqualForUser (by kernel_rfl) hne fun ⟨code, ⟨⟩⟩ hin hp =>
  Eq.mpr ((by kernel_rfl : awp Θ Γ_spec_DrawEqualForUser H_spec_DrawEqualForUser (codeOf f44) (endsX Θ f44.results.toList sh_spec_DrawEqualForUser rsh_spec_DrawEqualForUser (F_spec_DrawEqualForUser (code, ())).2) (entryX f44.ntmps (xsVals sh_spec_DrawEqualForUser (code, ()))) = VC_spec_DrawEqualForUser code fun (r : ((List (List UInt8 × Int × Unit) × List (Int × Int × Bool × Int × List (List UInt8 × Int × Int × List UInt8 × Unit) × Unit) × Int × Unit) ×
  (List (List UInt8 × Int × Unit) × List (Int × Int × Bool × Int × List (List UInt8 × Int × Int × List UInt8 × Unit) × Unit) × Int × Unit) × Int × Unit) ×
  Unit) => (code.length ≤ (1048576 : Nat),
  fun
  (x :
  ((List (List UInt8 × Int × Unit) × List (Int × Int × Bool × Int × List (List UInt8 × Int × Int × List UInt8 × Unit) × Unit) × Int × Unit) ×
  (List (List UInt8 × Int × Unit) × List (Int × Int × Bool × Int × List (List UInt8 × Int × Int × List UInt8 × Unit) × Unit) × Int × Unit) × Int × Unit) ×
  Unit) =>
  Sp.smallS (x.1.1.1, x.1.1.2.1, x.1.1.2.2.1, ()) ∧ Sp.smallS (x.1.2.1.1, x.1.2.1.2.1, x.1.2.1.2.2.1, ())).2
  r)) (h code hin hp)

def H_laws_FnHiddenChanges : Hints := Go.Fw.hints [] [] [] [] []
def VC_laws_FnHiddenChanges (code : List (Int × Unit)) (K : Bool × Unit → Prop) : Prop :=
  True ∧
 let r0 := decide ((1048576 : Int) < (↑code.length : Int));
  bif r0 then K (true, ())
  else
  code.length ≤ (1048576 : Nat) ∧
  ∀
  (r1 :
  ((List (List UInt8 × Int × Unit) × List (Int × Int × Bool × Int × List (List UInt8 × Int × Int × List UInt8 × Unit) × Unit) × Int × Unit) ×
  (List (List UInt8 × Int × Unit) × List (Int × Int × Bool × Int × List (List UInt8 × Int × Int × List UInt8 × Unit) × Unit) × Int × Unit) × Int × Unit) ×
  Unit),
  Sp.smallS (r1.1.1.1, r1.1.1.2.1, r1.1.1.2.2.1, ()) ∧ Sp.smallS (r1.1.2.1.1, r1.1.2.1.2.1, r1.1.2.1.2.2.1, ()) →
  (Sp.smallS (r1.1.1.1, r1.1.1.2.1, r1.1.1.2.2.1, ()) ∧ Sp.smallS (r1.1.2.1.1, r1.1.2.1.2.1, r1.1.2.1.2.2.1, ())) ∧
 let r2 :=
  decide
  ((Sp.visible (r1.1.1.1, r1.1.1.2.1, r1.1.1.2.2.1, ()) r1.1.2.2.1).1 =
  (Sp.visible (r1.1.2.1.1, r1.1.2.1.2.1, r1.1.2.1.2.2.1, ()) r1.1.2.2.1).1) &&
  decide
  ((Sp.visible (r1.1.1.1, r1.1.1.2.1, r1.1.1.2.2.1, ()) r1.1.2.2.1).2.1 =
  (Sp.visible (r1.1.2.1.1, r1.1.2.1.2.1, r1.1.2.1.2.2.1, ()) r1.1.2.2.1).2.1);
  Sp.smallS (r1.1.1.1, r1.1.1.2.1, r1.1.1.2.2.1, ()) ∧
 let r3 := (Sp.visible (r1.1.1.1, r1.1.1.2.1, r1.1.1.2.2.1, ()) r1.1.2.2.1).1;
 let r4 := (Sp.visible (r1.1.1.1, r1.1.1.2.1, r1.1.1.2.2.1, ()) r1.1.2.2.1).2.1;
  Sp.smallS (r1.1.2.1.1, r1.1.2.1.2.1, r1.1.2.1.2.2.1, ()) ∧
 let r6 := (Sp.visible (r1.1.2.1.1, r1.1.2.1.2.1, r1.1.2.1.2.2.1, ()) r1.1.2.2.1).1;
 let r7 := (Sp.visible (r1.1.2.1.1, r1.1.2.1.2.1, r1.1.2.1.2.2.1, ()) r1.1.2.2.1).2.1;
  (Sp.smallS (r1.1.1.1, r1.1.1.2.1, r1.1.1.2.2.1, ()) ∧
  Sp.smallS (r1.1.2.1.1, r1.1.2.1.2.1, r1.1.2.1.2.2.1, ())) ∧
 let r9 :=
  decide
  ((Sp.visible (r1.1.1.1, r1.1.1.2.1, r1.1.1.2.2.1, ()) r1.1.2.2.1).1 =
  (Sp.visible (r1.1.2.1.1, r1.1.2.1.2.1, r1.1.2.1.2.2.1, ()) r1.1.2.2.1).1) &&
  decide
  ((Sp.visible (r1.1.1.1, r1.1.1.2.1, r1.1.1.2.2.1, ()) r1.1.2.2.1).2.1 =
  (Sp.visible (r1.1.2.1.1, r1.1.2.1.2.1, r1.1.2.1.2.2.1, ()) r1.1.2.2.1).2.1);
  bif r2 == r9 then
  True ∧
 let r10 := decide (r3 = r6);
  bif r10 then
  True ∧
 let r11 := decide (r4 = r7);
  bif r2 == r11 then
  (Sp.smallS (r1.1.1.1, r1.1.1.2.1, r1.1.1.2.2.1, ()) ∧
  Sp.smallS (r1.1.1.1, r1.1.1.2.1, r1.1.1.2.2.1, ())) ∧
 let r12 :=
  decide
  ((Sp.visible (r1.1.1.1, r1.1.1.2.1, r1.1.1.2.2.1, ()) r1.1.2.2.1).1 =
  (Sp.visible (r1.1.1.1, r1.1.1.2.1, r1.1.1.2.2.1, ()) r1.1.2.2.1).1) &&
  decide
  ((Sp.visible (r1.1.1.1, r1.1.1.2.1, r1.1.1.2.2.1, ()) r1.1.2.2.1).2.1 =
  (Sp.visible (r1.1.1.1, r1.1.1.2.1, r1.1.1.2.2.1, ()) r1.1.2.2.1).2.1);
  K (r12, ())
  else K (false, ())
  else
  bif r2 == false then
  (Sp.smallS (r1.1.1.1, r1.1.1.2.1, r1.1.1.2.2.1, ()) ∧
  Sp.smallS (r1.1.1.1, r1.1.1.2.1, r1.1.1.2.2.1, ())) ∧
 let r13 :=
  decide
  ((Sp.visible (r1.1.1.1, r1.1.1.2.1, r1.1.1.2.2.1, ()) r1.1.2.2.1).1 =
  (Sp.visible (r1.1.1.1, r1.1.1.2.1, r1.1.1.2.2.1, ()) r1.1.2.2.1).1) &&
  decide
  ((Sp.visible (r1.1.1.1, r1.1.1.2.1, r1.1.1.2.2.1, ()) r1.1.2.2.1).2.1 =
  (Sp.visible (r1.1.1.1, r1.1.1.2.1, r1.1.1.2.2.1, ()) r1.1.2.2.1).2.1);
  K (r13, ())
  else K (false, ())
  else K (false, ())
theorem wk_laws_FnHiddenChanges (env : EnvB prog G Θ Γ_laws_FnHiddenChanges) (h : ∀ (code : List (Int × Unit)), psInR sh_laws_FnHiddenChanges (code, ()) → (True) → VC_laws_FnHiddenChanges code fun r => r = ((true, ()))) : ConOK prog G n_laws_FnHiddenChanges con_laws_FnHiddenChanges :=
  conR_ok env mixed (fn := f6) (c := codeOf f6) (by kernel_rfl) (by kernel_rfl) H_laws_FnHiddenChanges (by kernel_rfl) fun ⟨code, ⟨⟩⟩ hin hp =>
  Eq.mpr ((by kernel_rfl : awp Θ Γ_laws_FnHiddenChanges H_laws_FnHiddenChanges (codeOf f6) (endsV Θ f6.results.toList rsh_laws_FnHiddenChanges fun r => r = (F_laws_FnHiddenChanges (code, ())).2) (entry f6.ntmps (psVals sh_laws_FnHiddenChanges (code, ()))) = VC_laws_FnHiddenChanges code fun r => r = ((true, ())))) (h code hin hp)

def H_spec_VisibleStore : Hints := Go.Fw.hints [8] [(8, ⟨[], ⟨[(4, .vptr 256 0), (5, .vptr 320 0)], [(256, .var [.nil, .nil, .int .i64]), (320, .var [.ref 705, .ref 354, .int .i64]), (705, .arr 26 (.cons .str (.cons (.int .i64) .nil)) true)]⟩, ⟨[(7, .one (.int .i64))], [(354, .arr 39 (.cons (.int .i64) (.cons (.int .i64) (.cons .bool (.cons (.int .i64) (.cons (.sl 116 (.cons .str (.cons (.int .i64) (.cons (.int .i64) (.cons .str .nil))))) .nil))))) true)]⟩⟩), (3, ⟨[(.obj 320 1, 354, 39, (.cons (.int .i64) (.cons (.int .i64) (.cons .bool (.cons (.int .i64) (.cons (.sl 116 (.cons .str (.cons (.int .i64) (.cons (.int .i64) (.cons .str .nil))))) .nil))))), true)], ⟨[(1, .one (.int .i64)), (2, .kptr [.sl 26 (.cons .str (.cons (.int .i64) .nil)) false, .sl 39 (.cons (.int .i64) (.cons (.int .i64) (.cons .bool (.cons (.int .i64) (.cons (.sl 116 (.cons .str (.cons (.int .i64) (.cons (.int .i64) (.cons .str .nil))))) .nil))))) false, .int .i64] 0), (4, .vptr 256 0), (5, .vptr 320 0)], [(256, .var [.nil, .nil, .int .i64]), (705, .arr 26 (.cons .str (.cons (.int .i64) .nil)) true)]⟩, ⟨[(6, .one (.int .i64))], [(320, .var [.ref 705, .ref 354, .int .i64]), (354, .arr 39 (.cons (.int .i64) (.cons (.int .i64) (.cons .bool (.cons (.int .i64) (.cons (.sl 116 (.cons .str (.cons (.int .i64) (.cons (.int .i64) (.cons .str .nil))))) .nil))))) true)]⟩⟩)] [] [] []
def VC_spec_VisibleStore (s0 : List (List UInt8 × Int × Unit)) (s1 : List (Int × Int × Bool × Int × List (List UInt8 × Int × Int × List UInt8 × Unit) × Unit)) (s2 : Int) (u : Int) (K : (List (List UInt8 × Int × Unit) × List (Int × Int × Bool × Int × List (List UInt8 × Int × Int × List UInt8 × Unit) × Unit) × Int × Unit) × Unit → Prop) : Prop :=
  (0 : Nat) + s0.length ≤ big ∧
 let s0_1 := ((u, (s0, s1, s2, ()), (), (), ()), ((), (), (0 : Int), ()), s0, ());
  ∃ (I : (Int × Unit) × (Unit × Unit × Int × Unit) × List (Int × Int × Bool × Int × List (List UInt8 × Int × Int × List UInt8 × Unit) × Unit) × Unit → Prop),
  ∃ (μ : (Int × Unit) × (Unit × Unit × Int × Unit) × List (Int × Int × Bool × Int × List (List UInt8 × Int × Int × List UInt8 × Unit) × Unit) × Unit → Nat),
  I (((0 : Int), ()), ((), (), s2, ()), [], ()) ∧
  ∀ (y1 : (Int × Unit) × (Unit × Unit × Int × Unit) × List (Int × Int × Bool × Int × List (List UInt8 × Int × Int × List UInt8 × Unit) × Unit) × Unit),
  I y1 →
  bif decide (y1.1.1 < (↑s1.length : Int)) then
  ((0 : Int) ≤ y1.1.1 ∧ y1.1.1 < (↑s1.length : Int)) ∧
  True ∧
 let r2 :=
  Sp.canRead
  ((s1.getD (Int.toNat y1.1.1) ((0 : Int), (0 : Int), false, (0 : Int), [], ())).1,
  (s1.getD (Int.toNat y1.1.1) ((0 : Int), (0 : Int), false, (0 : Int), [], ())).2.1,
  (s1.getD (Int.toNat y1.1.1) ((0 : Int), (0 : Int), false, (0 : Int), [], ())).2.2.1,
  (s1.getD (Int.toNat y1.1.1) ((0 : Int), (0 : Int), false, (0 : Int), [], ())).2.2.2.1,
  (s1.getD (Int.toNat y1.1.1) ((0 : Int), (0 : Int), false, (0 : Int), [], ())).2.2.2.2.1, ())
  u;
  bif r2 then
  ((0 : Int) ≤ y1.1.1 ∧ y1.1.1 < (↑s1.length : Int)) ∧
  Sp.smallF
  ((s1.getD (Int.toNat y1.1.1) ((0 : Int), (0 : Int), false, (0 : Int), [], ())).1,
  (s1.getD (Int.toNat y1.1.1) ((0 : Int), (0 : Int), false, (0 : Int), [], ())).2.1,
  (s1.getD (Int.toNat y1.1.1) ((0 : Int), (0 : Int), false, (0 : Int), [], ())).2.2.1,
  (s1.getD (Int.toNat y1.1.1) ((0 : Int), (0 : Int), false, (0 : Int), [], ())).2.2.2.1,
  (s1.getD (Int.toNat y1.1.1) ((0 : Int), (0 : Int), false, (0 : Int), [], ())).2.2.2.2.1, ()) ∧
 let r3 := (s1.getD (Int.toNat y1.1.1) ((0 : Int), (0 : Int), false, (0 : Int), [], ())).1;
 let r4 := (s1.getD (Int.toNat y1.1.1) ((0 : Int), (0 : Int), false, (0 : Int), [], ())).2.1;
 let r5 := (s1.getD (Int.toNat y1.1.1) ((0 : Int), (0 : Int), false, (0 : Int), [], ())).2.2.1;
 let r6 := (s1.getD (Int.toNat y1.1.1) ((0 : Int), (0 : Int), false, (0 : Int), [], ())).2.2.2.1;
 let r7 := (s1.getD (Int.toNat y1.1.1) ((0 : Int), (0 : Int), false, (0 : Int), [], ())).2.2.2.2.1;
  List.length y1.2.2.1 + [(r3, r4, r5, r6, r7, ())].length ≤ big ∧
  s0_1 = s0_1 ∧
  I ((IntKind.i64.wrap (y1.1.1 + (1 : Int)), ()), ((), (), y1.2.1.2.2.1, ()), y1.2.2.1 ++ [(r3, r4, r5, r6, r7, ())], ()) ∧
  μ ((IntKind.i64.wrap (y1.1.1 + (1 : Int)), ()), ((), (), y1.2.1.2.2.1, ()), y1.2.2.1 ++ [(r3, r4, r5, r6, r7, ())], ()) < μ y1
  else
  s0_1 = s0_1 ∧
  I ((IntKind.i64.wrap (y1.1.1 + (1 : Int)), ()), ((), (), y1.2.1.2.2.1, ()), y1.2.2.1, ()) ∧
  μ ((IntKind.i64.wrap (y1.1.1 + (1 : Int)), ()), ((), (), y1.2.1.2.2.1, ()), y1.2.2.1, ()) < μ y1
  else
 let s8 := (((), (), ()), ((), (), (0 : Int), ()), ((), (), y1.2.1.2.2.1, ()), s0, ());
  ∃ (I : (Int × Unit) × List (Int × Int × Bool × Int × List (List UInt8 × Int × Int × List UInt8 × Unit) × Unit) × Unit → Prop),
  ∃ (μ : (Int × Unit) × List (Int × Int × Bool × Int × List (List UInt8 × Int × Int × List UInt8 × Unit) × Unit) × Unit → Nat),
  I (((0 : Int), ()), y1.2.2.1, ()) ∧
  ∀ (y9 : (Int × Unit) × List (Int × Int × Bool × Int × List (List UInt8 × Int × Int × List UInt8 × Unit) × Unit) × Unit),
  I y9 →
  bif decide (y9.1.1 < (↑(List.length y9.2.1) : Int)) then
  ((0 : Int) ≤ y9.1.1 ∧ y9.1.1 < (↑(List.length y9.2.1) : Int)) ∧
  Int.toNat y9.1.1 < List.length y9.2.1 ∧
  True ∧
 let r10 := Sp.place y9.2.1 (List.getD y9.2.1 (Int.toNat y9.1.1) ((0 : Int), (0 : Int), false, (0 : Int), [], ())).2.2.2.1;
  bif decide (r10 < (0 : Int)) then
  ((0 : Int) ≤ y9.1.1 ∧ y9.1.1 < (↑(List.length y9.2.1) : Int)) ∧
  Int.toNat y9.1.1 < List.length y9.2.1 ∧
  s8 = s8 ∧
  I
  ((IntKind.i64.wrap (y9.1.1 + (1 : Int)), ()),
  List.set y9.2.1 (Int.toNat y9.1.1)
  ((List.getD y9.2.1 (Int.toNat y9.1.1) ((0 : Int), (0 : Int), false, (0 : Int), [], ())).1,
  (List.getD y9.2.1 (Int.toNat y9.1.1) ((0 : Int), (0 : Int), false, (0 : Int), [], ())).2.1,
  (List.getD y9.2.1 (Int.toNat y9.1.1) ((0 : Int), (0 : Int), false, (0 : Int), [], ())).2.2.1, (0 : Int),
  (List.getD y9.2.1 (Int.toNat y9.1.1) ((0 : Int), (0 : Int), false, (0 : Int), [], ())).2.2.2.2.1, ()),
  ()) ∧
  μ
  ((IntKind.i64.wrap (y9.1.1 + (1 : Int)), ()),
  List.set y9.2.1 (Int.toNat y9.1.1)
  ((List.getD y9.2.1 (Int.toNat y9.1.1) ((0 : Int), (0 : Int), false, (0 : Int), [], ())).1,
  (List.getD y9.2.1 (Int.toNat y9.1.1) ((0 : Int), (0 : Int), false, (0 : Int), [], ())).2.1,
  (List.getD y9.2.1 (Int.toNat y9.1.1) ((0 : Int), (0 : Int), false, (0 : Int), [], ())).2.2.1, (0 : Int),
  (List.getD y9.2.1 (Int.toNat y9.1.1) ((0 : Int), (0 : Int), false, (0 : Int), [], ())).2.2.2.2.1, ()),
  ()) <
  μ y9
  else
  s8 = s8 ∧
  I ((IntKind.i64.wrap (y9.1.1 + (1 : Int)), ()), y9.2.1, ()) ∧ μ ((IntKind.i64.wrap (y9.1.1 + (1 : Int)), ()), y9.2.1, ()) < μ y9
  else K ((s0, y9.2.1, y1.2.1.2.2.1, ()), ())
theorem wk_spec_VisibleStore (env : EnvB prog G Θ Γ_spec_VisibleStore) (h : ∀ (s0 : List (List UInt8 × Int × Unit)) (s1 : List (Int × Int × Bool × Int × List (List UInt8 × Int × Int × List UInt8 × Unit) × Unit)) (s2 : Int) (u : Int), psInR sh_spec_VisibleStore ((s0, s1, s2, ()), u, ()) → (Sp.smallS (s0, s1, s2, ())) → VC_spec_VisibleStore s0 s1 s2 u fun r => r = ((Sp.visible (s0, s1, s2, ()) u, ()))) : ConOK prog G n_spec_VisibleStore con_spec_VisibleStore :=
  conR_ok env mixed (fn := f26) (c := codeOf f26) (by kernel_rfl) (by kernel_rfl) H_spec_VisibleStore (by kernel_rfl) fun ⟨⟨s0, s1, s2, ⟨⟩⟩, u, ⟨⟩⟩ hin hp =>
  Eq.mpr ((by kernel_rfl : awp Θ Γ_spec_VisibleStore H_spec_VisibleStore (codeOf f26) (endsV Θ f26.results.toList rsh_spec_VisibleStore fun r => r = (F_spec_VisibleStore ((s0, s1, s2, ()), u, ())).2) (entry f26.ntmps (psVals sh_spec_VisibleStore ((s0, s1, s2, ()), u, ()))) = VC_spec_VisibleStore s0 s1 s2 u fun r => r = ((Sp.visible (s0, s1, s2, ()) u, ())))) (h s0 s1 s2 u hin hp)

def H_impl_VisibleStore : Hints := Go.Fw.hints [] [(9, ⟨[], ⟨[(4, .vptr 256 0), (5, .vptr 320 0), (35, .one (.ref 354)), (36, .one (.int .i64))], [(256, .var [.nil, .nil, .int .i64]), (320, .var [.sl 26 (.cons .str (.cons (.int .i64) .nil)) false, .ref 354, .int .i64])]⟩, ⟨[(37, .one (.int .i64))], [(354, .arr 39 (.cons (.int .i64) (.cons (.int .i64) (.cons .bool (.cons (.int .i64) (.cons (.sl 116 (.cons .str (.cons (.int .i64) (.cons (.int .i64) (.cons .str .nil))))) .nil))))) false)]⟩⟩), (3, ⟨[(.obj 320 1, 354, 39, (.cons (.int .i64) (.cons (.int .i64) (.cons .bool (.cons (.int .i64) (.cons (.sl 116 (.cons .str (.cons (.int .i64) (.cons (.int .i64) (.cons .str .nil))))) .nil))))), false)], ⟨[(1, .one (.int .i64)), (4, .vptr 256 0), (5, .vptr 320 0), (17, .one (.sl 39 (.cons (.int .i64) (.cons (.int .i64) (.cons .bool (.cons (.int .i64) (.cons (.sl 116 (.cons .str (.cons (.int .i64) (.cons (.int .i64) (.cons .str .nil))))) .nil))))) false)), (18, .one (.int .i64))], [(256, .var [.nil, .nil, .int .i64])]⟩, ⟨[(19, .one (.int .i64))], [(320, .var [.sl 26 (.cons .str (.cons (.int .i64) .nil)) false, .ref 354, .int .i64]), (354, .arr 39 (.cons (.int .i64) (.cons (.int .i64) (.cons .bool (.cons (.int .i64) (.cons (.sl 116 (.cons .str (.cons (.int .i64) (.cons (.int .i64) (.cons .str .nil))))) .nil))))) false)]⟩⟩)] [] [] []
def VC_impl_VisibleStore (s0 : List (List UInt8 × Int × Unit)) (s1 : List (Int × Int × Bool × Int × List (List UInt8 × Int × Int × List UInt8 × Unit) × Unit)) (s2 : Int) (user : Int) (K : (List (List UInt8 × Int × Unit) × List (Int × Int × Bool × Int × List (List UInt8 × Int × Int × List UInt8 × Unit) × Unit) × Int × Unit) × Unit → Prop) : Prop :=
  s0.length ≤ (1000 : Nat) ∧
 let s0_1 := ((user, (), (), s1, (↑s1.length : Int), ()), ((), (), (0 : Int), ()), ());
  ∃ (I :
  (Int × Unit) × (List (List UInt8 × Int × Unit) × Unit × Int × Unit) × List (Int × Int × Bool × Int × List (List UInt8 × Int × Int × List UInt8 × Unit) × Unit) × Unit → Prop),
  ∃ (μ :
  (Int × Unit) × (List (List UInt8 × Int × Unit) × Unit × Int × Unit) × List (Int × Int × Bool × Int × List (List UInt8 × Int × Int × List UInt8 × Unit) × Unit) × Unit → Nat),
  I (((0 : Int), ()), (s0, (), s2, ()), [], ()) ∧
  ∀
  (y1 :
  (Int × Unit) × (List (List UInt8 × Int × Unit) × Unit × Int × Unit) × List (Int × Int × Bool × Int × List (List UInt8 × Int × Int × List UInt8 × Unit) × Unit) × Unit),
  I y1 →
  bif decide (y1.1.1 < (↑s1.length : Int)) then
  ((0 : Int) ≤ y1.1.1 ∧ y1.1.1 < (↑s1.length : Int)) ∧
  True ∧
 let r2 :=
  Sp.canRead
  ((s1.getD (Int.toNat y1.1.1) ((0 : Int), (0 : Int), false, (0 : Int), [], ())).1,
  (s1.getD (Int.toNat y1.1.1) ((0 : Int), (0 : Int), false, (0 : Int), [], ())).2.1,
  (s1.getD (Int.toNat y1.1.1) ((0 : Int), (0 : Int), false, (0 : Int), [], ())).2.2.1,
  (s1.getD (Int.toNat y1.1.1) ((0 : Int), (0 : Int), false, (0 : Int), [], ())).2.2.2.1,
  (s1.getD (Int.toNat y1.1.1) ((0 : Int), (0 : Int), false, (0 : Int), [], ())).2.2.2.2.1, ())
  user;
  bif r2 then
  Sp.smallF
  ((s1.getD (Int.toNat y1.1.1) ((0 : Int), (0 : Int), false, (0 : Int), [], ())).1,
  (s1.getD (Int.toNat y1.1.1) ((0 : Int), (0 : Int), false, (0 : Int), [], ())).2.1,
  (s1.getD (Int.toNat y1.1.1) ((0 : Int), (0 : Int), false, (0 : Int), [], ())).2.2.1,
  (s1.getD (Int.toNat y1.1.1) ((0 : Int), (0 : Int), false, (0 : Int), [], ())).2.2.2.1,
  (s1.getD (Int.toNat y1.1.1) ((0 : Int), (0 : Int), false, (0 : Int), [], ())).2.2.2.2.1, ()) ∧
 let r3 := (s1.getD (Int.toNat y1.1.1) ((0 : Int), (0 : Int), false, (0 : Int), [], ())).1;
 let r4 := (s1.getD (Int.toNat y1.1.1) ((0 : Int), (0 : Int), false, (0 : Int), [], ())).2.1;
 let r5 := (s1.getD (Int.toNat y1.1.1) ((0 : Int), (0 : Int), false, (0 : Int), [], ())).2.2.1;
 let r6 := (s1.getD (Int.toNat y1.1.1) ((0 : Int), (0 : Int), false, (0 : Int), [], ())).2.2.2.1;
 let r7 := (s1.getD (Int.toNat y1.1.1) ((0 : Int), (0 : Int), false, (0 : Int), [], ())).2.2.2.2.1;
  List.length y1.2.2.1 + [(r3, r4, r5, r6, r7, ())].length ≤ big ∧
  s0_1 = s0_1 ∧
  I ((IntKind.i64.wrap (y1.1.1 + (1 : Int)), ()), (y1.2.1.1, (), y1.2.1.2.2.1, ()), y1.2.2.1 ++ [(r3, r4, r5, r6, r7, ())], ()) ∧
  μ
  ((IntKind.i64.wrap (y1.1.1 + (1 : Int)), ()), (y1.2.1.1, (), y1.2.1.2.2.1, ()), y1.2.2.1 ++ [(r3, r4, r5, r6, r7, ())],
  ()) <
  μ y1
  else
  s0_1 = s0_1 ∧
  I ((IntKind.i64.wrap (y1.1.1 + (1 : Int)), ()), (y1.2.1.1, (), y1.2.1.2.2.1, ()), y1.2.2.1, ()) ∧
  μ ((IntKind.i64.wrap (y1.1.1 + (1 : Int)), ()), (y1.2.1.1, (), y1.2.1.2.2.1, ()), y1.2.2.1, ()) < μ y1
  else
 let s8 := (((), (), (), (↑(List.length y1.2.2.1) : Int), ()), ((), (), (0 : Int), ()), (y1.2.1.1, (), y1.2.1.2.2.1, ()), ());
  ∃ (I : (Int × Unit) × List (Int × Int × Bool × Int × List (List UInt8 × Int × Int × List UInt8 × Unit) × Unit) × Unit → Prop),
  ∃ (μ : (Int × Unit) × List (Int × Int × Bool × Int × List (List UInt8 × Int × Int × List UInt8 × Unit) × Unit) × Unit → Nat),
  I (((0 : Int), ()), y1.2.2.1, ()) ∧
  ∀ (y9 : (Int × Unit) × List (Int × Int × Bool × Int × List (List UInt8 × Int × Int × List UInt8 × Unit) × Unit) × Unit),
  I y9 →
  bif decide (y9.1.1 < (↑(List.length y1.2.2.1) : Int)) then
  ((0 : Int) ≤ y9.1.1 ∧ y9.1.1 < (↑(List.length y9.2.1) : Int)) ∧
  Int.toNat y9.1.1 < List.length y9.2.1 ∧
  True ∧
 let r10 := Sp.place y9.2.1 (List.getD y9.2.1 (Int.toNat y9.1.1) ((0 : Int), (0 : Int), false, (0 : Int), [], ())).2.2.2.1;
  bif decide (r10 < (0 : Int)) then
  ((0 : Int) ≤ y9.1.1 ∧ y9.1.1 < (↑(List.length y9.2.1) : Int)) ∧
  Int.toNat y9.1.1 < List.length y9.2.1 ∧
  s8 = s8 ∧
  I
  ((IntKind.i64.wrap (y9.1.1 + (1 : Int)), ()),
  List.set y9.2.1 (Int.toNat y9.1.1)
  ((List.getD y9.2.1 (Int.toNat y9.1.1) ((0 : Int), (0 : Int), false, (0 : Int), [], ())).1,
  (List.getD y9.2.1 (Int.toNat y9.1.1) ((0 : Int), (0 : Int), false, (0 : Int), [], ())).2.1,
  (List.getD y9.2.1 (Int.toNat y9.1.1) ((0 : Int), (0 : Int), false, (0 : Int), [], ())).2.2.1, (0 : Int),
  (List.getD y9.2.1 (Int.toNat y9.1.1) ((0 : Int), (0 : Int), false, (0 : Int), [], ())).2.2.2.2.1, ()),
  ()) ∧
  μ
  ((IntKind.i64.wrap (y9.1.1 + (1 : Int)), ()),
  List.set y9.2.1 (Int.toNat y9.1.1)
  ((List.getD y9.2.1 (Int.toNat y9.1.1) ((0 : Int), (0 : Int), false, (0 : Int), [], ())).1,
  (List.getD y9.2.1 (Int.toNat y9.1.1) ((0 : Int), (0 : Int), false, (0 : Int), [], ())).2.1,
  (List.getD y9.2.1 (Int.toNat y9.1.1) ((0 : Int), (0 : Int), false, (0 : Int), [], ())).2.2.1, (0 : Int),
  (List.getD y9.2.1 (Int.toNat y9.1.1) ((0 : Int), (0 : Int), false, (0 : Int), [], ())).2.2.2.2.1, ()),
  ()) <
  μ y9
  else
  s8 = s8 ∧
  I ((IntKind.i64.wrap (y9.1.1 + (1 : Int)), ()), y9.2.1, ()) ∧ μ ((IntKind.i64.wrap (y9.1.1 + (1 : Int)), ()), y9.2.1, ()) < μ y9
  else K ((y1.2.1.1, y9.2.1, y1.2.1.2.2.1, ()), ())
theorem wk_impl_VisibleStore (env : EnvB prog G Θ Γ_impl_VisibleStore) (h : ∀ (s0 : List (List UInt8 × Int × Unit)) (s1 : List (Int × Int × Bool × Int × List (List UInt8 × Int × Int × List UInt8 × Unit) × Unit)) (s2 : Int) (user : Int), psInR sh_impl_VisibleStore ((s0, s1, s2, ()), user, ()) → (Sp.smallS (s0, s1, s2, ())) → VC_impl_VisibleStore s0 s1 s2 user fun r => r = ((Sp.visible (s0, s1, s2, ()) user, ()))) : ConOK prog G n_impl_VisibleStore con_impl_VisibleStore :=
  conR_ok env mixed (fn := f20) (c := codeOf f20) (by kernel_rfl) (by kernel_rfl) H_impl_VisibleStore (by kernel_rfl) fun ⟨⟨s0, s1, s2, ⟨⟩⟩, user, ⟨⟩⟩ hin hp =>
  Eq.mpr ((by kernel_rfl : awp Θ Γ_impl_VisibleStore H_impl_VisibleStore (codeOf f20) (endsV Θ f20.results.toList rsh_impl_VisibleStore fun r => r = (F_impl_VisibleStore ((s0, s1, s2, ()), user, ())).2) (entry f20.ntmps (psVals sh_impl_VisibleStore ((s0, s1, s2, ()), user, ()))) = VC_impl_VisibleStore s0 s1 s2 user fun r => r = ((Sp.visible (s0, s1, s2, ()) user, ())))) (h s0 s1 s2 user hin hp)

def H_spec_DrawNewStore : Hints := Go.Fw.hints [] [] [] [] []
def VC_spec_DrawNewStore (code : List (Int × Unit)) (K : (List (List UInt8 × Int × Unit) × Unit) × Unit → Prop) : Prop :=
  code.length ≤ (1048576 : Nat) ∧
  ∀ (r0 : List (Int × Unit) × Int × Int × Unit),
  r0.2.1 = (0 : Int) →
  (0 : Int) ≤ r0.2.1 ∧
  ∀ (r1 : (List (List UInt8 × Int × Unit) × Unit) × (List (Int × Unit) × Int × Int × Unit) × Unit),
  (0 : Int) ≤ r1.2.1.2.1 ∧ r1.1.1.length ≤ (6 : Nat) → K ((r1.1.1, ()), ())
theorem wk_spec_DrawNewStore (env : EnvB prog G Θ Γ_spec_DrawNewStore) (hne : ∀ x, (F_spec_DrawNewStore x).1 → ∃ t, (F_spec_DrawNewStore x).2 t) (h : ∀ (code : List (Int × Unit)), xsInR sh_spec_DrawNewStore (code, ()) → (code.length ≤ (1048576 : Nat)) → VC_spec_DrawNewStore code fun (r : (List (List UInt8 × Int × Unit) × Unit) × Unit) => (code.length ≤ (1048576 : Nat), fun (x : (List (List UInt8 × Int × Unit) × Unit) × Unit) => x.1.1.length.le (6 : Nat)).2 r) : XConOK prog G n_spec_DrawNewStore con_spec_DrawNewStore :=
  conX_ok env mixed (fn := f50) (c := codeOf f50) (by kernel_rfl) (by kernel_rfl) H_spec_DrawNewStore (by kernel_rfl) hne fun ⟨code, ⟨⟩⟩ hin hp =>
  Eq.mpr ((by kernel_rfl : awp Θ Γ_spec_DrawNewStore H_spec_DrawNewStore (codeOf f50) (endsX Θ f50.results.toList sh_spec_DrawNewStore rsh_spec_DrawNewStore (F_spec_DrawNewStore (code, ())).2) (entryX f50.ntmps (xsVals sh_spec_DrawNewStore (code, ()))) = VC_spec_DrawNewStore code fun (r : (List (List UInt8 × Int × Unit) × Unit) × Unit) => (code.length ≤ (1048576 : Nat), fun (x : (List (List UInt8 × Int × Unit) × Unit) × Unit) => x.1.1.length.le (6 : Nat)).2 r)) (h code hin hp)

end Go.Proofs.Try

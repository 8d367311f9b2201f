import Derived.Test.YtiifcpnpbfjlcaaF
namespace Go.Proofs.Try
open Go Go.Fw
set_option maxRecDepth 100000
def H_spec_l06Hidden : Hints := Go.Fw.hints [4] [(2, ⟨[], ⟨[(0, .vptr 48 0), (2, .one (.int .i64)), (4, .vptr 256 0), (6, .vptr 384 0)], [(384, .var [.nil, .nil, .int .i64])]⟩, ⟨[(7, .one (.int .i64))], [(48, .var [.sl 5 (.cons (.int .u8) .nil) false, .int .i64, .int .i64]), (256, .var [.sl 26 (.cons .str (.cons (.int .i64) .nil)) false, .sl 39 (.cons (.int .i64) (.cons (.int .i64) (.cons .bool (.cons (.int .i64) (.cons (.sl 116 (.cons .str (.cons (.int .i64) (.cons (.int .i64) (.cons .str .nil))))) .nil))))) false, .int .i64])]⟩⟩)] [] [] []
def VC_spec_l06Hidden (c0 : List (Int × Unit)) (c1 : Int) (c2 : Int) (s0 : List (List UInt8 × Int × Unit)) (s1 : List (Int × Int × Bool × Int × List (List UInt8 × Int × Int × List UInt8 × Unit) × Unit)) (s2 : Int) (u : Int) (K : ((List (List UInt8 × Int × Unit) × List (Int × Int × Bool × Int × List (List UInt8 × Int × Int × List UInt8 × Unit) × Unit) × Int × Unit) × Unit) ×
  (List (Int × Unit) × Int × Int × Unit) × Unit → Prop) : Prop :=
 let s0_1 := (((), u, (), (), ()), ((), (), (0 : Int), ()), ());
  ∃ (I :
  (Int × Unit) ×
  (List (Int × Unit) × Int × Int × Unit) ×
  (List (List UInt8 × Int × Unit) × List (Int × Int × Bool × Int × List (List UInt8 × Int × Int × List UInt8 × Unit) × Unit) × Int × Unit) × Unit →
  Prop),
  ∃ (μ :
  (Int × Unit) ×
  (List (Int × Unit) × Int × Int × Unit) ×
  (List (List UInt8 × Int × Unit) × List (Int × Int × Bool × Int × List (List UInt8 × Int × Int × List UInt8 × Unit) × Unit) × Int × Unit) × Unit →
  Nat),
  I (((0 : Int), ()), (c0, c1, c2, ()), (s0, s1, s2, ()), ()) ∧
  ∀
  (y1 :
  (Int × Unit) ×
  (List (Int × Unit) × Int × Int × Unit) ×
  (List (List UInt8 × Int × Unit) × List (Int × Int × Bool × Int × List (List UInt8 × Int × Int × List UInt8 × Unit) × Unit) × Int × Unit) × Unit),
  I y1 →
  (0 : Int) ≤ y1.2.1.2.1 ∧
  ∀ (r2 : (Int × Unit) × (List (Int × Unit) × Int × Int × Unit) × Unit),
  (0 : Int) ≤ r2.2.1.2.1 ∧ (0 : Int) ≤ r2.1.1 ∧ ((0 : Int) < (4 : Int) → r2.1.1 < (4 : Int)) ∧ ((4 : Int) ≤ (0 : Int) → r2.1.1 = (0 : Int)) →
  bif decide (y1.1.1 < IntKind.i64.wrap ((1 : Int) + r2.1.1)) then
  (0 : Int) ≤ r2.2.1.2.1 ∧
  ∀ (r3 : ((Int × Int × Bool × Int × List (List UInt8 × Int × Int × List UInt8 × Unit) × Unit) × Unit) × (List (Int × Unit) × Int × Int × Unit) × Unit),
  (0 : Int) ≤ r3.2.1.2.1 ∧
  r3.1.1.1 = (1 : Int) ∧
  (0 : Int) ≤ r3.1.1.2.1 ∧
  r3.1.1.2.1 ≤ (2 : Int) ∧
  (0 : Int) ≤ r3.1.1.2.2.2.1 ∧
  r3.1.1.2.2.2.1 ≤ (6 : Int) ∧ Sp.okAttrs Sp.usual r3.1.1.2.2.2.2.1 = true ∧ r3.1.1.2.2.2.2.1.length ≤ (4 : Nat) →
  (3 : Int) ≠ (0 : Int) ∧
  (0 : Int) ≤ r3.2.1.2.1 ∧
  ∀ (r4 : (Int × Unit) × (List (Int × Unit) × Int × Int × Unit) × Unit),
  (0 : Int) ≤ r4.2.1.2.1 ∧ (0 : Int) ≤ r4.1.1 ∧ ((0 : Int) < (3 : Int) → r4.1.1 < (3 : Int)) ∧ ((3 : Int) ≤ (0 : Int) → r4.1.1 = (0 : Int)) →
  bif r4.1.1 == (0 : Int) then
  (Sp.smallS (y1.2.2.1.1, y1.2.2.1.2.1, y1.2.2.1.2.2.1, ()) ∧
  Sp.smallF
  (r3.1.1.1, (IntKind.i64.wrap (u + (1 : Int))).tmod (3 : Int), false, r3.1.1.2.2.2.1, r3.1.1.2.2.2.2.1,
  ())) ∧
  ∀
  (r5 :
  ((List (List UInt8 × Int × Unit) × List (Int × Int × Bool × Int × List (List UInt8 × Int × Int × List UInt8 × Unit) × Unit) × Int × Unit) ×
  Int × Bool × Unit) ×
  Unit),
  r5.1.1.1 =
  (Sp.createFile (y1.2.2.1.1, y1.2.2.1.2.1, y1.2.2.1.2.2.1, ())
  (r3.1.1.1, (IntKind.i64.wrap (u + (1 : Int))).tmod (3 : Int), false, r3.1.1.2.2.2.1,
  r3.1.1.2.2.2.2.1, ())).1.1 ∧
  r5.1.1.2.1 =
  (Sp.createFile (y1.2.2.1.1, y1.2.2.1.2.1, y1.2.2.1.2.2.1, ())
  (r3.1.1.1, (IntKind.i64.wrap (u + (1 : Int))).tmod (3 : Int), false, r3.1.1.2.2.2.1,
  r3.1.1.2.2.2.2.1, ())).1.2.1 ∧
  r5.1.1.2.2.1 =
  (Sp.createFile (y1.2.2.1.1, y1.2.2.1.2.1, y1.2.2.1.2.2.1, ())
  (r3.1.1.1, (IntKind.i64.wrap (u + (1 : Int))).tmod (3 : Int), false, r3.1.1.2.2.2.1,
  r3.1.1.2.2.2.2.1, ())).1.2.2.1 ∧
  r5.1.2.1 =
  (Sp.createFile (y1.2.2.1.1, y1.2.2.1.2.1, y1.2.2.1.2.2.1, ())
  (r3.1.1.1, (IntKind.i64.wrap (u + (1 : Int))).tmod (3 : Int), false, r3.1.1.2.2.2.1,
  r3.1.1.2.2.2.2.1, ())).2.1 ∧
  r5.1.2.2.1 =
  (Sp.createFile (y1.2.2.1.1, y1.2.2.1.2.1, y1.2.2.1.2.2.1, ())
  (r3.1.1.1, (IntKind.i64.wrap (u + (1 : Int))).tmod (3 : Int), false, r3.1.1.2.2.2.1,
  r3.1.1.2.2.2.2.1, ())).2.2 →
  s0_1 = s0_1 ∧
  I
  ((IntKind.i64.wrap (y1.1.1 + (1 : Int)), ()), (r4.2.1.1, r4.2.1.2.1, r4.2.1.2.2.1, ()),
  (r5.1.1.1, r5.1.1.2.1, r5.1.1.2.2.1, ()), ()) ∧
  μ
  ((IntKind.i64.wrap (y1.1.1 + (1 : Int)), ()), (r4.2.1.1, r4.2.1.2.1, r4.2.1.2.2.1, ()),
  (r5.1.1.1, r5.1.1.2.1, r5.1.1.2.2.1, ()), ()) <
  μ y1
  else
  bif r4.1.1 == (1 : Int) then
  (0 : Int) ≤ r4.2.1.2.1 ∧
  ∀ (r6 : (Int × Unit) × (List (Int × Unit) × Int × Int × Unit) × Unit),
  (0 : Int) ≤ r6.2.1.2.1 ∧
  (0 : Int) ≤ r6.1.1 ∧
  ((0 : Int) < IntKind.i64.wrap ((↑(List.length y1.2.2.1.2.1) : Int) + (1 : Int)) →
  r6.1.1 < IntKind.i64.wrap ((↑(List.length y1.2.2.1.2.1) : Int) + (1 : Int))) ∧
  (IntKind.i64.wrap ((↑(List.length y1.2.2.1.2.1) : Int) + (1 : Int)) ≤ (0 : Int) → r6.1.1 = (0 : Int)) →
  bif decide (r6.1.1 < (↑(List.length y1.2.2.1.2.1) : Int)) then
  ((0 : Int) ≤ r6.1.1 ∧ r6.1.1 < (↑(List.length y1.2.2.1.2.1) : Int)) ∧
  True ∧
 let r7 :=
  Sp.canRead
  ((List.getD y1.2.2.1.2.1 (Int.toNat r6.1.1) ((0 : Int), (0 : Int), false, (0 : Int), [], ())).1,
  (List.getD y1.2.2.1.2.1 (Int.toNat r6.1.1) ((0 : Int), (0 : Int), false, (0 : Int), [], ())).2.1,
  (List.getD y1.2.2.1.2.1 (Int.toNat r6.1.1) ((0 : Int), (0 : Int), false, (0 : Int), [], ())).2.2.1,
  (List.getD y1.2.2.1.2.1 (Int.toNat r6.1.1) ((0 : Int), (0 : Int), false, (0 : Int), [], ())).2.2.2.1,
  (List.getD y1.2.2.1.2.1 (Int.toNat r6.1.1)
  ((0 : Int), (0 : Int), false, (0 : Int), [], ())).2.2.2.2.1,
  ())
  u;
  bif !r7 then
  ((0 : Int) ≤ r6.1.1 ∧ r6.1.1 < (↑(List.length y1.2.2.1.2.1) : Int)) ∧
  (Sp.smallS (y1.2.2.1.1, y1.2.2.1.2.1, y1.2.2.1.2.2.1, ()) ∧
  Sp.smallF
  ((List.getD y1.2.2.1.2.1 (Int.toNat r6.1.1) ((0 : Int), (0 : Int), false, (0 : Int), [], ())).1,
  (IntKind.i64.wrap (u + (1 : Int))).tmod (3 : Int), false, r3.1.1.2.2.2.1, r3.1.1.2.2.2.2.1,
  ())) ∧
  ∀
  (r8 :
  ((List (List UInt8 × Int × Unit) ×
  List (Int × Int × Bool × Int × List (List UInt8 × Int × Int × List UInt8 × Unit) × Unit) × Int × Unit) ×
  Bool × Unit) ×
  Unit),
  r8.1.1.1 =
  (Sp.replaceFile (y1.2.2.1.1, y1.2.2.1.2.1, y1.2.2.1.2.2.1, ())
  ((List.getD y1.2.2.1.2.1 (Int.toNat r6.1.1) ((0 : Int), (0 : Int), false, (0 : Int), [], ())).1,
  (IntKind.i64.wrap (u + (1 : Int))).tmod (3 : Int), false, r3.1.1.2.2.2.1,
  r3.1.1.2.2.2.2.1, ())).1.1 ∧
  r8.1.1.2.1 =
  (Sp.replaceFile (y1.2.2.1.1, y1.2.2.1.2.1, y1.2.2.1.2.2.1, ())
  ((List.getD y1.2.2.1.2.1 (Int.toNat r6.1.1)
  ((0 : Int), (0 : Int), false, (0 : Int), [], ())).1,
  (IntKind.i64.wrap (u + (1 : Int))).tmod (3 : Int), false, r3.1.1.2.2.2.1,
  r3.1.1.2.2.2.2.1, ())).1.2.1 ∧
  r8.1.1.2.2.1 =
  (Sp.replaceFile (y1.2.2.1.1, y1.2.2.1.2.1, y1.2.2.1.2.2.1, ())
  ((List.getD y1.2.2.1.2.1 (Int.toNat r6.1.1)
  ((0 : Int), (0 : Int), false, (0 : Int), [], ())).1,
  (IntKind.i64.wrap (u + (1 : Int))).tmod (3 : Int), false, r3.1.1.2.2.2.1,
  r3.1.1.2.2.2.2.1, ())).1.2.2.1 ∧
  r8.1.2.1 =
  (Sp.replaceFile (y1.2.2.1.1, y1.2.2.1.2.1, y1.2.2.1.2.2.1, ())
  ((List.getD y1.2.2.1.2.1 (Int.toNat r6.1.1)
  ((0 : Int), (0 : Int), false, (0 : Int), [], ())).1,
  (IntKind.i64.wrap (u + (1 : Int))).tmod (3 : Int), false, r3.1.1.2.2.2.1,
  r3.1.1.2.2.2.2.1, ())).2 →
  s0_1 = s0_1 ∧
  I
  ((IntKind.i64.wrap (y1.1.1 + (1 : Int)), ()), (r6.2.1.1, r6.2.1.2.1, r6.2.1.2.2.1, ()),
  (r8.1.1.1, r8.1.1.2.1, r8.1.1.2.2.1, ()), ()) ∧
  μ
  ((IntKind.i64.wrap (y1.1.1 + (1 : Int)), ()),
  (r6.2.1.1, r6.2.1.2.1, r6.2.1.2.2.1, ()),
  (r8.1.1.1, r8.1.1.2.1, r8.1.1.2.2.1, ()), ()) <
  μ y1
  else
  s0_1 = s0_1 ∧
  I
  ((IntKind.i64.wrap (y1.1.1 + (1 : Int)), ()), (r6.2.1.1, r6.2.1.2.1, r6.2.1.2.2.1, ()),
  (y1.2.2.1.1, y1.2.2.1.2.1, y1.2.2.1.2.2.1, ()), ()) ∧
  μ
  ((IntKind.i64.wrap (y1.1.1 + (1 : Int)), ()), (r6.2.1.1, r6.2.1.2.1, r6.2.1.2.2.1, ()),
  (y1.2.2.1.1, y1.2.2.1.2.1, y1.2.2.1.2.2.1, ()), ()) <
  μ y1
  else
  s0_1 = s0_1 ∧
  I
  ((IntKind.i64.wrap (y1.1.1 + (1 : Int)), ()), (r6.2.1.1, r6.2.1.2.1, r6.2.1.2.2.1, ()),
  (y1.2.2.1.1, y1.2.2.1.2.1, y1.2.2.1.2.2.1, ()), ()) ∧
  μ
  ((IntKind.i64.wrap (y1.1.1 + (1 : Int)), ()), (r6.2.1.1, r6.2.1.2.1, r6.2.1.2.2.1, ()),
  (y1.2.2.1.1, y1.2.2.1.2.1, y1.2.2.1.2.2.1, ()), ()) <
  μ y1
  else
  (0 : Int) ≤ r4.2.1.2.1 ∧
  ∀ (r9 : (Int × Unit) × (List (Int × Unit) × Int × Int × Unit) × Unit),
  (0 : Int) ≤ r9.2.1.2.1 ∧
  (0 : Int) ≤ r9.1.1 ∧
  ((0 : Int) < IntKind.i64.wrap ((↑(List.length y1.2.2.1.2.1) : Int) + (1 : Int)) →
  r9.1.1 < IntKind.i64.wrap ((↑(List.length y1.2.2.1.2.1) : Int) + (1 : Int))) ∧
  (IntKind.i64.wrap ((↑(List.length y1.2.2.1.2.1) : Int) + (1 : Int)) ≤ (0 : Int) → r9.1.1 = (0 : Int)) →
  bif decide (r9.1.1 < (↑(List.length y1.2.2.1.2.1) : Int)) then
  ((0 : Int) ≤ r9.1.1 ∧ r9.1.1 < (↑(List.length y1.2.2.1.2.1) : Int)) ∧
  True ∧
 let r10 :=
  Sp.canRead
  ((List.getD y1.2.2.1.2.1 (Int.toNat r9.1.1) ((0 : Int), (0 : Int), false, (0 : Int), [], ())).1,
  (List.getD y1.2.2.1.2.1 (Int.toNat r9.1.1) ((0 : Int), (0 : Int), false, (0 : Int), [], ())).2.1,
  (List.getD y1.2.2.1.2.1 (Int.toNat r9.1.1) ((0 : Int), (0 : Int), false, (0 : Int), [], ())).2.2.1,
  (List.getD y1.2.2.1.2.1 (Int.toNat r9.1.1) ((0 : Int), (0 : Int), false, (0 : Int), [], ())).2.2.2.1,
  (List.getD y1.2.2.1.2.1 (Int.toNat r9.1.1)
  ((0 : Int), (0 : Int), false, (0 : Int), [], ())).2.2.2.2.1,
  ())
  u;
  bif !r10 then
  ((0 : Int) ≤ r9.1.1 ∧ r9.1.1 < (↑(List.length y1.2.2.1.2.1) : Int)) ∧
  Sp.smallS (y1.2.2.1.1, y1.2.2.1.2.1, y1.2.2.1.2.2.1, ()) ∧
  ∀
  (r11 :
  ((List (List UInt8 × Int × Unit) ×
  List (Int × Int × Bool × Int × List (List UInt8 × Int × Int × List UInt8 × Unit) × Unit) × Int × Unit) ×
  Bool × Unit) ×
  Unit),
  r11.1.1.1 =
  (Sp.deleteFile (y1.2.2.1.1, y1.2.2.1.2.1, y1.2.2.1.2.2.1, ())
  (List.getD y1.2.2.1.2.1 (Int.toNat r9.1.1)
  ((0 : Int), (0 : Int), false, (0 : Int), [], ())).1).1.1 ∧
  r11.1.1.2.1 =
  (Sp.deleteFile (y1.2.2.1.1, y1.2.2.1.2.1, y1.2.2.1.2.2.1, ())
  (List.getD y1.2.2.1.2.1 (Int.toNat r9.1.1)
  ((0 : Int), (0 : Int), false, (0 : Int), [], ())).1).1.2.1 ∧
  r11.1.1.2.2.1 =
  (Sp.deleteFile (y1.2.2.1.1, y1.2.2.1.2.1, y1.2.2.1.2.2.1, ())
  (List.getD y1.2.2.1.2.1 (Int.toNat r9.1.1)
  ((0 : Int), (0 : Int), false, (0 : Int), [], ())).1).1.2.2.1 ∧
  r11.1.2.1 =
  (Sp.deleteFile (y1.2.2.1.1, y1.2.2.1.2.1, y1.2.2.1.2.2.1, ())
  (List.getD y1.2.2.1.2.1 (Int.toNat r9.1.1)
  ((0 : Int), (0 : Int), false, (0 : Int), [], ())).1).2 →
  s0_1 = s0_1 ∧
  I
  ((IntKind.i64.wrap (y1.1.1 + (1 : Int)), ()), (r9.2.1.1, r9.2.1.2.1, r9.2.1.2.2.1, ()),
  (r11.1.1.1, r11.1.1.2.1, r11.1.1.2.2.1, ()), ()) ∧
  μ
  ((IntKind.i64.wrap (y1.1.1 + (1 : Int)), ()),
  (r9.2.1.1, r9.2.1.2.1, r9.2.1.2.2.1, ()),
  (r11.1.1.1, r11.1.1.2.1, r11.1.1.2.2.1, ()), ()) <
  μ y1
  else
  s0_1 = s0_1 ∧
  I
  ((IntKind.i64.wrap (y1.1.1 + (1 : Int)), ()), (r9.2.1.1, r9.2.1.2.1, r9.2.1.2.2.1, ()),
  (y1.2.2.1.1, y1.2.2.1.2.1, y1.2.2.1.2.2.1, ()), ()) ∧
  μ
  ((IntKind.i64.wrap (y1.1.1 + (1 : Int)), ()), (r9.2.1.1, r9.2.1.2.1, r9.2.1.2.2.1, ()),
  (y1.2.2.1.1, y1.2.2.1.2.1, y1.2.2.1.2.2.1, ()), ()) <
  μ y1
  else
  s0_1 = s0_1 ∧
  I
  ((IntKind.i64.wrap (y1.1.1 + (1 : Int)), ()), (r9.2.1.1, r9.2.1.2.1, r9.2.1.2.2.1, ()),
  (y1.2.2.1.1, y1.2.2.1.2.1, y1.2.2.1.2.2.1, ()), ()) ∧
  μ
  ((IntKind.i64.wrap (y1.1.1 + (1 : Int)), ()), (r9.2.1.1, r9.2.1.2.1, r9.2.1.2.2.1, ()),
  (y1.2.2.1.1, y1.2.2.1.2.1, y1.2.2.1.2.2.1, ()), ()) <
  μ y1
  else K (((y1.2.2.1.1, y1.2.2.1.2.1, y1.2.2.1.2.2.1, ()), ()), (r2.2.1.1, r2.2.1.2.1, r2.2.1.2.2.1, ()), ())
theorem wk_spec_l06Hidden (env : EnvB prog G Θ Γ_spec_l06Hidden) (hne : ∀ x, (F_spec_l06Hidden x).1 → ∃ t, (F_spec_l06Hidden x).2 t) (h : ∀ (c0 : List (Int × Unit)) (c1 : Int) (c2 : Int) (s0 : List (List UInt8 × Int × Unit)) (s1 : List (Int × Int × Bool × Int × List (List UInt8 × Int × Int × List UInt8 × Unit) × Unit)) (s2 : Int) (u : Int), xsInR sh_spec_l06Hidden ((c0, c1, c2, ()), (s0, s1, s2, ()), u, ()) → ((0 : Int) ≤ c1 ∧ (0 : Int) ≤ u ∧ u ≤ (2 : Int) ∧ Sp.smallS (s0, s1, s2, ())) → VC_spec_l06Hidden c0 c1 c2 s0 s1 s2 u fun (r : ((List (List UInt8 × Int × Unit) × List (Int × Int × Bool × Int × List (List UInt8 × Int × Int × List UInt8 × Unit) × Unit) × Int × Unit) × Unit) ×
  (List (Int × Unit) × Int × Int × Unit) × Unit) => ((0 : Int) ≤ c1 ∧ (0 : Int) ≤ u ∧ u ≤ (2 : Int) ∧ Sp.smallS (s0, s1, s2, ()),
  fun
  (x :
  ((List (List UInt8 × Int × Unit) × List (Int × Int × Bool × Int × List (List UInt8 × Int × Int × List UInt8 × Unit) × Unit) × Int × Unit) × Unit) ×
  (List (Int × Unit) × Int × Int × Unit) × Unit) =>
  (0 : Int) ≤ x.2.1.2.1 ∧ Sp.smallS (x.1.1.1, x.1.1.2.1, x.1.1.2.2.1, ())).2
  r) : XConOK prog G n_spec_l06Hidden con_spec_l06Hidden :=
  conX_ok env mixed (fn := f92) (c := codeOf f92) (by kernel_rfl) (by kernel_rfl) H_spec_l06Hidden (by kernel_rfl) hne fun ⟨⟨c0, c1, c2, ⟨⟩⟩, ⟨s0, s1, s2, ⟨⟩⟩, u, ⟨⟩⟩ hin hp =>
  Eq.mpr ((by kernel_rfl : awp Θ Γ_spec_l06Hidden H_spec_l06Hidden (codeOf f92) (endsX Θ f92.results.toList sh_spec_l06Hidden rsh_spec_l06Hidden (F_spec_l06Hidden ((c0, c1, c2, ()), (s0, s1, s2, ()), u, ())).2) (entryX f92.ntmps (xsVals sh_spec_l06Hidden ((c0, c1, c2, ()), (s0, s1, s2, ()), u, ()))) = VC_spec_l06Hidden c0 c1 c2 s0 s1 s2 u fun (r : ((List (List UInt8 × Int × Unit) × List (Int × Int × Bool × Int × List (List UInt8 × Int × Int × List UInt8 × Unit) × Unit) × Int × Unit) × Unit) ×
  (List (Int × Unit) × Int × Int × Unit) × Unit) => ((0 : Int) ≤ c1 ∧ (0 : Int) ≤ u ∧ u ≤ (2 : Int) ∧ Sp.smallS (s0, s1, s2, ()),
  fun
  (x :
  ((List (List UInt8 × Int × Unit) × List (Int × Int × Bool × Int × List (List UInt8 × Int × Int × List UInt8 × Unit) × Unit) × Int × Unit) × Unit) ×
  (List (Int × Unit) × Int × Int × Unit) × Unit) =>
  (0 : Int) ≤ x.2.1.2.1 ∧ Sp.smallS (x.1.1.1, x.1.1.2.1, x.1.1.2.2.1, ())).2
  r)) (h c0 c1 c2 s0 s1 s2 u hin hp)

def H_laws_FnReadWrite : Hints := Go.Fw.hints [] [(15, ⟨[], ⟨[(5, .vptr 320 0), (6, .one (.int .i64)), (7, .vptr 448 0)], [(320, .var [.sl 26 (.cons .str (.cons (.int .i64) .nil)) true, .sl 39 (.cons (.int .i64) (.cons (.int .i64) (.cons .bool (.cons (.int .i64) (.cons (.sl 116 (.cons .str (.cons (.int .i64) (.cons (.int .i64) (.cons .str .nil))))) .nil))))) true, .int .i64]), (448, .var [.sl 26 (.cons .str (.cons (.int .i64) .nil)) false, .sl 39 (.cons (.int .i64) (.cons (.int .i64) (.cons .bool (.cons (.int .i64) (.cons (.sl 116 (.cons .str (.cons (.int .i64) (.cons (.int .i64) (.cons .str .nil))))) .nil))))) false, .int .i64])]⟩, ⟨[(11, .one (.int .i64))], []⟩⟩), (9, ⟨[], ⟨[(5, .vptr 320 0), (6, .one (.int .i64)), (7, .vptr 448 0)], [(320, .var [.sl 26 (.cons .str (.cons (.int .i64) .nil)) true, .sl 39 (.cons (.int .i64) (.cons (.int .i64) (.cons .bool (.cons (.int .i64) (.cons (.sl 116 (.cons .str (.cons (.int .i64) (.cons (.int .i64) (.cons .str .nil))))) .nil))))) true, .int .i64]), (448, .var [.sl 26 (.cons .str (.cons (.int .i64) .nil)) false, .sl 39 (.cons (.int .i64) (.cons (.int .i64) (.cons .bool (.cons (.int .i64) (.cons (.sl 116 (.cons .str (.cons (.int .i64) (.cons (.int .i64) (.cons .str .nil))))) .nil))))) false, .int .i64])]⟩, ⟨[(8, .one (.int .i64))], []⟩⟩)] [(8, ⟨[], ⟨[(5, .vptr 320 0), (6, .one (.int .i64)), (7, .vptr 448 0)], [(320, .var [.sl 26 (.cons .str (.cons (.int .i64) .nil)) true, .sl 39 (.cons (.int .i64) (.cons (.int .i64) (.cons .bool (.cons (.int .i64) (.cons (.sl 116 (.cons .str (.cons (.int .i64) (.cons (.int .i64) (.cons .str .nil))))) .nil))))) true, .int .i64]), (448, .var [.sl 26 (.cons .str (.cons (.int .i64) .nil)) false, .sl 39 (.cons (.int .i64) (.cons (.int .i64) (.cons .bool (.cons (.int .i64) (.cons (.sl 116 (.cons .str (.cons (.int .i64) (.cons (.int .i64) (.cons .str .nil))))) .nil))))) false, .int .i64])]⟩, ⟨[], []⟩⟩)] [] []
def VC_laws_FnReadWrite (code : List (Int × Unit)) (K : Bool × Unit → Prop) : Prop :=
  True ∧
 let r0 := decide ((1048576 : Int) < (↑code.length : Int));
  bif r0 then K (true, ())
  else
  code.length ≤ (1048576 : Nat) ∧
  ∀ (r1 : ((Int × Int × Bool × Int × List (List UInt8 × Int × Int × List UInt8 × Unit) × Unit) × Int × Unit) × Unit),
  Sp.smallF (r1.1.1.1, r1.1.1.2.1, r1.1.1.2.2.1, r1.1.1.2.2.2.1, r1.1.1.2.2.2.2.1, ()) →
  code.length ≤ (1048576 : Nat) ∧
  ∀ (r2 : ((List (List UInt8 × Int × Unit) × List (Int × Int × Bool × Int × List (List UInt8 × Int × Int × List UInt8 × Unit) × Unit) × Int × Unit) × Int × Unit) × Unit),
  Sp.smallS (r2.1.1.1, r2.1.1.2.1, r2.1.1.2.2.1, ()) →
  Sp.smallS (r2.1.1.1, r2.1.1.2.1, r2.1.1.2.2.1, ()) ∧
 let r3 := (Sp.visible (r2.1.1.1, r2.1.1.2.1, r2.1.1.2.2.1, ()) r2.1.2.1).1;
 let r4 := (Sp.visible (r2.1.1.1, r2.1.1.2.1, r2.1.1.2.2.1, ()) r2.1.2.1).2.1;
 let r5 := (Sp.visible (r2.1.1.1, r2.1.1.2.1, r2.1.1.2.2.1, ()) r2.1.2.1).2.2.1;
 let s6 := (((), r2.1.2.1, (), ()), (r2.1.1.1, r2.1.1.2.1, r2.1.1.2.2.1, ()), (r3, r4, r5, ()), ());
  ∃ (J : Unit × Unit → Prop),
  (True ∧
 let r7 :=
  Sp.canRead (r1.1.1.1, r1.1.1.2.1, r1.1.1.2.2.1, r1.1.1.2.2.2.1, r1.1.1.2.2.2.2.1, ()) r1.1.2.1;
  True ∧
 let r8 :=
  Sp.canRead (r1.1.1.1, r1.1.1.2.1, r1.1.1.2.2.1, r1.1.1.2.2.2.1, r1.1.1.2.2.2.2.1, ()) r1.1.2.1;
  bif !r7 == r8 then K (false, ())
  else
  True ∧
 let r9 :=
  Sp.canWrite (r1.1.1.1, r1.1.1.2.1, r1.1.1.2.2.1, r1.1.1.2.2.2.1, r1.1.1.2.2.2.2.1, ())
  r1.1.2.1;
  True ∧
 let r10 :=
  Sp.canWrite (r1.1.1.1, r1.1.1.2.1, r1.1.1.2.2.1, r1.1.1.2.2.2.1, r1.1.1.2.2.2.2.1, ())
  r1.1.2.1;
  bif !r9 == r10 then K (false, ())
  else
  True ∧
 let r11 :=
  Sp.canWrite (r1.1.1.1, r1.1.1.2.1, r1.1.1.2.2.1, r1.1.1.2.2.2.1, r1.1.1.2.2.2.2.1, ())
  r1.1.2.1;
  bif r11 then
  True ∧
 let r12 :=
  Sp.canRead (r1.1.1.1, r1.1.1.2.1, r1.1.1.2.2.1, r1.1.1.2.2.2.1, r1.1.1.2.2.2.2.1, ())
  r1.1.2.1;
  bif !r12 then K (false, ())
  else
  Sp.smallS (r2.1.1.1, r2.1.1.2.1, r2.1.1.2.2.1, ()) ∧
 let r13 := (Sp.visible (r2.1.1.1, r2.1.1.2.1, r2.1.1.2.2.1, ()) r2.1.2.1).1;
 let r14 := (Sp.visible (r2.1.1.1, r2.1.1.2.1, r2.1.1.2.2.1, ()) r2.1.2.1).2.1;
 let r15 := (Sp.visible (r2.1.1.1, r2.1.1.2.1, r2.1.1.2.2.1, ()) r2.1.2.1).2.2.1;
  True ∧
 let r16 := decide ((r3, r4, r5, ()) = (r13, r14, r15, ()));
  bif !r16 then K (false, ()) else s6 = s6 ∧ J ((), ())
  else
  Sp.smallS (r2.1.1.1, r2.1.1.2.1, r2.1.1.2.2.1, ()) ∧
 let r17 := (Sp.visible (r2.1.1.1, r2.1.1.2.1, r2.1.1.2.2.1, ()) r2.1.2.1).1;
 let r18 := (Sp.visible (r2.1.1.1, r2.1.1.2.1, r2.1.1.2.2.1, ()) r2.1.2.1).2.1;
 let r19 := (Sp.visible (r2.1.1.1, r2.1.1.2.1, r2.1.1.2.2.1, ()) r2.1.2.1).2.2.1;
  True ∧
 let r20 := decide ((r3, r4, r5, ()) = (r17, r18, r19, ()));
  bif !r20 then K (false, ()) else s6 = s6 ∧ J ((), ())) ∧
  ∀ (y21 : Unit × Unit),
  J y21 →
 let s22 := (((), r2.1.2.1, (), ()), (r2.1.1.1, r2.1.1.2.1, r2.1.1.2.2.1, ()), (r3, r4, r5, ()), ());
  ∃ (I : (Int × Unit) × Unit → Prop),
  ∃ (μ : (Int × Unit) × Unit → Nat),
  I (((0 : Int), ()), ()) ∧
  ∀ (y23 : (Int × Unit) × Unit),
  I y23 →
  bif decide (y23.1.1 < (↑(List.length r2.1.1.2.1) : Int)) then
  ((0 : Int) ≤ y23.1.1 ∧ y23.1.1 < (↑(List.length r2.1.1.2.1) : Int)) ∧
  Sp.smallS (r3, r4, r5, ()) ∧
 let r29 :=
  (Sp.findFile (r3, r4, r5, ())
  (List.getD r2.1.1.2.1 (Int.toNat y23.1.1) ((0 : Int), (0 : Int), false, (0 : Int), [], ())).1).2;
  True ∧
 let r30 := Sp.okStore (r2.1.1.1, r2.1.1.2.1, r2.1.1.2.2.1, ());
  bif r30 then
  ((0 : Int) ≤ y23.1.1 ∧ y23.1.1 < (↑(List.length r2.1.1.2.1) : Int)) ∧
  True ∧
 let r31 :=
  Sp.canRead
  ((List.getD r2.1.1.2.1 (Int.toNat y23.1.1) ((0 : Int), (0 : Int), false, (0 : Int), [], ())).1,
  (List.getD r2.1.1.2.1 (Int.toNat y23.1.1) ((0 : Int), (0 : Int), false, (0 : Int), [], ())).2.1,
  (List.getD r2.1.1.2.1 (Int.toNat y23.1.1) ((0 : Int), (0 : Int), false, (0 : Int), [], ())).2.2.1,
  (List.getD r2.1.1.2.1 (Int.toNat y23.1.1) ((0 : Int), (0 : Int), false, (0 : Int), [], ())).2.2.2.1,
  (List.getD r2.1.1.2.1 (Int.toNat y23.1.1) ((0 : Int), (0 : Int), false, (0 : Int), [], ())).2.2.2.2.1,
  ())
  r2.1.2.1;
  bif !r29 == r31 then K (false, ())
  else
  s22 = s22 ∧
  I ((IntKind.i64.wrap (y23.1.1 + (1 : Int)), ()), ()) ∧ μ ((IntKind.i64.wrap (y23.1.1 + (1 : Int)), ()), ()) < μ y23
  else
  s22 = s22 ∧
  I ((IntKind.i64.wrap (y23.1.1 + (1 : Int)), ()), ()) ∧ μ ((IntKind.i64.wrap (y23.1.1 + (1 : Int)), ()), ()) < μ y23
  else
 let s32 := (((), r2.1.2.1, (), ()), (r2.1.1.1, r2.1.1.2.1, r2.1.1.2.2.1, ()), (r3, r4, r5, ()), ());
  ∃ (I : (Int × Unit) × Unit → Prop),
  ∃ (μ : (Int × Unit) × Unit → Nat),
  I (((0 : Int), ()), ()) ∧
  ∀ (y33 : (Int × Unit) × Unit),
  I y33 →
  bif decide (y33.1.1 < (↑r4.length : Int)) then
  ((0 : Int) ≤ y33.1.1 ∧ y33.1.1 < (↑r4.length : Int)) ∧
  Sp.smallS (r3, r4, r5, ()) ∧
 let r39 :=
  (Sp.findFile (r3, r4, r5, ())
  (r4.getD (Int.toNat y33.1.1) ((0 : Int), (0 : Int), false, (0 : Int), [], ())).2.2.2.1).2;
  ((0 : Int) ≤ y33.1.1 ∧ y33.1.1 < (↑r4.length : Int)) ∧
  bif (r4.getD (Int.toNat y33.1.1) ((0 : Int), (0 : Int), false, (0 : Int), [], ())).2.2.2.1 != (0 : Int) then
  bif !r39 then K (false, ())
  else
  s32 = s32 ∧
  I ((IntKind.i64.wrap (y33.1.1 + (1 : Int)), ()), ()) ∧
  μ ((IntKind.i64.wrap (y33.1.1 + (1 : Int)), ()), ()) < μ y33
  else
  s32 = s32 ∧
  I ((IntKind.i64.wrap (y33.1.1 + (1 : Int)), ()), ()) ∧
  μ ((IntKind.i64.wrap (y33.1.1 + (1 : Int)), ()), ()) < μ y33
  else
  Sp.smallS (r3, r4, r5, ()) ∧
 let r40 := (Sp.visible (r3, r4, r5, ()) r2.1.2.1).1;
 let r41 := (Sp.visible (r3, r4, r5, ()) r2.1.2.1).2.1;
 let r42 := (Sp.visible (r3, r4, r5, ()) r2.1.2.1).2.2.1;
  True ∧
 let r43 := decide ((r40, r41, r42, ()) = (r3, r4, r5, ()));
  bif r43 then
  List.length r2.1.1.2.1 ≤ (1000 : Nat) ∧
 let r44 := Sp.ownedBy r2.1.1.2.1 r2.1.2.1;
  List.length r2.1.1.2.1 ≤ (1000 : Nat) ∧
 let r45 := Sp.ownedBy r2.1.1.2.1 r2.1.2.1;
  True ∧
 let r46 := decide (r44 = r45);
  K (r46, ())
  else K (false, ())
theorem wk_laws_FnReadWrite (env : EnvB prog G Θ Γ_laws_FnReadWrite) (h : ∀ (code : List (Int × Unit)), psInR sh_laws_FnReadWrite (code, ()) → (True) → VC_laws_FnReadWrite code fun r => r = ((true, ()))) : ConOK prog G n_laws_FnReadWrite con_laws_FnReadWrite :=
  conR_ok env mixed (fn := f4) (c := codeOf f4) (by kernel_rfl) (by kernel_rfl) H_laws_FnReadWrite (by kernel_rfl) fun ⟨code, ⟨⟩⟩ hin hp =>
  Eq.mpr ((by kernel_rfl : awp Θ Γ_laws_FnReadWrite H_laws_FnReadWrite (codeOf f4) (endsV Θ f4.results.toList rsh_laws_FnReadWrite fun r => r = (F_laws_FnReadWrite (code, ())).2) (entry f4.ntmps (psVals sh_laws_FnReadWrite (code, ()))) = VC_laws_FnReadWrite code fun r => r = ((true, ())))) (h code hin hp)

end Go.Proofs.Try

import Derived.Test.YtiifcpnpbfjlcaaF
namespace Go.Proofs.Try
open Go Go.Fw
set_option maxRecDepth 100000
def H_spec_l01New : Hints := Go.Fw.hints [31] [(3, ⟨[], ⟨[(0, .one (.sl 5 (.cons (.int .u8) .nil) false))], []⟩, ⟨[(3, .one (.int .i64)), (4, .one (.int .i64))], []⟩⟩)] [] [] []
def VC_spec_l01New (code : List (Int × Unit)) (K : List (Int × Unit) × Int × Int × Unit → Prop) : Prop :=
 let s0 := ((code, ()), ());
  ∃ (I : (Int × Int × Unit) × Unit → Prop),
  ∃ (μ : (Int × Int × Unit) × Unit → Nat),
  I ((IntKind.i64.wrap ((94701 : Int) + (↑code.length : Int)), (0 : Int), ()), ()) ∧
  ∀ (y1 : (Int × Int × Unit) × Unit),
  I y1 →
  bif decide (y1.1.2.1 < (↑code.length : Int)) then
  bif decide (y1.1.2.1 < (4000 : Int)) then
  ((0 : Int) ≤ y1.1.2.1 ∧ y1.1.2.1 < (↑code.length : Int)) ∧
  s0 = s0 ∧
  I
  ((bitsOf BinOp.and IntKind.i64
  (IntKind.i64.wrap
  (IntKind.i64.wrap (IntKind.i64.wrap (y1.1.1 * (131 : Int)) + IntKind.i64.wrap (code.getD (Int.toNat y1.1.2.1) ((0 : Int), ())).1) +
  (7 : Int)))
  (1073741823 : Int),
  IntKind.i64.wrap (y1.1.2.1 + (1 : Int)), ()),
  ()) ∧
  μ
  ((bitsOf BinOp.and IntKind.i64
  (IntKind.i64.wrap
  (IntKind.i64.wrap (IntKind.i64.wrap (y1.1.1 * (131 : Int)) + IntKind.i64.wrap (code.getD (Int.toNat y1.1.2.1) ((0 : Int), ())).1) +
  (7 : Int)))
  (1073741823 : Int),
  IntKind.i64.wrap (y1.1.2.1 + (1 : Int)), ()),
  ()) <
  μ y1
  else K (code, (0 : Int), y1.1.1, ())
  else K (code, (0 : Int), y1.1.1, ())
theorem wk_spec_l01New (env : EnvB prog G Θ Γ_spec_l01New) (hne : ∀ x, (F_spec_l01New x).1 → ∃ t, (F_spec_l01New x).2 t) (h : ∀ (code : List (Int × Unit)), xsInR sh_spec_l01New (code, ()) → (code.length ≤ (1048576 : Nat)) → VC_spec_l01New code fun (r : List (Int × Unit) × Int × Int × Unit) => (code.length ≤ (1048576 : Nat), fun (x : List (Int × Unit) × Int × Int × Unit) => x.2.1 = (0 : Int)).2 r) : XConOK prog G n_spec_l01New con_spec_l01New :=
  conP_ok env mixed (fn := f57) (c := codeOf f57) (by kernel_rfl) (by kernel_rfl) H_spec_l01New (by kernel_rfl) hne fun ⟨code, ⟨⟩⟩ hin hp =>
  Eq.mpr ((by kernel_rfl : awp Θ Γ_spec_l01New H_spec_l01New (codeOf f57) (endsP f57.results.toList psh_spec_l01New (F_spec_l01New (code, ())).2) (entryX f57.ntmps (xsVals sh_spec_l01New (code, ()))) = VC_spec_l01New code fun (r : List (Int × Unit) × Int × Int × Unit) => (code.length ≤ (1048576 : Nat), fun (x : List (Int × Unit) × Int × Int × Unit) => x.2.1 = (0 : Int)).2 r)) (h code hin hp)

def H_spec_l01Byte : Hints := Go.Fw.hints [] [] [] [] []
def VC_spec_l01Byte (c0 : List (Int × Unit)) (c1 : Int) (c2 : Int) (K : (Int × Unit) × (List (Int × Unit) × Int × Int × Unit) × Unit → Prop) : Prop :=
  (0 : Int) ≤ (33 : Int) ∧
  (0 : Int) ≤ (45 : Int) ∧
  bif decide (c1 < (↑c0.length : Int)) then
  ((0 : Int) ≤ c1 ∧ c1 < (↑c0.length : Int)) ∧
  K
  ((bitsOf BinOp.and IntKind.i64
  (IntKind.i64.wrap
  (bitsOf BinOp.and IntKind.i64
  (bitsOf BinOp.xor IntKind.i64
  ((IntKind.i64.wrap (IntKind.i64.wrap (c2 * (6364136223846793005 : Int)) + (1442695040888963407 : Int))).fdiv
  ((2 : Int) ^ min (Int.toNat (33 : Int)) IntKind.i64.bits))
  ((IntKind.i64.wrap (IntKind.i64.wrap (c2 * (6364136223846793005 : Int)) + (1442695040888963407 : Int))).fdiv
  ((2 : Int) ^ min (Int.toNat (45 : Int)) IntKind.i64.bits)))
  (255 : Int) +
  IntKind.i64.wrap (c0.getD c1.toNat ((0 : Int), ())).1))
  (255 : Int),
  ()),
  (c0, IntKind.i64.wrap (c1 + (1 : Int)), IntKind.i64.wrap (IntKind.i64.wrap (c2 * (6364136223846793005 : Int)) + (1442695040888963407 : Int)), ()), ())
  else
  K
  ((bitsOf BinOp.and IntKind.i64
  (bitsOf BinOp.xor IntKind.i64
  ((IntKind.i64.wrap (IntKind.i64.wrap (c2 * (6364136223846793005 : Int)) + (1442695040888963407 : Int))).fdiv
  ((2 : Int) ^ min (Int.toNat (33 : Int)) IntKind.i64.bits))
  ((IntKind.i64.wrap (IntKind.i64.wrap (c2 * (6364136223846793005 : Int)) + (1442695040888963407 : Int))).fdiv
  ((2 : Int) ^ min (Int.toNat (45 : Int)) IntKind.i64.bits)))
  (255 : Int),
  ()),
  (c0, c1, IntKind.i64.wrap (IntKind.i64.wrap (c2 * (6364136223846793005 : Int)) + (1442695040888963407 : Int)), ()), ())
theorem wk_spec_l01Byte (env : EnvB prog G Θ Γ_spec_l01Byte) (hne : ∀ x, (F_spec_l01Byte x).1 → ∃ t, (F_spec_l01Byte x).2 t) (h : ∀ (c0 : List (Int × Unit)) (c1 : Int) (c2 : Int), xsInR sh_spec_l01Byte ((c0, c1, c2, ()), ()) → ((0 : Int) ≤ c1) → VC_spec_l01Byte c0 c1 c2 fun (r : (Int × Unit) × (List (Int × Unit) × Int × Int × Unit) × Unit) => ((0 : Int) ≤ c1, fun (x : (Int × Unit) × (List (Int × Unit) × Int × Int × Unit) × Unit) => (0 : Int) ≤ x.2.1.2.1 ∧ (0 : Int) ≤ x.1.1 ∧ x.1.1 ≤ (255 : Int)).2 r) : XConOK prog G n_spec_l01Byte con_spec_l01Byte :=
  conX_ok env mixed (fn := f117) (c := codeOf f117) (by kernel_rfl) (by kernel_rfl) H_spec_l01Byte (by kernel_rfl) hne fun ⟨⟨c0, c1, c2, ⟨⟩⟩, ⟨⟩⟩ hin hp =>
  Eq.mpr ((by kernel_rfl : awp Θ Γ_spec_l01Byte H_spec_l01Byte (codeOf f117) (endsX Θ f117.results.toList sh_spec_l01Byte rsh_spec_l01Byte (F_spec_l01Byte ((c0, c1, c2, ()), ())).2) (entryX f117.ntmps (xsVals sh_spec_l01Byte ((c0, c1, c2, ()), ()))) = VC_spec_l01Byte c0 c1 c2 fun (r : (Int × Unit) × (List (Int × Unit) × Int × Int × Unit) × Unit) => ((0 : Int) ≤ c1, fun (x : (Int × Unit) × (List (Int × Unit) × Int × Int × Unit) × Unit) => (0 : Int) ≤ x.2.1.2.1 ∧ (0 : Int) ≤ x.1.1 ∧ x.1.1 ≤ (255 : Int)).2 r)) (h c0 c1 c2 hin hp)

def H_spec_l01Below : Hints := Go.Fw.hints [] [] [] [] []
def VC_spec_l01Below (c0 : List (Int × Unit)) (c1 : Int) (c2 : Int) (n : Int) (K : (Int × Unit) × (List (Int × Unit) × Int × Int × Unit) × Unit → Prop) : Prop :=
  bif decide (n ≤ (0 : Int)) then K (((0 : Int), ()), (c0, c1, c2, ()), ())
  else
  bif decide (n ≤ (256 : Int)) then
  (0 : Int) ≤ c1 ∧
  ∀ (r0 : (Int × Unit) × (List (Int × Unit) × Int × Int × Unit) × Unit),
  (0 : Int) ≤ r0.2.1.2.1 ∧ (0 : Int) ≤ r0.1.1 ∧ r0.1.1 ≤ (255 : Int) →
  n ≠ (0 : Int) ∧ K ((Int.tmod r0.1.1 n, ()), (r0.2.1.1, r0.2.1.2.1, r0.2.1.2.2.1, ()), ())
  else
  (0 : Int) ≤ c1 ∧
  ∀ (r1 : (Int × Unit) × (List (Int × Unit) × Int × Int × Unit) × Unit),
  (0 : Int) ≤ r1.2.1.2.1 ∧ (0 : Int) ≤ r1.1.1 ∧ r1.1.1 ≤ (255 : Int) →
  (0 : Int) ≤ r1.2.1.2.1 ∧
  ∀ (r2 : (Int × Unit) × (List (Int × Unit) × Int × Int × Unit) × Unit),
  (0 : Int) ≤ r2.2.1.2.1 ∧ (0 : Int) ≤ r2.1.1 ∧ r2.1.1 ≤ (255 : Int) →
  (0 : Int) ≤ r2.2.1.2.1 ∧
  ∀ (r3 : (Int × Unit) × (List (Int × Unit) × Int × Int × Unit) × Unit),
  (0 : Int) ≤ r3.2.1.2.1 ∧ (0 : Int) ≤ r3.1.1 ∧ r3.1.1 ≤ (255 : Int) →
  (0 : Int) ≤ r3.2.1.2.1 ∧
  ∀ (r4 : (Int × Unit) × (List (Int × Unit) × Int × Int × Unit) × Unit),
  (0 : Int) ≤ r4.2.1.2.1 ∧ (0 : Int) ≤ r4.1.1 ∧ r4.1.1 ≤ (255 : Int) →
  n ≠ (0 : Int) ∧
  K
  (((IntKind.i64.wrap
  (IntKind.i64.wrap
  (IntKind.i64.wrap (IntKind.i64.wrap (r1.1.1 * (16777216 : Int)) + IntKind.i64.wrap (r2.1.1 * (65536 : Int))) +
  IntKind.i64.wrap (r3.1.1 * (256 : Int))) +
  r4.1.1)).tmod
  n,
  ()),
  (r4.2.1.1, r4.2.1.2.1, r4.2.1.2.2.1, ()), ())
theorem wk_spec_l01Below (env : EnvB prog G Θ Γ_spec_l01Below) (hne : ∀ x, (F_spec_l01Below x).1 → ∃ t, (F_spec_l01Below x).2 t) (h : ∀ (c0 : List (Int × Unit)) (c1 : Int) (c2 : Int) (n : Int), xsInR sh_spec_l01Below ((c0, c1, c2, ()), n, ()) → ((0 : Int) ≤ c1) → VC_spec_l01Below c0 c1 c2 n fun (r : (Int × Unit) × (List (Int × Unit) × Int × Int × Unit) × Unit) => ((0 : Int) ≤ c1, fun (x : (Int × Unit) × (List (Int × Unit) × Int × Int × Unit) × Unit) =>
  (0 : Int) ≤ x.2.1.2.1 ∧ (0 : Int) ≤ x.1.1 ∧ ((0 : Int) < n → x.1.1 < n) ∧ (n ≤ (0 : Int) → x.1.1 = (0 : Int))).2
  r) : XConOK prog G n_spec_l01Below con_spec_l01Below :=
  conX_ok env mixed (fn := f90) (c := codeOf f90) (by kernel_rfl) (by kernel_rfl) H_spec_l01Below (by kernel_rfl) hne fun ⟨⟨c0, c1, c2, ⟨⟩⟩, n, ⟨⟩⟩ hin hp =>
  Eq.mpr ((by kernel_rfl : awp Θ Γ_spec_l01Below H_spec_l01Below (codeOf f90) (endsX Θ f90.results.toList sh_spec_l01Below rsh_spec_l01Below (F_spec_l01Below ((c0, c1, c2, ()), n, ())).2) (entryX f90.ntmps (xsVals sh_spec_l01Below ((c0, c1, c2, ()), n, ()))) = VC_spec_l01Below c0 c1 c2 n fun (r : (Int × Unit) × (List (Int × Unit) × Int × Int × Unit) × Unit) => ((0 : Int) ≤ c1, fun (x : (Int × Unit) × (List (Int × Unit) × Int × Int × Unit) × Unit) =>
  (0 : Int) ≤ x.2.1.2.1 ∧ (0 : Int) ≤ x.1.1 ∧ ((0 : Int) < n → x.1.1 < n) ∧ (n ≤ (0 : Int) → x.1.1 = (0 : Int))).2
  r)) (h c0 c1 c2 n hin hp)

def H_spec_l01Once : Hints := Go.Fw.hints [] [] [] [] []
def VC_spec_l01Once (c0 : List (Int × Unit)) (c1 : Int) (c2 : Int) (n : Int) (K : (Bool × Unit) × (List (Int × Unit) × Int × Int × Unit) × Unit → Prop) : Prop :=
  (0 : Int) ≤ c1 ∧
  ∀ (r0 : (Int × Unit) × (List (Int × Unit) × Int × Int × Unit) × Unit),
  (0 : Int) ≤ r0.2.1.2.1 ∧ (0 : Int) ≤ r0.1.1 ∧ ((0 : Int) < n → r0.1.1 < n) ∧ (n ≤ (0 : Int) → r0.1.1 = (0 : Int)) →
  K ((r0.1.1 == (0 : Int), ()), (r0.2.1.1, r0.2.1.2.1, r0.2.1.2.2.1, ()), ())
theorem wk_spec_l01Once (env : EnvB prog G Θ Γ_spec_l01Once) (hne : ∀ x, (F_spec_l01Once x).1 → ∃ t, (F_spec_l01Once x).2 t) (h : ∀ (c0 : List (Int × Unit)) (c1 : Int) (c2 : Int) (n : Int), xsInR sh_spec_l01Once ((c0, c1, c2, ()), n, ()) → ((0 : Int) ≤ c1) → VC_spec_l01Once c0 c1 c2 n fun (r : (Bool × Unit) × (List (Int × Unit) × Int × Int × Unit) × Unit) => ((0 : Int) ≤ c1, fun (x : (Bool × Unit) × (List (Int × Unit) × Int × Int × Unit) × Unit) => (x.2.1.2.1 - (0 : Int)).NonNeg).2 r) : XConOK prog G n_spec_l01Once con_spec_l01Once :=
  conX_ok env mixed (fn := f91) (c := codeOf f91) (by kernel_rfl) (by kernel_rfl) H_spec_l01Once (by kernel_rfl) hne fun ⟨⟨c0, c1, c2, ⟨⟩⟩, n, ⟨⟩⟩ hin hp =>
  Eq.mpr ((by kernel_rfl : awp Θ Γ_spec_l01Once H_spec_l01Once (codeOf f91) (endsX Θ f91.results.toList sh_spec_l01Once rsh_spec_l01Once (F_spec_l01Once ((c0, c1, c2, ()), n, ())).2) (entryX f91.ntmps (xsVals sh_spec_l01Once ((c0, c1, c2, ()), n, ()))) = VC_spec_l01Once c0 c1 c2 n fun (r : (Bool × Unit) × (List (Int × Unit) × Int × Int × Unit) × Unit) => ((0 : Int) ≤ c1, fun (x : (Bool × Unit) × (List (Int × Unit) × Int × Int × Unit) × Unit) => (x.2.1.2.1 - (0 : Int)).NonNeg).2 r)) (h c0 c1 c2 n hin hp)

def H_spec_l01Pick : Hints := Go.Fw.hints [] [] [] [] []
def VC_spec_l01Pick (c0 : List (Int × Unit)) (c1 : Int) (c2 : Int) (list : List (List UInt8 × Unit)) (K : (List UInt8 × Unit) × (List (Int × Unit) × Int × Int × Unit) × Unit → Prop) : Prop :=
  (0 : Int) ≤ c1 ∧
  ∀ (r0 : (Int × Unit) × (List (Int × Unit) × Int × Int × Unit) × Unit),
  (0 : Int) ≤ r0.2.1.2.1 ∧
  (0 : Int) ≤ r0.1.1 ∧ ((0 : Int) < (↑list.length : Int) → r0.1.1 < (↑list.length : Int)) ∧ ((↑list.length : Int) ≤ (0 : Int) → r0.1.1 = (0 : Int)) →
  ((0 : Int) ≤ r0.1.1 ∧ r0.1.1 < (↑list.length : Int)) ∧
  K (((list.getD (Int.toNat r0.1.1) ([], ())).1, ()), (r0.2.1.1, r0.2.1.2.1, r0.2.1.2.2.1, ()), ())
theorem wk_spec_l01Pick (env : EnvB prog G Θ Γ_spec_l01Pick) (hne : ∀ x, (F_spec_l01Pick x).1 → ∃ t, (F_spec_l01Pick x).2 t) (h : ∀ (c0 : List (Int × Unit)) (c1 : Int) (c2 : Int) (list : List (List UInt8 × Unit)), xsInR sh_spec_l01Pick ((c0, c1, c2, ()), list, ()) → ((0 : Int) ≤ c1 ∧ list ≠ []) → VC_spec_l01Pick c0 c1 c2 list fun (r : (List UInt8 × Unit) × (List (Int × Unit) × Int × Int × Unit) × Unit) => ((0 : Int) ≤ c1 ∧ list ≠ [], fun (x : (List UInt8 × Unit) × (List (Int × Unit) × Int × Int × Unit) × Unit) => (0 : Int) ≤ x.2.1.2.1 ∧ (x.1.1, ()) ∈ list).2 r) : XConOK prog G n_spec_l01Pick con_spec_l01Pick :=
  conX_ok env mixed (fn := f59) (c := codeOf f59) (by kernel_rfl) (by kernel_rfl) H_spec_l01Pick (by kernel_rfl) hne fun ⟨⟨c0, c1, c2, ⟨⟩⟩, list, ⟨⟩⟩ hin hp =>
  Eq.mpr ((by kernel_rfl : awp Θ Γ_spec_l01Pick H_spec_l01Pick (codeOf f59) (endsX Θ f59.results.toList sh_spec_l01Pick rsh_spec_l01Pick (F_spec_l01Pick ((c0, c1, c2, ()), list, ())).2) (entryX f59.ntmps (xsVals sh_spec_l01Pick ((c0, c1, c2, ()), list, ()))) = VC_spec_l01Pick c0 c1 c2 list fun (r : (List UInt8 × Unit) × (List (Int × Unit) × Int × Int × Unit) × Unit) => ((0 : Int) ≤ c1 ∧ list ≠ [], fun (x : (List UInt8 × Unit) × (List (Int × Unit) × Int × Int × Unit) × Unit) => (0 : Int) ≤ x.2.1.2.1 ∧ (x.1.1, ()) ∈ list).2 r)) (h c0 c1 c2 list hin hp)

def H_spec_l01PickInt : Hints := Go.Fw.hints [] [] [] [] []
def VC_spec_l01PickInt (c0 : List (Int × Unit)) (c1 : Int) (c2 : Int) (list : List (Int × Unit)) (K : (Int × Unit) × (List (Int × Unit) × Int × Int × Unit) × Unit → Prop) : Prop :=
  (0 : Int) ≤ c1 ∧
  ∀ (r0 : (Int × Unit) × (List (Int × Unit) × Int × Int × Unit) × Unit),
  (0 : Int) ≤ r0.2.1.2.1 ∧
  (0 : Int) ≤ r0.1.1 ∧ ((0 : Int) < (↑list.length : Int) → r0.1.1 < (↑list.length : Int)) ∧ ((↑list.length : Int) ≤ (0 : Int) → r0.1.1 = (0 : Int)) →
  ((0 : Int) ≤ r0.1.1 ∧ r0.1.1 < (↑list.length : Int)) ∧
  K (((list.getD (Int.toNat r0.1.1) ((0 : Int), ())).1, ()), (r0.2.1.1, r0.2.1.2.1, r0.2.1.2.2.1, ()), ())
theorem wk_spec_l01PickInt (env : EnvB prog G Θ Γ_spec_l01PickInt) (hne : ∀ x, (F_spec_l01PickInt x).1 → ∃ t, (F_spec_l01PickInt x).2 t) (h : ∀ (c0 : List (Int × Unit)) (c1 : Int) (c2 : Int) (list : List (Int × Unit)), xsInR sh_spec_l01PickInt ((c0, c1, c2, ()), list, ()) → ((0 : Int) ≤ c1 ∧ list ≠ []) → VC_spec_l01PickInt c0 c1 c2 list fun (r : (Int × Unit) × (List (Int × Unit) × Int × Int × Unit) × Unit) => ((0 : Int) ≤ c1 ∧ list ≠ [], fun (x : (Int × Unit) × (List (Int × Unit) × Int × Int × Unit) × Unit) => (0 : Int) ≤ x.2.1.2.1 ∧ (x.1.1, ()) ∈ list).2 r) : XConOK prog G n_spec_l01PickInt con_spec_l01PickInt :=
  conX_ok env mixed (fn := f60) (c := codeOf f60) (by kernel_rfl) (by kernel_rfl) H_spec_l01PickInt (by kernel_rfl) hne fun ⟨⟨c0, c1, c2, ⟨⟩⟩, list, ⟨⟩⟩ hin hp =>
  Eq.mpr ((by kernel_rfl : awp Θ Γ_spec_l01PickInt H_spec_l01PickInt (codeOf f60) (endsX Θ f60.results.toList sh_spec_l01PickInt rsh_spec_l01PickInt (F_spec_l01PickInt ((c0, c1, c2, ()), list, ())).2) (entryX f60.ntmps (xsVals sh_spec_l01PickInt ((c0, c1, c2, ()), list, ()))) = VC_spec_l01PickInt c0 c1 c2 list fun (r : (Int × Unit) × (List (Int × Unit) × Int × Int × Unit) × Unit) => ((0 : Int) ≤ c1 ∧ list ≠ [], fun (x : (Int × Unit) × (List (Int × Unit) × Int × Int × Unit) × Unit) => (0 : Int) ≤ x.2.1.2.1 ∧ (x.1.1, ()) ∈ list).2 r)) (h c0 c1 c2 list hin hp)

def H_spec_l03Usual : Hints := Go.Fw.hints [5] [] [] [] []
def VC_spec_l03Usual  (K : (List (List UInt8 × Int × Unit) × Unit) × Unit → Prop) : Prop :=
  K (([([(97 : UInt8)], (1 : Int), ()), ([(98 : UInt8)], (1 : Int), ()), ([(110 : UInt8)], (2 : Int), ()), ([(116 : UInt8)], (2 : Int), ())], ()), ())
theorem wk_spec_l03Usual (env : EnvB prog G Θ Γ_spec_l03Usual) (hne : ∀ x, (F_spec_l03Usual x).1 → ∃ t, (F_spec_l03Usual x).2 t) (h : xsInR sh_spec_l03Usual (()) → (True) → VC_spec_l03Usual  fun (r : (List (List UInt8 × Int × Unit) × Unit) × Unit) => (True, fun (x : (List (List UInt8 × Int × Unit) × Unit) × Unit) => x.1.1 = Sp.usual).2 r) : XConOK prog G n_spec_l03Usual con_spec_l03Usual :=
  conX_ok env mixed (fn := f100) (c := codeOf f100) (by kernel_rfl) (by kernel_rfl) H_spec_l03Usual (by kernel_rfl) hne fun ⟨⟩ hin hp =>
  Eq.mpr ((by kernel_rfl : awp Θ Γ_spec_l03Usual H_spec_l03Usual (codeOf f100) (endsX Θ f100.results.toList sh_spec_l03Usual rsh_spec_l03Usual (F_spec_l03Usual (())).2) (entryX f100.ntmps (xsVals sh_spec_l03Usual (()))) = VC_spec_l03Usual  fun (r : (List (List UInt8 × Int × Unit) × Unit) × Unit) => (True, fun (x : (List (List UInt8 × Int × Unit) × Unit) × Unit) => x.1.1 = Sp.usual).2 r)) (h  hin hp)

def H_spec_l03Name : Hints := Go.Fw.hints [] [] [] [] []
def VC_spec_l03Name (c0 : List (Int × Unit)) (c1 : Int) (c2 : Int) (K : (List UInt8 × Unit) × (List (Int × Unit) × Int × Int × Unit) × Unit → Prop) : Prop :=
  ((0 : Int) ≤ c1 ∧
  [([(97 : UInt8)], ()), ([(98 : UInt8)], ()), ([(110 : UInt8)], ()), ([(116 : UInt8)], ()), ([(97 : UInt8)], ()), ([(98 : UInt8)], ()), ([(116 : UInt8)], ()),
  ([(122 : UInt8)], ()), ([(65 : UInt8)], ()), ([], ())] ≠
  []) ∧
  ∀ (r0 : (List UInt8 × Unit) × (List (Int × Unit) × Int × Int × Unit) × Unit),
  (0 : Int) ≤ r0.2.1.2.1 ∧
  (r0.1.1, ()) ∈
  [([(97 : UInt8)], ()), ([(98 : UInt8)], ()), ([(110 : UInt8)], ()), ([(116 : UInt8)], ()), ([(97 : UInt8)], ()), ([(98 : UInt8)], ()), ([(116 : UInt8)], ()),
  ([(122 : UInt8)], ()), ([(65 : UInt8)], ()), ([], ())] →
  K ((r0.1.1, ()), (r0.2.1.1, r0.2.1.2.1, r0.2.1.2.2.1, ()), ())
theorem wk_spec_l03Name (env : EnvB prog G Θ Γ_spec_l03Name) (hne : ∀ x, (F_spec_l03Name x).1 → ∃ t, (F_spec_l03Name x).2 t) (h : ∀ (c0 : List (Int × Unit)) (c1 : Int) (c2 : Int), xsInR sh_spec_l03Name ((c0, c1, c2, ()), ()) → ((0 : Int) ≤ c1) → VC_spec_l03Name c0 c1 c2 fun (r : (List UInt8 × Unit) × (List (Int × Unit) × Int × Int × Unit) × Unit) => ((0 : Int) ≤ c1, fun (x : (List UInt8 × Unit) × (List (Int × Unit) × Int × Int × Unit) × Unit) => (0 : Int) ≤ x.2.1.2.1 ∧ x.1.1.length ≤ (1 : Nat)).2 r) : XConOK prog G n_spec_l03Name con_spec_l03Name :=
  conX_ok env mixed (fn := f101) (c := codeOf f101) (by kernel_rfl) (by kernel_rfl) H_spec_l03Name (by kernel_rfl) hne fun ⟨⟨c0, c1, c2, ⟨⟩⟩, ⟨⟩⟩ hin hp =>
  Eq.mpr ((by kernel_rfl : awp Θ Γ_spec_l03Name H_spec_l03Name (codeOf f101) (endsX Θ f101.results.toList sh_spec_l03Name rsh_spec_l03Name (F_spec_l03Name ((c0, c1, c2, ()), ())).2) (entryX f101.ntmps (xsVals sh_spec_l03Name ((c0, c1, c2, ()), ()))) = VC_spec_l03Name c0 c1 c2 fun (r : (List UInt8 × Unit) × (List (Int × Unit) × Int × Int × Unit) × Unit) => ((0 : Int) ≤ c1, fun (x : (List UInt8 × Unit) × (List (Int × Unit) × Int × Int × Unit) × Unit) => (0 : Int) ≤ x.2.1.2.1 ∧ x.1.1.length ≤ (1 : Nat)).2 r)) (h c0 c1 c2 hin hp)

def H_spec_l03Any : Hints := Go.Fw.hints [4, 29] [] [] [] []
def VC_spec_l03Any (c0 : List (Int × Unit)) (c1 : Int) (c2 : Int) (K : (List (List UInt8 × Int × Unit) × Unit) × (List (Int × Unit) × Int × Int × Unit) × Unit → Prop) : Prop :=
  True ∧
  ∀ (r0 : (List (List UInt8 × Int × Unit) × Unit) × Unit),
  r0.1.1 = Sp.usual →
  (0 : Int) ≤ c1 ∧
  ∀ (r1 : (Int × Unit) × (List (Int × Unit) × Int × Int × Unit) × Unit),
  (0 : Int) ≤ r1.2.1.2.1 ∧ (0 : Int) ≤ r1.1.1 ∧ ((0 : Int) < (8 : Int) → r1.1.1 < (8 : Int)) ∧ ((8 : Int) ≤ (0 : Int) → r1.1.1 = (0 : Int)) →
  bif r1.1.1 == (0 : Int) then
  (0 : Int) ≤ r1.2.1.2.1 ∧
  ∀ (r2 : (Int × Unit) × (List (Int × Unit) × Int × Int × Unit) × Unit),
  (0 : Int) ≤ r2.2.1.2.1 ∧ (0 : Int) ≤ r2.1.1 ∧ ((0 : Int) < (4 : Int) → r2.1.1 < (4 : Int)) ∧ ((4 : Int) ≤ (0 : Int) → r2.1.1 = (0 : Int)) →
  ((0 : Int) ≤ r2.1.1 ∧ r2.1.1 ≤ (↑(List.length r0.1.1) : Int)) ∧
  K ((List.take (Int.toNat r2.1.1) r0.1.1, ()), (r2.2.1.1, r2.2.1.2.1, r2.2.1.2.2.1, ()), ())
  else
  bif r1.1.1 == (1 : Int) then
  (0 : Int) ≤ r1.2.1.2.1 ∧
  ∀ (r3 : (Int × Unit) × (List (Int × Unit) × Int × Int × Unit) × Unit),
  (0 : Int) ≤ r3.2.1.2.1 ∧ (0 : Int) ≤ r3.1.1 ∧ ((0 : Int) < (4 : Int) → r3.1.1 < (4 : Int)) ∧ ((4 : Int) ≤ (0 : Int) → r3.1.1 = (0 : Int)) →
  (0 : Int) ≤ r3.2.1.2.1 ∧
  ∀ (r4 : (Int × Unit) × (List (Int × Unit) × Int × Int × Unit) × Unit),
  (0 : Int) ≤ r4.2.1.2.1 ∧ (0 : Int) ≤ r4.1.1 ∧ ((0 : Int) < (5 : Int) → r4.1.1 < (5 : Int)) ∧ ((5 : Int) ≤ (0 : Int) → r4.1.1 = (0 : Int)) →
  ((0 : Int) ≤ r3.1.1 ∧ r3.1.1 < (↑(List.length r0.1.1) : Int)) ∧
  Int.toNat r3.1.1 < List.length r0.1.1 ∧
  K
  ((List.set r0.1.1 (Int.toNat r3.1.1)
  ((List.getD r0.1.1 (Int.toNat r3.1.1) ([], (0 : Int), ())).1, IntKind.i64.wrap (r4.1.1 - (1 : Int)), ()),
  ()),
  (r4.2.1.1, r4.2.1.2.1, r4.2.1.2.2.1, ()), ())
  else
  bif r1.1.1 == (2 : Int) then
  (0 : Int) ≤ r1.2.1.2.1 ∧
  ∀ (r5 : (Int × Unit) × (List (Int × Unit) × Int × Int × Unit) × Unit),
  (0 : Int) ≤ r5.2.1.2.1 ∧ (0 : Int) ≤ r5.1.1 ∧ ((0 : Int) < (4 : Int) → r5.1.1 < (4 : Int)) ∧ ((4 : Int) ≤ (0 : Int) → r5.1.1 = (0 : Int)) →
  (0 : Int) ≤ r5.2.1.2.1 ∧
  ∀ (r6 : (List UInt8 × Unit) × (List (Int × Unit) × Int × Int × Unit) × Unit),
  (0 : Int) ≤ r6.2.1.2.1 ∧ r6.1.1.length ≤ (1 : Nat) →
  ((0 : Int) ≤ r5.1.1 ∧ r5.1.1 < (↑(List.length r0.1.1) : Int)) ∧
  Int.toNat r5.1.1 < List.length r0.1.1 ∧
  K
  ((List.set r0.1.1 (Int.toNat r5.1.1) (r6.1.1, (List.getD r0.1.1 (Int.toNat r5.1.1) ([], (0 : Int), ())).2.1, ()), ()),
  (r6.2.1.1, r6.2.1.2.1, r6.2.1.2.2.1, ()), ())
  else
  bif r1.1.1 == (3 : Int) then
  ((0 : Int) ≤ r1.2.1.2.1 ∧ [([(117 : UInt8)], ()), ([(122 : UInt8)], ()), ([(97 : UInt8)], ())] ≠ []) ∧
  ∀ (r7 : (List UInt8 × Unit) × (List (Int × Unit) × Int × Int × Unit) × Unit),
  (0 : Int) ≤ r7.2.1.2.1 ∧ (r7.1.1, ()) ∈ [([(117 : UInt8)], ()), ([(122 : UInt8)], ()), ([(97 : UInt8)], ())] →
  List.length r0.1.1 + [(r7.1.1, (1 : Int), ())].length ≤ big ∧
  K ((r0.1.1 ++ [(r7.1.1, (1 : Int), ())], ()), (r7.2.1.1, r7.2.1.2.1, r7.2.1.2.2.1, ()), ())
  else
  bif r1.1.1 == (4 : Int) then
  List.length r0.1.1 + [([(117 : UInt8)], (1 : Int), ()), ([(118 : UInt8)], (2 : Int), ())].length ≤ big ∧
  K
  ((r0.1.1 ++ [([(117 : UInt8)], (1 : Int), ()), ([(118 : UInt8)], (2 : Int), ())], ()),
  (r1.2.1.1, r1.2.1.2.1, r1.2.1.2.2.1, ()), ())
  else K ((r0.1.1, ()), (r1.2.1.1, r1.2.1.2.1, r1.2.1.2.2.1, ()), ())
theorem wk_spec_l03Any (env : EnvB prog G Θ Γ_spec_l03Any) (hne : ∀ x, (F_spec_l03Any x).1 → ∃ t, (F_spec_l03Any x).2 t) (h : ∀ (c0 : List (Int × Unit)) (c1 : Int) (c2 : Int), xsInR sh_spec_l03Any ((c0, c1, c2, ()), ()) → ((0 : Int) ≤ c1) → VC_spec_l03Any c0 c1 c2 fun (r : (List (List UInt8 × Int × Unit) × Unit) × (List (Int × Unit) × Int × Int × Unit) × Unit) => ((0 : Int) ≤ c1, fun (x : (List (List UInt8 × Int × Unit) × Unit) × (List (Int × Unit) × Int × Int × Unit) × Unit) => (0 : Int) ≤ x.2.1.2.1 ∧ x.1.1.length ≤ (6 : Nat)).2 r) : XConOK prog G n_spec_l03Any con_spec_l03Any :=
  conX_ok env mixed (fn := f58) (c := codeOf f58) (by kernel_rfl) (by kernel_rfl) H_spec_l03Any (by kernel_rfl) hne fun ⟨⟨c0, c1, c2, ⟨⟩⟩, ⟨⟩⟩ hin hp =>
  Eq.mpr ((by kernel_rfl : awp Θ Γ_spec_l03Any H_spec_l03Any (codeOf f58) (endsX Θ f58.results.toList sh_spec_l03Any rsh_spec_l03Any (F_spec_l03Any ((c0, c1, c2, ()), ())).2) (entryX f58.ntmps (xsVals sh_spec_l03Any ((c0, c1, c2, ()), ()))) = VC_spec_l03Any c0 c1 c2 fun (r : (List (List UInt8 × Int × Unit) × Unit) × (List (Int × Unit) × Int × Int × Unit) × Unit) => ((0 : Int) ≤ c1, fun (x : (List (List UInt8 × Int × Unit) × Unit) × (List (Int × Unit) × Int × Int × Unit) × Unit) => (0 : Int) ≤ x.2.1.2.1 ∧ x.1.1.length ≤ (6 : Nat)).2 r)) (h c0 c1 c2 hin hp)

def H_spec_l02Value : Hints := Go.Fw.hints [] [] [] [] []
def VC_spec_l02Value (c0 : List (Int × Unit)) (c1 : Int) (c2 : Int) (K : ((Int × Int × List UInt8 × Unit) × Unit) × (List (Int × Unit) × Int × Int × Unit) × Unit → Prop) : Prop :=
  (0 : Int) ≤ c1 ∧
  ∀ (r0 : (Int × Unit) × (List (Int × Unit) × Int × Int × Unit) × Unit),
  (0 : Int) ≤ r0.2.1.2.1 ∧ (0 : Int) ≤ r0.1.1 ∧ ((0 : Int) < (5 : Int) → r0.1.1 < (5 : Int)) ∧ ((5 : Int) ≤ (0 : Int) → r0.1.1 = (0 : Int)) →
  bif r0.1.1 == (0 : Int) then K ((((0 : Int), (0 : Int), [], ()), ()), (r0.2.1.1, r0.2.1.2.1, r0.2.1.2.2.1, ()), ())
  else
  bif r0.1.1 == (1 : Int) then
  bif r0.1.1 == (1 : Int) then
  (0 : Int) ≤ r0.2.1.2.1 ∧
  ∀ (r1 : (Int × Unit) × (List (Int × Unit) × Int × Int × Unit) × Unit),
  (0 : Int) ≤ r1.2.1.2.1 ∧ (0 : Int) ≤ r1.1.1 ∧ ((0 : Int) < (5 : Int) → r1.1.1 < (5 : Int)) ∧ ((5 : Int) ≤ (0 : Int) → r1.1.1 = (0 : Int)) →
  True ∧
 let r2 := r1.1.1;
  K ((((1 : Int), r2, [], ()), ()), (r1.2.1.1, r1.2.1.2.1, r1.2.1.2.2.1, ()), ())
  else
  ((0 : Int) ≤ r0.2.1.2.1 ∧
  [([(114 : UInt8), (101 : UInt8), (100 : UInt8)], ()), ([(98 : UInt8), (108 : UInt8), (117 : UInt8), (101 : UInt8)], ()),
  ([(105 : UInt8), (110 : UInt8), (107 : UInt8)], ())] ≠
  []) ∧
  ∀ (r3 : (List UInt8 × Unit) × (List (Int × Unit) × Int × Int × Unit) × Unit),
  (0 : Int) ≤ r3.2.1.2.1 ∧
  (r3.1.1, ()) ∈
  [([(114 : UInt8), (101 : UInt8), (100 : UInt8)], ()), ([(98 : UInt8), (108 : UInt8), (117 : UInt8), (101 : UInt8)], ()),
  ([(105 : UInt8), (110 : UInt8), (107 : UInt8)], ())] →
  True ∧
 let r4 := r3.1.1;
  K ((((2 : Int), (0 : Int), r4, ()), ()), (r3.2.1.1, r3.2.1.2.1, r3.2.1.2.2.1, ()), ())
  else
  bif r0.1.1 == (2 : Int) then
  (0 : Int) ≤ r0.2.1.2.1 ∧
  ∀ (r5 : (Int × Unit) × (List (Int × Unit) × Int × Int × Unit) × Unit),
  (0 : Int) ≤ r5.2.1.2.1 ∧ (0 : Int) ≤ r5.1.1 ∧ ((0 : Int) < (5 : Int) → r5.1.1 < (5 : Int)) ∧ ((5 : Int) ≤ (0 : Int) → r5.1.1 = (0 : Int)) →
  True ∧
 let r6 := r5.1.1;
  K ((((1 : Int), r6, [], ()), ()), (r5.2.1.1, r5.2.1.2.1, r5.2.1.2.2.1, ()), ())
  else
  ((0 : Int) ≤ r0.2.1.2.1 ∧
  [([(114 : UInt8), (101 : UInt8), (100 : UInt8)], ()), ([(98 : UInt8), (108 : UInt8), (117 : UInt8), (101 : UInt8)], ()),
  ([(105 : UInt8), (110 : UInt8), (107 : UInt8)], ())] ≠
  []) ∧
  ∀ (r7 : (List UInt8 × Unit) × (List (Int × Unit) × Int × Int × Unit) × Unit),
  (0 : Int) ≤ r7.2.1.2.1 ∧
  (r7.1.1, ()) ∈
  [([(114 : UInt8), (101 : UInt8), (100 : UInt8)], ()), ([(98 : UInt8), (108 : UInt8), (117 : UInt8), (101 : UInt8)], ()),
  ([(105 : UInt8), (110 : UInt8), (107 : UInt8)], ())] →
  True ∧
 let r8 := r7.1.1;
  K ((((2 : Int), (0 : Int), r8, ()), ()), (r7.2.1.1, r7.2.1.2.1, r7.2.1.2.2.1, ()), ())
theorem wk_spec_l02Value (env : EnvB prog G Θ Γ_spec_l02Value) (hne : ∀ x, (F_spec_l02Value x).1 → ∃ t, (F_spec_l02Value x).2 t) (h : ∀ (c0 : List (Int × Unit)) (c1 : Int) (c2 : Int), xsInR sh_spec_l02Value ((c0, c1, c2, ()), ()) → ((0 : Int) ≤ c1) → VC_spec_l02Value c0 c1 c2 fun (r : ((Int × Int × List UInt8 × Unit) × Unit) × (List (Int × Unit) × Int × Int × Unit) × Unit) => ((0 : Int) ≤ c1, fun (x : ((Int × Int × List UInt8 × Unit) × Unit) × (List (Int × Unit) × Int × Int × Unit) × Unit) =>
  (0 : Int) ≤ x.2.1.2.1 ∧ x.1.1.2.2.1.length ≤ (10 : Nat)).2
  r) : XConOK prog G n_spec_l02Value con_spec_l02Value :=
  conX_ok env mixed (fn := f123) (c := codeOf f123) (by kernel_rfl) (by kernel_rfl) H_spec_l02Value (by kernel_rfl) hne fun ⟨⟨c0, c1, c2, ⟨⟩⟩, ⟨⟩⟩ hin hp =>
  Eq.mpr ((by kernel_rfl : awp Θ Γ_spec_l02Value H_spec_l02Value (codeOf f123) (endsX Θ f123.results.toList sh_spec_l02Value rsh_spec_l02Value (F_spec_l02Value ((c0, c1, c2, ()), ())).2) (entryX f123.ntmps (xsVals sh_spec_l02Value ((c0, c1, c2, ()), ()))) = VC_spec_l02Value c0 c1 c2 fun (r : ((Int × Int × List UInt8 × Unit) × Unit) × (List (Int × Unit) × Int × Int × Unit) × Unit) => ((0 : Int) ≤ c1, fun (x : ((Int × Int × List UInt8 × Unit) × Unit) × (List (Int × Unit) × Int × Int × Unit) × Unit) =>
  (0 : Int) ≤ x.2.1.2.1 ∧ x.1.1.2.2.1.length ≤ (10 : Nat)).2
  r)) (h c0 c1 c2 hin hp)

def H_spec_l02Any : Hints := Go.Fw.hints [] [] [] [] []
def VC_spec_l02Any (c0 : List (Int × Unit)) (c1 : Int) (c2 : Int) (K : ((Int × Int × List UInt8 × Unit) × Unit) × (List (Int × Unit) × Int × Int × Unit) × Unit → Prop) : Prop :=
  (0 : Int) ≤ c1 ∧
  ∀ (r0 : ((Int × Int × List UInt8 × Unit) × Unit) × (List (Int × Unit) × Int × Int × Unit) × Unit),
  (0 : Int) ≤ r0.2.1.2.1 ∧ r0.1.1.2.2.1.length ≤ (10 : Nat) →
  (0 : Int) ≤ r0.2.1.2.1 ∧
  ∀ (r1 : (Int × Unit) × (List (Int × Unit) × Int × Int × Unit) × Unit),
  (0 : Int) ≤ r1.2.1.2.1 ∧ (0 : Int) ≤ r1.1.1 ∧ ((0 : Int) < (10 : Int) → r1.1.1 < (10 : Int)) ∧ ((10 : Int) ≤ (0 : Int) → r1.1.1 = (0 : Int)) →
  bif r1.1.1 == (0 : Int) then
  (0 : Int) ≤ r1.2.1.2.1 ∧
  ∀ (r2 : (Int × Unit) × (List (Int × Unit) × Int × Int × Unit) × Unit),
  (0 : Int) ≤ r2.2.1.2.1 ∧ (0 : Int) ≤ r2.1.1 ∧ ((0 : Int) < (5 : Int) → r2.1.1 < (5 : Int)) ∧ ((5 : Int) ≤ (0 : Int) → r2.1.1 = (0 : Int)) →
  K
  (((IntKind.i64.wrap (r2.1.1 - (1 : Int)), r0.1.1.2.1, r0.1.1.2.2.1, ()), ()),
  (r2.2.1.1, r2.2.1.2.1, r2.2.1.2.2.1, ()), ())
  else
  bif r1.1.1 == (1 : Int) then
  ((0 : Int) ≤ r1.2.1.2.1 ∧ [((-1 : Int), ()), ((0 : Int), ()), ((999 : Int), ()), ((1000 : Int), ()), ((9223372036854775807 : Int), ())] ≠ []) ∧
  ∀ (r3 : (Int × Unit) × (List (Int × Unit) × Int × Int × Unit) × Unit),
  (0 : Int) ≤ r3.2.1.2.1 ∧ (r3.1.1, ()) ∈ [((-1 : Int), ()), ((0 : Int), ()), ((999 : Int), ()), ((1000 : Int), ()), ((9223372036854775807 : Int), ())] →
  K (((r0.1.1.1, r3.1.1, r0.1.1.2.2.1, ()), ()), (r3.2.1.1, r3.2.1.2.1, r3.2.1.2.2.1, ()), ())
  else
  bif r1.1.1 == (2 : Int) then
  ((0 : Int) ≤ r1.2.1.2.1 ∧
  [([], ()), ([(65 : UInt8)], ()), ([(97 : UInt8), (98 : UInt8), (99 : UInt8), (100 : UInt8), (101 : UInt8), (102 : UInt8), (103 : UInt8)], ()),
  ([(97 : UInt8), (98 : UInt8), (99 : UInt8), (100 : UInt8), (101 : UInt8), (102 : UInt8)], ()), ([(97 : UInt8), (32 : UInt8), (98 : UInt8)], ())] ≠
  []) ∧
  ∀ (r4 : (List UInt8 × Unit) × (List (Int × Unit) × Int × Int × Unit) × Unit),
  (0 : Int) ≤ r4.2.1.2.1 ∧
  (r4.1.1, ()) ∈
  [([], ()), ([(65 : UInt8)], ()), ([(97 : UInt8), (98 : UInt8), (99 : UInt8), (100 : UInt8), (101 : UInt8), (102 : UInt8), (103 : UInt8)], ()),
  ([(97 : UInt8), (98 : UInt8), (99 : UInt8), (100 : UInt8), (101 : UInt8), (102 : UInt8)], ()), ([(97 : UInt8), (32 : UInt8), (98 : UInt8)], ())] →
  K (((r0.1.1.1, r0.1.1.2.1, r4.1.1, ()), ()), (r4.2.1.1, r4.2.1.2.1, r4.2.1.2.2.1, ()), ())
  else K (((r0.1.1.1, r0.1.1.2.1, r0.1.1.2.2.1, ()), ()), (r1.2.1.1, r1.2.1.2.1, r1.2.1.2.2.1, ()), ())
theorem wk_spec_l02Any (env : EnvB prog G Θ Γ_spec_l02Any) (hne : ∀ x, (F_spec_l02Any x).1 → ∃ t, (F_spec_l02Any x).2 t) (h : ∀ (c0 : List (Int × Unit)) (c1 : Int) (c2 : Int), xsInR sh_spec_l02Any ((c0, c1, c2, ()), ()) → ((0 : Int) ≤ c1) → VC_spec_l02Any c0 c1 c2 fun (r : ((Int × Int × List UInt8 × Unit) × Unit) × (List (Int × Unit) × Int × Int × Unit) × Unit) => ((0 : Int) ≤ c1, fun (x : ((Int × Int × List UInt8 × Unit) × Unit) × (List (Int × Unit) × Int × Int × Unit) × Unit) =>
  (0 : Int) ≤ x.2.1.2.1 ∧ x.1.1.2.2.1.length ≤ (10 : Nat)).2
  r) : XConOK prog G n_spec_l02Any con_spec_l02Any :=
  conX_ok env mixed (fn := f108) (c := codeOf f108) (by kernel_rfl) (by kernel_rfl) H_spec_l02Any (by kernel_rfl) hne fun ⟨⟨c0, c1, c2, ⟨⟩⟩, ⟨⟩⟩ hin hp =>
  Eq.mpr ((by kernel_rfl : awp Θ Γ_spec_l02Any H_spec_l02Any (codeOf f108) (endsX Θ f108.results.toList sh_spec_l02Any rsh_spec_l02Any (F_spec_l02Any ((c0, c1, c2, ()), ())).2) (entryX f108.ntmps (xsVals sh_spec_l02Any ((c0, c1, c2, ()), ()))) = VC_spec_l02Any c0 c1 c2 fun (r : ((Int × Int × List UInt8 × Unit) × Unit) × (List (Int × Unit) × Int × Int × Unit) × Unit) => ((0 : Int) ≤ c1, fun (x : ((Int × Int × List UInt8 × Unit) × Unit) × (List (Int × Unit) × Int × Int × Unit) × Unit) =>
  (0 : Int) ≤ x.2.1.2.1 ∧ x.1.1.2.2.1.length ≤ (10 : Nat)).2
  r)) (h c0 c1 c2 hin hp)

def H_spec_IntValue : Hints := Go.Fw.hints [] [] [] [] []
def VC_spec_IntValue (n : Int) (K : (Int × Int × List UInt8 × Unit) × Unit → Prop) : Prop :=
  K (((1 : Int), n, [], ()), ())
theorem wk_spec_IntValue (env : EnvB prog G Θ Γ_spec_IntValue) (h : ∀ (n : Int), psInR sh_spec_IntValue (n, ()) → (True) → VC_spec_IntValue n fun r => r = ((((1 : Int), n, [], ()), ()))) : ConOK prog G n_spec_IntValue con_spec_IntValue :=
  conR_ok env mixed (fn := f99) (c := codeOf f99) (by kernel_rfl) (by kernel_rfl) H_spec_IntValue (by kernel_rfl) fun ⟨n, ⟨⟩⟩ hin hp =>
  Eq.mpr ((by kernel_rfl : awp Θ Γ_spec_IntValue H_spec_IntValue (codeOf f99) (endsV Θ f99.results.toList rsh_spec_IntValue fun r => r = (F_spec_IntValue (n, ())).2) (entry f99.ntmps (psVals sh_spec_IntValue (n, ()))) = VC_spec_IntValue n fun r => r = ((((1 : Int), n, [], ()), ())))) (h n hin hp)

def H_spec_StringValue : Hints := Go.Fw.hints [] [] [] [] []
def VC_spec_StringValue (w : List UInt8) (K : (Int × Int × List UInt8 × Unit) × Unit → Prop) : Prop :=
  K (((2 : Int), (0 : Int), w, ()), ())
theorem wk_spec_StringValue (env : EnvB prog G Θ Γ_spec_StringValue) (h : ∀ (w : List UInt8), psInR sh_spec_StringValue (w, ()) → (True) → VC_spec_StringValue w fun r => r = ((((2 : Int), (0 : Int), w, ()), ()))) : ConOK prog G n_spec_StringValue con_spec_StringValue :=
  conR_ok env mixed (fn := f109) (c := codeOf f109) (by kernel_rfl) (by kernel_rfl) H_spec_StringValue (by kernel_rfl) fun ⟨w, ⟨⟩⟩ hin hp =>
  Eq.mpr ((by kernel_rfl : awp Θ Γ_spec_StringValue H_spec_StringValue (codeOf f109) (endsV Θ f109.results.toList rsh_spec_StringValue fun r => r = (F_spec_StringValue (w, ())).2) (entry f109.ntmps (psVals sh_spec_StringValue (w, ()))) = VC_spec_StringValue w fun r => r = ((((2 : Int), (0 : Int), w, ()), ())))) (h w hin hp)

def H_spec_l01In : Hints := Go.Fw.hints [] [] [] [] []
def VC_spec_l01In (x : Int) (least : Int) (most : Int) (K : Bool × Unit → Prop) : Prop :=
  bif decide (x ≥ least) then K (decide (x ≤ most), ()) else K (false, ())
theorem wk_spec_l01In (env : EnvB prog G Θ Γ_spec_l01In) (h : ∀ (x : Int) (least : Int) (most : Int), psInR sh_spec_l01In (x, least, most, ()) → (True) → VC_spec_l01In x least most fun r => r = ((decide (least ≤ x) && decide (x ≤ most), ()))) : ConOK prog G n_spec_l01In con_spec_l01In :=
  conR_ok env mixed (fn := f78) (c := codeOf f78) (by kernel_rfl) (by kernel_rfl) H_spec_l01In (by kernel_rfl) fun ⟨x, least, most, ⟨⟩⟩ hin hp =>
  Eq.mpr ((by kernel_rfl : awp Θ Γ_spec_l01In H_spec_l01In (codeOf f78) (endsV Θ f78.results.toList rsh_spec_l01In fun r => r = (F_spec_l01In (x, least, most, ())).2) (entry f78.ntmps (psVals sh_spec_l01In (x, least, most, ()))) = VC_spec_l01In x least most fun r => r = ((decide (least ≤ x) && decide (x ≤ most), ())))) (h x least most hin hp)

def H_impl_within : Hints := Go.Fw.hints [] [] [] [] []
def VC_impl_within (n : Int) (low : Int) (high : Int) (K : Bool × Unit → Prop) : Prop :=
  bif decide (low ≤ n) then K (decide (n ≤ high), ()) else K (false, ())
theorem wk_impl_within (env : EnvB prog G Θ Γ_impl_within) (h : ∀ (n : Int) (low : Int) (high : Int), psInR sh_impl_within (n, low, high, ()) → (True) → VC_impl_within n low high fun r => r = ((decide (low ≤ n) && decide (n ≤ high), ()))) : ConOK prog G n_impl_within con_impl_within :=
  conR_ok env mixed (fn := f87) (c := codeOf f87) (by kernel_rfl) (by kernel_rfl) H_impl_within (by kernel_rfl) fun ⟨n, low, high, ⟨⟩⟩ hin hp =>
  Eq.mpr ((by kernel_rfl : awp Θ Γ_impl_within H_impl_within (codeOf f87) (endsV Θ f87.results.toList rsh_impl_within fun r => r = (F_impl_within (n, low, high, ())).2) (entry f87.ntmps (psVals sh_impl_within (n, low, high, ()))) = VC_impl_within n low high fun r => r = ((decide (low ≤ n) && decide (n ≤ high), ())))) (h n low high hin hp)

def H_spec_l02Text : Hints := Go.Fw.hints [] [(2, ⟨[], ⟨[(0, .one (.str)), (1, .one (.int .i64))], []⟩, ⟨[(5, .one (.int .i64))], []⟩⟩)] [] [] []
def VC_spec_l02Text (s : List UInt8) (most : Int) (K : Bool × Unit → Prop) : Prop :=
 let s0 := ((s, most, ()), ());
  ∃ (I : (Int × Unit) × Unit → Prop),
  ∃ (μ : (Int × Unit) × Unit → Nat),
  I (((0 : Int), ()), ()) ∧
  ∀ (y1 : (Int × Unit) × Unit),
  I y1 →
  bif decide (y1.1.1 < (↑s.length : Int)) then
  ((0 : Int) ≤ y1.1.1 ∧ y1.1.1 < (↑s.length : Int)) ∧
  bif decide ((↑(s.getD (Int.toNat y1.1.1) (0 : UInt8)).toNat : Int) < (97 : Int)) then K (false, ())
  else
  ((0 : Int) ≤ y1.1.1 ∧ y1.1.1 < (↑s.length : Int)) ∧
  bif decide ((↑(s.getD (Int.toNat y1.1.1) (0 : UInt8)).toNat : Int) > (122 : Int)) then K (false, ())
  else s0 = s0 ∧ I ((IntKind.i64.wrap (y1.1.1 + (1 : Int)), ()), ()) ∧ μ ((IntKind.i64.wrap (y1.1.1 + (1 : Int)), ()), ()) < μ y1
  else
  True ∧
 let r2 := decide ((1 : Int) ≤ (↑s.length : Int)) && decide ((↑s.length : Int) ≤ most);
  K (r2, ())
theorem wk_spec_l02Text (env : EnvB prog G Θ Γ_spec_l02Text) (h : ∀ (s : List UInt8) (most : Int), psInR sh_spec_l02Text (s, most, ()) → (True) → VC_spec_l02Text s most fun r => r = ((Sp.lower s && decide ((1 : Int) ≤ (↑s.length : Int)) && decide ((↑s.length : Int) ≤ most), ()))) : ConOK prog G n_spec_l02Text con_spec_l02Text :=
  conR_ok env mixed (fn := f122) (c := codeOf f122) (by kernel_rfl) (by kernel_rfl) H_spec_l02Text (by kernel_rfl) fun ⟨s, most, ⟨⟩⟩ hin hp =>
  Eq.mpr ((by kernel_rfl : awp Θ Γ_spec_l02Text H_spec_l02Text (codeOf f122) (endsV Θ f122.results.toList rsh_spec_l02Text fun r => r = (F_spec_l02Text (s, most, ())).2) (entry f122.ntmps (psVals sh_spec_l02Text (s, most, ()))) = VC_spec_l02Text s most fun r => r = ((Sp.lower s && decide ((1 : Int) ≤ (↑s.length : Int)) && decide ((↑s.length : Int) ≤ most), ())))) (h s most hin hp)

def H_spec_IsValidString : Hints := Go.Fw.hints [] [] [] [] []
def VC_spec_IsValidString (s : List UInt8) (K : Bool × Unit → Prop) : Prop :=
  True ∧
 let r0 := Sp.lower s && decide ((1 : Int) ≤ (↑s.length : Int)) && decide ((↑s.length : Int) ≤ (6 : Int));
  K (r0, ())
theorem wk_spec_IsValidString (env : EnvB prog G Θ Γ_spec_IsValidString) (h : ∀ (s : List UInt8), psInR sh_spec_IsValidString (s, ()) → (True) → VC_spec_IsValidString s fun r => r = ((Sp.validStr s, ()))) : ConOK prog G n_spec_IsValidString con_spec_IsValidString :=
  conR_ok env mixed (fn := f127) (c := codeOf f127) (by kernel_rfl) (by kernel_rfl) H_spec_IsValidString (by kernel_rfl) fun ⟨s, ⟨⟩⟩ hin hp =>
  Eq.mpr ((by kernel_rfl : awp Θ Γ_spec_IsValidString H_spec_IsValidString (codeOf f127) (endsV Θ f127.results.toList rsh_spec_IsValidString fun r => r = (F_spec_IsValidString (s, ())).2) (entry f127.ntmps (psVals sh_spec_IsValidString (s, ()))) = VC_spec_IsValidString s fun r => r = ((Sp.validStr s, ())))) (h s hin hp)

def H_impl_IsValidString : Hints := Go.Fw.hints [] [(2, ⟨[], ⟨[(0, .one (.str)), (5, .one (.int .i64))], []⟩, ⟨[(6, .one (.int .i64))], []⟩⟩)] [] [] []
def VC_impl_IsValidString (s : List UInt8) (K : Bool × Unit → Prop) : Prop :=
 let s0 := ((s, (↑s.length : Int), ()), ());
  ∃ (I : (Int × Unit) × Unit → Prop),
  ∃ (μ : (Int × Unit) × Unit → Nat),
  I (((0 : Int), ()), ()) ∧
  ∀ (y1 : (Int × Unit) × Unit),
  I y1 →
  bif decide (y1.1.1 < (↑s.length : Int)) then
  ((0 : Int) ≤ y1.1.1 ∧ y1.1.1 < (↑s.length : Int)) ∧
  bif decide ((↑(s.getD (Int.toNat y1.1.1) (0 : UInt8)).toNat : Int) < (97 : Int)) then K (false, ())
  else
  ((0 : Int) ≤ y1.1.1 ∧ y1.1.1 < (↑s.length : Int)) ∧
  bif decide ((↑(s.getD (Int.toNat y1.1.1) (0 : UInt8)).toNat : Int) > (122 : Int)) then K (false, ())
  else s0 = s0 ∧ I ((IntKind.i64.wrap (y1.1.1 + (1 : Int)), ()), ()) ∧ μ ((IntKind.i64.wrap (y1.1.1 + (1 : Int)), ()), ()) < μ y1
  else
  True ∧
 let r2 := decide ((1 : Int) ≤ (↑s.length : Int)) && decide ((↑s.length : Int) ≤ (6 : Int));
  K (r2, ())
theorem wk_impl_IsValidString (env : EnvB prog G Θ Γ_impl_IsValidString) (h : ∀ (s : List UInt8), psInR sh_impl_IsValidString (s, ()) → (True) → VC_impl_IsValidString s fun r => r = ((Sp.validStr s, ()))) : ConOK prog G n_impl_IsValidString con_impl_IsValidString :=
  conR_ok env mixed (fn := f128) (c := codeOf f128) (by kernel_rfl) (by kernel_rfl) H_impl_IsValidString (by kernel_rfl) fun ⟨s, ⟨⟩⟩ hin hp =>
  Eq.mpr ((by kernel_rfl : awp Θ Γ_impl_IsValidString H_impl_IsValidString (codeOf f128) (endsV Θ f128.results.toList rsh_impl_IsValidString fun r => r = (F_impl_IsValidString (s, ())).2) (entry f128.ntmps (psVals sh_impl_IsValidString (s, ()))) = VC_impl_IsValidString s fun r => r = ((Sp.validStr s, ())))) (h s hin hp)

def H_spec_IsValidValue : Hints := Go.Fw.hints [] [] [] [] []
def VC_spec_IsValidValue (v0 : Int) (v1 : Int) (v2 : List UInt8) (K : Bool × Unit → Prop) : Prop :=
  bif v0 == (0 : Int) then K (v0 == (0 : Int) && (v1 == (0 : Int) && (v2 == [] && true)), ())
  else
  bif v0 == (1 : Int) then
  True ∧
 let r0 := decide ((0 : Int) ≤ v1) && decide (v1 ≤ (999 : Int));
  bif r0 then K (v2 == [], ()) else K (false, ())
  else bif v0 == (2 : Int) then True ∧ bif Sp.validStr v2 then K (v1 == (0 : Int), ()) else K (false, ()) else K (false, ())
theorem wk_spec_IsValidValue (env : EnvB prog G Θ Γ_spec_IsValidValue) (h : ∀ (v0 : Int) (v1 : Int) (v2 : List UInt8), psInR sh_spec_IsValidValue ((v0, v1, v2, ()), ()) → (True) → VC_spec_IsValidValue v0 v1 v2 fun r => r = ((Sp.okValue v0 v1 v2, ()))) : ConOK prog G n_spec_IsValidValue con_spec_IsValidValue :=
  conR_ok env mixed (fn := f124) (c := codeOf f124) (by kernel_rfl) (by kernel_rfl) H_spec_IsValidValue (by kernel_rfl) fun ⟨⟨v0, v1, v2, ⟨⟩⟩, ⟨⟩⟩ hin hp =>
  Eq.mpr ((by kernel_rfl : awp Θ Γ_spec_IsValidValue H_spec_IsValidValue (codeOf f124) (endsV Θ f124.results.toList rsh_spec_IsValidValue fun r => r = (F_spec_IsValidValue ((v0, v1, v2, ()), ())).2) (entry f124.ntmps (psVals sh_spec_IsValidValue ((v0, v1, v2, ()), ()))) = VC_spec_IsValidValue v0 v1 v2 fun r => r = ((Sp.okValue v0 v1 v2, ())))) (h v0 v1 v2 hin hp)

def H_impl_IsValidValue : Hints := Go.Fw.hints [] [] [] [] []
def VC_impl_IsValidValue (v0 : Int) (v1 : Int) (v2 : List UInt8) (K : Bool × Unit → Prop) : Prop :=
  bif v0 == (0 : Int) then K (v0 == (0 : Int) && (v1 == (0 : Int) && (v2 == [] && true)), ())
  else
  bif v0 == (1 : Int) then
  True ∧
 let r0 := decide ((0 : Int) ≤ v1) && decide (v1 ≤ (999 : Int));
  bif r0 then K (v2 == [], ()) else K (false, ())
  else bif v0 == (2 : Int) then True ∧ bif Sp.validStr v2 then K (v1 == (0 : Int), ()) else K (false, ()) else K (false, ())
theorem wk_impl_IsValidValue (env : EnvB prog G Θ Γ_impl_IsValidValue) (h : ∀ (v0 : Int) (v1 : Int) (v2 : List UInt8), psInR sh_impl_IsValidValue ((v0, v1, v2, ()), ()) → (True) → VC_impl_IsValidValue v0 v1 v2 fun r => r = ((Sp.okValue v0 v1 v2, ()))) : ConOK prog G n_impl_IsValidValue con_impl_IsValidValue :=
  conR_ok env mixed (fn := f125) (c := codeOf f125) (by kernel_rfl) (by kernel_rfl) H_impl_IsValidValue (by kernel_rfl) fun ⟨⟨v0, v1, v2, ⟨⟩⟩, ⟨⟩⟩ hin hp =>
  Eq.mpr ((by kernel_rfl : awp Θ Γ_impl_IsValidValue H_impl_IsValidValue (codeOf f125) (endsV Θ f125.results.toList rsh_impl_IsValidValue fun r => r = (F_impl_IsValidValue ((v0, v1, v2, ()), ())).2) (entry f125.ntmps (psVals sh_impl_IsValidValue ((v0, v1, v2, ()), ()))) = VC_impl_IsValidValue v0 v1 v2 fun r => r = ((Sp.okValue v0 v1 v2, ())))) (h v0 v1 v2 hin hp)

def H_spec_IsValidAttrName : Hints := Go.Fw.hints [] [] [] [] []
def VC_spec_IsValidAttrName (s : List UInt8) (K : Bool × Unit → Prop) : Prop :=
  True ∧
 let r0 := Sp.lower s && decide ((1 : Int) ≤ (↑s.length : Int)) && decide ((↑s.length : Int) ≤ (1 : Int));
  K (r0, ())
theorem wk_spec_IsValidAttrName (env : EnvB prog G Θ Γ_spec_IsValidAttrName) (h : ∀ (s : List UInt8), psInR sh_spec_IsValidAttrName (s, ()) → (True) → VC_spec_IsValidAttrName s fun r => r = ((Sp.okName s, ()))) : ConOK prog G n_spec_IsValidAttrName con_spec_IsValidAttrName :=
  conR_ok env mixed (fn := f106) (c := codeOf f106) (by kernel_rfl) (by kernel_rfl) H_spec_IsValidAttrName (by kernel_rfl) fun ⟨s, ⟨⟩⟩ hin hp =>
  Eq.mpr ((by kernel_rfl : awp Θ Γ_spec_IsValidAttrName H_spec_IsValidAttrName (codeOf f106) (endsV Θ f106.results.toList rsh_spec_IsValidAttrName fun r => r = (F_spec_IsValidAttrName (s, ())).2) (entry f106.ntmps (psVals sh_spec_IsValidAttrName (s, ()))) = VC_spec_IsValidAttrName s fun r => r = ((Sp.okName s, ())))) (h s hin hp)

def H_impl_IsValidAttrName : Hints := Go.Fw.hints [] [] [] [] []
def VC_impl_IsValidAttrName (s : List UInt8) (K : Bool × Unit → Prop) : Prop :=
  bif (↑s.length : Int) == (1 : Int) then
  ((0 : Int) ≤ (0 : Int) ∧ (0 : Int) < (↑s.length : Int)) ∧
  bif decide ((↑(s.getD (Int.toNat (0 : Int)) (0 : UInt8)).toNat : Int) ≥ (97 : Int)) then
  ((0 : Int) ≤ (0 : Int) ∧ (0 : Int) < (↑s.length : Int)) ∧ K (decide ((↑(s.getD (Int.toNat (0 : Int)) (0 : UInt8)).toNat : Int) ≤ (122 : Int)), ())
  else K (false, ())
  else K (false, ())
theorem wk_impl_IsValidAttrName (env : EnvB prog G Θ Γ_impl_IsValidAttrName) (h : ∀ (s : List UInt8), psInR sh_impl_IsValidAttrName (s, ()) → (True) → VC_impl_IsValidAttrName s fun r => r = ((Sp.okName s, ()))) : ConOK prog G n_impl_IsValidAttrName con_impl_IsValidAttrName :=
  conR_ok env mixed (fn := f71) (c := codeOf f71) (by kernel_rfl) (by kernel_rfl) H_impl_IsValidAttrName (by kernel_rfl) fun ⟨s, ⟨⟩⟩ hin hp =>
  Eq.mpr ((by kernel_rfl : awp Θ Γ_impl_IsValidAttrName H_impl_IsValidAttrName (codeOf f71) (endsV Θ f71.results.toList rsh_impl_IsValidAttrName fun r => r = (F_impl_IsValidAttrName (s, ())).2) (entry f71.ntmps (psVals sh_impl_IsValidAttrName (s, ()))) = VC_impl_IsValidAttrName s fun r => r = ((Sp.okName s, ())))) (h s hin hp)

def H_spec_FieldKind : Hints := Go.Fw.hints [] [(2, ⟨[], ⟨[(0, .one (.sl 26 (.cons .str (.cons (.int .i64) .nil)) false)), (1, .one (.str))], []⟩, ⟨[(5, .one (.int .i64))], []⟩⟩)] [] [] []
def VC_spec_FieldKind (s : List (List UInt8 × Int × Unit)) (name : List UInt8) (K : Int × Unit → Prop) : Prop :=
 let s0 := ((s, name, ()), ());
  ∃ (I : (Int × Unit) × Unit → Prop),
  ∃ (μ : (Int × Unit) × Unit → Nat),
  I (((0 : Int), ()), ()) ∧
  ∀ (y1 : (Int × Unit) × Unit),
  I y1 →
  bif decide (y1.1.1 < (↑s.length : Int)) then
  ((0 : Int) ≤ y1.1.1 ∧ y1.1.1 < (↑s.length : Int)) ∧
  bif (s.getD (Int.toNat y1.1.1) ([], (0 : Int), ())).1 == name then
  ((0 : Int) ≤ y1.1.1 ∧ y1.1.1 < (↑s.length : Int)) ∧ K ((s.getD (Int.toNat y1.1.1) ([], (0 : Int), ())).2.1, ())
  else s0 = s0 ∧ I ((IntKind.i64.wrap (y1.1.1 + (1 : Int)), ()), ()) ∧ μ ((IntKind.i64.wrap (y1.1.1 + (1 : Int)), ()), ()) < μ y1
  else K ((0 : Int), ())
theorem wk_spec_FieldKind (env : EnvB prog G Θ Γ_spec_FieldKind) (h : ∀ (s : List (List UInt8 × Int × Unit)) (name : List UInt8), psInR sh_spec_FieldKind (s, name, ()) → (True) → VC_spec_FieldKind s name fun r => r = ((Sp.kindOf s name, ()))) : ConOK prog G n_spec_FieldKind con_spec_FieldKind :=
  conR_ok env mixed (fn := f70) (c := codeOf f70) (by kernel_rfl) (by kernel_rfl) H_spec_FieldKind (by kernel_rfl) fun ⟨s, name, ⟨⟩⟩ hin hp =>
  Eq.mpr ((by kernel_rfl : awp Θ Γ_spec_FieldKind H_spec_FieldKind (codeOf f70) (endsV Θ f70.results.toList rsh_spec_FieldKind fun r => r = (F_spec_FieldKind (s, name, ())).2) (entry f70.ntmps (psVals sh_spec_FieldKind (s, name, ()))) = VC_spec_FieldKind s name fun r => r = ((Sp.kindOf s name, ())))) (h s name hin hp)

def H_impl_FieldKind : Hints := Go.Fw.hints [] [(2, ⟨[], ⟨[(1, .one (.str)), (7, .one (.sl 26 (.cons .str (.cons (.int .i64) .nil)) false)), (8, .one (.int .i64))], []⟩, ⟨[(9, .one (.int .i64))], []⟩⟩)] [] [] []
def VC_impl_FieldKind (s : List (List UInt8 × Int × Unit)) (name : List UInt8) (K : Int × Unit → Prop) : Prop :=
 let s0 := ((name, s, (↑s.length : Int), ()), ());
  ∃ (I : (Int × Unit) × Unit → Prop),
  ∃ (μ : (Int × Unit) × Unit → Nat),
  I (((0 : Int), ()), ()) ∧
  ∀ (y1 : (Int × Unit) × Unit),
  I y1 →
  bif decide (y1.1.1 < (↑s.length : Int)) then
  ((0 : Int) ≤ y1.1.1 ∧ y1.1.1 < (↑s.length : Int)) ∧
  bif (s.getD (Int.toNat y1.1.1) ([], (0 : Int), ())).1 == name then K ((s.getD (Int.toNat y1.1.1) ([], (0 : Int), ())).2.1, ())
  else s0 = s0 ∧ I ((IntKind.i64.wrap (y1.1.1 + (1 : Int)), ()), ()) ∧ μ ((IntKind.i64.wrap (y1.1.1 + (1 : Int)), ()), ()) < μ y1
  else K ((0 : Int), ())
theorem wk_impl_FieldKind (env : EnvB prog G Θ Γ_impl_FieldKind) (h : ∀ (s : List (List UInt8 × Int × Unit)) (name : List UInt8), psInR sh_impl_FieldKind (s, name, ()) → (True) → VC_impl_FieldKind s name fun r => r = ((Sp.kindOf s name, ()))) : ConOK prog G n_impl_FieldKind con_impl_FieldKind :=
  conR_ok env mixed (fn := f16) (c := codeOf f16) (by kernel_rfl) (by kernel_rfl) H_impl_FieldKind (by kernel_rfl) fun ⟨s, name, ⟨⟩⟩ hin hp =>
  Eq.mpr ((by kernel_rfl : awp Θ Γ_impl_FieldKind H_impl_FieldKind (codeOf f16) (endsV Θ f16.results.toList rsh_impl_FieldKind fun r => r = (F_impl_FieldKind (s, name, ())).2) (entry f16.ntmps (psVals sh_impl_FieldKind (s, name, ()))) = VC_impl_FieldKind s name fun r => r = ((Sp.kindOf s name, ())))) (h s name hin hp)

def H_spec_IsValidSchema : Hints := Go.Fw.hints [] [(2, ⟨[], ⟨[(0, .one (.sl 26 (.cons .str (.cons (.int .i64) .nil)) false))], []⟩, ⟨[(3, .one (.int .i64))], []⟩⟩)] [] [] []
def VC_spec_IsValidSchema (s : List (List UInt8 × Int × Unit)) (K : Bool × Unit → Prop) : Prop :=
 let s0 := ((s, ()), ());
  ∃ (I : (Int × Unit) × Unit → Prop),
  ∃ (μ : (Int × Unit) × Unit → Nat),
  I (((0 : Int), ()), ()) ∧
  ∀ (y1 : (Int × Unit) × Unit),
  I y1 →
  bif decide (y1.1.1 < (↑s.length : Int)) then
  ((0 : Int) ≤ y1.1.1 ∧ y1.1.1 < (↑s.length : Int)) ∧
  True ∧
 let r2 := Sp.okName (s.getD (Int.toNat y1.1.1) ([], (0 : Int), ())).1;
  bif !r2 then K (false, ())
  else
  ((0 : Int) ≤ y1.1.1 ∧ y1.1.1 < (↑s.length : Int)) ∧
  True ∧
 let r3 :=
  decide ((1 : Int) ≤ (s.getD (Int.toNat y1.1.1) ([], (0 : Int), ())).2.1) &&
  decide ((s.getD (Int.toNat y1.1.1) ([], (0 : Int), ())).2.1 ≤ (2 : Int));
  bif !r3 then K (false, ())
  else
  bif decide (y1.1.1 > (0 : Int)) then
  ((0 : Int) ≤ IntKind.i64.wrap (y1.1.1 - (1 : Int)) ∧ IntKind.i64.wrap (y1.1.1 - (1 : Int)) < (↑s.length : Int)) ∧
  ((0 : Int) ≤ y1.1.1 ∧ y1.1.1 < (↑s.length : Int)) ∧
  bif
  !Op.bytesLess (s.getD (IntKind.i64.wrap (y1.1.1 - (1 : Int))).toNat ([], (0 : Int), ())).1
  (s.getD (Int.toNat y1.1.1) ([], (0 : Int), ())).1 then
  K (false, ())
  else s0 = s0 ∧ I ((IntKind.i64.wrap (y1.1.1 + (1 : Int)), ()), ()) ∧ μ ((IntKind.i64.wrap (y1.1.1 + (1 : Int)), ()), ()) < μ y1
  else s0 = s0 ∧ I ((IntKind.i64.wrap (y1.1.1 + (1 : Int)), ()), ()) ∧ μ ((IntKind.i64.wrap (y1.1.1 + (1 : Int)), ()), ()) < μ y1
  else K (decide ((↑s.length : Int) ≤ (5 : Int)), ())
theorem wk_spec_IsValidSchema (env : EnvB prog G Θ Γ_spec_IsValidSchema) (h : ∀ (s : List (List UInt8 × Int × Unit)), psInR sh_spec_IsValidSchema (s, ()) → (True) → VC_spec_IsValidSchema s fun r => r = ((Sp.okSchema s, ()))) : ConOK prog G n_spec_IsValidSchema con_spec_IsValidSchema :=
  conR_ok env mixed (fn := f66) (c := codeOf f66) (by kernel_rfl) (by kernel_rfl) H_spec_IsValidSchema (by kernel_rfl) fun ⟨s, ⟨⟩⟩ hin hp =>
  Eq.mpr ((by kernel_rfl : awp Θ Γ_spec_IsValidSchema H_spec_IsValidSchema (codeOf f66) (endsV Θ f66.results.toList rsh_spec_IsValidSchema fun r => r = (F_spec_IsValidSchema (s, ())).2) (entry f66.ntmps (psVals sh_spec_IsValidSchema (s, ()))) = VC_spec_IsValidSchema s fun r => r = ((Sp.okSchema s, ())))) (h s hin hp)

def H_impl_IsValidSchema : Hints := Go.Fw.hints [] [(2, ⟨[], ⟨[(0, .one (.sl 26 (.cons .str (.cons (.int .i64) .nil)) false)), (5, .one (.sl 26 (.cons .str (.cons (.int .i64) .nil)) false)), (6, .one (.int .i64))], []⟩, ⟨[(7, .one (.int .i64))], []⟩⟩)] [] [] []
def VC_impl_IsValidSchema (s : List (List UInt8 × Int × Unit)) (K : Bool × Unit → Prop) : Prop :=
 let s0 := ((s, s, (↑s.length : Int), ()), ());
  ∃ (I : (Int × Unit) × Unit → Prop),
  ∃ (μ : (Int × Unit) × Unit → Nat),
  I (((0 : Int), ()), ()) ∧
  ∀ (y1 : (Int × Unit) × Unit),
  I y1 →
  bif decide (y1.1.1 < (↑s.length : Int)) then
  ((0 : Int) ≤ y1.1.1 ∧ y1.1.1 < (↑s.length : Int)) ∧
  True ∧
 let r2 := Sp.okName (s.getD (Int.toNat y1.1.1) ([], (0 : Int), ())).1;
  bif !r2 then K (false, ())
  else
  bif (s.getD (Int.toNat y1.1.1) ([], (0 : Int), ())).2.1 != (1 : Int) then
  bif (s.getD (Int.toNat y1.1.1) ([], (0 : Int), ())).2.1 != (2 : Int) then K (false, ())
  else
  bif decide (y1.1.1 > (0 : Int)) then
  ((0 : Int) ≤ IntKind.i64.wrap (y1.1.1 - (1 : Int)) ∧ IntKind.i64.wrap (y1.1.1 - (1 : Int)) < (↑s.length : Int)) ∧
  bif
  !Op.bytesLess (s.getD (IntKind.i64.wrap (y1.1.1 - (1 : Int))).toNat ([], (0 : Int), ())).1
  (s.getD (Int.toNat y1.1.1) ([], (0 : Int), ())).1 then
  K (false, ())
  else s0 = s0 ∧ I ((IntKind.i64.wrap (y1.1.1 + (1 : Int)), ()), ()) ∧ μ ((IntKind.i64.wrap (y1.1.1 + (1 : Int)), ()), ()) < μ y1
  else s0 = s0 ∧ I ((IntKind.i64.wrap (y1.1.1 + (1 : Int)), ()), ()) ∧ μ ((IntKind.i64.wrap (y1.1.1 + (1 : Int)), ()), ()) < μ y1
  else
  bif decide (y1.1.1 > (0 : Int)) then
  ((0 : Int) ≤ IntKind.i64.wrap (y1.1.1 - (1 : Int)) ∧ IntKind.i64.wrap (y1.1.1 - (1 : Int)) < (↑s.length : Int)) ∧
  bif
  !Op.bytesLess (s.getD (IntKind.i64.wrap (y1.1.1 - (1 : Int))).toNat ([], (0 : Int), ())).1
  (s.getD (Int.toNat y1.1.1) ([], (0 : Int), ())).1 then
  K (false, ())
  else s0 = s0 ∧ I ((IntKind.i64.wrap (y1.1.1 + (1 : Int)), ()), ()) ∧ μ ((IntKind.i64.wrap (y1.1.1 + (1 : Int)), ()), ()) < μ y1
  else s0 = s0 ∧ I ((IntKind.i64.wrap (y1.1.1 + (1 : Int)), ()), ()) ∧ μ ((IntKind.i64.wrap (y1.1.1 + (1 : Int)), ()), ()) < μ y1
  else K (decide ((↑s.length : Int) ≤ (5 : Int)), ())
theorem wk_impl_IsValidSchema (env : EnvB prog G Θ Γ_impl_IsValidSchema) (h : ∀ (s : List (List UInt8 × Int × Unit)), psInR sh_impl_IsValidSchema (s, ()) → (True) → VC_impl_IsValidSchema s fun r => r = ((Sp.okSchema s, ()))) : ConOK prog G n_impl_IsValidSchema con_impl_IsValidSchema :=
  conR_ok env mixed (fn := f17) (c := codeOf f17) (by kernel_rfl) (by kernel_rfl) H_impl_IsValidSchema (by kernel_rfl) fun ⟨s, ⟨⟩⟩ hin hp =>
  Eq.mpr ((by kernel_rfl : awp Θ Γ_impl_IsValidSchema H_impl_IsValidSchema (codeOf f17) (endsV Θ f17.results.toList rsh_impl_IsValidSchema fun r => r = (F_impl_IsValidSchema (s, ())).2) (entry f17.ntmps (psVals sh_impl_IsValidSchema (s, ()))) = VC_impl_IsValidSchema s fun r => r = ((Sp.okSchema s, ())))) (h s hin hp)

def H_spec_MatchesSchema : Hints := Go.Fw.hints [] [] [] [] []
def VC_spec_MatchesSchema (s : List (List UInt8 × Int × Unit)) (name : List UInt8) (v0 : Int) (v1 : Int) (v2 : List UInt8) (K : Bool × Unit → Prop) : Prop :=
  True ∧ bif Sp.okValue v0 v1 v2 then bif v0 != (0 : Int) then True ∧ K (v0 == Sp.kindOf s name, ()) else K (false, ()) else K (false, ())
theorem wk_spec_MatchesSchema (env : EnvB prog G Θ Γ_spec_MatchesSchema) (h : ∀ (s : List (List UInt8 × Int × Unit)) (name : List UInt8) (v0 : Int) (v1 : Int) (v2 : List UInt8), psInR sh_spec_MatchesSchema (s, name, (v0, v1, v2, ()), ()) → (True) → VC_spec_MatchesSchema s name v0 v1 v2 fun r => r = ((Sp.matchesS s name v0 v1 v2, ()))) : ConOK prog G n_spec_MatchesSchema con_spec_MatchesSchema :=
  conR_ok env mixed (fn := f113) (c := codeOf f113) (by kernel_rfl) (by kernel_rfl) H_spec_MatchesSchema (by kernel_rfl) fun ⟨s, name, ⟨v0, v1, v2, ⟨⟩⟩, ⟨⟩⟩ hin hp =>
  Eq.mpr ((by kernel_rfl : awp Θ Γ_spec_MatchesSchema H_spec_MatchesSchema (codeOf f113) (endsV Θ f113.results.toList rsh_spec_MatchesSchema fun r => r = (F_spec_MatchesSchema (s, name, (v0, v1, v2, ()), ())).2) (entry f113.ntmps (psVals sh_spec_MatchesSchema (s, name, (v0, v1, v2, ()), ()))) = VC_spec_MatchesSchema s name v0 v1 v2 fun r => r = ((Sp.matchesS s name v0 v1 v2, ())))) (h s name v0 v1 v2 hin hp)

def H_impl_MatchesSchema : Hints := Go.Fw.hints [] [] [] [] []
def VC_impl_MatchesSchema (s : List (List UInt8 × Int × Unit)) (name : List UInt8) (v0 : Int) (v1 : Int) (v2 : List UInt8) (K : Bool × Unit → Prop) : Prop :=
  True ∧ bif Sp.okValue v0 v1 v2 then bif v0 != (0 : Int) then True ∧ K (v0 == Sp.kindOf s name, ()) else K (false, ()) else K (false, ())
theorem wk_impl_MatchesSchema (env : EnvB prog G Θ Γ_impl_MatchesSchema) (h : ∀ (s : List (List UInt8 × Int × Unit)) (name : List UInt8) (v0 : Int) (v1 : Int) (v2 : List UInt8), psInR sh_impl_MatchesSchema (s, name, (v0, v1, v2, ()), ()) → (True) → VC_impl_MatchesSchema s name v0 v1 v2 fun r => r = ((Sp.matchesS s name v0 v1 v2, ()))) : ConOK prog G n_impl_MatchesSchema con_impl_MatchesSchema :=
  conR_ok env mixed (fn := f115) (c := codeOf f115) (by kernel_rfl) (by kernel_rfl) H_impl_MatchesSchema (by kernel_rfl) fun ⟨s, name, ⟨v0, v1, v2, ⟨⟩⟩, ⟨⟩⟩ hin hp =>
  Eq.mpr ((by kernel_rfl : awp Θ Γ_impl_MatchesSchema H_impl_MatchesSchema (codeOf f115) (endsV Θ f115.results.toList rsh_impl_MatchesSchema fun r => r = (F_impl_MatchesSchema (s, name, (v0, v1, v2, ()), ())).2) (entry f115.ntmps (psVals sh_impl_MatchesSchema (s, name, (v0, v1, v2, ()), ()))) = VC_impl_MatchesSchema s name v0 v1 v2 fun r => r = ((Sp.matchesS s name v0 v1 v2, ())))) (h s name v0 v1 v2 hin hp)

def H_spec_IsValidFile : Hints := Go.Fw.hints [] [(2, ⟨[], ⟨[(0, .one (.sl 26 (.cons .str (.cons (.int .i64) .nil)) false)), (3, .kptr [.int .i64, .int .i64, .bool, .int .i64, .sl 116 (.cons .str (.cons (.int .i64) (.cons (.int .i64) (.cons .str .nil)))) false] 0)], []⟩, ⟨[(5, .one (.int .i64))], []⟩⟩)] [] [] []
def VC_spec_IsValidFile (s : List (List UInt8 × Int × Unit)) (f0 : Int) (f1 : Int) (f2 : Bool) (f3 : Int) (f4 : List (List UInt8 × Int × Int × List UInt8 × Unit)) (K : Bool × Unit → Prop) : Prop :=
 let s0 := ((s, (f0, f1, f2, f3, f4, ()), ()), ());
  ∃ (I : (Int × Unit) × Unit → Prop),
  ∃ (μ : (Int × Unit) × Unit → Nat),
  I (((0 : Int), ()), ()) ∧
  ∀ (y1 : (Int × Unit) × Unit),
  I y1 →
  bif decide (y1.1.1 < (↑f4.length : Int)) then
  ((0 : Int) ≤ y1.1.1 ∧ y1.1.1 < (↑f4.length : Int)) ∧
  ((0 : Int) ≤ y1.1.1 ∧ y1.1.1 < (↑f4.length : Int)) ∧
  True ∧
 let r2 :=
  Sp.matchesS s (f4.getD (Int.toNat y1.1.1) ([], (0 : Int), (0 : Int), [], ())).1
  (f4.getD (Int.toNat y1.1.1) ([], (0 : Int), (0 : Int), [], ())).2.1 (f4.getD (Int.toNat y1.1.1) ([], (0 : Int), (0 : Int), [], ())).2.2.1
  (f4.getD (Int.toNat y1.1.1) ([], (0 : Int), (0 : Int), [], ())).2.2.2.1;
  bif !r2 then K (false, ())
  else
  bif decide (y1.1.1 > (0 : Int)) then
  ((0 : Int) ≤ IntKind.i64.wrap (y1.1.1 - (1 : Int)) ∧ IntKind.i64.wrap (y1.1.1 - (1 : Int)) < (↑f4.length : Int)) ∧
  ((0 : Int) ≤ y1.1.1 ∧ y1.1.1 < (↑f4.length : Int)) ∧
  bif
  !Op.bytesLess (f4.getD (IntKind.i64.wrap (y1.1.1 - (1 : Int))).toNat ([], (0 : Int), (0 : Int), [], ())).1
  (f4.getD (Int.toNat y1.1.1) ([], (0 : Int), (0 : Int), [], ())).1 then
  K (false, ())
  else s0 = s0 ∧ I ((IntKind.i64.wrap (y1.1.1 + (1 : Int)), ()), ()) ∧ μ ((IntKind.i64.wrap (y1.1.1 + (1 : Int)), ()), ()) < μ y1
  else s0 = s0 ∧ I ((IntKind.i64.wrap (y1.1.1 + (1 : Int)), ()), ()) ∧ μ ((IntKind.i64.wrap (y1.1.1 + (1 : Int)), ()), ()) < μ y1
  else
  True ∧
  bif Sp.okSchema s then
  True ∧
 let r3 := decide ((1 : Int) ≤ f0) && decide (f0 ≤ (60 : Int));
  bif r3 then
  True ∧
 let r4 := decide ((0 : Int) ≤ f1) && decide (f1 ≤ (2 : Int));
  bif r4 then
  True ∧
 let r5 := decide ((0 : Int) ≤ f3) && decide (f3 ≤ (60 : Int));
  K (r5, ())
  else K (false, ())
  else K (false, ())
  else K (false, ())
theorem wk_spec_IsValidFile (env : EnvB prog G Θ Γ_spec_IsValidFile) (h : ∀ (s : List (List UInt8 × Int × Unit)) (f0 : Int) (f1 : Int) (f2 : Bool) (f3 : Int) (f4 : List (List UInt8 × Int × Int × List UInt8 × Unit)), psInR sh_spec_IsValidFile (s, (f0, f1, f2, f3, f4, ()), ()) → (True) → VC_spec_IsValidFile s f0 f1 f2 f3 f4 fun r => r = ((Sp.okFile s (f0, f1, f2, f3, f4, ()), ()))) : ConOK prog G n_spec_IsValidFile con_spec_IsValidFile :=
  conR_ok env mixed (fn := f81) (c := codeOf f81) (by kernel_rfl) (by kernel_rfl) H_spec_IsValidFile (by kernel_rfl) fun ⟨s, ⟨f0, f1, f2, f3, f4, ⟨⟩⟩, ⟨⟩⟩ hin hp =>
  Eq.mpr ((by kernel_rfl : awp Θ Γ_spec_IsValidFile H_spec_IsValidFile (codeOf f81) (endsV Θ f81.results.toList rsh_spec_IsValidFile fun r => r = (F_spec_IsValidFile (s, (f0, f1, f2, f3, f4, ()), ())).2) (entry f81.ntmps (psVals sh_spec_IsValidFile (s, (f0, f1, f2, f3, f4, ()), ()))) = VC_spec_IsValidFile s f0 f1 f2 f3 f4 fun r => r = ((Sp.okFile s (f0, f1, f2, f3, f4, ()), ())))) (h s f0 f1 f2 f3 f4 hin hp)

def H_impl_IsValidFile : Hints := Go.Fw.hints [] [(2, ⟨[], ⟨[(0, .one (.sl 26 (.cons .str (.cons (.int .i64) .nil)) false)), (3, .kptr [.int .i64, .int .i64, .bool, .int .i64, .sl 116 (.cons .str (.cons (.int .i64) (.cons (.int .i64) (.cons .str .nil)))) false] 0), (8, .one (.sl 116 (.cons .str (.cons (.int .i64) (.cons (.int .i64) (.cons .str .nil)))) false)), (9, .one (.int .i64))], []⟩, ⟨[(10, .one (.int .i64))], []⟩⟩)] [] [] []
def VC_impl_IsValidFile (s : List (List UInt8 × Int × Unit)) (f0 : Int) (f1 : Int) (f2 : Bool) (f3 : Int) (f4 : List (List UInt8 × Int × Int × List UInt8 × Unit)) (K : Bool × Unit → Prop) : Prop :=
 let s0 := ((s, (f0, f1, f2, f3, f4, ()), f4, (↑f4.length : Int), ()), ());
  ∃ (I : (Int × Unit) × Unit → Prop),
  ∃ (μ : (Int × Unit) × Unit → Nat),
  I (((0 : Int), ()), ()) ∧
  ∀ (y1 : (Int × Unit) × Unit),
  I y1 →
  bif decide (y1.1.1 < (↑f4.length : Int)) then
  ((0 : Int) ≤ y1.1.1 ∧ y1.1.1 < (↑f4.length : Int)) ∧
  bif decide (y1.1.1 > (0 : Int)) then
  ((0 : Int) ≤ IntKind.i64.wrap (y1.1.1 - (1 : Int)) ∧ IntKind.i64.wrap (y1.1.1 - (1 : Int)) < (↑f4.length : Int)) ∧
  bif
  !Op.bytesLess (f4.getD (IntKind.i64.wrap (y1.1.1 - (1 : Int))).toNat ([], (0 : Int), (0 : Int), [], ())).1
  (f4.getD (Int.toNat y1.1.1) ([], (0 : Int), (0 : Int), [], ())).1 then
  K (false, ())
  else
  True ∧
 let r2 :=
  Sp.matchesS s (f4.getD (Int.toNat y1.1.1) ([], (0 : Int), (0 : Int), [], ())).1
  (f4.getD (Int.toNat y1.1.1) ([], (0 : Int), (0 : Int), [], ())).2.1
  (f4.getD (Int.toNat y1.1.1) ([], (0 : Int), (0 : Int), [], ())).2.2.1
  (f4.getD (Int.toNat y1.1.1) ([], (0 : Int), (0 : Int), [], ())).2.2.2.1;
  bif !r2 then K (false, ())
  else s0 = s0 ∧ I ((IntKind.i64.wrap (y1.1.1 + (1 : Int)), ()), ()) ∧ μ ((IntKind.i64.wrap (y1.1.1 + (1 : Int)), ()), ()) < μ y1
  else
  True ∧
 let r3 :=
  Sp.matchesS s (f4.getD (Int.toNat y1.1.1) ([], (0 : Int), (0 : Int), [], ())).1
  (f4.getD (Int.toNat y1.1.1) ([], (0 : Int), (0 : Int), [], ())).2.1 (f4.getD (Int.toNat y1.1.1) ([], (0 : Int), (0 : Int), [], ())).2.2.1
  (f4.getD (Int.toNat y1.1.1) ([], (0 : Int), (0 : Int), [], ())).2.2.2.1;
  bif !r3 then K (false, ()) else s0 = s0 ∧ I ((IntKind.i64.wrap (y1.1.1 + (1 : Int)), ()), ()) ∧ μ ((IntKind.i64.wrap (y1.1.1 + (1 : Int)), ()), ()) < μ y1
  else
  True ∧
 let r4 := decide ((1 : Int) ≤ f0) && decide (f0 ≤ (60 : Int));
  bif r4 then
  True ∧
 let r5 := decide ((0 : Int) ≤ f1) && decide (f1 ≤ (2 : Int));
  bif r5 then
  True ∧
 let r6 := decide ((0 : Int) ≤ f3) && decide (f3 ≤ (60 : Int));
  bif r6 then True ∧ K (Sp.okSchema s, ()) else K (false, ())
  else K (false, ())
  else K (false, ())
theorem wk_impl_IsValidFile (env : EnvB prog G Θ Γ_impl_IsValidFile) (h : ∀ (s : List (List UInt8 × Int × Unit)) (f0 : Int) (f1 : Int) (f2 : Bool) (f3 : Int) (f4 : List (List UInt8 × Int × Int × List UInt8 × Unit)), psInR sh_impl_IsValidFile (s, (f0, f1, f2, f3, f4, ()), ()) → (True) → VC_impl_IsValidFile s f0 f1 f2 f3 f4 fun r => r = ((Sp.okFile s (f0, f1, f2, f3, f4, ()), ()))) : ConOK prog G n_impl_IsValidFile con_impl_IsValidFile :=
  conR_ok env mixed (fn := f83) (c := codeOf f83) (by kernel_rfl) (by kernel_rfl) H_impl_IsValidFile (by kernel_rfl) fun ⟨s, ⟨f0, f1, f2, f3, f4, ⟨⟩⟩, ⟨⟩⟩ hin hp =>
  Eq.mpr ((by kernel_rfl : awp Θ Γ_impl_IsValidFile H_impl_IsValidFile (codeOf f83) (endsV Θ f83.results.toList rsh_impl_IsValidFile fun r => r = (F_impl_IsValidFile (s, (f0, f1, f2, f3, f4, ()), ())).2) (entry f83.ntmps (psVals sh_impl_IsValidFile (s, (f0, f1, f2, f3, f4, ()), ()))) = VC_impl_IsValidFile s f0 f1 f2 f3 f4 fun r => r = ((Sp.okFile s (f0, f1, f2, f3, f4, ()), ())))) (h s f0 f1 f2 f3 f4 hin hp)

def H_spec_IsValidStore : Hints := Go.Fw.hints [] [(2, ⟨[], ⟨[(1, .kptr [.sl 26 (.cons .str (.cons (.int .i64) .nil)) false, .sl 39 (.cons (.int .i64) (.cons (.int .i64) (.cons .bool (.cons (.int .i64) (.cons (.sl 116 (.cons .str (.cons (.int .i64) (.cons (.int .i64) (.cons .str .nil))))) .nil))))) false, .int .i64] 0)], []⟩, ⟨[(3, .one (.int .i64))], []⟩⟩)] [] [] []
def VC_spec_IsValidStore (s0 : List (List UInt8 × Int × Unit)) (s1 : List (Int × Int × Bool × Int × List (List UInt8 × Int × Int × List UInt8 × Unit) × Unit)) (s2 : Int) (K : Bool × Unit → Prop) : Prop :=
 let s0_1 := (((s0, s1, s2, ()), ()), ());
  ∃ (I : (Int × Unit) × Unit → Prop),
  ∃ (μ : (Int × Unit) × Unit → Nat),
  I (((0 : Int), ()), ()) ∧
  ∀ (y1 : (Int × Unit) × Unit),
  I y1 →
  bif decide (y1.1.1 < (↑s1.length : Int)) then
  ((0 : Int) ≤ y1.1.1 ∧ y1.1.1 < (↑s1.length : Int)) ∧
  True ∧
 let r2 :=
  Sp.okFile s0
  ((s1.getD (Int.toNat y1.1.1) ((0 : Int), (0 : Int), false, (0 : Int), [], ())).1,
  (s1.getD (Int.toNat y1.1.1) ((0 : Int), (0 : Int), false, (0 : Int), [], ())).2.1,
  (s1.getD (Int.toNat y1.1.1) ((0 : Int), (0 : Int), false, (0 : Int), [], ())).2.2.1,
  (s1.getD (Int.toNat y1.1.1) ((0 : Int), (0 : Int), false, (0 : Int), [], ())).2.2.2.1,
  (s1.getD (Int.toNat y1.1.1) ((0 : Int), (0 : Int), false, (0 : Int), [], ())).2.2.2.2.1, ());
  bif !r2 then K (false, ())
  else
  ((0 : Int) ≤ y1.1.1 ∧ y1.1.1 < (↑s1.length : Int)) ∧
  bif decide ((s1.getD (Int.toNat y1.1.1) ((0 : Int), (0 : Int), false, (0 : Int), [], ())).1 ≥ s2) then K (false, ())
  else
  bif decide (y1.1.1 > (0 : Int)) then
  ((0 : Int) ≤ IntKind.i64.wrap (y1.1.1 - (1 : Int)) ∧ IntKind.i64.wrap (y1.1.1 - (1 : Int)) < (↑s1.length : Int)) ∧
  ((0 : Int) ≤ y1.1.1 ∧ y1.1.1 < (↑s1.length : Int)) ∧
  bif
  decide
  ((s1.getD (IntKind.i64.wrap (y1.1.1 - (1 : Int))).toNat ((0 : Int), (0 : Int), false, (0 : Int), [], ())).1 ≥
  (s1.getD (Int.toNat y1.1.1) ((0 : Int), (0 : Int), false, (0 : Int), [], ())).1) then
  K (false, ())
  else s0_1 = s0_1 ∧ I ((IntKind.i64.wrap (y1.1.1 + (1 : Int)), ()), ()) ∧ μ ((IntKind.i64.wrap (y1.1.1 + (1 : Int)), ()), ()) < μ y1
  else s0_1 = s0_1 ∧ I ((IntKind.i64.wrap (y1.1.1 + (1 : Int)), ()), ()) ∧ μ ((IntKind.i64.wrap (y1.1.1 + (1 : Int)), ()), ()) < μ y1
  else
  True ∧
  bif Sp.okSchema s0 then
  bif decide ((↑s1.length : Int) ≤ (12 : Int)) then
  True ∧
 let r3 := decide ((1 : Int) ≤ s2) && decide (s2 ≤ (61 : Int));
  K (r3, ())
  else K (false, ())
  else K (false, ())
theorem wk_spec_IsValidStore (env : EnvB prog G Θ Γ_spec_IsValidStore) (h : ∀ (s0 : List (List UInt8 × Int × Unit)) (s1 : List (Int × Int × Bool × Int × List (List UInt8 × Int × Int × List UInt8 × Unit) × Unit)) (s2 : Int), psInR sh_spec_IsValidStore ((s0, s1, s2, ()), ()) → (True) → VC_spec_IsValidStore s0 s1 s2 fun r => r = ((Sp.okStore (s0, s1, s2, ()), ()))) : ConOK prog G n_spec_IsValidStore con_spec_IsValidStore :=
  conR_ok env mixed (fn := f28) (c := codeOf f28) (by kernel_rfl) (by kernel_rfl) H_spec_IsValidStore (by kernel_rfl) fun ⟨⟨s0, s1, s2, ⟨⟩⟩, ⟨⟩⟩ hin hp =>
  Eq.mpr ((by kernel_rfl : awp Θ Γ_spec_IsValidStore H_spec_IsValidStore (codeOf f28) (endsV Θ f28.results.toList rsh_spec_IsValidStore fun r => r = (F_spec_IsValidStore ((s0, s1, s2, ()), ())).2) (entry f28.ntmps (psVals sh_spec_IsValidStore ((s0, s1, s2, ()), ()))) = VC_spec_IsValidStore s0 s1 s2 fun r => r = ((Sp.okStore (s0, s1, s2, ()), ())))) (h s0 s1 s2 hin hp)

def H_impl_IsValidStore : Hints := Go.Fw.hints [] [(2, ⟨[], ⟨[(1, .kptr [.sl 26 (.cons .str (.cons (.int .i64) .nil)) false, .sl 39 (.cons (.int .i64) (.cons (.int .i64) (.cons .bool (.cons (.int .i64) (.cons (.sl 116 (.cons .str (.cons (.int .i64) (.cons (.int .i64) (.cons .str .nil))))) .nil))))) false, .int .i64] 0), (6, .one (.sl 39 (.cons (.int .i64) (.cons (.int .i64) (.cons .bool (.cons (.int .i64) (.cons (.sl 116 (.cons .str (.cons (.int .i64) (.cons (.int .i64) (.cons .str .nil))))) .nil))))) false)), (7, .one (.int .i64))], []⟩, ⟨[(8, .one (.int .i64))], []⟩⟩)] [] [] []
def VC_impl_IsValidStore (s0 : List (List UInt8 × Int × Unit)) (s1 : List (Int × Int × Bool × Int × List (List UInt8 × Int × Int × List UInt8 × Unit) × Unit)) (s2 : Int) (K : Bool × Unit → Prop) : Prop :=
 let s0_1 := (((s0, s1, s2, ()), s1, (↑s1.length : Int), ()), ());
  ∃ (I : (Int × Unit) × Unit → Prop),
  ∃ (μ : (Int × Unit) × Unit → Nat),
  I (((0 : Int), ()), ()) ∧
  ∀ (y1 : (Int × Unit) × Unit),
  I y1 →
  bif decide (y1.1.1 < (↑s1.length : Int)) then
  ((0 : Int) ≤ y1.1.1 ∧ y1.1.1 < (↑s1.length : Int)) ∧
  True ∧
 let r2 :=
  Sp.okFile s0
  ((s1.getD (Int.toNat y1.1.1) ((0 : Int), (0 : Int), false, (0 : Int), [], ())).1,
  (s1.getD (Int.toNat y1.1.1) ((0 : Int), (0 : Int), false, (0 : Int), [], ())).2.1,
  (s1.getD (Int.toNat y1.1.1) ((0 : Int), (0 : Int), false, (0 : Int), [], ())).2.2.1,
  (s1.getD (Int.toNat y1.1.1) ((0 : Int), (0 : Int), false, (0 : Int), [], ())).2.2.2.1,
  (s1.getD (Int.toNat y1.1.1) ((0 : Int), (0 : Int), false, (0 : Int), [], ())).2.2.2.2.1, ());
  bif !r2 then K (false, ())
  else
  bif decide ((s1.getD (Int.toNat y1.1.1) ((0 : Int), (0 : Int), false, (0 : Int), [], ())).1 ≥ s2) then K (false, ())
  else
  bif decide (y1.1.1 > (0 : Int)) then
  ((0 : Int) ≤ IntKind.i64.wrap (y1.1.1 - (1 : Int)) ∧ IntKind.i64.wrap (y1.1.1 - (1 : Int)) < (↑s1.length : Int)) ∧
  bif
  decide
  ((s1.getD (IntKind.i64.wrap (y1.1.1 - (1 : Int))).toNat ((0 : Int), (0 : Int), false, (0 : Int), [], ())).1 ≥
  (s1.getD (Int.toNat y1.1.1) ((0 : Int), (0 : Int), false, (0 : Int), [], ())).1) then
  K (false, ())
  else s0_1 = s0_1 ∧ I ((IntKind.i64.wrap (y1.1.1 + (1 : Int)), ()), ()) ∧ μ ((IntKind.i64.wrap (y1.1.1 + (1 : Int)), ()), ()) < μ y1
  else s0_1 = s0_1 ∧ I ((IntKind.i64.wrap (y1.1.1 + (1 : Int)), ()), ()) ∧ μ ((IntKind.i64.wrap (y1.1.1 + (1 : Int)), ()), ()) < μ y1
  else
  True ∧
  bif Sp.okSchema s0 then
  bif decide ((↑s1.length : Int) ≤ (12 : Int)) then
  True ∧
 let r3 := decide ((1 : Int) ≤ s2) && decide (s2 ≤ (61 : Int));
  K (r3, ())
  else K (false, ())
  else K (false, ())
theorem wk_impl_IsValidStore (env : EnvB prog G Θ Γ_impl_IsValidStore) (h : ∀ (s0 : List (List UInt8 × Int × Unit)) (s1 : List (Int × Int × Bool × Int × List (List UInt8 × Int × Int × List UInt8 × Unit) × Unit)) (s2 : Int), psInR sh_impl_IsValidStore ((s0, s1, s2, ()), ()) → (True) → VC_impl_IsValidStore s0 s1 s2 fun r => r = ((Sp.okStore (s0, s1, s2, ()), ()))) : ConOK prog G n_impl_IsValidStore con_impl_IsValidStore :=
  conR_ok env mixed (fn := f42) (c := codeOf f42) (by kernel_rfl) (by kernel_rfl) H_impl_IsValidStore (by kernel_rfl) fun ⟨⟨s0, s1, s2, ⟨⟩⟩, ⟨⟩⟩ hin hp =>
  Eq.mpr ((by kernel_rfl : awp Θ Γ_impl_IsValidStore H_impl_IsValidStore (codeOf f42) (endsV Θ f42.results.toList rsh_impl_IsValidStore fun r => r = (F_impl_IsValidStore ((s0, s1, s2, ()), ())).2) (entry f42.ntmps (psVals sh_impl_IsValidStore ((s0, s1, s2, ()), ()))) = VC_impl_IsValidStore s0 s1 s2 fun r => r = ((Sp.okStore (s0, s1, s2, ()), ())))) (h s0 s1 s2 hin hp)

def H_laws_sameFields : Hints := Go.Fw.hints [] [(4, ⟨[], ⟨[(0, .one (.sl 26 (.cons .str (.cons (.int .i64) .nil)) false)), (1, .one (.sl 26 (.cons .str (.cons (.int .i64) .nil)) false))], []⟩, ⟨[(5, .one (.int .i64))], []⟩⟩)] [] [] []
def VC_laws_sameFields (a : List (List UInt8 × Int × Unit)) (b : List (List UInt8 × Int × Unit)) (K : Bool × Unit → Prop) : Prop :=
  bif (↑a.length : Int) != (↑b.length : Int) then K (false, ())
  else
 let s0 := ((a, b, ()), ());
  ∃ (I : (Int × Unit) × Unit → Prop),
  ∃ (μ : (Int × Unit) × Unit → Nat),
  I (((0 : Int), ()), ()) ∧
  ∀ (y1 : (Int × Unit) × Unit),
  I y1 →
  bif decide (y1.1.1 < (↑a.length : Int)) then
  ((0 : Int) ≤ y1.1.1 ∧ y1.1.1 < (↑a.length : Int)) ∧
  ((0 : Int) ≤ y1.1.1 ∧ y1.1.1 < (↑b.length : Int)) ∧
  bif
  !((a.getD (Int.toNat y1.1.1) ([], (0 : Int), ())).1 == (b.getD (Int.toNat y1.1.1) ([], (0 : Int), ())).1 &&
  ((a.getD (Int.toNat y1.1.1) ([], (0 : Int), ())).2.1 == (b.getD (Int.toNat y1.1.1) ([], (0 : Int), ())).2.1 && true)) then
  K (false, ())
  else s0 = s0 ∧ I ((IntKind.i64.wrap (y1.1.1 + (1 : Int)), ()), ()) ∧ μ ((IntKind.i64.wrap (y1.1.1 + (1 : Int)), ()), ()) < μ y1
  else K (true, ())
theorem wk_laws_sameFields (env : EnvB prog G Θ Γ_laws_sameFields) (h : ∀ (a : List (List UInt8 × Int × Unit)) (b : List (List UInt8 × Int × Unit)), psInR sh_laws_sameFields (a, b, ()) → (True) → VC_laws_sameFields a b fun r => r = ((decide (a = b), ()))) : ConOK prog G n_laws_sameFields con_laws_sameFields :=
  conR_ok env mixed (fn := f15) (c := codeOf f15) (by kernel_rfl) (by kernel_rfl) H_laws_sameFields (by kernel_rfl) fun ⟨a, b, ⟨⟩⟩ hin hp =>
  Eq.mpr ((by kernel_rfl : awp Θ Γ_laws_sameFields H_laws_sameFields (codeOf f15) (endsV Θ f15.results.toList rsh_laws_sameFields fun r => r = (F_laws_sameFields (a, b, ())).2) (entry f15.ntmps (psVals sh_laws_sameFields (a, b, ()))) = VC_laws_sameFields a b fun r => r = ((decide (a = b), ())))) (h a b hin hp)

def H_laws_sameAttrs : Hints := Go.Fw.hints [] [(4, ⟨[], ⟨[(0, .one (.sl 116 (.cons .str (.cons (.int .i64) (.cons (.int .i64) (.cons .str .nil)))) false)), (1, .one (.sl 116 (.cons .str (.cons (.int .i64) (.cons (.int .i64) (.cons .str .nil)))) false))], []⟩, ⟨[(5, .one (.int .i64))], []⟩⟩)] [] [] []
def VC_laws_sameAttrs (a : List (List UInt8 × Int × Int × List UInt8 × Unit)) (b : List (List UInt8 × Int × Int × List UInt8 × Unit)) (K : Bool × Unit → Prop) : Prop :=
  bif (↑a.length : Int) != (↑b.length : Int) then K (false, ())
  else
 let s0 := ((a, b, ()), ());
  ∃ (I : (Int × Unit) × Unit → Prop),
  ∃ (μ : (Int × Unit) × Unit → Nat),
  I (((0 : Int), ()), ()) ∧
  ∀ (y1 : (Int × Unit) × Unit),
  I y1 →
  bif decide (y1.1.1 < (↑a.length : Int)) then
  ((0 : Int) ≤ y1.1.1 ∧ y1.1.1 < (↑a.length : Int)) ∧
  ((0 : Int) ≤ y1.1.1 ∧ y1.1.1 < (↑b.length : Int)) ∧
  bif
  !((a.getD (Int.toNat y1.1.1) ([], (0 : Int), (0 : Int), [], ())).1 == (b.getD (Int.toNat y1.1.1) ([], (0 : Int), (0 : Int), [], ())).1 &&
  ((a.getD (Int.toNat y1.1.1) ([], (0 : Int), (0 : Int), [], ())).2.1 ==
  (b.getD (Int.toNat y1.1.1) ([], (0 : Int), (0 : Int), [], ())).2.1 &&
  ((a.getD (Int.toNat y1.1.1) ([], (0 : Int), (0 : Int), [], ())).2.2.1 ==
  (b.getD (Int.toNat y1.1.1) ([], (0 : Int), (0 : Int), [], ())).2.2.1 &&
  ((a.getD (Int.toNat y1.1.1) ([], (0 : Int), (0 : Int), [], ())).2.2.2.1 ==
  (b.getD (Int.toNat y1.1.1) ([], (0 : Int), (0 : Int), [], ())).2.2.2.1 &&
  true)))) then
  K (false, ())
  else s0 = s0 ∧ I ((IntKind.i64.wrap (y1.1.1 + (1 : Int)), ()), ()) ∧ μ ((IntKind.i64.wrap (y1.1.1 + (1 : Int)), ()), ()) < μ y1
  else K (true, ())
theorem wk_laws_sameAttrs (env : EnvB prog G Θ Γ_laws_sameAttrs) (h : ∀ (a : List (List UInt8 × Int × Int × List UInt8 × Unit)) (b : List (List UInt8 × Int × Int × List UInt8 × Unit)), psInR sh_laws_sameAttrs (a, b, ()) → (True) → VC_laws_sameAttrs a b fun r => r = ((decide (a = b), ()))) : ConOK prog G n_laws_sameAttrs con_laws_sameAttrs :=
  conR_ok env mixed (fn := f88) (c := codeOf f88) (by kernel_rfl) (by kernel_rfl) H_laws_sameAttrs (by kernel_rfl) fun ⟨a, b, ⟨⟩⟩ hin hp =>
  Eq.mpr ((by kernel_rfl : awp Θ Γ_laws_sameAttrs H_laws_sameAttrs (codeOf f88) (endsV Θ f88.results.toList rsh_laws_sameAttrs fun r => r = (F_laws_sameAttrs (a, b, ())).2) (entry f88.ntmps (psVals sh_laws_sameAttrs (a, b, ()))) = VC_laws_sameAttrs a b fun r => r = ((decide (a = b), ())))) (h a b hin hp)

def H_laws_sameFile : Hints := Go.Fw.hints [] [] [] [] []
def VC_laws_sameFile (a0 : Int) (a1 : Int) (a2 : Bool) (a3 : Int) (a4 : List (List UInt8 × Int × Int × List UInt8 × Unit)) (b0 : Int) (b1 : Int) (b2 : Bool) (b3 : Int) (b4 : List (List UInt8 × Int × Int × List UInt8 × Unit)) (K : Bool × Unit → Prop) : Prop :=
  bif a0 == b0 then
  bif a1 == b1 then
  bif a2 == b2 then
  bif a3 == b3 then
  True ∧
 let r0 := decide (a4 = b4);
  K (r0, ())
  else K (false, ())
  else K (false, ())
  else K (false, ())
  else K (false, ())
theorem wk_laws_sameFile (env : EnvB prog G Θ Γ_laws_sameFile) (h : ∀ (a0 : Int) (a1 : Int) (a2 : Bool) (a3 : Int) (a4 : List (List UInt8 × Int × Int × List UInt8 × Unit)) (b0 : Int) (b1 : Int) (b2 : Bool) (b3 : Int) (b4 : List (List UInt8 × Int × Int × List UInt8 × Unit)), psInR sh_laws_sameFile ((a0, a1, a2, a3, a4, ()), (b0, b1, b2, b3, b4, ()), ()) → (True) → VC_laws_sameFile a0 a1 a2 a3 a4 b0 b1 b2 b3 b4 fun r => r = ((decide ((a0, a1, a2, a3, a4, ()) = (b0, b1, b2, b3, b4, ())), ()))) : ConOK prog G n_laws_sameFile con_laws_sameFile :=
  conR_ok env mixed (fn := f43) (c := codeOf f43) (by kernel_rfl) (by kernel_rfl) H_laws_sameFile (by kernel_rfl) fun ⟨⟨a0, a1, a2, a3, a4, ⟨⟩⟩, ⟨b0, b1, b2, b3, b4, ⟨⟩⟩, ⟨⟩⟩ hin hp =>
  Eq.mpr ((by kernel_rfl : awp Θ Γ_laws_sameFile H_laws_sameFile (codeOf f43) (endsV Θ f43.results.toList rsh_laws_sameFile fun r => r = (F_laws_sameFile ((a0, a1, a2, a3, a4, ()), (b0, b1, b2, b3, b4, ()), ())).2) (entry f43.ntmps (psVals sh_laws_sameFile ((a0, a1, a2, a3, a4, ()), (b0, b1, b2, b3, b4, ()), ()))) = VC_laws_sameFile a0 a1 a2 a3 a4 b0 b1 b2 b3 b4 fun r => r = ((decide ((a0, a1, a2, a3, a4, ()) = (b0, b1, b2, b3, b4, ())), ())))) (h a0 a1 a2 a3 a4 b0 b1 b2 b3 b4 hin hp)

def H_laws_sameFiles : Hints := Go.Fw.hints [] [(4, ⟨[], ⟨[(0, .one (.sl 39 (.cons (.int .i64) (.cons (.int .i64) (.cons .bool (.cons (.int .i64) (.cons (.sl 116 (.cons .str (.cons (.int .i64) (.cons (.int .i64) (.cons .str .nil))))) .nil))))) false)), (1, .one (.sl 39 (.cons (.int .i64) (.cons (.int .i64) (.cons .bool (.cons (.int .i64) (.cons (.sl 116 (.cons .str (.cons (.int .i64) (.cons (.int .i64) (.cons .str .nil))))) .nil))))) false))], []⟩, ⟨[(5, .one (.int .i64))], []⟩⟩)] [] [] []
def VC_laws_sameFiles (a : List (Int × Int × Bool × Int × List (List UInt8 × Int × Int × List UInt8 × Unit) × Unit)) (b : List (Int × Int × Bool × Int × List (List UInt8 × Int × Int × List UInt8 × Unit) × Unit)) (K : Bool × Unit → Prop) : Prop :=
  bif (↑a.length : Int) != (↑b.length : Int) then K (false, ())
  else
 let s0 := ((a, b, ()), ());
  ∃ (I : (Int × Unit) × Unit → Prop),
  ∃ (μ : (Int × Unit) × Unit → Nat),
  I (((0 : Int), ()), ()) ∧
  ∀ (y1 : (Int × Unit) × Unit),
  I y1 →
  bif decide (y1.1.1 < (↑a.length : Int)) then
  ((0 : Int) ≤ y1.1.1 ∧ y1.1.1 < (↑a.length : Int)) ∧
  ((0 : Int) ≤ y1.1.1 ∧ y1.1.1 < (↑b.length : Int)) ∧
  True ∧
 let r2 :=
  decide
  (((a.getD (Int.toNat y1.1.1) ((0 : Int), (0 : Int), false, (0 : Int), [], ())).1,
  (a.getD (Int.toNat y1.1.1) ((0 : Int), (0 : Int), false, (0 : Int), [], ())).2.1,
  (a.getD (Int.toNat y1.1.1) ((0 : Int), (0 : Int), false, (0 : Int), [], ())).2.2.1,
  (a.getD (Int.toNat y1.1.1) ((0 : Int), (0 : Int), false, (0 : Int), [], ())).2.2.2.1,
  (a.getD (Int.toNat y1.1.1) ((0 : Int), (0 : Int), false, (0 : Int), [], ())).2.2.2.2.1, ()) =
  ((b.getD (Int.toNat y1.1.1) ((0 : Int), (0 : Int), false, (0 : Int), [], ())).1,
  (b.getD (Int.toNat y1.1.1) ((0 : Int), (0 : Int), false, (0 : Int), [], ())).2.1,
  (b.getD (Int.toNat y1.1.1) ((0 : Int), (0 : Int), false, (0 : Int), [], ())).2.2.1,
  (b.getD (Int.toNat y1.1.1) ((0 : Int), (0 : Int), false, (0 : Int), [], ())).2.2.2.1,
  (b.getD (Int.toNat y1.1.1) ((0 : Int), (0 : Int), false, (0 : Int), [], ())).2.2.2.2.1, ()));
  bif !r2 then K (false, ())
  else s0 = s0 ∧ I ((IntKind.i64.wrap (y1.1.1 + (1 : Int)), ()), ()) ∧ μ ((IntKind.i64.wrap (y1.1.1 + (1 : Int)), ()), ()) < μ y1
  else K (true, ())
theorem wk_laws_sameFiles (env : EnvB prog G Θ Γ_laws_sameFiles) (h : ∀ (a : List (Int × Int × Bool × Int × List (List UInt8 × Int × Int × List UInt8 × Unit) × Unit)) (b : List (Int × Int × Bool × Int × List (List UInt8 × Int × Int × List UInt8 × Unit) × Unit)), psInR sh_laws_sameFiles (a, b, ()) → (True) → VC_laws_sameFiles a b fun r => r = ((decide (a = b), ()))) : ConOK prog G n_laws_sameFiles con_laws_sameFiles :=
  conR_ok env mixed (fn := f47) (c := codeOf f47) (by kernel_rfl) (by kernel_rfl) H_laws_sameFiles (by kernel_rfl) fun ⟨a, b, ⟨⟩⟩ hin hp =>
  Eq.mpr ((by kernel_rfl : awp Θ Γ_laws_sameFiles H_laws_sameFiles (codeOf f47) (endsV Θ f47.results.toList rsh_laws_sameFiles fun r => r = (F_laws_sameFiles (a, b, ())).2) (entry f47.ntmps (psVals sh_laws_sameFiles (a, b, ()))) = VC_laws_sameFiles a b fun r => r = ((decide (a = b), ())))) (h a b hin hp)

def H_laws_sameStore : Hints := Go.Fw.hints [] [] [] [] []
def VC_laws_sameStore (a0 : List (List UInt8 × Int × Unit)) (a1 : List (Int × Int × Bool × Int × List (List UInt8 × Int × Int × List UInt8 × Unit) × Unit)) (a2 : Int) (b0 : List (List UInt8 × Int × Unit)) (b1 : List (Int × Int × Bool × Int × List (List UInt8 × Int × Int × List UInt8 × Unit) × Unit)) (b2 : Int) (K : Bool × Unit → Prop) : Prop :=
  True ∧
 let r0 := decide (a0 = b0);
  bif r0 then
  True ∧
 let r1 := decide (a1 = b1);
  bif r1 then K (a2 == b2, ()) else K (false, ())
  else K (false, ())
theorem wk_laws_sameStore (env : EnvB prog G Θ Γ_laws_sameStore) (h : ∀ (a0 : List (List UInt8 × Int × Unit)) (a1 : List (Int × Int × Bool × Int × List (List UInt8 × Int × Int × List UInt8 × Unit) × Unit)) (a2 : Int) (b0 : List (List UInt8 × Int × Unit)) (b1 : List (Int × Int × Bool × Int × List (List UInt8 × Int × Int × List UInt8 × Unit) × Unit)) (b2 : Int), psInR sh_laws_sameStore ((a0, a1, a2, ()), (b0, b1, b2, ()), ()) → (True) → VC_laws_sameStore a0 a1 a2 b0 b1 b2 fun r => r = ((decide ((a0, a1, a2, ()) = (b0, b1, b2, ())), ()))) : ConOK prog G n_laws_sameStore con_laws_sameStore :=
  conR_ok env mixed (fn := f25) (c := codeOf f25) (by kernel_rfl) (by kernel_rfl) H_laws_sameStore (by kernel_rfl) fun ⟨⟨a0, a1, a2, ⟨⟩⟩, ⟨b0, b1, b2, ⟨⟩⟩, ⟨⟩⟩ hin hp =>
  Eq.mpr ((by kernel_rfl : awp Θ Γ_laws_sameStore H_laws_sameStore (codeOf f25) (endsV Θ f25.results.toList rsh_laws_sameStore fun r => r = (F_laws_sameStore ((a0, a1, a2, ()), (b0, b1, b2, ()), ())).2) (entry f25.ntmps (psVals sh_laws_sameStore ((a0, a1, a2, ()), (b0, b1, b2, ()), ()))) = VC_laws_sameStore a0 a1 a2 b0 b1 b2 fun r => r = ((decide ((a0, a1, a2, ()) = (b0, b1, b2, ())), ())))) (h a0 a1 a2 b0 b1 b2 hin hp)

def H_laws_sameInts : Hints := Go.Fw.hints [] [(4, ⟨[], ⟨[(0, .one (.sl 3 (.cons (.int .i64) .nil) false)), (1, .one (.sl 3 (.cons (.int .i64) .nil) false))], []⟩, ⟨[(5, .one (.int .i64))], []⟩⟩)] [] [] []
def VC_laws_sameInts (a : List (Int × Unit)) (b : List (Int × Unit)) (K : Bool × Unit → Prop) : Prop :=
  bif (↑a.length : Int) != (↑b.length : Int) then K (false, ())
  else
 let s0 := ((a, b, ()), ());
  ∃ (I : (Int × Unit) × Unit → Prop),
  ∃ (μ : (Int × Unit) × Unit → Nat),
  I (((0 : Int), ()), ()) ∧
  ∀ (y1 : (Int × Unit) × Unit),
  I y1 →
  bif decide (y1.1.1 < (↑a.length : Int)) then
  ((0 : Int) ≤ y1.1.1 ∧ y1.1.1 < (↑a.length : Int)) ∧
  ((0 : Int) ≤ y1.1.1 ∧ y1.1.1 < (↑b.length : Int)) ∧
  bif (a.getD (Int.toNat y1.1.1) ((0 : Int), ())).1 != (b.getD (Int.toNat y1.1.1) ((0 : Int), ())).1 then K (false, ())
  else s0 = s0 ∧ I ((IntKind.i64.wrap (y1.1.1 + (1 : Int)), ()), ()) ∧ μ ((IntKind.i64.wrap (y1.1.1 + (1 : Int)), ()), ()) < μ y1
  else K (true, ())
theorem wk_laws_sameInts (env : EnvB prog G Θ Γ_laws_sameInts) (h : ∀ (a : List (Int × Unit)) (b : List (Int × Unit)), psInR sh_laws_sameInts (a, b, ()) → (True) → VC_laws_sameInts a b fun r => r = ((decide (a = b), ()))) : ConOK prog G n_laws_sameInts con_laws_sameInts :=
  conR_ok env mixed (fn := f29) (c := codeOf f29) (by kernel_rfl) (by kernel_rfl) H_laws_sameInts (by kernel_rfl) fun ⟨a, b, ⟨⟩⟩ hin hp =>
  Eq.mpr ((by kernel_rfl : awp Θ Γ_laws_sameInts H_laws_sameInts (codeOf f29) (endsV Θ f29.results.toList rsh_laws_sameInts fun r => r = (F_laws_sameInts (a, b, ())).2) (entry f29.ntmps (psVals sh_laws_sameInts (a, b, ()))) = VC_laws_sameInts a b fun r => r = ((decide (a = b), ())))) (h a b hin hp)

def H_spec_l04Copy : Hints := Go.Fw.hints [3, 1] [] [] [] []
def VC_spec_l04Copy (f0 : Int) (f1 : Int) (f2 : Bool) (f3 : Int) (f4 : List (List UInt8 × Int × Int × List UInt8 × Unit)) (K : (Int × Int × Bool × Int × List (List UInt8 × Int × Int × List UInt8 × Unit) × Unit) × Unit → Prop) : Prop :=
  (0 : Nat) + f4.length ≤ big ∧ K ((f0, f1, f2, f3, f4, ()), ())
theorem wk_spec_l04Copy (env : EnvB prog G Θ Γ_spec_l04Copy) (h : ∀ (f0 : Int) (f1 : Int) (f2 : Bool) (f3 : Int) (f4 : List (List UInt8 × Int × Int × List UInt8 × Unit)), psInR sh_spec_l04Copy ((f0, f1, f2, f3, f4, ()), ()) → (Sp.smallF (f0, f1, f2, f3, f4, ())) → VC_spec_l04Copy f0 f1 f2 f3 f4 fun r => r = (((f0, f1, f2, f3, f4, ()), ()))) : ConOK prog G n_spec_l04Copy con_spec_l04Copy :=
  conR_ok env mixed (fn := f79) (c := codeOf f79) (by kernel_rfl) (by kernel_rfl) H_spec_l04Copy (by kernel_rfl) fun ⟨⟨f0, f1, f2, f3, f4, ⟨⟩⟩, ⟨⟩⟩ hin hp =>
  Eq.mpr ((by kernel_rfl : awp Θ Γ_spec_l04Copy H_spec_l04Copy (codeOf f79) (endsV Θ f79.results.toList rsh_spec_l04Copy fun r => r = (F_spec_l04Copy ((f0, f1, f2, f3, f4, ()), ())).2) (entry f79.ntmps (psVals sh_spec_l04Copy ((f0, f1, f2, f3, f4, ()), ()))) = VC_spec_l04Copy f0 f1 f2 f3 f4 fun r => r = (((f0, f1, f2, f3, f4, ()), ())))) (h f0 f1 f2 f3 f4 hin hp)

def H_impl_copyFile : Hints := Go.Fw.hints [1] [] [] [] []
def VC_impl_copyFile (f0 : Int) (f1 : Int) (f2 : Bool) (f3 : Int) (f4 : List (List UInt8 × Int × Int × List UInt8 × Unit)) (K : (Int × Int × Bool × Int × List (List UInt8 × Int × Int × List UInt8 × Unit) × Unit) × Unit → Prop) : Prop :=
  f4.length ≤ (1000 : Nat) ∧ K ((f0, f1, f2, f3, f4, ()), ())
theorem wk_impl_copyFile (env : EnvB prog G Θ Γ_impl_copyFile) (h : ∀ (f0 : Int) (f1 : Int) (f2 : Bool) (f3 : Int) (f4 : List (List UInt8 × Int × Int × List UInt8 × Unit)), psInR sh_impl_copyFile ((f0, f1, f2, f3, f4, ()), ()) → (Sp.smallF (f0, f1, f2, f3, f4, ())) → VC_impl_copyFile f0 f1 f2 f3 f4 fun r => r = (((f0, f1, f2, f3, f4, ()), ()))) : ConOK prog G n_impl_copyFile con_impl_copyFile :=
  conR_ok env mixed (fn := f75) (c := codeOf f75) (by kernel_rfl) (by kernel_rfl) H_impl_copyFile (by kernel_rfl) fun ⟨⟨f0, f1, f2, f3, f4, ⟨⟩⟩, ⟨⟩⟩ hin hp =>
  Eq.mpr ((by kernel_rfl : awp Θ Γ_impl_copyFile H_impl_copyFile (codeOf f75) (endsV Θ f75.results.toList rsh_impl_copyFile fun r => r = (F_impl_copyFile ((f0, f1, f2, f3, f4, ()), ())).2) (entry f75.ntmps (psVals sh_impl_copyFile ((f0, f1, f2, f3, f4, ()), ()))) = VC_impl_copyFile f0 f1 f2 f3 f4 fun r => r = (((f0, f1, f2, f3, f4, ()), ())))) (h f0 f1 f2 f3 f4 hin hp)

def H_impl_isUser : Hints := Go.Fw.hints [] [] [] [] []
def VC_impl_isUser (n : Int) (K : Bool × Unit → Prop) : Prop :=
  True ∧
 let r0 := decide ((0 : Int) ≤ n) && decide (n ≤ (2 : Int));
  K (r0, ())
theorem wk_impl_isUser (env : EnvB prog G Θ Γ_impl_isUser) (h : ∀ (n : Int), psInR sh_impl_isUser (n, ()) → (True) → VC_impl_isUser n fun r => r = ((decide ((0 : Int) ≤ n) && decide (n ≤ (2 : Int)), ()))) : ConOK prog G n_impl_isUser con_impl_isUser :=
  conR_ok env mixed (fn := f77) (c := codeOf f77) (by kernel_rfl) (by kernel_rfl) H_impl_isUser (by kernel_rfl) fun ⟨n, ⟨⟩⟩ hin hp =>
  Eq.mpr ((by kernel_rfl : awp Θ Γ_impl_isUser H_impl_isUser (codeOf f77) (endsV Θ f77.results.toList rsh_impl_isUser fun r => r = (F_impl_isUser (n, ())).2) (entry f77.ntmps (psVals sh_impl_isUser (n, ()))) = VC_impl_isUser n fun r => r = ((decide ((0 : Int) ≤ n) && decide (n ≤ (2 : Int)), ())))) (h n hin hp)

def H_spec_CanRead : Hints := Go.Fw.hints [] [] [] [] []
def VC_spec_CanRead (f0 : Int) (f1 : Int) (f2 : Bool) (f3 : Int) (f4 : List (List UInt8 × Int × Int × List UInt8 × Unit)) (u : Int) (K : Bool × Unit → Prop) : Prop :=
  True ∧
 let r0 := decide ((0 : Int) ≤ u) && decide (u ≤ (2 : Int));
  bif r0 then bif f1 == u then K (true, ()) else K (f2, ()) else K (false, ())
theorem wk_spec_CanRead (env : EnvB prog G Θ Γ_spec_CanRead) (h : ∀ (f0 : Int) (f1 : Int) (f2 : Bool) (f3 : Int) (f4 : List (List UInt8 × Int × Int × List UInt8 × Unit)) (u : Int), psInR sh_spec_CanRead ((f0, f1, f2, f3, f4, ()), u, ()) → (True) → VC_spec_CanRead f0 f1 f2 f3 f4 u fun r => r = ((Sp.canRead (f0, f1, f2, f3, f4, ()) u, ()))) : ConOK prog G n_spec_CanRead con_spec_CanRead :=
  conR_ok env mixed (fn := f22) (c := codeOf f22) (by kernel_rfl) (by kernel_rfl) H_spec_CanRead (by kernel_rfl) fun ⟨⟨f0, f1, f2, f3, f4, ⟨⟩⟩, u, ⟨⟩⟩ hin hp =>
  Eq.mpr ((by kernel_rfl : awp Θ Γ_spec_CanRead H_spec_CanRead (codeOf f22) (endsV Θ f22.results.toList rsh_spec_CanRead fun r => r = (F_spec_CanRead ((f0, f1, f2, f3, f4, ()), u, ())).2) (entry f22.ntmps (psVals sh_spec_CanRead ((f0, f1, f2, f3, f4, ()), u, ()))) = VC_spec_CanRead f0 f1 f2 f3 f4 u fun r => r = ((Sp.canRead (f0, f1, f2, f3, f4, ()) u, ())))) (h f0 f1 f2 f3 f4 u hin hp)

def H_impl_CanRead : Hints := Go.Fw.hints [] [] [] [] []
def VC_impl_CanRead (f0 : Int) (f1 : Int) (f2 : Bool) (f3 : Int) (f4 : List (List UInt8 × Int × Int × List UInt8 × Unit)) (user : Int) (K : Bool × Unit → Prop) : Prop :=
  True ∧
 let r0 := decide ((0 : Int) ≤ user) && decide (user ≤ (2 : Int));
  bif r0 then bif f1 == user then K (true, ()) else K (f2, ()) else K (false, ())
theorem wk_impl_CanRead (env : EnvB prog G Θ Γ_impl_CanRead) (h : ∀ (f0 : Int) (f1 : Int) (f2 : Bool) (f3 : Int) (f4 : List (List UInt8 × Int × Int × List UInt8 × Unit)) (user : Int), psInR sh_impl_CanRead ((f0, f1, f2, f3, f4, ()), user, ()) → (True) → VC_impl_CanRead f0 f1 f2 f3 f4 user fun r => r = ((Sp.canRead (f0, f1, f2, f3, f4, ()) user, ()))) : ConOK prog G n_impl_CanRead con_impl_CanRead :=
  conR_ok env mixed (fn := f21) (c := codeOf f21) (by kernel_rfl) (by kernel_rfl) H_impl_CanRead (by kernel_rfl) fun ⟨⟨f0, f1, f2, f3, f4, ⟨⟩⟩, user, ⟨⟩⟩ hin hp =>
  Eq.mpr ((by kernel_rfl : awp Θ Γ_impl_CanRead H_impl_CanRead (codeOf f21) (endsV Θ f21.results.toList rsh_impl_CanRead fun r => r = (F_impl_CanRead ((f0, f1, f2, f3, f4, ()), user, ())).2) (entry f21.ntmps (psVals sh_impl_CanRead ((f0, f1, f2, f3, f4, ()), user, ()))) = VC_impl_CanRead f0 f1 f2 f3 f4 user fun r => r = ((Sp.canRead (f0, f1, f2, f3, f4, ()) user, ())))) (h f0 f1 f2 f3 f4 user hin hp)

def H_spec_CanWrite : Hints := Go.Fw.hints [] [] [] [] []
def VC_spec_CanWrite (f0 : Int) (f1 : Int) (f2 : Bool) (f3 : Int) (f4 : List (List UInt8 × Int × Int × List UInt8 × Unit)) (u : Int) (K : Bool × Unit → Prop) : Prop :=
  True ∧
 let r0 := decide ((0 : Int) ≤ u) && decide (u ≤ (2 : Int));
  bif r0 then K (f1 == u, ()) else K (false, ())
theorem wk_spec_CanWrite (env : EnvB prog G Θ Γ_spec_CanWrite) (h : ∀ (f0 : Int) (f1 : Int) (f2 : Bool) (f3 : Int) (f4 : List (List UInt8 × Int × Int × List UInt8 × Unit)) (u : Int), psInR sh_spec_CanWrite ((f0, f1, f2, f3, f4, ()), u, ()) → (True) → VC_spec_CanWrite f0 f1 f2 f3 f4 u fun r => r = ((Sp.canWrite (f0, f1, f2, f3, f4, ()) u, ()))) : ConOK prog G n_spec_CanWrite con_spec_CanWrite :=
  conR_ok env mixed (fn := f24) (c := codeOf f24) (by kernel_rfl) (by kernel_rfl) H_spec_CanWrite (by kernel_rfl) fun ⟨⟨f0, f1, f2, f3, f4, ⟨⟩⟩, u, ⟨⟩⟩ hin hp =>
  Eq.mpr ((by kernel_rfl : awp Θ Γ_spec_CanWrite H_spec_CanWrite (codeOf f24) (endsV Θ f24.results.toList rsh_spec_CanWrite fun r => r = (F_spec_CanWrite ((f0, f1, f2, f3, f4, ()), u, ())).2) (entry f24.ntmps (psVals sh_spec_CanWrite ((f0, f1, f2, f3, f4, ()), u, ()))) = VC_spec_CanWrite f0 f1 f2 f3 f4 u fun r => r = ((Sp.canWrite (f0, f1, f2, f3, f4, ()) u, ())))) (h f0 f1 f2 f3 f4 u hin hp)

def H_impl_CanWrite : Hints := Go.Fw.hints [] [] [] [] []
def VC_impl_CanWrite (f0 : Int) (f1 : Int) (f2 : Bool) (f3 : Int) (f4 : List (List UInt8 × Int × Int × List UInt8 × Unit)) (user : Int) (K : Bool × Unit → Prop) : Prop :=
  True ∧
 let r0 := decide ((0 : Int) ≤ user) && decide (user ≤ (2 : Int));
  bif r0 then K (f1 == user, ()) else K (false, ())
theorem wk_impl_CanWrite (env : EnvB prog G Θ Γ_impl_CanWrite) (h : ∀ (f0 : Int) (f1 : Int) (f2 : Bool) (f3 : Int) (f4 : List (List UInt8 × Int × Int × List UInt8 × Unit)) (user : Int), psInR sh_impl_CanWrite ((f0, f1, f2, f3, f4, ()), user, ()) → (True) → VC_impl_CanWrite f0 f1 f2 f3 f4 user fun r => r = ((Sp.canWrite (f0, f1, f2, f3, f4, ()) user, ()))) : ConOK prog G n_impl_CanWrite con_impl_CanWrite :=
  conR_ok env mixed (fn := f23) (c := codeOf f23) (by kernel_rfl) (by kernel_rfl) H_impl_CanWrite (by kernel_rfl) fun ⟨⟨f0, f1, f2, f3, f4, ⟨⟩⟩, user, ⟨⟩⟩ hin hp =>
  Eq.mpr ((by kernel_rfl : awp Θ Γ_impl_CanWrite H_impl_CanWrite (codeOf f23) (endsV Θ f23.results.toList rsh_impl_CanWrite fun r => r = (F_impl_CanWrite ((f0, f1, f2, f3, f4, ()), user, ())).2) (entry f23.ntmps (psVals sh_impl_CanWrite ((f0, f1, f2, f3, f4, ()), user, ()))) = VC_impl_CanWrite f0 f1 f2 f3 f4 user fun r => r = ((Sp.canWrite (f0, f1, f2, f3, f4, ()) user, ())))) (h f0 f1 f2 f3 f4 user hin hp)

def H_spec_l05Place : Hints := Go.Fw.hints [] [(2, ⟨[], ⟨[(1, .one (.int .i64)), (2, .kptr [.sl 26 (.cons .str (.cons (.int .i64) .nil)) false, .sl 39 (.cons (.int .i64) (.cons (.int .i64) (.cons .bool (.cons (.int .i64) (.cons (.sl 116 (.cons .str (.cons (.int .i64) (.cons (.int .i64) (.cons .str .nil))))) .nil))))) false, .int .i64] 0)], []⟩, ⟨[(5, .one (.int .i64))], []⟩⟩)] [] [] []
def VC_spec_l05Place (s0 : List (List UInt8 × Int × Unit)) (s1 : List (Int × Int × Bool × Int × List (List UInt8 × Int × Int × List UInt8 × Unit) × Unit)) (s2 : Int) (id : Int) (K : Int × Unit → Prop) : Prop :=
 let s0 := ((id, (s0, s1, s2, ()), ()), ());
  ∃ (I : (Int × Unit) × Unit → Prop),
  ∃ (μ : (Int × Unit) × Unit → Nat),
  I (((0 : Int), ()), ()) ∧
  ∀ (y1 : (Int × Unit) × Unit),
  I y1 →
  bif decide (y1.1.1 < (↑s1.length : Int)) then
  ((0 : Int) ≤ y1.1.1 ∧ y1.1.1 < (↑s1.length : Int)) ∧
  bif (s1.getD (Int.toNat y1.1.1) ((0 : Int), (0 : Int), false, (0 : Int), [], ())).1 == id then K (y1.1.1, ())
  else s0 = s0 ∧ I ((IntKind.i64.wrap (y1.1.1 + (1 : Int)), ()), ()) ∧ μ ((IntKind.i64.wrap (y1.1.1 + (1 : Int)), ()), ()) < μ y1
  else K ((-1 : Int), ())
theorem wk_spec_l05Place (env : EnvB prog G Θ Γ_spec_l05Place) (h : ∀ (s0 : List (List UInt8 × Int × Unit)) (s1 : List (Int × Int × Bool × Int × List (List UInt8 × Int × Int × List UInt8 × Unit) × Unit)) (s2 : Int) (id : Int), psInR sh_spec_l05Place ((s0, s1, s2, ()), id, ()) → (True) → VC_spec_l05Place s0 s1 s2 id fun r => r = ((Sp.place s1 id, ()))) : ConOK prog G n_spec_l05Place con_spec_l05Place :=
  conR_ok env mixed (fn := f80) (c := codeOf f80) (by kernel_rfl) (by kernel_rfl) H_spec_l05Place (by kernel_rfl) fun ⟨⟨s0, s1, s2, ⟨⟩⟩, id, ⟨⟩⟩ hin hp =>
  Eq.mpr ((by kernel_rfl : awp Θ Γ_spec_l05Place H_spec_l05Place (codeOf f80) (endsV Θ f80.results.toList rsh_spec_l05Place fun r => r = (F_spec_l05Place ((s0, s1, s2, ()), id, ())).2) (entry f80.ntmps (psVals sh_spec_l05Place ((s0, s1, s2, ()), id, ()))) = VC_spec_l05Place s0 s1 s2 id fun r => r = ((Sp.place s1 id, ())))) (h s0 s1 s2 id hin hp)

def H_impl_fileAt_1 : Hints := Go.Fw.hints [] [] [] [] []
def VC_impl_fileAt_1 (f0 : Int) (f1 : Int) (f2 : Bool) (f3 : Int) (f4 : List (List UInt8 × Int × Int × List UInt8 × Unit)) (p10 : Int) (K : Bool × Unit → Prop) : Prop :=
  K (f0 == p10, ())
theorem wk_impl_fileAt_1 (env : EnvB prog G Θ Γ_impl_fileAt_1) (h : ∀ (f0 : Int) (f1 : Int) (f2 : Bool) (f3 : Int) (f4 : List (List UInt8 × Int × Int × List UInt8 × Unit)) (p10 : Int), psInR sh_impl_fileAt_1 ((f0, f1, f2, f3, f4, ()), (p10, ()), ()) → (True) → VC_impl_fileAt_1 f0 f1 f2 f3 f4 p10 fun r => r = ((decide (f0 = p10), ()))) : ConOK prog G n_impl_fileAt_1 con_impl_fileAt_1 :=
  conR_ok env mixed (fn := f112) (c := codeOf f112) (by kernel_rfl) (by kernel_rfl) H_impl_fileAt_1 (by kernel_rfl) fun ⟨⟨f0, f1, f2, f3, f4, ⟨⟩⟩, ⟨p10, ⟨⟩⟩, ⟨⟩⟩ hin hp =>
  Eq.mpr ((by kernel_rfl : awp Θ Γ_impl_fileAt_1 H_impl_fileAt_1 (codeOf f112) (endsV Θ f112.results.toList rsh_impl_fileAt_1 fun r => r = (F_impl_fileAt_1 ((f0, f1, f2, f3, f4, ()), (p10, ()), ())).2) (entry f112.ntmps (psVals sh_impl_fileAt_1 ((f0, f1, f2, f3, f4, ()), (p10, ()), ()))) = VC_impl_fileAt_1 f0 f1 f2 f3 f4 p10 fun r => r = ((decide (f0 = p10), ())))) (h f0 f1 f2 f3 f4 p10 hin hp)

def H_slices_IndexFunc_impl_File__impl_fileAt_1 : Hints := Go.Fw.hints [] [(2, ⟨[], ⟨[(0, .one (.sl 39 (.cons (.int .i64) (.cons (.int .i64) (.cons .bool (.cons (.int .i64) (.cons (.sl 116 (.cons .str (.cons (.int .i64) (.cons (.int .i64) (.cons .str .nil))))) .nil))))) false)), (1, .fn 112 [[.int .i64]]), (7, .one (.int .i64))], []⟩, ⟨[(8, .one (.int .i64))], []⟩⟩)] [] [] []
def VC_slices_IndexFunc_impl_File__impl_fileAt_1 (s : List (Int × Int × Bool × Int × List (List UInt8 × Int × Int × List UInt8 × Unit) × Unit)) (f0_0 : Int) (K : Int × Unit → Prop) : Prop :=
 let s0 := ((s, ((f0_0, ()), ()), (↑s.length : Int), ()), ());
  ∃ (I : (Int × Unit) × Unit → Prop),
  ∃ (μ : (Int × Unit) × Unit → Nat),
  I (((0 : Int), ()), ()) ∧
  ∀ (y1 : (Int × Unit) × Unit),
  I y1 →
  bif decide (y1.1.1 < (↑s.length : Int)) then
  ((0 : Int) ≤ y1.1.1 ∧ y1.1.1 < (↑s.length : Int)) ∧
  True ∧
 let r2 := decide ((s.getD (Int.toNat y1.1.1) ((0 : Int), (0 : Int), false, (0 : Int), [], ())).1 = f0_0);
  bif r2 then K (y1.1.1, ())
  else s0 = s0 ∧ I ((IntKind.i64.wrap (y1.1.1 + (1 : Int)), ()), ()) ∧ μ ((IntKind.i64.wrap (y1.1.1 + (1 : Int)), ()), ()) < μ y1
  else K ((-1 : Int), ())
theorem wk_slices_IndexFunc_impl_File__impl_fileAt_1 (env : EnvB prog G Θ Γ_slices_IndexFunc_impl_File__impl_fileAt_1) (h : ∀ (s : List (Int × Int × Bool × Int × List (List UInt8 × Int × Int × List UInt8 × Unit) × Unit)) (f0_0 : Int), psInR sh_slices_IndexFunc_impl_File__impl_fileAt_1 (s, ((f0_0, ()), ()), ()) → (True) → VC_slices_IndexFunc_impl_File__impl_fileAt_1 s f0_0 fun r => r = ((Sp.place s f0_0, ()))) : ConOK prog G n_slices_IndexFunc_impl_File__impl_fileAt_1 con_slices_IndexFunc_impl_File__impl_fileAt_1 :=
  conR_ok env mixed (fn := f111) (c := codeOf f111) (by kernel_rfl) (by kernel_rfl) H_slices_IndexFunc_impl_File__impl_fileAt_1 (by kernel_rfl) fun ⟨s, ⟨⟨f0_0, ⟨⟩⟩, ⟨⟩⟩, ⟨⟩⟩ hin hp =>
  Eq.mpr ((by kernel_rfl : awp Θ Γ_slices_IndexFunc_impl_File__impl_fileAt_1 H_slices_IndexFunc_impl_File__impl_fileAt_1 (codeOf f111) (endsV Θ f111.results.toList rsh_slices_IndexFunc_impl_File__impl_fileAt_1 fun r => r = (F_slices_IndexFunc_impl_File__impl_fileAt_1 (s, ((f0_0, ()), ()), ())).2) (entry f111.ntmps (psVals sh_slices_IndexFunc_impl_File__impl_fileAt_1 (s, ((f0_0, ()), ()), ()))) = VC_slices_IndexFunc_impl_File__impl_fileAt_1 s f0_0 fun r => r = ((Sp.place s f0_0, ())))) (h s f0_0 hin hp)

def H_impl_fileAt : Hints := Go.Fw.hints [] [] [] [] []
def VC_impl_fileAt (s0 : List (List UInt8 × Int × Unit)) (s1 : List (Int × Int × Bool × Int × List (List UInt8 × Int × Int × List UInt8 × Unit) × Unit)) (s2 : Int) (id : Int) (K : Int × Unit → Prop) : Prop :=
  True ∧ K (Sp.place s1 id, ())
theorem wk_impl_fileAt (env : EnvB prog G Θ Γ_impl_fileAt) (h : ∀ (s0 : List (List UInt8 × Int × Unit)) (s1 : List (Int × Int × Bool × Int × List (List UInt8 × Int × Int × List UInt8 × Unit) × Unit)) (s2 : Int) (id : Int), psInR sh_impl_fileAt ((s0, s1, s2, ()), id, ()) → (True) → VC_impl_fileAt s0 s1 s2 id fun r => r = ((Sp.place s1 id, ()))) : ConOK prog G n_impl_fileAt con_impl_fileAt :=
  conR_ok env mixed (fn := f76) (c := codeOf f76) (by kernel_rfl) (by kernel_rfl) H_impl_fileAt (by kernel_rfl) fun ⟨⟨s0, s1, s2, ⟨⟩⟩, id, ⟨⟩⟩ hin hp =>
  Eq.mpr ((by kernel_rfl : awp Θ Γ_impl_fileAt H_impl_fileAt (codeOf f76) (endsV Θ f76.results.toList rsh_impl_fileAt fun r => r = (F_impl_fileAt ((s0, s1, s2, ()), id, ())).2) (entry f76.ntmps (psVals sh_impl_fileAt ((s0, s1, s2, ()), id, ()))) = VC_impl_fileAt s0 s1 s2 id fun r => r = ((Sp.place s1 id, ())))) (h s0 s1 s2 id hin hp)

def H_spec_FindFile : Hints := Go.Fw.hints [] [] [] [] []
def VC_spec_FindFile (s0 : List (List UInt8 × Int × Unit)) (s1 : List (Int × Int × Bool × Int × List (List UInt8 × Int × Int × List UInt8 × Unit) × Unit)) (s2 : Int) (id : Int) (K : (Int × Int × Bool × Int × List (List UInt8 × Int × Int × List UInt8 × Unit) × Unit) × Bool × Unit → Prop) : Prop :=
  True ∧
  bif decide (Sp.place s1 id < (0 : Int)) then K (((0 : Int), (0 : Int), false, (0 : Int), [], ()), false, ())
  else
  ((0 : Int) ≤ Sp.place s1 id ∧ Sp.place s1 id < (↑s1.length : Int)) ∧
  Sp.smallF
  ((s1.getD (Sp.place s1 id).toNat ((0 : Int), (0 : Int), false, (0 : Int), [], ())).1,
  (s1.getD (Sp.place s1 id).toNat ((0 : Int), (0 : Int), false, (0 : Int), [], ())).2.1,
  (s1.getD (Sp.place s1 id).toNat ((0 : Int), (0 : Int), false, (0 : Int), [], ())).2.2.1,
  (s1.getD (Sp.place s1 id).toNat ((0 : Int), (0 : Int), false, (0 : Int), [], ())).2.2.2.1,
  (s1.getD (Sp.place s1 id).toNat ((0 : Int), (0 : Int), false, (0 : Int), [], ())).2.2.2.2.1, ()) ∧
 let r0 := (s1.getD (Sp.place s1 id).toNat ((0 : Int), (0 : Int), false, (0 : Int), [], ())).1;
 let r1 := (s1.getD (Sp.place s1 id).toNat ((0 : Int), (0 : Int), false, (0 : Int), [], ())).2.1;
 let r2 := (s1.getD (Sp.place s1 id).toNat ((0 : Int), (0 : Int), false, (0 : Int), [], ())).2.2.1;
 let r3 := (s1.getD (Sp.place s1 id).toNat ((0 : Int), (0 : Int), false, (0 : Int), [], ())).2.2.2.1;
 let r4 := (s1.getD (Sp.place s1 id).toNat ((0 : Int), (0 : Int), false, (0 : Int), [], ())).2.2.2.2.1;
  K ((r0, r1, r2, r3, r4, ()), true, ())
theorem wk_spec_FindFile (env : EnvB prog G Θ Γ_spec_FindFile) (h : ∀ (s0 : List (List UInt8 × Int × Unit)) (s1 : List (Int × Int × Bool × Int × List (List UInt8 × Int × Int × List UInt8 × Unit) × Unit)) (s2 : Int) (id : Int), psInR sh_spec_FindFile ((s0, s1, s2, ()), id, ()) → (Sp.smallS (s0, s1, s2, ())) → VC_spec_FindFile s0 s1 s2 id fun r => r = (((Sp.findFile (s0, s1, s2, ()) id).1, (Sp.findFile (s0, s1, s2, ()) id).2, ()))) : ConOK prog G n_spec_FindFile con_spec_FindFile :=
  conR_ok env mixed (fn := f27) (c := codeOf f27) (by kernel_rfl) (by kernel_rfl) H_spec_FindFile (by kernel_rfl) fun ⟨⟨s0, s1, s2, ⟨⟩⟩, id, ⟨⟩⟩ hin hp =>
  Eq.mpr ((by kernel_rfl : awp Θ Γ_spec_FindFile H_spec_FindFile (codeOf f27) (endsV Θ f27.results.toList rsh_spec_FindFile fun r => r = (F_spec_FindFile ((s0, s1, s2, ()), id, ())).2) (entry f27.ntmps (psVals sh_spec_FindFile ((s0, s1, s2, ()), id, ()))) = VC_spec_FindFile s0 s1 s2 id fun r => r = (((Sp.findFile (s0, s1, s2, ()) id).1, (Sp.findFile (s0, s1, s2, ()) id).2, ())))) (h s0 s1 s2 id hin hp)

def H_impl_FindFile : Hints := Go.Fw.hints [] [] [] [] []
def VC_impl_FindFile (s0 : List (List UInt8 × Int × Unit)) (s1 : List (Int × Int × Bool × Int × List (List UInt8 × Int × Int × List UInt8 × Unit) × Unit)) (s2 : Int) (id : Int) (K : (Int × Int × Bool × Int × List (List UInt8 × Int × Int × List UInt8 × Unit) × Unit) × Bool × Unit → Prop) : Prop :=
  True ∧
  bif decide (Sp.place s1 id ≥ (0 : Int)) then
  ((0 : Int) ≤ Sp.place s1 id ∧ Sp.place s1 id < (↑s1.length : Int)) ∧
  Sp.smallF
  ((s1.getD (Sp.place s1 id).toNat ((0 : Int), (0 : Int), false, (0 : Int), [], ())).1,
  (s1.getD (Sp.place s1 id).toNat ((0 : Int), (0 : Int), false, (0 : Int), [], ())).2.1,
  (s1.getD (Sp.place s1 id).toNat ((0 : Int), (0 : Int), false, (0 : Int), [], ())).2.2.1,
  (s1.getD (Sp.place s1 id).toNat ((0 : Int), (0 : Int), false, (0 : Int), [], ())).2.2.2.1,
  (s1.getD (Sp.place s1 id).toNat ((0 : Int), (0 : Int), false, (0 : Int), [], ())).2.2.2.2.1, ()) ∧
 let r0 := (s1.getD (Sp.place s1 id).toNat ((0 : Int), (0 : Int), false, (0 : Int), [], ())).1;
 let r1 := (s1.getD (Sp.place s1 id).toNat ((0 : Int), (0 : Int), false, (0 : Int), [], ())).2.1;
 let r2 := (s1.getD (Sp.place s1 id).toNat ((0 : Int), (0 : Int), false, (0 : Int), [], ())).2.2.1;
 let r3 := (s1.getD (Sp.place s1 id).toNat ((0 : Int), (0 : Int), false, (0 : Int), [], ())).2.2.2.1;
 let r4 := (s1.getD (Sp.place s1 id).toNat ((0 : Int), (0 : Int), false, (0 : Int), [], ())).2.2.2.2.1;
  K ((r0, r1, r2, r3, r4, ()), true, ())
  else K (((0 : Int), (0 : Int), false, (0 : Int), [], ()), false, ())
theorem wk_impl_FindFile (env : EnvB prog G Θ Γ_impl_FindFile) (h : ∀ (s0 : List (List UInt8 × Int × Unit)) (s1 : List (Int × Int × Bool × Int × List (List UInt8 × Int × Int × List UInt8 × Unit) × Unit)) (s2 : Int) (id : Int), psInR sh_impl_FindFile ((s0, s1, s2, ()), id, ()) → (Sp.smallS (s0, s1, s2, ())) → VC_impl_FindFile s0 s1 s2 id fun r => r = (((Sp.findFile (s0, s1, s2, ()) id).1, (Sp.findFile (s0, s1, s2, ()) id).2, ()))) : ConOK prog G n_impl_FindFile con_impl_FindFile :=
  conR_ok env mixed (fn := f41) (c := codeOf f41) (by kernel_rfl) (by kernel_rfl) H_impl_FindFile (by kernel_rfl) fun ⟨⟨s0, s1, s2, ⟨⟩⟩, id, ⟨⟩⟩ hin hp =>
  Eq.mpr ((by kernel_rfl : awp Θ Γ_impl_FindFile H_impl_FindFile (codeOf f41) (endsV Θ f41.results.toList rsh_impl_FindFile fun r => r = (F_impl_FindFile ((s0, s1, s2, ()), id, ())).2) (entry f41.ntmps (psVals sh_impl_FindFile ((s0, s1, s2, ()), id, ()))) = VC_impl_FindFile s0 s1 s2 id fun r => r = (((Sp.findFile (s0, s1, s2, ()) id).1, (Sp.findFile (s0, s1, s2, ()) id).2, ())))) (h s0 s1 s2 id hin hp)

def H_slices_Clone_impl_Field : Hints := Go.Fw.hints [5] [] [] [] []
def VC_slices_Clone_impl_Field (s : List (List UInt8 × Int × Unit)) (K : List (List UInt8 × Int × Unit) × Unit → Prop) : Prop :=
  ∀ (g0 : Bool), (g0 = true → s.length = (0 : Nat)) → bif g0 then K ([], ()) else (0 : Nat) + s.length ≤ big ∧ K (s, ())
theorem wk_slices_Clone_impl_Field (env : EnvB prog G Θ Γ_slices_Clone_impl_Field) (h : ∀ (s : List (List UInt8 × Int × Unit)), psInR sh_slices_Clone_impl_Field (s, ()) → (s.length ≤ (1000 : Nat)) → VC_slices_Clone_impl_Field s fun r => r = ((s, ()))) : ConOK prog G n_slices_Clone_impl_Field con_slices_Clone_impl_Field :=
  conR_ok env mixed (fn := f61) (c := codeOf f61) (by kernel_rfl) (by kernel_rfl) H_slices_Clone_impl_Field (by kernel_rfl) fun ⟨s, ⟨⟩⟩ hin hp =>
  Eq.mpr ((by kernel_rfl : awp Θ Γ_slices_Clone_impl_Field H_slices_Clone_impl_Field (codeOf f61) (endsV Θ f61.results.toList rsh_slices_Clone_impl_Field fun r => r = (F_slices_Clone_impl_Field (s, ())).2) (entry f61.ntmps (psVals sh_slices_Clone_impl_Field (s, ()))) = VC_slices_Clone_impl_Field s fun r => r = ((s, ())))) (h s hin hp)

def H_slices_Clone_impl_Attr : Hints := Go.Fw.hints [5] [] [] [] []
def VC_slices_Clone_impl_Attr (s : List (List UInt8 × Int × Int × List UInt8 × Unit)) (K : List (List UInt8 × Int × Int × List UInt8 × Unit) × Unit → Prop) : Prop :=
  ∀ (g0 : Bool), (g0 = true → s.length = (0 : Nat)) → bif g0 then K ([], ()) else (0 : Nat) + s.length ≤ big ∧ K (s, ())
theorem wk_slices_Clone_impl_Attr (env : EnvB prog G Θ Γ_slices_Clone_impl_Attr) (h : ∀ (s : List (List UInt8 × Int × Int × List UInt8 × Unit)), psInR sh_slices_Clone_impl_Attr (s, ()) → (s.length ≤ (1000 : Nat)) → VC_slices_Clone_impl_Attr s fun r => r = ((s, ()))) : ConOK prog G n_slices_Clone_impl_Attr con_slices_Clone_impl_Attr :=
  conR_ok env mixed (fn := f110) (c := codeOf f110) (by kernel_rfl) (by kernel_rfl) H_slices_Clone_impl_Attr (by kernel_rfl) fun ⟨s, ⟨⟩⟩ hin hp =>
  Eq.mpr ((by kernel_rfl : awp Θ Γ_slices_Clone_impl_Attr H_slices_Clone_impl_Attr (codeOf f110) (endsV Θ f110.results.toList rsh_slices_Clone_impl_Attr fun r => r = (F_slices_Clone_impl_Attr (s, ())).2) (entry f110.ntmps (psVals sh_slices_Clone_impl_Attr (s, ()))) = VC_slices_Clone_impl_Attr s fun r => r = ((s, ())))) (h s hin hp)

def H_spec_FilesOwnedBy : Hints := Go.Fw.hints [7] [(3, ⟨[], ⟨[(1, .one (.int .i64)), (2, .kptr [.sl 26 (.cons .str (.cons (.int .i64) .nil)) false, .sl 39 (.cons (.int .i64) (.cons (.int .i64) (.cons .bool (.cons (.int .i64) (.cons (.sl 116 (.cons .str (.cons (.int .i64) (.cons (.int .i64) (.cons .str .nil))))) .nil))))) false, .int .i64] 0)], []⟩, ⟨[(5, .one (.ref 449)), (6, .one (.int .i64))], [(449, .arr 3 (.cons (.int .i64) .nil) true)]⟩⟩)] [] [] []
def VC_spec_FilesOwnedBy (s0 : List (List UInt8 × Int × Unit)) (s1 : List (Int × Int × Bool × Int × List (List UInt8 × Int × Int × List UInt8 × Unit) × Unit)) (s2 : Int) (u : Int) (K : List (Int × Unit) × Unit → Prop) : Prop :=
 let s0 := ((u, (s0, s1, s2, ()), ()), ());
  ∃ (I : (Unit × Int × Unit) × List (Int × Unit) × Unit → Prop),
  ∃ (μ : (Unit × Int × Unit) × List (Int × Unit) × Unit → Nat),
  I (((), (0 : Int), ()), [], ()) ∧
  ∀ (y1 : (Unit × Int × Unit) × List (Int × Unit) × Unit),
  I y1 →
  bif decide (y1.1.2.1 < (↑s1.length : Int)) then
  ((0 : Int) ≤ y1.1.2.1 ∧ y1.1.2.1 < (↑s1.length : Int)) ∧
  bif (s1.getD (Int.toNat y1.1.2.1) ((0 : Int), (0 : Int), false, (0 : Int), [], ())).2.1 == u then
  ((0 : Int) ≤ y1.1.2.1 ∧ y1.1.2.1 < (↑s1.length : Int)) ∧
  List.length y1.2.1 + [((s1.getD (Int.toNat y1.1.2.1) ((0 : Int), (0 : Int), false, (0 : Int), [], ())).1, ())].length ≤ big ∧
  s0 = s0 ∧
  I
  (((), IntKind.i64.wrap (y1.1.2.1 + (1 : Int)), ()),
  y1.2.1 ++ [((s1.getD (Int.toNat y1.1.2.1) ((0 : Int), (0 : Int), false, (0 : Int), [], ())).1, ())], ()) ∧
  μ
  (((), IntKind.i64.wrap (y1.1.2.1 + (1 : Int)), ()),
  y1.2.1 ++ [((s1.getD (Int.toNat y1.1.2.1) ((0 : Int), (0 : Int), false, (0 : Int), [], ())).1, ())], ()) <
  μ y1
  else
  s0 = s0 ∧
  I (((), IntKind.i64.wrap (y1.1.2.1 + (1 : Int)), ()), y1.2.1, ()) ∧ μ (((), IntKind.i64.wrap (y1.1.2.1 + (1 : Int)), ()), y1.2.1, ()) < μ y1
  else K (y1.2.1, ())
theorem wk_spec_FilesOwnedBy (env : EnvB prog G Θ Γ_spec_FilesOwnedBy) (h : ∀ (s0 : List (List UInt8 × Int × Unit)) (s1 : List (Int × Int × Bool × Int × List (List UInt8 × Int × Int × List UInt8 × Unit) × Unit)) (s2 : Int) (u : Int), psInR sh_spec_FilesOwnedBy ((s0, s1, s2, ()), u, ()) → (s1.length ≤ (1000 : Nat)) → VC_spec_FilesOwnedBy s0 s1 s2 u fun r => r = ((Sp.ownedBy s1 u, ()))) : ConOK prog G n_spec_FilesOwnedBy con_spec_FilesOwnedBy :=
  conR_ok env mixed (fn := f31) (c := codeOf f31) (by kernel_rfl) (by kernel_rfl) H_spec_FilesOwnedBy (by kernel_rfl) fun ⟨⟨s0, s1, s2, ⟨⟩⟩, u, ⟨⟩⟩ hin hp =>
  Eq.mpr ((by kernel_rfl : awp Θ Γ_spec_FilesOwnedBy H_spec_FilesOwnedBy (codeOf f31) (endsV Θ f31.results.toList rsh_spec_FilesOwnedBy fun r => r = (F_spec_FilesOwnedBy ((s0, s1, s2, ()), u, ())).2) (entry f31.ntmps (psVals sh_spec_FilesOwnedBy ((s0, s1, s2, ()), u, ()))) = VC_spec_FilesOwnedBy s0 s1 s2 u fun r => r = ((Sp.ownedBy s1 u, ())))) (h s0 s1 s2 u hin hp)

def H_impl_FilesOwnedBy : Hints := Go.Fw.hints [8] [(3, ⟨[], ⟨[(1, .one (.int .i64)), (10, .one (.sl 39 (.cons (.int .i64) (.cons (.int .i64) (.cons .bool (.cons (.int .i64) (.cons (.sl 116 (.cons .str (.cons (.int .i64) (.cons (.int .i64) (.cons .str .nil))))) .nil))))) false)), (11, .one (.int .i64))], []⟩, ⟨[(5, .one (.ref 513)), (12, .one (.int .i64))], [(513, .arr 3 (.cons (.int .i64) .nil) true)]⟩⟩)] [] [] []
def VC_impl_FilesOwnedBy (s0 : List (List UInt8 × Int × Unit)) (s1 : List (Int × Int × Bool × Int × List (List UInt8 × Int × Int × List UInt8 × Unit) × Unit)) (s2 : Int) (user : Int) (K : List (Int × Unit) × Unit → Prop) : Prop :=
 let s0 := ((user, s1, (↑s1.length : Int), ()), ());
  ∃ (I : (Unit × Int × Unit) × List (Int × Unit) × Unit → Prop),
  ∃ (μ : (Unit × Int × Unit) × List (Int × Unit) × Unit → Nat),
  I (((), (0 : Int), ()), [], ()) ∧
  ∀ (y1 : (Unit × Int × Unit) × List (Int × Unit) × Unit),
  I y1 →
  bif decide (y1.1.2.1 < (↑s1.length : Int)) then
  ((0 : Int) ≤ y1.1.2.1 ∧ y1.1.2.1 < (↑s1.length : Int)) ∧
  bif (s1.getD (Int.toNat y1.1.2.1) ((0 : Int), (0 : Int), false, (0 : Int), [], ())).2.1 == user then
  List.length y1.2.1 + [((s1.getD (Int.toNat y1.1.2.1) ((0 : Int), (0 : Int), false, (0 : Int), [], ())).1, ())].length ≤ big ∧
  s0 = s0 ∧
  I
  (((), IntKind.i64.wrap (y1.1.2.1 + (1 : Int)), ()),
  y1.2.1 ++ [((s1.getD (Int.toNat y1.1.2.1) ((0 : Int), (0 : Int), false, (0 : Int), [], ())).1, ())], ()) ∧
  μ
  (((), IntKind.i64.wrap (y1.1.2.1 + (1 : Int)), ()),
  y1.2.1 ++ [((s1.getD (Int.toNat y1.1.2.1) ((0 : Int), (0 : Int), false, (0 : Int), [], ())).1, ())], ()) <
  μ y1
  else
  s0 = s0 ∧
  I (((), IntKind.i64.wrap (y1.1.2.1 + (1 : Int)), ()), y1.2.1, ()) ∧ μ (((), IntKind.i64.wrap (y1.1.2.1 + (1 : Int)), ()), y1.2.1, ()) < μ y1
  else K (y1.2.1, ())
theorem wk_impl_FilesOwnedBy (env : EnvB prog G Θ Γ_impl_FilesOwnedBy) (h : ∀ (s0 : List (List UInt8 × Int × Unit)) (s1 : List (Int × Int × Bool × Int × List (List UInt8 × Int × Int × List UInt8 × Unit) × Unit)) (s2 : Int) (user : Int), psInR sh_impl_FilesOwnedBy ((s0, s1, s2, ()), user, ()) → (s1.length ≤ (1000 : Nat)) → VC_impl_FilesOwnedBy s0 s1 s2 user fun r => r = ((Sp.ownedBy s1 user, ()))) : ConOK prog G n_impl_FilesOwnedBy con_impl_FilesOwnedBy :=
  conR_ok env mixed (fn := f30) (c := codeOf f30) (by kernel_rfl) (by kernel_rfl) H_impl_FilesOwnedBy (by kernel_rfl) fun ⟨⟨s0, s1, s2, ⟨⟩⟩, user, ⟨⟩⟩ hin hp =>
  Eq.mpr ((by kernel_rfl : awp Θ Γ_impl_FilesOwnedBy H_impl_FilesOwnedBy (codeOf f30) (endsV Θ f30.results.toList rsh_impl_FilesOwnedBy fun r => r = (F_impl_FilesOwnedBy ((s0, s1, s2, ()), user, ())).2) (entry f30.ntmps (psVals sh_impl_FilesOwnedBy ((s0, s1, s2, ()), user, ()))) = VC_impl_FilesOwnedBy s0 s1 s2 user fun r => r = ((Sp.ownedBy s1 user, ())))) (h s0 s1 s2 user hin hp)

def H_spec_EqualFiles : Hints := Go.Fw.hints [] [(4, ⟨[], ⟨[(2, .kptr [.int .i64, .int .i64, .bool, .int .i64, .sl 116 (.cons .str (.cons (.int .i64) (.cons (.int .i64) (.cons .str .nil)))) false] 0), (3, .kptr [.int .i64, .int .i64, .bool, .int .i64, .sl 116 (.cons .str (.cons (.int .i64) (.cons (.int .i64) (.cons .str .nil)))) false] 0)], []⟩, ⟨[(5, .one (.int .i64))], []⟩⟩)] [(3, ⟨[], ⟨[(2, .kptr [.int .i64, .int .i64, .bool, .int .i64, .sl 116 (.cons .str (.cons (.int .i64) (.cons (.int .i64) (.cons .str .nil)))) false] 0), (3, .kptr [.int .i64, .int .i64, .bool, .int .i64, .sl 116 (.cons .str (.cons (.int .i64) (.cons (.int .i64) (.cons .str .nil)))) false] 0)], []⟩, ⟨[], []⟩⟩)] [] []
def VC_spec_EqualFiles (a0 : Int) (a1 : Int) (a2 : Bool) (a3 : Int) (a4 : List (List UInt8 × Int × Int × List UInt8 × Unit)) (b0 : Int) (b1 : Int) (b2 : Bool) (b3 : Int) (b4 : List (List UInt8 × Int × Int × List UInt8 × Unit)) (K : Bool × Unit → Prop) : Prop :=
 let s0 := (((a0, a1, a2, a3, a4, ()), (b0, b1, b2, b3, b4, ()), ()), ());
  ∃ (J : Unit × Unit → Prop),
  (bif a0 != b0 then K (false, ())
  else
  bif a1 != b1 then K (false, ())
  else bif !a2 == b2 then K (false, ()) else bif a3 != b3 then K (false, ()) else bif (↑a4.length : Int) != (↑b4.length : Int) then K (false, ()) else s0 = s0 ∧ J ((), ())) ∧
  ∀ (y1 : Unit × Unit),
  J y1 →
 let s2 := (((a0, a1, a2, a3, a4, ()), (b0, b1, b2, b3, b4, ()), ()), ());
  ∃ (I : (Int × Unit) × Unit → Prop),
  ∃ (μ : (Int × Unit) × Unit → Nat),
  I (((0 : Int), ()), ()) ∧
  ∀ (y3 : (Int × Unit) × Unit),
  I y3 →
  bif decide (y3.1.1 < (↑a4.length : Int)) then
  ((0 : Int) ≤ y3.1.1 ∧ y3.1.1 < (↑a4.length : Int)) ∧
  ((0 : Int) ≤ y3.1.1 ∧ y3.1.1 < (↑b4.length : Int)) ∧
  bif
  !((a4.getD (Int.toNat y3.1.1) ([], (0 : Int), (0 : Int), [], ())).1 == (b4.getD (Int.toNat y3.1.1) ([], (0 : Int), (0 : Int), [], ())).1 &&
  ((a4.getD (Int.toNat y3.1.1) ([], (0 : Int), (0 : Int), [], ())).2.1 ==
  (b4.getD (Int.toNat y3.1.1) ([], (0 : Int), (0 : Int), [], ())).2.1 &&
  ((a4.getD (Int.toNat y3.1.1) ([], (0 : Int), (0 : Int), [], ())).2.2.1 ==
  (b4.getD (Int.toNat y3.1.1) ([], (0 : Int), (0 : Int), [], ())).2.2.1 &&
  ((a4.getD (Int.toNat y3.1.1) ([], (0 : Int), (0 : Int), [], ())).2.2.2.1 ==
  (b4.getD (Int.toNat y3.1.1) ([], (0 : Int), (0 : Int), [], ())).2.2.2.1 &&
  true)))) then
  K (false, ())
  else s2 = s2 ∧ I ((IntKind.i64.wrap (y3.1.1 + (1 : Int)), ()), ()) ∧ μ ((IntKind.i64.wrap (y3.1.1 + (1 : Int)), ()), ()) < μ y3
  else K (true, ())
theorem wk_spec_EqualFiles (env : EnvB prog G Θ Γ_spec_EqualFiles) (h : ∀ (a0 : Int) (a1 : Int) (a2 : Bool) (a3 : Int) (a4 : List (List UInt8 × Int × Int × List UInt8 × Unit)) (b0 : Int) (b1 : Int) (b2 : Bool) (b3 : Int) (b4 : List (List UInt8 × Int × Int × List UInt8 × Unit)), psInR sh_spec_EqualFiles ((a0, a1, a2, a3, a4, ()), (b0, b1, b2, b3, b4, ()), ()) → (True) → VC_spec_EqualFiles a0 a1 a2 a3 a4 b0 b1 b2 b3 b4 fun r => r = ((decide ((a0, a1, a2, a3, a4, ()) = (b0, b1, b2, b3, b4, ())), ()))) : ConOK prog G n_spec_EqualFiles con_spec_EqualFiles :=
  conR_ok env mixed (fn := f120) (c := codeOf f120) (by kernel_rfl) (by kernel_rfl) H_spec_EqualFiles (by kernel_rfl) fun ⟨⟨a0, a1, a2, a3, a4, ⟨⟩⟩, ⟨b0, b1, b2, b3, b4, ⟨⟩⟩, ⟨⟩⟩ hin hp =>
  Eq.mpr ((by kernel_rfl : awp Θ Γ_spec_EqualFiles H_spec_EqualFiles (codeOf f120) (endsV Θ f120.results.toList rsh_spec_EqualFiles fun r => r = (F_spec_EqualFiles ((a0, a1, a2, a3, a4, ()), (b0, b1, b2, b3, b4, ()), ())).2) (entry f120.ntmps (psVals sh_spec_EqualFiles ((a0, a1, a2, a3, a4, ()), (b0, b1, b2, b3, b4, ()), ()))) = VC_spec_EqualFiles a0 a1 a2 a3 a4 b0 b1 b2 b3 b4 fun r => r = ((decide ((a0, a1, a2, a3, a4, ()) = (b0, b1, b2, b3, b4, ())), ())))) (h a0 a1 a2 a3 a4 b0 b1 b2 b3 b4 hin hp)

def H_impl_EqualFiles : Hints := Go.Fw.hints [] [] [] [] []
def VC_impl_EqualFiles (a0 : Int) (a1 : Int) (a2 : Bool) (a3 : Int) (a4 : List (List UInt8 × Int × Int × List UInt8 × Unit)) (b0 : Int) (b1 : Int) (b2 : Bool) (b3 : Int) (b4 : List (List UInt8 × Int × Int × List UInt8 × Unit)) (K : Bool × Unit → Prop) : Prop :=
  bif a0 == b0 then
  bif a1 == b1 then
  bif a2 == b2 then
  bif a3 == b3 then
  True ∧
 let r0 := decide (a4 = b4);
  K (r0, ())
  else K (false, ())
  else K (false, ())
  else K (false, ())
  else K (false, ())
theorem wk_impl_EqualFiles (env : EnvB prog G Θ Γ_impl_EqualFiles) (h : ∀ (a0 : Int) (a1 : Int) (a2 : Bool) (a3 : Int) (a4 : List (List UInt8 × Int × Int × List UInt8 × Unit)) (b0 : Int) (b1 : Int) (b2 : Bool) (b3 : Int) (b4 : List (List UInt8 × Int × Int × List UInt8 × Unit)), psInR sh_impl_EqualFiles ((a0, a1, a2, a3, a4, ()), (b0, b1, b2, b3, b4, ()), ()) → (True) → VC_impl_EqualFiles a0 a1 a2 a3 a4 b0 b1 b2 b3 b4 fun r => r = ((decide ((a0, a1, a2, a3, a4, ()) = (b0, b1, b2, b3, b4, ())), ()))) : ConOK prog G n_impl_EqualFiles con_impl_EqualFiles :=
  conR_ok env mixed (fn := f95) (c := codeOf f95) (by kernel_rfl) (by kernel_rfl) H_impl_EqualFiles (by kernel_rfl) fun ⟨⟨a0, a1, a2, a3, a4, ⟨⟩⟩, ⟨b0, b1, b2, b3, b4, ⟨⟩⟩, ⟨⟩⟩ hin hp =>
  Eq.mpr ((by kernel_rfl : awp Θ Γ_impl_EqualFiles H_impl_EqualFiles (codeOf f95) (endsV Θ f95.results.toList rsh_impl_EqualFiles fun r => r = (F_impl_EqualFiles ((a0, a1, a2, a3, a4, ()), (b0, b1, b2, b3, b4, ()), ())).2) (entry f95.ntmps (psVals sh_impl_EqualFiles ((a0, a1, a2, a3, a4, ()), (b0, b1, b2, b3, b4, ()), ()))) = VC_impl_EqualFiles a0 a1 a2 a3 a4 b0 b1 b2 b3 b4 fun r => r = ((decide ((a0, a1, a2, a3, a4, ()) = (b0, b1, b2, b3, b4, ())), ())))) (h a0 a1 a2 a3 a4 b0 b1 b2 b3 b4 hin hp)

def H_spec_l05Fields : Hints := Go.Fw.hints [] [(4, ⟨[], ⟨[(0, .one (.sl 26 (.cons .str (.cons (.int .i64) .nil)) false)), (1, .one (.sl 26 (.cons .str (.cons (.int .i64) .nil)) false))], []⟩, ⟨[(5, .one (.int .i64))], []⟩⟩)] [] [] []
def VC_spec_l05Fields (a : List (List UInt8 × Int × Unit)) (b : List (List UInt8 × Int × Unit)) (K : Bool × Unit → Prop) : Prop :=
  bif (↑a.length : Int) != (↑b.length : Int) then K (false, ())
  else
 let s0 := ((a, b, ()), ());
  ∃ (I : (Int × Unit) × Unit → Prop),
  ∃ (μ : (Int × Unit) × Unit → Nat),
  I (((0 : Int), ()), ()) ∧
  ∀ (y1 : (Int × Unit) × Unit),
  I y1 →
  bif decide (y1.1.1 < (↑a.length : Int)) then
  ((0 : Int) ≤ y1.1.1 ∧ y1.1.1 < (↑a.length : Int)) ∧
  ((0 : Int) ≤ y1.1.1 ∧ y1.1.1 < (↑b.length : Int)) ∧
  bif
  !((a.getD (Int.toNat y1.1.1) ([], (0 : Int), ())).1 == (b.getD (Int.toNat y1.1.1) ([], (0 : Int), ())).1 &&
  ((a.getD (Int.toNat y1.1.1) ([], (0 : Int), ())).2.1 == (b.getD (Int.toNat y1.1.1) ([], (0 : Int), ())).2.1 && true)) then
  K (false, ())
  else s0 = s0 ∧ I ((IntKind.i64.wrap (y1.1.1 + (1 : Int)), ()), ()) ∧ μ ((IntKind.i64.wrap (y1.1.1 + (1 : Int)), ()), ()) < μ y1
  else K (true, ())
theorem wk_spec_l05Fields (env : EnvB prog G Θ Γ_spec_l05Fields) (h : ∀ (a : List (List UInt8 × Int × Unit)) (b : List (List UInt8 × Int × Unit)), psInR sh_spec_l05Fields (a, b, ()) → (True) → VC_spec_l05Fields a b fun r => r = ((decide (a = b), ()))) : ConOK prog G n_spec_l05Fields con_spec_l05Fields :=
  conR_ok env mixed (fn := f119) (c := codeOf f119) (by kernel_rfl) (by kernel_rfl) H_spec_l05Fields (by kernel_rfl) fun ⟨a, b, ⟨⟩⟩ hin hp =>
  Eq.mpr ((by kernel_rfl : awp Θ Γ_spec_l05Fields H_spec_l05Fields (codeOf f119) (endsV Θ f119.results.toList rsh_spec_l05Fields fun r => r = (F_spec_l05Fields (a, b, ())).2) (entry f119.ntmps (psVals sh_spec_l05Fields (a, b, ()))) = VC_spec_l05Fields a b fun r => r = ((decide (a = b), ())))) (h a b hin hp)

def H_slices_Equal_impl_Attr : Hints := Go.Fw.hints [] [(4, ⟨[], ⟨[(0, .one (.sl 116 (.cons .str (.cons (.int .i64) (.cons (.int .i64) (.cons .str .nil)))) false)), (1, .one (.sl 116 (.cons .str (.cons (.int .i64) (.cons (.int .i64) (.cons .str .nil)))) false)), (12, .one (.int .i64))], []⟩, ⟨[(13, .one (.int .i64))], []⟩⟩)] [] [] []
def VC_slices_Equal_impl_Attr (s1 : List (List UInt8 × Int × Int × List UInt8 × Unit)) (s2 : List (List UInt8 × Int × Int × List UInt8 × Unit)) (K : Bool × Unit → Prop) : Prop :=
  bif (↑s1.length : Int) != (↑s2.length : Int) then K (false, ())
  else
 let s0 := ((s1, s2, (↑s1.length : Int), ()), ());
  ∃ (I : (Int × Unit) × Unit → Prop),
  ∃ (μ : (Int × Unit) × Unit → Nat),
  I (((0 : Int), ()), ()) ∧
  ∀ (y1 : (Int × Unit) × Unit),
  I y1 →
  bif decide (y1.1.1 < (↑s1.length : Int)) then
  ((0 : Int) ≤ y1.1.1 ∧ y1.1.1 < (↑s1.length : Int)) ∧
  ((0 : Int) ≤ y1.1.1 ∧ y1.1.1 < (↑s2.length : Int)) ∧
  bif
  !((s1.getD (Int.toNat y1.1.1) ([], (0 : Int), (0 : Int), [], ())).1 == (s2.getD (Int.toNat y1.1.1) ([], (0 : Int), (0 : Int), [], ())).1 &&
  ((s1.getD (Int.toNat y1.1.1) ([], (0 : Int), (0 : Int), [], ())).2.1 ==
  (s2.getD (Int.toNat y1.1.1) ([], (0 : Int), (0 : Int), [], ())).2.1 &&
  ((s1.getD (Int.toNat y1.1.1) ([], (0 : Int), (0 : Int), [], ())).2.2.1 ==
  (s2.getD (Int.toNat y1.1.1) ([], (0 : Int), (0 : Int), [], ())).2.2.1 &&
  ((s1.getD (Int.toNat y1.1.1) ([], (0 : Int), (0 : Int), [], ())).2.2.2.1 ==
  (s2.getD (Int.toNat y1.1.1) ([], (0 : Int), (0 : Int), [], ())).2.2.2.1 &&
  true)))) then
  K (false, ())
  else s0 = s0 ∧ I ((IntKind.i64.wrap (y1.1.1 + (1 : Int)), ()), ()) ∧ μ ((IntKind.i64.wrap (y1.1.1 + (1 : Int)), ()), ()) < μ y1
  else K (true, ())
theorem wk_slices_Equal_impl_Attr (env : EnvB prog G Θ Γ_slices_Equal_impl_Attr) (h : ∀ (s1 : List (List UInt8 × Int × Int × List UInt8 × Unit)) (s2 : List (List UInt8 × Int × Int × List UInt8 × Unit)), psInR sh_slices_Equal_impl_Attr (s1, s2, ()) → (True) → VC_slices_Equal_impl_Attr s1 s2 fun r => r = ((decide (s1 = s2), ()))) : ConOK prog G n_slices_Equal_impl_Attr con_slices_Equal_impl_Attr :=
  conR_ok env mixed (fn := f118) (c := codeOf f118) (by kernel_rfl) (by kernel_rfl) H_slices_Equal_impl_Attr (by kernel_rfl) fun ⟨s1, s2, ⟨⟩⟩ hin hp =>
  Eq.mpr ((by kernel_rfl : awp Θ Γ_slices_Equal_impl_Attr H_slices_Equal_impl_Attr (codeOf f118) (endsV Θ f118.results.toList rsh_slices_Equal_impl_Attr fun r => r = (F_slices_Equal_impl_Attr (s1, s2, ())).2) (entry f118.ntmps (psVals sh_slices_Equal_impl_Attr (s1, s2, ()))) = VC_slices_Equal_impl_Attr s1 s2 fun r => r = ((decide (s1 = s2), ())))) (h s1 s2 hin hp)

def H_slices_Equal_impl_Field : Hints := Go.Fw.hints [] [(4, ⟨[], ⟨[(0, .one (.sl 26 (.cons .str (.cons (.int .i64) .nil)) false)), (1, .one (.sl 26 (.cons .str (.cons (.int .i64) .nil)) false)), (12, .one (.int .i64))], []⟩, ⟨[(13, .one (.int .i64))], []⟩⟩)] [] [] []
def VC_slices_Equal_impl_Field (s1 : List (List UInt8 × Int × Unit)) (s2 : List (List UInt8 × Int × Unit)) (K : Bool × Unit → Prop) : Prop :=
  bif (↑s1.length : Int) != (↑s2.length : Int) then K (false, ())
  else
 let s0 := ((s1, s2, (↑s1.length : Int), ()), ());
  ∃ (I : (Int × Unit) × Unit → Prop),
  ∃ (μ : (Int × Unit) × Unit → Nat),
  I (((0 : Int), ()), ()) ∧
  ∀ (y1 : (Int × Unit) × Unit),
  I y1 →
  bif decide (y1.1.1 < (↑s1.length : Int)) then
  ((0 : Int) ≤ y1.1.1 ∧ y1.1.1 < (↑s1.length : Int)) ∧
  ((0 : Int) ≤ y1.1.1 ∧ y1.1.1 < (↑s2.length : Int)) ∧
  bif
  !((s1.getD (Int.toNat y1.1.1) ([], (0 : Int), ())).1 == (s2.getD (Int.toNat y1.1.1) ([], (0 : Int), ())).1 &&
  ((s1.getD (Int.toNat y1.1.1) ([], (0 : Int), ())).2.1 == (s2.getD (Int.toNat y1.1.1) ([], (0 : Int), ())).2.1 && true)) then
  K (false, ())
  else s0 = s0 ∧ I ((IntKind.i64.wrap (y1.1.1 + (1 : Int)), ()), ()) ∧ μ ((IntKind.i64.wrap (y1.1.1 + (1 : Int)), ()), ()) < μ y1
  else K (true, ())
theorem wk_slices_Equal_impl_Field (env : EnvB prog G Θ Γ_slices_Equal_impl_Field) (h : ∀ (s1 : List (List UInt8 × Int × Unit)) (s2 : List (List UInt8 × Int × Unit)), psInR sh_slices_Equal_impl_Field (s1, s2, ()) → (True) → VC_slices_Equal_impl_Field s1 s2 fun r => r = ((decide (s1 = s2), ()))) : ConOK prog G n_slices_Equal_impl_Field con_slices_Equal_impl_Field :=
  conR_ok env mixed (fn := f93) (c := codeOf f93) (by kernel_rfl) (by kernel_rfl) H_slices_Equal_impl_Field (by kernel_rfl) fun ⟨s1, s2, ⟨⟩⟩ hin hp =>
  Eq.mpr ((by kernel_rfl : awp Θ Γ_slices_Equal_impl_Field H_slices_Equal_impl_Field (codeOf f93) (endsV Θ f93.results.toList rsh_slices_Equal_impl_Field fun r => r = (F_slices_Equal_impl_Field (s1, s2, ())).2) (entry f93.ntmps (psVals sh_slices_Equal_impl_Field (s1, s2, ()))) = VC_slices_Equal_impl_Field s1 s2 fun r => r = ((decide (s1 = s2), ())))) (h s1 s2 hin hp)

def H_slices_EqualFunc_impl_File_impl_File__impl_EqualFiles : Hints := Go.Fw.hints [] [(4, ⟨[], ⟨[(1, .one (.sl 39 (.cons (.int .i64) (.cons (.int .i64) (.cons .bool (.cons (.int .i64) (.cons (.sl 116 (.cons .str (.cons (.int .i64) (.cons (.int .i64) (.cons .str .nil))))) .nil))))) false)), (2, .fn 95 []), (15, .one (.sl 39 (.cons (.int .i64) (.cons (.int .i64) (.cons .bool (.cons (.int .i64) (.cons (.sl 116 (.cons .str (.cons (.int .i64) (.cons (.int .i64) (.cons .str .nil))))) .nil))))) false)), (16, .one (.int .i64))], []⟩, ⟨[(17, .one (.int .i64))], []⟩⟩)] [] [] []
def VC_slices_EqualFunc_impl_File_impl_File__impl_EqualFiles (s1 : List (Int × Int × Bool × Int × List (List UInt8 × Int × Int × List UInt8 × Unit) × Unit)) (s2 : List (Int × Int × Bool × Int × List (List UInt8 × Int × Int × List UInt8 × Unit) × Unit)) (K : Bool × Unit → Prop) : Prop :=
  bif (↑s1.length : Int) != (↑s2.length : Int) then K (false, ())
  else
 let s0 := ((s2, (), s1, (↑s1.length : Int), ()), ());
  ∃ (I : (Int × Unit) × Unit → Prop),
  ∃ (μ : (Int × Unit) × Unit → Nat),
  I (((0 : Int), ()), ()) ∧
  ∀ (y1 : (Int × Unit) × Unit),
  I y1 →
  bif decide (y1.1.1 < (↑s1.length : Int)) then
  ((0 : Int) ≤ y1.1.1 ∧ y1.1.1 < (↑s1.length : Int)) ∧
  ((0 : Int) ≤ y1.1.1 ∧ y1.1.1 < (↑s2.length : Int)) ∧
  True ∧
 let r2 :=
  decide
  (((s1.getD (Int.toNat y1.1.1) ((0 : Int), (0 : Int), false, (0 : Int), [], ())).1,
  (s1.getD (Int.toNat y1.1.1) ((0 : Int), (0 : Int), false, (0 : Int), [], ())).2.1,
  (s1.getD (Int.toNat y1.1.1) ((0 : Int), (0 : Int), false, (0 : Int), [], ())).2.2.1,
  (s1.getD (Int.toNat y1.1.1) ((0 : Int), (0 : Int), false, (0 : Int), [], ())).2.2.2.1,
  (s1.getD (Int.toNat y1.1.1) ((0 : Int), (0 : Int), false, (0 : Int), [], ())).2.2.2.2.1, ()) =
  ((s2.getD (Int.toNat y1.1.1) ((0 : Int), (0 : Int), false, (0 : Int), [], ())).1,
  (s2.getD (Int.toNat y1.1.1) ((0 : Int), (0 : Int), false, (0 : Int), [], ())).2.1,
  (s2.getD (Int.toNat y1.1.1) ((0 : Int), (0 : Int), false, (0 : Int), [], ())).2.2.1,
  (s2.getD (Int.toNat y1.1.1) ((0 : Int), (0 : Int), false, (0 : Int), [], ())).2.2.2.1,
  (s2.getD (Int.toNat y1.1.1) ((0 : Int), (0 : Int), false, (0 : Int), [], ())).2.2.2.2.1, ()));
  bif !r2 then K (false, ())
  else s0 = s0 ∧ I ((IntKind.i64.wrap (y1.1.1 + (1 : Int)), ()), ()) ∧ μ ((IntKind.i64.wrap (y1.1.1 + (1 : Int)), ()), ()) < μ y1
  else K (true, ())
theorem wk_slices_EqualFunc_impl_File_impl_File__impl_EqualFiles (env : EnvB prog G Θ Γ_slices_EqualFunc_impl_File_impl_File__impl_EqualFiles) (h : ∀ (s1 : List (Int × Int × Bool × Int × List (List UInt8 × Int × Int × List UInt8 × Unit) × Unit)) (s2 : List (Int × Int × Bool × Int × List (List UInt8 × Int × Int × List UInt8 × Unit) × Unit)), psInR sh_slices_EqualFunc_impl_File_impl_File__impl_EqualFiles (s1, s2, (()), ()) → (True) → VC_slices_EqualFunc_impl_File_impl_File__impl_EqualFiles s1 s2 fun r => r = ((decide (s1 = s2), ()))) : ConOK prog G n_slices_EqualFunc_impl_File_impl_File__impl_EqualFiles con_slices_EqualFunc_impl_File_impl_File__impl_EqualFiles :=
  conR_ok env mixed (fn := f94) (c := codeOf f94) (by kernel_rfl) (by kernel_rfl) H_slices_EqualFunc_impl_File_impl_File__impl_EqualFiles (by kernel_rfl) fun ⟨s1, s2, ⟨⟩, ⟨⟩⟩ hin hp =>
  Eq.mpr ((by kernel_rfl : awp Θ Γ_slices_EqualFunc_impl_File_impl_File__impl_EqualFiles H_slices_EqualFunc_impl_File_impl_File__impl_EqualFiles (codeOf f94) (endsV Θ f94.results.toList rsh_slices_EqualFunc_impl_File_impl_File__impl_EqualFiles fun r => r = (F_slices_EqualFunc_impl_File_impl_File__impl_EqualFiles (s1, s2, (()), ())).2) (entry f94.ntmps (psVals sh_slices_EqualFunc_impl_File_impl_File__impl_EqualFiles (s1, s2, (()), ()))) = VC_slices_EqualFunc_impl_File_impl_File__impl_EqualFiles s1 s2 fun r => r = ((decide (s1 = s2), ())))) (h s1 s2 hin hp)

def H_spec_EqualForUser : Hints := Go.Fw.hints [] [] [] [] []
def VC_spec_EqualForUser (a0 : List (List UInt8 × Int × Unit)) (a1 : List (Int × Int × Bool × Int × List (List UInt8 × Int × Int × List UInt8 × Unit) × Unit)) (a2 : Int) (b0 : List (List UInt8 × Int × Unit)) (b1 : List (Int × Int × Bool × Int × List (List UInt8 × Int × Int × List UInt8 × Unit) × Unit)) (b2 : Int) (u : Int) (K : Bool × Unit → Prop) : Prop :=
  Sp.smallS (a0, a1, a2, ()) ∧
 let r0 := (Sp.visible (a0, a1, a2, ()) u).1;
 let r1 := (Sp.visible (a0, a1, a2, ()) u).2.1;
  Sp.smallS (b0, b1, b2, ()) ∧
 let r3 := (Sp.visible (b0, b1, b2, ()) u).1;
 let r4 := (Sp.visible (b0, b1, b2, ()) u).2.1;
  True ∧
 let r6 := decide ((r0, r1, (0 : Int), ()) = (r3, r4, (0 : Int), ()));
  K (r6, ())
theorem wk_spec_EqualForUser (env : EnvB prog G Θ Γ_spec_EqualForUser) (h : ∀ (a0 : List (List UInt8 × Int × Unit)) (a1 : List (Int × Int × Bool × Int × List (List UInt8 × Int × Int × List UInt8 × Unit) × Unit)) (a2 : Int) (b0 : List (List UInt8 × Int × Unit)) (b1 : List (Int × Int × Bool × Int × List (List UInt8 × Int × Int × List UInt8 × Unit) × Unit)) (b2 : Int) (u : Int), psInR sh_spec_EqualForUser ((a0, a1, a2, ()), (b0, b1, b2, ()), u, ()) → (Sp.smallS (a0, a1, a2, ()) ∧ Sp.smallS (b0, b1, b2, ())) → VC_spec_EqualForUser a0 a1 a2 b0 b1 b2 u fun r => r = ((decide ((Sp.visible (a0, a1, a2, ()) u).1 = (Sp.visible (b0, b1, b2, ()) u).1) && decide ((Sp.visible (a0, a1, a2, ()) u).2.1 = (Sp.visible (b0, b1, b2, ()) u).2.1),
  ()))) : ConOK prog G n_spec_EqualForUser con_spec_EqualForUser :=
  conR_ok env mixed (fn := f46) (c := codeOf f46) (by kernel_rfl) (by kernel_rfl) H_spec_EqualForUser (by kernel_rfl) fun ⟨⟨a0, a1, a2, ⟨⟩⟩, ⟨b0, b1, b2, ⟨⟩⟩, u, ⟨⟩⟩ hin hp =>
  Eq.mpr ((by kernel_rfl : awp Θ Γ_spec_EqualForUser H_spec_EqualForUser (codeOf f46) (endsV Θ f46.results.toList rsh_spec_EqualForUser fun r => r = (F_spec_EqualForUser ((a0, a1, a2, ()), (b0, b1, b2, ()), u, ())).2) (entry f46.ntmps (psVals sh_spec_EqualForUser ((a0, a1, a2, ()), (b0, b1, b2, ()), u, ()))) = VC_spec_EqualForUser a0 a1 a2 b0 b1 b2 u fun r => r = ((decide ((Sp.visible (a0, a1, a2, ()) u).1 = (Sp.visible (b0, b1, b2, ()) u).1) && decide ((Sp.visible (a0, a1, a2, ()) u).2.1 = (Sp.visible (b0, b1, b2, ()) u).2.1),
  ())))) (h a0 a1 a2 b0 b1 b2 u hin hp)

def H_impl_EqualForUser : Hints := Go.Fw.hints [] [] [] [] []
def VC_impl_EqualForUser (a0 : List (List UInt8 × Int × Unit)) (a1 : List (Int × Int × Bool × Int × List (List UInt8 × Int × Int × List UInt8 × Unit) × Unit)) (a2 : Int) (b0 : List (List UInt8 × Int × Unit)) (b1 : List (Int × Int × Bool × Int × List (List UInt8 × Int × Int × List UInt8 × Unit) × Unit)) (b2 : Int) (user : Int) (K : Bool × Unit → Prop) : Prop :=
  Sp.smallS (a0, a1, a2, ()) ∧
 let r0 := (Sp.visible (a0, a1, a2, ()) user).1;
 let r1 := (Sp.visible (a0, a1, a2, ()) user).2.1;
  Sp.smallS (b0, b1, b2, ()) ∧
 let r3 := (Sp.visible (b0, b1, b2, ()) user).1;
 let r4 := (Sp.visible (b0, b1, b2, ()) user).2.1;
  True ∧
 let r6 := decide (r0 = r3);
  bif r6 then
  True ∧
 let r7 := decide (r1 = r4);
  K (r7, ())
  else K (false, ())
theorem wk_impl_EqualForUser (env : EnvB prog G Θ Γ_impl_EqualForUser) (h : ∀ (a0 : List (List UInt8 × Int × Unit)) (a1 : List (Int × Int × Bool × Int × List (List UInt8 × Int × Int × List UInt8 × Unit) × Unit)) (a2 : Int) (b0 : List (List UInt8 × Int × Unit)) (b1 : List (Int × Int × Bool × Int × List (List UInt8 × Int × Int × List UInt8 × Unit) × Unit)) (b2 : Int) (user : Int), psInR sh_impl_EqualForUser ((a0, a1, a2, ()), (b0, b1, b2, ()), user, ()) → (Sp.smallS (a0, a1, a2, ()) ∧ Sp.smallS (b0, b1, b2, ())) → VC_impl_EqualForUser a0 a1 a2 b0 b1 b2 user fun r => r = ((decide ((Sp.visible (a0, a1, a2, ()) user).1 = (Sp.visible (b0, b1, b2, ()) user).1) &&
  decide ((Sp.visible (a0, a1, a2, ()) user).2.1 = (Sp.visible (b0, b1, b2, ()) user).2.1),
  ()))) : ConOK prog G n_impl_EqualForUser con_impl_EqualForUser :=
  conR_ok env mixed (fn := f45) (c := codeOf f45) (by kernel_rfl) (by kernel_rfl) H_impl_EqualForUser (by kernel_rfl) fun ⟨⟨a0, a1, a2, ⟨⟩⟩, ⟨b0, b1, b2, ⟨⟩⟩, user, ⟨⟩⟩ hin hp =>
  Eq.mpr ((by kernel_rfl : awp Θ Γ_impl_EqualForUser H_impl_EqualForUser (codeOf f45) (endsV Θ f45.results.toList rsh_impl_EqualForUser fun r => r = (F_impl_EqualForUser ((a0, a1, a2, ()), (b0, b1, b2, ()), user, ())).2) (entry f45.ntmps (psVals sh_impl_EqualForUser ((a0, a1, a2, ()), (b0, b1, b2, ()), user, ()))) = VC_impl_EqualForUser a0 a1 a2 b0 b1 b2 user fun r => r = ((decide ((Sp.visible (a0, a1, a2, ()) user).1 = (Sp.visible (b0, b1, b2, ()) user).1) &&
  decide ((Sp.visible (a0, a1, a2, ()) user).2.1 = (Sp.visible (b0, b1, b2, ()) user).2.1),
  ())))) (h a0 a1 a2 b0 b1 b2 user hin hp)

def H_laws_big : Hints := Go.Fw.hints [] [] [] [] []
def VC_laws_big (code : List (Int × Unit)) (K : Bool × Unit → Prop) : Prop :=
  K (decide ((↑code.length : Int) > (1048576 : Int)), ())
theorem wk_laws_big (env : EnvB prog G Θ Γ_laws_big) (h : ∀ (code : List (Int × Unit)), psInR sh_laws_big (code, ()) → (True) → VC_laws_big code fun r => r = ((decide ((1048576 : Int) < (↑code.length : Int)), ()))) : ConOK prog G n_laws_big con_laws_big :=
  conR_ok env mixed (fn := f8) (c := codeOf f8) (by kernel_rfl) (by kernel_rfl) H_laws_big (by kernel_rfl) fun ⟨code, ⟨⟩⟩ hin hp =>
  Eq.mpr ((by kernel_rfl : awp Θ Γ_laws_big H_laws_big (codeOf f8) (endsV Θ f8.results.toList rsh_laws_big fun r => r = (F_laws_big (code, ())).2) (entry f8.ntmps (psVals sh_laws_big (code, ()))) = VC_laws_big code fun r => r = ((decide ((1048576 : Int) < (↑code.length : Int)), ())))) (h code hin hp)

def H_spec_EqualStores : Hints := Go.Fw.hints [] [(4, ⟨[], ⟨[(2, .kptr [.sl 26 (.cons .str (.cons (.int .i64) .nil)) false, .sl 39 (.cons (.int .i64) (.cons (.int .i64) (.cons .bool (.cons (.int .i64) (.cons (.sl 116 (.cons .str (.cons (.int .i64) (.cons (.int .i64) (.cons .str .nil))))) .nil))))) false, .int .i64] 0), (3, .kptr [.sl 26 (.cons .str (.cons (.int .i64) .nil)) false, .sl 39 (.cons (.int .i64) (.cons (.int .i64) (.cons .bool (.cons (.int .i64) (.cons (.sl 116 (.cons .str (.cons (.int .i64) (.cons (.int .i64) (.cons .str .nil))))) .nil))))) false, .int .i64] 0)], []⟩, ⟨[(5, .one (.int .i64))], []⟩⟩)] [(3, ⟨[], ⟨[(2, .kptr [.sl 26 (.cons .str (.cons (.int .i64) .nil)) false, .sl 39 (.cons (.int .i64) (.cons (.int .i64) (.cons .bool (.cons (.int .i64) (.cons (.sl 116 (.cons .str (.cons (.int .i64) (.cons (.int .i64) (.cons .str .nil))))) .nil))))) false, .int .i64] 0), (3, .kptr [.sl 26 (.cons .str (.cons (.int .i64) .nil)) false, .sl 39 (.cons (.int .i64) (.cons (.int .i64) (.cons .bool (.cons (.int .i64) (.cons (.sl 116 (.cons .str (.cons (.int .i64) (.cons (.int .i64) (.cons .str .nil))))) .nil))))) false, .int .i64] 0)], []⟩, ⟨[], []⟩⟩)] [] []
def VC_spec_EqualStores (a0 : List (List UInt8 × Int × Unit)) (a1 : List (Int × Int × Bool × Int × List (List UInt8 × Int × Int × List UInt8 × Unit) × Unit)) (a2 : Int) (b0 : List (List UInt8 × Int × Unit)) (b1 : List (Int × Int × Bool × Int × List (List UInt8 × Int × Int × List UInt8 × Unit) × Unit)) (b2 : Int) (K : Bool × Unit → Prop) : Prop :=
 let s0 := (((a0, a1, a2, ()), (b0, b1, b2, ()), ()), ());
  ∃ (J : Unit × Unit → Prop),
  (True ∧
 let r1 := decide (a0 = b0);
  bif !r1 then K (false, ()) else bif a2 != b2 then K (false, ()) else bif (↑a1.length : Int) != (↑b1.length : Int) then K (false, ()) else s0 = s0 ∧ J ((), ())) ∧
  ∀ (y2 : Unit × Unit),
  J y2 →
 let s3 := (((a0, a1, a2, ()), (b0, b1, b2, ()), ()), ());
  ∃ (I : (Int × Unit) × Unit → Prop),
  ∃ (μ : (Int × Unit) × Unit → Nat),
  I (((0 : Int), ()), ()) ∧
  ∀ (y4 : (Int × Unit) × Unit),
  I y4 →
  bif decide (y4.1.1 < (↑a1.length : Int)) then
  ((0 : Int) ≤ y4.1.1 ∧ y4.1.1 < (↑a1.length : Int)) ∧
  ((0 : Int) ≤ y4.1.1 ∧ y4.1.1 < (↑b1.length : Int)) ∧
  True ∧
 let r5 :=
  decide
  (((a1.getD (Int.toNat y4.1.1) ((0 : Int), (0 : Int), false, (0 : Int), [], ())).1,
  (a1.getD (Int.toNat y4.1.1) ((0 : Int), (0 : Int), false, (0 : Int), [], ())).2.1,
  (a1.getD (Int.toNat y4.1.1) ((0 : Int), (0 : Int), false, (0 : Int), [], ())).2.2.1,
  (a1.getD (Int.toNat y4.1.1) ((0 : Int), (0 : Int), false, (0 : Int), [], ())).2.2.2.1,
  (a1.getD (Int.toNat y4.1.1) ((0 : Int), (0 : Int), false, (0 : Int), [], ())).2.2.2.2.1, ()) =
  ((b1.getD (Int.toNat y4.1.1) ((0 : Int), (0 : Int), false, (0 : Int), [], ())).1,
  (b1.getD (Int.toNat y4.1.1) ((0 : Int), (0 : Int), false, (0 : Int), [], ())).2.1,
  (b1.getD (Int.toNat y4.1.1) ((0 : Int), (0 : Int), false, (0 : Int), [], ())).2.2.1,
  (b1.getD (Int.toNat y4.1.1) ((0 : Int), (0 : Int), false, (0 : Int), [], ())).2.2.2.1,
  (b1.getD (Int.toNat y4.1.1) ((0 : Int), (0 : Int), false, (0 : Int), [], ())).2.2.2.2.1, ()));
  bif !r5 then K (false, ())
  else s3 = s3 ∧ I ((IntKind.i64.wrap (y4.1.1 + (1 : Int)), ()), ()) ∧ μ ((IntKind.i64.wrap (y4.1.1 + (1 : Int)), ()), ()) < μ y4
  else K (true, ())
theorem wk_spec_EqualStores (env : EnvB prog G Θ Γ_spec_EqualStores) (h : ∀ (a0 : List (List UInt8 × Int × Unit)) (a1 : List (Int × Int × Bool × Int × List (List UInt8 × Int × Int × List UInt8 × Unit) × Unit)) (a2 : Int) (b0 : List (List UInt8 × Int × Unit)) (b1 : List (Int × Int × Bool × Int × List (List UInt8 × Int × Int × List UInt8 × Unit) × Unit)) (b2 : Int), psInR sh_spec_EqualStores ((a0, a1, a2, ()), (b0, b1, b2, ()), ()) → (True) → VC_spec_EqualStores a0 a1 a2 b0 b1 b2 fun r => r = ((decide ((a0, a1, a2, ()) = (b0, b1, b2, ())), ()))) : ConOK prog G n_spec_EqualStores con_spec_EqualStores :=
  conR_ok env mixed (fn := f96) (c := codeOf f96) (by kernel_rfl) (by kernel_rfl) H_spec_EqualStores (by kernel_rfl) fun ⟨⟨a0, a1, a2, ⟨⟩⟩, ⟨b0, b1, b2, ⟨⟩⟩, ⟨⟩⟩ hin hp =>
  Eq.mpr ((by kernel_rfl : awp Θ Γ_spec_EqualStores H_spec_EqualStores (codeOf f96) (endsV Θ f96.results.toList rsh_spec_EqualStores fun r => r = (F_spec_EqualStores ((a0, a1, a2, ()), (b0, b1, b2, ()), ())).2) (entry f96.ntmps (psVals sh_spec_EqualStores ((a0, a1, a2, ()), (b0, b1, b2, ()), ()))) = VC_spec_EqualStores a0 a1 a2 b0 b1 b2 fun r => r = ((decide ((a0, a1, a2, ()) = (b0, b1, b2, ())), ())))) (h a0 a1 a2 b0 b1 b2 hin hp)

end Go.Proofs.Try

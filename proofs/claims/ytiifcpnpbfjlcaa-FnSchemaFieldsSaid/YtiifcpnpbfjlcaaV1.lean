import Derived.Test.YtiifcpnpbfjlcaaF
namespace Go.Proofs.Try
open Go Go.Fw
set_option maxRecDepth 100000
def H_spec_l01New : Hints := Go.Fw.hints [31] [(3, ⟨[], ⟨[(0, .one (.sl 5 (.cons (.int .u8) .nil) false))], []⟩, ⟨[(3, .one (.int .i64)), (4, .one (.int .i64))], []⟩⟩)] [] [] []
def VC_spec_l01New (code : List (Int × Unit)) (K : List (Int × Unit) × Int × Int × Unit → Prop) : Prop :=
 let s0 := ((code, ()), ());
  ∃ (I : (Int × Int × Unit) × Unit → Prop),
  ∃ (μ : (Int × Int × Unit) × Unit → Nat),
  I ((IntKind.i64.wrap ((94701 : Int) + (↑code.length : Int)), (0 : Int), ()), ()) ∧
  ∀ (y1 : (Int × Int × Unit) × Unit),
  I y1 →
  bif decide (y1.1.2.1 < (↑code.length : Int)) then
  bif decide (y1.1.2.1 < (4000 : Int)) then
  ((0 : Int) ≤ y1.1.2.1 ∧ y1.1.2.1 < (↑code.length : Int)) ∧
  s0 = s0 ∧
  I
  ((bitsOf BinOp.and IntKind.i64
  (IntKind.i64.wrap
  (IntKind.i64.wrap (IntKind.i64.wrap (y1.1.1 * (131 : Int)) + IntKind.i64.wrap (code.getD (Int.toNat y1.1.2.1) ((0 : Int), ())).1) +
  (7 : Int)))
  (1073741823 : Int),
  IntKind.i64.wrap (y1.1.2.1 + (1 : Int)), ()),
  ()) ∧
  μ
  ((bitsOf BinOp.and IntKind.i64
  (IntKind.i64.wrap
  (IntKind.i64.wrap (IntKind.i64.wrap (y1.1.1 * (131 : Int)) + IntKind.i64.wrap (code.getD (Int.toNat y1.1.2.1) ((0 : Int), ())).1) +
  (7 : Int)))
  (1073741823 : Int),
  IntKind.i64.wrap (y1.1.2.1 + (1 : Int)), ()),
  ()) <
  μ y1
  else K (code, (0 : Int), y1.1.1, ())
  else K (code, (0 : Int), y1.1.1, ())
theorem wk_spec_l01New (env : EnvB prog G Θ Γ_spec_l01New) (hne : ∀ x, (F_spec_l01New x).1 → ∃ t, (F_spec_l01New x).2 t) (h : ∀ (code : List (Int × Unit)), xsInR sh_spec_l01New (code, ()) → (code.length ≤ (1048576 : Nat)) → VC_spec_l01New code fun (r : List (Int × Unit) × Int × Int × Unit) => (code.length ≤ (1048576 : Nat), fun (x : List (Int × Unit) × Int × Int × Unit) => x.2.1 = (0 : Int)).2 r) : XConOK prog G n_spec_l01New con_spec_l01New :=
  conP_ok env mixed (fn := f57) (c := codeOf f57) (by kernel_rfl) (by kernel_rfl) H_spec_l01New (by kernel_rfl) hne fun ⟨code, ⟨⟩⟩ hin hp =>
  Eq.mpr ((by kernel_rfl : awp Θ Γ_spec_l01New H_spec_l01New (codeOf f57) (endsP f57.results.toList psh_spec_l01New (F_spec_l01New (code, ())).2) (entryX f57.ntmps (xsVals sh_spec_l01New (code, ()))) = VC_spec_l01New code fun (r : List (Int × Unit) × Int × Int × Unit) => (code.length ≤ (1048576 : Nat), fun (x : List (Int × Unit) × Int × Int × Unit) => x.2.1 = (0 : Int)).2 r)) (h code hin hp)

def H_spec_l01Byte : Hints := Go.Fw.hints [] [] [] [] []
def VC_spec_l01Byte (c0 : List (Int × Unit)) (c1 : Int) (c2 : Int) (K : (Int × Unit) × (List (Int × Unit) × Int × Int × Unit) × Unit → Prop) : Prop :=
  (0 : Int) ≤ (33 : Int) ∧
  (0 : Int) ≤ (45 : Int) ∧
  bif decide (c1 < (↑c0.length : Int)) then
  ((0 : Int) ≤ c1 ∧ c1 < (↑c0.length : Int)) ∧
  K
  ((bitsOf BinOp.and IntKind.i64
  (IntKind.i64.wrap
  (bitsOf BinOp.and IntKind.i64
  (bitsOf BinOp.xor IntKind.i64
  ((IntKind.i64.wrap (IntKind.i64.wrap (c2 * (6364136223846793005 : Int)) + (1442695040888963407 : Int))).fdiv
  ((2 : Int) ^ min (Int.toNat (33 : Int)) IntKind.i64.bits))
  ((IntKind.i64.wrap (IntKind.i64.wrap (c2 * (6364136223846793005 : Int)) + (1442695040888963407 : Int))).fdiv
  ((2 : Int) ^ min (Int.toNat (45 : Int)) IntKind.i64.bits)))
  (255 : Int) +
  IntKind.i64.wrap (c0.getD c1.toNat ((0 : Int), ())).1))
  (255 : Int),
  ()),
  (c0, IntKind.i64.wrap (c1 + (1 : Int)), IntKind.i64.wrap (IntKind.i64.wrap (c2 * (6364136223846793005 : Int)) + (1442695040888963407 : Int)), ()), ())
  else
  K
  ((bitsOf BinOp.and IntKind.i64
  (bitsOf BinOp.xor IntKind.i64
  ((IntKind.i64.wrap (IntKind.i64.wrap (c2 * (6364136223846793005 : Int)) + (1442695040888963407 : Int))).fdiv
  ((2 : Int) ^ min (Int.toNat (33 : Int)) IntKind.i64.bits))
  ((IntKind.i64.wrap (IntKind.i64.wrap (c2 * (6364136223846793005 : Int)) + (1442695040888963407 : Int))).fdiv
  ((2 : Int) ^ min (Int.toNat (45 : Int)) IntKind.i64.bits)))
  (255 : Int),
  ()),
  (c0, c1, IntKind.i64.wrap (IntKind.i64.wrap (c2 * (6364136223846793005 : Int)) + (1442695040888963407 : Int)), ()), ())
theorem wk_spec_l01Byte (env : EnvB prog G Θ Γ_spec_l01Byte) (hne : ∀ x, (F_spec_l01Byte x).1 → ∃ t, (F_spec_l01Byte x).2 t) (h : ∀ (c0 : List (Int × Unit)) (c1 : Int) (c2 : Int), xsInR sh_spec_l01Byte ((c0, c1, c2, ()), ()) → ((0 : Int) ≤ c1) → VC_spec_l01Byte c0 c1 c2 fun (r : (Int × Unit) × (List (Int × Unit) × Int × Int × Unit) × Unit) => ((0 : Int) ≤ c1, fun (x : (Int × Unit) × (List (Int × Unit) × Int × Int × Unit) × Unit) => (0 : Int) ≤ x.2.1.2.1 ∧ (0 : Int) ≤ x.1.1 ∧ x.1.1 ≤ (255 : Int)).2 r) : XConOK prog G n_spec_l01Byte con_spec_l01Byte :=
  conX_ok env mixed (fn := f117) (c := codeOf f117) (by kernel_rfl) (by kernel_rfl) H_spec_l01Byte (by kernel_rfl) hne fun ⟨⟨c0, c1, c2, ⟨⟩⟩, ⟨⟩⟩ hin hp =>
  Eq.mpr ((by kernel_rfl : awp Θ Γ_spec_l01Byte H_spec_l01Byte (codeOf f117) (endsX Θ f117.results.toList sh_spec_l01Byte rsh_spec_l01Byte (F_spec_l01Byte ((c0, c1, c2, ()), ())).2) (entryX f117.ntmps (xsVals sh_spec_l01Byte ((c0, c1, c2, ()), ()))) = VC_spec_l01Byte c0 c1 c2 fun (r : (Int × Unit) × (List (Int × Unit) × Int × Int × Unit) × Unit) => ((0 : Int) ≤ c1, fun (x : (Int × Unit) × (List (Int × Unit) × Int × Int × Unit) × Unit) => (0 : Int) ≤ x.2.1.2.1 ∧ (0 : Int) ≤ x.1.1 ∧ x.1.1 ≤ (255 : Int)).2 r)) (h c0 c1 c2 hin hp)

def H_spec_l01Below : Hints := Go.Fw.hints [] [] [] [] []
def VC_spec_l01Below (c0 : List (Int × Unit)) (c1 : Int) (c2 : Int) (n : Int) (K : (Int × Unit) × (List (Int × Unit) × Int × Int × Unit) × Unit → Prop) : Prop :=
  bif decide (n ≤ (0 : Int)) then K (((0 : Int), ()), (c0, c1, c2, ()), ())
  else
  bif decide (n ≤ (256 : Int)) then
  (0 : Int) ≤ c1 ∧
  ∀ (r0 : (Int × Unit) × (List (Int × Unit) × Int × Int × Unit) × Unit),
  (0 : Int) ≤ r0.2.1.2.1 ∧ (0 : Int) ≤ r0.1.1 ∧ r0.1.1 ≤ (255 : Int) →
  n ≠ (0 : Int) ∧ K ((Int.tmod r0.1.1 n, ()), (r0.2.1.1, r0.2.1.2.1, r0.2.1.2.2.1, ()), ())
  else
  (0 : Int) ≤ c1 ∧
  ∀ (r1 : (Int × Unit) × (List (Int × Unit) × Int × Int × Unit) × Unit),
  (0 : Int) ≤ r1.2.1.2.1 ∧ (0 : Int) ≤ r1.1.1 ∧ r1.1.1 ≤ (255 : Int) →
  (0 : Int) ≤ r1.2.1.2.1 ∧
  ∀ (r2 : (Int × Unit) × (List (Int × Unit) × Int × Int × Unit) × Unit),
  (0 : Int) ≤ r2.2.1.2.1 ∧ (0 : Int) ≤ r2.1.1 ∧ r2.1.1 ≤ (255 : Int) →
  (0 : Int) ≤ r2.2.1.2.1 ∧
  ∀ (r3 : (Int × Unit) × (List (Int × Unit) × Int × Int × Unit) × Unit),
  (0 : Int) ≤ r3.2.1.2.1 ∧ (0 : Int) ≤ r3.1.1 ∧ r3.1.1 ≤ (255 : Int) →
  (0 : Int) ≤ r3.2.1.2.1 ∧
  ∀ (r4 : (Int × Unit) × (List (Int × Unit) × Int × Int × Unit) × Unit),
  (0 : Int) ≤ r4.2.1.2.1 ∧ (0 : Int) ≤ r4.1.1 ∧ r4.1.1 ≤ (255 : Int) →
  n ≠ (0 : Int) ∧
  K
  (((IntKind.i64.wrap
  (IntKind.i64.wrap
  (IntKind.i64.wrap (IntKind.i64.wrap (r1.1.1 * (16777216 : Int)) + IntKind.i64.wrap (r2.1.1 * (65536 : Int))) +
  IntKind.i64.wrap (r3.1.1 * (256 : Int))) +
  r4.1.1)).tmod
  n,
  ()),
  (r4.2.1.1, r4.2.1.2.1, r4.2.1.2.2.1, ()), ())
theorem wk_spec_l01Below (env : EnvB prog G Θ Γ_spec_l01Below) (hne : ∀ x, (F_spec_l01Below x).1 → ∃ t, (F_spec_l01Below x).2 t) (h : ∀ (c0 : List (Int × Unit)) (c1 : Int) (c2 : Int) (n : Int), xsInR sh_spec_l01Below ((c0, c1, c2, ()), n, ()) → ((0 : Int) ≤ c1) → VC_spec_l01Below c0 c1 c2 n fun (r : (Int × Unit) × (List (Int × Unit) × Int × Int × Unit) × Unit) => ((0 : Int) ≤ c1, fun (x : (Int × Unit) × (List (Int × Unit) × Int × Int × Unit) × Unit) =>
  (0 : Int) ≤ x.2.1.2.1 ∧ (0 : Int) ≤ x.1.1 ∧ ((0 : Int) < n → x.1.1 < n) ∧ (n ≤ (0 : Int) → x.1.1 = (0 : Int))).2
  r) : XConOK prog G n_spec_l01Below con_spec_l01Below :=
  conX_ok env mixed (fn := f90) (c := codeOf f90) (by kernel_rfl) (by kernel_rfl) H_spec_l01Below (by kernel_rfl) hne fun ⟨⟨c0, c1, c2, ⟨⟩⟩, n, ⟨⟩⟩ hin hp =>
  Eq.mpr ((by kernel_rfl : awp Θ Γ_spec_l01Below H_spec_l01Below (codeOf f90) (endsX Θ f90.results.toList sh_spec_l01Below rsh_spec_l01Below (F_spec_l01Below ((c0, c1, c2, ()), n, ())).2) (entryX f90.ntmps (xsVals sh_spec_l01Below ((c0, c1, c2, ()), n, ()))) = VC_spec_l01Below c0 c1 c2 n fun (r : (Int × Unit) × (List (Int × Unit) × Int × Int × Unit) × Unit) => ((0 : Int) ≤ c1, fun (x : (Int × Unit) × (List (Int × Unit) × Int × Int × Unit) × Unit) =>
  (0 : Int) ≤ x.2.1.2.1 ∧ (0 : Int) ≤ x.1.1 ∧ ((0 : Int) < n → x.1.1 < n) ∧ (n ≤ (0 : Int) → x.1.1 = (0 : Int))).2
  r)) (h c0 c1 c2 n hin hp)

def H_spec_l01Pick : Hints := Go.Fw.hints [] [] [] [] []
def VC_spec_l01Pick (c0 : List (Int × Unit)) (c1 : Int) (c2 : Int) (list : List (List UInt8 × Unit)) (K : (List UInt8 × Unit) × (List (Int × Unit) × Int × Int × Unit) × Unit → Prop) : Prop :=
  (0 : Int) ≤ c1 ∧
  ∀ (r0 : (Int × Unit) × (List (Int × Unit) × Int × Int × Unit) × Unit),
  (0 : Int) ≤ r0.2.1.2.1 ∧
  (0 : Int) ≤ r0.1.1 ∧ ((0 : Int) < (↑list.length : Int) → r0.1.1 < (↑list.length : Int)) ∧ ((↑list.length : Int) ≤ (0 : Int) → r0.1.1 = (0 : Int)) →
  ((0 : Int) ≤ r0.1.1 ∧ r0.1.1 < (↑list.length : Int)) ∧
  K (((list.getD (Int.toNat r0.1.1) ([], ())).1, ()), (r0.2.1.1, r0.2.1.2.1, r0.2.1.2.2.1, ()), ())
theorem wk_spec_l01Pick (env : EnvB prog G Θ Γ_spec_l01Pick) (hne : ∀ x, (F_spec_l01Pick x).1 → ∃ t, (F_spec_l01Pick x).2 t) (h : ∀ (c0 : List (Int × Unit)) (c1 : Int) (c2 : Int) (list : List (List UInt8 × Unit)), xsInR sh_spec_l01Pick ((c0, c1, c2, ()), list, ()) → ((0 : Int) ≤ c1 ∧ list ≠ []) → VC_spec_l01Pick c0 c1 c2 list fun (r : (List UInt8 × Unit) × (List (Int × Unit) × Int × Int × Unit) × Unit) => ((0 : Int) ≤ c1 ∧ list ≠ [], fun (x : (List UInt8 × Unit) × (List (Int × Unit) × Int × Int × Unit) × Unit) => (0 : Int) ≤ x.2.1.2.1 ∧ (x.1.1, ()) ∈ list).2 r) : XConOK prog G n_spec_l01Pick con_spec_l01Pick :=
  conX_ok env mixed (fn := f59) (c := codeOf f59) (by kernel_rfl) (by kernel_rfl) H_spec_l01Pick (by kernel_rfl) hne fun ⟨⟨c0, c1, c2, ⟨⟩⟩, list, ⟨⟩⟩ hin hp =>
  Eq.mpr ((by kernel_rfl : awp Θ Γ_spec_l01Pick H_spec_l01Pick (codeOf f59) (endsX Θ f59.results.toList sh_spec_l01Pick rsh_spec_l01Pick (F_spec_l01Pick ((c0, c1, c2, ()), list, ())).2) (entryX f59.ntmps (xsVals sh_spec_l01Pick ((c0, c1, c2, ()), list, ()))) = VC_spec_l01Pick c0 c1 c2 list fun (r : (List UInt8 × Unit) × (List (Int × Unit) × Int × Int × Unit) × Unit) => ((0 : Int) ≤ c1 ∧ list ≠ [], fun (x : (List UInt8 × Unit) × (List (Int × Unit) × Int × Int × Unit) × Unit) => (0 : Int) ≤ x.2.1.2.1 ∧ (x.1.1, ()) ∈ list).2 r)) (h c0 c1 c2 list hin hp)

def H_spec_l01PickInt : Hints := Go.Fw.hints [] [] [] [] []
def VC_spec_l01PickInt (c0 : List (Int × Unit)) (c1 : Int) (c2 : Int) (list : List (Int × Unit)) (K : (Int × Unit) × (List (Int × Unit) × Int × Int × Unit) × Unit → Prop) : Prop :=
  (0 : Int) ≤ c1 ∧
  ∀ (r0 : (Int × Unit) × (List (Int × Unit) × Int × Int × Unit) × Unit),
  (0 : Int) ≤ r0.2.1.2.1 ∧
  (0 : Int) ≤ r0.1.1 ∧ ((0 : Int) < (↑list.length : Int) → r0.1.1 < (↑list.length : Int)) ∧ ((↑list.length : Int) ≤ (0 : Int) → r0.1.1 = (0 : Int)) →
  ((0 : Int) ≤ r0.1.1 ∧ r0.1.1 < (↑list.length : Int)) ∧
  K (((list.getD (Int.toNat r0.1.1) ((0 : Int), ())).1, ()), (r0.2.1.1, r0.2.1.2.1, r0.2.1.2.2.1, ()), ())
theorem wk_spec_l01PickInt (env : EnvB prog G Θ Γ_spec_l01PickInt) (hne : ∀ x, (F_spec_l01PickInt x).1 → ∃ t, (F_spec_l01PickInt x).2 t) (h : ∀ (c0 : List (Int × Unit)) (c1 : Int) (c2 : Int) (list : List (Int × Unit)), xsInR sh_spec_l01PickInt ((c0, c1, c2, ()), list, ()) → ((0 : Int) ≤ c1 ∧ list ≠ []) → VC_spec_l01PickInt c0 c1 c2 list fun (r : (Int × Unit) × (List (Int × Unit) × Int × Int × Unit) × Unit) => ((0 : Int) ≤ c1 ∧ list ≠ [], fun (x : (Int × Unit) × (List (Int × Unit) × Int × Int × Unit) × Unit) => (0 : Int) ≤ x.2.1.2.1 ∧ (x.1.1, ()) ∈ list).2 r) : XConOK prog G n_spec_l01PickInt con_spec_l01PickInt :=
  conX_ok env mixed (fn := f60) (c := codeOf f60) (by kernel_rfl) (by kernel_rfl) H_spec_l01PickInt (by kernel_rfl) hne fun ⟨⟨c0, c1, c2, ⟨⟩⟩, list, ⟨⟩⟩ hin hp =>
  Eq.mpr ((by kernel_rfl : awp Θ Γ_spec_l01PickInt H_spec_l01PickInt (codeOf f60) (endsX Θ f60.results.toList sh_spec_l01PickInt rsh_spec_l01PickInt (F_spec_l01PickInt ((c0, c1, c2, ()), list, ())).2) (entryX f60.ntmps (xsVals sh_spec_l01PickInt ((c0, c1, c2, ()), list, ()))) = VC_spec_l01PickInt c0 c1 c2 list fun (r : (Int × Unit) × (List (Int × Unit) × Int × Int × Unit) × Unit) => ((0 : Int) ≤ c1 ∧ list ≠ [], fun (x : (Int × Unit) × (List (Int × Unit) × Int × Int × Unit) × Unit) => (0 : Int) ≤ x.2.1.2.1 ∧ (x.1.1, ()) ∈ list).2 r)) (h c0 c1 c2 list hin hp)

def H_spec_l03Usual : Hints := Go.Fw.hints [5] [] [] [] []
def VC_spec_l03Usual  (K : (List (List UInt8 × Int × Unit) × Unit) × Unit → Prop) : Prop :=
  K (([([(97 : UInt8)], (1 : Int), ()), ([(98 : UInt8)], (1 : Int), ()), ([(110 : UInt8)], (2 : Int), ()), ([(116 : UInt8)], (2 : Int), ())], ()), ())
theorem wk_spec_l03Usual (env : EnvB prog G Θ Γ_spec_l03Usual) (hne : ∀ x, (F_spec_l03Usual x).1 → ∃ t, (F_spec_l03Usual x).2 t) (h : xsInR sh_spec_l03Usual (()) → (True) → VC_spec_l03Usual  fun (r : (List (List UInt8 × Int × Unit) × Unit) × Unit) => (True, fun (x : (List (List UInt8 × Int × Unit) × Unit) × Unit) => x.1.1 = Sp.usual).2 r) : XConOK prog G n_spec_l03Usual con_spec_l03Usual :=
  conX_ok env mixed (fn := f100) (c := codeOf f100) (by kernel_rfl) (by kernel_rfl) H_spec_l03Usual (by kernel_rfl) hne fun ⟨⟩ hin hp =>
  Eq.mpr ((by kernel_rfl : awp Θ Γ_spec_l03Usual H_spec_l03Usual (codeOf f100) (endsX Θ f100.results.toList sh_spec_l03Usual rsh_spec_l03Usual (F_spec_l03Usual (())).2) (entryX f100.ntmps (xsVals sh_spec_l03Usual (()))) = VC_spec_l03Usual  fun (r : (List (List UInt8 × Int × Unit) × Unit) × Unit) => (True, fun (x : (List (List UInt8 × Int × Unit) × Unit) × Unit) => x.1.1 = Sp.usual).2 r)) (h  hin hp)

def H_spec_l03Name : Hints := Go.Fw.hints [] [] [] [] []
def VC_spec_l03Name (c0 : List (Int × Unit)) (c1 : Int) (c2 : Int) (K : (List UInt8 × Unit) × (List (Int × Unit) × Int × Int × Unit) × Unit → Prop) : Prop :=
  ((0 : Int) ≤ c1 ∧
  [([(97 : UInt8)], ()), ([(98 : UInt8)], ()), ([(110 : UInt8)], ()), ([(116 : UInt8)], ()), ([(97 : UInt8)], ()), ([(98 : UInt8)], ()), ([(116 : UInt8)], ()),
  ([(122 : UInt8)], ()), ([(65 : UInt8)], ()), ([], ())] ≠
  []) ∧
  ∀ (r0 : (List UInt8 × Unit) × (List (Int × Unit) × Int × Int × Unit) × Unit),
  (0 : Int) ≤ r0.2.1.2.1 ∧
  (r0.1.1, ()) ∈
  [([(97 : UInt8)], ()), ([(98 : UInt8)], ()), ([(110 : UInt8)], ()), ([(116 : UInt8)], ()), ([(97 : UInt8)], ()), ([(98 : UInt8)], ()), ([(116 : UInt8)], ()),
  ([(122 : UInt8)], ()), ([(65 : UInt8)], ()), ([], ())] →
  K ((r0.1.1, ()), (r0.2.1.1, r0.2.1.2.1, r0.2.1.2.2.1, ()), ())
theorem wk_spec_l03Name (env : EnvB prog G Θ Γ_spec_l03Name) (hne : ∀ x, (F_spec_l03Name x).1 → ∃ t, (F_spec_l03Name x).2 t) (h : ∀ (c0 : List (Int × Unit)) (c1 : Int) (c2 : Int), xsInR sh_spec_l03Name ((c0, c1, c2, ()), ()) → ((0 : Int) ≤ c1) → VC_spec_l03Name c0 c1 c2 fun (r : (List UInt8 × Unit) × (List (Int × Unit) × Int × Int × Unit) × Unit) => ((0 : Int) ≤ c1, fun (x : (List UInt8 × Unit) × (List (Int × Unit) × Int × Int × Unit) × Unit) => (0 : Int) ≤ x.2.1.2.1 ∧ x.1.1.length ≤ (1 : Nat)).2 r) : XConOK prog G n_spec_l03Name con_spec_l03Name :=
  conX_ok env mixed (fn := f101) (c := codeOf f101) (by kernel_rfl) (by kernel_rfl) H_spec_l03Name (by kernel_rfl) hne fun ⟨⟨c0, c1, c2, ⟨⟩⟩, ⟨⟩⟩ hin hp =>
  Eq.mpr ((by kernel_rfl : awp Θ Γ_spec_l03Name H_spec_l03Name (codeOf f101) (endsX Θ f101.results.toList sh_spec_l03Name rsh_spec_l03Name (F_spec_l03Name ((c0, c1, c2, ()), ())).2) (entryX f101.ntmps (xsVals sh_spec_l03Name ((c0, c1, c2, ()), ()))) = VC_spec_l03Name c0 c1 c2 fun (r : (List UInt8 × Unit) × (List (Int × Unit) × Int × Int × Unit) × Unit) => ((0 : Int) ≤ c1, fun (x : (List UInt8 × Unit) × (List (Int × Unit) × Int × Int × Unit) × Unit) => (0 : Int) ≤ x.2.1.2.1 ∧ x.1.1.length ≤ (1 : Nat)).2 r)) (h c0 c1 c2 hin hp)

def H_spec_l03Any : Hints := Go.Fw.hints [4, 29] [] [] [] []
def VC_spec_l03Any (c0 : List (Int × Unit)) (c1 : Int) (c2 : Int) (K : (List (List UInt8 × Int × Unit) × Unit) × (List (Int × Unit) × Int × Int × Unit) × Unit → Prop) : Prop :=
  True ∧
  ∀ (r0 : (List (List UInt8 × Int × Unit) × Unit) × Unit),
  r0.1.1 = Sp.usual →
  (0 : Int) ≤ c1 ∧
  ∀ (r1 : (Int × Unit) × (List (Int × Unit) × Int × Int × Unit) × Unit),
  (0 : Int) ≤ r1.2.1.2.1 ∧ (0 : Int) ≤ r1.1.1 ∧ ((0 : Int) < (8 : Int) → r1.1.1 < (8 : Int)) ∧ ((8 : Int) ≤ (0 : Int) → r1.1.1 = (0 : Int)) →
  bif r1.1.1 == (0 : Int) then
  (0 : Int) ≤ r1.2.1.2.1 ∧
  ∀ (r2 : (Int × Unit) × (List (Int × Unit) × Int × Int × Unit) × Unit),
  (0 : Int) ≤ r2.2.1.2.1 ∧ (0 : Int) ≤ r2.1.1 ∧ ((0 : Int) < (4 : Int) → r2.1.1 < (4 : Int)) ∧ ((4 : Int) ≤ (0 : Int) → r2.1.1 = (0 : Int)) →
  ((0 : Int) ≤ r2.1.1 ∧ r2.1.1 ≤ (↑(List.length r0.1.1) : Int)) ∧
  K ((List.take (Int.toNat r2.1.1) r0.1.1, ()), (r2.2.1.1, r2.2.1.2.1, r2.2.1.2.2.1, ()), ())
  else
  bif r1.1.1 == (1 : Int) then
  (0 : Int) ≤ r1.2.1.2.1 ∧
  ∀ (r3 : (Int × Unit) × (List (Int × Unit) × Int × Int × Unit) × Unit),
  (0 : Int) ≤ r3.2.1.2.1 ∧ (0 : Int) ≤ r3.1.1 ∧ ((0 : Int) < (4 : Int) → r3.1.1 < (4 : Int)) ∧ ((4 : Int) ≤ (0 : Int) → r3.1.1 = (0 : Int)) →
  (0 : Int) ≤ r3.2.1.2.1 ∧
  ∀ (r4 : (Int × Unit) × (List (Int × Unit) × Int × Int × Unit) × Unit),
  (0 : Int) ≤ r4.2.1.2.1 ∧ (0 : Int) ≤ r4.1.1 ∧ ((0 : Int) < (5 : Int) → r4.1.1 < (5 : Int)) ∧ ((5 : Int) ≤ (0 : Int) → r4.1.1 = (0 : Int)) →
  ((0 : Int) ≤ r3.1.1 ∧ r3.1.1 < (↑(List.length r0.1.1) : Int)) ∧
  Int.toNat r3.1.1 < List.length r0.1.1 ∧
  K
  ((List.set r0.1.1 (Int.toNat r3.1.1)
  ((List.getD r0.1.1 (Int.toNat r3.1.1) ([], (0 : Int), ())).1, IntKind.i64.wrap (r4.1.1 - (1 : Int)), ()),
  ()),
  (r4.2.1.1, r4.2.1.2.1, r4.2.1.2.2.1, ()), ())
  else
  bif r1.1.1 == (2 : Int) then
  (0 : Int) ≤ r1.2.1.2.1 ∧
  ∀ (r5 : (Int × Unit) × (List (Int × Unit) × Int × Int × Unit) × Unit),
  (0 : Int) ≤ r5.2.1.2.1 ∧ (0 : Int) ≤ r5.1.1 ∧ ((0 : Int) < (4 : Int) → r5.1.1 < (4 : Int)) ∧ ((4 : Int) ≤ (0 : Int) → r5.1.1 = (0 : Int)) →
  (0 : Int) ≤ r5.2.1.2.1 ∧
  ∀ (r6 : (List UInt8 × Unit) × (List (Int × Unit) × Int × Int × Unit) × Unit),
  (0 : Int) ≤ r6.2.1.2.1 ∧ r6.1.1.length ≤ (1 : Nat) →
  ((0 : Int) ≤ r5.1.1 ∧ r5.1.1 < (↑(List.length r0.1.1) : Int)) ∧
  Int.toNat r5.1.1 < List.length r0.1.1 ∧
  K
  ((List.set r0.1.1 (Int.toNat r5.1.1) (r6.1.1, (List.getD r0.1.1 (Int.toNat r5.1.1) ([], (0 : Int), ())).2.1, ()), ()),
  (r6.2.1.1, r6.2.1.2.1, r6.2.1.2.2.1, ()), ())
  else
  bif r1.1.1 == (3 : Int) then
  ((0 : Int) ≤ r1.2.1.2.1 ∧ [([(117 : UInt8)], ()), ([(122 : UInt8)], ()), ([(97 : UInt8)], ())] ≠ []) ∧
  ∀ (r7 : (List UInt8 × Unit) × (List (Int × Unit) × Int × Int × Unit) × Unit),
  (0 : Int) ≤ r7.2.1.2.1 ∧ (r7.1.1, ()) ∈ [([(117 : UInt8)], ()), ([(122 : UInt8)], ()), ([(97 : UInt8)], ())] →
  List.length r0.1.1 + [(r7.1.1, (1 : Int), ())].length ≤ big ∧
  K ((r0.1.1 ++ [(r7.1.1, (1 : Int), ())], ()), (r7.2.1.1, r7.2.1.2.1, r7.2.1.2.2.1, ()), ())
  else
  bif r1.1.1 == (4 : Int) then
  List.length r0.1.1 + [([(117 : UInt8)], (1 : Int), ()), ([(118 : UInt8)], (2 : Int), ())].length ≤ big ∧
  K
  ((r0.1.1 ++ [([(117 : UInt8)], (1 : Int), ()), ([(118 : UInt8)], (2 : Int), ())], ()),
  (r1.2.1.1, r1.2.1.2.1, r1.2.1.2.2.1, ()), ())
  else K ((r0.1.1, ()), (r1.2.1.1, r1.2.1.2.1, r1.2.1.2.2.1, ()), ())
theorem wk_spec_l03Any (env : EnvB prog G Θ Γ_spec_l03Any) (hne : ∀ x, (F_spec_l03Any x).1 → ∃ t, (F_spec_l03Any x).2 t) (h : ∀ (c0 : List (Int × Unit)) (c1 : Int) (c2 : Int), xsInR sh_spec_l03Any ((c0, c1, c2, ()), ()) → ((0 : Int) ≤ c1) → VC_spec_l03Any c0 c1 c2 fun (r : (List (List UInt8 × Int × Unit) × Unit) × (List (Int × Unit) × Int × Int × Unit) × Unit) => ((0 : Int) ≤ c1, fun (x : (List (List UInt8 × Int × Unit) × Unit) × (List (Int × Unit) × Int × Int × Unit) × Unit) => (0 : Int) ≤ x.2.1.2.1 ∧ x.1.1.length ≤ (6 : Nat)).2 r) : XConOK prog G n_spec_l03Any con_spec_l03Any :=
  conX_ok env mixed (fn := f58) (c := codeOf f58) (by kernel_rfl) (by kernel_rfl) H_spec_l03Any (by kernel_rfl) hne fun ⟨⟨c0, c1, c2, ⟨⟩⟩, ⟨⟩⟩ hin hp =>
  Eq.mpr ((by kernel_rfl : awp Θ Γ_spec_l03Any H_spec_l03Any (codeOf f58) (endsX Θ f58.results.toList sh_spec_l03Any rsh_spec_l03Any (F_spec_l03Any ((c0, c1, c2, ()), ())).2) (entryX f58.ntmps (xsVals sh_spec_l03Any ((c0, c1, c2, ()), ()))) = VC_spec_l03Any c0 c1 c2 fun (r : (List (List UInt8 × Int × Unit) × Unit) × (List (Int × Unit) × Int × Int × Unit) × Unit) => ((0 : Int) ≤ c1, fun (x : (List (List UInt8 × Int × Unit) × Unit) × (List (Int × Unit) × Int × Int × Unit) × Unit) => (0 : Int) ≤ x.2.1.2.1 ∧ x.1.1.length ≤ (6 : Nat)).2 r)) (h c0 c1 c2 hin hp)

def H_spec_l01In : Hints := Go.Fw.hints [] [] [] [] []
def VC_spec_l01In (x : Int) (least : Int) (most : Int) (K : Bool × Unit → Prop) : Prop :=
  bif decide (x ≥ least) then K (decide (x ≤ most), ()) else K (false, ())
theorem wk_spec_l01In (env : EnvB prog G Θ Γ_spec_l01In) (h : ∀ (x : Int) (least : Int) (most : Int), psInR sh_spec_l01In (x, least, most, ()) → (True) → VC_spec_l01In x least most fun r => r = ((decide (least ≤ x) && decide (x ≤ most), ()))) : ConOK prog G n_spec_l01In con_spec_l01In :=
  conR_ok env mixed (fn := f78) (c := codeOf f78) (by kernel_rfl) (by kernel_rfl) H_spec_l01In (by kernel_rfl) fun ⟨x, least, most, ⟨⟩⟩ hin hp =>
  Eq.mpr ((by kernel_rfl : awp Θ Γ_spec_l01In H_spec_l01In (codeOf f78) (endsV Θ f78.results.toList rsh_spec_l01In fun r => r = (F_spec_l01In (x, least, most, ())).2) (entry f78.ntmps (psVals sh_spec_l01In (x, least, most, ()))) = VC_spec_l01In x least most fun r => r = ((decide (least ≤ x) && decide (x ≤ most), ())))) (h x least most hin hp)

def H_spec_l02Text : Hints := Go.Fw.hints [] [(2, ⟨[], ⟨[(0, .one (.str)), (1, .one (.int .i64))], []⟩, ⟨[(5, .one (.int .i64))], []⟩⟩)] [] [] []
def VC_spec_l02Text (s : List UInt8) (most : Int) (K : Bool × Unit → Prop) : Prop :=
 let s0 := ((s, most, ()), ());
  ∃ (I : (Int × Unit) × Unit → Prop),
  ∃ (μ : (Int × Unit) × Unit → Nat),
  I (((0 : Int), ()), ()) ∧
  ∀ (y1 : (Int × Unit) × Unit),
  I y1 →
  bif decide (y1.1.1 < (↑s.length : Int)) then
  ((0 : Int) ≤ y1.1.1 ∧ y1.1.1 < (↑s.length : Int)) ∧
  bif decide ((↑(s.getD (Int.toNat y1.1.1) (0 : UInt8)).toNat : Int) < (97 : Int)) then K (false, ())
  else
  ((0 : Int) ≤ y1.1.1 ∧ y1.1.1 < (↑s.length : Int)) ∧
  bif decide ((↑(s.getD (Int.toNat y1.1.1) (0 : UInt8)).toNat : Int) > (122 : Int)) then K (false, ())
  else s0 = s0 ∧ I ((IntKind.i64.wrap (y1.1.1 + (1 : Int)), ()), ()) ∧ μ ((IntKind.i64.wrap (y1.1.1 + (1 : Int)), ()), ()) < μ y1
  else
  True ∧
 let r2 := decide ((1 : Int) ≤ (↑s.length : Int)) && decide ((↑s.length : Int) ≤ most);
  K (r2, ())
theorem wk_spec_l02Text (env : EnvB prog G Θ Γ_spec_l02Text) (h : ∀ (s : List UInt8) (most : Int), psInR sh_spec_l02Text (s, most, ()) → (True) → VC_spec_l02Text s most fun r => r = ((Sp.lower s && decide ((1 : Int) ≤ (↑s.length : Int)) && decide ((↑s.length : Int) ≤ most), ()))) : ConOK prog G n_spec_l02Text con_spec_l02Text :=
  conR_ok env mixed (fn := f122) (c := codeOf f122) (by kernel_rfl) (by kernel_rfl) H_spec_l02Text (by kernel_rfl) fun ⟨s, most, ⟨⟩⟩ hin hp =>
  Eq.mpr ((by kernel_rfl : awp Θ Γ_spec_l02Text H_spec_l02Text (codeOf f122) (endsV Θ f122.results.toList rsh_spec_l02Text fun r => r = (F_spec_l02Text (s, most, ())).2) (entry f122.ntmps (psVals sh_spec_l02Text (s, most, ()))) = VC_spec_l02Text s most fun r => r = ((Sp.lower s && decide ((1 : Int) ≤ (↑s.length : Int)) && decide ((↑s.length : Int) ≤ most), ())))) (h s most hin hp)

def H_spec_IsValidAttrName : Hints := Go.Fw.hints [] [] [] [] []
def VC_spec_IsValidAttrName (s : List UInt8) (K : Bool × Unit → Prop) : Prop :=
  True ∧
 let r0 := Sp.lower s && decide ((1 : Int) ≤ (↑s.length : Int)) && decide ((↑s.length : Int) ≤ (1 : Int));
  K (r0, ())
theorem wk_spec_IsValidAttrName (env : EnvB prog G Θ Γ_spec_IsValidAttrName) (h : ∀ (s : List UInt8), psInR sh_spec_IsValidAttrName (s, ()) → (True) → VC_spec_IsValidAttrName s fun r => r = ((Sp.okName s, ()))) : ConOK prog G n_spec_IsValidAttrName con_spec_IsValidAttrName :=
  conR_ok env mixed (fn := f106) (c := codeOf f106) (by kernel_rfl) (by kernel_rfl) H_spec_IsValidAttrName (by kernel_rfl) fun ⟨s, ⟨⟩⟩ hin hp =>
  Eq.mpr ((by kernel_rfl : awp Θ Γ_spec_IsValidAttrName H_spec_IsValidAttrName (codeOf f106) (endsV Θ f106.results.toList rsh_spec_IsValidAttrName fun r => r = (F_spec_IsValidAttrName (s, ())).2) (entry f106.ntmps (psVals sh_spec_IsValidAttrName (s, ()))) = VC_spec_IsValidAttrName s fun r => r = ((Sp.okName s, ())))) (h s hin hp)

def H_impl_IsValidAttrName : Hints := Go.Fw.hints [] [] [] [] []
def VC_impl_IsValidAttrName (s : List UInt8) (K : Bool × Unit → Prop) : Prop :=
  bif (↑s.length : Int) == (1 : Int) then
  ((0 : Int) ≤ (0 : Int) ∧ (0 : Int) < (↑s.length : Int)) ∧
  bif decide ((↑(s.getD (Int.toNat (0 : Int)) (0 : UInt8)).toNat : Int) ≥ (97 : Int)) then
  ((0 : Int) ≤ (0 : Int) ∧ (0 : Int) < (↑s.length : Int)) ∧ K (decide ((↑(s.getD (Int.toNat (0 : Int)) (0 : UInt8)).toNat : Int) ≤ (122 : Int)), ())
  else K (false, ())
  else K (false, ())
theorem wk_impl_IsValidAttrName (env : EnvB prog G Θ Γ_impl_IsValidAttrName) (h : ∀ (s : List UInt8), psInR sh_impl_IsValidAttrName (s, ()) → (True) → VC_impl_IsValidAttrName s fun r => r = ((Sp.okName s, ()))) : ConOK prog G n_impl_IsValidAttrName con_impl_IsValidAttrName :=
  conR_ok env mixed (fn := f71) (c := codeOf f71) (by kernel_rfl) (by kernel_rfl) H_impl_IsValidAttrName (by kernel_rfl) fun ⟨s, ⟨⟩⟩ hin hp =>
  Eq.mpr ((by kernel_rfl : awp Θ Γ_impl_IsValidAttrName H_impl_IsValidAttrName (codeOf f71) (endsV Θ f71.results.toList rsh_impl_IsValidAttrName fun r => r = (F_impl_IsValidAttrName (s, ())).2) (entry f71.ntmps (psVals sh_impl_IsValidAttrName (s, ()))) = VC_impl_IsValidAttrName s fun r => r = ((Sp.okName s, ())))) (h s hin hp)

def H_spec_FieldKind : Hints := Go.Fw.hints [] [(2, ⟨[], ⟨[(0, .one (.sl 26 (.cons .str (.cons (.int .i64) .nil)) false)), (1, .one (.str))], []⟩, ⟨[(5, .one (.int .i64))], []⟩⟩)] [] [] []
def VC_spec_FieldKind (s : List (List UInt8 × Int × Unit)) (name : List UInt8) (K : Int × Unit → Prop) : Prop :=
 let s0 := ((s, name, ()), ());
  ∃ (I : (Int × Unit) × Unit → Prop),
  ∃ (μ : (Int × Unit) × Unit → Nat),
  I (((0 : Int), ()), ()) ∧
  ∀ (y1 : (Int × Unit) × Unit),
  I y1 →
  bif decide (y1.1.1 < (↑s.length : Int)) then
  ((0 : Int) ≤ y1.1.1 ∧ y1.1.1 < (↑s.length : Int)) ∧
  bif (s.getD (Int.toNat y1.1.1) ([], (0 : Int), ())).1 == name then
  ((0 : Int) ≤ y1.1.1 ∧ y1.1.1 < (↑s.length : Int)) ∧ K ((s.getD (Int.toNat y1.1.1) ([], (0 : Int), ())).2.1, ())
  else s0 = s0 ∧ I ((IntKind.i64.wrap (y1.1.1 + (1 : Int)), ()), ()) ∧ μ ((IntKind.i64.wrap (y1.1.1 + (1 : Int)), ()), ()) < μ y1
  else K ((0 : Int), ())
theorem wk_spec_FieldKind (env : EnvB prog G Θ Γ_spec_FieldKind) (h : ∀ (s : List (List UInt8 × Int × Unit)) (name : List UInt8), psInR sh_spec_FieldKind (s, name, ()) → (True) → VC_spec_FieldKind s name fun r => r = ((Sp.kindOf s name, ()))) : ConOK prog G n_spec_FieldKind con_spec_FieldKind :=
  conR_ok env mixed (fn := f70) (c := codeOf f70) (by kernel_rfl) (by kernel_rfl) H_spec_FieldKind (by kernel_rfl) fun ⟨s, name, ⟨⟩⟩ hin hp =>
  Eq.mpr ((by kernel_rfl : awp Θ Γ_spec_FieldKind H_spec_FieldKind (codeOf f70) (endsV Θ f70.results.toList rsh_spec_FieldKind fun r => r = (F_spec_FieldKind (s, name, ())).2) (entry f70.ntmps (psVals sh_spec_FieldKind (s, name, ()))) = VC_spec_FieldKind s name fun r => r = ((Sp.kindOf s name, ())))) (h s name hin hp)

def H_impl_FieldKind : Hints := Go.Fw.hints [] [(2, ⟨[], ⟨[(1, .one (.str)), (7, .one (.sl 26 (.cons .str (.cons (.int .i64) .nil)) false)), (8, .one (.int .i64))], []⟩, ⟨[(9, .one (.int .i64))], []⟩⟩)] [] [] []
def VC_impl_FieldKind (s : List (List UInt8 × Int × Unit)) (name : List UInt8) (K : Int × Unit → Prop) : Prop :=
 let s0 := ((name, s, (↑s.length : Int), ()), ());
  ∃ (I : (Int × Unit) × Unit → Prop),
  ∃ (μ : (Int × Unit) × Unit → Nat),
  I (((0 : Int), ()), ()) ∧
  ∀ (y1 : (Int × Unit) × Unit),
  I y1 →
  bif decide (y1.1.1 < (↑s.length : Int)) then
  ((0 : Int) ≤ y1.1.1 ∧ y1.1.1 < (↑s.length : Int)) ∧
  bif (s.getD (Int.toNat y1.1.1) ([], (0 : Int), ())).1 == name then K ((s.getD (Int.toNat y1.1.1) ([], (0 : Int), ())).2.1, ())
  else s0 = s0 ∧ I ((IntKind.i64.wrap (y1.1.1 + (1 : Int)), ()), ()) ∧ μ ((IntKind.i64.wrap (y1.1.1 + (1 : Int)), ()), ()) < μ y1
  else K ((0 : Int), ())
theorem wk_impl_FieldKind (env : EnvB prog G Θ Γ_impl_FieldKind) (h : ∀ (s : List (List UInt8 × Int × Unit)) (name : List UInt8), psInR sh_impl_FieldKind (s, name, ()) → (True) → VC_impl_FieldKind s name fun r => r = ((Sp.kindOf s name, ()))) : ConOK prog G n_impl_FieldKind con_impl_FieldKind :=
  conR_ok env mixed (fn := f16) (c := codeOf f16) (by kernel_rfl) (by kernel_rfl) H_impl_FieldKind (by kernel_rfl) fun ⟨s, name, ⟨⟩⟩ hin hp =>
  Eq.mpr ((by kernel_rfl : awp Θ Γ_impl_FieldKind H_impl_FieldKind (codeOf f16) (endsV Θ f16.results.toList rsh_impl_FieldKind fun r => r = (F_impl_FieldKind (s, name, ())).2) (entry f16.ntmps (psVals sh_impl_FieldKind (s, name, ()))) = VC_impl_FieldKind s name fun r => r = ((Sp.kindOf s name, ())))) (h s name hin hp)

def H_spec_IsValidSchema : Hints := Go.Fw.hints [] [(2, ⟨[], ⟨[(0, .one (.sl 26 (.cons .str (.cons (.int .i64) .nil)) false))], []⟩, ⟨[(3, .one (.int .i64))], []⟩⟩)] [] [] []
def VC_spec_IsValidSchema (s : List (List UInt8 × Int × Unit)) (K : Bool × Unit → Prop) : Prop :=
 let s0 := ((s, ()), ());
  ∃ (I : (Int × Unit) × Unit → Prop),
  ∃ (μ : (Int × Unit) × Unit → Nat),
  I (((0 : Int), ()), ()) ∧
  ∀ (y1 : (Int × Unit) × Unit),
  I y1 →
  bif decide (y1.1.1 < (↑s.length : Int)) then
  ((0 : Int) ≤ y1.1.1 ∧ y1.1.1 < (↑s.length : Int)) ∧
  True ∧
 let r2 := Sp.okName (s.getD (Int.toNat y1.1.1) ([], (0 : Int), ())).1;
  bif !r2 then K (false, ())
  else
  ((0 : Int) ≤ y1.1.1 ∧ y1.1.1 < (↑s.length : Int)) ∧
  True ∧
 let r3 :=
  decide ((1 : Int) ≤ (s.getD (Int.toNat y1.1.1) ([], (0 : Int), ())).2.1) &&
  decide ((s.getD (Int.toNat y1.1.1) ([], (0 : Int), ())).2.1 ≤ (2 : Int));
  bif !r3 then K (false, ())
  else
  bif decide (y1.1.1 > (0 : Int)) then
  ((0 : Int) ≤ IntKind.i64.wrap (y1.1.1 - (1 : Int)) ∧ IntKind.i64.wrap (y1.1.1 - (1 : Int)) < (↑s.length : Int)) ∧
  ((0 : Int) ≤ y1.1.1 ∧ y1.1.1 < (↑s.length : Int)) ∧
  bif
  !Op.bytesLess (s.getD (IntKind.i64.wrap (y1.1.1 - (1 : Int))).toNat ([], (0 : Int), ())).1
  (s.getD (Int.toNat y1.1.1) ([], (0 : Int), ())).1 then
  K (false, ())
  else s0 = s0 ∧ I ((IntKind.i64.wrap (y1.1.1 + (1 : Int)), ()), ()) ∧ μ ((IntKind.i64.wrap (y1.1.1 + (1 : Int)), ()), ()) < μ y1
  else s0 = s0 ∧ I ((IntKind.i64.wrap (y1.1.1 + (1 : Int)), ()), ()) ∧ μ ((IntKind.i64.wrap (y1.1.1 + (1 : Int)), ()), ()) < μ y1
  else K (decide ((↑s.length : Int) ≤ (5 : Int)), ())
theorem wk_spec_IsValidSchema (env : EnvB prog G Θ Γ_spec_IsValidSchema) (h : ∀ (s : List (List UInt8 × Int × Unit)), psInR sh_spec_IsValidSchema (s, ()) → (True) → VC_spec_IsValidSchema s fun r => r = ((Sp.okSchema s, ()))) : ConOK prog G n_spec_IsValidSchema con_spec_IsValidSchema :=
  conR_ok env mixed (fn := f66) (c := codeOf f66) (by kernel_rfl) (by kernel_rfl) H_spec_IsValidSchema (by kernel_rfl) fun ⟨s, ⟨⟩⟩ hin hp =>
  Eq.mpr ((by kernel_rfl : awp Θ Γ_spec_IsValidSchema H_spec_IsValidSchema (codeOf f66) (endsV Θ f66.results.toList rsh_spec_IsValidSchema fun r => r = (F_spec_IsValidSchema (s, ())).2) (entry f66.ntmps (psVals sh_spec_IsValidSchema (s, ()))) = VC_spec_IsValidSchema s fun r => r = ((Sp.okSchema s, ())))) (h s hin hp)

def H_impl_IsValidSchema : Hints := Go.Fw.hints [] [(2, ⟨[], ⟨[(0, .one (.sl 26 (.cons .str (.cons (.int .i64) .nil)) false)), (5, .one (.sl 26 (.cons .str (.cons (.int .i64) .nil)) false)), (6, .one (.int .i64))], []⟩, ⟨[(7, .one (.int .i64))], []⟩⟩)] [] [] []
def VC_impl_IsValidSchema (s : List (List UInt8 × Int × Unit)) (K : Bool × Unit → Prop) : Prop :=
 let s0 := ((s, s, (↑s.length : Int), ()), ());
  ∃ (I : (Int × Unit) × Unit → Prop),
  ∃ (μ : (Int × Unit) × Unit → Nat),
  I (((0 : Int), ()), ()) ∧
  ∀ (y1 : (Int × Unit) × Unit),
  I y1 →
  bif decide (y1.1.1 < (↑s.length : Int)) then
  ((0 : Int) ≤ y1.1.1 ∧ y1.1.1 < (↑s.length : Int)) ∧
  True ∧
 let r2 := Sp.okName (s.getD (Int.toNat y1.1.1) ([], (0 : Int), ())).1;
  bif !r2 then K (false, ())
  else
  bif (s.getD (Int.toNat y1.1.1) ([], (0 : Int), ())).2.1 != (1 : Int) then
  bif (s.getD (Int.toNat y1.1.1) ([], (0 : Int), ())).2.1 != (2 : Int) then K (false, ())
  else
  bif decide (y1.1.1 > (0 : Int)) then
  ((0 : Int) ≤ IntKind.i64.wrap (y1.1.1 - (1 : Int)) ∧ IntKind.i64.wrap (y1.1.1 - (1 : Int)) < (↑s.length : Int)) ∧
  bif
  !Op.bytesLess (s.getD (IntKind.i64.wrap (y1.1.1 - (1 : Int))).toNat ([], (0 : Int), ())).1
  (s.getD (Int.toNat y1.1.1) ([], (0 : Int), ())).1 then
  K (false, ())
  else s0 = s0 ∧ I ((IntKind.i64.wrap (y1.1.1 + (1 : Int)), ()), ()) ∧ μ ((IntKind.i64.wrap (y1.1.1 + (1 : Int)), ()), ()) < μ y1
  else s0 = s0 ∧ I ((IntKind.i64.wrap (y1.1.1 + (1 : Int)), ()), ()) ∧ μ ((IntKind.i64.wrap (y1.1.1 + (1 : Int)), ()), ()) < μ y1
  else
  bif decide (y1.1.1 > (0 : Int)) then
  ((0 : Int) ≤ IntKind.i64.wrap (y1.1.1 - (1 : Int)) ∧ IntKind.i64.wrap (y1.1.1 - (1 : Int)) < (↑s.length : Int)) ∧
  bif
  !Op.bytesLess (s.getD (IntKind.i64.wrap (y1.1.1 - (1 : Int))).toNat ([], (0 : Int), ())).1
  (s.getD (Int.toNat y1.1.1) ([], (0 : Int), ())).1 then
  K (false, ())
  else s0 = s0 ∧ I ((IntKind.i64.wrap (y1.1.1 + (1 : Int)), ()), ()) ∧ μ ((IntKind.i64.wrap (y1.1.1 + (1 : Int)), ()), ()) < μ y1
  else s0 = s0 ∧ I ((IntKind.i64.wrap (y1.1.1 + (1 : Int)), ()), ()) ∧ μ ((IntKind.i64.wrap (y1.1.1 + (1 : Int)), ()), ()) < μ y1
  else K (decide ((↑s.length : Int) ≤ (5 : Int)), ())
theorem wk_impl_IsValidSchema (env : EnvB prog G Θ Γ_impl_IsValidSchema) (h : ∀ (s : List (List UInt8 × Int × Unit)), psInR sh_impl_IsValidSchema (s, ()) → (True) → VC_impl_IsValidSchema s fun r => r = ((Sp.okSchema s, ()))) : ConOK prog G n_impl_IsValidSchema con_impl_IsValidSchema :=
  conR_ok env mixed (fn := f17) (c := codeOf f17) (by kernel_rfl) (by kernel_rfl) H_impl_IsValidSchema (by kernel_rfl) fun ⟨s, ⟨⟩⟩ hin hp =>
  Eq.mpr ((by kernel_rfl : awp Θ Γ_impl_IsValidSchema H_impl_IsValidSchema (codeOf f17) (endsV Θ f17.results.toList rsh_impl_IsValidSchema fun r => r = (F_impl_IsValidSchema (s, ())).2) (entry f17.ntmps (psVals sh_impl_IsValidSchema (s, ()))) = VC_impl_IsValidSchema s fun r => r = ((Sp.okSchema s, ())))) (h s hin hp)

def H_laws_sameFields : Hints := Go.Fw.hints [] [(4, ⟨[], ⟨[(0, .one (.sl 26 (.cons .str (.cons (.int .i64) .nil)) false)), (1, .one (.sl 26 (.cons .str (.cons (.int .i64) .nil)) false))], []⟩, ⟨[(5, .one (.int .i64))], []⟩⟩)] [] [] []
def VC_laws_sameFields (a : List (List UInt8 × Int × Unit)) (b : List (List UInt8 × Int × Unit)) (K : Bool × Unit → Prop) : Prop :=
  bif (↑a.length : Int) != (↑b.length : Int) then K (false, ())
  else
 let s0 := ((a, b, ()), ());
  ∃ (I : (Int × Unit) × Unit → Prop),
  ∃ (μ : (Int × Unit) × Unit → Nat),
  I (((0 : Int), ()), ()) ∧
  ∀ (y1 : (Int × Unit) × Unit),
  I y1 →
  bif decide (y1.1.1 < (↑a.length : Int)) then
  ((0 : Int) ≤ y1.1.1 ∧ y1.1.1 < (↑a.length : Int)) ∧
  ((0 : Int) ≤ y1.1.1 ∧ y1.1.1 < (↑b.length : Int)) ∧
  bif
  !((a.getD (Int.toNat y1.1.1) ([], (0 : Int), ())).1 == (b.getD (Int.toNat y1.1.1) ([], (0 : Int), ())).1 &&
  ((a.getD (Int.toNat y1.1.1) ([], (0 : Int), ())).2.1 == (b.getD (Int.toNat y1.1.1) ([], (0 : Int), ())).2.1 && true)) then
  K (false, ())
  else s0 = s0 ∧ I ((IntKind.i64.wrap (y1.1.1 + (1 : Int)), ()), ()) ∧ μ ((IntKind.i64.wrap (y1.1.1 + (1 : Int)), ()), ()) < μ y1
  else K (true, ())
theorem wk_laws_sameFields (env : EnvB prog G Θ Γ_laws_sameFields) (h : ∀ (a : List (List UInt8 × Int × Unit)) (b : List (List UInt8 × Int × Unit)), psInR sh_laws_sameFields (a, b, ()) → (True) → VC_laws_sameFields a b fun r => r = ((decide (a = b), ()))) : ConOK prog G n_laws_sameFields con_laws_sameFields :=
  conR_ok env mixed (fn := f15) (c := codeOf f15) (by kernel_rfl) (by kernel_rfl) H_laws_sameFields (by kernel_rfl) fun ⟨a, b, ⟨⟩⟩ hin hp =>
  Eq.mpr ((by kernel_rfl : awp Θ Γ_laws_sameFields H_laws_sameFields (codeOf f15) (endsV Θ f15.results.toList rsh_laws_sameFields fun r => r = (F_laws_sameFields (a, b, ())).2) (entry f15.ntmps (psVals sh_laws_sameFields (a, b, ()))) = VC_laws_sameFields a b fun r => r = ((decide (a = b), ())))) (h a b hin hp)

def H_laws_big : Hints := Go.Fw.hints [] [] [] [] []
def VC_laws_big (code : List (Int × Unit)) (K : Bool × Unit → Prop) : Prop :=
  K (decide ((↑code.length : Int) > (1048576 : Int)), ())
theorem wk_laws_big (env : EnvB prog G Θ Γ_laws_big) (h : ∀ (code : List (Int × Unit)), psInR sh_laws_big (code, ()) → (True) → VC_laws_big code fun r => r = ((decide ((1048576 : Int) < (↑code.length : Int)), ()))) : ConOK prog G n_laws_big con_laws_big :=
  conR_ok env mixed (fn := f8) (c := codeOf f8) (by kernel_rfl) (by kernel_rfl) H_laws_big (by kernel_rfl) fun ⟨code, ⟨⟩⟩ hin hp =>
  Eq.mpr ((by kernel_rfl : awp Θ Γ_laws_big H_laws_big (codeOf f8) (endsV Θ f8.results.toList rsh_laws_big fun r => r = (F_laws_big (code, ())).2) (entry f8.ntmps (psVals sh_laws_big (code, ()))) = VC_laws_big code fun r => r = ((decide ((1048576 : Int) < (↑code.length : Int)), ())))) (h code hin hp)

def H_spec_AddField : Hints := Go.Fw.hints [9, 32] [(5, ⟨[], ⟨[(0, .one (.sl 26 (.cons .str (.cons (.int .i64) .nil)) false)), (3, .kptr [.str, .int .i64] 0), (6, .one (.ref 577))], [(577, .arr 26 (.cons .str (.cons (.int .i64) .nil)) true)]⟩, ⟨[(7, .one (.int .i64))], []⟩⟩)] [] [] []
def VC_spec_AddField (s : List (List UInt8 × Int × Unit)) (f0 : List UInt8) (f1 : Int) (K : List (List UInt8 × Int × Unit) × Bool × Unit → Prop) : Prop :=
  (0 : Nat) + s.length ≤ big ∧
  True ∧
  bif !Sp.okSchema s then K (s, false, ())
  else
 let s0 := ((s, (f0, f1, ()), (), ()), s, ());
  ∃ (I : (Int × Unit) × Unit → Prop),
  ∃ (μ : (Int × Unit) × Unit → Nat),
  I (((0 : Int), ()), ()) ∧
  ∀ (y1 : (Int × Unit) × Unit),
  I y1 →
  bif decide (y1.1.1 < (↑s.length : Int)) then
  ((0 : Int) ≤ y1.1.1 ∧ y1.1.1 < (↑s.length : Int)) ∧
  bif Op.bytesLess (s.getD (Int.toNat y1.1.1) ([], (0 : Int), ())).1 f0 then
  s0 = s0 ∧ I ((IntKind.i64.wrap (y1.1.1 + (1 : Int)), ()), ()) ∧ μ ((IntKind.i64.wrap (y1.1.1 + (1 : Int)), ()), ()) < μ y1
  else
  ((0 : Int) ≤ y1.1.1 ∧ y1.1.1 ≤ (↑s.length : Int)) ∧
  (0 : Nat) + (List.drop (0 : Nat) (List.take (Int.toNat y1.1.1) s)).length ≤ big ∧
  (List.drop (0 : Nat) (List.take (Int.toNat y1.1.1) s)).length + [(f0, f1, ())].length ≤ big ∧
  ((0 : Int) ≤ y1.1.1 ∧ y1.1.1 ≤ (↑s.length : Int)) ∧
  (List.drop (0 : Nat) (List.take (Int.toNat y1.1.1) s) ++ [(f0, f1, ())]).length +
  (List.drop (Int.toNat y1.1.1) (List.take s.length s)).length ≤
  big ∧
  True ∧
 let r2 :=
  Sp.okSchema
  (List.drop (0 : Nat) (List.take (Int.toNat y1.1.1) s) ++ [(f0, f1, ())] ++ List.drop (Int.toNat y1.1.1) (List.take s.length s));
  bif !r2 then K (s, false, ())
  else
  K
  (List.drop (0 : Nat) (List.take (Int.toNat y1.1.1) s) ++ [(f0, f1, ())] ++ List.drop (Int.toNat y1.1.1) (List.take s.length s), true,
  ())
  else
  ((0 : Int) ≤ y1.1.1 ∧ y1.1.1 ≤ (↑s.length : Int)) ∧
  (0 : Nat) + (List.drop (0 : Nat) (List.take (Int.toNat y1.1.1) s)).length ≤ big ∧
  (List.drop (0 : Nat) (List.take (Int.toNat y1.1.1) s)).length + [(f0, f1, ())].length ≤ big ∧
  ((0 : Int) ≤ y1.1.1 ∧ y1.1.1 ≤ (↑s.length : Int)) ∧
  (List.drop (0 : Nat) (List.take (Int.toNat y1.1.1) s) ++ [(f0, f1, ())]).length + (List.drop (Int.toNat y1.1.1) (List.take s.length s)).length ≤
  big ∧
  True ∧
 let r3 :=
  Sp.okSchema (List.drop (0 : Nat) (List.take (Int.toNat y1.1.1) s) ++ [(f0, f1, ())] ++ List.drop (Int.toNat y1.1.1) (List.take s.length s));
  bif !r3 then K (s, false, ())
  else
  K (List.drop (0 : Nat) (List.take (Int.toNat y1.1.1) s) ++ [(f0, f1, ())] ++ List.drop (Int.toNat y1.1.1) (List.take s.length s), true, ())
theorem wk_spec_AddField (env : EnvB prog G Θ Γ_spec_AddField) (h : ∀ (s : List (List UInt8 × Int × Unit)) (f0 : List UInt8) (f1 : Int), psInR sh_spec_AddField (s, (f0, f1, ()), ()) → (s.length ≤ (1000 : Nat)) → VC_spec_AddField s f0 f1 fun r => r = (((Sp.addField s (f0, f1, ())).1, (Sp.addField s (f0, f1, ())).2, ()))) : ConOK prog G n_spec_AddField con_spec_AddField :=
  conR_ok env mixed (fn := f11) (c := codeOf f11) (by kernel_rfl) (by kernel_rfl) H_spec_AddField (by kernel_rfl) fun ⟨s, ⟨f0, f1, ⟨⟩⟩, ⟨⟩⟩ hin hp =>
  Eq.mpr ((by kernel_rfl : awp Θ Γ_spec_AddField H_spec_AddField (codeOf f11) (endsV Θ f11.results.toList rsh_spec_AddField fun r => r = (F_spec_AddField (s, (f0, f1, ()), ())).2) (entry f11.ntmps (psVals sh_spec_AddField (s, (f0, f1, ()), ()))) = VC_spec_AddField s f0 f1 fun r => r = (((Sp.addField s (f0, f1, ())).1, (Sp.addField s (f0, f1, ())).2, ())))) (h s f0 f1 hin hp)

def H_spec_RemoveField : Hints := Go.Fw.hints [9, 22] [(6, ⟨[], ⟨[(0, .one (.sl 26 (.cons .str (.cons (.int .i64) .nil)) false)), (1, .one (.str))], []⟩, ⟨[(7, .one (.ref 1409)), (8, .one (.int .i64))], [(1409, .arr 26 (.cons .str (.cons (.int .i64) .nil)) true)]⟩⟩)] [(4, ⟨[], ⟨[(0, .one (.sl 26 (.cons .str (.cons (.int .i64) .nil)) false)), (1, .one (.str))], []⟩, ⟨[], []⟩⟩)] [] []
def VC_spec_RemoveField (s : List (List UInt8 × Int × Unit)) (name : List UInt8) (K : List (List UInt8 × Int × Unit) × Bool × Unit → Prop) : Prop :=
  (0 : Nat) + s.length ≤ big ∧
 let s0 := ((s, name, ()), ());
  ∃ (J : Unit × Unit → Prop),
  (True ∧ bif !Sp.okSchema s then K (s, false, ()) else True ∧ bif Sp.kindOf s name == (0 : Int) then K (s, false, ()) else s0 = s0 ∧ J ((), ())) ∧
  ∀ (y1 : Unit × Unit),
  J y1 →
 let s2 := ((s, name, ()), ());
  ∃ (I : (Unit × Int × Unit) × List (List UInt8 × Int × Unit) × Unit → Prop),
  ∃ (μ : (Unit × Int × Unit) × List (List UInt8 × Int × Unit) × Unit → Nat),
  I (((), (0 : Int), ()), [], ()) ∧
  ∀ (y3 : (Unit × Int × Unit) × List (List UInt8 × Int × Unit) × Unit),
  I y3 →
  bif decide (y3.1.2.1 < (↑s.length : Int)) then
  ((0 : Int) ≤ y3.1.2.1 ∧ y3.1.2.1 < (↑s.length : Int)) ∧
  bif !(s.getD (Int.toNat y3.1.2.1) ([], (0 : Int), ())).1 == name then
  ((0 : Int) ≤ y3.1.2.1 ∧ y3.1.2.1 < (↑s.length : Int)) ∧
  List.length y3.2.1 +
  [((s.getD (Int.toNat y3.1.2.1) ([], (0 : Int), ())).1, (s.getD (Int.toNat y3.1.2.1) ([], (0 : Int), ())).2.1, ())].length ≤
  big ∧
  s2 = s2 ∧
  I
  (((), IntKind.i64.wrap (y3.1.2.1 + (1 : Int)), ()),
  y3.2.1 ++
  [((s.getD (Int.toNat y3.1.2.1) ([], (0 : Int), ())).1, (s.getD (Int.toNat y3.1.2.1) ([], (0 : Int), ())).2.1, ())],
  ()) ∧
  μ
  (((), IntKind.i64.wrap (y3.1.2.1 + (1 : Int)), ()),
  y3.2.1 ++
  [((s.getD (Int.toNat y3.1.2.1) ([], (0 : Int), ())).1, (s.getD (Int.toNat y3.1.2.1) ([], (0 : Int), ())).2.1, ())],
  ()) <
  μ y3
  else
  s2 = s2 ∧
  I (((), IntKind.i64.wrap (y3.1.2.1 + (1 : Int)), ()), y3.2.1, ()) ∧
  μ (((), IntKind.i64.wrap (y3.1.2.1 + (1 : Int)), ()), y3.2.1, ()) < μ y3
  else K (y3.2.1, true, ())
theorem wk_spec_RemoveField (env : EnvB prog G Θ Γ_spec_RemoveField) (h : ∀ (s : List (List UInt8 × Int × Unit)) (name : List UInt8), psInR sh_spec_RemoveField (s, name, ()) → (s.length ≤ (1000 : Nat)) → VC_spec_RemoveField s name fun r => r = (((Sp.removeField s name).1, (Sp.removeField s name).2, ()))) : ConOK prog G n_spec_RemoveField con_spec_RemoveField :=
  conR_ok env mixed (fn := f14) (c := codeOf f14) (by kernel_rfl) (by kernel_rfl) H_spec_RemoveField (by kernel_rfl) fun ⟨s, name, ⟨⟩⟩ hin hp =>
  Eq.mpr ((by kernel_rfl : awp Θ Γ_spec_RemoveField H_spec_RemoveField (codeOf f14) (endsV Θ f14.results.toList rsh_spec_RemoveField fun r => r = (F_spec_RemoveField (s, name, ())).2) (entry f14.ntmps (psVals sh_spec_RemoveField (s, name, ()))) = VC_spec_RemoveField s name fun r => r = (((Sp.removeField s name).1, (Sp.removeField s name).2, ())))) (h s name hin hp)

def H_impl_hasField_1 : Hints := Go.Fw.hints [] [] [] [] []
def VC_impl_hasField_1 (f0 : List UInt8) (f1 : Int) (p10 : List UInt8) (K : Bool × Unit → Prop) : Prop :=
  K (f0 == p10, ())
theorem wk_impl_hasField_1 (env : EnvB prog G Θ Γ_impl_hasField_1) (h : ∀ (f0 : List UInt8) (f1 : Int) (p10 : List UInt8), psInR sh_impl_hasField_1 ((f0, f1, ()), (p10, ()), ()) → (True) → VC_impl_hasField_1 f0 f1 p10 fun r => r = ((f0 == p10, ()))) : ConOK prog G n_impl_hasField_1 con_impl_hasField_1 :=
  conR_ok env mixed (fn := f103) (c := codeOf f103) (by kernel_rfl) (by kernel_rfl) H_impl_hasField_1 (by kernel_rfl) fun ⟨⟨f0, f1, ⟨⟩⟩, ⟨p10, ⟨⟩⟩, ⟨⟩⟩ hin hp =>
  Eq.mpr ((by kernel_rfl : awp Θ Γ_impl_hasField_1 H_impl_hasField_1 (codeOf f103) (endsV Θ f103.results.toList rsh_impl_hasField_1 fun r => r = (F_impl_hasField_1 ((f0, f1, ()), (p10, ()), ())).2) (entry f103.ntmps (psVals sh_impl_hasField_1 ((f0, f1, ()), (p10, ()), ()))) = VC_impl_hasField_1 f0 f1 p10 fun r => r = ((f0 == p10, ())))) (h f0 f1 p10 hin hp)

def H_slices_IndexFunc_impl_Field__impl_hasField_1 : Hints := Go.Fw.hints [] [(2, ⟨[], ⟨[(0, .one (.sl 26 (.cons .str (.cons (.int .i64) .nil)) false)), (1, .fn 103 [[.str]]), (7, .one (.int .i64))], []⟩, ⟨[(8, .one (.int .i64))], []⟩⟩)] [] [] []
def VC_slices_IndexFunc_impl_Field__impl_hasField_1 (s : List (List UInt8 × Int × Unit)) (f0_0 : List UInt8) (K : Int × Unit → Prop) : Prop :=
 let s0 := ((s, ((f0_0, ()), ()), (↑s.length : Int), ()), ());
  ∃ (I : (Int × Unit) × Unit → Prop),
  ∃ (μ : (Int × Unit) × Unit → Nat),
  I (((0 : Int), ()), ()) ∧
  ∀ (y1 : (Int × Unit) × Unit),
  I y1 →
  bif decide (y1.1.1 < (↑s.length : Int)) then
  ((0 : Int) ≤ y1.1.1 ∧ y1.1.1 < (↑s.length : Int)) ∧
  True ∧
 let r2 := (s.getD (Int.toNat y1.1.1) ([], (0 : Int), ())).1 == f0_0;
  bif r2 then K (y1.1.1, ())
  else s0 = s0 ∧ I ((IntKind.i64.wrap (y1.1.1 + (1 : Int)), ()), ()) ∧ μ ((IntKind.i64.wrap (y1.1.1 + (1 : Int)), ()), ()) < μ y1
  else K ((-1 : Int), ())
theorem wk_slices_IndexFunc_impl_Field__impl_hasField_1 (env : EnvB prog G Θ Γ_slices_IndexFunc_impl_Field__impl_hasField_1) (h : ∀ (s : List (List UInt8 × Int × Unit)) (f0_0 : List UInt8), psInR sh_slices_IndexFunc_impl_Field__impl_hasField_1 (s, ((f0_0, ()), ()), ()) → (True) → VC_slices_IndexFunc_impl_Field__impl_hasField_1 s f0_0 fun r => r = ((Sp.fieldPlace s f0_0, ()))) : ConOK prog G n_slices_IndexFunc_impl_Field__impl_hasField_1 con_slices_IndexFunc_impl_Field__impl_hasField_1 :=
  conR_ok env mixed (fn := f63) (c := codeOf f63) (by kernel_rfl) (by kernel_rfl) H_slices_IndexFunc_impl_Field__impl_hasField_1 (by kernel_rfl) fun ⟨s, ⟨⟨f0_0, ⟨⟩⟩, ⟨⟩⟩, ⟨⟩⟩ hin hp =>
  Eq.mpr ((by kernel_rfl : awp Θ Γ_slices_IndexFunc_impl_Field__impl_hasField_1 H_slices_IndexFunc_impl_Field__impl_hasField_1 (codeOf f63) (endsV Θ f63.results.toList rsh_slices_IndexFunc_impl_Field__impl_hasField_1 fun r => r = (F_slices_IndexFunc_impl_Field__impl_hasField_1 (s, ((f0_0, ()), ()), ())).2) (entry f63.ntmps (psVals sh_slices_IndexFunc_impl_Field__impl_hasField_1 (s, ((f0_0, ()), ()), ()))) = VC_slices_IndexFunc_impl_Field__impl_hasField_1 s f0_0 fun r => r = ((Sp.fieldPlace s f0_0, ())))) (h s f0_0 hin hp)

def H_slices_ContainsFunc_impl_Field__impl_hasField_1 : Hints := Go.Fw.hints [] [] [] [] []
def VC_slices_ContainsFunc_impl_Field__impl_hasField_1 (s : List (List UInt8 × Int × Unit)) (f0_0 : List UInt8) (K : Bool × Unit → Prop) : Prop :=
  True ∧ K (decide (Sp.fieldPlace s f0_0 ≥ (0 : Int)), ())
theorem wk_slices_ContainsFunc_impl_Field__impl_hasField_1 (env : EnvB prog G Θ Γ_slices_ContainsFunc_impl_Field__impl_hasField_1) (h : ∀ (s : List (List UInt8 × Int × Unit)) (f0_0 : List UInt8), psInR sh_slices_ContainsFunc_impl_Field__impl_hasField_1 (s, ((f0_0, ()), ()), ()) → (True) → VC_slices_ContainsFunc_impl_Field__impl_hasField_1 s f0_0 fun r => r = ((!decide (Sp.fieldPlace s f0_0 < (0 : Int)), ()))) : ConOK prog G n_slices_ContainsFunc_impl_Field__impl_hasField_1 con_slices_ContainsFunc_impl_Field__impl_hasField_1 :=
  conR_ok env mixed (fn := f102) (c := codeOf f102) (by kernel_rfl) (by kernel_rfl) H_slices_ContainsFunc_impl_Field__impl_hasField_1 (by kernel_rfl) fun ⟨s, ⟨⟨f0_0, ⟨⟩⟩, ⟨⟩⟩, ⟨⟩⟩ hin hp =>
  Eq.mpr ((by kernel_rfl : awp Θ Γ_slices_ContainsFunc_impl_Field__impl_hasField_1 H_slices_ContainsFunc_impl_Field__impl_hasField_1 (codeOf f102) (endsV Θ f102.results.toList rsh_slices_ContainsFunc_impl_Field__impl_hasField_1 fun r => r = (F_slices_ContainsFunc_impl_Field__impl_hasField_1 (s, ((f0_0, ()), ()), ())).2) (entry f102.ntmps (psVals sh_slices_ContainsFunc_impl_Field__impl_hasField_1 (s, ((f0_0, ()), ()), ()))) = VC_slices_ContainsFunc_impl_Field__impl_hasField_1 s f0_0 fun r => r = ((!decide (Sp.fieldPlace s f0_0 < (0 : Int)), ())))) (h s f0_0 hin hp)

def H_impl_hasField : Hints := Go.Fw.hints [] [] [] [] []
def VC_impl_hasField (s : List (List UInt8 × Int × Unit)) (name : List UInt8) (K : Bool × Unit → Prop) : Prop :=
  True ∧
 let r0 := !decide (Sp.fieldPlace s name < (0 : Int));
  K (r0, ())
theorem wk_impl_hasField (env : EnvB prog G Θ Γ_impl_hasField) (h : ∀ (s : List (List UInt8 × Int × Unit)) (name : List UInt8), psInR sh_impl_hasField (s, name, ()) → (True) → VC_impl_hasField s name fun r => r = ((!decide (Sp.fieldPlace s name < (0 : Int)), ()))) : ConOK prog G n_impl_hasField con_impl_hasField :=
  conR_ok env mixed (fn := f62) (c := codeOf f62) (by kernel_rfl) (by kernel_rfl) H_impl_hasField (by kernel_rfl) fun ⟨s, name, ⟨⟩⟩ hin hp =>
  Eq.mpr ((by kernel_rfl : awp Θ Γ_impl_hasField H_impl_hasField (codeOf f62) (endsV Θ f62.results.toList rsh_impl_hasField fun r => r = (F_impl_hasField (s, name, ())).2) (entry f62.ntmps (psVals sh_impl_hasField (s, name, ()))) = VC_impl_hasField s name fun r => r = ((!decide (Sp.fieldPlace s name < (0 : Int)), ())))) (h s name hin hp)

def H_impl_AddField_1 : Hints := Go.Fw.hints [] [] [] [] []
def VC_impl_AddField_1 (x0 : List UInt8) (x1 : Int) (p10 : List UInt8) (p11 : Int) (K : Bool × Unit → Prop) : Prop :=
  K (!(Op.bytesLess x0 p10 || x0 == p10), ())
theorem wk_impl_AddField_1 (env : EnvB prog G Θ Γ_impl_AddField_1) (h : ∀ (x0 : List UInt8) (x1 : Int) (p10 : List UInt8) (p11 : Int), psInR sh_impl_AddField_1 ((x0, x1, ()), (p10, p11, ()), ()) → (True) → VC_impl_AddField_1 x0 x1 p10 p11 fun r => r = ((Op.bytesLess p10 x0, ()))) : ConOK prog G n_impl_AddField_1 con_impl_AddField_1 :=
  conR_ok env mixed (fn := f64) (c := codeOf f64) (by kernel_rfl) (by kernel_rfl) H_impl_AddField_1 (by kernel_rfl) fun ⟨⟨x0, x1, ⟨⟩⟩, ⟨p10, p11, ⟨⟩⟩, ⟨⟩⟩ hin hp =>
  Eq.mpr ((by kernel_rfl : awp Θ Γ_impl_AddField_1 H_impl_AddField_1 (codeOf f64) (endsV Θ f64.results.toList rsh_impl_AddField_1 fun r => r = (F_impl_AddField_1 ((x0, x1, ()), (p10, p11, ()), ())).2) (entry f64.ntmps (psVals sh_impl_AddField_1 ((x0, x1, ()), (p10, p11, ()), ()))) = VC_impl_AddField_1 x0 x1 p10 p11 fun r => r = ((Op.bytesLess p10 x0, ())))) (h x0 x1 p10 p11 hin hp)

def H_slices_IndexFunc_impl_Field__impl_AddField_1 : Hints := Go.Fw.hints [] [(2, ⟨[], ⟨[(0, .one (.sl 26 (.cons .str (.cons (.int .i64) .nil)) false)), (1, .fn 64 [[.str, .int .i64]]), (7, .one (.int .i64))], []⟩, ⟨[(8, .one (.int .i64))], []⟩⟩)] [] [] []
def VC_slices_IndexFunc_impl_Field__impl_AddField_1 (s : List (List UInt8 × Int × Unit)) (f0_0 : List UInt8) (f0_1 : Int) (K : Int × Unit → Prop) : Prop :=
 let s0 := ((s, ((f0_0, f0_1, ()), ()), (↑s.length : Int), ()), ());
  ∃ (I : (Int × Unit) × Unit → Prop),
  ∃ (μ : (Int × Unit) × Unit → Nat),
  I (((0 : Int), ()), ()) ∧
  ∀ (y1 : (Int × Unit) × Unit),
  I y1 →
  bif decide (y1.1.1 < (↑s.length : Int)) then
  ((0 : Int) ≤ y1.1.1 ∧ y1.1.1 < (↑s.length : Int)) ∧
  True ∧
 let r2 := Op.bytesLess f0_0 (s.getD (Int.toNat y1.1.1) ([], (0 : Int), ())).1;
  bif r2 then K (y1.1.1, ())
  else s0 = s0 ∧ I ((IntKind.i64.wrap (y1.1.1 + (1 : Int)), ()), ()) ∧ μ ((IntKind.i64.wrap (y1.1.1 + (1 : Int)), ()), ()) < μ y1
  else K ((-1 : Int), ())
theorem wk_slices_IndexFunc_impl_Field__impl_AddField_1 (env : EnvB prog G Θ Γ_slices_IndexFunc_impl_Field__impl_AddField_1) (h : ∀ (s : List (List UInt8 × Int × Unit)) (f0_0 : List UInt8) (f0_1 : Int), psInR sh_slices_IndexFunc_impl_Field__impl_AddField_1 (s, ((f0_0, f0_1, ()), ()), ()) → (True) → VC_slices_IndexFunc_impl_Field__impl_AddField_1 s f0_0 f0_1 fun r => r = ((Sp.fieldAbove s f0_0, ()))) : ConOK prog G n_slices_IndexFunc_impl_Field__impl_AddField_1 con_slices_IndexFunc_impl_Field__impl_AddField_1 :=
  conR_ok env mixed (fn := f63) (c := codeOf f63) (by kernel_rfl) (by kernel_rfl) H_slices_IndexFunc_impl_Field__impl_AddField_1 (by kernel_rfl) fun ⟨s, ⟨⟨f0_0, f0_1, ⟨⟩⟩, ⟨⟩⟩, ⟨⟩⟩ hin hp =>
  Eq.mpr ((by kernel_rfl : awp Θ Γ_slices_IndexFunc_impl_Field__impl_AddField_1 H_slices_IndexFunc_impl_Field__impl_AddField_1 (codeOf f63) (endsV Θ f63.results.toList rsh_slices_IndexFunc_impl_Field__impl_AddField_1 fun r => r = (F_slices_IndexFunc_impl_Field__impl_AddField_1 (s, ((f0_0, f0_1, ()), ()), ())).2) (entry f63.ntmps (psVals sh_slices_IndexFunc_impl_Field__impl_AddField_1 (s, ((f0_0, f0_1, ()), ()), ()))) = VC_slices_IndexFunc_impl_Field__impl_AddField_1 s f0_0 f0_1 fun r => r = ((Sp.fieldAbove s f0_0, ())))) (h s f0_0 f0_1 hin hp)

def H_impl_RemoveField_1 : Hints := Go.Fw.hints [] [] [] [] []
def VC_impl_RemoveField_1 (f0 : List UInt8) (f1 : Int) (p10 : List UInt8) (K : Bool × Unit → Prop) : Prop :=
  K (f0 == p10, ())
theorem wk_impl_RemoveField_1 (env : EnvB prog G Θ Γ_impl_RemoveField_1) (h : ∀ (f0 : List UInt8) (f1 : Int) (p10 : List UInt8), psInR sh_impl_RemoveField_1 ((f0, f1, ()), (p10, ()), ()) → (True) → VC_impl_RemoveField_1 f0 f1 p10 fun r => r = ((f0 == p10, ()))) : ConOK prog G n_impl_RemoveField_1 con_impl_RemoveField_1 :=
  conR_ok env mixed (fn := f69) (c := codeOf f69) (by kernel_rfl) (by kernel_rfl) H_impl_RemoveField_1 (by kernel_rfl) fun ⟨⟨f0, f1, ⟨⟩⟩, ⟨p10, ⟨⟩⟩, ⟨⟩⟩ hin hp =>
  Eq.mpr ((by kernel_rfl : awp Θ Γ_impl_RemoveField_1 H_impl_RemoveField_1 (codeOf f69) (endsV Θ f69.results.toList rsh_impl_RemoveField_1 fun r => r = (F_impl_RemoveField_1 ((f0, f1, ()), (p10, ()), ())).2) (entry f69.ntmps (psVals sh_impl_RemoveField_1 ((f0, f1, ()), (p10, ()), ()))) = VC_impl_RemoveField_1 f0 f1 p10 fun r => r = ((f0 == p10, ())))) (h f0 f1 p10 hin hp)

def H_slices_IndexFunc_impl_Field__impl_RemoveField_1 : Hints := Go.Fw.hints [] [(2, ⟨[], ⟨[(0, .one (.sl 26 (.cons .str (.cons (.int .i64) .nil)) false)), (1, .fn 69 [[.str]]), (7, .one (.int .i64))], []⟩, ⟨[(8, .one (.int .i64))], []⟩⟩)] [] [] []
def VC_slices_IndexFunc_impl_Field__impl_RemoveField_1 (s : List (List UInt8 × Int × Unit)) (f0_0 : List UInt8) (K : Int × Unit → Prop) : Prop :=
 let s0 := ((s, ((f0_0, ()), ()), (↑s.length : Int), ()), ());
  ∃ (I : (Int × Unit) × Unit → Prop),
  ∃ (μ : (Int × Unit) × Unit → Nat),
  I (((0 : Int), ()), ()) ∧
  ∀ (y1 : (Int × Unit) × Unit),
  I y1 →
  bif decide (y1.1.1 < (↑s.length : Int)) then
  ((0 : Int) ≤ y1.1.1 ∧ y1.1.1 < (↑s.length : Int)) ∧
  True ∧
 let r2 := (s.getD (Int.toNat y1.1.1) ([], (0 : Int), ())).1 == f0_0;
  bif r2 then K (y1.1.1, ())
  else s0 = s0 ∧ I ((IntKind.i64.wrap (y1.1.1 + (1 : Int)), ()), ()) ∧ μ ((IntKind.i64.wrap (y1.1.1 + (1 : Int)), ()), ()) < μ y1
  else K ((-1 : Int), ())
theorem wk_slices_IndexFunc_impl_Field__impl_RemoveField_1 (env : EnvB prog G Θ Γ_slices_IndexFunc_impl_Field__impl_RemoveField_1) (h : ∀ (s : List (List UInt8 × Int × Unit)) (f0_0 : List UInt8), psInR sh_slices_IndexFunc_impl_Field__impl_RemoveField_1 (s, ((f0_0, ()), ()), ()) → (True) → VC_slices_IndexFunc_impl_Field__impl_RemoveField_1 s f0_0 fun r => r = ((Sp.fieldPlace s f0_0, ()))) : ConOK prog G n_slices_IndexFunc_impl_Field__impl_RemoveField_1 con_slices_IndexFunc_impl_Field__impl_RemoveField_1 :=
  conR_ok env mixed (fn := f63) (c := codeOf f63) (by kernel_rfl) (by kernel_rfl) H_slices_IndexFunc_impl_Field__impl_RemoveField_1 (by kernel_rfl) fun ⟨s, ⟨⟨f0_0, ⟨⟩⟩, ⟨⟩⟩, ⟨⟩⟩ hin hp =>
  Eq.mpr ((by kernel_rfl : awp Θ Γ_slices_IndexFunc_impl_Field__impl_RemoveField_1 H_slices_IndexFunc_impl_Field__impl_RemoveField_1 (codeOf f63) (endsV Θ f63.results.toList rsh_slices_IndexFunc_impl_Field__impl_RemoveField_1 fun r => r = (F_slices_IndexFunc_impl_Field__impl_RemoveField_1 (s, ((f0_0, ()), ()), ())).2) (entry f63.ntmps (psVals sh_slices_IndexFunc_impl_Field__impl_RemoveField_1 (s, ((f0_0, ()), ()), ()))) = VC_slices_IndexFunc_impl_Field__impl_RemoveField_1 s f0_0 fun r => r = ((Sp.fieldPlace s f0_0, ())))) (h s f0_0 hin hp)

def H_slices_DeleteFunc_impl_Field__impl_RemoveField_1 : Hints := Go.Fw.hints [10, 28] [(5, ⟨[], ⟨[(0, .one (.ref 49)), (1, .fn 69 [[.str]])], []⟩, ⟨[(5, .one (.int .i64)), (6, .one (.int .i64))], [(49, .arr 26 (.cons .str (.cons (.int .i64) .nil)) false)]⟩⟩)] [] [] [(12, [.closes 0]), (11, [.opens 0])]
def VC_slices_DeleteFunc_impl_Field__impl_RemoveField_1 (s : List (List UInt8 × Int × Unit)) (del0_0 : List UInt8) (K : (List (List UInt8 × Int × Unit) × Unit) × Unit → Prop) : Prop :=
  True ∧
  bif Sp.fieldPlace s del0_0 == (-1 : Int) then K ((s, ()), ())
  else
 let s0 := (((), ((del0_0, ()), ()), ()), ());
  ∃ (I : (Int × Int × Unit) × List (List UInt8 × Int × Unit) × Unit → Prop),
  ∃ (μ : (Int × Int × Unit) × List (List UInt8 × Int × Unit) × Unit → Nat),
  I ((Sp.fieldPlace s del0_0, IntKind.i64.wrap (Sp.fieldPlace s del0_0 + (1 : Int)), ()), s, ()) ∧
  ∀ (y1 : (Int × Int × Unit) × List (List UInt8 × Int × Unit) × Unit),
  I y1 →
  bif decide (y1.1.2.1 < (↑(List.length y1.2.1) : Int)) then
  ((0 : Int) ≤ y1.1.2.1 ∧ y1.1.2.1 < (↑(List.length y1.2.1) : Int)) ∧
  Int.toNat y1.1.2.1 < List.length y1.2.1 ∧
  True ∧
 let r2 := (List.getD y1.2.1 (Int.toNat y1.1.2.1) ([], (0 : Int), ())).1 == del0_0;
  bif !r2 then
  ((0 : Int) ≤ y1.1.1 ∧ y1.1.1 < (↑(List.length y1.2.1) : Int)) ∧
  Int.toNat y1.1.1 < List.length y1.2.1 ∧
  s0 = s0 ∧
  I
  ((IntKind.i64.wrap (y1.1.1 + (1 : Int)), IntKind.i64.wrap (y1.1.2.1 + (1 : Int)), ()),
  List.set y1.2.1 (Int.toNat y1.1.1)
  ((List.getD y1.2.1 (Int.toNat y1.1.2.1) ([], (0 : Int), ())).1,
  (List.getD y1.2.1 (Int.toNat y1.1.2.1) ([], (0 : Int), ())).2.1, ()),
  ()) ∧
  μ
  ((IntKind.i64.wrap (y1.1.1 + (1 : Int)), IntKind.i64.wrap (y1.1.2.1 + (1 : Int)), ()),
  List.set y1.2.1 (Int.toNat y1.1.1)
  ((List.getD y1.2.1 (Int.toNat y1.1.2.1) ([], (0 : Int), ())).1,
  (List.getD y1.2.1 (Int.toNat y1.1.2.1) ([], (0 : Int), ())).2.1, ()),
  ()) <
  μ y1
  else
  s0 = s0 ∧
  I ((y1.1.1, IntKind.i64.wrap (y1.1.2.1 + (1 : Int)), ()), y1.2.1, ()) ∧
  μ ((y1.1.1, IntKind.i64.wrap (y1.1.2.1 + (1 : Int)), ()), y1.2.1, ()) < μ y1
  else
  (0 : Nat) < List.length y1.2.1 ∧
  ((0 : Int) ≤ y1.1.1 ∧ y1.1.1 ≤ (↑(List.length y1.2.1) : Int)) ∧
  (0 : Nat) + Int.toNat y1.1.1 + (List.length y1.2.1 - Int.toNat y1.1.1) ≤ List.length y1.2.1 ∧
  ((0 : Nat) <
  (overRows y1.2.1 ((0 : Nat) + Int.toNat y1.1.1) (List.replicate (List.length y1.2.1 - Int.toNat y1.1.1) ([], (0 : Int), ()))).length ∧
  List.length y1.2.1 ≤
  (overRows y1.2.1 ((0 : Nat) + Int.toNat y1.1.1) (List.replicate (List.length y1.2.1 - Int.toNat y1.1.1) ([], (0 : Int), ()))).length) ∧
  ((0 : Int) ≤ y1.1.1 ∧
  y1.1.1 ≤
  (↑(List.take (List.length y1.2.1)
  (overRows y1.2.1 ((0 : Nat) + Int.toNat y1.1.1)
  (List.replicate (List.length y1.2.1 - Int.toNat y1.1.1) ([], (0 : Int), ())))).length :
  Int)) ∧
  K
  ((List.take (Int.toNat y1.1.1)
  (List.take (List.length y1.2.1)
  (overRows y1.2.1 ((0 : Nat) + Int.toNat y1.1.1) (List.replicate (List.length y1.2.1 - Int.toNat y1.1.1) ([], (0 : Int), ())))),
  ()),
  ())
theorem wk_slices_DeleteFunc_impl_Field__impl_RemoveField_1 (env : EnvB prog G Θ Γ_slices_DeleteFunc_impl_Field__impl_RemoveField_1) (hne : ∀ x, (F_slices_DeleteFunc_impl_Field__impl_RemoveField_1 x).1 → ∃ t, (F_slices_DeleteFunc_impl_Field__impl_RemoveField_1 x).2 t) (h : ∀ (s : List (List UInt8 × Int × Unit)) (del0_0 : List UInt8), xsInR sh_slices_DeleteFunc_impl_Field__impl_RemoveField_1 (s, ((del0_0, ()), ()), ()) → (s.length ≤ (1000 : Nat)) → VC_slices_DeleteFunc_impl_Field__impl_RemoveField_1 s del0_0 fun (r : (List (List UInt8 × Int × Unit) × Unit) × Unit) => (s.length ≤ (1000 : Nat), fun (x : (List (List UInt8 × Int × Unit) × Unit) × Unit) => x.1.1 = List.filter (Sp.notField del0_0) s).2 r) : XConOK prog G n_slices_DeleteFunc_impl_Field__impl_RemoveField_1 con_slices_DeleteFunc_impl_Field__impl_RemoveField_1 :=
  conX_ok env mixed (fn := f68) (c := codeOf f68) (by kernel_rfl) (by kernel_rfl) H_slices_DeleteFunc_impl_Field__impl_RemoveField_1 (by kernel_rfl) hne fun ⟨s, ⟨⟨del0_0, ⟨⟩⟩, ⟨⟩⟩, ⟨⟩⟩ hin hp =>
  Eq.mpr ((by kernel_rfl : awp Θ Γ_slices_DeleteFunc_impl_Field__impl_RemoveField_1 H_slices_DeleteFunc_impl_Field__impl_RemoveField_1 (codeOf f68) (endsX Θ f68.results.toList sh_slices_DeleteFunc_impl_Field__impl_RemoveField_1 rsh_slices_DeleteFunc_impl_Field__impl_RemoveField_1 (F_slices_DeleteFunc_impl_Field__impl_RemoveField_1 (s, ((del0_0, ()), ()), ())).2) (entryX f68.ntmps (xsVals sh_slices_DeleteFunc_impl_Field__impl_RemoveField_1 (s, ((del0_0, ()), ()), ()))) = VC_slices_DeleteFunc_impl_Field__impl_RemoveField_1 s del0_0 fun (r : (List (List UInt8 × Int × Unit) × Unit) × Unit) => (s.length ≤ (1000 : Nat), fun (x : (List (List UInt8 × Int × Unit) × Unit) × Unit) => x.1.1 = List.filter (Sp.notField del0_0) s).2 r)) (h s del0_0 hin hp)

def H_impl_RemoveField : Hints := Go.Fw.hints [18] [] [] [] []
def VC_impl_RemoveField (s : List (List UInt8 × Int × Unit)) (name : List UInt8) (K : (List (List UInt8 × Int × Unit) × Bool × Unit) × Unit → Prop) : Prop :=
  True ∧
  bif !Sp.okSchema s then s.length ≤ (1000 : Nat) ∧ ∀ (r0 : (List (List UInt8 × Int × Unit) × Unit) × Unit), r0.1.1 = s → K ((r0.1.1, false, ()), ())
  else
  True ∧
 let r1 := !decide (Sp.fieldPlace s name < (0 : Int));
  bif !r1 then s.length ≤ (1000 : Nat) ∧ ∀ (r2 : (List (List UInt8 × Int × Unit) × Unit) × Unit), r2.1.1 = s → K ((r2.1.1, false, ()), ())
  else
  s.length ≤ (1000 : Nat) ∧
  ∀ (r3 : (List (List UInt8 × Int × Unit) × Unit) × Unit),
  r3.1.1 = s →
  List.length r3.1.1 ≤ (1000 : Nat) ∧
  ∀ (r4 : (List (List UInt8 × Int × Unit) × Unit) × Unit), r4.1.1 = List.filter (Sp.notField name) r3.1.1 → K ((r4.1.1, true, ()), ())
theorem wk_impl_RemoveField (env : EnvB prog G Θ Γ_impl_RemoveField) (hne : ∀ x, (F_impl_RemoveField x).1 → ∃ t, (F_impl_RemoveField x).2 t) (h : ∀ (s : List (List UInt8 × Int × Unit)) (name : List UInt8), xsInR sh_impl_RemoveField (s, name, ()) → (s.length ≤ (1000 : Nat)) → VC_impl_RemoveField s name fun (r : (List (List UInt8 × Int × Unit) × Bool × Unit) × Unit) => (s.length ≤ (1000 : Nat), fun (x : (List (List UInt8 × Int × Unit) × Bool × Unit) × Unit) => x.1.1 = (Sp.removeField s name).1 ∧ x.1.2.1 = (Sp.removeField s name).2).2 r) : XConOK prog G n_impl_RemoveField con_impl_RemoveField :=
  conX_ok env mixed (fn := f13) (c := codeOf f13) (by kernel_rfl) (by kernel_rfl) H_impl_RemoveField (by kernel_rfl) hne fun ⟨s, name, ⟨⟩⟩ hin hp =>
  Eq.mpr ((by kernel_rfl : awp Θ Γ_impl_RemoveField H_impl_RemoveField (codeOf f13) (endsX Θ f13.results.toList sh_impl_RemoveField rsh_impl_RemoveField (F_impl_RemoveField (s, name, ())).2) (entryX f13.ntmps (xsVals sh_impl_RemoveField (s, name, ()))) = VC_impl_RemoveField s name fun (r : (List (List UInt8 × Int × Unit) × Bool × Unit) × Unit) => (s.length ≤ (1000 : Nat), fun (x : (List (List UInt8 × Int × Unit) × Bool × Unit) × Unit) => x.1.1 = (Sp.removeField s name).1 ∧ x.1.2.1 = (Sp.removeField s name).2).2 r)) (h s name hin hp)

def H_spec_DrawFieldKind : Hints := Go.Fw.hints [] [] [] [] []
def VC_spec_DrawFieldKind (code : List (Int × Unit)) (K : (List (List UInt8 × Int × Unit) × List UInt8 × Unit) × Unit → Prop) : Prop :=
  code.length ≤ (1048576 : Nat) ∧
  ∀ (r0 : List (Int × Unit) × Int × Int × Unit),
  r0.2.1 = (0 : Int) →
  (0 : Int) ≤ r0.2.1 ∧
  ∀ (r1 : (List (List UInt8 × Int × Unit) × Unit) × (List (Int × Unit) × Int × Int × Unit) × Unit),
  (0 : Int) ≤ r1.2.1.2.1 ∧ r1.1.1.length ≤ (6 : Nat) →
  (0 : Int) ≤ r1.2.1.2.1 ∧
  ∀ (r2 : (List UInt8 × Unit) × (List (Int × Unit) × Int × Int × Unit) × Unit),
  (0 : Int) ≤ r2.2.1.2.1 ∧ r2.1.1.length ≤ (1 : Nat) → K ((r1.1.1, r2.1.1, ()), ())
theorem wk_spec_DrawFieldKind (env : EnvB prog G Θ Γ_spec_DrawFieldKind) (hne : ∀ x, (F_spec_DrawFieldKind x).1 → ∃ t, (F_spec_DrawFieldKind x).2 t) (h : ∀ (code : List (Int × Unit)), xsInR sh_spec_DrawFieldKind (code, ()) → (code.length ≤ (1048576 : Nat)) → VC_spec_DrawFieldKind code fun (r : (List (List UInt8 × Int × Unit) × List UInt8 × Unit) × Unit) => (code.length ≤ (1048576 : Nat), fun (x : (List (List UInt8 × Int × Unit) × List UInt8 × Unit) × Unit) => x.1.1.length.le (6 : Nat)).2 r) : XConOK prog G n_spec_DrawFieldKind con_spec_DrawFieldKind :=
  conX_ok env mixed (fn := f67) (c := codeOf f67) (by kernel_rfl) (by kernel_rfl) H_spec_DrawFieldKind (by kernel_rfl) hne fun ⟨code, ⟨⟩⟩ hin hp =>
  Eq.mpr ((by kernel_rfl : awp Θ Γ_spec_DrawFieldKind H_spec_DrawFieldKind (codeOf f67) (endsX Θ f67.results.toList sh_spec_DrawFieldKind rsh_spec_DrawFieldKind (F_spec_DrawFieldKind (code, ())).2) (entryX f67.ntmps (xsVals sh_spec_DrawFieldKind (code, ()))) = VC_spec_DrawFieldKind code fun (r : (List (List UInt8 × Int × Unit) × List UInt8 × Unit) × Unit) => (code.length ≤ (1048576 : Nat), fun (x : (List (List UInt8 × Int × Unit) × List UInt8 × Unit) × Unit) => x.1.1.length.le (6 : Nat)).2 r)) (h code hin hp)

def H_spec_DrawRemoveField : Hints := Go.Fw.hints [] [] [] [] []
def VC_spec_DrawRemoveField (code : List (Int × Unit)) (K : (List (List UInt8 × Int × Unit) × List UInt8 × Unit) × Unit → Prop) : Prop :=
  code.length ≤ (1048576 : Nat) ∧ ∀ (r0 : (List (List UInt8 × Int × Unit) × List UInt8 × Unit) × Unit), r0.1.1.length.le (6 : Nat) → K ((r0.1.1, r0.1.2.1, ()), ())
theorem wk_spec_DrawRemoveField (env : EnvB prog G Θ Γ_spec_DrawRemoveField) (hne : ∀ x, (F_spec_DrawRemoveField x).1 → ∃ t, (F_spec_DrawRemoveField x).2 t) (h : ∀ (code : List (Int × Unit)), xsInR sh_spec_DrawRemoveField (code, ()) → (code.length ≤ (1048576 : Nat)) → VC_spec_DrawRemoveField code fun (r : (List (List UInt8 × Int × Unit) × List UInt8 × Unit) × Unit) => (code.length ≤ (1048576 : Nat), fun (x : (List (List UInt8 × Int × Unit) × List UInt8 × Unit) × Unit) => x.1.1.length.le (6 : Nat)).2 r) : XConOK prog G n_spec_DrawRemoveField con_spec_DrawRemoveField :=
  conX_ok env mixed (fn := f12) (c := codeOf f12) (by kernel_rfl) (by kernel_rfl) H_spec_DrawRemoveField (by kernel_rfl) hne fun ⟨code, ⟨⟩⟩ hin hp =>
  Eq.mpr ((by kernel_rfl : awp Θ Γ_spec_DrawRemoveField H_spec_DrawRemoveField (codeOf f12) (endsX Θ f12.results.toList sh_spec_DrawRemoveField rsh_spec_DrawRemoveField (F_spec_DrawRemoveField (code, ())).2) (entryX f12.ntmps (xsVals sh_spec_DrawRemoveField (code, ()))) = VC_spec_DrawRemoveField code fun (r : (List (List UInt8 × Int × Unit) × List UInt8 × Unit) × Unit) => (code.length ≤ (1048576 : Nat), fun (x : (List (List UInt8 × Int × Unit) × List UInt8 × Unit) × Unit) => x.1.1.length.le (6 : Nat)).2 r)) (h code hin hp)

def H_spec_DrawAddField : Hints := Go.Fw.hints [] [] [] [] []
def VC_spec_DrawAddField (code : List (Int × Unit)) (K : (List (List UInt8 × Int × Unit) × (List UInt8 × Int × Unit) × Unit) × Unit → Prop) : Prop :=
  code.length ≤ (1048576 : Nat) ∧
  ∀ (r0 : List (Int × Unit) × Int × Int × Unit),
  r0.2.1 = (0 : Int) →
  (0 : Int) ≤ r0.2.1 ∧
  ∀ (r1 : (List (List UInt8 × Int × Unit) × Unit) × (List (Int × Unit) × Int × Int × Unit) × Unit),
  (0 : Int) ≤ r1.2.1.2.1 ∧ r1.1.1.length ≤ (6 : Nat) →
  ((0 : Int) ≤ r1.2.1.2.1 ∧ [([(99 : UInt8)], ()), ([(109 : UInt8)], ()), ([(122 : UInt8)], ()), ([(97 : UInt8)], ()), ([(65 : UInt8)], ()), ([], ())] ≠ []) ∧
  ∀ (r2 : (List UInt8 × Unit) × (List (Int × Unit) × Int × Int × Unit) × Unit),
  (0 : Int) ≤ r2.2.1.2.1 ∧
  (r2.1.1, ()) ∈ [([(99 : UInt8)], ()), ([(109 : UInt8)], ()), ([(122 : UInt8)], ()), ([(97 : UInt8)], ()), ([(65 : UInt8)], ()), ([], ())] →
  ((0 : Int) ≤ r2.2.1.2.1 ∧ [((1 : Int), ()), ((2 : Int), ()), ((0 : Int), ()), ((3 : Int), ())] ≠ []) ∧
  ∀ (r3 : (Int × Unit) × (List (Int × Unit) × Int × Int × Unit) × Unit),
  (0 : Int) ≤ r3.2.1.2.1 ∧ (r3.1.1, ()) ∈ [((1 : Int), ()), ((2 : Int), ()), ((0 : Int), ()), ((3 : Int), ())] →
  K ((r1.1.1, (r2.1.1, r3.1.1, ()), ()), ())
theorem wk_spec_DrawAddField (env : EnvB prog G Θ Γ_spec_DrawAddField) (hne : ∀ x, (F_spec_DrawAddField x).1 → ∃ t, (F_spec_DrawAddField x).2 t) (h : ∀ (code : List (Int × Unit)), xsInR sh_spec_DrawAddField (code, ()) → (code.length ≤ (1048576 : Nat)) → VC_spec_DrawAddField code fun (r : (List (List UInt8 × Int × Unit) × (List UInt8 × Int × Unit) × Unit) × Unit) => (code.length ≤ (1048576 : Nat), fun (x : (List (List UInt8 × Int × Unit) × (List UInt8 × Int × Unit) × Unit) × Unit) => x.1.1.length.le (6 : Nat)).2 r) : XConOK prog G n_spec_DrawAddField con_spec_DrawAddField :=
  conX_ok env mixed (fn := f9) (c := codeOf f9) (by kernel_rfl) (by kernel_rfl) H_spec_DrawAddField (by kernel_rfl) hne fun ⟨code, ⟨⟩⟩ hin hp =>
  Eq.mpr ((by kernel_rfl : awp Θ Γ_spec_DrawAddField H_spec_DrawAddField (codeOf f9) (endsX Θ f9.results.toList sh_spec_DrawAddField rsh_spec_DrawAddField (F_spec_DrawAddField (code, ())).2) (entryX f9.ntmps (xsVals sh_spec_DrawAddField (code, ()))) = VC_spec_DrawAddField code fun (r : (List (List UInt8 × Int × Unit) × (List UInt8 × Int × Unit) × Unit) × Unit) => (code.length ≤ (1048576 : Nat), fun (x : (List (List UInt8 × Int × Unit) × (List UInt8 × Int × Unit) × Unit) × Unit) => x.1.1.length.le (6 : Nat)).2 r)) (h code hin hp)

def H_slices_Clone_impl_Field__own : Hints := Go.Fw.hints [5, 5] [] [] [] []
def VC_slices_Clone_impl_Field__own (s : List (List UInt8 × Int × Unit)) (K : (List (List UInt8 × Int × Unit) × Unit) × Unit → Prop) : Prop :=
  ∀ (g0 : Bool), (g0 = true → s.length = (0 : Nat)) → bif g0 then K (([], ()), ()) else (0 : Nat) + s.length ≤ big ∧ K ((s, ()), ())
theorem wk_slices_Clone_impl_Field__own (env : EnvB prog G Θ Γ_slices_Clone_impl_Field__own) (hne : ∀ x, (F_slices_Clone_impl_Field__own x).1 → ∃ t, (F_slices_Clone_impl_Field__own x).2 t) (h : ∀ (s : List (List UInt8 × Int × Unit)), xsInR sh_slices_Clone_impl_Field__own (s, ()) → (s.length ≤ (1000 : Nat)) → VC_slices_Clone_impl_Field__own s fun (r : (List (List UInt8 × Int × Unit) × Unit) × Unit) => (s.length ≤ (1000 : Nat), fun (x : (List (List UInt8 × Int × Unit) × Unit) × Unit) => x.1.1 = s).2 r) : XConOK prog G n_slices_Clone_impl_Field__own con_slices_Clone_impl_Field__own :=
  conX_ok env mixed (fn := f61) (c := codeOf f61) (by kernel_rfl) (by kernel_rfl) H_slices_Clone_impl_Field__own (by kernel_rfl) hne fun ⟨s, ⟨⟩⟩ hin hp =>
  Eq.mpr ((by kernel_rfl : awp Θ Γ_slices_Clone_impl_Field__own H_slices_Clone_impl_Field__own (codeOf f61) (endsX Θ f61.results.toList sh_slices_Clone_impl_Field__own rsh_slices_Clone_impl_Field__own (F_slices_Clone_impl_Field__own (s, ())).2) (entryX f61.ntmps (xsVals sh_slices_Clone_impl_Field__own (s, ()))) = VC_slices_Clone_impl_Field__own s fun (r : (List (List UInt8 × Int × Unit) × Unit) × Unit) => (s.length ≤ (1000 : Nat), fun (x : (List (List UInt8 × Int × Unit) × Unit) × Unit) => x.1.1 = s).2 r)) (h s hin hp)

def H_impl_AddField : Hints := Go.Fw.hints [9, 22, 30, 31] [] [] [] []
def VC_impl_AddField (s : List (List UInt8 × Int × Unit)) (f0 : List UInt8) (f1 : Int) (K : (List (List UInt8 × Int × Unit) × Bool × Unit) × Unit → Prop) : Prop :=
  s.length ≤ (1000 : Nat) ∧
  ∀ (r0 : (List (List UInt8 × Int × Unit) × Unit) × Unit),
  r0.1.1 = s →
  True ∧
  bif !Sp.okSchema s then K ((r0.1.1, false, ()), ())
  else
  True ∧
 let r1 := !decide (Sp.fieldPlace s f0 < (0 : Int));
  bif r1 then K ((r0.1.1, false, ()), ())
  else
  True ∧
  bif decide (Sp.fieldAbove s f0 < (0 : Int)) then
  ((0 : Int) ≤ (↑s.length : Int) ∧
  (↑s.length : Int) ≤ (↑(List.length r0.1.1) : Int) ∧ List.length r0.1.1 ≤ (1000 : Nat) ∧ [(f0, f1, ())].length = (1 : Nat)) ∧
  ∀ (r2 : (List (List UInt8 × Int × Unit) × Unit) × Unit),
  r2.1.1 = List.take (↑s.length : Int).toNat r0.1.1 ++ ([(f0, f1, ())] ++ List.drop (↑s.length : Int).toNat r0.1.1) →
  True ∧
 let r3 := Sp.okSchema r2.1.1;
  bif !r3 then s.length ≤ (1000 : Nat) ∧ ∀ (r4 : (List (List UInt8 × Int × Unit) × Unit) × Unit), r4.1.1 = s → K ((r4.1.1, false, ()), ())
  else K ((r2.1.1, true, ()), ())
  else
  ((0 : Int) ≤ Sp.fieldAbove s f0 ∧
  Sp.fieldAbove s f0 ≤ (↑(List.length r0.1.1) : Int) ∧ List.length r0.1.1 ≤ (1000 : Nat) ∧ [(f0, f1, ())].length = (1 : Nat)) ∧
  ∀ (r5 : (List (List UInt8 × Int × Unit) × Unit) × Unit),
  r5.1.1 = List.take (Sp.fieldAbove s f0).toNat r0.1.1 ++ ([(f0, f1, ())] ++ List.drop (Sp.fieldAbove s f0).toNat r0.1.1) →
  True ∧
 let r6 := Sp.okSchema r5.1.1;
  bif !r6 then s.length ≤ (1000 : Nat) ∧ ∀ (r7 : (List (List UInt8 × Int × Unit) × Unit) × Unit), r7.1.1 = s → K ((r7.1.1, false, ()), ())
  else K ((r5.1.1, true, ()), ())
theorem wk_impl_AddField (env : EnvB prog G Θ Γ_impl_AddField) (hne : ∀ x, (F_impl_AddField x).1 → ∃ t, (F_impl_AddField x).2 t) (h : ∀ (s : List (List UInt8 × Int × Unit)) (f0 : List UInt8) (f1 : Int), xsInR sh_impl_AddField (s, (f0, f1, ()), ()) → (s.length ≤ (1000 : Nat)) → VC_impl_AddField s f0 f1 fun (r : (List (List UInt8 × Int × Unit) × Bool × Unit) × Unit) => (s.length ≤ (1000 : Nat), fun (x : (List (List UInt8 × Int × Unit) × Bool × Unit) × Unit) =>
  x.1.1 = (Sp.addField s (f0, f1, ())).1 ∧ x.1.2.1 = (Sp.addField s (f0, f1, ())).2).2
  r) : XConOK prog G n_impl_AddField con_impl_AddField :=
  conX_ok env mixed (fn := f10) (c := codeOf f10) (by kernel_rfl) (by kernel_rfl) H_impl_AddField (by kernel_rfl) hne fun ⟨s, ⟨f0, f1, ⟨⟩⟩, ⟨⟩⟩ hin hp =>
  Eq.mpr ((by kernel_rfl : awp Θ Γ_impl_AddField H_impl_AddField (codeOf f10) (endsX Θ f10.results.toList sh_impl_AddField rsh_impl_AddField (F_impl_AddField (s, (f0, f1, ()), ())).2) (entryX f10.ntmps (xsVals sh_impl_AddField (s, (f0, f1, ()), ()))) = VC_impl_AddField s f0 f1 fun (r : (List (List UInt8 × Int × Unit) × Bool × Unit) × Unit) => (s.length ≤ (1000 : Nat), fun (x : (List (List UInt8 × Int × Unit) × Bool × Unit) × Unit) =>
  x.1.1 = (Sp.addField s (f0, f1, ())).1 ∧ x.1.2.1 = (Sp.addField s (f0, f1, ())).2).2
  r)) (h s f0 f1 hin hp)

def H_laws_FnSchemaFields : Hints := Go.Fw.hints [] [] [(11, ⟨[], ⟨[(3, .one (.sl 26 (.cons .str (.cons (.int .i64) .nil)) true)), (4, .vptr 256 0), (5, .one (.sl 26 (.cons .str (.cons (.int .i64) .nil)) false)), (6, .one (.bool))], [(256, .var [.str, .int .i64])]⟩, ⟨[], []⟩⟩)] [] []
def VC_laws_FnSchemaFields (code : List (Int × Unit)) (K : Bool × Unit → Prop) : Prop :=
  True ∧
 let r0 := decide ((1048576 : Int) < (↑code.length : Int));
  bif r0 then K (true, ())
  else
  code.length ≤ (1048576 : Nat) ∧
  ∀ (r1 : (List (List UInt8 × Int × Unit) × (List UInt8 × Int × Unit) × Unit) × Unit),
  r1.1.1.length.le (6 : Nat) →
  List.length r1.1.1 ≤ (1000 : Nat) ∧
  ∀ (r2 : (List (List UInt8 × Int × Unit) × Bool × Unit) × Unit),
  r2.1.1 = (Sp.addField r1.1.1 (r1.1.2.1.1, r1.1.2.1.2.1, ())).1 ∧
  r2.1.2.1 = (Sp.addField r1.1.1 (r1.1.2.1.1, r1.1.2.1.2.1, ())).2 →
  List.length r1.1.1 ≤ (1000 : Nat) ∧
 let r3 := (Sp.addField r1.1.1 (r1.1.2.1.1, r1.1.2.1.2.1, ())).1;
 let r4 := (Sp.addField r1.1.1 (r1.1.2.1.1, r1.1.2.1.2.1, ())).2;
  code.length ≤ (1048576 : Nat) ∧
  ∀ (r5 : (List (List UInt8 × Int × Unit) × List UInt8 × Unit) × Unit),
  r5.1.1.length.le (6 : Nat) →
  List.length r5.1.1 ≤ (1000 : Nat) ∧
  ∀ (r6 : (List (List UInt8 × Int × Unit) × Bool × Unit) × Unit),
  r6.1.1 = (Sp.removeField r5.1.1 r5.1.2.1).1 ∧ r6.1.2.1 = (Sp.removeField r5.1.1 r5.1.2.1).2 →
  List.length r5.1.1 ≤ (1000 : Nat) ∧
 let r7 := (Sp.removeField r5.1.1 r5.1.2.1).1;
 let r8 := (Sp.removeField r5.1.1 r5.1.2.1).2;
 let s9 := ((r1.1.1, (), r2.1.1, r2.1.2.1, ()), (r1.1.2.1.1, r1.1.2.1.2.1, ()), ());
  ∃ (J : Unit × Unit → Prop),
  (bif !r2.1.2.1 == r4 then K (false, ())
  else
  True ∧
 let r10 := decide (r2.1.1 = r3);
  bif !r10 then K (false, ())
  else
  bif !r6.1.2.1 == r8 then K (false, ())
  else
  True ∧
 let r11 := decide (r6.1.1 = r7);
  bif !r11 then K (false, ()) else s9 = s9 ∧ J ((), ())) ∧
  ∀ (y12 : Unit × Unit),
  J y12 →
  bif !r2.1.2.1 then
  True ∧
 let r13 := decide (r2.1.1 = r1.1.1);
  K (r13, ())
  else
  List.length r2.1.1 ≤ (1000 : Nat) ∧
  ∀ (r14 : (List (List UInt8 × Int × Unit) × Bool × Unit) × Unit),
  r14.1.1 = (Sp.removeField r2.1.1 r1.1.2.1.1).1 ∧ r14.1.2.1 = (Sp.removeField r2.1.1 r1.1.2.1.1).2 →
  True ∧
 let r15 := Sp.kindOf r2.1.1 r1.1.2.1.1;
  bif r15 == r1.1.2.1.2.1 then
  True ∧
 let r16 := Sp.okSchema r2.1.1;
  bif r16 then
  bif r14.1.2.1 then
  True ∧
 let r17 := decide (r14.1.1 = r1.1.1);
  bif r17 then
  K ((↑(List.length r2.1.1) : Int) == IntKind.i64.wrap ((↑(List.length r1.1.1) : Int) + (1 : Int)), ())
  else K (false, ())
  else K (false, ())
  else K (false, ())
  else K (false, ())
theorem wk_laws_FnSchemaFields (env : EnvB prog G Θ Γ_laws_FnSchemaFields) (h : ∀ (code : List (Int × Unit)), psInR sh_laws_FnSchemaFields (code, ()) → (True) → VC_laws_FnSchemaFields code fun r => r = ((true, ()))) : ConOK prog G n_laws_FnSchemaFields con_laws_FnSchemaFields :=
  conR_ok env mixed (fn := f3) (c := codeOf f3) (by kernel_rfl) (by kernel_rfl) H_laws_FnSchemaFields (by kernel_rfl) fun ⟨code, ⟨⟩⟩ hin hp =>
  Eq.mpr ((by kernel_rfl : awp Θ Γ_laws_FnSchemaFields H_laws_FnSchemaFields (codeOf f3) (endsV Θ f3.results.toList rsh_laws_FnSchemaFields fun r => r = (F_laws_FnSchemaFields (code, ())).2) (entry f3.ntmps (psVals sh_laws_FnSchemaFields (code, ()))) = VC_laws_FnSchemaFields code fun r => r = ((true, ())))) (h code hin hp)

end Go.Proofs.Try

import Derived.Test.YtlhclabldgampaaDoorF
namespace Go.Proofs.Tryd
open Go Go.Fw
set_option maxRecDepth 100000
def H_impl_FormatInt : Hints := Go.Fw.hints [] [] [] [] []
def VC_impl_FormatInt (n : Int) (K : List UInt8 × Unit → Prop) : Prop :=
  ((-9223372036854775808 : Int) ≤ n ∧ n ≤ (9223372036854775807 : Int)) ∧ K (Lib.itoa n, ())
theorem wk_impl_FormatInt (env : EnvB prog G Θ Γ_impl_FormatInt) (h : ∀ (n : Int), psInR sh_impl_FormatInt (n, ()) → (True) → VC_impl_FormatInt n fun r => r = ((Lib.itoa n, ()))) : ConOK prog G n_impl_FormatInt con_impl_FormatInt :=
  conR_ok env mixed (fn := f31) (c := codeOf f31) (by kernel_rfl) (by kernel_rfl) H_impl_FormatInt (by kernel_rfl) fun ⟨n, ⟨⟩⟩ hin hp =>
  Eq.mpr ((by kernel_rfl : awp Θ Γ_impl_FormatInt H_impl_FormatInt (codeOf f31) (endsV Θ f31.results.toList rsh_impl_FormatInt fun r => r = (F_impl_FormatInt (n, ())).2) (entry f31.ntmps (psVals sh_impl_FormatInt (n, ()))) = VC_impl_FormatInt n fun r => r = ((Lib.itoa n, ())))) (h n hin hp)

def H_spec_l01Figure : Hints := Go.Fw.hints [] [] [] [] []
def VC_spec_l01Figure (x : Int) (K : Int × Unit → Prop) : Prop :=
  bif decide (x < (10 : Int)) then K (IntKind.u8.wrap (IntKind.i64.wrap ((48 : Int) + x)), ())
  else K (IntKind.u8.wrap (IntKind.i64.wrap (IntKind.i64.wrap ((97 : Int) + x) - (10 : Int))), ())
theorem wk_spec_l01Figure (env : EnvB prog G Θ Γ_spec_l01Figure) (h : ∀ (x : Int), psInR sh_spec_l01Figure (x, ()) → ((0 : Int) ≤ x ∧ x < (10 : Int)) → VC_spec_l01Figure x fun r => r = (((48 : Int) + x, ()))) : ConOK prog G n_spec_l01Figure con_spec_l01Figure :=
  conR_ok env mixed (fn := f43) (c := codeOf f43) (by kernel_rfl) (by kernel_rfl) H_spec_l01Figure (by kernel_rfl) fun ⟨x, ⟨⟩⟩ hin hp =>
  Eq.mpr ((by kernel_rfl : awp Θ Γ_spec_l01Figure H_spec_l01Figure (codeOf f43) (endsV Θ f43.results.toList rsh_spec_l01Figure fun r => r = (F_spec_l01Figure (x, ())).2) (entry f43.ntmps (psVals sh_spec_l01Figure (x, ()))) = VC_spec_l01Figure x fun r => r = (((48 : Int) + x, ())))) (h x hin hp)

def H_spec_FormatInt : Hints := Go.Fw.hints [] [(5, ⟨[], ⟨[(3, .one (.bool))], []⟩, ⟨[(0, .one (.int .i64)), (4, .one (.str))], []⟩⟩)] [] [] []
def VC_spec_FormatInt (n : Int) (K : List UInt8 × Unit → Prop) : Prop :=
  bif n == (0 : Int) then K ([(48 : UInt8)], ())
  else
 let s0 := ((decide (n < (0 : Int)), ()), ());
  ∃ (I : (Int × List UInt8 × Unit) × Unit → Prop),
  ∃ (μ : (Int × List UInt8 × Unit) × Unit → Nat),
  I ((n, [], ()), ()) ∧
  ∀ (y1 : (Int × List UInt8 × Unit) × Unit),
  I y1 →
  bif y1.1.1 != (0 : Int) then
  (10 : Int) ≠ (0 : Int) ∧
  bif decide (Int.tmod y1.1.1 (10 : Int) < (0 : Int)) then
  ((0 : Int) ≤ IntKind.i64.wrap ((0 : Int) - Int.tmod y1.1.1 (10 : Int)) ∧ IntKind.i64.wrap ((0 : Int) - Int.tmod y1.1.1 (10 : Int)) < (10 : Int)) ∧
 let r2 := (48 : Int) + IntKind.i64.wrap ((0 : Int) - Int.tmod y1.1.1 (10 : Int));
  List.length (byteRow [(r2, ())]) + List.length y1.1.2.1 ≤ maxLen ∧
  (10 : Int) ≠ (0 : Int) ∧
  s0 = s0 ∧
  I ((IntKind.i64.wrap (Int.tdiv y1.1.1 (10 : Int)), byteRow [(r2, ())] ++ y1.1.2.1, ()), ()) ∧
  μ ((IntKind.i64.wrap (Int.tdiv y1.1.1 (10 : Int)), byteRow [(r2, ())] ++ y1.1.2.1, ()), ()) < μ y1
  else
  ((0 : Int) ≤ Int.tmod y1.1.1 (10 : Int) ∧ Int.tmod y1.1.1 (10 : Int) < (10 : Int)) ∧
 let r3 := (48 : Int) + Int.tmod y1.1.1 (10 : Int);
  List.length (byteRow [(r3, ())]) + List.length y1.1.2.1 ≤ maxLen ∧
  (10 : Int) ≠ (0 : Int) ∧
  s0 = s0 ∧
  I ((IntKind.i64.wrap (Int.tdiv y1.1.1 (10 : Int)), byteRow [(r3, ())] ++ y1.1.2.1, ()), ()) ∧
  μ ((IntKind.i64.wrap (Int.tdiv y1.1.1 (10 : Int)), byteRow [(r3, ())] ++ y1.1.2.1, ()), ()) < μ y1
  else bif decide (n < (0 : Int)) then [(45 : UInt8)].length + List.length y1.1.2.1 ≤ maxLen ∧ K ([(45 : UInt8)] ++ y1.1.2.1, ()) else K (y1.1.2.1, ())
theorem wk_spec_FormatInt (env : EnvB prog G Θ Γ_spec_FormatInt) (h : ∀ (n : Int), psInR sh_spec_FormatInt (n, ()) → (True) → VC_spec_FormatInt n fun r => r = ((Lib.itoa n, ()))) : ConOK prog G n_spec_FormatInt con_spec_FormatInt :=
  conR_ok env mixed (fn := f26) (c := codeOf f26) (by kernel_rfl) (by kernel_rfl) H_spec_FormatInt (by kernel_rfl) fun ⟨n, ⟨⟩⟩ hin hp =>
  Eq.mpr ((by kernel_rfl : awp Θ Γ_spec_FormatInt H_spec_FormatInt (codeOf f26) (endsV Θ f26.results.toList rsh_spec_FormatInt fun r => r = (F_spec_FormatInt (n, ())).2) (entry f26.ntmps (psVals sh_spec_FormatInt (n, ()))) = VC_spec_FormatInt n fun r => r = ((Lib.itoa n, ())))) (h n hin hp)

def H_laws_eqValue : Hints := Go.Fw.hints [] [] [] [] []
def VC_laws_eqValue (a0 : Int) (a1 : Int) (a2 : List UInt8) (b0 : Int) (b1 : Int) (b2 : List UInt8) (K : Bool × Unit → Prop) : Prop :=
  bif a0 != b0 then K (false, ()) else bif a1 != b1 then K (false, ()) else bif !a2 == b2 then K (false, ()) else K (true, ())
theorem wk_laws_eqValue (env : EnvB prog G Θ Γ_laws_eqValue) (h : ∀ (a0 : Int) (a1 : Int) (a2 : List UInt8) (b0 : Int) (b1 : Int) (b2 : List UInt8), psInR sh_laws_eqValue ((a0, a1, a2, ()), (b0, b1, b2, ()), ()) → (True) → VC_laws_eqValue a0 a1 a2 b0 b1 b2 fun r => r = ((Sp.eqValue (a0, a1, a2, ()) (b0, b1, b2, ()), ()))) : ConOK prog G n_laws_eqValue con_laws_eqValue :=
  conR_ok env mixed (fn := f83) (c := codeOf f83) (by kernel_rfl) (by kernel_rfl) H_laws_eqValue (by kernel_rfl) fun ⟨⟨a0, a1, a2, ⟨⟩⟩, ⟨b0, b1, b2, ⟨⟩⟩, ⟨⟩⟩ hin hp =>
  Eq.mpr ((by kernel_rfl : awp Θ Γ_laws_eqValue H_laws_eqValue (codeOf f83) (endsV Θ f83.results.toList rsh_laws_eqValue fun r => r = (F_laws_eqValue ((a0, a1, a2, ()), (b0, b1, b2, ()), ())).2) (entry f83.ntmps (psVals sh_laws_eqValue ((a0, a1, a2, ()), (b0, b1, b2, ()), ()))) = VC_laws_eqValue a0 a1 a2 b0 b1 b2 fun r => r = ((Sp.eqValue (a0, a1, a2, ()) (b0, b1, b2, ()), ())))) (h a0 a1 a2 b0 b1 b2 hin hp)

def H_laws_eqAttr : Hints := Go.Fw.hints [] [] [] [] []
def VC_laws_eqAttr (a0 : List UInt8) (a1 : Int) (a2 : Int) (a3 : List UInt8) (b0 : List UInt8) (b1 : Int) (b2 : Int) (b3 : List UInt8) (K : Bool × Unit → Prop) : Prop :=
  bif !a0 == b0 then K (false, ())
  else
  True ∧
 let r0 := Sp.eqValue (a1, a2, a3, ()) (b1, b2, b3, ());
  bif !r0 then K (false, ()) else K (true, ())
theorem wk_laws_eqAttr (env : EnvB prog G Θ Γ_laws_eqAttr) (h : ∀ (a0 : List UInt8) (a1 : Int) (a2 : Int) (a3 : List UInt8) (b0 : List UInt8) (b1 : Int) (b2 : Int) (b3 : List UInt8), psInR sh_laws_eqAttr ((a0, a1, a2, a3, ()), (b0, b1, b2, b3, ()), ()) → (True) → VC_laws_eqAttr a0 a1 a2 a3 b0 b1 b2 b3 fun r => r = ((Sp.eqAttr (a0, a1, a2, a3, ()) (b0, b1, b2, b3, ()), ()))) : ConOK prog G n_laws_eqAttr con_laws_eqAttr :=
  conR_ok env mixed (fn := f74) (c := codeOf f74) (by kernel_rfl) (by kernel_rfl) H_laws_eqAttr (by kernel_rfl) fun ⟨⟨a0, a1, a2, a3, ⟨⟩⟩, ⟨b0, b1, b2, b3, ⟨⟩⟩, ⟨⟩⟩ hin hp =>
  Eq.mpr ((by kernel_rfl : awp Θ Γ_laws_eqAttr H_laws_eqAttr (codeOf f74) (endsV Θ f74.results.toList rsh_laws_eqAttr fun r => r = (F_laws_eqAttr ((a0, a1, a2, a3, ()), (b0, b1, b2, b3, ()), ())).2) (entry f74.ntmps (psVals sh_laws_eqAttr ((a0, a1, a2, a3, ()), (b0, b1, b2, b3, ()), ()))) = VC_laws_eqAttr a0 a1 a2 a3 b0 b1 b2 b3 fun r => r = ((Sp.eqAttr (a0, a1, a2, a3, ()) (b0, b1, b2, b3, ()), ())))) (h a0 a1 a2 a3 b0 b1 b2 b3 hin hp)

def H_laws_eqNode : Hints := Go.Fw.hints [] [] [] [] []
def VC_laws_eqNode (a0 : Int) (a1 : Int) (a2 : Int) (a3 : List UInt8) (a4 : Int) (a5 : Int) (a6 : List UInt8) (b0 : Int) (b1 : Int) (b2 : Int) (b3 : List UInt8) (b4 : Int) (b5 : Int) (b6 : List UInt8) (K : Bool × Unit → Prop) : Prop :=
  bif a0 != b0 then K (false, ())
  else
  bif a1 != b1 then K (false, ())
  else
  bif a2 != b2 then K (false, ())
  else
  bif !a3 == b3 then K (false, ())
  else
  True ∧
 let r0 := Sp.eqValue (a4, a5, a6, ()) (b4, b5, b6, ());
  bif !r0 then K (false, ()) else K (true, ())
theorem wk_laws_eqNode (env : EnvB prog G Θ Γ_laws_eqNode) (h : ∀ (a0 : Int) (a1 : Int) (a2 : Int) (a3 : List UInt8) (a4 : Int) (a5 : Int) (a6 : List UInt8) (b0 : Int) (b1 : Int) (b2 : Int) (b3 : List UInt8) (b4 : Int) (b5 : Int) (b6 : List UInt8), psInR sh_laws_eqNode ((a0, a1, a2, a3, a4, a5, a6, ()), (b0, b1, b2, b3, b4, b5, b6, ()), ()) → (True) → VC_laws_eqNode a0 a1 a2 a3 a4 a5 a6 b0 b1 b2 b3 b4 b5 b6 fun r => r = ((Sp.eqNode (a0, a1, a2, a3, a4, a5, a6, ()) (b0, b1, b2, b3, b4, b5, b6, ()), ()))) : ConOK prog G n_laws_eqNode con_laws_eqNode :=
  conR_ok env mixed (fn := f75) (c := codeOf f75) (by kernel_rfl) (by kernel_rfl) H_laws_eqNode (by kernel_rfl) fun ⟨⟨a0, a1, a2, a3, a4, a5, a6, ⟨⟩⟩, ⟨b0, b1, b2, b3, b4, b5, b6, ⟨⟩⟩, ⟨⟩⟩ hin hp =>
  Eq.mpr ((by kernel_rfl : awp Θ Γ_laws_eqNode H_laws_eqNode (codeOf f75) (endsV Θ f75.results.toList rsh_laws_eqNode fun r => r = (F_laws_eqNode ((a0, a1, a2, a3, a4, a5, a6, ()), (b0, b1, b2, b3, b4, b5, b6, ()), ())).2) (entry f75.ntmps (psVals sh_laws_eqNode ((a0, a1, a2, a3, a4, a5, a6, ()), (b0, b1, b2, b3, b4, b5, b6, ()), ()))) = VC_laws_eqNode a0 a1 a2 a3 a4 a5 a6 b0 b1 b2 b3 b4 b5 b6 fun r => r = ((Sp.eqNode (a0, a1, a2, a3, a4, a5, a6, ()) (b0, b1, b2, b3, b4, b5, b6, ()), ())))) (h a0 a1 a2 a3 a4 a5 a6 b0 b1 b2 b3 b4 b5 b6 hin hp)

def H_laws_eqAttrS : Hints := Go.Fw.hints [] [(4, ⟨[], ⟨[(0, .one (.sl 84 (.cons .str (.cons (.int .i64) (.cons (.int .i64) (.cons .str .nil)))) false)), (1, .one (.sl 84 (.cons .str (.cons (.int .i64) (.cons (.int .i64) (.cons .str .nil)))) false))], []⟩, ⟨[(5, .one (.int .i64))], []⟩⟩)] [] [] []
def VC_laws_eqAttrS (a : List (List UInt8 × Int × Int × List UInt8 × Unit)) (b : List (List UInt8 × Int × Int × List UInt8 × Unit)) (K : Bool × Unit → Prop) : Prop :=
  bif (↑a.length : Int) != (↑b.length : Int) then K (false, ())
  else
 let s0 := ((a, b, ()), ());
  ∃ (I : (Int × Unit) × Unit → Prop),
  ∃ (μ : (Int × Unit) × Unit → Nat),
  I (((0 : Int), ()), ()) ∧
  ∀ (y1 : (Int × Unit) × Unit),
  I y1 →
  bif decide (y1.1.1 < (↑a.length : Int)) then
  ((0 : Int) ≤ y1.1.1 ∧ y1.1.1 < (↑a.length : Int)) ∧
  ((0 : Int) ≤ y1.1.1 ∧ y1.1.1 < (↑b.length : Int)) ∧
  True ∧
 let r2 :=
  Sp.eqAttr
  ((a.getD (Int.toNat y1.1.1) ([], (0 : Int), (0 : Int), [], ())).1, (a.getD (Int.toNat y1.1.1) ([], (0 : Int), (0 : Int), [], ())).2.1,
  (a.getD (Int.toNat y1.1.1) ([], (0 : Int), (0 : Int), [], ())).2.2.1,
  (a.getD (Int.toNat y1.1.1) ([], (0 : Int), (0 : Int), [], ())).2.2.2.1, ())
  ((b.getD (Int.toNat y1.1.1) ([], (0 : Int), (0 : Int), [], ())).1, (b.getD (Int.toNat y1.1.1) ([], (0 : Int), (0 : Int), [], ())).2.1,
  (b.getD (Int.toNat y1.1.1) ([], (0 : Int), (0 : Int), [], ())).2.2.1,
  (b.getD (Int.toNat y1.1.1) ([], (0 : Int), (0 : Int), [], ())).2.2.2.1, ());
  bif !r2 then K (false, ())
  else s0 = s0 ∧ I ((IntKind.i64.wrap (y1.1.1 + (1 : Int)), ()), ()) ∧ μ ((IntKind.i64.wrap (y1.1.1 + (1 : Int)), ()), ()) < μ y1
  else K (true, ())
theorem wk_laws_eqAttrS (env : EnvB prog G Θ Γ_laws_eqAttrS) (h : ∀ (a : List (List UInt8 × Int × Int × List UInt8 × Unit)) (b : List (List UInt8 × Int × Int × List UInt8 × Unit)), psInR sh_laws_eqAttrS (a, b, ()) → (True) → VC_laws_eqAttrS a b fun r => r = ((Sp.eqAttrS a b, ()))) : ConOK prog G n_laws_eqAttrS con_laws_eqAttrS :=
  conR_ok env mixed (fn := f62) (c := codeOf f62) (by kernel_rfl) (by kernel_rfl) H_laws_eqAttrS (by kernel_rfl) fun ⟨a, b, ⟨⟩⟩ hin hp =>
  Eq.mpr ((by kernel_rfl : awp Θ Γ_laws_eqAttrS H_laws_eqAttrS (codeOf f62) (endsV Θ f62.results.toList rsh_laws_eqAttrS fun r => r = (F_laws_eqAttrS (a, b, ())).2) (entry f62.ntmps (psVals sh_laws_eqAttrS (a, b, ()))) = VC_laws_eqAttrS a b fun r => r = ((Sp.eqAttrS a b, ())))) (h a b hin hp)

def H_laws_eqNodeS : Hints := Go.Fw.hints [] [(4, ⟨[], ⟨[(0, .one (.sl 86 (.cons (.int .i64) (.cons (.int .i64) (.cons (.int .i64) (.cons .str (.cons (.int .i64) (.cons (.int .i64) (.cons .str .nil))))))) false)), (1, .one (.sl 86 (.cons (.int .i64) (.cons (.int .i64) (.cons (.int .i64) (.cons .str (.cons (.int .i64) (.cons (.int .i64) (.cons .str .nil))))))) false))], []⟩, ⟨[(5, .one (.int .i64))], []⟩⟩)] [] [] []
def VC_laws_eqNodeS (a : List (Int × Int × Int × List UInt8 × Int × Int × List UInt8 × Unit)) (b : List (Int × Int × Int × List UInt8 × Int × Int × List UInt8 × Unit)) (K : Bool × Unit → Prop) : Prop :=
  bif (↑a.length : Int) != (↑b.length : Int) then K (false, ())
  else
 let s0 := ((a, b, ()), ());
  ∃ (I : (Int × Unit) × Unit → Prop),
  ∃ (μ : (Int × Unit) × Unit → Nat),
  I (((0 : Int), ()), ()) ∧
  ∀ (y1 : (Int × Unit) × Unit),
  I y1 →
  bif decide (y1.1.1 < (↑a.length : Int)) then
  ((0 : Int) ≤ y1.1.1 ∧ y1.1.1 < (↑a.length : Int)) ∧
  ((0 : Int) ≤ y1.1.1 ∧ y1.1.1 < (↑b.length : Int)) ∧
  True ∧
 let r2 :=
  Sp.eqNode
  ((a.getD (Int.toNat y1.1.1) ((0 : Int), (0 : Int), (0 : Int), [], (0 : Int), (0 : Int), [], ())).1,
  (a.getD (Int.toNat y1.1.1) ((0 : Int), (0 : Int), (0 : Int), [], (0 : Int), (0 : Int), [], ())).2.1,
  (a.getD (Int.toNat y1.1.1) ((0 : Int), (0 : Int), (0 : Int), [], (0 : Int), (0 : Int), [], ())).2.2.1,
  (a.getD (Int.toNat y1.1.1) ((0 : Int), (0 : Int), (0 : Int), [], (0 : Int), (0 : Int), [], ())).2.2.2.1,
  (a.getD (Int.toNat y1.1.1) ((0 : Int), (0 : Int), (0 : Int), [], (0 : Int), (0 : Int), [], ())).2.2.2.2.1,
  (a.getD (Int.toNat y1.1.1) ((0 : Int), (0 : Int), (0 : Int), [], (0 : Int), (0 : Int), [], ())).2.2.2.2.2.1,
  (a.getD (Int.toNat y1.1.1) ((0 : Int), (0 : Int), (0 : Int), [], (0 : Int), (0 : Int), [], ())).2.2.2.2.2.2.1, ())
  ((b.getD (Int.toNat y1.1.1) ((0 : Int), (0 : Int), (0 : Int), [], (0 : Int), (0 : Int), [], ())).1,
  (b.getD (Int.toNat y1.1.1) ((0 : Int), (0 : Int), (0 : Int), [], (0 : Int), (0 : Int), [], ())).2.1,
  (b.getD (Int.toNat y1.1.1) ((0 : Int), (0 : Int), (0 : Int), [], (0 : Int), (0 : Int), [], ())).2.2.1,
  (b.getD (Int.toNat y1.1.1) ((0 : Int), (0 : Int), (0 : Int), [], (0 : Int), (0 : Int), [], ())).2.2.2.1,
  (b.getD (Int.toNat y1.1.1) ((0 : Int), (0 : Int), (0 : Int), [], (0 : Int), (0 : Int), [], ())).2.2.2.2.1,
  (b.getD (Int.toNat y1.1.1) ((0 : Int), (0 : Int), (0 : Int), [], (0 : Int), (0 : Int), [], ())).2.2.2.2.2.1,
  (b.getD (Int.toNat y1.1.1) ((0 : Int), (0 : Int), (0 : Int), [], (0 : Int), (0 : Int), [], ())).2.2.2.2.2.2.1, ());
  bif !r2 then K (false, ())
  else s0 = s0 ∧ I ((IntKind.i64.wrap (y1.1.1 + (1 : Int)), ()), ()) ∧ μ ((IntKind.i64.wrap (y1.1.1 + (1 : Int)), ()), ()) < μ y1
  else K (true, ())
theorem wk_laws_eqNodeS (env : EnvB prog G Θ Γ_laws_eqNodeS) (h : ∀ (a : List (Int × Int × Int × List UInt8 × Int × Int × List UInt8 × Unit)) (b : List (Int × Int × Int × List UInt8 × Int × Int × List UInt8 × Unit)), psInR sh_laws_eqNodeS (a, b, ()) → (True) → VC_laws_eqNodeS a b fun r => r = ((Sp.eqNodeS a b, ()))) : ConOK prog G n_laws_eqNodeS con_laws_eqNodeS :=
  conR_ok env mixed (fn := f63) (c := codeOf f63) (by kernel_rfl) (by kernel_rfl) H_laws_eqNodeS (by kernel_rfl) fun ⟨a, b, ⟨⟩⟩ hin hp =>
  Eq.mpr ((by kernel_rfl : awp Θ Γ_laws_eqNodeS H_laws_eqNodeS (codeOf f63) (endsV Θ f63.results.toList rsh_laws_eqNodeS fun r => r = (F_laws_eqNodeS (a, b, ())).2) (entry f63.ntmps (psVals sh_laws_eqNodeS (a, b, ()))) = VC_laws_eqNodeS a b fun r => r = ((Sp.eqNodeS a b, ())))) (h a b hin hp)

def H_laws_eqFile : Hints := Go.Fw.hints [] [] [] [] []
def VC_laws_eqFile (a0 : Int) (a1 : Int) (a2 : Bool) (a3 : Int) (a4 : List (List UInt8 × Int × Int × List UInt8 × Unit)) (b0 : Int) (b1 : Int) (b2 : Bool) (b3 : Int) (b4 : List (List UInt8 × Int × Int × List UInt8 × Unit)) (K : Bool × Unit → Prop) : Prop :=
  bif a0 != b0 then K (false, ())
  else
  bif a1 != b1 then K (false, ()) else bif !a2 == b2 then K (false, ()) else bif a3 != b3 then K (false, ()) else True ∧ bif !Sp.eqAttrS a4 b4 then K (false, ()) else K (true, ())
theorem wk_laws_eqFile (env : EnvB prog G Θ Γ_laws_eqFile) (h : ∀ (a0 : Int) (a1 : Int) (a2 : Bool) (a3 : Int) (a4 : List (List UInt8 × Int × Int × List UInt8 × Unit)) (b0 : Int) (b1 : Int) (b2 : Bool) (b3 : Int) (b4 : List (List UInt8 × Int × Int × List UInt8 × Unit)), psInR sh_laws_eqFile ((a0, a1, a2, a3, a4, ()), (b0, b1, b2, b3, b4, ()), ()) → (True) → VC_laws_eqFile a0 a1 a2 a3 a4 b0 b1 b2 b3 b4 fun r => r = ((Sp.eqFile (a0, a1, a2, a3, a4, ()) (b0, b1, b2, b3, b4, ()), ()))) : ConOK prog G n_laws_eqFile con_laws_eqFile :=
  conR_ok env mixed (fn := f53) (c := codeOf f53) (by kernel_rfl) (by kernel_rfl) H_laws_eqFile (by kernel_rfl) fun ⟨⟨a0, a1, a2, a3, a4, ⟨⟩⟩, ⟨b0, b1, b2, b3, b4, ⟨⟩⟩, ⟨⟩⟩ hin hp =>
  Eq.mpr ((by kernel_rfl : awp Θ Γ_laws_eqFile H_laws_eqFile (codeOf f53) (endsV Θ f53.results.toList rsh_laws_eqFile fun r => r = (F_laws_eqFile ((a0, a1, a2, a3, a4, ()), (b0, b1, b2, b3, b4, ()), ())).2) (entry f53.ntmps (psVals sh_laws_eqFile ((a0, a1, a2, a3, a4, ()), (b0, b1, b2, b3, b4, ()), ()))) = VC_laws_eqFile a0 a1 a2 a3 a4 b0 b1 b2 b3 b4 fun r => r = ((Sp.eqFile (a0, a1, a2, a3, a4, ()) (b0, b1, b2, b3, b4, ()), ())))) (h a0 a1 a2 a3 a4 b0 b1 b2 b3 b4 hin hp)

def H_laws_eqDir : Hints := Go.Fw.hints [] [] [] [] []
def VC_laws_eqDir (a0 : List UInt8) (a1 : List (Int × Int × Int × List UInt8 × Int × Int × List UInt8 × Unit)) (b0 : List UInt8) (b1 : List (Int × Int × Int × List UInt8 × Int × Int × List UInt8 × Unit)) (K : Bool × Unit → Prop) : Prop :=
  bif !a0 == b0 then K (false, ()) else True ∧ bif !Sp.eqNodeS a1 b1 then K (false, ()) else K (true, ())
theorem wk_laws_eqDir (env : EnvB prog G Θ Γ_laws_eqDir) (h : ∀ (a0 : List UInt8) (a1 : List (Int × Int × Int × List UInt8 × Int × Int × List UInt8 × Unit)) (b0 : List UInt8) (b1 : List (Int × Int × Int × List UInt8 × Int × Int × List UInt8 × Unit)), psInR sh_laws_eqDir ((a0, a1, ()), (b0, b1, ()), ()) → (True) → VC_laws_eqDir a0 a1 b0 b1 fun r => r = ((Sp.eqDir (a0, a1, ()) (b0, b1, ()), ()))) : ConOK prog G n_laws_eqDir con_laws_eqDir :=
  conR_ok env mixed (fn := f54) (c := codeOf f54) (by kernel_rfl) (by kernel_rfl) H_laws_eqDir (by kernel_rfl) fun ⟨⟨a0, a1, ⟨⟩⟩, ⟨b0, b1, ⟨⟩⟩, ⟨⟩⟩ hin hp =>
  Eq.mpr ((by kernel_rfl : awp Θ Γ_laws_eqDir H_laws_eqDir (codeOf f54) (endsV Θ f54.results.toList rsh_laws_eqDir fun r => r = (F_laws_eqDir ((a0, a1, ()), (b0, b1, ()), ())).2) (entry f54.ntmps (psVals sh_laws_eqDir ((a0, a1, ()), (b0, b1, ()), ()))) = VC_laws_eqDir a0 a1 b0 b1 fun r => r = ((Sp.eqDir (a0, a1, ()) (b0, b1, ()), ())))) (h a0 a1 b0 b1 hin hp)

def H_laws_eqChange : Hints := Go.Fw.hints [] [] [] [] []
def VC_laws_eqChange (a0 : Int) (a1 : Int) (a2 : Int) (a3 : Bool) (a4 : Int) (a5 : List (List UInt8 × Int × Int × List UInt8 × Unit)) (a6 : Int) (a7 : List UInt8) (a8 : List (Int × Int × Int × List UInt8 × Int × Int × List UInt8 × Unit)) (b0 : Int) (b1 : Int) (b2 : Int) (b3 : Bool) (b4 : Int) (b5 : List (List UInt8 × Int × Int × List UInt8 × Unit)) (b6 : Int) (b7 : List UInt8) (b8 : List (Int × Int × Int × List UInt8 × Int × Int × List UInt8 × Unit)) (K : Bool × Unit → Prop) : Prop :=
  bif a0 != b0 then K (false, ())
  else
  True ∧
 let r0 := Sp.eqFile (a1, a2, a3, a4, a5, ()) (b1, b2, b3, b4, b5, ());
  bif !r0 then K (false, ())
  else
  bif a6 != b6 then K (false, ())
  else
  True ∧
 let r1 := Sp.eqDir (a7, a8, ()) (b7, b8, ());
  bif !r1 then K (false, ()) else K (true, ())
theorem wk_laws_eqChange (env : EnvB prog G Θ Γ_laws_eqChange) (h : ∀ (a0 : Int) (a1 : Int) (a2 : Int) (a3 : Bool) (a4 : Int) (a5 : List (List UInt8 × Int × Int × List UInt8 × Unit)) (a6 : Int) (a7 : List UInt8) (a8 : List (Int × Int × Int × List UInt8 × Int × Int × List UInt8 × Unit)) (b0 : Int) (b1 : Int) (b2 : Int) (b3 : Bool) (b4 : Int) (b5 : List (List UInt8 × Int × Int × List UInt8 × Unit)) (b6 : Int) (b7 : List UInt8) (b8 : List (Int × Int × Int × List UInt8 × Int × Int × List UInt8 × Unit)), psInR sh_laws_eqChange ((a0, a1, a2, a3, a4, a5, a6, a7, a8, ()), (b0, b1, b2, b3, b4, b5, b6, b7, b8, ()), ()) → (True) → VC_laws_eqChange a0 a1 a2 a3 a4 a5 a6 a7 a8 b0 b1 b2 b3 b4 b5 b6 b7 b8 fun r => r = ((Sp.eqChange (a0, a1, a2, a3, a4, a5, a6, a7, a8, ()) (b0, b1, b2, b3, b4, b5, b6, b7, b8, ()), ()))) : ConOK prog G n_laws_eqChange con_laws_eqChange :=
  conR_ok env mixed (fn := f36) (c := codeOf f36) (by kernel_rfl) (by kernel_rfl) H_laws_eqChange (by kernel_rfl) fun ⟨⟨a0, a1, a2, a3, a4, a5, a6, a7, a8, ⟨⟩⟩, ⟨b0, b1, b2, b3, b4, b5, b6, b7, b8, ⟨⟩⟩, ⟨⟩⟩ hin hp =>
  Eq.mpr ((by kernel_rfl : awp Θ Γ_laws_eqChange H_laws_eqChange (codeOf f36) (endsV Θ f36.results.toList rsh_laws_eqChange fun r => r = (F_laws_eqChange ((a0, a1, a2, a3, a4, a5, a6, a7, a8, ()), (b0, b1, b2, b3, b4, b5, b6, b7, b8, ()), ())).2) (entry f36.ntmps (psVals sh_laws_eqChange ((a0, a1, a2, a3, a4, a5, a6, a7, a8, ()), (b0, b1, b2, b3, b4, b5, b6, b7, b8, ()), ()))) = VC_laws_eqChange a0 a1 a2 a3 a4 a5 a6 a7 a8 b0 b1 b2 b3 b4 b5 b6 b7 b8 fun r => r = ((Sp.eqChange (a0, a1, a2, a3, a4, a5, a6, a7, a8, ()) (b0, b1, b2, b3, b4, b5, b6, b7, b8, ()), ())))) (h a0 a1 a2 a3 a4 a5 a6 a7 a8 b0 b1 b2 b3 b4 b5 b6 b7 b8 hin hp)

def H_laws_eqChangeS : Hints := Go.Fw.hints [] [(4, ⟨[], ⟨[(0, .one (.sl 59 (.cons (.int .i64) (.cons (.int .i64) (.cons (.int .i64) (.cons .bool (.cons (.int .i64) (.cons (.sl 84 (.cons .str (.cons (.int .i64) (.cons (.int .i64) (.cons .str .nil))))) (.cons (.int .i64) (.cons .str (.cons (.sl 86 (.cons (.int .i64) (.cons (.int .i64) (.cons (.int .i64) (.cons .str (.cons (.int .i64) (.cons (.int .i64) (.cons .str .nil)))))))) .nil))))))))) false)), (1, .one (.sl 59 (.cons (.int .i64) (.cons (.int .i64) (.cons (.int .i64) (.cons .bool (.cons (.int .i64) (.cons (.sl 84 (.cons .str (.cons (.int .i64) (.cons (.int .i64) (.cons .str .nil))))) (.cons (.int .i64) (.cons .str (.cons (.sl 86 (.cons (.int .i64) (.cons (.int .i64) (.cons (.int .i64) (.cons .str (.cons (.int .i64) (.cons (.int .i64) (.cons .str .nil)))))))) .nil))))))))) false))], []⟩, ⟨[(5, .one (.int .i64))], []⟩⟩)] [] [] []
def VC_laws_eqChangeS (a : List
  (Int × Int × Int × Bool × Int × List (List UInt8 × Int × Int × List UInt8 × Unit) × Int × List UInt8 × List (Int × Int × Int × List UInt8 × Int × Int × List UInt8 × Unit) × Unit)) (b : List
  (Int × Int × Int × Bool × Int × List (List UInt8 × Int × Int × List UInt8 × Unit) × Int × List UInt8 × List (Int × Int × Int × List UInt8 × Int × Int × List UInt8 × Unit) × Unit)) (K : Bool × Unit → Prop) : Prop :=
  bif (↑a.length : Int) != (↑b.length : Int) then K (false, ())
  else
 let s0 := ((a, b, ()), ());
  ∃ (I : (Int × Unit) × Unit → Prop),
  ∃ (μ : (Int × Unit) × Unit → Nat),
  I (((0 : Int), ()), ()) ∧
  ∀ (y1 : (Int × Unit) × Unit),
  I y1 →
  bif decide (y1.1.1 < (↑a.length : Int)) then
  ((0 : Int) ≤ y1.1.1 ∧ y1.1.1 < (↑a.length : Int)) ∧
  ((0 : Int) ≤ y1.1.1 ∧ y1.1.1 < (↑b.length : Int)) ∧
  True ∧
 let r2 :=
  Sp.eqChange
  ((a.getD (Int.toNat y1.1.1) ((0 : Int), (0 : Int), (0 : Int), false, (0 : Int), [], (0 : Int), [], [], ())).1,
  (a.getD (Int.toNat y1.1.1) ((0 : Int), (0 : Int), (0 : Int), false, (0 : Int), [], (0 : Int), [], [], ())).2.1,
  (a.getD (Int.toNat y1.1.1) ((0 : Int), (0 : Int), (0 : Int), false, (0 : Int), [], (0 : Int), [], [], ())).2.2.1,
  (a.getD (Int.toNat y1.1.1) ((0 : Int), (0 : Int), (0 : Int), false, (0 : Int), [], (0 : Int), [], [], ())).2.2.2.1,
  (a.getD (Int.toNat y1.1.1) ((0 : Int), (0 : Int), (0 : Int), false, (0 : Int), [], (0 : Int), [], [], ())).2.2.2.2.1,
  (a.getD (Int.toNat y1.1.1) ((0 : Int), (0 : Int), (0 : Int), false, (0 : Int), [], (0 : Int), [], [], ())).2.2.2.2.2.1,
  (a.getD (Int.toNat y1.1.1) ((0 : Int), (0 : Int), (0 : Int), false, (0 : Int), [], (0 : Int), [], [], ())).2.2.2.2.2.2.1,
  (a.getD (Int.toNat y1.1.1) ((0 : Int), (0 : Int), (0 : Int), false, (0 : Int), [], (0 : Int), [], [], ())).2.2.2.2.2.2.2.1,
  (a.getD (Int.toNat y1.1.1) ((0 : Int), (0 : Int), (0 : Int), false, (0 : Int), [], (0 : Int), [], [], ())).2.2.2.2.2.2.2.2.1, ())
  ((b.getD (Int.toNat y1.1.1) ((0 : Int), (0 : Int), (0 : Int), false, (0 : Int), [], (0 : Int), [], [], ())).1,
  (b.getD (Int.toNat y1.1.1) ((0 : Int), (0 : Int), (0 : Int), false, (0 : Int), [], (0 : Int), [], [], ())).2.1,
  (b.getD (Int.toNat y1.1.1) ((0 : Int), (0 : Int), (0 : Int), false, (0 : Int), [], (0 : Int), [], [], ())).2.2.1,
  (b.getD (Int.toNat y1.1.1) ((0 : Int), (0 : Int), (0 : Int), false, (0 : Int), [], (0 : Int), [], [], ())).2.2.2.1,
  (b.getD (Int.toNat y1.1.1) ((0 : Int), (0 : Int), (0 : Int), false, (0 : Int), [], (0 : Int), [], [], ())).2.2.2.2.1,
  (b.getD (Int.toNat y1.1.1) ((0 : Int), (0 : Int), (0 : Int), false, (0 : Int), [], (0 : Int), [], [], ())).2.2.2.2.2.1,
  (b.getD (Int.toNat y1.1.1) ((0 : Int), (0 : Int), (0 : Int), false, (0 : Int), [], (0 : Int), [], [], ())).2.2.2.2.2.2.1,
  (b.getD (Int.toNat y1.1.1) ((0 : Int), (0 : Int), (0 : Int), false, (0 : Int), [], (0 : Int), [], [], ())).2.2.2.2.2.2.2.1,
  (b.getD (Int.toNat y1.1.1) ((0 : Int), (0 : Int), (0 : Int), false, (0 : Int), [], (0 : Int), [], [], ())).2.2.2.2.2.2.2.2.1, ());
  bif !r2 then K (false, ())
  else s0 = s0 ∧ I ((IntKind.i64.wrap (y1.1.1 + (1 : Int)), ()), ()) ∧ μ ((IntKind.i64.wrap (y1.1.1 + (1 : Int)), ()), ()) < μ y1
  else K (true, ())
theorem wk_laws_eqChangeS (env : EnvB prog G Θ Γ_laws_eqChangeS) (h : ∀ (a : List
  (Int × Int × Int × Bool × Int × List (List UInt8 × Int × Int × List UInt8 × Unit) × Int × List UInt8 × List (Int × Int × Int × List UInt8 × Int × Int × List UInt8 × Unit) × Unit)) (b : List
  (Int × Int × Int × Bool × Int × List (List UInt8 × Int × Int × List UInt8 × Unit) × Int × List UInt8 × List (Int × Int × Int × List UInt8 × Int × Int × List UInt8 × Unit) × Unit)), psInR sh_laws_eqChangeS (a, b, ()) → (True) → VC_laws_eqChangeS a b fun r => r = ((Sp.eqChangeS a b, ()))) : ConOK prog G n_laws_eqChangeS con_laws_eqChangeS :=
  conR_ok env mixed (fn := f19) (c := codeOf f19) (by kernel_rfl) (by kernel_rfl) H_laws_eqChangeS (by kernel_rfl) fun ⟨a, b, ⟨⟩⟩ hin hp =>
  Eq.mpr ((by kernel_rfl : awp Θ Γ_laws_eqChangeS H_laws_eqChangeS (codeOf f19) (endsV Θ f19.results.toList rsh_laws_eqChangeS fun r => r = (F_laws_eqChangeS (a, b, ())).2) (entry f19.ntmps (psVals sh_laws_eqChangeS (a, b, ()))) = VC_laws_eqChangeS a b fun r => r = ((Sp.eqChangeS a b, ())))) (h a b hin hp)

def H_laws_eqAction : Hints := Go.Fw.hints [] [] [] [] []
def VC_laws_eqAction (a0 : Int) (a1 : Int) (a2 : List
  (Int × Int × Int × Bool × Int × List (List UInt8 × Int × Int × List UInt8 × Unit) × Int × List UInt8 × List (Int × Int × Int × List UInt8 × Int × Int × List UInt8 × Unit) × Unit)) (a3 : List UInt8) (a4 : Int) (b0 : Int) (b1 : Int) (b2 : List
  (Int × Int × Int × Bool × Int × List (List UInt8 × Int × Int × List UInt8 × Unit) × Int × List UInt8 × List (Int × Int × Int × List UInt8 × Int × Int × List UInt8 × Unit) × Unit)) (b3 : List UInt8) (b4 : Int) (K : Bool × Unit → Prop) : Prop :=
  bif a0 != b0 then K (false, ())
  else
  bif a1 != b1 then K (false, ())
  else True ∧ bif !Sp.eqChangeS a2 b2 then K (false, ()) else bif !a3 == b3 then K (false, ()) else bif a4 != b4 then K (false, ()) else K (true, ())
theorem wk_laws_eqAction (env : EnvB prog G Θ Γ_laws_eqAction) (h : ∀ (a0 : Int) (a1 : Int) (a2 : List
  (Int × Int × Int × Bool × Int × List (List UInt8 × Int × Int × List UInt8 × Unit) × Int × List UInt8 × List (Int × Int × Int × List UInt8 × Int × Int × List UInt8 × Unit) × Unit)) (a3 : List UInt8) (a4 : Int) (b0 : Int) (b1 : Int) (b2 : List
  (Int × Int × Int × Bool × Int × List (List UInt8 × Int × Int × List UInt8 × Unit) × Int × List UInt8 × List (Int × Int × Int × List UInt8 × Int × Int × List UInt8 × Unit) × Unit)) (b3 : List UInt8) (b4 : Int), psInR sh_laws_eqAction ((a0, a1, a2, a3, a4, ()), (b0, b1, b2, b3, b4, ()), ()) → (True) → VC_laws_eqAction a0 a1 a2 a3 a4 b0 b1 b2 b3 b4 fun r => r = ((Sp.eqAction (a0, a1, a2, a3, a4, ()) (b0, b1, b2, b3, b4, ()), ()))) : ConOK prog G n_laws_eqAction con_laws_eqAction :=
  conR_ok env mixed (fn := f6) (c := codeOf f6) (by kernel_rfl) (by kernel_rfl) H_laws_eqAction (by kernel_rfl) fun ⟨⟨a0, a1, a2, a3, a4, ⟨⟩⟩, ⟨b0, b1, b2, b3, b4, ⟨⟩⟩, ⟨⟩⟩ hin hp =>
  Eq.mpr ((by kernel_rfl : awp Θ Γ_laws_eqAction H_laws_eqAction (codeOf f6) (endsV Θ f6.results.toList rsh_laws_eqAction fun r => r = (F_laws_eqAction ((a0, a1, a2, a3, a4, ()), (b0, b1, b2, b3, b4, ()), ())).2) (entry f6.ntmps (psVals sh_laws_eqAction ((a0, a1, a2, a3, a4, ()), (b0, b1, b2, b3, b4, ()), ()))) = VC_laws_eqAction a0 a1 a2 a3 a4 b0 b1 b2 b3 b4 fun r => r = ((Sp.eqAction (a0, a1, a2, a3, a4, ()) (b0, b1, b2, b3, b4, ()), ())))) (h a0 a1 a2 a3 a4 b0 b1 b2 b3 b4 hin hp)

def H_spec_l01In : Hints := Go.Fw.hints [] [] [] [] []
def VC_spec_l01In (x : Int) (least : Int) (most : Int) (K : Bool × Unit → Prop) : Prop :=
  bif decide (x ≥ least) then K (decide (x ≤ most), ()) else K (false, ())
theorem wk_spec_l01In (env : EnvB prog G Θ Γ_spec_l01In) (h : ∀ (x : Int) (least : Int) (most : Int), psInR sh_spec_l01In (x, least, most, ()) → (True) → VC_spec_l01In x least most fun r => r = ((decide (least ≤ x) && decide (x ≤ most), ()))) : ConOK prog G n_spec_l01In con_spec_l01In :=
  conR_ok env mixed (fn := f23) (c := codeOf f23) (by kernel_rfl) (by kernel_rfl) H_spec_l01In (by kernel_rfl) fun ⟨x, least, most, ⟨⟩⟩ hin hp =>
  Eq.mpr ((by kernel_rfl : awp Θ Γ_spec_l01In H_spec_l01In (codeOf f23) (endsV Θ f23.results.toList rsh_spec_l01In fun r => r = (F_spec_l01In (x, least, most, ())).2) (entry f23.ntmps (psVals sh_spec_l01In (x, least, most, ()))) = VC_spec_l01In x least most fun r => r = ((decide (least ≤ x) && decide (x ≤ most), ())))) (h x least most hin hp)

def H_impl_within : Hints := Go.Fw.hints [] [] [] [] []
def VC_impl_within (n : Int) (low : Int) (high : Int) (K : Bool × Unit → Prop) : Prop :=
  bif decide (low ≤ n) then K (decide (n ≤ high), ()) else K (false, ())
theorem wk_impl_within (env : EnvB prog G Θ Γ_impl_within) (h : ∀ (n : Int) (low : Int) (high : Int), psInR sh_impl_within (n, low, high, ()) → (True) → VC_impl_within n low high fun r => r = ((decide (low ≤ n) && decide (n ≤ high), ()))) : ConOK prog G n_impl_within con_impl_within :=
  conR_ok env mixed (fn := f27) (c := codeOf f27) (by kernel_rfl) (by kernel_rfl) H_impl_within (by kernel_rfl) fun ⟨n, low, high, ⟨⟩⟩ hin hp =>
  Eq.mpr ((by kernel_rfl : awp Θ Γ_impl_within H_impl_within (codeOf f27) (endsV Θ f27.results.toList rsh_impl_within fun r => r = (F_impl_within (n, low, high, ())).2) (entry f27.ntmps (psVals sh_impl_within (n, low, high, ()))) = VC_impl_within n low high fun r => r = ((decide (low ≤ n) && decide (n ≤ high), ())))) (h n low high hin hp)

def H_spec_l02Text : Hints := Go.Fw.hints [] [(2, ⟨[], ⟨[(0, .one (.str)), (1, .one (.int .i64))], []⟩, ⟨[(5, .one (.int .i64))], []⟩⟩)] [] [] []
def VC_spec_l02Text (s : List UInt8) (most : Int) (K : Bool × Unit → Prop) : Prop :=
 let s0 := ((s, most, ()), ());
  ∃ (I : (Int × Unit) × Unit → Prop),
  ∃ (μ : (Int × Unit) × Unit → Nat),
  I (((0 : Int), ()), ()) ∧
  ∀ (y1 : (Int × Unit) × Unit),
  I y1 →
  bif decide (y1.1.1 < (↑s.length : Int)) then
  ((0 : Int) ≤ y1.1.1 ∧ y1.1.1 < (↑s.length : Int)) ∧
  bif decide ((↑(s.getD (Int.toNat y1.1.1) (0 : UInt8)).toNat : Int) < (97 : Int)) then K (false, ())
  else
  ((0 : Int) ≤ y1.1.1 ∧ y1.1.1 < (↑s.length : Int)) ∧
  bif decide ((↑(s.getD (Int.toNat y1.1.1) (0 : UInt8)).toNat : Int) > (122 : Int)) then K (false, ())
  else s0 = s0 ∧ I ((IntKind.i64.wrap (y1.1.1 + (1 : Int)), ()), ()) ∧ μ ((IntKind.i64.wrap (y1.1.1 + (1 : Int)), ()), ()) < μ y1
  else
  True ∧
 let r2 := decide ((1 : Int) ≤ (↑s.length : Int)) && decide ((↑s.length : Int) ≤ most);
  K (r2, ())
theorem wk_spec_l02Text (env : EnvB prog G Θ Γ_spec_l02Text) (h : ∀ (s : List UInt8) (most : Int), psInR sh_spec_l02Text (s, most, ()) → (True) → VC_spec_l02Text s most fun r => r = ((Sp.lower s && decide ((1 : Int) ≤ (↑s.length : Int)) && decide ((↑s.length : Int) ≤ most), ()))) : ConOK prog G n_spec_l02Text con_spec_l02Text :=
  conR_ok env mixed (fn := f42) (c := codeOf f42) (by kernel_rfl) (by kernel_rfl) H_spec_l02Text (by kernel_rfl) fun ⟨s, most, ⟨⟩⟩ hin hp =>
  Eq.mpr ((by kernel_rfl : awp Θ Γ_spec_l02Text H_spec_l02Text (codeOf f42) (endsV Θ f42.results.toList rsh_spec_l02Text fun r => r = (F_spec_l02Text (s, most, ())).2) (entry f42.ntmps (psVals sh_spec_l02Text (s, most, ()))) = VC_spec_l02Text s most fun r => r = ((Sp.lower s && decide ((1 : Int) ≤ (↑s.length : Int)) && decide ((↑s.length : Int) ≤ most), ())))) (h s most hin hp)

def H_spec_IsValidString : Hints := Go.Fw.hints [] [] [] [] []
def VC_spec_IsValidString (s : List UInt8) (K : Bool × Unit → Prop) : Prop :=
  True ∧
 let r0 := Sp.lower s && decide ((1 : Int) ≤ (↑s.length : Int)) && decide ((↑s.length : Int) ≤ (6 : Int));
  K (r0, ())
theorem wk_spec_IsValidString (env : EnvB prog G Θ Γ_spec_IsValidString) (h : ∀ (s : List UInt8), psInR sh_spec_IsValidString (s, ()) → (True) → VC_spec_IsValidString s fun r => r = ((Sp.validStr s, ()))) : ConOK prog G n_spec_IsValidString con_spec_IsValidString :=
  conR_ok env mixed (fn := f24) (c := codeOf f24) (by kernel_rfl) (by kernel_rfl) H_spec_IsValidString (by kernel_rfl) fun ⟨s, ⟨⟩⟩ hin hp =>
  Eq.mpr ((by kernel_rfl : awp Θ Γ_spec_IsValidString H_spec_IsValidString (codeOf f24) (endsV Θ f24.results.toList rsh_spec_IsValidString fun r => r = (F_spec_IsValidString (s, ())).2) (entry f24.ntmps (psVals sh_spec_IsValidString (s, ()))) = VC_spec_IsValidString s fun r => r = ((Sp.validStr s, ())))) (h s hin hp)

def H_impl_IsValidString : Hints := Go.Fw.hints [] [(2, ⟨[], ⟨[(0, .one (.str)), (5, .one (.int .i64))], []⟩, ⟨[(6, .one (.int .i64))], []⟩⟩)] [] [] []
def VC_impl_IsValidString (s : List UInt8) (K : Bool × Unit → Prop) : Prop :=
 let s0 := ((s, (↑s.length : Int), ()), ());
  ∃ (I : (Int × Unit) × Unit → Prop),
  ∃ (μ : (Int × Unit) × Unit → Nat),
  I (((0 : Int), ()), ()) ∧
  ∀ (y1 : (Int × Unit) × Unit),
  I y1 →
  bif decide (y1.1.1 < (↑s.length : Int)) then
  ((0 : Int) ≤ y1.1.1 ∧ y1.1.1 < (↑s.length : Int)) ∧
  bif decide ((↑(s.getD (Int.toNat y1.1.1) (0 : UInt8)).toNat : Int) < (97 : Int)) then K (false, ())
  else
  ((0 : Int) ≤ y1.1.1 ∧ y1.1.1 < (↑s.length : Int)) ∧
  bif decide ((↑(s.getD (Int.toNat y1.1.1) (0 : UInt8)).toNat : Int) > (122 : Int)) then K (false, ())
  else s0 = s0 ∧ I ((IntKind.i64.wrap (y1.1.1 + (1 : Int)), ()), ()) ∧ μ ((IntKind.i64.wrap (y1.1.1 + (1 : Int)), ()), ()) < μ y1
  else
  True ∧
 let r2 := decide ((1 : Int) ≤ (↑s.length : Int)) && decide ((↑s.length : Int) ≤ (6 : Int));
  K (r2, ())
theorem wk_impl_IsValidString (env : EnvB prog G Θ Γ_impl_IsValidString) (h : ∀ (s : List UInt8), psInR sh_impl_IsValidString (s, ()) → (True) → VC_impl_IsValidString s fun r => r = ((Sp.validStr s, ()))) : ConOK prog G n_impl_IsValidString con_impl_IsValidString :=
  conR_ok env mixed (fn := f34) (c := codeOf f34) (by kernel_rfl) (by kernel_rfl) H_impl_IsValidString (by kernel_rfl) fun ⟨s, ⟨⟩⟩ hin hp =>
  Eq.mpr ((by kernel_rfl : awp Θ Γ_impl_IsValidString H_impl_IsValidString (codeOf f34) (endsV Θ f34.results.toList rsh_impl_IsValidString fun r => r = (F_impl_IsValidString (s, ())).2) (entry f34.ntmps (psVals sh_impl_IsValidString (s, ()))) = VC_impl_IsValidString s fun r => r = ((Sp.validStr s, ())))) (h s hin hp)

def H_spec_IsValidAction : Hints := Go.Fw.hints [] [] [] [] []
def VC_spec_IsValidAction (a0 : Int) (a1 : Int) (a2 : List
  (Int × Int × Int × Bool × Int × List (List UInt8 × Int × Int × List UInt8 × Unit) × Int × List UInt8 × List (Int × Int × Int × List UInt8 × Int × Int × List UInt8 × Unit) × Unit)) (a3 : List UInt8) (a4 : Int) (K : Bool × Unit → Prop) : Prop :=
  True ∧
 let r0 := decide ((1 : Int) ≤ a0) && decide (a0 ≤ (8 : Int));
  bif r0 then K (decide ((↑a2.length : Int) ≤ (6 : Int)), ()) else K (false, ())
theorem wk_spec_IsValidAction (env : EnvB prog G Θ Γ_spec_IsValidAction) (h : ∀ (a0 : Int) (a1 : Int) (a2 : List
  (Int × Int × Int × Bool × Int × List (List UInt8 × Int × Int × List UInt8 × Unit) × Int × List UInt8 × List (Int × Int × Int × List UInt8 × Int × Int × List UInt8 × Unit) × Unit)) (a3 : List UInt8) (a4 : Int), psInR sh_spec_IsValidAction ((a0, a1, a2, a3, a4, ()), ()) → (True) → VC_spec_IsValidAction a0 a1 a2 a3 a4 fun r => r = ((Sp.validAct a0 a2.length, ()))) : ConOK prog G n_spec_IsValidAction con_spec_IsValidAction :=
  conR_ok env mixed (fn := f25) (c := codeOf f25) (by kernel_rfl) (by kernel_rfl) H_spec_IsValidAction (by kernel_rfl) fun ⟨⟨a0, a1, a2, a3, a4, ⟨⟩⟩, ⟨⟩⟩ hin hp =>
  Eq.mpr ((by kernel_rfl : awp Θ Γ_spec_IsValidAction H_spec_IsValidAction (codeOf f25) (endsV Θ f25.results.toList rsh_spec_IsValidAction fun r => r = (F_spec_IsValidAction ((a0, a1, a2, a3, a4, ()), ())).2) (entry f25.ntmps (psVals sh_spec_IsValidAction ((a0, a1, a2, a3, a4, ()), ()))) = VC_spec_IsValidAction a0 a1 a2 a3 a4 fun r => r = ((Sp.validAct a0 a2.length, ())))) (h a0 a1 a2 a3 a4 hin hp)

def H_impl_IsValidAction : Hints := Go.Fw.hints [] [] [] [] []
def VC_impl_IsValidAction (a0 : Int) (a1 : Int) (a2 : List
  (Int × Int × Int × Bool × Int × List (List UInt8 × Int × Int × List UInt8 × Unit) × Int × List UInt8 × List (Int × Int × Int × List UInt8 × Int × Int × List UInt8 × Unit) × Unit)) (a3 : List UInt8) (a4 : Int) (K : Bool × Unit → Prop) : Prop :=
  True ∧
 let r0 := decide ((1 : Int) ≤ a0) && decide (a0 ≤ (8 : Int));
  bif r0 then K (decide ((↑a2.length : Int) ≤ (6 : Int)), ()) else K (false, ())
theorem wk_impl_IsValidAction (env : EnvB prog G Θ Γ_impl_IsValidAction) (h : ∀ (a0 : Int) (a1 : Int) (a2 : List
  (Int × Int × Int × Bool × Int × List (List UInt8 × Int × Int × List UInt8 × Unit) × Int × List UInt8 × List (Int × Int × Int × List UInt8 × Int × Int × List UInt8 × Unit) × Unit)) (a3 : List UInt8) (a4 : Int), psInR sh_impl_IsValidAction ((a0, a1, a2, a3, a4, ()), ()) → (True) → VC_impl_IsValidAction a0 a1 a2 a3 a4 fun r => r = ((Sp.validAct a0 a2.length, ()))) : ConOK prog G n_impl_IsValidAction con_impl_IsValidAction :=
  conR_ok env mixed (fn := f32) (c := codeOf f32) (by kernel_rfl) (by kernel_rfl) H_impl_IsValidAction (by kernel_rfl) fun ⟨⟨a0, a1, a2, a3, a4, ⟨⟩⟩, ⟨⟩⟩ hin hp =>
  Eq.mpr ((by kernel_rfl : awp Θ Γ_impl_IsValidAction H_impl_IsValidAction (codeOf f32) (endsV Θ f32.results.toList rsh_impl_IsValidAction fun r => r = (F_impl_IsValidAction ((a0, a1, a2, a3, a4, ()), ())).2) (entry f32.ntmps (psVals sh_impl_IsValidAction ((a0, a1, a2, a3, a4, ()), ()))) = VC_impl_IsValidAction a0 a1 a2 a3 a4 fun r => r = ((Sp.validAct a0 a2.length, ())))) (h a0 a1 a2 a3 a4 hin hp)

def H_impl_areNumbers_1 : Hints := Go.Fw.hints [] [] [] [] []
def VC_impl_areNumbers_1 (n : Int) (K : Bool × Unit → Prop) : Prop :=
  True ∧
 let r0 := decide ((0 : Int) ≤ n) && decide (n ≤ (1000000000 : Int));
  K (!r0, ())
theorem wk_impl_areNumbers_1 (env : EnvB prog G Θ Γ_impl_areNumbers_1) (h : ∀ (n : Int), psInR sh_impl_areNumbers_1 (n, ()) → (True) → VC_impl_areNumbers_1 n fun r => r = ((!Sp.isUint n, ()))) : ConOK prog G n_impl_areNumbers_1 con_impl_areNumbers_1 :=
  conR_ok env mixed (fn := f49) (c := codeOf f49) (by kernel_rfl) (by kernel_rfl) H_impl_areNumbers_1 (by kernel_rfl) fun ⟨n, ⟨⟩⟩ hin hp =>
  Eq.mpr ((by kernel_rfl : awp Θ Γ_impl_areNumbers_1 H_impl_areNumbers_1 (codeOf f49) (endsV Θ f49.results.toList rsh_impl_areNumbers_1 fun r => r = (F_impl_areNumbers_1 (n, ())).2) (entry f49.ntmps (psVals sh_impl_areNumbers_1 (n, ()))) = VC_impl_areNumbers_1 n fun r => r = ((!Sp.isUint n, ())))) (h n hin hp)

def H_slices_IndexFunc_int__impl_areNumbers_1 : Hints := Go.Fw.hints [] [(2, ⟨[], ⟨[(0, .one (.sl 3 (.cons (.int .i64) .nil) false)), (1, .fn 49 []), (7, .one (.int .i64))], []⟩, ⟨[(8, .one (.int .i64))], []⟩⟩)] [] [] []
def VC_slices_IndexFunc_int__impl_areNumbers_1 (s : List (Int × Unit)) (K : Int × Unit → Prop) : Prop :=
 let s0 := ((s, (), (↑s.length : Int), ()), ());
  ∃ (I : (Int × Unit) × Unit → Prop),
  ∃ (μ : (Int × Unit) × Unit → Nat),
  I (((0 : Int), ()), ()) ∧
  ∀ (y1 : (Int × Unit) × Unit),
  I y1 →
  bif decide (y1.1.1 < (↑s.length : Int)) then
  ((0 : Int) ≤ y1.1.1 ∧ y1.1.1 < (↑s.length : Int)) ∧
  True ∧
 let r2 := !Sp.isUint (s.getD (Int.toNat y1.1.1) ((0 : Int), ())).1;
  bif r2 then K (y1.1.1, ())
  else s0 = s0 ∧ I ((IntKind.i64.wrap (y1.1.1 + (1 : Int)), ()), ()) ∧ μ ((IntKind.i64.wrap (y1.1.1 + (1 : Int)), ()), ()) < μ y1
  else K ((-1 : Int), ())
theorem wk_slices_IndexFunc_int__impl_areNumbers_1 (env : EnvB prog G Θ Γ_slices_IndexFunc_int__impl_areNumbers_1) (h : ∀ (s : List (Int × Unit)), psInR sh_slices_IndexFunc_int__impl_areNumbers_1 (s, (()), ()) → (True) → VC_slices_IndexFunc_int__impl_areNumbers_1 s fun r => r = ((Sp.idxOf s, ()))) : ConOK prog G n_slices_IndexFunc_int__impl_areNumbers_1 con_slices_IndexFunc_int__impl_areNumbers_1 :=
  conR_ok env mixed (fn := f59) (c := codeOf f59) (by kernel_rfl) (by kernel_rfl) H_slices_IndexFunc_int__impl_areNumbers_1 (by kernel_rfl) fun ⟨s, ⟨⟩, ⟨⟩⟩ hin hp =>
  Eq.mpr ((by kernel_rfl : awp Θ Γ_slices_IndexFunc_int__impl_areNumbers_1 H_slices_IndexFunc_int__impl_areNumbers_1 (codeOf f59) (endsV Θ f59.results.toList rsh_slices_IndexFunc_int__impl_areNumbers_1 fun r => r = (F_slices_IndexFunc_int__impl_areNumbers_1 (s, (()), ())).2) (entry f59.ntmps (psVals sh_slices_IndexFunc_int__impl_areNumbers_1 (s, (()), ()))) = VC_slices_IndexFunc_int__impl_areNumbers_1 s fun r => r = ((Sp.idxOf s, ())))) (h s hin hp)

def H_slices_ContainsFunc_int__impl_areNumbers_1 : Hints := Go.Fw.hints [] [] [] [] []
def VC_slices_ContainsFunc_int__impl_areNumbers_1 (s : List (Int × Unit)) (K : Bool × Unit → Prop) : Prop :=
  True ∧ K (decide (Sp.idxOf s ≥ (0 : Int)), ())
theorem wk_slices_ContainsFunc_int__impl_areNumbers_1 (env : EnvB prog G Θ Γ_slices_ContainsFunc_int__impl_areNumbers_1) (h : ∀ (s : List (Int × Unit)), psInR sh_slices_ContainsFunc_int__impl_areNumbers_1 (s, (()), ()) → (True) → VC_slices_ContainsFunc_int__impl_areNumbers_1 s fun r => r = ((!Sp.areUints s, ()))) : ConOK prog G n_slices_ContainsFunc_int__impl_areNumbers_1 con_slices_ContainsFunc_int__impl_areNumbers_1 :=
  conR_ok env mixed (fn := f48) (c := codeOf f48) (by kernel_rfl) (by kernel_rfl) H_slices_ContainsFunc_int__impl_areNumbers_1 (by kernel_rfl) fun ⟨s, ⟨⟩, ⟨⟩⟩ hin hp =>
  Eq.mpr ((by kernel_rfl : awp Θ Γ_slices_ContainsFunc_int__impl_areNumbers_1 H_slices_ContainsFunc_int__impl_areNumbers_1 (codeOf f48) (endsV Θ f48.results.toList rsh_slices_ContainsFunc_int__impl_areNumbers_1 fun r => r = (F_slices_ContainsFunc_int__impl_areNumbers_1 (s, (()), ())).2) (entry f48.ntmps (psVals sh_slices_ContainsFunc_int__impl_areNumbers_1 (s, (()), ()))) = VC_slices_ContainsFunc_int__impl_areNumbers_1 s fun r => r = ((!Sp.areUints s, ())))) (h s hin hp)

def H_impl_areNumbers : Hints := Go.Fw.hints [] [] [] [] []
def VC_impl_areNumbers (l : List (Int × Unit)) (K : Bool × Unit → Prop) : Prop :=
  True ∧ K (!!Sp.areUints l, ())
theorem wk_impl_areNumbers (env : EnvB prog G Θ Γ_impl_areNumbers) (h : ∀ (l : List (Int × Unit)), psInR sh_impl_areNumbers (l, ()) → (True) → VC_impl_areNumbers l fun r => r = ((Sp.areUints l, ()))) : ConOK prog G n_impl_areNumbers con_impl_areNumbers :=
  conR_ok env mixed (fn := f33) (c := codeOf f33) (by kernel_rfl) (by kernel_rfl) H_impl_areNumbers (by kernel_rfl) fun ⟨l, ⟨⟩⟩ hin hp =>
  Eq.mpr ((by kernel_rfl : awp Θ Γ_impl_areNumbers H_impl_areNumbers (codeOf f33) (endsV Θ f33.results.toList rsh_impl_areNumbers fun r => r = (F_impl_areNumbers (l, ())).2) (entry f33.ntmps (psVals sh_impl_areNumbers (l, ()))) = VC_impl_areNumbers l fun r => r = ((Sp.areUints l, ())))) (h l hin hp)

def H_spec_FormatAction : Hints := Go.Fw.hints [] [] [(6, ⟨[], ⟨[(1, .kptr [.int .i64, .int .i64, .sl 59 (.cons (.int .i64) (.cons (.int .i64) (.cons (.int .i64) (.cons .bool (.cons (.int .i64) (.cons (.sl 84 (.cons .str (.cons (.int .i64) (.cons (.int .i64) (.cons .str .nil))))) (.cons (.int .i64) (.cons .str (.cons (.sl 86 (.cons (.int .i64) (.cons (.int .i64) (.cons (.int .i64) (.cons .str (.cons (.int .i64) (.cons (.int .i64) (.cons .str .nil)))))))) .nil))))))))) false, .str, .int .i64] 0), (3, .one (.bool)), (4, .one (.bool)), (5, .one (.bool))], []⟩, ⟨[], []⟩⟩), (7, ⟨[], ⟨[(1, .kptr [.int .i64, .int .i64, .sl 59 (.cons (.int .i64) (.cons (.int .i64) (.cons (.int .i64) (.cons .bool (.cons (.int .i64) (.cons (.sl 84 (.cons .str (.cons (.int .i64) (.cons (.int .i64) (.cons .str .nil))))) (.cons (.int .i64) (.cons .str (.cons (.sl 86 (.cons (.int .i64) (.cons (.int .i64) (.cons (.int .i64) (.cons .str (.cons (.int .i64) (.cons (.int .i64) (.cons .str .nil)))))))) .nil))))))))) false, .str, .int .i64] 0), (3, .one (.bool)), (4, .one (.bool)), (5, .one (.bool))], []⟩, ⟨[(29, .one (.bool))], []⟩⟩), (9, ⟨[], ⟨[(1, .kptr [.int .i64, .int .i64, .sl 59 (.cons (.int .i64) (.cons (.int .i64) (.cons (.int .i64) (.cons .bool (.cons (.int .i64) (.cons (.sl 84 (.cons .str (.cons (.int .i64) (.cons (.int .i64) (.cons .str .nil))))) (.cons (.int .i64) (.cons .str (.cons (.sl 86 (.cons (.int .i64) (.cons (.int .i64) (.cons (.int .i64) (.cons .str (.cons (.int .i64) (.cons (.int .i64) (.cons .str .nil)))))))) .nil))))))))) false, .str, .int .i64] 0), (3, .one (.bool)), (4, .one (.bool)), (5, .one (.bool))], []⟩, ⟨[(50, .one (.bool))], []⟩⟩), (11, ⟨[], ⟨[(1, .kptr [.int .i64, .int .i64, .sl 59 (.cons (.int .i64) (.cons (.int .i64) (.cons (.int .i64) (.cons .bool (.cons (.int .i64) (.cons (.sl 84 (.cons .str (.cons (.int .i64) (.cons (.int .i64) (.cons .str .nil))))) (.cons (.int .i64) (.cons .str (.cons (.sl 86 (.cons (.int .i64) (.cons (.int .i64) (.cons (.int .i64) (.cons .str (.cons (.int .i64) (.cons (.int .i64) (.cons .str .nil)))))))) .nil))))))))) false, .str, .int .i64] 0), (3, .one (.bool)), (4, .one (.bool)), (5, .one (.bool))], []⟩, ⟨[(74, .one (.bool))], []⟩⟩), (13, ⟨[], ⟨[(1, .kptr [.int .i64, .int .i64, .sl 59 (.cons (.int .i64) (.cons (.int .i64) (.cons (.int .i64) (.cons .bool (.cons (.int .i64) (.cons (.sl 84 (.cons .str (.cons (.int .i64) (.cons (.int .i64) (.cons .str .nil))))) (.cons (.int .i64) (.cons .str (.cons (.sl 86 (.cons (.int .i64) (.cons (.int .i64) (.cons (.int .i64) (.cons .str (.cons (.int .i64) (.cons (.int .i64) (.cons .str .nil)))))))) .nil))))))))) false, .str, .int .i64] 0), (3, .one (.bool)), (4, .one (.bool)), (5, .one (.bool))], []⟩, ⟨[(97, .one (.bool))], []⟩⟩), (15, ⟨[], ⟨[(1, .kptr [.int .i64, .int .i64, .sl 59 (.cons (.int .i64) (.cons (.int .i64) (.cons (.int .i64) (.cons .bool (.cons (.int .i64) (.cons (.sl 84 (.cons .str (.cons (.int .i64) (.cons (.int .i64) (.cons .str .nil))))) (.cons (.int .i64) (.cons .str (.cons (.sl 86 (.cons (.int .i64) (.cons (.int .i64) (.cons (.int .i64) (.cons .str (.cons (.int .i64) (.cons (.int .i64) (.cons .str .nil)))))))) .nil))))))))) false, .str, .int .i64] 0), (3, .one (.bool)), (4, .one (.bool)), (5, .one (.bool))], []⟩, ⟨[(118, .one (.bool))], []⟩⟩), (17, ⟨[], ⟨[(1, .kptr [.int .i64, .int .i64, .sl 59 (.cons (.int .i64) (.cons (.int .i64) (.cons (.int .i64) (.cons .bool (.cons (.int .i64) (.cons (.sl 84 (.cons .str (.cons (.int .i64) (.cons (.int .i64) (.cons .str .nil))))) (.cons (.int .i64) (.cons .str (.cons (.sl 86 (.cons (.int .i64) (.cons (.int .i64) (.cons (.int .i64) (.cons .str (.cons (.int .i64) (.cons (.int .i64) (.cons .str .nil)))))))) .nil))))))))) false, .str, .int .i64] 0), (3, .one (.bool)), (4, .one (.bool)), (5, .one (.bool))], []⟩, ⟨[(139, .one (.bool))], []⟩⟩), (19, ⟨[], ⟨[(1, .kptr [.int .i64, .int .i64, .sl 59 (.cons (.int .i64) (.cons (.int .i64) (.cons (.int .i64) (.cons .bool (.cons (.int .i64) (.cons (.sl 84 (.cons .str (.cons (.int .i64) (.cons (.int .i64) (.cons .str .nil))))) (.cons (.int .i64) (.cons .str (.cons (.sl 86 (.cons (.int .i64) (.cons (.int .i64) (.cons (.int .i64) (.cons .str (.cons (.int .i64) (.cons (.int .i64) (.cons .str .nil)))))))) .nil))))))))) false, .str, .int .i64] 0), (3, .one (.bool)), (4, .one (.bool)), (5, .one (.bool))], []⟩, ⟨[(158, .one (.bool))], []⟩⟩), (21, ⟨[], ⟨[(1, .kptr [.int .i64, .int .i64, .sl 59 (.cons (.int .i64) (.cons (.int .i64) (.cons (.int .i64) (.cons .bool (.cons (.int .i64) (.cons (.sl 84 (.cons .str (.cons (.int .i64) (.cons (.int .i64) (.cons .str .nil))))) (.cons (.int .i64) (.cons .str (.cons (.sl 86 (.cons (.int .i64) (.cons (.int .i64) (.cons (.int .i64) (.cons .str (.cons (.int .i64) (.cons (.int .i64) (.cons .str .nil)))))))) .nil))))))))) false, .str, .int .i64] 0)], []⟩, ⟨[(184, .one (.bool))], []⟩⟩)] [] []
def VC_spec_FormatAction (a0 : Int) (a1 : Int) (a2 : List
  (Int × Int × Int × Bool × Int × List (List UInt8 × Int × Int × List UInt8 × Unit) × Int × List UInt8 × List (Int × Int × Int × List UInt8 × Int × Int × List UInt8 × Unit) × Unit)) (a3 : List UInt8) (a4 : Int) (K : List UInt8 × Unit → Prop) : Prop :=
  True ∧
 let r0 := decide ((0 : Int) ≤ a1) && decide (a1 ≤ (1000000000 : Int));
  True ∧
 let r1 := decide ((0 : Int) ≤ a4) && decide (a4 ≤ (1000000000 : Int));
  True ∧
 let s2 := (((a0, a1, a2, a3, a4, ()), r0, r1, Sp.validStr a3, ()), ());
  ∃ (J : Unit × Unit → Prop),
  (True ∧
 let r3 := Sp.validAct a0 a2.length;
  bif !r3 then K ([], ())
  else bif decide ((↑a2.length : Int) > (0 : Int)) then bif decide (a0 > (2 : Int)) then K ([], ()) else s2 = s2 ∧ J ((), ()) else s2 = s2 ∧ J ((), ())) ∧
  ∀ (y4 : Unit × Unit),
  J y4 →
 let s5 := (((a0, a1, a2, a3, a4, ()), r0, r1, Sp.validStr a3, ()), ());
  ∃ (J : (Bool × Unit) × Unit → Prop),
  (bif a0 == (1 : Int) then
  bif r0 then bif a4 == (0 : Int) then s5 = s5 ∧ J ((a3 == [], ()), ()) else s5 = s5 ∧ J ((false, ()), ()) else s5 = s5 ∧ J ((false, ()), ())
  else s5 = s5 ∧ J ((false, ()), ())) ∧
  ∀ (y6 : (Bool × Unit) × Unit),
  J y6 →
  bif y6.1.1 then
  True ∧
  [(99 : UInt8), (111 : UInt8), (109 : UInt8), (109 : UInt8), (105 : UInt8), (116 : UInt8), (32 : UInt8)].length + (Lib.itoa a1).length ≤ maxLen ∧
  K ([(99 : UInt8), (111 : UInt8), (109 : UInt8), (109 : UInt8), (105 : UInt8), (116 : UInt8), (32 : UInt8)] ++ Lib.itoa a1, ())
  else
 let s7 := (((a0, a1, a2, a3, a4, ()), r0, r1, Sp.validStr a3, ()), ());
  ∃ (J : (Bool × Unit) × Unit → Prop),
  (bif a0 == (2 : Int) then bif r0 then bif r1 then s7 = s7 ∧ J ((a3 == [], ()), ()) else s7 = s7 ∧ J ((false, ()), ()) else s7 = s7 ∧ J ((false, ()), ())
  else s7 = s7 ∧ J ((false, ()), ())) ∧
  ∀ (y8 : (Bool × Unit) × Unit),
  J y8 →
  bif y8.1.1 then
  True ∧
  [(99 : UInt8), (114 : UInt8), (97 : UInt8), (115 : UInt8), (104 : UInt8), (32 : UInt8)].length + (Lib.itoa a1).length ≤ maxLen ∧
  ([(99 : UInt8), (114 : UInt8), (97 : UInt8), (115 : UInt8), (104 : UInt8), (32 : UInt8)] ++ Lib.itoa a1).length + [(32 : UInt8)].length ≤
  maxLen ∧
  True ∧
  ([(99 : UInt8), (114 : UInt8), (97 : UInt8), (115 : UInt8), (104 : UInt8), (32 : UInt8)] ++ Lib.itoa a1 ++ [(32 : UInt8)]).length +
  (Lib.itoa a4).length ≤
  maxLen ∧
  K
  ([(99 : UInt8), (114 : UInt8), (97 : UInt8), (115 : UInt8), (104 : UInt8), (32 : UInt8)] ++ Lib.itoa a1 ++ [(32 : UInt8)] ++
  Lib.itoa a4,
  ())
  else
 let s9 := (((a0, a1, a2, a3, a4, ()), r0, r1, Sp.validStr a3, ()), ());
  ∃ (J : (Bool × Unit) × Unit → Prop),
  (bif a0 == (3 : Int) then
  bif r0 then bif Sp.validStr a3 then s9 = s9 ∧ J ((a4 == (0 : Int), ()), ()) else s9 = s9 ∧ J ((false, ()), ())
  else s9 = s9 ∧ J ((false, ()), ())
  else s9 = s9 ∧ J ((false, ()), ())) ∧
  ∀ (y10 : (Bool × Unit) × Unit),
  J y10 →
  bif y10.1.1 then
  True ∧
  [(119 : UInt8), (97 : UInt8), (116 : UInt8), (99 : UInt8), (104 : UInt8), (32 : UInt8)].length + (Lib.itoa a1).length ≤ maxLen ∧
  ([(119 : UInt8), (97 : UInt8), (116 : UInt8), (99 : UInt8), (104 : UInt8), (32 : UInt8)] ++ Lib.itoa a1).length +
  [(32 : UInt8)].length ≤
  maxLen ∧
  ([(119 : UInt8), (97 : UInt8), (116 : UInt8), (99 : UInt8), (104 : UInt8), (32 : UInt8)] ++ Lib.itoa a1 ++
  [(32 : UInt8)]).length +
  a3.length ≤
  maxLen ∧
  K
  ([(119 : UInt8), (97 : UInt8), (116 : UInt8), (99 : UInt8), (104 : UInt8), (32 : UInt8)] ++ Lib.itoa a1 ++ [(32 : UInt8)] ++
  a3,
  ())
  else
 let s11 := (((a0, a1, a2, a3, a4, ()), r0, r1, Sp.validStr a3, ()), ());
  ∃ (J : (Bool × Unit) × Unit → Prop),
  (bif a0 == (4 : Int) then
  bif a1 == (0 : Int) then bif r1 then s11 = s11 ∧ J ((a3 == [], ()), ()) else s11 = s11 ∧ J ((false, ()), ())
  else s11 = s11 ∧ J ((false, ()), ())
  else s11 = s11 ∧ J ((false, ()), ())) ∧
  ∀ (y12 : (Bool × Unit) × Unit),
  J y12 →
  bif y12.1.1 then
  True ∧
  [(112 : UInt8), (105 : UInt8), (110 : UInt8), (32 : UInt8)].length + (Lib.itoa a4).length ≤ maxLen ∧
  K ([(112 : UInt8), (105 : UInt8), (110 : UInt8), (32 : UInt8)] ++ Lib.itoa a4, ())
  else
 let s13 := (((a0, a1, a2, a3, a4, ()), r0, r1, Sp.validStr a3, ()), ());
  ∃ (J : (Bool × Unit) × Unit → Prop),
  (bif a0 == (5 : Int) then
  bif a1 == (0 : Int) then bif r1 then s13 = s13 ∧ J ((a3 == [], ()), ()) else s13 = s13 ∧ J ((false, ()), ())
  else s13 = s13 ∧ J ((false, ()), ())
  else s13 = s13 ∧ J ((false, ()), ())) ∧
  ∀ (y14 : (Bool × Unit) × Unit),
  J y14 →
  bif y14.1.1 then
  True ∧
  [(117 : UInt8), (110 : UInt8), (112 : UInt8), (105 : UInt8), (110 : UInt8), (32 : UInt8)].length +
  (Lib.itoa a4).length ≤
  maxLen ∧
  K ([(117 : UInt8), (110 : UInt8), (112 : UInt8), (105 : UInt8), (110 : UInt8), (32 : UInt8)] ++ Lib.itoa a4, ())
  else
 let s15 := (((a0, a1, a2, a3, a4, ()), r0, r1, Sp.validStr a3, ()), ());
  ∃ (J : (Bool × Unit) × Unit → Prop),
  (bif a0 == (6 : Int) then
  bif a1 == (0 : Int) then
  bif a4 == (0 : Int) then s15 = s15 ∧ J ((a3 == [], ()), ()) else s15 = s15 ∧ J ((false, ()), ())
  else s15 = s15 ∧ J ((false, ()), ())
  else s15 = s15 ∧ J ((false, ()), ())) ∧
  ∀ (y16 : (Bool × Unit) × Unit),
  J y16 →
  bif y16.1.1 then
  K
  ([(99 : UInt8), (111 : UInt8), (108 : UInt8), (108 : UInt8), (101 : UInt8), (99 : UInt8),
  (116 : UInt8)],
  ())
  else
 let s17 := (((a0, a1, a2, a3, a4, ()), r0, r1, Sp.validStr a3, ()), ());
  ∃ (J : (Bool × Unit) × Unit → Prop),
  (bif a0 == (7 : Int) then
  bif r0 then
  bif r1 then s17 = s17 ∧ J ((Sp.validStr a3, ()), ()) else s17 = s17 ∧ J ((false, ()), ())
  else s17 = s17 ∧ J ((false, ()), ())
  else s17 = s17 ∧ J ((false, ()), ())) ∧
  ∀ (y18 : (Bool × Unit) × Unit),
  J y18 →
  bif y18.1.1 then
  True ∧
  [(97 : UInt8), (100 : UInt8), (100 : UInt8), (32 : UInt8)].length + (Lib.itoa a1).length ≤
  maxLen ∧
  ([(97 : UInt8), (100 : UInt8), (100 : UInt8), (32 : UInt8)] ++ Lib.itoa a1).length +
  [(32 : UInt8)].length ≤
  maxLen ∧
  ([(97 : UInt8), (100 : UInt8), (100 : UInt8), (32 : UInt8)] ++ Lib.itoa a1 ++
  [(32 : UInt8)]).length +
  a3.length ≤
  maxLen ∧
  ([(97 : UInt8), (100 : UInt8), (100 : UInt8), (32 : UInt8)] ++ Lib.itoa a1 ++
  [(32 : UInt8)] ++
  a3).length +
  [(32 : UInt8)].length ≤
  maxLen ∧
  True ∧
  ([(97 : UInt8), (100 : UInt8), (100 : UInt8), (32 : UInt8)] ++ Lib.itoa a1 ++
  [(32 : UInt8)] ++
  a3 ++
  [(32 : UInt8)]).length +
  (Lib.itoa a4).length ≤
  maxLen ∧
  K
  ([(97 : UInt8), (100 : UInt8), (100 : UInt8), (32 : UInt8)] ++ Lib.itoa a1 ++
  [(32 : UInt8)] ++
  a3 ++
  [(32 : UInt8)] ++
  Lib.itoa a4,
  ())
  else
 let s19 := (((a0, a1, a2, a3, a4, ()), ()), ());
  ∃ (J : (Bool × Unit) × Unit → Prop),
  (bif a0 == (8 : Int) then
  bif r0 then
  bif r1 then s19 = s19 ∧ J ((Sp.validStr a3, ()), ())
  else s19 = s19 ∧ J ((false, ()), ())
  else s19 = s19 ∧ J ((false, ()), ())
  else s19 = s19 ∧ J ((false, ()), ())) ∧
  ∀ (y20 : (Bool × Unit) × Unit),
  J y20 →
  bif y20.1.1 then
  True ∧
  [(114 : UInt8), (101 : UInt8), (109 : UInt8), (111 : UInt8), (118 : UInt8),
  (101 : UInt8), (32 : UInt8)].length +
  (Lib.itoa a1).length ≤
  maxLen ∧
  ([(114 : UInt8), (101 : UInt8), (109 : UInt8), (111 : UInt8), (118 : UInt8),
  (101 : UInt8), (32 : UInt8)] ++
  Lib.itoa a1).length +
  [(32 : UInt8)].length ≤
  maxLen ∧
  ([(114 : UInt8), (101 : UInt8), (109 : UInt8), (111 : UInt8), (118 : UInt8),
  (101 : UInt8), (32 : UInt8)] ++
  Lib.itoa a1 ++
  [(32 : UInt8)]).length +
  a3.length ≤
  maxLen ∧
  ([(114 : UInt8), (101 : UInt8), (109 : UInt8), (111 : UInt8), (118 : UInt8),
  (101 : UInt8), (32 : UInt8)] ++
  Lib.itoa a1 ++
  [(32 : UInt8)] ++
  a3).length +
  [(32 : UInt8)].length ≤
  maxLen ∧
  True ∧
  ([(114 : UInt8), (101 : UInt8), (109 : UInt8), (111 : UInt8),
  (118 : UInt8), (101 : UInt8), (32 : UInt8)] ++
  Lib.itoa a1 ++
  [(32 : UInt8)] ++
  a3 ++
  [(32 : UInt8)]).length +
  (Lib.itoa a4).length ≤
  maxLen ∧
  K
  ([(114 : UInt8), (101 : UInt8), (109 : UInt8), (111 : UInt8),
  (118 : UInt8), (101 : UInt8), (32 : UInt8)] ++
  Lib.itoa a1 ++
  [(32 : UInt8)] ++
  a3 ++
  [(32 : UInt8)] ++
  Lib.itoa a4,
  ())
  else K ([], ())
theorem wk_spec_FormatAction (env : EnvB prog G Θ Γ_spec_FormatAction) (h : ∀ (a0 : Int) (a1 : Int) (a2 : List
  (Int × Int × Int × Bool × Int × List (List UInt8 × Int × Int × List UInt8 × Unit) × Int × List UInt8 × List (Int × Int × Int × List UInt8 × Int × Int × List UInt8 × Unit) × Unit)) (a3 : List UInt8) (a4 : Int), psInR sh_spec_FormatAction ((a0, a1, a2, a3, a4, ()), ()) → (a3.length ≤ (1048576 : Nat)) → VC_spec_FormatAction a0 a1 a2 a3 a4 fun r => r = ((Sp.actionText a0 a1 a2.length a3 a4, ()))) : ConOK prog G n_spec_FormatAction con_spec_FormatAction :=
  conR_ok env mixed (fn := f12) (c := codeOf f12) (by kernel_rfl) (by kernel_rfl) H_spec_FormatAction (by kernel_rfl) fun ⟨⟨a0, a1, a2, a3, a4, ⟨⟩⟩, ⟨⟩⟩ hin hp =>
  Eq.mpr ((by kernel_rfl : awp Θ Γ_spec_FormatAction H_spec_FormatAction (codeOf f12) (endsV Θ f12.results.toList rsh_spec_FormatAction fun r => r = (F_spec_FormatAction ((a0, a1, a2, a3, a4, ()), ())).2) (entry f12.ntmps (psVals sh_spec_FormatAction ((a0, a1, a2, a3, a4, ()), ()))) = VC_spec_FormatAction a0 a1 a2 a3 a4 fun r => r = ((Sp.actionText a0 a1 a2.length a3 a4, ())))) (h a0 a1 a2 a3 a4 hin hp)

def H_impl_FormatAction : Hints := Go.Fw.hints [16, 24, 35, 44, 52, 62, 76, 87] [] [(26, ⟨[(.slot 4 0, 289, 9, (.cons .str .nil), true)], ⟨[(1, .kptr [.int .i64, .int .i64, .sl 59 (.cons (.int .i64) (.cons (.int .i64) (.cons (.int .i64) (.cons .bool (.cons (.int .i64) (.cons (.sl 84 (.cons .str (.cons (.int .i64) (.cons (.int .i64) (.cons .str .nil))))) (.cons (.int .i64) (.cons .str (.cons (.sl 86 (.cons (.int .i64) (.cons (.int .i64) (.cons (.int .i64) (.cons .str (.cons (.int .i64) (.cons (.int .i64) (.cons .str .nil)))))))) .nil))))))))) false, .str, .int .i64] 0), (3, .vptr 192 0)], []⟩, ⟨[(4, .one (.ref 289))], [(192, .var [.int .i64, .int .i64, .nil, .str, .int .i64]), (289, .arr 9 (.cons .str .nil) true)]⟩⟩), (27, ⟨[], ⟨[(1, .kptr [.int .i64, .int .i64, .sl 59 (.cons (.int .i64) (.cons (.int .i64) (.cons (.int .i64) (.cons .bool (.cons (.int .i64) (.cons (.sl 84 (.cons .str (.cons (.int .i64) (.cons (.int .i64) (.cons .str .nil))))) (.cons (.int .i64) (.cons .str (.cons (.sl 86 (.cons (.int .i64) (.cons (.int .i64) (.cons (.int .i64) (.cons .str (.cons (.int .i64) (.cons (.int .i64) (.cons .str .nil)))))))) .nil))))))))) false, .str, .int .i64] 0), (3, .vptr 192 0), (4, .one (.ref 289))], [(192, .var [.int .i64, .int .i64, .nil, .str, .int .i64]), (289, .arr 9 (.cons .str .nil) true)]⟩, ⟨[(5, .one (.bool))], []⟩⟩), (28, ⟨[], ⟨[(1, .kptr [.int .i64, .int .i64, .sl 59 (.cons (.int .i64) (.cons (.int .i64) (.cons (.int .i64) (.cons .bool (.cons (.int .i64) (.cons (.sl 84 (.cons .str (.cons (.int .i64) (.cons (.int .i64) (.cons .str .nil))))) (.cons (.int .i64) (.cons .str (.cons (.sl 86 (.cons (.int .i64) (.cons (.int .i64) (.cons (.int .i64) (.cons .str (.cons (.int .i64) (.cons (.int .i64) (.cons .str .nil)))))))) .nil))))))))) false, .str, .int .i64] 0), (3, .vptr 192 0), (4, .one (.ref 289)), (5, .one (.bool))], [(192, .var [.int .i64, .int .i64, .nil, .str, .int .i64]), (289, .arr 9 (.cons .str .nil) true)]⟩, ⟨[(6, .one (.bool))], []⟩⟩)] [] []
def VC_impl_FormatAction (a0 : Int) (a1 : Int) (a2 : List
  (Int × Int × Int × Bool × Int × List (List UInt8 × Int × Int × List UInt8 × Unit) × Int × List UInt8 × List (Int × Int × Int × List UInt8 × Int × Int × List UInt8 × Unit) × Unit)) (a3 : List UInt8) (a4 : Int) (K : List UInt8 × Unit → Prop) : Prop :=
 let s0 := (((a0, a1, a2, a3, a4, ()), (), ()), ());
  ∃ (J : (Unit × Unit) × (Int × Int × Unit × List UInt8 × Int × Unit) × List (List UInt8 × Unit) × Unit → Prop),
  (bif a0 == (1 : Int) then
  True ∧
  s0 = s0 ∧
  J (((), ()), (a0, a1, (), [], (0 : Int), ()), [([(99 : UInt8), (111 : UInt8), (109 : UInt8), (109 : UInt8), (105 : UInt8), (116 : UInt8)], ()), (Lib.itoa a1, ())], ())
  else
  bif a0 == (2 : Int) then
  True ∧
  True ∧
  s0 = s0 ∧
  J (((), ()), (a0, a1, (), [], a4, ()), [([(99 : UInt8), (114 : UInt8), (97 : UInt8), (115 : UInt8), (104 : UInt8)], ()), (Lib.itoa a1, ()), (Lib.itoa a4, ())], ())
  else
  bif a0 == (3 : Int) then
  True ∧
  s0 = s0 ∧
  J (((), ()), (a0, a1, (), a3, (0 : Int), ()), [([(119 : UInt8), (97 : UInt8), (116 : UInt8), (99 : UInt8), (104 : UInt8)], ()), (Lib.itoa a1, ()), (a3, ())], ())
  else
  bif a0 == (4 : Int) then
  bif a0 == (4 : Int) then
  True ∧
  bif a0 == (5 : Int) then
  ((0 : Int) ≤ (0 : Int) ∧ (0 : Int) < (↑[([(112 : UInt8), (105 : UInt8), (110 : UInt8)], ()), (Lib.itoa a4, ())].length : Int)) ∧
  Int.toNat (0 : Int) < [([(112 : UInt8), (105 : UInt8), (110 : UInt8)], ()), (Lib.itoa a4, ())].length ∧
  s0 = s0 ∧
  J
  (((), ()), (a0, (0 : Int), (), [], a4, ()),
  [([(112 : UInt8), (105 : UInt8), (110 : UInt8)], ()), (Lib.itoa a4, ())].set (Int.toNat (0 : Int))
  ([(117 : UInt8), (110 : UInt8), (112 : UInt8), (105 : UInt8), (110 : UInt8)], ()),
  ())
  else s0 = s0 ∧ J (((), ()), (a0, (0 : Int), (), [], a4, ()), [([(112 : UInt8), (105 : UInt8), (110 : UInt8)], ()), (Lib.itoa a4, ())], ())
  else
  bif a0 == (6 : Int) then
  s0 = s0 ∧
  J
  (((), ()), (a0, (0 : Int), (), [], (0 : Int), ()),
  [([(99 : UInt8), (111 : UInt8), (108 : UInt8), (108 : UInt8), (101 : UInt8), (99 : UInt8), (116 : UInt8)], ())], ())
  else
  bif a0 == (7 : Int) then
  True ∧
  True ∧
  s0 = s0 ∧ J (((), ()), (a0, a1, (), a3, a4, ()), [([(97 : UInt8), (100 : UInt8), (100 : UInt8)], ()), (Lib.itoa a1, ()), (a3, ()), (Lib.itoa a4, ())], ())
  else
  bif a0 == (8 : Int) then
  True ∧
  True ∧
  s0 = s0 ∧
  J
  (((), ()), (a0, a1, (), a3, a4, ()),
  [([(114 : UInt8), (101 : UInt8), (109 : UInt8), (111 : UInt8), (118 : UInt8), (101 : UInt8)], ()), (Lib.itoa a1, ()), (a3, ()), (Lib.itoa a4, ())],
  ())
  else s0 = s0 ∧ J (((), ()), (a0, a1, (), a3, a4, ()), [], ())
  else
  bif a0 == (5 : Int) then
  True ∧
  bif a0 == (5 : Int) then
  ((0 : Int) ≤ (0 : Int) ∧ (0 : Int) < (↑[([(112 : UInt8), (105 : UInt8), (110 : UInt8)], ()), (Lib.itoa a4, ())].length : Int)) ∧
  Int.toNat (0 : Int) < [([(112 : UInt8), (105 : UInt8), (110 : UInt8)], ()), (Lib.itoa a4, ())].length ∧
  s0 = s0 ∧
  J
  (((), ()), (a0, (0 : Int), (), [], a4, ()),
  [([(112 : UInt8), (105 : UInt8), (110 : UInt8)], ()), (Lib.itoa a4, ())].set (Int.toNat (0 : Int))
  ([(117 : UInt8), (110 : UInt8), (112 : UInt8), (105 : UInt8), (110 : UInt8)], ()),
  ())
  else s0 = s0 ∧ J (((), ()), (a0, (0 : Int), (), [], a4, ()), [([(112 : UInt8), (105 : UInt8), (110 : UInt8)], ()), (Lib.itoa a4, ())], ())
  else
  bif a0 == (6 : Int) then
  s0 = s0 ∧
  J
  (((), ()), (a0, (0 : Int), (), [], (0 : Int), ()),
  [([(99 : UInt8), (111 : UInt8), (108 : UInt8), (108 : UInt8), (101 : UInt8), (99 : UInt8), (116 : UInt8)], ())], ())
  else
  bif a0 == (7 : Int) then
  True ∧
  True ∧
  s0 = s0 ∧ J (((), ()), (a0, a1, (), a3, a4, ()), [([(97 : UInt8), (100 : UInt8), (100 : UInt8)], ()), (Lib.itoa a1, ()), (a3, ()), (Lib.itoa a4, ())], ())
  else
  bif a0 == (8 : Int) then
  True ∧
  True ∧
  s0 = s0 ∧
  J
  (((), ()), (a0, a1, (), a3, a4, ()),
  [([(114 : UInt8), (101 : UInt8), (109 : UInt8), (111 : UInt8), (118 : UInt8), (101 : UInt8)], ()), (Lib.itoa a1, ()), (a3, ()), (Lib.itoa a4, ())],
  ())
  else s0 = s0 ∧ J (((), ()), (a0, a1, (), a3, a4, ()), [], ())) ∧
  ∀ (y1 : (Unit × Unit) × (Int × Int × Unit × List UInt8 × Int × Unit) × List (List UInt8 × Unit) × Unit),
  J y1 →
 let s2 :=
  (((a0, a1, a2, a3, a4, ()), (), (), ()), (y1.2.1.1, y1.2.1.2.1, (), y1.2.1.2.2.2.1, y1.2.1.2.2.2.2.1, ()), y1.2.2.1, ());
  ∃ (J : (Bool × Unit) × Unit → Prop),
  (bif a0 == (3 : Int) then s2 = s2 ∧ J ((true, ()), ()) else bif a0 == (7 : Int) then s2 = s2 ∧ J ((true, ()), ()) else s2 = s2 ∧ J ((a0 == (8 : Int), ()), ())) ∧
  ∀ (y3 : (Bool × Unit) × Unit),
  J y3 →
 let s4 :=
  (((a0, a1, a2, a3, a4, ()), (), (), y3.1.1, ()), (y1.2.1.1, y1.2.1.2.1, (), y1.2.1.2.2.2.1, y1.2.1.2.2.2.2.1, ()),
  y1.2.2.1, ());
  ∃ (J : (Bool × Unit) × Unit → Prop),
  (bif a0 == (1 : Int) then s4 = s4 ∧ J ((true, ()), ()) else s4 = s4 ∧ J ((a0 == (2 : Int), ()), ())) ∧
  ∀ (y5 : (Bool × Unit) × Unit),
  J y5 →
  True ∧
 let r6 := Sp.validAct a0 a2.length;
  bif !r6 then K ([], ())
  else
  bif y1.2.1.2.1 != a1 then K ([], ())
  else
  bif !y1.2.1.2.2.2.1 == a3 then K ([], ())
  else
  bif y1.2.1.2.2.2.2.1 != a4 then K ([], ())
  else
  True ∧
 let r7 := Sp.areUints [(a1, ()), (a4, ())];
  bif !r7 then K ([], ())
  else
  bif y3.1.1 then
  True ∧
  bif !Sp.validStr a3 then K ([], ())
  else
  bif !y5.1.1 then
  bif decide ((↑a2.length : Int) > (0 : Int)) then K ([], ())
  else
  (List.length y1.2.2.1 ≤ (140737488355328 : Nat) ∧
  (Lib.join (List.map (fun (x : List UInt8 × Unit) => x.1) y1.2.2.1) [(32 : UInt8)]).length ≤ (140737488355328 : Nat)) ∧
 let r8 := Lib.join (List.map (fun (x : List UInt8 × Unit) => x.1) y1.2.2.1) [(32 : UInt8)];
  K (r8, ())
  else
  (List.length y1.2.2.1 ≤ (140737488355328 : Nat) ∧
  (Lib.join (List.map (fun (x : List UInt8 × Unit) => x.1) y1.2.2.1) [(32 : UInt8)]).length ≤ (140737488355328 : Nat)) ∧
 let r9 := Lib.join (List.map (fun (x : List UInt8 × Unit) => x.1) y1.2.2.1) [(32 : UInt8)];
  K (r9, ())
  else
  bif !y5.1.1 then
  bif decide ((↑a2.length : Int) > (0 : Int)) then K ([], ())
  else
  (List.length y1.2.2.1 ≤ (140737488355328 : Nat) ∧
  (Lib.join (List.map (fun (x : List UInt8 × Unit) => x.1) y1.2.2.1) [(32 : UInt8)]).length ≤ (140737488355328 : Nat)) ∧
 let r10 := Lib.join (List.map (fun (x : List UInt8 × Unit) => x.1) y1.2.2.1) [(32 : UInt8)];
  K (r10, ())
  else
  (List.length y1.2.2.1 ≤ (140737488355328 : Nat) ∧
  (Lib.join (List.map (fun (x : List UInt8 × Unit) => x.1) y1.2.2.1) [(32 : UInt8)]).length ≤ (140737488355328 : Nat)) ∧
 let r11 := Lib.join (List.map (fun (x : List UInt8 × Unit) => x.1) y1.2.2.1) [(32 : UInt8)];
  K (r11, ())
theorem wk_impl_FormatAction (env : EnvB prog G Θ Γ_impl_FormatAction) (h : ∀ (a0 : Int) (a1 : Int) (a2 : List
  (Int × Int × Int × Bool × Int × List (List UInt8 × Int × Int × List UInt8 × Unit) × Int × List UInt8 × List (Int × Int × Int × List UInt8 × Int × Int × List UInt8 × Unit) × Unit)) (a3 : List UInt8) (a4 : Int), psInR sh_impl_FormatAction ((a0, a1, a2, a3, a4, ()), ()) → (a3.length ≤ (1048576 : Nat)) → VC_impl_FormatAction a0 a1 a2 a3 a4 fun r => r = ((Sp.actionText a0 a1 a2.length a3 a4, ()))) : ConOK prog G n_impl_FormatAction con_impl_FormatAction :=
  conR_ok env mixed (fn := f18) (c := codeOf f18) (by kernel_rfl) (by kernel_rfl) H_impl_FormatAction (by kernel_rfl) fun ⟨⟨a0, a1, a2, a3, a4, ⟨⟩⟩, ⟨⟩⟩ hin hp =>
  Eq.mpr ((by kernel_rfl : awp Θ Γ_impl_FormatAction H_impl_FormatAction (codeOf f18) (endsV Θ f18.results.toList rsh_impl_FormatAction fun r => r = (F_impl_FormatAction ((a0, a1, a2, a3, a4, ()), ())).2) (entry f18.ntmps (psVals sh_impl_FormatAction ((a0, a1, a2, a3, a4, ()), ()))) = VC_impl_FormatAction a0 a1 a2 a3 a4 fun r => r = ((Sp.actionText a0 a1 a2.length a3 a4, ())))) (h a0 a1 a2 a3 a4 hin hp)

def H_spec_ParseUint : Hints := Go.Fw.hints [] [(5, ⟨[], ⟨[(0, .one (.str))], []⟩, ⟨[(4, .one (.int .i64)), (5, .one (.int .i64))], []⟩⟩)] [] [] []
def VC_spec_ParseUint (text : List UInt8) (K : Int × Bool × Unit → Prop) : Prop :=
  bif decide ((↑text.length : Int) > (10 : Int)) then K ((0 : Int), false, ())
  else
 let s0 := ((text, ()), ());
  ∃ (I : (Int × Int × Unit) × Unit → Prop),
  ∃ (μ : (Int × Int × Unit) × Unit → Nat),
  I (((0 : Int), (0 : Int), ()), ()) ∧
  ∀ (y1 : (Int × Int × Unit) × Unit),
  I y1 →
  bif decide (y1.1.2.1 < (↑text.length : Int)) then
  ((0 : Int) ≤ y1.1.2.1 ∧ y1.1.2.1 < (↑text.length : Int)) ∧
  bif decide ((↑(text.getD (Int.toNat y1.1.2.1) (0 : UInt8)).toNat : Int) < (48 : Int)) then K ((0 : Int), false, ())
  else
  ((0 : Int) ≤ y1.1.2.1 ∧ y1.1.2.1 < (↑text.length : Int)) ∧
  bif decide ((↑(text.getD (Int.toNat y1.1.2.1) (0 : UInt8)).toNat : Int) > (57 : Int)) then K ((0 : Int), false, ())
  else
  ((0 : Int) ≤ y1.1.2.1 ∧ y1.1.2.1 < (↑text.length : Int)) ∧
  s0 = s0 ∧
  I
  ((IntKind.i64.wrap
  (IntKind.i64.wrap
  (IntKind.i64.wrap ((10 : Int) * y1.1.1) + IntKind.i64.wrap (↑(text.getD (Int.toNat y1.1.2.1) (0 : UInt8)).toNat : Int)) -
  (48 : Int)),
  IntKind.i64.wrap (y1.1.2.1 + (1 : Int)), ()),
  ()) ∧
  μ
  ((IntKind.i64.wrap
  (IntKind.i64.wrap
  (IntKind.i64.wrap ((10 : Int) * y1.1.1) + IntKind.i64.wrap (↑(text.getD (Int.toNat y1.1.2.1) (0 : UInt8)).toNat : Int)) -
  (48 : Int)),
  IntKind.i64.wrap (y1.1.2.1 + (1 : Int)), ()),
  ()) <
  μ y1
  else
  bif decide (y1.1.1 > (1000000000 : Int)) then K ((0 : Int), false, ())
  else
  True ∧
 let r2 := Lib.itoa y1.1.1;
  bif !r2 == text then K ((0 : Int), false, ()) else K (y1.1.1, true, ())
theorem wk_spec_ParseUint (env : EnvB prog G Θ Γ_spec_ParseUint) (h : ∀ (text : List UInt8), psInR sh_spec_ParseUint (text, ()) → (True) → VC_spec_ParseUint text fun r => r = ((Sp.parseNum text, Sp.parseOk text, ()))) : ConOK prog G n_spec_ParseUint con_spec_ParseUint :=
  conR_ok env mixed (fn := f22) (c := codeOf f22) (by kernel_rfl) (by kernel_rfl) H_spec_ParseUint (by kernel_rfl) fun ⟨text, ⟨⟩⟩ hin hp =>
  Eq.mpr ((by kernel_rfl : awp Θ Γ_spec_ParseUint H_spec_ParseUint (codeOf f22) (endsV Θ f22.results.toList rsh_spec_ParseUint fun r => r = (F_spec_ParseUint (text, ())).2) (entry f22.ntmps (psVals sh_spec_ParseUint (text, ()))) = VC_spec_ParseUint text fun r => r = ((Sp.parseNum text, Sp.parseOk text, ())))) (h text hin hp)

def H_spec_SplitFields : Hints := Go.Fw.hints [7] [(6, ⟨[], ⟨[(0, .one (.str))], []⟩, ⟨[(4, .one (.ref 449)), (5, .one (.int .i64)), (6, .one (.int .i64))], [(449, .arr 9 (.cons .str .nil) true)]⟩⟩)] [(10, ⟨[], ⟨[(0, .one (.str)), (4, .one (.ref 449)), (5, .one (.int .i64)), (6, .one (.int .i64))], [(449, .arr 9 (.cons .str .nil) true)]⟩, ⟨[], []⟩⟩)] [] []
def VC_spec_SplitFields (line : List UInt8) (K : List (List UInt8 × Unit) × Bool × Unit → Prop) : Prop :=
  bif decide ((↑line.length : Int) > (600 : Int)) then K ([], false, ())
  else
 let s0 := ((line, ()), ());
  ∃ (I : (Unit × Int × Int × Unit) × List (List UInt8 × Unit) × Unit → Prop),
  ∃ (μ : (Unit × Int × Int × Unit) × List (List UInt8 × Unit) × Unit → Nat),
  I (((), (0 : Int), (0 : Int), ()), [], ()) ∧
  ∀ (y1 : (Unit × Int × Int × Unit) × List (List UInt8 × Unit) × Unit),
  I y1 →
  bif decide (y1.1.2.2.1 ≤ (↑line.length : Int)) then
 let s2 := ((line, (), y1.1.2.1, y1.1.2.2.1, ()), y1.2.1, ());
  ∃ (J : Unit × Unit → Prop),
  (bif decide (y1.1.2.2.1 < (↑line.length : Int)) then
  ((0 : Int) ≤ y1.1.2.2.1 ∧ y1.1.2.2.1 < (↑line.length : Int)) ∧
  bif decide ((↑(line.getD (Int.toNat y1.1.2.2.1) (0 : UInt8)).toNat : Int) < (32 : Int)) then K ([], false, ())
  else
  ((0 : Int) ≤ y1.1.2.2.1 ∧ y1.1.2.2.1 < (↑line.length : Int)) ∧
  bif decide ((↑(line.getD (Int.toNat y1.1.2.2.1) (0 : UInt8)).toNat : Int) > (126 : Int)) then K ([], false, ()) else s2 = s2 ∧ J ((), ())
  else s2 = s2 ∧ J ((), ())) ∧
  ∀ (y3 : Unit × Unit),
  J y3 →
  bif decide (y1.1.2.2.1 < (↑line.length : Int)) then
  ((0 : Int) ≤ y1.1.2.2.1 ∧ y1.1.2.2.1 < (↑line.length : Int)) ∧
  bif (↑(line.getD (Int.toNat y1.1.2.2.1) (0 : UInt8)).toNat : Int) != (32 : Int) then
  s0 = s0 ∧
  I (((), y1.1.2.1, IntKind.i64.wrap (y1.1.2.2.1 + (1 : Int)), ()), y1.2.1, ()) ∧
  μ (((), y1.1.2.1, IntKind.i64.wrap (y1.1.2.2.1 + (1 : Int)), ()), y1.2.1, ()) < μ y1
  else
  bif decide (y1.1.2.1 < y1.1.2.2.1) then
  ((0 : Int) ≤ y1.1.2.1 ∧ y1.1.2.1 ≤ y1.1.2.2.1 ∧ y1.1.2.2.1 ≤ (↑line.length : Int)) ∧
  List.length y1.2.1 + [(List.drop (Int.toNat y1.1.2.1) (List.take (Int.toNat y1.1.2.2.1) line), ())].length ≤ big ∧
  s0 = s0 ∧
  I
  (((), IntKind.i64.wrap (y1.1.2.2.1 + (1 : Int)), IntKind.i64.wrap (y1.1.2.2.1 + (1 : Int)), ()),
  y1.2.1 ++ [(List.drop (Int.toNat y1.1.2.1) (List.take (Int.toNat y1.1.2.2.1) line), ())], ()) ∧
  μ
  (((), IntKind.i64.wrap (y1.1.2.2.1 + (1 : Int)), IntKind.i64.wrap (y1.1.2.2.1 + (1 : Int)), ()),
  y1.2.1 ++ [(List.drop (Int.toNat y1.1.2.1) (List.take (Int.toNat y1.1.2.2.1) line), ())], ()) <
  μ y1
  else
  s0 = s0 ∧
  I (((), IntKind.i64.wrap (y1.1.2.2.1 + (1 : Int)), IntKind.i64.wrap (y1.1.2.2.1 + (1 : Int)), ()), y1.2.1, ()) ∧
  μ (((), IntKind.i64.wrap (y1.1.2.2.1 + (1 : Int)), IntKind.i64.wrap (y1.1.2.2.1 + (1 : Int)), ()), y1.2.1, ()) < μ y1
  else
  bif decide (y1.1.2.1 < y1.1.2.2.1) then
  ((0 : Int) ≤ y1.1.2.1 ∧ y1.1.2.1 ≤ y1.1.2.2.1 ∧ y1.1.2.2.1 ≤ (↑line.length : Int)) ∧
  List.length y1.2.1 + [(List.drop (Int.toNat y1.1.2.1) (List.take (Int.toNat y1.1.2.2.1) line), ())].length ≤ big ∧
  s0 = s0 ∧
  I
  (((), IntKind.i64.wrap (y1.1.2.2.1 + (1 : Int)), IntKind.i64.wrap (y1.1.2.2.1 + (1 : Int)), ()),
  y1.2.1 ++ [(List.drop (Int.toNat y1.1.2.1) (List.take (Int.toNat y1.1.2.2.1) line), ())], ()) ∧
  μ
  (((), IntKind.i64.wrap (y1.1.2.2.1 + (1 : Int)), IntKind.i64.wrap (y1.1.2.2.1 + (1 : Int)), ()),
  y1.2.1 ++ [(List.drop (Int.toNat y1.1.2.1) (List.take (Int.toNat y1.1.2.2.1) line), ())], ()) <
  μ y1
  else
  s0 = s0 ∧
  I (((), IntKind.i64.wrap (y1.1.2.2.1 + (1 : Int)), IntKind.i64.wrap (y1.1.2.2.1 + (1 : Int)), ()), y1.2.1, ()) ∧
  μ (((), IntKind.i64.wrap (y1.1.2.2.1 + (1 : Int)), IntKind.i64.wrap (y1.1.2.2.1 + (1 : Int)), ()), y1.2.1, ()) < μ y1
  else bif decide ((↑(List.length y1.2.1) : Int) > (24 : Int)) then K ([], false, ()) else K (y1.2.1, true, ())
theorem wk_spec_SplitFields (env : EnvB prog G Θ Γ_spec_SplitFields) (h : ∀ (line : List UInt8), psInR sh_spec_SplitFields (line, ()) → (line.length ≤ (1048576 : Nat)) → VC_spec_SplitFields line fun r => r = ((Sp.splitF line, Sp.splitOk line, ()))) : ConOK prog G n_spec_SplitFields con_spec_SplitFields :=
  conR_ok env mixed (fn := f9) (c := codeOf f9) (by kernel_rfl) (by kernel_rfl) H_spec_SplitFields (by kernel_rfl) fun ⟨line, ⟨⟩⟩ hin hp =>
  Eq.mpr ((by kernel_rfl : awp Θ Γ_spec_SplitFields H_spec_SplitFields (codeOf f9) (endsV Θ f9.results.toList rsh_spec_SplitFields fun r => r = (F_spec_SplitFields (line, ())).2) (entry f9.ntmps (psVals sh_spec_SplitFields (line, ()))) = VC_spec_SplitFields line fun r => r = ((Sp.splitF line, Sp.splitOk line, ())))) (h line hin hp)

def H_impl_SplitFields : Hints := Go.Fw.hints [] [(4, ⟨[], ⟨[(0, .one (.str)), (10, .one (.int .i64))], []⟩, ⟨[(11, .one (.int .i64))], []⟩⟩)] [] [] []
def VC_impl_SplitFields (line : List UInt8) (K : List (List UInt8 × Unit) × Bool × Unit → Prop) : Prop :=
  bif decide ((↑line.length : Int) > (600 : Int)) then K ([], false, ())
  else
 let s0 := ((line, (↑line.length : Int), ()), ());
  ∃ (I : (Int × Unit) × Unit → Prop),
  ∃ (μ : (Int × Unit) × Unit → Nat),
  I (((0 : Int), ()), ()) ∧
  ∀ (y1 : (Int × Unit) × Unit),
  I y1 →
  bif decide (y1.1.1 < (↑line.length : Int)) then
  ((0 : Int) ≤ y1.1.1 ∧ y1.1.1 < (↑line.length : Int)) ∧
  True ∧
 let r2 :=
  decide ((32 : Int) ≤ IntKind.i64.wrap (↑(line.getD (Int.toNat y1.1.1) (0 : UInt8)).toNat : Int)) &&
  decide (IntKind.i64.wrap (↑(line.getD (Int.toNat y1.1.1) (0 : UInt8)).toNat : Int) ≤ (126 : Int));
  bif !r2 then K ([], false, ())
  else s0 = s0 ∧ I ((IntKind.i64.wrap (y1.1.1 + (1 : Int)), ()), ()) ∧ μ ((IntKind.i64.wrap (y1.1.1 + (1 : Int)), ()), ()) < μ y1
  else
  (line.length ≤ (1048576 : Nat) ∧ Sp.asciiS line = true) ∧
  bif decide ((↑(List.length (Sp.wordsOf line)) : Int) > (24 : Int)) then K ([], false, ()) else K (Sp.wordsOf line, true, ())
theorem wk_impl_SplitFields (env : EnvB prog G Θ Γ_impl_SplitFields) (h : ∀ (line : List UInt8), psInR sh_impl_SplitFields (line, ()) → (line.length ≤ (1048576 : Nat)) → VC_impl_SplitFields line fun r => r = ((Sp.splitF line, Sp.splitOk line, ()))) : ConOK prog G n_impl_SplitFields con_impl_SplitFields :=
  conR_ok env mixed (fn := f14) (c := codeOf f14) (by kernel_rfl) (by kernel_rfl) H_impl_SplitFields (by kernel_rfl) fun ⟨line, ⟨⟩⟩ hin hp =>
  Eq.mpr ((by kernel_rfl : awp Θ Γ_impl_SplitFields H_impl_SplitFields (codeOf f14) (endsV Θ f14.results.toList rsh_impl_SplitFields fun r => r = (F_impl_SplitFields (line, ())).2) (entry f14.ntmps (psVals sh_impl_SplitFields (line, ()))) = VC_impl_SplitFields line fun r => r = ((Sp.splitF line, Sp.splitOk line, ())))) (h line hin hp)

def H_spec_l10Part : Hints := Go.Fw.hints [] [] [] [] []
def VC_spec_l10Part (p : List (List UInt8 × Unit)) (at' : Int) (K : List UInt8 × Unit → Prop) : Prop :=
  bif decide (at' ≥ (↑p.length : Int)) then K ([], ()) else ((0 : Int) ≤ at' ∧ at' < (↑p.length : Int)) ∧ K ((p.getD at'.toNat ([], ())).1, ())
theorem wk_spec_l10Part (env : EnvB prog G Θ Γ_spec_l10Part) (h : ∀ (p : List (List UInt8 × Unit)) (at' : Int), psInR sh_spec_l10Part (p, at', ()) → ((0 : Int) ≤ at') → VC_spec_l10Part p at' fun r => r = ((Sp.wordAt p at', ()))) : ConOK prog G n_spec_l10Part con_spec_l10Part :=
  conR_ok env mixed (fn := f11) (c := codeOf f11) (by kernel_rfl) (by kernel_rfl) H_spec_l10Part (by kernel_rfl) fun ⟨p, at', ⟨⟩⟩ hin hp =>
  Eq.mpr ((by kernel_rfl : awp Θ Γ_spec_l10Part H_spec_l10Part (codeOf f11) (endsV Θ f11.results.toList rsh_spec_l10Part fun r => r = (F_spec_l10Part (p, at', ())).2) (entry f11.ntmps (psVals sh_spec_l10Part (p, at', ()))) = VC_spec_l10Part p at' fun r => r = ((Sp.wordAt p at', ())))) (h p at' hin hp)

def H_impl_wordAt : Hints := Go.Fw.hints [] [] [] [] []
def VC_impl_wordAt (w : List (List UInt8 × Unit)) (i : Int) (K : List UInt8 × Unit → Prop) : Prop :=
  bif decide (i ≥ (↑w.length : Int)) then K ([], ()) else ((0 : Int) ≤ i ∧ i < (↑w.length : Int)) ∧ K ((w.getD i.toNat ([], ())).1, ())
theorem wk_impl_wordAt (env : EnvB prog G Θ Γ_impl_wordAt) (h : ∀ (w : List (List UInt8 × Unit)) (i : Int), psInR sh_impl_wordAt (w, i, ()) → ((0 : Int) ≤ i) → VC_impl_wordAt w i fun r => r = ((Sp.wordAt w i, ()))) : ConOK prog G n_impl_wordAt con_impl_wordAt :=
  conR_ok env mixed (fn := f16) (c := codeOf f16) (by kernel_rfl) (by kernel_rfl) H_impl_wordAt (by kernel_rfl) fun ⟨w, i, ⟨⟩⟩ hin hp =>
  Eq.mpr ((by kernel_rfl : awp Θ Γ_impl_wordAt H_impl_wordAt (codeOf f16) (endsV Θ f16.results.toList rsh_impl_wordAt fun r => r = (F_impl_wordAt (w, i, ())).2) (entry f16.ntmps (psVals sh_impl_wordAt (w, i, ()))) = VC_impl_wordAt w i fun r => r = ((Sp.wordAt w i, ())))) (h w i hin hp)

def H_spec_l26Num : Hints := Go.Fw.hints [] [] [] [] []
def VC_spec_l26Num (p : List (List UInt8 × Unit)) (at' : Int) (K : Int × Unit → Prop) : Prop :=
  (0 : Int) ≤ at' ∧ True ∧ K (Sp.parseNum (Sp.wordAt p at'), ())
theorem wk_spec_l26Num (env : EnvB prog G Θ Γ_spec_l26Num) (h : ∀ (p : List (List UInt8 × Unit)) (at' : Int), psInR sh_spec_l26Num (p, at', ()) → ((0 : Int) ≤ at') → VC_spec_l26Num p at' fun r => r = ((Sp.numAt p at', ()))) : ConOK prog G n_spec_l26Num con_spec_l26Num :=
  conR_ok env mixed (fn := f10) (c := codeOf f10) (by kernel_rfl) (by kernel_rfl) H_spec_l26Num (by kernel_rfl) fun ⟨p, at', ⟨⟩⟩ hin hp =>
  Eq.mpr ((by kernel_rfl : awp Θ Γ_spec_l26Num H_spec_l26Num (codeOf f10) (endsV Θ f10.results.toList rsh_spec_l26Num fun r => r = (F_spec_l26Num (p, at', ())).2) (entry f10.ntmps (psVals sh_spec_l26Num (p, at', ()))) = VC_spec_l26Num p at' fun r => r = ((Sp.numAt p at', ())))) (h p at' hin hp)

def H_impl_numberAt : Hints := Go.Fw.hints [] [] [] [] []
def VC_impl_numberAt (w : List (List UInt8 × Unit)) (i : Int) (K : Int × Bool × Unit → Prop) : Prop :=
  (0 : Int) ≤ i ∧ True ∧ K (Sp.parseNum (Sp.wordAt w i), Sp.parseOk (Sp.wordAt w i), ())
theorem wk_impl_numberAt (env : EnvB prog G Θ Γ_impl_numberAt) (h : ∀ (w : List (List UInt8 × Unit)) (i : Int), psInR sh_impl_numberAt (w, i, ()) → ((0 : Int) ≤ i) → VC_impl_numberAt w i fun r => r = ((Sp.numAt w i, Sp.parseOk (Sp.wordAt w i), ()))) : ConOK prog G n_impl_numberAt con_impl_numberAt :=
  conR_ok env mixed (fn := f15) (c := codeOf f15) (by kernel_rfl) (by kernel_rfl) H_impl_numberAt (by kernel_rfl) fun ⟨w, i, ⟨⟩⟩ hin hp =>
  Eq.mpr ((by kernel_rfl : awp Θ Γ_impl_numberAt H_impl_numberAt (codeOf f15) (endsV Θ f15.results.toList rsh_impl_numberAt fun r => r = (F_impl_numberAt (w, i, ())).2) (entry f15.ntmps (psVals sh_impl_numberAt (w, i, ()))) = VC_impl_numberAt w i fun r => r = ((Sp.numAt w i, Sp.parseOk (Sp.wordAt w i), ())))) (h w i hin hp)

def H_spec_l10Join : Hints := Go.Fw.hints [] [(3, ⟨[], ⟨[(0, .one (.sl 9 (.cons .str .nil) false))], []⟩, ⟨[(3, .one (.str)), (4, .one (.int .i64))], []⟩⟩)] [] [] []
def VC_spec_l10Join (p : List (List UInt8 × Unit)) (K : List UInt8 × Unit → Prop) : Prop :=
 let s0 := ((p, ()), ());
  ∃ (I : (List UInt8 × Int × Unit) × Unit → Prop),
  ∃ (μ : (List UInt8 × Int × Unit) × Unit → Nat),
  I (([], (0 : Int), ()), ()) ∧
  ∀ (y1 : (List UInt8 × Int × Unit) × Unit),
  I y1 →
  bif decide (y1.1.2.1 < (↑p.length : Int)) then
  bif decide (y1.1.2.1 > (0 : Int)) then
  List.length y1.1.1 + [(32 : UInt8)].length ≤ maxLen ∧
  ((0 : Int) ≤ y1.1.2.1 ∧ y1.1.2.1 < (↑p.length : Int)) ∧
  (y1.1.1 ++ [(32 : UInt8)]).length + List.length (p.getD (Int.toNat y1.1.2.1) ([], ())).1 ≤ maxLen ∧
  s0 = s0 ∧
  I ((y1.1.1 ++ [(32 : UInt8)] ++ (p.getD (Int.toNat y1.1.2.1) ([], ())).1, IntKind.i64.wrap (y1.1.2.1 + (1 : Int)), ()), ()) ∧
  μ ((y1.1.1 ++ [(32 : UInt8)] ++ (p.getD (Int.toNat y1.1.2.1) ([], ())).1, IntKind.i64.wrap (y1.1.2.1 + (1 : Int)), ()), ()) < μ y1
  else
  ((0 : Int) ≤ y1.1.2.1 ∧ y1.1.2.1 < (↑p.length : Int)) ∧
  List.length y1.1.1 + List.length (p.getD (Int.toNat y1.1.2.1) ([], ())).1 ≤ maxLen ∧
  s0 = s0 ∧
  I ((y1.1.1 ++ (p.getD (Int.toNat y1.1.2.1) ([], ())).1, IntKind.i64.wrap (y1.1.2.1 + (1 : Int)), ()), ()) ∧
  μ ((y1.1.1 ++ (p.getD (Int.toNat y1.1.2.1) ([], ())).1, IntKind.i64.wrap (y1.1.2.1 + (1 : Int)), ()), ()) < μ y1
  else K (y1.1.1, ())
theorem wk_spec_l10Join (env : EnvB prog G Θ Γ_spec_l10Join) (h : ∀ (p : List (List UInt8 × Unit)), psInR sh_spec_l10Join (p, ()) → (p.length ≤ (1000 : Nat) ∧ List.length (Sp.joinW p) ≤ (2097152 : Nat)) → VC_spec_l10Join p fun r => r = ((Sp.joinW p, ()))) : ConOK prog G n_spec_l10Join con_spec_l10Join :=
  conR_ok env mixed (fn := f13) (c := codeOf f13) (by kernel_rfl) (by kernel_rfl) H_spec_l10Join (by kernel_rfl) fun ⟨p, ⟨⟩⟩ hin hp =>
  Eq.mpr ((by kernel_rfl : awp Θ Γ_spec_l10Join H_spec_l10Join (codeOf f13) (endsV Θ f13.results.toList rsh_spec_l10Join fun r => r = (F_spec_l10Join (p, ())).2) (entry f13.ntmps (psVals sh_spec_l10Join (p, ()))) = VC_spec_l10Join p fun r => r = ((Sp.joinW p, ())))) (h p hin hp)

def H_slices_Equal_string : Hints := Go.Fw.hints [] [(4, ⟨[], ⟨[(0, .one (.sl 9 (.cons .str .nil) false)), (1, .one (.sl 9 (.cons .str .nil) false)), (12, .one (.int .i64))], []⟩, ⟨[(13, .one (.int .i64))], []⟩⟩)] [] [] []
def VC_slices_Equal_string (s1 : List (List UInt8 × Unit)) (s2 : List (List UInt8 × Unit)) (K : Bool × Unit → Prop) : Prop :=
  bif (↑s1.length : Int) != (↑s2.length : Int) then K (false, ())
  else
 let s0 := ((s1, s2, (↑s1.length : Int), ()), ());
  ∃ (I : (Int × Unit) × Unit → Prop),
  ∃ (μ : (Int × Unit) × Unit → Nat),
  I (((0 : Int), ()), ()) ∧
  ∀ (y1 : (Int × Unit) × Unit),
  I y1 →
  bif decide (y1.1.1 < (↑s1.length : Int)) then
  ((0 : Int) ≤ y1.1.1 ∧ y1.1.1 < (↑s1.length : Int)) ∧
  ((0 : Int) ≤ y1.1.1 ∧ y1.1.1 < (↑s2.length : Int)) ∧
  bif !(s1.getD (Int.toNat y1.1.1) ([], ())).1 == (s2.getD (Int.toNat y1.1.1) ([], ())).1 then K (false, ())
  else s0 = s0 ∧ I ((IntKind.i64.wrap (y1.1.1 + (1 : Int)), ()), ()) ∧ μ ((IntKind.i64.wrap (y1.1.1 + (1 : Int)), ()), ()) < μ y1
  else K (true, ())
theorem wk_slices_Equal_string (env : EnvB prog G Θ Γ_slices_Equal_string) (h : ∀ (s1 : List (List UInt8 × Unit)) (s2 : List (List UInt8 × Unit)), psInR sh_slices_Equal_string (s1, s2, ()) → (True) → VC_slices_Equal_string s1 s2 fun r => r = ((decide (s1 = s2), ()))) : ConOK prog G n_slices_Equal_string con_slices_Equal_string :=
  conR_ok env mixed (fn := f30) (c := codeOf f30) (by kernel_rfl) (by kernel_rfl) H_slices_Equal_string (by kernel_rfl) fun ⟨s1, s2, ⟨⟩⟩ hin hp =>
  Eq.mpr ((by kernel_rfl : awp Θ Γ_slices_Equal_string H_slices_Equal_string (codeOf f30) (endsV Θ f30.results.toList rsh_slices_Equal_string fun r => r = (F_slices_Equal_string (s1, s2, ())).2) (entry f30.ntmps (psVals sh_slices_Equal_string (s1, s2, ()))) = VC_slices_Equal_string s1 s2 fun r => r = ((decide (s1 = s2), ())))) (h s1 s2 hin hp)

def H_impl_sameFields : Hints := Go.Fw.hints [] [] [] [] []
def VC_impl_sameFields (text : List UInt8) (w : List (List UInt8 × Unit)) (K : Bool × Unit → Prop) : Prop :=
  bif !text == [] then
  (text.length ≤ (1048576 : Nat) ∧ Sp.asciiS text = true) ∧
  True ∧
 let r0 := decide (Sp.wordsOf text = w);
  K (r0, ())
  else K (false, ())
theorem wk_impl_sameFields (env : EnvB prog G Θ Γ_impl_sameFields) (h : ∀ (text : List UInt8) (w : List (List UInt8 × Unit)), psInR sh_impl_sameFields (text, w, ()) → (text.length ≤ (1048576 : Nat) ∧ Sp.asciiS text = true) → VC_impl_sameFields text w fun r => r = ((!text == [] && decide (Sp.wordsOf text = w), ()))) : ConOK prog G n_impl_sameFields con_impl_sameFields :=
  conR_ok env mixed (fn := f17) (c := codeOf f17) (by kernel_rfl) (by kernel_rfl) H_impl_sameFields (by kernel_rfl) fun ⟨text, w, ⟨⟩⟩ hin hp =>
  Eq.mpr ((by kernel_rfl : awp Θ Γ_impl_sameFields H_impl_sameFields (codeOf f17) (endsV Θ f17.results.toList rsh_impl_sameFields fun r => r = (F_impl_sameFields (text, w, ())).2) (entry f17.ntmps (psVals sh_impl_sameFields (text, w, ()))) = VC_impl_sameFields text w fun r => r = ((!text == [] && decide (Sp.wordsOf text = w), ())))) (h text w hin hp)

def H_spec_ParseAction : Hints := Go.Fw.hints [] [] [(4, ⟨[], ⟨[(2, .vptr 128 0), (4, .one (.sl 9 (.cons .str .nil) true))], [(128, .var [.int .i64, .int .i64, .nil, .str, .int .i64])]⟩, ⟨[], []⟩⟩), (22, ⟨[], ⟨[(2, .vptr 128 0), (4, .one (.sl 9 (.cons .str .nil) true)), (6, .vptr 384 0)], [(128, .var [.int .i64, .int .i64, .nil, .str, .int .i64])]⟩, ⟨[], [(384, .var [.int .i64, .int .i64, .nil, .str, .int .i64])]⟩⟩)] [] []
def VC_spec_ParseAction (line : List UInt8) (K : (Int ×
  Int ×
  List
  (Int ×
  Int ×
  Int ×
  Bool × Int × List (List UInt8 × Int × Int × List UInt8 × Unit) × Int × List UInt8 × List (Int × Int × Int × List UInt8 × Int × Int × List UInt8 × Unit) × Unit) ×
  List UInt8 × Int × Unit) ×
  Bool × Unit → Prop) : Prop :=
  line.length ≤ (1048576 : Nat) ∧
 let s0 : (Unit × List (List UInt8 × Unit) × Unit) × (Int × Int × Unit × List UInt8 × Int × Unit) × Unit :=
  (((), Sp.splitF line, ()), ((0 : Int), (0 : Int), (), [], (0 : Int), ()), ());
  ∃ (J : Unit × Unit → Prop),
  (bif !Sp.splitOk line then K (((0 : Int), (0 : Int), [], [], (0 : Int), ()), false, ())
  else bif (↑(List.length (Sp.splitF line)) : Int) == (0 : Int) then K (((0 : Int), (0 : Int), [], [], (0 : Int), ()), false, ()) else s0 = s0 ∧ J ((), ())) ∧
  ∀ (y1 : Unit × Unit),
  J y1 →
 let s2 : (Unit × List (List UInt8 × Unit) × Unit × Unit) × (Int × Int × Unit × List UInt8 × Int × Unit) × Unit :=
  (((), Sp.splitF line, (), ()), ((0 : Int), (0 : Int), (), [], (0 : Int), ()), ());
  ∃ (J : Unit × (Int × Int × Unit × List UInt8 × Int × Unit) × Unit → Prop),
  (((0 : Int) ≤ (0 : Int) ∧ (0 : Int) < (↑(List.length (Sp.splitF line)) : Int)) ∧
  bif
  (List.getD (Sp.splitF line) (Int.toNat (0 : Int)) ([], ())).1 ==
  [(99 : UInt8), (111 : UInt8), (109 : UInt8), (109 : UInt8), (105 : UInt8), (116 : UInt8)] then
  (0 : Int) ≤ (1 : Int) ∧
 let r3 : Int := Sp.numAt (Sp.splitF line) (1 : Int);
  s2 = s2 ∧ J ((), ((1 : Int), r3, (), [], (0 : Int), ()), ())
  else
  bif (List.getD (Sp.splitF line) (Int.toNat (0 : Int)) ([], ())).1 == [(99 : UInt8), (114 : UInt8), (97 : UInt8), (115 : UInt8), (104 : UInt8)] then
  (0 : Int) ≤ (1 : Int) ∧
 let r4 : Int := Sp.numAt (Sp.splitF line) (1 : Int);
  (0 : Int) ≤ (2 : Int) ∧
 let r5 : Int := Sp.numAt (Sp.splitF line) (2 : Int);
  s2 = s2 ∧ J ((), ((2 : Int), r4, (), [], r5, ()), ())
  else
  bif (List.getD (Sp.splitF line) (Int.toNat (0 : Int)) ([], ())).1 == [(119 : UInt8), (97 : UInt8), (116 : UInt8), (99 : UInt8), (104 : UInt8)] then
  (0 : Int) ≤ (1 : Int) ∧
 let r6 : Int := Sp.numAt (Sp.splitF line) (1 : Int);
  (0 : Int) ≤ (2 : Int) ∧
 let r7 : Sp.Bytes := Sp.wordAt (Sp.splitF line) (2 : Int);
  s2 = s2 ∧ J ((), ((3 : Int), r6, (), r7, (0 : Int), ()), ())
  else
  bif (List.getD (Sp.splitF line) (Int.toNat (0 : Int)) ([], ())).1 == [(112 : UInt8), (105 : UInt8), (110 : UInt8)] then
  (0 : Int) ≤ (1 : Int) ∧
 let r8 : Int := Sp.numAt (Sp.splitF line) (1 : Int);
  s2 = s2 ∧ J ((), ((4 : Int), (0 : Int), (), [], r8, ()), ())
  else
  bif (List.getD (Sp.splitF line) (Int.toNat (0 : Int)) ([], ())).1 == [(117 : UInt8), (110 : UInt8), (112 : UInt8), (105 : UInt8), (110 : UInt8)] then
  (0 : Int) ≤ (1 : Int) ∧
 let r9 : Int := Sp.numAt (Sp.splitF line) (1 : Int);
  s2 = s2 ∧ J ((), ((5 : Int), (0 : Int), (), [], r9, ()), ())
  else
  bif
  (List.getD (Sp.splitF line) (Int.toNat (0 : Int)) ([], ())).1 ==
  [(99 : UInt8), (111 : UInt8), (108 : UInt8), (108 : UInt8), (101 : UInt8), (99 : UInt8), (116 : UInt8)] then
  s2 = s2 ∧ J ((), ((6 : Int), (0 : Int), (), [], (0 : Int), ()), ())
  else
  bif (List.getD (Sp.splitF line) (Int.toNat (0 : Int)) ([], ())).1 == [(97 : UInt8), (100 : UInt8), (100 : UInt8)] then
  (0 : Int) ≤ (1 : Int) ∧
 let r10 : Int := Sp.numAt (Sp.splitF line) (1 : Int);
  (0 : Int) ≤ (2 : Int) ∧
 let r11 : Sp.Bytes := Sp.wordAt (Sp.splitF line) (2 : Int);
  (0 : Int) ≤ (3 : Int) ∧
 let r12 : Int := Sp.numAt (Sp.splitF line) (3 : Int);
  s2 = s2 ∧ J ((), ((7 : Int), r10, (), r11, r12, ()), ())
  else
  bif
  (List.getD (Sp.splitF line) (Int.toNat (0 : Int)) ([], ())).1 ==
  [(114 : UInt8), (101 : UInt8), (109 : UInt8), (111 : UInt8), (118 : UInt8), (101 : UInt8)] then
  (0 : Int) ≤ (1 : Int) ∧
 let r13 : Int := Sp.numAt (Sp.splitF line) (1 : Int);
  (0 : Int) ≤ (2 : Int) ∧
 let r14 : Sp.Bytes := Sp.wordAt (Sp.splitF line) (2 : Int);
  (0 : Int) ≤ (3 : Int) ∧
 let r15 : Int := Sp.numAt (Sp.splitF line) (3 : Int);
  s2 = s2 ∧ J ((), ((8 : Int), r13, (), r14, r15, ()), ())
  else s2 = s2 ∧ J ((), ((0 : Int), (0 : Int), (), [], (0 : Int), ()), ())) ∧
  ∀ (y16 : Unit × (Int × Int × Unit × List UInt8 × Int × Unit) × Unit),
  J y16 →
  List.length y16.2.1.2.2.2.1 ≤ (1048576 : Nat) ∧
 let r17 : Sp.Bytes := Sp.actionText y16.2.1.1 y16.2.1.2.1 (0 : Nat) y16.2.1.2.2.2.1 y16.2.1.2.2.2.2.1;
  bif r17 == [] then K (((0 : Int), (0 : Int), [], [], (0 : Int), ()), false, ())
  else
  (List.length (Sp.splitF line) ≤ (1000 : Nat) ∧ List.length (Sp.joinW (Sp.splitF line)) ≤ (2097152 : Nat)) ∧
  bif !r17 == Sp.joinW (Sp.splitF line) then K (((0 : Int), (0 : Int), [], [], (0 : Int), ()), false, ())
  else K ((y16.2.1.1, y16.2.1.2.1, [], y16.2.1.2.2.2.1, y16.2.1.2.2.2.2.1, ()), true, ())
theorem wk_spec_ParseAction (env : EnvB prog G Θ Γ_spec_ParseAction) (h : ∀ (line : List UInt8), psInR sh_spec_ParseAction (line, ()) → (line.length ≤ (1048576 : Nat)) → VC_spec_ParseAction line fun r => r = ((Sp.parseAct line, Sp.parseActOk line, ()))) : ConOK prog G n_spec_ParseAction con_spec_ParseAction :=
  conR_ok env mixed (fn := f4) (c := codeOf f4) (by kernel_rfl) (by kernel_rfl) H_spec_ParseAction (by kernel_rfl) fun ⟨line, ⟨⟩⟩ hin hp =>
  Eq.mpr ((by kernel_rfl : awp Θ Γ_spec_ParseAction H_spec_ParseAction (codeOf f4) (endsV Θ f4.results.toList rsh_spec_ParseAction fun r => r = (F_spec_ParseAction (line, ())).2) (entry f4.ntmps (psVals sh_spec_ParseAction (line, ()))) = VC_spec_ParseAction line fun r => r = ((Sp.parseAct line, Sp.parseActOk line, ())))) (h line hin hp)

def H_impl_ParseAction : Hints := Go.Fw.hints [] [] [(4, ⟨[], ⟨[(2, .vptr 128 0), (4, .one (.sl 9 (.cons .str .nil) true)), (5, .one (.bool))], [(128, .var [.int .i64, .int .i64, .nil, .str, .int .i64])]⟩, ⟨[], []⟩⟩), (19, ⟨[], ⟨[(2, .vptr 128 0), (4, .one (.sl 9 (.cons .str .nil) true)), (5, .one (.bool)), (6, .vptr 384 0), (23, .one (.str))], [(128, .var [.int .i64, .int .i64, .nil, .str, .int .i64]), (384, .var [.int .i64, .int .i64, .nil, .str, .int .i64])]⟩, ⟨[(60, .one (.bool))], []⟩⟩), (33, ⟨[], ⟨[(2, .vptr 128 0), (4, .one (.sl 9 (.cons .str .nil) true)), (6, .vptr 384 0)], [(128, .var [.int .i64, .int .i64, .nil, .str, .int .i64])]⟩, ⟨[(5, .one (.bool))], [(384, .var [.int .i64, .int .i64, .nil, .str, .int .i64])]⟩⟩)] [] []
def VC_impl_ParseAction (line : List UInt8) (K : (Int ×
  Int ×
  List
  (Int ×
  Int ×
  Int ×
  Bool × Int × List (List UInt8 × Int × Int × List UInt8 × Unit) × Int × List UInt8 × List (Int × Int × Int × List UInt8 × Int × Int × List UInt8 × Unit) × Unit) ×
  List UInt8 × Int × Unit) ×
  Bool × Unit → Prop) : Prop :=
  line.length ≤ (1048576 : Nat) ∧
 let s0 : (Unit × List (List UInt8 × Unit) × Bool × Unit) × (Int × Int × Unit × List UInt8 × Int × Unit) × Unit :=
  (((), Sp.splitF line, Sp.splitOk line, ()), ((0 : Int), (0 : Int), (), [], (0 : Int), ()), ());
  ∃ (J : Unit × Unit → Prop),
  (bif !Sp.splitOk line then K (((0 : Int), (0 : Int), [], [], (0 : Int), ()), false, ())
  else bif (↑(List.length (Sp.splitF line)) : Int) == (0 : Int) then K (((0 : Int), (0 : Int), [], [], (0 : Int), ()), false, ()) else s0 = s0 ∧ J ((), ())) ∧
  ∀ (y1 : Unit × Unit),
  J y1 →
 let s2 : (Unit × List (List UInt8 × Unit) × Unit × Unit) × (Int × Int × Unit × List UInt8 × Int × Unit) × Unit :=
  (((), Sp.splitF line, (), ()), ((0 : Int), (0 : Int), (), [], (0 : Int), ()), ());
  ∃ (J : (Bool × Unit) × (Int × Int × Unit × List UInt8 × Int × Unit) × Unit → Prop),
  (((0 : Int) ≤ (0 : Int) ∧ (0 : Int) < (↑(List.length (Sp.splitF line)) : Int)) ∧
  bif
  (List.getD (Sp.splitF line) (Int.toNat (0 : Int)) ([], ())).1 ==
  [(99 : UInt8), (111 : UInt8), (109 : UInt8), (109 : UInt8), (105 : UInt8), (116 : UInt8)] then
  (0 : Int) ≤ (1 : Int) ∧
 let r3 : Int := Sp.numAt (Sp.splitF line) (1 : Int);
 let r4 : Bool := Sp.parseOk (Sp.wordAt (Sp.splitF line) (1 : Int));
  s2 = s2 ∧ J ((r4, ()), ((1 : Int), r3, (), [], (0 : Int), ()), ())
  else
  bif (List.getD (Sp.splitF line) (Int.toNat (0 : Int)) ([], ())).1 == [(99 : UInt8), (114 : UInt8), (97 : UInt8), (115 : UInt8), (104 : UInt8)] then
  (0 : Int) ≤ (1 : Int) ∧
 let r5 : Int := Sp.numAt (Sp.splitF line) (1 : Int);
  (0 : Int) ≤ (2 : Int) ∧
 let r7 : Int := Sp.numAt (Sp.splitF line) (2 : Int);
 let r8 : Bool := Sp.parseOk (Sp.wordAt (Sp.splitF line) (2 : Int));
  s2 = s2 ∧ J ((r8, ()), ((2 : Int), r5, (), [], r7, ()), ())
  else
  bif (List.getD (Sp.splitF line) (Int.toNat (0 : Int)) ([], ())).1 == [(119 : UInt8), (97 : UInt8), (116 : UInt8), (99 : UInt8), (104 : UInt8)] then
  (0 : Int) ≤ (1 : Int) ∧
 let r9 : Int := Sp.numAt (Sp.splitF line) (1 : Int);
 let r10 : Bool := Sp.parseOk (Sp.wordAt (Sp.splitF line) (1 : Int));
  (0 : Int) ≤ (2 : Int) ∧
 let r11 : Sp.Bytes := Sp.wordAt (Sp.splitF line) (2 : Int);
  s2 = s2 ∧ J ((r10, ()), ((3 : Int), r9, (), r11, (0 : Int), ()), ())
  else
 let s12 :
  (Unit × List (List UInt8 × Unit) × Bool × Unit × List UInt8 × Unit) ×
  (Int × Int × Unit × List UInt8 × Int × Unit) × (Int × Int × Unit × List UInt8 × Int × Unit) × Unit :=
  (((), Sp.splitF line, Sp.splitOk line, (), (List.getD (Sp.splitF line) (Int.toNat (0 : Int)) ([], ())).1, ()),
  ((0 : Int), (0 : Int), (), [], (0 : Int), ()), ((0 : Int), (0 : Int), (), [], (0 : Int), ()), ());
  ∃ (J_1 : (Bool × Unit) × Unit → Prop),
  (bif (List.getD (Sp.splitF line) (Int.toNat (0 : Int)) ([], ())).1 == [(112 : UInt8), (105 : UInt8), (110 : UInt8)] then
  s12 = s12 ∧ J_1 (((List.getD (Sp.splitF line) (Int.toNat (0 : Int)) ([], ())).1 == [(112 : UInt8), (105 : UInt8), (110 : UInt8)], ()), ())
  else
  s12 = s12 ∧
  J_1
  (((List.getD (Sp.splitF line) (Int.toNat (0 : Int)) ([], ())).1 == [(117 : UInt8), (110 : UInt8), (112 : UInt8), (105 : UInt8), (110 : UInt8)],
  ()),
  ())) ∧
  ∀ (y13 : (Bool × Unit) × Unit),
  J_1 y13 →
  bif y13.1.1 then
  ((0 : Int) ≤ (0 : Int) ∧ (0 : Int) < (↑(List.length (Sp.splitF line)) : Int)) ∧
  bif
  (List.getD (Sp.splitF line) (Int.toNat (0 : Int)) ([], ())).1 ==
  [(117 : UInt8), (110 : UInt8), (112 : UInt8), (105 : UInt8), (110 : UInt8)] then
  (0 : Int) ≤ (1 : Int) ∧
 let r14 : Int := Sp.numAt (Sp.splitF line) (1 : Int);
 let r15 : Bool := Sp.parseOk (Sp.wordAt (Sp.splitF line) (1 : Int));
  s2 = s2 ∧ J ((r15, ()), ((5 : Int), (0 : Int), (), [], r14, ()), ())
  else
  (0 : Int) ≤ (1 : Int) ∧
 let r16 : Int := Sp.numAt (Sp.splitF line) (1 : Int);
 let r17 : Bool := Sp.parseOk (Sp.wordAt (Sp.splitF line) (1 : Int));
  s2 = s2 ∧ J ((r17, ()), ((4 : Int), (0 : Int), (), [], r16, ()), ())
  else
  bif
  (List.getD (Sp.splitF line) (Int.toNat (0 : Int)) ([], ())).1 ==
  [(99 : UInt8), (111 : UInt8), (108 : UInt8), (108 : UInt8), (101 : UInt8), (99 : UInt8), (116 : UInt8)] then
  s2 = s2 ∧ J ((Sp.splitOk line, ()), ((6 : Int), (0 : Int), (), [], (0 : Int), ()), ())
  else
  bif (List.getD (Sp.splitF line) (Int.toNat (0 : Int)) ([], ())).1 == [(97 : UInt8), (100 : UInt8), (100 : UInt8)] then
  bif (List.getD (Sp.splitF line) (Int.toNat (0 : Int)) ([], ())).1 == [(97 : UInt8), (100 : UInt8), (100 : UInt8)] then
  ((0 : Int) ≤ (0 : Int) ∧ (0 : Int) < (↑(List.length (Sp.splitF line)) : Int)) ∧
  bif
  (List.getD (Sp.splitF line) (Int.toNat (0 : Int)) ([], ())).1 ==
  [(114 : UInt8), (101 : UInt8), (109 : UInt8), (111 : UInt8), (118 : UInt8), (101 : UInt8)] then
  (0 : Int) ≤ (1 : Int) ∧
 let r18 : Int := Sp.numAt (Sp.splitF line) (1 : Int);
  (0 : Int) ≤ (2 : Int) ∧
 let r20 : Sp.Bytes := Sp.wordAt (Sp.splitF line) (2 : Int);
  (0 : Int) ≤ (3 : Int) ∧
 let r21 : Int := Sp.numAt (Sp.splitF line) (3 : Int);
 let r22 : Bool := Sp.parseOk (Sp.wordAt (Sp.splitF line) (3 : Int));
  s2 = s2 ∧ J ((r22, ()), ((8 : Int), r18, (), r20, r21, ()), ())
  else
  (0 : Int) ≤ (1 : Int) ∧
 let r23 : Int := Sp.numAt (Sp.splitF line) (1 : Int);
  (0 : Int) ≤ (2 : Int) ∧
 let r25 : Sp.Bytes := Sp.wordAt (Sp.splitF line) (2 : Int);
  (0 : Int) ≤ (3 : Int) ∧
 let r26 : Int := Sp.numAt (Sp.splitF line) (3 : Int);
 let r27 : Bool := Sp.parseOk (Sp.wordAt (Sp.splitF line) (3 : Int));
  s2 = s2 ∧ J ((r27, ()), ((7 : Int), r23, (), r25, r26, ()), ())
  else s2 = s2 ∧ J ((Sp.splitOk line, ()), ((0 : Int), (0 : Int), (), [], (0 : Int), ()), ())
  else
  bif
  (List.getD (Sp.splitF line) (Int.toNat (0 : Int)) ([], ())).1 ==
  [(114 : UInt8), (101 : UInt8), (109 : UInt8), (111 : UInt8), (118 : UInt8), (101 : UInt8)] then
  ((0 : Int) ≤ (0 : Int) ∧ (0 : Int) < (↑(List.length (Sp.splitF line)) : Int)) ∧
  bif
  (List.getD (Sp.splitF line) (Int.toNat (0 : Int)) ([], ())).1 ==
  [(114 : UInt8), (101 : UInt8), (109 : UInt8), (111 : UInt8), (118 : UInt8), (101 : UInt8)] then
  (0 : Int) ≤ (1 : Int) ∧
 let r28 : Int := Sp.numAt (Sp.splitF line) (1 : Int);
  (0 : Int) ≤ (2 : Int) ∧
 let r30 : Sp.Bytes := Sp.wordAt (Sp.splitF line) (2 : Int);
  (0 : Int) ≤ (3 : Int) ∧
 let r31 : Int := Sp.numAt (Sp.splitF line) (3 : Int);
 let r32 : Bool := Sp.parseOk (Sp.wordAt (Sp.splitF line) (3 : Int));
  s2 = s2 ∧ J ((r32, ()), ((8 : Int), r28, (), r30, r31, ()), ())
  else
  (0 : Int) ≤ (1 : Int) ∧
 let r33 : Int := Sp.numAt (Sp.splitF line) (1 : Int);
  (0 : Int) ≤ (2 : Int) ∧
 let r35 : Sp.Bytes := Sp.wordAt (Sp.splitF line) (2 : Int);
  (0 : Int) ≤ (3 : Int) ∧
 let r36 : Int := Sp.numAt (Sp.splitF line) (3 : Int);
 let r37 : Bool := Sp.parseOk (Sp.wordAt (Sp.splitF line) (3 : Int));
  s2 = s2 ∧ J ((r37, ()), ((7 : Int), r33, (), r35, r36, ()), ())
  else s2 = s2 ∧ J ((Sp.splitOk line, ()), ((0 : Int), (0 : Int), (), [], (0 : Int), ()), ())) ∧
  ∀ (y38 : (Bool × Unit) × (Int × Int × Unit × List UInt8 × Int × Unit) × Unit),
  J y38 →
  bif !y38.1.1 then K (((0 : Int), (0 : Int), [], [], (0 : Int), ()), false, ())
  else
  List.length y38.2.1.2.2.2.1 ≤ (1048576 : Nat) ∧
 let r39 : Sp.Bytes := Sp.actionText y38.2.1.1 y38.2.1.2.1 (0 : Nat) y38.2.1.2.2.2.1 y38.2.1.2.2.2.2.1;
  (List.length r39 ≤ (1048576 : Nat) ∧ Sp.asciiS r39 = true) ∧
 let r40 : Bool := !r39 == [] && decide (Sp.wordsOf r39 = Sp.splitF line);
  bif !r40 then K (((0 : Int), (0 : Int), [], [], (0 : Int), ()), false, ())
  else K ((y38.2.1.1, y38.2.1.2.1, [], y38.2.1.2.2.2.1, y38.2.1.2.2.2.2.1, ()), true, ())
theorem wk_impl_ParseAction (env : EnvB prog G Θ Γ_impl_ParseAction) (h : ∀ (line : List UInt8), psInR sh_impl_ParseAction (line, ()) → (line.length ≤ (1048576 : Nat)) → VC_impl_ParseAction line fun r => r = ((Sp.parseAct line, Sp.parseActOk line, ()))) : ConOK prog G n_impl_ParseAction con_impl_ParseAction :=
  conR_ok env mixed (fn := f5) (c := codeOf f5) (by kernel_rfl) (by kernel_rfl) H_impl_ParseAction (by kernel_rfl) fun ⟨line, ⟨⟩⟩ hin hp =>
  Eq.mpr ((by kernel_rfl : awp Θ Γ_impl_ParseAction H_impl_ParseAction (codeOf f5) (endsV Θ f5.results.toList rsh_impl_ParseAction fun r => r = (F_impl_ParseAction (line, ())).2) (entry f5.ntmps (psVals sh_impl_ParseAction (line, ()))) = VC_impl_ParseAction line fun r => r = ((Sp.parseAct line, Sp.parseActOk line, ())))) (h line hin hp)

def H_laws_markAction : Hints := Go.Fw.hints [] [] [] [] []
def VC_laws_markAction (a0 : Int) (a1 : Int) (a2 : List
  (Int × Int × Int × Bool × Int × List (List UInt8 × Int × Int × List UInt8 × Unit) × Int × List UInt8 × List (Int × Int × Int × List UInt8 × Int × Int × List UInt8 × Unit) × Unit)) (a3 : List UInt8) (a4 : Int) (k : Int) (K : Int × Unit → Prop) : Prop :=
  a2 = [] ∧ K (k, ())
theorem wk_laws_markAction (env : EnvB prog G Θ Γ_laws_markAction) (h : ∀ (a0 : Int) (a1 : Int) (a2 : List
  (Int × Int × Int × Bool × Int × List (List UInt8 × Int × Int × List UInt8 × Unit) × Int × List UInt8 × List (Int × Int × Int × List UInt8 × Int × Int × List UInt8 × Unit) × Unit)) (a3 : List UInt8) (a4 : Int) (k : Int), psInR sh_laws_markAction ((a0, a1, a2, a3, a4, ()), k, ()) → (a2 = []) → VC_laws_markAction a0 a1 a2 a3 a4 k fun r => r = ((k, ()))) : ConOK prog G n_laws_markAction con_laws_markAction :=
  conR_ok env mixed (fn := f7) (c := codeOf f7) (by kernel_rfl) (by kernel_rfl) H_laws_markAction (by kernel_rfl) fun ⟨⟨a0, a1, a2, a3, a4, ⟨⟩⟩, k, ⟨⟩⟩ hin hp =>
  Eq.mpr ((by kernel_rfl : awp Θ Γ_laws_markAction H_laws_markAction (codeOf f7) (endsV Θ f7.results.toList rsh_laws_markAction fun r => r = (F_laws_markAction ((a0, a1, a2, a3, a4, ()), k, ())).2) (entry f7.ntmps (psVals sh_laws_markAction ((a0, a1, a2, a3, a4, ()), k, ()))) = VC_laws_markAction a0 a1 a2 a3 a4 k fun r => r = ((k, ())))) (h a0 a1 a2 a3 a4 k hin hp)

def H_laws_heldAction : Hints := Go.Fw.hints [] [] [] [] []
def VC_laws_heldAction (a0 : Int) (a1 : Int) (a2 : List
  (Int × Int × Int × Bool × Int × List (List UInt8 × Int × Int × List UInt8 × Unit) × Int × List UInt8 × List (Int × Int × Int × List UInt8 × Int × Int × List UInt8 × Unit) × Unit)) (a3 : List UInt8) (a4 : Int) (k : Int) (K : Int × Unit → Prop) : Prop :=
  a2 = [] ∧ bif decide (k < (0 : Int)) then K ((-1 : Int), ()) else K (k, ())
theorem wk_laws_heldAction (env : EnvB prog G Θ Γ_laws_heldAction) (h : ∀ (a0 : Int) (a1 : Int) (a2 : List
  (Int × Int × Int × Bool × Int × List (List UInt8 × Int × Int × List UInt8 × Unit) × Int × List UInt8 × List (Int × Int × Int × List UInt8 × Int × Int × List UInt8 × Unit) × Unit)) (a3 : List UInt8) (a4 : Int) (k : Int), psInR sh_laws_heldAction ((a0, a1, a2, a3, a4, ()), k, ()) → (a2 = [] ∧ (0 : Int) ≤ k) → VC_laws_heldAction a0 a1 a2 a3 a4 k fun r => r = ((k, ()))) : ConOK prog G n_laws_heldAction con_laws_heldAction :=
  conR_ok env mixed (fn := f8) (c := codeOf f8) (by kernel_rfl) (by kernel_rfl) H_laws_heldAction (by kernel_rfl) fun ⟨⟨a0, a1, a2, a3, a4, ⟨⟩⟩, k, ⟨⟩⟩ hin hp =>
  Eq.mpr ((by kernel_rfl : awp Θ Γ_laws_heldAction H_laws_heldAction (codeOf f8) (endsV Θ f8.results.toList rsh_laws_heldAction fun r => r = (F_laws_heldAction ((a0, a1, a2, a3, a4, ()), k, ())).2) (entry f8.ntmps (psVals sh_laws_heldAction ((a0, a1, a2, a3, a4, ()), k, ()))) = VC_laws_heldAction a0 a1 a2 a3 a4 k fun r => r = ((k, ())))) (h a0 a1 a2 a3 a4 k hin hp)

def H_laws_FnExactParseAction : Hints := Go.Fw.hints [] [] [(7, ⟨[], ⟨[(0, .one (.str)), (3, .vptr 192 0), (4, .one (.bool)), (5, .vptr 320 0)], [(192, .var [.int .i64, .int .i64, .sl 59 (.cons (.int .i64) (.cons (.int .i64) (.cons (.int .i64) (.cons .bool (.cons (.int .i64) (.cons (.sl 84 (.cons .str (.cons (.int .i64) (.cons (.int .i64) (.cons .str .nil))))) (.cons (.int .i64) (.cons .str (.cons (.sl 86 (.cons (.int .i64) (.cons (.int .i64) (.cons (.int .i64) (.cons .str (.cons (.int .i64) (.cons (.int .i64) (.cons .str .nil)))))))) .nil))))))))) true, .str, .int .i64]), (320, .var [.int .i64, .int .i64, .sl 59 (.cons (.int .i64) (.cons (.int .i64) (.cons (.int .i64) (.cons .bool (.cons (.int .i64) (.cons (.sl 84 (.cons .str (.cons (.int .i64) (.cons (.int .i64) (.cons .str .nil))))) (.cons (.int .i64) (.cons .str (.cons (.sl 86 (.cons (.int .i64) (.cons (.int .i64) (.cons (.int .i64) (.cons .str (.cons (.int .i64) (.cons (.int .i64) (.cons .str .nil)))))))) .nil))))))))) true, .str, .int .i64])]⟩, ⟨[], []⟩⟩)] [] []
def VC_laws_FnExactParseAction (aLine : List UInt8) (K : Bool × Unit → Prop) : Prop :=
  bif decide ((↑aLine.length : Int) > (1048576 : Int)) then K (true, ())
  else
  aLine.length ≤ (1048576 : Nat) ∧
 let r0 := (Sp.parseAct aLine).1;
 let r1 := (Sp.parseAct aLine).2.1;
 let r2 := (Sp.parseAct aLine).2.2.1;
 let r3 := (Sp.parseAct aLine).2.2.2.1;
 let r4 := (Sp.parseAct aLine).2.2.2.2.1;
  aLine.length ≤ (1048576 : Nat) ∧
 let r5 := (Sp.parseAct aLine).1;
 let r6 := (Sp.parseAct aLine).2.1;
 let r7 := (Sp.parseAct aLine).2.2.1;
 let r8 := (Sp.parseAct aLine).2.2.2.1;
 let r9 := (Sp.parseAct aLine).2.2.2.2.1;
 let s10 := ((aLine, (), Sp.parseActOk aLine, (), ()), (r0, r1, r2, r3, r4, ()), (r5, r6, r7, r8, r9, ()), ());
  ∃ (J : Unit × Unit → Prop),
  (True ∧
 let r11 := Sp.eqAction (r5, r6, r7, r8, r9, ()) (r0, r1, r2, r3, r4, ());
  bif !r11 then K (false, ()) else bif !Sp.parseActOk aLine == Sp.parseActOk aLine then K (false, ()) else s10 = s10 ∧ J ((), ())) ∧
  ∀ (y12 : Unit × Unit),
  J y12 →
  r7 = [] ∧
  (r7 = [] ∧ (0 : Int) ≤ (1 : Int)) ∧
  aLine.length ≤ (1048576 : Nat) ∧
 let r13 := (Sp.parseAct aLine).1;
 let r14 := (Sp.parseAct aLine).2.1;
 let r15 := (Sp.parseAct aLine).2.2.1;
 let r16 := (Sp.parseAct aLine).2.2.2.1;
 let r17 := (Sp.parseAct aLine).2.2.2.2.1;
  True ∧
 let r18 := Sp.eqAction (r13, r14, r15, r16, r17, ()) (r0, r1, r2, r3, r4, ());
  bif !r18 then K (false, ()) else bif !Sp.parseActOk aLine == Sp.parseActOk aLine then K (false, ()) else (r7 = [] ∧ (0 : Int) ≤ (1 : Int)) ∧ K (true, ())
theorem wk_laws_FnExactParseAction (env : EnvB prog G Θ Γ_laws_FnExactParseAction) (h : ∀ (aLine : List UInt8), psInR sh_laws_FnExactParseAction (aLine, ()) → (True) → VC_laws_FnExactParseAction aLine fun r => r = ((true, ()))) : ConOK prog G n_laws_FnExactParseAction con_laws_FnExactParseAction :=
  conR_ok env mixed (fn := f3) (c := codeOf f3) (by kernel_rfl) (by kernel_rfl) H_laws_FnExactParseAction (by kernel_rfl) fun ⟨aLine, ⟨⟩⟩ hin hp =>
  Eq.mpr ((by kernel_rfl : awp Θ Γ_laws_FnExactParseAction H_laws_FnExactParseAction (codeOf f3) (endsV Θ f3.results.toList rsh_laws_FnExactParseAction fun r => r = (F_laws_FnExactParseAction (aLine, ())).2) (entry f3.ntmps (psVals sh_laws_FnExactParseAction (aLine, ()))) = VC_laws_FnExactParseAction aLine fun r => r = ((true, ())))) (h aLine hin hp)

end Go.Proofs.Tryd

import Derived.Test.YtlhclabldgampaaDoorF
namespace Go.Proofs.Tryd
open Go Go.Fw
set_option maxRecDepth 100000
def H_laws_markChangeS : Hints := Go.Fw.hints [71] [(2, ⟨[], ⟨[(0, .one (.sl 59 (.cons (.int .i64) (.cons (.int .i64) (.cons (.int .i64) (.cons .bool (.cons (.int .i64) (.cons (.sl 84 (.cons .str (.cons (.int .i64) (.cons (.int .i64) (.cons .str .nil))))) (.cons (.int .i64) (.cons .str (.cons (.sl 86 (.cons (.int .i64) (.cons (.int .i64) (.cons (.int .i64) (.cons .str (.cons (.int .i64) (.cons (.int .i64) (.cons .str .nil)))))))) .nil))))))))) false))], []⟩, ⟨[(1, .one (.int .i64)), (5, .one (.int .i64))], []⟩⟩)] [] [] []
def VC_laws_markChangeS (a : List
  (Int × Int × Int × Bool × Int × List (List UInt8 × Int × Int × List UInt8 × Unit) × Int × List UInt8 × List (Int × Int × Int × List UInt8 × Int × Int × List UInt8 × Unit) × Unit)) (k : Int) (K : Int × Unit → Prop) : Prop :=
  ∃ (I : (Int × Int × Unit) × Unit → Prop),
  ∃ (μ : (Int × Int × Unit) × Unit → Nat),
  I ((k, (0 : Int), ()), ()) ∧
  ∀ (y1 : (Int × Int × Unit) × Unit),
  I y1 → bif decide (y1.1.2.1 < (↑a.length : Int)) then ((0 : Int) ≤ y1.1.2.1 ∧ y1.1.2.1 < (↑a.length : Int)) ∧ False else K (y1.1.1, ())
theorem wk_laws_markChangeS (env : EnvB prog G Θ Γ_laws_markChangeS) (h : ∀ (a : List
  (Int × Int × Int × Bool × Int × List (List UInt8 × Int × Int × List UInt8 × Unit) × Int × List UInt8 × List (Int × Int × Int × List UInt8 × Int × Int × List UInt8 × Unit) × Unit)) (k : Int), psInR sh_laws_markChangeS (a, k, ()) → (a = []) → VC_laws_markChangeS a k fun r => r = ((k, ()))) : ConOK prog G n_laws_markChangeS con_laws_markChangeS :=
  conR_ok env mixed (fn := f20) (c := codeOf f20) (by kernel_rfl) (by kernel_rfl) H_laws_markChangeS (by kernel_rfl) fun ⟨a, k, ⟨⟩⟩ hin hp =>
  Eq.mpr ((by kernel_rfl : awp Θ Γ_laws_markChangeS H_laws_markChangeS (codeOf f20) (endsV Θ f20.results.toList rsh_laws_markChangeS fun r => r = (F_laws_markChangeS (a, k, ())).2) (entry f20.ntmps (psVals sh_laws_markChangeS (a, k, ()))) = VC_laws_markChangeS a k fun r => r = ((k, ())))) (h a k hin hp)

def H_laws_heldChangeS : Hints := Go.Fw.hints [] [(2, ⟨[], ⟨[(0, .one (.sl 59 (.cons (.int .i64) (.cons (.int .i64) (.cons (.int .i64) (.cons .bool (.cons (.int .i64) (.cons (.sl 84 (.cons .str (.cons (.int .i64) (.cons (.int .i64) (.cons .str .nil))))) (.cons (.int .i64) (.cons .str (.cons (.sl 86 (.cons (.int .i64) (.cons (.int .i64) (.cons (.int .i64) (.cons .str (.cons (.int .i64) (.cons (.int .i64) (.cons .str .nil)))))))) .nil))))))))) false))], []⟩, ⟨[(1, .one (.int .i64)), (5, .one (.int .i64))], []⟩⟩)] [] [] []
def VC_laws_heldChangeS (a : List
  (Int × Int × Int × Bool × Int × List (List UInt8 × Int × Int × List UInt8 × Unit) × Int × List UInt8 × List (Int × Int × Int × List UInt8 × Int × Int × List UInt8 × Unit) × Unit)) (k : Int) (K : Int × Unit → Prop) : Prop :=
  ∃ (I : (Int × Int × Unit) × Unit → Prop),
  ∃ (μ : (Int × Int × Unit) × Unit → Nat),
  I ((k, (0 : Int), ()), ()) ∧
  ∀ (y1 : (Int × Int × Unit) × Unit),
  I y1 →
  bif decide (y1.1.2.1 < (↑a.length : Int)) then
  ((0 : Int) ≤ y1.1.2.1 ∧ y1.1.2.1 < (↑a.length : Int)) ∧
  bif (a.getD (Int.toNat y1.1.2.1) ((0 : Int), (0 : Int), (0 : Int), false, (0 : Int), [], (0 : Int), [], [], ())).1 != y1.1.1 then K ((-1 : Int), ())
  else
  ((0 : Int) ≤ y1.1.2.1 ∧ y1.1.2.1 < (↑a.length : Int)) ∧
  bif
  (a.getD (Int.toNat y1.1.2.1) ((0 : Int), (0 : Int), (0 : Int), false, (0 : Int), [], (0 : Int), [], [], ())).2.1 !=
  IntKind.i64.wrap (y1.1.1 + (1 : Int)) then
  K ((-1 : Int), ())
  else
  ((0 : Int) ≤ y1.1.2.1 ∧ y1.1.2.1 < (↑a.length : Int)) ∧
  bif
  (a.getD (Int.toNat y1.1.2.1) ((0 : Int), (0 : Int), (0 : Int), false, (0 : Int), [], (0 : Int), [], [], ())).2.2.1 !=
  IntKind.i64.wrap (IntKind.i64.wrap (y1.1.1 + (1 : Int)) + (1 : Int)) then
  K ((-1 : Int), ())
  else
  ((0 : Int) ≤ y1.1.2.1 ∧ y1.1.2.1 < (↑a.length : Int)) ∧
  (3 : Int) ≠ (0 : Int) ∧
  bif
  !(a.getD (Int.toNat y1.1.2.1) ((0 : Int), (0 : Int), (0 : Int), false, (0 : Int), [], (0 : Int), [], [], ())).2.2.2.1 ==
  ((IntKind.i64.wrap (IntKind.i64.wrap (IntKind.i64.wrap (y1.1.1 + (1 : Int)) + (1 : Int)) + (1 : Int))).tmod (3 : Int) == (0 : Int)) then
  K ((-1 : Int), ())
  else
  ((0 : Int) ≤ y1.1.2.1 ∧ y1.1.2.1 < (↑a.length : Int)) ∧
  bif
  (a.getD (Int.toNat y1.1.2.1) ((0 : Int), (0 : Int), (0 : Int), false, (0 : Int), [], (0 : Int), [], [], ())).2.2.2.2.1 !=
  IntKind.i64.wrap (IntKind.i64.wrap (IntKind.i64.wrap (IntKind.i64.wrap (y1.1.1 + (1 : Int)) + (1 : Int)) + (1 : Int)) + (1 : Int)) then
  K ((-1 : Int), ())
  else ((0 : Int) ≤ y1.1.2.1 ∧ y1.1.2.1 < (↑a.length : Int)) ∧ False
  else K (y1.1.1, ())
theorem wk_laws_heldChangeS (env : EnvB prog G Θ Γ_laws_heldChangeS) (h : ∀ (a : List
  (Int × Int × Int × Bool × Int × List (List UInt8 × Int × Int × List UInt8 × Unit) × Int × List UInt8 × List (Int × Int × Int × List UInt8 × Int × Int × List UInt8 × Unit) × Unit)) (k : Int), psInR sh_laws_heldChangeS (a, k, ()) → (a = []) → VC_laws_heldChangeS a k fun r => r = ((k, ()))) : ConOK prog G n_laws_heldChangeS con_laws_heldChangeS :=
  conR_ok env mixed (fn := f21) (c := codeOf f21) (by kernel_rfl) (by kernel_rfl) H_laws_heldChangeS (by kernel_rfl) fun ⟨a, k, ⟨⟩⟩ hin hp =>
  Eq.mpr ((by kernel_rfl : awp Θ Γ_laws_heldChangeS H_laws_heldChangeS (codeOf f21) (endsV Θ f21.results.toList rsh_laws_heldChangeS fun r => r = (F_laws_heldChangeS (a, k, ())).2) (entry f21.ntmps (psVals sh_laws_heldChangeS (a, k, ()))) = VC_laws_heldChangeS a k fun r => r = ((k, ())))) (h a k hin hp)

end Go.Proofs.Tryd

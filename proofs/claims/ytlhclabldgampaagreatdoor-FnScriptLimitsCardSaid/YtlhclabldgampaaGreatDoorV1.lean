import Derived.Test.YtlhclabldgampaaGreatDoorF
namespace Go.Proofs.Tryz
open Go Go.Fw
set_option maxRecDepth 100000
def H_impl_FormatInt : Hints := Go.Fw.hints [] [] [] [] []
def VC_impl_FormatInt (n : Int) (K : List UInt8 × Unit → Prop) : Prop :=
  ((-9223372036854775808 : Int) ≤ n ∧ n ≤ (9223372036854775807 : Int)) ∧ K (Lib.itoa n, ())
theorem wk_impl_FormatInt (env : EnvB prog G Θ Γ_impl_FormatInt) (h : ∀ (n : Int), psInR sh_impl_FormatInt (n, ()) → (True) → VC_impl_FormatInt n fun r => r = ((Lib.itoa n, ()))) : ConOK prog G n_impl_FormatInt con_impl_FormatInt :=
  conR_ok env mixed (fn := f8) (c := codeOf f8) (by kernel_rfl) (by kernel_rfl) H_impl_FormatInt (by kernel_rfl) fun ⟨n, ⟨⟩⟩ hin hp =>
  Eq.mpr ((by kernel_rfl : awp Θ Γ_impl_FormatInt H_impl_FormatInt (codeOf f8) (endsV Θ f8.results.toList rsh_impl_FormatInt fun r => r = (F_impl_FormatInt (n, ())).2) (entry f8.ntmps (psVals sh_impl_FormatInt (n, ()))) = VC_impl_FormatInt n fun r => r = ((Lib.itoa n, ())))) (h n hin hp)

def H_impl_within : Hints := Go.Fw.hints [] [] [] [] []
def VC_impl_within (n : Int) (low : Int) (high : Int) (K : Bool × Unit → Prop) : Prop :=
  bif decide (low ≤ n) then K (decide (n ≤ high), ()) else K (false, ())
theorem wk_impl_within (env : EnvB prog G Θ Γ_impl_within) (h : ∀ (n : Int) (low : Int) (high : Int), psInR sh_impl_within (n, low, high, ()) → (True) → VC_impl_within n low high fun r => r = ((decide (low ≤ n) && decide (n ≤ high), ()))) : ConOK prog G n_impl_within con_impl_within :=
  conR_ok env mixed (fn := f25) (c := codeOf f25) (by kernel_rfl) (by kernel_rfl) H_impl_within (by kernel_rfl) fun ⟨n, low, high, ⟨⟩⟩ hin hp =>
  Eq.mpr ((by kernel_rfl : awp Θ Γ_impl_within H_impl_within (codeOf f25) (endsV Θ f25.results.toList rsh_impl_within fun r => r = (F_impl_within (n, low, high, ())).2) (entry f25.ntmps (psVals sh_impl_within (n, low, high, ()))) = VC_impl_within n low high fun r => r = ((decide (low ≤ n) && decide (n ≤ high), ())))) (h n low high hin hp)

def H_impl_IsValidString : Hints := Go.Fw.hints [] [(2, ⟨[], ⟨[(0, .one (.str)), (5, .one (.int .i64))], []⟩, ⟨[(6, .one (.int .i64))], []⟩⟩)] [] [] []
def VC_impl_IsValidString (s : List UInt8) (K : Bool × Unit → Prop) : Prop :=
 let s0 := ((s, (↑s.length : Int), ()), ());
  ∃ (I : (Int × Unit) × Unit → Prop),
  ∃ (μ : (Int × Unit) × Unit → Nat),
  I (((0 : Int), ()), ()) ∧
  ∀ (y1 : (Int × Unit) × Unit),
  I y1 →
  bif decide (y1.1.1 < (↑s.length : Int)) then
  ((0 : Int) ≤ y1.1.1 ∧ y1.1.1 < (↑s.length : Int)) ∧
  bif decide ((↑(s.getD (Int.toNat y1.1.1) (0 : UInt8)).toNat : Int) < (97 : Int)) then K (false, ())
  else
  ((0 : Int) ≤ y1.1.1 ∧ y1.1.1 < (↑s.length : Int)) ∧
  bif decide ((↑(s.getD (Int.toNat y1.1.1) (0 : UInt8)).toNat : Int) > (122 : Int)) then K (false, ())
  else s0 = s0 ∧ I ((IntKind.i64.wrap (y1.1.1 + (1 : Int)), ()), ()) ∧ μ ((IntKind.i64.wrap (y1.1.1 + (1 : Int)), ()), ()) < μ y1
  else
  True ∧
 let r2 := decide ((1 : Int) ≤ (↑s.length : Int)) && decide ((↑s.length : Int) ≤ (6 : Int));
  K (r2, ())
theorem wk_impl_IsValidString (env : EnvB prog G Θ Γ_impl_IsValidString) (h : ∀ (s : List UInt8), psInR sh_impl_IsValidString (s, ()) → (True) → VC_impl_IsValidString s fun r => r = ((Sp.validStr s, ()))) : ConOK prog G n_impl_IsValidString con_impl_IsValidString :=
  conR_ok env mixed (fn := f37) (c := codeOf f37) (by kernel_rfl) (by kernel_rfl) H_impl_IsValidString (by kernel_rfl) fun ⟨s, ⟨⟩⟩ hin hp =>
  Eq.mpr ((by kernel_rfl : awp Θ Γ_impl_IsValidString H_impl_IsValidString (codeOf f37) (endsV Θ f37.results.toList rsh_impl_IsValidString fun r => r = (F_impl_IsValidString (s, ())).2) (entry f37.ntmps (psVals sh_impl_IsValidString (s, ()))) = VC_impl_IsValidString s fun r => r = ((Sp.validStr s, ())))) (h s hin hp)

def H_impl_IsValidAction : Hints := Go.Fw.hints [] [] [] [] []
def VC_impl_IsValidAction (a0 : Int) (a1 : Int) (a2 : List
  (Int × Int × Int × Bool × Int × List (List UInt8 × Int × Int × List UInt8 × Unit) × Int × List UInt8 × List (Int × Int × Int × List UInt8 × Int × Int × List UInt8 × Unit) × Unit)) (a3 : List UInt8) (a4 : Int) (K : Bool × Unit → Prop) : Prop :=
  True ∧
 let r0 := decide ((1 : Int) ≤ a0) && decide (a0 ≤ (8 : Int));
  bif r0 then K (decide ((↑a2.length : Int) ≤ (6 : Int)), ()) else K (false, ())
theorem wk_impl_IsValidAction (env : EnvB prog G Θ Γ_impl_IsValidAction) (h : ∀ (a0 : Int) (a1 : Int) (a2 : List
  (Int × Int × Int × Bool × Int × List (List UInt8 × Int × Int × List UInt8 × Unit) × Int × List UInt8 × List (Int × Int × Int × List UInt8 × Int × Int × List UInt8 × Unit) × Unit)) (a3 : List UInt8) (a4 : Int), psInR sh_impl_IsValidAction ((a0, a1, a2, a3, a4, ()), ()) → (True) → VC_impl_IsValidAction a0 a1 a2 a3 a4 fun r => r = ((Sp.validAct a0 a2.length, ()))) : ConOK prog G n_impl_IsValidAction con_impl_IsValidAction :=
  conR_ok env mixed (fn := f45) (c := codeOf f45) (by kernel_rfl) (by kernel_rfl) H_impl_IsValidAction (by kernel_rfl) fun ⟨⟨a0, a1, a2, a3, a4, ⟨⟩⟩, ⟨⟩⟩ hin hp =>
  Eq.mpr ((by kernel_rfl : awp Θ Γ_impl_IsValidAction H_impl_IsValidAction (codeOf f45) (endsV Θ f45.results.toList rsh_impl_IsValidAction fun r => r = (F_impl_IsValidAction ((a0, a1, a2, a3, a4, ()), ())).2) (entry f45.ntmps (psVals sh_impl_IsValidAction ((a0, a1, a2, a3, a4, ()), ()))) = VC_impl_IsValidAction a0 a1 a2 a3 a4 fun r => r = ((Sp.validAct a0 a2.length, ())))) (h a0 a1 a2 a3 a4 hin hp)

def H_impl_areNumbers_1 : Hints := Go.Fw.hints [] [] [] [] []
def VC_impl_areNumbers_1 (n : Int) (K : Bool × Unit → Prop) : Prop :=
  True ∧
 let r0 := decide ((0 : Int) ≤ n) && decide (n ≤ (1000000000 : Int));
  K (!r0, ())
theorem wk_impl_areNumbers_1 (env : EnvB prog G Θ Γ_impl_areNumbers_1) (h : ∀ (n : Int), psInR sh_impl_areNumbers_1 (n, ()) → (True) → VC_impl_areNumbers_1 n fun r => r = ((!Sp.isUint n, ()))) : ConOK prog G n_impl_areNumbers_1 con_impl_areNumbers_1 :=
  conR_ok env mixed (fn := f63) (c := codeOf f63) (by kernel_rfl) (by kernel_rfl) H_impl_areNumbers_1 (by kernel_rfl) fun ⟨n, ⟨⟩⟩ hin hp =>
  Eq.mpr ((by kernel_rfl : awp Θ Γ_impl_areNumbers_1 H_impl_areNumbers_1 (codeOf f63) (endsV Θ f63.results.toList rsh_impl_areNumbers_1 fun r => r = (F_impl_areNumbers_1 (n, ())).2) (entry f63.ntmps (psVals sh_impl_areNumbers_1 (n, ()))) = VC_impl_areNumbers_1 n fun r => r = ((!Sp.isUint n, ())))) (h n hin hp)

def H_slices_IndexFunc_int__impl_areNumbers_1 : Hints := Go.Fw.hints [] [(2, ⟨[], ⟨[(0, .one (.sl 3 (.cons (.int .i64) .nil) false)), (1, .fn 63 []), (7, .one (.int .i64))], []⟩, ⟨[(8, .one (.int .i64))], []⟩⟩)] [] [] []
def VC_slices_IndexFunc_int__impl_areNumbers_1 (s : List (Int × Unit)) (K : Int × Unit → Prop) : Prop :=
 let s0 := ((s, (), (↑s.length : Int), ()), ());
  ∃ (I : (Int × Unit) × Unit → Prop),
  ∃ (μ : (Int × Unit) × Unit → Nat),
  I (((0 : Int), ()), ()) ∧
  ∀ (y1 : (Int × Unit) × Unit),
  I y1 →
  bif decide (y1.1.1 < (↑s.length : Int)) then
  ((0 : Int) ≤ y1.1.1 ∧ y1.1.1 < (↑s.length : Int)) ∧
  True ∧
 let r2 := !Sp.isUint (s.getD (Int.toNat y1.1.1) ((0 : Int), ())).1;
  bif r2 then K (y1.1.1, ())
  else s0 = s0 ∧ I ((IntKind.i64.wrap (y1.1.1 + (1 : Int)), ()), ()) ∧ μ ((IntKind.i64.wrap (y1.1.1 + (1 : Int)), ()), ()) < μ y1
  else K ((-1 : Int), ())
theorem wk_slices_IndexFunc_int__impl_areNumbers_1 (env : EnvB prog G Θ Γ_slices_IndexFunc_int__impl_areNumbers_1) (h : ∀ (s : List (Int × Unit)), psInR sh_slices_IndexFunc_int__impl_areNumbers_1 (s, (()), ()) → (True) → VC_slices_IndexFunc_int__impl_areNumbers_1 s fun r => r = ((Sp.idxOf s, ()))) : ConOK prog G n_slices_IndexFunc_int__impl_areNumbers_1 con_slices_IndexFunc_int__impl_areNumbers_1 :=
  conR_ok env mixed (fn := f73) (c := codeOf f73) (by kernel_rfl) (by kernel_rfl) H_slices_IndexFunc_int__impl_areNumbers_1 (by kernel_rfl) fun ⟨s, ⟨⟩, ⟨⟩⟩ hin hp =>
  Eq.mpr ((by kernel_rfl : awp Θ Γ_slices_IndexFunc_int__impl_areNumbers_1 H_slices_IndexFunc_int__impl_areNumbers_1 (codeOf f73) (endsV Θ f73.results.toList rsh_slices_IndexFunc_int__impl_areNumbers_1 fun r => r = (F_slices_IndexFunc_int__impl_areNumbers_1 (s, (()), ())).2) (entry f73.ntmps (psVals sh_slices_IndexFunc_int__impl_areNumbers_1 (s, (()), ()))) = VC_slices_IndexFunc_int__impl_areNumbers_1 s fun r => r = ((Sp.idxOf s, ())))) (h s hin hp)

def H_slices_ContainsFunc_int__impl_areNumbers_1 : Hints := Go.Fw.hints [] [] [] [] []
def VC_slices_ContainsFunc_int__impl_areNumbers_1 (s : List (Int × Unit)) (K : Bool × Unit → Prop) : Prop :=
  True ∧ K (decide (Sp.idxOf s ≥ (0 : Int)), ())
theorem wk_slices_ContainsFunc_int__impl_areNumbers_1 (env : EnvB prog G Θ Γ_slices_ContainsFunc_int__impl_areNumbers_1) (h : ∀ (s : List (Int × Unit)), psInR sh_slices_ContainsFunc_int__impl_areNumbers_1 (s, (()), ()) → (True) → VC_slices_ContainsFunc_int__impl_areNumbers_1 s fun r => r = ((!Sp.areUints s, ()))) : ConOK prog G n_slices_ContainsFunc_int__impl_areNumbers_1 con_slices_ContainsFunc_int__impl_areNumbers_1 :=
  conR_ok env mixed (fn := f62) (c := codeOf f62) (by kernel_rfl) (by kernel_rfl) H_slices_ContainsFunc_int__impl_areNumbers_1 (by kernel_rfl) fun ⟨s, ⟨⟩, ⟨⟩⟩ hin hp =>
  Eq.mpr ((by kernel_rfl : awp Θ Γ_slices_ContainsFunc_int__impl_areNumbers_1 H_slices_ContainsFunc_int__impl_areNumbers_1 (codeOf f62) (endsV Θ f62.results.toList rsh_slices_ContainsFunc_int__impl_areNumbers_1 fun r => r = (F_slices_ContainsFunc_int__impl_areNumbers_1 (s, (()), ())).2) (entry f62.ntmps (psVals sh_slices_ContainsFunc_int__impl_areNumbers_1 (s, (()), ()))) = VC_slices_ContainsFunc_int__impl_areNumbers_1 s fun r => r = ((!Sp.areUints s, ())))) (h s hin hp)

def H_impl_areNumbers : Hints := Go.Fw.hints [] [] [] [] []
def VC_impl_areNumbers (l : List (Int × Unit)) (K : Bool × Unit → Prop) : Prop :=
  True ∧ K (!!Sp.areUints l, ())
theorem wk_impl_areNumbers (env : EnvB prog G Θ Γ_impl_areNumbers) (h : ∀ (l : List (Int × Unit)), psInR sh_impl_areNumbers (l, ()) → (True) → VC_impl_areNumbers l fun r => r = ((Sp.areUints l, ()))) : ConOK prog G n_impl_areNumbers con_impl_areNumbers :=
  conR_ok env mixed (fn := f41) (c := codeOf f41) (by kernel_rfl) (by kernel_rfl) H_impl_areNumbers (by kernel_rfl) fun ⟨l, ⟨⟩⟩ hin hp =>
  Eq.mpr ((by kernel_rfl : awp Θ Γ_impl_areNumbers H_impl_areNumbers (codeOf f41) (endsV Θ f41.results.toList rsh_impl_areNumbers fun r => r = (F_impl_areNumbers (l, ())).2) (entry f41.ntmps (psVals sh_impl_areNumbers (l, ()))) = VC_impl_areNumbers l fun r => r = ((Sp.areUints l, ())))) (h l hin hp)

def H_impl_SplitFields : Hints := Go.Fw.hints [] [(4, ⟨[], ⟨[(0, .one (.str)), (10, .one (.int .i64))], []⟩, ⟨[(11, .one (.int .i64))], []⟩⟩)] [] [] []
def VC_impl_SplitFields (line : List UInt8) (K : List (List UInt8 × Unit) × Bool × Unit → Prop) : Prop :=
  bif decide ((↑line.length : Int) > (600 : Int)) then K ([], false, ())
  else
 let s0 := ((line, (↑line.length : Int), ()), ());
  ∃ (I : (Int × Unit) × Unit → Prop),
  ∃ (μ : (Int × Unit) × Unit → Nat),
  I (((0 : Int), ()), ()) ∧
  ∀ (y1 : (Int × Unit) × Unit),
  I y1 →
  bif decide (y1.1.1 < (↑line.length : Int)) then
  ((0 : Int) ≤ y1.1.1 ∧ y1.1.1 < (↑line.length : Int)) ∧
  True ∧
 let r2 :=
  decide ((32 : Int) ≤ IntKind.i64.wrap (↑(line.getD (Int.toNat y1.1.1) (0 : UInt8)).toNat : Int)) &&
  decide (IntKind.i64.wrap (↑(line.getD (Int.toNat y1.1.1) (0 : UInt8)).toNat : Int) ≤ (126 : Int));
  bif !r2 then K ([], false, ())
  else s0 = s0 ∧ I ((IntKind.i64.wrap (y1.1.1 + (1 : Int)), ()), ()) ∧ μ ((IntKind.i64.wrap (y1.1.1 + (1 : Int)), ()), ()) < μ y1
  else
  (line.length ≤ (1048576 : Nat) ∧ Sp.asciiS line = true) ∧
  bif decide ((↑(List.length (Sp.wordsOf line)) : Int) > (24 : Int)) then K ([], false, ()) else K (Sp.wordsOf line, true, ())
theorem wk_impl_SplitFields (env : EnvB prog G Θ Γ_impl_SplitFields) (h : ∀ (line : List UInt8), psInR sh_impl_SplitFields (line, ()) → (line.length ≤ (1048576 : Nat)) → VC_impl_SplitFields line fun r => r = ((Sp.splitF line, Sp.splitOk line, ()))) : ConOK prog G n_impl_SplitFields con_impl_SplitFields :=
  conR_ok env mixed (fn := f13) (c := codeOf f13) (by kernel_rfl) (by kernel_rfl) H_impl_SplitFields (by kernel_rfl) fun ⟨line, ⟨⟩⟩ hin hp =>
  Eq.mpr ((by kernel_rfl : awp Θ Γ_impl_SplitFields H_impl_SplitFields (codeOf f13) (endsV Θ f13.results.toList rsh_impl_SplitFields fun r => r = (F_impl_SplitFields (line, ())).2) (entry f13.ntmps (psVals sh_impl_SplitFields (line, ()))) = VC_impl_SplitFields line fun r => r = ((Sp.splitF line, Sp.splitOk line, ())))) (h line hin hp)

def H_impl_wordAt : Hints := Go.Fw.hints [] [] [] [] []
def VC_impl_wordAt (w : List (List UInt8 × Unit)) (i : Int) (K : List UInt8 × Unit → Prop) : Prop :=
  bif decide (i ≥ (↑w.length : Int)) then K ([], ()) else ((0 : Int) ≤ i ∧ i < (↑w.length : Int)) ∧ K ((w.getD i.toNat ([], ())).1, ())
theorem wk_impl_wordAt (env : EnvB prog G Θ Γ_impl_wordAt) (h : ∀ (w : List (List UInt8 × Unit)) (i : Int), psInR sh_impl_wordAt (w, i, ()) → ((0 : Int) ≤ i) → VC_impl_wordAt w i fun r => r = ((Sp.wordAt w i, ()))) : ConOK prog G n_impl_wordAt con_impl_wordAt :=
  conR_ok env mixed (fn := f16) (c := codeOf f16) (by kernel_rfl) (by kernel_rfl) H_impl_wordAt (by kernel_rfl) fun ⟨w, i, ⟨⟩⟩ hin hp =>
  Eq.mpr ((by kernel_rfl : awp Θ Γ_impl_wordAt H_impl_wordAt (codeOf f16) (endsV Θ f16.results.toList rsh_impl_wordAt fun r => r = (F_impl_wordAt (w, i, ())).2) (entry f16.ntmps (psVals sh_impl_wordAt (w, i, ()))) = VC_impl_wordAt w i fun r => r = ((Sp.wordAt w i, ())))) (h w i hin hp)

def H_impl_numberAt : Hints := Go.Fw.hints [] [] [] [] []
def VC_impl_numberAt (w : List (List UInt8 × Unit)) (i : Int) (K : Int × Bool × Unit → Prop) : Prop :=
  (0 : Int) ≤ i ∧ True ∧ K (Sp.parseNum (Sp.wordAt w i), Sp.parseOk (Sp.wordAt w i), ())
theorem wk_impl_numberAt (env : EnvB prog G Θ Γ_impl_numberAt) (h : ∀ (w : List (List UInt8 × Unit)) (i : Int), psInR sh_impl_numberAt (w, i, ()) → ((0 : Int) ≤ i) → VC_impl_numberAt w i fun r => r = ((Sp.numAt w i, Sp.parseOk (Sp.wordAt w i), ()))) : ConOK prog G n_impl_numberAt con_impl_numberAt :=
  conR_ok env mixed (fn := f15) (c := codeOf f15) (by kernel_rfl) (by kernel_rfl) H_impl_numberAt (by kernel_rfl) fun ⟨w, i, ⟨⟩⟩ hin hp =>
  Eq.mpr ((by kernel_rfl : awp Θ Γ_impl_numberAt H_impl_numberAt (codeOf f15) (endsV Θ f15.results.toList rsh_impl_numberAt fun r => r = (F_impl_numberAt (w, i, ())).2) (entry f15.ntmps (psVals sh_impl_numberAt (w, i, ()))) = VC_impl_numberAt w i fun r => r = ((Sp.numAt w i, Sp.parseOk (Sp.wordAt w i), ())))) (h w i hin hp)

def H_slices_Equal_string : Hints := Go.Fw.hints [] [(4, ⟨[], ⟨[(0, .one (.sl 9 (.cons .str .nil) false)), (1, .one (.sl 9 (.cons .str .nil) false)), (12, .one (.int .i64))], []⟩, ⟨[(13, .one (.int .i64))], []⟩⟩)] [] [] []
def VC_slices_Equal_string (s1 : List (List UInt8 × Unit)) (s2 : List (List UInt8 × Unit)) (K : Bool × Unit → Prop) : Prop :=
  bif (↑s1.length : Int) != (↑s2.length : Int) then K (false, ())
  else
 let s0 := ((s1, s2, (↑s1.length : Int), ()), ());
  ∃ (I : (Int × Unit) × Unit → Prop),
  ∃ (μ : (Int × Unit) × Unit → Nat),
  I (((0 : Int), ()), ()) ∧
  ∀ (y1 : (Int × Unit) × Unit),
  I y1 →
  bif decide (y1.1.1 < (↑s1.length : Int)) then
  ((0 : Int) ≤ y1.1.1 ∧ y1.1.1 < (↑s1.length : Int)) ∧
  ((0 : Int) ≤ y1.1.1 ∧ y1.1.1 < (↑s2.length : Int)) ∧
  bif !(s1.getD (Int.toNat y1.1.1) ([], ())).1 == (s2.getD (Int.toNat y1.1.1) ([], ())).1 then K (false, ())
  else s0 = s0 ∧ I ((IntKind.i64.wrap (y1.1.1 + (1 : Int)), ()), ()) ∧ μ ((IntKind.i64.wrap (y1.1.1 + (1 : Int)), ()), ()) < μ y1
  else K (true, ())
theorem wk_slices_Equal_string (env : EnvB prog G Θ Γ_slices_Equal_string) (h : ∀ (s1 : List (List UInt8 × Unit)) (s2 : List (List UInt8 × Unit)), psInR sh_slices_Equal_string (s1, s2, ()) → (True) → VC_slices_Equal_string s1 s2 fun r => r = ((decide (s1 = s2), ()))) : ConOK prog G n_slices_Equal_string con_slices_Equal_string :=
  conR_ok env mixed (fn := f34) (c := codeOf f34) (by kernel_rfl) (by kernel_rfl) H_slices_Equal_string (by kernel_rfl) fun ⟨s1, s2, ⟨⟩⟩ hin hp =>
  Eq.mpr ((by kernel_rfl : awp Θ Γ_slices_Equal_string H_slices_Equal_string (codeOf f34) (endsV Θ f34.results.toList rsh_slices_Equal_string fun r => r = (F_slices_Equal_string (s1, s2, ())).2) (entry f34.ntmps (psVals sh_slices_Equal_string (s1, s2, ()))) = VC_slices_Equal_string s1 s2 fun r => r = ((decide (s1 = s2), ())))) (h s1 s2 hin hp)

def H_impl_sameFields : Hints := Go.Fw.hints [] [] [] [] []
def VC_impl_sameFields (text : List UInt8) (w : List (List UInt8 × Unit)) (K : Bool × Unit → Prop) : Prop :=
  bif !text == [] then
  (text.length ≤ (1048576 : Nat) ∧ Sp.asciiS text = true) ∧
  True ∧
 let r0 := decide (Sp.wordsOf text = w);
  K (r0, ())
  else K (false, ())
theorem wk_impl_sameFields (env : EnvB prog G Θ Γ_impl_sameFields) (h : ∀ (text : List UInt8) (w : List (List UInt8 × Unit)), psInR sh_impl_sameFields (text, w, ()) → (text.length ≤ (1048576 : Nat) ∧ Sp.asciiS text = true) → VC_impl_sameFields text w fun r => r = ((!text == [] && decide (Sp.wordsOf text = w), ()))) : ConOK prog G n_impl_sameFields con_impl_sameFields :=
  conR_ok env mixed (fn := f19) (c := codeOf f19) (by kernel_rfl) (by kernel_rfl) H_impl_sameFields (by kernel_rfl) fun ⟨text, w, ⟨⟩⟩ hin hp =>
  Eq.mpr ((by kernel_rfl : awp Θ Γ_impl_sameFields H_impl_sameFields (codeOf f19) (endsV Θ f19.results.toList rsh_impl_sameFields fun r => r = (F_impl_sameFields (text, w, ())).2) (entry f19.ntmps (psVals sh_impl_sameFields (text, w, ()))) = VC_impl_sameFields text w fun r => r = ((!text == [] && decide (Sp.wordsOf text = w), ())))) (h text w hin hp)

def H_spec_l01New : Hints := Go.Fw.hints [31] [(3, ⟨[], ⟨[(0, .one (.sl 5 (.cons (.int .u8) .nil) false))], []⟩, ⟨[(3, .one (.int .i64)), (4, .one (.int .i64))], []⟩⟩)] [] [] []
def VC_spec_l01New (code : List (Int × Unit)) (K : List (Int × Unit) × Int × Int × Unit → Prop) : Prop :=
 let s0 := ((code, ()), ());
  ∃ (I : (Int × Int × Unit) × Unit → Prop),
  ∃ (μ : (Int × Int × Unit) × Unit → Nat),
  I ((IntKind.i64.wrap ((94701 : Int) + (↑code.length : Int)), (0 : Int), ()), ()) ∧
  ∀ (y1 : (Int × Int × Unit) × Unit),
  I y1 →
  bif decide (y1.1.2.1 < (↑code.length : Int)) then
  bif decide (y1.1.2.1 < (4000 : Int)) then
  ((0 : Int) ≤ y1.1.2.1 ∧ y1.1.2.1 < (↑code.length : Int)) ∧
  s0 = s0 ∧
  I
  ((bitsOf BinOp.and IntKind.i64
  (IntKind.i64.wrap
  (IntKind.i64.wrap (IntKind.i64.wrap (y1.1.1 * (131 : Int)) + IntKind.i64.wrap (code.getD (Int.toNat y1.1.2.1) ((0 : Int), ())).1) +
  (7 : Int)))
  (1073741823 : Int),
  IntKind.i64.wrap (y1.1.2.1 + (1 : Int)), ()),
  ()) ∧
  μ
  ((bitsOf BinOp.and IntKind.i64
  (IntKind.i64.wrap
  (IntKind.i64.wrap (IntKind.i64.wrap (y1.1.1 * (131 : Int)) + IntKind.i64.wrap (code.getD (Int.toNat y1.1.2.1) ((0 : Int), ())).1) +
  (7 : Int)))
  (1073741823 : Int),
  IntKind.i64.wrap (y1.1.2.1 + (1 : Int)), ()),
  ()) <
  μ y1
  else K (code, (0 : Int), y1.1.1, ())
  else K (code, (0 : Int), y1.1.1, ())
theorem wk_spec_l01New (env : EnvB prog G Θ Γ_spec_l01New) (hne : ∀ x, (F_spec_l01New x).1 → ∃ t, (F_spec_l01New x).2 t) (h : ∀ (code : List (Int × Unit)), xsInR sh_spec_l01New (code, ()) → (code.length ≤ (1048576 : Nat)) → VC_spec_l01New code fun (r : List (Int × Unit) × Int × Int × Unit) => (code.length ≤ (1048576 : Nat), fun (x : List (Int × Unit) × Int × Int × Unit) => x.2.1 = (0 : Int)).2 r) : XConOK prog G n_spec_l01New con_spec_l01New :=
  conP_ok env mixed (fn := f11) (c := codeOf f11) (by kernel_rfl) (by kernel_rfl) H_spec_l01New (by kernel_rfl) hne fun ⟨code, ⟨⟩⟩ hin hp =>
  Eq.mpr ((by kernel_rfl : awp Θ Γ_spec_l01New H_spec_l01New (codeOf f11) (endsP f11.results.toList psh_spec_l01New (F_spec_l01New (code, ())).2) (entryX f11.ntmps (xsVals sh_spec_l01New (code, ()))) = VC_spec_l01New code fun (r : List (Int × Unit) × Int × Int × Unit) => (code.length ≤ (1048576 : Nat), fun (x : List (Int × Unit) × Int × Int × Unit) => x.2.1 = (0 : Int)).2 r)) (h code hin hp)

def H_spec_l01Byte : Hints := Go.Fw.hints [] [] [] [] []
def VC_spec_l01Byte (c0 : List (Int × Unit)) (c1 : Int) (c2 : Int) (K : (Int × Unit) × (List (Int × Unit) × Int × Int × Unit) × Unit → Prop) : Prop :=
  (0 : Int) ≤ (33 : Int) ∧
  (0 : Int) ≤ (45 : Int) ∧
  bif decide (c1 < (↑c0.length : Int)) then
  ((0 : Int) ≤ c1 ∧ c1 < (↑c0.length : Int)) ∧
  K
  ((bitsOf BinOp.and IntKind.i64
  (IntKind.i64.wrap
  (bitsOf BinOp.and IntKind.i64
  (bitsOf BinOp.xor IntKind.i64
  ((IntKind.i64.wrap (IntKind.i64.wrap (c2 * (6364136223846793005 : Int)) + (1442695040888963407 : Int))).fdiv
  ((2 : Int) ^ min (Int.toNat (33 : Int)) IntKind.i64.bits))
  ((IntKind.i64.wrap (IntKind.i64.wrap (c2 * (6364136223846793005 : Int)) + (1442695040888963407 : Int))).fdiv
  ((2 : Int) ^ min (Int.toNat (45 : Int)) IntKind.i64.bits)))
  (255 : Int) +
  IntKind.i64.wrap (c0.getD c1.toNat ((0 : Int), ())).1))
  (255 : Int),
  ()),
  (c0, IntKind.i64.wrap (c1 + (1 : Int)), IntKind.i64.wrap (IntKind.i64.wrap (c2 * (6364136223846793005 : Int)) + (1442695040888963407 : Int)), ()), ())
  else
  K
  ((bitsOf BinOp.and IntKind.i64
  (bitsOf BinOp.xor IntKind.i64
  ((IntKind.i64.wrap (IntKind.i64.wrap (c2 * (6364136223846793005 : Int)) + (1442695040888963407 : Int))).fdiv
  ((2 : Int) ^ min (Int.toNat (33 : Int)) IntKind.i64.bits))
  ((IntKind.i64.wrap (IntKind.i64.wrap (c2 * (6364136223846793005 : Int)) + (1442695040888963407 : Int))).fdiv
  ((2 : Int) ^ min (Int.toNat (45 : Int)) IntKind.i64.bits)))
  (255 : Int),
  ()),
  (c0, c1, IntKind.i64.wrap (IntKind.i64.wrap (c2 * (6364136223846793005 : Int)) + (1442695040888963407 : Int)), ()), ())
theorem wk_spec_l01Byte (env : EnvB prog G Θ Γ_spec_l01Byte) (hne : ∀ x, (F_spec_l01Byte x).1 → ∃ t, (F_spec_l01Byte x).2 t) (h : ∀ (c0 : List (Int × Unit)) (c1 : Int) (c2 : Int), xsInR sh_spec_l01Byte ((c0, c1, c2, ()), ()) → ((0 : Int) ≤ c1) → VC_spec_l01Byte c0 c1 c2 fun (r : (Int × Unit) × (List (Int × Unit) × Int × Int × Unit) × Unit) => ((0 : Int) ≤ c1, fun (x : (Int × Unit) × (List (Int × Unit) × Int × Int × Unit) × Unit) => (0 : Int) ≤ x.2.1.2.1 ∧ (0 : Int) ≤ x.1.1 ∧ x.1.1 ≤ (255 : Int)).2 r) : XConOK prog G n_spec_l01Byte con_spec_l01Byte :=
  conX_ok env mixed (fn := f24) (c := codeOf f24) (by kernel_rfl) (by kernel_rfl) H_spec_l01Byte (by kernel_rfl) hne fun ⟨⟨c0, c1, c2, ⟨⟩⟩, ⟨⟩⟩ hin hp =>
  Eq.mpr ((by kernel_rfl : awp Θ Γ_spec_l01Byte H_spec_l01Byte (codeOf f24) (endsX Θ f24.results.toList sh_spec_l01Byte rsh_spec_l01Byte (F_spec_l01Byte ((c0, c1, c2, ()), ())).2) (entryX f24.ntmps (xsVals sh_spec_l01Byte ((c0, c1, c2, ()), ()))) = VC_spec_l01Byte c0 c1 c2 fun (r : (Int × Unit) × (List (Int × Unit) × Int × Int × Unit) × Unit) => ((0 : Int) ≤ c1, fun (x : (Int × Unit) × (List (Int × Unit) × Int × Int × Unit) × Unit) => (0 : Int) ≤ x.2.1.2.1 ∧ (0 : Int) ≤ x.1.1 ∧ x.1.1 ≤ (255 : Int)).2 r)) (h c0 c1 c2 hin hp)

def H_spec_l01Below : Hints := Go.Fw.hints [] [] [] [] []
def VC_spec_l01Below (c0 : List (Int × Unit)) (c1 : Int) (c2 : Int) (n : Int) (K : (Int × Unit) × (List (Int × Unit) × Int × Int × Unit) × Unit → Prop) : Prop :=
  bif decide (n ≤ (0 : Int)) then K (((0 : Int), ()), (c0, c1, c2, ()), ())
  else
  bif decide (n ≤ (256 : Int)) then
  (0 : Int) ≤ c1 ∧
  ∀ (r0 : (Int × Unit) × (List (Int × Unit) × Int × Int × Unit) × Unit),
  (0 : Int) ≤ r0.2.1.2.1 ∧ (0 : Int) ≤ r0.1.1 ∧ r0.1.1 ≤ (255 : Int) →
  n ≠ (0 : Int) ∧ K ((Int.tmod r0.1.1 n, ()), (r0.2.1.1, r0.2.1.2.1, r0.2.1.2.2.1, ()), ())
  else
  (0 : Int) ≤ c1 ∧
  ∀ (r1 : (Int × Unit) × (List (Int × Unit) × Int × Int × Unit) × Unit),
  (0 : Int) ≤ r1.2.1.2.1 ∧ (0 : Int) ≤ r1.1.1 ∧ r1.1.1 ≤ (255 : Int) →
  (0 : Int) ≤ r1.2.1.2.1 ∧
  ∀ (r2 : (Int × Unit) × (List (Int × Unit) × Int × Int × Unit) × Unit),
  (0 : Int) ≤ r2.2.1.2.1 ∧ (0 : Int) ≤ r2.1.1 ∧ r2.1.1 ≤ (255 : Int) →
  (0 : Int) ≤ r2.2.1.2.1 ∧
  ∀ (r3 : (Int × Unit) × (List (Int × Unit) × Int × Int × Unit) × Unit),
  (0 : Int) ≤ r3.2.1.2.1 ∧ (0 : Int) ≤ r3.1.1 ∧ r3.1.1 ≤ (255 : Int) →
  (0 : Int) ≤ r3.2.1.2.1 ∧
  ∀ (r4 : (Int × Unit) × (List (Int × Unit) × Int × Int × Unit) × Unit),
  (0 : Int) ≤ r4.2.1.2.1 ∧ (0 : Int) ≤ r4.1.1 ∧ r4.1.1 ≤ (255 : Int) →
  n ≠ (0 : Int) ∧
  K
  (((IntKind.i64.wrap
  (IntKind.i64.wrap
  (IntKind.i64.wrap (IntKind.i64.wrap (r1.1.1 * (16777216 : Int)) + IntKind.i64.wrap (r2.1.1 * (65536 : Int))) +
  IntKind.i64.wrap (r3.1.1 * (256 : Int))) +
  r4.1.1)).tmod
  n,
  ()),
  (r4.2.1.1, r4.2.1.2.1, r4.2.1.2.2.1, ()), ())
theorem wk_spec_l01Below (env : EnvB prog G Θ Γ_spec_l01Below) (hne : ∀ x, (F_spec_l01Below x).1 → ∃ t, (F_spec_l01Below x).2 t) (h : ∀ (c0 : List (Int × Unit)) (c1 : Int) (c2 : Int) (n : Int), xsInR sh_spec_l01Below ((c0, c1, c2, ()), n, ()) → ((0 : Int) ≤ c1) → VC_spec_l01Below c0 c1 c2 n fun (r : (Int × Unit) × (List (Int × Unit) × Int × Int × Unit) × Unit) => ((0 : Int) ≤ c1, fun (x : (Int × Unit) × (List (Int × Unit) × Int × Int × Unit) × Unit) =>
  (0 : Int) ≤ x.2.1.2.1 ∧ (0 : Int) ≤ x.1.1 ∧ ((0 : Int) < n → x.1.1 < n) ∧ (n ≤ (0 : Int) → x.1.1 = (0 : Int))).2
  r) : XConOK prog G n_spec_l01Below con_spec_l01Below :=
  conX_ok env mixed (fn := f12) (c := codeOf f12) (by kernel_rfl) (by kernel_rfl) H_spec_l01Below (by kernel_rfl) hne fun ⟨⟨c0, c1, c2, ⟨⟩⟩, n, ⟨⟩⟩ hin hp =>
  Eq.mpr ((by kernel_rfl : awp Θ Γ_spec_l01Below H_spec_l01Below (codeOf f12) (endsX Θ f12.results.toList sh_spec_l01Below rsh_spec_l01Below (F_spec_l01Below ((c0, c1, c2, ()), n, ())).2) (entryX f12.ntmps (xsVals sh_spec_l01Below ((c0, c1, c2, ()), n, ()))) = VC_spec_l01Below c0 c1 c2 n fun (r : (Int × Unit) × (List (Int × Unit) × Int × Int × Unit) × Unit) => ((0 : Int) ≤ c1, fun (x : (Int × Unit) × (List (Int × Unit) × Int × Int × Unit) × Unit) =>
  (0 : Int) ≤ x.2.1.2.1 ∧ (0 : Int) ≤ x.1.1 ∧ ((0 : Int) < n → x.1.1 < n) ∧ (n ≤ (0 : Int) → x.1.1 = (0 : Int))).2
  r)) (h c0 c1 c2 n hin hp)

def H_impl_IsValidValue : Hints := Go.Fw.hints [] [] [] [] []
def VC_impl_IsValidValue (v0 : Int) (v1 : Int) (v2 : List UInt8) (K : Bool × Unit → Prop) : Prop :=
  bif v0 == (0 : Int) then K (v0 == (0 : Int) && (v1 == (0 : Int) && (v2 == [] && true)), ())
  else
  bif v0 == (1 : Int) then
  True ∧
 let r0 := decide ((0 : Int) ≤ v1) && decide (v1 ≤ (999 : Int));
  bif r0 then K (v2 == [], ()) else K (false, ())
  else bif v0 == (2 : Int) then True ∧ bif Sp.validStr v2 then K (v1 == (0 : Int), ()) else K (false, ()) else K (false, ())
theorem wk_impl_IsValidValue (env : EnvB prog G Θ Γ_impl_IsValidValue) (h : ∀ (v0 : Int) (v1 : Int) (v2 : List UInt8), psInR sh_impl_IsValidValue ((v0, v1, v2, ()), ()) → (True) → VC_impl_IsValidValue v0 v1 v2 fun r => r = ((Sp.okValue v0 v1 v2, ()))) : ConOK prog G n_impl_IsValidValue con_impl_IsValidValue :=
  conR_ok env mixed (fn := f43) (c := codeOf f43) (by kernel_rfl) (by kernel_rfl) H_impl_IsValidValue (by kernel_rfl) fun ⟨⟨v0, v1, v2, ⟨⟩⟩, ⟨⟩⟩ hin hp =>
  Eq.mpr ((by kernel_rfl : awp Θ Γ_impl_IsValidValue H_impl_IsValidValue (codeOf f43) (endsV Θ f43.results.toList rsh_impl_IsValidValue fun r => r = (F_impl_IsValidValue ((v0, v1, v2, ()), ())).2) (entry f43.ntmps (psVals sh_impl_IsValidValue ((v0, v1, v2, ()), ()))) = VC_impl_IsValidValue v0 v1 v2 fun r => r = ((Sp.okValue v0 v1 v2, ())))) (h v0 v1 v2 hin hp)

def H_impl_IsValidAttrName : Hints := Go.Fw.hints [] [] [] [] []
def VC_impl_IsValidAttrName (s : List UInt8) (K : Bool × Unit → Prop) : Prop :=
  bif (↑s.length : Int) == (1 : Int) then
  ((0 : Int) ≤ (0 : Int) ∧ (0 : Int) < (↑s.length : Int)) ∧
  bif decide ((↑(s.getD (Int.toNat (0 : Int)) (0 : UInt8)).toNat : Int) ≥ (97 : Int)) then
  ((0 : Int) ≤ (0 : Int) ∧ (0 : Int) < (↑s.length : Int)) ∧ K (decide ((↑(s.getD (Int.toNat (0 : Int)) (0 : UInt8)).toNat : Int) ≤ (122 : Int)), ())
  else K (false, ())
  else K (false, ())
theorem wk_impl_IsValidAttrName (env : EnvB prog G Θ Γ_impl_IsValidAttrName) (h : ∀ (s : List UInt8), psInR sh_impl_IsValidAttrName (s, ()) → (True) → VC_impl_IsValidAttrName s fun r => r = ((Sp.okName s, ()))) : ConOK prog G n_impl_IsValidAttrName con_impl_IsValidAttrName :=
  conR_ok env mixed (fn := f42) (c := codeOf f42) (by kernel_rfl) (by kernel_rfl) H_impl_IsValidAttrName (by kernel_rfl) fun ⟨s, ⟨⟩⟩ hin hp =>
  Eq.mpr ((by kernel_rfl : awp Θ Γ_impl_IsValidAttrName H_impl_IsValidAttrName (codeOf f42) (endsV Θ f42.results.toList rsh_impl_IsValidAttrName fun r => r = (F_impl_IsValidAttrName (s, ())).2) (entry f42.ntmps (psVals sh_impl_IsValidAttrName (s, ()))) = VC_impl_IsValidAttrName s fun r => r = ((Sp.okName s, ())))) (h s hin hp)

def H_impl_EqualFiles : Hints := Go.Fw.hints [] [] [] [] []
def VC_impl_EqualFiles (a0 : Int) (a1 : Int) (a2 : Bool) (a3 : Int) (a4 : List (List UInt8 × Int × Int × List UInt8 × Unit)) (b0 : Int) (b1 : Int) (b2 : Bool) (b3 : Int) (b4 : List (List UInt8 × Int × Int × List UInt8 × Unit)) (K : Bool × Unit → Prop) : Prop :=
  bif a0 == b0 then
  bif a1 == b1 then
  bif a2 == b2 then
  bif a3 == b3 then
  True ∧
 let r0 := decide (a4 = b4);
  K (r0, ())
  else K (false, ())
  else K (false, ())
  else K (false, ())
  else K (false, ())
theorem wk_impl_EqualFiles (env : EnvB prog G Θ Γ_impl_EqualFiles) (h : ∀ (a0 : Int) (a1 : Int) (a2 : Bool) (a3 : Int) (a4 : List (List UInt8 × Int × Int × List UInt8 × Unit)) (b0 : Int) (b1 : Int) (b2 : Bool) (b3 : Int) (b4 : List (List UInt8 × Int × Int × List UInt8 × Unit)), psInR sh_impl_EqualFiles ((a0, a1, a2, a3, a4, ()), (b0, b1, b2, b3, b4, ()), ()) → (True) → VC_impl_EqualFiles a0 a1 a2 a3 a4 b0 b1 b2 b3 b4 fun r => r = ((decide ((a0, a1, a2, a3, a4, ()) = (b0, b1, b2, b3, b4, ())), ()))) : ConOK prog G n_impl_EqualFiles con_impl_EqualFiles :=
  conR_ok env mixed (fn := f40) (c := codeOf f40) (by kernel_rfl) (by kernel_rfl) H_impl_EqualFiles (by kernel_rfl) fun ⟨⟨a0, a1, a2, a3, a4, ⟨⟩⟩, ⟨b0, b1, b2, b3, b4, ⟨⟩⟩, ⟨⟩⟩ hin hp =>
  Eq.mpr ((by kernel_rfl : awp Θ Γ_impl_EqualFiles H_impl_EqualFiles (codeOf f40) (endsV Θ f40.results.toList rsh_impl_EqualFiles fun r => r = (F_impl_EqualFiles ((a0, a1, a2, a3, a4, ()), (b0, b1, b2, b3, b4, ()), ())).2) (entry f40.ntmps (psVals sh_impl_EqualFiles ((a0, a1, a2, a3, a4, ()), (b0, b1, b2, b3, b4, ()), ()))) = VC_impl_EqualFiles a0 a1 a2 a3 a4 b0 b1 b2 b3 b4 fun r => r = ((decide ((a0, a1, a2, a3, a4, ()) = (b0, b1, b2, b3, b4, ())), ())))) (h a0 a1 a2 a3 a4 b0 b1 b2 b3 b4 hin hp)

def H_slices_Equal_impl_Attr : Hints := Go.Fw.hints [] [(4, ⟨[], ⟨[(0, .one (.sl 74 (.cons .str (.cons (.int .i64) (.cons (.int .i64) (.cons .str .nil)))) false)), (1, .one (.sl 74 (.cons .str (.cons (.int .i64) (.cons (.int .i64) (.cons .str .nil)))) false)), (12, .one (.int .i64))], []⟩, ⟨[(13, .one (.int .i64))], []⟩⟩)] [] [] []
def VC_slices_Equal_impl_Attr (s1 : List (List UInt8 × Int × Int × List UInt8 × Unit)) (s2 : List (List UInt8 × Int × Int × List UInt8 × Unit)) (K : Bool × Unit → Prop) : Prop :=
  bif (↑s1.length : Int) != (↑s2.length : Int) then K (false, ())
  else
 let s0 := ((s1, s2, (↑s1.length : Int), ()), ());
  ∃ (I : (Int × Unit) × Unit → Prop),
  ∃ (μ : (Int × Unit) × Unit → Nat),
  I (((0 : Int), ()), ()) ∧
  ∀ (y1 : (Int × Unit) × Unit),
  I y1 →
  bif decide (y1.1.1 < (↑s1.length : Int)) then
  ((0 : Int) ≤ y1.1.1 ∧ y1.1.1 < (↑s1.length : Int)) ∧
  ((0 : Int) ≤ y1.1.1 ∧ y1.1.1 < (↑s2.length : Int)) ∧
  bif
  !((s1.getD (Int.toNat y1.1.1) ([], (0 : Int), (0 : Int), [], ())).1 == (s2.getD (Int.toNat y1.1.1) ([], (0 : Int), (0 : Int), [], ())).1 &&
  ((s1.getD (Int.toNat y1.1.1) ([], (0 : Int), (0 : Int), [], ())).2.1 ==
  (s2.getD (Int.toNat y1.1.1) ([], (0 : Int), (0 : Int), [], ())).2.1 &&
  ((s1.getD (Int.toNat y1.1.1) ([], (0 : Int), (0 : Int), [], ())).2.2.1 ==
  (s2.getD (Int.toNat y1.1.1) ([], (0 : Int), (0 : Int), [], ())).2.2.1 &&
  ((s1.getD (Int.toNat y1.1.1) ([], (0 : Int), (0 : Int), [], ())).2.2.2.1 ==
  (s2.getD (Int.toNat y1.1.1) ([], (0 : Int), (0 : Int), [], ())).2.2.2.1 &&
  true)))) then
  K (false, ())
  else s0 = s0 ∧ I ((IntKind.i64.wrap (y1.1.1 + (1 : Int)), ()), ()) ∧ μ ((IntKind.i64.wrap (y1.1.1 + (1 : Int)), ()), ()) < μ y1
  else K (true, ())
theorem wk_slices_Equal_impl_Attr (env : EnvB prog G Θ Γ_slices_Equal_impl_Attr) (h : ∀ (s1 : List (List UInt8 × Int × Int × List UInt8 × Unit)) (s2 : List (List UInt8 × Int × Int × List UInt8 × Unit)), psInR sh_slices_Equal_impl_Attr (s1, s2, ()) → (True) → VC_slices_Equal_impl_Attr s1 s2 fun r => r = ((decide (s1 = s2), ()))) : ConOK prog G n_slices_Equal_impl_Attr con_slices_Equal_impl_Attr :=
  conR_ok env mixed (fn := f61) (c := codeOf f61) (by kernel_rfl) (by kernel_rfl) H_slices_Equal_impl_Attr (by kernel_rfl) fun ⟨s1, s2, ⟨⟩⟩ hin hp =>
  Eq.mpr ((by kernel_rfl : awp Θ Γ_slices_Equal_impl_Attr H_slices_Equal_impl_Attr (codeOf f61) (endsV Θ f61.results.toList rsh_slices_Equal_impl_Attr fun r => r = (F_slices_Equal_impl_Attr (s1, s2, ())).2) (entry f61.ntmps (psVals sh_slices_Equal_impl_Attr (s1, s2, ()))) = VC_slices_Equal_impl_Attr s1 s2 fun r => r = ((decide (s1 = s2), ())))) (h s1 s2 hin hp)

def H_laws_big : Hints := Go.Fw.hints [] [] [] [] []
def VC_laws_big (code : List (Int × Unit)) (K : Bool × Unit → Prop) : Prop :=
  K (decide ((↑code.length : Int) > (1048576 : Int)), ())
theorem wk_laws_big (env : EnvB prog G Θ Γ_laws_big) (h : ∀ (code : List (Int × Unit)), psInR sh_laws_big (code, ()) → (True) → VC_laws_big code fun r => r = ((decide ((1048576 : Int) < (↑code.length : Int)), ()))) : ConOK prog G n_laws_big con_laws_big :=
  conR_ok env mixed (fn := f5) (c := codeOf f5) (by kernel_rfl) (by kernel_rfl) H_laws_big (by kernel_rfl) fun ⟨code, ⟨⟩⟩ hin hp =>
  Eq.mpr ((by kernel_rfl : awp Θ Γ_laws_big H_laws_big (codeOf f5) (endsV Θ f5.results.toList rsh_laws_big fun r => r = (F_laws_big (code, ())).2) (entry f5.ntmps (psVals sh_laws_big (code, ()))) = VC_laws_big code fun r => r = ((decide ((1048576 : Int) < (↑code.length : Int)), ())))) (h code hin hp)

def H_spec_DrawPlaces : Hints := Go.Fw.hints [8] [(4, ⟨[], ⟨[(3, .vptr 448 0)], []⟩, ⟨[(4, .one (.ref 513)), (5, .one (.int .i64))], [(448, .var [.sl 5 (.cons (.int .u8) .nil) false, .int .i64, .int .i64]), (513, .arr 3 (.cons (.int .i64) .nil) true)]⟩⟩)] [] [] []
def VC_spec_DrawPlaces (code : List (Int × Unit)) (K : (List (Int × Unit) × Unit) × Unit → Prop) : Prop :=
  code.length ≤ (1048576 : Nat) ∧
  ∀ (r0 : List (Int × Unit) × Int × Int × Unit),
  r0.2.1 = (0 : Int) →
 let s1 := (((), ()), ());
  ∃ (I : (Unit × Int × Unit) × (List (Int × Unit) × Int × Int × Unit) × List (Int × Unit) × Unit → Prop),
  ∃ (μ : (Unit × Int × Unit) × (List (Int × Unit) × Int × Int × Unit) × List (Int × Unit) × Unit → Nat),
  I (((), (0 : Int), ()), (r0.1, r0.2.1, r0.2.2.1, ()), [], ()) ∧
  ∀ (y2 : (Unit × Int × Unit) × (List (Int × Unit) × Int × Int × Unit) × List (Int × Unit) × Unit),
  I y2 →
  bif decide (y2.1.2.1 < (12 : Int)) then
  (0 : Int) ≤ y2.2.1.2.1 ∧
  ∀ (r3 : (Int × Unit) × (List (Int × Unit) × Int × Int × Unit) × Unit),
  (0 : Int) ≤ r3.2.1.2.1 ∧
  (0 : Int) ≤ r3.1.1 ∧ ((0 : Int) < (10000 : Int) → r3.1.1 < (10000 : Int)) ∧ ((10000 : Int) ≤ (0 : Int) → r3.1.1 = (0 : Int)) →
  List.length y2.2.2.1 + [(r3.1.1, ())].length ≤ big ∧
  s1 = s1 ∧
  I
  (((), IntKind.i64.wrap (y2.1.2.1 + (1 : Int)), ()), (r3.2.1.1, r3.2.1.2.1, r3.2.1.2.2.1, ()),
  y2.2.2.1 ++ [(r3.1.1, ())], ()) ∧
  μ
  (((), IntKind.i64.wrap (y2.1.2.1 + (1 : Int)), ()), (r3.2.1.1, r3.2.1.2.1, r3.2.1.2.2.1, ()),
  y2.2.2.1 ++ [(r3.1.1, ())], ()) <
  μ y2
  else K ((y2.2.2.1, ()), ())
theorem wk_spec_DrawPlaces (env : EnvB prog G Θ Γ_spec_DrawPlaces) (hne : ∀ x, (F_spec_DrawPlaces x).1 → ∃ t, (F_spec_DrawPlaces x).2 t) (h : ∀ (code : List (Int × Unit)), xsInR sh_spec_DrawPlaces (code, ()) → (code.length ≤ (1048576 : Nat)) → VC_spec_DrawPlaces code fun (r : (List (Int × Unit) × Unit) × Unit) => (code.length ≤ (1048576 : Nat), fun (x : (List (Int × Unit) × Unit) × Unit) =>
  x.1.1.length = (12 : Nat) ∧ ∀ (i : Nat), i < (12 : Nat) → (0 : Int) ≤ (x.1.1.getD i ((0 : Int), ())).1 ∧ (x.1.1.getD i ((0 : Int), ())).1 < (10000 : Int)).2
  r) : XConOK prog G n_spec_DrawPlaces con_spec_DrawPlaces :=
  conX_ok env mixed (fn := f6) (c := codeOf f6) (by kernel_rfl) (by kernel_rfl) H_spec_DrawPlaces (by kernel_rfl) hne fun ⟨code, ⟨⟩⟩ hin hp =>
  Eq.mpr ((by kernel_rfl : awp Θ Γ_spec_DrawPlaces H_spec_DrawPlaces (codeOf f6) (endsX Θ f6.results.toList sh_spec_DrawPlaces rsh_spec_DrawPlaces (F_spec_DrawPlaces (code, ())).2) (entryX f6.ntmps (xsVals sh_spec_DrawPlaces (code, ()))) = VC_spec_DrawPlaces code fun (r : (List (Int × Unit) × Unit) × Unit) => (code.length ≤ (1048576 : Nat), fun (x : (List (Int × Unit) × Unit) × Unit) =>
  x.1.1.length = (12 : Nat) ∧ ∀ (i : Nat), i < (12 : Nat) → (0 : Int) ≤ (x.1.1.getD i ((0 : Int), ())).1 ∧ (x.1.1.getD i ((0 : Int), ())).1 < (10000 : Int)).2
  r)) (h code hin hp)

def H_slices_Equal_impl_Node : Hints := Go.Fw.hints [] [(4, ⟨[], ⟨[(0, .one (.sl 107 (.cons (.int .i64) (.cons (.int .i64) (.cons (.int .i64) (.cons .str (.cons (.int .i64) (.cons (.int .i64) (.cons .str .nil))))))) false)), (1, .one (.sl 107 (.cons (.int .i64) (.cons (.int .i64) (.cons (.int .i64) (.cons .str (.cons (.int .i64) (.cons (.int .i64) (.cons .str .nil))))))) false)), (12, .one (.int .i64))], []⟩, ⟨[(13, .one (.int .i64))], []⟩⟩)] [] [] []
def VC_slices_Equal_impl_Node (s1 : List (Int × Int × Int × List UInt8 × Int × Int × List UInt8 × Unit)) (s2 : List (Int × Int × Int × List UInt8 × Int × Int × List UInt8 × Unit)) (K : Bool × Unit → Prop) : Prop :=
  bif (↑s1.length : Int) != (↑s2.length : Int) then K (false, ())
  else
 let s0 := ((s1, s2, (↑s1.length : Int), ()), ());
  ∃ (I : (Int × Unit) × Unit → Prop),
  ∃ (μ : (Int × Unit) × Unit → Nat),
  I (((0 : Int), ()), ()) ∧
  ∀ (y1 : (Int × Unit) × Unit),
  I y1 →
  bif decide (y1.1.1 < (↑s1.length : Int)) then
  ((0 : Int) ≤ y1.1.1 ∧ y1.1.1 < (↑s1.length : Int)) ∧
  ((0 : Int) ≤ y1.1.1 ∧ y1.1.1 < (↑s2.length : Int)) ∧
  bif
  !((s1.getD (Int.toNat y1.1.1) ((0 : Int), (0 : Int), (0 : Int), [], (0 : Int), (0 : Int), [], ())).1 ==
  (s2.getD (Int.toNat y1.1.1) ((0 : Int), (0 : Int), (0 : Int), [], (0 : Int), (0 : Int), [], ())).1 &&
  ((s1.getD (Int.toNat y1.1.1) ((0 : Int), (0 : Int), (0 : Int), [], (0 : Int), (0 : Int), [], ())).2.1 ==
  (s2.getD (Int.toNat y1.1.1) ((0 : Int), (0 : Int), (0 : Int), [], (0 : Int), (0 : Int), [], ())).2.1 &&
  ((s1.getD (Int.toNat y1.1.1) ((0 : Int), (0 : Int), (0 : Int), [], (0 : Int), (0 : Int), [], ())).2.2.1 ==
  (s2.getD (Int.toNat y1.1.1) ((0 : Int), (0 : Int), (0 : Int), [], (0 : Int), (0 : Int), [], ())).2.2.1 &&
  ((s1.getD (Int.toNat y1.1.1) ((0 : Int), (0 : Int), (0 : Int), [], (0 : Int), (0 : Int), [], ())).2.2.2.1 ==
  (s2.getD (Int.toNat y1.1.1) ((0 : Int), (0 : Int), (0 : Int), [], (0 : Int), (0 : Int), [], ())).2.2.2.1 &&
  ((s1.getD (Int.toNat y1.1.1) ((0 : Int), (0 : Int), (0 : Int), [], (0 : Int), (0 : Int), [], ())).2.2.2.2.1 ==
  (s2.getD (Int.toNat y1.1.1) ((0 : Int), (0 : Int), (0 : Int), [], (0 : Int), (0 : Int), [], ())).2.2.2.2.1 &&
  ((s1.getD (Int.toNat y1.1.1) ((0 : Int), (0 : Int), (0 : Int), [], (0 : Int), (0 : Int), [], ())).2.2.2.2.2.1 ==
  (s2.getD (Int.toNat y1.1.1) ((0 : Int), (0 : Int), (0 : Int), [], (0 : Int), (0 : Int), [], ())).2.2.2.2.2.1 &&
  ((s1.getD (Int.toNat y1.1.1) ((0 : Int), (0 : Int), (0 : Int), [], (0 : Int), (0 : Int), [], ())).2.2.2.2.2.2.1 ==
  (s2.getD (Int.toNat y1.1.1) ((0 : Int), (0 : Int), (0 : Int), [], (0 : Int), (0 : Int), [], ())).2.2.2.2.2.2.1 &&
  true))))))) then
  K (false, ())
  else s0 = s0 ∧ I ((IntKind.i64.wrap (y1.1.1 + (1 : Int)), ()), ()) ∧ μ ((IntKind.i64.wrap (y1.1.1 + (1 : Int)), ()), ()) < μ y1
  else K (true, ())
theorem wk_slices_Equal_impl_Node (env : EnvB prog G Θ Γ_slices_Equal_impl_Node) (h : ∀ (s1 : List (Int × Int × Int × List UInt8 × Int × Int × List UInt8 × Unit)) (s2 : List (Int × Int × Int × List UInt8 × Int × Int × List UInt8 × Unit)), psInR sh_slices_Equal_impl_Node (s1, s2, ()) → (True) → VC_slices_Equal_impl_Node s1 s2 fun r => r = ((decide (s1 = s2), ()))) : ConOK prog G n_slices_Equal_impl_Node con_slices_Equal_impl_Node :=
  conR_ok env mixed (fn := f60) (c := codeOf f60) (by kernel_rfl) (by kernel_rfl) H_slices_Equal_impl_Node (by kernel_rfl) fun ⟨s1, s2, ⟨⟩⟩ hin hp =>
  Eq.mpr ((by kernel_rfl : awp Θ Γ_slices_Equal_impl_Node H_slices_Equal_impl_Node (codeOf f60) (endsV Θ f60.results.toList rsh_slices_Equal_impl_Node fun r => r = (F_slices_Equal_impl_Node (s1, s2, ())).2) (entry f60.ntmps (psVals sh_slices_Equal_impl_Node (s1, s2, ()))) = VC_slices_Equal_impl_Node s1 s2 fun r => r = ((decide (s1 = s2), ())))) (h s1 s2 hin hp)

def H_impl_EqualQueries : Hints := Go.Fw.hints [] [] [] [] []
def VC_impl_EqualQueries (a : List (Int × Int × Int × List UInt8 × Int × Int × List UInt8 × Unit)) (b : List (Int × Int × Int × List UInt8 × Int × Int × List UInt8 × Unit)) (K : Bool × Unit → Prop) : Prop :=
  True ∧
 let r0 := decide (a = b);
  K (r0, ())
theorem wk_impl_EqualQueries (env : EnvB prog G Θ Γ_impl_EqualQueries) (h : ∀ (a : List (Int × Int × Int × List UInt8 × Int × Int × List UInt8 × Unit)) (b : List (Int × Int × Int × List UInt8 × Int × Int × List UInt8 × Unit)), psInR sh_impl_EqualQueries (a, b, ()) → (True) → VC_impl_EqualQueries a b fun r => r = ((decide (a = b), ()))) : ConOK prog G n_impl_EqualQueries con_impl_EqualQueries :=
  conR_ok env mixed (fn := f38) (c := codeOf f38) (by kernel_rfl) (by kernel_rfl) H_impl_EqualQueries (by kernel_rfl) fun ⟨a, b, ⟨⟩⟩ hin hp =>
  Eq.mpr ((by kernel_rfl : awp Θ Γ_impl_EqualQueries H_impl_EqualQueries (codeOf f38) (endsV Θ f38.results.toList rsh_impl_EqualQueries fun r => r = (F_impl_EqualQueries (a, b, ())).2) (entry f38.ntmps (psVals sh_impl_EqualQueries (a, b, ()))) = VC_impl_EqualQueries a b fun r => r = ((decide (a = b), ())))) (h a b hin hp)

def H_impl_FormatChange : Hints := Go.Fw.hints [11, 29, 57] [(33, ⟨[], ⟨[(5, .one (.sl 9 (.cons .str .nil) true)), (169, .one (.sl 74 (.cons .str (.cons (.int .i64) (.cons (.int .i64) (.cons .str .nil)))) false)), (170, .one (.int .i64))], []⟩, ⟨[(171, .one (.int .i64))], []⟩⟩)] [(30, ⟨[], ⟨[(1, .kptr [.int .i64, .int .i64, .int .i64, .bool, .int .i64, .sl 74 (.cons .str (.cons (.int .i64) (.cons (.int .i64) (.cons .str .nil)))) false, .int .i64, .str, .sl 107 (.cons (.int .i64) (.cons (.int .i64) (.cons (.int .i64) (.cons .str (.cons (.int .i64) (.cons (.int .i64) (.cons .str .nil))))))) false] 0), (3, .vptr 192 0), (4, .one (.ref 705))], []⟩, ⟨[(5, .one (.sl 9 (.cons .str .nil) true))], [(192, .var [.int .i64, .int .i64, .int .i64, .bool, .int .i64, .sl 74 (.cons .str (.cons (.int .i64) (.cons (.int .i64) (.cons .str .nil)))) false, .int .i64, .str, .nil]), (705, .arr 3 (.cons (.int .i64) .nil) true)]⟩⟩), (32, ⟨[], ⟨[(1, .kptr [.int .i64, .int .i64, .int .i64, .bool, .int .i64, .sl 74 (.cons .str (.cons (.int .i64) (.cons (.int .i64) (.cons .str .nil)))) false, .int .i64, .str, .sl 107 (.cons (.int .i64) (.cons (.int .i64) (.cons (.int .i64) (.cons .str (.cons (.int .i64) (.cons (.int .i64) (.cons .str .nil))))))) false] 0), (5, .one (.sl 9 (.cons .str .nil) true))], []⟩, ⟨[], []⟩⟩)] [] []
def VC_impl_FormatChange (x0 : Int) (x1 : Int) (x2 : Int) (x3 : Bool) (x4 : Int) (x5 : List (List UInt8 × Int × Int × List UInt8 × Unit)) (x6 : Int) (x7 : List UInt8) (x8 : List (Int × Int × Int × List UInt8 × Int × Int × List UInt8 × Unit)) (K : List UInt8 × Unit → Prop) : Prop :=
 let s0 := (((x0, x1, x2, x3, x4, x5, x6, x7, x8, ()), (), (), ()), ());
  ∃ (J :
  (List (List UInt8 × Unit) × Unit) ×
  (Int × Int × Int × Bool × Int × List (List UInt8 × Int × Int × List UInt8 × Unit) × Int × List UInt8 × Unit × Unit) × List (Int × Unit) × Unit →
  Prop),
  (bif x0 == (1 : Int) then
  (0 : Nat) + [(x2, ()), (x4, ())].length ≤ big ∧
  False ∧
  ((0 : Nat) ≤ (1048576 : Nat) ∧ [(32 : UInt8)] = [(10 : UInt8)]) ∧
  ((0 : Int) ≤ (2 : Int) ∧ (2 : Int) ≤ (↑(List.length (Sp.linesOf [])) : Int)) ∧
  [([(99 : UInt8), (114 : UInt8), (101 : UInt8), (97 : UInt8), (116 : UInt8), (101 : UInt8)], ())].length +
  (List.drop (Int.toNat (2 : Int)) (List.take (List.length (Sp.linesOf [])) (Sp.linesOf []))).length ≤
  big ∧
  bif x1 != (0 : Int) then K ([], ())
  else
  s0 = s0 ∧
  J
  (([([(99 : UInt8), (114 : UInt8), (101 : UInt8), (97 : UInt8), (116 : UInt8), (101 : UInt8)], ())] ++
  List.drop (Int.toNat (2 : Int)) (List.take (List.length (Sp.linesOf [])) (Sp.linesOf [])),
  ()),
  (x0, x1, x2, x3, x4, x5, (0 : Int), [], (), ()), [(x2, ()), (x4, ())], ())
  else
  bif x0 == (2 : Int) then
  (0 : Nat) + [(x1, ()), (x2, ()), (x4, ())].length ≤ big ∧
  False ∧
  ((0 : Nat) ≤ (1048576 : Nat) ∧ [(32 : UInt8)] = [(10 : UInt8)]) ∧
  ((0 : Int) ≤ (1 : Int) ∧ (1 : Int) ≤ (↑(List.length (Sp.linesOf [])) : Int)) ∧
  [([(117 : UInt8), (112 : UInt8), (100 : UInt8), (97 : UInt8), (116 : UInt8), (101 : UInt8)], ())].length +
  (List.drop (Int.toNat (1 : Int)) (List.take (List.length (Sp.linesOf [])) (Sp.linesOf []))).length ≤
  big ∧
  s0 = s0 ∧
  J
  (([([(117 : UInt8), (112 : UInt8), (100 : UInt8), (97 : UInt8), (116 : UInt8), (101 : UInt8)], ())] ++
  List.drop (Int.toNat (1 : Int)) (List.take (List.length (Sp.linesOf [])) (Sp.linesOf [])),
  ()),
  (x0, x1, x2, x3, x4, x5, (0 : Int), [], (), ()), [(x1, ()), (x2, ()), (x4, ())], ())
  else
  bif x0 == (3 : Int) then
  (0 : Nat) + [(x6, ())].length ≤ big ∧
  True ∧
  s0 = s0 ∧
  J
  (([([(100 : UInt8), (101 : UInt8), (108 : UInt8), (101 : UInt8), (116 : UInt8), (101 : UInt8)], ()), (Lib.itoa x6, ())], ()),
  (x0, (0 : Int), (0 : Int), false, (0 : Int), [], x6, [], (), ()), [(x6, ())], ())
  else
  bif x0 == (4 : Int) then False ∧ True ∧ bif !Sp.validStr x7 then K ([], ()) else False ∧ K ([], ())
  else
  bif x0 == (5 : Int) then
  True ∧
  bif !Sp.validStr x7 then K ([], ())
  else
  s0 = s0 ∧
  J
  (([([(117 : UInt8), (110 : UInt8), (100 : UInt8), (101 : UInt8), (102 : UInt8), (105 : UInt8), (110 : UInt8), (101 : UInt8)], ()), (x7, ())], ()),
  (x0, (0 : Int), (0 : Int), false, (0 : Int), [], (0 : Int), x7, (), ()), [], ())
  else K ([], ())) ∧
  ∀
  (y1 :
  (List (List UInt8 × Unit) × Unit) ×
  (Int × Int × Int × Bool × Int × List (List UInt8 × Int × Int × List UInt8 × Unit) × Int × List UInt8 × Unit × Unit) × List (Int × Unit) × Unit),
  J y1 →
 let s2 := (((x0, x1, x2, x3, x4, x5, x6, x7, x8, ()), y1.1.1, ()), ());
  ∃ (J : Unit × Unit → Prop),
  (True ∧
 let r3 :=
  decide
  ((y1.2.1.2.1, y1.2.1.2.2.1, y1.2.1.2.2.2.1, y1.2.1.2.2.2.2.1, y1.2.1.2.2.2.2.2.1, ()) =
  (x1, x2, x3, x4, x5, ()));
  bif !r3 then K ([], ())
  else
  bif y1.2.1.2.2.2.2.2.2.1 != x6 then K ([], ())
  else
  bif !y1.2.1.2.2.2.2.2.2.2.1 == x7 then K ([], ())
  else
  True ∧
 let r4 := decide ([] = x8);
  bif !r4 then K ([], ())
  else
  True ∧
 let r5 := Sp.areUints y1.2.2.1;
  bif !r5 then K ([], ()) else s2 = s2 ∧ J ((), ())) ∧
  ∀ (y6 : Unit × Unit),
  J y6 →
 let s7 := ((y1.1.1, x5, (↑x5.length : Int), ()), ());
  ∃ (I : (Int × Unit) × Unit → Prop),
  ∃ (μ : (Int × Unit) × Unit → Nat),
  I (((0 : Int), ()), ()) ∧
  ∀ (y8 : (Int × Unit) × Unit),
  I y8 →
  bif decide (y8.1.1 < (↑x5.length : Int)) then
  ((0 : Int) ≤ y8.1.1 ∧ y8.1.1 < (↑x5.length : Int)) ∧
  True ∧
 let r9 := Sp.okName (x5.getD (Int.toNat y8.1.1) ([], (0 : Int), (0 : Int), [], ())).1;
  bif !r9 then K ([], ())
  else
  True ∧
 let r10 :=
  Sp.okValue (x5.getD (Int.toNat y8.1.1) ([], (0 : Int), (0 : Int), [], ())).2.1
  (x5.getD (Int.toNat y8.1.1) ([], (0 : Int), (0 : Int), [], ())).2.2.1
  (x5.getD (Int.toNat y8.1.1) ([], (0 : Int), (0 : Int), [], ())).2.2.2.1;
  bif !r10 then K ([], ())
  else
  bif (x5.getD (Int.toNat y8.1.1) ([], (0 : Int), (0 : Int), [], ())).2.1 == (0 : Int) then K ([], ())
  else s7 = s7 ∧ I ((IntKind.i64.wrap (y8.1.1 + (1 : Int)), ()), ()) ∧ μ ((IntKind.i64.wrap (y8.1.1 + (1 : Int)), ()), ()) < μ y8
  else
  (List.length y1.1.1 ≤ (140737488355328 : Nat) ∧
  (Lib.join (List.map (fun (x : List UInt8 × Unit) => x.1) y1.1.1) [(32 : UInt8)]).length ≤ (140737488355328 : Nat)) ∧
 let r11 := Lib.join (List.map (fun (x : List UInt8 × Unit) => x.1) y1.1.1) [(32 : UInt8)];
  K (r11, ())
theorem wk_impl_FormatChange (env : EnvB prog G Θ Γ_impl_FormatChange) (h : ∀ (x0 : Int) (x1 : Int) (x2 : Int) (x3 : Bool) (x4 : Int) (x5 : List (List UInt8 × Int × Int × List UInt8 × Unit)) (x6 : Int) (x7 : List UInt8) (x8 : List (Int × Int × Int × List UInt8 × Int × Int × List UInt8 × Unit)), psInR sh_impl_FormatChange ((x0, x1, x2, x3, x4, x5, x6, x7, x8, ()), ()) → ((x0 = (3 : Int) ∨ x0 = (0 : Int)) ∧ x1 = (0 : Int) ∧ x2 = (0 : Int) ∧ x3 = false ∧ x4 = (0 : Int) ∧ x5 = [] ∧ x7 = [] ∧ x8 = []) → VC_impl_FormatChange x0 x1 x2 x3 x4 x5 x6 x7 x8 fun r => r = ((Sp.chgText x0 x6, ()))) : ConOK prog G n_impl_FormatChange con_impl_FormatChange :=
  conR_ok env mixed (fn := f20) (c := codeOf f20) (by kernel_rfl) (by kernel_rfl) H_impl_FormatChange (by kernel_rfl) fun ⟨⟨x0, x1, x2, x3, x4, x5, x6, x7, x8, ⟨⟩⟩, ⟨⟩⟩ hin hp =>
  Eq.mpr ((by kernel_rfl : awp Θ Γ_impl_FormatChange H_impl_FormatChange (codeOf f20) (endsV Θ f20.results.toList rsh_impl_FormatChange fun r => r = (F_impl_FormatChange ((x0, x1, x2, x3, x4, x5, x6, x7, x8, ()), ())).2) (entry f20.ntmps (psVals sh_impl_FormatChange ((x0, x1, x2, x3, x4, x5, x6, x7, x8, ()), ()))) = VC_impl_FormatChange x0 x1 x2 x3 x4 x5 x6 x7 x8 fun r => r = ((Sp.chgText x0 x6, ())))) (h x0 x1 x2 x3 x4 x5 x6 x7 x8 hin hp)

def H_impl_ParseChange : Hints := Go.Fw.hints [28] [] [(4, ⟨[], ⟨[(2, .vptr 128 0), (4, .one (.sl 9 (.cons .str .nil) true)), (5, .one (.bool))], [(128, .var [.int .i64, .int .i64, .int .i64, .bool, .int .i64, .nil, .int .i64, .str, .nil])]⟩, ⟨[], []⟩⟩), (22, ⟨[], ⟨[(2, .vptr 128 0), (4, .one (.sl 9 (.cons .str .nil) true)), (6, .vptr 384 0)], [(128, .var [.int .i64, .int .i64, .int .i64, .bool, .int .i64, .nil, .int .i64, .str, .nil])]⟩, ⟨[(5, .one (.bool))], [(384, .var [.int .i64, .int .i64, .int .i64, .bool, .int .i64, .sl 74 (.cons .str (.cons (.int .i64) (.cons (.int .i64) (.cons .str .nil)))) true, .int .i64, .str, .sl 107 (.cons (.int .i64) (.cons (.int .i64) (.cons (.int .i64) (.cons .str (.cons (.int .i64) (.cons (.int .i64) (.cons .str .nil))))))) true])]⟩⟩)] [] []
def VC_impl_ParseChange (line : List UInt8) (K : (Int × Int × Int × Bool × Int × List (List UInt8 × Int × Int × List UInt8 × Unit) × Int × List UInt8 × List (Int × Int × Int × List UInt8 × Int × Int × List UInt8 × Unit) × Unit) ×
  Bool × Unit → Prop) : Prop :=
  line.length ≤ (1048576 : Nat) ∧
 let s0 : (Unit × List (List UInt8 × Unit) × Bool × Unit) × (Int × Int × Int × Bool × Int × Unit × Int × List UInt8 × Unit × Unit) × Unit :=
  (((), Sp.splitF line, Sp.splitOk line, ()), ((0 : Int), (0 : Int), (0 : Int), false, (0 : Int), (), (0 : Int), [], (), ()), ());
  ∃ (J : Unit × Unit → Prop),
  (bif !Sp.splitOk line then K (((0 : Int), (0 : Int), (0 : Int), false, (0 : Int), [], (0 : Int), [], [], ()), false, ())
  else
  bif (↑(List.length (Sp.splitF line)) : Int) == (0 : Int) then K (((0 : Int), (0 : Int), (0 : Int), false, (0 : Int), [], (0 : Int), [], [], ()), false, ())
  else s0 = s0 ∧ J ((), ())) ∧
  ∀ (y1 : Unit × Unit),
  J y1 →
 let s2 : (Unit × List (List UInt8 × Unit) × Unit × Unit) × (Int × Int × Int × Bool × Int × Unit × Int × List UInt8 × Unit × Unit) × Unit :=
  (((), Sp.splitF line, (), ()), ((0 : Int), (0 : Int), (0 : Int), false, (0 : Int), (), (0 : Int), [], (), ()), ());
  ∃ (J :
  (Bool × Unit) ×
  (Int ×
  Int ×
  Int ×
  Bool ×
  Int × List (List UInt8 × Int × Int × List UInt8 × Unit) × Int × List UInt8 × List (Int × Int × Int × List UInt8 × Int × Int × List UInt8 × Unit) × Unit) ×
  Unit →
  Prop),
  (((0 : Int) ≤ (0 : Int) ∧ (0 : Int) < (↑(List.length (Sp.splitF line)) : Int)) ∧
  bif (List.getD (Sp.splitF line) (Int.toNat (0 : Int)) ([], ())).1 == [(99 : UInt8), (114 : UInt8), (101 : UInt8), (97 : UInt8), (116 : UInt8), (101 : UInt8)] then
  ((0 : Int) ≤ (1 : Int) ∧ (1 : Int) ≤ (↑(List.length (Sp.splitF line)) : Int)) ∧
  [([(48 : UInt8)], ())].length + (List.drop (Int.toNat (1 : Int)) (List.take (List.length (Sp.splitF line)) (Sp.splitF line))).length ≤ big ∧
  False ∧
 let r3 : List (List UInt8 × Int × Int × List UInt8 × Unit) := [];
  s2 = s2 ∧ J ((false, ()), ((1 : Int), (0 : Int), (0 : Int), false, (0 : Int), r3, (0 : Int), [], [], ()), ())
  else
  bif
  (List.getD (Sp.splitF line) (Int.toNat (0 : Int)) ([], ())).1 ==
  [(117 : UInt8), (112 : UInt8), (100 : UInt8), (97 : UInt8), (116 : UInt8), (101 : UInt8)] then
  ((0 : Int) ≤ (1 : Int) ∧ (1 : Int) ≤ (↑(List.length (Sp.splitF line)) : Int)) ∧
  False ∧
 let r4 : List (List UInt8 × Int × Int × List UInt8 × Unit) := [];
  s2 = s2 ∧ J ((false, ()), ((2 : Int), (0 : Int), (0 : Int), false, (0 : Int), r4, (0 : Int), [], [], ()), ())
  else
  bif
  (List.getD (Sp.splitF line) (Int.toNat (0 : Int)) ([], ())).1 ==
  [(100 : UInt8), (101 : UInt8), (108 : UInt8), (101 : UInt8), (116 : UInt8), (101 : UInt8)] then
  (0 : Int) ≤ (1 : Int) ∧
 let r5 : Int := Sp.numAt (Sp.splitF line) (1 : Int);
 let r6 : Bool := Sp.parseOk (Sp.wordAt (Sp.splitF line) (1 : Int));
  s2 = s2 ∧ J ((r6, ()), ((3 : Int), (0 : Int), (0 : Int), false, (0 : Int), [], r5, [], [], ()), ())
  else
  bif
  (List.getD (Sp.splitF line) (Int.toNat (0 : Int)) ([], ())).1 ==
  [(100 : UInt8), (101 : UInt8), (102 : UInt8), (105 : UInt8), (110 : UInt8), (101 : UInt8)] then
  (0 : Int) ≤ (1 : Int) ∧
 let r7 : Sp.Bytes := Sp.wordAt (Sp.splitF line) (1 : Int);
  (((0 : Int) ≤ if (↑(List.length (Sp.splitF line)) : Int) < (2 : Int) then (↑(List.length (Sp.splitF line)) : Int) else (2 : Int)) ∧
  (if (↑(List.length (Sp.splitF line)) : Int) < (2 : Int) then (↑(List.length (Sp.splitF line)) : Int) else (2 : Int)) ≤
  (↑(List.length (Sp.splitF line)) : Int)) ∧
  ((List.drop (if (↑(List.length (Sp.splitF line)) : Int) < (2 : Int) then (↑(List.length (Sp.splitF line)) : Int) else (2 : Int)).toNat
  (List.take (List.length (Sp.splitF line)) (Sp.splitF line))).length ≤
  (140737488355328 : Nat) ∧
  (Lib.join
  (List.map (fun (x : List UInt8 × Unit) => x.1)
  (List.drop (if (↑(List.length (Sp.splitF line)) : Int) < (2 : Int) then (↑(List.length (Sp.splitF line)) : Int) else (2 : Int)).toNat
  (List.take (List.length (Sp.splitF line)) (Sp.splitF line))))
  [(32 : UInt8)]).length ≤
  (140737488355328 : Nat)) ∧
  False ∧
 let r9 : List (Int × Int × Int × List UInt8 × Int × Int × List UInt8 × Unit) := [];
  s2 = s2 ∧ J ((false, ()), ((4 : Int), (0 : Int), (0 : Int), false, (0 : Int), [], (0 : Int), r7, r9, ()), ())
  else
  bif
  (List.getD (Sp.splitF line) (Int.toNat (0 : Int)) ([], ())).1 ==
  [(117 : UInt8), (110 : UInt8), (100 : UInt8), (101 : UInt8), (102 : UInt8), (105 : UInt8), (110 : UInt8), (101 : UInt8)] then
  (0 : Int) ≤ (1 : Int) ∧
 let r10 : Sp.Bytes := Sp.wordAt (Sp.splitF line) (1 : Int);
  s2 = s2 ∧ J ((Sp.splitOk line, ()), ((5 : Int), (0 : Int), (0 : Int), false, (0 : Int), [], (0 : Int), r10, [], ()), ())
  else s2 = s2 ∧ J ((Sp.splitOk line, ()), ((0 : Int), (0 : Int), (0 : Int), false, (0 : Int), [], (0 : Int), [], [], ()), ())) ∧
  ∀
  (y11 :
  (Bool × Unit) ×
  (Int ×
  Int ×
  Int ×
  Bool ×
  Int ×
  List (List UInt8 × Int × Int × List UInt8 × Unit) × Int × List UInt8 × List (Int × Int × Int × List UInt8 × Int × Int × List UInt8 × Unit) × Unit) ×
  Unit),
  J y11 →
  bif !y11.1.1 then K (((0 : Int), (0 : Int), (0 : Int), false, (0 : Int), [], (0 : Int), [], [], ()), false, ())
  else
  ((y11.2.1.1 = (3 : Int) ∨ y11.2.1.1 = (0 : Int)) ∧
  y11.2.1.2.1 = (0 : Int) ∧
  y11.2.1.2.2.1 = (0 : Int) ∧
  y11.2.1.2.2.2.1 = false ∧
  y11.2.1.2.2.2.2.1 = (0 : Int) ∧
  y11.2.1.2.2.2.2.2.1 = [] ∧
  y11.2.1.2.2.2.2.2.2.2.1 = [] ∧ y11.2.1.2.2.2.2.2.2.2.2.1 = []) ∧
 let r12 : Sp.Bytes := Sp.chgText y11.2.1.1 y11.2.1.2.2.2.2.2.2.1;
  (List.length r12 ≤ (1048576 : Nat) ∧ Sp.asciiS r12 = true) ∧
 let r13 : Bool := !r12 == [] && decide (Sp.wordsOf r12 = Sp.splitF line);
  bif !r13 then K (((0 : Int), (0 : Int), (0 : Int), false, (0 : Int), [], (0 : Int), [], [], ()), false, ())
  else
  K
  ((y11.2.1.1, y11.2.1.2.1, y11.2.1.2.2.1, y11.2.1.2.2.2.1, y11.2.1.2.2.2.2.1,
  y11.2.1.2.2.2.2.2.1, y11.2.1.2.2.2.2.2.2.1, y11.2.1.2.2.2.2.2.2.2.1,
  y11.2.1.2.2.2.2.2.2.2.2.1, ()),
  true, ())
theorem wk_impl_ParseChange (env : EnvB prog G Θ Γ_impl_ParseChange) (h : ∀ (line : List UInt8), psInR sh_impl_ParseChange (line, ()) → (line.length ≤ (1048576 : Nat) ∧ Sp.simpleW (Sp.wordsOf line) = true) → VC_impl_ParseChange line fun r => r = ((Sp.parseChg line, Sp.parseChgOk line, ()))) : ConOK prog G n_impl_ParseChange con_impl_ParseChange :=
  conR_ok env mixed (fn := f7) (c := codeOf f7) (by kernel_rfl) (by kernel_rfl) H_impl_ParseChange (by kernel_rfl) fun ⟨line, ⟨⟩⟩ hin hp =>
  Eq.mpr ((by kernel_rfl : awp Θ Γ_impl_ParseChange H_impl_ParseChange (codeOf f7) (endsV Θ f7.results.toList rsh_impl_ParseChange fun r => r = (F_impl_ParseChange (line, ())).2) (entry f7.ntmps (psVals sh_impl_ParseChange (line, ()))) = VC_impl_ParseChange line fun r => r = ((Sp.parseChg line, Sp.parseChgOk line, ())))) (h line hin hp)

end Go.Proofs.Tryz

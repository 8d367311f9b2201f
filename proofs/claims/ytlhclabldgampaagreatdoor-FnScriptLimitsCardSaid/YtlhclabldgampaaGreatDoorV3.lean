import Derived.Test.YtlhclabldgampaaGreatDoorF
namespace Go.Proofs.Tryz
open Go Go.Fw
set_option maxRecDepth 100000
def H_impl_ParseScript : Hints := Go.Fw.hints [20, 21] [(7, ⟨[(.slot 6 0, 417, 33, (.cons (.int .i64) (.cons (.int .i64) (.cons (.int .i64) (.cons .bool (.cons (.int .i64) (.cons (.sl 74 (.cons .str (.cons (.int .i64) (.cons (.int .i64) (.cons .str .nil))))) (.cons (.int .i64) (.cons .str (.cons (.sl 107 (.cons (.int .i64) (.cons (.int .i64) (.cons (.int .i64) (.cons .str (.cons (.int .i64) (.cons (.int .i64) (.cons .str .nil)))))))) .nil))))))))), true)], ⟨[(4, .one (.sl 9 (.cons .str .nil) true)), (22, .one (.sl 9 (.cons .str .nil) true)), (23, .one (.int .i64))], []⟩, ⟨[(5, .one (.ref 1281)), (6, .one (.ref 417)), (24, .one (.int .i64))], [(1281, .arr 39 (.cons (.int .i64) (.cons (.int .i64) (.cons (.sl 33 (.cons (.int .i64) (.cons (.int .i64) (.cons (.int .i64) (.cons .bool (.cons (.int .i64) (.cons (.sl 74 (.cons .str (.cons (.int .i64) (.cons (.int .i64) (.cons .str .nil))))) (.cons (.int .i64) (.cons .str (.cons (.sl 107 (.cons (.int .i64) (.cons (.int .i64) (.cons (.int .i64) (.cons .str (.cons (.int .i64) (.cons (.int .i64) (.cons .str .nil)))))))) .nil)))))))))) (.cons .str (.cons (.int .i64) .nil))))) true), (417, .arr 33 (.cons (.int .i64) (.cons (.int .i64) (.cons (.int .i64) (.cons .bool (.cons (.int .i64) (.cons (.sl 74 (.cons .str (.cons (.int .i64) (.cons (.int .i64) (.cons .str .nil))))) (.cons (.int .i64) (.cons .str (.cons (.sl 107 (.cons (.int .i64) (.cons (.int .i64) (.cons (.int .i64) (.cons .str (.cons (.int .i64) (.cons (.int .i64) (.cons .str .nil)))))))) .nil))))))))) true)]⟩⟩)] [(11, ⟨[], ⟨[(4, .one (.sl 9 (.cons .str .nil) true)), (5, .one (.ref 1281)), (6, .one (.ref 417)), (7, .one (.int .i64)), (8, .one (.str)), (22, .one (.sl 9 (.cons .str .nil) true)), (23, .one (.int .i64)), (24, .one (.int .i64))], [(1281, .arr 39 (.cons (.int .i64) (.cons (.int .i64) (.cons (.sl 33 (.cons (.int .i64) (.cons (.int .i64) (.cons (.int .i64) (.cons .bool (.cons (.int .i64) (.cons (.sl 74 (.cons .str (.cons (.int .i64) (.cons (.int .i64) (.cons .str .nil))))) (.cons (.int .i64) (.cons .str (.cons (.sl 107 (.cons (.int .i64) (.cons (.int .i64) (.cons (.int .i64) (.cons .str (.cons (.int .i64) (.cons (.int .i64) (.cons .str .nil)))))))) .nil)))))))))) (.cons .str (.cons (.int .i64) .nil))))) true), (417, .arr 33 (.cons (.int .i64) (.cons (.int .i64) (.cons (.int .i64) (.cons .bool (.cons (.int .i64) (.cons (.sl 74 (.cons .str (.cons (.int .i64) (.cons (.int .i64) (.cons .str .nil))))) (.cons (.int .i64) (.cons .str (.cons (.sl 107 (.cons (.int .i64) (.cons (.int .i64) (.cons (.int .i64) (.cons .str (.cons (.int .i64) (.cons (.int .i64) (.cons .str .nil)))))))) .nil))))))))) true)]⟩, ⟨[], []⟩⟩)] [] []
def VC_impl_ParseScript (text : List UInt8) (K : List
  (Int ×
  Int ×
  List
  (Int ×
  Int ×
  Int ×
  Bool × Int × List (List UInt8 × Int × Int × List UInt8 × Unit) × Int × List UInt8 × List (Int × Int × Int × List UInt8 × Int × Int × List UInt8 × Unit) × Unit) ×
  List UInt8 × Int × Unit) ×
  Int × Unit → Prop) : Prop :=
  bif decide ((↑text.length : Int) > (8000 : Int)) then K ([], (-1 : Int), ())
  else
  (text.length ≤ (1048576 : Nat) ∧ [(10 : UInt8)] = [(10 : UInt8)]) ∧
 let s0 : (List (List UInt8 × Unit) × List (List UInt8 × Unit) × Int × Unit) × Unit := ((Sp.linesOf text, Sp.linesOf text, (↑(List.length (Sp.linesOf text)) : Int), ()), ());
  ∃ (I :
  (Unit × Unit × Int × Unit) ×
  List
  (Int ×
  Int ×
  List
  (Int ×
  Int ×
  Int ×
  Bool ×
  Int ×
  List (List UInt8 × Int × Int × List UInt8 × Unit) × Int × List UInt8 × List (Int × Int × Int × List UInt8 × Int × Int × List UInt8 × Unit) × Unit) ×
  List UInt8 × Int × Unit) ×
  List
  (Int ×
  Int ×
  Int ×
  Bool ×
  Int × List (List UInt8 × Int × Int × List UInt8 × Unit) × Int × List UInt8 × List (Int × Int × Int × List UInt8 × Int × Int × List UInt8 × Unit) × Unit) ×
  Unit →
  Prop),
  ∃ (μ :
  (Unit × Unit × Int × Unit) ×
  List
  (Int ×
  Int ×
  List
  (Int ×
  Int ×
  Int ×
  Bool ×
  Int ×
  List (List UInt8 × Int × Int × List UInt8 × Unit) ×
  Int × List UInt8 × List (Int × Int × Int × List UInt8 × Int × Int × List UInt8 × Unit) × Unit) ×
  List UInt8 × Int × Unit) ×
  List
  (Int ×
  Int ×
  Int ×
  Bool ×
  Int × List (List UInt8 × Int × Int × List UInt8 × Unit) × Int × List UInt8 × List (Int × Int × Int × List UInt8 × Int × Int × List UInt8 × Unit) × Unit) ×
  Unit →
  Nat),
  I (((), (), (0 : Int), ()), [], [], ()) ∧
  ∀
  (y1 :
  (Unit × Unit × Int × Unit) ×
  List
  (Int ×
  Int ×
  List
  (Int ×
  Int ×
  Int ×
  Bool ×
  Int ×
  List (List UInt8 × Int × Int × List UInt8 × Unit) ×
  Int × List UInt8 × List (Int × Int × Int × List UInt8 × Int × Int × List UInt8 × Unit) × Unit) ×
  List UInt8 × Int × Unit) ×
  List
  (Int ×
  Int ×
  Int ×
  Bool ×
  Int ×
  List (List UInt8 × Int × Int × List UInt8 × Unit) × Int × List UInt8 × List (Int × Int × Int × List UInt8 × Int × Int × List UInt8 × Unit) × Unit) ×
  Unit),
  I y1 →
  bif decide (y1.1.2.2.1 < (↑(List.length (Sp.linesOf text)) : Int)) then
  ((0 : Int) ≤ y1.1.2.2.1 ∧ y1.1.2.2.1 < (↑(List.length (Sp.linesOf text)) : Int)) ∧
  List.length (List.getD (Sp.linesOf text) (Int.toNat y1.1.2.2.1) ([], ())).1 ≤ (1048576 : Nat) ∧
 let r2 : Sp.LS := Sp.splitF (List.getD (Sp.linesOf text) (Int.toNat y1.1.2.2.1) ([], ())).1;
 let r3 : Bool := Sp.splitOk (List.getD (Sp.linesOf text) (Int.toNat y1.1.2.2.1) ([], ())).1;
 let s4 :
  (List (List UInt8 × Unit) × Unit × Unit × Int × List UInt8 × List (List UInt8 × Unit) × Int × Int × Unit) ×
  List
  (Int ×
  Int ×
  List
  (Int ×
  Int ×
  Int ×
  Bool ×
  Int ×
  List (List UInt8 × Int × Int × List UInt8 × Unit) ×
  Int × List UInt8 × List (Int × Int × Int × List UInt8 × Int × Int × List UInt8 × Unit) × Unit) ×
  List UInt8 × Int × Unit) ×
  List
  (Int ×
  Int ×
  Int ×
  Bool ×
  Int ×
  List (List UInt8 × Int × Int × List UInt8 × Unit) ×
  Int × List UInt8 × List (Int × Int × Int × List UInt8 × Int × Int × List UInt8 × Unit) × Unit) ×
  Unit :=
  ((Sp.linesOf text, (), (), y1.1.2.2.1, (List.getD (Sp.linesOf text) (Int.toNat y1.1.2.2.1) ([], ())).1, Sp.linesOf text,
  (↑(List.length (Sp.linesOf text)) : Int), y1.1.2.2.1, ()),
  y1.2.1, y1.2.2.1, ());
  ∃ (J : Unit × Unit → Prop),
  (bif r3 then
  bif (↑(List.length r2) : Int) == (0 : Int) then
  s0 = s0 ∧
  I (((), (), IntKind.i64.wrap (y1.1.2.2.1 + (1 : Int)), ()), y1.2.1, y1.2.2.1, ()) ∧
  μ (((), (), IntKind.i64.wrap (y1.1.2.2.1 + (1 : Int)), ()), y1.2.1, y1.2.2.1, ()) < μ y1
  else
  ((0 : Int) ≤ (0 : Int) ∧ (0 : Int) < (↑(List.length r2) : Int)) ∧
  ((0 : Int) ≤ (0 : Int) ∧ (0 : Int) < (↑(List.length (List.getD r2 (Int.toNat (0 : Int)) ([], ())).1) : Int)) ∧
  bif (↑(List.getD (List.getD r2 (Int.toNat (0 : Int)) ([], ())).1 (Int.toNat (0 : Int)) (0 : UInt8)).toNat : Int) == (35 : Int) then
  s0 = s0 ∧
  I (((), (), IntKind.i64.wrap (y1.1.2.2.1 + (1 : Int)), ()), y1.2.1, y1.2.2.1, ()) ∧
  μ (((), (), IntKind.i64.wrap (y1.1.2.2.1 + (1 : Int)), ()), y1.2.1, y1.2.2.1, ()) < μ y1
  else s4 = s4 ∧ J ((), ())
  else s4 = s4 ∧ J ((), ())) ∧
  ∀ (y5 : Unit × Unit),
  J y5 →
  (List.length (List.getD (Sp.linesOf text) (Int.toNat y1.1.2.2.1) ([], ())).1 ≤ (1048576 : Nat) ∧
  Sp.simpleW (Sp.wordsOf (List.getD (Sp.linesOf text) (Int.toNat y1.1.2.2.1) ([], ())).1) = true) ∧
 let r6 : Int := (Sp.parseChg (List.getD (Sp.linesOf text) (Int.toNat y1.1.2.2.1) ([], ())).1).1;
 let r7 : Int := (Sp.parseChg (List.getD (Sp.linesOf text) (Int.toNat y1.1.2.2.1) ([], ())).1).2.1;
 let r8 : Int := (Sp.parseChg (List.getD (Sp.linesOf text) (Int.toNat y1.1.2.2.1) ([], ())).1).2.2.1;
 let r9 : Bool := (Sp.parseChg (List.getD (Sp.linesOf text) (Int.toNat y1.1.2.2.1) ([], ())).1).2.2.2.1;
 let r10 : Int := (Sp.parseChg (List.getD (Sp.linesOf text) (Int.toNat y1.1.2.2.1) ([], ())).1).2.2.2.2.1;
 let r11 : List (List UInt8 × Int × Int × List UInt8 × Unit) :=
  (Sp.parseChg (List.getD (Sp.linesOf text) (Int.toNat y1.1.2.2.1) ([], ())).1).2.2.2.2.2.1;
 let r12 : Int := (Sp.parseChg (List.getD (Sp.linesOf text) (Int.toNat y1.1.2.2.1) ([], ())).1).2.2.2.2.2.2.1;
 let r13 : List UInt8 := (Sp.parseChg (List.getD (Sp.linesOf text) (Int.toNat y1.1.2.2.1) ([], ())).1).2.2.2.2.2.2.2.1;
 let r14 : List (Int × Int × Int × List UInt8 × Int × Int × List UInt8 × Unit) :=
  (Sp.parseChg (List.getD (Sp.linesOf text) (Int.toNat y1.1.2.2.1) ([], ())).1).2.2.2.2.2.2.2.2.1;
 let r15 : Bool := Sp.parseChgOk (List.getD (Sp.linesOf text) (Int.toNat y1.1.2.2.1) ([], ())).1;
  bif r15 then
  bif decide ((↑(List.length y1.2.2.1) : Int) ≥ (6 : Int)) then K ([], IntKind.i64.wrap (y1.1.2.2.1 + (1 : Int)), ())
  else
  List.length y1.2.2.1 + [(r6, r7, r8, r9, r10, r11, r12, r13, r14, ())].length ≤ big ∧
  s0 = s0 ∧
  I
  (((), (), IntKind.i64.wrap (y1.1.2.2.1 + (1 : Int)), ()), y1.2.1,
  y1.2.2.1 ++ [(r6, r7, r8, r9, r10, r11, r12, r13, r14, ())], ()) ∧
  μ
  (((), (), IntKind.i64.wrap (y1.1.2.2.1 + (1 : Int)), ()), y1.2.1,
  y1.2.2.1 ++ [(r6, r7, r8, r9, r10, r11, r12, r13, r14, ())], ()) <
  μ y1
  else
  List.length (List.getD (Sp.linesOf text) (Int.toNat y1.1.2.2.1) ([], ())).1 ≤ (1048576 : Nat) ∧
 let r16 : Int := (Sp.parseAct (List.getD (Sp.linesOf text) (Int.toNat y1.1.2.2.1) ([], ())).1).1;
 let r17 : Int := (Sp.parseAct (List.getD (Sp.linesOf text) (Int.toNat y1.1.2.2.1) ([], ())).1).2.1;
 let r18 :
  List
  (Int ×
  Int ×
  Int ×
  Bool ×
  Int ×
  List (List UInt8 × Int × Int × List UInt8 × Unit) ×
  Int × List UInt8 × List (Int × Int × Int × List UInt8 × Int × Int × List UInt8 × Unit) × Unit) :=
  (Sp.parseAct (List.getD (Sp.linesOf text) (Int.toNat y1.1.2.2.1) ([], ())).1).2.2.1;
 let r19 : List UInt8 := (Sp.parseAct (List.getD (Sp.linesOf text) (Int.toNat y1.1.2.2.1) ([], ())).1).2.2.2.1;
 let r20 : Int := (Sp.parseAct (List.getD (Sp.linesOf text) (Int.toNat y1.1.2.2.1) ([], ())).1).2.2.2.2.1;
 let r21 : Bool := Sp.parseActOk (List.getD (Sp.linesOf text) (Int.toNat y1.1.2.2.1) ([], ())).1;
  bif !r21 then K ([], IntKind.i64.wrap (y1.1.2.2.1 + (1 : Int)), ())
  else
  bif decide ((↑(List.length y1.2.1) : Int) ≥ (40 : Int)) then K ([], IntKind.i64.wrap (y1.1.2.2.1 + (1 : Int)), ())
  else
  bif r16 == (1 : Int) then
  List.length y1.2.1 + [(r16, r17, y1.2.2.1, r19, r20, ())].length ≤ big ∧
  s0 = s0 ∧
  I (((), (), IntKind.i64.wrap (y1.1.2.2.1 + (1 : Int)), ()), y1.2.1 ++ [(r16, r17, y1.2.2.1, r19, r20, ())], [], ()) ∧
  μ
  (((), (), IntKind.i64.wrap (y1.1.2.2.1 + (1 : Int)), ()), y1.2.1 ++ [(r16, r17, y1.2.2.1, r19, r20, ())], [],
  ()) <
  μ y1
  else
  bif r16 == (2 : Int) then
  List.length y1.2.1 + [(r16, r17, y1.2.2.1, r19, r20, ())].length ≤ big ∧
  s0 = s0 ∧
  I
  (((), (), IntKind.i64.wrap (y1.1.2.2.1 + (1 : Int)), ()), y1.2.1 ++ [(r16, r17, y1.2.2.1, r19, r20, ())], [],
  ()) ∧
  μ
  (((), (), IntKind.i64.wrap (y1.1.2.2.1 + (1 : Int)), ()), y1.2.1 ++ [(r16, r17, y1.2.2.1, r19, r20, ())], [],
  ()) <
  μ y1
  else
  List.length y1.2.1 + [(r16, r17, r18, r19, r20, ())].length ≤ big ∧
  s0 = s0 ∧
  I
  (((), (), IntKind.i64.wrap (y1.1.2.2.1 + (1 : Int)), ()), y1.2.1 ++ [(r16, r17, r18, r19, r20, ())], y1.2.2.1,
  ()) ∧
  μ
  (((), (), IntKind.i64.wrap (y1.1.2.2.1 + (1 : Int)), ()), y1.2.1 ++ [(r16, r17, r18, r19, r20, ())], y1.2.2.1,
  ()) <
  μ y1
  else
  bif decide ((↑(List.length y1.2.2.1) : Int) > (0 : Int)) then K ([], IntKind.i64.wrap ((↑(List.length (Sp.linesOf text)) : Int) + (1 : Int)), ())
  else K (y1.2.1, (0 : Int), ())
theorem wk_impl_ParseScript (env : EnvB prog G Θ Γ_impl_ParseScript) (h : ∀ (text : List UInt8), psInR sh_impl_ParseScript (text, ()) → (text.length ≤ (1048576 : Nat) ∧ Sp.simpleT text = true) → VC_impl_ParseScript text fun r => r = (((Sp.script text).1, (Sp.script text).2, ()))) : ConOK prog G n_impl_ParseScript con_impl_ParseScript :=
  conR_ok env mixed (fn := f10) (c := codeOf f10) (by kernel_rfl) (by kernel_rfl) H_impl_ParseScript (by kernel_rfl) fun ⟨text, ⟨⟩⟩ hin hp =>
  Eq.mpr ((by kernel_rfl : awp Θ Γ_impl_ParseScript H_impl_ParseScript (codeOf f10) (endsV Θ f10.results.toList rsh_impl_ParseScript fun r => r = (F_impl_ParseScript (text, ())).2) (entry f10.ntmps (psVals sh_impl_ParseScript (text, ()))) = VC_impl_ParseScript text fun r => r = (((Sp.script text).1, (Sp.script text).2, ())))) (h text hin hp)

def H_laws_FnScriptLimits : Hints := Go.Fw.hints [] [(13, ⟨[], ⟨[(4, .one (.int .i64)), (5, .one (.int .i64)), (6, .one (.str))], []⟩, ⟨[(8, .one (.str)), (9, .one (.int .i64))], []⟩⟩), (8, ⟨[], ⟨[(4, .one (.int .i64)), (5, .one (.int .i64))], []⟩, ⟨[(6, .one (.str)), (7, .one (.int .i64))], []⟩⟩)] [] [] []
def VC_laws_FnScriptLimits (code : List (Int × Unit)) (K : Bool × Unit → Prop) : Prop :=
  True ∧
 let r0 := decide ((1048576 : Int) < (↑code.length : Int));
  bif r0 then K (true, ())
  else
  code.length ≤ (1048576 : Nat) ∧
  ∀ (r1 : (List (Int × Unit) × Unit) × Unit),
  (r1.1.1.length = (12 : Nat) ∧ ∀ (i : Nat), i < (12 : Nat) → (0 : Int) ≤ (r1.1.1.getD i ((0 : Int), ())).1 ∧ (r1.1.1.getD i ((0 : Int), ())).1 < (10000 : Int)) →
  ((0 : Int) ≤ (0 : Int) ∧ (0 : Int) < (↑(List.length r1.1.1) : Int)) ∧
  (45 : Int) ≠ (0 : Int) ∧
  ((0 : Int) ≤ (1 : Int) ∧ (1 : Int) < (↑(List.length r1.1.1) : Int)) ∧
  (9 : Int) ≠ (0 : Int) ∧
 let s2 :=
  ((Int.tmod (List.getD r1.1.1 (Int.toNat (0 : Int)) ((0 : Int), ())).1 (45 : Int),
  Int.tmod (List.getD r1.1.1 (Int.toNat (1 : Int)) ((0 : Int), ())).1 (9 : Int), ()),
  ());
  ∃ (I : (List UInt8 × Int × Unit) × Unit → Prop),
  ∃ (μ : (List UInt8 × Int × Unit) × Unit → Nat),
  I (([], (0 : Int), ()), ()) ∧
  ∀ (y3 : (List UInt8 × Int × Unit) × Unit),
  I y3 →
  bif decide (y3.1.2.1 < Int.tmod (List.getD r1.1.1 (Int.toNat (0 : Int)) ((0 : Int), ())).1 (45 : Int)) then
  List.length y3.1.1 +
  [(99 : UInt8), (111 : UInt8), (108 : UInt8), (108 : UInt8), (101 : UInt8), (99 : UInt8), (116 : UInt8), (10 : UInt8)].length ≤
  maxLen ∧
  s2 = s2 ∧
  I
  ((y3.1.1 ++ [(99 : UInt8), (111 : UInt8), (108 : UInt8), (108 : UInt8), (101 : UInt8), (99 : UInt8), (116 : UInt8), (10 : UInt8)],
  IntKind.i64.wrap (y3.1.2.1 + (1 : Int)), ()),
  ()) ∧
  μ
  ((y3.1.1 ++ [(99 : UInt8), (111 : UInt8), (108 : UInt8), (108 : UInt8), (101 : UInt8), (99 : UInt8), (116 : UInt8), (10 : UInt8)],
  IntKind.i64.wrap (y3.1.2.1 + (1 : Int)), ()),
  ()) <
  μ y3
  else
 let s4 :=
  ((Int.tmod (List.getD r1.1.1 (Int.toNat (0 : Int)) ((0 : Int), ())).1 (45 : Int),
  Int.tmod (List.getD r1.1.1 (Int.toNat (1 : Int)) ((0 : Int), ())).1 (9 : Int), y3.1.1, ()),
  ());
  ∃ (I : (List UInt8 × Int × Unit) × Unit → Prop),
  ∃ (μ : (List UInt8 × Int × Unit) × Unit → Nat),
  I (([], (0 : Int), ()), ()) ∧
  ∀ (y5 : (List UInt8 × Int × Unit) × Unit),
  I y5 →
  bif decide (y5.1.2.1 < Int.tmod (List.getD r1.1.1 (Int.toNat (1 : Int)) ((0 : Int), ())).1 (9 : Int)) then
  List.length y5.1.1 +
  [(100 : UInt8), (101 : UInt8), (108 : UInt8), (101 : UInt8), (116 : UInt8), (101 : UInt8), (32 : UInt8), (49 : UInt8),
  (10 : UInt8)].length ≤
  maxLen ∧
  s4 = s4 ∧
  I
  ((y5.1.1 ++
  [(100 : UInt8), (101 : UInt8), (108 : UInt8), (101 : UInt8), (116 : UInt8), (101 : UInt8), (32 : UInt8), (49 : UInt8),
  (10 : UInt8)],
  IntKind.i64.wrap (y5.1.2.1 + (1 : Int)), ()),
  ()) ∧
  μ
  ((y5.1.1 ++
  [(100 : UInt8), (101 : UInt8), (108 : UInt8), (101 : UInt8), (116 : UInt8), (101 : UInt8), (32 : UInt8), (49 : UInt8),
  (10 : UInt8)],
  IntKind.i64.wrap (y5.1.2.1 + (1 : Int)), ()),
  ()) <
  μ y5
  else
  (List.length y3.1.1 ≤ (1048576 : Nat) ∧ Sp.simpleT y3.1.1 = true) ∧
 let r6 := (Sp.script y3.1.1).1;
 let r7 := (Sp.script y3.1.1).2;
  List.length y5.1.1 +
  [(99 : UInt8), (111 : UInt8), (109 : UInt8), (109 : UInt8), (105 : UInt8), (116 : UInt8), (32 : UInt8), (48 : UInt8),
  (10 : UInt8)].length ≤
  maxLen ∧
  ((y5.1.1 ++
  [(99 : UInt8), (111 : UInt8), (109 : UInt8), (109 : UInt8), (105 : UInt8), (116 : UInt8), (32 : UInt8), (48 : UInt8),
  (10 : UInt8)]).length ≤
  (1048576 : Nat) ∧
  Sp.simpleT
  (y5.1.1 ++
  [(99 : UInt8), (111 : UInt8), (109 : UInt8), (109 : UInt8), (105 : UInt8), (116 : UInt8), (32 : UInt8), (48 : UInt8),
  (10 : UInt8)]) =
  true) ∧
 let r9 :=
  (Sp.script
  (y5.1.1 ++
  [(99 : UInt8), (111 : UInt8), (109 : UInt8), (109 : UInt8), (105 : UInt8), (116 : UInt8), (32 : UInt8), (48 : UInt8),
  (10 : UInt8)])).2;
  ([(100 : UInt8), (101 : UInt8), (108 : UInt8), (101 : UInt8), (116 : UInt8), (101 : UInt8), (32 : UInt8), (49 : UInt8),
  (10 : UInt8)].length ≤
  (1048576 : Nat) ∧
  Sp.simpleT
  [(100 : UInt8), (101 : UInt8), (108 : UInt8), (101 : UInt8), (116 : UInt8), (101 : UInt8), (32 : UInt8), (49 : UInt8),
  (10 : UInt8)] =
  true) ∧
 let r11 :=
  (Sp.script
  [(100 : UInt8), (101 : UInt8), (108 : UInt8), (101 : UInt8), (116 : UInt8), (101 : UInt8), (32 : UInt8), (49 : UInt8),
  (10 : UInt8)]).2;
  bif
  (r7 == (0 : Int)) ==
  decide (Int.tmod (List.getD r1.1.1 (Int.toNat (0 : Int)) ((0 : Int), ())).1 (45 : Int) ≤ (40 : Int)) then
  bif r7 != (0 : Int) then
  bif
  (r9 == (0 : Int)) ==
  decide (Int.tmod (List.getD r1.1.1 (Int.toNat (1 : Int)) ((0 : Int), ())).1 (9 : Int) ≤ (6 : Int)) then
  K (r11 == (3 : Int), ())
  else K (false, ())
  else
  bif (↑r6.length : Int) == Int.tmod (List.getD r1.1.1 (Int.toNat (0 : Int)) ((0 : Int), ())).1 (45 : Int) then
  bif
  (r9 == (0 : Int)) ==
  decide (Int.tmod (List.getD r1.1.1 (Int.toNat (1 : Int)) ((0 : Int), ())).1 (9 : Int) ≤ (6 : Int)) then
  K (r11 == (3 : Int), ())
  else K (false, ())
  else K (false, ())
  else K (false, ())
theorem wk_laws_FnScriptLimits (env : EnvB prog G Θ Γ_laws_FnScriptLimits) (h : ∀ (code : List (Int × Unit)), psInR sh_laws_FnScriptLimits (code, ()) → (True) → VC_laws_FnScriptLimits code fun r => r = ((true, ()))) : ConOK prog G n_laws_FnScriptLimits con_laws_FnScriptLimits :=
  conR_ok env mixed (fn := f4) (c := codeOf f4) (by kernel_rfl) (by kernel_rfl) H_laws_FnScriptLimits (by kernel_rfl) fun ⟨code, ⟨⟩⟩ hin hp =>
  Eq.mpr ((by kernel_rfl : awp Θ Γ_laws_FnScriptLimits H_laws_FnScriptLimits (codeOf f4) (endsV Θ f4.results.toList rsh_laws_FnScriptLimits fun r => r = (F_laws_FnScriptLimits (code, ())).2) (entry f4.ntmps (psVals sh_laws_FnScriptLimits (code, ()))) = VC_laws_FnScriptLimits code fun r => r = ((true, ())))) (h code hin hp)

end Go.Proofs.Tryz

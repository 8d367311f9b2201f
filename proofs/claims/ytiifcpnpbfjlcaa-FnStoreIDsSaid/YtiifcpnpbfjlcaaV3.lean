import Derived.Test.YtiifcpnpbfjlcaaF
namespace Go.Proofs.Try
open Go Go.Fw
set_option maxRecDepth 100000
def H_spec_l04File : Hints := Go.Fw.hints [8, 10, 13, 15, 18, 24, 26, 31, 33, 40, 42, 48] [] [(4, ⟨[], ⟨[(0, .vptr 48 0), (4, .vptr 256 0), (5, .vptr 320 0)], [(256, .var [.int .i64, .int .i64, .bool, .int .i64, .nil])]⟩, ⟨[], [(48, .var [.sl 5 (.cons (.int .u8) .nil) false, .int .i64, .int .i64]), (320, .var [.int .i64, .int .i64, .bool, .int .i64, .nil])]⟩⟩), (6, ⟨[(.obj 320 4, 357, 116, (.cons .str (.cons (.int .i64) (.cons (.int .i64) (.cons .str .nil)))), true)], ⟨[(0, .vptr 48 0), (4, .vptr 256 0), (5, .vptr 320 0)], [(256, .var [.int .i64, .int .i64, .bool, .int .i64, .nil])]⟩, ⟨[], [(48, .var [.sl 5 (.cons (.int .u8) .nil) false, .int .i64, .int .i64]), (320, .var [.int .i64, .int .i64, .bool, .int .i64, .ref 357]), (357, .arr 116 (.cons .str (.cons (.int .i64) (.cons (.int .i64) (.cons .str .nil)))) true)]⟩⟩), (8, ⟨[(.obj 320 4, 357, 116, (.cons .str (.cons (.int .i64) (.cons (.int .i64) (.cons .str .nil)))), true)], ⟨[(0, .vptr 48 0), (4, .vptr 256 0), (5, .vptr 320 0)], [(256, .var [.int .i64, .int .i64, .bool, .int .i64, .nil])]⟩, ⟨[], [(48, .var [.sl 5 (.cons (.int .u8) .nil) false, .int .i64, .int .i64]), (320, .var [.int .i64, .int .i64, .bool, .int .i64, .ref 357]), (357, .arr 116 (.cons .str (.cons (.int .i64) (.cons (.int .i64) (.cons .str .nil)))) true)]⟩⟩), (10, ⟨[(.obj 320 4, 357, 116, (.cons .str (.cons (.int .i64) (.cons (.int .i64) (.cons .str .nil)))), true)], ⟨[(0, .vptr 48 0), (4, .vptr 256 0), (5, .vptr 320 0)], [(256, .var [.int .i64, .int .i64, .bool, .int .i64, .nil])]⟩, ⟨[], [(48, .var [.sl 5 (.cons (.int .u8) .nil) false, .int .i64, .int .i64]), (320, .var [.int .i64, .int .i64, .bool, .int .i64, .ref 357]), (357, .arr 116 (.cons .str (.cons (.int .i64) (.cons (.int .i64) (.cons .str .nil)))) true)]⟩⟩), (12, ⟨[(.obj 320 4, 357, 116, (.cons .str (.cons (.int .i64) (.cons (.int .i64) (.cons .str .nil)))), true)], ⟨[(4, .vptr 256 0), (5, .vptr 320 0)], [(256, .var [.int .i64, .int .i64, .bool, .int .i64, .nil])]⟩, ⟨[], [(48, .var [.sl 5 (.cons (.int .u8) .nil) false, .int .i64, .int .i64]), (320, .var [.int .i64, .int .i64, .bool, .int .i64, .ref 357]), (357, .arr 116 (.cons .str (.cons (.int .i64) (.cons (.int .i64) (.cons .str .nil)))) true)]⟩⟩)] [48] []
def VC_spec_l04File (c0 : List (Int × Unit)) (c1 : Int) (c2 : Int) (id : Int) (K : ((Int × Int × Bool × Int × List (List UInt8 × Int × Int × List UInt8 × Unit) × Unit) × Unit) × (List (Int × Unit) × Int × Int × Unit) × Unit → Prop) : Prop :=
  (0 : Int) ≤ c1 ∧
  ∀ (r0 : (Int × Unit) × (List (Int × Unit) × Int × Int × Unit) × Unit),
  (0 : Int) ≤ r0.2.1.2.1 ∧ (0 : Int) ≤ r0.1.1 ∧ ((0 : Int) < (3 : Int) → r0.1.1 < (3 : Int)) ∧ ((3 : Int) ≤ (0 : Int) → r0.1.1 = (0 : Int)) →
  (0 : Int) ≤ r0.2.1.2.1 ∧
  ∀ (r1 : (Bool × Unit) × (List (Int × Unit) × Int × Int × Unit) × Unit),
  (r1.2.1.2.1 - (0 : Int)).NonNeg →
 let s2 := (((), (), (), ()), ((0 : Int), (0 : Int), false, (0 : Int), (), ()), ());
  ∃ (J : Unit × (List (Int × Unit) × Int × Int × Unit) × (Int × Int × Bool × Int × Unit × Unit) × Unit → Prop),
  ((0 : Int) ≤ r1.2.1.2.1 ∧
  ∀ (r3 : (Bool × Unit) × (List (Int × Unit) × Int × Int × Unit) × Unit),
  (r3.2.1.2.1 - (0 : Int)).NonNeg →
  bif r3.1.1 then
  (0 : Int) ≤ r3.2.1.2.1 ∧
  ∀ (r4 : (Int × Unit) × (List (Int × Unit) × Int × Int × Unit) × Unit),
  (0 : Int) ≤ r4.2.1.2.1 ∧ (0 : Int) ≤ r4.1.1 ∧ ((0 : Int) < (7 : Int) → r4.1.1 < (7 : Int)) ∧ ((7 : Int) ≤ (0 : Int) → r4.1.1 = (0 : Int)) →
  s2 = s2 ∧ J ((), (r4.2.1.1, r4.2.1.2.1, r4.2.1.2.2.1, ()), (id, r0.1.1, r1.1.1, r4.1.1, (), ()), ())
  else s2 = s2 ∧ J ((), (r3.2.1.1, r3.2.1.2.1, r3.2.1.2.2.1, ()), (id, r0.1.1, r1.1.1, (0 : Int), (), ()), ())) ∧
  ∀ (y5 : Unit × (List (Int × Unit) × Int × Int × Unit) × (Int × Int × Bool × Int × Unit × Unit) × Unit),
  J y5 →
 let s6 := (((), (), (), ()), ((0 : Int), (0 : Int), false, (0 : Int), (), ()), ());
  ∃ (J :
  Unit × (List (Int × Unit) × Int × Int × Unit) × (Int × Int × Bool × Int × Unit × Unit) × List (List UInt8 × Int × Int × List UInt8 × Unit) × Unit → Prop),
  ((0 : Int) ≤ y5.2.1.2.1 ∧
  ∀ (r7 : (Bool × Unit) × (List (Int × Unit) × Int × Int × Unit) × Unit),
  (r7.2.1.2.1 - (0 : Int)).NonNeg →
  bif !r7.1.1 then
  (0 : Int) ≤ r7.2.1.2.1 ∧
  ∀ (r8 : (Int × Unit) × (List (Int × Unit) × Int × Int × Unit) × Unit),
  (0 : Int) ≤ r8.2.1.2.1 ∧
  (0 : Int) ≤ r8.1.1 ∧ ((0 : Int) < (4 : Int) → r8.1.1 < (4 : Int)) ∧ ((4 : Int) ≤ (0 : Int) → r8.1.1 = (0 : Int)) →
  True ∧
 let r9 := r8.1.1;
  (0 : Nat) ≤ (1000 : Nat) ∧
  ∀ (r10 : ((Int × Int × Bool × Int × List (List UInt8 × Int × Int × List UInt8 × Unit) × Unit) × Unit) × Unit),
  r10.1.1.1 = y5.2.2.1.1 ∧
  r10.1.1.2.1 = y5.2.2.1.2.1 ∧
  r10.1.1.2.2.1 = y5.2.2.1.2.2.1 ∧
  r10.1.1.2.2.2.1 = y5.2.2.1.2.2.2.1 ∧ r10.1.1.2.2.2.2.1 = Sp.setAttr [] [(97 : UInt8)] (1 : Int) r9 [] →
  s6 = s6 ∧
  J
  ((), (r8.2.1.1, r8.2.1.2.1, r8.2.1.2.2.1, ()),
  (r10.1.1.1, r10.1.1.2.1, r10.1.1.2.2.1, r10.1.1.2.2.2.1, (), ()),
  r10.1.1.2.2.2.2.1, ())
  else
  s6 = s6 ∧
  J
  ((), (r7.2.1.1, r7.2.1.2.1, r7.2.1.2.2.1, ()),
  (y5.2.2.1.1, y5.2.2.1.2.1, y5.2.2.1.2.2.1, y5.2.2.1.2.2.2.1, (), ()), [], ())) ∧
  ∀ (y11 : Unit × (List (Int × Unit) × Int × Int × Unit) × (Int × Int × Bool × Int × Unit × Unit) × List (List UInt8 × Int × Int × List UInt8 × Unit) × Unit),
  J y11 →
 let s12 := (((), (), (), ()), ((0 : Int), (0 : Int), false, (0 : Int), (), ()), ());
  ∃ (J :
  Unit × (List (Int × Unit) × Int × Int × Unit) × (Int × Int × Bool × Int × Unit × Unit) × List (List UInt8 × Int × Int × List UInt8 × Unit) × Unit →
  Prop),
  ((0 : Int) ≤ y11.2.1.2.1 ∧
  ∀ (r13 : (Bool × Unit) × (List (Int × Unit) × Int × Int × Unit) × Unit),
  (r13.2.1.2.1 - (0 : Int)).NonNeg →
  bif r13.1.1 then
  (0 : Int) ≤ r13.2.1.2.1 ∧
  ∀ (r14 : (Int × Unit) × (List (Int × Unit) × Int × Int × Unit) × Unit),
  (0 : Int) ≤ r14.2.1.2.1 ∧
  (0 : Int) ≤ r14.1.1 ∧ ((0 : Int) < (4 : Int) → r14.1.1 < (4 : Int)) ∧ ((4 : Int) ≤ (0 : Int) → r14.1.1 = (0 : Int)) →
  True ∧
 let r15 := r14.1.1;
  List.length y11.2.2.2.1 ≤ (1000 : Nat) ∧
  ∀ (r16 : ((Int × Int × Bool × Int × List (List UInt8 × Int × Int × List UInt8 × Unit) × Unit) × Unit) × Unit),
  r16.1.1.1 = y11.2.2.1.1 ∧
  r16.1.1.2.1 = y11.2.2.1.2.1 ∧
  r16.1.1.2.2.1 = y11.2.2.1.2.2.1 ∧
  r16.1.1.2.2.2.1 = y11.2.2.1.2.2.2.1 ∧
  r16.1.1.2.2.2.2.1 = Sp.setAttr y11.2.2.2.1 [(98 : UInt8)] (1 : Int) r15 [] →
  s12 = s12 ∧
  J
  ((), (r14.2.1.1, r14.2.1.2.1, r14.2.1.2.2.1, ()),
  (r16.1.1.1, r16.1.1.2.1, r16.1.1.2.2.1, r16.1.1.2.2.2.1, (), ()),
  r16.1.1.2.2.2.2.1, ())
  else
  s12 = s12 ∧
  J
  ((), (r13.2.1.1, r13.2.1.2.1, r13.2.1.2.2.1, ()),
  (y11.2.2.1.1, y11.2.2.1.2.1, y11.2.2.1.2.2.1, y11.2.2.1.2.2.2.1, (), ()),
  y11.2.2.2.1, ())) ∧
  ∀
  (y17 :
  Unit ×
  (List (Int × Unit) × Int × Int × Unit) × (Int × Int × Bool × Int × Unit × Unit) × List (List UInt8 × Int × Int × List UInt8 × Unit) × Unit),
  J y17 →
 let s18 := (((), (), (), ()), ((0 : Int), (0 : Int), false, (0 : Int), (), ()), ());
  ∃ (J :
  Unit ×
  (List (Int × Unit) × Int × Int × Unit) ×
  (Int × Int × Bool × Int × Unit × Unit) × List (List UInt8 × Int × Int × List UInt8 × Unit) × Unit →
  Prop),
  ((0 : Int) ≤ y17.2.1.2.1 ∧
  ∀ (r19 : (Bool × Unit) × (List (Int × Unit) × Int × Int × Unit) × Unit),
  (r19.2.1.2.1 - (0 : Int)).NonNeg →
  bif !r19.1.1 then
  ((0 : Int) ≤ r19.2.1.2.1 ∧
  [([(105 : UInt8), (110 : UInt8), (107 : UInt8)], ()), ([(115 : UInt8), (101 : UInt8), (97 : UInt8)], ())] ≠ []) ∧
  ∀ (r20 : (List UInt8 × Unit) × (List (Int × Unit) × Int × Int × Unit) × Unit),
  (0 : Int) ≤ r20.2.1.2.1 ∧
  (r20.1.1, ()) ∈
  [([(105 : UInt8), (110 : UInt8), (107 : UInt8)], ()), ([(115 : UInt8), (101 : UInt8), (97 : UInt8)], ())] →
  True ∧
 let r21 := r20.1.1;
  List.length y17.2.2.2.1 ≤ (1000 : Nat) ∧
  ∀ (r22 : ((Int × Int × Bool × Int × List (List UInt8 × Int × Int × List UInt8 × Unit) × Unit) × Unit) × Unit),
  r22.1.1.1 = y17.2.2.1.1 ∧
  r22.1.1.2.1 = y17.2.2.1.2.1 ∧
  r22.1.1.2.2.1 = y17.2.2.1.2.2.1 ∧
  r22.1.1.2.2.2.1 = y17.2.2.1.2.2.2.1 ∧
  r22.1.1.2.2.2.2.1 = Sp.setAttr y17.2.2.2.1 [(110 : UInt8)] (2 : Int) (0 : Int) r21 →
  s18 = s18 ∧
  J
  ((), (r20.2.1.1, r20.2.1.2.1, r20.2.1.2.2.1, ()),
  (r22.1.1.1, r22.1.1.2.1, r22.1.1.2.2.1, r22.1.1.2.2.2.1, (), ()),
  r22.1.1.2.2.2.2.1, ())
  else
  s18 = s18 ∧
  J
  ((), (r19.2.1.1, r19.2.1.2.1, r19.2.1.2.2.1, ()),
  (y17.2.2.1.1, y17.2.2.1.2.1, y17.2.2.1.2.2.1, y17.2.2.1.2.2.2.1, (), ()),
  y17.2.2.2.1, ())) ∧
  ∀
  (y23 :
  Unit ×
  (List (Int × Unit) × Int × Int × Unit) ×
  (Int × Int × Bool × Int × Unit × Unit) × List (List UInt8 × Int × Int × List UInt8 × Unit) × Unit),
  J y23 →
 let s24 := (((), (), ()), ((0 : Int), (0 : Int), false, (0 : Int), (), ()), ());
  ∃ (J :
  Unit ×
  (List (Int × Unit) × Int × Int × Unit) ×
  (Int × Int × Bool × Int × Unit × Unit) × List (List UInt8 × Int × Int × List UInt8 × Unit) × Unit →
  Prop),
  ((0 : Int) ≤ y23.2.1.2.1 ∧
  ∀ (r25 : (Bool × Unit) × (List (Int × Unit) × Int × Int × Unit) × Unit),
  (r25.2.1.2.1 - (0 : Int)).NonNeg →
  bif r25.1.1 then
  ((0 : Int) ≤ r25.2.1.2.1 ∧
  [([(114 : UInt8), (101 : UInt8), (100 : UInt8)], ()),
  ([(98 : UInt8), (108 : UInt8), (117 : UInt8), (101 : UInt8)], ())] ≠
  []) ∧
  ∀ (r26 : (List UInt8 × Unit) × (List (Int × Unit) × Int × Int × Unit) × Unit),
  (0 : Int) ≤ r26.2.1.2.1 ∧
  (r26.1.1, ()) ∈
  [([(114 : UInt8), (101 : UInt8), (100 : UInt8)], ()),
  ([(98 : UInt8), (108 : UInt8), (117 : UInt8), (101 : UInt8)], ())] →
  True ∧
 let r27 := r26.1.1;
  List.length y23.2.2.2.1 ≤ (1000 : Nat) ∧
  ∀ (r28 : ((Int × Int × Bool × Int × List (List UInt8 × Int × Int × List UInt8 × Unit) × Unit) × Unit) × Unit),
  r28.1.1.1 = y23.2.2.1.1 ∧
  r28.1.1.2.1 = y23.2.2.1.2.1 ∧
  r28.1.1.2.2.1 = y23.2.2.1.2.2.1 ∧
  r28.1.1.2.2.2.1 = y23.2.2.1.2.2.2.1 ∧
  r28.1.1.2.2.2.2.1 = Sp.setAttr y23.2.2.2.1 [(116 : UInt8)] (2 : Int) (0 : Int) r27 →
  s24 = s24 ∧
  J
  ((), (r26.2.1.1, r26.2.1.2.1, r26.2.1.2.2.1, ()),
  (r28.1.1.1, r28.1.1.2.1, r28.1.1.2.2.1, r28.1.1.2.2.2.1, (), ()),
  r28.1.1.2.2.2.2.1, ())
  else
  s24 = s24 ∧
  J
  ((), (r25.2.1.1, r25.2.1.2.1, r25.2.1.2.2.1, ()),
  (y23.2.2.1.1, y23.2.2.1.2.1, y23.2.2.1.2.2.1, y23.2.2.1.2.2.2.1, (), ()),
  y23.2.2.2.1, ())) ∧
  ∀
  (y29 :
  Unit ×
  (List (Int × Unit) × Int × Int × Unit) ×
  (Int × Int × Bool × Int × Unit × Unit) × List (List UInt8 × Int × Int × List UInt8 × Unit) × Unit),
  J y29 →
  K
  (((y29.2.2.1.1, y29.2.2.1.2.1, y29.2.2.1.2.2.1, y29.2.2.1.2.2.2.1,
  y29.2.2.2.1, ()),
  ()),
  (y29.2.1.1, y29.2.1.2.1, y29.2.1.2.2.1, ()), ())
theorem wk_spec_l04File (env : EnvB prog G Θ Γ_spec_l04File) (hne : ∀ x, (F_spec_l04File x).1 → ∃ t, (F_spec_l04File x).2 t) (h : ∀ (c0 : List (Int × Unit)) (c1 : Int) (c2 : Int) (id : Int), xsInR sh_spec_l04File ((c0, c1, c2, ()), id, ()) → ((0 : Int) ≤ c1) → VC_spec_l04File c0 c1 c2 id fun (r : ((Int × Int × Bool × Int × List (List UInt8 × Int × Int × List UInt8 × Unit) × Unit) × Unit) × (List (Int × Unit) × Int × Int × Unit) × Unit) => ((0 : Int) ≤ c1, fun (x : ((Int × Int × Bool × Int × List (List UInt8 × Int × Int × List UInt8 × Unit) × Unit) × Unit) × (List (Int × Unit) × Int × Int × Unit) × Unit) =>
  (0 : Int) ≤ x.2.1.2.1 ∧
  x.1.1.1 = id ∧
  (0 : Int) ≤ x.1.1.2.1 ∧
  x.1.1.2.1 ≤ (2 : Int) ∧
  (0 : Int) ≤ x.1.1.2.2.2.1 ∧ x.1.1.2.2.2.1 ≤ (6 : Int) ∧ Sp.okAttrs Sp.usual x.1.1.2.2.2.2.1 = true ∧ x.1.1.2.2.2.2.1.length ≤ (4 : Nat)).2
  r) : XConOK prog G n_spec_l04File con_spec_l04File :=
  conX_ok env mixed (fn := f107) (c := codeOf f107) (by kernel_rfl) (by kernel_rfl) H_spec_l04File (by kernel_rfl) hne fun ⟨⟨c0, c1, c2, ⟨⟩⟩, id, ⟨⟩⟩ hin hp =>
  Eq.mpr ((by kernel_rfl : awp Θ Γ_spec_l04File H_spec_l04File (codeOf f107) (endsX Θ f107.results.toList sh_spec_l04File rsh_spec_l04File (F_spec_l04File ((c0, c1, c2, ()), id, ())).2) (entryX f107.ntmps (xsVals sh_spec_l04File ((c0, c1, c2, ()), id, ()))) = VC_spec_l04File c0 c1 c2 id fun (r : ((Int × Int × Bool × Int × List (List UInt8 × Int × Int × List UInt8 × Unit) × Unit) × Unit) × (List (Int × Unit) × Int × Int × Unit) × Unit) => ((0 : Int) ≤ c1, fun (x : ((Int × Int × Bool × Int × List (List UInt8 × Int × Int × List UInt8 × Unit) × Unit) × Unit) × (List (Int × Unit) × Int × Int × Unit) × Unit) =>
  (0 : Int) ≤ x.2.1.2.1 ∧
  x.1.1.1 = id ∧
  (0 : Int) ≤ x.1.1.2.1 ∧
  x.1.1.2.1 ≤ (2 : Int) ∧
  (0 : Int) ≤ x.1.1.2.2.2.1 ∧ x.1.1.2.2.2.1 ≤ (6 : Int) ∧ Sp.okAttrs Sp.usual x.1.1.2.2.2.2.1 = true ∧ x.1.1.2.2.2.2.1.length ≤ (4 : Nat)).2
  r)) (h c0 c1 c2 id hin hp)

end Go.Proofs.Try

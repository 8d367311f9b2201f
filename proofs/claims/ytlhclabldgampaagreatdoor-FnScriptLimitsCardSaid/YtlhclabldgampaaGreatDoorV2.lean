import Derived.Test.YtlhclabldgampaaGreatDoorF
namespace Go.Proofs.Tryz
open Go Go.Fw
set_option maxRecDepth 100000
def H_impl_FormatAction : Hints := Go.Fw.hints [16, 24, 35, 44, 52, 62, 76, 87] [] [(26, ⟨[(.slot 4 0, 289, 9, (.cons .str .nil), true)], ⟨[(1, .kptr [.int .i64, .int .i64, .sl 33 (.cons (.int .i64) (.cons (.int .i64) (.cons (.int .i64) (.cons .bool (.cons (.int .i64) (.cons (.sl 74 (.cons .str (.cons (.int .i64) (.cons (.int .i64) (.cons .str .nil))))) (.cons (.int .i64) (.cons .str (.cons (.sl 107 (.cons (.int .i64) (.cons (.int .i64) (.cons (.int .i64) (.cons .str (.cons (.int .i64) (.cons (.int .i64) (.cons .str .nil)))))))) .nil))))))))) false, .str, .int .i64] 0), (3, .vptr 192 0)], []⟩, ⟨[(4, .one (.ref 289))], [(192, .var [.int .i64, .int .i64, .nil, .str, .int .i64]), (289, .arr 9 (.cons .str .nil) true)]⟩⟩), (27, ⟨[], ⟨[(1, .kptr [.int .i64, .int .i64, .sl 33 (.cons (.int .i64) (.cons (.int .i64) (.cons (.int .i64) (.cons .bool (.cons (.int .i64) (.cons (.sl 74 (.cons .str (.cons (.int .i64) (.cons (.int .i64) (.cons .str .nil))))) (.cons (.int .i64) (.cons .str (.cons (.sl 107 (.cons (.int .i64) (.cons (.int .i64) (.cons (.int .i64) (.cons .str (.cons (.int .i64) (.cons (.int .i64) (.cons .str .nil)))))))) .nil))))))))) false, .str, .int .i64] 0), (3, .vptr 192 0), (4, .one (.ref 289))], [(192, .var [.int .i64, .int .i64, .nil, .str, .int .i64]), (289, .arr 9 (.cons .str .nil) true)]⟩, ⟨[(5, .one (.bool))], []⟩⟩), (28, ⟨[], ⟨[(1, .kptr [.int .i64, .int .i64, .sl 33 (.cons (.int .i64) (.cons (.int .i64) (.cons (.int .i64) (.cons .bool (.cons (.int .i64) (.cons (.sl 74 (.cons .str (.cons (.int .i64) (.cons (.int .i64) (.cons .str .nil))))) (.cons (.int .i64) (.cons .str (.cons (.sl 107 (.cons (.int .i64) (.cons (.int .i64) (.cons (.int .i64) (.cons .str (.cons (.int .i64) (.cons (.int .i64) (.cons .str .nil)))))))) .nil))))))))) false, .str, .int .i64] 0), (3, .vptr 192 0), (4, .one (.ref 289)), (5, .one (.bool))], [(192, .var [.int .i64, .int .i64, .nil, .str, .int .i64]), (289, .arr 9 (.cons .str .nil) true)]⟩, ⟨[(6, .one (.bool))], []⟩⟩)] [] []
def VC_impl_FormatAction (a0 : Int) (a1 : Int) (a2 : List
  (Int × Int × Int × Bool × Int × List (List UInt8 × Int × Int × List UInt8 × Unit) × Int × List UInt8 × List (Int × Int × Int × List UInt8 × Int × Int × List UInt8 × Unit) × Unit)) (a3 : List UInt8) (a4 : Int) (K : List UInt8 × Unit → Prop) : Prop :=
 let s0 := (((a0, a1, a2, a3, a4, ()), (), ()), ());
  ∃ (J : (Unit × Unit) × (Int × Int × Unit × List UInt8 × Int × Unit) × List (List UInt8 × Unit) × Unit → Prop),
  (bif a0 == (1 : Int) then
  True ∧
  s0 = s0 ∧
  J (((), ()), (a0, a1, (), [], (0 : Int), ()), [([(99 : UInt8), (111 : UInt8), (109 : UInt8), (109 : UInt8), (105 : UInt8), (116 : UInt8)], ()), (Lib.itoa a1, ())], ())
  else
  bif a0 == (2 : Int) then
  True ∧
  True ∧
  s0 = s0 ∧
  J (((), ()), (a0, a1, (), [], a4, ()), [([(99 : UInt8), (114 : UInt8), (97 : UInt8), (115 : UInt8), (104 : UInt8)], ()), (Lib.itoa a1, ()), (Lib.itoa a4, ())], ())
  else
  bif a0 == (3 : Int) then
  True ∧
  s0 = s0 ∧
  J (((), ()), (a0, a1, (), a3, (0 : Int), ()), [([(119 : UInt8), (97 : UInt8), (116 : UInt8), (99 : UInt8), (104 : UInt8)], ()), (Lib.itoa a1, ()), (a3, ())], ())
  else
  bif a0 == (4 : Int) then
  bif a0 == (4 : Int) then
  True ∧
  bif a0 == (5 : Int) then
  ((0 : Int) ≤ (0 : Int) ∧ (0 : Int) < (↑[([(112 : UInt8), (105 : UInt8), (110 : UInt8)], ()), (Lib.itoa a4, ())].length : Int)) ∧
  Int.toNat (0 : Int) < [([(112 : UInt8), (105 : UInt8), (110 : UInt8)], ()), (Lib.itoa a4, ())].length ∧
  s0 = s0 ∧
  J
  (((), ()), (a0, (0 : Int), (), [], a4, ()),
  [([(112 : UInt8), (105 : UInt8), (110 : UInt8)], ()), (Lib.itoa a4, ())].set (Int.toNat (0 : Int))
  ([(117 : UInt8), (110 : UInt8), (112 : UInt8), (105 : UInt8), (110 : UInt8)], ()),
  ())
  else s0 = s0 ∧ J (((), ()), (a0, (0 : Int), (), [], a4, ()), [([(112 : UInt8), (105 : UInt8), (110 : UInt8)], ()), (Lib.itoa a4, ())], ())
  else
  bif a0 == (6 : Int) then
  s0 = s0 ∧
  J
  (((), ()), (a0, (0 : Int), (), [], (0 : Int), ()),
  [([(99 : UInt8), (111 : UInt8), (108 : UInt8), (108 : UInt8), (101 : UInt8), (99 : UInt8), (116 : UInt8)], ())], ())
  else
  bif a0 == (7 : Int) then
  True ∧
  True ∧
  s0 = s0 ∧ J (((), ()), (a0, a1, (), a3, a4, ()), [([(97 : UInt8), (100 : UInt8), (100 : UInt8)], ()), (Lib.itoa a1, ()), (a3, ()), (Lib.itoa a4, ())], ())
  else
  bif a0 == (8 : Int) then
  True ∧
  True ∧
  s0 = s0 ∧
  J
  (((), ()), (a0, a1, (), a3, a4, ()),
  [([(114 : UInt8), (101 : UInt8), (109 : UInt8), (111 : UInt8), (118 : UInt8), (101 : UInt8)], ()), (Lib.itoa a1, ()), (a3, ()), (Lib.itoa a4, ())],
  ())
  else s0 = s0 ∧ J (((), ()), (a0, a1, (), a3, a4, ()), [], ())
  else
  bif a0 == (5 : Int) then
  True ∧
  bif a0 == (5 : Int) then
  ((0 : Int) ≤ (0 : Int) ∧ (0 : Int) < (↑[([(112 : UInt8), (105 : UInt8), (110 : UInt8)], ()), (Lib.itoa a4, ())].length : Int)) ∧
  Int.toNat (0 : Int) < [([(112 : UInt8), (105 : UInt8), (110 : UInt8)], ()), (Lib.itoa a4, ())].length ∧
  s0 = s0 ∧
  J
  (((), ()), (a0, (0 : Int), (), [], a4, ()),
  [([(112 : UInt8), (105 : UInt8), (110 : UInt8)], ()), (Lib.itoa a4, ())].set (Int.toNat (0 : Int))
  ([(117 : UInt8), (110 : UInt8), (112 : UInt8), (105 : UInt8), (110 : UInt8)], ()),
  ())
  else s0 = s0 ∧ J (((), ()), (a0, (0 : Int), (), [], a4, ()), [([(112 : UInt8), (105 : UInt8), (110 : UInt8)], ()), (Lib.itoa a4, ())], ())
  else
  bif a0 == (6 : Int) then
  s0 = s0 ∧
  J
  (((), ()), (a0, (0 : Int), (), [], (0 : Int), ()),
  [([(99 : UInt8), (111 : UInt8), (108 : UInt8), (108 : UInt8), (101 : UInt8), (99 : UInt8), (116 : UInt8)], ())], ())
  else
  bif a0 == (7 : Int) then
  True ∧
  True ∧
  s0 = s0 ∧ J (((), ()), (a0, a1, (), a3, a4, ()), [([(97 : UInt8), (100 : UInt8), (100 : UInt8)], ()), (Lib.itoa a1, ()), (a3, ()), (Lib.itoa a4, ())], ())
  else
  bif a0 == (8 : Int) then
  True ∧
  True ∧
  s0 = s0 ∧
  J
  (((), ()), (a0, a1, (), a3, a4, ()),
  [([(114 : UInt8), (101 : UInt8), (109 : UInt8), (111 : UInt8), (118 : UInt8), (101 : UInt8)], ()), (Lib.itoa a1, ()), (a3, ()), (Lib.itoa a4, ())],
  ())
  else s0 = s0 ∧ J (((), ()), (a0, a1, (), a3, a4, ()), [], ())) ∧
  ∀ (y1 : (Unit × Unit) × (Int × Int × Unit × List UInt8 × Int × Unit) × List (List UInt8 × Unit) × Unit),
  J y1 →
 let s2 :=
  (((a0, a1, a2, a3, a4, ()), (), (), ()), (y1.2.1.1, y1.2.1.2.1, (), y1.2.1.2.2.2.1, y1.2.1.2.2.2.2.1, ()), y1.2.2.1, ());
  ∃ (J : (Bool × Unit) × Unit → Prop),
  (bif a0 == (3 : Int) then s2 = s2 ∧ J ((true, ()), ()) else bif a0 == (7 : Int) then s2 = s2 ∧ J ((true, ()), ()) else s2 = s2 ∧ J ((a0 == (8 : Int), ()), ())) ∧
  ∀ (y3 : (Bool × Unit) × Unit),
  J y3 →
 let s4 :=
  (((a0, a1, a2, a3, a4, ()), (), (), y3.1.1, ()), (y1.2.1.1, y1.2.1.2.1, (), y1.2.1.2.2.2.1, y1.2.1.2.2.2.2.1, ()),
  y1.2.2.1, ());
  ∃ (J : (Bool × Unit) × Unit → Prop),
  (bif a0 == (1 : Int) then s4 = s4 ∧ J ((true, ()), ()) else s4 = s4 ∧ J ((a0 == (2 : Int), ()), ())) ∧
  ∀ (y5 : (Bool × Unit) × Unit),
  J y5 →
  True ∧
 let r6 := Sp.validAct a0 a2.length;
  bif !r6 then K ([], ())
  else
  bif y1.2.1.2.1 != a1 then K ([], ())
  else
  bif !y1.2.1.2.2.2.1 == a3 then K ([], ())
  else
  bif y1.2.1.2.2.2.2.1 != a4 then K ([], ())
  else
  True ∧
 let r7 := Sp.areUints [(a1, ()), (a4, ())];
  bif !r7 then K ([], ())
  else
  bif y3.1.1 then
  True ∧
  bif !Sp.validStr a3 then K ([], ())
  else
  bif !y5.1.1 then
  bif decide ((↑a2.length : Int) > (0 : Int)) then K ([], ())
  else
  (List.length y1.2.2.1 ≤ (140737488355328 : Nat) ∧
  (Lib.join (List.map (fun (x : List UInt8 × Unit) => x.1) y1.2.2.1) [(32 : UInt8)]).length ≤ (140737488355328 : Nat)) ∧
 let r8 := Lib.join (List.map (fun (x : List UInt8 × Unit) => x.1) y1.2.2.1) [(32 : UInt8)];
  K (r8, ())
  else
  (List.length y1.2.2.1 ≤ (140737488355328 : Nat) ∧
  (Lib.join (List.map (fun (x : List UInt8 × Unit) => x.1) y1.2.2.1) [(32 : UInt8)]).length ≤ (140737488355328 : Nat)) ∧
 let r9 := Lib.join (List.map (fun (x : List UInt8 × Unit) => x.1) y1.2.2.1) [(32 : UInt8)];
  K (r9, ())
  else
  bif !y5.1.1 then
  bif decide ((↑a2.length : Int) > (0 : Int)) then K ([], ())
  else
  (List.length y1.2.2.1 ≤ (140737488355328 : Nat) ∧
  (Lib.join (List.map (fun (x : List UInt8 × Unit) => x.1) y1.2.2.1) [(32 : UInt8)]).length ≤ (140737488355328 : Nat)) ∧
 let r10 := Lib.join (List.map (fun (x : List UInt8 × Unit) => x.1) y1.2.2.1) [(32 : UInt8)];
  K (r10, ())
  else
  (List.length y1.2.2.1 ≤ (140737488355328 : Nat) ∧
  (Lib.join (List.map (fun (x : List UInt8 × Unit) => x.1) y1.2.2.1) [(32 : UInt8)]).length ≤ (140737488355328 : Nat)) ∧
 let r11 := Lib.join (List.map (fun (x : List UInt8 × Unit) => x.1) y1.2.2.1) [(32 : UInt8)];
  K (r11, ())
theorem wk_impl_FormatAction (env : EnvB prog G Θ Γ_impl_FormatAction) (h : ∀ (a0 : Int) (a1 : Int) (a2 : List
  (Int × Int × Int × Bool × Int × List (List UInt8 × Int × Int × List UInt8 × Unit) × Int × List UInt8 × List (Int × Int × Int × List UInt8 × Int × Int × List UInt8 × Unit) × Unit)) (a3 : List UInt8) (a4 : Int), psInR sh_impl_FormatAction ((a0, a1, a2, a3, a4, ()), ()) → (a3.length ≤ (1048576 : Nat)) → VC_impl_FormatAction a0 a1 a2 a3 a4 fun r => r = ((Sp.actionText a0 a1 a2.length a3 a4, ()))) : ConOK prog G n_impl_FormatAction con_impl_FormatAction :=
  conR_ok env mixed (fn := f22) (c := codeOf f22) (by kernel_rfl) (by kernel_rfl) H_impl_FormatAction (by kernel_rfl) fun ⟨⟨a0, a1, a2, a3, a4, ⟨⟩⟩, ⟨⟩⟩ hin hp =>
  Eq.mpr ((by kernel_rfl : awp Θ Γ_impl_FormatAction H_impl_FormatAction (codeOf f22) (endsV Θ f22.results.toList rsh_impl_FormatAction fun r => r = (F_impl_FormatAction ((a0, a1, a2, a3, a4, ()), ())).2) (entry f22.ntmps (psVals sh_impl_FormatAction ((a0, a1, a2, a3, a4, ()), ()))) = VC_impl_FormatAction a0 a1 a2 a3 a4 fun r => r = ((Sp.actionText a0 a1 a2.length a3 a4, ())))) (h a0 a1 a2 a3 a4 hin hp)

def H_impl_ParseAction : Hints := Go.Fw.hints [] [] [(4, ⟨[], ⟨[(2, .vptr 128 0), (4, .one (.sl 9 (.cons .str .nil) true)), (5, .one (.bool))], [(128, .var [.int .i64, .int .i64, .nil, .str, .int .i64])]⟩, ⟨[], []⟩⟩), (19, ⟨[], ⟨[(2, .vptr 128 0), (4, .one (.sl 9 (.cons .str .nil) true)), (5, .one (.bool)), (6, .vptr 384 0), (23, .one (.str))], [(128, .var [.int .i64, .int .i64, .nil, .str, .int .i64]), (384, .var [.int .i64, .int .i64, .nil, .str, .int .i64])]⟩, ⟨[(60, .one (.bool))], []⟩⟩), (33, ⟨[], ⟨[(2, .vptr 128 0), (4, .one (.sl 9 (.cons .str .nil) true)), (6, .vptr 384 0)], [(128, .var [.int .i64, .int .i64, .nil, .str, .int .i64])]⟩, ⟨[(5, .one (.bool))], [(384, .var [.int .i64, .int .i64, .nil, .str, .int .i64])]⟩⟩)] [] []
def VC_impl_ParseAction (line : List UInt8) (K : (Int ×
  Int ×
  List
  (Int ×
  Int ×
  Int ×
  Bool × Int × List (List UInt8 × Int × Int × List UInt8 × Unit) × Int × List UInt8 × List (Int × Int × Int × List UInt8 × Int × Int × List UInt8 × Unit) × Unit) ×
  List UInt8 × Int × Unit) ×
  Bool × Unit → Prop) : Prop :=
  line.length ≤ (1048576 : Nat) ∧
 let s0 : (Unit × List (List UInt8 × Unit) × Bool × Unit) × (Int × Int × Unit × List UInt8 × Int × Unit) × Unit :=
  (((), Sp.splitF line, Sp.splitOk line, ()), ((0 : Int), (0 : Int), (), [], (0 : Int), ()), ());
  ∃ (J : Unit × Unit → Prop),
  (bif !Sp.splitOk line then K (((0 : Int), (0 : Int), [], [], (0 : Int), ()), false, ())
  else bif (↑(List.length (Sp.splitF line)) : Int) == (0 : Int) then K (((0 : Int), (0 : Int), [], [], (0 : Int), ()), false, ()) else s0 = s0 ∧ J ((), ())) ∧
  ∀ (y1 : Unit × Unit),
  J y1 →
 let s2 : (Unit × List (List UInt8 × Unit) × Unit × Unit) × (Int × Int × Unit × List UInt8 × Int × Unit) × Unit :=
  (((), Sp.splitF line, (), ()), ((0 : Int), (0 : Int), (), [], (0 : Int), ()), ());
  ∃ (J : (Bool × Unit) × (Int × Int × Unit × List UInt8 × Int × Unit) × Unit → Prop),
  (((0 : Int) ≤ (0 : Int) ∧ (0 : Int) < (↑(List.length (Sp.splitF line)) : Int)) ∧
  bif
  (List.getD (Sp.splitF line) (Int.toNat (0 : Int)) ([], ())).1 ==
  [(99 : UInt8), (111 : UInt8), (109 : UInt8), (109 : UInt8), (105 : UInt8), (116 : UInt8)] then
  (0 : Int) ≤ (1 : Int) ∧
 let r3 : Int := Sp.numAt (Sp.splitF line) (1 : Int);
 let r4 : Bool := Sp.parseOk (Sp.wordAt (Sp.splitF line) (1 : Int));
  s2 = s2 ∧ J ((r4, ()), ((1 : Int), r3, (), [], (0 : Int), ()), ())
  else
  bif (List.getD (Sp.splitF line) (Int.toNat (0 : Int)) ([], ())).1 == [(99 : UInt8), (114 : UInt8), (97 : UInt8), (115 : UInt8), (104 : UInt8)] then
  (0 : Int) ≤ (1 : Int) ∧
 let r5 : Int := Sp.numAt (Sp.splitF line) (1 : Int);
  (0 : Int) ≤ (2 : Int) ∧
 let r7 : Int := Sp.numAt (Sp.splitF line) (2 : Int);
 let r8 : Bool := Sp.parseOk (Sp.wordAt (Sp.splitF line) (2 : Int));
  s2 = s2 ∧ J ((r8, ()), ((2 : Int), r5, (), [], r7, ()), ())
  else
  bif (List.getD (Sp.splitF line) (Int.toNat (0 : Int)) ([], ())).1 == [(119 : UInt8), (97 : UInt8), (116 : UInt8), (99 : UInt8), (104 : UInt8)] then
  (0 : Int) ≤ (1 : Int) ∧
 let r9 : Int := Sp.numAt (Sp.splitF line) (1 : Int);
 let r10 : Bool := Sp.parseOk (Sp.wordAt (Sp.splitF line) (1 : Int));
  (0 : Int) ≤ (2 : Int) ∧
 let r11 : Sp.Bytes := Sp.wordAt (Sp.splitF line) (2 : Int);
  s2 = s2 ∧ J ((r10, ()), ((3 : Int), r9, (), r11, (0 : Int), ()), ())
  else
 let s12 :
  (Unit × List (List UInt8 × Unit) × Bool × Unit × List UInt8 × Unit) ×
  (Int × Int × Unit × List UInt8 × Int × Unit) × (Int × Int × Unit × List UInt8 × Int × Unit) × Unit :=
  (((), Sp.splitF line, Sp.splitOk line, (), (List.getD (Sp.splitF line) (Int.toNat (0 : Int)) ([], ())).1, ()),
  ((0 : Int), (0 : Int), (), [], (0 : Int), ()), ((0 : Int), (0 : Int), (), [], (0 : Int), ()), ());
  ∃ (J_1 : (Bool × Unit) × Unit → Prop),
  (bif (List.getD (Sp.splitF line) (Int.toNat (0 : Int)) ([], ())).1 == [(112 : UInt8), (105 : UInt8), (110 : UInt8)] then
  s12 = s12 ∧ J_1 (((List.getD (Sp.splitF line) (Int.toNat (0 : Int)) ([], ())).1 == [(112 : UInt8), (105 : UInt8), (110 : UInt8)], ()), ())
  else
  s12 = s12 ∧
  J_1
  (((List.getD (Sp.splitF line) (Int.toNat (0 : Int)) ([], ())).1 == [(117 : UInt8), (110 : UInt8), (112 : UInt8), (105 : UInt8), (110 : UInt8)],
  ()),
  ())) ∧
  ∀ (y13 : (Bool × Unit) × Unit),
  J_1 y13 →
  bif y13.1.1 then
  ((0 : Int) ≤ (0 : Int) ∧ (0 : Int) < (↑(List.length (Sp.splitF line)) : Int)) ∧
  bif
  (List.getD (Sp.splitF line) (Int.toNat (0 : Int)) ([], ())).1 ==
  [(117 : UInt8), (110 : UInt8), (112 : UInt8), (105 : UInt8), (110 : UInt8)] then
  (0 : Int) ≤ (1 : Int) ∧
 let r14 : Int := Sp.numAt (Sp.splitF line) (1 : Int);
 let r15 : Bool := Sp.parseOk (Sp.wordAt (Sp.splitF line) (1 : Int));
  s2 = s2 ∧ J ((r15, ()), ((5 : Int), (0 : Int), (), [], r14, ()), ())
  else
  (0 : Int) ≤ (1 : Int) ∧
 let r16 : Int := Sp.numAt (Sp.splitF line) (1 : Int);
 let r17 : Bool := Sp.parseOk (Sp.wordAt (Sp.splitF line) (1 : Int));
  s2 = s2 ∧ J ((r17, ()), ((4 : Int), (0 : Int), (), [], r16, ()), ())
  else
  bif
  (List.getD (Sp.splitF line) (Int.toNat (0 : Int)) ([], ())).1 ==
  [(99 : UInt8), (111 : UInt8), (108 : UInt8), (108 : UInt8), (101 : UInt8), (99 : UInt8), (116 : UInt8)] then
  s2 = s2 ∧ J ((Sp.splitOk line, ()), ((6 : Int), (0 : Int), (), [], (0 : Int), ()), ())
  else
  bif (List.getD (Sp.splitF line) (Int.toNat (0 : Int)) ([], ())).1 == [(97 : UInt8), (100 : UInt8), (100 : UInt8)] then
  bif (List.getD (Sp.splitF line) (Int.toNat (0 : Int)) ([], ())).1 == [(97 : UInt8), (100 : UInt8), (100 : UInt8)] then
  ((0 : Int) ≤ (0 : Int) ∧ (0 : Int) < (↑(List.length (Sp.splitF line)) : Int)) ∧
  bif
  (List.getD (Sp.splitF line) (Int.toNat (0 : Int)) ([], ())).1 ==
  [(114 : UInt8), (101 : UInt8), (109 : UInt8), (111 : UInt8), (118 : UInt8), (101 : UInt8)] then
  (0 : Int) ≤ (1 : Int) ∧
 let r18 : Int := Sp.numAt (Sp.splitF line) (1 : Int);
  (0 : Int) ≤ (2 : Int) ∧
 let r20 : Sp.Bytes := Sp.wordAt (Sp.splitF line) (2 : Int);
  (0 : Int) ≤ (3 : Int) ∧
 let r21 : Int := Sp.numAt (Sp.splitF line) (3 : Int);
 let r22 : Bool := Sp.parseOk (Sp.wordAt (Sp.splitF line) (3 : Int));
  s2 = s2 ∧ J ((r22, ()), ((8 : Int), r18, (), r20, r21, ()), ())
  else
  (0 : Int) ≤ (1 : Int) ∧
 let r23 : Int := Sp.numAt (Sp.splitF line) (1 : Int);
  (0 : Int) ≤ (2 : Int) ∧
 let r25 : Sp.Bytes := Sp.wordAt (Sp.splitF line) (2 : Int);
  (0 : Int) ≤ (3 : Int) ∧
 let r26 : Int := Sp.numAt (Sp.splitF line) (3 : Int);
 let r27 : Bool := Sp.parseOk (Sp.wordAt (Sp.splitF line) (3 : Int));
  s2 = s2 ∧ J ((r27, ()), ((7 : Int), r23, (), r25, r26, ()), ())
  else s2 = s2 ∧ J ((Sp.splitOk line, ()), ((0 : Int), (0 : Int), (), [], (0 : Int), ()), ())
  else
  bif
  (List.getD (Sp.splitF line) (Int.toNat (0 : Int)) ([], ())).1 ==
  [(114 : UInt8), (101 : UInt8), (109 : UInt8), (111 : UInt8), (118 : UInt8), (101 : UInt8)] then
  ((0 : Int) ≤ (0 : Int) ∧ (0 : Int) < (↑(List.length (Sp.splitF line)) : Int)) ∧
  bif
  (List.getD (Sp.splitF line) (Int.toNat (0 : Int)) ([], ())).1 ==
  [(114 : UInt8), (101 : UInt8), (109 : UInt8), (111 : UInt8), (118 : UInt8), (101 : UInt8)] then
  (0 : Int) ≤ (1 : Int) ∧
 let r28 : Int := Sp.numAt (Sp.splitF line) (1 : Int);
  (0 : Int) ≤ (2 : Int) ∧
 let r30 : Sp.Bytes := Sp.wordAt (Sp.splitF line) (2 : Int);
  (0 : Int) ≤ (3 : Int) ∧
 let r31 : Int := Sp.numAt (Sp.splitF line) (3 : Int);
 let r32 : Bool := Sp.parseOk (Sp.wordAt (Sp.splitF line) (3 : Int));
  s2 = s2 ∧ J ((r32, ()), ((8 : Int), r28, (), r30, r31, ()), ())
  else
  (0 : Int) ≤ (1 : Int) ∧
 let r33 : Int := Sp.numAt (Sp.splitF line) (1 : Int);
  (0 : Int) ≤ (2 : Int) ∧
 let r35 : Sp.Bytes := Sp.wordAt (Sp.splitF line) (2 : Int);
  (0 : Int) ≤ (3 : Int) ∧
 let r36 : Int := Sp.numAt (Sp.splitF line) (3 : Int);
 let r37 : Bool := Sp.parseOk (Sp.wordAt (Sp.splitF line) (3 : Int));
  s2 = s2 ∧ J ((r37, ()), ((7 : Int), r33, (), r35, r36, ()), ())
  else s2 = s2 ∧ J ((Sp.splitOk line, ()), ((0 : Int), (0 : Int), (), [], (0 : Int), ()), ())) ∧
  ∀ (y38 : (Bool × Unit) × (Int × Int × Unit × List UInt8 × Int × Unit) × Unit),
  J y38 →
  bif !y38.1.1 then K (((0 : Int), (0 : Int), [], [], (0 : Int), ()), false, ())
  else
  List.length y38.2.1.2.2.2.1 ≤ (1048576 : Nat) ∧
 let r39 : Sp.Bytes := Sp.actionText y38.2.1.1 y38.2.1.2.1 (0 : Nat) y38.2.1.2.2.2.1 y38.2.1.2.2.2.2.1;
  (List.length r39 ≤ (1048576 : Nat) ∧ Sp.asciiS r39 = true) ∧
 let r40 : Bool := !r39 == [] && decide (Sp.wordsOf r39 = Sp.splitF line);
  bif !r40 then K (((0 : Int), (0 : Int), [], [], (0 : Int), ()), false, ())
  else K ((y38.2.1.1, y38.2.1.2.1, [], y38.2.1.2.2.2.1, y38.2.1.2.2.2.2.1, ()), true, ())
theorem wk_impl_ParseAction (env : EnvB prog G Θ Γ_impl_ParseAction) (h : ∀ (line : List UInt8), psInR sh_impl_ParseAction (line, ()) → (line.length ≤ (1048576 : Nat)) → VC_impl_ParseAction line fun r => r = ((Sp.parseAct line, Sp.parseActOk line, ()))) : ConOK prog G n_impl_ParseAction con_impl_ParseAction :=
  conR_ok env mixed (fn := f9) (c := codeOf f9) (by kernel_rfl) (by kernel_rfl) H_impl_ParseAction (by kernel_rfl) fun ⟨line, ⟨⟩⟩ hin hp =>
  Eq.mpr ((by kernel_rfl : awp Θ Γ_impl_ParseAction H_impl_ParseAction (codeOf f9) (endsV Θ f9.results.toList rsh_impl_ParseAction fun r => r = (F_impl_ParseAction (line, ())).2) (entry f9.ntmps (psVals sh_impl_ParseAction (line, ()))) = VC_impl_ParseAction line fun r => r = ((Sp.parseAct line, Sp.parseActOk line, ())))) (h line hin hp)

end Go.Proofs.Tryz

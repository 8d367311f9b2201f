import Derived.Test.YtiifcpnpbfjlcaaF
namespace Go.Proofs.Try
open Go Go.Fw
set_option maxRecDepth 100000
def H_laws_FnStoreFind : Hints := Go.Fw.hints [] [] [(14, ⟨[], ⟨[(3, .vptr 192 0), (5, .vptr 320 0), (6, .one (.int .i64)), (7, .one (.bool)), (12, .vptr 768 0), (13, .vptr 832 0), (14, .one (.bool)), (17, .vptr 1088 0), (18, .one (.int .i64)), (19, .vptr 1216 0), (20, .one (.bool))], [(192, .var [.sl 26 (.cons .str (.cons (.int .i64) .nil)) true, .sl 39 (.cons (.int .i64) (.cons (.int .i64) (.cons .bool (.cons (.int .i64) (.cons (.sl 116 (.cons .str (.cons (.int .i64) (.cons (.int .i64) (.cons .str .nil))))) .nil))))) true, .int .i64]), (320, .var [.sl 26 (.cons .str (.cons (.int .i64) .nil)) false, .sl 39 (.cons (.int .i64) (.cons (.int .i64) (.cons .bool (.cons (.int .i64) (.cons (.sl 116 (.cons .str (.cons (.int .i64) (.cons (.int .i64) (.cons .str .nil))))) .nil))))) false, .int .i64]), (768, .var [.int .i64, .int .i64, .bool, .int .i64, .sl 116 (.cons .str (.cons (.int .i64) (.cons (.int .i64) (.cons .str .nil)))) true]), (832, .var [.sl 26 (.cons .str (.cons (.int .i64) .nil)) false, .sl 39 (.cons (.int .i64) (.cons (.int .i64) (.cons .bool (.cons (.int .i64) (.cons (.sl 116 (.cons .str (.cons (.int .i64) (.cons (.int .i64) (.cons .str .nil))))) .nil))))) false, .int .i64]), (1088, .var [.sl 26 (.cons .str (.cons (.int .i64) .nil)) true, .sl 39 (.cons (.int .i64) (.cons (.int .i64) (.cons .bool (.cons (.int .i64) (.cons (.sl 116 (.cons .str (.cons (.int .i64) (.cons (.int .i64) (.cons .str .nil))))) .nil))))) true, .int .i64]), (1216, .var [.sl 26 (.cons .str (.cons (.int .i64) .nil)) false, .sl 39 (.cons (.int .i64) (.cons (.int .i64) (.cons .bool (.cons (.int .i64) (.cons (.sl 116 (.cons .str (.cons (.int .i64) (.cons (.int .i64) (.cons .str .nil))))) .nil))))) false, .int .i64])]⟩, ⟨[], []⟩⟩), (18, ⟨[], ⟨[(3, .vptr 192 0), (5, .vptr 320 0), (7, .one (.bool)), (12, .vptr 768 0), (13, .vptr 832 0), (14, .one (.bool)), (17, .vptr 1088 0), (18, .one (.int .i64)), (19, .vptr 1216 0), (20, .one (.bool))], [(192, .var [.sl 26 (.cons .str (.cons (.int .i64) .nil)) true, .sl 39 (.cons (.int .i64) (.cons (.int .i64) (.cons .bool (.cons (.int .i64) (.cons (.sl 116 (.cons .str (.cons (.int .i64) (.cons (.int .i64) (.cons .str .nil))))) .nil))))) true, .int .i64]), (320, .var [.sl 26 (.cons .str (.cons (.int .i64) .nil)) false, .sl 39 (.cons (.int .i64) (.cons (.int .i64) (.cons .bool (.cons (.int .i64) (.cons (.sl 116 (.cons .str (.cons (.int .i64) (.cons (.int .i64) (.cons .str .nil))))) .nil))))) false, .int .i64]), (768, .var [.int .i64, .int .i64, .bool, .int .i64, .sl 116 (.cons .str (.cons (.int .i64) (.cons (.int .i64) (.cons .str .nil)))) true]), (832, .var [.sl 26 (.cons .str (.cons (.int .i64) .nil)) false, .sl 39 (.cons (.int .i64) (.cons (.int .i64) (.cons .bool (.cons (.int .i64) (.cons (.sl 116 (.cons .str (.cons (.int .i64) (.cons (.int .i64) (.cons .str .nil))))) .nil))))) false, .int .i64]), (1088, .var [.sl 26 (.cons .str (.cons (.int .i64) .nil)) true, .sl 39 (.cons (.int .i64) (.cons (.int .i64) (.cons .bool (.cons (.int .i64) (.cons (.sl 116 (.cons .str (.cons (.int .i64) (.cons (.int .i64) (.cons .str .nil))))) .nil))))) true, .int .i64]), (1216, .var [.sl 26 (.cons .str (.cons (.int .i64) .nil)) false, .sl 39 (.cons (.int .i64) (.cons (.int .i64) (.cons .bool (.cons (.int .i64) (.cons (.sl 116 (.cons .str (.cons (.int .i64) (.cons (.int .i64) (.cons .str .nil))))) .nil))))) false, .int .i64])]⟩, ⟨[], []⟩⟩)] [] []
def VC_laws_FnStoreFind (code : List (Int × Unit)) (K : Bool × Unit → Prop) : Prop :=
  True ∧
 let r0 := decide ((1048576 : Int) < (↑code.length : Int));
  bif r0 then K (true, ())
  else
  code.length ≤ (1048576 : Nat) ∧
  ∀
  (r1 :
  ((List (List UInt8 × Int × Unit) × List (Int × Int × Bool × Int × List (List UInt8 × Int × Int × List UInt8 × Unit) × Unit) × Int × Unit) ×
  (Int × Int × Bool × Int × List (List UInt8 × Int × Int × List UInt8 × Unit) × Unit) × Unit) ×
  Unit),
  Sp.smallS (r1.1.1.1, r1.1.1.2.1, r1.1.1.2.2.1, ()) ∧ Sp.smallF (r1.1.2.1.1, r1.1.2.1.2.1, r1.1.2.1.2.2.1, r1.1.2.1.2.2.2.1, r1.1.2.1.2.2.2.2.1, ()) →
  (Sp.smallS (r1.1.1.1, r1.1.1.2.1, r1.1.1.2.2.1, ()) ∧
  Sp.smallF (r1.1.2.1.1, r1.1.2.1.2.1, r1.1.2.1.2.2.1, r1.1.2.1.2.2.2.1, r1.1.2.1.2.2.2.2.1, ())) ∧
  ∀
  (r2 :
  ((List (List UInt8 × Int × Unit) × List (Int × Int × Bool × Int × List (List UInt8 × Int × Int × List UInt8 × Unit) × Unit) × Int × Unit) × Int × Bool × Unit) ×
  Unit),
  r2.1.1.1 =
  (Sp.createFile (r1.1.1.1, r1.1.1.2.1, r1.1.1.2.2.1, ())
  (r1.1.2.1.1, r1.1.2.1.2.1, r1.1.2.1.2.2.1, r1.1.2.1.2.2.2.1, r1.1.2.1.2.2.2.2.1,
  ())).1.1 ∧
  r2.1.1.2.1 =
  (Sp.createFile (r1.1.1.1, r1.1.1.2.1, r1.1.1.2.2.1, ())
  (r1.1.2.1.1, r1.1.2.1.2.1, r1.1.2.1.2.2.1, r1.1.2.1.2.2.2.1, r1.1.2.1.2.2.2.2.1,
  ())).1.2.1 ∧
  r2.1.1.2.2.1 =
  (Sp.createFile (r1.1.1.1, r1.1.1.2.1, r1.1.1.2.2.1, ())
  (r1.1.2.1.1, r1.1.2.1.2.1, r1.1.2.1.2.2.1, r1.1.2.1.2.2.2.1, r1.1.2.1.2.2.2.2.1,
  ())).1.2.2.1 ∧
  r2.1.2.1 =
  (Sp.createFile (r1.1.1.1, r1.1.1.2.1, r1.1.1.2.2.1, ())
  (r1.1.2.1.1, r1.1.2.1.2.1, r1.1.2.1.2.2.1, r1.1.2.1.2.2.2.1, r1.1.2.1.2.2.2.2.1,
  ())).2.1 ∧
  r2.1.2.2.1 =
  (Sp.createFile (r1.1.1.1, r1.1.1.2.1, r1.1.1.2.2.1, ())
  (r1.1.2.1.1, r1.1.2.1.2.1, r1.1.2.1.2.2.1, r1.1.2.1.2.2.2.1, r1.1.2.1.2.2.2.2.1,
  ())).2.2 →
  (Sp.smallS (r1.1.1.1, r1.1.1.2.1, r1.1.1.2.2.1, ()) ∧
  Sp.smallF (r1.1.2.1.1, r1.1.2.1.2.1, r1.1.2.1.2.2.1, r1.1.2.1.2.2.2.1, r1.1.2.1.2.2.2.2.1, ())) ∧
  ∀
  (r3 :
  ((List (List UInt8 × Int × Unit) × List (Int × Int × Bool × Int × List (List UInt8 × Int × Int × List UInt8 × Unit) × Unit) × Int × Unit) ×
  Int × Bool × Unit) ×
  Unit),
  r3.1.1.1 =
  (Sp.createFile (r1.1.1.1, r1.1.1.2.1, r1.1.1.2.2.1, ())
  (r1.1.2.1.1, r1.1.2.1.2.1, r1.1.2.1.2.2.1, r1.1.2.1.2.2.2.1, r1.1.2.1.2.2.2.2.1,
  ())).1.1 ∧
  r3.1.1.2.1 =
  (Sp.createFile (r1.1.1.1, r1.1.1.2.1, r1.1.1.2.2.1, ())
  (r1.1.2.1.1, r1.1.2.1.2.1, r1.1.2.1.2.2.1, r1.1.2.1.2.2.2.1, r1.1.2.1.2.2.2.2.1,
  ())).1.2.1 ∧
  r3.1.1.2.2.1 =
  (Sp.createFile (r1.1.1.1, r1.1.1.2.1, r1.1.1.2.2.1, ())
  (r1.1.2.1.1, r1.1.2.1.2.1, r1.1.2.1.2.2.1, r1.1.2.1.2.2.2.1, r1.1.2.1.2.2.2.2.1,
  ())).1.2.2.1 ∧
  r3.1.2.1 =
  (Sp.createFile (r1.1.1.1, r1.1.1.2.1, r1.1.1.2.2.1, ())
  (r1.1.2.1.1, r1.1.2.1.2.1, r1.1.2.1.2.2.1, r1.1.2.1.2.2.2.1, r1.1.2.1.2.2.2.2.1,
  ())).2.1 ∧
  r3.1.2.2.1 =
  (Sp.createFile (r1.1.1.1, r1.1.1.2.1, r1.1.1.2.2.1, ())
  (r1.1.2.1.1, r1.1.2.1.2.1, r1.1.2.1.2.2.1, r1.1.2.1.2.2.2.1, r1.1.2.1.2.2.2.2.1,
  ())).2.2 →
  code.length ≤ (1048576 : Nat) ∧
  ∀
  (r4 :
  ((List (List UInt8 × Int × Unit) × List (Int × Int × Bool × Int × List (List UInt8 × Int × Int × List UInt8 × Unit) × Unit) × Int × Unit) ×
  (Int × Int × Bool × Int × List (List UInt8 × Int × Int × List UInt8 × Unit) × Unit) × Unit) ×
  Unit),
  Sp.smallS (r4.1.1.1, r4.1.1.2.1, r4.1.1.2.2.1, ()) ∧
  Sp.smallF (r4.1.2.1.1, r4.1.2.1.2.1, r4.1.2.1.2.2.1, r4.1.2.1.2.2.2.1, r4.1.2.1.2.2.2.2.1, ()) →
  (Sp.smallS (r4.1.1.1, r4.1.1.2.1, r4.1.1.2.2.1, ()) ∧
  Sp.smallF
  (r4.1.2.1.1, r4.1.2.1.2.1, r4.1.2.1.2.2.1, r4.1.2.1.2.2.2.1, r4.1.2.1.2.2.2.2.1,
  ())) ∧
  ∀
  (r5 :
  ((List (List UInt8 × Int × Unit) × List (Int × Int × Bool × Int × List (List UInt8 × Int × Int × List UInt8 × Unit) × Unit) × Int × Unit) ×
  Bool × Unit) ×
  Unit),
  r5.1.1.1 =
  (Sp.replaceFile (r4.1.1.1, r4.1.1.2.1, r4.1.1.2.2.1, ())
  (r4.1.2.1.1, r4.1.2.1.2.1, r4.1.2.1.2.2.1, r4.1.2.1.2.2.2.1,
  r4.1.2.1.2.2.2.2.1, ())).1.1 ∧
  r5.1.1.2.1 =
  (Sp.replaceFile (r4.1.1.1, r4.1.1.2.1, r4.1.1.2.2.1, ())
  (r4.1.2.1.1, r4.1.2.1.2.1, r4.1.2.1.2.2.1, r4.1.2.1.2.2.2.1,
  r4.1.2.1.2.2.2.2.1, ())).1.2.1 ∧
  r5.1.1.2.2.1 =
  (Sp.replaceFile (r4.1.1.1, r4.1.1.2.1, r4.1.1.2.2.1, ())
  (r4.1.2.1.1, r4.1.2.1.2.1, r4.1.2.1.2.2.1, r4.1.2.1.2.2.2.1,
  r4.1.2.1.2.2.2.2.1, ())).1.2.2.1 ∧
  r5.1.2.1 =
  (Sp.replaceFile (r4.1.1.1, r4.1.1.2.1, r4.1.1.2.2.1, ())
  (r4.1.2.1.1, r4.1.2.1.2.1, r4.1.2.1.2.2.1, r4.1.2.1.2.2.2.1,
  r4.1.2.1.2.2.2.2.1, ())).2 →
  (Sp.smallS (r4.1.1.1, r4.1.1.2.1, r4.1.1.2.2.1, ()) ∧
  Sp.smallF
  (r4.1.2.1.1, r4.1.2.1.2.1, r4.1.2.1.2.2.1, r4.1.2.1.2.2.2.1, r4.1.2.1.2.2.2.2.1,
  ())) ∧
  ∀
  (r6 :
  ((List (List UInt8 × Int × Unit) × List (Int × Int × Bool × Int × List (List UInt8 × Int × Int × List UInt8 × Unit) × Unit) × Int × Unit) ×
  Bool × Unit) ×
  Unit),
  r6.1.1.1 =
  (Sp.replaceFile (r4.1.1.1, r4.1.1.2.1, r4.1.1.2.2.1, ())
  (r4.1.2.1.1, r4.1.2.1.2.1, r4.1.2.1.2.2.1, r4.1.2.1.2.2.2.1,
  r4.1.2.1.2.2.2.2.1, ())).1.1 ∧
  r6.1.1.2.1 =
  (Sp.replaceFile (r4.1.1.1, r4.1.1.2.1, r4.1.1.2.2.1, ())
  (r4.1.2.1.1, r4.1.2.1.2.1, r4.1.2.1.2.2.1, r4.1.2.1.2.2.2.1,
  r4.1.2.1.2.2.2.2.1, ())).1.2.1 ∧
  r6.1.1.2.2.1 =
  (Sp.replaceFile (r4.1.1.1, r4.1.1.2.1, r4.1.1.2.2.1, ())
  (r4.1.2.1.1, r4.1.2.1.2.1, r4.1.2.1.2.2.1, r4.1.2.1.2.2.2.1,
  r4.1.2.1.2.2.2.2.1, ())).1.2.2.1 ∧
  r6.1.2.1 =
  (Sp.replaceFile (r4.1.1.1, r4.1.1.2.1, r4.1.1.2.2.1, ())
  (r4.1.2.1.1, r4.1.2.1.2.1, r4.1.2.1.2.2.1, r4.1.2.1.2.2.2.1,
  r4.1.2.1.2.2.2.2.1, ())).2 →
  code.length ≤ (1048576 : Nat) ∧
  ∀
  (r7 :
  ((List (List UInt8 × Int × Unit) ×
  List (Int × Int × Bool × Int × List (List UInt8 × Int × Int × List UInt8 × Unit) × Unit) × Int × Unit) ×
  Int × Unit) ×
  Unit),
  Sp.smallS (r7.1.1.1, r7.1.1.2.1, r7.1.1.2.2.1, ()) →
  Sp.smallS (r7.1.1.1, r7.1.1.2.1, r7.1.1.2.2.1, ()) ∧
  ∀
  (r8 :
  ((List (List UInt8 × Int × Unit) ×
  List (Int × Int × Bool × Int × List (List UInt8 × Int × Int × List UInt8 × Unit) × Unit) × Int × Unit) ×
  Bool × Unit) ×
  Unit),
  r8.1.1.1 = (Sp.deleteFile (r7.1.1.1, r7.1.1.2.1, r7.1.1.2.2.1, ()) r7.1.2.1).1.1 ∧
  r8.1.1.2.1 = (Sp.deleteFile (r7.1.1.1, r7.1.1.2.1, r7.1.1.2.2.1, ()) r7.1.2.1).1.2.1 ∧
  r8.1.1.2.2.1 =
  (Sp.deleteFile (r7.1.1.1, r7.1.1.2.1, r7.1.1.2.2.1, ()) r7.1.2.1).1.2.2.1 ∧
  r8.1.2.1 = (Sp.deleteFile (r7.1.1.1, r7.1.1.2.1, r7.1.1.2.2.1, ()) r7.1.2.1).2 →
  Sp.smallS (r7.1.1.1, r7.1.1.2.1, r7.1.1.2.2.1, ()) ∧
  ∀
  (r9 :
  ((List (List UInt8 × Int × Unit) ×
  List (Int × Int × Bool × Int × List (List UInt8 × Int × Int × List UInt8 × Unit) × Unit) × Int × Unit) ×
  Bool × Unit) ×
  Unit),
  r9.1.1.1 = (Sp.deleteFile (r7.1.1.1, r7.1.1.2.1, r7.1.1.2.2.1, ()) r7.1.2.1).1.1 ∧
  r9.1.1.2.1 =
  (Sp.deleteFile (r7.1.1.1, r7.1.1.2.1, r7.1.1.2.2.1, ()) r7.1.2.1).1.2.1 ∧
  r9.1.1.2.2.1 =
  (Sp.deleteFile (r7.1.1.1, r7.1.1.2.1, r7.1.1.2.2.1, ()) r7.1.2.1).1.2.2.1 ∧
  r9.1.2.1 = (Sp.deleteFile (r7.1.1.1, r7.1.1.2.1, r7.1.1.2.2.1, ()) r7.1.2.1).2 →
 let s10 :=
  (((), (), r2.1.2.1, r2.1.2.2.1, (), (), r5.1.2.1, (), r7.1.2.1, (), r8.1.2.1, ()),
  (r1.1.1.1, r1.1.1.2.1, r1.1.1.2.2.1, ()),
  (r2.1.1.1, r2.1.1.2.1, r2.1.1.2.2.1, ()),
  (r4.1.2.1.1, r4.1.2.1.2.1, r4.1.2.1.2.2.1, r4.1.2.1.2.2.2.1,
  r4.1.2.1.2.2.2.2.1, ()),
  (r5.1.1.1, r5.1.1.2.1, r5.1.1.2.2.1, ()),
  (r7.1.1.1, r7.1.1.2.1, r7.1.1.2.2.1, ()),
  (r8.1.1.1, r8.1.1.2.1, r8.1.1.2.2.1, ()), ());
  ∃ (J : Unit × Unit → Prop),
  (bif !r2.1.2.2.1 == r3.1.2.2.1 then K (false, ())
  else
  bif r2.1.2.1 != r3.1.2.1 then K (false, ())
  else
  True ∧
 let r11 :=
  decide
  ((r2.1.1.1, r2.1.1.2.1, r2.1.1.2.2.1, ()) =
  (r3.1.1.1, r3.1.1.2.1, r3.1.1.2.2.1, ()));
  bif !r11 then K (false, ())
  else
  bif !r5.1.2.1 == r6.1.2.1 then K (false, ())
  else
  True ∧
 let r12 :=
  decide
  ((r5.1.1.1, r5.1.1.2.1, r5.1.1.2.2.1, ()) =
  (r6.1.1.1, r6.1.1.2.1, r6.1.1.2.2.1, ()));
  bif !r12 then K (false, ())
  else
  bif !r8.1.2.1 == r9.1.2.1 then K (false, ())
  else
  True ∧
 let r13 :=
  decide
  ((r8.1.1.1, r8.1.1.2.1, r8.1.1.2.2.1, ()) =
  (r9.1.1.1, r9.1.1.2.1, r9.1.1.2.2.1, ()));
  bif !r13 then K (false, ()) else s10 = s10 ∧ J ((), ())) ∧
  ∀ (y14 : Unit × Unit),
  J y14 →
 let s15 :=
  (((), (), r2.1.2.2.1, (), (), r5.1.2.1, (), r7.1.2.1, (), r8.1.2.1, ()),
  (r1.1.1.1, r1.1.1.2.1, r1.1.1.2.2.1, ()),
  (r2.1.1.1, r2.1.1.2.1, r2.1.1.2.2.1, ()),
  (r4.1.2.1.1, r4.1.2.1.2.1, r4.1.2.1.2.2.1, r4.1.2.1.2.2.2.1,
  r4.1.2.1.2.2.2.2.1, ()),
  (r5.1.1.1, r5.1.1.2.1, r5.1.1.2.2.1, ()),
  (r7.1.1.1, r7.1.1.2.1, r7.1.1.2.2.1, ()),
  (r8.1.1.1, r8.1.1.2.1, r8.1.1.2.2.1, ()), ());
  ∃ (J : Unit × Unit → Prop),
  (bif r2.1.2.2.1 then
  Sp.smallS (r2.1.1.1, r2.1.1.2.1, r2.1.1.2.2.1, ()) ∧
 let r16 :=
  (Sp.findFile (r2.1.1.1, r2.1.1.2.1, r2.1.1.2.2.1, ()) r2.1.2.1).1.1;
 let r21 :=
  (Sp.findFile (r2.1.1.1, r2.1.1.2.1, r2.1.1.2.2.1, ()) r2.1.2.1).2;
  bif !r21 then K (false, ())
  else
  bif r16 != r2.1.2.1 then K (false, ())
  else
  bif
  (↑(List.length r2.1.1.2.1) : Int) !=
  IntKind.i64.wrap ((↑(List.length r1.1.1.2.1) : Int) + (1 : Int)) then
  K (false, ())
  else
  True ∧
 let r22 := Sp.okStore (r2.1.1.1, r2.1.1.2.1, r2.1.1.2.2.1, ());
  bif !r22 then K (false, ()) else s15 = s15 ∧ J ((), ())
  else s15 = s15 ∧ J ((), ())) ∧
  ∀ (y23 : Unit × Unit),
  J y23 →
  Sp.smallS (r8.1.1.1, r8.1.1.2.1, r8.1.1.2.2.1, ()) ∧
 let r29 :=
  (Sp.findFile (r8.1.1.1, r8.1.1.2.1, r8.1.1.2.2.1, ()) r7.1.2.1).2;
  Sp.smallS (r5.1.1.1, r5.1.1.2.1, r5.1.1.2.2.1, ()) ∧
 let r30 :=
  (Sp.findFile (r5.1.1.1, r5.1.1.2.1, r5.1.1.2.2.1, ())
  r4.1.2.1.1).1.1;
 let r31 :=
  (Sp.findFile (r5.1.1.1, r5.1.1.2.1, r5.1.1.2.2.1, ())
  r4.1.2.1.1).1.2.1;
 let r32 :=
  (Sp.findFile (r5.1.1.1, r5.1.1.2.1, r5.1.1.2.2.1, ())
  r4.1.2.1.1).1.2.2.1;
 let r33 :=
  (Sp.findFile (r5.1.1.1, r5.1.1.2.1, r5.1.1.2.2.1, ())
  r4.1.2.1.1).1.2.2.2.1;
 let r34 :=
  (Sp.findFile (r5.1.1.1, r5.1.1.2.1, r5.1.1.2.2.1, ())
  r4.1.2.1.1).1.2.2.2.2.1;
 let r35 :=
  (Sp.findFile (r5.1.1.1, r5.1.1.2.1, r5.1.1.2.2.1, ())
  r4.1.2.1.1).2;
  bif !r5.1.2.1 then
  bif !r8.1.2.1 then
  bif r2.1.2.2.1 then K (true, ())
  else
  True ∧
 let r36 :=
  decide
  ((r2.1.1.1, r2.1.1.2.1, r2.1.1.2.2.1, ()) =
  (r1.1.1.1, r1.1.1.2.1, r1.1.1.2.2.1, ()));
  K (r36, ())
  else
  bif !r29 then
  bif
  (↑(List.length r8.1.1.2.1) : Int) ==
  IntKind.i64.wrap ((↑(List.length r7.1.1.2.1) : Int) - (1 : Int)) then
  bif r2.1.2.2.1 then K (true, ())
  else
  True ∧
 let r37 :=
  decide
  ((r2.1.1.1, r2.1.1.2.1, r2.1.1.2.2.1, ()) =
  (r1.1.1.1, r1.1.1.2.1, r1.1.1.2.2.1, ()));
  K (r37, ())
  else K (false, ())
  else K (false, ())
  else
  bif r35 then
  True ∧
 let r38 :=
  decide
  ((r30, r31, r32, r33, r34, ()) =
  (r4.1.2.1.1, r4.1.2.1.2.1, r4.1.2.1.2.2.1,
  r4.1.2.1.2.2.2.1, r4.1.2.1.2.2.2.2.1, ()));
  bif r38 then
  True ∧
 let r39 := Sp.okStore (r5.1.1.1, r5.1.1.2.1, r5.1.1.2.2.1, ());
  bif r39 then
  bif !r8.1.2.1 then
  bif r2.1.2.2.1 then K (true, ())
  else
  True ∧
 let r40 :=
  decide
  ((r2.1.1.1, r2.1.1.2.1, r2.1.1.2.2.1, ()) =
  (r1.1.1.1, r1.1.1.2.1, r1.1.1.2.2.1, ()));
  K (r40, ())
  else
  bif !r29 then
  bif
  (↑(List.length r8.1.1.2.1) : Int) ==
  IntKind.i64.wrap ((↑(List.length r7.1.1.2.1) : Int) - (1 : Int)) then
  bif r2.1.2.2.1 then K (true, ())
  else
  True ∧
 let r41 :=
  decide
  ((r2.1.1.1, r2.1.1.2.1, r2.1.1.2.2.1, ()) =
  (r1.1.1.1, r1.1.1.2.1, r1.1.1.2.2.1, ()));
  K (r41, ())
  else K (false, ())
  else K (false, ())
  else K (false, ())
  else K (false, ())
  else K (false, ())
theorem wk_laws_FnStoreFind (env : EnvB prog G Θ Γ_laws_FnStoreFind) (h : ∀ (code : List (Int × Unit)), psInR sh_laws_FnStoreFind (code, ()) → (True) → VC_laws_FnStoreFind code fun r => r = ((true, ()))) : ConOK prog G n_laws_FnStoreFind con_laws_FnStoreFind :=
  conR_ok env mixed (fn := f5) (c := codeOf f5) (by kernel_rfl) (by kernel_rfl) H_laws_FnStoreFind (by kernel_rfl) fun ⟨code, ⟨⟩⟩ hin hp =>
  Eq.mpr ((by kernel_rfl : awp Θ Γ_laws_FnStoreFind H_laws_FnStoreFind (codeOf f5) (endsV Θ f5.results.toList rsh_laws_FnStoreFind fun r => r = (F_laws_FnStoreFind (code, ())).2) (entry f5.ntmps (psVals sh_laws_FnStoreFind (code, ()))) = VC_laws_FnStoreFind code fun r => r = ((true, ())))) (h code hin hp)

def H_laws_FnStoreIDs : Hints := Go.Fw.hints [] [] [(8, ⟨[], ⟨[], []⟩, ⟨[], []⟩⟩)] [] []
def VC_laws_FnStoreIDs (code : List (Int × Unit)) (K : Bool × Unit → Prop) : Prop :=
  True ∧
 let r0 := decide ((1048576 : Int) < (↑code.length : Int));
  bif r0 then K (true, ())
  else
  code.length ≤ (1048576 : Nat) ∧
  ∀ (r1 : ((List (List UInt8 × Int × Unit) × List (Int × Int × Bool × Int × List (List UInt8 × Int × Int × List UInt8 × Unit) × Unit) × Int × Unit) × Unit) × Unit),
  Sp.smallS (r1.1.1.1, r1.1.1.2.1, r1.1.1.2.2.1, ()) →
  code.length ≤ (1048576 : Nat) ∧
  ∀
  (r2 :
  ((List (List UInt8 × Int × Unit) × List (Int × Int × Bool × Int × List (List UInt8 × Int × Int × List UInt8 × Unit) × Unit) × Int × Unit) ×
  (List (List UInt8 × Int × Unit) × List (Int × Int × Bool × Int × List (List UInt8 × Int × Int × List UInt8 × Unit) × Unit) × Int × Unit) × Unit) ×
  Unit),
  Sp.smallS (r2.1.1.1, r2.1.1.2.1, r2.1.1.2.2.1, ()) ∧ Sp.smallS (r2.1.2.1.1, r2.1.2.1.2.1, r2.1.2.1.2.2.1, ()) →
  code.length ≤ (1048576 : Nat) ∧
  ∀ (r3 : (List (List UInt8 × Int × Unit) × Unit) × Unit),
  r3.1.1.length.le (6 : Nat) →
 let s4 := ((), ());
  ∃ (J : Unit × Unit → Prop),
  (List.length r1.1.1.2.1 ≤ (1000 : Nat) ∧
 let r5 := Sp.fileIDs r1.1.1.2.1;
  List.length r1.1.1.2.1 ≤ (1000 : Nat) ∧
 let r6 := Sp.fileIDs r1.1.1.2.1;
  True ∧
 let r7 := decide (r5 = r6);
  bif !r7 then K (false, ())
  else
  True ∧
 let r8 :=
  decide
  ((r2.1.1.1, r2.1.1.2.1, r2.1.1.2.2.1, ()) =
  (r2.1.2.1.1, r2.1.2.1.2.1, r2.1.2.1.2.2.1, ()));
  True ∧
 let r9 :=
  decide
  ((r2.1.1.1, r2.1.1.2.1, r2.1.1.2.2.1, ()) =
  (r2.1.2.1.1, r2.1.2.1.2.1, r2.1.2.1.2.2.1, ()));
  bif !r8 == r9 then K (false, ())
  else
  List.length r3.1.1 ≤ (1000 : Nat) ∧
 let r10 := r3.1.1;
 let r11 := [];
  List.length r3.1.1 ≤ (1000 : Nat) ∧
  ∀
  (r12 :
  ((List (List UInt8 × Int × Unit) ×
  List (Int × Int × Bool × Int × List (List UInt8 × Int × Int × List UInt8 × Unit) × Unit) × Int × Unit) ×
  Unit) ×
  Unit),
  r12.1.1.1 = r3.1.1 ∧ r12.1.1.2.1 = [] ∧ r12.1.1.2.2.1 = (1 : Int) →
  True ∧
 let r13 := decide ((r10, r11, (1 : Int), ()) = (r12.1.1.1, r12.1.1.2.1, r12.1.1.2.2.1, ()));
  bif !r13 then K (false, ())
  else
  True ∧
 let r14 := Sp.okStore (r1.1.1.1, r1.1.1.2.1, r1.1.1.2.2.1, ());
  True ∧
 let r15 := Sp.okStore (r1.1.1.1, r1.1.1.2.1, r1.1.1.2.2.1, ());
  bif !r14 == r15 then K (false, ()) else s4 = s4 ∧ J ((), ())) ∧
  ∀ (y16 : Unit × Unit),
  J y16 →
  True ∧
  ∀
  (r17 :
  ((List (List UInt8 × Int × Unit) × List (Int × Int × Bool × Int × List (List UInt8 × Int × Int × List UInt8 × Unit) × Unit) × Int × Unit) ×
  Unit) ×
  Unit),
  r17.1.1.1 = (Sp.sample (3 : Int)).1 ∧ r17.1.1.2.1 = (Sp.sample (3 : Int)).2.1 ∧ r17.1.1.2.2.1 = (Sp.sample (3 : Int)).2.2.1 →
  (Sp.smallS (r17.1.1.1, r17.1.1.2.1, r17.1.1.2.2.1, ()) ∧ Sp.smallF ((0 : Int), (0 : Int), false, (0 : Int), [], ())) ∧
  ∀
  (r18 :
  ((List (List UInt8 × Int × Unit) ×
  List (Int × Int × Bool × Int × List (List UInt8 × Int × Int × List UInt8 × Unit) × Unit) × Int × Unit) ×
  Int × Bool × Unit) ×
  Unit),
  r18.1.1.1 =
  (Sp.createFile (r17.1.1.1, r17.1.1.2.1, r17.1.1.2.2.1, ())
  ((0 : Int), (0 : Int), false, (0 : Int), [], ())).1.1 ∧
  r18.1.1.2.1 =
  (Sp.createFile (r17.1.1.1, r17.1.1.2.1, r17.1.1.2.2.1, ())
  ((0 : Int), (0 : Int), false, (0 : Int), [], ())).1.2.1 ∧
  r18.1.1.2.2.1 =
  (Sp.createFile (r17.1.1.1, r17.1.1.2.1, r17.1.1.2.2.1, ())
  ((0 : Int), (0 : Int), false, (0 : Int), [], ())).1.2.2.1 ∧
  r18.1.2.1 =
  (Sp.createFile (r17.1.1.1, r17.1.1.2.1, r17.1.1.2.2.1, ())
  ((0 : Int), (0 : Int), false, (0 : Int), [], ())).2.1 ∧
  r18.1.2.2.1 =
  (Sp.createFile (r17.1.1.1, r17.1.1.2.1, r17.1.1.2.2.1, ())
  ((0 : Int), (0 : Int), false, (0 : Int), [], ())).2.2 →
  Sp.smallS (r18.1.1.1, r18.1.1.2.1, r18.1.1.2.2.1, ()) ∧
  ∀
  (r19 :
  ((List (List UInt8 × Int × Unit) ×
  List (Int × Int × Bool × Int × List (List UInt8 × Int × Int × List UInt8 × Unit) × Unit) × Int × Unit) ×
  Bool × Unit) ×
  Unit),
  r19.1.1.1 = (Sp.deleteFile (r18.1.1.1, r18.1.1.2.1, r18.1.1.2.2.1, ()) r18.1.2.1).1.1 ∧
  r19.1.1.2.1 = (Sp.deleteFile (r18.1.1.1, r18.1.1.2.1, r18.1.1.2.2.1, ()) r18.1.2.1).1.2.1 ∧
  r19.1.1.2.2.1 =
  (Sp.deleteFile (r18.1.1.1, r18.1.1.2.1, r18.1.1.2.2.1, ()) r18.1.2.1).1.2.2.1 ∧
  r19.1.2.1 = (Sp.deleteFile (r18.1.1.1, r18.1.1.2.1, r18.1.1.2.2.1, ()) r18.1.2.1).2 →
  (Sp.smallS (r19.1.1.1, r19.1.1.2.1, r19.1.1.2.2.1, ()) ∧
  Sp.smallF ((0 : Int), (0 : Int), false, (0 : Int), [], ())) ∧
  ∀
  (r20 :
  ((List (List UInt8 × Int × Unit) ×
  List (Int × Int × Bool × Int × List (List UInt8 × Int × Int × List UInt8 × Unit) × Unit) × Int × Unit) ×
  Int × Bool × Unit) ×
  Unit),
  r20.1.1.1 =
  (Sp.createFile (r19.1.1.1, r19.1.1.2.1, r19.1.1.2.2.1, ())
  ((0 : Int), (0 : Int), false, (0 : Int), [], ())).1.1 ∧
  r20.1.1.2.1 =
  (Sp.createFile (r19.1.1.1, r19.1.1.2.1, r19.1.1.2.2.1, ())
  ((0 : Int), (0 : Int), false, (0 : Int), [], ())).1.2.1 ∧
  r20.1.1.2.2.1 =
  (Sp.createFile (r19.1.1.1, r19.1.1.2.1, r19.1.1.2.2.1, ())
  ((0 : Int), (0 : Int), false, (0 : Int), [], ())).1.2.2.1 ∧
  r20.1.2.1 =
  (Sp.createFile (r19.1.1.1, r19.1.1.2.1, r19.1.1.2.2.1, ())
  ((0 : Int), (0 : Int), false, (0 : Int), [], ())).2.1 ∧
  r20.1.2.2.1 =
  (Sp.createFile (r19.1.1.1, r19.1.1.2.1, r19.1.1.2.2.1, ())
  ((0 : Int), (0 : Int), false, (0 : Int), [], ())).2.2 →
  bif r18.1.2.2.1 then
  bif r19.1.2.1 then
  bif r20.1.2.2.1 then
  bif decide (r20.1.2.1 > r18.1.2.1) then K (decide (r18.1.2.1 > (1 : Int)), ()) else K (false, ())
  else K (false, ())
  else K (false, ())
  else K (false, ())
theorem wk_laws_FnStoreIDs (env : EnvB prog G Θ Γ_laws_FnStoreIDs) (h : ∀ (code : List (Int × Unit)), psInR sh_laws_FnStoreIDs (code, ()) → (True) → VC_laws_FnStoreIDs code fun r => r = ((true, ()))) : ConOK prog G n_laws_FnStoreIDs con_laws_FnStoreIDs :=
  conR_ok env mixed (fn := f7) (c := codeOf f7) (by kernel_rfl) (by kernel_rfl) H_laws_FnStoreIDs (by kernel_rfl) fun ⟨code, ⟨⟩⟩ hin hp =>
  Eq.mpr ((by kernel_rfl : awp Θ Γ_laws_FnStoreIDs H_laws_FnStoreIDs (codeOf f7) (endsV Θ f7.results.toList rsh_laws_FnStoreIDs fun r => r = (F_laws_FnStoreIDs (code, ())).2) (entry f7.ntmps (psVals sh_laws_FnStoreIDs (code, ()))) = VC_laws_FnStoreIDs code fun r => r = ((true, ())))) (h code hin hp)

end Go.Proofs.Try

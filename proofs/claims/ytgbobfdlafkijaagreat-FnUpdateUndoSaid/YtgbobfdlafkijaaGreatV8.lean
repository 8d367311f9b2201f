import Derived.Test.YtgbobfdlafkijaaGreatV1
namespace Go.Proofs.Tryz
open Go Go.Fw
set_option maxRecDepth 100000
open Go.IntKind (i64)
def ahJ:Hints:=Go.Fw.hints [] [] [] [] []
def afA (code:bV) (K:dD→Prop):Prop:=
 True∧
 let r0:=decide ((1048576:Int)<(↑code.length:Int));
  bif r0 then K (true,())
  else
  code.length≤(1048576:Nat)∧
  ∀
  (r1:
  abU),
  Sp.XL r1.1.1→
  code.length≤(1048576:Nat)∧
  ∀ (r2:EF),
  (r2.1.1.length=(12:Nat)∧∀ (x:iV),x∈r2.1.1→(0:Int)≤x.1∧x.1<(10000:Int))→
  ((0:Int)≤(0:Int)∧(0:Int)<(↑(List.length r2.1.1):Int))∧
  (↑(List.length r1.1.1.2.1):Int)≠(0:Int)∧
  ((0:Int)≤Int.tmod (List.getD r2.1.1 (Int.toNat (0:Int)) ((0:Int),())).1 (↑(List.length r1.1.1.2.1):Int)∧
  Int.tmod (List.getD r2.1.1 (Int.toNat (0:Int)) ((0:Int),())).1 (↑(List.length r1.1.1.2.1):Int)<
  (↑(List.length r1.1.1.2.1):Int))∧
  ((0:Int)≤(1:Int)∧(1:Int)<(↑(List.length r2.1.1):Int))∧
  (5:Int)≠(0:Int)∧
  True∧
 let r3:=Int.tmod (List.getD r2.1.1 (Int.toNat (1:Int)) ((0:Int),())).1 (5:Int);
  List.length
  (List.getD r1.1.1.2.1
  (Int.tmod (List.getD r2.1.1 (Int.toNat (0:Int)) ((0:Int),())).1 (↑(List.length r1.1.1.2.1):Int)).toNat
  ((0:Int),(0:Int),false,(0:Int),[],())).2.2.2.2.1≤
  (1000:Nat)∧
  ∀ (r4:ZQ),
  r4.1.1.1=
  (List.getD r1.1.1.2.1
  (Int.tmod (List.getD r2.1.1 (Int.toNat (0:Int)) ((0:Int),())).1 (↑(List.length r1.1.1.2.1):Int)).toNat
  ((0:Int),(0:Int),false,(0:Int),[],())).1∧
  r4.1.1.2.1=
  (List.getD r1.1.1.2.1
  (Int.tmod (List.getD r2.1.1 (Int.toNat (0:Int)) ((0:Int),())).1 (↑(List.length r1.1.1.2.1):Int)).toNat
  ((0:Int),(0:Int),false,(0:Int),[],())).2.1∧
  r4.1.1.2.2.1=
  (List.getD r1.1.1.2.1
  (Int.tmod (List.getD r2.1.1 (Int.toNat (0:Int)) ((0:Int),())).1 (↑(List.length r1.1.1.2.1):Int)).toNat
  ((0:Int),(0:Int),false,(0:Int),[],())).2.2.1∧
  r4.1.1.2.2.2.1=
  (List.getD r1.1.1.2.1
  (Int.tmod (List.getD r2.1.1 (Int.toNat (0:Int)) ((0:Int),())).1 (↑(List.length r1.1.1.2.1):Int)).toNat
  ((0:Int),(0:Int),false,(0:Int),[],())).2.2.2.1∧
  r4.1.1.2.2.2.2.1=
  Sp.kH
  (List.getD r1.1.1.2.1
  (Int.tmod (List.getD r2.1.1 (Int.toNat (0:Int)) ((0:Int),())).1
  (↑(List.length r1.1.1.2.1):Int)).toNat
  ((0:Int),(0:Int),false,(0:Int),[],())).2.2.2.2.1
  [(97:UInt8)] (1:Int) r3 []→
  (Sp.uN r1.1.1∧Sp.dK r4.1.1∧Sp.akR r1.1.1∧Sp.adM r4.1.1)∧
  ∀
  (r5:
  ae9),
  Sp.updated r1.1.1 r4.1.1 r5.1.1 r5.1.2.1 r5.1.2.2.1→
  (Sp.uN r5.1.1∧
  Sp.dK
  (List.getD r1.1.1.2.1
  (Int.tmod (List.getD r2.1.1 (Int.toNat (0:Int)) ((0:Int),())).1 (↑(List.length r1.1.1.2.1):Int)).toNat
  ((0:Int),(0:Int),false,(0:Int),[],()))∧
  Sp.akR r5.1.1∧
  Sp.adM
  (List.getD r1.1.1.2.1
  (Int.tmod (List.getD r2.1.1 (Int.toNat (0:Int)) ((0:Int),())).1 (↑(List.length r1.1.1.2.1):Int)).toNat
  ((0:Int),(0:Int),false,(0:Int),[],())))∧
  ∀
  (r6:
  ae9),
  Sp.updated r5.1.1
  (List.getD r1.1.1.2.1
  (Int.tmod (List.getD r2.1.1 (Int.toNat (0:Int)) ((0:Int),())).1 (↑(List.length r1.1.1.2.1):Int)).toNat
  ((0:Int),(0:Int),false,(0:Int),[],()))
  r6.1.1 r6.1.2.1 r6.1.2.2.1→
  bif r5.1.2.2.1 then
  bif r6.1.2.2.1 then
  True∧
 let r7:=decide (r6.1.1=r1.1.1);
  bif r7 then
  (Sp.UY r1.1.1.2.2.2.2.1∧Sp.UZ r5.1.2.1)∧
  ∀ (r8:TG×Unit),
  r8.1.1=Sp.oO r1.1.1.2.2.2.2.1 r5.1.2.1→
  (Sp.UY r8.1.1∧Sp.UZ r6.1.2.1)∧
  ∀ (r9:TG×Unit),
  r9.1.1=Sp.oO r8.1.1 r6.1.2.1→
  True∧
 let r10:=decide (r9.1.1=r1.1.1.2.2.2.2.1);
  K (r10,())
  else K (false,())
  else K (false,())
  else K (false,())
theorem aeS (env:EnvB prog G Θ agj) (h:∀ (code:bV),bF Jy (code,())→(True)→afA code fun r=>r=((true,()))):aA prog G Us Qq:=
 aT env mixed (fn:=f5) (c:=codeOf f5) (by kernel_rfl) (by kernel_rfl) ahJ (by kernel_rfl) fun ⟨code,⟨⟩⟩ hin hp=>
 Eq.mpr (by kernel_rfl) (h code hin hp)
end Go.Proofs.Tryz

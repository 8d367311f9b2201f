import Derived.Test.YtgbobfdlafkijaaGreatV1
namespace Go.Proofs.Tryz
open Go Go.Fw
set_option maxRecDepth 100000
open Go.IntKind (i64)
def amz:Hints:=Go.Fw.hints [] [] [] [] []
def akj (c0:bV) (c1:Int) (c2:Int) (K:Oo→Prop):Prop:=
 ((0:Int)≤c1∧
 [([(100:UInt8),97],()),([(100:UInt8),98],()),([(100:UInt8),99],()),([(100:UInt8),100],()),
 ([(100:UInt8),97],()),([(100:UInt8),98],()),([(100:UInt8),99],())]≠
 [])∧
 ∀ (r0:Oo),
 (0:Int)≤r0.2.1.2.1∧
 (r0.1.1,())∈
 [([(100:UInt8),97],()),([(100:UInt8),98],()),([(100:UInt8),99],()),([(100:UInt8),100],()),
 ([(100:UInt8),97],()),([(100:UInt8),98],()),([(100:UInt8),99],())]→
 K ((r0.1.1,()),(r0.2.1.1,r0.2.1.2.1,r0.2.1.2.2.1,()),())
theorem ajU (env:EnvB prog G Θ alk) (hne:∀ x,(NM x).1→∃ t,(NM x).2 t) (h:∀ (c0:bV) (c1:Int) (c2:Int),dO uy ((c0,c1,c2,()),())→((0:Int)≤c1)→akj c0 c1 c2 fun (r:Oo)=>((0:Int)≤c1,fun (x:Oo)=>(0:Int)≤x.2.1.2.1∧x.1.1.length≤(10:Nat)).2 r):aG prog G Bz D8:=
 bZ env mixed (fn:=f232) (c:=codeOf f232) (by kernel_rfl) (by kernel_rfl) amz (by kernel_rfl) hne fun ⟨⟨c0,c1,c2,⟨⟩⟩,⟨⟩⟩ hin hp=>
 Eq.mpr (by kernel_rfl) (h c0 c1 c2 hin hp)
def ava:Hints:=Go.Fw.hints [] [] [] [] []
def asR (c0:bV) (c1:Int) (c2:Int) (K:(TF×Unit)×xu→Prop):Prop:=
 (0:Int)≤c1∧
 ∀ (r0:oZ),
 (0:Int)≤r0.2.1.2.1∧(0:Int)≤r0.1.1∧((0:Int)<(9:Int)→r0.1.1<(9:Int))∧((9:Int)≤(0:Int)→r0.1.1=(0:Int))→
 bif r0.1.1==(0:Int) then
 K ((((1:Int),(0:Int),(0:Int),[],(0:Int),(0:Int),[],()),()),(r0.2.1.1,r0.2.1.2.1,r0.2.1.2.2.1,()),())
 else
 bif r0.1.1==(1:Int) then
 ((0:Int)≤r0.2.1.2.1∧[([(97:UInt8)],()),([(98:UInt8)],()),([(110:UInt8)],()),([(116:UInt8)],())]≠[])∧
 ∀ (r1:Oo),
 (0:Int)≤r1.2.1.2.1∧(r1.1.1,())∈[([(97:UInt8)],()),([(98:UInt8)],()),([(110:UInt8)],()),([(116:UInt8)],())]→
 K ((((2:Int),(0:Int),(0:Int),r1.1.1,(0:Int),(0:Int),[],()),()),(r1.2.1.1,r1.2.1.2.1,r1.2.1.2.2.1,()),())
 else
 bif r0.1.1==(2:Int) then
 (0:Int)≤r0.2.1.2.1∧
 ∀ (r2:oZ),
 (0:Int)≤r2.2.1.2.1∧(0:Int)≤r2.1.1∧((0:Int)<(4:Int)→r2.1.1<(4:Int))∧((4:Int)≤(0:Int)→r2.1.1=(0:Int))→
 True∧
 let r3:=r2.1.1;
  K ((((3:Int),(0:Int),(0:Int),[(97:UInt8)],(1:Int),r3,[],()),()),(r2.2.1.1,r2.2.1.2.1,r2.2.1.2.2.1,()),())
  else
  bif r0.1.1==(3:Int) then
  ((0:Int)≤r0.2.1.2.1∧[([(114:UInt8),101,100],()),([(98:UInt8),108,117,101],())]≠[])∧
  ∀ (r4:Oo),
  (0:Int)≤r4.2.1.2.1∧
  (r4.1.1,())∈[([(114:UInt8),101,100],()),([(98:UInt8),108,117,101],())]→
  True∧
 let r5:=r4.1.1;
  K
  ((((3:Int),(0:Int),(0:Int),[(116:UInt8)],(2:Int),(0:Int),r5,()),()),(r4.2.1.1,r4.2.1.2.1,r4.2.1.2.2.1,()),
  ())
  else
  bif r0.1.1==(4:Int) then
  ((0:Int)≤r0.2.1.2.1∧[([(97:UInt8)],()),([(98:UInt8)],())]≠[])∧
  ∀ (r6:Oo),
  (0:Int)≤r6.2.1.2.1∧(r6.1.1,())∈[([(97:UInt8)],()),([(98:UInt8)],())]→
  (0:Int)≤r6.2.1.2.1∧
  ∀ (r7:oZ),
  (0:Int)≤r7.2.1.2.1∧(0:Int)≤r7.1.1∧((0:Int)<(3:Int)→r7.1.1<(3:Int))∧((3:Int)≤(0:Int)→r7.1.1=(0:Int))→
  True∧
 let r8:=i64.wrap ((1:Int)+r7.1.1);
  K ((((4:Int),(0:Int),(0:Int),r6.1.1,(1:Int),r8,[],()),()),(r7.2.1.1,r7.2.1.2.1,r7.2.1.2.2.1,()),())
  else
  bif r0.1.1==(5:Int) then
  bif r0.1.1==(5:Int) then
  (0:Int)≤r0.2.1.2.1∧
  ∀ (r9:Oo),
  (0:Int)≤r9.2.1.2.1∧r9.1.1.length≤(10:Nat)→
  K
  ((((8:Int),(0:Int),(0:Int),r9.1.1,(0:Int),(0:Int),[],()),()),(r9.2.1.1,r9.2.1.2.1,r9.2.1.2.2.1,()),
  ())
  else
  bif r0.1.1==(7:Int) then
  (0:Int)≤r0.2.1.2.1∧
  ∀ (r10:Oo),
  (0:Int)≤r10.2.1.2.1∧r10.1.1.length≤(10:Nat)→
  K
  ((((9:Int),(0:Int),(0:Int),r10.1.1,(0:Int),(0:Int),[],()),()),
  (r10.2.1.1,r10.2.1.2.1,r10.2.1.2.2.1,()),())
  else
  (0:Int)≤r0.2.1.2.1∧
  ∀ (r11:oZ),
  (0:Int)≤r11.2.1.2.1∧(0:Int)≤r11.1.1∧((0:Int)<(4:Int)→r11.1.1<(4:Int))∧((4:Int)≤(0:Int)→r11.1.1=(0:Int))→
  True∧
 let r12:=r11.1.1;
  K
  ((((3:Int),(0:Int),(0:Int),[(98:UInt8)],(1:Int),r12,[],()),()),
  (r11.2.1.1,r11.2.1.2.1,r11.2.1.2.2.1,()),())
  else
  bif r0.1.1==(6:Int) then
  (0:Int)≤r0.2.1.2.1∧
  ∀ (r13:Oo),
  (0:Int)≤r13.2.1.2.1∧r13.1.1.length≤(10:Nat)→
  K
  ((((8:Int),(0:Int),(0:Int),r13.1.1,(0:Int),(0:Int),[],()),()),
  (r13.2.1.1,r13.2.1.2.1,r13.2.1.2.2.1,()),())
  else
  bif r0.1.1==(7:Int) then
  (0:Int)≤r0.2.1.2.1∧
  ∀ (TJ:Oo),
  (0:Int)≤TJ.2.1.2.1∧TJ.1.1.length≤(10:Nat)→
  K
  ((((9:Int),(0:Int),(0:Int),TJ.1.1,(0:Int),(0:Int),[],()),()),
  (TJ.2.1.1,TJ.2.1.2.1,TJ.2.1.2.2.1,()),())
  else
  (0:Int)≤r0.2.1.2.1∧
  ∀ (r15:oZ),
  (0:Int)≤r15.2.1.2.1∧(0:Int)≤r15.1.1∧((0:Int)<(4:Int)→r15.1.1<(4:Int))∧((4:Int)≤(0:Int)→r15.1.1=(0:Int))→
  True∧
 let r16:=r15.1.1;
  K
  ((((3:Int),(0:Int),(0:Int),[(98:UInt8)],(1:Int),r16,[],()),()),
  (r15.2.1.1,r15.2.1.2.1,r15.2.1.2.2.1,()),())
theorem ar9 (env:EnvB prog G Θ atJ) (hne:∀ x,(UM x).1→∃ t,(UM x).2 t) (h:∀ (c0:bV) (c1:Int) (c2:Int),dO Aa ((c0,c1,c2,()),())→((0:Int)≤c1)→asR c0 c1 c2 fun (r:(TF×Unit)×xu)=>((0:Int)≤c1,fun (x:(TF×Unit)×xu)=>
 (0:Int)≤x.2.1.2.1∧True).2
 r):aG prog G Hw Jc:=
 bZ env mixed (fn:=f196) (c:=codeOf f196) (by kernel_rfl) (by kernel_rfl) ava (by kernel_rfl) hne fun ⟨⟨c0,c1,c2,⟨⟩⟩,⟨⟩⟩ hin hp=>
 Eq.mpr (by kernel_rfl) (h c0 c1 c2 hin hp)
def afm:Hints:=Go.Fw.hints [34,47,54,15,19,20,23,34,40,47,54,63,71,34,47,54] [] [(3,⟨[],⟨[(0, .dW 48 0),(1, .one (.ref 113)),(2, .one (.int .i64)),(3, .one (.bool))],[(113, .arr 167 (.cons (.int .i64) (.cons (.int .i64) (.cons (.int .i64) (.cons .str (.cons (.int .i64) (.cons (.int .i64) (.cons .str .nil))))))) false)]⟩,⟨[],[(48, .var [.sl 5 (.cons (.int .u8) .nil) false, .int .i64, .int .i64])]⟩⟩)] [] []
def ady [yU] (c0:bV) (c1:Int) (c2:Int) (q:jr) (deep:Int) (not:Bool) (K:MP→Prop):Prop:=
 let s0:=(((),(),deep,not,()),q,());
  ∃ (J:Unit×xu→Prop),
  (bif deep==(0:Int) then
  (0:Int)≤c1∧
  ∀ (r1:(TF×Unit)×xu),
  (0:Int)≤r1.2.1.2.1∧True→
  q.length+
  [(r1.1.1.1,r1.1.1.2.1,r1.1.1.2.2.1,r1.1.1.2.2.2.1,r1.1.1.2.2.2.2.1,r1.1.1.2.2.2.2.2.1,
  r1.1.1.2.2.2.2.2.2.1,())].length≤
  big∧
  K
  ((q++
  [(r1.1.1.1,r1.1.1.2.1,r1.1.1.2.2.1,r1.1.1.2.2.2.1,r1.1.1.2.2.2.2.1,r1.1.1.2.2.2.2.2.1,
  r1.1.1.2.2.2.2.2.2.1,())],
  ()),
  (r1.2.1.1,r1.2.1.2.1,r1.2.1.2.2.1,()),())
  else
  (0:Int)≤c1∧
  ∀ (r2:dD×xu),
  (r2.2.1.2.1-(0:Int)).NonNeg→
  bif r2.1.1 then
  (0:Int)≤r2.2.1.2.1∧
  ∀ (r3:(TF×Unit)×xu),
  (0:Int)≤r3.2.1.2.1∧True→
  q.length+
  [(r3.1.1.1,r3.1.1.2.1,r3.1.1.2.2.1,r3.1.1.2.2.2.1,r3.1.1.2.2.2.2.1,
  r3.1.1.2.2.2.2.2.1,r3.1.1.2.2.2.2.2.2.1,())].length≤
  big∧
  K
  ((q++
  [(r3.1.1.1,r3.1.1.2.1,r3.1.1.2.2.1,r3.1.1.2.2.2.1,r3.1.1.2.2.2.2.1,
  r3.1.1.2.2.2.2.2.1,r3.1.1.2.2.2.2.2.2.1,())],
  ()),
  (r3.2.1.1,r3.2.1.2.1,r3.2.1.2.2.1,()),())
  else s0=s0∧J ((),(r2.2.1.1,r2.2.1.2.1,r2.2.1.2.2.1,()),()))∧
  ∀ (y4:Unit×xu),
  J y4→
  (0:Int)≤y4.2.1.2.1∧
  ∀ (r5:oZ),
  (0:Int)≤r5.2.1.2.1∧(0:Int)≤r5.1.1∧((0:Int)<(5:Int)→r5.1.1<(5:Int))∧((5:Int)≤(0:Int)→r5.1.1=(0:Int))→
  bif r5.1.1==(0:Int) then
  bif not then
  (((0:Int)≤r5.2.1.2.1∧
  (0:Int)≤i64.wrap (deep-(1:Int))∧
  i64.wrap (deep-(1:Int))≤(4:Int)∧q.length+(2:Nat)*(i64.wrap (deep-(1:Int))).toNat≤(900:Nat))∧
  (i64.wrap (deep-(1:Int))).toNat<yg)∧
  ∀ (r6:MP),
  (0:Int)≤r6.2.1.2.1∧q.length<r6.1.1.length∧r6.1.1.length≤q.length+(2:Nat)*(i64.wrap (deep-(1:Int))).toNat+(1:Nat)→
  List.length r6.1.1+
  [((5:Int),i64.wrap ((↑(List.length r6.1.1):Int)-(1:Int)),(0:Int),lJ,(0:Int),(0:Int),lJ,())].length≤
  big∧
  K
  ((r6.1.1++[((5:Int),i64.wrap ((↑(List.length r6.1.1):Int)-(1:Int)),(0:Int),lJ,(0:Int),(0:Int),lJ,())],()),
  (r6.2.1.1,r6.2.1.2.1,r6.2.1.2.2.1,()),())
  else
  (((0:Int)≤r5.2.1.2.1∧
  (0:Int)≤i64.wrap (deep-(1:Int))∧
  i64.wrap (deep-(1:Int))≤(4:Int)∧q.length+(2:Nat)*(i64.wrap (deep-(1:Int))).toNat≤(900:Nat))∧
  (i64.wrap (deep-(1:Int))).toNat<yg)∧
  ∀ (r7:MP),
  (0:Int)≤r7.2.1.2.1∧q.length<r7.1.1.length∧r7.1.1.length≤q.length+(2:Nat)*(i64.wrap (deep-(1:Int))).toNat+(1:Nat)→
  (((0:Int)≤r7.2.1.2.1∧(0:Int)≤(0:Int)∧(0:Int)≤(4:Int)∧List.length r7.1.1+(2:Nat)*Int.toNat (0:Int)≤(900:Nat))∧
  Int.toNat (0:Int)<yg)∧
  ∀ (r8:MP),
  (0:Int)≤r8.2.1.2.1∧
  List.length r7.1.1<r8.1.1.length∧r8.1.1.length≤List.length r7.1.1+(2:Nat)*Int.toNat (0:Int)+(1:Nat)→
  bif decide (r5.1.1<(3:Int)) then
  List.length r8.1.1+
  [((6:Int),i64.wrap ((↑(List.length r7.1.1):Int)-(1:Int)),
  i64.wrap ((↑(List.length r8.1.1):Int)-(1:Int)),lJ,(0:Int),(0:Int),lJ,())].length≤
  big∧
  K
  ((r8.1.1++
  [((6:Int),i64.wrap ((↑(List.length r7.1.1):Int)-(1:Int)),
  i64.wrap ((↑(List.length r8.1.1):Int)-(1:Int)),lJ,(0:Int),(0:Int),lJ,())],
  ()),
  (r8.2.1.1,r8.2.1.2.1,r8.2.1.2.2.1,()),())
  else
  List.length r8.1.1+
  [((7:Int),i64.wrap ((↑(List.length r7.1.1):Int)-(1:Int)),
  i64.wrap ((↑(List.length r8.1.1):Int)-(1:Int)),lJ,(0:Int),(0:Int),lJ,())].length≤
  big∧
  K
  ((r8.1.1++
  [((7:Int),i64.wrap ((↑(List.length r7.1.1):Int)-(1:Int)),
  i64.wrap ((↑(List.length r8.1.1):Int)-(1:Int)),lJ,(0:Int),(0:Int),lJ,())],
  ()),
  (r8.2.1.1,r8.2.1.2.1,r8.2.1.2.2.1,()),())
  else
  (((0:Int)≤r5.2.1.2.1∧
  (0:Int)≤i64.wrap (deep-(1:Int))∧
  i64.wrap (deep-(1:Int))≤(4:Int)∧q.length+(2:Nat)*(i64.wrap (deep-(1:Int))).toNat≤(900:Nat))∧
  (i64.wrap (deep-(1:Int))).toNat<yg)∧
  ∀ (r9:MP),
  (0:Int)≤r9.2.1.2.1∧q.length<r9.1.1.length∧r9.1.1.length≤q.length+(2:Nat)*(i64.wrap (deep-(1:Int))).toNat+(1:Nat)→
  (((0:Int)≤r9.2.1.2.1∧(0:Int)≤(0:Int)∧(0:Int)≤(4:Int)∧List.length r9.1.1+(2:Nat)*Int.toNat (0:Int)≤(900:Nat))∧
  Int.toNat (0:Int)<yg)∧
  ∀ (r10:MP),
  (0:Int)≤r10.2.1.2.1∧
  List.length r9.1.1<r10.1.1.length∧r10.1.1.length≤List.length r9.1.1+(2:Nat)*Int.toNat (0:Int)+(1:Nat)→
  bif decide (r5.1.1<(3:Int)) then
  List.length r10.1.1+
  [((6:Int),i64.wrap ((↑(List.length r9.1.1):Int)-(1:Int)),
  i64.wrap ((↑(List.length r10.1.1):Int)-(1:Int)),lJ,(0:Int),(0:Int),lJ,())].length≤
  big∧
  K
  ((r10.1.1++
  [((6:Int),i64.wrap ((↑(List.length r9.1.1):Int)-(1:Int)),
  i64.wrap ((↑(List.length r10.1.1):Int)-(1:Int)),lJ,(0:Int),(0:Int),lJ,())],
  ()),
  (r10.2.1.1,r10.2.1.2.1,r10.2.1.2.2.1,()),())
  else
  List.length r10.1.1+
  [((7:Int),i64.wrap ((↑(List.length r9.1.1):Int)-(1:Int)),
  i64.wrap ((↑(List.length r10.1.1):Int)-(1:Int)),lJ,(0:Int),(0:Int),lJ,())].length≤
  big∧
  K
  ((r10.1.1++
  [((7:Int),i64.wrap ((↑(List.length r9.1.1):Int)-(1:Int)),
  i64.wrap ((↑(List.length r10.1.1):Int)-(1:Int)),lJ,(0:Int),(0:Int),lJ,())],
  ()),
  (r10.2.1.1,r10.2.1.2.1,r10.2.1.2.2.1,()),())
theorem adk [yU] (env:EnvB prog G Θ adT) (hne:∀ x,(BV x).1→∃ t,(BV x).2 t) (h:∀ (c0:bV) (c1:Int) (c2:Int) (q:jr) (deep:Int) (not:Bool),dO Ac ((c0,c1,c2,()),q,deep,not,())→(((0:Int)≤c1∧(0:Int)≤deep∧deep≤(4:Int)∧q.length+(2:Nat)*deep.toNat≤(900:Nat))∧deep.toNat<yg+(1:Nat))→ady c0 c1 c2 q deep not fun (r:MP)=>(((0:Int)≤c1∧(0:Int)≤deep∧deep≤(4:Int)∧q.length+(2:Nat)*deep.toNat≤(900:Nat))∧deep.toNat<yg+(1:Nat),
 fun (x:MP)=>
 (0:Int)≤x.2.1.2.1∧q.length<x.1.1.length∧x.1.1.length≤q.length+(2:Nat)*deep.toNat+(1:Nat)).2
 r):aG prog G SK OA:=
 bZ env mixed (fn:=f197) (c:=codeOf f197) (by kernel_rfl) (by kernel_rfl) afm (by kernel_rfl) hne fun ⟨⟨c0,c1,c2,⟨⟩⟩,q,deep,not,⟨⟩⟩ hin hp=>
 Eq.mpr (by kernel_rfl) (h c0 c1 c2 q deep not hin hp)
def akk:Hints:=Go.Fw.hints [6,5] [] [] [] []
def ahh (c0:bV) (c1:Int) (c2:Int) (K:MP→Prop):Prop:=
 (0:Int)≤c1∧
 ∀ (r0:oZ),
 (0:Int)≤r0.2.1.2.1∧(0:Int)≤r0.1.1∧((0:Int)<(4:Int)→r0.1.1<(4:Int))∧((4:Int)≤(0:Int)→r0.1.1=(0:Int))→
 ((0:Int)≤r0.2.1.2.1∧(0:Int)≤r0.1.1∧r0.1.1≤(4:Int))∧
 ∀ (r1:MP),
 (0:Int)≤r1.2.1.2.1∧(0:Nat)<r1.1.1.length∧r1.1.1.length≤(0:Nat)+(2:Nat)*Int.toNat r0.1.1+(1:Nat)→
 K ((r1.1.1,()),(r1.2.1.1,r1.2.1.2.1,r1.2.1.2.2.1,()),())
theorem ag1 (env:EnvB prog G Θ ah4) (hne:∀ x,(LD x).1→∃ t,(LD x).2 t) (h:∀ (c0:bV) (c1:Int) (c2:Int),dO D9 ((c0,c1,c2,()),())→((0:Int)≤c1)→ahh c0 c1 c2 fun (r:MP)=>((0:Int)≤c1,fun (x:MP)=>
 (0:Int)≤x.2.1.2.1∧(0:Nat)<x.1.1.length∧x.1.1.length≤(9:Nat)).2
 r):aG prog G VZ QW:=
 bZ env mixed (fn:=f142) (c:=codeOf f142) (by kernel_rfl) (by kernel_rfl) akk (by kernel_rfl) hne fun ⟨⟨c0,c1,c2,⟨⟩⟩,⟨⟩⟩ hin hp=>
 Eq.mpr (by kernel_rfl) (h c0 c1 c2 hin hp)
def Yp:Hints:=Go.Fw.hints [5] [] [] [] []
def WV (c0:bV) (c1:Int) (c2:Int) (K:MP→Prop):Prop:=
 (0:Int)≤c1∧
 ∀ (r0:oZ),
 (0:Int)≤r0.2.1.2.1∧(0:Int)≤r0.1.1∧((0:Int)<(4:Int)→r0.1.1<(4:Int))∧((4:Int)≤(0:Int)→r0.1.1=(0:Int))→
 ((0:Int)≤r0.2.1.2.1∧(0:Int)≤r0.1.1∧r0.1.1≤(4:Int))∧
 ∀ (r1:MP),
 (0:Int)≤r1.2.1.2.1∧(0:Nat)<r1.1.1.length∧r1.1.1.length≤(0:Nat)+(2:Nat)*Int.toNat r0.1.1+(1:Nat)→
 K ((r1.1.1,()),(r1.2.1.1,r1.2.1.2.1,r1.2.1.2.2.1,()),())
theorem WO (env:EnvB prog G Θ XO) (hne:∀ x,(BZ x).1→∃ t,(BZ x).2 t) (h:∀ (c0:bV) (c1:Int) (c2:Int),dO kT ((c0,c1,c2,()),())→((0:Int)≤c1)→WV c0 c1 c2 fun (r:MP)=>((0:Int)≤c1,fun (x:MP)=>
 (0:Int)≤x.2.1.2.1∧(0:Nat)<x.1.1.length∧x.1.1.length≤(9:Nat)).2
 r):aG prog G oV rJ:=
 bZ env mixed (fn:=f142) (c:=codeOf f142) (by kernel_rfl) (by kernel_rfl) Yp (by kernel_rfl) hne fun ⟨⟨c0,c1,c2,⟨⟩⟩,⟨⟩⟩ hin hp=>
 Eq.mpr (by kernel_rfl) (h c0 c1 c2 hin hp)
def avb:Hints:=Go.Fw.hints [5,5,8,14,19,21] [(3,⟨[(.slot 3 0,225,124,(.cons .str (.cons (.sl 167 (.cons (.int .i64) (.cons (.int .i64) (.cons (.int .i64) (.cons .str (.cons (.int .i64) (.cons (.int .i64) (.cons .str .nil)))))))) .nil)),false)],⟨[(0, .dW 48 0)],[]⟩,⟨[(3, .one (.ref 225)),(4, .one (.int .i64))],[(48, .var [.sl 5 (.cons (.int .u8) .nil) false, .int .i64, .int .i64]),(225, .arr 124 (.cons .str (.cons (.sl 167 (.cons (.int .i64) (.cons (.int .i64) (.cons (.int .i64) (.cons .str (.cons (.int .i64) (.cons (.int .i64) (.cons .str .nil)))))))) .nil)) false)]⟩⟩)] [] [48] []
def asT (c0:bV) (c1:Int) (c2:Int) (K:EG×xu→Prop):Prop:=
 let s0:=(((),()),());
  ∃ (I:rF×Ol×EG→Prop),
  ∃ (μ:
  rF×Ol×EG→Nat),
  I (((),(0:Int),()),(c0,c1,c2,()),[],())∧
  ∀ (y1:rF×Ol×EG),
  I y1→
  (0:Int)≤y1.2.1.2.1∧
  ∀ (r2:oZ),
  (0:Int)≤r2.2.1.2.1∧(0:Int)≤r2.1.1∧((0:Int)<(4:Int)→r2.1.1<(4:Int))∧((4:Int)≤(0:Int)→r2.1.1=(0:Int))→
  bif decide (y1.1.2.1<i64.wrap ((1:Int)+r2.1.1)) then
  ((0:Int)≤y1.1.2.1∧
  y1.1.2.1<
  (↑[([(100:UInt8),97],()),([(100:UInt8),98],()),([(100:UInt8),99],()),
  ([(100:UInt8),100],())].length:
  Int))∧
  Int.toNat y1.1.2.1<
  [([(100:UInt8),97],()),([(100:UInt8),98],()),([(100:UInt8),99],()),
  ([(100:UInt8),100],())].length∧
  (0:Int)≤r2.2.1.2.1∧
  ∀ (r3:MP),
  (0:Int)≤r3.2.1.2.1∧(0:Nat)<r3.1.1.length∧r3.1.1.length≤(9:Nat)→
  List.length y1.2.2.1+
  [(([([(100:UInt8),97],()),([(100:UInt8),98],()),([(100:UInt8),99],()),
  ([(100:UInt8),100],())].getD
  (Int.toNat y1.1.2.1) ([],())).1,
  r3.1.1,())].length≤
  big∧
  s0=s0∧
  I
  (((),i64.wrap (y1.1.2.1+(1:Int)),()),(r3.2.1.1,r3.2.1.2.1,r3.2.1.2.2.1,()),
  y1.2.2.1++
  [(([([(100:UInt8),97],()),([(100:UInt8),98],()),([(100:UInt8),99],()),
  ([(100:UInt8),100],())].getD
  (Int.toNat y1.1.2.1) ([],())).1,
  r3.1.1,())],
  ())∧
  μ
  (((),i64.wrap (y1.1.2.1+(1:Int)),()),(r3.2.1.1,r3.2.1.2.1,r3.2.1.2.2.1,()),
  y1.2.2.1++
  [(([([(100:UInt8),97],()),([(100:UInt8),98],()),([(100:UInt8),99],()),
  ([(100:UInt8),100],())].getD
  (Int.toNat y1.1.2.1) ([],())).1,
  r3.1.1,())],
  ())<
  μ y1
  else K ((y1.2.2.1,()),(r2.2.1.1,r2.2.1.2.1,r2.2.1.2.2.1,()),())
theorem asb (env:EnvB prog G Θ atK) (hne:∀ x,(UN x).1→∃ t,(UN x).2 t) (h:∀ (c0:bV) (c1:Int) (c2:Int),dO Ad ((c0,c1,c2,()),())→((0:Int)≤c1)→asT c0 c1 c2 fun (r:EG×xu)=>((0:Int)≤c1,
 fun (x:EG×xu)=>
 (0:Int)≤x.2.1.2.1∧(0:Nat)<x.1.1.length∧x.1.1.length≤(4:Nat)∧Sp.aS x.1.1).2
 r):aG prog G Hy Jd:=
 bZ env mixed (fn:=f139) (c:=codeOf f139) (by kernel_rfl) (by kernel_rfl) avb (by kernel_rfl) hne fun ⟨⟨c0,c1,c2,⟨⟩⟩,⟨⟩⟩ hin hp=>
 Eq.mpr (by kernel_rfl) (h c0 c1 c2 hin hp)
def avc:Hints:=Go.Fw.hints [] [(2,⟨[],⟨[],[(48, .var [.sl 5 (.cons (.int .u8) .nil) false, .int .i64, .int .i64])]⟩,⟨[(3, .one (.sl 124 (.cons .str (.cons (.sl 167 (.cons (.int .i64) (.cons (.int .i64) (.cons (.int .i64) (.cons .str (.cons (.int .i64) (.cons (.int .i64) (.cons .str .nil)))))))) .nil)) false))],[]⟩⟩)] [] [] []
def asU (c0:bV) (c1:Int) (c2:Int) (K:EG×xu→Prop):Prop:=
 (0:Int)≤c1∧
 ∀ (r0:EG×xu),
 (0:Int)≤r0.2.1.2.1∧(0:Nat)<r0.1.1.length∧r0.1.1.length≤(4:Nat)∧Sp.aS r0.1.1→
 let s1:=((),(r0.2.1.1,r0.2.1.2.1,r0.2.1.2.2.1,()),());
  ∃ (I:EG×Unit→Prop),
  ∃ (μ:EG×Unit→Nat),
  I ((r0.1.1,()),())∧
  ∀ (y2:EG×Unit),
  I y2→
  bif decide ((↑(List.length y2.1.1):Int)>(0:Int)) then
  Sp.aS y2.1.1∧
 let r3:=Sp.aH y2.1.1;
  bif !r3 then
  ((0:Int)≤i64.wrap ((↑(List.length y2.1.1):Int)-(1:Int))∧
  i64.wrap ((↑(List.length y2.1.1):Int)-(1:Int))≤(↑(List.length y2.1.1):Int))∧
  s1=s1∧
  I ((List.drop (0:Nat) (List.take (i64.wrap ((↑(List.length y2.1.1):Int)-(1:Int))).toNat y2.1.1),()),())∧
  μ ((List.drop (0:Nat) (List.take (i64.wrap ((↑(List.length y2.1.1):Int)-(1:Int))).toNat y2.1.1),()),())<μ y2
  else
  bif (↑(List.length y2.1.1):Int)==(0:Int) then
  K
  (([([(100:UInt8),97],[((1:Int),(0:Int),(0:Int),[],(0:Int),(0:Int),[],())],())],()),
  (r0.2.1.1,r0.2.1.2.1,r0.2.1.2.2.1,()),())
  else K ((y2.1.1,()),(r0.2.1.1,r0.2.1.2.1,r0.2.1.2.2.1,()),())
  else
  bif (↑(List.length y2.1.1):Int)==(0:Int) then
  K
  (([([(100:UInt8),97],[((1:Int),(0:Int),(0:Int),[],(0:Int),(0:Int),[],())],())],()),
  (r0.2.1.1,r0.2.1.2.1,r0.2.1.2.2.1,()),())
  else K ((y2.1.1,()),(r0.2.1.1,r0.2.1.2.1,r0.2.1.2.2.1,()),())
theorem arI (env:EnvB prog G Θ atL) (hne:∀ x,(UO x).1→∃ t,(UO x).2 t) (h:∀ (c0:bV) (c1:Int) (c2:Int),dO Ae ((c0,c1,c2,()),())→((0:Int)≤c1)→asU c0 c1 c2 fun (r:EG×xu)=>((0:Int)≤c1,
 fun (x:EG×xu)=>
 (0:Int)≤x.2.1.2.1∧x.1.1.length≤(10:Nat)∧Sp.aS x.1.1∧Sp.aH x.1.1=true).2
 r):aG prog G Ie Je:=
 bZ env mixed (fn:=f104) (c:=codeOf f104) (by kernel_rfl) (by kernel_rfl) avc (by kernel_rfl) hne fun ⟨⟨c0,c1,c2,⟨⟩⟩,⟨⟩⟩ hin hp=>
 Eq.mpr (by kernel_rfl) (h c0 c1 c2 hin hp)
def amA:Hints:=Go.Fw.hints [] [] [] [] []
def akl (c0:bV) (c1:Int) (c2:Int) (K:oZ→Prop):Prop:=
 ((0:Int)≤c1∧[((1:Int),()),((2:Int),()),((3:Int),()),((4:Int),()),((5:Int),()),((1:Int),()),((2:Int),()),((0:Int),()),((-1:Int),())]≠[])∧
 ∀ (r0:oZ),
 (0:Int)≤r0.2.1.2.1∧
 (r0.1.1,())∈
 [((1:Int),()),((2:Int),()),((3:Int),()),((4:Int),()),((5:Int),()),((1:Int),()),((2:Int),()),((0:Int),()),((-1:Int),())]→
 K ((r0.1.1,()),(r0.2.1.1,r0.2.1.2.1,r0.2.1.2.2.1,()),())
theorem ajq (env:EnvB prog G Θ alm) (hne:∀ x,(NP x).1→∃ t,(NP x).2 t) (h:∀ (c0:bV) (c1:Int) (c2:Int),dO ER ((c0,c1,c2,()),())→((0:Int)≤c1)→akl c0 c1 c2 fun (r:oZ)=>((0:Int)≤c1,fun (x:oZ)=>(0:Int)≤x.2.1.2.1∧True).2 r):aG prog G Xy TW:=
 bZ env mixed (fn:=f48) (c:=codeOf f48) (by kernel_rfl) (by kernel_rfl) amA (by kernel_rfl) hne fun ⟨⟨c0,c1,c2,⟨⟩⟩,⟨⟩⟩ hin hp=>
 Eq.mpr (by kernel_rfl) (h c0 c1 c2 hin hp)
def akm:Hints:=Go.Fw.hints [] [] [(2,⟨[],⟨[(1, .one (.int .i64)),(2, .fM [.int .i64, .int .i64, .int .i64, .str, .int .i64, .int .i64, .str] 0)],[]⟩,⟨[(5, .one (.bool))],[]⟩⟩),(3,⟨[],⟨[(2, .fM [.int .i64, .int .i64, .int .i64, .str, .int .i64, .int .i64, .str] 0),(5, .one (.bool))],[]⟩,⟨[(6, .one (.bool))],[]⟩⟩)] [] []
def UC (n0:Int) (n1:Int) (n2:Int) (n3:eH) (n4:Int) (n5:Int) (n6:eH) (at':Int) (K:dD→Prop):Prop:=
 let s0:=((at',(n0,n1,n2,n3,n4,n5,n6,()),()),());
  ∃ (J:dD×Unit→Prop),
  (True∧
 let r1:=decide ((0:Int)≤n1)&&decide (n1≤i64.wrap (at'-(1:Int)));
  bif r1 then s0=s0∧J ((decide (at'>(0:Int)),()),()) else s0=s0∧J ((false,()),()))∧
  ∀ (y2:dD×Unit),
  J y2→
 let s3:=(((n0,n1,n2,n3,n4,n5,n6,()),y2.1.1,()),());
  ∃ (J:dD×Unit→Prop),
  (bif y2.1.1 then
  True∧
 let r4:=decide ((0:Int)≤n2)&&decide (n2≤i64.wrap (at'-(1:Int)));
  s3=s3∧J ((r4,()),())
  else s3=s3∧J ((false,()),()))∧
  ∀ (y5:dD×Unit),
  J y5→
  bif n0==(1:Int) then
  K (n0==(1:Int)&&(n1==(0:Int)&&(n2==(0:Int)&&(n3==[]&&(n4==(0:Int)&&(n5==(0:Int)&&(n6==[]&&true)))))),())
  else
  bif n0==(2:Int) then
  True∧
  bif Sp.kN n3 then K (n0==n0&&(n1==(0:Int)&&(n2==(0:Int)&&(n3==n3&&(n4==(0:Int)&&(n5==(0:Int)&&(n6==[]&&true)))))),())
  else K (false,())
  else
  bif n0==(3:Int) then
  True∧
  bif Sp.kN n3 then
  True∧
  bif Sp.kF n4 n5 n6 then bif n4 !=(0:Int) then bif n1==(0:Int) then K (n2==(0:Int),()) else K (false,()) else K (false,())
  else K (false,())
  else K (false,())
  else
  bif n0==(4:Int) then
  True∧
  bif Sp.kN n3 then
  True∧
  bif Sp.kF n4 n5 n6 then bif n4==(1:Int) then bif n1==(0:Int) then K (n2==(0:Int),()) else K (false,()) else K (false,())
  else K (false,())
  else K (false,())
  else
  bif n0==(5:Int) then
  bif y2.1.1 then
  bif n2==(0:Int) then bif n3==[] then K (n4==(0:Int)&&(n5==(0:Int)&&(n6==[]&&true)),()) else K (false,()) else K (false,())
  else K (false,())
  else
  bif n0==(6:Int) then
  bif n0==(6:Int) then
  bif y5.1.1 then bif n3==[] then K (n4==(0:Int)&&(n5==(0:Int)&&(n6==[]&&true)),()) else K (false,()) else K (false,())
  else
  bif n0==(8:Int) then
  bif n0==(8:Int) then
  True∧
  bif Sp.jf n3 then
  K (n0==n0&&(n1==(0:Int)&&(n2==(0:Int)&&(n3==n3&&(n4==(0:Int)&&(n5==(0:Int)&&(n6==[]&&true)))))),())
  else K (false,())
  else K (false,())
  else
  bif n0==(9:Int) then
  True∧
  bif Sp.jf n3 then
  K (n0==n0&&(n1==(0:Int)&&(n2==(0:Int)&&(n3==n3&&(n4==(0:Int)&&(n5==(0:Int)&&(n6==[]&&true)))))),())
  else K (false,())
  else K (false,())
  else
  bif n0==(7:Int) then
  bif y5.1.1 then bif n3==[] then K (n4==(0:Int)&&(n5==(0:Int)&&(n6==[]&&true)),()) else K (false,()) else K (false,())
  else
  bif n0==(8:Int) then
  bif n0==(8:Int) then
  True∧
  bif Sp.jf n3 then
  K (n0==n0&&(n1==(0:Int)&&(n2==(0:Int)&&(n3==n3&&(n4==(0:Int)&&(n5==(0:Int)&&(n6==[]&&true)))))),())
  else K (false,())
  else K (false,())
  else
  bif n0==(9:Int) then
  True∧
  bif Sp.jf n3 then
  K (n0==n0&&(n1==(0:Int)&&(n2==(0:Int)&&(n3==n3&&(n4==(0:Int)&&(n5==(0:Int)&&(n6==[]&&true)))))),())
  else K (false,())
  else K (false,())
theorem ag5 (env:EnvB prog G Θ ah5) (h:∀ (n0:Int) (n1:Int) (n2:Int) (n3:eH) (n4:Int) (n5:Int) (n6:eH) (at':Int),bF KD ((n0,n1,n2,n3,n4,n5,n6,()),at',())→(True)→UC n0 n1 n2 n3 n4 n5 n6 at' fun r=>r=((Sp.lG (n0,n1,n2,n3,n4,n5,n6,()) at',()))):aA prog G yX Cb:=
 aT env mixed (fn:=f245) (c:=codeOf f245) (by kernel_rfl) (by kernel_rfl) akm (by kernel_rfl) fun ⟨⟨n0,n1,n2,n3,n4,n5,n6,⟨⟩⟩,at',⟨⟩⟩ hin hp=>
 Eq.mpr (by kernel_rfl) (h n0 n1 n2 n3 n4 n5 n6 at' hin hp)
def akn:Hints:=Go.Fw.hints [] [] [(10,⟨[],⟨[(1, .one (.int .i64)),(2, .fM [.int .i64, .int .i64, .int .i64, .str, .int .i64, .int .i64, .str] 0),(5, .dW 320 0),(10, .one (.int .i64))],[(320, .var [.int .i64, .int .i64, .int .i64, .str, .int .i64, .int .i64, .str])]⟩,⟨[(26, .one (.bool))],[]⟩⟩),(17,⟨[],⟨[(1, .one (.int .i64)),(2, .fM [.int .i64, .int .i64, .int .i64, .str, .int .i64, .int .i64, .str] 0),(5, .dW 320 0),(10, .one (.int .i64))],[(320, .var [.int .i64, .int .i64, .int .i64, .str, .int .i64, .int .i64, .str])]⟩,⟨[(84, .one (.bool))],[]⟩⟩)] [320] []
def UB (n0:Int) (n1:Int) (n2:Int) (n3:eH) (n4:Int) (n5:Int) (n6:eH) (at':Int) (K:dD→Prop):Prop:=
 bif n0==(1:Int) then K (n0==n0&&(n1==(0:Int)&&(n2==(0:Int)&&(n3==[]&&(n4==(0:Int)&&(n5==(0:Int)&&(n6==[]&&true)))))),())
 else
 bif n0==(2:Int) then
 bif n0==n0&&(n1==(0:Int)&&(n2==(0:Int)&&(n3==n3&&(n4==(0:Int)&&(n5==(0:Int)&&(n6==[]&&true)))))) then True∧K (Sp.kN n3,())
 else K (false,())
 else
 let s0:(Int×TF×rF)×TF×Unit:=
  ((at',(n0,n1,n2,n3,n4,n5,n6,()),(),n0,()),(n0,(0:Int),(0:Int),[],(0:Int),(0:Int),[],()),());
  ∃ (J:dD×Unit→Prop),
  (bif n0==(3:Int) then s0=s0∧J ((n0==(3:Int),()),()) else s0=s0∧J ((n0==(4:Int),()),()))∧
  ∀ (y1:dD×Unit),
  J y1→
  bif y1.1.1 then
  bif n0==n0&&(n1==(0:Int)&&(n2==(0:Int)&&(n3==n3&&(n4==n4&&(n5==n5&&(n6==n6&&true)))))) then
  True∧
  bif Sp.kN n3 then
  True∧
  bif Sp.kF n4 n5 n6 then bif n4 !=(0:Int) then bif n0==(3:Int) then K (true,()) else K (n4==(1:Int),()) else K (false,()) else K (false,())
  else K (false,())
  else K (false,())
  else
  bif n0==(5:Int) then
  bif n0==n0&&(n1==n1&&(n2==(0:Int)&&(n3==[]&&(n4==(0:Int)&&(n5==(0:Int)&&(n6==[]&&true)))))) then
  bif decide (at'>(0:Int)) then
  True∧
 let r2:Bool:=decide ((0:Int)≤n1)&&decide (n1≤i64.wrap (at'-(1:Int)));
  K (r2,())
  else K (false,())
  else K (false,())
  else
 let s3:
  (Int×TF×rF)×TF×Unit:=
  ((at',(n0,n1,n2,n3,n4,n5,n6,()),(),n0,()),(n0,(0:Int),(0:Int),[],(0:Int),(0:Int),[],()),());
  ∃ (J:dD×Unit→Prop),
  (bif n0==(6:Int) then s3=s3∧J ((n0==(6:Int),()),()) else s3=s3∧J ((n0==(7:Int),()),()))∧
  ∀ (y4:dD×Unit),
  J y4→
  bif y4.1.1 then
  bif n0==n0&&(n1==n1&&(n2==n2&&(n3==[]&&(n4==(0:Int)&&(n5==(0:Int)&&(n6==[]&&true)))))) then
  bif decide (at'>(0:Int)) then
  True∧
 let r5:Bool:=decide ((0:Int)≤n1)&&decide (n1≤i64.wrap (at'-(1:Int)));
  bif r5 then
  True∧
 let r6:Bool:=decide ((0:Int)≤n2)&&decide (n2≤i64.wrap (at'-(1:Int)));
  K (r6,())
  else K (false,())
  else K (false,())
  else K (false,())
  else
  bif n0==(8:Int) then
  bif n0==(8:Int) then
  bif n0==n0&&(n1==(0:Int)&&(n2==(0:Int)&&(n3==n3&&(n4==(0:Int)&&(n5==(0:Int)&&(n6==[]&&true)))))) then
  True∧K (Sp.jf n3,())
  else K (false,())
  else K (false,())
  else
  bif n0==(9:Int) then
  bif n0==n0&&(n1==(0:Int)&&(n2==(0:Int)&&(n3==n3&&(n4==(0:Int)&&(n5==(0:Int)&&(n6==[]&&true)))))) then
  True∧K (Sp.jf n3,())
  else K (false,())
  else K (false,())
theorem ag3 (env:EnvB prog G Θ ah6) (h:∀ (n0:Int) (n1:Int) (n2:Int) (n3:eH) (n4:Int) (n5:Int) (n6:eH) (at':Int),bF KE ((n0,n1,n2,n3,n4,n5,n6,()),at',())→(True)→UB n0 n1 n2 n3 n4 n5 n6 at' fun r=>r=((Sp.lG (n0,n1,n2,n3,n4,n5,n6,()) at',()))):aA prog G yY Cc:=
 aT env mixed (fn:=f248) (c:=codeOf f248) (by kernel_rfl) (by kernel_rfl) akn (by kernel_rfl) fun ⟨⟨n0,n1,n2,n3,n4,n5,n6,⟨⟩⟩,at',⟨⟩⟩ hin hp=>
 Eq.mpr (by kernel_rfl) (h n0 n1 n2 n3 n4 n5 n6 at' hin hp)
def abX:Hints:=Go.Fw.hints [] [(3,⟨[],⟨[(0, .one (.sl 167 (.cons (.int .i64) (.cons (.int .i64) (.cons (.int .i64) (.cons .str (.cons (.int .i64) (.cons (.int .i64) (.cons .str .nil))))))) false)),(1, .one (.int .i64))],[]⟩,⟨[(5, .one (.int .i64)),(6, .one (.int .i64))],[]⟩⟩)] [(8,⟨[],⟨[(0, .one (.sl 167 (.cons (.int .i64) (.cons (.int .i64) (.cons (.int .i64) (.cons .str (.cons (.int .i64) (.cons (.int .i64) (.cons .str .nil))))))) false)),(1, .one (.int .i64)),(6, .one (.int .i64)),(7, .one (.bool))],[]⟩,⟨[(5, .one (.int .i64))],[]⟩⟩)] [] []
def aan (q:jr) (at':Int) (K:iV→Prop):Prop:=
 let s0:(jr×iV)×Unit:=((q,at',()),());
  ∃ (I:Ld→Prop),
  ∃ (μ:Ld→Nat),
  I (((0:Int),(0:Int),()),())∧
  ∀ (y1:Ld),
  I y1→
  bif decide (y1.1.2.1<(↑q.length:Int)) then
  ((0:Int)≤y1.1.2.1∧y1.1.2.1<(↑q.length:Int))∧
  bif (q.getD (Int.toNat y1.1.2.1) ((0:Int),(0:Int),(0:Int),[],(0:Int),(0:Int),[],())).1==(6:Int) then
 let s2:(jr×Int×Int×dD)×Unit:=((q,at',y1.1.2.1,true,()),());
  ∃ (J:bn→Prop),
  (((0:Int)≤y1.1.2.1∧y1.1.2.1<(↑q.length:Int))∧
  bif (q.getD (Int.toNat y1.1.2.1) ((0:Int),(0:Int),(0:Int),[],(0:Int),(0:Int),[],())).2.1==at' then
  s2=s2∧J ((i64.wrap (y1.1.1+(1:Int)),()),())
  else s2=s2∧J ((y1.1.1,()),()))∧
  ∀ (y3:bn),
  J y3→
  ((0:Int)≤y1.1.2.1∧y1.1.2.1<(↑q.length:Int))∧
  bif (q.getD (Int.toNat y1.1.2.1) ((0:Int),(0:Int),(0:Int),[],(0:Int),(0:Int),[],())).2.2.1==at' then
  s0=s0∧
  I ((i64.wrap (y3.1.1+(1:Int)),i64.wrap (y1.1.2.1+(1:Int)),()),())∧
  μ ((i64.wrap (y3.1.1+(1:Int)),i64.wrap (y1.1.2.1+(1:Int)),()),())<μ y1
  else
  s0=s0∧
  I ((y3.1.1,i64.wrap (y1.1.2.1+(1:Int)),()),())∧
  μ ((y3.1.1,i64.wrap (y1.1.2.1+(1:Int)),()),())<μ y1
  else
  ((0:Int)≤y1.1.2.1∧y1.1.2.1<(↑q.length:Int))∧
 let s4:(jr×Int×Int×dD)×Unit:=
  ((q,at',y1.1.2.1,(q.getD (Int.toNat y1.1.2.1) ((0:Int),(0:Int),(0:Int),[],(0:Int),(0:Int),[],())).1==(7:Int),()),());
  ∃ (J:bn→Prop),
  (bif (q.getD (Int.toNat y1.1.2.1) ((0:Int),(0:Int),(0:Int),[],(0:Int),(0:Int),[],())).1==(7:Int) then
  ((0:Int)≤y1.1.2.1∧y1.1.2.1<(↑q.length:Int))∧
  bif (q.getD (Int.toNat y1.1.2.1) ((0:Int),(0:Int),(0:Int),[],(0:Int),(0:Int),[],())).2.1==at' then
  s4=s4∧J ((i64.wrap (y1.1.1+(1:Int)),()),())
  else s4=s4∧J ((y1.1.1,()),())
  else
  ((0:Int)≤y1.1.2.1∧y1.1.2.1<(↑q.length:Int))∧
  bif (q.getD (Int.toNat y1.1.2.1) ((0:Int),(0:Int),(0:Int),[],(0:Int),(0:Int),[],())).1==(5:Int) then
  ((0:Int)≤y1.1.2.1∧y1.1.2.1<(↑q.length:Int))∧
  bif (q.getD (Int.toNat y1.1.2.1) ((0:Int),(0:Int),(0:Int),[],(0:Int),(0:Int),[],())).2.1==at' then
  s4=s4∧J ((i64.wrap (y1.1.1+(1:Int)),()),())
  else s4=s4∧J ((y1.1.1,()),())
  else s4=s4∧J ((y1.1.1,()),()))∧
  ∀ (y5:bn),
  J y5→
  bif (q.getD (Int.toNat y1.1.2.1) ((0:Int),(0:Int),(0:Int),[],(0:Int),(0:Int),[],())).1==(7:Int) then
  ((0:Int)≤y1.1.2.1∧y1.1.2.1<(↑q.length:Int))∧
  bif (q.getD (Int.toNat y1.1.2.1) ((0:Int),(0:Int),(0:Int),[],(0:Int),(0:Int),[],())).2.2.1==at' then
  s0=s0∧
  I ((i64.wrap (y5.1.1+(1:Int)),i64.wrap (y1.1.2.1+(1:Int)),()),())∧
  μ ((i64.wrap (y5.1.1+(1:Int)),i64.wrap (y1.1.2.1+(1:Int)),()),())<μ y1
  else
  s0=s0∧
  I ((y5.1.1,i64.wrap (y1.1.2.1+(1:Int)),()),())∧
  μ ((y5.1.1,i64.wrap (y1.1.2.1+(1:Int)),()),())<μ y1
  else
  s0=s0∧
  I ((y5.1.1,i64.wrap (y1.1.2.1+(1:Int)),()),())∧
  μ ((y5.1.1,i64.wrap (y1.1.2.1+(1:Int)),()),())<μ y1
  else K (y1.1.1,())
theorem aai (env:EnvB prog G Θ abf) (h:∀ (q:jr) (at':Int),bF Eu (q,at',())→(q.length≤(1000000:Nat))→aan q at' fun r=>r=(((↑(Sp.ou q at'):Int),()))):aA prog G sK vT:=
 aT env mixed (fn:=f246) (c:=codeOf f246) (by kernel_rfl) (by kernel_rfl) abX (by kernel_rfl) fun ⟨q,at',⟨⟩⟩ hin hp=>
 Eq.mpr (by kernel_rfl) (h q at' hin hp)
def abY:Hints:=Go.Fw.hints [] [(3,⟨[],⟨[(1, .one (.int .i64)),(9, .one (.sl 167 (.cons (.int .i64) (.cons (.int .i64) (.cons (.int .i64) (.cons .str (.cons (.int .i64) (.cons (.int .i64) (.cons .str .nil))))))) false)),(10, .one (.int .i64))],[]⟩,⟨[(5, .one (.int .i64)),(11, .one (.int .i64))],[]⟩⟩)] [(8,⟨[],⟨[(1, .one (.int .i64)),(7, .dW 448 0),(8, .one (.bool)),(9, .one (.sl 167 (.cons (.int .i64) (.cons (.int .i64) (.cons (.int .i64) (.cons .str (.cons (.int .i64) (.cons (.int .i64) (.cons .str .nil))))))) false)),(10, .one (.int .i64)),(11, .one (.int .i64))],[(448, .var [.int .i64, .int .i64, .int .i64, .str, .int .i64, .int .i64, .str])]⟩,⟨[(5, .one (.int .i64))],[]⟩⟩)] [] []
def aao (q:jr) (at':Int) (K:iV→Prop):Prop:=
 let s0:(Int×jr×iV)×Unit:=((at',q,(↑q.length:Int),()),());
  ∃ (I:Ld→Prop),
  ∃ (μ:Ld→Nat),
  I (((0:Int),(0:Int),()),())∧
  ∀ (y1:Ld),
  I y1→
  bif decide (y1.1.2.1<(↑q.length:Int)) then
  ((0:Int)≤y1.1.2.1∧y1.1.2.1<(↑q.length:Int))∧
  bif (q.getD (Int.toNat y1.1.2.1) ((0:Int),(0:Int),(0:Int),[],(0:Int),(0:Int),[],())).1==(6:Int) then
 let s2:
  (Int×Unit×Bool×jr×Int×iV)×TF×Unit:=
  ((at',(),true,q,(↑q.length:Int),y1.1.2.1,()),
  ((q.getD (Int.toNat y1.1.2.1) ((0:Int),(0:Int),(0:Int),[],(0:Int),(0:Int),[],())).1,
  (q.getD (Int.toNat y1.1.2.1) ((0:Int),(0:Int),(0:Int),[],(0:Int),(0:Int),[],())).2.1,
  (q.getD (Int.toNat y1.1.2.1) ((0:Int),(0:Int),(0:Int),[],(0:Int),(0:Int),[],())).2.2.1,
  (q.getD (Int.toNat y1.1.2.1) ((0:Int),(0:Int),(0:Int),[],(0:Int),(0:Int),[],())).2.2.2.1,
  (q.getD (Int.toNat y1.1.2.1) ((0:Int),(0:Int),(0:Int),[],(0:Int),(0:Int),[],())).2.2.2.2.1,
  (q.getD (Int.toNat y1.1.2.1) ((0:Int),(0:Int),(0:Int),[],(0:Int),(0:Int),[],())).2.2.2.2.2.1,
  (q.getD (Int.toNat y1.1.2.1) ((0:Int),(0:Int),(0:Int),[],(0:Int),(0:Int),[],())).2.2.2.2.2.2.1,()),
  ());
  ∃ (J:bn→Prop),
  (bif (q.getD (Int.toNat y1.1.2.1) ((0:Int),(0:Int),(0:Int),[],(0:Int),(0:Int),[],())).2.1==at' then
  s2=s2∧J ((i64.wrap (y1.1.1+(1:Int)),()),())
  else s2=s2∧J ((y1.1.1,()),()))∧
  ∀ (y3:bn),
  J y3→
  bif (q.getD (Int.toNat y1.1.2.1) ((0:Int),(0:Int),(0:Int),[],(0:Int),(0:Int),[],())).2.2.1==at' then
  s0=s0∧
  I ((i64.wrap (y3.1.1+(1:Int)),i64.wrap (y1.1.2.1+(1:Int)),()),())∧
  μ ((i64.wrap (y3.1.1+(1:Int)),i64.wrap (y1.1.2.1+(1:Int)),()),())<μ y1
  else
  s0=s0∧
  I ((y3.1.1,i64.wrap (y1.1.2.1+(1:Int)),()),())∧μ ((y3.1.1,i64.wrap (y1.1.2.1+(1:Int)),()),())<μ y1
  else
 let s4:
  (Int×Unit×Bool×jr×Int×iV)×TF×Unit:=
  ((at',(),(q.getD (Int.toNat y1.1.2.1) ((0:Int),(0:Int),(0:Int),[],(0:Int),(0:Int),[],())).1==(7:Int),q,(↑q.length:Int),
  y1.1.2.1,()),
  ((q.getD (Int.toNat y1.1.2.1) ((0:Int),(0:Int),(0:Int),[],(0:Int),(0:Int),[],())).1,
  (q.getD (Int.toNat y1.1.2.1) ((0:Int),(0:Int),(0:Int),[],(0:Int),(0:Int),[],())).2.1,
  (q.getD (Int.toNat y1.1.2.1) ((0:Int),(0:Int),(0:Int),[],(0:Int),(0:Int),[],())).2.2.1,
  (q.getD (Int.toNat y1.1.2.1) ((0:Int),(0:Int),(0:Int),[],(0:Int),(0:Int),[],())).2.2.2.1,
  (q.getD (Int.toNat y1.1.2.1) ((0:Int),(0:Int),(0:Int),[],(0:Int),(0:Int),[],())).2.2.2.2.1,
  (q.getD (Int.toNat y1.1.2.1) ((0:Int),(0:Int),(0:Int),[],(0:Int),(0:Int),[],())).2.2.2.2.2.1,
  (q.getD (Int.toNat y1.1.2.1) ((0:Int),(0:Int),(0:Int),[],(0:Int),(0:Int),[],())).2.2.2.2.2.2.1,()),
  ());
  ∃ (J:bn→Prop),
  (bif (q.getD (Int.toNat y1.1.2.1) ((0:Int),(0:Int),(0:Int),[],(0:Int),(0:Int),[],())).2.1==at' then
  bif (q.getD (Int.toNat y1.1.2.1) ((0:Int),(0:Int),(0:Int),[],(0:Int),(0:Int),[],())).1==(7:Int) then
  s4=s4∧J ((i64.wrap (y1.1.1+(1:Int)),()),())
  else
  bif (q.getD (Int.toNat y1.1.2.1) ((0:Int),(0:Int),(0:Int),[],(0:Int),(0:Int),[],())).1==(5:Int) then
  s4=s4∧J ((i64.wrap (y1.1.1+(1:Int)),()),())
  else s4=s4∧J ((y1.1.1,()),())
  else s4=s4∧J ((y1.1.1,()),()))∧
  ∀ (y5:bn),
  J y5→
  bif (q.getD (Int.toNat y1.1.2.1) ((0:Int),(0:Int),(0:Int),[],(0:Int),(0:Int),[],())).2.2.1==at' then
  bif (q.getD (Int.toNat y1.1.2.1) ((0:Int),(0:Int),(0:Int),[],(0:Int),(0:Int),[],())).1==(7:Int) then
  s0=s0∧
  I ((i64.wrap (y5.1.1+(1:Int)),i64.wrap (y1.1.2.1+(1:Int)),()),())∧
  μ ((i64.wrap (y5.1.1+(1:Int)),i64.wrap (y1.1.2.1+(1:Int)),()),())<μ y1
  else
  s0=s0∧
  I ((y5.1.1,i64.wrap (y1.1.2.1+(1:Int)),()),())∧
  μ ((y5.1.1,i64.wrap (y1.1.2.1+(1:Int)),()),())<μ y1
  else
  s0=s0∧
  I ((y5.1.1,i64.wrap (y1.1.2.1+(1:Int)),()),())∧μ ((y5.1.1,i64.wrap (y1.1.2.1+(1:Int)),()),())<μ y1
  else K (y1.1.1,())
theorem aak (env:EnvB prog G Θ abg) (h:∀ (q:jr) (at':Int),bF Ew (q,at',())→(q.length≤(1000000:Nat))→aao q at' fun r=>r=(((↑(Sp.ou q at'):Int),()))):aA prog G sN vU:=
 aT env mixed (fn:=f249) (c:=codeOf f249) (by kernel_rfl) (by kernel_rfl) abY (by kernel_rfl) fun ⟨q,at',⟨⟩⟩ hin hp=>
 Eq.mpr (by kernel_rfl) (h q at' hin hp)
def ahi:Hints:=Go.Fw.hints [] [(2,⟨[],⟨[(0, .one (.sl 167 (.cons (.int .i64) (.cons (.int .i64) (.cons (.int .i64) (.cons .str (.cons (.int .i64) (.cons (.int .i64) (.cons .str .nil))))))) false))],[]⟩,⟨[(3, .one (.int .i64))],[]⟩⟩)] [] [] []
def afn (q:jr) (K:dD→Prop):Prop:=
 let s0:=((q,()),());
  ∃ (I:bn→Prop),
  ∃ (μ:bn→Nat),
  I (((0:Int),()),())∧
  ∀ (y1:bn),
  I y1→
  bif decide (y1.1.1<(↑q.length:Int)) then
  ((0:Int)≤y1.1.1∧y1.1.1<(↑q.length:Int))∧
  True∧
 let r2:=
  Sp.lG
  ((q.getD (Int.toNat y1.1.1) ((0:Int),(0:Int),(0:Int),[],(0:Int),(0:Int),[],())).1,
  (q.getD (Int.toNat y1.1.1) ((0:Int),(0:Int),(0:Int),[],(0:Int),(0:Int),[],())).2.1,
  (q.getD (Int.toNat y1.1.1) ((0:Int),(0:Int),(0:Int),[],(0:Int),(0:Int),[],())).2.2.1,
  (q.getD (Int.toNat y1.1.1) ((0:Int),(0:Int),(0:Int),[],(0:Int),(0:Int),[],())).2.2.2.1,
  (q.getD (Int.toNat y1.1.1) ((0:Int),(0:Int),(0:Int),[],(0:Int),(0:Int),[],())).2.2.2.2.1,
  (q.getD (Int.toNat y1.1.1) ((0:Int),(0:Int),(0:Int),[],(0:Int),(0:Int),[],())).2.2.2.2.2.1,
  (q.getD (Int.toNat y1.1.1) ((0:Int),(0:Int),(0:Int),[],(0:Int),(0:Int),[],())).2.2.2.2.2.2.1,())
  y1.1.1;
  bif !r2 then K (false,())
  else
  bif decide (y1.1.1<i64.wrap ((↑q.length:Int)-(1:Int))) then
  q.length≤(1000000:Nat)∧
 let r3:=(↑(Sp.ou q y1.1.1):Int);
  bif r3 !=(1:Int) then K (false,())
  else s0=s0∧I ((i64.wrap (y1.1.1+(1:Int)),()),())∧μ ((i64.wrap (y1.1.1+(1:Int)),()),())<μ y1
  else s0=s0∧I ((i64.wrap (y1.1.1+(1:Int)),()),())∧μ ((i64.wrap (y1.1.1+(1:Int)),()),())<μ y1
  else
  True∧
 let r4:=decide ((1:Int)≤(↑q.length:Int))&&decide ((↑q.length:Int)≤(9:Int));
  K (r4,())
theorem aeU (env:EnvB prog G Θ af5) (h:∀ (q:jr),bF Jf (q,())→(q.length≤(1000000:Nat))→afn q fun r=>r=((Sp.bT q,()))):aA prog G kC kJ:=
 aT env mixed (fn:=f226) (c:=codeOf f226) (by kernel_rfl) (by kernel_rfl) ahi (by kernel_rfl) fun ⟨q,⟨⟩⟩ hin hp=>
 Eq.mpr (by kernel_rfl) (h q hin hp)
def ahj:Hints:=Go.Fw.hints [] [(2,⟨[],⟨[(0, .one (.sl 167 (.cons (.int .i64) (.cons (.int .i64) (.cons (.int .i64) (.cons .str (.cons (.int .i64) (.cons (.int .i64) (.cons .str .nil))))))) false)),(5, .one (.sl 167 (.cons (.int .i64) (.cons (.int .i64) (.cons (.int .i64) (.cons .str (.cons (.int .i64) (.cons (.int .i64) (.cons .str .nil))))))) false)),(6, .one (.int .i64))],[]⟩,⟨[(7, .one (.int .i64))],[]⟩⟩)] [] [] []
def afo (q:jr) (K:dD→Prop):Prop:=
 let s0:=((q,q,(↑q.length:Int),()),());
  ∃ (I:bn→Prop),
  ∃ (μ:bn→Nat),
  I (((0:Int),()),())∧
  ∀ (y1:bn),
  I y1→
  bif decide (y1.1.1<(↑q.length:Int)) then
  ((0:Int)≤y1.1.1∧y1.1.1<(↑q.length:Int))∧
  True∧
 let r2:=
  Sp.lG
  ((q.getD (Int.toNat y1.1.1) ((0:Int),(0:Int),(0:Int),[],(0:Int),(0:Int),[],())).1,
  (q.getD (Int.toNat y1.1.1) ((0:Int),(0:Int),(0:Int),[],(0:Int),(0:Int),[],())).2.1,
  (q.getD (Int.toNat y1.1.1) ((0:Int),(0:Int),(0:Int),[],(0:Int),(0:Int),[],())).2.2.1,
  (q.getD (Int.toNat y1.1.1) ((0:Int),(0:Int),(0:Int),[],(0:Int),(0:Int),[],())).2.2.2.1,
  (q.getD (Int.toNat y1.1.1) ((0:Int),(0:Int),(0:Int),[],(0:Int),(0:Int),[],())).2.2.2.2.1,
  (q.getD (Int.toNat y1.1.1) ((0:Int),(0:Int),(0:Int),[],(0:Int),(0:Int),[],())).2.2.2.2.2.1,
  (q.getD (Int.toNat y1.1.1) ((0:Int),(0:Int),(0:Int),[],(0:Int),(0:Int),[],())).2.2.2.2.2.2.1,())
  y1.1.1;
  bif !r2 then K (false,())
  else
  bif decide (y1.1.1<i64.wrap ((↑q.length:Int)-(1:Int))) then
  q.length≤(1000000:Nat)∧
 let r3:=(↑(Sp.ou q y1.1.1):Int);
  bif r3 !=(1:Int) then K (false,())
  else s0=s0∧I ((i64.wrap (y1.1.1+(1:Int)),()),())∧μ ((i64.wrap (y1.1.1+(1:Int)),()),())<μ y1
  else s0=s0∧I ((i64.wrap (y1.1.1+(1:Int)),()),())∧μ ((i64.wrap (y1.1.1+(1:Int)),()),())<μ y1
  else
  True∧
 let r4:=decide ((1:Int)≤(↑q.length:Int))&&decide ((↑q.length:Int)≤(9:Int));
  K (r4,())
theorem aeV (env:EnvB prog G Θ af6) (h:∀ (q:jr),bF Jg (q,())→(q.length≤(1000000:Nat))→afo q fun r=>r=((Sp.bT q,()))):aA prog G kD kK:=
 aT env mixed (fn:=f234) (c:=codeOf f234) (by kernel_rfl) (by kernel_rfl) ahj (by kernel_rfl) fun ⟨q,⟨⟩⟩ hin hp=>
 Eq.mpr (by kernel_rfl) (h q hin hp)
def ako:Hints:=Go.Fw.hints [] [(2,⟨[],⟨[(0, .one (.sl 124 (.cons .str (.cons (.sl 167 (.cons (.int .i64) (.cons (.int .i64) (.cons (.int .i64) (.cons .str (.cons (.int .i64) (.cons (.int .i64) (.cons .str .nil)))))))) .nil)) false))],[]⟩,⟨[(3, .one (.int .i64))],[]⟩⟩)] [] [] []
def ahk (d:jv) (K:dD→Prop):Prop:=
 let s0:=((d,()),());
  ∃ (I:bn→Prop),
  ∃ (μ:bn→Nat),
  I (((0:Int),()),())∧
  ∀ (y1:bn),
  I y1→
  bif decide (y1.1.1<(↑d.length:Int)) then
  ((0:Int)≤y1.1.1∧y1.1.1<(↑d.length:Int))∧
  True∧
 let r2:=Sp.jf (d.getD (Int.toNat y1.1.1) ([],[],())).1;
  bif !r2 then K (false,())
  else
  ((0:Int)≤y1.1.1∧y1.1.1<(↑d.length:Int))∧
  List.length (d.getD (Int.toNat y1.1.1) ([],[],())).2.1≤(1000000:Nat)∧
 let r3:=Sp.bT (d.getD (Int.toNat y1.1.1) ([],[],())).2.1;
  bif !r3 then K (false,())
  else
  bif decide (y1.1.1>(0:Int)) then
  ((0:Int)≤i64.wrap (y1.1.1-(1:Int))∧i64.wrap (y1.1.1-(1:Int))<(↑d.length:Int))∧
  ((0:Int)≤y1.1.1∧y1.1.1<(↑d.length:Int))∧
  bif !Op.bytesLess (d.getD (i64.wrap (y1.1.1-(1:Int))).toNat ([],[],())).1 (d.getD (Int.toNat y1.1.1) ([],[],())).1 then
  K (false,())
  else s0=s0∧I ((i64.wrap (y1.1.1+(1:Int)),()),())∧μ ((i64.wrap (y1.1.1+(1:Int)),()),())<μ y1
  else s0=s0∧I ((i64.wrap (y1.1.1+(1:Int)),()),())∧μ ((i64.wrap (y1.1.1+(1:Int)),()),())<μ y1
  else K (decide ((↑d.length:Int)≤(5:Int)),())
theorem ag6 (env:EnvB prog G Θ ah7) (h:∀ (d:jv),bF KF (d,())→(Sp.aS d)→ahk d fun r=>r=((Sp.gZ d,()))):aA prog G zh Ce:=
 aT env mixed (fn:=f190) (c:=codeOf f190) (by kernel_rfl) (by kernel_rfl) ako (by kernel_rfl) fun ⟨d,⟨⟩⟩ hin hp=>
 Eq.mpr (by kernel_rfl) (h d hin hp)
def akp:Hints:=Go.Fw.hints [] [(2,⟨[],⟨[(0, .one (.sl 124 (.cons .str (.cons (.sl 167 (.cons (.int .i64) (.cons (.int .i64) (.cons (.int .i64) (.cons .str (.cons (.int .i64) (.cons (.int .i64) (.cons .str .nil)))))))) .nil)) false)),(5, .one (.sl 124 (.cons .str (.cons (.sl 167 (.cons (.int .i64) (.cons (.int .i64) (.cons (.int .i64) (.cons .str (.cons (.int .i64) (.cons (.int .i64) (.cons .str .nil)))))))) .nil)) false)),(6, .one (.int .i64))],[]⟩,⟨[(7, .one (.int .i64))],[]⟩⟩)] [] [] []
def ahl (d:jv) (K:dD→Prop):Prop:=
 let s0:=((d,d,(↑d.length:Int),()),());
  ∃ (I:bn→Prop),
  ∃ (μ:bn→Nat),
  I (((0:Int),()),())∧
  ∀ (y1:bn),
  I y1→
  bif decide (y1.1.1<(↑d.length:Int)) then
  ((0:Int)≤y1.1.1∧y1.1.1<(↑d.length:Int))∧
  True∧
 let r2:=Sp.jf (d.getD (Int.toNat y1.1.1) ([],[],())).1;
  bif !r2 then K (false,())
  else
  bif decide (y1.1.1>(0:Int)) then
  ((0:Int)≤i64.wrap (y1.1.1-(1:Int))∧i64.wrap (y1.1.1-(1:Int))<(↑d.length:Int))∧
  bif !Op.bytesLess (d.getD (i64.wrap (y1.1.1-(1:Int))).toNat ([],[],())).1 (d.getD (Int.toNat y1.1.1) ([],[],())).1 then
  K (false,())
  else
  List.length (d.getD (Int.toNat y1.1.1) ([],[],())).2.1≤(1000000:Nat)∧
 let r3:=Sp.bT (d.getD (Int.toNat y1.1.1) ([],[],())).2.1;
  bif !r3 then K (false,())
  else s0=s0∧I ((i64.wrap (y1.1.1+(1:Int)),()),())∧μ ((i64.wrap (y1.1.1+(1:Int)),()),())<μ y1
  else
  List.length (d.getD (Int.toNat y1.1.1) ([],[],())).2.1≤(1000000:Nat)∧
 let r4:=Sp.bT (d.getD (Int.toNat y1.1.1) ([],[],())).2.1;
  bif !r4 then K (false,())
  else s0=s0∧I ((i64.wrap (y1.1.1+(1:Int)),()),())∧μ ((i64.wrap (y1.1.1+(1:Int)),()),())<μ y1
  else K (decide ((↑d.length:Int)≤(5:Int)),())
theorem ag7 (env:EnvB prog G Θ ah8) (h:∀ (d:jv),bF KG (d,())→(Sp.aS d)→ahl d fun r=>r=((Sp.gZ d,()))):aA prog G zf Ci:=
 aT env mixed (fn:=f201) (c:=codeOf f201) (by kernel_rfl) (by kernel_rfl) akp (by kernel_rfl) fun ⟨d,⟨⟩⟩ hin hp=>
 Eq.mpr (by kernel_rfl) (h d hin hp)
def asV:Hints:=Go.Fw.hints [] [] [] [] []
def apG (n0:Int) (n1:Int) (n2:Int) (n3:eH) (n4:Int) (n5:Int) (n6:eH) (K:dD→Prop):Prop:=
 bif n0==(8:Int) then K (true,()) else K (n0==(9:Int),())
theorem apg (env:EnvB prog G Θ aqt) (h:∀ (n0:Int) (n1:Int) (n2:Int) (n3:eH) (n4:Int) (n5:Int) (n6:eH),bF Pe ((n0,n1,n2,n3,n4,n5,n6,()),())→(True)→apG n0 n1 n2 n3 n4 n5 n6 fun r=>r=((n0==(8:Int)||n0==(9:Int),()))):aA prog G vY wK:=
 aT env mixed (fn:=f241) (c:=codeOf f241) (by kernel_rfl) (by kernel_rfl) asV (by kernel_rfl) fun ⟨⟨n0,n1,n2,n3,n4,n5,n6,⟨⟩⟩,⟨⟩⟩ hin hp=>
 Eq.mpr (by kernel_rfl) (h n0 n1 n2 n3 n4 n5 n6 hin hp)
def ahm:Hints:=Go.Fw.hints [13] [(5,⟨[],⟨[(0, .one (.sl 167 (.cons (.int .i64) (.cons (.int .i64) (.cons (.int .i64) (.cons .str (.cons (.int .i64) (.cons (.int .i64) (.cons .str .nil))))))) false)),(3, .one (.ref 833))],[]⟩,⟨[(4, .one (.int .i64))],[(833, .arr 4 (.cons .bool .nil) true)]⟩⟩)] [] [] []
def afp (q:jr) (K:List dD×Unit→Prop):Prop:=
 q.length≤(1000000:Nat)∧
 bif !Sp.bT q then K ([],())
 else
 ((0:Int)≤(↑q.length:Int)∧(↑q.length:Int)≤(↑q.length:Int)∧(↑q.length:Int)≤(↑big:Int))∧
 let s0:=((q,(),()),());
  ∃ (I:auU→Prop),
  ∃ (μ:auU→Nat),
  I ((i64.wrap ((↑q.length:Int)-(1:Int)),()),List.replicate (↑q.length:Int).toNat (false,()),())∧
  ∀ (y1:auU),
  I y1→
  bif decide (y1.1.1≥(0:Int)) then
  ((0:Int)≤y1.1.1∧y1.1.1<(↑q.length:Int))∧
  bif (q.getD (Int.toNat y1.1.1) ((0:Int),(0:Int),(0:Int),[],(0:Int),(0:Int),[],())).1==(6:Int) then
  bif (q.getD (Int.toNat y1.1.1) ((0:Int),(0:Int),(0:Int),[],(0:Int),(0:Int),[],())).1==(5:Int) then
  ((0:Int)≤(q.getD (Int.toNat y1.1.1) ((0:Int),(0:Int),(0:Int),[],(0:Int),(0:Int),[],())).2.1∧
  (q.getD (Int.toNat y1.1.1) ((0:Int),(0:Int),(0:Int),[],(0:Int),(0:Int),[],())).2.1<(↑(List.length y1.2.1):Int))∧
  Int.toNat (q.getD (Int.toNat y1.1.1) ((0:Int),(0:Int),(0:Int),[],(0:Int),(0:Int),[],())).2.1<List.length y1.2.1∧
  ((0:Int)≤y1.1.1∧
  y1.1.1<
  (↑(List.set y1.2.1 (Int.toNat (q.getD (Int.toNat y1.1.1) ((0:Int),(0:Int),(0:Int),[],(0:Int),(0:Int),[],())).2.1)
  (true,())).length:
  Int))∧
  Int.toNat y1.1.1<
  (List.set y1.2.1 (Int.toNat (q.getD (Int.toNat y1.1.1) ((0:Int),(0:Int),(0:Int),[],(0:Int),(0:Int),[],())).2.1)
  (true,())).length∧
  ((0:Int)≤(q.getD (Int.toNat y1.1.1) ((0:Int),(0:Int),(0:Int),[],(0:Int),(0:Int),[],())).2.1∧
  (q.getD (Int.toNat y1.1.1) ((0:Int),(0:Int),(0:Int),[],(0:Int),(0:Int),[],())).2.1<
  (↑(List.set y1.2.1 (Int.toNat (q.getD (Int.toNat y1.1.1) ((0:Int),(0:Int),(0:Int),[],(0:Int),(0:Int),[],())).2.1)
  (true,())).length:
  Int))∧
  Int.toNat (q.getD (Int.toNat y1.1.1) ((0:Int),(0:Int),(0:Int),[],(0:Int),(0:Int),[],())).2.1<
  (List.set y1.2.1 (Int.toNat (q.getD (Int.toNat y1.1.1) ((0:Int),(0:Int),(0:Int),[],(0:Int),(0:Int),[],())).2.1)
  (true,())).length∧
  ((0:Int)≤y1.1.1∧
  y1.1.1<
  (↑((List.set y1.2.1
  (Int.toNat (q.getD (Int.toNat y1.1.1) ((0:Int),(0:Int),(0:Int),[],(0:Int),(0:Int),[],())).2.1)
  (true,())).set
  (Int.toNat (q.getD (Int.toNat y1.1.1) ((0:Int),(0:Int),(0:Int),[],(0:Int),(0:Int),[],())).2.1)
  (((List.set y1.2.1
  (Int.toNat (q.getD (Int.toNat y1.1.1) ((0:Int),(0:Int),(0:Int),[],(0:Int),(0:Int),[],())).2.1)
  (true,())).getD
  (Int.toNat y1.1.1) (false,())).1,
  ())).length:
  Int))∧
  Int.toNat y1.1.1<
  ((List.set y1.2.1
  (Int.toNat (q.getD (Int.toNat y1.1.1) ((0:Int),(0:Int),(0:Int),[],(0:Int),(0:Int),[],())).2.1)
  (true,())).set
  (Int.toNat (q.getD (Int.toNat y1.1.1) ((0:Int),(0:Int),(0:Int),[],(0:Int),(0:Int),[],())).2.1)
  (((List.set y1.2.1
  (Int.toNat (q.getD (Int.toNat y1.1.1) ((0:Int),(0:Int),(0:Int),[],(0:Int),(0:Int),[],())).2.1)
  (true,())).getD
  (Int.toNat y1.1.1) (false,())).1,
  ())).length∧
  ((0:Int)≤(q.getD (Int.toNat y1.1.1) ((0:Int),(0:Int),(0:Int),[],(0:Int),(0:Int),[],())).2.2.1∧
  (q.getD (Int.toNat y1.1.1) ((0:Int),(0:Int),(0:Int),[],(0:Int),(0:Int),[],())).2.2.1<
  (↑((List.set y1.2.1
  (Int.toNat (q.getD (Int.toNat y1.1.1) ((0:Int),(0:Int),(0:Int),[],(0:Int),(0:Int),[],())).2.1)
  (true,())).set
  (Int.toNat (q.getD (Int.toNat y1.1.1) ((0:Int),(0:Int),(0:Int),[],(0:Int),(0:Int),[],())).2.1)
  (((List.set y1.2.1
  (Int.toNat
  (q.getD (Int.toNat y1.1.1) ((0:Int),(0:Int),(0:Int),[],(0:Int),(0:Int),[],())).2.1)
  (true,())).getD
  (Int.toNat y1.1.1) (false,())).1,
  ())).length:
  Int))∧
  Int.toNat (q.getD (Int.toNat y1.1.1) ((0:Int),(0:Int),(0:Int),[],(0:Int),(0:Int),[],())).2.2.1<
  ((List.set y1.2.1
  (Int.toNat (q.getD (Int.toNat y1.1.1) ((0:Int),(0:Int),(0:Int),[],(0:Int),(0:Int),[],())).2.1)
  (true,())).set
  (Int.toNat (q.getD (Int.toNat y1.1.1) ((0:Int),(0:Int),(0:Int),[],(0:Int),(0:Int),[],())).2.1)
  (((List.set y1.2.1
  (Int.toNat (q.getD (Int.toNat y1.1.1) ((0:Int),(0:Int),(0:Int),[],(0:Int),(0:Int),[],())).2.1)
  (true,())).getD
  (Int.toNat y1.1.1) (false,())).1,
  ())).length∧
  s0=s0∧
  I
  ((i64.wrap (y1.1.1-(1:Int)),()),
  ((List.set y1.2.1
  (Int.toNat
  (q.getD (Int.toNat y1.1.1) ((0:Int),(0:Int),(0:Int),[],(0:Int),(0:Int),[],())).2.1)
  (true,())).set
  (Int.toNat (q.getD (Int.toNat y1.1.1) ((0:Int),(0:Int),(0:Int),[],(0:Int),(0:Int),[],())).2.1)
  (((List.set y1.2.1
  (Int.toNat
  (q.getD (Int.toNat y1.1.1) ((0:Int),(0:Int),(0:Int),[],(0:Int),(0:Int),[],())).2.1)
  (true,())).getD
  (Int.toNat y1.1.1) (false,())).1,
  ())).set
  (Int.toNat (q.getD (Int.toNat y1.1.1) ((0:Int),(0:Int),(0:Int),[],(0:Int),(0:Int),[],())).2.2.1)
  ((((List.set y1.2.1
  (Int.toNat
  (q.getD (Int.toNat y1.1.1) ((0:Int),(0:Int),(0:Int),[],(0:Int),(0:Int),[],())).2.1)
  (true,())).set
  (Int.toNat
  (q.getD (Int.toNat y1.1.1) ((0:Int),(0:Int),(0:Int),[],(0:Int),(0:Int),[],())).2.1)
  (((List.set y1.2.1
  (Int.toNat
  (q.getD (Int.toNat y1.1.1)
  ((0:Int),(0:Int),(0:Int),[],(0:Int),(0:Int),[],())).2.1)
  (true,())).getD
  (Int.toNat y1.1.1) (false,())).1,
  ())).getD
  (Int.toNat y1.1.1) (false,())).1,
  ()),
  ())∧
  μ
  ((i64.wrap (y1.1.1-(1:Int)),()),
  ((List.set y1.2.1
  (Int.toNat
  (q.getD (Int.toNat y1.1.1) ((0:Int),(0:Int),(0:Int),[],(0:Int),(0:Int),[],())).2.1)
  (true,())).set
  (Int.toNat (q.getD (Int.toNat y1.1.1) ((0:Int),(0:Int),(0:Int),[],(0:Int),(0:Int),[],())).2.1)
  (((List.set y1.2.1
  (Int.toNat
  (q.getD (Int.toNat y1.1.1) ((0:Int),(0:Int),(0:Int),[],(0:Int),(0:Int),[],())).2.1)
  (true,())).getD
  (Int.toNat y1.1.1) (false,())).1,
  ())).set
  (Int.toNat (q.getD (Int.toNat y1.1.1) ((0:Int),(0:Int),(0:Int),[],(0:Int),(0:Int),[],())).2.2.1)
  ((((List.set y1.2.1
  (Int.toNat
  (q.getD (Int.toNat y1.1.1) ((0:Int),(0:Int),(0:Int),[],(0:Int),(0:Int),[],())).2.1)
  (true,())).set
  (Int.toNat
  (q.getD (Int.toNat y1.1.1) ((0:Int),(0:Int),(0:Int),[],(0:Int),(0:Int),[],())).2.1)
  (((List.set y1.2.1
  (Int.toNat
  (q.getD (Int.toNat y1.1.1)
  ((0:Int),(0:Int),(0:Int),[],(0:Int),(0:Int),[],())).2.1)
  (true,())).getD
  (Int.toNat y1.1.1) (false,())).1,
  ())).getD
  (Int.toNat y1.1.1) (false,())).1,
  ()),
  ())<
  μ y1
  else
  ((0:Int)≤y1.1.1∧y1.1.1<(↑(List.length y1.2.1):Int))∧
  Int.toNat y1.1.1<List.length y1.2.1∧
  ((0:Int)≤(q.getD (Int.toNat y1.1.1) ((0:Int),(0:Int),(0:Int),[],(0:Int),(0:Int),[],())).2.1∧
  (q.getD (Int.toNat y1.1.1) ((0:Int),(0:Int),(0:Int),[],(0:Int),(0:Int),[],())).2.1<(↑(List.length y1.2.1):Int))∧
  Int.toNat (q.getD (Int.toNat y1.1.1) ((0:Int),(0:Int),(0:Int),[],(0:Int),(0:Int),[],())).2.1<List.length y1.2.1∧
  ((0:Int)≤y1.1.1∧
  y1.1.1<
  (↑(List.set y1.2.1 (Int.toNat (q.getD (Int.toNat y1.1.1) ((0:Int),(0:Int),(0:Int),[],(0:Int),(0:Int),[],())).2.1)
  ((List.getD y1.2.1 (Int.toNat y1.1.1) (false,())).1,())).length:
  Int))∧
  Int.toNat y1.1.1<
  (List.set y1.2.1 (Int.toNat (q.getD (Int.toNat y1.1.1) ((0:Int),(0:Int),(0:Int),[],(0:Int),(0:Int),[],())).2.1)
  ((List.getD y1.2.1 (Int.toNat y1.1.1) (false,())).1,())).length∧
  ((0:Int)≤(q.getD (Int.toNat y1.1.1) ((0:Int),(0:Int),(0:Int),[],(0:Int),(0:Int),[],())).2.2.1∧
  (q.getD (Int.toNat y1.1.1) ((0:Int),(0:Int),(0:Int),[],(0:Int),(0:Int),[],())).2.2.1<
  (↑(List.set y1.2.1
  (Int.toNat (q.getD (Int.toNat y1.1.1) ((0:Int),(0:Int),(0:Int),[],(0:Int),(0:Int),[],())).2.1)
  ((List.getD y1.2.1 (Int.toNat y1.1.1) (false,())).1,())).length:
  Int))∧
  Int.toNat (q.getD (Int.toNat y1.1.1) ((0:Int),(0:Int),(0:Int),[],(0:Int),(0:Int),[],())).2.2.1<
  (List.set y1.2.1
  (Int.toNat (q.getD (Int.toNat y1.1.1) ((0:Int),(0:Int),(0:Int),[],(0:Int),(0:Int),[],())).2.1)
  ((List.getD y1.2.1 (Int.toNat y1.1.1) (false,())).1,())).length∧
  s0=s0∧
  I
  ((i64.wrap (y1.1.1-(1:Int)),()),
  (List.set y1.2.1
  (Int.toNat (q.getD (Int.toNat y1.1.1) ((0:Int),(0:Int),(0:Int),[],(0:Int),(0:Int),[],())).2.1)
  ((List.getD y1.2.1 (Int.toNat y1.1.1) (false,())).1,())).set
  (Int.toNat (q.getD (Int.toNat y1.1.1) ((0:Int),(0:Int),(0:Int),[],(0:Int),(0:Int),[],())).2.2.1)
  (((List.set y1.2.1
  (Int.toNat (q.getD (Int.toNat y1.1.1) ((0:Int),(0:Int),(0:Int),[],(0:Int),(0:Int),[],())).2.1)
  ((List.getD y1.2.1 (Int.toNat y1.1.1) (false,())).1,())).getD
  (Int.toNat y1.1.1) (false,())).1,
  ()),
  ())∧
  μ
  ((i64.wrap (y1.1.1-(1:Int)),()),
  (List.set y1.2.1
  (Int.toNat (q.getD (Int.toNat y1.1.1) ((0:Int),(0:Int),(0:Int),[],(0:Int),(0:Int),[],())).2.1)
  ((List.getD y1.2.1 (Int.toNat y1.1.1) (false,())).1,())).set
  (Int.toNat (q.getD (Int.toNat y1.1.1) ((0:Int),(0:Int),(0:Int),[],(0:Int),(0:Int),[],())).2.2.1)
  (((List.set y1.2.1
  (Int.toNat
  (q.getD (Int.toNat y1.1.1) ((0:Int),(0:Int),(0:Int),[],(0:Int),(0:Int),[],())).2.1)
  ((List.getD y1.2.1 (Int.toNat y1.1.1) (false,())).1,())).getD
  (Int.toNat y1.1.1) (false,())).1,
  ()),
  ())<
  μ y1
  else
  bif (q.getD (Int.toNat y1.1.1) ((0:Int),(0:Int),(0:Int),[],(0:Int),(0:Int),[],())).1==(5:Int) then
  ((0:Int)≤(q.getD (Int.toNat y1.1.1) ((0:Int),(0:Int),(0:Int),[],(0:Int),(0:Int),[],())).2.1∧
  (q.getD (Int.toNat y1.1.1) ((0:Int),(0:Int),(0:Int),[],(0:Int),(0:Int),[],())).2.1<(↑(List.length y1.2.1):Int))∧
  Int.toNat (q.getD (Int.toNat y1.1.1) ((0:Int),(0:Int),(0:Int),[],(0:Int),(0:Int),[],())).2.1<List.length y1.2.1∧
  bif (q.getD (Int.toNat y1.1.1) ((0:Int),(0:Int),(0:Int),[],(0:Int),(0:Int),[],())).1==(7:Int) then
  ((0:Int)≤y1.1.1∧
  y1.1.1<
  (↑(List.set y1.2.1 (Int.toNat (q.getD (Int.toNat y1.1.1) ((0:Int),(0:Int),(0:Int),[],(0:Int),(0:Int),[],())).2.1)
  (true,())).length:
  Int))∧
  Int.toNat y1.1.1<
  (List.set y1.2.1 (Int.toNat (q.getD (Int.toNat y1.1.1) ((0:Int),(0:Int),(0:Int),[],(0:Int),(0:Int),[],())).2.1)
  (true,())).length∧
  ((0:Int)≤(q.getD (Int.toNat y1.1.1) ((0:Int),(0:Int),(0:Int),[],(0:Int),(0:Int),[],())).2.1∧
  (q.getD (Int.toNat y1.1.1) ((0:Int),(0:Int),(0:Int),[],(0:Int),(0:Int),[],())).2.1<
  (↑(List.set y1.2.1
  (Int.toNat (q.getD (Int.toNat y1.1.1) ((0:Int),(0:Int),(0:Int),[],(0:Int),(0:Int),[],())).2.1)
  (true,())).length:
  Int))∧
  Int.toNat (q.getD (Int.toNat y1.1.1) ((0:Int),(0:Int),(0:Int),[],(0:Int),(0:Int),[],())).2.1<
  (List.set y1.2.1 (Int.toNat (q.getD (Int.toNat y1.1.1) ((0:Int),(0:Int),(0:Int),[],(0:Int),(0:Int),[],())).2.1)
  (true,())).length∧
  ((0:Int)≤y1.1.1∧
  y1.1.1<
  (↑((List.set y1.2.1
  (Int.toNat (q.getD (Int.toNat y1.1.1) ((0:Int),(0:Int),(0:Int),[],(0:Int),(0:Int),[],())).2.1)
  (true,())).set
  (Int.toNat (q.getD (Int.toNat y1.1.1) ((0:Int),(0:Int),(0:Int),[],(0:Int),(0:Int),[],())).2.1)
  (((List.set y1.2.1
  (Int.toNat
  (q.getD (Int.toNat y1.1.1) ((0:Int),(0:Int),(0:Int),[],(0:Int),(0:Int),[],())).2.1)
  (true,())).getD
  (Int.toNat y1.1.1) (false,())).1,
  ())).length:
  Int))∧
  Int.toNat y1.1.1<
  ((List.set y1.2.1
  (Int.toNat (q.getD (Int.toNat y1.1.1) ((0:Int),(0:Int),(0:Int),[],(0:Int),(0:Int),[],())).2.1)
  (true,())).set
  (Int.toNat (q.getD (Int.toNat y1.1.1) ((0:Int),(0:Int),(0:Int),[],(0:Int),(0:Int),[],())).2.1)
  (((List.set y1.2.1
  (Int.toNat (q.getD (Int.toNat y1.1.1) ((0:Int),(0:Int),(0:Int),[],(0:Int),(0:Int),[],())).2.1)
  (true,())).getD
  (Int.toNat y1.1.1) (false,())).1,
  ())).length∧
  ((0:Int)≤(q.getD (Int.toNat y1.1.1) ((0:Int),(0:Int),(0:Int),[],(0:Int),(0:Int),[],())).2.2.1∧
  (q.getD (Int.toNat y1.1.1) ((0:Int),(0:Int),(0:Int),[],(0:Int),(0:Int),[],())).2.2.1<
  (↑((List.set y1.2.1
  (Int.toNat (q.getD (Int.toNat y1.1.1) ((0:Int),(0:Int),(0:Int),[],(0:Int),(0:Int),[],())).2.1)
  (true,())).set
  (Int.toNat (q.getD (Int.toNat y1.1.1) ((0:Int),(0:Int),(0:Int),[],(0:Int),(0:Int),[],())).2.1)
  (((List.set y1.2.1
  (Int.toNat
  (q.getD (Int.toNat y1.1.1) ((0:Int),(0:Int),(0:Int),[],(0:Int),(0:Int),[],())).2.1)
  (true,())).getD
  (Int.toNat y1.1.1) (false,())).1,
  ())).length:
  Int))∧
  Int.toNat (q.getD (Int.toNat y1.1.1) ((0:Int),(0:Int),(0:Int),[],(0:Int),(0:Int),[],())).2.2.1<
  ((List.set y1.2.1
  (Int.toNat (q.getD (Int.toNat y1.1.1) ((0:Int),(0:Int),(0:Int),[],(0:Int),(0:Int),[],())).2.1)
  (true,())).set
  (Int.toNat (q.getD (Int.toNat y1.1.1) ((0:Int),(0:Int),(0:Int),[],(0:Int),(0:Int),[],())).2.1)
  (((List.set y1.2.1
  (Int.toNat
  (q.getD (Int.toNat y1.1.1) ((0:Int),(0:Int),(0:Int),[],(0:Int),(0:Int),[],())).2.1)
  (true,())).getD
  (Int.toNat y1.1.1) (false,())).1,
  ())).length∧
  s0=s0∧
  I
  ((i64.wrap (y1.1.1-(1:Int)),()),
  ((List.set y1.2.1
  (Int.toNat
  (q.getD (Int.toNat y1.1.1) ((0:Int),(0:Int),(0:Int),[],(0:Int),(0:Int),[],())).2.1)
  (true,())).set
  (Int.toNat (q.getD (Int.toNat y1.1.1) ((0:Int),(0:Int),(0:Int),[],(0:Int),(0:Int),[],())).2.1)
  (((List.set y1.2.1
  (Int.toNat
  (q.getD (Int.toNat y1.1.1) ((0:Int),(0:Int),(0:Int),[],(0:Int),(0:Int),[],())).2.1)
  (true,())).getD
  (Int.toNat y1.1.1) (false,())).1,
  ())).set
  (Int.toNat (q.getD (Int.toNat y1.1.1) ((0:Int),(0:Int),(0:Int),[],(0:Int),(0:Int),[],())).2.2.1)
  ((((List.set y1.2.1
  (Int.toNat
  (q.getD (Int.toNat y1.1.1) ((0:Int),(0:Int),(0:Int),[],(0:Int),(0:Int),[],())).2.1)
  (true,())).set
  (Int.toNat
  (q.getD (Int.toNat y1.1.1) ((0:Int),(0:Int),(0:Int),[],(0:Int),(0:Int),[],())).2.1)
  (((List.set y1.2.1
  (Int.toNat
  (q.getD (Int.toNat y1.1.1)
  ((0:Int),(0:Int),(0:Int),[],(0:Int),(0:Int),[],())).2.1)
  (true,())).getD
  (Int.toNat y1.1.1) (false,())).1,
  ())).getD
  (Int.toNat y1.1.1) (false,())).1,
  ()),
  ())∧
  μ
  ((i64.wrap (y1.1.1-(1:Int)),()),
  ((List.set y1.2.1
  (Int.toNat
  (q.getD (Int.toNat y1.1.1) ((0:Int),(0:Int),(0:Int),[],(0:Int),(0:Int),[],())).2.1)
  (true,())).set
  (Int.toNat
  (q.getD (Int.toNat y1.1.1) ((0:Int),(0:Int),(0:Int),[],(0:Int),(0:Int),[],())).2.1)
  (((List.set y1.2.1
  (Int.toNat
  (q.getD (Int.toNat y1.1.1)
  ((0:Int),(0:Int),(0:Int),[],(0:Int),(0:Int),[],())).2.1)
  (true,())).getD
  (Int.toNat y1.1.1) (false,())).1,
  ())).set
  (Int.toNat
  (q.getD (Int.toNat y1.1.1) ((0:Int),(0:Int),(0:Int),[],(0:Int),(0:Int),[],())).2.2.1)
  ((((List.set y1.2.1
  (Int.toNat
  (q.getD (Int.toNat y1.1.1)
  ((0:Int),(0:Int),(0:Int),[],(0:Int),(0:Int),[],())).2.1)
  (true,())).set
  (Int.toNat
  (q.getD (Int.toNat y1.1.1) ((0:Int),(0:Int),(0:Int),[],(0:Int),(0:Int),[],())).2.1)
  (((List.set y1.2.1
  (Int.toNat
  (q.getD (Int.toNat y1.1.1)
  ((0:Int),(0:Int),(0:Int),[],(0:Int),(0:Int),[],())).2.1)
  (true,())).getD
  (Int.toNat y1.1.1) (false,())).1,
  ())).getD
  (Int.toNat y1.1.1) (false,())).1,
  ()),
  ())<
  μ y1
  else
  s0=s0∧
  I
  ((i64.wrap (y1.1.1-(1:Int)),()),
  List.set y1.2.1 (Int.toNat (q.getD (Int.toNat y1.1.1) ((0:Int),(0:Int),(0:Int),[],(0:Int),(0:Int),[],())).2.1)
  (true,()),
  ())∧
  μ
  ((i64.wrap (y1.1.1-(1:Int)),()),
  List.set y1.2.1 (Int.toNat (q.getD (Int.toNat y1.1.1) ((0:Int),(0:Int),(0:Int),[],(0:Int),(0:Int),[],())).2.1)
  (true,()),
  ())<
  μ y1
  else
  bif (q.getD (Int.toNat y1.1.1) ((0:Int),(0:Int),(0:Int),[],(0:Int),(0:Int),[],())).1==(7:Int) then
  ((0:Int)≤y1.1.1∧y1.1.1<(↑(List.length y1.2.1):Int))∧
  Int.toNat y1.1.1<List.length y1.2.1∧
  ((0:Int)≤(q.getD (Int.toNat y1.1.1) ((0:Int),(0:Int),(0:Int),[],(0:Int),(0:Int),[],())).2.1∧
  (q.getD (Int.toNat y1.1.1) ((0:Int),(0:Int),(0:Int),[],(0:Int),(0:Int),[],())).2.1<(↑(List.length y1.2.1):Int))∧
  Int.toNat (q.getD (Int.toNat y1.1.1) ((0:Int),(0:Int),(0:Int),[],(0:Int),(0:Int),[],())).2.1<List.length y1.2.1∧
  ((0:Int)≤y1.1.1∧
  y1.1.1<
  (↑(List.set y1.2.1
  (Int.toNat (q.getD (Int.toNat y1.1.1) ((0:Int),(0:Int),(0:Int),[],(0:Int),(0:Int),[],())).2.1)
  ((List.getD y1.2.1 (Int.toNat y1.1.1) (false,())).1,())).length:
  Int))∧
  Int.toNat y1.1.1<
  (List.set y1.2.1 (Int.toNat (q.getD (Int.toNat y1.1.1) ((0:Int),(0:Int),(0:Int),[],(0:Int),(0:Int),[],())).2.1)
  ((List.getD y1.2.1 (Int.toNat y1.1.1) (false,())).1,())).length∧
  ((0:Int)≤(q.getD (Int.toNat y1.1.1) ((0:Int),(0:Int),(0:Int),[],(0:Int),(0:Int),[],())).2.2.1∧
  (q.getD (Int.toNat y1.1.1) ((0:Int),(0:Int),(0:Int),[],(0:Int),(0:Int),[],())).2.2.1<
  (↑(List.set y1.2.1
  (Int.toNat (q.getD (Int.toNat y1.1.1) ((0:Int),(0:Int),(0:Int),[],(0:Int),(0:Int),[],())).2.1)
  ((List.getD y1.2.1 (Int.toNat y1.1.1) (false,())).1,())).length:
  Int))∧
  Int.toNat (q.getD (Int.toNat y1.1.1) ((0:Int),(0:Int),(0:Int),[],(0:Int),(0:Int),[],())).2.2.1<
  (List.set y1.2.1
  (Int.toNat (q.getD (Int.toNat y1.1.1) ((0:Int),(0:Int),(0:Int),[],(0:Int),(0:Int),[],())).2.1)
  ((List.getD y1.2.1 (Int.toNat y1.1.1) (false,())).1,())).length∧
  s0=s0∧
  I
  ((i64.wrap (y1.1.1-(1:Int)),()),
  (List.set y1.2.1
  (Int.toNat (q.getD (Int.toNat y1.1.1) ((0:Int),(0:Int),(0:Int),[],(0:Int),(0:Int),[],())).2.1)
  ((List.getD y1.2.1 (Int.toNat y1.1.1) (false,())).1,())).set
  (Int.toNat (q.getD (Int.toNat y1.1.1) ((0:Int),(0:Int),(0:Int),[],(0:Int),(0:Int),[],())).2.2.1)
  (((List.set y1.2.1
  (Int.toNat
  (q.getD (Int.toNat y1.1.1) ((0:Int),(0:Int),(0:Int),[],(0:Int),(0:Int),[],())).2.1)
  ((List.getD y1.2.1 (Int.toNat y1.1.1) (false,())).1,())).getD
  (Int.toNat y1.1.1) (false,())).1,
  ()),
  ())∧
  μ
  ((i64.wrap (y1.1.1-(1:Int)),()),
  (List.set y1.2.1
  (Int.toNat (q.getD (Int.toNat y1.1.1) ((0:Int),(0:Int),(0:Int),[],(0:Int),(0:Int),[],())).2.1)
  ((List.getD y1.2.1 (Int.toNat y1.1.1) (false,())).1,())).set
  (Int.toNat (q.getD (Int.toNat y1.1.1) ((0:Int),(0:Int),(0:Int),[],(0:Int),(0:Int),[],())).2.2.1)
  (((List.set y1.2.1
  (Int.toNat
  (q.getD (Int.toNat y1.1.1) ((0:Int),(0:Int),(0:Int),[],(0:Int),(0:Int),[],())).2.1)
  ((List.getD y1.2.1 (Int.toNat y1.1.1) (false,())).1,())).getD
  (Int.toNat y1.1.1) (false,())).1,
  ()),
  ())<
  μ y1
  else
  s0=s0∧I ((i64.wrap (y1.1.1-(1:Int)),()),y1.2.1,())∧μ ((i64.wrap (y1.1.1-(1:Int)),()),y1.2.1,())<μ y1
  else K (y1.2.1,())
theorem aeZ (env:EnvB prog G Θ af7) (h:∀ (q:jr),bF Jh (q,())→(q.length≤(1000:Nat))→afp q fun r=>r=((Sp.negated q,()))):aA prog G xJ Af:=
 aT env mixed (fn:=f268) (c:=codeOf f268) (by kernel_rfl) (by kernel_rfl) ahm (by kernel_rfl) fun ⟨q,⟨⟩⟩ hin hp=>
 Eq.mpr (by kernel_rfl) (h q hin hp)
def ahn:Hints:=Go.Fw.hints [11] [(5,⟨[],⟨[(0, .one (.sl 167 (.cons (.int .i64) (.cons (.int .i64) (.cons (.int .i64) (.cons .str (.cons (.int .i64) (.cons (.int .i64) (.cons .str .nil))))))) false)),(3, .one (.ref 705))],[]⟩,⟨[(4, .one (.int .i64))],[(705, .arr 4 (.cons .bool .nil) true)]⟩⟩)] [] [] []
def afq (q:jr) (K:List dD×Unit→Prop):Prop:=
 q.length≤(1000000:Nat)∧
 bif !Sp.bT q then K ([],())
 else
 ((0:Int)≤(↑q.length:Int)∧(↑q.length:Int)≤(↑q.length:Int)∧(↑q.length:Int)≤(↑big:Int))∧
 let s0:=((q,(),()),());
  ∃ (I:auU→Prop),
  ∃ (μ:auU→Nat),
  I ((i64.wrap ((↑q.length:Int)-(1:Int)),()),List.replicate (↑q.length:Int).toNat (false,()),())∧
  ∀ (y1:auU),
  I y1→
  bif decide (y1.1.1≥(0:Int)) then
  ((0:Int)≤y1.1.1∧y1.1.1<(↑(List.length y1.2.1):Int))∧
  Int.toNat y1.1.1<List.length y1.2.1∧
  bif (List.getD y1.2.1 (Int.toNat y1.1.1) (false,())).1 then
  ((0:Int)≤y1.1.1∧y1.1.1<(↑q.length:Int))∧
  bif (q.getD (Int.toNat y1.1.1) ((0:Int),(0:Int),(0:Int),[],(0:Int),(0:Int),[],())).1==(5:Int) then
  ((0:Int)≤y1.1.1∧y1.1.1<(↑q.length:Int))∧
  ((0:Int)≤(q.getD (Int.toNat y1.1.1) ((0:Int),(0:Int),(0:Int),[],(0:Int),(0:Int),[],())).2.1∧
  (q.getD (Int.toNat y1.1.1) ((0:Int),(0:Int),(0:Int),[],(0:Int),(0:Int),[],())).2.1<(↑(List.length y1.2.1):Int))∧
  Int.toNat (q.getD (Int.toNat y1.1.1) ((0:Int),(0:Int),(0:Int),[],(0:Int),(0:Int),[],())).2.1<List.length y1.2.1∧
  s0=s0∧
  I
  ((i64.wrap (y1.1.1-(1:Int)),()),
  List.set y1.2.1
  (Int.toNat (q.getD (Int.toNat y1.1.1) ((0:Int),(0:Int),(0:Int),[],(0:Int),(0:Int),[],())).2.1) (true,()),
  ())∧
  μ
  ((i64.wrap (y1.1.1-(1:Int)),()),
  List.set y1.2.1
  (Int.toNat (q.getD (Int.toNat y1.1.1) ((0:Int),(0:Int),(0:Int),[],(0:Int),(0:Int),[],())).2.1) (true,()),
  ())<
  μ y1
  else
  bif (q.getD (Int.toNat y1.1.1) ((0:Int),(0:Int),(0:Int),[],(0:Int),(0:Int),[],())).1==(6:Int) then
  bif (q.getD (Int.toNat y1.1.1) ((0:Int),(0:Int),(0:Int),[],(0:Int),(0:Int),[],())).1==(6:Int) then
  ((0:Int)≤y1.1.1∧y1.1.1<(↑q.length:Int))∧
  ((0:Int)≤y1.1.1∧y1.1.1<(↑q.length:Int))∧
  ((0:Int)≤(q.getD (Int.toNat y1.1.1) ((0:Int),(0:Int),(0:Int),[],(0:Int),(0:Int),[],())).2.1∧
  (q.getD (Int.toNat y1.1.1) ((0:Int),(0:Int),(0:Int),[],(0:Int),(0:Int),[],())).2.1<
  (↑(List.length y1.2.1):Int))∧
  Int.toNat (q.getD (Int.toNat y1.1.1) ((0:Int),(0:Int),(0:Int),[],(0:Int),(0:Int),[],())).2.1<
  List.length y1.2.1∧
  ((0:Int)≤(q.getD (Int.toNat y1.1.1) ((0:Int),(0:Int),(0:Int),[],(0:Int),(0:Int),[],())).2.2.1∧
  (q.getD (Int.toNat y1.1.1) ((0:Int),(0:Int),(0:Int),[],(0:Int),(0:Int),[],())).2.2.1<
  (↑(List.set y1.2.1
  (Int.toNat (q.getD (Int.toNat y1.1.1) ((0:Int),(0:Int),(0:Int),[],(0:Int),(0:Int),[],())).2.1)
  (true,())).length:
  Int))∧
  Int.toNat (q.getD (Int.toNat y1.1.1) ((0:Int),(0:Int),(0:Int),[],(0:Int),(0:Int),[],())).2.2.1<
  (List.set y1.2.1
  (Int.toNat (q.getD (Int.toNat y1.1.1) ((0:Int),(0:Int),(0:Int),[],(0:Int),(0:Int),[],())).2.1)
  (true,())).length∧
  s0=s0∧
  I
  ((i64.wrap (y1.1.1-(1:Int)),()),
  (List.set y1.2.1
  (Int.toNat (q.getD (Int.toNat y1.1.1) ((0:Int),(0:Int),(0:Int),[],(0:Int),(0:Int),[],())).2.1)
  (true,())).set
  (Int.toNat (q.getD (Int.toNat y1.1.1) ((0:Int),(0:Int),(0:Int),[],(0:Int),(0:Int),[],())).2.2.1)
  (true,()),
  ())∧
  μ
  ((i64.wrap (y1.1.1-(1:Int)),()),
  (List.set y1.2.1
  (Int.toNat (q.getD (Int.toNat y1.1.1) ((0:Int),(0:Int),(0:Int),[],(0:Int),(0:Int),[],())).2.1)
  (true,())).set
  (Int.toNat (q.getD (Int.toNat y1.1.1) ((0:Int),(0:Int),(0:Int),[],(0:Int),(0:Int),[],())).2.2.1)
  (true,()),
  ())<
  μ y1
  else
  s0=s0∧
  I ((i64.wrap (y1.1.1-(1:Int)),()),y1.2.1,())∧μ ((i64.wrap (y1.1.1-(1:Int)),()),y1.2.1,())<μ y1
  else
  bif (q.getD (Int.toNat y1.1.1) ((0:Int),(0:Int),(0:Int),[],(0:Int),(0:Int),[],())).1==(7:Int) then
  ((0:Int)≤y1.1.1∧y1.1.1<(↑q.length:Int))∧
  ((0:Int)≤y1.1.1∧y1.1.1<(↑q.length:Int))∧
  ((0:Int)≤(q.getD (Int.toNat y1.1.1) ((0:Int),(0:Int),(0:Int),[],(0:Int),(0:Int),[],())).2.1∧
  (q.getD (Int.toNat y1.1.1) ((0:Int),(0:Int),(0:Int),[],(0:Int),(0:Int),[],())).2.1<
  (↑(List.length y1.2.1):Int))∧
  Int.toNat (q.getD (Int.toNat y1.1.1) ((0:Int),(0:Int),(0:Int),[],(0:Int),(0:Int),[],())).2.1<
  List.length y1.2.1∧
  ((0:Int)≤(q.getD (Int.toNat y1.1.1) ((0:Int),(0:Int),(0:Int),[],(0:Int),(0:Int),[],())).2.2.1∧
  (q.getD (Int.toNat y1.1.1) ((0:Int),(0:Int),(0:Int),[],(0:Int),(0:Int),[],())).2.2.1<
  (↑(List.set y1.2.1
  (Int.toNat (q.getD (Int.toNat y1.1.1) ((0:Int),(0:Int),(0:Int),[],(0:Int),(0:Int),[],())).2.1)
  (true,())).length:
  Int))∧
  Int.toNat (q.getD (Int.toNat y1.1.1) ((0:Int),(0:Int),(0:Int),[],(0:Int),(0:Int),[],())).2.2.1<
  (List.set y1.2.1
  (Int.toNat (q.getD (Int.toNat y1.1.1) ((0:Int),(0:Int),(0:Int),[],(0:Int),(0:Int),[],())).2.1)
  (true,())).length∧
  s0=s0∧
  I
  ((i64.wrap (y1.1.1-(1:Int)),()),
  (List.set y1.2.1
  (Int.toNat (q.getD (Int.toNat y1.1.1) ((0:Int),(0:Int),(0:Int),[],(0:Int),(0:Int),[],())).2.1)
  (true,())).set
  (Int.toNat (q.getD (Int.toNat y1.1.1) ((0:Int),(0:Int),(0:Int),[],(0:Int),(0:Int),[],())).2.2.1)
  (true,()),
  ())∧
  μ
  ((i64.wrap (y1.1.1-(1:Int)),()),
  (List.set y1.2.1
  (Int.toNat (q.getD (Int.toNat y1.1.1) ((0:Int),(0:Int),(0:Int),[],(0:Int),(0:Int),[],())).2.1)
  (true,())).set
  (Int.toNat (q.getD (Int.toNat y1.1.1) ((0:Int),(0:Int),(0:Int),[],(0:Int),(0:Int),[],())).2.2.1)
  (true,()),
  ())<
  μ y1
  else
  s0=s0∧
  I ((i64.wrap (y1.1.1-(1:Int)),()),y1.2.1,())∧μ ((i64.wrap (y1.1.1-(1:Int)),()),y1.2.1,())<μ y1
  else
  ((0:Int)≤y1.1.1∧y1.1.1<(↑q.length:Int))∧
  ((0:Int)≤y1.1.1∧y1.1.1<(↑q.length:Int))∧
  bif (q.getD (Int.toNat y1.1.1) ((0:Int),(0:Int),(0:Int),[],(0:Int),(0:Int),[],())).1==(5:Int) then
  ((0:Int)≤y1.1.1∧y1.1.1<(↑q.length:Int))∧
  ((0:Int)≤(q.getD (Int.toNat y1.1.1) ((0:Int),(0:Int),(0:Int),[],(0:Int),(0:Int),[],())).2.1∧
  (q.getD (Int.toNat y1.1.1) ((0:Int),(0:Int),(0:Int),[],(0:Int),(0:Int),[],())).2.1<
  (↑(List.length y1.2.1):Int))∧
  Int.toNat (q.getD (Int.toNat y1.1.1) ((0:Int),(0:Int),(0:Int),[],(0:Int),(0:Int),[],())).2.1<List.length y1.2.1∧
  s0=s0∧
  I
  ((i64.wrap (y1.1.1-(1:Int)),()),
  List.set y1.2.1
  (Int.toNat (q.getD (Int.toNat y1.1.1) ((0:Int),(0:Int),(0:Int),[],(0:Int),(0:Int),[],())).2.1)
  ((q.getD (Int.toNat y1.1.1) ((0:Int),(0:Int),(0:Int),[],(0:Int),(0:Int),[],())).1==(5:Int),()),
  ())∧
  μ
  ((i64.wrap (y1.1.1-(1:Int)),()),
  List.set y1.2.1
  (Int.toNat (q.getD (Int.toNat y1.1.1) ((0:Int),(0:Int),(0:Int),[],(0:Int),(0:Int),[],())).2.1)
  ((q.getD (Int.toNat y1.1.1) ((0:Int),(0:Int),(0:Int),[],(0:Int),(0:Int),[],())).1==(5:Int),()),
  ())<
  μ y1
  else
  bif (q.getD (Int.toNat y1.1.1) ((0:Int),(0:Int),(0:Int),[],(0:Int),(0:Int),[],())).1==(6:Int) then
  bif (q.getD (Int.toNat y1.1.1) ((0:Int),(0:Int),(0:Int),[],(0:Int),(0:Int),[],())).1==(6:Int) then
  ((0:Int)≤y1.1.1∧y1.1.1<(↑q.length:Int))∧
  ((0:Int)≤y1.1.1∧y1.1.1<(↑q.length:Int))∧
  ((0:Int)≤(q.getD (Int.toNat y1.1.1) ((0:Int),(0:Int),(0:Int),[],(0:Int),(0:Int),[],())).2.1∧
  (q.getD (Int.toNat y1.1.1) ((0:Int),(0:Int),(0:Int),[],(0:Int),(0:Int),[],())).2.1<
  (↑(List.length y1.2.1):Int))∧
  Int.toNat (q.getD (Int.toNat y1.1.1) ((0:Int),(0:Int),(0:Int),[],(0:Int),(0:Int),[],())).2.1<
  List.length y1.2.1∧
  ((0:Int)≤(q.getD (Int.toNat y1.1.1) ((0:Int),(0:Int),(0:Int),[],(0:Int),(0:Int),[],())).2.2.1∧
  (q.getD (Int.toNat y1.1.1) ((0:Int),(0:Int),(0:Int),[],(0:Int),(0:Int),[],())).2.2.1<
  (↑(List.set y1.2.1
  (Int.toNat (q.getD (Int.toNat y1.1.1) ((0:Int),(0:Int),(0:Int),[],(0:Int),(0:Int),[],())).2.1)
  ((q.getD (Int.toNat y1.1.1) ((0:Int),(0:Int),(0:Int),[],(0:Int),(0:Int),[],())).1==(5:Int),
  ())).length:
  Int))∧
  Int.toNat (q.getD (Int.toNat y1.1.1) ((0:Int),(0:Int),(0:Int),[],(0:Int),(0:Int),[],())).2.2.1<
  (List.set y1.2.1
  (Int.toNat (q.getD (Int.toNat y1.1.1) ((0:Int),(0:Int),(0:Int),[],(0:Int),(0:Int),[],())).2.1)
  ((q.getD (Int.toNat y1.1.1) ((0:Int),(0:Int),(0:Int),[],(0:Int),(0:Int),[],())).1==(5:Int),
  ())).length∧
  s0=s0∧
  I
  ((i64.wrap (y1.1.1-(1:Int)),()),
  (List.set y1.2.1
  (Int.toNat (q.getD (Int.toNat y1.1.1) ((0:Int),(0:Int),(0:Int),[],(0:Int),(0:Int),[],())).2.1)
  ((q.getD (Int.toNat y1.1.1) ((0:Int),(0:Int),(0:Int),[],(0:Int),(0:Int),[],())).1==(5:Int),
  ())).set
  (Int.toNat (q.getD (Int.toNat y1.1.1) ((0:Int),(0:Int),(0:Int),[],(0:Int),(0:Int),[],())).2.2.1)
  ((q.getD (Int.toNat y1.1.1) ((0:Int),(0:Int),(0:Int),[],(0:Int),(0:Int),[],())).1==(5:Int),()),
  ())∧
  μ
  ((i64.wrap (y1.1.1-(1:Int)),()),
  (List.set y1.2.1
  (Int.toNat
  (q.getD (Int.toNat y1.1.1) ((0:Int),(0:Int),(0:Int),[],(0:Int),(0:Int),[],())).2.1)
  ((q.getD (Int.toNat y1.1.1) ((0:Int),(0:Int),(0:Int),[],(0:Int),(0:Int),[],())).1==(5:Int),
  ())).set
  (Int.toNat
  (q.getD (Int.toNat y1.1.1) ((0:Int),(0:Int),(0:Int),[],(0:Int),(0:Int),[],())).2.2.1)
  ((q.getD (Int.toNat y1.1.1) ((0:Int),(0:Int),(0:Int),[],(0:Int),(0:Int),[],())).1==(5:Int),
  ()),
  ())<
  μ y1
  else
  s0=s0∧
  I ((i64.wrap (y1.1.1-(1:Int)),()),y1.2.1,())∧μ ((i64.wrap (y1.1.1-(1:Int)),()),y1.2.1,())<μ y1
  else
  bif (q.getD (Int.toNat y1.1.1) ((0:Int),(0:Int),(0:Int),[],(0:Int),(0:Int),[],())).1==(7:Int) then
  ((0:Int)≤y1.1.1∧y1.1.1<(↑q.length:Int))∧
  ((0:Int)≤y1.1.1∧y1.1.1<(↑q.length:Int))∧
  ((0:Int)≤(q.getD (Int.toNat y1.1.1) ((0:Int),(0:Int),(0:Int),[],(0:Int),(0:Int),[],())).2.1∧
  (q.getD (Int.toNat y1.1.1) ((0:Int),(0:Int),(0:Int),[],(0:Int),(0:Int),[],())).2.1<
  (↑(List.length y1.2.1):Int))∧
  Int.toNat (q.getD (Int.toNat y1.1.1) ((0:Int),(0:Int),(0:Int),[],(0:Int),(0:Int),[],())).2.1<
  List.length y1.2.1∧
  ((0:Int)≤(q.getD (Int.toNat y1.1.1) ((0:Int),(0:Int),(0:Int),[],(0:Int),(0:Int),[],())).2.2.1∧
  (q.getD (Int.toNat y1.1.1) ((0:Int),(0:Int),(0:Int),[],(0:Int),(0:Int),[],())).2.2.1<
  (↑(List.set y1.2.1
  (Int.toNat (q.getD (Int.toNat y1.1.1) ((0:Int),(0:Int),(0:Int),[],(0:Int),(0:Int),[],())).2.1)
  ((q.getD (Int.toNat y1.1.1) ((0:Int),(0:Int),(0:Int),[],(0:Int),(0:Int),[],())).1==(5:Int),
  ())).length:
  Int))∧
  Int.toNat (q.getD (Int.toNat y1.1.1) ((0:Int),(0:Int),(0:Int),[],(0:Int),(0:Int),[],())).2.2.1<
  (List.set y1.2.1
  (Int.toNat (q.getD (Int.toNat y1.1.1) ((0:Int),(0:Int),(0:Int),[],(0:Int),(0:Int),[],())).2.1)
  ((q.getD (Int.toNat y1.1.1) ((0:Int),(0:Int),(0:Int),[],(0:Int),(0:Int),[],())).1==(5:Int),
  ())).length∧
  s0=s0∧
  I
  ((i64.wrap (y1.1.1-(1:Int)),()),
  (List.set y1.2.1
  (Int.toNat (q.getD (Int.toNat y1.1.1) ((0:Int),(0:Int),(0:Int),[],(0:Int),(0:Int),[],())).2.1)
  ((q.getD (Int.toNat y1.1.1) ((0:Int),(0:Int),(0:Int),[],(0:Int),(0:Int),[],())).1==(5:Int),
  ())).set
  (Int.toNat (q.getD (Int.toNat y1.1.1) ((0:Int),(0:Int),(0:Int),[],(0:Int),(0:Int),[],())).2.2.1)
  ((q.getD (Int.toNat y1.1.1) ((0:Int),(0:Int),(0:Int),[],(0:Int),(0:Int),[],())).1==(5:Int),()),
  ())∧
  μ
  ((i64.wrap (y1.1.1-(1:Int)),()),
  (List.set y1.2.1
  (Int.toNat
  (q.getD (Int.toNat y1.1.1) ((0:Int),(0:Int),(0:Int),[],(0:Int),(0:Int),[],())).2.1)
  ((q.getD (Int.toNat y1.1.1) ((0:Int),(0:Int),(0:Int),[],(0:Int),(0:Int),[],())).1==(5:Int),
  ())).set
  (Int.toNat
  (q.getD (Int.toNat y1.1.1) ((0:Int),(0:Int),(0:Int),[],(0:Int),(0:Int),[],())).2.2.1)
  ((q.getD (Int.toNat y1.1.1) ((0:Int),(0:Int),(0:Int),[],(0:Int),(0:Int),[],())).1==(5:Int),
  ()),
  ())<
  μ y1
  else
  s0=s0∧
  I ((i64.wrap (y1.1.1-(1:Int)),()),y1.2.1,())∧μ ((i64.wrap (y1.1.1-(1:Int)),()),y1.2.1,())<μ y1
  else K (y1.2.1,())
theorem aeX (env:EnvB prog G Θ af8) (h:∀ (q:jr),bF Ji (q,())→(q.length≤(1000:Nat))→afq q fun r=>r=((Sp.negated q,()))):aA prog G xI Ag:=
 aT env mixed (fn:=f252) (c:=codeOf f252) (by kernel_rfl) (by kernel_rfl) ahn (by kernel_rfl) fun ⟨q,⟨⟩⟩ hin hp=>
 Eq.mpr (by kernel_rfl) (h q hin hp)
def apH:Hints:=Go.Fw.hints [8] [(3,⟨[],⟨[(0, .one (.sl 167 (.cons (.int .i64) (.cons (.int .i64) (.cons (.int .i64) (.cons .str (.cons (.int .i64) (.cons (.int .i64) (.cons .str .nil))))))) false)),(1, .one (.bool)),(10, .one (.sl 4 (.cons .bool .nil) true)),(11, .one (.int .i64))],[]⟩,⟨[(5, .one (.ref 513)),(12, .one (.int .i64))],[(513, .arr 9 (.cons .str .nil) true)]⟩⟩)] [] [] []
def amB (q:jr) (negated:Bool) (K:gG→Prop):Prop:=
 q.length≤(1000:Nat)∧
 let s0:=((q,negated,Sp.negated q,(↑(Sp.negated q).length:Int),()),());
  ∃ (I:rG→Prop),
  ∃ (μ:rG→Nat),
  I (((),(0:Int),()),[],())∧
  ∀ (y1:rG),
  I y1→
  bif decide (y1.1.2.1<(↑(Sp.negated q).length:Int)) then
  ((0:Int)≤y1.1.2.1∧y1.1.2.1<(↑(Sp.negated q).length:Int))∧
  ((0:Int)≤y1.1.2.1∧y1.1.2.1<(↑q.length:Int))∧
  True∧
 let r2:=
  (q.getD (Int.toNat y1.1.2.1) ((0:Int),(0:Int),(0:Int),[],(0:Int),(0:Int),[],())).1==(8:Int)||
  (q.getD (Int.toNat y1.1.2.1) ((0:Int),(0:Int),(0:Int),[],(0:Int),(0:Int),[],())).1==(9:Int);
  bif r2 then
  bif ((Sp.negated q).getD (Int.toNat y1.1.2.1) (false,())).1==negated then
  ((0:Int)≤y1.1.2.1∧y1.1.2.1<(↑q.length:Int))∧
  List.length y1.2.1+
  [((q.getD (Int.toNat y1.1.2.1) ((0:Int),(0:Int),(0:Int),[],(0:Int),(0:Int),[],())).2.2.2.1,())].length≤
  big∧
  s0=s0∧
  I
  (((),i64.wrap (y1.1.2.1+(1:Int)),()),
  y1.2.1++[((q.getD (Int.toNat y1.1.2.1) ((0:Int),(0:Int),(0:Int),[],(0:Int),(0:Int),[],())).2.2.2.1,())],
  ())∧
  μ
  (((),i64.wrap (y1.1.2.1+(1:Int)),()),
  y1.2.1++[((q.getD (Int.toNat y1.1.2.1) ((0:Int),(0:Int),(0:Int),[],(0:Int),(0:Int),[],())).2.2.2.1,())],
  ())<
  μ y1
  else
  s0=s0∧
  I (((),i64.wrap (y1.1.2.1+(1:Int)),()),y1.2.1,())∧
  μ (((),i64.wrap (y1.1.2.1+(1:Int)),()),y1.2.1,())<μ y1
  else
  s0=s0∧
  I (((),i64.wrap (y1.1.2.1+(1:Int)),()),y1.2.1,())∧
  μ (((),i64.wrap (y1.1.2.1+(1:Int)),()),y1.2.1,())<μ y1
  else
  List.length y1.2.1≤(1000:Nat)∧
  ∀ (r3:gG),
  (r3.1.1.length≤List.length y1.2.1∧∀ (s:PY),s∈r3.1.1↔s∈y1.2.1)→K ((r3.1.1,()),())
theorem aml (env:EnvB prog G Θ anV) (hne:∀ x,(Pg x).1→∃ t,(Pg x).2 t) (h:∀ (q:jr) (negated:Bool),dO oz (q,negated,())→(q.length≤(1000:Nat))→amB q negated fun (r:gG)=>(q.length≤(1000:Nat),fun (x:gG)=>Sp.dN x.1.1 (Sp.eX q negated)).2 r):aG prog G tX uD:=
 bZ env mixed (fn:=f236) (c:=codeOf f236) (by kernel_rfl) (by kernel_rfl) apH (by kernel_rfl) hne fun ⟨q,negated,⟨⟩⟩ hin hp=>
 Eq.mpr (by kernel_rfl) (h q negated hin hp)
def aho:Hints:=Go.Fw.hints [] [] [] [] []
def afr (q:jr) (K:gG→Prop):Prop:=
 q.length≤(1000:Nat)∧∀ (r0:gG),Sp.dN r0.1.1 (Sp.eX q false)→K ((r0.1.1,()),())
theorem ae0 (env:EnvB prog G Θ af9) (hne:∀ x,(KI x).1→∃ t,(KI x).2 t) (h:∀ (q:jr),dO qx (q,())→(q.length≤(1000:Nat))→afr q fun (r:gG)=>(q.length≤(1000:Nat),fun (x:gG)=>Sp.dN x.1.1 (Sp.eX q false)).2 r):aG prog G xM Ah:=
 bZ env mixed (fn:=f203) (c:=codeOf f203) (by kernel_rfl) (by kernel_rfl) aho (by kernel_rfl) hne fun ⟨q,⟨⟩⟩ hin hp=>
 Eq.mpr (by kernel_rfl) (h q hin hp)
def ahp:Hints:=Go.Fw.hints [] [] [] [] []
def afs (q:jr) (K:gG→Prop):Prop:=
 q.length≤(1000:Nat)∧∀ (r0:gG),Sp.dN r0.1.1 (Sp.eX q true)→K ((r0.1.1,()),())
theorem ae1 (env:EnvB prog G Θ aga) (hne:∀ x,(KJ x).1→∃ t,(KJ x).2 t) (h:∀ (q:jr),dO qy (q,())→(q.length≤(1000:Nat))→afs q fun (r:gG)=>(q.length≤(1000:Nat),fun (x:gG)=>Sp.dN x.1.1 (Sp.eX q true)).2 r):aG prog G xK Ai:=
 bZ env mixed (fn:=f204) (c:=codeOf f204) (by kernel_rfl) (by kernel_rfl) ahp (by kernel_rfl) hne fun ⟨q,⟨⟩⟩ hin hp=>
 Eq.mpr (by kernel_rfl) (h q hin hp)
def awU:Hints:=Go.Fw.hints [34] [(2,⟨[],⟨[(0, .one (.sl 9 (.cons .str .nil) false)),(1, .one (.str))],[]⟩,⟨[(5, .one (.int .i64))],[]⟩⟩)] [] [] []
def avd (list:qU) (s:eH) (K:Ty5→Prop):Prop:=
 let s0:=((list,s,()),());
  ∃ (I:bn→Prop),
  ∃ (μ:bn→Nat),
  I (((0:Int),()),())∧
  ∀ (y1:bn),
  I y1→
  bif decide (y1.1.1<(↑list.length:Int)) then
  ((0:Int)≤y1.1.1∧y1.1.1<(↑list.length:Int))∧
  bif Op.bytesLess (list.getD (Int.toNat y1.1.1) ([],())).1 s then
  s0=s0∧I ((i64.wrap (y1.1.1+(1:Int)),()),())∧μ ((i64.wrap (y1.1.1+(1:Int)),()),())<μ y1
  else
  bif decide (y1.1.1<(↑list.length:Int)) then
  ((0:Int)≤y1.1.1∧y1.1.1<(↑list.length:Int))∧
  bif (list.getD (Int.toNat y1.1.1) ([],())).1==s then K (list,())
  else
  ((0:Int)≤y1.1.1∧y1.1.1≤(↑list.length:Int))∧
  (0:Nat)+(List.drop (0:Nat) (List.take (Int.toNat y1.1.1) list)).length≤big∧
  (List.drop (0:Nat) (List.take (Int.toNat y1.1.1) list)).length+[(s,())].length≤big∧
  ((0:Int)≤y1.1.1∧y1.1.1≤(↑list.length:Int))∧
  (List.drop (0:Nat) (List.take (Int.toNat y1.1.1) list)++[(s,())]).length+
  (List.drop (Int.toNat y1.1.1) (List.take list.length list)).length≤
  big∧
  K (List.drop (0:Nat) (List.take (Int.toNat y1.1.1) list)++[(s,())]++List.drop (Int.toNat y1.1.1) (List.take list.length list),())
  else
  ((0:Int)≤y1.1.1∧y1.1.1≤(↑list.length:Int))∧
  (0:Nat)+(List.drop (0:Nat) (List.take (Int.toNat y1.1.1) list)).length≤big∧
  (List.drop (0:Nat) (List.take (Int.toNat y1.1.1) list)).length+[(s,())].length≤big∧
  ((0:Int)≤y1.1.1∧y1.1.1≤(↑list.length:Int))∧
  (List.drop (0:Nat) (List.take (Int.toNat y1.1.1) list)++[(s,())]).length+
  (List.drop (Int.toNat y1.1.1) (List.take list.length list)).length≤
  big∧
  K (List.drop (0:Nat) (List.take (Int.toNat y1.1.1) list)++[(s,())]++List.drop (Int.toNat y1.1.1) (List.take list.length list),())
  else
  bif decide (y1.1.1<(↑list.length:Int)) then
  ((0:Int)≤y1.1.1∧y1.1.1<(↑list.length:Int))∧
  bif (list.getD (Int.toNat y1.1.1) ([],())).1==s then K (list,())
  else
  ((0:Int)≤y1.1.1∧y1.1.1≤(↑list.length:Int))∧
  (0:Nat)+(List.drop (0:Nat) (List.take (Int.toNat y1.1.1) list)).length≤big∧
  (List.drop (0:Nat) (List.take (Int.toNat y1.1.1) list)).length+[(s,())].length≤big∧
  ((0:Int)≤y1.1.1∧y1.1.1≤(↑list.length:Int))∧
  (List.drop (0:Nat) (List.take (Int.toNat y1.1.1) list)++[(s,())]).length+
  (List.drop (Int.toNat y1.1.1) (List.take list.length list)).length≤
  big∧
  K (List.drop (0:Nat) (List.take (Int.toNat y1.1.1) list)++[(s,())]++List.drop (Int.toNat y1.1.1) (List.take list.length list),())
  else
  ((0:Int)≤y1.1.1∧y1.1.1≤(↑list.length:Int))∧
  (0:Nat)+(List.drop (0:Nat) (List.take (Int.toNat y1.1.1) list)).length≤big∧
  (List.drop (0:Nat) (List.take (Int.toNat y1.1.1) list)).length+[(s,())].length≤big∧
  ((0:Int)≤y1.1.1∧y1.1.1≤(↑list.length:Int))∧
  (List.drop (0:Nat) (List.take (Int.toNat y1.1.1) list)++[(s,())]).length+(List.drop (Int.toNat y1.1.1) (List.take list.length list)).length≤
  big∧
  K (List.drop (0:Nat) (List.take (Int.toNat y1.1.1) list)++[(s,())]++List.drop (Int.toNat y1.1.1) (List.take list.length list),())
theorem auK (env:EnvB prog G Θ awq) (h:∀ (list:qU) (s:eH),bF UQ (list,s,())→(list.length≤(1000:Nat))→avd list s fun r=>r=((Sp.YL list s,()))):aA prog G JX Lj:=
 aT env mixed (fn:=f184) (c:=codeOf f184) (by kernel_rfl) (by kernel_rfl) awU (by kernel_rfl) fun ⟨list,s,⟨⟩⟩ hin hp=>
 Eq.mpr (by kernel_rfl) (h list s hin hp)
def asW:Hints:=Go.Fw.hints [38] [(4,⟨[],⟨[(0, .one (.sl 167 (.cons (.int .i64) (.cons (.int .i64) (.cons (.int .i64) (.cons .str (.cons (.int .i64) (.cons (.int .i64) (.cons .str .nil))))))) false)),(1, .one (.bool)),(6, .one (.sl 4 (.cons .bool .nil) true))],[]⟩,⟨[(5, .one (.sl 9 (.cons .str .nil) false)),(7, .one (.int .i64))],[]⟩⟩)] [] [] []
def apI (q:jr) (under:Bool) (K:gG→Prop):Prop:=
 q.length≤(1000:Nat)∧
 let s0:=((q,under,Sp.negated q,()),());
  ∃ (I:(qU×iV)×Unit→Prop),
  ∃ (μ:(qU×iV)×Unit→Nat),
  I (([],(0:Int),()),())∧
  ∀ (y1:(qU×iV)×Unit),
  I y1→
  bif decide (y1.1.2.1<(↑(Sp.negated q).length:Int)) then
  ((0:Int)≤y1.1.2.1∧y1.1.2.1<(↑q.length:Int))∧
  True∧
 let r2:=
  decide ((8:Int)≤(q.getD (Int.toNat y1.1.2.1) ((0:Int),(0:Int),(0:Int),[],(0:Int),(0:Int),[],())).1)&&
  decide ((q.getD (Int.toNat y1.1.2.1) ((0:Int),(0:Int),(0:Int),[],(0:Int),(0:Int),[],())).1≤(9:Int));
  bif r2 then
  ((0:Int)≤y1.1.2.1∧y1.1.2.1<(↑(Sp.negated q).length:Int))∧
  bif ((Sp.negated q).getD (Int.toNat y1.1.2.1) (false,())).1==under then
  ((0:Int)≤y1.1.2.1∧y1.1.2.1<(↑q.length:Int))∧
  List.length y1.1.1≤(1000:Nat)∧
 let r3:=Sp.YL y1.1.1 (q.getD (Int.toNat y1.1.2.1) ((0:Int),(0:Int),(0:Int),[],(0:Int),(0:Int),[],())).2.2.2.1;
  s0=s0∧I ((r3,i64.wrap (y1.1.2.1+(1:Int)),()),())∧μ ((r3,i64.wrap (y1.1.2.1+(1:Int)),()),())<μ y1
  else
  s0=s0∧
  I ((y1.1.1,i64.wrap (y1.1.2.1+(1:Int)),()),())∧μ ((y1.1.1,i64.wrap (y1.1.2.1+(1:Int)),()),())<μ y1
  else
  s0=s0∧
  I ((y1.1.1,i64.wrap (y1.1.2.1+(1:Int)),()),())∧μ ((y1.1.1,i64.wrap (y1.1.2.1+(1:Int)),()),())<μ y1
  else (0:Nat)+List.length y1.1.1≤big∧K ((y1.1.1,()),())
theorem apj (env:EnvB prog G Θ aqu) (hne:∀ x,(Q7 x).1→∃ t,(Q7 x).2 t) (h:∀ (q:jr) (under:Bool),dO pF (q,under,())→(q.length≤(1000:Nat))→apI q under fun (r:gG)=>(q.length≤(1000:Nat),fun (x:gG)=>Sp.dN x.1.1 (Sp.eX q under)).2 r):aG prog G vZ wL:=
 bZ env mixed (fn:=f247) (c:=codeOf f247) (by kernel_rfl) (by kernel_rfl) asW (by kernel_rfl) hne fun ⟨q,under,⟨⟩⟩ hin hp=>
 Eq.mpr (by kernel_rfl) (h q under hin hp)
def ahq:Hints:=Go.Fw.hints [] [] [] [] []
def aft (q:jr) (K:gG→Prop):Prop:=
 q.length≤(1000:Nat)∧∀ (r0:gG),Sp.dN r0.1.1 (Sp.eX q false)→K ((r0.1.1,()),())
theorem ae3 (env:EnvB prog G Θ agb) (hne:∀ x,(KL x).1→∃ t,(KL x).2 t) (h:∀ (q:jr),dO qA (q,())→(q.length≤(1000:Nat))→aft q fun (r:gG)=>(q.length≤(1000:Nat),fun (x:gG)=>Sp.dN x.1.1 (Sp.eX q false)).2 r):aG prog G xP Aj:=
 bZ env mixed (fn:=f227) (c:=codeOf f227) (by kernel_rfl) (by kernel_rfl) ahq (by kernel_rfl) hne fun ⟨q,⟨⟩⟩ hin hp=>
 Eq.mpr (by kernel_rfl) (h q hin hp)
def ahr:Hints:=Go.Fw.hints [] [] [] [] []
def afu (q:jr) (K:gG→Prop):Prop:=
 q.length≤(1000:Nat)∧∀ (r0:gG),Sp.dN r0.1.1 (Sp.eX q true)→K ((r0.1.1,()),())
theorem ae5 (env:EnvB prog G Θ agc) (hne:∀ x,(KN x).1→∃ t,(KN x).2 t) (h:∀ (q:jr),dO qB (q,())→(q.length≤(1000:Nat))→afu q fun (r:gG)=>(q.length≤(1000:Nat),fun (x:gG)=>Sp.dN x.1.1 (Sp.eX q true)).2 r):aG prog G xO Ak:=
 bZ env mixed (fn:=f229) (c:=codeOf f229) (by kernel_rfl) (by kernel_rfl) ahr (by kernel_rfl) hne fun ⟨q,⟨⟩⟩ hin hp=>
 Eq.mpr (by kernel_rfl) (h q hin hp)
def ave:Hints:=Go.Fw.hints [] [] [] [] []
def asX (x0:eH) (x1:jr) (p10:eH) (K:dD→Prop):Prop:=
 K (x0==p10,())
theorem ast (env:EnvB prog G Θ atM) (h:∀ (x0:eH) (x1:jr) (p10:eH),bF Q8 ((x0,x1,()),(p10,()),())→(True)→asX x0 x1 p10 fun r=>r=((x0==p10,()))):aA prog G yI yA:=
 aT env mixed (fn:=f251) (c:=codeOf f251) (by kernel_rfl) (by kernel_rfl) ave (by kernel_rfl) fun ⟨⟨x0,x1,⟨⟩⟩,⟨p10,⟨⟩⟩,⟨⟩⟩ hin hp=>
 Eq.mpr (by kernel_rfl) (h x0 x1 p10 hin hp)
def IL:Hints:=Go.Fw.hints [] [(2,⟨[],⟨[(0, .one (.sl 124 (.cons .str (.cons (.sl 167 (.cons (.int .i64) (.cons (.int .i64) (.cons (.int .i64) (.cons .str (.cons (.int .i64) (.cons (.int .i64) (.cons .str .nil)))))))) .nil)) false)),(1, .fn 251 [[.str]]),(7, .one (.int .i64))],[]⟩,⟨[(8, .one (.int .i64))],[]⟩⟩)] [] [] []
def IE (s:jv) (lq:eH) (K:iV→Prop):Prop:=
 let s0:=((s,((lq,()),()),(↑s.length:Int),()),());
  ∃ (I:bn→Prop),
  ∃ (μ:bn→Nat),
  I (((0:Int),()),())∧
  ∀ (y1:bn),
  I y1→
  bif decide (y1.1.1<(↑s.length:Int)) then
  ((0:Int)≤y1.1.1∧y1.1.1<(↑s.length:Int))∧
  True∧
 let r2:=(s.getD (Int.toNat y1.1.1) ([],[],())).1==lq;
  bif r2 then K (y1.1.1,())
  else s0=s0∧I ((i64.wrap (y1.1.1+(1:Int)),()),())∧μ ((i64.wrap (y1.1.1+(1:Int)),()),())<μ y1
  else K ((-1:Int),())
theorem IC (env:EnvB prog G Θ IJ) (h:∀ (s:jv) (lq:eH),bF lS (s,((lq,()),()),())→(True)→IE s lq fun r=>r=((Sp.aU s lq,()))):aA prog G iL jq:=
 aT env mixed (fn:=f250) (c:=codeOf f250) (by kernel_rfl) (by kernel_rfl) IL (by kernel_rfl) fun ⟨s,⟨⟨lq,⟨⟩⟩,⟨⟩⟩,⟨⟩⟩ hin hp=>
 Eq.mpr (by kernel_rfl) (h s lq hin hp)
def ayy:Hints:=Go.Fw.hints [] [] [] [] []
def awV (d:jv) (name:eH) (K:iV→Prop):Prop:=
 True∧K (Sp.aU d name,())
theorem awM (env:EnvB prog G Θ axb) (h:∀ (d:jv) (name:eH),bF Ws (d,name,())→(True)→awV d name fun r=>r=((Sp.aU d name,()))):aA prog G L6 MQ:=
 aT env mixed (fn:=f235) (c:=codeOf f235) (by kernel_rfl) (by kernel_rfl) ayy (by kernel_rfl) fun ⟨d,name,⟨⟩⟩ hin hp=>
 Eq.mpr (by kernel_rfl) (h d name hin hp)
def asY:Hints:=Go.Fw.hints [] [(2,⟨[],⟨[(0, .one (.sl 124 (.cons .str (.cons (.sl 167 (.cons (.int .i64) (.cons (.int .i64) (.cons (.int .i64) (.cons .str (.cons (.int .i64) (.cons (.int .i64) (.cons .str .nil)))))))) .nil)) false)),(1, .one (.str))],[]⟩,⟨[(5, .one (.int .i64))],[]⟩⟩)] [] [] []
def apJ (d:jv) (name:eH) (K:iV→Prop):Prop:=
 let s0:=((d,name,()),());
  ∃ (I:bn→Prop),
  ∃ (μ:bn→Nat),
  I (((0:Int),()),())∧
  ∀ (y1:bn),
  I y1→
  bif decide (y1.1.1<(↑d.length:Int)) then
  ((0:Int)≤y1.1.1∧y1.1.1<(↑d.length:Int))∧
  bif (d.getD (Int.toNat y1.1.1) ([],[],())).1==name then K (y1.1.1,())
  else s0=s0∧I ((i64.wrap (y1.1.1+(1:Int)),()),())∧μ ((i64.wrap (y1.1.1+(1:Int)),()),())<μ y1
  else K ((-1:Int),())
theorem apl (env:EnvB prog G Θ aqv) (h:∀ (d:jv) (name:eH),bF Ph (d,name,())→(True)→apJ d name fun r=>r=((Sp.aU d name,()))):aA prog G Fe Gz:=
 aT env mixed (fn:=f228) (c:=codeOf f228) (by kernel_rfl) (by kernel_rfl) asY (by kernel_rfl) fun ⟨d,name,⟨⟩⟩ hin hp=>
 Eq.mpr (by kernel_rfl) (h d name hin hp)
def akq:Hints:=Go.Fw.hints [] [(3,⟨[],⟨[(0, .one (.sl 124 (.cons .str (.cons (.sl 167 (.cons (.int .i64) (.cons (.int .i64) (.cons (.int .i64) (.cons .str (.cons (.int .i64) (.cons (.int .i64) (.cons .str .nil)))))))) .nil)) false)),(1, .one (.sl 3 (.cons (.int .i64) .nil) false)),(3, .one (.int .i64)),(13, .one (.sl 9 (.cons .str .nil) false)),(14, .one (.int .i64))],[]⟩,⟨[(9, .one (.int .i64)),(15, .one (.int .i64))],[]⟩⟩)] [] [] []
def ahs (d:jv) (FX:bV) (names:qU) (more:Int) (K:iV→Prop):Prop:=
 let s0:=((d,FX,more,names,(↑names.length:Int),()),());
  ∃ (I:Ld→Prop),
  ∃ (μ:Ld→Nat),
  I (((0:Int),(0:Int),()),())∧
  ∀ (y1:Ld),
  I y1→
  bif decide (y1.1.2.1<(↑names.length:Int)) then
  ((0:Int)≤y1.1.2.1∧y1.1.2.1<(↑names.length:Int))∧
  True∧
 let r2:=Sp.aU d (names.getD (Int.toNat y1.1.2.1) ([],())).1;
  bif decide (r2≥(0:Int)) then
  ((0:Int)≤r2∧r2<(↑FX.length:Int))∧
  s0=s0∧
  I
  ((if i64.wrap ((FX.getD r2.toNat ((0:Int),())).1+more)>y1.1.1 then
  i64.wrap ((FX.getD r2.toNat ((0:Int),())).1+more)
  else y1.1.1,
  i64.wrap (y1.1.2.1+(1:Int)),()),
  ())∧
  μ
  ((if i64.wrap ((FX.getD r2.toNat ((0:Int),())).1+more)>y1.1.1 then
  i64.wrap ((FX.getD r2.toNat ((0:Int),())).1+more)
  else y1.1.1,
  i64.wrap (y1.1.2.1+(1:Int)),()),
  ())<
  μ y1
  else
  s0=s0∧I ((y1.1.1,i64.wrap (y1.1.2.1+(1:Int)),()),())∧μ ((y1.1.1,i64.wrap (y1.1.2.1+(1:Int)),()),())<μ y1
  else K (y1.1.1,())
theorem ag8 (env:EnvB prog G Θ ah9) (h:∀ (d:jv) (FX:bV) (names:qU) (more:Int),bF KO (d,FX,names,more,())→(d.length≤FX.length∧names.length≤(1000:Nat)∧(0:Int)≤more∧more≤(1:Int)∧∀ (x:iV),x∈FX→(0:Int)≤x.1∧x.1≤(1000000:Int))→ahs d FX names more fun r=>r=((Sp.Du d FX more names,()))):aA prog G yZ Cj:=
 aT env mixed (fn:=f202) (c:=codeOf f202) (by kernel_rfl) (by kernel_rfl) akq (by kernel_rfl) fun ⟨d,FX,names,more,⟨⟩⟩ hin hp=>
 Eq.mpr (by kernel_rfl) (h d FX names more hin hp)
def awW:Hints:=Go.Fw.hints [14] [(5,⟨[],⟨[(0, .one (.sl 124 (.cons .str (.cons (.sl 167 (.cons (.int .i64) (.cons (.int .i64) (.cons (.int .i64) (.cons .str (.cons (.int .i64) (.cons (.int .i64) (.cons .str .nil)))))))) .nil)) false)),(4, .one (.ref 897))],[]⟩,⟨[(5, .one (.bool))],[(897, .arr 3 (.cons (.int .i64) .nil) true)]⟩⟩),(8,⟨[],⟨[(0, .one (.sl 124 (.cons .str (.cons (.sl 167 (.cons (.int .i64) (.cons (.int .i64) (.cons (.int .i64) (.cons .str (.cons (.int .i64) (.cons (.int .i64) (.cons .str .nil)))))))) .nil)) false)),(4, .one (.ref 897)),(16, .one (.sl 124 (.cons .str (.cons (.sl 167 (.cons (.int .i64) (.cons (.int .i64) (.cons (.int .i64) (.cons .str (.cons (.int .i64) (.cons (.int .i64) (.cons .str .nil)))))))) .nil)) false)),(17, .one (.int .i64))],[]⟩,⟨[(5, .one (.bool)),(18, .one (.int .i64))],[(897, .arr 3 (.cons (.int .i64) .nil) true)]⟩⟩)] [] [] []
def avf (d:jv) (K:ZR→Prop):Prop:=
 Sp.aS d∧
 bif !Sp.gZ d then K (([],false,()),())
 else
 ((0:Int)≤(↑d.length:Int)∧(↑d.length:Int)≤(↑d.length:Int)∧(↑d.length:Int)≤(↑big:Int))∧
 let s0:=((d,(),()),());
  ∃ (I:dD×kW→Prop),
  ∃ (μ:dD×kW→Nat),
  I ((true,()),List.replicate (↑d.length:Int).toNat ((0:Int),()),())∧
  ∀ (y1:dD×kW),
  I y1→
  bif y1.1.1 then
 let s2:=((d,(),d,(↑d.length:Int),()),());
  ∃ (Gn:(Bool×iV)×kW→Prop),
  ∃ (IG:(Bool×iV)×kW→Nat),
  Gn ((false,(0:Int),()),y1.2.1,())∧
  ∀ (y3:(Bool×iV)×kW),
  Gn y3→
  bif decide (y3.1.2.1<(↑d.length:Int)) then
  ((0:Int)≤y3.1.2.1∧y3.1.2.1<(↑d.length:Int))∧
  List.length (d.getD (Int.toNat y3.1.2.1) ([],[],())).2.1≤(1000:Nat)∧
  ∀ (r4:gG),
  Sp.dN r4.1.1 (Sp.eX (d.getD (Int.toNat y3.1.2.1) ([],[],())).2.1 false)→
  (d.length≤List.length y3.2.1∧
  List.length r4.1.1≤(1000:Nat)∧
  (0:Int)≤(0:Int)∧(0:Int)≤(1:Int)∧∀ (x:iV),x∈y3.2.1→(0:Int)≤x.1∧x.1≤(1000000:Int))∧
 let r5:=Sp.Du d y3.2.1 (0:Int) r4.1.1;
  List.length (d.getD (Int.toNat y3.1.2.1) ([],[],())).2.1≤(1000:Nat)∧
  ∀ (r6:gG),
  Sp.dN r6.1.1 (Sp.eX (d.getD (Int.toNat y3.1.2.1) ([],[],())).2.1 true)→
  (d.length≤List.length y3.2.1∧
  List.length r6.1.1≤(1000:Nat)∧
  (0:Int)≤(1:Int)∧
  (1:Int)≤(1:Int)∧∀ (x:iV),x∈y3.2.1→(0:Int)≤x.1∧x.1≤(1000000:Int))∧
 let r7:=Sp.Du d y3.2.1 (1:Int) r6.1.1;
  bif decide ((if r7>r5 then r7 else r5)>(↑d.length:Int)) then K (([],false,()),())
  else
  ((0:Int)≤y3.1.2.1∧y3.1.2.1<(↑(List.length y3.2.1):Int))∧
  Int.toNat y3.1.2.1<List.length y3.2.1∧
  bif decide ((if r7>r5 then r7 else r5)>(List.getD y3.2.1 (Int.toNat y3.1.2.1) ((0:Int),())).1) then
  ((0:Int)≤y3.1.2.1∧y3.1.2.1<(↑(List.length y3.2.1):Int))∧
  Int.toNat y3.1.2.1<List.length y3.2.1∧
  s2=s2∧
  Gn
  ((true,i64.wrap (y3.1.2.1+(1:Int)),()),
  List.set y3.2.1 (Int.toNat y3.1.2.1) (if r7>r5 then r7 else r5,()),())∧
  IG
  ((true,i64.wrap (y3.1.2.1+(1:Int)),()),
  List.set y3.2.1 (Int.toNat y3.1.2.1) (if r7>r5 then r7 else r5,()),())<
  IG y3
  else
  s2=s2∧
  Gn ((y3.1.1,i64.wrap (y3.1.2.1+(1:Int)),()),y3.2.1,())∧
  IG ((y3.1.1,i64.wrap (y3.1.2.1+(1:Int)),()),y3.2.1,())<IG y3
  else s0=s0∧I ((y3.1.1,()),y3.2.1,())∧μ ((y3.1.1,()),y3.2.1,())<μ y1
  else K ((y1.2.1,true,()),())
theorem auA (env:EnvB prog G Θ awr) (hne:∀ x,(Wu x).1→∃ t,(Wu x).2 t) (h:∀ (d:jv),dO uF (d,())→(Sp.aS d)→avf d fun (r:ZR)=>(Sp.aS d,fun (x:ZR)=>x.1.2.1=Sp.aH d∧(x.1.2.1=true→Sp.nR d x.1.1)).2 r):aG prog G A8 Am:=
 bZ env mixed (fn:=f149) (c:=codeOf f149) (by kernel_rfl) (by kernel_rfl) awW (by kernel_rfl) hne fun ⟨d,⟨⟩⟩ hin hp=>
 Eq.mpr (by kernel_rfl) (h d hin hp)
def asZ:Hints:=Go.Fw.hints [13,13,27,39,65,77] [(3,⟨[],⟨[(0, .one (.sl 124 (.cons .str (.cons (.sl 167 (.cons (.int .i64) (.cons (.int .i64) (.cons (.int .i64) (.cons .str (.cons (.int .i64) (.cons (.int .i64) (.cons .str .nil)))))))) .nil)) false)),(5, .one (.ref 833))],[]⟩,⟨[(6, .one (.int .i64))],[(833, .arr 3 (.cons (.int .i64) .nil) true)]⟩⟩),(7,⟨[],⟨[(0, .one (.sl 124 (.cons .str (.cons (.sl 167 (.cons (.int .i64) (.cons (.int .i64) (.cons (.int .i64) (.cons .str (.cons (.int .i64) (.cons (.int .i64) (.cons .str .nil)))))))) .nil)) false)),(5, .one (.ref 833)),(6, .one (.int .i64)),(7, .one (.sl 9 (.cons .str .nil) true))],[]⟩,⟨[(8, .one (.int .i64))],[(833, .arr 3 (.cons (.int .i64) .nil) true)]⟩⟩),(14,⟨[],⟨[(0, .one (.sl 124 (.cons .str (.cons (.sl 167 (.cons (.int .i64) (.cons (.int .i64) (.cons (.int .i64) (.cons .str (.cons (.int .i64) (.cons (.int .i64) (.cons .str .nil)))))))) .nil)) false)),(5, .one (.ref 833)),(6, .one (.int .i64)),(10, .one (.sl 9 (.cons .str .nil) true))],[]⟩,⟨[(11, .one (.int .i64))],[(833, .arr 3 (.cons (.int .i64) .nil) true)]⟩⟩)] [] [] []
def apK (d:jv) (aF:bV) (K:EF→Prop):Prop:=
 (0:Nat)+aF.length≤big∧
 let s0:=((d,(),()),());
  ∃ (I:iV×kW→Prop),
  ∃ (μ:iV×kW→Nat),
  I (((0:Int),()),aF,())∧
  ∀ (y1:iV×kW),
  I y1→
  bif decide (y1.1.1<(↑d.length:Int)) then
  ((0:Int)≤y1.1.1∧y1.1.1<(↑d.length:Int))∧
  List.length (d.getD (Int.toNat y1.1.1) ([],[],())).2.1≤(1000:Nat)∧
  ∀ (r2:gG),
  Sp.dN r2.1.1 (Sp.eX (d.getD (Int.toNat y1.1.1) ([],[],())).2.1 false)→
 let s3:=((d,(),y1.1.1,r2.1.1,()),());
  ∃ (Gn:iV×kW→Prop),
  ∃ (IG:iV×kW→Nat),
  Gn (((0:Int),()),y1.2.1,())∧
  ∀ (y4:iV×kW),
  Gn y4→
  bif decide (y4.1.1<(↑(List.length r2.1.1):Int)) then
  ((0:Int)≤y4.1.1∧y4.1.1<(↑(List.length r2.1.1):Int))∧
  True∧
 let r5:=Sp.aU d (List.getD r2.1.1 (Int.toNat y4.1.1) ([],())).1;
  bif decide (r5≥(0:Int)) then
  ((0:Int)≤r5∧r5<(↑(List.length y4.2.1):Int))∧
  r5.toNat<List.length y4.2.1∧
  ((0:Int)≤y1.1.1∧y1.1.1<(↑(List.length y4.2.1):Int))∧
  Int.toNat y1.1.1<List.length y4.2.1∧
  bif
  decide
  ((List.getD y4.2.1 r5.toNat ((0:Int),())).1>(List.getD y4.2.1 (Int.toNat y1.1.1) ((0:Int),())).1) then
  ((0:Int)≤r5∧r5<(↑(List.length y4.2.1):Int))∧
  r5.toNat<List.length y4.2.1∧
  ((0:Int)≤y1.1.1∧y1.1.1<(↑(List.length y4.2.1):Int))∧
  Int.toNat y1.1.1<List.length y4.2.1∧
  s3=s3∧
  Gn
  ((i64.wrap (y4.1.1+(1:Int)),()),
  List.set y4.2.1 (Int.toNat y1.1.1) ((List.getD y4.2.1 r5.toNat ((0:Int),())).1,()),())∧
  IG
  ((i64.wrap (y4.1.1+(1:Int)),()),
  List.set y4.2.1 (Int.toNat y1.1.1) ((List.getD y4.2.1 r5.toNat ((0:Int),())).1,()),())<
  IG y4
  else
  s3=s3∧
  Gn ((i64.wrap (y4.1.1+(1:Int)),()),y4.2.1,())∧
  IG ((i64.wrap (y4.1.1+(1:Int)),()),y4.2.1,())<IG y4
  else
  s3=s3∧
  Gn ((i64.wrap (y4.1.1+(1:Int)),()),y4.2.1,())∧
  IG ((i64.wrap (y4.1.1+(1:Int)),()),y4.2.1,())<IG y4
  else
  ((0:Int)≤y1.1.1∧y1.1.1<(↑d.length:Int))∧
  List.length (d.getD (Int.toNat y1.1.1) ([],[],())).2.1≤(1000:Nat)∧
  ∀ (r6:gG),
  Sp.dN r6.1.1 (Sp.eX (d.getD (Int.toNat y1.1.1) ([],[],())).2.1 true)→
 let s7:=((d,(),y1.1.1,r6.1.1,()),());
  ∃ (I_2:iV×kW→Prop),
  ∃ (μ_2:iV×kW→Nat),
  I_2 (((0:Int),()),y4.2.1,())∧
  ∀ (y8:iV×kW),
  I_2 y8→
  bif decide (y8.1.1<(↑(List.length r6.1.1):Int)) then
  ((0:Int)≤y8.1.1∧y8.1.1<(↑(List.length r6.1.1):Int))∧
  True∧
 let r9:=Sp.aU d (List.getD r6.1.1 (Int.toNat y8.1.1) ([],())).1;
  bif decide (r9≥(0:Int)) then
  ((0:Int)≤r9∧r9<(↑(List.length y8.2.1):Int))∧
  r9.toNat<List.length y8.2.1∧
  ((0:Int)≤y1.1.1∧y1.1.1<(↑(List.length y8.2.1):Int))∧
  Int.toNat y1.1.1<List.length y8.2.1∧
  bif
  decide
  (i64.wrap ((List.getD y8.2.1 r9.toNat ((0:Int),())).1+(1:Int))>
  (List.getD y8.2.1 (Int.toNat y1.1.1) ((0:Int),())).1) then
  ((0:Int)≤r9∧r9<(↑(List.length y8.2.1):Int))∧
  r9.toNat<List.length y8.2.1∧
  ((0:Int)≤y1.1.1∧y1.1.1<(↑(List.length y8.2.1):Int))∧
  Int.toNat y1.1.1<List.length y8.2.1∧
  s7=s7∧
  I_2
  ((i64.wrap (y8.1.1+(1:Int)),()),
  List.set y8.2.1 (Int.toNat y1.1.1)
  (i64.wrap ((List.getD y8.2.1 r9.toNat ((0:Int),())).1+(1:Int)),()),
  ())∧
  μ_2
  ((i64.wrap (y8.1.1+(1:Int)),()),
  List.set y8.2.1 (Int.toNat y1.1.1)
  (i64.wrap ((List.getD y8.2.1 r9.toNat ((0:Int),())).1+(1:Int)),()),
  ())<
  μ_2 y8
  else
  s7=s7∧
  I_2 ((i64.wrap (y8.1.1+(1:Int)),()),y8.2.1,())∧
  μ_2 ((i64.wrap (y8.1.1+(1:Int)),()),y8.2.1,())<μ_2 y8
  else
  s7=s7∧
  I_2 ((i64.wrap (y8.1.1+(1:Int)),()),y8.2.1,())∧
  μ_2 ((i64.wrap (y8.1.1+(1:Int)),()),y8.2.1,())<μ_2 y8
  else
  s0=s0∧
  I ((i64.wrap (y1.1.1+(1:Int)),()),y8.2.1,())∧
  μ ((i64.wrap (y1.1.1+(1:Int)),()),y8.2.1,())<μ y1
  else K ((y1.2.1,()),())
theorem apm (env:EnvB prog G Θ aqw) (hne:∀ x,(ES x).1→∃ t,(ES x).2 t) (h:∀ (d:jv) (aF:bV),dO yB (d,aF,())→(Sp.aS d∧d.length≤(5:Nat)∧aF.length=d.length∧∀ (x:iV),x∈aF→(0:Int)≤x.1∧x.1≤(1000000:Int))→apK d aF fun (r:EF)=>(Sp.aS d∧d.length≤(5:Nat)∧aF.length=d.length∧∀ (x:iV),x∈aF→(0:Int)≤x.1∧x.1≤(1000000:Int),
 fun (x:EF)=>Sp.raised d aF x.1.1).2
 r):aG prog G Fg GH:=
 bZ env mixed (fn:=f191) (c:=codeOf f191) (by kernel_rfl) (by kernel_rfl) asZ (by kernel_rfl) hne fun ⟨d,aF,⟨⟩⟩ hin hp=>
 Eq.mpr (by kernel_rfl) (h d aF hin hp)
def avg:Hints:=Go.Fw.hints [] [(4,⟨[],⟨[(0, .one (.sl 3 (.cons (.int .i64) .nil) false)),(1, .one (.sl 3 (.cons (.int .i64) .nil) false))],[]⟩,⟨[(5, .one (.int .i64))],[]⟩⟩)] [] [] []
def as1 (a:bV) (b:bV) (K:dD→Prop):Prop:=
 bif (↑a.length:Int) !=(↑b.length:Int) then K (false,())
 else
 let s0:=((a,b,()),());
  ∃ (I:bn→Prop),
  ∃ (μ:bn→Nat),
  I (((0:Int),()),())∧
  ∀ (y1:bn),
  I y1→
  bif decide (y1.1.1<(↑a.length:Int)) then
  ((0:Int)≤y1.1.1∧y1.1.1<(↑a.length:Int))∧
  ((0:Int)≤y1.1.1∧y1.1.1<(↑b.length:Int))∧
  bif (a.getD (Int.toNat y1.1.1) ((0:Int),())).1 !=(b.getD (Int.toNat y1.1.1) ((0:Int),())).1 then K (false,())
  else s0=s0∧I ((i64.wrap (y1.1.1+(1:Int)),()),())∧μ ((i64.wrap (y1.1.1+(1:Int)),()),())<μ y1
  else K (true,())
theorem asf (env:EnvB prog G Θ atN) (h:∀ (a:bV) (b:bV),bF Rf (a,b,())→(True)→as1 a b fun r=>r=((decide (a=b),()))):aA prog G yJ yC:=
 aT env mixed (fn:=f134) (c:=codeOf f134) (by kernel_rfl) (by kernel_rfl) avg (by kernel_rfl) fun ⟨a,b,⟨⟩⟩ hin hp=>
 Eq.mpr (by kernel_rfl) (h a b hin hp)
def awX:Hints:=Go.Fw.hints [] [(5,⟨[],⟨[(0, .one (.sl 124 (.cons .str (.cons (.sl 167 (.cons (.int .i64) (.cons (.int .i64) (.cons (.int .i64) (.cons .str (.cons (.int .i64) (.cons (.int .i64) (.cons .str .nil)))))))) .nil)) false))],[]⟩,⟨[(4, .one (.sl 3 (.cons (.int .i64) .nil) true)),(5, .one (.int .i64))],[]⟩⟩)] [] [] []
def avh (d:jv) (K:ZR→Prop):Prop:=
 Sp.aS d∧
 bif !Sp.gZ d then K (([],false,()),())
 else
 ((0:Int)≤(↑d.length:Int)∧(↑d.length:Int)≤(↑d.length:Int)∧(↑d.length:Int)≤(↑big:Int))∧
 let s0:=((d,()),());
  ∃ (I:afb→Prop),
  ∃ (μ:afb→Nat),
  I ((List.replicate (↑d.length:Int).toNat ((0:Int),()),(0:Int),()),())∧
  ∀ (y1:afb),
  I y1→
  bif decide (y1.1.2.1≤i64.wrap (i64.wrap ((↑d.length:Int)*(↑d.length:Int))+(1:Int))) then
  (Sp.aS d∧d.length≤(5:Nat)∧List.length y1.1.1=d.length∧∀ (x:iV),x∈y1.1.1→(0:Int)≤x.1∧x.1≤(1000000:Int))∧
  ∀ (r2:EF),
  Sp.raised d y1.1.1 r2.1.1→
  s0=s0∧
  I ((r2.1.1,i64.wrap (y1.1.2.1+(1:Int)),()),())∧μ ((r2.1.1,i64.wrap (y1.1.2.1+(1:Int)),()),())<μ y1
  else
  (Sp.aS d∧d.length≤(5:Nat)∧List.length y1.1.1=d.length∧∀ (x:iV),x∈y1.1.1→(0:Int)≤x.1∧x.1≤(1000000:Int))∧
  ∀ (r3:EF),
  Sp.raised d y1.1.1 r3.1.1→
  True∧
 let r4:=decide (r3.1.1=y1.1.1);
  bif !r4 then K (([],false,()),()) else K ((y1.1.1,true,()),())
theorem auz (env:EnvB prog G Θ aws) (hne:∀ x,(Wv x).1→∃ t,(Wv x).2 t) (h:∀ (d:jv),dO nU (d,())→(Sp.aS d)→avh d fun (r:ZR)=>(Sp.aS d,fun (x:ZR)=>x.1.2.1=Sp.aH d∧(x.1.2.1=true→Sp.nR d x.1.1)∧(x.1.2.1=false→x.1.1=[])).2
 r):aG prog G sW rM:=
 bZ env mixed (fn:=f131) (c:=codeOf f131) (by kernel_rfl) (by kernel_rfl) awX (by kernel_rfl) hne fun ⟨d,⟨⟩⟩ hin hp=>
 Eq.mpr (by kernel_rfl) (h d hin hp)
def aht:Hints:=Go.Fw.hints [] [] [] [] []
def afv (d:jv) (K:dD→Prop):Prop:=
 Sp.aS d∧
 ∀ (r0:ZR),
 r0.1.2.1=Sp.aH d∧(r0.1.2.1=true→Sp.nR d r0.1.1)∧(r0.1.2.1=false→r0.1.1=[])→K (r0.1.2.1,())
theorem aeE (env:EnvB prog G Θ agd) (h:∀ (d:jv),bF Jj (d,())→(Sp.aS d)→afv d fun r=>r=((Sp.aH d,()))):aA prog G xH Ap:=
 aT env mixed (fn:=f101) (c:=codeOf f101) (by kernel_rfl) (by kernel_rfl) aht (by kernel_rfl) fun ⟨d,⟨⟩⟩ hin hp=>
 Eq.mpr (by kernel_rfl) (h d hin hp)
def ZU:Hints:=Go.Fw.hints [5] [] [] [] []
def Yq (s:jr) (K:jr×Unit→Prop):Prop:=
 ∀ (g0:Bool),(g0=true→s.length=(0:Nat))→bif g0 then K ([],()) else (0:Nat)+s.length≤big∧K (s,())
theorem Yk (env:EnvB prog G Θ Y6) (h:∀ (s:jr),bF Cm (s,())→(s.length≤(1000:Nat))→Yq s fun r=>r=((s,()))):aA prog G pR sV:=
 aT env mixed (fn:=f198) (c:=codeOf f198) (by kernel_rfl) (by kernel_rfl) ZU (by kernel_rfl) fun ⟨s,⟨⟩⟩ hin hp=>
 Eq.mpr (by kernel_rfl) (h s hin hp)
def avi:Hints:=Go.Fw.hints [1] [] [] [] []
def as2 (x0:eH) (x1:jr) (K:(eH×jr×Unit)×Unit→Prop):Prop:=
 x1.length≤(1000:Nat)∧K ((x0,x1,()),())
theorem asj (env:EnvB prog G Θ atO) (h:∀ (x0:eH) (x1:jr),bF Rh ((x0,x1,()),())→(x1.length≤(1000:Nat))→as2 x0 x1 fun r=>r=(((x0,x1,()),()))):aA prog G Hz Jk:=
 aT env mixed (fn:=f145) (c:=codeOf f145) (by kernel_rfl) (by kernel_rfl) avi (by kernel_rfl) fun ⟨⟨x0,x1,⟨⟩⟩,⟨⟩⟩ hin hp=>
 Eq.mpr (by kernel_rfl) (h x0 x1 hin hp)
def as3:Hints:=Go.Fw.hints [6] [(3,⟨[(.slot 3 0,225,124,(.cons .str (.cons (.sl 167 (.cons (.int .i64) (.cons (.int .i64) (.cons (.int .i64) (.cons .str (.cons (.int .i64) (.cons (.int .i64) (.cons .str .nil)))))))) .nil)),false)],⟨[(7, .one (.sl 124 (.cons .str (.cons (.sl 167 (.cons (.int .i64) (.cons (.int .i64) (.cons (.int .i64) (.cons .str (.cons (.int .i64) (.cons (.int .i64) (.cons .str .nil)))))))) .nil)) false)),(8, .one (.int .i64))],[]⟩,⟨[(3, .one (.ref 225)),(9, .one (.int .i64))],[(225, .arr 124 (.cons .str (.cons (.sl 167 (.cons (.int .i64) (.cons (.int .i64) (.cons (.int .i64) (.cons .str (.cons (.int .i64) (.cons (.int .i64) (.cons .str .nil)))))))) .nil)) false)]⟩⟩)] [] [] []
def apL (d:jv) (K:EG→Prop):Prop:=
 let s0:=((d,(↑d.length:Int),()),());
  ∃ (I:rF×EG→Prop),
  ∃ (μ:rF×EG→Nat),
  I (((),(0:Int),()),[],())∧
  ∀ (y1:rF×EG),
  I y1→
  bif decide (y1.1.2.1<(↑d.length:Int)) then
  ((0:Int)≤y1.1.2.1∧y1.1.2.1<(↑d.length:Int))∧
  List.length (d.getD (Int.toNat y1.1.2.1) ([],[],())).2.1≤(1000:Nat)∧
 let r2:=(d.getD (Int.toNat y1.1.2.1) ([],[],())).1;
 let r3:=(d.getD (Int.toNat y1.1.2.1) ([],[],())).2.1;
  List.length y1.2.1+[(r2,r3,())].length≤big∧
  s0=s0∧
  I (((),i64.wrap (y1.1.2.1+(1:Int)),()),y1.2.1++[(r2,r3,())],())∧
  μ (((),i64.wrap (y1.1.2.1+(1:Int)),()),y1.2.1++[(r2,r3,())],())<μ y1
  else K (y1.2.1,())
theorem aph (env:EnvB prog G Θ aqx) (h:∀ (d:jv),bF Pj (d,())→(Sp.aS d)→apL d fun r=>r=((d,()))):aA prog G wz wM:=
 aT env mixed (fn:=f88) (c:=codeOf f88) (by kernel_rfl) (by kernel_rfl) as3 (by kernel_rfl) fun ⟨d,⟨⟩⟩ hin hp=>
 Eq.mpr (by kernel_rfl) (h d hin hp)
def avj:Hints:=Go.Fw.hints [5,18] [(3,⟨[],⟨[(0, .one (.sl 124 (.cons .str (.cons (.sl 167 (.cons (.int .i64) (.cons (.int .i64) (.cons (.int .i64) (.cons .str (.cons (.int .i64) (.cons (.int .i64) (.cons .str .nil)))))))) .nil)) false))],[]⟩,⟨[(3, .one (.ref 321)),(4, .one (.int .i64))],[(321, .arr 124 (.cons .str (.cons (.sl 167 (.cons (.int .i64) (.cons (.int .i64) (.cons (.int .i64) (.cons .str (.cons (.int .i64) (.cons (.int .i64) (.cons .str .nil)))))))) .nil)) true)]⟩⟩)] [] [] []
def as4 (d:jv) (K:EG→Prop):Prop:=
 let s0:=((d,()),());
  ∃ (I:rF×EG→Prop),
  ∃ (μ:rF×EG→Nat),
  I (((),(0:Int),()),[],())∧
  ∀ (y1:rF×EG),
  I y1→
  bif decide (y1.1.2.1<(↑d.length:Int)) then
  ((0:Int)≤y1.1.2.1∧y1.1.2.1<(↑d.length:Int))∧
  ((0:Int)≤y1.1.2.1∧y1.1.2.1<(↑d.length:Int))∧
  (0:Nat)+List.length (d.getD (Int.toNat y1.1.2.1) ([],[],())).2.1≤big∧
  List.length y1.2.1+[((d.getD (Int.toNat y1.1.2.1) ([],[],())).1,(d.getD (Int.toNat y1.1.2.1) ([],[],())).2.1,())].length≤big∧
  s0=s0∧
  I
  (((),i64.wrap (y1.1.2.1+(1:Int)),()),
  y1.2.1++[((d.getD (Int.toNat y1.1.2.1) ([],[],())).1,(d.getD (Int.toNat y1.1.2.1) ([],[],())).2.1,())],())∧
  μ
  (((),i64.wrap (y1.1.2.1+(1:Int)),()),
  y1.2.1++[((d.getD (Int.toNat y1.1.2.1) ([],[],())).1,(d.getD (Int.toNat y1.1.2.1) ([],[],())).2.1,())],())<
  μ y1
  else K (y1.2.1,())
theorem asl (env:EnvB prog G Θ atP) (h:∀ (d:jv),bF Ri (d,())→(Sp.aS d)→as4 d fun r=>r=((d,()))):aA prog G Ia Jl:=
 aT env mixed (fn:=f90) (c:=codeOf f90) (by kernel_rfl) (by kernel_rfl) avj (by kernel_rfl) fun ⟨d,⟨⟩⟩ hin hp=>
 Eq.mpr (by kernel_rfl) (h d hin hp)
def apM:Hints:=Go.Fw.hints [] [(4,⟨[],⟨[(0, .one (.sl 167 (.cons (.int .i64) (.cons (.int .i64) (.cons (.int .i64) (.cons .str (.cons (.int .i64) (.cons (.int .i64) (.cons .str .nil))))))) false)),(1, .one (.sl 167 (.cons (.int .i64) (.cons (.int .i64) (.cons (.int .i64) (.cons .str (.cons (.int .i64) (.cons (.int .i64) (.cons .str .nil))))))) false))],[]⟩,⟨[(5, .one (.int .i64))],[]⟩⟩)] [] [] []
def amC (a:jr) (b:jr) (K:dD→Prop):Prop:=
 bif (↑a.length:Int) !=(↑b.length:Int) then K (false,())
 else
 let s0:=((a,b,()),());
  ∃ (I:bn→Prop),
  ∃ (μ:bn→Nat),
  I (((0:Int),()),())∧
  ∀ (y1:bn),
  I y1→
  bif decide (y1.1.1<(↑a.length:Int)) then
  ((0:Int)≤y1.1.1∧y1.1.1<(↑a.length:Int))∧
  ((0:Int)≤y1.1.1∧y1.1.1<(↑b.length:Int))∧
  bif
  !((a.getD (Int.toNat y1.1.1) ((0:Int),(0:Int),(0:Int),[],(0:Int),(0:Int),[],())).1==
  (b.getD (Int.toNat y1.1.1) ((0:Int),(0:Int),(0:Int),[],(0:Int),(0:Int),[],())).1&&
  ((a.getD (Int.toNat y1.1.1) ((0:Int),(0:Int),(0:Int),[],(0:Int),(0:Int),[],())).2.1==
  (b.getD (Int.toNat y1.1.1) ((0:Int),(0:Int),(0:Int),[],(0:Int),(0:Int),[],())).2.1&&
  ((a.getD (Int.toNat y1.1.1) ((0:Int),(0:Int),(0:Int),[],(0:Int),(0:Int),[],())).2.2.1==
  (b.getD (Int.toNat y1.1.1) ((0:Int),(0:Int),(0:Int),[],(0:Int),(0:Int),[],())).2.2.1&&
  ((a.getD (Int.toNat y1.1.1) ((0:Int),(0:Int),(0:Int),[],(0:Int),(0:Int),[],())).2.2.2.1==
  (b.getD (Int.toNat y1.1.1) ((0:Int),(0:Int),(0:Int),[],(0:Int),(0:Int),[],())).2.2.2.1&&
  ((a.getD (Int.toNat y1.1.1) ((0:Int),(0:Int),(0:Int),[],(0:Int),(0:Int),[],())).2.2.2.2.1==
  (b.getD (Int.toNat y1.1.1) ((0:Int),(0:Int),(0:Int),[],(0:Int),(0:Int),[],())).2.2.2.2.1&&
  ((a.getD (Int.toNat y1.1.1) ((0:Int),(0:Int),(0:Int),[],(0:Int),(0:Int),[],())).2.2.2.2.2.1==
  (b.getD (Int.toNat y1.1.1) ((0:Int),(0:Int),(0:Int),[],(0:Int),(0:Int),[],())).2.2.2.2.2.1&&
  ((a.getD (Int.toNat y1.1.1) ((0:Int),(0:Int),(0:Int),[],(0:Int),(0:Int),[],())).2.2.2.2.2.2.1==
  (b.getD (Int.toNat y1.1.1) ((0:Int),(0:Int),(0:Int),[],(0:Int),(0:Int),[],())).2.2.2.2.2.2.1&&
  true))))))) then
  K (false,())
  else s0=s0∧I ((i64.wrap (y1.1.1+(1:Int)),()),())∧μ ((i64.wrap (y1.1.1+(1:Int)),()),())<μ y1
  else K (true,())
theorem amk (env:EnvB prog G Θ anW) (h:∀ (a:jr) (b:jr),bF NQ (a,b,())→(True)→amC a b fun r=>r=((decide (a=b),()))):aA prog G DC ET:=
 aT env mixed (fn:=f147) (c:=codeOf f147) (by kernel_rfl) (by kernel_rfl) apM (by kernel_rfl) fun ⟨a,b,⟨⟩⟩ hin hp=>
 Eq.mpr (by kernel_rfl) (h a b hin hp)
def avk:Hints:=Go.Fw.hints [] [] [] [] []
def as5 (a0:eH) (a1:jr) (b0:eH) (b1:jr) (K:dD→Prop):Prop:=
 bif a0==b0 then
 True∧
 let r0:=decide (a1=b1);
  K (r0,())
  else K (false,())
theorem ash (env:EnvB prog G Θ atQ) (h:∀ (a0:eH) (a1:jr) (b0:eH) (b1:jr),bF Rj ((a0,a1,()),(b0,b1,()),())→(True)→as5 a0 a1 b0 b1 fun r=>r=((decide ((a0,a1,())=(b0,b1,())),()))):aA prog G HY Jm:=
 aT env mixed (fn:=f95) (c:=codeOf f95) (by kernel_rfl) (by kernel_rfl) avk (by kernel_rfl) fun ⟨⟨a0,a1,⟨⟩⟩,⟨b0,b1,⟨⟩⟩,⟨⟩⟩ hin hp=>
 Eq.mpr (by kernel_rfl) (h a0 a1 b0 b1 hin hp)
def as6:Hints:=Go.Fw.hints [] [(4,⟨[],⟨[(0, .one (.sl 124 (.cons .str (.cons (.sl 167 (.cons (.int .i64) (.cons (.int .i64) (.cons (.int .i64) (.cons .str (.cons (.int .i64) (.cons (.int .i64) (.cons .str .nil)))))))) .nil)) false)),(1, .one (.sl 124 (.cons .str (.cons (.sl 167 (.cons (.int .i64) (.cons (.int .i64) (.cons (.int .i64) (.cons .str (.cons (.int .i64) (.cons (.int .i64) (.cons .str .nil)))))))) .nil)) false))],[]⟩,⟨[(5, .one (.int .i64))],[]⟩⟩)] [] [] []
def apN (a:jv) (b:jv) (K:dD→Prop):Prop:=
 bif (↑a.length:Int) !=(↑b.length:Int) then K (false,())
 else
 let s0:=((a,b,()),());
  ∃ (I:bn→Prop),
  ∃ (μ:bn→Nat),
  I (((0:Int),()),())∧
  ∀ (y1:bn),
  I y1→
  bif decide (y1.1.1<(↑a.length:Int)) then
  ((0:Int)≤y1.1.1∧y1.1.1<(↑a.length:Int))∧
  ((0:Int)≤y1.1.1∧y1.1.1<(↑b.length:Int))∧
  True∧
 let r2:=
  decide
  (((a.getD (Int.toNat y1.1.1) ([],[],())).1,(a.getD (Int.toNat y1.1.1) ([],[],())).2.1,())=
  ((b.getD (Int.toNat y1.1.1) ([],[],())).1,(b.getD (Int.toNat y1.1.1) ([],[],())).2.1,()));
  bif !r2 then K (false,())
  else s0=s0∧I ((i64.wrap (y1.1.1+(1:Int)),()),())∧μ ((i64.wrap (y1.1.1+(1:Int)),()),())<μ y1
  else K (true,())
theorem apf (env:EnvB prog G Θ aqy) (h:∀ (a:jv) (b:jv),bF Pm (a,b,())→(True)→apN a b fun r=>r=((decide (a=b),()))):aA prog G Fv GI:=
 aT env mixed (fn:=f53) (c:=codeOf f53) (by kernel_rfl) (by kernel_rfl) as6 (by kernel_rfl) fun ⟨a,b,⟨⟩⟩ hin hp=>
 Eq.mpr (by kernel_rfl) (h a b hin hp)
end Go.Proofs.Tryz

import Derived.Test.YtgbobfdlafkijaaGreatV1
namespace Go.Proofs.Tryz
open Go Go.Fw
set_option maxRecDepth 100000
open Go.IntKind (i64)
def aiB:Hints:=Go.Fw.hints [] [] [] [] []
def ag1 (c0:dB) (c1:Int) (c2:Int) (K:wH→Prop):Prop:=
 ((0:Int)≤c1∧
 [([(100:UInt8),97],()),([(100:UInt8),98],()),([(100:UInt8),99],()),([(100:UInt8),100],()),
 ([(100:UInt8),97],()),([(100:UInt8),98],()),([(100:UInt8),99],())]≠
 [])∧
 ∀ (r0:wH),
 (0:Int)≤r0.2.1.2.1∧
 (r0.1.1,())∈
 [([(100:UInt8),97],()),([(100:UInt8),98],()),([(100:UInt8),99],()),([(100:UInt8),100],()),
 ([(100:UInt8),97],()),([(100:UInt8),98],()),([(100:UInt8),99],())]→
 K ((r0.1.1,()),(r0.2.1.1,r0.2.1.2.1,r0.2.1.2.2.1,()),())
theorem agK (env:EnvB prog G Θ ahK) (hne:∀ x,(KL x).1→∃ t,(KL x).2 t) (h:∀ (c0:dB) (c1:Int) (c2:Int),dh uh ((c0,c1,c2,()),())→((0:Int)≤c1)→ag1 c0 c1 c2 fun (r:wH)=>((0:Int)≤c1,fun (x:wH)=>(0:Int)≤x.2.1.2.1∧x.1.1.length≤(10:Nat)).2 r):aC prog G Am Dl:=
 bI env mixed (fn:=f232) (c:=codeOf f232) (by kernel_rfl) (by kernel_rfl) aiB (by kernel_rfl) hne fun ⟨⟨c0,c1,c2,⟨⟩⟩,⟨⟩⟩ hin hp=>
 Eq.mpr (by kernel_rfl) (h c0 c1 c2 hin hp)
def ao9:Hints:=Go.Fw.hints [] [] [] [] []
def anj (c0:dB) (c1:Int) (c2:Int) (K:Zk×jm→Prop):Prop:=
 (0:Int)≤c1∧
 ∀ (r0:gB),
 (0:Int)≤r0.2.1.2.1∧(0:Int)≤r0.1.1∧((0:Int)<(9:Int)→r0.1.1<(9:Int))∧((9:Int)≤(0:Int)→r0.1.1=(0:Int))→
 bif r0.1.1==(0:Int) then
 K ((((1:Int),(0:Int),(0:Int),[],(0:Int),(0:Int),[],()),()),(r0.2.1.1,r0.2.1.2.1,r0.2.1.2.2.1,()),())
 else
 bif r0.1.1==(1:Int) then
 ((0:Int)≤r0.2.1.2.1∧[([(97:UInt8)],()),([(98:UInt8)],()),([(110:UInt8)],()),([(116:UInt8)],())]≠[])∧
 ∀ (r1:wH),
 (0:Int)≤r1.2.1.2.1∧(r1.1.1,())∈[([(97:UInt8)],()),([(98:UInt8)],()),([(110:UInt8)],()),([(116:UInt8)],())]→
 K ((((2:Int),(0:Int),(0:Int),r1.1.1,(0:Int),(0:Int),[],()),()),(r1.2.1.1,r1.2.1.2.1,r1.2.1.2.2.1,()),())
 else
 bif r0.1.1==(2:Int) then
 (0:Int)≤r0.2.1.2.1∧
 ∀ (r2:gB),
 (0:Int)≤r2.2.1.2.1∧(0:Int)≤r2.1.1∧((0:Int)<(4:Int)→r2.1.1<(4:Int))∧((4:Int)≤(0:Int)→r2.1.1=(0:Int))→
 True∧
 let r3:=r2.1.1;
  K ((((3:Int),(0:Int),(0:Int),[(97:UInt8)],(1:Int),r3,[],()),()),(r2.2.1.1,r2.2.1.2.1,r2.2.1.2.2.1,()),())
  else
  bif r0.1.1==(3:Int) then
  ((0:Int)≤r0.2.1.2.1∧[([(114:UInt8),101,100],()),([(98:UInt8),108,117,101],())]≠[])∧
  ∀ (r4:wH),
  (0:Int)≤r4.2.1.2.1∧
  (r4.1.1,())∈[([(114:UInt8),101,100],()),([(98:UInt8),108,117,101],())]→
  True∧
 let r5:=r4.1.1;
  K
  ((((3:Int),(0:Int),(0:Int),[(116:UInt8)],(2:Int),(0:Int),r5,()),()),(r4.2.1.1,r4.2.1.2.1,r4.2.1.2.2.1,()),
  ())
  else
  bif r0.1.1==(4:Int) then
  ((0:Int)≤r0.2.1.2.1∧[([(97:UInt8)],()),([(98:UInt8)],())]≠[])∧
  ∀ (r6:wH),
  (0:Int)≤r6.2.1.2.1∧(r6.1.1,())∈[([(97:UInt8)],()),([(98:UInt8)],())]→
  (0:Int)≤r6.2.1.2.1∧
  ∀ (r7:gB),
  (0:Int)≤r7.2.1.2.1∧(0:Int)≤r7.1.1∧((0:Int)<(3:Int)→r7.1.1<(3:Int))∧((3:Int)≤(0:Int)→r7.1.1=(0:Int))→
  True∧
 let r8:=i64.wrap ((1:Int)+r7.1.1);
  K ((((4:Int),(0:Int),(0:Int),r6.1.1,(1:Int),r8,[],()),()),(r7.2.1.1,r7.2.1.2.1,r7.2.1.2.2.1,()),())
  else
  bif r0.1.1==(5:Int) then
  bif r0.1.1==(5:Int) then
  (0:Int)≤r0.2.1.2.1∧
  ∀ (r9:wH),
  (0:Int)≤r9.2.1.2.1∧r9.1.1.length≤(10:Nat)→
  K
  ((((8:Int),(0:Int),(0:Int),r9.1.1,(0:Int),(0:Int),[],()),()),(r9.2.1.1,r9.2.1.2.1,r9.2.1.2.2.1,()),
  ())
  else
  bif r0.1.1==(7:Int) then
  (0:Int)≤r0.2.1.2.1∧
  ∀ (r10:wH),
  (0:Int)≤r10.2.1.2.1∧r10.1.1.length≤(10:Nat)→
  K
  ((((9:Int),(0:Int),(0:Int),r10.1.1,(0:Int),(0:Int),[],()),()),
  (r10.2.1.1,r10.2.1.2.1,r10.2.1.2.2.1,()),())
  else
  (0:Int)≤r0.2.1.2.1∧
  ∀ (r11:gB),
  (0:Int)≤r11.2.1.2.1∧(0:Int)≤r11.1.1∧((0:Int)<(4:Int)→r11.1.1<(4:Int))∧((4:Int)≤(0:Int)→r11.1.1=(0:Int))→
  True∧
 let r12:=r11.1.1;
  K
  ((((3:Int),(0:Int),(0:Int),[(98:UInt8)],(1:Int),r12,[],()),()),
  (r11.2.1.1,r11.2.1.2.1,r11.2.1.2.2.1,()),())
  else
  bif r0.1.1==(6:Int) then
  (0:Int)≤r0.2.1.2.1∧
  ∀ (r13:wH),
  (0:Int)≤r13.2.1.2.1∧r13.1.1.length≤(10:Nat)→
  K
  ((((8:Int),(0:Int),(0:Int),r13.1.1,(0:Int),(0:Int),[],()),()),
  (r13.2.1.1,r13.2.1.2.1,r13.2.1.2.2.1,()),())
  else
  bif r0.1.1==(7:Int) then
  (0:Int)≤r0.2.1.2.1∧
  ∀ (RQ:wH),
  (0:Int)≤RQ.2.1.2.1∧RQ.1.1.length≤(10:Nat)→
  K
  ((((9:Int),(0:Int),(0:Int),RQ.1.1,(0:Int),(0:Int),[],()),()),
  (RQ.2.1.1,RQ.2.1.2.1,RQ.2.1.2.2.1,()),())
  else
  (0:Int)≤r0.2.1.2.1∧
  ∀ (r15:gB),
  (0:Int)≤r15.2.1.2.1∧(0:Int)≤r15.1.1∧((0:Int)<(4:Int)→r15.1.1<(4:Int))∧((4:Int)≤(0:Int)→r15.1.1=(0:Int))→
  True∧
 let r16:=r15.1.1;
  K
  ((((3:Int),(0:Int),(0:Int),[(98:UInt8)],(1:Int),r16,[],()),()),
  (r15.2.1.1,r15.2.1.2.1,r15.2.1.2.2.1,()),())
theorem amI (env:EnvB prog G Θ anU) (hne:∀ x,(Qs x).1→∃ t,(Qs x).2 t) (h:∀ (c0:dB) (c1:Int) (c2:Int),dh qQ ((c0,c1,c2,()),())→((0:Int)≤c1)→anj c0 c1 c2 fun (r:Zk×jm)=>((0:Int)≤c1,fun (x:Zk×jm)=>
 (0:Int)≤x.2.1.2.1∧True).2
 r):aC prog G xW xJ:=
 bI env mixed (fn:=f196) (c:=codeOf f196) (by kernel_rfl) (by kernel_rfl) ao9 (by kernel_rfl) hne fun ⟨⟨c0,c1,c2,⟨⟩⟩,⟨⟩⟩ hin hp=>
 Eq.mpr (by kernel_rfl) (h c0 c1 c2 hin hp)
def acP:Hints:=Go.Fw.hints [34,47,54,15,19,20,23,34,40,47,54,63,71,34,47,54] [] [(3,⟨[],⟨[(0, .dP 48 0),(1, .one (.ref 113)),(2, .one (.int .i64)),(3, .one (.bool))],[(113, .arr 167 (.cons (.int .i64) (.cons (.int .i64) (.cons (.int .i64) (.cons .str (.cons (.int .i64) (.cons (.int .i64) (.cons .str .nil))))))) false)]⟩,⟨[],[(48, .var [.sl 5 (.cons (.int .u8) .nil) false, .int .i64, .int .i64])]⟩⟩)] [] []
def aaS [YD] (c0:dB) (c1:Int) (c2:Int) (q:kG) (deep:Int) (not:Bool) (K:Di→Prop):Prop:=
 let s0:=(((),(),deep,not,()),q,());
  ∃ (J:Unit×jm→Prop),
  (bif deep==(0:Int) then
  (0:Int)≤c1∧
  ∀ (r1:Zk×jm),
  (0:Int)≤r1.2.1.2.1∧True→
  q.length+
  [(r1.1.1.1,r1.1.1.2.1,r1.1.1.2.2.1,r1.1.1.2.2.2.1,r1.1.1.2.2.2.2.1,r1.1.1.2.2.2.2.2.1,
  r1.1.1.2.2.2.2.2.2.1,())].length≤
  big∧
  K
  ((q++
  [(r1.1.1.1,r1.1.1.2.1,r1.1.1.2.2.1,r1.1.1.2.2.2.1,r1.1.1.2.2.2.2.1,r1.1.1.2.2.2.2.2.1,
  r1.1.1.2.2.2.2.2.2.1,())],
  ()),
  (r1.2.1.1,r1.2.1.2.1,r1.2.1.2.2.1,()),())
  else
  (0:Int)≤c1∧
  ∀ (r2:fG×jm),
  (r2.2.1.2.1-(0:Int)).NonNeg→
  bif r2.1.1 then
  (0:Int)≤r2.2.1.2.1∧
  ∀ (r3:Zk×jm),
  (0:Int)≤r3.2.1.2.1∧True→
  q.length+
  [(r3.1.1.1,r3.1.1.2.1,r3.1.1.2.2.1,r3.1.1.2.2.2.1,r3.1.1.2.2.2.2.1,
  r3.1.1.2.2.2.2.2.1,r3.1.1.2.2.2.2.2.2.1,())].length≤
  big∧
  K
  ((q++
  [(r3.1.1.1,r3.1.1.2.1,r3.1.1.2.2.1,r3.1.1.2.2.2.1,r3.1.1.2.2.2.2.1,
  r3.1.1.2.2.2.2.2.1,r3.1.1.2.2.2.2.2.2.1,())],
  ()),
  (r3.2.1.1,r3.2.1.2.1,r3.2.1.2.2.1,()),())
  else s0=s0∧J ((),(r2.2.1.1,r2.2.1.2.1,r2.2.1.2.2.1,()),()))∧
  ∀ (y4:Unit×jm),
  J y4→
  (0:Int)≤y4.2.1.2.1∧
  ∀ (r5:gB),
  (0:Int)≤r5.2.1.2.1∧(0:Int)≤r5.1.1∧((0:Int)<(5:Int)→r5.1.1<(5:Int))∧((5:Int)≤(0:Int)→r5.1.1=(0:Int))→
  bif r5.1.1==(0:Int) then
  bif not then
  (((0:Int)≤r5.2.1.2.1∧
  (0:Int)≤i64.wrap (deep-(1:Int))∧
  i64.wrap (deep-(1:Int))≤(4:Int)∧q.length+(2:Nat)*(i64.wrap (deep-(1:Int))).toNat≤(900:Nat))∧
  (i64.wrap (deep-(1:Int))).toNat<aaY)∧
  ∀ (r6:Di),
  (0:Int)≤r6.2.1.2.1∧q.length<r6.1.1.length∧r6.1.1.length≤q.length+(2:Nat)*(i64.wrap (deep-(1:Int))).toNat+(1:Nat)→
  List.length r6.1.1+
  [((5:Int),i64.wrap ((↑(List.length r6.1.1):Int)-(1:Int)),(0:Int),FV,(0:Int),(0:Int),FV,())].length≤
  big∧
  K
  ((r6.1.1++[((5:Int),i64.wrap ((↑(List.length r6.1.1):Int)-(1:Int)),(0:Int),FV,(0:Int),(0:Int),FV,())],()),
  (r6.2.1.1,r6.2.1.2.1,r6.2.1.2.2.1,()),())
  else
  (((0:Int)≤r5.2.1.2.1∧
  (0:Int)≤i64.wrap (deep-(1:Int))∧
  i64.wrap (deep-(1:Int))≤(4:Int)∧q.length+(2:Nat)*(i64.wrap (deep-(1:Int))).toNat≤(900:Nat))∧
  (i64.wrap (deep-(1:Int))).toNat<aaY)∧
  ∀ (r7:Di),
  (0:Int)≤r7.2.1.2.1∧q.length<r7.1.1.length∧r7.1.1.length≤q.length+(2:Nat)*(i64.wrap (deep-(1:Int))).toNat+(1:Nat)→
  (((0:Int)≤r7.2.1.2.1∧(0:Int)≤(0:Int)∧(0:Int)≤(4:Int)∧List.length r7.1.1+(2:Nat)*Int.toNat (0:Int)≤(900:Nat))∧
  Int.toNat (0:Int)<aaY)∧
  ∀ (r8:Di),
  (0:Int)≤r8.2.1.2.1∧
  List.length r7.1.1<r8.1.1.length∧r8.1.1.length≤List.length r7.1.1+(2:Nat)*Int.toNat (0:Int)+(1:Nat)→
  bif decide (r5.1.1<(3:Int)) then
  List.length r8.1.1+
  [((6:Int),i64.wrap ((↑(List.length r7.1.1):Int)-(1:Int)),
  i64.wrap ((↑(List.length r8.1.1):Int)-(1:Int)),FV,(0:Int),(0:Int),FV,())].length≤
  big∧
  K
  ((r8.1.1++
  [((6:Int),i64.wrap ((↑(List.length r7.1.1):Int)-(1:Int)),
  i64.wrap ((↑(List.length r8.1.1):Int)-(1:Int)),FV,(0:Int),(0:Int),FV,())],
  ()),
  (r8.2.1.1,r8.2.1.2.1,r8.2.1.2.2.1,()),())
  else
  List.length r8.1.1+
  [((7:Int),i64.wrap ((↑(List.length r7.1.1):Int)-(1:Int)),
  i64.wrap ((↑(List.length r8.1.1):Int)-(1:Int)),FV,(0:Int),(0:Int),FV,())].length≤
  big∧
  K
  ((r8.1.1++
  [((7:Int),i64.wrap ((↑(List.length r7.1.1):Int)-(1:Int)),
  i64.wrap ((↑(List.length r8.1.1):Int)-(1:Int)),FV,(0:Int),(0:Int),FV,())],
  ()),
  (r8.2.1.1,r8.2.1.2.1,r8.2.1.2.2.1,()),())
  else
  (((0:Int)≤r5.2.1.2.1∧
  (0:Int)≤i64.wrap (deep-(1:Int))∧
  i64.wrap (deep-(1:Int))≤(4:Int)∧q.length+(2:Nat)*(i64.wrap (deep-(1:Int))).toNat≤(900:Nat))∧
  (i64.wrap (deep-(1:Int))).toNat<aaY)∧
  ∀ (r9:Di),
  (0:Int)≤r9.2.1.2.1∧q.length<r9.1.1.length∧r9.1.1.length≤q.length+(2:Nat)*(i64.wrap (deep-(1:Int))).toNat+(1:Nat)→
  (((0:Int)≤r9.2.1.2.1∧(0:Int)≤(0:Int)∧(0:Int)≤(4:Int)∧List.length r9.1.1+(2:Nat)*Int.toNat (0:Int)≤(900:Nat))∧
  Int.toNat (0:Int)<aaY)∧
  ∀ (r10:Di),
  (0:Int)≤r10.2.1.2.1∧
  List.length r9.1.1<r10.1.1.length∧r10.1.1.length≤List.length r9.1.1+(2:Nat)*Int.toNat (0:Int)+(1:Nat)→
  bif decide (r5.1.1<(3:Int)) then
  List.length r10.1.1+
  [((6:Int),i64.wrap ((↑(List.length r9.1.1):Int)-(1:Int)),
  i64.wrap ((↑(List.length r10.1.1):Int)-(1:Int)),FV,(0:Int),(0:Int),FV,())].length≤
  big∧
  K
  ((r10.1.1++
  [((6:Int),i64.wrap ((↑(List.length r9.1.1):Int)-(1:Int)),
  i64.wrap ((↑(List.length r10.1.1):Int)-(1:Int)),FV,(0:Int),(0:Int),FV,())],
  ()),
  (r10.2.1.1,r10.2.1.2.1,r10.2.1.2.2.1,()),())
  else
  List.length r10.1.1+
  [((7:Int),i64.wrap ((↑(List.length r9.1.1):Int)-(1:Int)),
  i64.wrap ((↑(List.length r10.1.1):Int)-(1:Int)),FV,(0:Int),(0:Int),FV,())].length≤
  big∧
  K
  ((r10.1.1++
  [((7:Int),i64.wrap ((↑(List.length r9.1.1):Int)-(1:Int)),
  i64.wrap ((↑(List.length r10.1.1):Int)-(1:Int)),FV,(0:Int),(0:Int),FV,())],
  ()),
  (r10.2.1.1,r10.2.1.2.1,r10.2.1.2.2.1,()),())
theorem aaG [YD] (env:EnvB prog G Θ abe) (hne:∀ x,(AA x).1→∃ t,(AA x).2 t) (h:∀ (c0:dB) (c1:Int) (c2:Int) (q:kG) (deep:Int) (not:Bool),dh zB ((c0,c1,c2,()),q,deep,not,())→(((0:Int)≤c1∧(0:Int)≤deep∧deep≤(4:Int)∧q.length+(2:Nat)*deep.toNat≤(900:Nat))∧deep.toNat<aaY+(1:Nat))→aaS c0 c1 c2 q deep not fun (r:Di)=>(((0:Int)≤c1∧(0:Int)≤deep∧deep≤(4:Int)∧q.length+(2:Nat)*deep.toNat≤(900:Nat))∧deep.toNat<aaY+(1:Nat),
 fun (x:Di)=>
 (0:Int)≤x.2.1.2.1∧q.length<x.1.1.length∧x.1.1.length≤q.length+(2:Nat)*deep.toNat+(1:Nat)).2
 r):aC prog G O9 Lj:=
 bI env mixed (fn:=f197) (c:=codeOf f197) (by kernel_rfl) (by kernel_rfl) acP (by kernel_rfl) hne fun ⟨⟨c0,c1,c2,⟨⟩⟩,q,deep,not,⟨⟩⟩ hin hp=>
 Eq.mpr (by kernel_rfl) (h c0 c1 c2 q deep not hin hp)
def ag2:Hints:=Go.Fw.hints [6,5] [] [] [] []
def aeF (c0:dB) (c1:Int) (c2:Int) (K:Di→Prop):Prop:=
 (0:Int)≤c1∧
 ∀ (r0:gB),
 (0:Int)≤r0.2.1.2.1∧(0:Int)≤r0.1.1∧((0:Int)<(4:Int)→r0.1.1<(4:Int))∧((4:Int)≤(0:Int)→r0.1.1=(0:Int))→
 ((0:Int)≤r0.2.1.2.1∧(0:Int)≤r0.1.1∧r0.1.1≤(4:Int))∧
 ∀ (r1:Di),
 (0:Int)≤r1.2.1.2.1∧(0:Nat)<r1.1.1.length∧r1.1.1.length≤(0:Nat)+(2:Nat)*Int.toNat r0.1.1+(1:Nat)→
 K ((r1.1.1,()),(r1.2.1.1,r1.2.1.2.1,r1.2.1.2.2.1,()),())
theorem aem (env:EnvB prog G Θ afm) (hne:∀ x,(Jy x).1→∃ t,(Jy x).2 t) (h:∀ (c0:dB) (c1:Int) (c2:Int),dh rG ((c0,c1,c2,()),())→((0:Int)≤c1)→aeF c0 c1 c2 fun (r:Di)=>((0:Int)≤c1,fun (x:Di)=>
 (0:Int)≤x.2.1.2.1∧(0:Nat)<x.1.1.length∧x.1.1.length≤(9:Nat)).2
 r):aC prog G yT AB:=
 bI env mixed (fn:=f142) (c:=codeOf f142) (by kernel_rfl) (by kernel_rfl) ag2 (by kernel_rfl) hne fun ⟨⟨c0,c1,c2,⟨⟩⟩,⟨⟩⟩ hin hp=>
 Eq.mpr (by kernel_rfl) (h c0 c1 c2 hin hp)
def U4:Hints:=Go.Fw.hints [5] [] [] [] []
def Tq (c0:dB) (c1:Int) (c2:Int) (K:Di→Prop):Prop:=
 (0:Int)≤c1∧
 ∀ (r0:gB),
 (0:Int)≤r0.2.1.2.1∧(0:Int)≤r0.1.1∧((0:Int)<(4:Int)→r0.1.1<(4:Int))∧((4:Int)≤(0:Int)→r0.1.1=(0:Int))→
 ((0:Int)≤r0.2.1.2.1∧(0:Int)≤r0.1.1∧r0.1.1≤(4:Int))∧
 ∀ (r1:Di),
 (0:Int)≤r1.2.1.2.1∧(0:Nat)<r1.1.1.length∧r1.1.1.length≤(0:Nat)+(2:Nat)*Int.toNat r0.1.1+(1:Nat)→
 K ((r1.1.1,()),(r1.2.1.1,r1.2.1.2.1,r1.2.1.2.2.1,()),())
theorem Td (env:EnvB prog G Θ Uo) (hne:∀ x,(AL x).1→∃ t,(AL x).2 t) (h:∀ (c0:dB) (c1:Int) (c2:Int),dh iG ((c0,c1,c2,()),())→((0:Int)≤c1)→Tq c0 c1 c2 fun (r:Di)=>((0:Int)≤c1,fun (x:Di)=>
 (0:Int)≤x.2.1.2.1∧(0:Nat)<x.1.1.length∧x.1.1.length≤(9:Nat)).2
 r):aC prog G jK kz:=
 bI env mixed (fn:=f142) (c:=codeOf f142) (by kernel_rfl) (by kernel_rfl) U4 (by kernel_rfl) hne fun ⟨⟨c0,c1,c2,⟨⟩⟩,⟨⟩⟩ hin hp=>
 Eq.mpr (by kernel_rfl) (h c0 c1 c2 hin hp)
def aqR:Hints:=Go.Fw.hints [6,29,38,53] [] [] [] []
def apa (c0:dB) (c1:Int) (c2:Int) (K:Di→Prop):Prop:=
 (0:Int)≤c1∧
 ∀ (r0:Di),
 (0:Int)≤r0.2.1.2.1∧(0:Nat)<r0.1.1.length∧r0.1.1.length≤(9:Nat)→
 (0:Int)≤r0.2.1.2.1∧
 ∀ (r1:gB),
 (0:Int)≤r1.2.1.2.1∧
 (0:Int)≤r1.1.1∧
 ((0:Int)<(↑(List.length r0.1.1):Int)→r1.1.1<(↑(List.length r0.1.1):Int))∧
 ((↑(List.length r0.1.1):Int)≤(0:Int)→r1.1.1=(0:Int))→
 (0:Int)≤r1.2.1.2.1∧
 ∀ (r2:gB),
 (0:Int)≤r2.2.1.2.1∧(0:Int)≤r2.1.1∧((0:Int)<(10:Int)→r2.1.1<(10:Int))∧((10:Int)≤(0:Int)→r2.1.1=(0:Int))→
 bif r2.1.1==(0:Int) then
 (0:Int)≤r2.2.1.2.1∧
 ∀ (r3:gB),
 (0:Int)≤r3.2.1.2.1∧(0:Int)≤r3.1.1∧((0:Int)<(12:Int)→r3.1.1<(12:Int))∧((12:Int)≤(0:Int)→r3.1.1=(0:Int))→
 ((0:Int)≤r1.1.1∧r1.1.1<(↑(List.length r0.1.1):Int))∧
 Int.toNat r1.1.1<List.length r0.1.1∧
 K
 ((List.set r0.1.1 (Int.toNat r1.1.1)
 (i64.wrap (r3.1.1-(1:Int)),
 (List.getD r0.1.1 (Int.toNat r1.1.1) ((0:Int),(0:Int),(0:Int),[],(0:Int),(0:Int),[],())).2.1,
 (List.getD r0.1.1 (Int.toNat r1.1.1) ((0:Int),(0:Int),(0:Int),[],(0:Int),(0:Int),[],())).2.2.1,
 (List.getD r0.1.1 (Int.toNat r1.1.1) ((0:Int),(0:Int),(0:Int),[],(0:Int),(0:Int),[],())).2.2.2.1,
 (List.getD r0.1.1 (Int.toNat r1.1.1) ((0:Int),(0:Int),(0:Int),[],(0:Int),(0:Int),[],())).2.2.2.2.1,
 (List.getD r0.1.1 (Int.toNat r1.1.1) ((0:Int),(0:Int),(0:Int),[],(0:Int),(0:Int),[],())).2.2.2.2.2.1,
 (List.getD r0.1.1 (Int.toNat r1.1.1)
 ((0:Int),(0:Int),(0:Int),[],(0:Int),(0:Int),[],())).2.2.2.2.2.2.1,
 ()),
 ()),
 (r3.2.1.1,r3.2.1.2.1,r3.2.1.2.2.1,()),())
 else
 bif r2.1.1==(1:Int) then
 ((0:Int)≤r2.2.1.2.1∧[((-1:Int),()),((0:Int),()),(r1.1.1,()),((8:Int),()),((9223372036854775807:Int),())]≠[])∧
 ∀ (r4:gB),
 (0:Int)≤r4.2.1.2.1∧(r4.1.1,())∈[((-1:Int),()),((0:Int),()),(r1.1.1,()),((8:Int),()),((9223372036854775807:Int),())]→
 ((0:Int)≤r1.1.1∧r1.1.1<(↑(List.length r0.1.1):Int))∧
 Int.toNat r1.1.1<List.length r0.1.1∧
 K
 ((List.set r0.1.1 (Int.toNat r1.1.1)
 ((List.getD r0.1.1 (Int.toNat r1.1.1) ((0:Int),(0:Int),(0:Int),[],(0:Int),(0:Int),[],())).1,r4.1.1,
 (List.getD r0.1.1 (Int.toNat r1.1.1) ((0:Int),(0:Int),(0:Int),[],(0:Int),(0:Int),[],())).2.2.1,
 (List.getD r0.1.1 (Int.toNat r1.1.1) ((0:Int),(0:Int),(0:Int),[],(0:Int),(0:Int),[],())).2.2.2.1,
 (List.getD r0.1.1 (Int.toNat r1.1.1) ((0:Int),(0:Int),(0:Int),[],(0:Int),(0:Int),[],())).2.2.2.2.1,
 (List.getD r0.1.1 (Int.toNat r1.1.1) ((0:Int),(0:Int),(0:Int),[],(0:Int),(0:Int),[],())).2.2.2.2.2.1,
 (List.getD r0.1.1 (Int.toNat r1.1.1)
 ((0:Int),(0:Int),(0:Int),[],(0:Int),(0:Int),[],())).2.2.2.2.2.2.1,
 ()),
 ()),
 (r4.2.1.1,r4.2.1.2.1,r4.2.1.2.2.1,()),())
 else
 bif r2.1.1==(2:Int) then
 ((0:Int)≤r2.2.1.2.1∧
 [([],()),([(97:UInt8)],()),([(100:UInt8),97],()),
 ([(97:UInt8),98,99,100,101,102,103],()),([(65:UInt8)],())]≠
 [])∧
 ∀ (r5:wH),
 (0:Int)≤r5.2.1.2.1∧
 (r5.1.1,())∈
 [([],()),([(97:UInt8)],()),([(100:UInt8),97],()),
 ([(97:UInt8),98,99,100,101,102,103],()),([(65:UInt8)],())]→
 ((0:Int)≤r1.1.1∧r1.1.1<(↑(List.length r0.1.1):Int))∧
 Int.toNat r1.1.1<List.length r0.1.1∧
 K
 ((List.set r0.1.1 (Int.toNat r1.1.1)
 ((List.getD r0.1.1 (Int.toNat r1.1.1) ((0:Int),(0:Int),(0:Int),[],(0:Int),(0:Int),[],())).1,
 (List.getD r0.1.1 (Int.toNat r1.1.1) ((0:Int),(0:Int),(0:Int),[],(0:Int),(0:Int),[],())).2.1,
 (List.getD r0.1.1 (Int.toNat r1.1.1) ((0:Int),(0:Int),(0:Int),[],(0:Int),(0:Int),[],())).2.2.1,
 r5.1.1,
 (List.getD r0.1.1 (Int.toNat r1.1.1) ((0:Int),(0:Int),(0:Int),[],(0:Int),(0:Int),[],())).2.2.2.2.1,
 (List.getD r0.1.1 (Int.toNat r1.1.1)
 ((0:Int),(0:Int),(0:Int),[],(0:Int),(0:Int),[],())).2.2.2.2.2.1,
 (List.getD r0.1.1 (Int.toNat r1.1.1)
 ((0:Int),(0:Int),(0:Int),[],(0:Int),(0:Int),[],())).2.2.2.2.2.2.1,
 ()),
 ()),
 (r5.2.1.1,r5.2.1.2.1,r5.2.1.2.2.1,()),())
 else
 bif r2.1.1==(3:Int) then
 (0:Int)≤r2.2.1.2.1∧
 ∀ (r6:Zk×jm),
 (0:Int)≤r6.2.1.2.1∧True→
 List.length r0.1.1+
 [(r6.1.1.1,r6.1.1.2.1,r6.1.1.2.2.1,r6.1.1.2.2.2.1,r6.1.1.2.2.2.2.1,
 r6.1.1.2.2.2.2.2.1,r6.1.1.2.2.2.2.2.2.1,())].length≤
 big∧
 K
 ((r0.1.1++
 [(r6.1.1.1,r6.1.1.2.1,r6.1.1.2.2.1,r6.1.1.2.2.2.1,r6.1.1.2.2.2.2.1,
 r6.1.1.2.2.2.2.2.1,r6.1.1.2.2.2.2.2.2.1,())],
 ()),
 (r6.2.1.1,r6.2.1.2.1,r6.2.1.2.2.1,()),())
 else
 bif r2.1.1==(4:Int) then
 (0:Int)≤r2.2.1.2.1∧
 ∀ (r7:acE),
 (0:Int)≤r7.2.1.2.1∧r7.1.1.2.2.1.length≤(10:Nat)→
 ((0:Int)≤r1.1.1∧r1.1.1<(↑(List.length r0.1.1):Int))∧
 Int.toNat r1.1.1<List.length r0.1.1∧
 K
 ((List.set r0.1.1 (Int.toNat r1.1.1)
 ((List.getD r0.1.1 (Int.toNat r1.1.1) ((0:Int),(0:Int),(0:Int),[],(0:Int),(0:Int),[],())).1,
 (List.getD r0.1.1 (Int.toNat r1.1.1) ((0:Int),(0:Int),(0:Int),[],(0:Int),(0:Int),[],())).2.1,
 (List.getD r0.1.1 (Int.toNat r1.1.1) ((0:Int),(0:Int),(0:Int),[],(0:Int),(0:Int),[],())).2.2.1,
 (List.getD r0.1.1 (Int.toNat r1.1.1) ((0:Int),(0:Int),(0:Int),[],(0:Int),(0:Int),[],())).2.2.2.1,
 r7.1.1.1,r7.1.1.2.1,r7.1.1.2.2.1,()),
 ()),
 (r7.2.1.1,r7.2.1.2.1,r7.2.1.2.2.1,()),())
 else
 bif r2.1.1==(5:Int) then K (([],()),(r2.2.1.1,r2.2.1.2.1,r2.2.1.2.2.1,()),())
 else K ((r0.1.1,()),(r2.2.1.1,r2.2.1.2.1,r2.2.1.2.2.1,()),())
theorem aoL (env:EnvB prog G Θ aqj) (hne:∀ x,(Sj x).1→∃ t,(Sj x).2 t) (h:∀ (c0:dB) (c1:Int) (c2:Int),dh BM ((c0,c1,c2,()),())→((0:Int)≤c1)→apa c0 c1 c2 fun (r:Di)=>((0:Int)≤c1,fun (x:Di)=>
 (0:Int)≤x.2.1.2.1∧x.1.1.length≤(10:Nat)).2
 r):aC prog G Ig Ji:=
 bI env mixed (fn:=f141) (c:=codeOf f141) (by kernel_rfl) (by kernel_rfl) aqR (by kernel_rfl) hne fun ⟨⟨c0,c1,c2,⟨⟩⟩,⟨⟩⟩ hin hp=>
 Eq.mpr (by kernel_rfl) (h c0 c1 c2 hin hp)
def apb:Hints:=Go.Fw.hints [5,5,8,14,19,21] [(3,⟨[(.slot 3 0,225,124,(.cons .str (.cons (.sl 167 (.cons (.int .i64) (.cons (.int .i64) (.cons (.int .i64) (.cons .str (.cons (.int .i64) (.cons (.int .i64) (.cons .str .nil)))))))) .nil)),false)],⟨[(0, .dP 48 0)],[]⟩,⟨[(3, .one (.ref 225)),(4, .one (.int .i64))],[(48, .var [.sl 5 (.cons (.int .u8) .nil) false, .int .i64, .int .i64]),(225, .arr 124 (.cons .str (.cons (.sl 167 (.cons (.int .i64) (.cons (.int .i64) (.cons (.int .i64) (.cons .str (.cons (.int .i64) (.cons (.int .i64) (.cons .str .nil)))))))) .nil)) false)]⟩⟩)] [] [48] []
def ank (c0:dB) (c1:Int) (c2:Int) (K:QL→Prop):Prop:=
 let s0:=(((),()),());
  ∃ (I:qL×BD×Gi→Prop),
  ∃ (μ:
  qL×BD×Gi→Nat),
  I (((),(0:Int),()),(c0,c1,c2,()),[],())∧
  ∀ (y1:qL×BD×Gi),
  I y1→
  (0:Int)≤y1.2.1.2.1∧
  ∀ (r2:gB),
  (0:Int)≤r2.2.1.2.1∧(0:Int)≤r2.1.1∧((0:Int)<(4:Int)→r2.1.1<(4:Int))∧((4:Int)≤(0:Int)→r2.1.1=(0:Int))→
  bif decide (y1.1.2.1<i64.wrap ((1:Int)+r2.1.1)) then
  ((0:Int)≤y1.1.2.1∧
  y1.1.2.1<
  (↑[([(100:UInt8),97],()),([(100:UInt8),98],()),([(100:UInt8),99],()),
  ([(100:UInt8),100],())].length:
  Int))∧
  Int.toNat y1.1.2.1<
  [([(100:UInt8),97],()),([(100:UInt8),98],()),([(100:UInt8),99],()),
  ([(100:UInt8),100],())].length∧
  (0:Int)≤r2.2.1.2.1∧
  ∀ (r3:Di),
  (0:Int)≤r3.2.1.2.1∧(0:Nat)<r3.1.1.length∧r3.1.1.length≤(9:Nat)→
  List.length y1.2.2.1+
  [(([([(100:UInt8),97],()),([(100:UInt8),98],()),([(100:UInt8),99],()),
  ([(100:UInt8),100],())].getD
  (Int.toNat y1.1.2.1) ([],())).1,
  r3.1.1,())].length≤
  big∧
  s0=s0∧
  I
  (((),i64.wrap (y1.1.2.1+(1:Int)),()),(r3.2.1.1,r3.2.1.2.1,r3.2.1.2.2.1,()),
  y1.2.2.1++
  [(([([(100:UInt8),97],()),([(100:UInt8),98],()),([(100:UInt8),99],()),
  ([(100:UInt8),100],())].getD
  (Int.toNat y1.1.2.1) ([],())).1,
  r3.1.1,())],
  ())∧
  μ
  (((),i64.wrap (y1.1.2.1+(1:Int)),()),(r3.2.1.1,r3.2.1.2.1,r3.2.1.2.2.1,()),
  y1.2.2.1++
  [(([([(100:UInt8),97],()),([(100:UInt8),98],()),([(100:UInt8),99],()),
  ([(100:UInt8),100],())].getD
  (Int.toNat y1.1.2.1) ([],())).1,
  r3.1.1,())],
  ())<
  μ y1
  else K ((y1.2.2.1,()),(r2.2.1.1,r2.2.1.2.1,r2.2.1.2.2.1,()),())
theorem amL (env:EnvB prog G Θ anV) (hne:∀ x,(Qu x).1→∃ t,(Qu x).2 t) (h:∀ (c0:dB) (c1:Int) (c2:Int),dh qR ((c0,c1,c2,()),())→((0:Int)≤c1)→ank c0 c1 c2 fun (r:QL)=>((0:Int)≤c1,
 fun (x:QL)=>
 (0:Int)≤x.2.1.2.1∧(0:Nat)<x.1.1.length∧x.1.1.length≤(4:Nat)∧Sp.bY x.1.1).2
 r):aC prog G xX xK:=
 bI env mixed (fn:=f139) (c:=codeOf f139) (by kernel_rfl) (by kernel_rfl) apb (by kernel_rfl) hne fun ⟨⟨c0,c1,c2,⟨⟩⟩,⟨⟩⟩ hin hp=>
 Eq.mpr (by kernel_rfl) (h c0 c1 c2 hin hp)
def aqS:Hints:=Go.Fw.hints [6,19,27] [(9,⟨[],⟨[(0, .dP 48 0),(12, .one (.int .i64)),(30, .one (.bool))],[]⟩,⟨[(3, .one (.ref 385))],[(48, .var [.sl 5 (.cons (.int .u8) .nil) false, .int .i64, .int .i64]),(385, .arr 124 (.cons .str (.cons (.sl 167 (.cons (.int .i64) (.cons (.int .i64) (.cons (.int .i64) (.cons .str (.cons (.int .i64) (.cons (.int .i64) (.cons .str .nil)))))))) .nil)) false)]⟩⟩)] [] [48] []
def apc (c0:dB) (c1:Int) (c2:Int) (K:QL→Prop):Prop:=
 (0:Int)≤c1∧
 ∀ (r0:QL),
 (0:Int)≤r0.2.1.2.1∧(0:Nat)<r0.1.1.length∧r0.1.1.length≤(4:Nat)∧Sp.bY r0.1.1→
 (0:Int)≤r0.2.1.2.1∧
 ∀ (r1:gB),
 (0:Int)≤r1.2.1.2.1∧
 (0:Int)≤r1.1.1∧
 ((0:Int)<(↑(List.length r0.1.1):Int)→r1.1.1<(↑(List.length r0.1.1):Int))∧
 ((↑(List.length r0.1.1):Int)≤(0:Int)→r1.1.1=(0:Int))→
 (0:Int)≤r1.2.1.2.1∧
 ∀ (r2:gB),
 (0:Int)≤r2.2.1.2.1∧(0:Int)≤r2.1.1∧((0:Int)<(10:Int)→r2.1.1<(10:Int))∧((10:Int)≤(0:Int)→r2.1.1=(0:Int))→
 bif r2.1.1==(0:Int) then
 ((0:Int)≤r2.2.1.2.1∧
 [([],()),([(65:UInt8)],()),([(122:UInt8),122],()),
 ([(97:UInt8),98,99,100,101,102,103],())]≠
 [])∧
 ∀ (r3:wH),
 (0:Int)≤r3.2.1.2.1∧
 (r3.1.1,())∈
 [([],()),([(65:UInt8)],()),([(122:UInt8),122],()),
 ([(97:UInt8),98,99,100,101,102,103],())]→
 ((0:Int)≤r1.1.1∧r1.1.1<(↑(List.length r0.1.1):Int))∧
 Int.toNat r1.1.1<List.length r0.1.1∧
 K
 ((List.set r0.1.1 (Int.toNat r1.1.1) (r3.1.1,(List.getD r0.1.1 (Int.toNat r1.1.1) ([],[],())).2.1,()),()),
 (r3.2.1.1,r3.2.1.2.1,r3.2.1.2.2.1,()),())
 else
 bif r2.1.1==(1:Int) then
 (0:Int)≤r2.2.1.2.1∧
 ∀ (r4:Di),
 (0:Int)≤r4.2.1.2.1∧r4.1.1.length≤(10:Nat)→
 ((0:Int)≤r1.1.1∧r1.1.1<(↑(List.length r0.1.1):Int))∧
 Int.toNat r1.1.1<List.length r0.1.1∧
 K
 ((List.set r0.1.1 (Int.toNat r1.1.1) ((List.getD r0.1.1 (Int.toNat r1.1.1) ([],[],())).1,r4.1.1,()),()),
 (r4.2.1.1,r4.2.1.2.1,r4.2.1.2.2.1,()),())
 else
 bif r2.1.1==(2:Int) then
 let s5:=(((),r2.1.1,r2.1.1==(2:Int),()),());
  ∃ (I:
  (Unit×Unit)×BD×Gi→
  Prop),
  ∃ (μ:
  (Unit×Unit)×BD×Gi→
  Nat),
  I (((),()),(r2.2.1.1,r2.2.1.2.1,r2.2.1.2.2.1,()),r0.1.1,())∧
  ∀
  (y6:
  (Unit×Unit)×BD×Gi),
  I y6→
  (0:Int)≤y6.2.1.2.1∧
  ∀ (r7:gB),
  (0:Int)≤r7.2.1.2.1∧
  (0:Int)≤r7.1.1∧((0:Int)<(2:Int)→r7.1.1<(2:Int))∧((2:Int)≤(0:Int)→r7.1.1=(0:Int))→
  bif decide ((↑(List.length y6.2.2.1):Int)<i64.wrap ((5:Int)+r7.1.1)) then
  ((0:Int)≤(↑(List.length y6.2.2.1):Int)∧
  (↑(List.length y6.2.2.1):Int)<
  (↑[([(100:UInt8),97],()),([(100:UInt8),98],()),([(100:UInt8),99],()),
  ([(100:UInt8),100],()),([(100:UInt8),101],()),([(100:UInt8),102],())].length:
  Int))∧
  (0:Int)≤r7.2.1.2.1∧
  ∀ (r8:Di),
  (0:Int)≤r8.2.1.2.1∧(0:Nat)<r8.1.1.length∧r8.1.1.length≤(9:Nat)→
  List.length y6.2.2.1+
  [(([([(100:UInt8),97],()),([(100:UInt8),98],()),([(100:UInt8),99],()),
  ([(100:UInt8),100],()),([(100:UInt8),101],()),
  ([(100:UInt8),102],())].getD
  (↑(List.length y6.2.2.1):Int).toNat ([],())).1,
  r8.1.1,())].length≤
  big∧
  s5=s5∧
  I
  (((),()),(r8.2.1.1,r8.2.1.2.1,r8.2.1.2.2.1,()),
  y6.2.2.1++
  [(([([(100:UInt8),97],()),([(100:UInt8),98],()),([(100:UInt8),99],()),
  ([(100:UInt8),100],()),([(100:UInt8),101],()),
  ([(100:UInt8),102],())].getD
  (↑(List.length y6.2.2.1):Int).toNat ([],())).1,
  r8.1.1,())],
  ())∧
  μ
  (((),()),(r8.2.1.1,r8.2.1.2.1,r8.2.1.2.2.1,()),
  y6.2.2.1++
  [(([([(100:UInt8),97],()),([(100:UInt8),98],()),([(100:UInt8),99],()),
  ([(100:UInt8),100],()),([(100:UInt8),101],()),
  ([(100:UInt8),102],())].getD
  (↑(List.length y6.2.2.1):Int).toNat ([],())).1,
  r8.1.1,())],
  ())<
  μ y6
  else K ((y6.2.2.1,()),(r7.2.1.1,r7.2.1.2.1,r7.2.1.2.2.1,()),())
  else
  bif r2.1.1==(3:Int) then K (([],()),(r2.2.1.1,r2.2.1.2.1,r2.2.1.2.2.1,()),())
  else K ((r0.1.1,()),(r2.2.1.1,r2.2.1.2.1,r2.2.1.2.2.1,()),())
theorem aoM (env:EnvB prog G Θ aqk) (hne:∀ x,(Sl x).1→∃ t,(Sl x).2 t) (h:∀ (c0:dB) (c1:Int) (c2:Int),dh BN ((c0,c1,c2,()),())→((0:Int)≤c1)→apc c0 c1 c2 fun (r:QL)=>((0:Int)≤c1,
 fun (x:QL)=>
 (0:Int)≤x.2.1.2.1∧x.1.1.length≤(10:Nat)∧Sp.bY x.1.1).2
 r):aC prog G Ih Jj:=
 bI env mixed (fn:=f86) (c:=codeOf f86) (by kernel_rfl) (by kernel_rfl) aqS (by kernel_rfl) hne fun ⟨⟨c0,c1,c2,⟨⟩⟩,⟨⟩⟩ hin hp=>
 Eq.mpr (by kernel_rfl) (h c0 c1 c2 hin hp)
def apd:Hints:=Go.Fw.hints [] [(2,⟨[],⟨[],[(48, .var [.sl 5 (.cons (.int .u8) .nil) false, .int .i64, .int .i64])]⟩,⟨[(3, .one (.sl 124 (.cons .str (.cons (.sl 167 (.cons (.int .i64) (.cons (.int .i64) (.cons (.int .i64) (.cons .str (.cons (.int .i64) (.cons (.int .i64) (.cons .str .nil)))))))) .nil)) false))],[]⟩⟩)] [] [] []
def anl (c0:dB) (c1:Int) (c2:Int) (K:QL→Prop):Prop:=
 (0:Int)≤c1∧
 ∀ (r0:QL),
 (0:Int)≤r0.2.1.2.1∧(0:Nat)<r0.1.1.length∧r0.1.1.length≤(4:Nat)∧Sp.bY r0.1.1→
 let s1:=((),(r0.2.1.1,r0.2.1.2.1,r0.2.1.2.2.1,()),());
  ∃ (I:Gi×Unit→Prop),
  ∃ (μ:Gi×Unit→Nat),
  I ((r0.1.1,()),())∧
  ∀ (y2:Gi×Unit),
  I y2→
  bif decide ((↑(List.length y2.1.1):Int)>(0:Int)) then
  Sp.bY y2.1.1∧
 let r3:=Sp.ja y2.1.1;
  bif !r3 then
  ((0:Int)≤i64.wrap ((↑(List.length y2.1.1):Int)-(1:Int))∧
  i64.wrap ((↑(List.length y2.1.1):Int)-(1:Int))≤(↑(List.length y2.1.1):Int))∧
  s1=s1∧
  I ((List.drop (0:Nat) (List.take (i64.wrap ((↑(List.length y2.1.1):Int)-(1:Int))).toNat y2.1.1),()),())∧
  μ ((List.drop (0:Nat) (List.take (i64.wrap ((↑(List.length y2.1.1):Int)-(1:Int))).toNat y2.1.1),()),())<μ y2
  else
  bif (↑(List.length y2.1.1):Int)==(0:Int) then
  K
  (([([(100:UInt8),97],[((1:Int),(0:Int),(0:Int),[],(0:Int),(0:Int),[],())],())],()),
  (r0.2.1.1,r0.2.1.2.1,r0.2.1.2.2.1,()),())
  else K ((y2.1.1,()),(r0.2.1.1,r0.2.1.2.1,r0.2.1.2.2.1,()),())
  else
  bif (↑(List.length y2.1.1):Int)==(0:Int) then
  K
  (([([(100:UInt8),97],[((1:Int),(0:Int),(0:Int),[],(0:Int),(0:Int),[],())],())],()),
  (r0.2.1.1,r0.2.1.2.1,r0.2.1.2.2.1,()),())
  else K ((y2.1.1,()),(r0.2.1.1,r0.2.1.2.1,r0.2.1.2.2.1,()),())
theorem amE (env:EnvB prog G Θ anW) (hne:∀ x,(Qv x).1→∃ t,(Qv x).2 t) (h:∀ (c0:dB) (c1:Int) (c2:Int),dh zC ((c0,c1,c2,()),())→((0:Int)≤c1)→anl c0 c1 c2 fun (r:QL)=>((0:Int)≤c1,
 fun (x:QL)=>
 (0:Int)≤x.2.1.2.1∧x.1.1.length≤(10:Nat)∧Sp.bY x.1.1).2
 r):aC prog G FH GK:=
 bI env mixed (fn:=f104) (c:=codeOf f104) (by kernel_rfl) (by kernel_rfl) apd (by kernel_rfl) hne fun ⟨⟨c0,c1,c2,⟨⟩⟩,⟨⟩⟩ hin hp=>
 Eq.mpr (by kernel_rfl) (h c0 c1 c2 hin hp)
def anm:Hints:=Go.Fw.hints [] [] [] [] []
def akR (c0:dB) (c1:Int) (c2:Int) (K:Tf×jm→Prop):Prop:=
 (0:Int)≤c1∧
 ∀
 (r0:
 QJ×jm),
 (0:Int)≤r0.2.1.2.1∧
 r0.1.1.1=Sp.usual∧
 Sp.dF (r0.1.1.1,r0.1.1.2.1,r0.1.1.2.2.1,())=true∧
 r0.1.1.2.2.1≤(↑r0.1.1.2.1.length:Int)+(2:Int)∧Sp.jC (r0.1.1.1,r0.1.1.2.1,r0.1.1.2.2.1,())→
 (0:Int)≤r0.2.1.2.1∧
 ∀ (r1:QL),
 (0:Int)≤r1.2.1.2.1∧r1.1.1.length≤(10:Nat)∧Sp.bY r1.1.1→
 K (((r0.1.1.1,r0.1.1.2.1,r0.1.1.2.2.1,r1.1.1,()),()),(r1.2.1.1,r1.2.1.2.1,r1.2.1.2.2.1,()),())
theorem akr (env:EnvB prog G Θ alo) (hne:∀ x,(Oo x).1→∃ t,(Oo x).2 t) (h:∀ (c0:dB) (c1:Int) (c2:Int),dh oQ ((c0,c1,c2,()),())→((0:Int)≤c1)→akR c0 c1 c2 fun (r:Tf×jm)=>((0:Int)≤c1,
 fun
 (x:
 Tf×jm)=>
 (0:Int)≤x.2.1.2.1∧Sp.fV (x.1.1.1,x.1.1.2.1,x.1.1.2.2.1,x.1.1.2.2.2.1,())).2
 r):aC prog G vI vZ:=
 bI env mixed (fn:=f84) (c:=codeOf f84) (by kernel_rfl) (by kernel_rfl) anm (by kernel_rfl) hne fun ⟨⟨c0,c1,c2,⟨⟩⟩,⟨⟩⟩ hin hp=>
 Eq.mpr (by kernel_rfl) (h c0 c1 c2 hin hp)
def aqT:Hints:=Go.Fw.hints [] [] [] [] []
def ape (c0:dB) (c1:Int) (c2:Int) (K:Tf×jm→Prop):Prop:=
 (0:Int)≤c1∧
 ∀
 (r0:
 Tf×jm),
 (0:Int)≤r0.2.1.2.1∧Sp.fV (r0.1.1.1,r0.1.1.2.1,r0.1.1.2.2.1,r0.1.1.2.2.2.1,())→
 (0:Int)≤r0.2.1.2.1∧
 ∀ (r1:gB),
 (0:Int)≤r1.2.1.2.1∧(0:Int)≤r1.1.1∧((0:Int)<(8:Int)→r1.1.1<(8:Int))∧((8:Int)≤(0:Int)→r1.1.1=(0:Int))→
 bif r1.1.1==(0:Int) then
 (0:Int)≤r1.2.1.2.1∧
 ∀
 (r2:
 QJ×jm),
 (0:Int)≤r2.2.1.2.1∧Sp.jC (r2.1.1.1,r2.1.1.2.1,r2.1.1.2.2.1,())→
 K
 (((r2.1.1.1,r2.1.1.2.1,r2.1.1.2.2.1,r0.1.1.2.2.2.1,()),()),
 (r2.2.1.1,r2.2.1.2.1,r2.2.1.2.2.1,()),())
 else
 bif r1.1.1==(1:Int) then
 (0:Int)≤r1.2.1.2.1∧
 ∀ (r3:QL),
 (0:Int)≤r3.2.1.2.1∧r3.1.1.length≤(10:Nat)∧Sp.bY r3.1.1→
 K (((r0.1.1.1,r0.1.1.2.1,r0.1.1.2.2.1,r3.1.1,()),()),(r3.2.1.1,r3.2.1.2.1,r3.2.1.2.2.1,()),())
 else
 K
 (((r0.1.1.1,r0.1.1.2.1,r0.1.1.2.2.1,r0.1.1.2.2.2.1,()),()),
 (r1.2.1.1,r1.2.1.2.1,r1.2.1.2.2.1,()),())
theorem aoG (env:EnvB prog G Θ aql) (hne:∀ x,(Sm x).1→∃ t,(Sm x).2 t) (h:∀ (c0:dB) (c1:Int) (c2:Int),dh um ((c0,c1,c2,()),())→((0:Int)≤c1)→ape c0 c1 c2 fun (r:Tf×jm)=>((0:Int)≤c1,
 fun
 (x:
 Tf×jm)=>
 (0:Int)≤x.2.1.2.1∧Sp.fV (x.1.1.1,x.1.1.2.1,x.1.1.2.2.1,x.1.1.2.2.2.1,())).2
 r):aC prog G Ad zD:=
 bI env mixed (fn:=f43) (c:=codeOf f43) (by kernel_rfl) (by kernel_rfl) aqT (by kernel_rfl) hne fun ⟨⟨c0,c1,c2,⟨⟩⟩,⟨⟩⟩ hin hp=>
 Eq.mpr (by kernel_rfl) (h c0 c1 c2 hin hp)
def apf:Hints:=Go.Fw.hints [6,8,16,23,27,31] [(4,⟨[(.slot 3 0,225,78,(.cons (.int .i64) (.cons (.sl 155 (.cons .str (.cons (.int .i64) .nil))) (.cons (.sl 56 (.cons (.int .i64) (.cons (.int .i64) (.cons .bool (.cons (.int .i64) (.cons (.sl 94 (.cons .str (.cons (.int .i64) (.cons (.int .i64) (.cons .str .nil))))) .nil)))))) (.cons (.int .i64) (.cons (.sl 124 (.cons .str (.cons (.sl 167 (.cons (.int .i64) (.cons (.int .i64) (.cons (.int .i64) (.cons .str (.cons (.int .i64) (.cons (.int .i64) (.cons .str .nil)))))))) .nil))) (.cons (.int .i64) .nil)))))),true)],⟨[(0, .dP 48 0)],[]⟩,⟨[(3, .one (.ref 225)),(4, .one (.int .i64)),(5, .one (.int .i64))],[(48, .var [.sl 5 (.cons (.int .u8) .nil) false, .int .i64, .int .i64]),(225, .arr 78 (.cons (.int .i64) (.cons (.sl 155 (.cons .str (.cons (.int .i64) .nil))) (.cons (.sl 56 (.cons (.int .i64) (.cons (.int .i64) (.cons .bool (.cons (.int .i64) (.cons (.sl 94 (.cons .str (.cons (.int .i64) (.cons (.int .i64) (.cons .str .nil))))) .nil)))))) (.cons (.int .i64) (.cons (.sl 124 (.cons .str (.cons (.sl 167 (.cons (.int .i64) (.cons (.int .i64) (.cons (.int .i64) (.cons .str (.cons (.int .i64) (.cons (.int .i64) (.cons .str .nil)))))))) .nil))) (.cons (.int .i64) .nil)))))) true)]⟩⟩)] [] [] []
def ann (c0:dB) (c1:Int) (c2:Int) (K:tX×jm→Prop):Prop:=
 (0:Int)≤c1∧
 ∀ (r0:gB),
 (0:Int)≤r0.2.1.2.1∧(0:Int)≤r0.1.1∧((0:Int)<(5:Int)→r0.1.1<(5:Int))∧((5:Int)≤(0:Int)→r0.1.1=(0:Int))→
 let s1:=(((),()),());
  ∃ (I:
  (Unit×Int×jT)×BD×tX→
  Prop),
  ∃ (μ:
  (Unit×Int×jT)×BD×tX→
  Nat),
  I (((),(0:Int),r0.1.1,()),(r0.2.1.1,r0.2.1.2.1,r0.2.1.2.2.1,()),[],())∧
  ∀
  (y2:
  (Unit×Int×jT)×BD×tX),
  I y2→
  bif decide (y2.1.2.2.1>(0:Int)) then
  (0:Int)≤y2.2.1.2.1∧
  ∀ (r3:gB),
  (0:Int)≤r3.2.1.2.1∧(0:Int)≤r3.1.1∧((0:Int)<(3:Int)→r3.1.1<(3:Int))∧((3:Int)≤(0:Int)→r3.1.1=(0:Int))→
  (0:Int)≤r3.2.1.2.1∧
  ∀
  (r4:
  Tf×jm),
  (0:Int)≤r4.2.1.2.1∧Sp.fV (r4.1.1.1,r4.1.1.2.1,r4.1.1.2.2.1,r4.1.1.2.2.2.1,())→
  (Sp.aH y2.2.2.1∧
  List.length y2.2.2.1≤(100:Nat)∧
  Sp.fV (r4.1.1.1,r4.1.1.2.1,r4.1.1.2.2.1,r4.1.1.2.2.2.1,()))∧
  ∀
  (r5:
  tY),
  r5.1.1=
  (Sp.iD y2.2.2.1 (i64.wrap (i64.wrap (y2.1.2.1+(1:Int))+r3.1.1))
  (r4.1.1.1,r4.1.1.2.1,r4.1.1.2.2.1,r4.1.1.2.2.2.1,())).1∧
  r5.1.2.1=
  (Sp.iD y2.2.2.1 (i64.wrap (i64.wrap (y2.1.2.1+(1:Int))+r3.1.1))
  (r4.1.1.1,r4.1.1.2.1,r4.1.1.2.2.1,r4.1.1.2.2.2.1,())).2→
  (0:Int)≤r4.2.1.2.1∧
  ∀ (r6:fG×jm),
  (r6.2.1.2.1-(0:Int)).NonNeg→
  bif r6.1.1 then
  (Sp.aH r5.1.1∧List.length r5.1.1≤(100:Nat))∧
  ∀
  (r7:
  tY),
  r7.1.1=(Sp.dJ r5.1.1 (i64.wrap (i64.wrap (y2.1.2.1+(1:Int))+r3.1.1)) (1:Int)).1∧
  r7.1.2.1=
  (Sp.dJ r5.1.1 (i64.wrap (i64.wrap (y2.1.2.1+(1:Int))+r3.1.1)) (1:Int)).2→
  s1=s1∧
  I
  (((),i64.wrap (i64.wrap (y2.1.2.1+(1:Int))+r3.1.1),
  i64.wrap (y2.1.2.2.1-(1:Int)),()),
  (r6.2.1.1,r6.2.1.2.1,r6.2.1.2.2.1,()),r7.1.1,())∧
  μ
  (((),i64.wrap (i64.wrap (y2.1.2.1+(1:Int))+r3.1.1),
  i64.wrap (y2.1.2.2.1-(1:Int)),()),
  (r6.2.1.1,r6.2.1.2.1,r6.2.1.2.2.1,()),r7.1.1,())<
  μ y2
  else
  s1=s1∧
  I
  (((),i64.wrap (i64.wrap (y2.1.2.1+(1:Int))+r3.1.1),
  i64.wrap (y2.1.2.2.1-(1:Int)),()),
  (r6.2.1.1,r6.2.1.2.1,r6.2.1.2.2.1,()),r5.1.1,())∧
  μ
  (((),i64.wrap (i64.wrap (y2.1.2.1+(1:Int))+r3.1.1),
  i64.wrap (y2.1.2.2.1-(1:Int)),()),
  (r6.2.1.1,r6.2.1.2.1,r6.2.1.2.2.1,()),r5.1.1,())<
  μ y2
  else K ((y2.2.2.1,()),(y2.2.1.1,y2.2.1.2.1,y2.2.1.2.2.1,()),())
theorem amH (env:EnvB prog G Θ anX) (hne:∀ x,(Qw x).1→∃ t,(Qw x).2 t) (h:∀ (c0:dB) (c1:Int) (c2:Int),dh zF ((c0,c1,c2,()),())→((0:Int)≤c1)→ann c0 c1 c2 fun (r:tX×jm)=>((0:Int)≤c1,
 fun
 (x:
 tX×jm)=>
 (0:Int)≤x.2.1.2.1∧x.1.1.length≤(10:Nat)∧Sp.aH x.1.1).2
 r):aC prog G FI GL:=
 bI env mixed (fn:=f83) (c:=codeOf f83) (by kernel_rfl) (by kernel_rfl) apf (by kernel_rfl) hne fun ⟨⟨c0,c1,c2,⟨⟩⟩,⟨⟩⟩ hin hp=>
 Eq.mpr (by kernel_rfl) (h c0 c1 c2 hin hp)
def aqU:Hints:=Go.Fw.hints [5,17,27,34] [] [] [] []
def apg (c0:dB) (c1:Int) (c2:Int) (K:tX×jm→Prop):Prop:=
 (0:Int)≤c1∧
 ∀
 (r0:
 tX×jm),
 (0:Int)≤r0.2.1.2.1∧r0.1.1.length≤(10:Nat)∧Sp.aH r0.1.1→
 bif (↑(List.length r0.1.1):Int)==(0:Int) then K ((r0.1.1,()),(r0.2.1.1,r0.2.1.2.1,r0.2.1.2.2.1,()),())
 else
 (0:Int)≤r0.2.1.2.1∧
 ∀ (r1:gB),
 (0:Int)≤r1.2.1.2.1∧(0:Int)≤r1.1.1∧((0:Int)<(10:Int)→r1.1.1<(10:Int))∧((10:Int)≤(0:Int)→r1.1.1=(0:Int))→
 bif r1.1.1==(0:Int) then
 ((0:Int)≤r1.2.1.2.1∧[((-1:Int),()),((99:Int),()),((100:Int),())]≠[])∧
 ∀ (r2:gB),
 (0:Int)≤r2.2.1.2.1∧(r2.1.1,())∈[((-1:Int),()),((99:Int),()),((100:Int),())]→
 ((0:Int)≤(0:Int)∧(0:Int)<(↑(List.length r0.1.1):Int))∧
 Int.toNat (0:Int)<List.length r0.1.1∧
 K
 ((List.set r0.1.1 (Int.toNat (0:Int))
 ((List.getD r0.1.1 (Int.toNat (0:Int)) ((0:Int),[],[],(0:Int),[],(0:Int),())).1,
 (List.getD r0.1.1 (Int.toNat (0:Int)) ((0:Int),[],[],(0:Int),[],(0:Int),())).2.1,
 (List.getD r0.1.1 (Int.toNat (0:Int)) ((0:Int),[],[],(0:Int),[],(0:Int),())).2.2.1,
 (List.getD r0.1.1 (Int.toNat (0:Int)) ((0:Int),[],[],(0:Int),[],(0:Int),())).2.2.2.1,
 (List.getD r0.1.1 (Int.toNat (0:Int)) ((0:Int),[],[],(0:Int),[],(0:Int),())).2.2.2.2.1,r2.1.1,()),
 ()),
 (r2.2.1.1,r2.2.1.2.1,r2.2.1.2.2.1,()),())
 else
 bif r1.1.1==(1:Int) then
 (0:Int)≤r1.2.1.2.1∧
 ∀ (r3:gB),
 (0:Int)≤r3.2.1.2.1∧(0:Int)≤r3.1.1∧((0:Int)<(4:Int)→r3.1.1<(4:Int))∧((4:Int)≤(0:Int)→r3.1.1=(0:Int))→
 ((0:Int)≤i64.wrap ((↑(List.length r0.1.1):Int)-(1:Int))∧
 i64.wrap ((↑(List.length r0.1.1):Int)-(1:Int))<(↑(List.length r0.1.1):Int))∧
 (i64.wrap ((↑(List.length r0.1.1):Int)-(1:Int))).toNat<List.length r0.1.1∧
 K
 ((List.set r0.1.1 (i64.wrap ((↑(List.length r0.1.1):Int)-(1:Int))).toNat
 (r3.1.1,
 (List.getD r0.1.1 (i64.wrap ((↑(List.length r0.1.1):Int)-(1:Int))).toNat
 ((0:Int),[],[],(0:Int),[],(0:Int),())).2.1,
 (List.getD r0.1.1 (i64.wrap ((↑(List.length r0.1.1):Int)-(1:Int))).toNat
 ((0:Int),[],[],(0:Int),[],(0:Int),())).2.2.1,
 (List.getD r0.1.1 (i64.wrap ((↑(List.length r0.1.1):Int)-(1:Int))).toNat
 ((0:Int),[],[],(0:Int),[],(0:Int),())).2.2.2.1,
 (List.getD r0.1.1 (i64.wrap ((↑(List.length r0.1.1):Int)-(1:Int))).toNat
 ((0:Int),[],[],(0:Int),[],(0:Int),())).2.2.2.2.1,
 (List.getD r0.1.1 (i64.wrap ((↑(List.length r0.1.1):Int)-(1:Int))).toNat
 ((0:Int),[],[],(0:Int),[],(0:Int),())).2.2.2.2.2.1,
 ()),
 ()),
 (r3.2.1.1,r3.2.1.2.1,r3.2.1.2.2.1,()),())
 else
 bif r1.1.1==(2:Int) then
 (0:Int)≤r1.2.1.2.1∧
 ∀
 (r4:
 Tf×jm),
 (0:Int)≤r4.2.1.2.1∧Sp.fV (r4.1.1.1,r4.1.1.2.1,r4.1.1.2.2.1,r4.1.1.2.2.2.1,())→
 ((0:Int)≤(0:Int)∧(0:Int)<(↑(List.length r0.1.1):Int))∧
 Int.toNat (0:Int)<List.length r0.1.1∧
 K
 ((List.set r0.1.1 (Int.toNat (0:Int))
 ((List.getD r0.1.1 (Int.toNat (0:Int)) ((0:Int),[],[],(0:Int),[],(0:Int),())).1,r4.1.1.1,r4.1.1.2.1,
 r4.1.1.2.2.1,r4.1.1.2.2.2.1,
 (List.getD r0.1.1 (Int.toNat (0:Int)) ((0:Int),[],[],(0:Int),[],(0:Int),())).2.2.2.2.2.1,()),
 ()),
 (r4.2.1.1,r4.2.1.2.1,r4.2.1.2.2.1,()),())
 else K ((r0.1.1,()),(r1.2.1.1,r1.2.1.2.1,r1.2.1.2.2.1,()),())
theorem aoI (env:EnvB prog G Θ aqm) (hne:∀ x,(Sr x).1→∃ t,(Sr x).2 t) (h:∀ (c0:dB) (c1:Int) (c2:Int),dh kL ((c0,c1,c2,()),())→((0:Int)≤c1)→apg c0 c1 c2 fun (r:tX×jm)=>((0:Int)≤c1,
 fun
 (x:
 tX×jm)=>
 (0:Int)≤x.2.1.2.1∧x.1.1.length≤(10:Nat)∧Sp.aH x.1.1).2
 r):aC prog G mG lS:=
 bI env mixed (fn:=f41) (c:=codeOf f41) (by kernel_rfl) (by kernel_rfl) aqU (by kernel_rfl) hne fun ⟨⟨c0,c1,c2,⟨⟩⟩,⟨⟩⟩ hin hp=>
 Eq.mpr (by kernel_rfl) (h c0 c1 c2 hin hp)
def aiC:Hints:=Go.Fw.hints [] [] [] [] []
def ag3 (c0:dB) (c1:Int) (c2:Int) (K:gB→Prop):Prop:=
 ((0:Int)≤c1∧[((1:Int),()),((2:Int),()),((3:Int),()),((4:Int),()),((5:Int),()),((1:Int),()),((2:Int),()),((0:Int),()),((-1:Int),())]≠[])∧
 ∀ (r0:gB),
 (0:Int)≤r0.2.1.2.1∧
 (r0.1.1,())∈
 [((1:Int),()),((2:Int),()),((3:Int),()),((4:Int),()),((5:Int),()),((1:Int),()),((2:Int),()),((0:Int),()),((-1:Int),())]→
 K ((r0.1.1,()),(r0.2.1.1,r0.2.1.2.1,r0.2.1.2.2.1,()),())
theorem agD (env:EnvB prog G Θ ahL) (hne:∀ x,(KN x).1→∃ t,(KN x).2 t) (h:∀ (c0:dB) (c1:Int) (c2:Int),dh uo ((c0,c1,c2,()),())→((0:Int)≤c1)→ag3 c0 c1 c2 fun (r:gB)=>((0:Int)≤c1,fun (x:gB)=>(0:Int)≤x.2.1.2.1∧True).2 r):aC prog G Ap Dn:=
 bI env mixed (fn:=f48) (c:=codeOf f48) (by kernel_rfl) (by kernel_rfl) aiC (by kernel_rfl) hne fun ⟨⟨c0,c1,c2,⟨⟩⟩,⟨⟩⟩ hin hp=>
 Eq.mpr (by kernel_rfl) (h c0 c1 c2 hin hp)
def WV:Hints:=Go.Fw.hints [] [] [] [] []
def U5 (code:dB) (K:auF→Prop):Prop:=
 code.length≤(1048576:Nat)∧
 ∀ (r0:BD),
 r0.2.1=(0:Int)→
 (0:Int)≤r0.2.1∧
 ∀
 (r1:
 tX×jm),
 (0:Int)≤r1.2.1.2.1∧r1.1.1.length≤(10:Nat)∧Sp.aH r1.1.1→
 ((0:Int)≤r1.2.1.2.1∧
 [((1:Int),()),((5:Int),()),((9:Int),()),((20:Int),()),((0:Int),()),((1000000000:Int),()),((1000000001:Int),())]≠[])∧
 ∀ (r2:gB),
 (0:Int)≤r2.2.1.2.1∧
 (r2.1.1,())∈[((1:Int),()),((5:Int),()),((9:Int),()),((20:Int),()),((0:Int),()),((1000000000:Int),()),((1000000001:Int),())]→
 (0:Int)≤r2.2.1.2.1∧
 ∀
 (r3:
 Tf×jm),
 (0:Int)≤r3.2.1.2.1∧Sp.fV (r3.1.1.1,r3.1.1.2.1,r3.1.1.2.2.1,r3.1.1.2.2.2.1,())→
 K ((r1.1.1,r2.1.1,(r3.1.1.1,r3.1.1.2.1,r3.1.1.2.2.1,r3.1.1.2.2.2.1,()),()),())
theorem UL (env:EnvB prog G Θ VK) (hne:∀ x,(Cb x).1→∃ t,(Cb x).2 t) (h:∀ (code:dB),dh kU (code,())→(code.length≤(1048576:Nat))→U5 code fun (r:auF)=>(code.length≤(1048576:Nat),
 fun
 (x:
 auF)=>
 x.1.1.length≤(10:Nat)∧Sp.aH x.1.1∧Sp.fV (x.1.2.2.1.1,x.1.2.2.1.2.1,x.1.2.2.1.2.2.1,x.1.2.2.1.2.2.2.1,())).2
 r):aC prog G pz sK:=
 bI env mixed (fn:=f8) (c:=codeOf f8) (by kernel_rfl) (by kernel_rfl) WV (by kernel_rfl) hne fun ⟨code,⟨⟩⟩ hin hp=>
 Eq.mpr (by kernel_rfl) (h code hin hp)
def Zn:Hints:=Go.Fw.hints [] [] [] [] []
def XD (code:dB) (K:QK→Prop):Prop:=
 code.length≤(1048576:Nat)∧
 ∀ (r0:BD),
 r0.2.1=(0:Int)→
 (0:Int)≤r0.2.1∧
 ∀
 (r1:
 tX×jm),
 (0:Int)≤r1.2.1.2.1∧r1.1.1.length≤(10:Nat)∧Sp.aH r1.1.1→
 (0:Int)≤r1.2.1.2.1∧
 ∀ (r2:gB),(0:Int)≤r2.2.1.2.1∧True→K ((r1.1.1,r2.1.1,()),())
theorem Xq (env:EnvB prog G Θ YO) (hne:∀ x,(EC x).1→∃ t,(EC x).2 t) (h:∀ (code:dB),dh jB (code,())→(code.length≤(1048576:Nat))→XD code fun (r:QK)=>(code.length≤(1048576:Nat),
 fun
 (x:
 QK)=>
 x.1.1.length≤(10:Nat)∧Sp.aH x.1.1).2
 r):aC prog G kT lD:=
 bI env mixed (fn:=f11) (c:=codeOf f11) (by kernel_rfl) (by kernel_rfl) Zn (by kernel_rfl) hne fun ⟨code,⟨⟩⟩ hin hp=>
 Eq.mpr (by kernel_rfl) (h code hin hp)
def ag4:Hints:=Go.Fw.hints [] [] [(2,⟨[],⟨[(1, .one (.int .i64)),(2, .iM [.int .i64, .int .i64, .int .i64, .str, .int .i64, .int .i64, .str] 0)],[]⟩,⟨[(5, .one (.bool))],[]⟩⟩),(3,⟨[],⟨[(2, .iM [.int .i64, .int .i64, .int .i64, .str, .int .i64, .int .i64, .str] 0),(5, .one (.bool))],[]⟩,⟨[(6, .one (.bool))],[]⟩⟩)] [] []
def Qh (n0:Int) (n1:Int) (n2:Int) (n3:fK) (n4:Int) (n5:Int) (n6:fK) (at':Int) (K:fG→Prop):Prop:=
 let s0:=((at',(n0,n1,n2,n3,n4,n5,n6,()),()),());
  ∃ (J:fG×Unit→Prop),
  (True∧
 let r1:=decide ((0:Int)≤n1)&&decide (n1≤i64.wrap (at'-(1:Int)));
  bif r1 then s0=s0∧J ((decide (at'>(0:Int)),()),()) else s0=s0∧J ((false,()),()))∧
  ∀ (y2:fG×Unit),
  J y2→
 let s3:=(((n0,n1,n2,n3,n4,n5,n6,()),y2.1.1,()),());
  ∃ (J:fG×Unit→Prop),
  (bif y2.1.1 then
  True∧
 let r4:=decide ((0:Int)≤n2)&&decide (n2≤i64.wrap (at'-(1:Int)));
  s3=s3∧J ((r4,()),())
  else s3=s3∧J ((false,()),()))∧
  ∀ (y5:fG×Unit),
  J y5→
  bif n0==(1:Int) then
  K (n0==(1:Int)&&(n1==(0:Int)&&(n2==(0:Int)&&(n3==[]&&(n4==(0:Int)&&(n5==(0:Int)&&(n6==[]&&true)))))),())
  else
  bif n0==(2:Int) then
  True∧
  bif Sp.kH n3 then K (n0==n0&&(n1==(0:Int)&&(n2==(0:Int)&&(n3==n3&&(n4==(0:Int)&&(n5==(0:Int)&&(n6==[]&&true)))))),())
  else K (false,())
  else
  bif n0==(3:Int) then
  True∧
  bif Sp.kH n3 then
  True∧
  bif Sp.kK n4 n5 n6 then bif n4 !=(0:Int) then bif n1==(0:Int) then K (n2==(0:Int),()) else K (false,()) else K (false,())
  else K (false,())
  else K (false,())
  else
  bif n0==(4:Int) then
  True∧
  bif Sp.kH n3 then
  True∧
  bif Sp.kK n4 n5 n6 then bif n4==(1:Int) then bif n1==(0:Int) then K (n2==(0:Int),()) else K (false,()) else K (false,())
  else K (false,())
  else K (false,())
  else
  bif n0==(5:Int) then
  bif y2.1.1 then
  bif n2==(0:Int) then bif n3==[] then K (n4==(0:Int)&&(n5==(0:Int)&&(n6==[]&&true)),()) else K (false,()) else K (false,())
  else K (false,())
  else
  bif n0==(6:Int) then
  bif n0==(6:Int) then
  bif y5.1.1 then bif n3==[] then K (n4==(0:Int)&&(n5==(0:Int)&&(n6==[]&&true)),()) else K (false,()) else K (false,())
  else
  bif n0==(8:Int) then
  bif n0==(8:Int) then
  True∧
  bif Sp.iR n3 then
  K (n0==n0&&(n1==(0:Int)&&(n2==(0:Int)&&(n3==n3&&(n4==(0:Int)&&(n5==(0:Int)&&(n6==[]&&true)))))),())
  else K (false,())
  else K (false,())
  else
  bif n0==(9:Int) then
  True∧
  bif Sp.iR n3 then
  K (n0==n0&&(n1==(0:Int)&&(n2==(0:Int)&&(n3==n3&&(n4==(0:Int)&&(n5==(0:Int)&&(n6==[]&&true)))))),())
  else K (false,())
  else K (false,())
  else
  bif n0==(7:Int) then
  bif y5.1.1 then bif n3==[] then K (n4==(0:Int)&&(n5==(0:Int)&&(n6==[]&&true)),()) else K (false,()) else K (false,())
  else
  bif n0==(8:Int) then
  bif n0==(8:Int) then
  True∧
  bif Sp.iR n3 then
  K (n0==n0&&(n1==(0:Int)&&(n2==(0:Int)&&(n3==n3&&(n4==(0:Int)&&(n5==(0:Int)&&(n6==[]&&true)))))),())
  else K (false,())
  else K (false,())
  else
  bif n0==(9:Int) then
  True∧
  bif Sp.iR n3 then
  K (n0==n0&&(n1==(0:Int)&&(n2==(0:Int)&&(n3==n3&&(n4==(0:Int)&&(n5==(0:Int)&&(n6==[]&&true)))))),())
  else K (false,())
  else K (false,())
theorem aer (env:EnvB prog G Θ afn) (h:∀ (n0:Int) (n1:Int) (n2:Int) (n3:fK) (n4:Int) (n5:Int) (n6:fK) (at':Int),bH IK ((n0,n1,n2,n3,n4,n5,n6,()),at',())→(True)→Qh n0 n1 n2 n3 n4 n5 n6 at' fun r=>r=((Sp.rQ (n0,n1,n2,n3,n4,n5,n6,()) at',()))):aG prog G yU AO:=
 aX env mixed (fn:=f245) (c:=codeOf f245) (by kernel_rfl) (by kernel_rfl) ag4 (by kernel_rfl) fun ⟨⟨n0,n1,n2,n3,n4,n5,n6,⟨⟩⟩,at',⟨⟩⟩ hin hp=>
 Eq.mpr (by kernel_rfl) (h n0 n1 n2 n3 n4 n5 n6 at' hin hp)
def ag5:Hints:=Go.Fw.hints [] [] [(10,⟨[],⟨[(1, .one (.int .i64)),(2, .iM [.int .i64, .int .i64, .int .i64, .str, .int .i64, .int .i64, .str] 0),(5, .dP 320 0),(10, .one (.int .i64))],[(320, .var [.int .i64, .int .i64, .int .i64, .str, .int .i64, .int .i64, .str])]⟩,⟨[(26, .one (.bool))],[]⟩⟩),(17,⟨[],⟨[(1, .one (.int .i64)),(2, .iM [.int .i64, .int .i64, .int .i64, .str, .int .i64, .int .i64, .str] 0),(5, .dP 320 0),(10, .one (.int .i64))],[(320, .var [.int .i64, .int .i64, .int .i64, .str, .int .i64, .int .i64, .str])]⟩,⟨[(84, .one (.bool))],[]⟩⟩)] [320] []
def Qg (n0:Int) (n1:Int) (n2:Int) (n3:fK) (n4:Int) (n5:Int) (n6:fK) (at':Int) (K:fG→Prop):Prop:=
 bif n0==(1:Int) then K (n0==n0&&(n1==(0:Int)&&(n2==(0:Int)&&(n3==[]&&(n4==(0:Int)&&(n5==(0:Int)&&(n6==[]&&true)))))),())
 else
 bif n0==(2:Int) then
 bif n0==n0&&(n1==(0:Int)&&(n2==(0:Int)&&(n3==n3&&(n4==(0:Int)&&(n5==(0:Int)&&(n6==[]&&true)))))) then True∧K (Sp.kH n3,())
 else K (false,())
 else
 let s0:(Int×(Int×Int×Int×Ty1)×qL)×Zk:=
  ((at',(n0,n1,n2,n3,n4,n5,n6,()),(),n0,()),(n0,(0:Int),(0:Int),[],(0:Int),(0:Int),[],()),());
  ∃ (J:fG×Unit→Prop),
  (bif n0==(3:Int) then s0=s0∧J ((n0==(3:Int),()),()) else s0=s0∧J ((n0==(4:Int),()),()))∧
  ∀ (y1:fG×Unit),
  J y1→
  bif y1.1.1 then
  bif n0==n0&&(n1==(0:Int)&&(n2==(0:Int)&&(n3==n3&&(n4==n4&&(n5==n5&&(n6==n6&&true)))))) then
  True∧
  bif Sp.kH n3 then
  True∧
  bif Sp.kK n4 n5 n6 then bif n4 !=(0:Int) then bif n0==(3:Int) then K (true,()) else K (n4==(1:Int),()) else K (false,()) else K (false,())
  else K (false,())
  else K (false,())
  else
  bif n0==(5:Int) then
  bif n0==n0&&(n1==n1&&(n2==(0:Int)&&(n3==[]&&(n4==(0:Int)&&(n5==(0:Int)&&(n6==[]&&true)))))) then
  bif decide (at'>(0:Int)) then
  True∧
 let r2:Bool:=decide ((0:Int)≤n1)&&decide (n1≤i64.wrap (at'-(1:Int)));
  K (r2,())
  else K (false,())
  else K (false,())
  else
 let s3:
  (Int×(Int×Int×Int×Ty1)×qL)×Zk:=
  ((at',(n0,n1,n2,n3,n4,n5,n6,()),(),n0,()),(n0,(0:Int),(0:Int),[],(0:Int),(0:Int),[],()),());
  ∃ (J:fG×Unit→Prop),
  (bif n0==(6:Int) then s3=s3∧J ((n0==(6:Int),()),()) else s3=s3∧J ((n0==(7:Int),()),()))∧
  ∀ (y4:fG×Unit),
  J y4→
  bif y4.1.1 then
  bif n0==n0&&(n1==n1&&(n2==n2&&(n3==[]&&(n4==(0:Int)&&(n5==(0:Int)&&(n6==[]&&true)))))) then
  bif decide (at'>(0:Int)) then
  True∧
 let r5:Bool:=decide ((0:Int)≤n1)&&decide (n1≤i64.wrap (at'-(1:Int)));
  bif r5 then
  True∧
 let r6:Bool:=decide ((0:Int)≤n2)&&decide (n2≤i64.wrap (at'-(1:Int)));
  K (r6,())
  else K (false,())
  else K (false,())
  else K (false,())
  else
  bif n0==(8:Int) then
  bif n0==(8:Int) then
  bif n0==n0&&(n1==(0:Int)&&(n2==(0:Int)&&(n3==n3&&(n4==(0:Int)&&(n5==(0:Int)&&(n6==[]&&true)))))) then
  True∧K (Sp.iR n3,())
  else K (false,())
  else K (false,())
  else
  bif n0==(9:Int) then
  bif n0==n0&&(n1==(0:Int)&&(n2==(0:Int)&&(n3==n3&&(n4==(0:Int)&&(n5==(0:Int)&&(n6==[]&&true)))))) then
  True∧K (Sp.iR n3,())
  else K (false,())
  else K (false,())
theorem aeo (env:EnvB prog G Θ afo) (h:∀ (n0:Int) (n1:Int) (n2:Int) (n3:fK) (n4:Int) (n5:Int) (n6:fK) (at':Int),bH IL ((n0,n1,n2,n3,n4,n5,n6,()),at',())→(True)→Qg n0 n1 n2 n3 n4 n5 n6 at' fun r=>r=((Sp.rQ (n0,n1,n2,n3,n4,n5,n6,()) at',()))):aG prog G yV AP:=
 aX env mixed (fn:=f248) (c:=codeOf f248) (by kernel_rfl) (by kernel_rfl) ag5 (by kernel_rfl) fun ⟨⟨n0,n1,n2,n3,n4,n5,n6,⟨⟩⟩,at',⟨⟩⟩ hin hp=>
 Eq.mpr (by kernel_rfl) (h n0 n1 n2 n3 n4 n5 n6 at' hin hp)
def Zo:Hints:=Go.Fw.hints [] [(3,⟨[],⟨[(0, .one (.sl 167 (.cons (.int .i64) (.cons (.int .i64) (.cons (.int .i64) (.cons .str (.cons (.int .i64) (.cons (.int .i64) (.cons .str .nil))))))) false)),(1, .one (.int .i64))],[]⟩,⟨[(5, .one (.int .i64)),(6, .one (.int .i64))],[]⟩⟩)] [(8,⟨[],⟨[(0, .one (.sl 167 (.cons (.int .i64) (.cons (.int .i64) (.cons (.int .i64) (.cons .str (.cons (.int .i64) (.cons (.int .i64) (.cons .str .nil))))))) false)),(1, .one (.int .i64)),(6, .one (.int .i64)),(7, .one (.bool))],[]⟩,⟨[(5, .one (.int .i64))],[]⟩⟩)] [] []
def XF (q:kG) (at':Int) (K:jT→Prop):Prop:=
 let s0:(kG×jT)×Unit:=((q,at',()),());
  ∃ (I:Ti→Prop),
  ∃ (μ:Ti→Nat),
  I (((0:Int),(0:Int),()),())∧
  ∀ (y1:Ti),
  I y1→
  bif decide (y1.1.2.1<(↑q.length:Int)) then
  ((0:Int)≤y1.1.2.1∧y1.1.2.1<(↑q.length:Int))∧
  bif (q.getD (Int.toNat y1.1.2.1) ((0:Int),(0:Int),(0:Int),[],(0:Int),(0:Int),[],())).1==(6:Int) then
 let s2:(kG×Int×Int×fG)×Unit:=((q,at',y1.1.2.1,true,()),());
  ∃ (J:bG→Prop),
  (((0:Int)≤y1.1.2.1∧y1.1.2.1<(↑q.length:Int))∧
  bif (q.getD (Int.toNat y1.1.2.1) ((0:Int),(0:Int),(0:Int),[],(0:Int),(0:Int),[],())).2.1==at' then
  s2=s2∧J ((i64.wrap (y1.1.1+(1:Int)),()),())
  else s2=s2∧J ((y1.1.1,()),()))∧
  ∀ (y3:bG),
  J y3→
  ((0:Int)≤y1.1.2.1∧y1.1.2.1<(↑q.length:Int))∧
  bif (q.getD (Int.toNat y1.1.2.1) ((0:Int),(0:Int),(0:Int),[],(0:Int),(0:Int),[],())).2.2.1==at' then
  s0=s0∧
  I ((i64.wrap (y3.1.1+(1:Int)),i64.wrap (y1.1.2.1+(1:Int)),()),())∧
  μ ((i64.wrap (y3.1.1+(1:Int)),i64.wrap (y1.1.2.1+(1:Int)),()),())<μ y1
  else
  s0=s0∧
  I ((y3.1.1,i64.wrap (y1.1.2.1+(1:Int)),()),())∧
  μ ((y3.1.1,i64.wrap (y1.1.2.1+(1:Int)),()),())<μ y1
  else
  ((0:Int)≤y1.1.2.1∧y1.1.2.1<(↑q.length:Int))∧
 let s4:(kG×Int×Int×fG)×Unit:=
  ((q,at',y1.1.2.1,(q.getD (Int.toNat y1.1.2.1) ((0:Int),(0:Int),(0:Int),[],(0:Int),(0:Int),[],())).1==(7:Int),()),());
  ∃ (J:bG→Prop),
  (bif (q.getD (Int.toNat y1.1.2.1) ((0:Int),(0:Int),(0:Int),[],(0:Int),(0:Int),[],())).1==(7:Int) then
  ((0:Int)≤y1.1.2.1∧y1.1.2.1<(↑q.length:Int))∧
  bif (q.getD (Int.toNat y1.1.2.1) ((0:Int),(0:Int),(0:Int),[],(0:Int),(0:Int),[],())).2.1==at' then
  s4=s4∧J ((i64.wrap (y1.1.1+(1:Int)),()),())
  else s4=s4∧J ((y1.1.1,()),())
  else
  ((0:Int)≤y1.1.2.1∧y1.1.2.1<(↑q.length:Int))∧
  bif (q.getD (Int.toNat y1.1.2.1) ((0:Int),(0:Int),(0:Int),[],(0:Int),(0:Int),[],())).1==(5:Int) then
  ((0:Int)≤y1.1.2.1∧y1.1.2.1<(↑q.length:Int))∧
  bif (q.getD (Int.toNat y1.1.2.1) ((0:Int),(0:Int),(0:Int),[],(0:Int),(0:Int),[],())).2.1==at' then
  s4=s4∧J ((i64.wrap (y1.1.1+(1:Int)),()),())
  else s4=s4∧J ((y1.1.1,()),())
  else s4=s4∧J ((y1.1.1,()),()))∧
  ∀ (y5:bG),
  J y5→
  bif (q.getD (Int.toNat y1.1.2.1) ((0:Int),(0:Int),(0:Int),[],(0:Int),(0:Int),[],())).1==(7:Int) then
  ((0:Int)≤y1.1.2.1∧y1.1.2.1<(↑q.length:Int))∧
  bif (q.getD (Int.toNat y1.1.2.1) ((0:Int),(0:Int),(0:Int),[],(0:Int),(0:Int),[],())).2.2.1==at' then
  s0=s0∧
  I ((i64.wrap (y5.1.1+(1:Int)),i64.wrap (y1.1.2.1+(1:Int)),()),())∧
  μ ((i64.wrap (y5.1.1+(1:Int)),i64.wrap (y1.1.2.1+(1:Int)),()),())<μ y1
  else
  s0=s0∧
  I ((y5.1.1,i64.wrap (y1.1.2.1+(1:Int)),()),())∧
  μ ((y5.1.1,i64.wrap (y1.1.2.1+(1:Int)),()),())<μ y1
  else
  s0=s0∧
  I ((y5.1.1,i64.wrap (y1.1.2.1+(1:Int)),()),())∧
  μ ((y5.1.1,i64.wrap (y1.1.2.1+(1:Int)),()),())<μ y1
  else K (y1.1.1,())
theorem Xy (env:EnvB prog G Θ YP) (h:∀ (q:kG) (at':Int),bH Dx (q,at',())→(q.length≤(1000000:Nat))→XF q at' fun r=>r=(((↑(Sp.oU q at'):Int),()))):aG prog G rV uY:=
 aX env mixed (fn:=f246) (c:=codeOf f246) (by kernel_rfl) (by kernel_rfl) Zo (by kernel_rfl) fun ⟨q,at',⟨⟩⟩ hin hp=>
 Eq.mpr (by kernel_rfl) (h q at' hin hp)
def Zp:Hints:=Go.Fw.hints [] [(3,⟨[],⟨[(1, .one (.int .i64)),(9, .one (.sl 167 (.cons (.int .i64) (.cons (.int .i64) (.cons (.int .i64) (.cons .str (.cons (.int .i64) (.cons (.int .i64) (.cons .str .nil))))))) false)),(10, .one (.int .i64))],[]⟩,⟨[(5, .one (.int .i64)),(11, .one (.int .i64))],[]⟩⟩)] [(8,⟨[],⟨[(1, .one (.int .i64)),(7, .dP 448 0),(8, .one (.bool)),(9, .one (.sl 167 (.cons (.int .i64) (.cons (.int .i64) (.cons (.int .i64) (.cons .str (.cons (.int .i64) (.cons (.int .i64) (.cons .str .nil))))))) false)),(10, .one (.int .i64)),(11, .one (.int .i64))],[(448, .var [.int .i64, .int .i64, .int .i64, .str, .int .i64, .int .i64, .str])]⟩,⟨[(5, .one (.int .i64))],[]⟩⟩)] [] []
def XG (q:kG) (at':Int) (K:jT→Prop):Prop:=
 let s0:(Int×kG×jT)×Unit:=((at',q,(↑q.length:Int),()),());
  ∃ (I:Ti→Prop),
  ∃ (μ:Ti→Nat),
  I (((0:Int),(0:Int),()),())∧
  ∀ (y1:Ti),
  I y1→
  bif decide (y1.1.2.1<(↑q.length:Int)) then
  ((0:Int)≤y1.1.2.1∧y1.1.2.1<(↑q.length:Int))∧
  bif (q.getD (Int.toNat y1.1.2.1) ((0:Int),(0:Int),(0:Int),[],(0:Int),(0:Int),[],())).1==(6:Int) then
 let s2:
  (Int×Unit×Bool×kG×Int×jT)×Zk:=
  ((at',(),true,q,(↑q.length:Int),y1.1.2.1,()),
  ((q.getD (Int.toNat y1.1.2.1) ((0:Int),(0:Int),(0:Int),[],(0:Int),(0:Int),[],())).1,
  (q.getD (Int.toNat y1.1.2.1) ((0:Int),(0:Int),(0:Int),[],(0:Int),(0:Int),[],())).2.1,
  (q.getD (Int.toNat y1.1.2.1) ((0:Int),(0:Int),(0:Int),[],(0:Int),(0:Int),[],())).2.2.1,
  (q.getD (Int.toNat y1.1.2.1) ((0:Int),(0:Int),(0:Int),[],(0:Int),(0:Int),[],())).2.2.2.1,
  (q.getD (Int.toNat y1.1.2.1) ((0:Int),(0:Int),(0:Int),[],(0:Int),(0:Int),[],())).2.2.2.2.1,
  (q.getD (Int.toNat y1.1.2.1) ((0:Int),(0:Int),(0:Int),[],(0:Int),(0:Int),[],())).2.2.2.2.2.1,
  (q.getD (Int.toNat y1.1.2.1) ((0:Int),(0:Int),(0:Int),[],(0:Int),(0:Int),[],())).2.2.2.2.2.2.1,()),
  ());
  ∃ (J:bG→Prop),
  (bif (q.getD (Int.toNat y1.1.2.1) ((0:Int),(0:Int),(0:Int),[],(0:Int),(0:Int),[],())).2.1==at' then
  s2=s2∧J ((i64.wrap (y1.1.1+(1:Int)),()),())
  else s2=s2∧J ((y1.1.1,()),()))∧
  ∀ (y3:bG),
  J y3→
  bif (q.getD (Int.toNat y1.1.2.1) ((0:Int),(0:Int),(0:Int),[],(0:Int),(0:Int),[],())).2.2.1==at' then
  s0=s0∧
  I ((i64.wrap (y3.1.1+(1:Int)),i64.wrap (y1.1.2.1+(1:Int)),()),())∧
  μ ((i64.wrap (y3.1.1+(1:Int)),i64.wrap (y1.1.2.1+(1:Int)),()),())<μ y1
  else
  s0=s0∧
  I ((y3.1.1,i64.wrap (y1.1.2.1+(1:Int)),()),())∧μ ((y3.1.1,i64.wrap (y1.1.2.1+(1:Int)),()),())<μ y1
  else
 let s4:
  (Int×Unit×Bool×kG×Int×jT)×Zk:=
  ((at',(),(q.getD (Int.toNat y1.1.2.1) ((0:Int),(0:Int),(0:Int),[],(0:Int),(0:Int),[],())).1==(7:Int),q,(↑q.length:Int),
  y1.1.2.1,()),
  ((q.getD (Int.toNat y1.1.2.1) ((0:Int),(0:Int),(0:Int),[],(0:Int),(0:Int),[],())).1,
  (q.getD (Int.toNat y1.1.2.1) ((0:Int),(0:Int),(0:Int),[],(0:Int),(0:Int),[],())).2.1,
  (q.getD (Int.toNat y1.1.2.1) ((0:Int),(0:Int),(0:Int),[],(0:Int),(0:Int),[],())).2.2.1,
  (q.getD (Int.toNat y1.1.2.1) ((0:Int),(0:Int),(0:Int),[],(0:Int),(0:Int),[],())).2.2.2.1,
  (q.getD (Int.toNat y1.1.2.1) ((0:Int),(0:Int),(0:Int),[],(0:Int),(0:Int),[],())).2.2.2.2.1,
  (q.getD (Int.toNat y1.1.2.1) ((0:Int),(0:Int),(0:Int),[],(0:Int),(0:Int),[],())).2.2.2.2.2.1,
  (q.getD (Int.toNat y1.1.2.1) ((0:Int),(0:Int),(0:Int),[],(0:Int),(0:Int),[],())).2.2.2.2.2.2.1,()),
  ());
  ∃ (J:bG→Prop),
  (bif (q.getD (Int.toNat y1.1.2.1) ((0:Int),(0:Int),(0:Int),[],(0:Int),(0:Int),[],())).2.1==at' then
  bif (q.getD (Int.toNat y1.1.2.1) ((0:Int),(0:Int),(0:Int),[],(0:Int),(0:Int),[],())).1==(7:Int) then
  s4=s4∧J ((i64.wrap (y1.1.1+(1:Int)),()),())
  else
  bif (q.getD (Int.toNat y1.1.2.1) ((0:Int),(0:Int),(0:Int),[],(0:Int),(0:Int),[],())).1==(5:Int) then
  s4=s4∧J ((i64.wrap (y1.1.1+(1:Int)),()),())
  else s4=s4∧J ((y1.1.1,()),())
  else s4=s4∧J ((y1.1.1,()),()))∧
  ∀ (y5:bG),
  J y5→
  bif (q.getD (Int.toNat y1.1.2.1) ((0:Int),(0:Int),(0:Int),[],(0:Int),(0:Int),[],())).2.2.1==at' then
  bif (q.getD (Int.toNat y1.1.2.1) ((0:Int),(0:Int),(0:Int),[],(0:Int),(0:Int),[],())).1==(7:Int) then
  s0=s0∧
  I ((i64.wrap (y5.1.1+(1:Int)),i64.wrap (y1.1.2.1+(1:Int)),()),())∧
  μ ((i64.wrap (y5.1.1+(1:Int)),i64.wrap (y1.1.2.1+(1:Int)),()),())<μ y1
  else
  s0=s0∧
  I ((y5.1.1,i64.wrap (y1.1.2.1+(1:Int)),()),())∧
  μ ((y5.1.1,i64.wrap (y1.1.2.1+(1:Int)),()),())<μ y1
  else
  s0=s0∧
  I ((y5.1.1,i64.wrap (y1.1.2.1+(1:Int)),()),())∧μ ((y5.1.1,i64.wrap (y1.1.2.1+(1:Int)),()),())<μ y1
  else K (y1.1.1,())
theorem XA (env:EnvB prog G Θ YQ) (h:∀ (q:kG) (at':Int),bH Dy (q,at',())→(q.length≤(1000000:Nat))→XG q at' fun r=>r=(((↑(Sp.oU q at'):Int),()))):aG prog G rW uZ:=
 aX env mixed (fn:=f249) (c:=codeOf f249) (by kernel_rfl) (by kernel_rfl) Zp (by kernel_rfl) fun ⟨q,at',⟨⟩⟩ hin hp=>
 Eq.mpr (by kernel_rfl) (h q at' hin hp)
def aeG:Hints:=Go.Fw.hints [] [(2,⟨[],⟨[(0, .one (.sl 167 (.cons (.int .i64) (.cons (.int .i64) (.cons (.int .i64) (.cons .str (.cons (.int .i64) (.cons (.int .i64) (.cons .str .nil))))))) false))],[]⟩,⟨[(3, .one (.int .i64))],[]⟩⟩)] [] [] []
def acQ (q:kG) (K:fG→Prop):Prop:=
 let s0:=((q,()),());
  ∃ (I:bG→Prop),
  ∃ (μ:bG→Nat),
  I (((0:Int),()),())∧
  ∀ (y1:bG),
  I y1→
  bif decide (y1.1.1<(↑q.length:Int)) then
  ((0:Int)≤y1.1.1∧y1.1.1<(↑q.length:Int))∧
  True∧
 let r2:=
  Sp.rQ
  ((q.getD (Int.toNat y1.1.1) ((0:Int),(0:Int),(0:Int),[],(0:Int),(0:Int),[],())).1,
  (q.getD (Int.toNat y1.1.1) ((0:Int),(0:Int),(0:Int),[],(0:Int),(0:Int),[],())).2.1,
  (q.getD (Int.toNat y1.1.1) ((0:Int),(0:Int),(0:Int),[],(0:Int),(0:Int),[],())).2.2.1,
  (q.getD (Int.toNat y1.1.1) ((0:Int),(0:Int),(0:Int),[],(0:Int),(0:Int),[],())).2.2.2.1,
  (q.getD (Int.toNat y1.1.1) ((0:Int),(0:Int),(0:Int),[],(0:Int),(0:Int),[],())).2.2.2.2.1,
  (q.getD (Int.toNat y1.1.1) ((0:Int),(0:Int),(0:Int),[],(0:Int),(0:Int),[],())).2.2.2.2.2.1,
  (q.getD (Int.toNat y1.1.1) ((0:Int),(0:Int),(0:Int),[],(0:Int),(0:Int),[],())).2.2.2.2.2.2.1,())
  y1.1.1;
  bif !r2 then K (false,())
  else
  bif decide (y1.1.1<i64.wrap ((↑q.length:Int)-(1:Int))) then
  q.length≤(1000000:Nat)∧
 let r3:=(↑(Sp.oU q y1.1.1):Int);
  bif r3 !=(1:Int) then K (false,())
  else s0=s0∧I ((i64.wrap (y1.1.1+(1:Int)),()),())∧μ ((i64.wrap (y1.1.1+(1:Int)),()),())<μ y1
  else s0=s0∧I ((i64.wrap (y1.1.1+(1:Int)),()),())∧μ ((i64.wrap (y1.1.1+(1:Int)),()),())<μ y1
  else
  True∧
 let r4:=decide ((1:Int)≤(↑q.length:Int))&&decide ((↑q.length:Int)≤(9:Int));
  K (r4,())
theorem aco (env:EnvB prog G Θ adI) (h:∀ (q:kG),bH GN (q,())→(q.length≤(1000000:Nat))→acQ q fun r=>r=((Sp.jF q,()))):aG prog G nJ oD:=
 aX env mixed (fn:=f226) (c:=codeOf f226) (by kernel_rfl) (by kernel_rfl) aeG (by kernel_rfl) fun ⟨q,⟨⟩⟩ hin hp=>
 Eq.mpr (by kernel_rfl) (h q hin hp)
def aeH:Hints:=Go.Fw.hints [] [(2,⟨[],⟨[(0, .one (.sl 167 (.cons (.int .i64) (.cons (.int .i64) (.cons (.int .i64) (.cons .str (.cons (.int .i64) (.cons (.int .i64) (.cons .str .nil))))))) false)),(5, .one (.sl 167 (.cons (.int .i64) (.cons (.int .i64) (.cons (.int .i64) (.cons .str (.cons (.int .i64) (.cons (.int .i64) (.cons .str .nil))))))) false)),(6, .one (.int .i64))],[]⟩,⟨[(7, .one (.int .i64))],[]⟩⟩)] [] [] []
def acR (q:kG) (K:fG→Prop):Prop:=
 let s0:=((q,q,(↑q.length:Int),()),());
  ∃ (I:bG→Prop),
  ∃ (μ:bG→Nat),
  I (((0:Int),()),())∧
  ∀ (y1:bG),
  I y1→
  bif decide (y1.1.1<(↑q.length:Int)) then
  ((0:Int)≤y1.1.1∧y1.1.1<(↑q.length:Int))∧
  True∧
 let r2:=
  Sp.rQ
  ((q.getD (Int.toNat y1.1.1) ((0:Int),(0:Int),(0:Int),[],(0:Int),(0:Int),[],())).1,
  (q.getD (Int.toNat y1.1.1) ((0:Int),(0:Int),(0:Int),[],(0:Int),(0:Int),[],())).2.1,
  (q.getD (Int.toNat y1.1.1) ((0:Int),(0:Int),(0:Int),[],(0:Int),(0:Int),[],())).2.2.1,
  (q.getD (Int.toNat y1.1.1) ((0:Int),(0:Int),(0:Int),[],(0:Int),(0:Int),[],())).2.2.2.1,
  (q.getD (Int.toNat y1.1.1) ((0:Int),(0:Int),(0:Int),[],(0:Int),(0:Int),[],())).2.2.2.2.1,
  (q.getD (Int.toNat y1.1.1) ((0:Int),(0:Int),(0:Int),[],(0:Int),(0:Int),[],())).2.2.2.2.2.1,
  (q.getD (Int.toNat y1.1.1) ((0:Int),(0:Int),(0:Int),[],(0:Int),(0:Int),[],())).2.2.2.2.2.2.1,())
  y1.1.1;
  bif !r2 then K (false,())
  else
  bif decide (y1.1.1<i64.wrap ((↑q.length:Int)-(1:Int))) then
  q.length≤(1000000:Nat)∧
 let r3:=(↑(Sp.oU q y1.1.1):Int);
  bif r3 !=(1:Int) then K (false,())
  else s0=s0∧I ((i64.wrap (y1.1.1+(1:Int)),()),())∧μ ((i64.wrap (y1.1.1+(1:Int)),()),())<μ y1
  else s0=s0∧I ((i64.wrap (y1.1.1+(1:Int)),()),())∧μ ((i64.wrap (y1.1.1+(1:Int)),()),())<μ y1
  else
  True∧
 let r4:=decide ((1:Int)≤(↑q.length:Int))&&decide ((↑q.length:Int)≤(9:Int));
  K (r4,())
theorem acp (env:EnvB prog G Θ adJ) (h:∀ (q:kG),bH GR (q,())→(q.length≤(1000000:Nat))→acR q fun r=>r=((Sp.jF q,()))):aG prog G nK oG:=
 aX env mixed (fn:=f234) (c:=codeOf f234) (by kernel_rfl) (by kernel_rfl) aeH (by kernel_rfl) fun ⟨q,⟨⟩⟩ hin hp=>
 Eq.mpr (by kernel_rfl) (h q hin hp)
def ag6:Hints:=Go.Fw.hints [] [(2,⟨[],⟨[(0, .one (.sl 124 (.cons .str (.cons (.sl 167 (.cons (.int .i64) (.cons (.int .i64) (.cons (.int .i64) (.cons .str (.cons (.int .i64) (.cons (.int .i64) (.cons .str .nil)))))))) .nil)) false))],[]⟩,⟨[(3, .one (.int .i64))],[]⟩⟩)] [] [] []
def aeI (d:jf) (K:fG→Prop):Prop:=
 let s0:=((d,()),());
  ∃ (I:bG→Prop),
  ∃ (μ:bG→Nat),
  I (((0:Int),()),())∧
  ∀ (y1:bG),
  I y1→
  bif decide (y1.1.1<(↑d.length:Int)) then
  ((0:Int)≤y1.1.1∧y1.1.1<(↑d.length:Int))∧
  True∧
 let r2:=Sp.iR (d.getD (Int.toNat y1.1.1) ([],[],())).1;
  bif !r2 then K (false,())
  else
  ((0:Int)≤y1.1.1∧y1.1.1<(↑d.length:Int))∧
  List.length (d.getD (Int.toNat y1.1.1) ([],[],())).2.1≤(1000000:Nat)∧
 let r3:=Sp.jF (d.getD (Int.toNat y1.1.1) ([],[],())).2.1;
  bif !r3 then K (false,())
  else
  bif decide (y1.1.1>(0:Int)) then
  ((0:Int)≤i64.wrap (y1.1.1-(1:Int))∧i64.wrap (y1.1.1-(1:Int))<(↑d.length:Int))∧
  ((0:Int)≤y1.1.1∧y1.1.1<(↑d.length:Int))∧
  bif !Op.bytesLess (d.getD (i64.wrap (y1.1.1-(1:Int))).toNat ([],[],())).1 (d.getD (Int.toNat y1.1.1) ([],[],())).1 then
  K (false,())
  else s0=s0∧I ((i64.wrap (y1.1.1+(1:Int)),()),())∧μ ((i64.wrap (y1.1.1+(1:Int)),()),())<μ y1
  else s0=s0∧I ((i64.wrap (y1.1.1+(1:Int)),()),())∧μ ((i64.wrap (y1.1.1+(1:Int)),()),())<μ y1
  else K (decide ((↑d.length:Int)≤(5:Int)),())
theorem aev (env:EnvB prog G Θ afp) (h:∀ (d:jf),bH IQ (d,())→(Sp.bY d)→aeI d fun r=>r=((Sp.wK d,()))):aG prog G yZ AQ:=
 aX env mixed (fn:=f190) (c:=codeOf f190) (by kernel_rfl) (by kernel_rfl) ag6 (by kernel_rfl) fun ⟨d,⟨⟩⟩ hin hp=>
 Eq.mpr (by kernel_rfl) (h d hin hp)
def ag7:Hints:=Go.Fw.hints [] [(2,⟨[],⟨[(0, .one (.sl 124 (.cons .str (.cons (.sl 167 (.cons (.int .i64) (.cons (.int .i64) (.cons (.int .i64) (.cons .str (.cons (.int .i64) (.cons (.int .i64) (.cons .str .nil)))))))) .nil)) false)),(5, .one (.sl 124 (.cons .str (.cons (.sl 167 (.cons (.int .i64) (.cons (.int .i64) (.cons (.int .i64) (.cons .str (.cons (.int .i64) (.cons (.int .i64) (.cons .str .nil)))))))) .nil)) false)),(6, .one (.int .i64))],[]⟩,⟨[(7, .one (.int .i64))],[]⟩⟩)] [] [] []
def aeJ (d:jf) (K:fG→Prop):Prop:=
 let s0:=((d,d,(↑d.length:Int),()),());
  ∃ (I:bG→Prop),
  ∃ (μ:bG→Nat),
  I (((0:Int),()),())∧
  ∀ (y1:bG),
  I y1→
  bif decide (y1.1.1<(↑d.length:Int)) then
  ((0:Int)≤y1.1.1∧y1.1.1<(↑d.length:Int))∧
  True∧
 let r2:=Sp.iR (d.getD (Int.toNat y1.1.1) ([],[],())).1;
  bif !r2 then K (false,())
  else
  bif decide (y1.1.1>(0:Int)) then
  ((0:Int)≤i64.wrap (y1.1.1-(1:Int))∧i64.wrap (y1.1.1-(1:Int))<(↑d.length:Int))∧
  bif !Op.bytesLess (d.getD (i64.wrap (y1.1.1-(1:Int))).toNat ([],[],())).1 (d.getD (Int.toNat y1.1.1) ([],[],())).1 then
  K (false,())
  else
  List.length (d.getD (Int.toNat y1.1.1) ([],[],())).2.1≤(1000000:Nat)∧
 let r3:=Sp.jF (d.getD (Int.toNat y1.1.1) ([],[],())).2.1;
  bif !r3 then K (false,())
  else s0=s0∧I ((i64.wrap (y1.1.1+(1:Int)),()),())∧μ ((i64.wrap (y1.1.1+(1:Int)),()),())<μ y1
  else
  List.length (d.getD (Int.toNat y1.1.1) ([],[],())).2.1≤(1000000:Nat)∧
 let r4:=Sp.jF (d.getD (Int.toNat y1.1.1) ([],[],())).2.1;
  bif !r4 then K (false,())
  else s0=s0∧I ((i64.wrap (y1.1.1+(1:Int)),()),())∧μ ((i64.wrap (y1.1.1+(1:Int)),()),())<μ y1
  else K (decide ((↑d.length:Int)≤(5:Int)),())
theorem aew (env:EnvB prog G Θ afq) (h:∀ (d:jf),bH IU (d,())→(Sp.bY d)→aeJ d fun r=>r=((Sp.wK d,()))):aG prog G yY AU:=
 aX env mixed (fn:=f201) (c:=codeOf f201) (by kernel_rfl) (by kernel_rfl) ag7 (by kernel_rfl) fun ⟨d,⟨⟩⟩ hin hp=>
 Eq.mpr (by kernel_rfl) (h d hin hp)
def ano:Hints:=Go.Fw.hints [] [] [] [] []
def akS (n0:Int) (n1:Int) (n2:Int) (n3:fK) (n4:Int) (n5:Int) (n6:fK) (K:fG→Prop):Prop:=
 bif n0==(8:Int) then K (true,()) else K (n0==(9:Int),())
theorem akv (env:EnvB prog G Θ alp) (h:∀ (n0:Int) (n1:Int) (n2:Int) (n3:fK) (n4:Int) (n5:Int) (n6:fK),bH Mc ((n0,n1,n2,n3,n4,n5,n6,()),())→(True)→akS n0 n1 n2 n3 n4 n5 n6 fun r=>r=((n0==(8:Int)||n0==(9:Int),()))):aG prog G Eb EW:=
 aX env mixed (fn:=f241) (c:=codeOf f241) (by kernel_rfl) (by kernel_rfl) ano (by kernel_rfl) fun ⟨⟨n0,n1,n2,n3,n4,n5,n6,⟨⟩⟩,⟨⟩⟩ hin hp=>
 Eq.mpr (by kernel_rfl) (h n0 n1 n2 n3 n4 n5 n6 hin hp)
def aeK:Hints:=Go.Fw.hints [13] [(5,⟨[],⟨[(0, .one (.sl 167 (.cons (.int .i64) (.cons (.int .i64) (.cons (.int .i64) (.cons .str (.cons (.int .i64) (.cons (.int .i64) (.cons .str .nil))))))) false)),(3, .one (.ref 833))],[]⟩,⟨[(4, .one (.int .i64))],[(833, .arr 4 (.cons .bool .nil) true)]⟩⟩)] [] [] []
def acS (q:kG) (K:List fG×Unit→Prop):Prop:=
 q.length≤(1000000:Nat)∧
 bif !Sp.jF q then K ([],())
 else
 ((0:Int)≤(↑q.length:Int)∧(↑q.length:Int)≤(↑q.length:Int)∧(↑q.length:Int)≤(↑big:Int))∧
 let s0:=((q,(),()),());
  ∃ (I:aoS→Prop),
  ∃ (μ:aoS→Nat),
  I ((i64.wrap ((↑q.length:Int)-(1:Int)),()),List.replicate (↑q.length:Int).toNat (false,()),())∧
  ∀ (y1:aoS),
  I y1→
  bif decide (y1.1.1≥(0:Int)) then
  ((0:Int)≤y1.1.1∧y1.1.1<(↑q.length:Int))∧
  bif (q.getD (Int.toNat y1.1.1) ((0:Int),(0:Int),(0:Int),[],(0:Int),(0:Int),[],())).1==(6:Int) then
  bif (q.getD (Int.toNat y1.1.1) ((0:Int),(0:Int),(0:Int),[],(0:Int),(0:Int),[],())).1==(5:Int) then
  ((0:Int)≤(q.getD (Int.toNat y1.1.1) ((0:Int),(0:Int),(0:Int),[],(0:Int),(0:Int),[],())).2.1∧
  (q.getD (Int.toNat y1.1.1) ((0:Int),(0:Int),(0:Int),[],(0:Int),(0:Int),[],())).2.1<(↑(List.length y1.2.1):Int))∧
  Int.toNat (q.getD (Int.toNat y1.1.1) ((0:Int),(0:Int),(0:Int),[],(0:Int),(0:Int),[],())).2.1<List.length y1.2.1∧
  ((0:Int)≤y1.1.1∧
  y1.1.1<
  (↑(List.set y1.2.1 (Int.toNat (q.getD (Int.toNat y1.1.1) ((0:Int),(0:Int),(0:Int),[],(0:Int),(0:Int),[],())).2.1)
  (true,())).length:
  Int))∧
  Int.toNat y1.1.1<
  (List.set y1.2.1 (Int.toNat (q.getD (Int.toNat y1.1.1) ((0:Int),(0:Int),(0:Int),[],(0:Int),(0:Int),[],())).2.1)
  (true,())).length∧
  ((0:Int)≤(q.getD (Int.toNat y1.1.1) ((0:Int),(0:Int),(0:Int),[],(0:Int),(0:Int),[],())).2.1∧
  (q.getD (Int.toNat y1.1.1) ((0:Int),(0:Int),(0:Int),[],(0:Int),(0:Int),[],())).2.1<
  (↑(List.set y1.2.1 (Int.toNat (q.getD (Int.toNat y1.1.1) ((0:Int),(0:Int),(0:Int),[],(0:Int),(0:Int),[],())).2.1)
  (true,())).length:
  Int))∧
  Int.toNat (q.getD (Int.toNat y1.1.1) ((0:Int),(0:Int),(0:Int),[],(0:Int),(0:Int),[],())).2.1<
  (List.set y1.2.1 (Int.toNat (q.getD (Int.toNat y1.1.1) ((0:Int),(0:Int),(0:Int),[],(0:Int),(0:Int),[],())).2.1)
  (true,())).length∧
  ((0:Int)≤y1.1.1∧
  y1.1.1<
  (↑((List.set y1.2.1
  (Int.toNat (q.getD (Int.toNat y1.1.1) ((0:Int),(0:Int),(0:Int),[],(0:Int),(0:Int),[],())).2.1)
  (true,())).set
  (Int.toNat (q.getD (Int.toNat y1.1.1) ((0:Int),(0:Int),(0:Int),[],(0:Int),(0:Int),[],())).2.1)
  (((List.set y1.2.1
  (Int.toNat (q.getD (Int.toNat y1.1.1) ((0:Int),(0:Int),(0:Int),[],(0:Int),(0:Int),[],())).2.1)
  (true,())).getD
  (Int.toNat y1.1.1) (false,())).1,
  ())).length:
  Int))∧
  Int.toNat y1.1.1<
  ((List.set y1.2.1
  (Int.toNat (q.getD (Int.toNat y1.1.1) ((0:Int),(0:Int),(0:Int),[],(0:Int),(0:Int),[],())).2.1)
  (true,())).set
  (Int.toNat (q.getD (Int.toNat y1.1.1) ((0:Int),(0:Int),(0:Int),[],(0:Int),(0:Int),[],())).2.1)
  (((List.set y1.2.1
  (Int.toNat (q.getD (Int.toNat y1.1.1) ((0:Int),(0:Int),(0:Int),[],(0:Int),(0:Int),[],())).2.1)
  (true,())).getD
  (Int.toNat y1.1.1) (false,())).1,
  ())).length∧
  ((0:Int)≤(q.getD (Int.toNat y1.1.1) ((0:Int),(0:Int),(0:Int),[],(0:Int),(0:Int),[],())).2.2.1∧
  (q.getD (Int.toNat y1.1.1) ((0:Int),(0:Int),(0:Int),[],(0:Int),(0:Int),[],())).2.2.1<
  (↑((List.set y1.2.1
  (Int.toNat (q.getD (Int.toNat y1.1.1) ((0:Int),(0:Int),(0:Int),[],(0:Int),(0:Int),[],())).2.1)
  (true,())).set
  (Int.toNat (q.getD (Int.toNat y1.1.1) ((0:Int),(0:Int),(0:Int),[],(0:Int),(0:Int),[],())).2.1)
  (((List.set y1.2.1
  (Int.toNat
  (q.getD (Int.toNat y1.1.1) ((0:Int),(0:Int),(0:Int),[],(0:Int),(0:Int),[],())).2.1)
  (true,())).getD
  (Int.toNat y1.1.1) (false,())).1,
  ())).length:
  Int))∧
  Int.toNat (q.getD (Int.toNat y1.1.1) ((0:Int),(0:Int),(0:Int),[],(0:Int),(0:Int),[],())).2.2.1<
  ((List.set y1.2.1
  (Int.toNat (q.getD (Int.toNat y1.1.1) ((0:Int),(0:Int),(0:Int),[],(0:Int),(0:Int),[],())).2.1)
  (true,())).set
  (Int.toNat (q.getD (Int.toNat y1.1.1) ((0:Int),(0:Int),(0:Int),[],(0:Int),(0:Int),[],())).2.1)
  (((List.set y1.2.1
  (Int.toNat (q.getD (Int.toNat y1.1.1) ((0:Int),(0:Int),(0:Int),[],(0:Int),(0:Int),[],())).2.1)
  (true,())).getD
  (Int.toNat y1.1.1) (false,())).1,
  ())).length∧
  s0=s0∧
  I
  ((i64.wrap (y1.1.1-(1:Int)),()),
  ((List.set y1.2.1
  (Int.toNat
  (q.getD (Int.toNat y1.1.1) ((0:Int),(0:Int),(0:Int),[],(0:Int),(0:Int),[],())).2.1)
  (true,())).set
  (Int.toNat (q.getD (Int.toNat y1.1.1) ((0:Int),(0:Int),(0:Int),[],(0:Int),(0:Int),[],())).2.1)
  (((List.set y1.2.1
  (Int.toNat
  (q.getD (Int.toNat y1.1.1) ((0:Int),(0:Int),(0:Int),[],(0:Int),(0:Int),[],())).2.1)
  (true,())).getD
  (Int.toNat y1.1.1) (false,())).1,
  ())).set
  (Int.toNat (q.getD (Int.toNat y1.1.1) ((0:Int),(0:Int),(0:Int),[],(0:Int),(0:Int),[],())).2.2.1)
  ((((List.set y1.2.1
  (Int.toNat
  (q.getD (Int.toNat y1.1.1) ((0:Int),(0:Int),(0:Int),[],(0:Int),(0:Int),[],())).2.1)
  (true,())).set
  (Int.toNat
  (q.getD (Int.toNat y1.1.1) ((0:Int),(0:Int),(0:Int),[],(0:Int),(0:Int),[],())).2.1)
  (((List.set y1.2.1
  (Int.toNat
  (q.getD (Int.toNat y1.1.1)
  ((0:Int),(0:Int),(0:Int),[],(0:Int),(0:Int),[],())).2.1)
  (true,())).getD
  (Int.toNat y1.1.1) (false,())).1,
  ())).getD
  (Int.toNat y1.1.1) (false,())).1,
  ()),
  ())∧
  μ
  ((i64.wrap (y1.1.1-(1:Int)),()),
  ((List.set y1.2.1
  (Int.toNat
  (q.getD (Int.toNat y1.1.1) ((0:Int),(0:Int),(0:Int),[],(0:Int),(0:Int),[],())).2.1)
  (true,())).set
  (Int.toNat (q.getD (Int.toNat y1.1.1) ((0:Int),(0:Int),(0:Int),[],(0:Int),(0:Int),[],())).2.1)
  (((List.set y1.2.1
  (Int.toNat
  (q.getD (Int.toNat y1.1.1) ((0:Int),(0:Int),(0:Int),[],(0:Int),(0:Int),[],())).2.1)
  (true,())).getD
  (Int.toNat y1.1.1) (false,())).1,
  ())).set
  (Int.toNat (q.getD (Int.toNat y1.1.1) ((0:Int),(0:Int),(0:Int),[],(0:Int),(0:Int),[],())).2.2.1)
  ((((List.set y1.2.1
  (Int.toNat
  (q.getD (Int.toNat y1.1.1) ((0:Int),(0:Int),(0:Int),[],(0:Int),(0:Int),[],())).2.1)
  (true,())).set
  (Int.toNat
  (q.getD (Int.toNat y1.1.1) ((0:Int),(0:Int),(0:Int),[],(0:Int),(0:Int),[],())).2.1)
  (((List.set y1.2.1
  (Int.toNat
  (q.getD (Int.toNat y1.1.1)
  ((0:Int),(0:Int),(0:Int),[],(0:Int),(0:Int),[],())).2.1)
  (true,())).getD
  (Int.toNat y1.1.1) (false,())).1,
  ())).getD
  (Int.toNat y1.1.1) (false,())).1,
  ()),
  ())<
  μ y1
  else
  ((0:Int)≤y1.1.1∧y1.1.1<(↑(List.length y1.2.1):Int))∧
  Int.toNat y1.1.1<List.length y1.2.1∧
  ((0:Int)≤(q.getD (Int.toNat y1.1.1) ((0:Int),(0:Int),(0:Int),[],(0:Int),(0:Int),[],())).2.1∧
  (q.getD (Int.toNat y1.1.1) ((0:Int),(0:Int),(0:Int),[],(0:Int),(0:Int),[],())).2.1<(↑(List.length y1.2.1):Int))∧
  Int.toNat (q.getD (Int.toNat y1.1.1) ((0:Int),(0:Int),(0:Int),[],(0:Int),(0:Int),[],())).2.1<List.length y1.2.1∧
  ((0:Int)≤y1.1.1∧
  y1.1.1<
  (↑(List.set y1.2.1 (Int.toNat (q.getD (Int.toNat y1.1.1) ((0:Int),(0:Int),(0:Int),[],(0:Int),(0:Int),[],())).2.1)
  ((List.getD y1.2.1 (Int.toNat y1.1.1) (false,())).1,())).length:
  Int))∧
  Int.toNat y1.1.1<
  (List.set y1.2.1 (Int.toNat (q.getD (Int.toNat y1.1.1) ((0:Int),(0:Int),(0:Int),[],(0:Int),(0:Int),[],())).2.1)
  ((List.getD y1.2.1 (Int.toNat y1.1.1) (false,())).1,())).length∧
  ((0:Int)≤(q.getD (Int.toNat y1.1.1) ((0:Int),(0:Int),(0:Int),[],(0:Int),(0:Int),[],())).2.2.1∧
  (q.getD (Int.toNat y1.1.1) ((0:Int),(0:Int),(0:Int),[],(0:Int),(0:Int),[],())).2.2.1<
  (↑(List.set y1.2.1
  (Int.toNat (q.getD (Int.toNat y1.1.1) ((0:Int),(0:Int),(0:Int),[],(0:Int),(0:Int),[],())).2.1)
  ((List.getD y1.2.1 (Int.toNat y1.1.1) (false,())).1,())).length:
  Int))∧
  Int.toNat (q.getD (Int.toNat y1.1.1) ((0:Int),(0:Int),(0:Int),[],(0:Int),(0:Int),[],())).2.2.1<
  (List.set y1.2.1
  (Int.toNat (q.getD (Int.toNat y1.1.1) ((0:Int),(0:Int),(0:Int),[],(0:Int),(0:Int),[],())).2.1)
  ((List.getD y1.2.1 (Int.toNat y1.1.1) (false,())).1,())).length∧
  s0=s0∧
  I
  ((i64.wrap (y1.1.1-(1:Int)),()),
  (List.set y1.2.1
  (Int.toNat (q.getD (Int.toNat y1.1.1) ((0:Int),(0:Int),(0:Int),[],(0:Int),(0:Int),[],())).2.1)
  ((List.getD y1.2.1 (Int.toNat y1.1.1) (false,())).1,())).set
  (Int.toNat (q.getD (Int.toNat y1.1.1) ((0:Int),(0:Int),(0:Int),[],(0:Int),(0:Int),[],())).2.2.1)
  (((List.set y1.2.1
  (Int.toNat (q.getD (Int.toNat y1.1.1) ((0:Int),(0:Int),(0:Int),[],(0:Int),(0:Int),[],())).2.1)
  ((List.getD y1.2.1 (Int.toNat y1.1.1) (false,())).1,())).getD
  (Int.toNat y1.1.1) (false,())).1,
  ()),
  ())∧
  μ
  ((i64.wrap (y1.1.1-(1:Int)),()),
  (List.set y1.2.1
  (Int.toNat (q.getD (Int.toNat y1.1.1) ((0:Int),(0:Int),(0:Int),[],(0:Int),(0:Int),[],())).2.1)
  ((List.getD y1.2.1 (Int.toNat y1.1.1) (false,())).1,())).set
  (Int.toNat (q.getD (Int.toNat y1.1.1) ((0:Int),(0:Int),(0:Int),[],(0:Int),(0:Int),[],())).2.2.1)
  (((List.set y1.2.1
  (Int.toNat
  (q.getD (Int.toNat y1.1.1) ((0:Int),(0:Int),(0:Int),[],(0:Int),(0:Int),[],())).2.1)
  ((List.getD y1.2.1 (Int.toNat y1.1.1) (false,())).1,())).getD
  (Int.toNat y1.1.1) (false,())).1,
  ()),
  ())<
  μ y1
  else
  bif (q.getD (Int.toNat y1.1.1) ((0:Int),(0:Int),(0:Int),[],(0:Int),(0:Int),[],())).1==(5:Int) then
  ((0:Int)≤(q.getD (Int.toNat y1.1.1) ((0:Int),(0:Int),(0:Int),[],(0:Int),(0:Int),[],())).2.1∧
  (q.getD (Int.toNat y1.1.1) ((0:Int),(0:Int),(0:Int),[],(0:Int),(0:Int),[],())).2.1<(↑(List.length y1.2.1):Int))∧
  Int.toNat (q.getD (Int.toNat y1.1.1) ((0:Int),(0:Int),(0:Int),[],(0:Int),(0:Int),[],())).2.1<List.length y1.2.1∧
  bif (q.getD (Int.toNat y1.1.1) ((0:Int),(0:Int),(0:Int),[],(0:Int),(0:Int),[],())).1==(7:Int) then
  ((0:Int)≤y1.1.1∧
  y1.1.1<
  (↑(List.set y1.2.1 (Int.toNat (q.getD (Int.toNat y1.1.1) ((0:Int),(0:Int),(0:Int),[],(0:Int),(0:Int),[],())).2.1)
  (true,())).length:
  Int))∧
  Int.toNat y1.1.1<
  (List.set y1.2.1 (Int.toNat (q.getD (Int.toNat y1.1.1) ((0:Int),(0:Int),(0:Int),[],(0:Int),(0:Int),[],())).2.1)
  (true,())).length∧
  ((0:Int)≤(q.getD (Int.toNat y1.1.1) ((0:Int),(0:Int),(0:Int),[],(0:Int),(0:Int),[],())).2.1∧
  (q.getD (Int.toNat y1.1.1) ((0:Int),(0:Int),(0:Int),[],(0:Int),(0:Int),[],())).2.1<
  (↑(List.set y1.2.1
  (Int.toNat (q.getD (Int.toNat y1.1.1) ((0:Int),(0:Int),(0:Int),[],(0:Int),(0:Int),[],())).2.1)
  (true,())).length:
  Int))∧
  Int.toNat (q.getD (Int.toNat y1.1.1) ((0:Int),(0:Int),(0:Int),[],(0:Int),(0:Int),[],())).2.1<
  (List.set y1.2.1 (Int.toNat (q.getD (Int.toNat y1.1.1) ((0:Int),(0:Int),(0:Int),[],(0:Int),(0:Int),[],())).2.1)
  (true,())).length∧
  ((0:Int)≤y1.1.1∧
  y1.1.1<
  (↑((List.set y1.2.1
  (Int.toNat (q.getD (Int.toNat y1.1.1) ((0:Int),(0:Int),(0:Int),[],(0:Int),(0:Int),[],())).2.1)
  (true,())).set
  (Int.toNat (q.getD (Int.toNat y1.1.1) ((0:Int),(0:Int),(0:Int),[],(0:Int),(0:Int),[],())).2.1)
  (((List.set y1.2.1
  (Int.toNat
  (q.getD (Int.toNat y1.1.1) ((0:Int),(0:Int),(0:Int),[],(0:Int),(0:Int),[],())).2.1)
  (true,())).getD
  (Int.toNat y1.1.1) (false,())).1,
  ())).length:
  Int))∧
  Int.toNat y1.1.1<
  ((List.set y1.2.1
  (Int.toNat (q.getD (Int.toNat y1.1.1) ((0:Int),(0:Int),(0:Int),[],(0:Int),(0:Int),[],())).2.1)
  (true,())).set
  (Int.toNat (q.getD (Int.toNat y1.1.1) ((0:Int),(0:Int),(0:Int),[],(0:Int),(0:Int),[],())).2.1)
  (((List.set y1.2.1
  (Int.toNat (q.getD (Int.toNat y1.1.1) ((0:Int),(0:Int),(0:Int),[],(0:Int),(0:Int),[],())).2.1)
  (true,())).getD
  (Int.toNat y1.1.1) (false,())).1,
  ())).length∧
  ((0:Int)≤(q.getD (Int.toNat y1.1.1) ((0:Int),(0:Int),(0:Int),[],(0:Int),(0:Int),[],())).2.2.1∧
  (q.getD (Int.toNat y1.1.1) ((0:Int),(0:Int),(0:Int),[],(0:Int),(0:Int),[],())).2.2.1<
  (↑((List.set y1.2.1
  (Int.toNat (q.getD (Int.toNat y1.1.1) ((0:Int),(0:Int),(0:Int),[],(0:Int),(0:Int),[],())).2.1)
  (true,())).set
  (Int.toNat (q.getD (Int.toNat y1.1.1) ((0:Int),(0:Int),(0:Int),[],(0:Int),(0:Int),[],())).2.1)
  (((List.set y1.2.1
  (Int.toNat
  (q.getD (Int.toNat y1.1.1) ((0:Int),(0:Int),(0:Int),[],(0:Int),(0:Int),[],())).2.1)
  (true,())).getD
  (Int.toNat y1.1.1) (false,())).1,
  ())).length:
  Int))∧
  Int.toNat (q.getD (Int.toNat y1.1.1) ((0:Int),(0:Int),(0:Int),[],(0:Int),(0:Int),[],())).2.2.1<
  ((List.set y1.2.1
  (Int.toNat (q.getD (Int.toNat y1.1.1) ((0:Int),(0:Int),(0:Int),[],(0:Int),(0:Int),[],())).2.1)
  (true,())).set
  (Int.toNat (q.getD (Int.toNat y1.1.1) ((0:Int),(0:Int),(0:Int),[],(0:Int),(0:Int),[],())).2.1)
  (((List.set y1.2.1
  (Int.toNat
  (q.getD (Int.toNat y1.1.1) ((0:Int),(0:Int),(0:Int),[],(0:Int),(0:Int),[],())).2.1)
  (true,())).getD
  (Int.toNat y1.1.1) (false,())).1,
  ())).length∧
  s0=s0∧
  I
  ((i64.wrap (y1.1.1-(1:Int)),()),
  ((List.set y1.2.1
  (Int.toNat
  (q.getD (Int.toNat y1.1.1) ((0:Int),(0:Int),(0:Int),[],(0:Int),(0:Int),[],())).2.1)
  (true,())).set
  (Int.toNat (q.getD (Int.toNat y1.1.1) ((0:Int),(0:Int),(0:Int),[],(0:Int),(0:Int),[],())).2.1)
  (((List.set y1.2.1
  (Int.toNat
  (q.getD (Int.toNat y1.1.1) ((0:Int),(0:Int),(0:Int),[],(0:Int),(0:Int),[],())).2.1)
  (true,())).getD
  (Int.toNat y1.1.1) (false,())).1,
  ())).set
  (Int.toNat (q.getD (Int.toNat y1.1.1) ((0:Int),(0:Int),(0:Int),[],(0:Int),(0:Int),[],())).2.2.1)
  ((((List.set y1.2.1
  (Int.toNat
  (q.getD (Int.toNat y1.1.1) ((0:Int),(0:Int),(0:Int),[],(0:Int),(0:Int),[],())).2.1)
  (true,())).set
  (Int.toNat
  (q.getD (Int.toNat y1.1.1) ((0:Int),(0:Int),(0:Int),[],(0:Int),(0:Int),[],())).2.1)
  (((List.set y1.2.1
  (Int.toNat
  (q.getD (Int.toNat y1.1.1)
  ((0:Int),(0:Int),(0:Int),[],(0:Int),(0:Int),[],())).2.1)
  (true,())).getD
  (Int.toNat y1.1.1) (false,())).1,
  ())).getD
  (Int.toNat y1.1.1) (false,())).1,
  ()),
  ())∧
  μ
  ((i64.wrap (y1.1.1-(1:Int)),()),
  ((List.set y1.2.1
  (Int.toNat
  (q.getD (Int.toNat y1.1.1) ((0:Int),(0:Int),(0:Int),[],(0:Int),(0:Int),[],())).2.1)
  (true,())).set
  (Int.toNat
  (q.getD (Int.toNat y1.1.1) ((0:Int),(0:Int),(0:Int),[],(0:Int),(0:Int),[],())).2.1)
  (((List.set y1.2.1
  (Int.toNat
  (q.getD (Int.toNat y1.1.1)
  ((0:Int),(0:Int),(0:Int),[],(0:Int),(0:Int),[],())).2.1)
  (true,())).getD
  (Int.toNat y1.1.1) (false,())).1,
  ())).set
  (Int.toNat
  (q.getD (Int.toNat y1.1.1) ((0:Int),(0:Int),(0:Int),[],(0:Int),(0:Int),[],())).2.2.1)
  ((((List.set y1.2.1
  (Int.toNat
  (q.getD (Int.toNat y1.1.1)
  ((0:Int),(0:Int),(0:Int),[],(0:Int),(0:Int),[],())).2.1)
  (true,())).set
  (Int.toNat
  (q.getD (Int.toNat y1.1.1) ((0:Int),(0:Int),(0:Int),[],(0:Int),(0:Int),[],())).2.1)
  (((List.set y1.2.1
  (Int.toNat
  (q.getD (Int.toNat y1.1.1)
  ((0:Int),(0:Int),(0:Int),[],(0:Int),(0:Int),[],())).2.1)
  (true,())).getD
  (Int.toNat y1.1.1) (false,())).1,
  ())).getD
  (Int.toNat y1.1.1) (false,())).1,
  ()),
  ())<
  μ y1
  else
  s0=s0∧
  I
  ((i64.wrap (y1.1.1-(1:Int)),()),
  List.set y1.2.1 (Int.toNat (q.getD (Int.toNat y1.1.1) ((0:Int),(0:Int),(0:Int),[],(0:Int),(0:Int),[],())).2.1)
  (true,()),
  ())∧
  μ
  ((i64.wrap (y1.1.1-(1:Int)),()),
  List.set y1.2.1 (Int.toNat (q.getD (Int.toNat y1.1.1) ((0:Int),(0:Int),(0:Int),[],(0:Int),(0:Int),[],())).2.1)
  (true,()),
  ())<
  μ y1
  else
  bif (q.getD (Int.toNat y1.1.1) ((0:Int),(0:Int),(0:Int),[],(0:Int),(0:Int),[],())).1==(7:Int) then
  ((0:Int)≤y1.1.1∧y1.1.1<(↑(List.length y1.2.1):Int))∧
  Int.toNat y1.1.1<List.length y1.2.1∧
  ((0:Int)≤(q.getD (Int.toNat y1.1.1) ((0:Int),(0:Int),(0:Int),[],(0:Int),(0:Int),[],())).2.1∧
  (q.getD (Int.toNat y1.1.1) ((0:Int),(0:Int),(0:Int),[],(0:Int),(0:Int),[],())).2.1<(↑(List.length y1.2.1):Int))∧
  Int.toNat (q.getD (Int.toNat y1.1.1) ((0:Int),(0:Int),(0:Int),[],(0:Int),(0:Int),[],())).2.1<List.length y1.2.1∧
  ((0:Int)≤y1.1.1∧
  y1.1.1<
  (↑(List.set y1.2.1
  (Int.toNat (q.getD (Int.toNat y1.1.1) ((0:Int),(0:Int),(0:Int),[],(0:Int),(0:Int),[],())).2.1)
  ((List.getD y1.2.1 (Int.toNat y1.1.1) (false,())).1,())).length:
  Int))∧
  Int.toNat y1.1.1<
  (List.set y1.2.1 (Int.toNat (q.getD (Int.toNat y1.1.1) ((0:Int),(0:Int),(0:Int),[],(0:Int),(0:Int),[],())).2.1)
  ((List.getD y1.2.1 (Int.toNat y1.1.1) (false,())).1,())).length∧
  ((0:Int)≤(q.getD (Int.toNat y1.1.1) ((0:Int),(0:Int),(0:Int),[],(0:Int),(0:Int),[],())).2.2.1∧
  (q.getD (Int.toNat y1.1.1) ((0:Int),(0:Int),(0:Int),[],(0:Int),(0:Int),[],())).2.2.1<
  (↑(List.set y1.2.1
  (Int.toNat (q.getD (Int.toNat y1.1.1) ((0:Int),(0:Int),(0:Int),[],(0:Int),(0:Int),[],())).2.1)
  ((List.getD y1.2.1 (Int.toNat y1.1.1) (false,())).1,())).length:
  Int))∧
  Int.toNat (q.getD (Int.toNat y1.1.1) ((0:Int),(0:Int),(0:Int),[],(0:Int),(0:Int),[],())).2.2.1<
  (List.set y1.2.1
  (Int.toNat (q.getD (Int.toNat y1.1.1) ((0:Int),(0:Int),(0:Int),[],(0:Int),(0:Int),[],())).2.1)
  ((List.getD y1.2.1 (Int.toNat y1.1.1) (false,())).1,())).length∧
  s0=s0∧
  I
  ((i64.wrap (y1.1.1-(1:Int)),()),
  (List.set y1.2.1
  (Int.toNat (q.getD (Int.toNat y1.1.1) ((0:Int),(0:Int),(0:Int),[],(0:Int),(0:Int),[],())).2.1)
  ((List.getD y1.2.1 (Int.toNat y1.1.1) (false,())).1,())).set
  (Int.toNat (q.getD (Int.toNat y1.1.1) ((0:Int),(0:Int),(0:Int),[],(0:Int),(0:Int),[],())).2.2.1)
  (((List.set y1.2.1
  (Int.toNat
  (q.getD (Int.toNat y1.1.1) ((0:Int),(0:Int),(0:Int),[],(0:Int),(0:Int),[],())).2.1)
  ((List.getD y1.2.1 (Int.toNat y1.1.1) (false,())).1,())).getD
  (Int.toNat y1.1.1) (false,())).1,
  ()),
  ())∧
  μ
  ((i64.wrap (y1.1.1-(1:Int)),()),
  (List.set y1.2.1
  (Int.toNat (q.getD (Int.toNat y1.1.1) ((0:Int),(0:Int),(0:Int),[],(0:Int),(0:Int),[],())).2.1)
  ((List.getD y1.2.1 (Int.toNat y1.1.1) (false,())).1,())).set
  (Int.toNat (q.getD (Int.toNat y1.1.1) ((0:Int),(0:Int),(0:Int),[],(0:Int),(0:Int),[],())).2.2.1)
  (((List.set y1.2.1
  (Int.toNat
  (q.getD (Int.toNat y1.1.1) ((0:Int),(0:Int),(0:Int),[],(0:Int),(0:Int),[],())).2.1)
  ((List.getD y1.2.1 (Int.toNat y1.1.1) (false,())).1,())).getD
  (Int.toNat y1.1.1) (false,())).1,
  ()),
  ())<
  μ y1
  else
  s0=s0∧I ((i64.wrap (y1.1.1-(1:Int)),()),y1.2.1,())∧μ ((i64.wrap (y1.1.1-(1:Int)),()),y1.2.1,())<μ y1
  else K (y1.2.1,())
theorem acv (env:EnvB prog G Θ adK) (h:∀ (q:kG),bH GU (q,())→(q.length≤(1000:Nat))→acS q fun r=>r=((Sp.negated q,()))):aG prog G wM zG:=
 aX env mixed (fn:=f268) (c:=codeOf f268) (by kernel_rfl) (by kernel_rfl) aeK (by kernel_rfl) fun ⟨q,⟨⟩⟩ hin hp=>
 Eq.mpr (by kernel_rfl) (h q hin hp)
def aeL:Hints:=Go.Fw.hints [11] [(5,⟨[],⟨[(0, .one (.sl 167 (.cons (.int .i64) (.cons (.int .i64) (.cons (.int .i64) (.cons .str (.cons (.int .i64) (.cons (.int .i64) (.cons .str .nil))))))) false)),(3, .one (.ref 705))],[]⟩,⟨[(4, .one (.int .i64))],[(705, .arr 4 (.cons .bool .nil) true)]⟩⟩)] [] [] []
def acT (q:kG) (K:List fG×Unit→Prop):Prop:=
 q.length≤(1000000:Nat)∧
 bif !Sp.jF q then K ([],())
 else
 ((0:Int)≤(↑q.length:Int)∧(↑q.length:Int)≤(↑q.length:Int)∧(↑q.length:Int)≤(↑big:Int))∧
 let s0:=((q,(),()),());
  ∃ (I:aoS→Prop),
  ∃ (μ:aoS→Nat),
  I ((i64.wrap ((↑q.length:Int)-(1:Int)),()),List.replicate (↑q.length:Int).toNat (false,()),())∧
  ∀ (y1:aoS),
  I y1→
  bif decide (y1.1.1≥(0:Int)) then
  ((0:Int)≤y1.1.1∧y1.1.1<(↑(List.length y1.2.1):Int))∧
  Int.toNat y1.1.1<List.length y1.2.1∧
  bif (List.getD y1.2.1 (Int.toNat y1.1.1) (false,())).1 then
  ((0:Int)≤y1.1.1∧y1.1.1<(↑q.length:Int))∧
  bif (q.getD (Int.toNat y1.1.1) ((0:Int),(0:Int),(0:Int),[],(0:Int),(0:Int),[],())).1==(5:Int) then
  ((0:Int)≤y1.1.1∧y1.1.1<(↑q.length:Int))∧
  ((0:Int)≤(q.getD (Int.toNat y1.1.1) ((0:Int),(0:Int),(0:Int),[],(0:Int),(0:Int),[],())).2.1∧
  (q.getD (Int.toNat y1.1.1) ((0:Int),(0:Int),(0:Int),[],(0:Int),(0:Int),[],())).2.1<(↑(List.length y1.2.1):Int))∧
  Int.toNat (q.getD (Int.toNat y1.1.1) ((0:Int),(0:Int),(0:Int),[],(0:Int),(0:Int),[],())).2.1<List.length y1.2.1∧
  s0=s0∧
  I
  ((i64.wrap (y1.1.1-(1:Int)),()),
  List.set y1.2.1
  (Int.toNat (q.getD (Int.toNat y1.1.1) ((0:Int),(0:Int),(0:Int),[],(0:Int),(0:Int),[],())).2.1) (true,()),
  ())∧
  μ
  ((i64.wrap (y1.1.1-(1:Int)),()),
  List.set y1.2.1
  (Int.toNat (q.getD (Int.toNat y1.1.1) ((0:Int),(0:Int),(0:Int),[],(0:Int),(0:Int),[],())).2.1) (true,()),
  ())<
  μ y1
  else
  bif (q.getD (Int.toNat y1.1.1) ((0:Int),(0:Int),(0:Int),[],(0:Int),(0:Int),[],())).1==(6:Int) then
  bif (q.getD (Int.toNat y1.1.1) ((0:Int),(0:Int),(0:Int),[],(0:Int),(0:Int),[],())).1==(6:Int) then
  ((0:Int)≤y1.1.1∧y1.1.1<(↑q.length:Int))∧
  ((0:Int)≤y1.1.1∧y1.1.1<(↑q.length:Int))∧
  ((0:Int)≤(q.getD (Int.toNat y1.1.1) ((0:Int),(0:Int),(0:Int),[],(0:Int),(0:Int),[],())).2.1∧
  (q.getD (Int.toNat y1.1.1) ((0:Int),(0:Int),(0:Int),[],(0:Int),(0:Int),[],())).2.1<
  (↑(List.length y1.2.1):Int))∧
  Int.toNat (q.getD (Int.toNat y1.1.1) ((0:Int),(0:Int),(0:Int),[],(0:Int),(0:Int),[],())).2.1<
  List.length y1.2.1∧
  ((0:Int)≤(q.getD (Int.toNat y1.1.1) ((0:Int),(0:Int),(0:Int),[],(0:Int),(0:Int),[],())).2.2.1∧
  (q.getD (Int.toNat y1.1.1) ((0:Int),(0:Int),(0:Int),[],(0:Int),(0:Int),[],())).2.2.1<
  (↑(List.set y1.2.1
  (Int.toNat (q.getD (Int.toNat y1.1.1) ((0:Int),(0:Int),(0:Int),[],(0:Int),(0:Int),[],())).2.1)
  (true,())).length:
  Int))∧
  Int.toNat (q.getD (Int.toNat y1.1.1) ((0:Int),(0:Int),(0:Int),[],(0:Int),(0:Int),[],())).2.2.1<
  (List.set y1.2.1
  (Int.toNat (q.getD (Int.toNat y1.1.1) ((0:Int),(0:Int),(0:Int),[],(0:Int),(0:Int),[],())).2.1)
  (true,())).length∧
  s0=s0∧
  I
  ((i64.wrap (y1.1.1-(1:Int)),()),
  (List.set y1.2.1
  (Int.toNat (q.getD (Int.toNat y1.1.1) ((0:Int),(0:Int),(0:Int),[],(0:Int),(0:Int),[],())).2.1)
  (true,())).set
  (Int.toNat (q.getD (Int.toNat y1.1.1) ((0:Int),(0:Int),(0:Int),[],(0:Int),(0:Int),[],())).2.2.1)
  (true,()),
  ())∧
  μ
  ((i64.wrap (y1.1.1-(1:Int)),()),
  (List.set y1.2.1
  (Int.toNat (q.getD (Int.toNat y1.1.1) ((0:Int),(0:Int),(0:Int),[],(0:Int),(0:Int),[],())).2.1)
  (true,())).set
  (Int.toNat (q.getD (Int.toNat y1.1.1) ((0:Int),(0:Int),(0:Int),[],(0:Int),(0:Int),[],())).2.2.1)
  (true,()),
  ())<
  μ y1
  else
  s0=s0∧
  I ((i64.wrap (y1.1.1-(1:Int)),()),y1.2.1,())∧μ ((i64.wrap (y1.1.1-(1:Int)),()),y1.2.1,())<μ y1
  else
  bif (q.getD (Int.toNat y1.1.1) ((0:Int),(0:Int),(0:Int),[],(0:Int),(0:Int),[],())).1==(7:Int) then
  ((0:Int)≤y1.1.1∧y1.1.1<(↑q.length:Int))∧
  ((0:Int)≤y1.1.1∧y1.1.1<(↑q.length:Int))∧
  ((0:Int)≤(q.getD (Int.toNat y1.1.1) ((0:Int),(0:Int),(0:Int),[],(0:Int),(0:Int),[],())).2.1∧
  (q.getD (Int.toNat y1.1.1) ((0:Int),(0:Int),(0:Int),[],(0:Int),(0:Int),[],())).2.1<
  (↑(List.length y1.2.1):Int))∧
  Int.toNat (q.getD (Int.toNat y1.1.1) ((0:Int),(0:Int),(0:Int),[],(0:Int),(0:Int),[],())).2.1<
  List.length y1.2.1∧
  ((0:Int)≤(q.getD (Int.toNat y1.1.1) ((0:Int),(0:Int),(0:Int),[],(0:Int),(0:Int),[],())).2.2.1∧
  (q.getD (Int.toNat y1.1.1) ((0:Int),(0:Int),(0:Int),[],(0:Int),(0:Int),[],())).2.2.1<
  (↑(List.set y1.2.1
  (Int.toNat (q.getD (Int.toNat y1.1.1) ((0:Int),(0:Int),(0:Int),[],(0:Int),(0:Int),[],())).2.1)
  (true,())).length:
  Int))∧
  Int.toNat (q.getD (Int.toNat y1.1.1) ((0:Int),(0:Int),(0:Int),[],(0:Int),(0:Int),[],())).2.2.1<
  (List.set y1.2.1
  (Int.toNat (q.getD (Int.toNat y1.1.1) ((0:Int),(0:Int),(0:Int),[],(0:Int),(0:Int),[],())).2.1)
  (true,())).length∧
  s0=s0∧
  I
  ((i64.wrap (y1.1.1-(1:Int)),()),
  (List.set y1.2.1
  (Int.toNat (q.getD (Int.toNat y1.1.1) ((0:Int),(0:Int),(0:Int),[],(0:Int),(0:Int),[],())).2.1)
  (true,())).set
  (Int.toNat (q.getD (Int.toNat y1.1.1) ((0:Int),(0:Int),(0:Int),[],(0:Int),(0:Int),[],())).2.2.1)
  (true,()),
  ())∧
  μ
  ((i64.wrap (y1.1.1-(1:Int)),()),
  (List.set y1.2.1
  (Int.toNat (q.getD (Int.toNat y1.1.1) ((0:Int),(0:Int),(0:Int),[],(0:Int),(0:Int),[],())).2.1)
  (true,())).set
  (Int.toNat (q.getD (Int.toNat y1.1.1) ((0:Int),(0:Int),(0:Int),[],(0:Int),(0:Int),[],())).2.2.1)
  (true,()),
  ())<
  μ y1
  else
  s0=s0∧
  I ((i64.wrap (y1.1.1-(1:Int)),()),y1.2.1,())∧μ ((i64.wrap (y1.1.1-(1:Int)),()),y1.2.1,())<μ y1
  else
  ((0:Int)≤y1.1.1∧y1.1.1<(↑q.length:Int))∧
  ((0:Int)≤y1.1.1∧y1.1.1<(↑q.length:Int))∧
  bif (q.getD (Int.toNat y1.1.1) ((0:Int),(0:Int),(0:Int),[],(0:Int),(0:Int),[],())).1==(5:Int) then
  ((0:Int)≤y1.1.1∧y1.1.1<(↑q.length:Int))∧
  ((0:Int)≤(q.getD (Int.toNat y1.1.1) ((0:Int),(0:Int),(0:Int),[],(0:Int),(0:Int),[],())).2.1∧
  (q.getD (Int.toNat y1.1.1) ((0:Int),(0:Int),(0:Int),[],(0:Int),(0:Int),[],())).2.1<
  (↑(List.length y1.2.1):Int))∧
  Int.toNat (q.getD (Int.toNat y1.1.1) ((0:Int),(0:Int),(0:Int),[],(0:Int),(0:Int),[],())).2.1<List.length y1.2.1∧
  s0=s0∧
  I
  ((i64.wrap (y1.1.1-(1:Int)),()),
  List.set y1.2.1
  (Int.toNat (q.getD (Int.toNat y1.1.1) ((0:Int),(0:Int),(0:Int),[],(0:Int),(0:Int),[],())).2.1)
  ((q.getD (Int.toNat y1.1.1) ((0:Int),(0:Int),(0:Int),[],(0:Int),(0:Int),[],())).1==(5:Int),()),
  ())∧
  μ
  ((i64.wrap (y1.1.1-(1:Int)),()),
  List.set y1.2.1
  (Int.toNat (q.getD (Int.toNat y1.1.1) ((0:Int),(0:Int),(0:Int),[],(0:Int),(0:Int),[],())).2.1)
  ((q.getD (Int.toNat y1.1.1) ((0:Int),(0:Int),(0:Int),[],(0:Int),(0:Int),[],())).1==(5:Int),()),
  ())<
  μ y1
  else
  bif (q.getD (Int.toNat y1.1.1) ((0:Int),(0:Int),(0:Int),[],(0:Int),(0:Int),[],())).1==(6:Int) then
  bif (q.getD (Int.toNat y1.1.1) ((0:Int),(0:Int),(0:Int),[],(0:Int),(0:Int),[],())).1==(6:Int) then
  ((0:Int)≤y1.1.1∧y1.1.1<(↑q.length:Int))∧
  ((0:Int)≤y1.1.1∧y1.1.1<(↑q.length:Int))∧
  ((0:Int)≤(q.getD (Int.toNat y1.1.1) ((0:Int),(0:Int),(0:Int),[],(0:Int),(0:Int),[],())).2.1∧
  (q.getD (Int.toNat y1.1.1) ((0:Int),(0:Int),(0:Int),[],(0:Int),(0:Int),[],())).2.1<
  (↑(List.length y1.2.1):Int))∧
  Int.toNat (q.getD (Int.toNat y1.1.1) ((0:Int),(0:Int),(0:Int),[],(0:Int),(0:Int),[],())).2.1<
  List.length y1.2.1∧
  ((0:Int)≤(q.getD (Int.toNat y1.1.1) ((0:Int),(0:Int),(0:Int),[],(0:Int),(0:Int),[],())).2.2.1∧
  (q.getD (Int.toNat y1.1.1) ((0:Int),(0:Int),(0:Int),[],(0:Int),(0:Int),[],())).2.2.1<
  (↑(List.set y1.2.1
  (Int.toNat (q.getD (Int.toNat y1.1.1) ((0:Int),(0:Int),(0:Int),[],(0:Int),(0:Int),[],())).2.1)
  ((q.getD (Int.toNat y1.1.1) ((0:Int),(0:Int),(0:Int),[],(0:Int),(0:Int),[],())).1==(5:Int),
  ())).length:
  Int))∧
  Int.toNat (q.getD (Int.toNat y1.1.1) ((0:Int),(0:Int),(0:Int),[],(0:Int),(0:Int),[],())).2.2.1<
  (List.set y1.2.1
  (Int.toNat (q.getD (Int.toNat y1.1.1) ((0:Int),(0:Int),(0:Int),[],(0:Int),(0:Int),[],())).2.1)
  ((q.getD (Int.toNat y1.1.1) ((0:Int),(0:Int),(0:Int),[],(0:Int),(0:Int),[],())).1==(5:Int),
  ())).length∧
  s0=s0∧
  I
  ((i64.wrap (y1.1.1-(1:Int)),()),
  (List.set y1.2.1
  (Int.toNat (q.getD (Int.toNat y1.1.1) ((0:Int),(0:Int),(0:Int),[],(0:Int),(0:Int),[],())).2.1)
  ((q.getD (Int.toNat y1.1.1) ((0:Int),(0:Int),(0:Int),[],(0:Int),(0:Int),[],())).1==(5:Int),
  ())).set
  (Int.toNat (q.getD (Int.toNat y1.1.1) ((0:Int),(0:Int),(0:Int),[],(0:Int),(0:Int),[],())).2.2.1)
  ((q.getD (Int.toNat y1.1.1) ((0:Int),(0:Int),(0:Int),[],(0:Int),(0:Int),[],())).1==(5:Int),()),
  ())∧
  μ
  ((i64.wrap (y1.1.1-(1:Int)),()),
  (List.set y1.2.1
  (Int.toNat
  (q.getD (Int.toNat y1.1.1) ((0:Int),(0:Int),(0:Int),[],(0:Int),(0:Int),[],())).2.1)
  ((q.getD (Int.toNat y1.1.1) ((0:Int),(0:Int),(0:Int),[],(0:Int),(0:Int),[],())).1==(5:Int),
  ())).set
  (Int.toNat
  (q.getD (Int.toNat y1.1.1) ((0:Int),(0:Int),(0:Int),[],(0:Int),(0:Int),[],())).2.2.1)
  ((q.getD (Int.toNat y1.1.1) ((0:Int),(0:Int),(0:Int),[],(0:Int),(0:Int),[],())).1==(5:Int),
  ()),
  ())<
  μ y1
  else
  s0=s0∧
  I ((i64.wrap (y1.1.1-(1:Int)),()),y1.2.1,())∧μ ((i64.wrap (y1.1.1-(1:Int)),()),y1.2.1,())<μ y1
  else
  bif (q.getD (Int.toNat y1.1.1) ((0:Int),(0:Int),(0:Int),[],(0:Int),(0:Int),[],())).1==(7:Int) then
  ((0:Int)≤y1.1.1∧y1.1.1<(↑q.length:Int))∧
  ((0:Int)≤y1.1.1∧y1.1.1<(↑q.length:Int))∧
  ((0:Int)≤(q.getD (Int.toNat y1.1.1) ((0:Int),(0:Int),(0:Int),[],(0:Int),(0:Int),[],())).2.1∧
  (q.getD (Int.toNat y1.1.1) ((0:Int),(0:Int),(0:Int),[],(0:Int),(0:Int),[],())).2.1<
  (↑(List.length y1.2.1):Int))∧
  Int.toNat (q.getD (Int.toNat y1.1.1) ((0:Int),(0:Int),(0:Int),[],(0:Int),(0:Int),[],())).2.1<
  List.length y1.2.1∧
  ((0:Int)≤(q.getD (Int.toNat y1.1.1) ((0:Int),(0:Int),(0:Int),[],(0:Int),(0:Int),[],())).2.2.1∧
  (q.getD (Int.toNat y1.1.1) ((0:Int),(0:Int),(0:Int),[],(0:Int),(0:Int),[],())).2.2.1<
  (↑(List.set y1.2.1
  (Int.toNat (q.getD (Int.toNat y1.1.1) ((0:Int),(0:Int),(0:Int),[],(0:Int),(0:Int),[],())).2.1)
  ((q.getD (Int.toNat y1.1.1) ((0:Int),(0:Int),(0:Int),[],(0:Int),(0:Int),[],())).1==(5:Int),
  ())).length:
  Int))∧
  Int.toNat (q.getD (Int.toNat y1.1.1) ((0:Int),(0:Int),(0:Int),[],(0:Int),(0:Int),[],())).2.2.1<
  (List.set y1.2.1
  (Int.toNat (q.getD (Int.toNat y1.1.1) ((0:Int),(0:Int),(0:Int),[],(0:Int),(0:Int),[],())).2.1)
  ((q.getD (Int.toNat y1.1.1) ((0:Int),(0:Int),(0:Int),[],(0:Int),(0:Int),[],())).1==(5:Int),
  ())).length∧
  s0=s0∧
  I
  ((i64.wrap (y1.1.1-(1:Int)),()),
  (List.set y1.2.1
  (Int.toNat (q.getD (Int.toNat y1.1.1) ((0:Int),(0:Int),(0:Int),[],(0:Int),(0:Int),[],())).2.1)
  ((q.getD (Int.toNat y1.1.1) ((0:Int),(0:Int),(0:Int),[],(0:Int),(0:Int),[],())).1==(5:Int),
  ())).set
  (Int.toNat (q.getD (Int.toNat y1.1.1) ((0:Int),(0:Int),(0:Int),[],(0:Int),(0:Int),[],())).2.2.1)
  ((q.getD (Int.toNat y1.1.1) ((0:Int),(0:Int),(0:Int),[],(0:Int),(0:Int),[],())).1==(5:Int),()),
  ())∧
  μ
  ((i64.wrap (y1.1.1-(1:Int)),()),
  (List.set y1.2.1
  (Int.toNat
  (q.getD (Int.toNat y1.1.1) ((0:Int),(0:Int),(0:Int),[],(0:Int),(0:Int),[],())).2.1)
  ((q.getD (Int.toNat y1.1.1) ((0:Int),(0:Int),(0:Int),[],(0:Int),(0:Int),[],())).1==(5:Int),
  ())).set
  (Int.toNat
  (q.getD (Int.toNat y1.1.1) ((0:Int),(0:Int),(0:Int),[],(0:Int),(0:Int),[],())).2.2.1)
  ((q.getD (Int.toNat y1.1.1) ((0:Int),(0:Int),(0:Int),[],(0:Int),(0:Int),[],())).1==(5:Int),
  ()),
  ())<
  μ y1
  else
  s0=s0∧
  I ((i64.wrap (y1.1.1-(1:Int)),()),y1.2.1,())∧μ ((i64.wrap (y1.1.1-(1:Int)),()),y1.2.1,())<μ y1
  else K (y1.2.1,())
theorem acs (env:EnvB prog G Θ adL) (h:∀ (q:kG),bH GV (q,())→(q.length≤(1000:Nat))→acT q fun r=>r=((Sp.negated q,()))):aG prog G wL zH:=
 aX env mixed (fn:=f252) (c:=codeOf f252) (by kernel_rfl) (by kernel_rfl) aeL (by kernel_rfl) fun ⟨q,⟨⟩⟩ hin hp=>
 Eq.mpr (by kernel_rfl) (h q hin hp)
def akT:Hints:=Go.Fw.hints [8] [(3,⟨[],⟨[(0, .one (.sl 167 (.cons (.int .i64) (.cons (.int .i64) (.cons (.int .i64) (.cons .str (.cons (.int .i64) (.cons (.int .i64) (.cons .str .nil))))))) false)),(1, .one (.bool)),(10, .one (.sl 4 (.cons .bool .nil) true)),(11, .one (.int .i64))],[]⟩,⟨[(5, .one (.ref 513)),(12, .one (.int .i64))],[(513, .arr 9 (.cons .str .nil) true)]⟩⟩)] [] [] []
def aiD (q:kG) (negated:Bool) (K:yw→Prop):Prop:=
 q.length≤(1000:Nat)∧
 let s0:=((q,negated,Sp.negated q,(↑(Sp.negated q).length:Int),()),());
  ∃ (I:qL×List NZ×Unit→Prop),
  ∃ (μ:qL×List NZ×Unit→Nat),
  I (((),(0:Int),()),[],())∧
  ∀ (y1:qL×List NZ×Unit),
  I y1→
  bif decide (y1.1.2.1<(↑(Sp.negated q).length:Int)) then
  ((0:Int)≤y1.1.2.1∧y1.1.2.1<(↑(Sp.negated q).length:Int))∧
  ((0:Int)≤y1.1.2.1∧y1.1.2.1<(↑q.length:Int))∧
  True∧
 let r2:=
  (q.getD (Int.toNat y1.1.2.1) ((0:Int),(0:Int),(0:Int),[],(0:Int),(0:Int),[],())).1==(8:Int)||
  (q.getD (Int.toNat y1.1.2.1) ((0:Int),(0:Int),(0:Int),[],(0:Int),(0:Int),[],())).1==(9:Int);
  bif r2 then
  bif ((Sp.negated q).getD (Int.toNat y1.1.2.1) (false,())).1==negated then
  ((0:Int)≤y1.1.2.1∧y1.1.2.1<(↑q.length:Int))∧
  List.length y1.2.1+
  [((q.getD (Int.toNat y1.1.2.1) ((0:Int),(0:Int),(0:Int),[],(0:Int),(0:Int),[],())).2.2.2.1,())].length≤
  big∧
  s0=s0∧
  I
  (((),i64.wrap (y1.1.2.1+(1:Int)),()),
  y1.2.1++[((q.getD (Int.toNat y1.1.2.1) ((0:Int),(0:Int),(0:Int),[],(0:Int),(0:Int),[],())).2.2.2.1,())],
  ())∧
  μ
  (((),i64.wrap (y1.1.2.1+(1:Int)),()),
  y1.2.1++[((q.getD (Int.toNat y1.1.2.1) ((0:Int),(0:Int),(0:Int),[],(0:Int),(0:Int),[],())).2.2.2.1,())],
  ())<
  μ y1
  else
  s0=s0∧
  I (((),i64.wrap (y1.1.2.1+(1:Int)),()),y1.2.1,())∧
  μ (((),i64.wrap (y1.1.2.1+(1:Int)),()),y1.2.1,())<μ y1
  else
  s0=s0∧
  I (((),i64.wrap (y1.1.2.1+(1:Int)),()),y1.2.1,())∧
  μ (((),i64.wrap (y1.1.2.1+(1:Int)),()),y1.2.1,())<μ y1
  else
  List.length y1.2.1≤(1000:Nat)∧
  ∀ (r3:yw),
  (r3.1.1.length≤List.length y1.2.1∧∀ (s:NZ),s∈r3.1.1↔s∈y1.2.1)→K ((r3.1.1,()),())
theorem aio (env:EnvB prog G Θ ajy) (hne:∀ x,(Md x).1→∃ t,(Md x).2 t) (h:∀ (q:kG) (negated:Bool),dh ng (q,negated,())→(q.length≤(1000:Nat))→aiD q negated fun (r:yw)=>(q.length≤(1000:Nat),fun (x:yw)=>Sp.iC x.1.1 (Sp.gV q negated)).2 r):aC prog G tH uw:=
 bI env mixed (fn:=f236) (c:=codeOf f236) (by kernel_rfl) (by kernel_rfl) akT (by kernel_rfl) hne fun ⟨q,negated,⟨⟩⟩ hin hp=>
 Eq.mpr (by kernel_rfl) (h q negated hin hp)
def aeM:Hints:=Go.Fw.hints [] [] [] [] []
def acU (q:kG) (K:yw→Prop):Prop:=
 q.length≤(1000:Nat)∧∀ (r0:yw),Sp.iC r0.1.1 (Sp.gV q false)→K ((r0.1.1,()),())
theorem acw (env:EnvB prog G Θ adM) (hne:∀ x,(IW x).1→∃ t,(IW x).2 t) (h:∀ (q:kG),dh pW (q,())→(q.length≤(1000:Nat))→acU q fun (r:yw)=>(q.length≤(1000:Nat),fun (x:yw)=>Sp.iC x.1.1 (Sp.gV q false)).2 r):aC prog G wP zI:=
 bI env mixed (fn:=f203) (c:=codeOf f203) (by kernel_rfl) (by kernel_rfl) aeM (by kernel_rfl) hne fun ⟨q,⟨⟩⟩ hin hp=>
 Eq.mpr (by kernel_rfl) (h q hin hp)
def aeN:Hints:=Go.Fw.hints [] [] [] [] []
def acV (q:kG) (K:yw→Prop):Prop:=
 q.length≤(1000:Nat)∧∀ (r0:yw),Sp.iC r0.1.1 (Sp.gV q true)→K ((r0.1.1,()),())
theorem acy (env:EnvB prog G Θ adN) (hne:∀ x,(IX x).1→∃ t,(IX x).2 t) (h:∀ (q:kG),dh pX (q,())→(q.length≤(1000:Nat))→acV q fun (r:yw)=>(q.length≤(1000:Nat),fun (x:yw)=>Sp.iC x.1.1 (Sp.gV q true)).2 r):aC prog G wO zJ:=
 bI env mixed (fn:=f204) (c:=codeOf f204) (by kernel_rfl) (by kernel_rfl) aeN (by kernel_rfl) hne fun ⟨q,⟨⟩⟩ hin hp=>
 Eq.mpr (by kernel_rfl) (h q hin hp)
def aqV:Hints:=Go.Fw.hints [34] [(2,⟨[],⟨[(0, .one (.sl 9 (.cons .str .nil) false)),(1, .one (.str))],[]⟩,⟨[(5, .one (.int .i64))],[]⟩⟩)] [] [] []
def aph (list:List NZ) (s:fK) (K:List NZ×Unit→Prop):Prop:=
 let s0:=((list,s,()),());
  ∃ (I:bG→Prop),
  ∃ (μ:bG→Nat),
  I (((0:Int),()),())∧
  ∀ (y1:bG),
  I y1→
  bif decide (y1.1.1<(↑list.length:Int)) then
  ((0:Int)≤y1.1.1∧y1.1.1<(↑list.length:Int))∧
  bif Op.bytesLess (list.getD (Int.toNat y1.1.1) ([],())).1 s then
  s0=s0∧I ((i64.wrap (y1.1.1+(1:Int)),()),())∧μ ((i64.wrap (y1.1.1+(1:Int)),()),())<μ y1
  else
  bif decide (y1.1.1<(↑list.length:Int)) then
  ((0:Int)≤y1.1.1∧y1.1.1<(↑list.length:Int))∧
  bif (list.getD (Int.toNat y1.1.1) ([],())).1==s then K (list,())
  else
  ((0:Int)≤y1.1.1∧y1.1.1≤(↑list.length:Int))∧
  (0:Nat)+(List.drop (0:Nat) (List.take (Int.toNat y1.1.1) list)).length≤big∧
  (List.drop (0:Nat) (List.take (Int.toNat y1.1.1) list)).length+[(s,())].length≤big∧
  ((0:Int)≤y1.1.1∧y1.1.1≤(↑list.length:Int))∧
  (List.drop (0:Nat) (List.take (Int.toNat y1.1.1) list)++[(s,())]).length+
  (List.drop (Int.toNat y1.1.1) (List.take list.length list)).length≤
  big∧
  K (List.drop (0:Nat) (List.take (Int.toNat y1.1.1) list)++[(s,())]++List.drop (Int.toNat y1.1.1) (List.take list.length list),())
  else
  ((0:Int)≤y1.1.1∧y1.1.1≤(↑list.length:Int))∧
  (0:Nat)+(List.drop (0:Nat) (List.take (Int.toNat y1.1.1) list)).length≤big∧
  (List.drop (0:Nat) (List.take (Int.toNat y1.1.1) list)).length+[(s,())].length≤big∧
  ((0:Int)≤y1.1.1∧y1.1.1≤(↑list.length:Int))∧
  (List.drop (0:Nat) (List.take (Int.toNat y1.1.1) list)++[(s,())]).length+
  (List.drop (Int.toNat y1.1.1) (List.take list.length list)).length≤
  big∧
  K (List.drop (0:Nat) (List.take (Int.toNat y1.1.1) list)++[(s,())]++List.drop (Int.toNat y1.1.1) (List.take list.length list),())
  else
  bif decide (y1.1.1<(↑list.length:Int)) then
  ((0:Int)≤y1.1.1∧y1.1.1<(↑list.length:Int))∧
  bif (list.getD (Int.toNat y1.1.1) ([],())).1==s then K (list,())
  else
  ((0:Int)≤y1.1.1∧y1.1.1≤(↑list.length:Int))∧
  (0:Nat)+(List.drop (0:Nat) (List.take (Int.toNat y1.1.1) list)).length≤big∧
  (List.drop (0:Nat) (List.take (Int.toNat y1.1.1) list)).length+[(s,())].length≤big∧
  ((0:Int)≤y1.1.1∧y1.1.1≤(↑list.length:Int))∧
  (List.drop (0:Nat) (List.take (Int.toNat y1.1.1) list)++[(s,())]).length+
  (List.drop (Int.toNat y1.1.1) (List.take list.length list)).length≤
  big∧
  K (List.drop (0:Nat) (List.take (Int.toNat y1.1.1) list)++[(s,())]++List.drop (Int.toNat y1.1.1) (List.take list.length list),())
  else
  ((0:Int)≤y1.1.1∧y1.1.1≤(↑list.length:Int))∧
  (0:Nat)+(List.drop (0:Nat) (List.take (Int.toNat y1.1.1) list)).length≤big∧
  (List.drop (0:Nat) (List.take (Int.toNat y1.1.1) list)).length+[(s,())].length≤big∧
  ((0:Int)≤y1.1.1∧y1.1.1≤(↑list.length:Int))∧
  (List.drop (0:Nat) (List.take (Int.toNat y1.1.1) list)++[(s,())]).length+(List.drop (Int.toNat y1.1.1) (List.take list.length list)).length≤
  big∧
  K (List.drop (0:Nat) (List.take (Int.toNat y1.1.1) list)++[(s,())]++List.drop (Int.toNat y1.1.1) (List.take list.length list),())
theorem aoP (env:EnvB prog G Θ aqn) (h:∀ (list:List NZ) (s:fK),bH Qx (list,s,())→(list.length≤(1000:Nat))→aph list s fun r=>r=((Sp.Vx list s,()))):aG prog G Ij Jk:=
 aX env mixed (fn:=f184) (c:=codeOf f184) (by kernel_rfl) (by kernel_rfl) aqV (by kernel_rfl) fun ⟨list,s,⟨⟩⟩ hin hp=>
 Eq.mpr (by kernel_rfl) (h list s hin hp)
def anp:Hints:=Go.Fw.hints [38] [(4,⟨[],⟨[(0, .one (.sl 167 (.cons (.int .i64) (.cons (.int .i64) (.cons (.int .i64) (.cons .str (.cons (.int .i64) (.cons (.int .i64) (.cons .str .nil))))))) false)),(1, .one (.bool)),(6, .one (.sl 4 (.cons .bool .nil) true))],[]⟩,⟨[(5, .one (.sl 9 (.cons .str .nil) false)),(7, .one (.int .i64))],[]⟩⟩)] [] [] []
def akU (q:kG) (under:Bool) (K:yw→Prop):Prop:=
 q.length≤(1000:Nat)∧
 let s0:=((q,under,Sp.negated q,()),());
  ∃ (I:(List NZ×jT)×Unit→Prop),
  ∃ (μ:(List NZ×jT)×Unit→Nat),
  I (([],(0:Int),()),())∧
  ∀ (y1:(List NZ×jT)×Unit),
  I y1→
  bif decide (y1.1.2.1<(↑(Sp.negated q).length:Int)) then
  ((0:Int)≤y1.1.2.1∧y1.1.2.1<(↑q.length:Int))∧
  True∧
 let r2:=
  decide ((8:Int)≤(q.getD (Int.toNat y1.1.2.1) ((0:Int),(0:Int),(0:Int),[],(0:Int),(0:Int),[],())).1)&&
  decide ((q.getD (Int.toNat y1.1.2.1) ((0:Int),(0:Int),(0:Int),[],(0:Int),(0:Int),[],())).1≤(9:Int));
  bif r2 then
  ((0:Int)≤y1.1.2.1∧y1.1.2.1<(↑(Sp.negated q).length:Int))∧
  bif ((Sp.negated q).getD (Int.toNat y1.1.2.1) (false,())).1==under then
  ((0:Int)≤y1.1.2.1∧y1.1.2.1<(↑q.length:Int))∧
  List.length y1.1.1≤(1000:Nat)∧
 let r3:=Sp.Vx y1.1.1 (q.getD (Int.toNat y1.1.2.1) ((0:Int),(0:Int),(0:Int),[],(0:Int),(0:Int),[],())).2.2.2.1;
  s0=s0∧I ((r3,i64.wrap (y1.1.2.1+(1:Int)),()),())∧μ ((r3,i64.wrap (y1.1.2.1+(1:Int)),()),())<μ y1
  else
  s0=s0∧
  I ((y1.1.1,i64.wrap (y1.1.2.1+(1:Int)),()),())∧μ ((y1.1.1,i64.wrap (y1.1.2.1+(1:Int)),()),())<μ y1
  else
  s0=s0∧
  I ((y1.1.1,i64.wrap (y1.1.2.1+(1:Int)),()),())∧μ ((y1.1.1,i64.wrap (y1.1.2.1+(1:Int)),()),())<μ y1
  else (0:Nat)+List.length y1.1.1≤big∧K ((y1.1.1,()),())
theorem akx (env:EnvB prog G Θ alq) (hne:∀ x,(Ox x).1→∃ t,(Ox x).2 t) (h:∀ (q:kG) (under:Bool),dh oV (q,under,())→(q.length≤(1000:Nat))→akU q under fun (r:yw)=>(q.length≤(1000:Nat),fun (x:yw)=>Sp.iC x.1.1 (Sp.gV q under)).2 r):aC prog G vJ wo:=
 bI env mixed (fn:=f247) (c:=codeOf f247) (by kernel_rfl) (by kernel_rfl) anp (by kernel_rfl) hne fun ⟨q,under,⟨⟩⟩ hin hp=>
 Eq.mpr (by kernel_rfl) (h q under hin hp)
def aeO:Hints:=Go.Fw.hints [] [] [] [] []
def acW (q:kG) (K:yw→Prop):Prop:=
 q.length≤(1000:Nat)∧∀ (r0:yw),Sp.iC r0.1.1 (Sp.gV q false)→K ((r0.1.1,()),())
theorem acA (env:EnvB prog G Θ adO) (hne:∀ x,(IY x).1→∃ t,(IY x).2 t) (h:∀ (q:kG),dh pY (q,())→(q.length≤(1000:Nat))→acW q fun (r:yw)=>(q.length≤(1000:Nat),fun (x:yw)=>Sp.iC x.1.1 (Sp.gV q false)).2 r):aC prog G wR zK:=
 bI env mixed (fn:=f227) (c:=codeOf f227) (by kernel_rfl) (by kernel_rfl) aeO (by kernel_rfl) hne fun ⟨q,⟨⟩⟩ hin hp=>
 Eq.mpr (by kernel_rfl) (h q hin hp)
def aeP:Hints:=Go.Fw.hints [] [] [] [] []
def acX (q:kG) (K:yw→Prop):Prop:=
 q.length≤(1000:Nat)∧∀ (r0:yw),Sp.iC r0.1.1 (Sp.gV q true)→K ((r0.1.1,()),())
theorem acC (env:EnvB prog G Θ adP) (hne:∀ x,(IZ x).1→∃ t,(IZ x).2 t) (h:∀ (q:kG),dh qc (q,())→(q.length≤(1000:Nat))→acX q fun (r:yw)=>(q.length≤(1000:Nat),fun (x:yw)=>Sp.iC x.1.1 (Sp.gV q true)).2 r):aC prog G wQ zL:=
 bI env mixed (fn:=f229) (c:=codeOf f229) (by kernel_rfl) (by kernel_rfl) aeP (by kernel_rfl) hne fun ⟨q,⟨⟩⟩ hin hp=>
 Eq.mpr (by kernel_rfl) (h q hin hp)
def apj:Hints:=Go.Fw.hints [] [] [] [] []
def anq (x0:fK) (x1:kG) (p10:fK) (K:fG→Prop):Prop:=
 K (x0==p10,())
theorem amX (env:EnvB prog G Θ anY) (h:∀ (x0:fK) (x1:kG) (p10:fK),bH Oy ((x0,x1,()),(p10,()),())→(True)→anq x0 x1 p10 fun r=>r=((x0==p10,()))):aG prog G xY xM:=
 aX env mixed (fn:=f251) (c:=codeOf f251) (by kernel_rfl) (by kernel_rfl) apj (by kernel_rfl) fun ⟨⟨x0,x1,⟨⟩⟩,⟨p10,⟨⟩⟩,⟨⟩⟩ hin hp=>
 Eq.mpr (by kernel_rfl) (h x0 x1 p10 hin hp)
def Gp:Hints:=Go.Fw.hints [] [(2,⟨[],⟨[(0, .one (.sl 124 (.cons .str (.cons (.sl 167 (.cons (.int .i64) (.cons (.int .i64) (.cons (.int .i64) (.cons .str (.cons (.int .i64) (.cons (.int .i64) (.cons .str .nil)))))))) .nil)) false)),(1, .fn 251 [[.str]]),(7, .one (.int .i64))],[]⟩,⟨[(8, .one (.int .i64))],[]⟩⟩)] [] [] []
def Gl (s:jf) (J5:fK) (K:jT→Prop):Prop:=
 let s0:=((s,((J5,()),()),(↑s.length:Int),()),());
  ∃ (I:bG→Prop),
  ∃ (μ:bG→Nat),
  I (((0:Int),()),())∧
  ∀ (y1:bG),
  I y1→
  bif decide (y1.1.1<(↑s.length:Int)) then
  ((0:Int)≤y1.1.1∧y1.1.1<(↑s.length:Int))∧
  True∧
 let r2:=(s.getD (Int.toNat y1.1.1) ([],[],())).1==J5;
  bif r2 then K (y1.1.1,())
  else s0=s0∧I ((i64.wrap (y1.1.1+(1:Int)),()),())∧μ ((i64.wrap (y1.1.1+(1:Int)),()),())<μ y1
  else K ((-1:Int),())
theorem Gg (env:EnvB prog G Θ Gn) (h:∀ (s:jf) (J5:fK),bH lF (s,((J5,()),()),())→(True)→Gl s J5 fun r=>r=((Sp.aT s J5,()))):aG prog G iq jl:=
 aX env mixed (fn:=f250) (c:=codeOf f250) (by kernel_rfl) (by kernel_rfl) Gp (by kernel_rfl) fun ⟨s,⟨⟨J5,⟨⟩⟩,⟨⟩⟩,⟨⟩⟩ hin hp=>
 Eq.mpr (by kernel_rfl) (h s J5 hin hp)
def asE:Hints:=Go.Fw.hints [] [] [] [] []
def aqW (d:jf) (name:fK) (K:jT→Prop):Prop:=
 True∧K (Sp.aT d name,())
theorem aqH (env:EnvB prog G Θ ard) (h:∀ (d:jf) (name:fK),bH Sv (d,name,())→(True)→aqW d name fun r=>r=((Sp.aT d name,()))):aG prog G JL J6:=
 aX env mixed (fn:=f235) (c:=codeOf f235) (by kernel_rfl) (by kernel_rfl) asE (by kernel_rfl) fun ⟨d,name,⟨⟩⟩ hin hp=>
 Eq.mpr (by kernel_rfl) (h d name hin hp)
def anr:Hints:=Go.Fw.hints [] [(2,⟨[],⟨[(0, .one (.sl 124 (.cons .str (.cons (.sl 167 (.cons (.int .i64) (.cons (.int .i64) (.cons (.int .i64) (.cons .str (.cons (.int .i64) (.cons (.int .i64) (.cons .str .nil)))))))) .nil)) false)),(1, .one (.str))],[]⟩,⟨[(5, .one (.int .i64))],[]⟩⟩)] [] [] []
def akV (d:jf) (name:fK) (K:jT→Prop):Prop:=
 let s0:=((d,name,()),());
  ∃ (I:bG→Prop),
  ∃ (μ:bG→Nat),
  I (((0:Int),()),())∧
  ∀ (y1:bG),
  I y1→
  bif decide (y1.1.1<(↑d.length:Int)) then
  ((0:Int)≤y1.1.1∧y1.1.1<(↑d.length:Int))∧
  bif (d.getD (Int.toNat y1.1.1) ([],[],())).1==name then K (y1.1.1,())
  else s0=s0∧I ((i64.wrap (y1.1.1+(1:Int)),()),())∧μ ((i64.wrap (y1.1.1+(1:Int)),()),())<μ y1
  else K ((-1:Int),())
theorem akz (env:EnvB prog G Θ alr) (h:∀ (d:jf) (name:fK),bH Me (d,name,())→(True)→akV d name fun r=>r=((Sp.aT d name,()))):aG prog G Ec EX:=
 aX env mixed (fn:=f228) (c:=codeOf f228) (by kernel_rfl) (by kernel_rfl) anr (by kernel_rfl) fun ⟨d,name,⟨⟩⟩ hin hp=>
 Eq.mpr (by kernel_rfl) (h d name hin hp)
def ag8:Hints:=Go.Fw.hints [] [(3,⟨[],⟨[(0, .one (.sl 124 (.cons .str (.cons (.sl 167 (.cons (.int .i64) (.cons (.int .i64) (.cons (.int .i64) (.cons .str (.cons (.int .i64) (.cons (.int .i64) (.cons .str .nil)))))))) .nil)) false)),(1, .one (.sl 3 (.cons (.int .i64) .nil) false)),(3, .one (.int .i64)),(13, .one (.sl 9 (.cons .str .nil) false)),(14, .one (.int .i64))],[]⟩,⟨[(9, .one (.int .i64)),(15, .one (.int .i64))],[]⟩⟩)] [] [] []
def aeQ (d:jf) (Ez:dB) (names:List NZ) (more:Int) (K:jT→Prop):Prop:=
 let s0:=((d,Ez,more,names,(↑names.length:Int),()),());
  ∃ (I:Ti→Prop),
  ∃ (μ:Ti→Nat),
  I (((0:Int),(0:Int),()),())∧
  ∀ (y1:Ti),
  I y1→
  bif decide (y1.1.2.1<(↑names.length:Int)) then
  ((0:Int)≤y1.1.2.1∧y1.1.2.1<(↑names.length:Int))∧
  True∧
 let r2:=Sp.aT d (names.getD (Int.toNat y1.1.2.1) ([],())).1;
  bif decide (r2≥(0:Int)) then
  ((0:Int)≤r2∧r2<(↑Ez.length:Int))∧
  s0=s0∧
  I
  ((if i64.wrap ((Ez.getD r2.toNat ((0:Int),())).1+more)>y1.1.1 then
  i64.wrap ((Ez.getD r2.toNat ((0:Int),())).1+more)
  else y1.1.1,
  i64.wrap (y1.1.2.1+(1:Int)),()),
  ())∧
  μ
  ((if i64.wrap ((Ez.getD r2.toNat ((0:Int),())).1+more)>y1.1.1 then
  i64.wrap ((Ez.getD r2.toNat ((0:Int),())).1+more)
  else y1.1.1,
  i64.wrap (y1.1.2.1+(1:Int)),()),
  ())<
  μ y1
  else
  s0=s0∧I ((y1.1.1,i64.wrap (y1.1.2.1+(1:Int)),()),())∧μ ((y1.1.1,i64.wrap (y1.1.2.1+(1:Int)),()),())<μ y1
  else K (y1.1.1,())
theorem aex (env:EnvB prog G Θ afr) (h:∀ (d:jf) (Ez:dB) (names:List NZ) (more:Int),bH I4 (d,Ez,names,more,())→(d.length≤Ez.length∧names.length≤(1000:Nat)∧(0:Int)≤more∧more≤(1:Int)∧∀ (x:jT),x∈Ez→(0:Int)≤x.1∧x.1≤(1000000:Int))→aeQ d Ez names more fun r=>r=((Sp.Cc d Ez more names,()))):aG prog G yX AX:=
 aX env mixed (fn:=f202) (c:=codeOf f202) (by kernel_rfl) (by kernel_rfl) ag8 (by kernel_rfl) fun ⟨d,Ez,names,more,⟨⟩⟩ hin hp=>
 Eq.mpr (by kernel_rfl) (h d Ez names more hin hp)
def aqX:Hints:=Go.Fw.hints [14] [(5,⟨[],⟨[(0, .one (.sl 124 (.cons .str (.cons (.sl 167 (.cons (.int .i64) (.cons (.int .i64) (.cons (.int .i64) (.cons .str (.cons (.int .i64) (.cons (.int .i64) (.cons .str .nil)))))))) .nil)) false)),(4, .one (.ref 897))],[]⟩,⟨[(5, .one (.bool))],[(897, .arr 3 (.cons (.int .i64) .nil) true)]⟩⟩),(8,⟨[],⟨[(0, .one (.sl 124 (.cons .str (.cons (.sl 167 (.cons (.int .i64) (.cons (.int .i64) (.cons (.int .i64) (.cons .str (.cons (.int .i64) (.cons (.int .i64) (.cons .str .nil)))))))) .nil)) false)),(4, .one (.ref 897)),(16, .one (.sl 124 (.cons .str (.cons (.sl 167 (.cons (.int .i64) (.cons (.int .i64) (.cons (.int .i64) (.cons .str (.cons (.int .i64) (.cons (.int .i64) (.cons .str .nil)))))))) .nil)) false)),(17, .one (.int .i64))],[]⟩,⟨[(5, .one (.bool)),(18, .one (.int .i64))],[(897, .arr 3 (.cons (.int .i64) .nil) true)]⟩⟩)] [] [] []
def apk (d:jf) (K:agT→Prop):Prop:=
 Sp.bY d∧
 bif !Sp.wK d then K (([],false,()),())
 else
 ((0:Int)≤(↑d.length:Int)∧(↑d.length:Int)≤(↑d.length:Int)∧(↑d.length:Int)≤(↑big:Int))∧
 let s0:=((d,(),()),());
  ∃ (I:fG×Gj→Prop),
  ∃ (μ:fG×Gj→Nat),
  I ((true,()),List.replicate (↑d.length:Int).toNat ((0:Int),()),())∧
  ∀ (y1:fG×Gj),
  I y1→
  bif y1.1.1 then
 let s2:=((d,(),d,(↑d.length:Int),()),());
  ∃ (I_1:(Bool×jT)×Gj→Prop),
  ∃ (μ_1:(Bool×jT)×Gj→Nat),
  I_1 ((false,(0:Int),()),y1.2.1,())∧
  ∀ (y3:(Bool×jT)×Gj),
  I_1 y3→
  bif decide (y3.1.2.1<(↑d.length:Int)) then
  ((0:Int)≤y3.1.2.1∧y3.1.2.1<(↑d.length:Int))∧
  List.length (d.getD (Int.toNat y3.1.2.1) ([],[],())).2.1≤(1000:Nat)∧
  ∀ (r4:yw),
  Sp.iC r4.1.1 (Sp.gV (d.getD (Int.toNat y3.1.2.1) ([],[],())).2.1 false)→
  (d.length≤List.length y3.2.1∧
  List.length r4.1.1≤(1000:Nat)∧
  (0:Int)≤(0:Int)∧(0:Int)≤(1:Int)∧∀ (x:jT),x∈y3.2.1→(0:Int)≤x.1∧x.1≤(1000000:Int))∧
 let r5:=Sp.Cc d y3.2.1 (0:Int) r4.1.1;
  List.length (d.getD (Int.toNat y3.1.2.1) ([],[],())).2.1≤(1000:Nat)∧
  ∀ (r6:yw),
  Sp.iC r6.1.1 (Sp.gV (d.getD (Int.toNat y3.1.2.1) ([],[],())).2.1 true)→
  (d.length≤List.length y3.2.1∧
  List.length r6.1.1≤(1000:Nat)∧
  (0:Int)≤(1:Int)∧
  (1:Int)≤(1:Int)∧∀ (x:jT),x∈y3.2.1→(0:Int)≤x.1∧x.1≤(1000000:Int))∧
 let r7:=Sp.Cc d y3.2.1 (1:Int) r6.1.1;
  bif decide ((if r7>r5 then r7 else r5)>(↑d.length:Int)) then K (([],false,()),())
  else
  ((0:Int)≤y3.1.2.1∧y3.1.2.1<(↑(List.length y3.2.1):Int))∧
  Int.toNat y3.1.2.1<List.length y3.2.1∧
  bif decide ((if r7>r5 then r7 else r5)>(List.getD y3.2.1 (Int.toNat y3.1.2.1) ((0:Int),())).1) then
  ((0:Int)≤y3.1.2.1∧y3.1.2.1<(↑(List.length y3.2.1):Int))∧
  Int.toNat y3.1.2.1<List.length y3.2.1∧
  s2=s2∧
  I_1
  ((true,i64.wrap (y3.1.2.1+(1:Int)),()),
  List.set y3.2.1 (Int.toNat y3.1.2.1) (if r7>r5 then r7 else r5,()),())∧
  μ_1
  ((true,i64.wrap (y3.1.2.1+(1:Int)),()),
  List.set y3.2.1 (Int.toNat y3.1.2.1) (if r7>r5 then r7 else r5,()),())<
  μ_1 y3
  else
  s2=s2∧
  I_1 ((y3.1.1,i64.wrap (y3.1.2.1+(1:Int)),()),y3.2.1,())∧
  μ_1 ((y3.1.1,i64.wrap (y3.1.2.1+(1:Int)),()),y3.2.1,())<μ_1 y3
  else s0=s0∧I ((y3.1.1,()),y3.2.1,())∧μ ((y3.1.1,()),y3.2.1,())<μ y1
  else K ((y1.2.1,true,()),())
theorem aoF (env:EnvB prog G Θ aqo) (hne:∀ x,(Sz x).1→∃ t,(Sz x).2 t) (h:∀ (d:jf),dh BO (d,())→(Sp.bY d)→apk d fun (r:agT)=>(Sp.bY d,fun (x:agT)=>x.1.2.1=Sp.ja d).2 r):aC prog G Ik Jl:=
 bI env mixed (fn:=f149) (c:=codeOf f149) (by kernel_rfl) (by kernel_rfl) aqX (by kernel_rfl) hne fun ⟨d,⟨⟩⟩ hin hp=>
 Eq.mpr (by kernel_rfl) (h d hin hp)
def aeR:Hints:=Go.Fw.hints [] [] [] [] []
def acY (d:jf) (K:fG→Prop):Prop:=
 Sp.bY d∧∀ (r0:agT),r0.1.2.1=Sp.ja d→K (r0.1.2.1,())
theorem abY (env:EnvB prog G Θ adQ) (h:∀ (d:jf),bH GX (d,())→(Sp.bY d)→acY d fun r=>r=((Sp.ja d,()))):aG prog G wS zM:=
 aX env mixed (fn:=f97) (c:=codeOf f97) (by kernel_rfl) (by kernel_rfl) aeR (by kernel_rfl) fun ⟨d,⟨⟩⟩ hin hp=>
 Eq.mpr (by kernel_rfl) (h d hin hp)
def ant:Hints:=Go.Fw.hints [13,13,27,39,65,77] [(3,⟨[],⟨[(0, .one (.sl 124 (.cons .str (.cons (.sl 167 (.cons (.int .i64) (.cons (.int .i64) (.cons (.int .i64) (.cons .str (.cons (.int .i64) (.cons (.int .i64) (.cons .str .nil)))))))) .nil)) false)),(5, .one (.ref 833))],[]⟩,⟨[(6, .one (.int .i64))],[(833, .arr 3 (.cons (.int .i64) .nil) true)]⟩⟩),(7,⟨[],⟨[(0, .one (.sl 124 (.cons .str (.cons (.sl 167 (.cons (.int .i64) (.cons (.int .i64) (.cons (.int .i64) (.cons .str (.cons (.int .i64) (.cons (.int .i64) (.cons .str .nil)))))))) .nil)) false)),(5, .one (.ref 833)),(6, .one (.int .i64)),(7, .one (.sl 9 (.cons .str .nil) true))],[]⟩,⟨[(8, .one (.int .i64))],[(833, .arr 3 (.cons (.int .i64) .nil) true)]⟩⟩),(14,⟨[],⟨[(0, .one (.sl 124 (.cons .str (.cons (.sl 167 (.cons (.int .i64) (.cons (.int .i64) (.cons (.int .i64) (.cons .str (.cons (.int .i64) (.cons (.int .i64) (.cons .str .nil)))))))) .nil)) false)),(5, .one (.ref 833)),(6, .one (.int .i64)),(10, .one (.sl 9 (.cons .str .nil) true))],[]⟩,⟨[(11, .one (.int .i64))],[(833, .arr 3 (.cons (.int .i64) .nil) true)]⟩⟩)] [] [] []
def akW (d:jf) (bC:dB) (K:Gj×Unit→Prop):Prop:=
 (0:Nat)+bC.length≤big∧
 let s0:=((d,(),()),());
  ∃ (I:jT×Gj→Prop),
  ∃ (μ:jT×Gj→Nat),
  I (((0:Int),()),bC,())∧
  ∀ (y1:jT×Gj),
  I y1→
  bif decide (y1.1.1<(↑d.length:Int)) then
  ((0:Int)≤y1.1.1∧y1.1.1<(↑d.length:Int))∧
  List.length (d.getD (Int.toNat y1.1.1) ([],[],())).2.1≤(1000:Nat)∧
  ∀ (r2:yw),
  Sp.iC r2.1.1 (Sp.gV (d.getD (Int.toNat y1.1.1) ([],[],())).2.1 false)→
 let s3:=((d,(),y1.1.1,r2.1.1,()),());
  ∃ (I_1:jT×Gj→Prop),
  ∃ (μ_1:jT×Gj→Nat),
  I_1 (((0:Int),()),y1.2.1,())∧
  ∀ (y4:jT×Gj),
  I_1 y4→
  bif decide (y4.1.1<(↑(List.length r2.1.1):Int)) then
  ((0:Int)≤y4.1.1∧y4.1.1<(↑(List.length r2.1.1):Int))∧
  True∧
 let r5:=Sp.aT d (List.getD r2.1.1 (Int.toNat y4.1.1) ([],())).1;
  bif decide (r5≥(0:Int)) then
  ((0:Int)≤r5∧r5<(↑(List.length y4.2.1):Int))∧
  r5.toNat<List.length y4.2.1∧
  ((0:Int)≤y1.1.1∧y1.1.1<(↑(List.length y4.2.1):Int))∧
  Int.toNat y1.1.1<List.length y4.2.1∧
  bif
  decide
  ((List.getD y4.2.1 r5.toNat ((0:Int),())).1>(List.getD y4.2.1 (Int.toNat y1.1.1) ((0:Int),())).1) then
  ((0:Int)≤r5∧r5<(↑(List.length y4.2.1):Int))∧
  r5.toNat<List.length y4.2.1∧
  ((0:Int)≤y1.1.1∧y1.1.1<(↑(List.length y4.2.1):Int))∧
  Int.toNat y1.1.1<List.length y4.2.1∧
  s3=s3∧
  I_1
  ((i64.wrap (y4.1.1+(1:Int)),()),
  List.set y4.2.1 (Int.toNat y1.1.1) ((List.getD y4.2.1 r5.toNat ((0:Int),())).1,()),())∧
  μ_1
  ((i64.wrap (y4.1.1+(1:Int)),()),
  List.set y4.2.1 (Int.toNat y1.1.1) ((List.getD y4.2.1 r5.toNat ((0:Int),())).1,()),())<
  μ_1 y4
  else
  s3=s3∧
  I_1 ((i64.wrap (y4.1.1+(1:Int)),()),y4.2.1,())∧
  μ_1 ((i64.wrap (y4.1.1+(1:Int)),()),y4.2.1,())<μ_1 y4
  else
  s3=s3∧
  I_1 ((i64.wrap (y4.1.1+(1:Int)),()),y4.2.1,())∧
  μ_1 ((i64.wrap (y4.1.1+(1:Int)),()),y4.2.1,())<μ_1 y4
  else
  ((0:Int)≤y1.1.1∧y1.1.1<(↑d.length:Int))∧
  List.length (d.getD (Int.toNat y1.1.1) ([],[],())).2.1≤(1000:Nat)∧
  ∀ (r6:yw),
  Sp.iC r6.1.1 (Sp.gV (d.getD (Int.toNat y1.1.1) ([],[],())).2.1 true)→
 let s7:=((d,(),y1.1.1,r6.1.1,()),());
  ∃ (I_2:jT×Gj→Prop),
  ∃ (μ_2:jT×Gj→Nat),
  I_2 (((0:Int),()),y4.2.1,())∧
  ∀ (y8:jT×Gj),
  I_2 y8→
  bif decide (y8.1.1<(↑(List.length r6.1.1):Int)) then
  ((0:Int)≤y8.1.1∧y8.1.1<(↑(List.length r6.1.1):Int))∧
  True∧
 let r9:=Sp.aT d (List.getD r6.1.1 (Int.toNat y8.1.1) ([],())).1;
  bif decide (r9≥(0:Int)) then
  ((0:Int)≤r9∧r9<(↑(List.length y8.2.1):Int))∧
  r9.toNat<List.length y8.2.1∧
  ((0:Int)≤y1.1.1∧y1.1.1<(↑(List.length y8.2.1):Int))∧
  Int.toNat y1.1.1<List.length y8.2.1∧
  bif
  decide
  (i64.wrap ((List.getD y8.2.1 r9.toNat ((0:Int),())).1+(1:Int))>
  (List.getD y8.2.1 (Int.toNat y1.1.1) ((0:Int),())).1) then
  ((0:Int)≤r9∧r9<(↑(List.length y8.2.1):Int))∧
  r9.toNat<List.length y8.2.1∧
  ((0:Int)≤y1.1.1∧y1.1.1<(↑(List.length y8.2.1):Int))∧
  Int.toNat y1.1.1<List.length y8.2.1∧
  s7=s7∧
  I_2
  ((i64.wrap (y8.1.1+(1:Int)),()),
  List.set y8.2.1 (Int.toNat y1.1.1)
  (i64.wrap ((List.getD y8.2.1 r9.toNat ((0:Int),())).1+(1:Int)),()),
  ())∧
  μ_2
  ((i64.wrap (y8.1.1+(1:Int)),()),
  List.set y8.2.1 (Int.toNat y1.1.1)
  (i64.wrap ((List.getD y8.2.1 r9.toNat ((0:Int),())).1+(1:Int)),()),
  ())<
  μ_2 y8
  else
  s7=s7∧
  I_2 ((i64.wrap (y8.1.1+(1:Int)),()),y8.2.1,())∧
  μ_2 ((i64.wrap (y8.1.1+(1:Int)),()),y8.2.1,())<μ_2 y8
  else
  s7=s7∧
  I_2 ((i64.wrap (y8.1.1+(1:Int)),()),y8.2.1,())∧
  μ_2 ((i64.wrap (y8.1.1+(1:Int)),()),y8.2.1,())<μ_2 y8
  else
  s0=s0∧
  I ((i64.wrap (y1.1.1+(1:Int)),()),y8.2.1,())∧
  μ ((i64.wrap (y1.1.1+(1:Int)),()),y8.2.1,())<μ y1
  else K ((y1.2.1,()),())
theorem akA (env:EnvB prog G Θ als) (hne:∀ x,(DY x).1→∃ t,(DY x).2 t) (h:∀ (d:jf) (bC:dB),dh xO (d,bC,())→(Sp.bY d∧d.length≤(5:Nat)∧bC.length=d.length∧∀ (x:jT),x∈bC→(0:Int)≤x.1∧x.1≤(1000000:Int))→akW d bC fun (r:Gj×Unit)=>(Sp.bY d∧d.length≤(5:Nat)∧bC.length=d.length∧∀ (x:jT),x∈bC→(0:Int)≤x.1∧x.1≤(1000000:Int),
 fun (x:Gj×Unit)=>Sp.raised d bC x.1.1).2
 r):aC prog G Ed EY:=
 bI env mixed (fn:=f191) (c:=codeOf f191) (by kernel_rfl) (by kernel_rfl) ant (by kernel_rfl) hne fun ⟨d,bC,⟨⟩⟩ hin hp=>
 Eq.mpr (by kernel_rfl) (h d bC hin hp)
def apl:Hints:=Go.Fw.hints [] [(4,⟨[],⟨[(0, .one (.sl 3 (.cons (.int .i64) .nil) false)),(1, .one (.sl 3 (.cons (.int .i64) .nil) false))],[]⟩,⟨[(5, .one (.int .i64))],[]⟩⟩)] [] [] []
def anu (a:dB) (b:dB) (K:fG→Prop):Prop:=
 bif (↑a.length:Int) !=(↑b.length:Int) then K (false,())
 else
 let s0:=((a,b,()),());
  ∃ (I:bG→Prop),
  ∃ (μ:bG→Nat),
  I (((0:Int),()),())∧
  ∀ (y1:bG),
  I y1→
  bif decide (y1.1.1<(↑a.length:Int)) then
  ((0:Int)≤y1.1.1∧y1.1.1<(↑a.length:Int))∧
  ((0:Int)≤y1.1.1∧y1.1.1<(↑b.length:Int))∧
  bif (a.getD (Int.toNat y1.1.1) ((0:Int),())).1 !=(b.getD (Int.toNat y1.1.1) ((0:Int),())).1 then K (false,())
  else s0=s0∧I ((i64.wrap (y1.1.1+(1:Int)),()),())∧μ ((i64.wrap (y1.1.1+(1:Int)),()),())<μ y1
  else K (true,())
theorem amM (env:EnvB prog G Θ anZ) (h:∀ (a:dB) (b:dB),bH OA (a,b,())→(True)→anu a b fun r=>r=((decide (a=b),()))):aG prog G FK GY:=
 aX env mixed (fn:=f134) (c:=codeOf f134) (by kernel_rfl) (by kernel_rfl) apl (by kernel_rfl) fun ⟨a,b,⟨⟩⟩ hin hp=>
 Eq.mpr (by kernel_rfl) (h a b hin hp)
def aqY:Hints:=Go.Fw.hints [] [(5,⟨[],⟨[(0, .one (.sl 124 (.cons .str (.cons (.sl 167 (.cons (.int .i64) (.cons (.int .i64) (.cons (.int .i64) (.cons .str (.cons (.int .i64) (.cons (.int .i64) (.cons .str .nil)))))))) .nil)) false))],[]⟩,⟨[(4, .one (.sl 3 (.cons (.int .i64) .nil) true)),(5, .one (.int .i64))],[]⟩⟩)] [] [] []
def apm (d:jf) (K:agT→Prop):Prop:=
 Sp.bY d∧
 bif !Sp.wK d then K (([],false,()),())
 else
 ((0:Int)≤(↑d.length:Int)∧(↑d.length:Int)≤(↑d.length:Int)∧(↑d.length:Int)≤(↑big:Int))∧
 let s0:=((d,()),());
  ∃ (I:(dB×jT)×Unit→Prop),
  ∃ (μ:(dB×jT)×Unit→Nat),
  I ((List.replicate (↑d.length:Int).toNat ((0:Int),()),(0:Int),()),())∧
  ∀ (y1:(dB×jT)×Unit),
  I y1→
  bif decide (y1.1.2.1≤i64.wrap (i64.wrap ((↑d.length:Int)*(↑d.length:Int))+(1:Int))) then
  (Sp.bY d∧d.length≤(5:Nat)∧List.length y1.1.1=d.length∧∀ (x:jT),x∈y1.1.1→(0:Int)≤x.1∧x.1≤(1000000:Int))∧
  ∀ (r2:Gj×Unit),
  Sp.raised d y1.1.1 r2.1.1→
  s0=s0∧
  I ((r2.1.1,i64.wrap (y1.1.2.1+(1:Int)),()),())∧μ ((r2.1.1,i64.wrap (y1.1.2.1+(1:Int)),()),())<μ y1
  else
  (Sp.bY d∧d.length≤(5:Nat)∧List.length y1.1.1=d.length∧∀ (x:jT),x∈y1.1.1→(0:Int)≤x.1∧x.1≤(1000000:Int))∧
  ∀ (r3:Gj×Unit),
  Sp.raised d y1.1.1 r3.1.1→
  True∧
 let r4:=decide (r3.1.1=y1.1.1);
  bif !r4 then K (([],false,()),()) else K ((y1.1.1,true,()),())
theorem aoD (env:EnvB prog G Θ aqp) (hne:∀ x,(SA x).1→∃ t,(SA x).2 t) (h:∀ (d:jf),dh BP (d,())→(Sp.bY d)→apm d fun (r:agT)=>(Sp.bY d,fun (x:agT)=>x.1.2.1=Sp.ja d).2 r):aC prog G Il Jm:=
 bI env mixed (fn:=f131) (c:=codeOf f131) (by kernel_rfl) (by kernel_rfl) aqY (by kernel_rfl) hne fun ⟨d,⟨⟩⟩ hin hp=>
 Eq.mpr (by kernel_rfl) (h d hin hp)
def aeS:Hints:=Go.Fw.hints [] [] [] [] []
def acZ (d:jf) (K:fG→Prop):Prop:=
 Sp.bY d∧∀ (r0:agT),r0.1.2.1=Sp.ja d→K (r0.1.2.1,())
theorem abZ (env:EnvB prog G Θ adR) (h:∀ (d:jf),bH GZ (d,())→(Sp.bY d)→acZ d fun r=>r=((Sp.ja d,()))):aG prog G nI oH:=
 aX env mixed (fn:=f101) (c:=codeOf f101) (by kernel_rfl) (by kernel_rfl) aeS (by kernel_rfl) fun ⟨d,⟨⟩⟩ hin hp=>
 Eq.mpr (by kernel_rfl) (h d hin hp)
def WW:Hints:=Go.Fw.hints [5] [] [] [] []
def U6 (s:kG) (K:kG×Unit→Prop):Prop:=
 ∀ (g0:Bool),(g0=true→s.length=(0:Nat))→bif g0 then K ([],()) else (0:Nat)+s.length≤big∧K (s,())
theorem U0 (env:EnvB prog G Θ VL) (h:∀ (s:kG),bH AY (s,())→(s.length≤(1000:Nat))→U6 s fun r=>r=((s,()))):aG prog G o5 sN:=
 aX env mixed (fn:=f198) (c:=codeOf f198) (by kernel_rfl) (by kernel_rfl) WW (by kernel_rfl) fun ⟨s,⟨⟩⟩ hin hp=>
 Eq.mpr (by kernel_rfl) (h s hin hp)
def apn:Hints:=Go.Fw.hints [1] [] [] [] []
def anv (x0:fK) (x1:kG) (K:(fK×kG×Unit)×Unit→Prop):Prop:=
 x1.length≤(1000:Nat)∧K ((x0,x1,()),())
theorem amQ (env:EnvB prog G Θ an0) (h:∀ (x0:fK) (x1:kG),bH OB ((x0,x1,()),())→(x1.length≤(1000:Nat))→anv x0 x1 fun r=>r=(((x0,x1,()),()))):aG prog G FM G5:=
 aX env mixed (fn:=f145) (c:=codeOf f145) (by kernel_rfl) (by kernel_rfl) apn (by kernel_rfl) fun ⟨⟨x0,x1,⟨⟩⟩,⟨⟩⟩ hin hp=>
 Eq.mpr (by kernel_rfl) (h x0 x1 hin hp)
def anw:Hints:=Go.Fw.hints [6] [(3,⟨[(.slot 3 0,225,124,(.cons .str (.cons (.sl 167 (.cons (.int .i64) (.cons (.int .i64) (.cons (.int .i64) (.cons .str (.cons (.int .i64) (.cons (.int .i64) (.cons .str .nil)))))))) .nil)),false)],⟨[(7, .one (.sl 124 (.cons .str (.cons (.sl 167 (.cons (.int .i64) (.cons (.int .i64) (.cons (.int .i64) (.cons .str (.cons (.int .i64) (.cons (.int .i64) (.cons .str .nil)))))))) .nil)) false)),(8, .one (.int .i64))],[]⟩,⟨[(3, .one (.ref 225)),(9, .one (.int .i64))],[(225, .arr 124 (.cons .str (.cons (.sl 167 (.cons (.int .i64) (.cons (.int .i64) (.cons (.int .i64) (.cons .str (.cons (.int .i64) (.cons (.int .i64) (.cons .str .nil)))))))) .nil)) false)]⟩⟩)] [] [] []
def akX (d:jf) (K:Gi→Prop):Prop:=
 let s0:=((d,(↑d.length:Int),()),());
  ∃ (I:qL×Gi→Prop),
  ∃ (μ:qL×Gi→Nat),
  I (((),(0:Int),()),[],())∧
  ∀ (y1:qL×Gi),
  I y1→
  bif decide (y1.1.2.1<(↑d.length:Int)) then
  ((0:Int)≤y1.1.2.1∧y1.1.2.1<(↑d.length:Int))∧
  List.length (d.getD (Int.toNat y1.1.2.1) ([],[],())).2.1≤(1000:Nat)∧
 let r2:=(d.getD (Int.toNat y1.1.2.1) ([],[],())).1;
 let r3:=(d.getD (Int.toNat y1.1.2.1) ([],[],())).2.1;
  List.length y1.2.1+[(r2,r3,())].length≤big∧
  s0=s0∧
  I (((),i64.wrap (y1.1.2.1+(1:Int)),()),y1.2.1++[(r2,r3,())],())∧
  μ (((),i64.wrap (y1.1.2.1+(1:Int)),()),y1.2.1++[(r2,r3,())],())<μ y1
  else K (y1.2.1,())
theorem akw (env:EnvB prog G Θ alu) (h:∀ (d:jf),bH MB (d,())→(Sp.bY d)→akX d fun r=>r=((d,()))):aG prog G Ee EZ:=
 aX env mixed (fn:=f88) (c:=codeOf f88) (by kernel_rfl) (by kernel_rfl) anw (by kernel_rfl) fun ⟨d,⟨⟩⟩ hin hp=>
 Eq.mpr (by kernel_rfl) (h d hin hp)
def apo:Hints:=Go.Fw.hints [5,18] [(3,⟨[],⟨[(0, .one (.sl 124 (.cons .str (.cons (.sl 167 (.cons (.int .i64) (.cons (.int .i64) (.cons (.int .i64) (.cons .str (.cons (.int .i64) (.cons (.int .i64) (.cons .str .nil)))))))) .nil)) false))],[]⟩,⟨[(3, .one (.ref 321)),(4, .one (.int .i64))],[(321, .arr 124 (.cons .str (.cons (.sl 167 (.cons (.int .i64) (.cons (.int .i64) (.cons (.int .i64) (.cons .str (.cons (.int .i64) (.cons (.int .i64) (.cons .str .nil)))))))) .nil)) true)]⟩⟩)] [] [] []
def anx (d:jf) (K:Gi→Prop):Prop:=
 let s0:=((d,()),());
  ∃ (I:qL×Gi→Prop),
  ∃ (μ:qL×Gi→Nat),
  I (((),(0:Int),()),[],())∧
  ∀ (y1:qL×Gi),
  I y1→
  bif decide (y1.1.2.1<(↑d.length:Int)) then
  ((0:Int)≤y1.1.2.1∧y1.1.2.1<(↑d.length:Int))∧
  ((0:Int)≤y1.1.2.1∧y1.1.2.1<(↑d.length:Int))∧
  (0:Nat)+List.length (d.getD (Int.toNat y1.1.2.1) ([],[],())).2.1≤big∧
  List.length y1.2.1+[((d.getD (Int.toNat y1.1.2.1) ([],[],())).1,(d.getD (Int.toNat y1.1.2.1) ([],[],())).2.1,())].length≤big∧
  s0=s0∧
  I
  (((),i64.wrap (y1.1.2.1+(1:Int)),()),
  y1.2.1++[((d.getD (Int.toNat y1.1.2.1) ([],[],())).1,(d.getD (Int.toNat y1.1.2.1) ([],[],())).2.1,())],())∧
  μ
  (((),i64.wrap (y1.1.2.1+(1:Int)),()),
  y1.2.1++[((d.getD (Int.toNat y1.1.2.1) ([],[],())).1,(d.getD (Int.toNat y1.1.2.1) ([],[],())).2.1,())],())<
  μ y1
  else K (y1.2.1,())
theorem amR (env:EnvB prog G Θ an1) (h:∀ (d:jf),bH OC (d,())→(Sp.bY d)→anx d fun r=>r=((d,()))):aG prog G FN G6:=
 aX env mixed (fn:=f90) (c:=codeOf f90) (by kernel_rfl) (by kernel_rfl) apo (by kernel_rfl) fun ⟨d,⟨⟩⟩ hin hp=>
 Eq.mpr (by kernel_rfl) (h d hin hp)
def aeT:Hints:=Go.Fw.hints [] [] [] [] []
def ac0 (x0:fC) (x1:iw) (x2:Int) (x3:jf) (K:Tj→Prop):Prop:=
 Sp.jC (x0,x1,x2,())∧
 ∀ (r0:PG),
 (r0.1.1.1,r0.1.1.2.1,r0.1.1.2.2.1,())=(x0,x1,x2,())→Sp.bY x3∧K (((r0.1.1.1,r0.1.1.2.1,r0.1.1.2.2.1,x3,()),()),())
theorem ab2 (env:EnvB prog G Θ adS) (hne:∀ x,(I5 x).1→∃ t,(I5 x).2 t) (h:∀ (x0:fC) (x1:iw) (x2:Int) (x3:jf),dh jb ((x0,x1,x2,x3,()),())→(Sp.fV (x0,x1,x2,x3,()))→ac0 x0 x1 x2 x3 fun (r:Tj)=>(Sp.fV (x0,x1,x2,x3,()),
 fun
 (x:
 Tj)=>
 (x.1.1.1,x.1.1.2.1,x.1.1.2.2.1,x.1.1.2.2.2.1,())=(x0,x1,x2,x3,())).2
 r):aC prog G jY kC:=
 bI env mixed (fn:=f45) (c:=codeOf f45) (by kernel_rfl) (by kernel_rfl) aeT (by kernel_rfl) hne fun ⟨⟨x0,x1,x2,x3,⟨⟩⟩,⟨⟩⟩ hin hp=>
 Eq.mpr (by kernel_rfl) (h x0 x1 x2 x3 hin hp)
def anz:Hints:=Go.Fw.hints [] [] [] [] []
def akY (x0:fC) (x1:iw) (x2:Int) (x3:jf) (K:Tj→Prop):Prop:=
 Sp.jC (x0,x1,x2,())∧
 ∀ (r0:PG),
 (r0.1.1.1,r0.1.1.2.1,r0.1.1.2.2.1,())=(x0,x1,x2,())→Sp.bY x3∧K (((r0.1.1.1,r0.1.1.2.1,r0.1.1.2.2.1,x3,()),()),())
theorem akp (env:EnvB prog G Θ alv) (hne:∀ x,(OD x).1→∃ t,(OD x).2 t) (h:∀ (x0:fC) (x1:iw) (x2:Int) (x3:jf),dh kP ((x0,x1,x2,x3,()),())→(Sp.fV (x0,x1,x2,x3,()))→akY x0 x1 x2 x3 fun (r:Tj)=>(Sp.fV (x0,x1,x2,x3,()),
 fun
 (x:
 Tj)=>
 (x.1.1.1,x.1.1.2.1,x.1.1.2.2.1,x.1.1.2.2.2.1,())=(x0,x1,x2,x3,())).2
 r):aC prog G nU ni:=
 bI env mixed (fn:=f47) (c:=codeOf f47) (by kernel_rfl) (by kernel_rfl) anz (by kernel_rfl) hne fun ⟨⟨x0,x1,x2,x3,⟨⟩⟩,⟨⟩⟩ hin hp=>
 Eq.mpr (by kernel_rfl) (h x0 x1 x2 x3 hin hp)
def aeU:Hints:=Go.Fw.hints [6,6,15,19] [(3,⟨[(.slot 3 0,225,78,(.cons (.int .i64) (.cons (.sl 155 (.cons .str (.cons (.int .i64) .nil))) (.cons (.sl 56 (.cons (.int .i64) (.cons (.int .i64) (.cons .bool (.cons (.int .i64) (.cons (.sl 94 (.cons .str (.cons (.int .i64) (.cons (.int .i64) (.cons .str .nil))))) .nil)))))) (.cons (.int .i64) (.cons (.sl 124 (.cons .str (.cons (.sl 167 (.cons (.int .i64) (.cons (.int .i64) (.cons (.int .i64) (.cons .str (.cons (.int .i64) (.cons (.int .i64) (.cons .str .nil)))))))) .nil))) (.cons (.int .i64) .nil)))))),false)],⟨[(7, .one (.sl 78 (.cons (.int .i64) (.cons (.sl 155 (.cons .str (.cons (.int .i64) .nil))) (.cons (.sl 56 (.cons (.int .i64) (.cons (.int .i64) (.cons .bool (.cons (.int .i64) (.cons (.sl 94 (.cons .str (.cons (.int .i64) (.cons (.int .i64) (.cons .str .nil))))) .nil)))))) (.cons (.int .i64) (.cons (.sl 124 (.cons .str (.cons (.sl 167 (.cons (.int .i64) (.cons (.int .i64) (.cons (.int .i64) (.cons .str (.cons (.int .i64) (.cons (.int .i64) (.cons .str .nil)))))))) .nil))) (.cons (.int .i64) .nil)))))) false)),(8, .one (.int .i64))],[]⟩,⟨[(3, .one (.ref 225)),(9, .one (.int .i64))],[(225, .arr 78 (.cons (.int .i64) (.cons (.sl 155 (.cons .str (.cons (.int .i64) .nil))) (.cons (.sl 56 (.cons (.int .i64) (.cons (.int .i64) (.cons .bool (.cons (.int .i64) (.cons (.sl 94 (.cons .str (.cons (.int .i64) (.cons (.int .i64) (.cons .str .nil))))) .nil)))))) (.cons (.int .i64) (.cons (.sl 124 (.cons .str (.cons (.sl 167 (.cons (.int .i64) (.cons (.int .i64) (.cons (.int .i64) (.cons .str (.cons (.int .i64) (.cons (.int .i64) (.cons .str .nil)))))))) .nil))) (.cons (.int .i64) .nil)))))) false)]⟩⟩)] [] [] []
def ac1 (v:kJ) (K:ou→Prop):Prop:=
 let s0:=((v,(↑v.length:Int),()),());
  ∃ (I:
  qL×tX→
  Prop),
  ∃ (μ:
  qL×tX→
  Nat),
  I (((),(0:Int),()),[],())∧
  ∀
  (y1:
  qL×tX),
  I y1→
  bif decide (y1.1.2.1<(↑v.length:Int)) then
  ((0:Int)≤y1.1.2.1∧y1.1.2.1<(↑v.length:Int))∧
  Sp.fV
  ((v.getD (Int.toNat y1.1.2.1) ((0:Int),[],[],(0:Int),[],(0:Int),())).2.1,
  (v.getD (Int.toNat y1.1.2.1) ((0:Int),[],[],(0:Int),[],(0:Int),())).2.2.1,
  (v.getD (Int.toNat y1.1.2.1) ((0:Int),[],[],(0:Int),[],(0:Int),())).2.2.2.1,
  (v.getD (Int.toNat y1.1.2.1) ((0:Int),[],[],(0:Int),[],(0:Int),())).2.2.2.2.1,())∧
  ∀
  (r2:
  Tj),
  (r2.1.1.1,r2.1.1.2.1,r2.1.1.2.2.1,r2.1.1.2.2.2.1,())=
  ((v.getD (Int.toNat y1.1.2.1) ((0:Int),[],[],(0:Int),[],(0:Int),())).2.1,
  (v.getD (Int.toNat y1.1.2.1) ((0:Int),[],[],(0:Int),[],(0:Int),())).2.2.1,
  (v.getD (Int.toNat y1.1.2.1) ((0:Int),[],[],(0:Int),[],(0:Int),())).2.2.2.1,
  (v.getD (Int.toNat y1.1.2.1) ((0:Int),[],[],(0:Int),[],(0:Int),())).2.2.2.2.1,())→
  List.length y1.2.1+
  [((v.getD (Int.toNat y1.1.2.1) ((0:Int),[],[],(0:Int),[],(0:Int),())).1,r2.1.1.1,r2.1.1.2.1,r2.1.1.2.2.1,
  r2.1.1.2.2.2.1,(v.getD (Int.toNat y1.1.2.1) ((0:Int),[],[],(0:Int),[],(0:Int),())).2.2.2.2.2.1,
  ())].length≤
  big∧
  s0=s0∧
  I
  (((),i64.wrap (y1.1.2.1+(1:Int)),()),
  y1.2.1++
  [((v.getD (Int.toNat y1.1.2.1) ((0:Int),[],[],(0:Int),[],(0:Int),())).1,r2.1.1.1,r2.1.1.2.1,
  r2.1.1.2.2.1,r2.1.1.2.2.2.1,
  (v.getD (Int.toNat y1.1.2.1) ((0:Int),[],[],(0:Int),[],(0:Int),())).2.2.2.2.2.1,())],
  ())∧
  μ
  (((),i64.wrap (y1.1.2.1+(1:Int)),()),
  y1.2.1++
  [((v.getD (Int.toNat y1.1.2.1) ((0:Int),[],[],(0:Int),[],(0:Int),())).1,r2.1.1.1,r2.1.1.2.1,
  r2.1.1.2.2.1,r2.1.1.2.2.2.1,
  (v.getD (Int.toNat y1.1.2.1) ((0:Int),[],[],(0:Int),[],(0:Int),())).2.2.2.2.2.1,())],
  ())<
  μ y1
  else K ((y1.2.1,()),())
theorem ab3 (env:EnvB prog G Θ adT) (hne:∀ x,(I7 x).1→∃ t,(I7 x).2 t) (h:∀ (v:kJ),dh jc (v,())→(Sp.aH v)→ac1 v fun (r:ou)=>(Sp.aH v,
 fun
 (x:
 ou)=>
 x.1.1=v).2
 r):aC prog G jZ kD:=
 bI env mixed (fn:=f44) (c:=codeOf f44) (by kernel_rfl) (by kernel_rfl) aeU (by kernel_rfl) hne fun ⟨v,⟨⟩⟩ hin hp=>
 Eq.mpr (by kernel_rfl) (h v hin hp)
def apq:Hints:=Go.Fw.hints [5,5,23,30] [(3,⟨[],⟨[(0, .one (.sl 78 (.cons (.int .i64) (.cons (.sl 155 (.cons .str (.cons (.int .i64) .nil))) (.cons (.sl 56 (.cons (.int .i64) (.cons (.int .i64) (.cons .bool (.cons (.int .i64) (.cons (.sl 94 (.cons .str (.cons (.int .i64) (.cons (.int .i64) (.cons .str .nil))))) .nil)))))) (.cons (.int .i64) (.cons (.sl 124 (.cons .str (.cons (.sl 167 (.cons (.int .i64) (.cons (.int .i64) (.cons (.int .i64) (.cons .str (.cons (.int .i64) (.cons (.int .i64) (.cons .str .nil)))))))) .nil))) (.cons (.int .i64) .nil)))))) false))],[]⟩,⟨[(3, .one (.ref 321)),(4, .one (.int .i64))],[(321, .arr 78 (.cons (.int .i64) (.cons (.sl 155 (.cons .str (.cons (.int .i64) .nil))) (.cons (.sl 56 (.cons (.int .i64) (.cons (.int .i64) (.cons .bool (.cons (.int .i64) (.cons (.sl 94 (.cons .str (.cons (.int .i64) (.cons (.int .i64) (.cons .str .nil))))) .nil)))))) (.cons (.int .i64) (.cons (.sl 124 (.cons .str (.cons (.sl 167 (.cons (.int .i64) (.cons (.int .i64) (.cons (.int .i64) (.cons .str (.cons (.int .i64) (.cons (.int .i64) (.cons .str .nil)))))))) .nil))) (.cons (.int .i64) .nil)))))) true)]⟩⟩)] [] [] []
def anA (k:kJ) (K:ou→Prop):Prop:=
 let s0:=((k,()),());
  ∃ (I:
  qL×tX→
  Prop),
  ∃ (μ:
  qL×tX→
  Nat),
  I (((),(0:Int),()),[],())∧
  ∀
  (y1:
  qL×tX),
  I y1→
  bif decide (y1.1.2.1<(↑k.length:Int)) then
  ((0:Int)≤y1.1.2.1∧y1.1.2.1<(↑k.length:Int))∧
  ((0:Int)≤y1.1.2.1∧y1.1.2.1<(↑k.length:Int))∧
  Sp.fV
  ((k.getD (Int.toNat y1.1.2.1) ((0:Int),[],[],(0:Int),[],(0:Int),())).2.1,
  (k.getD (Int.toNat y1.1.2.1) ((0:Int),[],[],(0:Int),[],(0:Int),())).2.2.1,
  (k.getD (Int.toNat y1.1.2.1) ((0:Int),[],[],(0:Int),[],(0:Int),())).2.2.2.1,
  (k.getD (Int.toNat y1.1.2.1) ((0:Int),[],[],(0:Int),[],(0:Int),())).2.2.2.2.1,())∧
  ∀
  (r2:
  Tj),
  (r2.1.1.1,r2.1.1.2.1,r2.1.1.2.2.1,r2.1.1.2.2.2.1,())=
  ((k.getD (Int.toNat y1.1.2.1) ((0:Int),[],[],(0:Int),[],(0:Int),())).2.1,
  (k.getD (Int.toNat y1.1.2.1) ((0:Int),[],[],(0:Int),[],(0:Int),())).2.2.1,
  (k.getD (Int.toNat y1.1.2.1) ((0:Int),[],[],(0:Int),[],(0:Int),())).2.2.2.1,
  (k.getD (Int.toNat y1.1.2.1) ((0:Int),[],[],(0:Int),[],(0:Int),())).2.2.2.2.1,())→
  ((0:Int)≤y1.1.2.1∧y1.1.2.1<(↑k.length:Int))∧
  List.length y1.2.1+
  [((k.getD (Int.toNat y1.1.2.1) ((0:Int),[],[],(0:Int),[],(0:Int),())).1,r2.1.1.1,r2.1.1.2.1,
  r2.1.1.2.2.1,r2.1.1.2.2.2.1,
  (k.getD (Int.toNat y1.1.2.1) ((0:Int),[],[],(0:Int),[],(0:Int),())).2.2.2.2.2.1,())].length≤
  big∧
  s0=s0∧
  I
  (((),i64.wrap (y1.1.2.1+(1:Int)),()),
  y1.2.1++
  [((k.getD (Int.toNat y1.1.2.1) ((0:Int),[],[],(0:Int),[],(0:Int),())).1,r2.1.1.1,r2.1.1.2.1,
  r2.1.1.2.2.1,r2.1.1.2.2.2.1,
  (k.getD (Int.toNat y1.1.2.1) ((0:Int),[],[],(0:Int),[],(0:Int),())).2.2.2.2.2.1,())],
  ())∧
  μ
  (((),i64.wrap (y1.1.2.1+(1:Int)),()),
  y1.2.1++
  [((k.getD (Int.toNat y1.1.2.1) ((0:Int),[],[],(0:Int),[],(0:Int),())).1,r2.1.1.1,r2.1.1.2.1,
  r2.1.1.2.2.1,r2.1.1.2.2.2.1,
  (k.getD (Int.toNat y1.1.2.1) ((0:Int),[],[],(0:Int),[],(0:Int),())).2.2.2.2.2.1,())],
  ())<
  μ y1
  else K ((y1.2.1,()),())
theorem amC (env:EnvB prog G Θ an2) (hne:∀ x,(Qy x).1→∃ t,(Qy x).2 t) (h:∀ (k:kJ),dh iQ (k,())→(Sp.aH k)→anA k fun (r:ou)=>(Sp.aH k,
 fun
 (x:
 ou)=>
 x.1.1=k).2
 r):aC prog G jV jy:=
 bI env mixed (fn:=f46) (c:=codeOf f46) (by kernel_rfl) (by kernel_rfl) apq (by kernel_rfl) hne fun ⟨k,⟨⟩⟩ hin hp=>
 Eq.mpr (by kernel_rfl) (h k hin hp)
def Zq:Hints:=Go.Fw.hints [] [] [] [] []
def XH (x0:fC) (x1:iw) (x2:Int) (x3:jf) (K:fG→Prop):Prop:=
 True∧
 let r0:=Sp.dF (x0,x1,x2,());
  bif r0 then Sp.bY x3∧K (Sp.ja x3,()) else K (false,())
theorem Xn (env:EnvB prog G Θ YR) (h:∀ (x0:fC) (x1:iw) (x2:Int) (x3:jf),bH Dz ((x0,x1,x2,x3,()),())→(Sp.fV (x0,x1,x2,x3,()))→XH x0 x1 x2 x3 fun r=>r=((Sp.Ai (x0,x1,x2,x3,()),()))):aG prog G rX ve:=
 aX env mixed (fn:=f55) (c:=codeOf f55) (by kernel_rfl) (by kernel_rfl) Zq (by kernel_rfl) fun ⟨⟨x0,x1,x2,x3,⟨⟩⟩,⟨⟩⟩ hin hp=>
 Eq.mpr (by kernel_rfl) (h x0 x1 x2 x3 hin hp)
def Zr:Hints:=Go.Fw.hints [] [] [] [] []
def XI (x0:fC) (x1:iw) (x2:Int) (x3:jf) (K:fG→Prop):Prop:=
 True∧
 let r0:=Sp.dF (x0,x1,x2,());
  bif r0 then Sp.bY x3∧K (Sp.ja x3,()) else K (false,())
theorem Xp (env:EnvB prog G Θ YS) (h:∀ (x0:fC) (x1:iw) (x2:Int) (x3:jf),bH DC ((x0,x1,x2,x3,()),())→(Sp.fV (x0,x1,x2,x3,()))→XI x0 x1 x2 x3 fun r=>r=((Sp.Ai (x0,x1,x2,x3,()),()))):aG prog G rY vg:=
 aX env mixed (fn:=f64) (c:=codeOf f64) (by kernel_rfl) (by kernel_rfl) Zr (by kernel_rfl) fun ⟨⟨x0,x1,x2,x3,⟨⟩⟩,⟨⟩⟩ hin hp=>
 Eq.mpr (by kernel_rfl) (h x0 x1 x2 x3 hin hp)
def XJ:Hints:=Go.Fw.hints [] [(2,⟨[],⟨[(0, .one (.sl 78 (.cons (.int .i64) (.cons (.sl 155 (.cons .str (.cons (.int .i64) .nil))) (.cons (.sl 56 (.cons (.int .i64) (.cons (.int .i64) (.cons .bool (.cons (.int .i64) (.cons (.sl 94 (.cons .str (.cons (.int .i64) (.cons (.int .i64) (.cons .str .nil))))) .nil)))))) (.cons (.int .i64) (.cons (.sl 124 (.cons .str (.cons (.sl 167 (.cons (.int .i64) (.cons (.int .i64) (.cons (.int .i64) (.cons .str (.cons (.int .i64) (.cons (.int .i64) (.cons .str .nil)))))))) .nil))) (.cons (.int .i64) .nil)))))) false)),(5, .one (.sl 78 (.cons (.int .i64) (.cons (.sl 155 (.cons .str (.cons (.int .i64) .nil))) (.cons (.sl 56 (.cons (.int .i64) (.cons (.int .i64) (.cons .bool (.cons (.int .i64) (.cons (.sl 94 (.cons .str (.cons (.int .i64) (.cons (.int .i64) (.cons .str .nil))))) .nil)))))) (.cons (.int .i64) (.cons (.sl 124 (.cons .str (.cons (.sl 167 (.cons (.int .i64) (.cons (.int .i64) (.cons (.int .i64) (.cons .str (.cons (.int .i64) (.cons (.int .i64) (.cons .str .nil)))))))) .nil))) (.cons (.int .i64) .nil)))))) false)),(6, .one (.int .i64))],[]⟩,⟨[(7, .one (.int .i64))],[]⟩⟩)] [] [] []
def WX (v:kJ) (K:fG→Prop):Prop:=
 let s0:=((v,v,(↑v.length:Int),()),());
  ∃ (I:bG→Prop),
  ∃ (μ:bG→Nat),
  I (((0:Int),()),())∧
  ∀ (y1:bG),
  I y1→
  bif decide (y1.1.1<(↑v.length:Int)) then
  ((0:Int)≤y1.1.1∧y1.1.1<(↑v.length:Int))∧
  True∧
 let r2:=
  decide ((1:Int)≤(v.getD (Int.toNat y1.1.1) ((0:Int),[],[],(0:Int),[],(0:Int),())).1)&&
  decide ((v.getD (Int.toNat y1.1.1) ((0:Int),[],[],(0:Int),[],(0:Int),())).1≤(1000000000:Int));
  bif !r2 then K (false,())
  else
  bif decide (y1.1.1>(0:Int)) then
  ((0:Int)≤i64.wrap (y1.1.1-(1:Int))∧i64.wrap (y1.1.1-(1:Int))<(↑v.length:Int))∧
  bif
  decide
  ((v.getD (i64.wrap (y1.1.1-(1:Int))).toNat ((0:Int),[],[],(0:Int),[],(0:Int),())).1≥
  (v.getD (Int.toNat y1.1.1) ((0:Int),[],[],(0:Int),[],(0:Int),())).1) then
  K (false,())
  else
  Sp.fV
  ((v.getD (Int.toNat y1.1.1) ((0:Int),[],[],(0:Int),[],(0:Int),())).2.1,
  (v.getD (Int.toNat y1.1.1) ((0:Int),[],[],(0:Int),[],(0:Int),())).2.2.1,
  (v.getD (Int.toNat y1.1.1) ((0:Int),[],[],(0:Int),[],(0:Int),())).2.2.2.1,
  (v.getD (Int.toNat y1.1.1) ((0:Int),[],[],(0:Int),[],(0:Int),())).2.2.2.2.1,())∧
 let r3:=
  Sp.Ai
  ((v.getD (Int.toNat y1.1.1) ((0:Int),[],[],(0:Int),[],(0:Int),())).2.1,
  (v.getD (Int.toNat y1.1.1) ((0:Int),[],[],(0:Int),[],(0:Int),())).2.2.1,
  (v.getD (Int.toNat y1.1.1) ((0:Int),[],[],(0:Int),[],(0:Int),())).2.2.2.1,
  (v.getD (Int.toNat y1.1.1) ((0:Int),[],[],(0:Int),[],(0:Int),())).2.2.2.2.1,());
  bif !r3 then K (false,())
  else
  True∧
 let r4:=
  decide ((0:Int)≤(v.getD (Int.toNat y1.1.1) ((0:Int),[],[],(0:Int),[],(0:Int),())).2.2.2.2.2.1)&&
  decide ((v.getD (Int.toNat y1.1.1) ((0:Int),[],[],(0:Int),[],(0:Int),())).2.2.2.2.2.1≤(99:Int));
  bif !r4 then K (false,())
  else s0=s0∧I ((i64.wrap (y1.1.1+(1:Int)),()),())∧μ ((i64.wrap (y1.1.1+(1:Int)),()),())<μ y1
  else
  Sp.fV
  ((v.getD (Int.toNat y1.1.1) ((0:Int),[],[],(0:Int),[],(0:Int),())).2.1,
  (v.getD (Int.toNat y1.1.1) ((0:Int),[],[],(0:Int),[],(0:Int),())).2.2.1,
  (v.getD (Int.toNat y1.1.1) ((0:Int),[],[],(0:Int),[],(0:Int),())).2.2.2.1,
  (v.getD (Int.toNat y1.1.1) ((0:Int),[],[],(0:Int),[],(0:Int),())).2.2.2.2.1,())∧
 let r5:=
  Sp.Ai
  ((v.getD (Int.toNat y1.1.1) ((0:Int),[],[],(0:Int),[],(0:Int),())).2.1,
  (v.getD (Int.toNat y1.1.1) ((0:Int),[],[],(0:Int),[],(0:Int),())).2.2.1,
  (v.getD (Int.toNat y1.1.1) ((0:Int),[],[],(0:Int),[],(0:Int),())).2.2.2.1,
  (v.getD (Int.toNat y1.1.1) ((0:Int),[],[],(0:Int),[],(0:Int),())).2.2.2.2.1,());
  bif !r5 then K (false,())
  else
  True∧
 let r6:=
  decide ((0:Int)≤(v.getD (Int.toNat y1.1.1) ((0:Int),[],[],(0:Int),[],(0:Int),())).2.2.2.2.2.1)&&
  decide ((v.getD (Int.toNat y1.1.1) ((0:Int),[],[],(0:Int),[],(0:Int),())).2.2.2.2.2.1≤(99:Int));
  bif !r6 then K (false,())
  else s0=s0∧I ((i64.wrap (y1.1.1+(1:Int)),()),())∧μ ((i64.wrap (y1.1.1+(1:Int)),()),())<μ y1
  else K (decide ((↑v.length:Int)≤(6:Int)),())
theorem WM (env:EnvB prog G Θ Xf) (h:∀ (v:kJ),bH Ce (v,())→(Sp.aH v)→WX v fun r=>r=((Sp.fZ v,()))):aG prog G gu gG:=
 aX env mixed (fn:=f16) (c:=codeOf f16) (by kernel_rfl) (by kernel_rfl) XJ (by kernel_rfl) fun ⟨v,⟨⟩⟩ hin hp=>
 Eq.mpr (by kernel_rfl) (h v hin hp)
def XK:Hints:=Go.Fw.hints [] [(2,⟨[],⟨[(0, .one (.sl 78 (.cons (.int .i64) (.cons (.sl 155 (.cons .str (.cons (.int .i64) .nil))) (.cons (.sl 56 (.cons (.int .i64) (.cons (.int .i64) (.cons .bool (.cons (.int .i64) (.cons (.sl 94 (.cons .str (.cons (.int .i64) (.cons (.int .i64) (.cons .str .nil))))) .nil)))))) (.cons (.int .i64) (.cons (.sl 124 (.cons .str (.cons (.sl 167 (.cons (.int .i64) (.cons (.int .i64) (.cons (.int .i64) (.cons .str (.cons (.int .i64) (.cons (.int .i64) (.cons .str .nil)))))))) .nil))) (.cons (.int .i64) .nil)))))) false))],[]⟩,⟨[(3, .one (.int .i64))],[]⟩⟩)] [] [] []
def WY (k:kJ) (K:fG→Prop):Prop:=
 let s0:=((k,()),());
  ∃ (I:bG→Prop),
  ∃ (μ:bG→Nat),
  I (((0:Int),()),())∧
  ∀ (y1:bG),
  I y1→
  bif decide (y1.1.1<(↑k.length:Int)) then
  ((0:Int)≤y1.1.1∧y1.1.1<(↑k.length:Int))∧
  True∧
 let r2:=
  decide ((1:Int)≤(k.getD (Int.toNat y1.1.1) ((0:Int),[],[],(0:Int),[],(0:Int),())).1)&&
  decide ((k.getD (Int.toNat y1.1.1) ((0:Int),[],[],(0:Int),[],(0:Int),())).1≤(1000000000:Int));
  bif !r2 then K (false,())
  else
  ((0:Int)≤y1.1.1∧y1.1.1<(↑k.length:Int))∧
  Sp.fV
  ((k.getD (Int.toNat y1.1.1) ((0:Int),[],[],(0:Int),[],(0:Int),())).2.1,
  (k.getD (Int.toNat y1.1.1) ((0:Int),[],[],(0:Int),[],(0:Int),())).2.2.1,
  (k.getD (Int.toNat y1.1.1) ((0:Int),[],[],(0:Int),[],(0:Int),())).2.2.2.1,
  (k.getD (Int.toNat y1.1.1) ((0:Int),[],[],(0:Int),[],(0:Int),())).2.2.2.2.1,())∧
 let r3:=
  Sp.Ai
  ((k.getD (Int.toNat y1.1.1) ((0:Int),[],[],(0:Int),[],(0:Int),())).2.1,
  (k.getD (Int.toNat y1.1.1) ((0:Int),[],[],(0:Int),[],(0:Int),())).2.2.1,
  (k.getD (Int.toNat y1.1.1) ((0:Int),[],[],(0:Int),[],(0:Int),())).2.2.2.1,
  (k.getD (Int.toNat y1.1.1) ((0:Int),[],[],(0:Int),[],(0:Int),())).2.2.2.2.1,());
  bif !r3 then K (false,())
  else
  ((0:Int)≤y1.1.1∧y1.1.1<(↑k.length:Int))∧
  True∧
 let r4:=
  decide ((0:Int)≤(k.getD (Int.toNat y1.1.1) ((0:Int),[],[],(0:Int),[],(0:Int),())).2.2.2.2.2.1)&&
  decide ((k.getD (Int.toNat y1.1.1) ((0:Int),[],[],(0:Int),[],(0:Int),())).2.2.2.2.2.1≤(99:Int));
  bif !r4 then K (false,())
  else
  bif decide (y1.1.1>(0:Int)) then
  ((0:Int)≤i64.wrap (y1.1.1-(1:Int))∧i64.wrap (y1.1.1-(1:Int))<(↑k.length:Int))∧
  ((0:Int)≤y1.1.1∧y1.1.1<(↑k.length:Int))∧
  bif
  decide
  ((k.getD (i64.wrap (y1.1.1-(1:Int))).toNat ((0:Int),[],[],(0:Int),[],(0:Int),())).1≥
  (k.getD (Int.toNat y1.1.1) ((0:Int),[],[],(0:Int),[],(0:Int),())).1) then
  K (false,())
  else s0=s0∧I ((i64.wrap (y1.1.1+(1:Int)),()),())∧μ ((i64.wrap (y1.1.1+(1:Int)),()),())<μ y1
  else s0=s0∧I ((i64.wrap (y1.1.1+(1:Int)),()),())∧μ ((i64.wrap (y1.1.1+(1:Int)),()),())<μ y1
  else K (decide ((↑k.length:Int)≤(6:Int)),())
theorem WN (env:EnvB prog G Θ Xg) (h:∀ (k:kJ),bH Ci (k,())→(Sp.aH k)→WY k fun r=>r=((Sp.fZ k,()))):aG prog G dY dV:=
 aX env mixed (fn:=f28) (c:=codeOf f28) (by kernel_rfl) (by kernel_rfl) XK (by kernel_rfl) fun ⟨k,⟨⟩⟩ hin hp=>
 Eq.mpr (by kernel_rfl) (h k hin hp)
def aha:Hints:=Go.Fw.hints [] [] [] [] []
def aeV (x0:Int) (x1:fC) (x2:iw) (x3:Int) (x4:jf) (x5:Int) (p10:Int) (K:fG→Prop):Prop:=
 K (x0==p10,())
theorem aed (env:EnvB prog G Θ afs) (h:∀ (x0:Int) (x1:fC) (x2:iw) (x3:Int) (x4:jf) (x5:Int) (p10:Int),bH I8 ((x0,x1,x2,x3,x4,x5,()),(p10,()),())→(True)→aeV x0 x1 x2 x3 x4 x5 p10 fun r=>r=((x0==p10,()))):aG prog G o6 qf:=
 aX env mixed (fn:=f92) (c:=codeOf f92) (by kernel_rfl) (by kernel_rfl) aha (by kernel_rfl) fun ⟨⟨x0,x1,x2,x3,x4,x5,⟨⟩⟩,⟨p10,⟨⟩⟩,⟨⟩⟩ hin hp=>
 Eq.mpr (by kernel_rfl) (h x0 x1 x2 x3 x4 x5 p10 hin hp)
def BZ:Hints:=Go.Fw.hints [] [(2,⟨[],⟨[(0, .one (.sl 78 (.cons (.int .i64) (.cons (.sl 155 (.cons .str (.cons (.int .i64) .nil))) (.cons (.sl 56 (.cons (.int .i64) (.cons (.int .i64) (.cons .bool (.cons (.int .i64) (.cons (.sl 94 (.cons .str (.cons (.int .i64) (.cons (.int .i64) (.cons .str .nil))))) .nil)))))) (.cons (.int .i64) (.cons (.sl 124 (.cons .str (.cons (.sl 167 (.cons (.int .i64) (.cons (.int .i64) (.cons (.int .i64) (.cons .str (.cons (.int .i64) (.cons (.int .i64) (.cons .str .nil)))))))) .nil))) (.cons (.int .i64) .nil)))))) false)),(1, .fn 92 [[.int .i64]]),(7, .one (.int .i64))],[]⟩,⟨[(8, .one (.int .i64))],[]⟩⟩)] [] [] []
def BF (s:kJ) (J5:Int) (K:jT→Prop):Prop:=
 let s0:=((s,((J5,()),()),(↑s.length:Int),()),());
  ∃ (I:bG→Prop),
  ∃ (μ:bG→Nat),
  I (((0:Int),()),())∧
  ∀ (y1:bG),
  I y1→
  bif decide (y1.1.1<(↑s.length:Int)) then
  ((0:Int)≤y1.1.1∧y1.1.1<(↑s.length:Int))∧
  True∧
 let r2:=(s.getD (Int.toNat y1.1.1) ((0:Int),[],[],(0:Int),[],(0:Int),())).1==J5;
  bif r2 then K (y1.1.1,())
  else s0=s0∧I ((i64.wrap (y1.1.1+(1:Int)),()),())∧μ ((i64.wrap (y1.1.1+(1:Int)),()),())<μ y1
  else K ((-1:Int),())
theorem BA (env:EnvB prog G Θ BR) (h:∀ (s:kJ) (J5:Int),bH jH (s,((J5,()),()),())→(True)→BF s J5 fun r=>r=((Sp.aB s J5,()))):aG prog G fE ig:=
 aX env mixed (fn:=f91) (c:=codeOf f91) (by kernel_rfl) (by kernel_rfl) BZ (by kernel_rfl) fun ⟨s,⟨⟨J5,⟨⟩⟩,⟨⟩⟩,⟨⟩⟩ hin hp=>
 Eq.mpr (by kernel_rfl) (h s J5 hin hp)
def akZ:Hints:=Go.Fw.hints [] [] [] [] []
def aiE (v:kJ) (number:Int) (K:jT→Prop):Prop:=
 True∧K (Sp.aB v number,())
theorem aij (env:EnvB prog G Θ ajz) (h:∀ (v:kJ) (number:Int),bH KO (v,number,())→(True)→aiE v number fun r=>r=((Sp.aB v number,()))):aG prog G tJ uy:=
 aX env mixed (fn:=f49) (c:=codeOf f49) (by kernel_rfl) (by kernel_rfl) akZ (by kernel_rfl) fun ⟨v,number,⟨⟩⟩ hin hp=>
 Eq.mpr (by kernel_rfl) (h v number hin hp)
def anB:Hints:=Go.Fw.hints [] [(2,⟨[],⟨[(0, .one (.sl 78 (.cons (.int .i64) (.cons (.sl 155 (.cons .str (.cons (.int .i64) .nil))) (.cons (.sl 56 (.cons (.int .i64) (.cons (.int .i64) (.cons .bool (.cons (.int .i64) (.cons (.sl 94 (.cons .str (.cons (.int .i64) (.cons (.int .i64) (.cons .str .nil))))) .nil)))))) (.cons (.int .i64) (.cons (.sl 124 (.cons .str (.cons (.sl 167 (.cons (.int .i64) (.cons (.int .i64) (.cons (.int .i64) (.cons .str (.cons (.int .i64) (.cons (.int .i64) (.cons .str .nil)))))))) .nil))) (.cons (.int .i64) .nil)))))) false)),(1, .one (.int .i64))],[]⟩,⟨[(5, .one (.int .i64))],[]⟩⟩)] [] [] []
def ak0 (k:kJ) (version:Int) (K:jT→Prop):Prop:=
 let s0:=((k,version,()),());
  ∃ (I:bG→Prop),
  ∃ (μ:bG→Nat),
  I (((0:Int),()),())∧
  ∀ (y1:bG),
  I y1→
  bif decide (y1.1.1<(↑k.length:Int)) then
  ((0:Int)≤y1.1.1∧y1.1.1<(↑k.length:Int))∧
  bif (k.getD (Int.toNat y1.1.1) ((0:Int),[],[],(0:Int),[],(0:Int),())).1==version then K (y1.1.1,())
  else s0=s0∧I ((i64.wrap (y1.1.1+(1:Int)),()),())∧μ ((i64.wrap (y1.1.1+(1:Int)),()),())<μ y1
  else K ((-1:Int),())
theorem akq (env:EnvB prog G Θ alx) (h:∀ (k:kJ) (version:Int),bH MC (k,version,())→(True)→ak0 k version fun r=>r=((Sp.aB k version,()))):aG prog G nV nC:=
 aX env mixed (fn:=f50) (c:=codeOf f50) (by kernel_rfl) (by kernel_rfl) anB (by kernel_rfl) fun ⟨k,version,⟨⟩⟩ hin hp=>
 Eq.mpr (by kernel_rfl) (h k version hin hp)
def ac2:Hints:=Go.Fw.hints [10] [] [] [] []
def aaT (v:kJ) (number:Int) (x0:fC) (x1:iw) (x2:Int) (x3:jf) (K:tY→Prop):Prop:=
 Sp.aH v∧
 ∀
 (r0:
 ou),
 r0.1.1=v→
 Sp.fV (x0,x1,x2,x3,())∧
 ∀
 (r1:
 Tj),
 (r1.1.1.1,r1.1.1.2.1,r1.1.1.2.2.1,r1.1.1.2.2.2.1,())=(x0,x1,x2,x3,())→
 List.length r0.1.1+[(number,r1.1.1.1,r1.1.1.2.1,r1.1.1.2.2.1,r1.1.1.2.2.2.1,(0:Int),())].length≤big∧
 Sp.aH v∧
 bif !Sp.fZ v then
 Sp.aH v∧
 ∀
 (r2:
 ou),
 r2.1.1=v→K ((r2.1.1,false,()),())
 else
 Sp.aH (r0.1.1++[(number,r1.1.1.1,r1.1.1.2.1,r1.1.1.2.2.1,r1.1.1.2.2.2.1,(0:Int),())])∧
 let r3:=Sp.fZ (r0.1.1++[(number,r1.1.1.1,r1.1.1.2.1,r1.1.1.2.2.1,r1.1.1.2.2.2.1,(0:Int),())]);
  bif !r3 then
  Sp.aH v∧
  ∀
  (r4:
  ou),
  r4.1.1=v→K ((r4.1.1,false,()),())
  else K ((r0.1.1++[(number,r1.1.1.1,r1.1.1.2.1,r1.1.1.2.2.1,r1.1.1.2.2.2.1,(0:Int),())],true,()),())
theorem aay (env:EnvB prog G Θ abf) (hne:∀ x,(G7 x).1→∃ t,(G7 x).2 t) (h:∀ (v:kJ) (number:Int) (x0:fC) (x1:iw) (x2:Int) (x3:jf),dh oI (v,number,(x0,x1,x2,x3,()),())→(Sp.aH v∧v.length≤(100:Nat)∧Sp.fV (x0,x1,x2,x3,()))→aaT v number x0 x1 x2 x3 fun (r:tY)=>(Sp.aH v∧v.length≤(100:Nat)∧Sp.fV (x0,x1,x2,x3,()),
 fun
 (x:
 tY)=>
 x.1.1=(Sp.iD v number (x0,x1,x2,x3,())).1∧x.1.2.1=(Sp.iD v number (x0,x1,x2,x3,())).2).2
 r):aC prog G vM yE:=
 bI env mixed (fn:=f9) (c:=codeOf f9) (by kernel_rfl) (by kernel_rfl) ac2 (by kernel_rfl) hne fun ⟨v,number,⟨x0,x1,x2,x3,⟨⟩⟩,⟨⟩⟩ hin hp=>
 Eq.mpr (by kernel_rfl) (h v number x0 x1 x2 x3 hin hp)
def ac3:Hints:=Go.Fw.hints [10,10,13,15,18,22,26] [] [] [] []
def aaU (k:kJ) (version:Int) (x0:fC) (x1:iw) (x2:Int) (x3:jf) (K:tY→Prop):Prop:=
 Sp.aH k∧
 ∀
 (r0:
 ou),
 r0.1.1=k→
 Sp.fV (x0,x1,x2,x3,())∧
 ∀
 (r1:
 Tj),
 (r1.1.1.1,r1.1.1.2.1,r1.1.1.2.2.1,r1.1.1.2.2.2.1,())=(x0,x1,x2,x3,())→
 List.length r0.1.1+[(version,r1.1.1.1,r1.1.1.2.1,r1.1.1.2.2.1,r1.1.1.2.2.2.1,(0:Int),())].length≤big∧
 Sp.aH k∧
 bif !Sp.fZ k then
 Sp.aH k∧
 ∀
 (r2:
 ou),
 r2.1.1=k→K ((r2.1.1,false,()),())
 else
 Sp.aH (r0.1.1++[(version,r1.1.1.1,r1.1.1.2.1,r1.1.1.2.2.1,r1.1.1.2.2.2.1,(0:Int),())])∧
 let r3:=Sp.fZ (r0.1.1++[(version,r1.1.1.1,r1.1.1.2.1,r1.1.1.2.2.1,r1.1.1.2.2.2.1,(0:Int),())]);
  bif !r3 then
  Sp.aH k∧
  ∀
  (r4:
  ou),
  r4.1.1=k→K ((r4.1.1,false,()),())
  else K ((r0.1.1++[(version,r1.1.1.1,r1.1.1.2.1,r1.1.1.2.2.1,r1.1.1.2.2.2.1,(0:Int),())],true,()),())
theorem aaz (env:EnvB prog G Θ abg) (hne:∀ x,(G8 x).1→∃ t,(G8 x).2 t) (h:∀ (k:kJ) (version:Int) (x0:fC) (x1:iw) (x2:Int) (x3:jf),dh kE (k,version,(x0,x1,x2,x3,()),())→(Sp.aH k∧k.length≤(100:Nat)∧Sp.fV (x0,x1,x2,x3,()))→aaU k version x0 x1 x2 x3 fun (r:tY)=>(Sp.aH k∧k.length≤(100:Nat)∧Sp.fV (x0,x1,x2,x3,()),
 fun
 (x:
 tY)=>
 x.1.1=(Sp.iD k version (x0,x1,x2,x3,())).1∧x.1.2.1=(Sp.iD k version (x0,x1,x2,x3,())).2).2
 r):aC prog G mD mW:=
 bI env mixed (fn:=f10) (c:=codeOf f10) (by kernel_rfl) (by kernel_rfl) ac3 (by kernel_rfl) hne fun ⟨k,version,⟨x0,x1,x2,x3,⟨⟩⟩,⟨⟩⟩ hin hp=>
 Eq.mpr (by kernel_rfl) (h k version x0 x1 x2 x3 hin hp)
def aiF:Hints:=Go.Fw.hints [9,9,12,14] [] [] [] []
def ahb (k:kJ) (version:Int) (K:tY→Prop):Prop:=
 Sp.aH k∧
 ∀
 (r0:
 ou),
 r0.1.1=k→
 True∧
 Sp.aH k∧
 bif !Sp.fZ k then K ((r0.1.1,false,()),())
 else
 bif decide (Sp.aB k version<(0:Int)) then K ((r0.1.1,false,()),())
 else
 ((0:Int)≤Sp.aB k version∧Sp.aB k version<(↑k.length:Int))∧
 bif decide ((k.getD (Sp.aB k version).toNat ((0:Int),[],[],(0:Int),[],(0:Int),())).2.2.2.2.2.1≥(99:Int)) then
 K ((r0.1.1,false,()),())
 else
 ((0:Int)≤Sp.aB k version∧Sp.aB k version<(↑(List.length r0.1.1):Int))∧
 (Sp.aB k version).toNat<List.length r0.1.1∧
 ((0:Int)≤Sp.aB k version∧Sp.aB k version<(↑(List.length r0.1.1):Int))∧
 (Sp.aB k version).toNat<List.length r0.1.1∧
 K
 ((List.set r0.1.1 (Sp.aB k version).toNat
 ((List.getD r0.1.1 (Sp.aB k version).toNat ((0:Int),[],[],(0:Int),[],(0:Int),())).1,
 (List.getD r0.1.1 (Sp.aB k version).toNat ((0:Int),[],[],(0:Int),[],(0:Int),())).2.1,
 (List.getD r0.1.1 (Sp.aB k version).toNat ((0:Int),[],[],(0:Int),[],(0:Int),())).2.2.1,
 (List.getD r0.1.1 (Sp.aB k version).toNat ((0:Int),[],[],(0:Int),[],(0:Int),())).2.2.2.1,
 (List.getD r0.1.1 (Sp.aB k version).toNat ((0:Int),[],[],(0:Int),[],(0:Int),())).2.2.2.2.1,
 i64.wrap
 ((List.getD r0.1.1 (Sp.aB k version).toNat ((0:Int),[],[],(0:Int),[],(0:Int),())).2.2.2.2.2.1+(1:Int)),
 ()),
 true,()),
 ())
theorem agB (env:EnvB prog G Θ ahM) (hne:∀ x,(KP x).1→∃ t,(KP x).2 t) (h:∀ (k:kJ) (version:Int),dh lV (k,version,())→(Sp.aH k∧k.length≤(100:Nat))→ahb k version fun (r:tY)=>(Sp.aH k∧k.length≤(100:Nat),
 fun
 (x:
 tY)=>
 x.1.1=(Sp.dJ k version (1:Int)).1∧x.1.2.1=(Sp.dJ k version (1:Int)).2).2
 r):aC prog G qE rH:=
 bI env mixed (fn:=f21) (c:=codeOf f21) (by kernel_rfl) (by kernel_rfl) aiF (by kernel_rfl) hne fun ⟨k,version,⟨⟩⟩ hin hp=>
 Eq.mpr (by kernel_rfl) (h k version hin hp)
def ahc:Hints:=Go.Fw.hints [] [] [] [] []
def aeW (v:kJ) (number:Int) (K:agS→Prop):Prop:=
 True∧
 bif decide (Sp.aB v number≥(0:Int)) then
 ((0:Int)≤Sp.aB v number∧Sp.aB v number<(↑v.length:Int))∧
 Sp.fV
 ((v.getD (Sp.aB v number).toNat ((0:Int),[],[],(0:Int),[],(0:Int),())).2.1,
 (v.getD (Sp.aB v number).toNat ((0:Int),[],[],(0:Int),[],(0:Int),())).2.2.1,
 (v.getD (Sp.aB v number).toNat ((0:Int),[],[],(0:Int),[],(0:Int),())).2.2.2.1,
 (v.getD (Sp.aB v number).toNat ((0:Int),[],[],(0:Int),[],(0:Int),())).2.2.2.2.1,())∧
 ∀
 (r0:
 Tj),
 (r0.1.1.1,r0.1.1.2.1,r0.1.1.2.2.1,r0.1.1.2.2.2.1,())=
 ((v.getD (Sp.aB v number).toNat ((0:Int),[],[],(0:Int),[],(0:Int),())).2.1,
 (v.getD (Sp.aB v number).toNat ((0:Int),[],[],(0:Int),[],(0:Int),())).2.2.1,
 (v.getD (Sp.aB v number).toNat ((0:Int),[],[],(0:Int),[],(0:Int),())).2.2.2.1,
 (v.getD (Sp.aB v number).toNat ((0:Int),[],[],(0:Int),[],(0:Int),())).2.2.2.2.1,())→
 K (((r0.1.1.1,r0.1.1.2.1,r0.1.1.2.2.1,r0.1.1.2.2.2.1,()),true,()),())
 else K ((([],[],(0:Int),[],()),false,()),())
theorem aef (env:EnvB prog G Θ aft) (hne:∀ x,(JE x).1→∃ t,(JE x).2 t) (h:∀ (v:kJ) (number:Int),dh rJ (v,number,())→(Sp.aH v)→aeW v number fun (r:agS)=>(Sp.aH v,
 fun
 (x:
 agS)=>
 (x.1.1.1,x.1.1.2.1,x.1.1.2.2.1,x.1.1.2.2.2.1,())=(Sp.jg v number).1∧x.1.2.1=(Sp.jg v number).2).2
 r):aC prog G zi AZ:=
 bI env mixed (fn:=f12) (c:=codeOf f12) (by kernel_rfl) (by kernel_rfl) ahc (by kernel_rfl) hne fun ⟨v,number,⟨⟩⟩ hin hp=>
 Eq.mpr (by kernel_rfl) (h v number hin hp)
def ahd:Hints:=Go.Fw.hints [] [] [] [] []
def aeX (k:kJ) (version:Int) (K:agS→Prop):Prop:=
 True∧
 bif decide (Sp.aB k version<(0:Int)) then K ((([],[],(0:Int),[],()),false,()),())
 else
 ((0:Int)≤Sp.aB k version∧Sp.aB k version<(↑k.length:Int))∧
 Sp.fV
 ((k.getD (Sp.aB k version).toNat ((0:Int),[],[],(0:Int),[],(0:Int),())).2.1,
 (k.getD (Sp.aB k version).toNat ((0:Int),[],[],(0:Int),[],(0:Int),())).2.2.1,
 (k.getD (Sp.aB k version).toNat ((0:Int),[],[],(0:Int),[],(0:Int),())).2.2.2.1,
 (k.getD (Sp.aB k version).toNat ((0:Int),[],[],(0:Int),[],(0:Int),())).2.2.2.2.1,())∧
 ∀
 (r0:
 Tj),
 (r0.1.1.1,r0.1.1.2.1,r0.1.1.2.2.1,r0.1.1.2.2.2.1,())=
 ((k.getD (Sp.aB k version).toNat ((0:Int),[],[],(0:Int),[],(0:Int),())).2.1,
 (k.getD (Sp.aB k version).toNat ((0:Int),[],[],(0:Int),[],(0:Int),())).2.2.1,
 (k.getD (Sp.aB k version).toNat ((0:Int),[],[],(0:Int),[],(0:Int),())).2.2.2.1,
 (k.getD (Sp.aB k version).toNat ((0:Int),[],[],(0:Int),[],(0:Int),())).2.2.2.2.1,())→
 K (((r0.1.1.1,r0.1.1.2.1,r0.1.1.2.2.1,r0.1.1.2.2.2.1,()),true,()),())
theorem aeh (env:EnvB prog G Θ afu) (hne:∀ x,(JF x).1→∃ t,(JF x).2 t) (h:∀ (k:kJ) (version:Int),dh rM (k,version,())→(Sp.aH k)→aeX k version fun (r:agS)=>(Sp.aH k,
 fun
 (x:
 agS)=>
 (x.1.1.1,x.1.1.2.1,x.1.1.2.2.1,x.1.1.2.2.2.1,())=(Sp.jg k version).1∧x.1.2.1=(Sp.jg k version).2).2
 r):aC prog G zh A7:=
 bI env mixed (fn:=f13) (c:=codeOf f13) (by kernel_rfl) (by kernel_rfl) ahd (by kernel_rfl) hne fun ⟨k,version,⟨⟩⟩ hin hp=>
 Eq.mpr (by kernel_rfl) (h k version hin hp)
def ak1:Hints:=Go.Fw.hints [] [(4,⟨[],⟨[(0, .one (.sl 167 (.cons (.int .i64) (.cons (.int .i64) (.cons (.int .i64) (.cons .str (.cons (.int .i64) (.cons (.int .i64) (.cons .str .nil))))))) false)),(1, .one (.sl 167 (.cons (.int .i64) (.cons (.int .i64) (.cons (.int .i64) (.cons .str (.cons (.int .i64) (.cons (.int .i64) (.cons .str .nil))))))) false))],[]⟩,⟨[(5, .one (.int .i64))],[]⟩⟩)] [] [] []
def aiG (a:kG) (b:kG) (K:fG→Prop):Prop:=
 bif (↑a.length:Int) !=(↑b.length:Int) then K (false,())
 else
 let s0:=((a,b,()),());
  ∃ (I:bG→Prop),
  ∃ (μ:bG→Nat),
  I (((0:Int),()),())∧
  ∀ (y1:bG),
  I y1→
  bif decide (y1.1.1<(↑a.length:Int)) then
  ((0:Int)≤y1.1.1∧y1.1.1<(↑a.length:Int))∧
  ((0:Int)≤y1.1.1∧y1.1.1<(↑b.length:Int))∧
  bif
  !((a.getD (Int.toNat y1.1.1) ((0:Int),(0:Int),(0:Int),[],(0:Int),(0:Int),[],())).1==
  (b.getD (Int.toNat y1.1.1) ((0:Int),(0:Int),(0:Int),[],(0:Int),(0:Int),[],())).1&&
  ((a.getD (Int.toNat y1.1.1) ((0:Int),(0:Int),(0:Int),[],(0:Int),(0:Int),[],())).2.1==
  (b.getD (Int.toNat y1.1.1) ((0:Int),(0:Int),(0:Int),[],(0:Int),(0:Int),[],())).2.1&&
  ((a.getD (Int.toNat y1.1.1) ((0:Int),(0:Int),(0:Int),[],(0:Int),(0:Int),[],())).2.2.1==
  (b.getD (Int.toNat y1.1.1) ((0:Int),(0:Int),(0:Int),[],(0:Int),(0:Int),[],())).2.2.1&&
  ((a.getD (Int.toNat y1.1.1) ((0:Int),(0:Int),(0:Int),[],(0:Int),(0:Int),[],())).2.2.2.1==
  (b.getD (Int.toNat y1.1.1) ((0:Int),(0:Int),(0:Int),[],(0:Int),(0:Int),[],())).2.2.2.1&&
  ((a.getD (Int.toNat y1.1.1) ((0:Int),(0:Int),(0:Int),[],(0:Int),(0:Int),[],())).2.2.2.2.1==
  (b.getD (Int.toNat y1.1.1) ((0:Int),(0:Int),(0:Int),[],(0:Int),(0:Int),[],())).2.2.2.2.1&&
  ((a.getD (Int.toNat y1.1.1) ((0:Int),(0:Int),(0:Int),[],(0:Int),(0:Int),[],())).2.2.2.2.2.1==
  (b.getD (Int.toNat y1.1.1) ((0:Int),(0:Int),(0:Int),[],(0:Int),(0:Int),[],())).2.2.2.2.2.1&&
  ((a.getD (Int.toNat y1.1.1) ((0:Int),(0:Int),(0:Int),[],(0:Int),(0:Int),[],())).2.2.2.2.2.2.1==
  (b.getD (Int.toNat y1.1.1) ((0:Int),(0:Int),(0:Int),[],(0:Int),(0:Int),[],())).2.2.2.2.2.2.1&&
  true))))))) then
  K (false,())
  else s0=s0∧I ((i64.wrap (y1.1.1+(1:Int)),()),())∧μ ((i64.wrap (y1.1.1+(1:Int)),()),())<μ y1
  else K (true,())
theorem ain (env:EnvB prog G Θ ajA) (h:∀ (a:kG) (b:kG),bH KQ (a,b,())→(True)→aiG a b fun r=>r=((decide (a=b),()))):aG prog G CQ DZ:=
 aX env mixed (fn:=f147) (c:=codeOf f147) (by kernel_rfl) (by kernel_rfl) ak1 (by kernel_rfl) fun ⟨a,b,⟨⟩⟩ hin hp=>
 Eq.mpr (by kernel_rfl) (h a b hin hp)
def apr:Hints:=Go.Fw.hints [] [] [] [] []
def anC (a0:fK) (a1:kG) (b0:fK) (b1:kG) (K:fG→Prop):Prop:=
 bif a0==b0 then
 True∧
 let r0:=decide (a1=b1);
  K (r0,())
  else K (false,())
theorem amO (env:EnvB prog G Θ an3) (h:∀ (a0:fK) (a1:kG) (b0:fK) (b1:kG),bH OI ((a0,a1,()),(b0,b1,()),())→(True)→anC a0 a1 b0 b1 fun r=>r=((decide ((a0,a1,())=(b0,b1,())),()))):aG prog G FO G9:=
 aX env mixed (fn:=f95) (c:=codeOf f95) (by kernel_rfl) (by kernel_rfl) apr (by kernel_rfl) fun ⟨⟨a0,a1,⟨⟩⟩,⟨b0,b1,⟨⟩⟩,⟨⟩⟩ hin hp=>
 Eq.mpr (by kernel_rfl) (h a0 a1 b0 b1 hin hp)
def anD:Hints:=Go.Fw.hints [] [(4,⟨[],⟨[(0, .one (.sl 124 (.cons .str (.cons (.sl 167 (.cons (.int .i64) (.cons (.int .i64) (.cons (.int .i64) (.cons .str (.cons (.int .i64) (.cons (.int .i64) (.cons .str .nil)))))))) .nil)) false)),(1, .one (.sl 124 (.cons .str (.cons (.sl 167 (.cons (.int .i64) (.cons (.int .i64) (.cons (.int .i64) (.cons .str (.cons (.int .i64) (.cons (.int .i64) (.cons .str .nil)))))))) .nil)) false))],[]⟩,⟨[(5, .one (.int .i64))],[]⟩⟩)] [] [] []
def ak2 (a:jf) (b:jf) (K:fG→Prop):Prop:=
 bif (↑a.length:Int) !=(↑b.length:Int) then K (false,())
 else
 let s0:=((a,b,()),());
  ∃ (I:bG→Prop),
  ∃ (μ:bG→Nat),
  I (((0:Int),()),())∧
  ∀ (y1:bG),
  I y1→
  bif decide (y1.1.1<(↑a.length:Int)) then
  ((0:Int)≤y1.1.1∧y1.1.1<(↑a.length:Int))∧
  ((0:Int)≤y1.1.1∧y1.1.1<(↑b.length:Int))∧
  True∧
 let r2:=
  decide
  (((a.getD (Int.toNat y1.1.1) ([],[],())).1,(a.getD (Int.toNat y1.1.1) ([],[],())).2.1,())=
  ((b.getD (Int.toNat y1.1.1) ([],[],())).1,(b.getD (Int.toNat y1.1.1) ([],[],())).2.1,()));
  bif !r2 then K (false,())
  else s0=s0∧I ((i64.wrap (y1.1.1+(1:Int)),()),())∧μ ((i64.wrap (y1.1.1+(1:Int)),()),())<μ y1
  else K (true,())
theorem akt (env:EnvB prog G Θ aly) (h:∀ (a:jf) (b:jf),bH MF (a,b,())→(True)→ak2 a b fun r=>r=((decide (a=b),()))):aG prog G Ef E5:=
 aX env mixed (fn:=f53) (c:=codeOf f53) (by kernel_rfl) (by kernel_rfl) anD (by kernel_rfl) fun ⟨a,b,⟨⟩⟩ hin hp=>
 Eq.mpr (by kernel_rfl) (h a b hin hp)
def aeY:Hints:=Go.Fw.hints [] [] [] [] []
def ac4 (a0:fC) (a1:iw) (a2:Int) (a3:jf) (b0:fC) (b1:iw) (b2:Int) (b3:jf) (K:fG→Prop):Prop:=
 True∧
 let r0:=decide ((a0,a1,a2,())=(b0,b1,b2,()));
  bif r0 then
  True∧
 let r1:=decide (a3=b3);
  K (r1,())
  else K (false,())
theorem acj (env:EnvB prog G Θ adU) (h:∀ (a0:fC) (a1:iw) (a2:Int) (a3:jf) (b0:fC) (b1:iw) (b2:Int) (b3:jf),bH He ((a0,a1,a2,a3,()),(b0,b1,b2,b3,()),())→(True)→ac4 a0 a1 a2 a3 b0 b1 b2 b3 fun r=>r=((decide ((a0,a1,a2,a3,())=(b0,b1,b2,b3,())),()))):aG prog G nM oJ:=
 aX env mixed (fn:=f15) (c:=codeOf f15) (by kernel_rfl) (by kernel_rfl) aeY (by kernel_rfl) fun ⟨⟨a0,a1,a2,a3,⟨⟩⟩,⟨b0,b1,b2,b3,⟨⟩⟩,⟨⟩⟩ hin hp=>
 Eq.mpr (by kernel_rfl) (h a0 a1 a2 a3 b0 b1 b2 b3 hin hp)
def ahe:Hints:=Go.Fw.hints [] [] [] [] []
def aeZ (a0:Int) (a1:fC) (a2:iw) (a3:Int) (a4:jf) (a5:Int) (b0:Int) (b1:fC) (b2:iw) (b3:Int) (b4:jf) (b5:Int) (K:fG→Prop):Prop:=
 bif a0==b0 then
 True∧
 let r0:=decide ((a1,a2,a3,a4,())=(b1,b2,b3,b4,()));
  bif r0 then K (a5==b5,()) else K (false,())
  else K (false,())
theorem aeu (env:EnvB prog G Θ afv) (h:∀ (a0:Int) (a1:fC) (a2:iw) (a3:Int) (a4:jf) (a5:Int) (b0:Int) (b1:fC) (b2:iw) (b3:Int) (b4:jf) (b5:Int),bH I9 ((a0,a1,a2,a3,a4,a5,()),(b0,b1,b2,b3,b4,b5,()),())→(True)→aeZ a0 a1 a2 a3 a4 a5 b0 b1 b2 b3 b4 b5 fun r=>r=((decide ((a0,a1,a2,a3,a4,a5,())=(b0,b1,b2,b3,b4,b5,())),()))):aG prog G y7 A8:=
 aX env mixed (fn:=f51) (c:=codeOf f51) (by kernel_rfl) (by kernel_rfl) ahe (by kernel_rfl) fun ⟨⟨a0,a1,a2,a3,a4,a5,⟨⟩⟩,⟨b0,b1,b2,b3,b4,b5,⟨⟩⟩,⟨⟩⟩ hin hp=>
 Eq.mpr (by kernel_rfl) (h a0 a1 a2 a3 a4 a5 b0 b1 b2 b3 b4 b5 hin hp)
def ae0:Hints:=Go.Fw.hints [] [(4,⟨[],⟨[(0, .one (.sl 78 (.cons (.int .i64) (.cons (.sl 155 (.cons .str (.cons (.int .i64) .nil))) (.cons (.sl 56 (.cons (.int .i64) (.cons (.int .i64) (.cons .bool (.cons (.int .i64) (.cons (.sl 94 (.cons .str (.cons (.int .i64) (.cons (.int .i64) (.cons .str .nil))))) .nil)))))) (.cons (.int .i64) (.cons (.sl 124 (.cons .str (.cons (.sl 167 (.cons (.int .i64) (.cons (.int .i64) (.cons (.int .i64) (.cons .str (.cons (.int .i64) (.cons (.int .i64) (.cons .str .nil)))))))) .nil))) (.cons (.int .i64) .nil)))))) false)),(1, .one (.sl 78 (.cons (.int .i64) (.cons (.sl 155 (.cons .str (.cons (.int .i64) .nil))) (.cons (.sl 56 (.cons (.int .i64) (.cons (.int .i64) (.cons .bool (.cons (.int .i64) (.cons (.sl 94 (.cons .str (.cons (.int .i64) (.cons (.int .i64) (.cons .str .nil))))) .nil)))))) (.cons (.int .i64) (.cons (.sl 124 (.cons .str (.cons (.sl 167 (.cons (.int .i64) (.cons (.int .i64) (.cons (.int .i64) (.cons .str (.cons (.int .i64) (.cons (.int .i64) (.cons .str .nil)))))))) .nil))) (.cons (.int .i64) .nil)))))) false))],[]⟩,⟨[(5, .one (.int .i64))],[]⟩⟩)] [] [] []
def ac5 (a:kJ) (b:kJ) (K:fG→Prop):Prop:=
 bif (↑a.length:Int) !=(↑b.length:Int) then K (false,())
 else
 let s0:=((a,b,()),());
  ∃ (I:bG→Prop),
  ∃ (μ:bG→Nat),
  I (((0:Int),()),())∧
  ∀ (y1:bG),
  I y1→
  bif decide (y1.1.1<(↑a.length:Int)) then
  ((0:Int)≤y1.1.1∧y1.1.1<(↑a.length:Int))∧
  ((0:Int)≤y1.1.1∧y1.1.1<(↑b.length:Int))∧
  True∧
 let r2:=
  decide
  (((a.getD (Int.toNat y1.1.1) ((0:Int),[],[],(0:Int),[],(0:Int),())).1,
  (a.getD (Int.toNat y1.1.1) ((0:Int),[],[],(0:Int),[],(0:Int),())).2.1,
  (a.getD (Int.toNat y1.1.1) ((0:Int),[],[],(0:Int),[],(0:Int),())).2.2.1,
  (a.getD (Int.toNat y1.1.1) ((0:Int),[],[],(0:Int),[],(0:Int),())).2.2.2.1,
  (a.getD (Int.toNat y1.1.1) ((0:Int),[],[],(0:Int),[],(0:Int),())).2.2.2.2.1,
  (a.getD (Int.toNat y1.1.1) ((0:Int),[],[],(0:Int),[],(0:Int),())).2.2.2.2.2.1,())=
  ((b.getD (Int.toNat y1.1.1) ((0:Int),[],[],(0:Int),[],(0:Int),())).1,
  (b.getD (Int.toNat y1.1.1) ((0:Int),[],[],(0:Int),[],(0:Int),())).2.1,
  (b.getD (Int.toNat y1.1.1) ((0:Int),[],[],(0:Int),[],(0:Int),())).2.2.1,
  (b.getD (Int.toNat y1.1.1) ((0:Int),[],[],(0:Int),[],(0:Int),())).2.2.2.1,
  (b.getD (Int.toNat y1.1.1) ((0:Int),[],[],(0:Int),[],(0:Int),())).2.2.2.2.1,
  (b.getD (Int.toNat y1.1.1) ((0:Int),[],[],(0:Int),[],(0:Int),())).2.2.2.2.2.1,()));
  bif !r2 then K (false,())
  else s0=s0∧I ((i64.wrap (y1.1.1+(1:Int)),()),())∧μ ((i64.wrap (y1.1.1+(1:Int)),()),())<μ y1
  else K (true,())
theorem ack (env:EnvB prog G Θ adV) (h:∀ (a:kJ) (b:kJ),bH Hf (a,b,())→(True)→ac5 a b fun r=>r=((decide (a=b),()))):aG prog G wW zN:=
 aX env mixed (fn:=f14) (c:=codeOf f14) (by kernel_rfl) (by kernel_rfl) ae0 (by kernel_rfl) fun ⟨a,b,⟨⟩⟩ hin hp=>
 Eq.mpr (by kernel_rfl) (h a b hin hp)
end Go.Proofs.Tryz

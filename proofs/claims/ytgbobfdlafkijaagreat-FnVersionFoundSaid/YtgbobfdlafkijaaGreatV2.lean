import Derived.Test.YtgbobfdlafkijaaGreatV1
namespace Go.Proofs.Tryz
open Go Go.Fw
set_option maxRecDepth 100000
open Go.IntKind (i64)
def adC:Hints:=Go.Fw.hints [] [] [] [] []
def ab3 (c0:dH) (c1:Int) (c2:Int) (K:rU→Prop):Prop:=
 ((0:Int)≤c1∧
 [([(100:UInt8),97],()),([(100:UInt8),98],()),([(100:UInt8),99],()),([(100:UInt8),100],()),
 ([(100:UInt8),97],()),([(100:UInt8),98],()),([(100:UInt8),99],())]≠
 [])∧
 ∀ (r0:rU),
 (0:Int)≤r0.2.1.2.1∧
 (r0.1.1,())∈
 [([(100:UInt8),97],()),([(100:UInt8),98],()),([(100:UInt8),99],()),([(100:UInt8),100],()),
 ([(100:UInt8),97],()),([(100:UInt8),98],()),([(100:UInt8),99],())]→
 K ((r0.1.1,()),(r0.2.1.1,r0.2.1.2.1,r0.2.1.2.2.1,()),())
theorem abM (env:EnvB prog G Θ acO) (hne:∀ x,(Gh x).1→∃ t,(Gh x).2 t) (h:∀ (c0:dH) (c1:Int) (c2:Int),dL pU ((c0,c1,c2,()),())→((0:Int)≤c1)→ab3 c0 c1 c2 fun (r:rU)=>((0:Int)≤c1,fun (x:rU)=>(0:Int)≤x.2.1.2.1∧x.1.1.length≤(10:Nat)).2 r):aC prog G wE yP:=
 bQ env mixed (fn:=f232) (c:=codeOf f232) (by kernel_rfl) (by kernel_rfl) adC (by kernel_rfl) hne fun ⟨⟨c0,c1,c2,⟨⟩⟩,⟨⟩⟩ hin hp=>
 Eq.mpr (by kernel_rfl) (h c0 c1 c2 hin hp)
def aj0:Hints:=Go.Fw.hints [] [] [] [] []
def aib (c0:dH) (c1:Int) (c2:Int) (K:UG×jF→Prop):Prop:=
 (0:Int)≤c1∧
 ∀ (r0:eP),
 (0:Int)≤r0.2.1.2.1∧(0:Int)≤r0.1.1∧((0:Int)<(9:Int)→r0.1.1<(9:Int))∧((9:Int)≤(0:Int)→r0.1.1=(0:Int))→
 bif r0.1.1==(0:Int) then
 K ((((1:Int),(0:Int),(0:Int),[],(0:Int),(0:Int),[],()),()),(r0.2.1.1,r0.2.1.2.1,r0.2.1.2.2.1,()),())
 else
 bif r0.1.1==(1:Int) then
 ((0:Int)≤r0.2.1.2.1∧[([(97:UInt8)],()),([(98:UInt8)],()),([(110:UInt8)],()),([(116:UInt8)],())]≠[])∧
 ∀ (r1:rU),
 (0:Int)≤r1.2.1.2.1∧(r1.1.1,())∈[([(97:UInt8)],()),([(98:UInt8)],()),([(110:UInt8)],()),([(116:UInt8)],())]→
 K ((((2:Int),(0:Int),(0:Int),r1.1.1,(0:Int),(0:Int),[],()),()),(r1.2.1.1,r1.2.1.2.1,r1.2.1.2.2.1,()),())
 else
 bif r0.1.1==(2:Int) then
 (0:Int)≤r0.2.1.2.1∧
 ∀ (r2:eP),
 (0:Int)≤r2.2.1.2.1∧(0:Int)≤r2.1.1∧((0:Int)<(4:Int)→r2.1.1<(4:Int))∧((4:Int)≤(0:Int)→r2.1.1=(0:Int))→
 True∧
 let r3:=r2.1.1;
  K ((((3:Int),(0:Int),(0:Int),[(97:UInt8)],(1:Int),r3,[],()),()),(r2.2.1.1,r2.2.1.2.1,r2.2.1.2.2.1,()),())
  else
  bif r0.1.1==(3:Int) then
  ((0:Int)≤r0.2.1.2.1∧[([(114:UInt8),101,100],()),([(98:UInt8),108,117,101],())]≠[])∧
  ∀ (r4:rU),
  (0:Int)≤r4.2.1.2.1∧
  (r4.1.1,())∈[([(114:UInt8),101,100],()),([(98:UInt8),108,117,101],())]→
  True∧
 let r5:=r4.1.1;
  K
  ((((3:Int),(0:Int),(0:Int),[(116:UInt8)],(2:Int),(0:Int),r5,()),()),(r4.2.1.1,r4.2.1.2.1,r4.2.1.2.2.1,()),
  ())
  else
  bif r0.1.1==(4:Int) then
  ((0:Int)≤r0.2.1.2.1∧[([(97:UInt8)],()),([(98:UInt8)],())]≠[])∧
  ∀ (r6:rU),
  (0:Int)≤r6.2.1.2.1∧(r6.1.1,())∈[([(97:UInt8)],()),([(98:UInt8)],())]→
  (0:Int)≤r6.2.1.2.1∧
  ∀ (r7:eP),
  (0:Int)≤r7.2.1.2.1∧(0:Int)≤r7.1.1∧((0:Int)<(3:Int)→r7.1.1<(3:Int))∧((3:Int)≤(0:Int)→r7.1.1=(0:Int))→
  True∧
 let r8:=i64.wrap ((1:Int)+r7.1.1);
  K ((((4:Int),(0:Int),(0:Int),r6.1.1,(1:Int),r8,[],()),()),(r7.2.1.1,r7.2.1.2.1,r7.2.1.2.2.1,()),())
  else
  bif r0.1.1==(5:Int) then
  bif r0.1.1==(5:Int) then
  (0:Int)≤r0.2.1.2.1∧
  ∀ (r9:rU),
  (0:Int)≤r9.2.1.2.1∧r9.1.1.length≤(10:Nat)→
  K
  ((((8:Int),(0:Int),(0:Int),r9.1.1,(0:Int),(0:Int),[],()),()),(r9.2.1.1,r9.2.1.2.1,r9.2.1.2.2.1,()),
  ())
  else
  bif r0.1.1==(7:Int) then
  (0:Int)≤r0.2.1.2.1∧
  ∀ (r10:rU),
  (0:Int)≤r10.2.1.2.1∧r10.1.1.length≤(10:Nat)→
  K
  ((((9:Int),(0:Int),(0:Int),r10.1.1,(0:Int),(0:Int),[],()),()),
  (r10.2.1.1,r10.2.1.2.1,r10.2.1.2.2.1,()),())
  else
  (0:Int)≤r0.2.1.2.1∧
  ∀ (r11:eP),
  (0:Int)≤r11.2.1.2.1∧(0:Int)≤r11.1.1∧((0:Int)<(4:Int)→r11.1.1<(4:Int))∧((4:Int)≤(0:Int)→r11.1.1=(0:Int))→
  True∧
 let r12:=r11.1.1;
  K
  ((((3:Int),(0:Int),(0:Int),[(98:UInt8)],(1:Int),r12,[],()),()),
  (r11.2.1.1,r11.2.1.2.1,r11.2.1.2.2.1,()),())
  else
  bif r0.1.1==(6:Int) then
  (0:Int)≤r0.2.1.2.1∧
  ∀ (r13:rU),
  (0:Int)≤r13.2.1.2.1∧r13.1.1.length≤(10:Nat)→
  K
  ((((8:Int),(0:Int),(0:Int),r13.1.1,(0:Int),(0:Int),[],()),()),
  (r13.2.1.1,r13.2.1.2.1,r13.2.1.2.2.1,()),())
  else
  bif r0.1.1==(7:Int) then
  (0:Int)≤r0.2.1.2.1∧
  ∀ (Q8:rU),
  (0:Int)≤Q8.2.1.2.1∧Q8.1.1.length≤(10:Nat)→
  K
  ((((9:Int),(0:Int),(0:Int),Q8.1.1,(0:Int),(0:Int),[],()),()),
  (Q8.2.1.1,Q8.2.1.2.1,Q8.2.1.2.2.1,()),())
  else
  (0:Int)≤r0.2.1.2.1∧
  ∀ (r15:eP),
  (0:Int)≤r15.2.1.2.1∧(0:Int)≤r15.1.1∧((0:Int)<(4:Int)→r15.1.1<(4:Int))∧((4:Int)≤(0:Int)→r15.1.1=(0:Int))→
  True∧
 let r16:=r15.1.1;
  K
  ((((3:Int),(0:Int),(0:Int),[(98:UInt8)],(1:Int),r16,[],()),()),
  (r15.2.1.1,r15.2.1.2.1,r15.2.1.2.2.1,()),())
theorem ahB (env:EnvB prog G Θ aiM) (hne:∀ x,(Lp x).1→∃ t,(Lp x).2 t) (h:∀ (c0:dH) (c1:Int) (c2:Int),dL nT ((c0,c1,c2,()),())→((0:Int)≤c1)→aib c0 c1 c2 fun (r:UG×jF)=>((0:Int)≤c1,fun (x:UG×jF)=>
 (0:Int)≤x.2.1.2.1∧True).2
 r):aC prog G tY tq:=
 bQ env mixed (fn:=f196) (c:=codeOf f196) (by kernel_rfl) (by kernel_rfl) aj0 (by kernel_rfl) hne fun ⟨⟨c0,c1,c2,⟨⟩⟩,⟨⟩⟩ hin hp=>
 Eq.mpr (by kernel_rfl) (h c0 c1 c2 hin hp)
def Yc:Hints:=Go.Fw.hints [34,47,54,15,19,20,23,34,40,47,54,63,71,34,47,54] [] [(3,⟨[],⟨[(0, .dw 48 0),(1, .one (.ref 113)),(2, .one (.int .i64)),(3, .one (.bool))],[(113, .arr 167 (.cons (.int .i64) (.cons (.int .i64) (.cons (.int .i64) (.cons .str (.cons (.int .i64) (.cons (.int .i64) (.cons .str .nil))))))) false)]⟩,⟨[],[(48, .var [.sl 5 (.cons (.int .u8) .nil) false, .int .i64, .int .i64])]⟩⟩)] [] []
def V7 [TS] (c0:dH) (c1:Int) (c2:Int) (q:kQ) (deep:Int) (not:Bool) (K:yM→Prop):Prop:=
 let s0:=(((),(),deep,not,()),q,());
  ∃ (J:Unit×jF→Prop),
  (bif deep==(0:Int) then
  (0:Int)≤c1∧
  ∀ (r1:UG×jF),
  (0:Int)≤r1.2.1.2.1∧True→
  q.length+
  [(r1.1.1.1,r1.1.1.2.1,r1.1.1.2.2.1,r1.1.1.2.2.2.1,r1.1.1.2.2.2.2.1,r1.1.1.2.2.2.2.2.1,
  r1.1.1.2.2.2.2.2.2.1,())].length≤
  big∧
  K
  ((q++
  [(r1.1.1.1,r1.1.1.2.1,r1.1.1.2.2.1,r1.1.1.2.2.2.1,r1.1.1.2.2.2.2.1,r1.1.1.2.2.2.2.2.1,
  r1.1.1.2.2.2.2.2.2.1,())],
  ()),
  (r1.2.1.1,r1.2.1.2.1,r1.2.1.2.2.1,()),())
  else
  (0:Int)≤c1∧
  ∀ (r2:NV),
  (r2.2.1.2.1-(0:Int)).NonNeg→
  bif r2.1.1 then
  (0:Int)≤r2.2.1.2.1∧
  ∀ (r3:UG×jF),
  (0:Int)≤r3.2.1.2.1∧True→
  q.length+
  [(r3.1.1.1,r3.1.1.2.1,r3.1.1.2.2.1,r3.1.1.2.2.2.1,r3.1.1.2.2.2.2.1,
  r3.1.1.2.2.2.2.2.1,r3.1.1.2.2.2.2.2.2.1,())].length≤
  big∧
  K
  ((q++
  [(r3.1.1.1,r3.1.1.2.1,r3.1.1.2.2.1,r3.1.1.2.2.2.1,r3.1.1.2.2.2.2.1,
  r3.1.1.2.2.2.2.2.1,r3.1.1.2.2.2.2.2.2.1,())],
  ()),
  (r3.2.1.1,r3.2.1.2.1,r3.2.1.2.2.1,()),())
  else s0=s0∧J ((),(r2.2.1.1,r2.2.1.2.1,r2.2.1.2.2.1,()),()))∧
  ∀ (y4:Unit×jF),
  J y4→
  (0:Int)≤y4.2.1.2.1∧
  ∀ (r5:eP),
  (0:Int)≤r5.2.1.2.1∧(0:Int)≤r5.1.1∧((0:Int)<(5:Int)→r5.1.1<(5:Int))∧((5:Int)≤(0:Int)→r5.1.1=(0:Int))→
  bif r5.1.1==(0:Int) then
  bif not then
  (((0:Int)≤r5.2.1.2.1∧
  (0:Int)≤i64.wrap (deep-(1:Int))∧
  i64.wrap (deep-(1:Int))≤(4:Int)∧q.length+(2:Nat)*(i64.wrap (deep-(1:Int))).toNat≤(900:Nat))∧
  (i64.wrap (deep-(1:Int))).toNat<Wi)∧
  ∀ (r6:yM),
  (0:Int)≤r6.2.1.2.1∧q.length<r6.1.1.length∧r6.1.1.length≤q.length+(2:Nat)*(i64.wrap (deep-(1:Int))).toNat+(1:Nat)→
  List.length r6.1.1+
  [((5:Int),i64.wrap ((↑(List.length r6.1.1):Int)-(1:Int)),(0:Int),BG,(0:Int),(0:Int),BG,())].length≤
  big∧
  K
  ((r6.1.1++[((5:Int),i64.wrap ((↑(List.length r6.1.1):Int)-(1:Int)),(0:Int),BG,(0:Int),(0:Int),BG,())],()),
  (r6.2.1.1,r6.2.1.2.1,r6.2.1.2.2.1,()),())
  else
  (((0:Int)≤r5.2.1.2.1∧
  (0:Int)≤i64.wrap (deep-(1:Int))∧
  i64.wrap (deep-(1:Int))≤(4:Int)∧q.length+(2:Nat)*(i64.wrap (deep-(1:Int))).toNat≤(900:Nat))∧
  (i64.wrap (deep-(1:Int))).toNat<Wi)∧
  ∀ (r7:yM),
  (0:Int)≤r7.2.1.2.1∧q.length<r7.1.1.length∧r7.1.1.length≤q.length+(2:Nat)*(i64.wrap (deep-(1:Int))).toNat+(1:Nat)→
  (((0:Int)≤r7.2.1.2.1∧(0:Int)≤(0:Int)∧(0:Int)≤(4:Int)∧List.length r7.1.1+(2:Nat)*Int.toNat (0:Int)≤(900:Nat))∧
  Int.toNat (0:Int)<Wi)∧
  ∀ (r8:yM),
  (0:Int)≤r8.2.1.2.1∧
  List.length r7.1.1<r8.1.1.length∧r8.1.1.length≤List.length r7.1.1+(2:Nat)*Int.toNat (0:Int)+(1:Nat)→
  bif decide (r5.1.1<(3:Int)) then
  List.length r8.1.1+
  [((6:Int),i64.wrap ((↑(List.length r7.1.1):Int)-(1:Int)),
  i64.wrap ((↑(List.length r8.1.1):Int)-(1:Int)),BG,(0:Int),(0:Int),BG,())].length≤
  big∧
  K
  ((r8.1.1++
  [((6:Int),i64.wrap ((↑(List.length r7.1.1):Int)-(1:Int)),
  i64.wrap ((↑(List.length r8.1.1):Int)-(1:Int)),BG,(0:Int),(0:Int),BG,())],
  ()),
  (r8.2.1.1,r8.2.1.2.1,r8.2.1.2.2.1,()),())
  else
  List.length r8.1.1+
  [((7:Int),i64.wrap ((↑(List.length r7.1.1):Int)-(1:Int)),
  i64.wrap ((↑(List.length r8.1.1):Int)-(1:Int)),BG,(0:Int),(0:Int),BG,())].length≤
  big∧
  K
  ((r8.1.1++
  [((7:Int),i64.wrap ((↑(List.length r7.1.1):Int)-(1:Int)),
  i64.wrap ((↑(List.length r8.1.1):Int)-(1:Int)),BG,(0:Int),(0:Int),BG,())],
  ()),
  (r8.2.1.1,r8.2.1.2.1,r8.2.1.2.2.1,()),())
  else
  (((0:Int)≤r5.2.1.2.1∧
  (0:Int)≤i64.wrap (deep-(1:Int))∧
  i64.wrap (deep-(1:Int))≤(4:Int)∧q.length+(2:Nat)*(i64.wrap (deep-(1:Int))).toNat≤(900:Nat))∧
  (i64.wrap (deep-(1:Int))).toNat<Wi)∧
  ∀ (r9:yM),
  (0:Int)≤r9.2.1.2.1∧q.length<r9.1.1.length∧r9.1.1.length≤q.length+(2:Nat)*(i64.wrap (deep-(1:Int))).toNat+(1:Nat)→
  (((0:Int)≤r9.2.1.2.1∧(0:Int)≤(0:Int)∧(0:Int)≤(4:Int)∧List.length r9.1.1+(2:Nat)*Int.toNat (0:Int)≤(900:Nat))∧
  Int.toNat (0:Int)<Wi)∧
  ∀ (r10:yM),
  (0:Int)≤r10.2.1.2.1∧
  List.length r9.1.1<r10.1.1.length∧r10.1.1.length≤List.length r9.1.1+(2:Nat)*Int.toNat (0:Int)+(1:Nat)→
  bif decide (r5.1.1<(3:Int)) then
  List.length r10.1.1+
  [((6:Int),i64.wrap ((↑(List.length r9.1.1):Int)-(1:Int)),
  i64.wrap ((↑(List.length r10.1.1):Int)-(1:Int)),BG,(0:Int),(0:Int),BG,())].length≤
  big∧
  K
  ((r10.1.1++
  [((6:Int),i64.wrap ((↑(List.length r9.1.1):Int)-(1:Int)),
  i64.wrap ((↑(List.length r10.1.1):Int)-(1:Int)),BG,(0:Int),(0:Int),BG,())],
  ()),
  (r10.2.1.1,r10.2.1.2.1,r10.2.1.2.2.1,()),())
  else
  List.length r10.1.1+
  [((7:Int),i64.wrap ((↑(List.length r9.1.1):Int)-(1:Int)),
  i64.wrap ((↑(List.length r10.1.1):Int)-(1:Int)),BG,(0:Int),(0:Int),BG,())].length≤
  big∧
  K
  ((r10.1.1++
  [((7:Int),i64.wrap ((↑(List.length r9.1.1):Int)-(1:Int)),
  i64.wrap ((↑(List.length r10.1.1):Int)-(1:Int)),BG,(0:Int),(0:Int),BG,())],
  ()),
  (r10.2.1.1,r10.2.1.2.1,r10.2.1.2.2.1,()),())
theorem VQ [TS] (env:EnvB prog G Θ WC) (hne:∀ x,(wL x).1→∃ t,(wL x).2 t) (h:∀ (c0:dH) (c1:Int) (c2:Int) (q:kQ) (deep:Int) (not:Bool),dL uZ ((c0,c1,c2,()),q,deep,not,())→(((0:Int)≤c1∧(0:Int)≤deep∧deep≤(4:Int)∧q.length+(2:Nat)*deep.toNat≤(900:Nat))∧deep.toNat<Wi+(1:Nat))→V7 c0 c1 c2 q deep not fun (r:yM)=>(((0:Int)≤c1∧(0:Int)≤deep∧deep≤(4:Int)∧q.length+(2:Nat)*deep.toNat≤(900:Nat))∧deep.toNat<Wi+(1:Nat),
 fun (x:yM)=>
 (0:Int)≤x.2.1.2.1∧q.length<x.1.1.length∧x.1.1.length≤q.length+(2:Nat)*deep.toNat+(1:Nat)).2
 r):aC prog G J7 Gy:=
 bQ env mixed (fn:=f197) (c:=codeOf f197) (by kernel_rfl) (by kernel_rfl) Yc (by kernel_rfl) hne fun ⟨⟨c0,c1,c2,⟨⟩⟩,q,deep,not,⟨⟩⟩ hin hp=>
 Eq.mpr (by kernel_rfl) (h c0 c1 c2 q deep not hin hp)
def ab4:Hints:=Go.Fw.hints [6,5] [] [] [] []
def ZN (c0:dH) (c1:Int) (c2:Int) (K:yM→Prop):Prop:=
 (0:Int)≤c1∧
 ∀ (r0:eP),
 (0:Int)≤r0.2.1.2.1∧(0:Int)≤r0.1.1∧((0:Int)<(4:Int)→r0.1.1<(4:Int))∧((4:Int)≤(0:Int)→r0.1.1=(0:Int))→
 ((0:Int)≤r0.2.1.2.1∧(0:Int)≤r0.1.1∧r0.1.1≤(4:Int))∧
 ∀ (r1:yM),
 (0:Int)≤r1.2.1.2.1∧(0:Nat)<r1.1.1.length∧r1.1.1.length≤(0:Nat)+(2:Nat)*Int.toNat r0.1.1+(1:Nat)→
 K ((r1.1.1,()),(r1.2.1.1,r1.2.1.2.1,r1.2.1.2.2.1,()),())
theorem Zv (env:EnvB prog G Θ aaw) (hne:∀ x,(EW x).1→∃ t,(EW x).2 t) (h:∀ (c0:dH) (c1:Int) (c2:Int),dL oG ((c0,c1,c2,()),())→((0:Int)≤c1)→ZN c0 c1 c2 fun (r:yM)=>((0:Int)≤c1,fun (x:yM)=>
 (0:Int)≤x.2.1.2.1∧(0:Nat)<x.1.1.length∧x.1.1.length≤(9:Nat)).2
 r):aC prog G uD wM:=
 bQ env mixed (fn:=f142) (c:=codeOf f142) (by kernel_rfl) (by kernel_rfl) ab4 (by kernel_rfl) hne fun ⟨⟨c0,c1,c2,⟨⟩⟩,⟨⟩⟩ hin hp=>
 Eq.mpr (by kernel_rfl) (h c0 c1 c2 hin hp)
def Po:Hints:=Go.Fw.hints [5] [] [] [] []
def NZ (c0:dH) (c1:Int) (c2:Int) (K:yM→Prop):Prop:=
 (0:Int)≤c1∧
 ∀ (r0:eP),
 (0:Int)≤r0.2.1.2.1∧(0:Int)≤r0.1.1∧((0:Int)<(4:Int)→r0.1.1<(4:Int))∧((4:Int)≤(0:Int)→r0.1.1=(0:Int))→
 ((0:Int)≤r0.2.1.2.1∧(0:Int)≤r0.1.1∧r0.1.1≤(4:Int))∧
 ∀ (r1:yM),
 (0:Int)≤r1.2.1.2.1∧(0:Nat)<r1.1.1.length∧r1.1.1.length≤(0:Nat)+(2:Nat)*Int.toNat r0.1.1+(1:Nat)→
 K ((r1.1.1,()),(r1.2.1.1,r1.2.1.2.1,r1.2.1.2.2.1,()),())
theorem NR (env:EnvB prog G Θ OL) (hne:∀ x,(wO x).1→∃ t,(wO x).2 t) (h:∀ (c0:dH) (c1:Int) (c2:Int),dL gy ((c0,c1,c2,()),())→((0:Int)≤c1)→NZ c0 c1 c2 fun (r:yM)=>((0:Int)≤c1,fun (x:yM)=>
 (0:Int)≤x.2.1.2.1∧(0:Nat)<x.1.1.length∧x.1.1.length≤(9:Nat)).2
 r):aC prog G iK je:=
 bQ env mixed (fn:=f142) (c:=codeOf f142) (by kernel_rfl) (by kernel_rfl) Po (by kernel_rfl) hne fun ⟨⟨c0,c1,c2,⟨⟩⟩,⟨⟩⟩ hin hp=>
 Eq.mpr (by kernel_rfl) (h c0 c1 c2 hin hp)
def alG:Hints:=Go.Fw.hints [6,29,38,53] [] [] [] []
def aj1 (c0:dH) (c1:Int) (c2:Int) (K:yM→Prop):Prop:=
 (0:Int)≤c1∧
 ∀ (r0:yM),
 (0:Int)≤r0.2.1.2.1∧(0:Nat)<r0.1.1.length∧r0.1.1.length≤(9:Nat)→
 (0:Int)≤r0.2.1.2.1∧
 ∀ (r1:eP),
 (0:Int)≤r1.2.1.2.1∧
 (0:Int)≤r1.1.1∧
 ((0:Int)<(↑(List.length r0.1.1):Int)→r1.1.1<(↑(List.length r0.1.1):Int))∧
 ((↑(List.length r0.1.1):Int)≤(0:Int)→r1.1.1=(0:Int))→
 (0:Int)≤r1.2.1.2.1∧
 ∀ (r2:eP),
 (0:Int)≤r2.2.1.2.1∧(0:Int)≤r2.1.1∧((0:Int)<(10:Int)→r2.1.1<(10:Int))∧((10:Int)≤(0:Int)→r2.1.1=(0:Int))→
 bif r2.1.1==(0:Int) then
 (0:Int)≤r2.2.1.2.1∧
 ∀ (r3:eP),
 (0:Int)≤r3.2.1.2.1∧(0:Int)≤r3.1.1∧((0:Int)<(12:Int)→r3.1.1<(12:Int))∧((12:Int)≤(0:Int)→r3.1.1=(0:Int))→
 ((0:Int)≤r1.1.1∧r1.1.1<(↑(List.length r0.1.1):Int))∧
 Int.toNat r1.1.1<List.length r0.1.1∧
 K
 ((List.set r0.1.1 (Int.toNat r1.1.1)
 (i64.wrap (r3.1.1-(1:Int)),
 (List.getD r0.1.1 (Int.toNat r1.1.1) ((0:Int),(0:Int),(0:Int),[],(0:Int),(0:Int),[],())).2.1,
 (List.getD r0.1.1 (Int.toNat r1.1.1) ((0:Int),(0:Int),(0:Int),[],(0:Int),(0:Int),[],())).2.2.1,
 (List.getD r0.1.1 (Int.toNat r1.1.1) ((0:Int),(0:Int),(0:Int),[],(0:Int),(0:Int),[],())).2.2.2.1,
 (List.getD r0.1.1 (Int.toNat r1.1.1) ((0:Int),(0:Int),(0:Int),[],(0:Int),(0:Int),[],())).2.2.2.2.1,
 (List.getD r0.1.1 (Int.toNat r1.1.1) ((0:Int),(0:Int),(0:Int),[],(0:Int),(0:Int),[],())).2.2.2.2.2.1,
 (List.getD r0.1.1 (Int.toNat r1.1.1)
 ((0:Int),(0:Int),(0:Int),[],(0:Int),(0:Int),[],())).2.2.2.2.2.2.1,
 ()),
 ()),
 (r3.2.1.1,r3.2.1.2.1,r3.2.1.2.2.1,()),())
 else
 bif r2.1.1==(1:Int) then
 ((0:Int)≤r2.2.1.2.1∧[((-1:Int),()),((0:Int),()),(r1.1.1,()),((8:Int),()),((9223372036854775807:Int),())]≠[])∧
 ∀ (r4:eP),
 (0:Int)≤r4.2.1.2.1∧(r4.1.1,())∈[((-1:Int),()),((0:Int),()),(r1.1.1,()),((8:Int),()),((9223372036854775807:Int),())]→
 ((0:Int)≤r1.1.1∧r1.1.1<(↑(List.length r0.1.1):Int))∧
 Int.toNat r1.1.1<List.length r0.1.1∧
 K
 ((List.set r0.1.1 (Int.toNat r1.1.1)
 ((List.getD r0.1.1 (Int.toNat r1.1.1) ((0:Int),(0:Int),(0:Int),[],(0:Int),(0:Int),[],())).1,r4.1.1,
 (List.getD r0.1.1 (Int.toNat r1.1.1) ((0:Int),(0:Int),(0:Int),[],(0:Int),(0:Int),[],())).2.2.1,
 (List.getD r0.1.1 (Int.toNat r1.1.1) ((0:Int),(0:Int),(0:Int),[],(0:Int),(0:Int),[],())).2.2.2.1,
 (List.getD r0.1.1 (Int.toNat r1.1.1) ((0:Int),(0:Int),(0:Int),[],(0:Int),(0:Int),[],())).2.2.2.2.1,
 (List.getD r0.1.1 (Int.toNat r1.1.1) ((0:Int),(0:Int),(0:Int),[],(0:Int),(0:Int),[],())).2.2.2.2.2.1,
 (List.getD r0.1.1 (Int.toNat r1.1.1)
 ((0:Int),(0:Int),(0:Int),[],(0:Int),(0:Int),[],())).2.2.2.2.2.2.1,
 ()),
 ()),
 (r4.2.1.1,r4.2.1.2.1,r4.2.1.2.2.1,()),())
 else
 bif r2.1.1==(2:Int) then
 ((0:Int)≤r2.2.1.2.1∧
 [([],()),([(97:UInt8)],()),([(100:UInt8),97],()),
 ([(97:UInt8),98,99,100,101,102,103],()),([(65:UInt8)],())]≠
 [])∧
 ∀ (r5:rU),
 (0:Int)≤r5.2.1.2.1∧
 (r5.1.1,())∈
 [([],()),([(97:UInt8)],()),([(100:UInt8),97],()),
 ([(97:UInt8),98,99,100,101,102,103],()),([(65:UInt8)],())]→
 ((0:Int)≤r1.1.1∧r1.1.1<(↑(List.length r0.1.1):Int))∧
 Int.toNat r1.1.1<List.length r0.1.1∧
 K
 ((List.set r0.1.1 (Int.toNat r1.1.1)
 ((List.getD r0.1.1 (Int.toNat r1.1.1) ((0:Int),(0:Int),(0:Int),[],(0:Int),(0:Int),[],())).1,
 (List.getD r0.1.1 (Int.toNat r1.1.1) ((0:Int),(0:Int),(0:Int),[],(0:Int),(0:Int),[],())).2.1,
 (List.getD r0.1.1 (Int.toNat r1.1.1) ((0:Int),(0:Int),(0:Int),[],(0:Int),(0:Int),[],())).2.2.1,
 r5.1.1,
 (List.getD r0.1.1 (Int.toNat r1.1.1) ((0:Int),(0:Int),(0:Int),[],(0:Int),(0:Int),[],())).2.2.2.2.1,
 (List.getD r0.1.1 (Int.toNat r1.1.1)
 ((0:Int),(0:Int),(0:Int),[],(0:Int),(0:Int),[],())).2.2.2.2.2.1,
 (List.getD r0.1.1 (Int.toNat r1.1.1)
 ((0:Int),(0:Int),(0:Int),[],(0:Int),(0:Int),[],())).2.2.2.2.2.2.1,
 ()),
 ()),
 (r5.2.1.1,r5.2.1.2.1,r5.2.1.2.2.1,()),())
 else
 bif r2.1.1==(3:Int) then
 (0:Int)≤r2.2.1.2.1∧
 ∀ (r6:UG×jF),
 (0:Int)≤r6.2.1.2.1∧True→
 List.length r0.1.1+
 [(r6.1.1.1,r6.1.1.2.1,r6.1.1.2.2.1,r6.1.1.2.2.2.1,r6.1.1.2.2.2.2.1,
 r6.1.1.2.2.2.2.2.1,r6.1.1.2.2.2.2.2.2.1,())].length≤
 big∧
 K
 ((r0.1.1++
 [(r6.1.1.1,r6.1.1.2.1,r6.1.1.2.2.1,r6.1.1.2.2.2.1,r6.1.1.2.2.2.2.1,
 r6.1.1.2.2.2.2.2.1,r6.1.1.2.2.2.2.2.2.1,())],
 ()),
 (r6.2.1.1,r6.2.1.2.1,r6.2.1.2.2.1,()),())
 else
 bif r2.1.1==(4:Int) then
 (0:Int)≤r2.2.1.2.1∧
 ∀ (r7:XZ),
 (0:Int)≤r7.2.1.2.1∧r7.1.1.2.2.1.length≤(10:Nat)→
 ((0:Int)≤r1.1.1∧r1.1.1<(↑(List.length r0.1.1):Int))∧
 Int.toNat r1.1.1<List.length r0.1.1∧
 K
 ((List.set r0.1.1 (Int.toNat r1.1.1)
 ((List.getD r0.1.1 (Int.toNat r1.1.1) ((0:Int),(0:Int),(0:Int),[],(0:Int),(0:Int),[],())).1,
 (List.getD r0.1.1 (Int.toNat r1.1.1) ((0:Int),(0:Int),(0:Int),[],(0:Int),(0:Int),[],())).2.1,
 (List.getD r0.1.1 (Int.toNat r1.1.1) ((0:Int),(0:Int),(0:Int),[],(0:Int),(0:Int),[],())).2.2.1,
 (List.getD r0.1.1 (Int.toNat r1.1.1) ((0:Int),(0:Int),(0:Int),[],(0:Int),(0:Int),[],())).2.2.2.1,
 r7.1.1.1,r7.1.1.2.1,r7.1.1.2.2.1,()),
 ()),
 (r7.2.1.1,r7.2.1.2.1,r7.2.1.2.2.1,()),())
 else
 bif r2.1.1==(5:Int) then K (([],()),(r2.2.1.1,r2.2.1.2.1,r2.2.1.2.2.1,()),())
 else K ((r0.1.1,()),(r2.2.1.1,r2.2.1.2.1,r2.2.1.2.2.1,()),())
theorem ajC (env:EnvB prog G Θ ak7) (hne:∀ x,(Nu x).1→∃ t,(Nu x).2 t) (h:∀ (c0:dH) (c1:Int) (c2:Int),dL xM ((c0,c1,c2,()),())→((0:Int)≤c1)→aj1 c0 c1 c2 fun (r:yM)=>((0:Int)≤c1,fun (x:yM)=>
 (0:Int)≤x.2.1.2.1∧x.1.1.length≤(10:Nat)).2
 r):aC prog G DK EG:=
 bQ env mixed (fn:=f141) (c:=codeOf f141) (by kernel_rfl) (by kernel_rfl) alG (by kernel_rfl) hne fun ⟨⟨c0,c1,c2,⟨⟩⟩,⟨⟩⟩ hin hp=>
 Eq.mpr (by kernel_rfl) (h c0 c1 c2 hin hp)
def aj2:Hints:=Go.Fw.hints [5,5,8,14,19,21] [(3,⟨[(.slot 3 0,225,124,(.cons .str (.cons (.sl 167 (.cons (.int .i64) (.cons (.int .i64) (.cons (.int .i64) (.cons .str (.cons (.int .i64) (.cons (.int .i64) (.cons .str .nil)))))))) .nil)),false)],⟨[(0, .dw 48 0)],[]⟩,⟨[(3, .one (.ref 225)),(4, .one (.int .i64))],[(48, .var [.sl 5 (.cons (.int .u8) .nil) false, .int .i64, .int .i64]),(225, .arr 124 (.cons .str (.cons (.sl 167 (.cons (.int .i64) (.cons (.int .i64) (.cons (.int .i64) (.cons .str (.cons (.int .i64) (.cons (.int .i64) (.cons .str .nil)))))))) .nil)) false)]⟩⟩)] [] [48] []
def aic (c0:dH) (c1:Int) (c2:Int) (K:LZ→Prop):Prop:=
 let s0:=(((),()),());
  ∃ (I:qA×zf×BQ→Prop),
  ∃ (μ:
  qA×zf×BQ→Nat),
  I (((),(0:Int),()),(c0,c1,c2,()),[],())∧
  ∀ (y1:qA×zf×BQ),
  I y1→
  (0:Int)≤y1.2.1.2.1∧
  ∀ (r2:eP),
  (0:Int)≤r2.2.1.2.1∧(0:Int)≤r2.1.1∧((0:Int)<(4:Int)→r2.1.1<(4:Int))∧((4:Int)≤(0:Int)→r2.1.1=(0:Int))→
  bif decide (y1.1.2.1<i64.wrap ((1:Int)+r2.1.1)) then
  ((0:Int)≤y1.1.2.1∧
  y1.1.2.1<
  (↑[([(100:UInt8),97],()),([(100:UInt8),98],()),([(100:UInt8),99],()),
  ([(100:UInt8),100],())].length:
  Int))∧
  Int.toNat y1.1.2.1<
  [([(100:UInt8),97],()),([(100:UInt8),98],()),([(100:UInt8),99],()),
  ([(100:UInt8),100],())].length∧
  (0:Int)≤r2.2.1.2.1∧
  ∀ (r3:yM),
  (0:Int)≤r3.2.1.2.1∧(0:Nat)<r3.1.1.length∧r3.1.1.length≤(9:Nat)→
  List.length y1.2.2.1+
  [(([([(100:UInt8),97],()),([(100:UInt8),98],()),([(100:UInt8),99],()),
  ([(100:UInt8),100],())].getD
  (Int.toNat y1.1.2.1) ([],())).1,
  r3.1.1,())].length≤
  big∧
  s0=s0∧
  I
  (((),i64.wrap (y1.1.2.1+(1:Int)),()),(r3.2.1.1,r3.2.1.2.1,r3.2.1.2.2.1,()),
  y1.2.2.1++
  [(([([(100:UInt8),97],()),([(100:UInt8),98],()),([(100:UInt8),99],()),
  ([(100:UInt8),100],())].getD
  (Int.toNat y1.1.2.1) ([],())).1,
  r3.1.1,())],
  ())∧
  μ
  (((),i64.wrap (y1.1.2.1+(1:Int)),()),(r3.2.1.1,r3.2.1.2.1,r3.2.1.2.2.1,()),
  y1.2.2.1++
  [(([([(100:UInt8),97],()),([(100:UInt8),98],()),([(100:UInt8),99],()),
  ([(100:UInt8),100],())].getD
  (Int.toNat y1.1.2.1) ([],())).1,
  r3.1.1,())],
  ())<
  μ y1
  else K ((y1.2.2.1,()),(r2.2.1.1,r2.2.1.2.1,r2.2.1.2.2.1,()),())
theorem ahE (env:EnvB prog G Θ aiN) (hne:∀ x,(Lr x).1→∃ t,(Lr x).2 t) (h:∀ (c0:dH) (c1:Int) (c2:Int),dL nU ((c0,c1,c2,()),())→((0:Int)≤c1)→aic c0 c1 c2 fun (r:LZ)=>((0:Int)≤c1,
 fun (x:LZ)=>
 (0:Int)≤x.2.1.2.1∧(0:Nat)<x.1.1.length∧x.1.1.length≤(4:Nat)∧Sp.bJ x.1.1).2
 r):aC prog G tZ tu:=
 bQ env mixed (fn:=f139) (c:=codeOf f139) (by kernel_rfl) (by kernel_rfl) aj2 (by kernel_rfl) hne fun ⟨⟨c0,c1,c2,⟨⟩⟩,⟨⟩⟩ hin hp=>
 Eq.mpr (by kernel_rfl) (h c0 c1 c2 hin hp)
def alH:Hints:=Go.Fw.hints [6,19,27] [(9,⟨[],⟨[(0, .dw 48 0),(12, .one (.int .i64)),(30, .one (.bool))],[]⟩,⟨[(3, .one (.ref 385))],[(48, .var [.sl 5 (.cons (.int .u8) .nil) false, .int .i64, .int .i64]),(385, .arr 124 (.cons .str (.cons (.sl 167 (.cons (.int .i64) (.cons (.int .i64) (.cons (.int .i64) (.cons .str (.cons (.int .i64) (.cons (.int .i64) (.cons .str .nil)))))))) .nil)) false)]⟩⟩)] [] [48] []
def aj3 (c0:dH) (c1:Int) (c2:Int) (K:LZ→Prop):Prop:=
 (0:Int)≤c1∧
 ∀ (r0:LZ),
 (0:Int)≤r0.2.1.2.1∧(0:Nat)<r0.1.1.length∧r0.1.1.length≤(4:Nat)∧Sp.bJ r0.1.1→
 (0:Int)≤r0.2.1.2.1∧
 ∀ (r1:eP),
 (0:Int)≤r1.2.1.2.1∧
 (0:Int)≤r1.1.1∧
 ((0:Int)<(↑(List.length r0.1.1):Int)→r1.1.1<(↑(List.length r0.1.1):Int))∧
 ((↑(List.length r0.1.1):Int)≤(0:Int)→r1.1.1=(0:Int))→
 (0:Int)≤r1.2.1.2.1∧
 ∀ (r2:eP),
 (0:Int)≤r2.2.1.2.1∧(0:Int)≤r2.1.1∧((0:Int)<(10:Int)→r2.1.1<(10:Int))∧((10:Int)≤(0:Int)→r2.1.1=(0:Int))→
 bif r2.1.1==(0:Int) then
 ((0:Int)≤r2.2.1.2.1∧
 [([],()),([(65:UInt8)],()),([(122:UInt8),122],()),
 ([(97:UInt8),98,99,100,101,102,103],())]≠
 [])∧
 ∀ (r3:rU),
 (0:Int)≤r3.2.1.2.1∧
 (r3.1.1,())∈
 [([],()),([(65:UInt8)],()),([(122:UInt8),122],()),
 ([(97:UInt8),98,99,100,101,102,103],())]→
 ((0:Int)≤r1.1.1∧r1.1.1<(↑(List.length r0.1.1):Int))∧
 Int.toNat r1.1.1<List.length r0.1.1∧
 K
 ((List.set r0.1.1 (Int.toNat r1.1.1) (r3.1.1,(List.getD r0.1.1 (Int.toNat r1.1.1) ([],[],())).2.1,()),()),
 (r3.2.1.1,r3.2.1.2.1,r3.2.1.2.2.1,()),())
 else
 bif r2.1.1==(1:Int) then
 (0:Int)≤r2.2.1.2.1∧
 ∀ (r4:yM),
 (0:Int)≤r4.2.1.2.1∧r4.1.1.length≤(10:Nat)→
 ((0:Int)≤r1.1.1∧r1.1.1<(↑(List.length r0.1.1):Int))∧
 Int.toNat r1.1.1<List.length r0.1.1∧
 K
 ((List.set r0.1.1 (Int.toNat r1.1.1) ((List.getD r0.1.1 (Int.toNat r1.1.1) ([],[],())).1,r4.1.1,()),()),
 (r4.2.1.1,r4.2.1.2.1,r4.2.1.2.2.1,()),())
 else
 bif r2.1.1==(2:Int) then
 let s5:=(((),r2.1.1,r2.1.1==(2:Int),()),());
  ∃ (I:
  (Unit×Unit)×zf×BQ→
  Prop),
  ∃ (μ:
  (Unit×Unit)×zf×BQ→
  Nat),
  I (((),()),(r2.2.1.1,r2.2.1.2.1,r2.2.1.2.2.1,()),r0.1.1,())∧
  ∀
  (y6:
  (Unit×Unit)×zf×BQ),
  I y6→
  (0:Int)≤y6.2.1.2.1∧
  ∀ (r7:eP),
  (0:Int)≤r7.2.1.2.1∧
  (0:Int)≤r7.1.1∧((0:Int)<(2:Int)→r7.1.1<(2:Int))∧((2:Int)≤(0:Int)→r7.1.1=(0:Int))→
  bif decide ((↑(List.length y6.2.2.1):Int)<i64.wrap ((5:Int)+r7.1.1)) then
  ((0:Int)≤(↑(List.length y6.2.2.1):Int)∧
  (↑(List.length y6.2.2.1):Int)<
  (↑[([(100:UInt8),97],()),([(100:UInt8),98],()),([(100:UInt8),99],()),
  ([(100:UInt8),100],()),([(100:UInt8),101],()),([(100:UInt8),102],())].length:
  Int))∧
  (0:Int)≤r7.2.1.2.1∧
  ∀ (r8:yM),
  (0:Int)≤r8.2.1.2.1∧(0:Nat)<r8.1.1.length∧r8.1.1.length≤(9:Nat)→
  List.length y6.2.2.1+
  [(([([(100:UInt8),97],()),([(100:UInt8),98],()),([(100:UInt8),99],()),
  ([(100:UInt8),100],()),([(100:UInt8),101],()),
  ([(100:UInt8),102],())].getD
  (↑(List.length y6.2.2.1):Int).toNat ([],())).1,
  r8.1.1,())].length≤
  big∧
  s5=s5∧
  I
  (((),()),(r8.2.1.1,r8.2.1.2.1,r8.2.1.2.2.1,()),
  y6.2.2.1++
  [(([([(100:UInt8),97],()),([(100:UInt8),98],()),([(100:UInt8),99],()),
  ([(100:UInt8),100],()),([(100:UInt8),101],()),
  ([(100:UInt8),102],())].getD
  (↑(List.length y6.2.2.1):Int).toNat ([],())).1,
  r8.1.1,())],
  ())∧
  μ
  (((),()),(r8.2.1.1,r8.2.1.2.1,r8.2.1.2.2.1,()),
  y6.2.2.1++
  [(([([(100:UInt8),97],()),([(100:UInt8),98],()),([(100:UInt8),99],()),
  ([(100:UInt8),100],()),([(100:UInt8),101],()),
  ([(100:UInt8),102],())].getD
  (↑(List.length y6.2.2.1):Int).toNat ([],())).1,
  r8.1.1,())],
  ())<
  μ y6
  else K ((y6.2.2.1,()),(r7.2.1.1,r7.2.1.2.1,r7.2.1.2.2.1,()),())
  else
  bif r2.1.1==(3:Int) then K (([],()),(r2.2.1.1,r2.2.1.2.1,r2.2.1.2.2.1,()),())
  else K ((r0.1.1,()),(r2.2.1.1,r2.2.1.2.1,r2.2.1.2.2.1,()),())
theorem ajD (env:EnvB prog G Θ ak8) (hne:∀ x,(Nv x).1→∃ t,(Nv x).2 t) (h:∀ (c0:dH) (c1:Int) (c2:Int),dL xO ((c0,c1,c2,()),())→((0:Int)≤c1)→aj3 c0 c1 c2 fun (r:LZ)=>((0:Int)≤c1,
 fun (x:LZ)=>
 (0:Int)≤x.2.1.2.1∧x.1.1.length≤(10:Nat)∧Sp.bJ x.1.1).2
 r):aC prog G DL EH:=
 bQ env mixed (fn:=f86) (c:=codeOf f86) (by kernel_rfl) (by kernel_rfl) alH (by kernel_rfl) hne fun ⟨⟨c0,c1,c2,⟨⟩⟩,⟨⟩⟩ hin hp=>
 Eq.mpr (by kernel_rfl) (h c0 c1 c2 hin hp)
def aj6:Hints:=Go.Fw.hints [] [(2,⟨[],⟨[],[(48, .var [.sl 5 (.cons (.int .u8) .nil) false, .int .i64, .int .i64])]⟩,⟨[(3, .one (.sl 124 (.cons .str (.cons (.sl 167 (.cons (.int .i64) (.cons (.int .i64) (.cons (.int .i64) (.cons .str (.cons (.int .i64) (.cons (.int .i64) (.cons .str .nil)))))))) .nil)) false))],[]⟩⟩)] [] [] []
def aid (c0:dH) (c1:Int) (c2:Int) (K:LZ→Prop):Prop:=
 (0:Int)≤c1∧
 ∀ (r0:LZ),
 (0:Int)≤r0.2.1.2.1∧(0:Nat)<r0.1.1.length∧r0.1.1.length≤(4:Nat)∧Sp.bJ r0.1.1→
 let s1:=((),(r0.2.1.1,r0.2.1.2.1,r0.2.1.2.2.1,()),());
  ∃ (I:BQ×Unit→Prop),
  ∃ (μ:BQ×Unit→Nat),
  I ((r0.1.1,()),())∧
  ∀ (y2:BQ×Unit),
  I y2→
  bif decide ((↑(List.length y2.1.1):Int)>(0:Int)) then
  Sp.bJ y2.1.1∧
 let r3:=Sp.gU y2.1.1;
  bif !r3 then
  ((0:Int)≤i64.wrap ((↑(List.length y2.1.1):Int)-(1:Int))∧
  i64.wrap ((↑(List.length y2.1.1):Int)-(1:Int))≤(↑(List.length y2.1.1):Int))∧
  s1=s1∧
  I ((List.drop (0:Nat) (List.take (i64.wrap ((↑(List.length y2.1.1):Int)-(1:Int))).toNat y2.1.1),()),())∧
  μ ((List.drop (0:Nat) (List.take (i64.wrap ((↑(List.length y2.1.1):Int)-(1:Int))).toNat y2.1.1),()),())<μ y2
  else
  bif (↑(List.length y2.1.1):Int)==(0:Int) then
  K
  (([([(100:UInt8),97],[((1:Int),(0:Int),(0:Int),[],(0:Int),(0:Int),[],())],())],()),
  (r0.2.1.1,r0.2.1.2.1,r0.2.1.2.2.1,()),())
  else K ((y2.1.1,()),(r0.2.1.1,r0.2.1.2.1,r0.2.1.2.2.1,()),())
  else
  bif (↑(List.length y2.1.1):Int)==(0:Int) then
  K
  (([([(100:UInt8),97],[((1:Int),(0:Int),(0:Int),[],(0:Int),(0:Int),[],())],())],()),
  (r0.2.1.1,r0.2.1.2.1,r0.2.1.2.2.1,()),())
  else K ((y2.1.1,()),(r0.2.1.1,r0.2.1.2.1,r0.2.1.2.2.1,()),())
theorem ahy (env:EnvB prog G Θ aiO) (hne:∀ x,(Ls x).1→∃ t,(Ls x).2 t) (h:∀ (c0:dH) (c1:Int) (c2:Int),dL ve ((c0,c1,c2,()),())→((0:Int)≤c1)→aid c0 c1 c2 fun (r:LZ)=>((0:Int)≤c1,
 fun (x:LZ)=>
 (0:Int)≤x.2.1.2.1∧x.1.1.length≤(10:Nat)∧Sp.bJ x.1.1).2
 r):aC prog G Bj CP:=
 bQ env mixed (fn:=f104) (c:=codeOf f104) (by kernel_rfl) (by kernel_rfl) aj6 (by kernel_rfl) hne fun ⟨⟨c0,c1,c2,⟨⟩⟩,⟨⟩⟩ hin hp=>
 Eq.mpr (by kernel_rfl) (h c0 c1 c2 hin hp)
def aie:Hints:=Go.Fw.hints [] [] [] [] []
def afK (c0:dH) (c1:Int) (c2:Int) (K:NS×jF→Prop):Prop:=
 (0:Int)≤c1∧
 ∀
 (r0:
 LW×jF),
 (0:Int)≤r0.2.1.2.1∧
 r0.1.1.1=Sp.usual∧
 Sp.dh (r0.1.1.1,r0.1.1.2.1,r0.1.1.2.2.1,())=true∧
 r0.1.1.2.2.1≤(↑r0.1.1.2.1.length:Int)+(2:Int)∧Sp.iE (r0.1.1.1,r0.1.1.2.1,r0.1.1.2.2.1,())→
 (0:Int)≤r0.2.1.2.1∧
 ∀ (r1:LZ),
 (0:Int)≤r1.2.1.2.1∧r1.1.1.length≤(10:Nat)∧Sp.bJ r1.1.1→
 K (((r0.1.1.1,r0.1.1.2.1,r0.1.1.2.2.1,r1.1.1,()),()),(r1.2.1.1,r1.2.1.2.1,r1.2.1.2.2.1,()),())
theorem afk (env:EnvB prog G Θ agj) (hne:∀ x,(Js x).1→∃ t,(Js x).2 t) (h:∀ (c0:dH) (c1:Int) (c2:Int),dL lV ((c0,c1,c2,()),())→((0:Int)≤c1)→afK c0 c1 c2 fun (r:NS×jF)=>((0:Int)≤c1,
 fun
 (x:
 NS×jF)=>
 (0:Int)≤x.2.1.2.1∧Sp.eF (x.1.1.1,x.1.1.2.1,x.1.1.2.2.1,x.1.1.2.2.2.1,())).2
 r):aC prog G qO rE:=
 bQ env mixed (fn:=f84) (c:=codeOf f84) (by kernel_rfl) (by kernel_rfl) aie (by kernel_rfl) hne fun ⟨⟨c0,c1,c2,⟨⟩⟩,⟨⟩⟩ hin hp=>
 Eq.mpr (by kernel_rfl) (h c0 c1 c2 hin hp)
def alI:Hints:=Go.Fw.hints [] [] [] [] []
def aj7 (c0:dH) (c1:Int) (c2:Int) (K:NS×jF→Prop):Prop:=
 (0:Int)≤c1∧
 ∀
 (r0:
 NS×jF),
 (0:Int)≤r0.2.1.2.1∧Sp.eF (r0.1.1.1,r0.1.1.2.1,r0.1.1.2.2.1,r0.1.1.2.2.2.1,())→
 (0:Int)≤r0.2.1.2.1∧
 ∀ (r1:eP),
 (0:Int)≤r1.2.1.2.1∧(0:Int)≤r1.1.1∧((0:Int)<(8:Int)→r1.1.1<(8:Int))∧((8:Int)≤(0:Int)→r1.1.1=(0:Int))→
 bif r1.1.1==(0:Int) then
 (0:Int)≤r1.2.1.2.1∧
 ∀
 (r2:
 LW×jF),
 (0:Int)≤r2.2.1.2.1∧Sp.iE (r2.1.1.1,r2.1.1.2.1,r2.1.1.2.2.1,())→
 K
 (((r2.1.1.1,r2.1.1.2.1,r2.1.1.2.2.1,r0.1.1.2.2.2.1,()),()),
 (r2.2.1.1,r2.2.1.2.1,r2.2.1.2.2.1,()),())
 else
 bif r1.1.1==(1:Int) then
 (0:Int)≤r1.2.1.2.1∧
 ∀ (r3:LZ),
 (0:Int)≤r3.2.1.2.1∧r3.1.1.length≤(10:Nat)∧Sp.bJ r3.1.1→
 K (((r0.1.1.1,r0.1.1.2.1,r0.1.1.2.2.1,r3.1.1,()),()),(r3.2.1.1,r3.2.1.2.1,r3.2.1.2.2.1,()),())
 else
 K
 (((r0.1.1.1,r0.1.1.2.1,r0.1.1.2.2.1,r0.1.1.2.2.2.1,()),()),
 (r1.2.1.1,r1.2.1.2.1,r1.2.1.2.2.1,()),())
theorem ajy (env:EnvB prog G Θ ak9) (hne:∀ x,(Nw x).1→∃ t,(Nw x).2 t) (h:∀ (c0:dH) (c1:Int) (c2:Int),dL pW ((c0,c1,c2,()),())→((0:Int)≤c1)→aj7 c0 c1 c2 fun (r:NS×jF)=>((0:Int)≤c1,
 fun
 (x:
 NS×jF)=>
 (0:Int)≤x.2.1.2.1∧Sp.eF (x.1.1.1,x.1.1.2.1,x.1.1.2.2.1,x.1.1.2.2.2.1,())).2
 r):aC prog G vX vg:=
 bQ env mixed (fn:=f43) (c:=codeOf f43) (by kernel_rfl) (by kernel_rfl) alI (by kernel_rfl) hne fun ⟨⟨c0,c1,c2,⟨⟩⟩,⟨⟩⟩ hin hp=>
 Eq.mpr (by kernel_rfl) (h c0 c1 c2 hin hp)
def aj8:Hints:=Go.Fw.hints [6,8,16,23,27,31] [(4,⟨[(.slot 3 0,225,78,(.cons (.int .i64) (.cons (.sl 155 (.cons .str (.cons (.int .i64) .nil))) (.cons (.sl 56 (.cons (.int .i64) (.cons (.int .i64) (.cons .bool (.cons (.int .i64) (.cons (.sl 94 (.cons .str (.cons (.int .i64) (.cons (.int .i64) (.cons .str .nil))))) .nil)))))) (.cons (.int .i64) (.cons (.sl 124 (.cons .str (.cons (.sl 167 (.cons (.int .i64) (.cons (.int .i64) (.cons (.int .i64) (.cons .str (.cons (.int .i64) (.cons (.int .i64) (.cons .str .nil)))))))) .nil))) (.cons (.int .i64) .nil)))))),true)],⟨[(0, .dw 48 0)],[]⟩,⟨[(3, .one (.ref 225)),(4, .one (.int .i64)),(5, .one (.int .i64))],[(48, .var [.sl 5 (.cons (.int .u8) .nil) false, .int .i64, .int .i64]),(225, .arr 78 (.cons (.int .i64) (.cons (.sl 155 (.cons .str (.cons (.int .i64) .nil))) (.cons (.sl 56 (.cons (.int .i64) (.cons (.int .i64) (.cons .bool (.cons (.int .i64) (.cons (.sl 94 (.cons .str (.cons (.int .i64) (.cons (.int .i64) (.cons .str .nil))))) .nil)))))) (.cons (.int .i64) (.cons (.sl 124 (.cons .str (.cons (.sl 167 (.cons (.int .i64) (.cons (.int .i64) (.cons (.int .i64) (.cons .str (.cons (.int .i64) (.cons (.int .i64) (.cons .str .nil)))))))) .nil))) (.cons (.int .i64) .nil)))))) true)]⟩⟩)] [] [] []
def aif (c0:dH) (c1:Int) (c2:Int) (K:Dx×jF→Prop):Prop:=
 (0:Int)≤c1∧
 ∀ (r0:eP),
 (0:Int)≤r0.2.1.2.1∧(0:Int)≤r0.1.1∧((0:Int)<(5:Int)→r0.1.1<(5:Int))∧((5:Int)≤(0:Int)→r0.1.1=(0:Int))→
 let s1:=(((),()),());
  ∃ (I:
  (Unit×Int×iY)×zf×Dx→
  Prop),
  ∃ (μ:
  (Unit×Int×iY)×zf×Dx→
  Nat),
  I (((),(0:Int),r0.1.1,()),(r0.2.1.1,r0.2.1.2.1,r0.2.1.2.2.1,()),[],())∧
  ∀
  (y2:
  (Unit×Int×iY)×zf×Dx),
  I y2→
  bif decide (y2.1.2.2.1>(0:Int)) then
  (0:Int)≤y2.2.1.2.1∧
  ∀ (r3:eP),
  (0:Int)≤r3.2.1.2.1∧(0:Int)≤r3.1.1∧((0:Int)<(3:Int)→r3.1.1<(3:Int))∧((3:Int)≤(0:Int)→r3.1.1=(0:Int))→
  (0:Int)≤r3.2.1.2.1∧
  ∀
  (r4:
  NS×jF),
  (0:Int)≤r4.2.1.2.1∧Sp.eF (r4.1.1.1,r4.1.1.2.1,r4.1.1.2.2.1,r4.1.1.2.2.2.1,())→
  (Sp.bn y2.2.2.1∧
  List.length y2.2.2.1≤(100:Nat)∧
  Sp.eF (r4.1.1.1,r4.1.1.2.1,r4.1.1.2.2.1,r4.1.1.2.2.2.1,()))∧
  ∀
  (r5:
  LX),
  r5.1.1=
  (Sp.fM y2.2.2.1 (i64.wrap (i64.wrap (y2.1.2.1+(1:Int))+r3.1.1))
  (r4.1.1.1,r4.1.1.2.1,r4.1.1.2.2.1,r4.1.1.2.2.2.1,())).1∧
  r5.1.2.1=
  (Sp.fM y2.2.2.1 (i64.wrap (i64.wrap (y2.1.2.1+(1:Int))+r3.1.1))
  (r4.1.1.1,r4.1.1.2.1,r4.1.1.2.2.1,r4.1.1.2.2.2.1,())).2→
  (0:Int)≤r4.2.1.2.1∧
  ∀ (r6:NV),
  (r6.2.1.2.1-(0:Int)).NonNeg→
  bif r6.1.1 then
  (Sp.bn r5.1.1∧List.length r5.1.1≤(100:Nat))∧
  ∀
  (r7:
  LX),
  r7.1.1=(Sp.yj r5.1.1 (i64.wrap (i64.wrap (y2.1.2.1+(1:Int))+r3.1.1)) (1:Int)).1∧
  r7.1.2.1=
  (Sp.yj r5.1.1 (i64.wrap (i64.wrap (y2.1.2.1+(1:Int))+r3.1.1)) (1:Int)).2→
  s1=s1∧
  I
  (((),i64.wrap (i64.wrap (y2.1.2.1+(1:Int))+r3.1.1),
  i64.wrap (y2.1.2.2.1-(1:Int)),()),
  (r6.2.1.1,r6.2.1.2.1,r6.2.1.2.2.1,()),r7.1.1,())∧
  μ
  (((),i64.wrap (i64.wrap (y2.1.2.1+(1:Int))+r3.1.1),
  i64.wrap (y2.1.2.2.1-(1:Int)),()),
  (r6.2.1.1,r6.2.1.2.1,r6.2.1.2.2.1,()),r7.1.1,())<
  μ y2
  else
  s1=s1∧
  I
  (((),i64.wrap (i64.wrap (y2.1.2.1+(1:Int))+r3.1.1),
  i64.wrap (y2.1.2.2.1-(1:Int)),()),
  (r6.2.1.1,r6.2.1.2.1,r6.2.1.2.2.1,()),r5.1.1,())∧
  μ
  (((),i64.wrap (i64.wrap (y2.1.2.1+(1:Int))+r3.1.1),
  i64.wrap (y2.1.2.2.1-(1:Int)),()),
  (r6.2.1.1,r6.2.1.2.1,r6.2.1.2.2.1,()),r5.1.1,())<
  μ y2
  else K ((y2.2.2.1,()),(y2.2.1.1,y2.2.1.2.1,y2.2.1.2.2.1,()),())
theorem ahA (env:EnvB prog G Θ aiP) (hne:∀ x,(Lu x).1→∃ t,(Lu x).2 t) (h:∀ (c0:dH) (c1:Int) (c2:Int),dL vw ((c0,c1,c2,()),())→((0:Int)≤c1)→aif c0 c1 c2 fun (r:Dx×jF)=>((0:Int)≤c1,
 fun
 (x:
 Dx×jF)=>
 (0:Int)≤x.2.1.2.1∧x.1.1.length≤(10:Nat)∧Sp.bn x.1.1).2
 r):aC prog G Bl CQ:=
 bQ env mixed (fn:=f83) (c:=codeOf f83) (by kernel_rfl) (by kernel_rfl) aj8 (by kernel_rfl) hne fun ⟨⟨c0,c1,c2,⟨⟩⟩,⟨⟩⟩ hin hp=>
 Eq.mpr (by kernel_rfl) (h c0 c1 c2 hin hp)
def alJ:Hints:=Go.Fw.hints [5,17,27,34] [] [] [] []
def aj9 (c0:dH) (c1:Int) (c2:Int) (K:Dx×jF→Prop):Prop:=
 (0:Int)≤c1∧
 ∀
 (r0:
 Dx×jF),
 (0:Int)≤r0.2.1.2.1∧r0.1.1.length≤(10:Nat)∧Sp.bn r0.1.1→
 bif (↑(List.length r0.1.1):Int)==(0:Int) then K ((r0.1.1,()),(r0.2.1.1,r0.2.1.2.1,r0.2.1.2.2.1,()),())
 else
 (0:Int)≤r0.2.1.2.1∧
 ∀ (r1:eP),
 (0:Int)≤r1.2.1.2.1∧(0:Int)≤r1.1.1∧((0:Int)<(10:Int)→r1.1.1<(10:Int))∧((10:Int)≤(0:Int)→r1.1.1=(0:Int))→
 bif r1.1.1==(0:Int) then
 ((0:Int)≤r1.2.1.2.1∧[((-1:Int),()),((99:Int),()),((100:Int),())]≠[])∧
 ∀ (r2:eP),
 (0:Int)≤r2.2.1.2.1∧(r2.1.1,())∈[((-1:Int),()),((99:Int),()),((100:Int),())]→
 ((0:Int)≤(0:Int)∧(0:Int)<(↑(List.length r0.1.1):Int))∧
 Int.toNat (0:Int)<List.length r0.1.1∧
 K
 ((List.set r0.1.1 (Int.toNat (0:Int))
 ((List.getD r0.1.1 (Int.toNat (0:Int)) ((0:Int),[],[],(0:Int),[],(0:Int),())).1,
 (List.getD r0.1.1 (Int.toNat (0:Int)) ((0:Int),[],[],(0:Int),[],(0:Int),())).2.1,
 (List.getD r0.1.1 (Int.toNat (0:Int)) ((0:Int),[],[],(0:Int),[],(0:Int),())).2.2.1,
 (List.getD r0.1.1 (Int.toNat (0:Int)) ((0:Int),[],[],(0:Int),[],(0:Int),())).2.2.2.1,
 (List.getD r0.1.1 (Int.toNat (0:Int)) ((0:Int),[],[],(0:Int),[],(0:Int),())).2.2.2.2.1,r2.1.1,()),
 ()),
 (r2.2.1.1,r2.2.1.2.1,r2.2.1.2.2.1,()),())
 else
 bif r1.1.1==(1:Int) then
 (0:Int)≤r1.2.1.2.1∧
 ∀ (r3:eP),
 (0:Int)≤r3.2.1.2.1∧(0:Int)≤r3.1.1∧((0:Int)<(4:Int)→r3.1.1<(4:Int))∧((4:Int)≤(0:Int)→r3.1.1=(0:Int))→
 ((0:Int)≤i64.wrap ((↑(List.length r0.1.1):Int)-(1:Int))∧
 i64.wrap ((↑(List.length r0.1.1):Int)-(1:Int))<(↑(List.length r0.1.1):Int))∧
 (i64.wrap ((↑(List.length r0.1.1):Int)-(1:Int))).toNat<List.length r0.1.1∧
 K
 ((List.set r0.1.1 (i64.wrap ((↑(List.length r0.1.1):Int)-(1:Int))).toNat
 (r3.1.1,
 (List.getD r0.1.1 (i64.wrap ((↑(List.length r0.1.1):Int)-(1:Int))).toNat
 ((0:Int),[],[],(0:Int),[],(0:Int),())).2.1,
 (List.getD r0.1.1 (i64.wrap ((↑(List.length r0.1.1):Int)-(1:Int))).toNat
 ((0:Int),[],[],(0:Int),[],(0:Int),())).2.2.1,
 (List.getD r0.1.1 (i64.wrap ((↑(List.length r0.1.1):Int)-(1:Int))).toNat
 ((0:Int),[],[],(0:Int),[],(0:Int),())).2.2.2.1,
 (List.getD r0.1.1 (i64.wrap ((↑(List.length r0.1.1):Int)-(1:Int))).toNat
 ((0:Int),[],[],(0:Int),[],(0:Int),())).2.2.2.2.1,
 (List.getD r0.1.1 (i64.wrap ((↑(List.length r0.1.1):Int)-(1:Int))).toNat
 ((0:Int),[],[],(0:Int),[],(0:Int),())).2.2.2.2.2.1,
 ()),
 ()),
 (r3.2.1.1,r3.2.1.2.1,r3.2.1.2.2.1,()),())
 else
 bif r1.1.1==(2:Int) then
 (0:Int)≤r1.2.1.2.1∧
 ∀
 (r4:
 NS×jF),
 (0:Int)≤r4.2.1.2.1∧Sp.eF (r4.1.1.1,r4.1.1.2.1,r4.1.1.2.2.1,r4.1.1.2.2.2.1,())→
 ((0:Int)≤(0:Int)∧(0:Int)<(↑(List.length r0.1.1):Int))∧
 Int.toNat (0:Int)<List.length r0.1.1∧
 K
 ((List.set r0.1.1 (Int.toNat (0:Int))
 ((List.getD r0.1.1 (Int.toNat (0:Int)) ((0:Int),[],[],(0:Int),[],(0:Int),())).1,r4.1.1.1,r4.1.1.2.1,
 r4.1.1.2.2.1,r4.1.1.2.2.2.1,
 (List.getD r0.1.1 (Int.toNat (0:Int)) ((0:Int),[],[],(0:Int),[],(0:Int),())).2.2.2.2.2.1,()),
 ()),
 (r4.2.1.1,r4.2.1.2.1,r4.2.1.2.2.1,()),())
 else K ((r0.1.1,()),(r1.2.1.1,r1.2.1.2.1,r1.2.1.2.2.1,()),())
theorem ajA (env:EnvB prog G Θ ala) (hne:∀ x,(Ny x).1→∃ t,(Ny x).2 t) (h:∀ (c0:dH) (c1:Int) (c2:Int),dL pX ((c0,c1,c2,()),())→((0:Int)≤c1)→aj9 c0 c1 c2 fun (r:Dx×jF)=>((0:Int)≤c1,
 fun
 (x:
 Dx×jF)=>
 (0:Int)≤x.2.1.2.1∧x.1.1.length≤(10:Nat)∧Sp.bn x.1.1).2
 r):aC prog G vY vz:=
 bQ env mixed (fn:=f41) (c:=codeOf f41) (by kernel_rfl) (by kernel_rfl) alJ (by kernel_rfl) hne fun ⟨⟨c0,c1,c2,⟨⟩⟩,⟨⟩⟩ hin hp=>
 Eq.mpr (by kernel_rfl) (h c0 c1 c2 hin hp)
def adD:Hints:=Go.Fw.hints [] [] [] [] []
def ab5 (c0:dH) (c1:Int) (c2:Int) (K:eP→Prop):Prop:=
 ((0:Int)≤c1∧[((1:Int),()),((2:Int),()),((3:Int),()),((4:Int),()),((5:Int),()),((1:Int),()),((2:Int),()),((0:Int),()),((-1:Int),())]≠[])∧
 ∀ (r0:eP),
 (0:Int)≤r0.2.1.2.1∧
 (r0.1.1,())∈
 [((1:Int),()),((2:Int),()),((3:Int),()),((4:Int),()),((5:Int),()),((1:Int),()),((2:Int),()),((0:Int),()),((-1:Int),())]→
 K ((r0.1.1,()),(r0.2.1.1,r0.2.1.2.1,r0.2.1.2.2.1,()),())
theorem abK (env:EnvB prog G Θ acP) (hne:∀ x,(Gi x).1→∃ t,(Gi x).2 t) (h:∀ (c0:dH) (c1:Int) (c2:Int),dL pY ((c0,c1,c2,()),())→((0:Int)≤c1)→ab5 c0 c1 c2 fun (r:eP)=>((0:Int)≤c1,fun (x:eP)=>(0:Int)≤x.2.1.2.1∧True).2 r):aC prog G wG yQ:=
 bQ env mixed (fn:=f48) (c:=codeOf f48) (by kernel_rfl) (by kernel_rfl) adD (by kernel_rfl) hne fun ⟨⟨c0,c1,c2,⟨⟩⟩,⟨⟩⟩ hin hp=>
 Eq.mpr (by kernel_rfl) (h c0 c1 c2 hin hp)
def Q9:Hints:=Go.Fw.hints [] [] [] [] []
def Pq (code:dH) (K:ao8→Prop):Prop:=
 code.length≤(1048576:Nat)∧
 ∀ (r0:zf),
 r0.2.1=(0:Int)→
 (0:Int)≤r0.2.1∧
 ∀
 (r1:
 Dx×jF),
 (0:Int)≤r1.2.1.2.1∧r1.1.1.length≤(10:Nat)∧Sp.bn r1.1.1→
 ((0:Int)≤r1.2.1.2.1∧
 [((1:Int),()),((5:Int),()),((9:Int),()),((20:Int),()),((0:Int),()),((1000000000:Int),()),((1000000001:Int),())]≠[])∧
 ∀ (r2:eP),
 (0:Int)≤r2.2.1.2.1∧
 (r2.1.1,())∈[((1:Int),()),((5:Int),()),((9:Int),()),((20:Int),()),((0:Int),()),((1000000000:Int),()),((1000000001:Int),())]→
 (0:Int)≤r2.2.1.2.1∧
 ∀
 (r3:
 NS×jF),
 (0:Int)≤r3.2.1.2.1∧Sp.eF (r3.1.1.1,r3.1.1.2.1,r3.1.1.2.2.1,r3.1.1.2.2.2.1,())→
 K ((r1.1.1,r2.1.1,(r3.1.1.1,r3.1.1.2.1,r3.1.1.2.2.1,r3.1.1.2.2.2.1,()),()),())
theorem O9 (env:EnvB prog G Θ Qd) (hne:∀ x,(x9 x).1→∃ t,(x9 x).2 t) (h:∀ (code:dH),dL jC (code,())→(code.length≤(1048576:Nat))→Pq code fun (r:ao8)=>(code.length≤(1048576:Nat),
 fun
 (x:
 ao8)=>
 x.1.1.length≤(10:Nat)∧Sp.bn x.1.1∧Sp.eF (x.1.2.2.1.1,x.1.2.2.1.2.1,x.1.2.2.1.2.2.1,x.1.2.2.1.2.2.2.1,())).2
 r):aC prog G mr oW:=
 bQ env mixed (fn:=f8) (c:=codeOf f8) (by kernel_rfl) (by kernel_rfl) Q9 (by kernel_rfl) hne fun ⟨code,⟨⟩⟩ hin hp=>
 Eq.mpr (by kernel_rfl) (h code hin hp)
def UJ:Hints:=Go.Fw.hints [] [] [] [] []
def RP (code:dH) (K:(uT×iY)×Unit→Prop):Prop:=
 code.length≤(1048576:Nat)∧
 ∀ (r0:zf),
 r0.2.1=(0:Int)→
 (0:Int)≤r0.2.1∧
 ∀
 (r1:
 Dx×jF),
 (0:Int)≤r1.2.1.2.1∧r1.1.1.length≤(10:Nat)∧Sp.bn r1.1.1→
 (0:Int)≤r1.2.1.2.1∧
 ∀ (r2:eP),(0:Int)≤r2.2.1.2.1∧True→K ((r1.1.1,r2.1.1,()),())
theorem Rz (env:EnvB prog G Θ Ue) (hne:∀ x,(Ag x).1→∃ t,(Ag x).2 t) (h:∀ (code:dH),dL jW (code,())→(code.length≤(1048576:Nat))→RP code fun (r:(uT×iY)×Unit)=>(code.length≤(1048576:Nat),
 fun
 (x:
 (uT×iY)×Unit)=>
 x.1.1.length≤(10:Nat)∧Sp.bn x.1.1).2
 r):aC prog G oP qF:=
 bQ env mixed (fn:=f11) (c:=codeOf f11) (by kernel_rfl) (by kernel_rfl) UJ (by kernel_rfl) hne fun ⟨code,⟨⟩⟩ hin hp=>
 Eq.mpr (by kernel_rfl) (h code hin hp)
def ab6:Hints:=Go.Fw.hints [] [] [(2,⟨[],⟨[(1, .one (.int .i64)),(2, .gB [.int .i64, .int .i64, .int .i64, .str, .int .i64, .int .i64, .str] 0)],[]⟩,⟨[(5, .one (.bool))],[]⟩⟩),(3,⟨[],⟨[(2, .gB [.int .i64, .int .i64, .int .i64, .str, .int .i64, .int .i64, .str] 0),(5, .one (.bool))],[]⟩,⟨[(6, .one (.bool))],[]⟩⟩)] [] []
def KX (n0:Int) (n1:Int) (n2:Int) (n3:eX) (n4:Int) (n5:Int) (n6:eX) (at':Int) (K:eG→Prop):Prop:=
 let s0:=((at',(n0,n1,n2,n3,n4,n5,n6,()),()),());
  ∃ (J:eG×Unit→Prop),
  (True∧
 let r1:=decide ((0:Int)≤n1)&&decide (n1≤i64.wrap (at'-(1:Int)));
  bif r1 then s0=s0∧J ((decide (at'>(0:Int)),()),()) else s0=s0∧J ((false,()),()))∧
  ∀ (y2:eG×Unit),
  J y2→
 let s3:=(((n0,n1,n2,n3,n4,n5,n6,()),y2.1.1,()),());
  ∃ (J:eG×Unit→Prop),
  (bif y2.1.1 then
  True∧
 let r4:=decide ((0:Int)≤n2)&&decide (n2≤i64.wrap (at'-(1:Int)));
  s3=s3∧J ((r4,()),())
  else s3=s3∧J ((false,()),()))∧
  ∀ (y5:eG×Unit),
  J y5→
  bif n0==(1:Int) then
  K (n0==(1:Int)&&(n1==(0:Int)&&(n2==(0:Int)&&(n3==[]&&(n4==(0:Int)&&(n5==(0:Int)&&(n6==[]&&true)))))),())
  else
  bif n0==(2:Int) then
  True∧
  bif Sp.ji n3 then K (n0==n0&&(n1==(0:Int)&&(n2==(0:Int)&&(n3==n3&&(n4==(0:Int)&&(n5==(0:Int)&&(n6==[]&&true)))))),())
  else K (false,())
  else
  bif n0==(3:Int) then
  True∧
  bif Sp.ji n3 then
  True∧
  bif Sp.jm n4 n5 n6 then bif n4 !=(0:Int) then bif n1==(0:Int) then K (n2==(0:Int),()) else K (false,()) else K (false,())
  else K (false,())
  else K (false,())
  else
  bif n0==(4:Int) then
  True∧
  bif Sp.ji n3 then
  True∧
  bif Sp.jm n4 n5 n6 then bif n4==(1:Int) then bif n1==(0:Int) then K (n2==(0:Int),()) else K (false,()) else K (false,())
  else K (false,())
  else K (false,())
  else
  bif n0==(5:Int) then
  bif y2.1.1 then
  bif n2==(0:Int) then bif n3==[] then K (n4==(0:Int)&&(n5==(0:Int)&&(n6==[]&&true)),()) else K (false,()) else K (false,())
  else K (false,())
  else
  bif n0==(6:Int) then
  bif n0==(6:Int) then
  bif y5.1.1 then bif n3==[] then K (n4==(0:Int)&&(n5==(0:Int)&&(n6==[]&&true)),()) else K (false,()) else K (false,())
  else
  bif n0==(8:Int) then
  bif n0==(8:Int) then
  True∧
  bif Sp.gG n3 then
  K (n0==n0&&(n1==(0:Int)&&(n2==(0:Int)&&(n3==n3&&(n4==(0:Int)&&(n5==(0:Int)&&(n6==[]&&true)))))),())
  else K (false,())
  else K (false,())
  else
  bif n0==(9:Int) then
  True∧
  bif Sp.gG n3 then
  K (n0==n0&&(n1==(0:Int)&&(n2==(0:Int)&&(n3==n3&&(n4==(0:Int)&&(n5==(0:Int)&&(n6==[]&&true)))))),())
  else K (false,())
  else K (false,())
  else
  bif n0==(7:Int) then
  bif y5.1.1 then bif n3==[] then K (n4==(0:Int)&&(n5==(0:Int)&&(n6==[]&&true)),()) else K (false,()) else K (false,())
  else
  bif n0==(8:Int) then
  bif n0==(8:Int) then
  True∧
  bif Sp.gG n3 then
  K (n0==n0&&(n1==(0:Int)&&(n2==(0:Int)&&(n3==n3&&(n4==(0:Int)&&(n5==(0:Int)&&(n6==[]&&true)))))),())
  else K (false,())
  else K (false,())
  else
  bif n0==(9:Int) then
  True∧
  bif Sp.gG n3 then
  K (n0==n0&&(n1==(0:Int)&&(n2==(0:Int)&&(n3==n3&&(n4==(0:Int)&&(n5==(0:Int)&&(n6==[]&&true)))))),())
  else K (false,())
  else K (false,())
theorem Zz (env:EnvB prog G Θ aax) (h:∀ (n0:Int) (n1:Int) (n2:Int) (n3:eX) (n4:Int) (n5:Int) (n6:eX) (at':Int),bP Ef ((n0,n1,n2,n3,n4,n5,n6,()),at',())→(True)→KX n0 n1 n2 n3 n4 n5 n6 at' fun r=>r=((Sp.oK (n0,n1,n2,n3,n4,n5,n6,()) at',()))):aG prog G uF wP:=
 aZ env mixed (fn:=f245) (c:=codeOf f245) (by kernel_rfl) (by kernel_rfl) ab6 (by kernel_rfl) fun ⟨⟨n0,n1,n2,n3,n4,n5,n6,⟨⟩⟩,at',⟨⟩⟩ hin hp=>
 Eq.mpr (by kernel_rfl) (h n0 n1 n2 n3 n4 n5 n6 at' hin hp)
def ab7:Hints:=Go.Fw.hints [] [] [(10,⟨[],⟨[(1, .one (.int .i64)),(2, .gB [.int .i64, .int .i64, .int .i64, .str, .int .i64, .int .i64, .str] 0),(5, .dw 320 0),(10, .one (.int .i64))],[(320, .var [.int .i64, .int .i64, .int .i64, .str, .int .i64, .int .i64, .str])]⟩,⟨[(26, .one (.bool))],[]⟩⟩),(17,⟨[],⟨[(1, .one (.int .i64)),(2, .gB [.int .i64, .int .i64, .int .i64, .str, .int .i64, .int .i64, .str] 0),(5, .dw 320 0),(10, .one (.int .i64))],[(320, .var [.int .i64, .int .i64, .int .i64, .str, .int .i64, .int .i64, .str])]⟩,⟨[(84, .one (.bool))],[]⟩⟩)] [320] []
def KW (n0:Int) (n1:Int) (n2:Int) (n3:eX) (n4:Int) (n5:Int) (n6:eX) (at':Int) (K:eG→Prop):Prop:=
 bif n0==(1:Int) then K (n0==n0&&(n1==(0:Int)&&(n2==(0:Int)&&(n3==[]&&(n4==(0:Int)&&(n5==(0:Int)&&(n6==[]&&true)))))),())
 else
 bif n0==(2:Int) then
 bif n0==n0&&(n1==(0:Int)&&(n2==(0:Int)&&(n3==n3&&(n4==(0:Int)&&(n5==(0:Int)&&(n6==[]&&true)))))) then True∧K (Sp.ji n3,())
 else K (false,())
 else
 let s0:(Int×(Int×Int×Int×Ty0)×qA)×UG:=
  ((at',(n0,n1,n2,n3,n4,n5,n6,()),(),n0,()),(n0,(0:Int),(0:Int),[],(0:Int),(0:Int),[],()),());
  ∃ (J:eG×Unit→Prop),
  (bif n0==(3:Int) then s0=s0∧J ((n0==(3:Int),()),()) else s0=s0∧J ((n0==(4:Int),()),()))∧
  ∀ (y1:eG×Unit),
  J y1→
  bif y1.1.1 then
  bif n0==n0&&(n1==(0:Int)&&(n2==(0:Int)&&(n3==n3&&(n4==n4&&(n5==n5&&(n6==n6&&true)))))) then
  True∧
  bif Sp.ji n3 then
  True∧
  bif Sp.jm n4 n5 n6 then bif n4 !=(0:Int) then bif n0==(3:Int) then K (true,()) else K (n4==(1:Int),()) else K (false,()) else K (false,())
  else K (false,())
  else K (false,())
  else
  bif n0==(5:Int) then
  bif n0==n0&&(n1==n1&&(n2==(0:Int)&&(n3==[]&&(n4==(0:Int)&&(n5==(0:Int)&&(n6==[]&&true)))))) then
  bif decide (at'>(0:Int)) then
  True∧
 let r2:Bool:=decide ((0:Int)≤n1)&&decide (n1≤i64.wrap (at'-(1:Int)));
  K (r2,())
  else K (false,())
  else K (false,())
  else
 let s3:
  (Int×(Int×Int×Int×Ty0)×qA)×UG:=
  ((at',(n0,n1,n2,n3,n4,n5,n6,()),(),n0,()),(n0,(0:Int),(0:Int),[],(0:Int),(0:Int),[],()),());
  ∃ (J:eG×Unit→Prop),
  (bif n0==(6:Int) then s3=s3∧J ((n0==(6:Int),()),()) else s3=s3∧J ((n0==(7:Int),()),()))∧
  ∀ (y4:eG×Unit),
  J y4→
  bif y4.1.1 then
  bif n0==n0&&(n1==n1&&(n2==n2&&(n3==[]&&(n4==(0:Int)&&(n5==(0:Int)&&(n6==[]&&true)))))) then
  bif decide (at'>(0:Int)) then
  True∧
 let r5:Bool:=decide ((0:Int)≤n1)&&decide (n1≤i64.wrap (at'-(1:Int)));
  bif r5 then
  True∧
 let r6:Bool:=decide ((0:Int)≤n2)&&decide (n2≤i64.wrap (at'-(1:Int)));
  K (r6,())
  else K (false,())
  else K (false,())
  else K (false,())
  else
  bif n0==(8:Int) then
  bif n0==(8:Int) then
  bif n0==n0&&(n1==(0:Int)&&(n2==(0:Int)&&(n3==n3&&(n4==(0:Int)&&(n5==(0:Int)&&(n6==[]&&true)))))) then
  True∧K (Sp.gG n3,())
  else K (false,())
  else K (false,())
  else
  bif n0==(9:Int) then
  bif n0==n0&&(n1==(0:Int)&&(n2==(0:Int)&&(n3==n3&&(n4==(0:Int)&&(n5==(0:Int)&&(n6==[]&&true)))))) then
  True∧K (Sp.gG n3,())
  else K (false,())
  else K (false,())
theorem Zx (env:EnvB prog G Θ aay) (h:∀ (n0:Int) (n1:Int) (n2:Int) (n3:eX) (n4:Int) (n5:Int) (n6:eX) (at':Int),bP Eg ((n0,n1,n2,n3,n4,n5,n6,()),at',())→(True)→KW n0 n1 n2 n3 n4 n5 n6 at' fun r=>r=((Sp.oK (n0,n1,n2,n3,n4,n5,n6,()) at',()))):aG prog G uG wQ:=
 aZ env mixed (fn:=f248) (c:=codeOf f248) (by kernel_rfl) (by kernel_rfl) ab7 (by kernel_rfl) fun ⟨⟨n0,n1,n2,n3,n4,n5,n6,⟨⟩⟩,at',⟨⟩⟩ hin hp=>
 Eq.mpr (by kernel_rfl) (h n0 n1 n2 n3 n4 n5 n6 at' hin hp)
def UK:Hints:=Go.Fw.hints [] [(3,⟨[],⟨[(0, .one (.sl 167 (.cons (.int .i64) (.cons (.int .i64) (.cons (.int .i64) (.cons .str (.cons (.int .i64) (.cons (.int .i64) (.cons .str .nil))))))) false)),(1, .one (.int .i64))],[]⟩,⟨[(5, .one (.int .i64)),(6, .one (.int .i64))],[]⟩⟩)] [(8,⟨[],⟨[(0, .one (.sl 167 (.cons (.int .i64) (.cons (.int .i64) (.cons (.int .i64) (.cons .str (.cons (.int .i64) (.cons (.int .i64) (.cons .str .nil))))))) false)),(1, .one (.int .i64)),(6, .one (.int .i64)),(7, .one (.bool))],[]⟩,⟨[(5, .one (.int .i64))],[]⟩⟩)] [] []
def RQ (q:kQ) (at':Int) (K:iY→Prop):Prop:=
 let s0:(kQ×iY)×Unit:=((q,at',()),());
  ∃ (I:NT→Prop),
  ∃ (μ:NT→Nat),
  I (((0:Int),(0:Int),()),())∧
  ∀ (y1:NT),
  I y1→
  bif decide (y1.1.2.1<(↑q.length:Int)) then
  ((0:Int)≤y1.1.2.1∧y1.1.2.1<(↑q.length:Int))∧
  bif (q.getD (Int.toNat y1.1.2.1) ((0:Int),(0:Int),(0:Int),[],(0:Int),(0:Int),[],())).1==(6:Int) then
 let s2:(kQ×Int×Int×eG)×Unit:=((q,at',y1.1.2.1,true,()),());
  ∃ (J:bM→Prop),
  (((0:Int)≤y1.1.2.1∧y1.1.2.1<(↑q.length:Int))∧
  bif (q.getD (Int.toNat y1.1.2.1) ((0:Int),(0:Int),(0:Int),[],(0:Int),(0:Int),[],())).2.1==at' then
  s2=s2∧J ((i64.wrap (y1.1.1+(1:Int)),()),())
  else s2=s2∧J ((y1.1.1,()),()))∧
  ∀ (y3:bM),
  J y3→
  ((0:Int)≤y1.1.2.1∧y1.1.2.1<(↑q.length:Int))∧
  bif (q.getD (Int.toNat y1.1.2.1) ((0:Int),(0:Int),(0:Int),[],(0:Int),(0:Int),[],())).2.2.1==at' then
  s0=s0∧
  I ((i64.wrap (y3.1.1+(1:Int)),i64.wrap (y1.1.2.1+(1:Int)),()),())∧
  μ ((i64.wrap (y3.1.1+(1:Int)),i64.wrap (y1.1.2.1+(1:Int)),()),())<μ y1
  else
  s0=s0∧
  I ((y3.1.1,i64.wrap (y1.1.2.1+(1:Int)),()),())∧
  μ ((y3.1.1,i64.wrap (y1.1.2.1+(1:Int)),()),())<μ y1
  else
  ((0:Int)≤y1.1.2.1∧y1.1.2.1<(↑q.length:Int))∧
 let s4:(kQ×Int×Int×eG)×Unit:=
  ((q,at',y1.1.2.1,(q.getD (Int.toNat y1.1.2.1) ((0:Int),(0:Int),(0:Int),[],(0:Int),(0:Int),[],())).1==(7:Int),()),());
  ∃ (J:bM→Prop),
  (bif (q.getD (Int.toNat y1.1.2.1) ((0:Int),(0:Int),(0:Int),[],(0:Int),(0:Int),[],())).1==(7:Int) then
  ((0:Int)≤y1.1.2.1∧y1.1.2.1<(↑q.length:Int))∧
  bif (q.getD (Int.toNat y1.1.2.1) ((0:Int),(0:Int),(0:Int),[],(0:Int),(0:Int),[],())).2.1==at' then
  s4=s4∧J ((i64.wrap (y1.1.1+(1:Int)),()),())
  else s4=s4∧J ((y1.1.1,()),())
  else
  ((0:Int)≤y1.1.2.1∧y1.1.2.1<(↑q.length:Int))∧
  bif (q.getD (Int.toNat y1.1.2.1) ((0:Int),(0:Int),(0:Int),[],(0:Int),(0:Int),[],())).1==(5:Int) then
  ((0:Int)≤y1.1.2.1∧y1.1.2.1<(↑q.length:Int))∧
  bif (q.getD (Int.toNat y1.1.2.1) ((0:Int),(0:Int),(0:Int),[],(0:Int),(0:Int),[],())).2.1==at' then
  s4=s4∧J ((i64.wrap (y1.1.1+(1:Int)),()),())
  else s4=s4∧J ((y1.1.1,()),())
  else s4=s4∧J ((y1.1.1,()),()))∧
  ∀ (y5:bM),
  J y5→
  bif (q.getD (Int.toNat y1.1.2.1) ((0:Int),(0:Int),(0:Int),[],(0:Int),(0:Int),[],())).1==(7:Int) then
  ((0:Int)≤y1.1.2.1∧y1.1.2.1<(↑q.length:Int))∧
  bif (q.getD (Int.toNat y1.1.2.1) ((0:Int),(0:Int),(0:Int),[],(0:Int),(0:Int),[],())).2.2.1==at' then
  s0=s0∧
  I ((i64.wrap (y5.1.1+(1:Int)),i64.wrap (y1.1.2.1+(1:Int)),()),())∧
  μ ((i64.wrap (y5.1.1+(1:Int)),i64.wrap (y1.1.2.1+(1:Int)),()),())<μ y1
  else
  s0=s0∧
  I ((y5.1.1,i64.wrap (y1.1.2.1+(1:Int)),()),())∧
  μ ((y5.1.1,i64.wrap (y1.1.2.1+(1:Int)),()),())<μ y1
  else
  s0=s0∧
  I ((y5.1.1,i64.wrap (y1.1.2.1+(1:Int)),()),())∧
  μ ((y5.1.1,i64.wrap (y1.1.2.1+(1:Int)),()),())<μ y1
  else K (y1.1.1,())
theorem RG (env:EnvB prog G Θ Uf) (h:∀ (q:kQ) (at':Int),bP yY (q,at',())→(q.length≤(1000000:Nat))→RQ q at' fun r=>r=(((↑(Sp.lW q at'):Int),()))):aG prog G oL qG:=
 aZ env mixed (fn:=f246) (c:=codeOf f246) (by kernel_rfl) (by kernel_rfl) UK (by kernel_rfl) fun ⟨q,at',⟨⟩⟩ hin hp=>
 Eq.mpr (by kernel_rfl) (h q at' hin hp)
def UL:Hints:=Go.Fw.hints [] [(3,⟨[],⟨[(1, .one (.int .i64)),(9, .one (.sl 167 (.cons (.int .i64) (.cons (.int .i64) (.cons (.int .i64) (.cons .str (.cons (.int .i64) (.cons (.int .i64) (.cons .str .nil))))))) false)),(10, .one (.int .i64))],[]⟩,⟨[(5, .one (.int .i64)),(11, .one (.int .i64))],[]⟩⟩)] [(8,⟨[],⟨[(1, .one (.int .i64)),(7, .dw 448 0),(8, .one (.bool)),(9, .one (.sl 167 (.cons (.int .i64) (.cons (.int .i64) (.cons (.int .i64) (.cons .str (.cons (.int .i64) (.cons (.int .i64) (.cons .str .nil))))))) false)),(10, .one (.int .i64)),(11, .one (.int .i64))],[(448, .var [.int .i64, .int .i64, .int .i64, .str, .int .i64, .int .i64, .str])]⟩,⟨[(5, .one (.int .i64))],[]⟩⟩)] [] []
def RS (q:kQ) (at':Int) (K:iY→Prop):Prop:=
 let s0:(Int×kQ×iY)×Unit:=((at',q,(↑q.length:Int),()),());
  ∃ (I:NT→Prop),
  ∃ (μ:NT→Nat),
  I (((0:Int),(0:Int),()),())∧
  ∀ (y1:NT),
  I y1→
  bif decide (y1.1.2.1<(↑q.length:Int)) then
  ((0:Int)≤y1.1.2.1∧y1.1.2.1<(↑q.length:Int))∧
  bif (q.getD (Int.toNat y1.1.2.1) ((0:Int),(0:Int),(0:Int),[],(0:Int),(0:Int),[],())).1==(6:Int) then
 let s2:
  (Int×Unit×Bool×kQ×Int×iY)×UG:=
  ((at',(),true,q,(↑q.length:Int),y1.1.2.1,()),
  ((q.getD (Int.toNat y1.1.2.1) ((0:Int),(0:Int),(0:Int),[],(0:Int),(0:Int),[],())).1,
  (q.getD (Int.toNat y1.1.2.1) ((0:Int),(0:Int),(0:Int),[],(0:Int),(0:Int),[],())).2.1,
  (q.getD (Int.toNat y1.1.2.1) ((0:Int),(0:Int),(0:Int),[],(0:Int),(0:Int),[],())).2.2.1,
  (q.getD (Int.toNat y1.1.2.1) ((0:Int),(0:Int),(0:Int),[],(0:Int),(0:Int),[],())).2.2.2.1,
  (q.getD (Int.toNat y1.1.2.1) ((0:Int),(0:Int),(0:Int),[],(0:Int),(0:Int),[],())).2.2.2.2.1,
  (q.getD (Int.toNat y1.1.2.1) ((0:Int),(0:Int),(0:Int),[],(0:Int),(0:Int),[],())).2.2.2.2.2.1,
  (q.getD (Int.toNat y1.1.2.1) ((0:Int),(0:Int),(0:Int),[],(0:Int),(0:Int),[],())).2.2.2.2.2.2.1,()),
  ());
  ∃ (J:bM→Prop),
  (bif (q.getD (Int.toNat y1.1.2.1) ((0:Int),(0:Int),(0:Int),[],(0:Int),(0:Int),[],())).2.1==at' then
  s2=s2∧J ((i64.wrap (y1.1.1+(1:Int)),()),())
  else s2=s2∧J ((y1.1.1,()),()))∧
  ∀ (y3:bM),
  J y3→
  bif (q.getD (Int.toNat y1.1.2.1) ((0:Int),(0:Int),(0:Int),[],(0:Int),(0:Int),[],())).2.2.1==at' then
  s0=s0∧
  I ((i64.wrap (y3.1.1+(1:Int)),i64.wrap (y1.1.2.1+(1:Int)),()),())∧
  μ ((i64.wrap (y3.1.1+(1:Int)),i64.wrap (y1.1.2.1+(1:Int)),()),())<μ y1
  else
  s0=s0∧
  I ((y3.1.1,i64.wrap (y1.1.2.1+(1:Int)),()),())∧μ ((y3.1.1,i64.wrap (y1.1.2.1+(1:Int)),()),())<μ y1
  else
 let s4:
  (Int×Unit×Bool×kQ×Int×iY)×UG:=
  ((at',(),(q.getD (Int.toNat y1.1.2.1) ((0:Int),(0:Int),(0:Int),[],(0:Int),(0:Int),[],())).1==(7:Int),q,(↑q.length:Int),
  y1.1.2.1,()),
  ((q.getD (Int.toNat y1.1.2.1) ((0:Int),(0:Int),(0:Int),[],(0:Int),(0:Int),[],())).1,
  (q.getD (Int.toNat y1.1.2.1) ((0:Int),(0:Int),(0:Int),[],(0:Int),(0:Int),[],())).2.1,
  (q.getD (Int.toNat y1.1.2.1) ((0:Int),(0:Int),(0:Int),[],(0:Int),(0:Int),[],())).2.2.1,
  (q.getD (Int.toNat y1.1.2.1) ((0:Int),(0:Int),(0:Int),[],(0:Int),(0:Int),[],())).2.2.2.1,
  (q.getD (Int.toNat y1.1.2.1) ((0:Int),(0:Int),(0:Int),[],(0:Int),(0:Int),[],())).2.2.2.2.1,
  (q.getD (Int.toNat y1.1.2.1) ((0:Int),(0:Int),(0:Int),[],(0:Int),(0:Int),[],())).2.2.2.2.2.1,
  (q.getD (Int.toNat y1.1.2.1) ((0:Int),(0:Int),(0:Int),[],(0:Int),(0:Int),[],())).2.2.2.2.2.2.1,()),
  ());
  ∃ (J:bM→Prop),
  (bif (q.getD (Int.toNat y1.1.2.1) ((0:Int),(0:Int),(0:Int),[],(0:Int),(0:Int),[],())).2.1==at' then
  bif (q.getD (Int.toNat y1.1.2.1) ((0:Int),(0:Int),(0:Int),[],(0:Int),(0:Int),[],())).1==(7:Int) then
  s4=s4∧J ((i64.wrap (y1.1.1+(1:Int)),()),())
  else
  bif (q.getD (Int.toNat y1.1.2.1) ((0:Int),(0:Int),(0:Int),[],(0:Int),(0:Int),[],())).1==(5:Int) then
  s4=s4∧J ((i64.wrap (y1.1.1+(1:Int)),()),())
  else s4=s4∧J ((y1.1.1,()),())
  else s4=s4∧J ((y1.1.1,()),()))∧
  ∀ (y5:bM),
  J y5→
  bif (q.getD (Int.toNat y1.1.2.1) ((0:Int),(0:Int),(0:Int),[],(0:Int),(0:Int),[],())).2.2.1==at' then
  bif (q.getD (Int.toNat y1.1.2.1) ((0:Int),(0:Int),(0:Int),[],(0:Int),(0:Int),[],())).1==(7:Int) then
  s0=s0∧
  I ((i64.wrap (y5.1.1+(1:Int)),i64.wrap (y1.1.2.1+(1:Int)),()),())∧
  μ ((i64.wrap (y5.1.1+(1:Int)),i64.wrap (y1.1.2.1+(1:Int)),()),())<μ y1
  else
  s0=s0∧
  I ((y5.1.1,i64.wrap (y1.1.2.1+(1:Int)),()),())∧
  μ ((y5.1.1,i64.wrap (y1.1.2.1+(1:Int)),()),())<μ y1
  else
  s0=s0∧
  I ((y5.1.1,i64.wrap (y1.1.2.1+(1:Int)),()),())∧μ ((y5.1.1,i64.wrap (y1.1.2.1+(1:Int)),()),())<μ y1
  else K (y1.1.1,())
theorem RI (env:EnvB prog G Θ Ug) (h:∀ (q:kQ) (at':Int),bP yZ (q,at',())→(q.length≤(1000000:Nat))→RS q at' fun r=>r=(((↑(Sp.lW q at'):Int),()))):aG prog G oM qH:=
 aZ env mixed (fn:=f249) (c:=codeOf f249) (by kernel_rfl) (by kernel_rfl) UL (by kernel_rfl) fun ⟨q,at',⟨⟩⟩ hin hp=>
 Eq.mpr (by kernel_rfl) (h q at' hin hp)
def ZO:Hints:=Go.Fw.hints [] [(2,⟨[],⟨[(0, .one (.sl 167 (.cons (.int .i64) (.cons (.int .i64) (.cons (.int .i64) (.cons .str (.cons (.int .i64) (.cons (.int .i64) (.cons .str .nil))))))) false))],[]⟩,⟨[(3, .one (.int .i64))],[]⟩⟩)] [] [] []
def Yd (q:kQ) (K:eG→Prop):Prop:=
 let s0:=((q,()),());
  ∃ (I:bM→Prop),
  ∃ (μ:bM→Nat),
  I (((0:Int),()),())∧
  ∀ (y1:bM),
  I y1→
  bif decide (y1.1.1<(↑q.length:Int)) then
  ((0:Int)≤y1.1.1∧y1.1.1<(↑q.length:Int))∧
  True∧
 let r2:=
  Sp.oK
  ((q.getD (Int.toNat y1.1.1) ((0:Int),(0:Int),(0:Int),[],(0:Int),(0:Int),[],())).1,
  (q.getD (Int.toNat y1.1.1) ((0:Int),(0:Int),(0:Int),[],(0:Int),(0:Int),[],())).2.1,
  (q.getD (Int.toNat y1.1.1) ((0:Int),(0:Int),(0:Int),[],(0:Int),(0:Int),[],())).2.2.1,
  (q.getD (Int.toNat y1.1.1) ((0:Int),(0:Int),(0:Int),[],(0:Int),(0:Int),[],())).2.2.2.1,
  (q.getD (Int.toNat y1.1.1) ((0:Int),(0:Int),(0:Int),[],(0:Int),(0:Int),[],())).2.2.2.2.1,
  (q.getD (Int.toNat y1.1.1) ((0:Int),(0:Int),(0:Int),[],(0:Int),(0:Int),[],())).2.2.2.2.2.1,
  (q.getD (Int.toNat y1.1.1) ((0:Int),(0:Int),(0:Int),[],(0:Int),(0:Int),[],())).2.2.2.2.2.2.1,())
  y1.1.1;
  bif !r2 then K (false,())
  else
  bif decide (y1.1.1<i64.wrap ((↑q.length:Int)-(1:Int))) then
  q.length≤(1000000:Nat)∧
 let r3:=(↑(Sp.lW q y1.1.1):Int);
  bif r3 !=(1:Int) then K (false,())
  else s0=s0∧I ((i64.wrap (y1.1.1+(1:Int)),()),())∧μ ((i64.wrap (y1.1.1+(1:Int)),()),())<μ y1
  else s0=s0∧I ((i64.wrap (y1.1.1+(1:Int)),()),())∧μ ((i64.wrap (y1.1.1+(1:Int)),()),())<μ y1
  else
  True∧
 let r4:=decide ((1:Int)≤(↑q.length:Int))&&decide ((↑q.length:Int)≤(9:Int));
  K (r4,())
theorem XI (env:EnvB prog G Θ YU) (h:∀ (q:kQ),bP CS (q,())→(q.length≤(1000000:Nat))→Yd q fun r=>r=((Sp.iG q,()))):aG prog G kU lH:=
 aZ env mixed (fn:=f226) (c:=codeOf f226) (by kernel_rfl) (by kernel_rfl) ZO (by kernel_rfl) fun ⟨q,⟨⟩⟩ hin hp=>
 Eq.mpr (by kernel_rfl) (h q hin hp)
def ZP:Hints:=Go.Fw.hints [] [(2,⟨[],⟨[(0, .one (.sl 167 (.cons (.int .i64) (.cons (.int .i64) (.cons (.int .i64) (.cons .str (.cons (.int .i64) (.cons (.int .i64) (.cons .str .nil))))))) false)),(5, .one (.sl 167 (.cons (.int .i64) (.cons (.int .i64) (.cons (.int .i64) (.cons .str (.cons (.int .i64) (.cons (.int .i64) (.cons .str .nil))))))) false)),(6, .one (.int .i64))],[]⟩,⟨[(7, .one (.int .i64))],[]⟩⟩)] [] [] []
def Ye (q:kQ) (K:eG→Prop):Prop:=
 let s0:=((q,q,(↑q.length:Int),()),());
  ∃ (I:bM→Prop),
  ∃ (μ:bM→Nat),
  I (((0:Int),()),())∧
  ∀ (y1:bM),
  I y1→
  bif decide (y1.1.1<(↑q.length:Int)) then
  ((0:Int)≤y1.1.1∧y1.1.1<(↑q.length:Int))∧
  True∧
 let r2:=
  Sp.oK
  ((q.getD (Int.toNat y1.1.1) ((0:Int),(0:Int),(0:Int),[],(0:Int),(0:Int),[],())).1,
  (q.getD (Int.toNat y1.1.1) ((0:Int),(0:Int),(0:Int),[],(0:Int),(0:Int),[],())).2.1,
  (q.getD (Int.toNat y1.1.1) ((0:Int),(0:Int),(0:Int),[],(0:Int),(0:Int),[],())).2.2.1,
  (q.getD (Int.toNat y1.1.1) ((0:Int),(0:Int),(0:Int),[],(0:Int),(0:Int),[],())).2.2.2.1,
  (q.getD (Int.toNat y1.1.1) ((0:Int),(0:Int),(0:Int),[],(0:Int),(0:Int),[],())).2.2.2.2.1,
  (q.getD (Int.toNat y1.1.1) ((0:Int),(0:Int),(0:Int),[],(0:Int),(0:Int),[],())).2.2.2.2.2.1,
  (q.getD (Int.toNat y1.1.1) ((0:Int),(0:Int),(0:Int),[],(0:Int),(0:Int),[],())).2.2.2.2.2.2.1,())
  y1.1.1;
  bif !r2 then K (false,())
  else
  bif decide (y1.1.1<i64.wrap ((↑q.length:Int)-(1:Int))) then
  q.length≤(1000000:Nat)∧
 let r3:=(↑(Sp.lW q y1.1.1):Int);
  bif r3 !=(1:Int) then K (false,())
  else s0=s0∧I ((i64.wrap (y1.1.1+(1:Int)),()),())∧μ ((i64.wrap (y1.1.1+(1:Int)),()),())<μ y1
  else s0=s0∧I ((i64.wrap (y1.1.1+(1:Int)),()),())∧μ ((i64.wrap (y1.1.1+(1:Int)),()),())<μ y1
  else
  True∧
 let r4:=decide ((1:Int)≤(↑q.length:Int))&&decide ((↑q.length:Int)≤(9:Int));
  K (r4,())
theorem XJ (env:EnvB prog G Θ YV) (h:∀ (q:kQ),bP CU (q,())→(q.length≤(1000000:Nat))→Ye q fun r=>r=((Sp.iG q,()))):aG prog G kV lI:=
 aZ env mixed (fn:=f234) (c:=codeOf f234) (by kernel_rfl) (by kernel_rfl) ZP (by kernel_rfl) fun ⟨q,⟨⟩⟩ hin hp=>
 Eq.mpr (by kernel_rfl) (h q hin hp)
def ab8:Hints:=Go.Fw.hints [] [(2,⟨[],⟨[(0, .one (.sl 124 (.cons .str (.cons (.sl 167 (.cons (.int .i64) (.cons (.int .i64) (.cons (.int .i64) (.cons .str (.cons (.int .i64) (.cons (.int .i64) (.cons .str .nil)))))))) .nil)) false))],[]⟩,⟨[(3, .one (.int .i64))],[]⟩⟩)] [] [] []
def ZQ (d:jQ) (K:eG→Prop):Prop:=
 let s0:=((d,()),());
  ∃ (I:bM→Prop),
  ∃ (μ:bM→Nat),
  I (((0:Int),()),())∧
  ∀ (y1:bM),
  I y1→
  bif decide (y1.1.1<(↑d.length:Int)) then
  ((0:Int)≤y1.1.1∧y1.1.1<(↑d.length:Int))∧
  True∧
 let r2:=Sp.gG (d.getD (Int.toNat y1.1.1) ([],[],())).1;
  bif !r2 then K (false,())
  else
  ((0:Int)≤y1.1.1∧y1.1.1<(↑d.length:Int))∧
  List.length (d.getD (Int.toNat y1.1.1) ([],[],())).2.1≤(1000000:Nat)∧
 let r3:=Sp.iG (d.getD (Int.toNat y1.1.1) ([],[],())).2.1;
  bif !r3 then K (false,())
  else
  bif decide (y1.1.1>(0:Int)) then
  ((0:Int)≤i64.wrap (y1.1.1-(1:Int))∧i64.wrap (y1.1.1-(1:Int))<(↑d.length:Int))∧
  ((0:Int)≤y1.1.1∧y1.1.1<(↑d.length:Int))∧
  bif !Op.bytesLess (d.getD (i64.wrap (y1.1.1-(1:Int))).toNat ([],[],())).1 (d.getD (Int.toNat y1.1.1) ([],[],())).1 then
  K (false,())
  else s0=s0∧I ((i64.wrap (y1.1.1+(1:Int)),()),())∧μ ((i64.wrap (y1.1.1+(1:Int)),()),())<μ y1
  else s0=s0∧I ((i64.wrap (y1.1.1+(1:Int)),()),())∧μ ((i64.wrap (y1.1.1+(1:Int)),()),())<μ y1
  else K (decide ((↑d.length:Int)≤(5:Int)),())
theorem ZC (env:EnvB prog G Θ aaz) (h:∀ (d:jQ),bP Eh (d,())→(Sp.bJ d)→ZQ d fun r=>r=((Sp.rV d,()))):aG prog G uJ wR:=
 aZ env mixed (fn:=f190) (c:=codeOf f190) (by kernel_rfl) (by kernel_rfl) ab8 (by kernel_rfl) fun ⟨d,⟨⟩⟩ hin hp=>
 Eq.mpr (by kernel_rfl) (h d hin hp)
def ab9:Hints:=Go.Fw.hints [] [(2,⟨[],⟨[(0, .one (.sl 124 (.cons .str (.cons (.sl 167 (.cons (.int .i64) (.cons (.int .i64) (.cons (.int .i64) (.cons .str (.cons (.int .i64) (.cons (.int .i64) (.cons .str .nil)))))))) .nil)) false)),(5, .one (.sl 124 (.cons .str (.cons (.sl 167 (.cons (.int .i64) (.cons (.int .i64) (.cons (.int .i64) (.cons .str (.cons (.int .i64) (.cons (.int .i64) (.cons .str .nil)))))))) .nil)) false)),(6, .one (.int .i64))],[]⟩,⟨[(7, .one (.int .i64))],[]⟩⟩)] [] [] []
def ZR (d:jQ) (K:eG→Prop):Prop:=
 let s0:=((d,d,(↑d.length:Int),()),());
  ∃ (I:bM→Prop),
  ∃ (μ:bM→Nat),
  I (((0:Int),()),())∧
  ∀ (y1:bM),
  I y1→
  bif decide (y1.1.1<(↑d.length:Int)) then
  ((0:Int)≤y1.1.1∧y1.1.1<(↑d.length:Int))∧
  True∧
 let r2:=Sp.gG (d.getD (Int.toNat y1.1.1) ([],[],())).1;
  bif !r2 then K (false,())
  else
  bif decide (y1.1.1>(0:Int)) then
  ((0:Int)≤i64.wrap (y1.1.1-(1:Int))∧i64.wrap (y1.1.1-(1:Int))<(↑d.length:Int))∧
  bif !Op.bytesLess (d.getD (i64.wrap (y1.1.1-(1:Int))).toNat ([],[],())).1 (d.getD (Int.toNat y1.1.1) ([],[],())).1 then
  K (false,())
  else
  List.length (d.getD (Int.toNat y1.1.1) ([],[],())).2.1≤(1000000:Nat)∧
 let r3:=Sp.iG (d.getD (Int.toNat y1.1.1) ([],[],())).2.1;
  bif !r3 then K (false,())
  else s0=s0∧I ((i64.wrap (y1.1.1+(1:Int)),()),())∧μ ((i64.wrap (y1.1.1+(1:Int)),()),())<μ y1
  else
  List.length (d.getD (Int.toNat y1.1.1) ([],[],())).2.1≤(1000000:Nat)∧
 let r4:=Sp.iG (d.getD (Int.toNat y1.1.1) ([],[],())).2.1;
  bif !r4 then K (false,())
  else s0=s0∧I ((i64.wrap (y1.1.1+(1:Int)),()),())∧μ ((i64.wrap (y1.1.1+(1:Int)),()),())<μ y1
  else K (decide ((↑d.length:Int)≤(5:Int)),())
theorem ZE (env:EnvB prog G Θ aaA) (h:∀ (d:jQ),bP Ei (d,())→(Sp.bJ d)→ZR d fun r=>r=((Sp.rV d,()))):aG prog G uI wS:=
 aZ env mixed (fn:=f201) (c:=codeOf f201) (by kernel_rfl) (by kernel_rfl) ab9 (by kernel_rfl) fun ⟨d,⟨⟩⟩ hin hp=>
 Eq.mpr (by kernel_rfl) (h d hin hp)
def aii:Hints:=Go.Fw.hints [] [] [] [] []
def afL (n0:Int) (n1:Int) (n2:Int) (n3:eX) (n4:Int) (n5:Int) (n6:eX) (K:eG→Prop):Prop:=
 bif n0==(8:Int) then K (true,()) else K (n0==(9:Int),())
theorem afo (env:EnvB prog G Θ agk) (h:∀ (n0:Int) (n1:Int) (n2:Int) (n3:eX) (n4:Int) (n5:Int) (n6:eX),bP Hr ((n0,n1,n2,n3,n4,n5,n6,()),())→(True)→afL n0 n1 n2 n3 n4 n5 n6 fun r=>r=((n0==(8:Int)||n0==(9:Int),()))):aG prog G zJ AL:=
 aZ env mixed (fn:=f241) (c:=codeOf f241) (by kernel_rfl) (by kernel_rfl) aii (by kernel_rfl) fun ⟨⟨n0,n1,n2,n3,n4,n5,n6,⟨⟩⟩,⟨⟩⟩ hin hp=>
 Eq.mpr (by kernel_rfl) (h n0 n1 n2 n3 n4 n5 n6 hin hp)
def ZT:Hints:=Go.Fw.hints [13] [(5,⟨[],⟨[(0, .one (.sl 167 (.cons (.int .i64) (.cons (.int .i64) (.cons (.int .i64) (.cons .str (.cons (.int .i64) (.cons (.int .i64) (.cons .str .nil))))))) false)),(3, .one (.ref 833))],[]⟩,⟨[(4, .one (.int .i64))],[(833, .arr 4 (.cons .bool .nil) true)]⟩⟩)] [] [] []
def Yf (q:kQ) (K:List eG×Unit→Prop):Prop:=
 q.length≤(1000000:Nat)∧
 bif !Sp.iG q then K ([],())
 else
 ((0:Int)≤(↑q.length:Int)∧(↑q.length:Int)≤(↑q.length:Int)∧(↑q.length:Int)≤(↑big:Int))∧
 let s0:=((q,(),()),());
  ∃ (I:ajJ→Prop),
  ∃ (μ:ajJ→Nat),
  I ((i64.wrap ((↑q.length:Int)-(1:Int)),()),List.replicate (↑q.length:Int).toNat (false,()),())∧
  ∀ (y1:ajJ),
  I y1→
  bif decide (y1.1.1≥(0:Int)) then
  ((0:Int)≤y1.1.1∧y1.1.1<(↑q.length:Int))∧
  bif (q.getD (Int.toNat y1.1.1) ((0:Int),(0:Int),(0:Int),[],(0:Int),(0:Int),[],())).1==(6:Int) then
  bif (q.getD (Int.toNat y1.1.1) ((0:Int),(0:Int),(0:Int),[],(0:Int),(0:Int),[],())).1==(5:Int) then
  ((0:Int)≤(q.getD (Int.toNat y1.1.1) ((0:Int),(0:Int),(0:Int),[],(0:Int),(0:Int),[],())).2.1∧
  (q.getD (Int.toNat y1.1.1) ((0:Int),(0:Int),(0:Int),[],(0:Int),(0:Int),[],())).2.1<(↑(List.length y1.2.1):Int))∧
  Int.toNat (q.getD (Int.toNat y1.1.1) ((0:Int),(0:Int),(0:Int),[],(0:Int),(0:Int),[],())).2.1<List.length y1.2.1∧
  ((0:Int)≤y1.1.1∧
  y1.1.1<
  (↑(List.set y1.2.1 (Int.toNat (q.getD (Int.toNat y1.1.1) ((0:Int),(0:Int),(0:Int),[],(0:Int),(0:Int),[],())).2.1)
  (true,())).length:
  Int))∧
  Int.toNat y1.1.1<
  (List.set y1.2.1 (Int.toNat (q.getD (Int.toNat y1.1.1) ((0:Int),(0:Int),(0:Int),[],(0:Int),(0:Int),[],())).2.1)
  (true,())).length∧
  ((0:Int)≤(q.getD (Int.toNat y1.1.1) ((0:Int),(0:Int),(0:Int),[],(0:Int),(0:Int),[],())).2.1∧
  (q.getD (Int.toNat y1.1.1) ((0:Int),(0:Int),(0:Int),[],(0:Int),(0:Int),[],())).2.1<
  (↑(List.set y1.2.1 (Int.toNat (q.getD (Int.toNat y1.1.1) ((0:Int),(0:Int),(0:Int),[],(0:Int),(0:Int),[],())).2.1)
  (true,())).length:
  Int))∧
  Int.toNat (q.getD (Int.toNat y1.1.1) ((0:Int),(0:Int),(0:Int),[],(0:Int),(0:Int),[],())).2.1<
  (List.set y1.2.1 (Int.toNat (q.getD (Int.toNat y1.1.1) ((0:Int),(0:Int),(0:Int),[],(0:Int),(0:Int),[],())).2.1)
  (true,())).length∧
  ((0:Int)≤y1.1.1∧
  y1.1.1<
  (↑((List.set y1.2.1
  (Int.toNat (q.getD (Int.toNat y1.1.1) ((0:Int),(0:Int),(0:Int),[],(0:Int),(0:Int),[],())).2.1)
  (true,())).set
  (Int.toNat (q.getD (Int.toNat y1.1.1) ((0:Int),(0:Int),(0:Int),[],(0:Int),(0:Int),[],())).2.1)
  (((List.set y1.2.1
  (Int.toNat (q.getD (Int.toNat y1.1.1) ((0:Int),(0:Int),(0:Int),[],(0:Int),(0:Int),[],())).2.1)
  (true,())).getD
  (Int.toNat y1.1.1) (false,())).1,
  ())).length:
  Int))∧
  Int.toNat y1.1.1<
  ((List.set y1.2.1
  (Int.toNat (q.getD (Int.toNat y1.1.1) ((0:Int),(0:Int),(0:Int),[],(0:Int),(0:Int),[],())).2.1)
  (true,())).set
  (Int.toNat (q.getD (Int.toNat y1.1.1) ((0:Int),(0:Int),(0:Int),[],(0:Int),(0:Int),[],())).2.1)
  (((List.set y1.2.1
  (Int.toNat (q.getD (Int.toNat y1.1.1) ((0:Int),(0:Int),(0:Int),[],(0:Int),(0:Int),[],())).2.1)
  (true,())).getD
  (Int.toNat y1.1.1) (false,())).1,
  ())).length∧
  ((0:Int)≤(q.getD (Int.toNat y1.1.1) ((0:Int),(0:Int),(0:Int),[],(0:Int),(0:Int),[],())).2.2.1∧
  (q.getD (Int.toNat y1.1.1) ((0:Int),(0:Int),(0:Int),[],(0:Int),(0:Int),[],())).2.2.1<
  (↑((List.set y1.2.1
  (Int.toNat (q.getD (Int.toNat y1.1.1) ((0:Int),(0:Int),(0:Int),[],(0:Int),(0:Int),[],())).2.1)
  (true,())).set
  (Int.toNat (q.getD (Int.toNat y1.1.1) ((0:Int),(0:Int),(0:Int),[],(0:Int),(0:Int),[],())).2.1)
  (((List.set y1.2.1
  (Int.toNat
  (q.getD (Int.toNat y1.1.1) ((0:Int),(0:Int),(0:Int),[],(0:Int),(0:Int),[],())).2.1)
  (true,())).getD
  (Int.toNat y1.1.1) (false,())).1,
  ())).length:
  Int))∧
  Int.toNat (q.getD (Int.toNat y1.1.1) ((0:Int),(0:Int),(0:Int),[],(0:Int),(0:Int),[],())).2.2.1<
  ((List.set y1.2.1
  (Int.toNat (q.getD (Int.toNat y1.1.1) ((0:Int),(0:Int),(0:Int),[],(0:Int),(0:Int),[],())).2.1)
  (true,())).set
  (Int.toNat (q.getD (Int.toNat y1.1.1) ((0:Int),(0:Int),(0:Int),[],(0:Int),(0:Int),[],())).2.1)
  (((List.set y1.2.1
  (Int.toNat (q.getD (Int.toNat y1.1.1) ((0:Int),(0:Int),(0:Int),[],(0:Int),(0:Int),[],())).2.1)
  (true,())).getD
  (Int.toNat y1.1.1) (false,())).1,
  ())).length∧
  s0=s0∧
  I
  ((i64.wrap (y1.1.1-(1:Int)),()),
  ((List.set y1.2.1
  (Int.toNat
  (q.getD (Int.toNat y1.1.1) ((0:Int),(0:Int),(0:Int),[],(0:Int),(0:Int),[],())).2.1)
  (true,())).set
  (Int.toNat (q.getD (Int.toNat y1.1.1) ((0:Int),(0:Int),(0:Int),[],(0:Int),(0:Int),[],())).2.1)
  (((List.set y1.2.1
  (Int.toNat
  (q.getD (Int.toNat y1.1.1) ((0:Int),(0:Int),(0:Int),[],(0:Int),(0:Int),[],())).2.1)
  (true,())).getD
  (Int.toNat y1.1.1) (false,())).1,
  ())).set
  (Int.toNat (q.getD (Int.toNat y1.1.1) ((0:Int),(0:Int),(0:Int),[],(0:Int),(0:Int),[],())).2.2.1)
  ((((List.set y1.2.1
  (Int.toNat
  (q.getD (Int.toNat y1.1.1) ((0:Int),(0:Int),(0:Int),[],(0:Int),(0:Int),[],())).2.1)
  (true,())).set
  (Int.toNat
  (q.getD (Int.toNat y1.1.1) ((0:Int),(0:Int),(0:Int),[],(0:Int),(0:Int),[],())).2.1)
  (((List.set y1.2.1
  (Int.toNat
  (q.getD (Int.toNat y1.1.1)
  ((0:Int),(0:Int),(0:Int),[],(0:Int),(0:Int),[],())).2.1)
  (true,())).getD
  (Int.toNat y1.1.1) (false,())).1,
  ())).getD
  (Int.toNat y1.1.1) (false,())).1,
  ()),
  ())∧
  μ
  ((i64.wrap (y1.1.1-(1:Int)),()),
  ((List.set y1.2.1
  (Int.toNat
  (q.getD (Int.toNat y1.1.1) ((0:Int),(0:Int),(0:Int),[],(0:Int),(0:Int),[],())).2.1)
  (true,())).set
  (Int.toNat (q.getD (Int.toNat y1.1.1) ((0:Int),(0:Int),(0:Int),[],(0:Int),(0:Int),[],())).2.1)
  (((List.set y1.2.1
  (Int.toNat
  (q.getD (Int.toNat y1.1.1) ((0:Int),(0:Int),(0:Int),[],(0:Int),(0:Int),[],())).2.1)
  (true,())).getD
  (Int.toNat y1.1.1) (false,())).1,
  ())).set
  (Int.toNat (q.getD (Int.toNat y1.1.1) ((0:Int),(0:Int),(0:Int),[],(0:Int),(0:Int),[],())).2.2.1)
  ((((List.set y1.2.1
  (Int.toNat
  (q.getD (Int.toNat y1.1.1) ((0:Int),(0:Int),(0:Int),[],(0:Int),(0:Int),[],())).2.1)
  (true,())).set
  (Int.toNat
  (q.getD (Int.toNat y1.1.1) ((0:Int),(0:Int),(0:Int),[],(0:Int),(0:Int),[],())).2.1)
  (((List.set y1.2.1
  (Int.toNat
  (q.getD (Int.toNat y1.1.1)
  ((0:Int),(0:Int),(0:Int),[],(0:Int),(0:Int),[],())).2.1)
  (true,())).getD
  (Int.toNat y1.1.1) (false,())).1,
  ())).getD
  (Int.toNat y1.1.1) (false,())).1,
  ()),
  ())<
  μ y1
  else
  ((0:Int)≤y1.1.1∧y1.1.1<(↑(List.length y1.2.1):Int))∧
  Int.toNat y1.1.1<List.length y1.2.1∧
  ((0:Int)≤(q.getD (Int.toNat y1.1.1) ((0:Int),(0:Int),(0:Int),[],(0:Int),(0:Int),[],())).2.1∧
  (q.getD (Int.toNat y1.1.1) ((0:Int),(0:Int),(0:Int),[],(0:Int),(0:Int),[],())).2.1<(↑(List.length y1.2.1):Int))∧
  Int.toNat (q.getD (Int.toNat y1.1.1) ((0:Int),(0:Int),(0:Int),[],(0:Int),(0:Int),[],())).2.1<List.length y1.2.1∧
  ((0:Int)≤y1.1.1∧
  y1.1.1<
  (↑(List.set y1.2.1 (Int.toNat (q.getD (Int.toNat y1.1.1) ((0:Int),(0:Int),(0:Int),[],(0:Int),(0:Int),[],())).2.1)
  ((List.getD y1.2.1 (Int.toNat y1.1.1) (false,())).1,())).length:
  Int))∧
  Int.toNat y1.1.1<
  (List.set y1.2.1 (Int.toNat (q.getD (Int.toNat y1.1.1) ((0:Int),(0:Int),(0:Int),[],(0:Int),(0:Int),[],())).2.1)
  ((List.getD y1.2.1 (Int.toNat y1.1.1) (false,())).1,())).length∧
  ((0:Int)≤(q.getD (Int.toNat y1.1.1) ((0:Int),(0:Int),(0:Int),[],(0:Int),(0:Int),[],())).2.2.1∧
  (q.getD (Int.toNat y1.1.1) ((0:Int),(0:Int),(0:Int),[],(0:Int),(0:Int),[],())).2.2.1<
  (↑(List.set y1.2.1
  (Int.toNat (q.getD (Int.toNat y1.1.1) ((0:Int),(0:Int),(0:Int),[],(0:Int),(0:Int),[],())).2.1)
  ((List.getD y1.2.1 (Int.toNat y1.1.1) (false,())).1,())).length:
  Int))∧
  Int.toNat (q.getD (Int.toNat y1.1.1) ((0:Int),(0:Int),(0:Int),[],(0:Int),(0:Int),[],())).2.2.1<
  (List.set y1.2.1
  (Int.toNat (q.getD (Int.toNat y1.1.1) ((0:Int),(0:Int),(0:Int),[],(0:Int),(0:Int),[],())).2.1)
  ((List.getD y1.2.1 (Int.toNat y1.1.1) (false,())).1,())).length∧
  s0=s0∧
  I
  ((i64.wrap (y1.1.1-(1:Int)),()),
  (List.set y1.2.1
  (Int.toNat (q.getD (Int.toNat y1.1.1) ((0:Int),(0:Int),(0:Int),[],(0:Int),(0:Int),[],())).2.1)
  ((List.getD y1.2.1 (Int.toNat y1.1.1) (false,())).1,())).set
  (Int.toNat (q.getD (Int.toNat y1.1.1) ((0:Int),(0:Int),(0:Int),[],(0:Int),(0:Int),[],())).2.2.1)
  (((List.set y1.2.1
  (Int.toNat (q.getD (Int.toNat y1.1.1) ((0:Int),(0:Int),(0:Int),[],(0:Int),(0:Int),[],())).2.1)
  ((List.getD y1.2.1 (Int.toNat y1.1.1) (false,())).1,())).getD
  (Int.toNat y1.1.1) (false,())).1,
  ()),
  ())∧
  μ
  ((i64.wrap (y1.1.1-(1:Int)),()),
  (List.set y1.2.1
  (Int.toNat (q.getD (Int.toNat y1.1.1) ((0:Int),(0:Int),(0:Int),[],(0:Int),(0:Int),[],())).2.1)
  ((List.getD y1.2.1 (Int.toNat y1.1.1) (false,())).1,())).set
  (Int.toNat (q.getD (Int.toNat y1.1.1) ((0:Int),(0:Int),(0:Int),[],(0:Int),(0:Int),[],())).2.2.1)
  (((List.set y1.2.1
  (Int.toNat
  (q.getD (Int.toNat y1.1.1) ((0:Int),(0:Int),(0:Int),[],(0:Int),(0:Int),[],())).2.1)
  ((List.getD y1.2.1 (Int.toNat y1.1.1) (false,())).1,())).getD
  (Int.toNat y1.1.1) (false,())).1,
  ()),
  ())<
  μ y1
  else
  bif (q.getD (Int.toNat y1.1.1) ((0:Int),(0:Int),(0:Int),[],(0:Int),(0:Int),[],())).1==(5:Int) then
  ((0:Int)≤(q.getD (Int.toNat y1.1.1) ((0:Int),(0:Int),(0:Int),[],(0:Int),(0:Int),[],())).2.1∧
  (q.getD (Int.toNat y1.1.1) ((0:Int),(0:Int),(0:Int),[],(0:Int),(0:Int),[],())).2.1<(↑(List.length y1.2.1):Int))∧
  Int.toNat (q.getD (Int.toNat y1.1.1) ((0:Int),(0:Int),(0:Int),[],(0:Int),(0:Int),[],())).2.1<List.length y1.2.1∧
  bif (q.getD (Int.toNat y1.1.1) ((0:Int),(0:Int),(0:Int),[],(0:Int),(0:Int),[],())).1==(7:Int) then
  ((0:Int)≤y1.1.1∧
  y1.1.1<
  (↑(List.set y1.2.1 (Int.toNat (q.getD (Int.toNat y1.1.1) ((0:Int),(0:Int),(0:Int),[],(0:Int),(0:Int),[],())).2.1)
  (true,())).length:
  Int))∧
  Int.toNat y1.1.1<
  (List.set y1.2.1 (Int.toNat (q.getD (Int.toNat y1.1.1) ((0:Int),(0:Int),(0:Int),[],(0:Int),(0:Int),[],())).2.1)
  (true,())).length∧
  ((0:Int)≤(q.getD (Int.toNat y1.1.1) ((0:Int),(0:Int),(0:Int),[],(0:Int),(0:Int),[],())).2.1∧
  (q.getD (Int.toNat y1.1.1) ((0:Int),(0:Int),(0:Int),[],(0:Int),(0:Int),[],())).2.1<
  (↑(List.set y1.2.1
  (Int.toNat (q.getD (Int.toNat y1.1.1) ((0:Int),(0:Int),(0:Int),[],(0:Int),(0:Int),[],())).2.1)
  (true,())).length:
  Int))∧
  Int.toNat (q.getD (Int.toNat y1.1.1) ((0:Int),(0:Int),(0:Int),[],(0:Int),(0:Int),[],())).2.1<
  (List.set y1.2.1 (Int.toNat (q.getD (Int.toNat y1.1.1) ((0:Int),(0:Int),(0:Int),[],(0:Int),(0:Int),[],())).2.1)
  (true,())).length∧
  ((0:Int)≤y1.1.1∧
  y1.1.1<
  (↑((List.set y1.2.1
  (Int.toNat (q.getD (Int.toNat y1.1.1) ((0:Int),(0:Int),(0:Int),[],(0:Int),(0:Int),[],())).2.1)
  (true,())).set
  (Int.toNat (q.getD (Int.toNat y1.1.1) ((0:Int),(0:Int),(0:Int),[],(0:Int),(0:Int),[],())).2.1)
  (((List.set y1.2.1
  (Int.toNat
  (q.getD (Int.toNat y1.1.1) ((0:Int),(0:Int),(0:Int),[],(0:Int),(0:Int),[],())).2.1)
  (true,())).getD
  (Int.toNat y1.1.1) (false,())).1,
  ())).length:
  Int))∧
  Int.toNat y1.1.1<
  ((List.set y1.2.1
  (Int.toNat (q.getD (Int.toNat y1.1.1) ((0:Int),(0:Int),(0:Int),[],(0:Int),(0:Int),[],())).2.1)
  (true,())).set
  (Int.toNat (q.getD (Int.toNat y1.1.1) ((0:Int),(0:Int),(0:Int),[],(0:Int),(0:Int),[],())).2.1)
  (((List.set y1.2.1
  (Int.toNat (q.getD (Int.toNat y1.1.1) ((0:Int),(0:Int),(0:Int),[],(0:Int),(0:Int),[],())).2.1)
  (true,())).getD
  (Int.toNat y1.1.1) (false,())).1,
  ())).length∧
  ((0:Int)≤(q.getD (Int.toNat y1.1.1) ((0:Int),(0:Int),(0:Int),[],(0:Int),(0:Int),[],())).2.2.1∧
  (q.getD (Int.toNat y1.1.1) ((0:Int),(0:Int),(0:Int),[],(0:Int),(0:Int),[],())).2.2.1<
  (↑((List.set y1.2.1
  (Int.toNat (q.getD (Int.toNat y1.1.1) ((0:Int),(0:Int),(0:Int),[],(0:Int),(0:Int),[],())).2.1)
  (true,())).set
  (Int.toNat (q.getD (Int.toNat y1.1.1) ((0:Int),(0:Int),(0:Int),[],(0:Int),(0:Int),[],())).2.1)
  (((List.set y1.2.1
  (Int.toNat
  (q.getD (Int.toNat y1.1.1) ((0:Int),(0:Int),(0:Int),[],(0:Int),(0:Int),[],())).2.1)
  (true,())).getD
  (Int.toNat y1.1.1) (false,())).1,
  ())).length:
  Int))∧
  Int.toNat (q.getD (Int.toNat y1.1.1) ((0:Int),(0:Int),(0:Int),[],(0:Int),(0:Int),[],())).2.2.1<
  ((List.set y1.2.1
  (Int.toNat (q.getD (Int.toNat y1.1.1) ((0:Int),(0:Int),(0:Int),[],(0:Int),(0:Int),[],())).2.1)
  (true,())).set
  (Int.toNat (q.getD (Int.toNat y1.1.1) ((0:Int),(0:Int),(0:Int),[],(0:Int),(0:Int),[],())).2.1)
  (((List.set y1.2.1
  (Int.toNat
  (q.getD (Int.toNat y1.1.1) ((0:Int),(0:Int),(0:Int),[],(0:Int),(0:Int),[],())).2.1)
  (true,())).getD
  (Int.toNat y1.1.1) (false,())).1,
  ())).length∧
  s0=s0∧
  I
  ((i64.wrap (y1.1.1-(1:Int)),()),
  ((List.set y1.2.1
  (Int.toNat
  (q.getD (Int.toNat y1.1.1) ((0:Int),(0:Int),(0:Int),[],(0:Int),(0:Int),[],())).2.1)
  (true,())).set
  (Int.toNat (q.getD (Int.toNat y1.1.1) ((0:Int),(0:Int),(0:Int),[],(0:Int),(0:Int),[],())).2.1)
  (((List.set y1.2.1
  (Int.toNat
  (q.getD (Int.toNat y1.1.1) ((0:Int),(0:Int),(0:Int),[],(0:Int),(0:Int),[],())).2.1)
  (true,())).getD
  (Int.toNat y1.1.1) (false,())).1,
  ())).set
  (Int.toNat (q.getD (Int.toNat y1.1.1) ((0:Int),(0:Int),(0:Int),[],(0:Int),(0:Int),[],())).2.2.1)
  ((((List.set y1.2.1
  (Int.toNat
  (q.getD (Int.toNat y1.1.1) ((0:Int),(0:Int),(0:Int),[],(0:Int),(0:Int),[],())).2.1)
  (true,())).set
  (Int.toNat
  (q.getD (Int.toNat y1.1.1) ((0:Int),(0:Int),(0:Int),[],(0:Int),(0:Int),[],())).2.1)
  (((List.set y1.2.1
  (Int.toNat
  (q.getD (Int.toNat y1.1.1)
  ((0:Int),(0:Int),(0:Int),[],(0:Int),(0:Int),[],())).2.1)
  (true,())).getD
  (Int.toNat y1.1.1) (false,())).1,
  ())).getD
  (Int.toNat y1.1.1) (false,())).1,
  ()),
  ())∧
  μ
  ((i64.wrap (y1.1.1-(1:Int)),()),
  ((List.set y1.2.1
  (Int.toNat
  (q.getD (Int.toNat y1.1.1) ((0:Int),(0:Int),(0:Int),[],(0:Int),(0:Int),[],())).2.1)
  (true,())).set
  (Int.toNat
  (q.getD (Int.toNat y1.1.1) ((0:Int),(0:Int),(0:Int),[],(0:Int),(0:Int),[],())).2.1)
  (((List.set y1.2.1
  (Int.toNat
  (q.getD (Int.toNat y1.1.1)
  ((0:Int),(0:Int),(0:Int),[],(0:Int),(0:Int),[],())).2.1)
  (true,())).getD
  (Int.toNat y1.1.1) (false,())).1,
  ())).set
  (Int.toNat
  (q.getD (Int.toNat y1.1.1) ((0:Int),(0:Int),(0:Int),[],(0:Int),(0:Int),[],())).2.2.1)
  ((((List.set y1.2.1
  (Int.toNat
  (q.getD (Int.toNat y1.1.1)
  ((0:Int),(0:Int),(0:Int),[],(0:Int),(0:Int),[],())).2.1)
  (true,())).set
  (Int.toNat
  (q.getD (Int.toNat y1.1.1) ((0:Int),(0:Int),(0:Int),[],(0:Int),(0:Int),[],())).2.1)
  (((List.set y1.2.1
  (Int.toNat
  (q.getD (Int.toNat y1.1.1)
  ((0:Int),(0:Int),(0:Int),[],(0:Int),(0:Int),[],())).2.1)
  (true,())).getD
  (Int.toNat y1.1.1) (false,())).1,
  ())).getD
  (Int.toNat y1.1.1) (false,())).1,
  ()),
  ())<
  μ y1
  else
  s0=s0∧
  I
  ((i64.wrap (y1.1.1-(1:Int)),()),
  List.set y1.2.1 (Int.toNat (q.getD (Int.toNat y1.1.1) ((0:Int),(0:Int),(0:Int),[],(0:Int),(0:Int),[],())).2.1)
  (true,()),
  ())∧
  μ
  ((i64.wrap (y1.1.1-(1:Int)),()),
  List.set y1.2.1 (Int.toNat (q.getD (Int.toNat y1.1.1) ((0:Int),(0:Int),(0:Int),[],(0:Int),(0:Int),[],())).2.1)
  (true,()),
  ())<
  μ y1
  else
  bif (q.getD (Int.toNat y1.1.1) ((0:Int),(0:Int),(0:Int),[],(0:Int),(0:Int),[],())).1==(7:Int) then
  ((0:Int)≤y1.1.1∧y1.1.1<(↑(List.length y1.2.1):Int))∧
  Int.toNat y1.1.1<List.length y1.2.1∧
  ((0:Int)≤(q.getD (Int.toNat y1.1.1) ((0:Int),(0:Int),(0:Int),[],(0:Int),(0:Int),[],())).2.1∧
  (q.getD (Int.toNat y1.1.1) ((0:Int),(0:Int),(0:Int),[],(0:Int),(0:Int),[],())).2.1<(↑(List.length y1.2.1):Int))∧
  Int.toNat (q.getD (Int.toNat y1.1.1) ((0:Int),(0:Int),(0:Int),[],(0:Int),(0:Int),[],())).2.1<List.length y1.2.1∧
  ((0:Int)≤y1.1.1∧
  y1.1.1<
  (↑(List.set y1.2.1
  (Int.toNat (q.getD (Int.toNat y1.1.1) ((0:Int),(0:Int),(0:Int),[],(0:Int),(0:Int),[],())).2.1)
  ((List.getD y1.2.1 (Int.toNat y1.1.1) (false,())).1,())).length:
  Int))∧
  Int.toNat y1.1.1<
  (List.set y1.2.1 (Int.toNat (q.getD (Int.toNat y1.1.1) ((0:Int),(0:Int),(0:Int),[],(0:Int),(0:Int),[],())).2.1)
  ((List.getD y1.2.1 (Int.toNat y1.1.1) (false,())).1,())).length∧
  ((0:Int)≤(q.getD (Int.toNat y1.1.1) ((0:Int),(0:Int),(0:Int),[],(0:Int),(0:Int),[],())).2.2.1∧
  (q.getD (Int.toNat y1.1.1) ((0:Int),(0:Int),(0:Int),[],(0:Int),(0:Int),[],())).2.2.1<
  (↑(List.set y1.2.1
  (Int.toNat (q.getD (Int.toNat y1.1.1) ((0:Int),(0:Int),(0:Int),[],(0:Int),(0:Int),[],())).2.1)
  ((List.getD y1.2.1 (Int.toNat y1.1.1) (false,())).1,())).length:
  Int))∧
  Int.toNat (q.getD (Int.toNat y1.1.1) ((0:Int),(0:Int),(0:Int),[],(0:Int),(0:Int),[],())).2.2.1<
  (List.set y1.2.1
  (Int.toNat (q.getD (Int.toNat y1.1.1) ((0:Int),(0:Int),(0:Int),[],(0:Int),(0:Int),[],())).2.1)
  ((List.getD y1.2.1 (Int.toNat y1.1.1) (false,())).1,())).length∧
  s0=s0∧
  I
  ((i64.wrap (y1.1.1-(1:Int)),()),
  (List.set y1.2.1
  (Int.toNat (q.getD (Int.toNat y1.1.1) ((0:Int),(0:Int),(0:Int),[],(0:Int),(0:Int),[],())).2.1)
  ((List.getD y1.2.1 (Int.toNat y1.1.1) (false,())).1,())).set
  (Int.toNat (q.getD (Int.toNat y1.1.1) ((0:Int),(0:Int),(0:Int),[],(0:Int),(0:Int),[],())).2.2.1)
  (((List.set y1.2.1
  (Int.toNat
  (q.getD (Int.toNat y1.1.1) ((0:Int),(0:Int),(0:Int),[],(0:Int),(0:Int),[],())).2.1)
  ((List.getD y1.2.1 (Int.toNat y1.1.1) (false,())).1,())).getD
  (Int.toNat y1.1.1) (false,())).1,
  ()),
  ())∧
  μ
  ((i64.wrap (y1.1.1-(1:Int)),()),
  (List.set y1.2.1
  (Int.toNat (q.getD (Int.toNat y1.1.1) ((0:Int),(0:Int),(0:Int),[],(0:Int),(0:Int),[],())).2.1)
  ((List.getD y1.2.1 (Int.toNat y1.1.1) (false,())).1,())).set
  (Int.toNat (q.getD (Int.toNat y1.1.1) ((0:Int),(0:Int),(0:Int),[],(0:Int),(0:Int),[],())).2.2.1)
  (((List.set y1.2.1
  (Int.toNat
  (q.getD (Int.toNat y1.1.1) ((0:Int),(0:Int),(0:Int),[],(0:Int),(0:Int),[],())).2.1)
  ((List.getD y1.2.1 (Int.toNat y1.1.1) (false,())).1,())).getD
  (Int.toNat y1.1.1) (false,())).1,
  ()),
  ())<
  μ y1
  else
  s0=s0∧I ((i64.wrap (y1.1.1-(1:Int)),()),y1.2.1,())∧μ ((i64.wrap (y1.1.1-(1:Int)),()),y1.2.1,())<μ y1
  else K (y1.2.1,())
theorem XO (env:EnvB prog G Θ YW) (h:∀ (q:kQ),bP CV (q,())→(q.length≤(1000:Nat))→Yf q fun r=>r=((Sp.negated q,()))):aG prog G rX vC:=
 aZ env mixed (fn:=f268) (c:=codeOf f268) (by kernel_rfl) (by kernel_rfl) ZT (by kernel_rfl) fun ⟨q,⟨⟩⟩ hin hp=>
 Eq.mpr (by kernel_rfl) (h q hin hp)
def ZU:Hints:=Go.Fw.hints [11] [(5,⟨[],⟨[(0, .one (.sl 167 (.cons (.int .i64) (.cons (.int .i64) (.cons (.int .i64) (.cons .str (.cons (.int .i64) (.cons (.int .i64) (.cons .str .nil))))))) false)),(3, .one (.ref 705))],[]⟩,⟨[(4, .one (.int .i64))],[(705, .arr 4 (.cons .bool .nil) true)]⟩⟩)] [] [] []
def Yg (q:kQ) (K:List eG×Unit→Prop):Prop:=
 q.length≤(1000000:Nat)∧
 bif !Sp.iG q then K ([],())
 else
 ((0:Int)≤(↑q.length:Int)∧(↑q.length:Int)≤(↑q.length:Int)∧(↑q.length:Int)≤(↑big:Int))∧
 let s0:=((q,(),()),());
  ∃ (I:ajJ→Prop),
  ∃ (μ:ajJ→Nat),
  I ((i64.wrap ((↑q.length:Int)-(1:Int)),()),List.replicate (↑q.length:Int).toNat (false,()),())∧
  ∀ (y1:ajJ),
  I y1→
  bif decide (y1.1.1≥(0:Int)) then
  ((0:Int)≤y1.1.1∧y1.1.1<(↑(List.length y1.2.1):Int))∧
  Int.toNat y1.1.1<List.length y1.2.1∧
  bif (List.getD y1.2.1 (Int.toNat y1.1.1) (false,())).1 then
  ((0:Int)≤y1.1.1∧y1.1.1<(↑q.length:Int))∧
  bif (q.getD (Int.toNat y1.1.1) ((0:Int),(0:Int),(0:Int),[],(0:Int),(0:Int),[],())).1==(5:Int) then
  ((0:Int)≤y1.1.1∧y1.1.1<(↑q.length:Int))∧
  ((0:Int)≤(q.getD (Int.toNat y1.1.1) ((0:Int),(0:Int),(0:Int),[],(0:Int),(0:Int),[],())).2.1∧
  (q.getD (Int.toNat y1.1.1) ((0:Int),(0:Int),(0:Int),[],(0:Int),(0:Int),[],())).2.1<(↑(List.length y1.2.1):Int))∧
  Int.toNat (q.getD (Int.toNat y1.1.1) ((0:Int),(0:Int),(0:Int),[],(0:Int),(0:Int),[],())).2.1<List.length y1.2.1∧
  s0=s0∧
  I
  ((i64.wrap (y1.1.1-(1:Int)),()),
  List.set y1.2.1
  (Int.toNat (q.getD (Int.toNat y1.1.1) ((0:Int),(0:Int),(0:Int),[],(0:Int),(0:Int),[],())).2.1) (true,()),
  ())∧
  μ
  ((i64.wrap (y1.1.1-(1:Int)),()),
  List.set y1.2.1
  (Int.toNat (q.getD (Int.toNat y1.1.1) ((0:Int),(0:Int),(0:Int),[],(0:Int),(0:Int),[],())).2.1) (true,()),
  ())<
  μ y1
  else
  bif (q.getD (Int.toNat y1.1.1) ((0:Int),(0:Int),(0:Int),[],(0:Int),(0:Int),[],())).1==(6:Int) then
  bif (q.getD (Int.toNat y1.1.1) ((0:Int),(0:Int),(0:Int),[],(0:Int),(0:Int),[],())).1==(6:Int) then
  ((0:Int)≤y1.1.1∧y1.1.1<(↑q.length:Int))∧
  ((0:Int)≤y1.1.1∧y1.1.1<(↑q.length:Int))∧
  ((0:Int)≤(q.getD (Int.toNat y1.1.1) ((0:Int),(0:Int),(0:Int),[],(0:Int),(0:Int),[],())).2.1∧
  (q.getD (Int.toNat y1.1.1) ((0:Int),(0:Int),(0:Int),[],(0:Int),(0:Int),[],())).2.1<
  (↑(List.length y1.2.1):Int))∧
  Int.toNat (q.getD (Int.toNat y1.1.1) ((0:Int),(0:Int),(0:Int),[],(0:Int),(0:Int),[],())).2.1<
  List.length y1.2.1∧
  ((0:Int)≤(q.getD (Int.toNat y1.1.1) ((0:Int),(0:Int),(0:Int),[],(0:Int),(0:Int),[],())).2.2.1∧
  (q.getD (Int.toNat y1.1.1) ((0:Int),(0:Int),(0:Int),[],(0:Int),(0:Int),[],())).2.2.1<
  (↑(List.set y1.2.1
  (Int.toNat (q.getD (Int.toNat y1.1.1) ((0:Int),(0:Int),(0:Int),[],(0:Int),(0:Int),[],())).2.1)
  (true,())).length:
  Int))∧
  Int.toNat (q.getD (Int.toNat y1.1.1) ((0:Int),(0:Int),(0:Int),[],(0:Int),(0:Int),[],())).2.2.1<
  (List.set y1.2.1
  (Int.toNat (q.getD (Int.toNat y1.1.1) ((0:Int),(0:Int),(0:Int),[],(0:Int),(0:Int),[],())).2.1)
  (true,())).length∧
  s0=s0∧
  I
  ((i64.wrap (y1.1.1-(1:Int)),()),
  (List.set y1.2.1
  (Int.toNat (q.getD (Int.toNat y1.1.1) ((0:Int),(0:Int),(0:Int),[],(0:Int),(0:Int),[],())).2.1)
  (true,())).set
  (Int.toNat (q.getD (Int.toNat y1.1.1) ((0:Int),(0:Int),(0:Int),[],(0:Int),(0:Int),[],())).2.2.1)
  (true,()),
  ())∧
  μ
  ((i64.wrap (y1.1.1-(1:Int)),()),
  (List.set y1.2.1
  (Int.toNat (q.getD (Int.toNat y1.1.1) ((0:Int),(0:Int),(0:Int),[],(0:Int),(0:Int),[],())).2.1)
  (true,())).set
  (Int.toNat (q.getD (Int.toNat y1.1.1) ((0:Int),(0:Int),(0:Int),[],(0:Int),(0:Int),[],())).2.2.1)
  (true,()),
  ())<
  μ y1
  else
  s0=s0∧
  I ((i64.wrap (y1.1.1-(1:Int)),()),y1.2.1,())∧μ ((i64.wrap (y1.1.1-(1:Int)),()),y1.2.1,())<μ y1
  else
  bif (q.getD (Int.toNat y1.1.1) ((0:Int),(0:Int),(0:Int),[],(0:Int),(0:Int),[],())).1==(7:Int) then
  ((0:Int)≤y1.1.1∧y1.1.1<(↑q.length:Int))∧
  ((0:Int)≤y1.1.1∧y1.1.1<(↑q.length:Int))∧
  ((0:Int)≤(q.getD (Int.toNat y1.1.1) ((0:Int),(0:Int),(0:Int),[],(0:Int),(0:Int),[],())).2.1∧
  (q.getD (Int.toNat y1.1.1) ((0:Int),(0:Int),(0:Int),[],(0:Int),(0:Int),[],())).2.1<
  (↑(List.length y1.2.1):Int))∧
  Int.toNat (q.getD (Int.toNat y1.1.1) ((0:Int),(0:Int),(0:Int),[],(0:Int),(0:Int),[],())).2.1<
  List.length y1.2.1∧
  ((0:Int)≤(q.getD (Int.toNat y1.1.1) ((0:Int),(0:Int),(0:Int),[],(0:Int),(0:Int),[],())).2.2.1∧
  (q.getD (Int.toNat y1.1.1) ((0:Int),(0:Int),(0:Int),[],(0:Int),(0:Int),[],())).2.2.1<
  (↑(List.set y1.2.1
  (Int.toNat (q.getD (Int.toNat y1.1.1) ((0:Int),(0:Int),(0:Int),[],(0:Int),(0:Int),[],())).2.1)
  (true,())).length:
  Int))∧
  Int.toNat (q.getD (Int.toNat y1.1.1) ((0:Int),(0:Int),(0:Int),[],(0:Int),(0:Int),[],())).2.2.1<
  (List.set y1.2.1
  (Int.toNat (q.getD (Int.toNat y1.1.1) ((0:Int),(0:Int),(0:Int),[],(0:Int),(0:Int),[],())).2.1)
  (true,())).length∧
  s0=s0∧
  I
  ((i64.wrap (y1.1.1-(1:Int)),()),
  (List.set y1.2.1
  (Int.toNat (q.getD (Int.toNat y1.1.1) ((0:Int),(0:Int),(0:Int),[],(0:Int),(0:Int),[],())).2.1)
  (true,())).set
  (Int.toNat (q.getD (Int.toNat y1.1.1) ((0:Int),(0:Int),(0:Int),[],(0:Int),(0:Int),[],())).2.2.1)
  (true,()),
  ())∧
  μ
  ((i64.wrap (y1.1.1-(1:Int)),()),
  (List.set y1.2.1
  (Int.toNat (q.getD (Int.toNat y1.1.1) ((0:Int),(0:Int),(0:Int),[],(0:Int),(0:Int),[],())).2.1)
  (true,())).set
  (Int.toNat (q.getD (Int.toNat y1.1.1) ((0:Int),(0:Int),(0:Int),[],(0:Int),(0:Int),[],())).2.2.1)
  (true,()),
  ())<
  μ y1
  else
  s0=s0∧
  I ((i64.wrap (y1.1.1-(1:Int)),()),y1.2.1,())∧μ ((i64.wrap (y1.1.1-(1:Int)),()),y1.2.1,())<μ y1
  else
  ((0:Int)≤y1.1.1∧y1.1.1<(↑q.length:Int))∧
  ((0:Int)≤y1.1.1∧y1.1.1<(↑q.length:Int))∧
  bif (q.getD (Int.toNat y1.1.1) ((0:Int),(0:Int),(0:Int),[],(0:Int),(0:Int),[],())).1==(5:Int) then
  ((0:Int)≤y1.1.1∧y1.1.1<(↑q.length:Int))∧
  ((0:Int)≤(q.getD (Int.toNat y1.1.1) ((0:Int),(0:Int),(0:Int),[],(0:Int),(0:Int),[],())).2.1∧
  (q.getD (Int.toNat y1.1.1) ((0:Int),(0:Int),(0:Int),[],(0:Int),(0:Int),[],())).2.1<
  (↑(List.length y1.2.1):Int))∧
  Int.toNat (q.getD (Int.toNat y1.1.1) ((0:Int),(0:Int),(0:Int),[],(0:Int),(0:Int),[],())).2.1<List.length y1.2.1∧
  s0=s0∧
  I
  ((i64.wrap (y1.1.1-(1:Int)),()),
  List.set y1.2.1
  (Int.toNat (q.getD (Int.toNat y1.1.1) ((0:Int),(0:Int),(0:Int),[],(0:Int),(0:Int),[],())).2.1)
  ((q.getD (Int.toNat y1.1.1) ((0:Int),(0:Int),(0:Int),[],(0:Int),(0:Int),[],())).1==(5:Int),()),
  ())∧
  μ
  ((i64.wrap (y1.1.1-(1:Int)),()),
  List.set y1.2.1
  (Int.toNat (q.getD (Int.toNat y1.1.1) ((0:Int),(0:Int),(0:Int),[],(0:Int),(0:Int),[],())).2.1)
  ((q.getD (Int.toNat y1.1.1) ((0:Int),(0:Int),(0:Int),[],(0:Int),(0:Int),[],())).1==(5:Int),()),
  ())<
  μ y1
  else
  bif (q.getD (Int.toNat y1.1.1) ((0:Int),(0:Int),(0:Int),[],(0:Int),(0:Int),[],())).1==(6:Int) then
  bif (q.getD (Int.toNat y1.1.1) ((0:Int),(0:Int),(0:Int),[],(0:Int),(0:Int),[],())).1==(6:Int) then
  ((0:Int)≤y1.1.1∧y1.1.1<(↑q.length:Int))∧
  ((0:Int)≤y1.1.1∧y1.1.1<(↑q.length:Int))∧
  ((0:Int)≤(q.getD (Int.toNat y1.1.1) ((0:Int),(0:Int),(0:Int),[],(0:Int),(0:Int),[],())).2.1∧
  (q.getD (Int.toNat y1.1.1) ((0:Int),(0:Int),(0:Int),[],(0:Int),(0:Int),[],())).2.1<
  (↑(List.length y1.2.1):Int))∧
  Int.toNat (q.getD (Int.toNat y1.1.1) ((0:Int),(0:Int),(0:Int),[],(0:Int),(0:Int),[],())).2.1<
  List.length y1.2.1∧
  ((0:Int)≤(q.getD (Int.toNat y1.1.1) ((0:Int),(0:Int),(0:Int),[],(0:Int),(0:Int),[],())).2.2.1∧
  (q.getD (Int.toNat y1.1.1) ((0:Int),(0:Int),(0:Int),[],(0:Int),(0:Int),[],())).2.2.1<
  (↑(List.set y1.2.1
  (Int.toNat (q.getD (Int.toNat y1.1.1) ((0:Int),(0:Int),(0:Int),[],(0:Int),(0:Int),[],())).2.1)
  ((q.getD (Int.toNat y1.1.1) ((0:Int),(0:Int),(0:Int),[],(0:Int),(0:Int),[],())).1==(5:Int),
  ())).length:
  Int))∧
  Int.toNat (q.getD (Int.toNat y1.1.1) ((0:Int),(0:Int),(0:Int),[],(0:Int),(0:Int),[],())).2.2.1<
  (List.set y1.2.1
  (Int.toNat (q.getD (Int.toNat y1.1.1) ((0:Int),(0:Int),(0:Int),[],(0:Int),(0:Int),[],())).2.1)
  ((q.getD (Int.toNat y1.1.1) ((0:Int),(0:Int),(0:Int),[],(0:Int),(0:Int),[],())).1==(5:Int),
  ())).length∧
  s0=s0∧
  I
  ((i64.wrap (y1.1.1-(1:Int)),()),
  (List.set y1.2.1
  (Int.toNat (q.getD (Int.toNat y1.1.1) ((0:Int),(0:Int),(0:Int),[],(0:Int),(0:Int),[],())).2.1)
  ((q.getD (Int.toNat y1.1.1) ((0:Int),(0:Int),(0:Int),[],(0:Int),(0:Int),[],())).1==(5:Int),
  ())).set
  (Int.toNat (q.getD (Int.toNat y1.1.1) ((0:Int),(0:Int),(0:Int),[],(0:Int),(0:Int),[],())).2.2.1)
  ((q.getD (Int.toNat y1.1.1) ((0:Int),(0:Int),(0:Int),[],(0:Int),(0:Int),[],())).1==(5:Int),()),
  ())∧
  μ
  ((i64.wrap (y1.1.1-(1:Int)),()),
  (List.set y1.2.1
  (Int.toNat
  (q.getD (Int.toNat y1.1.1) ((0:Int),(0:Int),(0:Int),[],(0:Int),(0:Int),[],())).2.1)
  ((q.getD (Int.toNat y1.1.1) ((0:Int),(0:Int),(0:Int),[],(0:Int),(0:Int),[],())).1==(5:Int),
  ())).set
  (Int.toNat
  (q.getD (Int.toNat y1.1.1) ((0:Int),(0:Int),(0:Int),[],(0:Int),(0:Int),[],())).2.2.1)
  ((q.getD (Int.toNat y1.1.1) ((0:Int),(0:Int),(0:Int),[],(0:Int),(0:Int),[],())).1==(5:Int),
  ()),
  ())<
  μ y1
  else
  s0=s0∧
  I ((i64.wrap (y1.1.1-(1:Int)),()),y1.2.1,())∧μ ((i64.wrap (y1.1.1-(1:Int)),()),y1.2.1,())<μ y1
  else
  bif (q.getD (Int.toNat y1.1.1) ((0:Int),(0:Int),(0:Int),[],(0:Int),(0:Int),[],())).1==(7:Int) then
  ((0:Int)≤y1.1.1∧y1.1.1<(↑q.length:Int))∧
  ((0:Int)≤y1.1.1∧y1.1.1<(↑q.length:Int))∧
  ((0:Int)≤(q.getD (Int.toNat y1.1.1) ((0:Int),(0:Int),(0:Int),[],(0:Int),(0:Int),[],())).2.1∧
  (q.getD (Int.toNat y1.1.1) ((0:Int),(0:Int),(0:Int),[],(0:Int),(0:Int),[],())).2.1<
  (↑(List.length y1.2.1):Int))∧
  Int.toNat (q.getD (Int.toNat y1.1.1) ((0:Int),(0:Int),(0:Int),[],(0:Int),(0:Int),[],())).2.1<
  List.length y1.2.1∧
  ((0:Int)≤(q.getD (Int.toNat y1.1.1) ((0:Int),(0:Int),(0:Int),[],(0:Int),(0:Int),[],())).2.2.1∧
  (q.getD (Int.toNat y1.1.1) ((0:Int),(0:Int),(0:Int),[],(0:Int),(0:Int),[],())).2.2.1<
  (↑(List.set y1.2.1
  (Int.toNat (q.getD (Int.toNat y1.1.1) ((0:Int),(0:Int),(0:Int),[],(0:Int),(0:Int),[],())).2.1)
  ((q.getD (Int.toNat y1.1.1) ((0:Int),(0:Int),(0:Int),[],(0:Int),(0:Int),[],())).1==(5:Int),
  ())).length:
  Int))∧
  Int.toNat (q.getD (Int.toNat y1.1.1) ((0:Int),(0:Int),(0:Int),[],(0:Int),(0:Int),[],())).2.2.1<
  (List.set y1.2.1
  (Int.toNat (q.getD (Int.toNat y1.1.1) ((0:Int),(0:Int),(0:Int),[],(0:Int),(0:Int),[],())).2.1)
  ((q.getD (Int.toNat y1.1.1) ((0:Int),(0:Int),(0:Int),[],(0:Int),(0:Int),[],())).1==(5:Int),
  ())).length∧
  s0=s0∧
  I
  ((i64.wrap (y1.1.1-(1:Int)),()),
  (List.set y1.2.1
  (Int.toNat (q.getD (Int.toNat y1.1.1) ((0:Int),(0:Int),(0:Int),[],(0:Int),(0:Int),[],())).2.1)
  ((q.getD (Int.toNat y1.1.1) ((0:Int),(0:Int),(0:Int),[],(0:Int),(0:Int),[],())).1==(5:Int),
  ())).set
  (Int.toNat (q.getD (Int.toNat y1.1.1) ((0:Int),(0:Int),(0:Int),[],(0:Int),(0:Int),[],())).2.2.1)
  ((q.getD (Int.toNat y1.1.1) ((0:Int),(0:Int),(0:Int),[],(0:Int),(0:Int),[],())).1==(5:Int),()),
  ())∧
  μ
  ((i64.wrap (y1.1.1-(1:Int)),()),
  (List.set y1.2.1
  (Int.toNat
  (q.getD (Int.toNat y1.1.1) ((0:Int),(0:Int),(0:Int),[],(0:Int),(0:Int),[],())).2.1)
  ((q.getD (Int.toNat y1.1.1) ((0:Int),(0:Int),(0:Int),[],(0:Int),(0:Int),[],())).1==(5:Int),
  ())).set
  (Int.toNat
  (q.getD (Int.toNat y1.1.1) ((0:Int),(0:Int),(0:Int),[],(0:Int),(0:Int),[],())).2.2.1)
  ((q.getD (Int.toNat y1.1.1) ((0:Int),(0:Int),(0:Int),[],(0:Int),(0:Int),[],())).1==(5:Int),
  ()),
  ())<
  μ y1
  else
  s0=s0∧
  I ((i64.wrap (y1.1.1-(1:Int)),()),y1.2.1,())∧μ ((i64.wrap (y1.1.1-(1:Int)),()),y1.2.1,())<μ y1
  else K (y1.2.1,())
theorem XL (env:EnvB prog G Θ YX) (h:∀ (q:kQ),bP CW (q,())→(q.length≤(1000:Nat))→Yg q fun r=>r=((Sp.negated q,()))):aG prog G rW vF:=
 aZ env mixed (fn:=f252) (c:=codeOf f252) (by kernel_rfl) (by kernel_rfl) ZU (by kernel_rfl) fun ⟨q,⟨⟩⟩ hin hp=>
 Eq.mpr (by kernel_rfl) (h q hin hp)
def afM:Hints:=Go.Fw.hints [8] [(3,⟨[],⟨[(0, .one (.sl 167 (.cons (.int .i64) (.cons (.int .i64) (.cons (.int .i64) (.cons .str (.cons (.int .i64) (.cons (.int .i64) (.cons .str .nil))))))) false)),(1, .one (.bool)),(10, .one (.sl 4 (.cons .bool .nil) true)),(11, .one (.int .i64))],[]⟩,⟨[(5, .one (.ref 513)),(12, .one (.int .i64))],[(513, .arr 9 (.cons .str .nil) true)]⟩⟩)] [] [] []
def adE (q:kQ) (negated:Bool) (K:um→Prop):Prop:=
 q.length≤(1000:Nat)∧
 let s0:=((q,negated,Sp.negated q,(↑(Sp.negated q).length:Int),()),());
  ∃ (I:qA×List Jc×Unit→Prop),
  ∃ (μ:qA×List Jc×Unit→Nat),
  I (((),(0:Int),()),[],())∧
  ∀ (y1:qA×List Jc×Unit),
  I y1→
  bif decide (y1.1.2.1<(↑(Sp.negated q).length:Int)) then
  ((0:Int)≤y1.1.2.1∧y1.1.2.1<(↑(Sp.negated q).length:Int))∧
  ((0:Int)≤y1.1.2.1∧y1.1.2.1<(↑q.length:Int))∧
  True∧
 let r2:=
  (q.getD (Int.toNat y1.1.2.1) ((0:Int),(0:Int),(0:Int),[],(0:Int),(0:Int),[],())).1==(8:Int)||
  (q.getD (Int.toNat y1.1.2.1) ((0:Int),(0:Int),(0:Int),[],(0:Int),(0:Int),[],())).1==(9:Int);
  bif r2 then
  bif ((Sp.negated q).getD (Int.toNat y1.1.2.1) (false,())).1==negated then
  ((0:Int)≤y1.1.2.1∧y1.1.2.1<(↑q.length:Int))∧
  List.length y1.2.1+
  [((q.getD (Int.toNat y1.1.2.1) ((0:Int),(0:Int),(0:Int),[],(0:Int),(0:Int),[],())).2.2.2.1,())].length≤
  big∧
  s0=s0∧
  I
  (((),i64.wrap (y1.1.2.1+(1:Int)),()),
  y1.2.1++[((q.getD (Int.toNat y1.1.2.1) ((0:Int),(0:Int),(0:Int),[],(0:Int),(0:Int),[],())).2.2.2.1,())],
  ())∧
  μ
  (((),i64.wrap (y1.1.2.1+(1:Int)),()),
  y1.2.1++[((q.getD (Int.toNat y1.1.2.1) ((0:Int),(0:Int),(0:Int),[],(0:Int),(0:Int),[],())).2.2.2.1,())],
  ())<
  μ y1
  else
  s0=s0∧
  I (((),i64.wrap (y1.1.2.1+(1:Int)),()),y1.2.1,())∧
  μ (((),i64.wrap (y1.1.2.1+(1:Int)),()),y1.2.1,())<μ y1
  else
  s0=s0∧
  I (((),i64.wrap (y1.1.2.1+(1:Int)),()),y1.2.1,())∧
  μ (((),i64.wrap (y1.1.2.1+(1:Int)),()),y1.2.1,())<μ y1
  else
  List.length y1.2.1≤(1000:Nat)∧
  ∀ (r3:um),
  (r3.1.1.length≤List.length y1.2.1∧∀ (s:Jc),s∈r3.1.1↔s∈y1.2.1)→K ((r3.1.1,()),())
theorem adq (env:EnvB prog G Θ aeu) (hne:∀ x,(Ht x).1→∃ t,(Ht x).2 t) (h:∀ (q:kQ) (negated:Bool),dL kL (q,negated,())→(q.length≤(1000:Nat))→adE q negated fun (r:um)=>(q.length≤(1000:Nat),fun (x:um)=>Sp.fV x.1.1 (Sp.fE q negated)).2 r):aC prog G pF qf:=
 bQ env mixed (fn:=f236) (c:=codeOf f236) (by kernel_rfl) (by kernel_rfl) afM (by kernel_rfl) hne fun ⟨q,negated,⟨⟩⟩ hin hp=>
 Eq.mpr (by kernel_rfl) (h q negated hin hp)
def ZV:Hints:=Go.Fw.hints [] [] [] [] []
def Yh (q:kQ) (K:um→Prop):Prop:=
 q.length≤(1000:Nat)∧∀ (r0:um),Sp.fV r0.1.1 (Sp.fE q false)→K ((r0.1.1,()),())
theorem XP (env:EnvB prog G Θ YZ) (hne:∀ x,(Em x).1→∃ t,(Em x).2 t) (h:∀ (q:kQ),dL mV (q,())→(q.length≤(1000:Nat))→Yh q fun (r:um)=>(q.length≤(1000:Nat),fun (x:um)=>Sp.fV x.1.1 (Sp.fE q false)).2 r):aC prog G rZ vG:=
 bQ env mixed (fn:=f203) (c:=codeOf f203) (by kernel_rfl) (by kernel_rfl) ZV (by kernel_rfl) hne fun ⟨q,⟨⟩⟩ hin hp=>
 Eq.mpr (by kernel_rfl) (h q hin hp)
def ZW:Hints:=Go.Fw.hints [] [] [] [] []
def Yi (q:kQ) (K:um→Prop):Prop:=
 q.length≤(1000:Nat)∧∀ (r0:um),Sp.fV r0.1.1 (Sp.fE q true)→K ((r0.1.1,()),())
theorem XQ (env:EnvB prog G Θ Y0) (hne:∀ x,(En x).1→∃ t,(En x).2 t) (h:∀ (q:kQ),dL mW (q,())→(q.length≤(1000:Nat))→Yi q fun (r:um)=>(q.length≤(1000:Nat),fun (x:um)=>Sp.fV x.1.1 (Sp.fE q true)).2 r):aC prog G rY vH:=
 bQ env mixed (fn:=f204) (c:=codeOf f204) (by kernel_rfl) (by kernel_rfl) ZW (by kernel_rfl) hne fun ⟨q,⟨⟩⟩ hin hp=>
 Eq.mpr (by kernel_rfl) (h q hin hp)
def alK:Hints:=Go.Fw.hints [34] [(2,⟨[],⟨[(0, .one (.sl 9 (.cons .str .nil) false)),(1, .one (.str))],[]⟩,⟨[(5, .one (.int .i64))],[]⟩⟩)] [] [] []
def akb (list:List Jc) (s:eX) (K:List Jc×Unit→Prop):Prop:=
 let s0:=((list,s,()),());
  ∃ (I:bM→Prop),
  ∃ (μ:bM→Nat),
  I (((0:Int),()),())∧
  ∀ (y1:bM),
  I y1→
  bif decide (y1.1.1<(↑list.length:Int)) then
  ((0:Int)≤y1.1.1∧y1.1.1<(↑list.length:Int))∧
  bif Op.bytesLess (list.getD (Int.toNat y1.1.1) ([],())).1 s then
  s0=s0∧I ((i64.wrap (y1.1.1+(1:Int)),()),())∧μ ((i64.wrap (y1.1.1+(1:Int)),()),())<μ y1
  else
  bif decide (y1.1.1<(↑list.length:Int)) then
  ((0:Int)≤y1.1.1∧y1.1.1<(↑list.length:Int))∧
  bif (list.getD (Int.toNat y1.1.1) ([],())).1==s then K (list,())
  else
  ((0:Int)≤y1.1.1∧y1.1.1≤(↑list.length:Int))∧
  (0:Nat)+(List.drop (0:Nat) (List.take (Int.toNat y1.1.1) list)).length≤big∧
  (List.drop (0:Nat) (List.take (Int.toNat y1.1.1) list)).length+[(s,())].length≤big∧
  ((0:Int)≤y1.1.1∧y1.1.1≤(↑list.length:Int))∧
  (List.drop (0:Nat) (List.take (Int.toNat y1.1.1) list)++[(s,())]).length+
  (List.drop (Int.toNat y1.1.1) (List.take list.length list)).length≤
  big∧
  K (List.drop (0:Nat) (List.take (Int.toNat y1.1.1) list)++[(s,())]++List.drop (Int.toNat y1.1.1) (List.take list.length list),())
  else
  ((0:Int)≤y1.1.1∧y1.1.1≤(↑list.length:Int))∧
  (0:Nat)+(List.drop (0:Nat) (List.take (Int.toNat y1.1.1) list)).length≤big∧
  (List.drop (0:Nat) (List.take (Int.toNat y1.1.1) list)).length+[(s,())].length≤big∧
  ((0:Int)≤y1.1.1∧y1.1.1≤(↑list.length:Int))∧
  (List.drop (0:Nat) (List.take (Int.toNat y1.1.1) list)++[(s,())]).length+
  (List.drop (Int.toNat y1.1.1) (List.take list.length list)).length≤
  big∧
  K (List.drop (0:Nat) (List.take (Int.toNat y1.1.1) list)++[(s,())]++List.drop (Int.toNat y1.1.1) (List.take list.length list),())
  else
  bif decide (y1.1.1<(↑list.length:Int)) then
  ((0:Int)≤y1.1.1∧y1.1.1<(↑list.length:Int))∧
  bif (list.getD (Int.toNat y1.1.1) ([],())).1==s then K (list,())
  else
  ((0:Int)≤y1.1.1∧y1.1.1≤(↑list.length:Int))∧
  (0:Nat)+(List.drop (0:Nat) (List.take (Int.toNat y1.1.1) list)).length≤big∧
  (List.drop (0:Nat) (List.take (Int.toNat y1.1.1) list)).length+[(s,())].length≤big∧
  ((0:Int)≤y1.1.1∧y1.1.1≤(↑list.length:Int))∧
  (List.drop (0:Nat) (List.take (Int.toNat y1.1.1) list)++[(s,())]).length+
  (List.drop (Int.toNat y1.1.1) (List.take list.length list)).length≤
  big∧
  K (List.drop (0:Nat) (List.take (Int.toNat y1.1.1) list)++[(s,())]++List.drop (Int.toNat y1.1.1) (List.take list.length list),())
  else
  ((0:Int)≤y1.1.1∧y1.1.1≤(↑list.length:Int))∧
  (0:Nat)+(List.drop (0:Nat) (List.take (Int.toNat y1.1.1) list)).length≤big∧
  (List.drop (0:Nat) (List.take (Int.toNat y1.1.1) list)).length+[(s,())].length≤big∧
  ((0:Int)≤y1.1.1∧y1.1.1≤(↑list.length:Int))∧
  (List.drop (0:Nat) (List.take (Int.toNat y1.1.1) list)++[(s,())]).length+(List.drop (Int.toNat y1.1.1) (List.take list.length list)).length≤
  big∧
  K (List.drop (0:Nat) (List.take (Int.toNat y1.1.1) list)++[(s,())]++List.drop (Int.toNat y1.1.1) (List.take list.length list),())
theorem ajG (env:EnvB prog G Θ alb) (h:∀ (list:List Jc) (s:eX),bP LC (list,s,())→(list.length≤(1000:Nat))→akb list s fun r=>r=((Sp.PZ list s,()))):aG prog G DR EI:=
 aZ env mixed (fn:=f184) (c:=codeOf f184) (by kernel_rfl) (by kernel_rfl) alK (by kernel_rfl) fun ⟨list,s,⟨⟩⟩ hin hp=>
 Eq.mpr (by kernel_rfl) (h list s hin hp)
def aij:Hints:=Go.Fw.hints [38] [(4,⟨[],⟨[(0, .one (.sl 167 (.cons (.int .i64) (.cons (.int .i64) (.cons (.int .i64) (.cons .str (.cons (.int .i64) (.cons (.int .i64) (.cons .str .nil))))))) false)),(1, .one (.bool)),(6, .one (.sl 4 (.cons .bool .nil) true))],[]⟩,⟨[(5, .one (.sl 9 (.cons .str .nil) false)),(7, .one (.int .i64))],[]⟩⟩)] [] [] []
def afN (q:kQ) (under:Bool) (K:um→Prop):Prop:=
 q.length≤(1000:Nat)∧
 let s0:=((q,under,Sp.negated q,()),());
  ∃ (I:(List Jc×iY)×Unit→Prop),
  ∃ (μ:(List Jc×iY)×Unit→Nat),
  I (([],(0:Int),()),())∧
  ∀ (y1:(List Jc×iY)×Unit),
  I y1→
  bif decide (y1.1.2.1<(↑(Sp.negated q).length:Int)) then
  ((0:Int)≤y1.1.2.1∧y1.1.2.1<(↑q.length:Int))∧
  True∧
 let r2:=
  decide ((8:Int)≤(q.getD (Int.toNat y1.1.2.1) ((0:Int),(0:Int),(0:Int),[],(0:Int),(0:Int),[],())).1)&&
  decide ((q.getD (Int.toNat y1.1.2.1) ((0:Int),(0:Int),(0:Int),[],(0:Int),(0:Int),[],())).1≤(9:Int));
  bif r2 then
  ((0:Int)≤y1.1.2.1∧y1.1.2.1<(↑(Sp.negated q).length:Int))∧
  bif ((Sp.negated q).getD (Int.toNat y1.1.2.1) (false,())).1==under then
  ((0:Int)≤y1.1.2.1∧y1.1.2.1<(↑q.length:Int))∧
  List.length y1.1.1≤(1000:Nat)∧
 let r3:=Sp.PZ y1.1.1 (q.getD (Int.toNat y1.1.2.1) ((0:Int),(0:Int),(0:Int),[],(0:Int),(0:Int),[],())).2.2.2.1;
  s0=s0∧I ((r3,i64.wrap (y1.1.2.1+(1:Int)),()),())∧μ ((r3,i64.wrap (y1.1.2.1+(1:Int)),()),())<μ y1
  else
  s0=s0∧
  I ((y1.1.1,i64.wrap (y1.1.2.1+(1:Int)),()),())∧μ ((y1.1.1,i64.wrap (y1.1.2.1+(1:Int)),()),())<μ y1
  else
  s0=s0∧
  I ((y1.1.1,i64.wrap (y1.1.2.1+(1:Int)),()),())∧μ ((y1.1.1,i64.wrap (y1.1.2.1+(1:Int)),()),())<μ y1
  else (0:Nat)+List.length y1.1.1≤big∧K ((y1.1.1,()),())
theorem afq (env:EnvB prog G Θ agl) (hne:∀ x,(Jy x).1→∃ t,(Jy x).2 t) (h:∀ (q:kQ) (under:Bool),dL lX (q,under,())→(q.length≤(1000:Nat))→afN q under fun (r:um)=>(q.length≤(1000:Nat),fun (x:um)=>Sp.fV x.1.1 (Sp.fE q under)).2 r):aC prog G qP rF:=
 bQ env mixed (fn:=f247) (c:=codeOf f247) (by kernel_rfl) (by kernel_rfl) aij (by kernel_rfl) hne fun ⟨q,under,⟨⟩⟩ hin hp=>
 Eq.mpr (by kernel_rfl) (h q under hin hp)
def ZX:Hints:=Go.Fw.hints [] [] [] [] []
def Yj (q:kQ) (K:um→Prop):Prop:=
 q.length≤(1000:Nat)∧∀ (r0:um),Sp.fV r0.1.1 (Sp.fE q false)→K ((r0.1.1,()),())
theorem XT (env:EnvB prog G Θ Y3) (hne:∀ x,(Eo x).1→∃ t,(Eo x).2 t) (h:∀ (q:kQ),dL mX (q,())→(q.length≤(1000:Nat))→Yj q fun (r:um)=>(q.length≤(1000:Nat),fun (x:um)=>Sp.fV x.1.1 (Sp.fE q false)).2 r):aC prog G sD vI:=
 bQ env mixed (fn:=f227) (c:=codeOf f227) (by kernel_rfl) (by kernel_rfl) ZX (by kernel_rfl) hne fun ⟨q,⟨⟩⟩ hin hp=>
 Eq.mpr (by kernel_rfl) (h q hin hp)
def ZY:Hints:=Go.Fw.hints [] [] [] [] []
def Yk (q:kQ) (K:um→Prop):Prop:=
 q.length≤(1000:Nat)∧∀ (r0:um),Sp.fV r0.1.1 (Sp.fE q true)→K ((r0.1.1,()),())
theorem XV (env:EnvB prog G Θ Y4) (hne:∀ x,(Ep x).1→∃ t,(Ep x).2 t) (h:∀ (q:kQ),dL mY (q,())→(q.length≤(1000:Nat))→Yk q fun (r:um)=>(q.length≤(1000:Nat),fun (x:um)=>Sp.fV x.1.1 (Sp.fE q true)).2 r):aC prog G su vJ:=
 bQ env mixed (fn:=f229) (c:=codeOf f229) (by kernel_rfl) (by kernel_rfl) ZY (by kernel_rfl) hne fun ⟨q,⟨⟩⟩ hin hp=>
 Eq.mpr (by kernel_rfl) (h q hin hp)
def akc:Hints:=Go.Fw.hints [] [] [] [] []
def aik (x0:eX) (x1:kQ) (p10:eX) (K:eG→Prop):Prop:=
 K (x0==p10,())
theorem ahQ (env:EnvB prog G Θ aiQ) (h:∀ (x0:eX) (x1:kQ) (p10:eX),bP Jz ((x0,x1,()),(p10,()),())→(True)→aik x0 x1 p10 fun r=>r=((x0==p10,()))):aG prog G uf tC:=
 aZ env mixed (fn:=f251) (c:=codeOf f251) (by kernel_rfl) (by kernel_rfl) akc (by kernel_rfl) fun ⟨⟨x0,x1,⟨⟩⟩,⟨p10,⟨⟩⟩,⟨⟩⟩ hin hp=>
 Eq.mpr (by kernel_rfl) (h x0 x1 p10 hin hp)
def BZ:Hints:=Go.Fw.hints [] [(2,⟨[],⟨[(0, .one (.sl 124 (.cons .str (.cons (.sl 167 (.cons (.int .i64) (.cons (.int .i64) (.cons (.int .i64) (.cons .str (.cons (.int .i64) (.cons (.int .i64) (.cons .str .nil)))))))) .nil)) false)),(1, .fn 251 [[.str]]),(7, .one (.int .i64))],[]⟩,⟨[(8, .one (.int .i64))],[]⟩⟩)] [] [] []
def BU (s:jQ) (FM:eX) (K:iY→Prop):Prop:=
 let s0:=((s,((FM,()),()),(↑s.length:Int),()),());
  ∃ (I:bM→Prop),
  ∃ (μ:bM→Nat),
  I (((0:Int),()),())∧
  ∀ (y1:bM),
  I y1→
  bif decide (y1.1.1<(↑s.length:Int)) then
  ((0:Int)≤y1.1.1∧y1.1.1<(↑s.length:Int))∧
  True∧
 let r2:=(s.getD (Int.toNat y1.1.1) ([],[],())).1==FM;
  bif r2 then K (y1.1.1,())
  else s0=s0∧I ((i64.wrap (y1.1.1+(1:Int)),()),())∧μ ((i64.wrap (y1.1.1+(1:Int)),()),())<μ y1
  else K ((-1:Int),())
theorem BP (env:EnvB prog G Θ BX) (h:∀ (s:jQ) (FM:eX),bP jI (s,((FM,()),()),())→(True)→BU s FM fun r=>r=((Sp.aO s FM,()))):aG prog G fP ig:=
 aZ env mixed (fn:=f250) (c:=codeOf f250) (by kernel_rfl) (by kernel_rfl) BZ (by kernel_rfl) fun ⟨s,⟨⟨FM,⟨⟩⟩,⟨⟩⟩,⟨⟩⟩ hin hp=>
 Eq.mpr (by kernel_rfl) (h s FM hin hp)
def anf:Hints:=Go.Fw.hints [] [] [] [] []
def alL (d:jQ) (name:eX) (K:iY→Prop):Prop:=
 True∧K (Sp.aO d name,())
theorem alv (env:EnvB prog G Θ al0) (h:∀ (d:jQ) (name:eX),bP Nz (d,name,())→(True)→alL d name fun r=>r=((Sp.aO d name,()))):aG prog G Fe FN:=
 aZ env mixed (fn:=f235) (c:=codeOf f235) (by kernel_rfl) (by kernel_rfl) anf (by kernel_rfl) fun ⟨d,name,⟨⟩⟩ hin hp=>
 Eq.mpr (by kernel_rfl) (h d name hin hp)
def ail:Hints:=Go.Fw.hints [] [(2,⟨[],⟨[(0, .one (.sl 124 (.cons .str (.cons (.sl 167 (.cons (.int .i64) (.cons (.int .i64) (.cons (.int .i64) (.cons .str (.cons (.int .i64) (.cons (.int .i64) (.cons .str .nil)))))))) .nil)) false)),(1, .one (.str))],[]⟩,⟨[(5, .one (.int .i64))],[]⟩⟩)] [] [] []
def afO (d:jQ) (name:eX) (K:iY→Prop):Prop:=
 let s0:=((d,name,()),());
  ∃ (I:bM→Prop),
  ∃ (μ:bM→Nat),
  I (((0:Int),()),())∧
  ∀ (y1:bM),
  I y1→
  bif decide (y1.1.1<(↑d.length:Int)) then
  ((0:Int)≤y1.1.1∧y1.1.1<(↑d.length:Int))∧
  bif (d.getD (Int.toNat y1.1.1) ([],[],())).1==name then K (y1.1.1,())
  else s0=s0∧I ((i64.wrap (y1.1.1+(1:Int)),()),())∧μ ((i64.wrap (y1.1.1+(1:Int)),()),())<μ y1
  else K ((-1:Int),())
theorem afs (env:EnvB prog G Θ agm) (h:∀ (d:jQ) (name:eX),bP Hu (d,name,())→(True)→afO d name fun r=>r=((Sp.aO d name,()))):aG prog G zK AO:=
 aZ env mixed (fn:=f228) (c:=codeOf f228) (by kernel_rfl) (by kernel_rfl) ail (by kernel_rfl) fun ⟨d,name,⟨⟩⟩ hin hp=>
 Eq.mpr (by kernel_rfl) (h d name hin hp)
def acd:Hints:=Go.Fw.hints [] [(3,⟨[],⟨[(0, .one (.sl 124 (.cons .str (.cons (.sl 167 (.cons (.int .i64) (.cons (.int .i64) (.cons (.int .i64) (.cons .str (.cons (.int .i64) (.cons (.int .i64) (.cons .str .nil)))))))) .nil)) false)),(1, .one (.sl 3 (.cons (.int .i64) .nil) false)),(3, .one (.int .i64)),(13, .one (.sl 9 (.cons .str .nil) false)),(14, .one (.int .i64))],[]⟩,⟨[(9, .one (.int .i64)),(15, .one (.int .i64))],[]⟩⟩)] [] [] []
def Z4 (d:jQ) (Ae:dH) (names:List Jc) (more:Int) (K:iY→Prop):Prop:=
 let s0:=((d,Ae,more,names,(↑names.length:Int),()),());
  ∃ (I:NT→Prop),
  ∃ (μ:NT→Nat),
  I (((0:Int),(0:Int),()),())∧
  ∀ (y1:NT),
  I y1→
  bif decide (y1.1.2.1<(↑names.length:Int)) then
  ((0:Int)≤y1.1.2.1∧y1.1.2.1<(↑names.length:Int))∧
  True∧
 let r2:=Sp.aO d (names.getD (Int.toNat y1.1.2.1) ([],())).1;
  bif decide (r2≥(0:Int)) then
  ((0:Int)≤r2∧r2<(↑Ae.length:Int))∧
  s0=s0∧
  I
  ((if i64.wrap ((Ae.getD r2.toNat ((0:Int),())).1+more)>y1.1.1 then
  i64.wrap ((Ae.getD r2.toNat ((0:Int),())).1+more)
  else y1.1.1,
  i64.wrap (y1.1.2.1+(1:Int)),()),
  ())∧
  μ
  ((if i64.wrap ((Ae.getD r2.toNat ((0:Int),())).1+more)>y1.1.1 then
  i64.wrap ((Ae.getD r2.toNat ((0:Int),())).1+more)
  else y1.1.1,
  i64.wrap (y1.1.2.1+(1:Int)),()),
  ())<
  μ y1
  else
  s0=s0∧I ((y1.1.1,i64.wrap (y1.1.2.1+(1:Int)),()),())∧μ ((y1.1.1,i64.wrap (y1.1.2.1+(1:Int)),()),())<μ y1
  else K (y1.1.1,())
theorem ZF (env:EnvB prog G Θ aaB) (h:∀ (d:jQ) (Ae:dH) (names:List Jc) (more:Int),bP Es (d,Ae,names,more,())→(d.length≤Ae.length∧names.length≤(1000:Nat)∧(0:Int)≤more∧more≤(1:Int)∧∀ (x:iY),x∈Ae→(0:Int)≤x.1∧x.1≤(1000000:Int))→Z4 d Ae names more fun r=>r=((Sp.yc d Ae more names,()))):aG prog G uH wU:=
 aZ env mixed (fn:=f202) (c:=codeOf f202) (by kernel_rfl) (by kernel_rfl) acd (by kernel_rfl) fun ⟨d,Ae,names,more,⟨⟩⟩ hin hp=>
 Eq.mpr (by kernel_rfl) (h d Ae names more hin hp)
def alM:Hints:=Go.Fw.hints [14] [(5,⟨[],⟨[(0, .one (.sl 124 (.cons .str (.cons (.sl 167 (.cons (.int .i64) (.cons (.int .i64) (.cons (.int .i64) (.cons .str (.cons (.int .i64) (.cons (.int .i64) (.cons .str .nil)))))))) .nil)) false)),(4, .one (.ref 897))],[]⟩,⟨[(5, .one (.bool))],[(897, .arr 3 (.cons (.int .i64) .nil) true)]⟩⟩),(8,⟨[],⟨[(0, .one (.sl 124 (.cons .str (.cons (.sl 167 (.cons (.int .i64) (.cons (.int .i64) (.cons (.int .i64) (.cons .str (.cons (.int .i64) (.cons (.int .i64) (.cons .str .nil)))))))) .nil)) false)),(4, .one (.ref 897)),(16, .one (.sl 124 (.cons .str (.cons (.sl 167 (.cons (.int .i64) (.cons (.int .i64) (.cons (.int .i64) (.cons .str (.cons (.int .i64) (.cons (.int .i64) (.cons .str .nil)))))))) .nil)) false)),(17, .one (.int .i64))],[]⟩,⟨[(5, .one (.bool)),(18, .one (.int .i64))],[(897, .arr 3 (.cons (.int .i64) .nil) true)]⟩⟩)] [] [] []
def akd (d:jQ) (K:abU→Prop):Prop:=
 Sp.bJ d∧
 bif !Sp.rV d then K (([],false,()),())
 else
 ((0:Int)≤(↑d.length:Int)∧(↑d.length:Int)≤(↑d.length:Int)∧(↑d.length:Int)≤(↑big:Int))∧
 let s0:=((d,(),()),());
  ∃ (I:eG×BR→Prop),
  ∃ (μ:eG×BR→Nat),
  I ((true,()),List.replicate (↑d.length:Int).toNat ((0:Int),()),())∧
  ∀ (y1:eG×BR),
  I y1→
  bif y1.1.1 then
 let s2:=((d,(),d,(↑d.length:Int),()),());
  ∃ (I_1:(Bool×iY)×BR→Prop),
  ∃ (μ_1:(Bool×iY)×BR→Nat),
  I_1 ((false,(0:Int),()),y1.2.1,())∧
  ∀ (y3:(Bool×iY)×BR),
  I_1 y3→
  bif decide (y3.1.2.1<(↑d.length:Int)) then
  ((0:Int)≤y3.1.2.1∧y3.1.2.1<(↑d.length:Int))∧
  List.length (d.getD (Int.toNat y3.1.2.1) ([],[],())).2.1≤(1000:Nat)∧
  ∀ (r4:um),
  Sp.fV r4.1.1 (Sp.fE (d.getD (Int.toNat y3.1.2.1) ([],[],())).2.1 false)→
  (d.length≤List.length y3.2.1∧
  List.length r4.1.1≤(1000:Nat)∧
  (0:Int)≤(0:Int)∧(0:Int)≤(1:Int)∧∀ (x:iY),x∈y3.2.1→(0:Int)≤x.1∧x.1≤(1000000:Int))∧
 let r5:=Sp.yc d y3.2.1 (0:Int) r4.1.1;
  List.length (d.getD (Int.toNat y3.1.2.1) ([],[],())).2.1≤(1000:Nat)∧
  ∀ (r6:um),
  Sp.fV r6.1.1 (Sp.fE (d.getD (Int.toNat y3.1.2.1) ([],[],())).2.1 true)→
  (d.length≤List.length y3.2.1∧
  List.length r6.1.1≤(1000:Nat)∧
  (0:Int)≤(1:Int)∧
  (1:Int)≤(1:Int)∧∀ (x:iY),x∈y3.2.1→(0:Int)≤x.1∧x.1≤(1000000:Int))∧
 let r7:=Sp.yc d y3.2.1 (1:Int) r6.1.1;
  bif decide ((if r7>r5 then r7 else r5)>(↑d.length:Int)) then K (([],false,()),())
  else
  ((0:Int)≤y3.1.2.1∧y3.1.2.1<(↑(List.length y3.2.1):Int))∧
  Int.toNat y3.1.2.1<List.length y3.2.1∧
  bif decide ((if r7>r5 then r7 else r5)>(List.getD y3.2.1 (Int.toNat y3.1.2.1) ((0:Int),())).1) then
  ((0:Int)≤y3.1.2.1∧y3.1.2.1<(↑(List.length y3.2.1):Int))∧
  Int.toNat y3.1.2.1<List.length y3.2.1∧
  s2=s2∧
  I_1
  ((true,i64.wrap (y3.1.2.1+(1:Int)),()),
  List.set y3.2.1 (Int.toNat y3.1.2.1) (if r7>r5 then r7 else r5,()),())∧
  μ_1
  ((true,i64.wrap (y3.1.2.1+(1:Int)),()),
  List.set y3.2.1 (Int.toNat y3.1.2.1) (if r7>r5 then r7 else r5,()),())<
  μ_1 y3
  else
  s2=s2∧
  I_1 ((y3.1.1,i64.wrap (y3.1.2.1+(1:Int)),()),y3.2.1,())∧
  μ_1 ((y3.1.1,i64.wrap (y3.1.2.1+(1:Int)),()),y3.2.1,())<μ_1 y3
  else s0=s0∧I ((y3.1.1,()),y3.2.1,())∧μ ((y3.1.1,()),y3.2.1,())<μ y1
  else K ((y1.2.1,true,()),())
theorem ajx (env:EnvB prog G Θ alc) (hne:∀ x,(NC x).1→∃ t,(NC x).2 t) (h:∀ (d:jQ),dL xP (d,())→(Sp.bJ d)→akd d fun (r:abU)=>(Sp.bJ d,fun (x:abU)=>x.1.2.1=Sp.gU d).2 r):aC prog G DT EJ:=
 bQ env mixed (fn:=f149) (c:=codeOf f149) (by kernel_rfl) (by kernel_rfl) alM (by kernel_rfl) hne fun ⟨d,⟨⟩⟩ hin hp=>
 Eq.mpr (by kernel_rfl) (h d hin hp)
def Z5:Hints:=Go.Fw.hints [] [] [] [] []
def Yl (d:jQ) (K:eG→Prop):Prop:=
 Sp.bJ d∧∀ (r0:abU),r0.1.2.1=Sp.gU d→K (r0.1.2.1,())
theorem Xu (env:EnvB prog G Θ Y5) (h:∀ (d:jQ),bP CX (d,())→(Sp.bJ d)→Yl d fun r=>r=((Sp.gU d,()))):aG prog G sF vK:=
 aZ env mixed (fn:=f97) (c:=codeOf f97) (by kernel_rfl) (by kernel_rfl) Z5 (by kernel_rfl) fun ⟨d,⟨⟩⟩ hin hp=>
 Eq.mpr (by kernel_rfl) (h d hin hp)
def aim:Hints:=Go.Fw.hints [13,13,27,39,65,77] [(3,⟨[],⟨[(0, .one (.sl 124 (.cons .str (.cons (.sl 167 (.cons (.int .i64) (.cons (.int .i64) (.cons (.int .i64) (.cons .str (.cons (.int .i64) (.cons (.int .i64) (.cons .str .nil)))))))) .nil)) false)),(5, .one (.ref 833))],[]⟩,⟨[(6, .one (.int .i64))],[(833, .arr 3 (.cons (.int .i64) .nil) true)]⟩⟩),(7,⟨[],⟨[(0, .one (.sl 124 (.cons .str (.cons (.sl 167 (.cons (.int .i64) (.cons (.int .i64) (.cons (.int .i64) (.cons .str (.cons (.int .i64) (.cons (.int .i64) (.cons .str .nil)))))))) .nil)) false)),(5, .one (.ref 833)),(6, .one (.int .i64)),(7, .one (.sl 9 (.cons .str .nil) true))],[]⟩,⟨[(8, .one (.int .i64))],[(833, .arr 3 (.cons (.int .i64) .nil) true)]⟩⟩),(14,⟨[],⟨[(0, .one (.sl 124 (.cons .str (.cons (.sl 167 (.cons (.int .i64) (.cons (.int .i64) (.cons (.int .i64) (.cons .str (.cons (.int .i64) (.cons (.int .i64) (.cons .str .nil)))))))) .nil)) false)),(5, .one (.ref 833)),(6, .one (.int .i64)),(10, .one (.sl 9 (.cons .str .nil) true))],[]⟩,⟨[(11, .one (.int .i64))],[(833, .arr 3 (.cons (.int .i64) .nil) true)]⟩⟩)] [] [] []
def afP (d:jQ) (aY:dH) (K:BR×Unit→Prop):Prop:=
 (0:Nat)+aY.length≤big∧
 let s0:=((d,(),()),());
  ∃ (I:iY×BR→Prop),
  ∃ (μ:iY×BR→Nat),
  I (((0:Int),()),aY,())∧
  ∀ (y1:iY×BR),
  I y1→
  bif decide (y1.1.1<(↑d.length:Int)) then
  ((0:Int)≤y1.1.1∧y1.1.1<(↑d.length:Int))∧
  List.length (d.getD (Int.toNat y1.1.1) ([],[],())).2.1≤(1000:Nat)∧
  ∀ (r2:um),
  Sp.fV r2.1.1 (Sp.fE (d.getD (Int.toNat y1.1.1) ([],[],())).2.1 false)→
 let s3:=((d,(),y1.1.1,r2.1.1,()),());
  ∃ (I_1:iY×BR→Prop),
  ∃ (μ_1:iY×BR→Nat),
  I_1 (((0:Int),()),y1.2.1,())∧
  ∀ (y4:iY×BR),
  I_1 y4→
  bif decide (y4.1.1<(↑(List.length r2.1.1):Int)) then
  ((0:Int)≤y4.1.1∧y4.1.1<(↑(List.length r2.1.1):Int))∧
  True∧
 let r5:=Sp.aO d (List.getD r2.1.1 (Int.toNat y4.1.1) ([],())).1;
  bif decide (r5≥(0:Int)) then
  ((0:Int)≤r5∧r5<(↑(List.length y4.2.1):Int))∧
  r5.toNat<List.length y4.2.1∧
  ((0:Int)≤y1.1.1∧y1.1.1<(↑(List.length y4.2.1):Int))∧
  Int.toNat y1.1.1<List.length y4.2.1∧
  bif
  decide
  ((List.getD y4.2.1 r5.toNat ((0:Int),())).1>(List.getD y4.2.1 (Int.toNat y1.1.1) ((0:Int),())).1) then
  ((0:Int)≤r5∧r5<(↑(List.length y4.2.1):Int))∧
  r5.toNat<List.length y4.2.1∧
  ((0:Int)≤y1.1.1∧y1.1.1<(↑(List.length y4.2.1):Int))∧
  Int.toNat y1.1.1<List.length y4.2.1∧
  s3=s3∧
  I_1
  ((i64.wrap (y4.1.1+(1:Int)),()),
  List.set y4.2.1 (Int.toNat y1.1.1) ((List.getD y4.2.1 r5.toNat ((0:Int),())).1,()),())∧
  μ_1
  ((i64.wrap (y4.1.1+(1:Int)),()),
  List.set y4.2.1 (Int.toNat y1.1.1) ((List.getD y4.2.1 r5.toNat ((0:Int),())).1,()),())<
  μ_1 y4
  else
  s3=s3∧
  I_1 ((i64.wrap (y4.1.1+(1:Int)),()),y4.2.1,())∧
  μ_1 ((i64.wrap (y4.1.1+(1:Int)),()),y4.2.1,())<μ_1 y4
  else
  s3=s3∧
  I_1 ((i64.wrap (y4.1.1+(1:Int)),()),y4.2.1,())∧
  μ_1 ((i64.wrap (y4.1.1+(1:Int)),()),y4.2.1,())<μ_1 y4
  else
  ((0:Int)≤y1.1.1∧y1.1.1<(↑d.length:Int))∧
  List.length (d.getD (Int.toNat y1.1.1) ([],[],())).2.1≤(1000:Nat)∧
  ∀ (r6:um),
  Sp.fV r6.1.1 (Sp.fE (d.getD (Int.toNat y1.1.1) ([],[],())).2.1 true)→
 let s7:=((d,(),y1.1.1,r6.1.1,()),());
  ∃ (I_2:iY×BR→Prop),
  ∃ (μ_2:iY×BR→Nat),
  I_2 (((0:Int),()),y4.2.1,())∧
  ∀ (y8:iY×BR),
  I_2 y8→
  bif decide (y8.1.1<(↑(List.length r6.1.1):Int)) then
  ((0:Int)≤y8.1.1∧y8.1.1<(↑(List.length r6.1.1):Int))∧
  True∧
 let r9:=Sp.aO d (List.getD r6.1.1 (Int.toNat y8.1.1) ([],())).1;
  bif decide (r9≥(0:Int)) then
  ((0:Int)≤r9∧r9<(↑(List.length y8.2.1):Int))∧
  r9.toNat<List.length y8.2.1∧
  ((0:Int)≤y1.1.1∧y1.1.1<(↑(List.length y8.2.1):Int))∧
  Int.toNat y1.1.1<List.length y8.2.1∧
  bif
  decide
  (i64.wrap ((List.getD y8.2.1 r9.toNat ((0:Int),())).1+(1:Int))>
  (List.getD y8.2.1 (Int.toNat y1.1.1) ((0:Int),())).1) then
  ((0:Int)≤r9∧r9<(↑(List.length y8.2.1):Int))∧
  r9.toNat<List.length y8.2.1∧
  ((0:Int)≤y1.1.1∧y1.1.1<(↑(List.length y8.2.1):Int))∧
  Int.toNat y1.1.1<List.length y8.2.1∧
  s7=s7∧
  I_2
  ((i64.wrap (y8.1.1+(1:Int)),()),
  List.set y8.2.1 (Int.toNat y1.1.1)
  (i64.wrap ((List.getD y8.2.1 r9.toNat ((0:Int),())).1+(1:Int)),()),
  ())∧
  μ_2
  ((i64.wrap (y8.1.1+(1:Int)),()),
  List.set y8.2.1 (Int.toNat y1.1.1)
  (i64.wrap ((List.getD y8.2.1 r9.toNat ((0:Int),())).1+(1:Int)),()),
  ())<
  μ_2 y8
  else
  s7=s7∧
  I_2 ((i64.wrap (y8.1.1+(1:Int)),()),y8.2.1,())∧
  μ_2 ((i64.wrap (y8.1.1+(1:Int)),()),y8.2.1,())<μ_2 y8
  else
  s7=s7∧
  I_2 ((i64.wrap (y8.1.1+(1:Int)),()),y8.2.1,())∧
  μ_2 ((i64.wrap (y8.1.1+(1:Int)),()),y8.2.1,())<μ_2 y8
  else
  s0=s0∧
  I ((i64.wrap (y1.1.1+(1:Int)),()),y8.2.1,())∧
  μ ((i64.wrap (y1.1.1+(1:Int)),()),y8.2.1,())<μ y1
  else K ((y1.2.1,()),())
theorem aft (env:EnvB prog G Θ agn) (hne:∀ x,(zA x).1→∃ t,(zA x).2 t) (h:∀ (d:jQ) (aY:dH),dL tH (d,aY,())→(Sp.bJ d∧d.length≤(5:Nat)∧aY.length=d.length∧∀ (x:iY),x∈aY→(0:Int)≤x.1∧x.1≤(1000000:Int))→afP d aY fun (r:BR×Unit)=>(Sp.bJ d∧d.length≤(5:Nat)∧aY.length=d.length∧∀ (x:iY),x∈aY→(0:Int)≤x.1∧x.1≤(1000000:Int),
 fun (x:BR×Unit)=>Sp.raised d aY x.1.1).2
 r):aC prog G zL AP:=
 bQ env mixed (fn:=f191) (c:=codeOf f191) (by kernel_rfl) (by kernel_rfl) aim (by kernel_rfl) hne fun ⟨d,aY,⟨⟩⟩ hin hp=>
 Eq.mpr (by kernel_rfl) (h d aY hin hp)
def ake:Hints:=Go.Fw.hints [] [(4,⟨[],⟨[(0, .one (.sl 3 (.cons (.int .i64) .nil) false)),(1, .one (.sl 3 (.cons (.int .i64) .nil) false))],[]⟩,⟨[(5, .one (.int .i64))],[]⟩⟩)] [] [] []
def ain (a:dH) (b:dH) (K:eG→Prop):Prop:=
 bif (↑a.length:Int) !=(↑b.length:Int) then K (false,())
 else
 let s0:=((a,b,()),());
  ∃ (I:bM→Prop),
  ∃ (μ:bM→Nat),
  I (((0:Int),()),())∧
  ∀ (y1:bM),
  I y1→
  bif decide (y1.1.1<(↑a.length:Int)) then
  ((0:Int)≤y1.1.1∧y1.1.1<(↑a.length:Int))∧
  ((0:Int)≤y1.1.1∧y1.1.1<(↑b.length:Int))∧
  bif (a.getD (Int.toNat y1.1.1) ((0:Int),())).1 !=(b.getD (Int.toNat y1.1.1) ((0:Int),())).1 then K (false,())
  else s0=s0∧I ((i64.wrap (y1.1.1+(1:Int)),()),())∧μ ((i64.wrap (y1.1.1+(1:Int)),()),())<μ y1
  else K (true,())
theorem ahF (env:EnvB prog G Θ aiR) (h:∀ (a:dH) (b:dH),bP JB (a,b,())→(True)→ain a b fun r=>r=((decide (a=b),()))):aG prog G Bo CY:=
 aZ env mixed (fn:=f134) (c:=codeOf f134) (by kernel_rfl) (by kernel_rfl) ake (by kernel_rfl) fun ⟨a,b,⟨⟩⟩ hin hp=>
 Eq.mpr (by kernel_rfl) (h a b hin hp)
def alN:Hints:=Go.Fw.hints [] [(5,⟨[],⟨[(0, .one (.sl 124 (.cons .str (.cons (.sl 167 (.cons (.int .i64) (.cons (.int .i64) (.cons (.int .i64) (.cons .str (.cons (.int .i64) (.cons (.int .i64) (.cons .str .nil)))))))) .nil)) false))],[]⟩,⟨[(4, .one (.sl 3 (.cons (.int .i64) .nil) true)),(5, .one (.int .i64))],[]⟩⟩)] [] [] []
def akf (d:jQ) (K:abU→Prop):Prop:=
 Sp.bJ d∧
 bif !Sp.rV d then K (([],false,()),())
 else
 ((0:Int)≤(↑d.length:Int)∧(↑d.length:Int)≤(↑d.length:Int)∧(↑d.length:Int)≤(↑big:Int))∧
 let s0:=((d,()),());
  ∃ (I:(dH×iY)×Unit→Prop),
  ∃ (μ:(dH×iY)×Unit→Nat),
  I ((List.replicate (↑d.length:Int).toNat ((0:Int),()),(0:Int),()),())∧
  ∀ (y1:(dH×iY)×Unit),
  I y1→
  bif decide (y1.1.2.1≤i64.wrap (i64.wrap ((↑d.length:Int)*(↑d.length:Int))+(1:Int))) then
  (Sp.bJ d∧d.length≤(5:Nat)∧List.length y1.1.1=d.length∧∀ (x:iY),x∈y1.1.1→(0:Int)≤x.1∧x.1≤(1000000:Int))∧
  ∀ (r2:BR×Unit),
  Sp.raised d y1.1.1 r2.1.1→
  s0=s0∧
  I ((r2.1.1,i64.wrap (y1.1.2.1+(1:Int)),()),())∧μ ((r2.1.1,i64.wrap (y1.1.2.1+(1:Int)),()),())<μ y1
  else
  (Sp.bJ d∧d.length≤(5:Nat)∧List.length y1.1.1=d.length∧∀ (x:iY),x∈y1.1.1→(0:Int)≤x.1∧x.1≤(1000000:Int))∧
  ∀ (r3:BR×Unit),
  Sp.raised d y1.1.1 r3.1.1→
  True∧
 let r4:=decide (r3.1.1=y1.1.1);
  bif !r4 then K (([],false,()),()) else K ((y1.1.1,true,()),())
theorem ajv (env:EnvB prog G Θ ald) (hne:∀ x,(ND x).1→∃ t,(ND x).2 t) (h:∀ (d:jQ),dL xQ (d,())→(Sp.bJ d)→akf d fun (r:abU)=>(Sp.bJ d,fun (x:abU)=>x.1.2.1=Sp.gU d).2 r):aC prog G DU EK:=
 bQ env mixed (fn:=f131) (c:=codeOf f131) (by kernel_rfl) (by kernel_rfl) alN (by kernel_rfl) hne fun ⟨d,⟨⟩⟩ hin hp=>
 Eq.mpr (by kernel_rfl) (h d hin hp)
def Z7:Hints:=Go.Fw.hints [] [] [] [] []
def Ym (d:jQ) (K:eG→Prop):Prop:=
 Sp.bJ d∧∀ (r0:abU),r0.1.2.1=Sp.gU d→K (r0.1.2.1,())
theorem Xv (env:EnvB prog G Θ Y6) (h:∀ (d:jQ),bP CZ (d,())→(Sp.bJ d)→Ym d fun r=>r=((Sp.gU d,()))):aG prog G kT lJ:=
 aZ env mixed (fn:=f101) (c:=codeOf f101) (by kernel_rfl) (by kernel_rfl) Z7 (by kernel_rfl) fun ⟨d,⟨⟩⟩ hin hp=>
 Eq.mpr (by kernel_rfl) (h d hin hp)
def Rf:Hints:=Go.Fw.hints [5] [] [] [] []
def Pv (s:kQ) (K:kQ×Unit→Prop):Prop:=
 ∀ (g0:Bool),(g0=true→s.length=(0:Nat))→bif g0 then K ([],()) else (0:Nat)+s.length≤big∧K (s,())
theorem Ph (env:EnvB prog G Θ Qe) (h:∀ (s:kQ),bP wV (s,())→(s.length≤(1000:Nat))→Pv s fun r=>r=((s,()))):aG prog G l9 oZ:=
 aZ env mixed (fn:=f198) (c:=codeOf f198) (by kernel_rfl) (by kernel_rfl) Rf (by kernel_rfl) fun ⟨s,⟨⟩⟩ hin hp=>
 Eq.mpr (by kernel_rfl) (h s hin hp)
def akg:Hints:=Go.Fw.hints [1] [] [] [] []
def aio (x0:eX) (x1:kQ) (K:(eX×kQ×Unit)×Unit→Prop):Prop:=
 x1.length≤(1000:Nat)∧K ((x0,x1,()),())
theorem ahJ (env:EnvB prog G Θ aiS) (h:∀ (x0:eX) (x1:kQ),bP JC ((x0,x1,()),())→(x1.length≤(1000:Nat))→aio x0 x1 fun r=>r=(((x0,x1,()),()))):aG prog G Bq C9:=
 aZ env mixed (fn:=f145) (c:=codeOf f145) (by kernel_rfl) (by kernel_rfl) akg (by kernel_rfl) fun ⟨⟨x0,x1,⟨⟩⟩,⟨⟩⟩ hin hp=>
 Eq.mpr (by kernel_rfl) (h x0 x1 hin hp)
def aip:Hints:=Go.Fw.hints [6] [(3,⟨[(.slot 3 0,225,124,(.cons .str (.cons (.sl 167 (.cons (.int .i64) (.cons (.int .i64) (.cons (.int .i64) (.cons .str (.cons (.int .i64) (.cons (.int .i64) (.cons .str .nil)))))))) .nil)),false)],⟨[(7, .one (.sl 124 (.cons .str (.cons (.sl 167 (.cons (.int .i64) (.cons (.int .i64) (.cons (.int .i64) (.cons .str (.cons (.int .i64) (.cons (.int .i64) (.cons .str .nil)))))))) .nil)) false)),(8, .one (.int .i64))],[]⟩,⟨[(3, .one (.ref 225)),(9, .one (.int .i64))],[(225, .arr 124 (.cons .str (.cons (.sl 167 (.cons (.int .i64) (.cons (.int .i64) (.cons (.int .i64) (.cons .str (.cons (.int .i64) (.cons (.int .i64) (.cons .str .nil)))))))) .nil)) false)]⟩⟩)] [] [] []
def afQ (d:jQ) (K:BQ→Prop):Prop:=
 let s0:=((d,(↑d.length:Int),()),());
  ∃ (I:qA×BQ→Prop),
  ∃ (μ:qA×BQ→Nat),
  I (((),(0:Int),()),[],())∧
  ∀ (y1:qA×BQ),
  I y1→
  bif decide (y1.1.2.1<(↑d.length:Int)) then
  ((0:Int)≤y1.1.2.1∧y1.1.2.1<(↑d.length:Int))∧
  List.length (d.getD (Int.toNat y1.1.2.1) ([],[],())).2.1≤(1000:Nat)∧
 let r2:=(d.getD (Int.toNat y1.1.2.1) ([],[],())).1;
 let r3:=(d.getD (Int.toNat y1.1.2.1) ([],[],())).2.1;
  List.length y1.2.1+[(r2,r3,())].length≤big∧
  s0=s0∧
  I (((),i64.wrap (y1.1.2.1+(1:Int)),()),y1.2.1++[(r2,r3,())],())∧
  μ (((),i64.wrap (y1.1.2.1+(1:Int)),()),y1.2.1++[(r2,r3,())],())<μ y1
  else K (y1.2.1,())
theorem afp (env:EnvB prog G Θ agp) (h:∀ (d:jQ),bP Hw (d,())→(Sp.bJ d)→afQ d fun r=>r=((d,()))):aG prog G zM AQ:=
 aZ env mixed (fn:=f88) (c:=codeOf f88) (by kernel_rfl) (by kernel_rfl) aip (by kernel_rfl) fun ⟨d,⟨⟩⟩ hin hp=>
 Eq.mpr (by kernel_rfl) (h d hin hp)
def akh:Hints:=Go.Fw.hints [5,18] [(3,⟨[],⟨[(0, .one (.sl 124 (.cons .str (.cons (.sl 167 (.cons (.int .i64) (.cons (.int .i64) (.cons (.int .i64) (.cons .str (.cons (.int .i64) (.cons (.int .i64) (.cons .str .nil)))))))) .nil)) false))],[]⟩,⟨[(3, .one (.ref 321)),(4, .one (.int .i64))],[(321, .arr 124 (.cons .str (.cons (.sl 167 (.cons (.int .i64) (.cons (.int .i64) (.cons (.int .i64) (.cons .str (.cons (.int .i64) (.cons (.int .i64) (.cons .str .nil)))))))) .nil)) true)]⟩⟩)] [] [] []
def aiq (d:jQ) (K:BQ→Prop):Prop:=
 let s0:=((d,()),());
  ∃ (I:qA×BQ→Prop),
  ∃ (μ:qA×BQ→Nat),
  I (((),(0:Int),()),[],())∧
  ∀ (y1:qA×BQ),
  I y1→
  bif decide (y1.1.2.1<(↑d.length:Int)) then
  ((0:Int)≤y1.1.2.1∧y1.1.2.1<(↑d.length:Int))∧
  ((0:Int)≤y1.1.2.1∧y1.1.2.1<(↑d.length:Int))∧
  (0:Nat)+List.length (d.getD (Int.toNat y1.1.2.1) ([],[],())).2.1≤big∧
  List.length y1.2.1+[((d.getD (Int.toNat y1.1.2.1) ([],[],())).1,(d.getD (Int.toNat y1.1.2.1) ([],[],())).2.1,())].length≤big∧
  s0=s0∧
  I
  (((),i64.wrap (y1.1.2.1+(1:Int)),()),
  y1.2.1++[((d.getD (Int.toNat y1.1.2.1) ([],[],())).1,(d.getD (Int.toNat y1.1.2.1) ([],[],())).2.1,())],())∧
  μ
  (((),i64.wrap (y1.1.2.1+(1:Int)),()),
  y1.2.1++[((d.getD (Int.toNat y1.1.2.1) ([],[],())).1,(d.getD (Int.toNat y1.1.2.1) ([],[],())).2.1,())],())<
  μ y1
  else K (y1.2.1,())
theorem ahK (env:EnvB prog G Θ aiT) (h:∀ (d:jQ),bP JD (d,())→(Sp.bJ d)→aiq d fun r=>r=((d,()))):aG prog G Bv Dc:=
 aZ env mixed (fn:=f90) (c:=codeOf f90) (by kernel_rfl) (by kernel_rfl) akh (by kernel_rfl) fun ⟨d,⟨⟩⟩ hin hp=>
 Eq.mpr (by kernel_rfl) (h d hin hp)
def Z8:Hints:=Go.Fw.hints [] [] [] [] []
def Yn (x0:fQ) (x1:ja) (x2:Int) (x3:jQ) (K:NU→Prop):Prop:=
 Sp.iE (x0,x1,x2,())∧
 ∀ (r0:KC),
 (r0.1.1.1,r0.1.1.2.1,r0.1.1.2.2.1,())=(x0,x1,x2,())→Sp.bJ x3∧K (((r0.1.1.1,r0.1.1.2.1,r0.1.1.2.2.1,x3,()),()),())
theorem Xx (env:EnvB prog G Θ Y7) (hne:∀ x,(Et x).1→∃ t,(Et x).2 t) (h:∀ (x0:fQ) (x1:ja) (x2:Int) (x3:jQ),dL gV ((x0,x1,x2,x3,()),())→(Sp.eF (x0,x1,x2,x3,()))→Yn x0 x1 x2 x3 fun (r:NU)=>(Sp.eF (x0,x1,x2,x3,()),
 fun
 (x:
 NU)=>
 (x.1.1.1,x.1.1.2.1,x.1.1.2.2.1,x.1.1.2.2.2.1,())=(x0,x1,x2,x3,())).2
 r):aC prog G jc jf:=
 bQ env mixed (fn:=f45) (c:=codeOf f45) (by kernel_rfl) (by kernel_rfl) Z8 (by kernel_rfl) hne fun ⟨⟨x0,x1,x2,x3,⟨⟩⟩,⟨⟩⟩ hin hp=>
 Eq.mpr (by kernel_rfl) (h x0 x1 x2 x3 hin hp)
def air:Hints:=Go.Fw.hints [] [] [] [] []
def afR (x0:fQ) (x1:ja) (x2:Int) (x3:jQ) (K:NU→Prop):Prop:=
 Sp.iE (x0,x1,x2,())∧
 ∀ (r0:KC),
 (r0.1.1.1,r0.1.1.2.1,r0.1.1.2.2.1,())=(x0,x1,x2,())→Sp.bJ x3∧K (((r0.1.1.1,r0.1.1.2.1,r0.1.1.2.2.1,x3,()),()),())
theorem afi (env:EnvB prog G Θ agq) (hne:∀ x,(JE x).1→∃ t,(JE x).2 t) (h:∀ (x0:fQ) (x1:ja) (x2:Int) (x3:jQ),dL jw ((x0,x1,x2,x3,()),())→(Sp.eF (x0,x1,x2,x3,()))→afR x0 x1 x2 x3 fun (r:NU)=>(Sp.eF (x0,x1,x2,x3,()),
 fun
 (x:
 NU)=>
 (x.1.1.1,x.1.1.2.1,x.1.1.2.2.1,x.1.1.2.2.2.1,())=(x0,x1,x2,x3,())).2
 r):aC prog G lC kM:=
 bQ env mixed (fn:=f47) (c:=codeOf f47) (by kernel_rfl) (by kernel_rfl) air (by kernel_rfl) hne fun ⟨⟨x0,x1,x2,x3,⟨⟩⟩,⟨⟩⟩ hin hp=>
 Eq.mpr (by kernel_rfl) (h x0 x1 x2 x3 hin hp)
def Z9:Hints:=Go.Fw.hints [6,6,15,19] [(3,⟨[(.slot 3 0,225,78,(.cons (.int .i64) (.cons (.sl 155 (.cons .str (.cons (.int .i64) .nil))) (.cons (.sl 56 (.cons (.int .i64) (.cons (.int .i64) (.cons .bool (.cons (.int .i64) (.cons (.sl 94 (.cons .str (.cons (.int .i64) (.cons (.int .i64) (.cons .str .nil))))) .nil)))))) (.cons (.int .i64) (.cons (.sl 124 (.cons .str (.cons (.sl 167 (.cons (.int .i64) (.cons (.int .i64) (.cons (.int .i64) (.cons .str (.cons (.int .i64) (.cons (.int .i64) (.cons .str .nil)))))))) .nil))) (.cons (.int .i64) .nil)))))),false)],⟨[(7, .one (.sl 78 (.cons (.int .i64) (.cons (.sl 155 (.cons .str (.cons (.int .i64) .nil))) (.cons (.sl 56 (.cons (.int .i64) (.cons (.int .i64) (.cons .bool (.cons (.int .i64) (.cons (.sl 94 (.cons .str (.cons (.int .i64) (.cons (.int .i64) (.cons .str .nil))))) .nil)))))) (.cons (.int .i64) (.cons (.sl 124 (.cons .str (.cons (.sl 167 (.cons (.int .i64) (.cons (.int .i64) (.cons (.int .i64) (.cons .str (.cons (.int .i64) (.cons (.int .i64) (.cons .str .nil)))))))) .nil))) (.cons (.int .i64) .nil)))))) false)),(8, .one (.int .i64))],[]⟩,⟨[(3, .one (.ref 225)),(9, .one (.int .i64))],[(225, .arr 78 (.cons (.int .i64) (.cons (.sl 155 (.cons .str (.cons (.int .i64) .nil))) (.cons (.sl 56 (.cons (.int .i64) (.cons (.int .i64) (.cons .bool (.cons (.int .i64) (.cons (.sl 94 (.cons .str (.cons (.int .i64) (.cons (.int .i64) (.cons .str .nil))))) .nil)))))) (.cons (.int .i64) (.cons (.sl 124 (.cons .str (.cons (.sl 167 (.cons (.int .i64) (.cons (.int .i64) (.cons (.int .i64) (.cons .str (.cons (.int .i64) (.cons (.int .i64) (.cons .str .nil)))))))) .nil))) (.cons (.int .i64) .nil)))))) false)]⟩⟩)] [] [] []
def Yo (v:uT) (K:LY→Prop):Prop:=
 let s0:=((v,(↑v.length:Int),()),());
  ∃ (I:
  qA×Dx→
  Prop),
  ∃ (μ:
  qA×Dx→
  Nat),
  I (((),(0:Int),()),[],())∧
  ∀
  (y1:
  qA×Dx),
  I y1→
  bif decide (y1.1.2.1<(↑v.length:Int)) then
  ((0:Int)≤y1.1.2.1∧y1.1.2.1<(↑v.length:Int))∧
  Sp.eF
  ((v.getD (Int.toNat y1.1.2.1) ((0:Int),[],[],(0:Int),[],(0:Int),())).2.1,
  (v.getD (Int.toNat y1.1.2.1) ((0:Int),[],[],(0:Int),[],(0:Int),())).2.2.1,
  (v.getD (Int.toNat y1.1.2.1) ((0:Int),[],[],(0:Int),[],(0:Int),())).2.2.2.1,
  (v.getD (Int.toNat y1.1.2.1) ((0:Int),[],[],(0:Int),[],(0:Int),())).2.2.2.2.1,())∧
  ∀
  (r2:
  NU),
  (r2.1.1.1,r2.1.1.2.1,r2.1.1.2.2.1,r2.1.1.2.2.2.1,())=
  ((v.getD (Int.toNat y1.1.2.1) ((0:Int),[],[],(0:Int),[],(0:Int),())).2.1,
  (v.getD (Int.toNat y1.1.2.1) ((0:Int),[],[],(0:Int),[],(0:Int),())).2.2.1,
  (v.getD (Int.toNat y1.1.2.1) ((0:Int),[],[],(0:Int),[],(0:Int),())).2.2.2.1,
  (v.getD (Int.toNat y1.1.2.1) ((0:Int),[],[],(0:Int),[],(0:Int),())).2.2.2.2.1,())→
  List.length y1.2.1+
  [((v.getD (Int.toNat y1.1.2.1) ((0:Int),[],[],(0:Int),[],(0:Int),())).1,r2.1.1.1,r2.1.1.2.1,r2.1.1.2.2.1,
  r2.1.1.2.2.2.1,(v.getD (Int.toNat y1.1.2.1) ((0:Int),[],[],(0:Int),[],(0:Int),())).2.2.2.2.2.1,
  ())].length≤
  big∧
  s0=s0∧
  I
  (((),i64.wrap (y1.1.2.1+(1:Int)),()),
  y1.2.1++
  [((v.getD (Int.toNat y1.1.2.1) ((0:Int),[],[],(0:Int),[],(0:Int),())).1,r2.1.1.1,r2.1.1.2.1,
  r2.1.1.2.2.1,r2.1.1.2.2.2.1,
  (v.getD (Int.toNat y1.1.2.1) ((0:Int),[],[],(0:Int),[],(0:Int),())).2.2.2.2.2.1,())],
  ())∧
  μ
  (((),i64.wrap (y1.1.2.1+(1:Int)),()),
  y1.2.1++
  [((v.getD (Int.toNat y1.1.2.1) ((0:Int),[],[],(0:Int),[],(0:Int),())).1,r2.1.1.1,r2.1.1.2.1,
  r2.1.1.2.2.1,r2.1.1.2.2.2.1,
  (v.getD (Int.toNat y1.1.2.1) ((0:Int),[],[],(0:Int),[],(0:Int),())).2.2.2.2.2.1,())],
  ())<
  μ y1
  else K ((y1.2.1,()),())
theorem Xz (env:EnvB prog G Θ Y8) (hne:∀ x,(Eu x).1→∃ t,(Eu x).2 t) (h:∀ (v:uT),dL mZ (v,())→(Sp.bn v)→Yo v fun (r:LY)=>(Sp.bn v,
 fun
 (x:
 LY)=>
 x.1.1=v).2
 r):aC prog G sH vM:=
 bQ env mixed (fn:=f44) (c:=codeOf f44) (by kernel_rfl) (by kernel_rfl) Z9 (by kernel_rfl) hne fun ⟨v,⟨⟩⟩ hin hp=>
 Eq.mpr (by kernel_rfl) (h v hin hp)
def aki:Hints:=Go.Fw.hints [5,5,23,30] [(3,⟨[],⟨[(0, .one (.sl 78 (.cons (.int .i64) (.cons (.sl 155 (.cons .str (.cons (.int .i64) .nil))) (.cons (.sl 56 (.cons (.int .i64) (.cons (.int .i64) (.cons .bool (.cons (.int .i64) (.cons (.sl 94 (.cons .str (.cons (.int .i64) (.cons (.int .i64) (.cons .str .nil))))) .nil)))))) (.cons (.int .i64) (.cons (.sl 124 (.cons .str (.cons (.sl 167 (.cons (.int .i64) (.cons (.int .i64) (.cons (.int .i64) (.cons .str (.cons (.int .i64) (.cons (.int .i64) (.cons .str .nil)))))))) .nil))) (.cons (.int .i64) .nil)))))) false))],[]⟩,⟨[(3, .one (.ref 321)),(4, .one (.int .i64))],[(321, .arr 78 (.cons (.int .i64) (.cons (.sl 155 (.cons .str (.cons (.int .i64) .nil))) (.cons (.sl 56 (.cons (.int .i64) (.cons (.int .i64) (.cons .bool (.cons (.int .i64) (.cons (.sl 94 (.cons .str (.cons (.int .i64) (.cons (.int .i64) (.cons .str .nil))))) .nil)))))) (.cons (.int .i64) (.cons (.sl 124 (.cons .str (.cons (.sl 167 (.cons (.int .i64) (.cons (.int .i64) (.cons (.int .i64) (.cons .str (.cons (.int .i64) (.cons (.int .i64) (.cons .str .nil)))))))) .nil))) (.cons (.int .i64) .nil)))))) true)]⟩⟩)] [] [] []
def ais (k:uT) (K:LY→Prop):Prop:=
 let s0:=((k,()),());
  ∃ (I:
  qA×Dx→
  Prop),
  ∃ (μ:
  qA×Dx→
  Nat),
  I (((),(0:Int),()),[],())∧
  ∀
  (y1:
  qA×Dx),
  I y1→
  bif decide (y1.1.2.1<(↑k.length:Int)) then
  ((0:Int)≤y1.1.2.1∧y1.1.2.1<(↑k.length:Int))∧
  ((0:Int)≤y1.1.2.1∧y1.1.2.1<(↑k.length:Int))∧
  Sp.eF
  ((k.getD (Int.toNat y1.1.2.1) ((0:Int),[],[],(0:Int),[],(0:Int),())).2.1,
  (k.getD (Int.toNat y1.1.2.1) ((0:Int),[],[],(0:Int),[],(0:Int),())).2.2.1,
  (k.getD (Int.toNat y1.1.2.1) ((0:Int),[],[],(0:Int),[],(0:Int),())).2.2.2.1,
  (k.getD (Int.toNat y1.1.2.1) ((0:Int),[],[],(0:Int),[],(0:Int),())).2.2.2.2.1,())∧
  ∀
  (r2:
  NU),
  (r2.1.1.1,r2.1.1.2.1,r2.1.1.2.2.1,r2.1.1.2.2.2.1,())=
  ((k.getD (Int.toNat y1.1.2.1) ((0:Int),[],[],(0:Int),[],(0:Int),())).2.1,
  (k.getD (Int.toNat y1.1.2.1) ((0:Int),[],[],(0:Int),[],(0:Int),())).2.2.1,
  (k.getD (Int.toNat y1.1.2.1) ((0:Int),[],[],(0:Int),[],(0:Int),())).2.2.2.1,
  (k.getD (Int.toNat y1.1.2.1) ((0:Int),[],[],(0:Int),[],(0:Int),())).2.2.2.2.1,())→
  ((0:Int)≤y1.1.2.1∧y1.1.2.1<(↑k.length:Int))∧
  List.length y1.2.1+
  [((k.getD (Int.toNat y1.1.2.1) ((0:Int),[],[],(0:Int),[],(0:Int),())).1,r2.1.1.1,r2.1.1.2.1,
  r2.1.1.2.2.1,r2.1.1.2.2.2.1,
  (k.getD (Int.toNat y1.1.2.1) ((0:Int),[],[],(0:Int),[],(0:Int),())).2.2.2.2.2.1,())].length≤
  big∧
  s0=s0∧
  I
  (((),i64.wrap (y1.1.2.1+(1:Int)),()),
  y1.2.1++
  [((k.getD (Int.toNat y1.1.2.1) ((0:Int),[],[],(0:Int),[],(0:Int),())).1,r2.1.1.1,r2.1.1.2.1,
  r2.1.1.2.2.1,r2.1.1.2.2.2.1,
  (k.getD (Int.toNat y1.1.2.1) ((0:Int),[],[],(0:Int),[],(0:Int),())).2.2.2.2.2.1,())],
  ())∧
  μ
  (((),i64.wrap (y1.1.2.1+(1:Int)),()),
  y1.2.1++
  [((k.getD (Int.toNat y1.1.2.1) ((0:Int),[],[],(0:Int),[],(0:Int),())).1,r2.1.1.1,r2.1.1.2.1,
  r2.1.1.2.2.1,r2.1.1.2.2.2.1,
  (k.getD (Int.toNat y1.1.2.1) ((0:Int),[],[],(0:Int),[],(0:Int),())).2.2.2.2.2.1,())],
  ())<
  μ y1
  else K ((y1.2.1,()),())
theorem ahu (env:EnvB prog G Θ aiU) (hne:∀ x,(LD x).1→∃ t,(LD x).2 t) (h:∀ (k:uT),dL nV (k,())→(Sp.bn k)→ais k fun (r:LY)=>(Sp.bn k,
 fun
 (x:
 LY)=>
 x.1.1=k).2
 r):aC prog G ug tJ:=
 bQ env mixed (fn:=f46) (c:=codeOf f46) (by kernel_rfl) (by kernel_rfl) aki (by kernel_rfl) hne fun ⟨k,⟨⟩⟩ hin hp=>
 Eq.mpr (by kernel_rfl) (h k hin hp)
def UM:Hints:=Go.Fw.hints [] [] [] [] []
def RU (x0:fQ) (x1:ja) (x2:Int) (x3:jQ) (K:eG→Prop):Prop:=
 True∧
 let r0:=Sp.dh (x0,x1,x2,());
  bif r0 then Sp.bJ x3∧K (Sp.gU x3,()) else K (false,())
theorem Ru (env:EnvB prog G Θ Uh) (h:∀ (x0:fQ) (x1:ja) (x2:Int) (x3:jQ),bP y7 ((x0,x1,x2,x3,()),())→(Sp.eF (x0,x1,x2,x3,()))→RU x0 x1 x2 x3 fun r=>r=((Sp.wz (x0,x1,x2,x3,()),()))):aG prog G oN qI:=
 aZ env mixed (fn:=f55) (c:=codeOf f55) (by kernel_rfl) (by kernel_rfl) UM (by kernel_rfl) fun ⟨⟨x0,x1,x2,x3,⟨⟩⟩,⟨⟩⟩ hin hp=>
 Eq.mpr (by kernel_rfl) (h x0 x1 x2 x3 hin hp)
def UN:Hints:=Go.Fw.hints [] [] [] [] []
def RV (x0:fQ) (x1:ja) (x2:Int) (x3:jQ) (K:eG→Prop):Prop:=
 True∧
 let r0:=Sp.dh (x0,x1,x2,());
  bif r0 then Sp.bJ x3∧K (Sp.gU x3,()) else K (false,())
theorem Rx (env:EnvB prog G Θ Ui) (h:∀ (x0:fQ) (x1:ja) (x2:Int) (x3:jQ),bP y9 ((x0,x1,x2,x3,()),())→(Sp.eF (x0,x1,x2,x3,()))→RV x0 x1 x2 x3 fun r=>r=((Sp.wz (x0,x1,x2,x3,()),()))):aG prog G oO qJ:=
 aZ env mixed (fn:=f64) (c:=codeOf f64) (by kernel_rfl) (by kernel_rfl) UN (by kernel_rfl) fun ⟨⟨x0,x1,x2,x3,⟨⟩⟩,⟨⟩⟩ hin hp=>
 Eq.mpr (by kernel_rfl) (h x0 x1 x2 x3 hin hp)
def RX:Hints:=Go.Fw.hints [] [(2,⟨[],⟨[(0, .one (.sl 78 (.cons (.int .i64) (.cons (.sl 155 (.cons .str (.cons (.int .i64) .nil))) (.cons (.sl 56 (.cons (.int .i64) (.cons (.int .i64) (.cons .bool (.cons (.int .i64) (.cons (.sl 94 (.cons .str (.cons (.int .i64) (.cons (.int .i64) (.cons .str .nil))))) .nil)))))) (.cons (.int .i64) (.cons (.sl 124 (.cons .str (.cons (.sl 167 (.cons (.int .i64) (.cons (.int .i64) (.cons (.int .i64) (.cons .str (.cons (.int .i64) (.cons (.int .i64) (.cons .str .nil)))))))) .nil))) (.cons (.int .i64) .nil)))))) false)),(5, .one (.sl 78 (.cons (.int .i64) (.cons (.sl 155 (.cons .str (.cons (.int .i64) .nil))) (.cons (.sl 56 (.cons (.int .i64) (.cons (.int .i64) (.cons .bool (.cons (.int .i64) (.cons (.sl 94 (.cons .str (.cons (.int .i64) (.cons (.int .i64) (.cons .str .nil))))) .nil)))))) (.cons (.int .i64) (.cons (.sl 124 (.cons .str (.cons (.sl 167 (.cons (.int .i64) (.cons (.int .i64) (.cons (.int .i64) (.cons .str (.cons (.int .i64) (.cons (.int .i64) (.cons .str .nil)))))))) .nil))) (.cons (.int .i64) .nil)))))) false)),(6, .one (.int .i64))],[]⟩,⟨[(7, .one (.int .i64))],[]⟩⟩)] [] [] []
def Rh (v:uT) (K:eG→Prop):Prop:=
 let s0:=((v,v,(↑v.length:Int),()),());
  ∃ (I:bM→Prop),
  ∃ (μ:bM→Nat),
  I (((0:Int),()),())∧
  ∀ (y1:bM),
  I y1→
  bif decide (y1.1.1<(↑v.length:Int)) then
  ((0:Int)≤y1.1.1∧y1.1.1<(↑v.length:Int))∧
  True∧
 let r2:=
  decide ((1:Int)≤(v.getD (Int.toNat y1.1.1) ((0:Int),[],[],(0:Int),[],(0:Int),())).1)&&
  decide ((v.getD (Int.toNat y1.1.1) ((0:Int),[],[],(0:Int),[],(0:Int),())).1≤(1000000000:Int));
  bif !r2 then K (false,())
  else
  bif decide (y1.1.1>(0:Int)) then
  ((0:Int)≤i64.wrap (y1.1.1-(1:Int))∧i64.wrap (y1.1.1-(1:Int))<(↑v.length:Int))∧
  bif
  decide
  ((v.getD (i64.wrap (y1.1.1-(1:Int))).toNat ((0:Int),[],[],(0:Int),[],(0:Int),())).1≥
  (v.getD (Int.toNat y1.1.1) ((0:Int),[],[],(0:Int),[],(0:Int),())).1) then
  K (false,())
  else
  Sp.eF
  ((v.getD (Int.toNat y1.1.1) ((0:Int),[],[],(0:Int),[],(0:Int),())).2.1,
  (v.getD (Int.toNat y1.1.1) ((0:Int),[],[],(0:Int),[],(0:Int),())).2.2.1,
  (v.getD (Int.toNat y1.1.1) ((0:Int),[],[],(0:Int),[],(0:Int),())).2.2.2.1,
  (v.getD (Int.toNat y1.1.1) ((0:Int),[],[],(0:Int),[],(0:Int),())).2.2.2.2.1,())∧
 let r3:=
  Sp.wz
  ((v.getD (Int.toNat y1.1.1) ((0:Int),[],[],(0:Int),[],(0:Int),())).2.1,
  (v.getD (Int.toNat y1.1.1) ((0:Int),[],[],(0:Int),[],(0:Int),())).2.2.1,
  (v.getD (Int.toNat y1.1.1) ((0:Int),[],[],(0:Int),[],(0:Int),())).2.2.2.1,
  (v.getD (Int.toNat y1.1.1) ((0:Int),[],[],(0:Int),[],(0:Int),())).2.2.2.2.1,());
  bif !r3 then K (false,())
  else
  True∧
 let r4:=
  decide ((0:Int)≤(v.getD (Int.toNat y1.1.1) ((0:Int),[],[],(0:Int),[],(0:Int),())).2.2.2.2.2.1)&&
  decide ((v.getD (Int.toNat y1.1.1) ((0:Int),[],[],(0:Int),[],(0:Int),())).2.2.2.2.2.1≤(99:Int));
  bif !r4 then K (false,())
  else s0=s0∧I ((i64.wrap (y1.1.1+(1:Int)),()),())∧μ ((i64.wrap (y1.1.1+(1:Int)),()),())<μ y1
  else
  Sp.eF
  ((v.getD (Int.toNat y1.1.1) ((0:Int),[],[],(0:Int),[],(0:Int),())).2.1,
  (v.getD (Int.toNat y1.1.1) ((0:Int),[],[],(0:Int),[],(0:Int),())).2.2.1,
  (v.getD (Int.toNat y1.1.1) ((0:Int),[],[],(0:Int),[],(0:Int),())).2.2.2.1,
  (v.getD (Int.toNat y1.1.1) ((0:Int),[],[],(0:Int),[],(0:Int),())).2.2.2.2.1,())∧
 let r5:=
  Sp.wz
  ((v.getD (Int.toNat y1.1.1) ((0:Int),[],[],(0:Int),[],(0:Int),())).2.1,
  (v.getD (Int.toNat y1.1.1) ((0:Int),[],[],(0:Int),[],(0:Int),())).2.2.1,
  (v.getD (Int.toNat y1.1.1) ((0:Int),[],[],(0:Int),[],(0:Int),())).2.2.2.1,
  (v.getD (Int.toNat y1.1.1) ((0:Int),[],[],(0:Int),[],(0:Int),())).2.2.2.2.1,());
  bif !r5 then K (false,())
  else
  True∧
 let r6:=
  decide ((0:Int)≤(v.getD (Int.toNat y1.1.1) ((0:Int),[],[],(0:Int),[],(0:Int),())).2.2.2.2.2.1)&&
  decide ((v.getD (Int.toNat y1.1.1) ((0:Int),[],[],(0:Int),[],(0:Int),())).2.2.2.2.2.1≤(99:Int));
  bif !r6 then K (false,())
  else s0=s0∧I ((i64.wrap (y1.1.1+(1:Int)),()),())∧μ ((i64.wrap (y1.1.1+(1:Int)),()),())<μ y1
  else K (decide ((↑v.length:Int)≤(6:Int)),())
theorem QW (env:EnvB prog G Θ Rl) (h:∀ (v:uT),bP yg (v,())→(Sp.bn v)→Rh v fun r=>r=((Sp.fO v,()))):aG prog G jk jD:=
 aZ env mixed (fn:=f16) (c:=codeOf f16) (by kernel_rfl) (by kernel_rfl) RX (by kernel_rfl) fun ⟨v,⟨⟩⟩ hin hp=>
 Eq.mpr (by kernel_rfl) (h v hin hp)
def RY:Hints:=Go.Fw.hints [] [(2,⟨[],⟨[(0, .one (.sl 78 (.cons (.int .i64) (.cons (.sl 155 (.cons .str (.cons (.int .i64) .nil))) (.cons (.sl 56 (.cons (.int .i64) (.cons (.int .i64) (.cons .bool (.cons (.int .i64) (.cons (.sl 94 (.cons .str (.cons (.int .i64) (.cons (.int .i64) (.cons .str .nil))))) .nil)))))) (.cons (.int .i64) (.cons (.sl 124 (.cons .str (.cons (.sl 167 (.cons (.int .i64) (.cons (.int .i64) (.cons (.int .i64) (.cons .str (.cons (.int .i64) (.cons (.int .i64) (.cons .str .nil)))))))) .nil))) (.cons (.int .i64) .nil)))))) false))],[]⟩,⟨[(3, .one (.int .i64))],[]⟩⟩)] [] [] []
def Ri (k:uT) (K:eG→Prop):Prop:=
 let s0:=((k,()),());
  ∃ (I:bM→Prop),
  ∃ (μ:bM→Nat),
  I (((0:Int),()),())∧
  ∀ (y1:bM),
  I y1→
  bif decide (y1.1.1<(↑k.length:Int)) then
  ((0:Int)≤y1.1.1∧y1.1.1<(↑k.length:Int))∧
  True∧
 let r2:=
  decide ((1:Int)≤(k.getD (Int.toNat y1.1.1) ((0:Int),[],[],(0:Int),[],(0:Int),())).1)&&
  decide ((k.getD (Int.toNat y1.1.1) ((0:Int),[],[],(0:Int),[],(0:Int),())).1≤(1000000000:Int));
  bif !r2 then K (false,())
  else
  ((0:Int)≤y1.1.1∧y1.1.1<(↑k.length:Int))∧
  Sp.eF
  ((k.getD (Int.toNat y1.1.1) ((0:Int),[],[],(0:Int),[],(0:Int),())).2.1,
  (k.getD (Int.toNat y1.1.1) ((0:Int),[],[],(0:Int),[],(0:Int),())).2.2.1,
  (k.getD (Int.toNat y1.1.1) ((0:Int),[],[],(0:Int),[],(0:Int),())).2.2.2.1,
  (k.getD (Int.toNat y1.1.1) ((0:Int),[],[],(0:Int),[],(0:Int),())).2.2.2.2.1,())∧
 let r3:=
  Sp.wz
  ((k.getD (Int.toNat y1.1.1) ((0:Int),[],[],(0:Int),[],(0:Int),())).2.1,
  (k.getD (Int.toNat y1.1.1) ((0:Int),[],[],(0:Int),[],(0:Int),())).2.2.1,
  (k.getD (Int.toNat y1.1.1) ((0:Int),[],[],(0:Int),[],(0:Int),())).2.2.2.1,
  (k.getD (Int.toNat y1.1.1) ((0:Int),[],[],(0:Int),[],(0:Int),())).2.2.2.2.1,());
  bif !r3 then K (false,())
  else
  ((0:Int)≤y1.1.1∧y1.1.1<(↑k.length:Int))∧
  True∧
 let r4:=
  decide ((0:Int)≤(k.getD (Int.toNat y1.1.1) ((0:Int),[],[],(0:Int),[],(0:Int),())).2.2.2.2.2.1)&&
  decide ((k.getD (Int.toNat y1.1.1) ((0:Int),[],[],(0:Int),[],(0:Int),())).2.2.2.2.2.1≤(99:Int));
  bif !r4 then K (false,())
  else
  bif decide (y1.1.1>(0:Int)) then
  ((0:Int)≤i64.wrap (y1.1.1-(1:Int))∧i64.wrap (y1.1.1-(1:Int))<(↑k.length:Int))∧
  ((0:Int)≤y1.1.1∧y1.1.1<(↑k.length:Int))∧
  bif
  decide
  ((k.getD (i64.wrap (y1.1.1-(1:Int))).toNat ((0:Int),[],[],(0:Int),[],(0:Int),())).1≥
  (k.getD (Int.toNat y1.1.1) ((0:Int),[],[],(0:Int),[],(0:Int),())).1) then
  K (false,())
  else s0=s0∧I ((i64.wrap (y1.1.1+(1:Int)),()),())∧μ ((i64.wrap (y1.1.1+(1:Int)),()),())<μ y1
  else s0=s0∧I ((i64.wrap (y1.1.1+(1:Int)),()),())∧μ ((i64.wrap (y1.1.1+(1:Int)),()),())<μ y1
  else K (decide ((↑k.length:Int)≤(6:Int)),())
theorem QX (env:EnvB prog G Θ Rn) (h:∀ (k:uT),bP yh (k,())→(Sp.bn k)→Ri k fun r=>r=((Sp.fO k,()))):aG prog G jl jE:=
 aZ env mixed (fn:=f28) (c:=codeOf f28) (by kernel_rfl) (by kernel_rfl) RY (by kernel_rfl) fun ⟨k,⟨⟩⟩ hin hp=>
 Eq.mpr (by kernel_rfl) (h k hin hp)
def acf:Hints:=Go.Fw.hints [] [] [] [] []
def aac (x0:Int) (x1:fQ) (x2:ja) (x3:Int) (x4:jQ) (x5:Int) (p10:Int) (K:eG→Prop):Prop:=
 K (x0==p10,())
theorem Zo (env:EnvB prog G Θ aaC) (h:∀ (x0:Int) (x1:fQ) (x2:ja) (x3:Int) (x4:jQ) (x5:Int) (p10:Int),bP Ew ((x0,x1,x2,x3,x4,x5,()),(p10,()),())→(True)→aac x0 x1 x2 x3 x4 x5 p10 fun r=>r=((x0==p10,()))):aG prog G mg ng:=
 aZ env mixed (fn:=f92) (c:=codeOf f92) (by kernel_rfl) (by kernel_rfl) acf (by kernel_rfl) fun ⟨⟨x0,x1,x2,x3,x4,x5,⟨⟩⟩,⟨p10,⟨⟩⟩,⟨⟩⟩ hin hp=>
 Eq.mpr (by kernel_rfl) (h x0 x1 x2 x3 x4 x5 p10 hin hp)
def xZ:Hints:=Go.Fw.hints [] [(2,⟨[],⟨[(0, .one (.sl 78 (.cons (.int .i64) (.cons (.sl 155 (.cons .str (.cons (.int .i64) .nil))) (.cons (.sl 56 (.cons (.int .i64) (.cons (.int .i64) (.cons .bool (.cons (.int .i64) (.cons (.sl 94 (.cons .str (.cons (.int .i64) (.cons (.int .i64) (.cons .str .nil))))) .nil)))))) (.cons (.int .i64) (.cons (.sl 124 (.cons .str (.cons (.sl 167 (.cons (.int .i64) (.cons (.int .i64) (.cons (.int .i64) (.cons .str (.cons (.int .i64) (.cons (.int .i64) (.cons .str .nil)))))))) .nil))) (.cons (.int .i64) .nil)))))) false)),(1, .fn 92 [[.int .i64]]),(7, .one (.int .i64))],[]⟩,⟨[(8, .one (.int .i64))],[]⟩⟩)] [] [] []
def xE (s:uT) (FM:Int) (K:iY→Prop):Prop:=
 let s0:=((s,((FM,()),()),(↑s.length:Int),()),());
  ∃ (I:bM→Prop),
  ∃ (μ:bM→Nat),
  I (((0:Int),()),())∧
  ∀ (y1:bM),
  I y1→
  bif decide (y1.1.1<(↑s.length:Int)) then
  ((0:Int)≤y1.1.1∧y1.1.1<(↑s.length:Int))∧
  True∧
 let r2:=(s.getD (Int.toNat y1.1.1) ((0:Int),[],[],(0:Int),[],(0:Int),())).1==FM;
  bif r2 then K (y1.1.1,())
  else s0=s0∧I ((i64.wrap (y1.1.1+(1:Int)),()),())∧μ ((i64.wrap (y1.1.1+(1:Int)),()),())<μ y1
  else K ((-1:Int),())
theorem xC (env:EnvB prog G Θ xU) (h:∀ (s:uT) (FM:Int),bP iH (s,((FM,()),()),())→(True)→xE s FM fun r=>r=((Sp.aP s FM,()))):aG prog G dW fK:=
 aZ env mixed (fn:=f91) (c:=codeOf f91) (by kernel_rfl) (by kernel_rfl) xZ (by kernel_rfl) fun ⟨s,⟨⟨FM,⟨⟩⟩,⟨⟩⟩,⟨⟩⟩ hin hp=>
 Eq.mpr (by kernel_rfl) (h s FM hin hp)
def afS:Hints:=Go.Fw.hints [] [] [] [] []
def adF (v:uT) (number:Int) (K:iY→Prop):Prop:=
 True∧K (Sp.aP v number,())
theorem adn (env:EnvB prog G Θ aev) (h:∀ (v:uT) (number:Int),bP Gj (v,number,())→(True)→adF v number fun r=>r=((Sp.aP v number,()))):aG prog G yC zB:=
 aZ env mixed (fn:=f49) (c:=codeOf f49) (by kernel_rfl) (by kernel_rfl) afS (by kernel_rfl) fun ⟨v,number,⟨⟩⟩ hin hp=>
 Eq.mpr (by kernel_rfl) (h v number hin hp)
def ait:Hints:=Go.Fw.hints [] [(2,⟨[],⟨[(0, .one (.sl 78 (.cons (.int .i64) (.cons (.sl 155 (.cons .str (.cons (.int .i64) .nil))) (.cons (.sl 56 (.cons (.int .i64) (.cons (.int .i64) (.cons .bool (.cons (.int .i64) (.cons (.sl 94 (.cons .str (.cons (.int .i64) (.cons (.int .i64) (.cons .str .nil))))) .nil)))))) (.cons (.int .i64) (.cons (.sl 124 (.cons .str (.cons (.sl 167 (.cons (.int .i64) (.cons (.int .i64) (.cons (.int .i64) (.cons .str (.cons (.int .i64) (.cons (.int .i64) (.cons .str .nil)))))))) .nil))) (.cons (.int .i64) .nil)))))) false)),(1, .one (.int .i64))],[]⟩,⟨[(5, .one (.int .i64))],[]⟩⟩)] [] [] []
def afT (k:uT) (version:Int) (K:iY→Prop):Prop:=
 let s0:=((k,version,()),());
  ∃ (I:bM→Prop),
  ∃ (μ:bM→Nat),
  I (((0:Int),()),())∧
  ∀ (y1:bM),
  I y1→
  bif decide (y1.1.1<(↑k.length:Int)) then
  ((0:Int)≤y1.1.1∧y1.1.1<(↑k.length:Int))∧
  bif (k.getD (Int.toNat y1.1.1) ((0:Int),[],[],(0:Int),[],(0:Int),())).1==version then K (y1.1.1,())
  else s0=s0∧I ((i64.wrap (y1.1.1+(1:Int)),()),())∧μ ((i64.wrap (y1.1.1+(1:Int)),()),())<μ y1
  else K ((-1:Int),())
theorem afj (env:EnvB prog G Θ agr) (h:∀ (k:uT) (version:Int),bP Hy (k,version,())→(True)→afT k version fun r=>r=((Sp.aP k version,()))):aG prog G qQ rG:=
 aZ env mixed (fn:=f50) (c:=codeOf f50) (by kernel_rfl) (by kernel_rfl) ait (by kernel_rfl) fun ⟨k,version,⟨⟩⟩ hin hp=>
 Eq.mpr (by kernel_rfl) (h k version hin hp)
def Yp:Hints:=Go.Fw.hints [10] [] [] [] []
def V8 (v:uT) (number:Int) (x0:fQ) (x1:ja) (x2:Int) (x3:jQ) (K:LX→Prop):Prop:=
 Sp.bn v∧
 ∀
 (r0:
 LY),
 r0.1.1=v→
 Sp.eF (x0,x1,x2,x3,())∧
 ∀
 (r1:
 NU),
 (r1.1.1.1,r1.1.1.2.1,r1.1.1.2.2.1,r1.1.1.2.2.2.1,())=(x0,x1,x2,x3,())→
 List.length r0.1.1+[(number,r1.1.1.1,r1.1.1.2.1,r1.1.1.2.2.1,r1.1.1.2.2.2.1,(0:Int),())].length≤big∧
 Sp.bn v∧
 bif !Sp.fO v then
 Sp.bn v∧
 ∀
 (r2:
 LY),
 r2.1.1=v→K ((r2.1.1,false,()),())
 else
 Sp.bn (r0.1.1++[(number,r1.1.1.1,r1.1.1.2.1,r1.1.1.2.2.1,r1.1.1.2.2.2.1,(0:Int),())])∧
 let r3:=Sp.fO (r0.1.1++[(number,r1.1.1.1,r1.1.1.2.1,r1.1.1.2.2.1,r1.1.1.2.2.2.1,(0:Int),())]);
  bif !r3 then
  Sp.bn v∧
  ∀
  (r4:
  LY),
  r4.1.1=v→K ((r4.1.1,false,()),())
  else K ((r0.1.1++[(number,r1.1.1.1,r1.1.1.2.1,r1.1.1.2.2.1,r1.1.1.2.2.2.1,(0:Int),())],true,()),())
theorem VK (env:EnvB prog G Θ WE) (hne:∀ x,(Df x).1→∃ t,(Df x).2 t) (h:∀ (v:uT) (number:Int) (x0:fQ) (x1:ja) (x2:Int) (x3:jQ),dL lK (v,number,(x0,x1,x2,x3,()),())→(Sp.bn v∧v.length≤(100:Nat)∧Sp.eF (x0,x1,x2,x3,()))→V8 v number x0 x1 x2 x3 fun (r:LX)=>(Sp.bn v∧v.length≤(100:Nat)∧Sp.eF (x0,x1,x2,x3,()),
 fun
 (x:
 LX)=>
 x.1.1=(Sp.fM v number (x0,x1,x2,x3,())).1∧x.1.2.1=(Sp.fM v number (x0,x1,x2,x3,())).2).2
 r):aC prog G qR uw:=
 bQ env mixed (fn:=f9) (c:=codeOf f9) (by kernel_rfl) (by kernel_rfl) Yp (by kernel_rfl) hne fun ⟨v,number,⟨x0,x1,x2,x3,⟨⟩⟩,⟨⟩⟩ hin hp=>
 Eq.mpr (by kernel_rfl) (h v number x0 x1 x2 x3 hin hp)
def Yq:Hints:=Go.Fw.hints [10,10,13,15,18,22,26] [] [] [] []
def V9 (k:uT) (version:Int) (x0:fQ) (x1:ja) (x2:Int) (x3:jQ) (K:LX→Prop):Prop:=
 Sp.bn k∧
 ∀
 (r0:
 LY),
 r0.1.1=k→
 Sp.eF (x0,x1,x2,x3,())∧
 ∀
 (r1:
 NU),
 (r1.1.1.1,r1.1.1.2.1,r1.1.1.2.2.1,r1.1.1.2.2.2.1,())=(x0,x1,x2,x3,())→
 List.length r0.1.1+[(version,r1.1.1.1,r1.1.1.2.1,r1.1.1.2.2.1,r1.1.1.2.2.2.1,(0:Int),())].length≤big∧
 Sp.bn k∧
 bif !Sp.fO k then
 Sp.bn k∧
 ∀
 (r2:
 LY),
 r2.1.1=k→K ((r2.1.1,false,()),())
 else
 Sp.bn (r0.1.1++[(version,r1.1.1.1,r1.1.1.2.1,r1.1.1.2.2.1,r1.1.1.2.2.2.1,(0:Int),())])∧
 let r3:=Sp.fO (r0.1.1++[(version,r1.1.1.1,r1.1.1.2.1,r1.1.1.2.2.1,r1.1.1.2.2.2.1,(0:Int),())]);
  bif !r3 then
  Sp.bn k∧
  ∀
  (r4:
  LY),
  r4.1.1=k→K ((r4.1.1,false,()),())
  else K ((r0.1.1++[(version,r1.1.1.1,r1.1.1.2.1,r1.1.1.2.2.1,r1.1.1.2.2.2.1,(0:Int),())],true,()),())
theorem VL (env:EnvB prog G Θ WG) (hne:∀ x,(Dh x).1→∃ t,(Dh x).2 t) (h:∀ (k:uT) (version:Int) (x0:fQ) (x1:ja) (x2:Int) (x3:jQ),dL jg (k,version,(x0,x1,x2,x3,()),())→(Sp.bn k∧k.length≤(100:Nat)∧Sp.eF (x0,x1,x2,x3,()))→V9 k version x0 x1 x2 x3 fun (r:LX)=>(Sp.bn k∧k.length≤(100:Nat)∧Sp.eF (x0,x1,x2,x3,()),
 fun
 (x:
 LX)=>
 x.1.1=(Sp.fM k version (x0,x1,x2,x3,())).1∧x.1.2.1=(Sp.fM k version (x0,x1,x2,x3,())).2).2
 r):aC prog G ku kG:=
 bQ env mixed (fn:=f10) (c:=codeOf f10) (by kernel_rfl) (by kernel_rfl) Yq (by kernel_rfl) hne fun ⟨k,version,⟨x0,x1,x2,x3,⟨⟩⟩,⟨⟩⟩ hin hp=>
 Eq.mpr (by kernel_rfl) (h k version x0 x1 x2 x3 hin hp)
def adG:Hints:=Go.Fw.hints [9,9,12,14] [] [] [] []
def acg (k:uT) (version:Int) (K:LX→Prop):Prop:=
 Sp.bn k∧
 ∀
 (r0:
 LY),
 r0.1.1=k→
 True∧
 Sp.bn k∧
 bif !Sp.fO k then K ((r0.1.1,false,()),())
 else
 bif decide (Sp.aP k version<(0:Int)) then K ((r0.1.1,false,()),())
 else
 ((0:Int)≤Sp.aP k version∧Sp.aP k version<(↑k.length:Int))∧
 bif decide ((k.getD (Sp.aP k version).toNat ((0:Int),[],[],(0:Int),[],(0:Int),())).2.2.2.2.2.1≥(99:Int)) then
 K ((r0.1.1,false,()),())
 else
 ((0:Int)≤Sp.aP k version∧Sp.aP k version<(↑(List.length r0.1.1):Int))∧
 (Sp.aP k version).toNat<List.length r0.1.1∧
 ((0:Int)≤Sp.aP k version∧Sp.aP k version<(↑(List.length r0.1.1):Int))∧
 (Sp.aP k version).toNat<List.length r0.1.1∧
 K
 ((List.set r0.1.1 (Sp.aP k version).toNat
 ((List.getD r0.1.1 (Sp.aP k version).toNat ((0:Int),[],[],(0:Int),[],(0:Int),())).1,
 (List.getD r0.1.1 (Sp.aP k version).toNat ((0:Int),[],[],(0:Int),[],(0:Int),())).2.1,
 (List.getD r0.1.1 (Sp.aP k version).toNat ((0:Int),[],[],(0:Int),[],(0:Int),())).2.2.1,
 (List.getD r0.1.1 (Sp.aP k version).toNat ((0:Int),[],[],(0:Int),[],(0:Int),())).2.2.2.1,
 (List.getD r0.1.1 (Sp.aP k version).toNat ((0:Int),[],[],(0:Int),[],(0:Int),())).2.2.2.2.1,
 i64.wrap
 ((List.getD r0.1.1 (Sp.aP k version).toNat ((0:Int),[],[],(0:Int),[],(0:Int),())).2.2.2.2.2.1+(1:Int)),
 ()),
 true,()),
 ())
theorem abI (env:EnvB prog G Θ acQ) (hne:∀ x,(Gl x).1→∃ t,(Gl x).2 t) (h:∀ (k:uT) (version:Int),dL qg (k,version,())→(Sp.bn k∧k.length≤(100:Nat))→acg k version fun (r:LX)=>(Sp.bn k∧k.length≤(100:Nat),
 fun
 (x:
 LX)=>
 x.1.1=(Sp.yj k version (1:Int)).1∧x.1.2.1=(Sp.yj k version (1:Int)).2).2
 r):aC prog G wF yS:=
 bQ env mixed (fn:=f21) (c:=codeOf f21) (by kernel_rfl) (by kernel_rfl) adG (by kernel_rfl) hne fun ⟨k,version,⟨⟩⟩ hin hp=>
 Eq.mpr (by kernel_rfl) (h k version hin hp)
def ach:Hints:=Go.Fw.hints [] [] [] [] []
def aad (v:uT) (number:Int) (K:XY→Prop):Prop:=
 True∧
 bif decide (Sp.aP v number≥(0:Int)) then
 ((0:Int)≤Sp.aP v number∧Sp.aP v number<(↑v.length:Int))∧
 Sp.eF
 ((v.getD (Sp.aP v number).toNat ((0:Int),[],[],(0:Int),[],(0:Int),())).2.1,
 (v.getD (Sp.aP v number).toNat ((0:Int),[],[],(0:Int),[],(0:Int),())).2.2.1,
 (v.getD (Sp.aP v number).toNat ((0:Int),[],[],(0:Int),[],(0:Int),())).2.2.2.1,
 (v.getD (Sp.aP v number).toNat ((0:Int),[],[],(0:Int),[],(0:Int),())).2.2.2.2.1,())∧
 ∀
 (r0:
 NU),
 (r0.1.1.1,r0.1.1.2.1,r0.1.1.2.2.1,r0.1.1.2.2.2.1,())=
 ((v.getD (Sp.aP v number).toNat ((0:Int),[],[],(0:Int),[],(0:Int),())).2.1,
 (v.getD (Sp.aP v number).toNat ((0:Int),[],[],(0:Int),[],(0:Int),())).2.2.1,
 (v.getD (Sp.aP v number).toNat ((0:Int),[],[],(0:Int),[],(0:Int),())).2.2.2.1,
 (v.getD (Sp.aP v number).toNat ((0:Int),[],[],(0:Int),[],(0:Int),())).2.2.2.2.1,())→
 K (((r0.1.1.1,r0.1.1.2.1,r0.1.1.2.2.1,r0.1.1.2.2.2.1,()),true,()),())
 else K ((([],[],(0:Int),[],()),false,()),())
theorem Zq (env:EnvB prog G Θ aaD) (hne:∀ x,(Fa x).1→∃ t,(Fa x).2 t) (h:∀ (v:uT) (number:Int),dL oH (v,number,())→(Sp.bn v)→aad v number fun (r:XY)=>(Sp.bn v,
 fun
 (x:
 XY)=>
 (x.1.1.1,x.1.1.2.1,x.1.1.2.2.1,x.1.1.2.2.2.1,())=(Sp.iq v number).1∧x.1.2.1=(Sp.iq v number).2).2
 r):aC prog G uN wW:=
 bQ env mixed (fn:=f12) (c:=codeOf f12) (by kernel_rfl) (by kernel_rfl) ach (by kernel_rfl) hne fun ⟨v,number,⟨⟩⟩ hin hp=>
 Eq.mpr (by kernel_rfl) (h v number hin hp)
def aci:Hints:=Go.Fw.hints [] [] [] [] []
def aae (k:uT) (version:Int) (K:XY→Prop):Prop:=
 True∧
 bif decide (Sp.aP k version<(0:Int)) then K ((([],[],(0:Int),[],()),false,()),())
 else
 ((0:Int)≤Sp.aP k version∧Sp.aP k version<(↑k.length:Int))∧
 Sp.eF
 ((k.getD (Sp.aP k version).toNat ((0:Int),[],[],(0:Int),[],(0:Int),())).2.1,
 (k.getD (Sp.aP k version).toNat ((0:Int),[],[],(0:Int),[],(0:Int),())).2.2.1,
 (k.getD (Sp.aP k version).toNat ((0:Int),[],[],(0:Int),[],(0:Int),())).2.2.2.1,
 (k.getD (Sp.aP k version).toNat ((0:Int),[],[],(0:Int),[],(0:Int),())).2.2.2.2.1,())∧
 ∀
 (r0:
 NU),
 (r0.1.1.1,r0.1.1.2.1,r0.1.1.2.2.1,r0.1.1.2.2.2.1,())=
 ((k.getD (Sp.aP k version).toNat ((0:Int),[],[],(0:Int),[],(0:Int),())).2.1,
 (k.getD (Sp.aP k version).toNat ((0:Int),[],[],(0:Int),[],(0:Int),())).2.2.1,
 (k.getD (Sp.aP k version).toNat ((0:Int),[],[],(0:Int),[],(0:Int),())).2.2.2.1,
 (k.getD (Sp.aP k version).toNat ((0:Int),[],[],(0:Int),[],(0:Int),())).2.2.2.2.1,())→
 K (((r0.1.1.1,r0.1.1.2.1,r0.1.1.2.2.1,r0.1.1.2.2.2.1,()),true,()),())
theorem Zt (env:EnvB prog G Θ aaE) (hne:∀ x,(Fb x).1→∃ t,(Fb x).2 t) (h:∀ (k:uT) (version:Int),dL oI (k,version,())→(Sp.bn k)→aae k version fun (r:XY)=>(Sp.bn k,
 fun
 (x:
 XY)=>
 (x.1.1.1,x.1.1.2.1,x.1.1.2.2.1,x.1.1.2.2.2.1,())=(Sp.iq k version).1∧x.1.2.1=(Sp.iq k version).2).2
 r):aC prog G uM wX:=
 bQ env mixed (fn:=f13) (c:=codeOf f13) (by kernel_rfl) (by kernel_rfl) aci (by kernel_rfl) hne fun ⟨k,version,⟨⟩⟩ hin hp=>
 Eq.mpr (by kernel_rfl) (h k version hin hp)
def afU:Hints:=Go.Fw.hints [] [(4,⟨[],⟨[(0, .one (.sl 167 (.cons (.int .i64) (.cons (.int .i64) (.cons (.int .i64) (.cons .str (.cons (.int .i64) (.cons (.int .i64) (.cons .str .nil))))))) false)),(1, .one (.sl 167 (.cons (.int .i64) (.cons (.int .i64) (.cons (.int .i64) (.cons .str (.cons (.int .i64) (.cons (.int .i64) (.cons .str .nil))))))) false))],[]⟩,⟨[(5, .one (.int .i64))],[]⟩⟩)] [] [] []
def adH (a:kQ) (b:kQ) (K:eG→Prop):Prop:=
 bif (↑a.length:Int) !=(↑b.length:Int) then K (false,())
 else
 let s0:=((a,b,()),());
  ∃ (I:bM→Prop),
  ∃ (μ:bM→Nat),
  I (((0:Int),()),())∧
  ∀ (y1:bM),
  I y1→
  bif decide (y1.1.1<(↑a.length:Int)) then
  ((0:Int)≤y1.1.1∧y1.1.1<(↑a.length:Int))∧
  ((0:Int)≤y1.1.1∧y1.1.1<(↑b.length:Int))∧
  bif
  !((a.getD (Int.toNat y1.1.1) ((0:Int),(0:Int),(0:Int),[],(0:Int),(0:Int),[],())).1==
  (b.getD (Int.toNat y1.1.1) ((0:Int),(0:Int),(0:Int),[],(0:Int),(0:Int),[],())).1&&
  ((a.getD (Int.toNat y1.1.1) ((0:Int),(0:Int),(0:Int),[],(0:Int),(0:Int),[],())).2.1==
  (b.getD (Int.toNat y1.1.1) ((0:Int),(0:Int),(0:Int),[],(0:Int),(0:Int),[],())).2.1&&
  ((a.getD (Int.toNat y1.1.1) ((0:Int),(0:Int),(0:Int),[],(0:Int),(0:Int),[],())).2.2.1==
  (b.getD (Int.toNat y1.1.1) ((0:Int),(0:Int),(0:Int),[],(0:Int),(0:Int),[],())).2.2.1&&
  ((a.getD (Int.toNat y1.1.1) ((0:Int),(0:Int),(0:Int),[],(0:Int),(0:Int),[],())).2.2.2.1==
  (b.getD (Int.toNat y1.1.1) ((0:Int),(0:Int),(0:Int),[],(0:Int),(0:Int),[],())).2.2.2.1&&
  ((a.getD (Int.toNat y1.1.1) ((0:Int),(0:Int),(0:Int),[],(0:Int),(0:Int),[],())).2.2.2.2.1==
  (b.getD (Int.toNat y1.1.1) ((0:Int),(0:Int),(0:Int),[],(0:Int),(0:Int),[],())).2.2.2.2.1&&
  ((a.getD (Int.toNat y1.1.1) ((0:Int),(0:Int),(0:Int),[],(0:Int),(0:Int),[],())).2.2.2.2.2.1==
  (b.getD (Int.toNat y1.1.1) ((0:Int),(0:Int),(0:Int),[],(0:Int),(0:Int),[],())).2.2.2.2.2.1&&
  ((a.getD (Int.toNat y1.1.1) ((0:Int),(0:Int),(0:Int),[],(0:Int),(0:Int),[],())).2.2.2.2.2.2.1==
  (b.getD (Int.toNat y1.1.1) ((0:Int),(0:Int),(0:Int),[],(0:Int),(0:Int),[],())).2.2.2.2.2.2.1&&
  true))))))) then
  K (false,())
  else s0=s0∧I ((i64.wrap (y1.1.1+(1:Int)),()),())∧μ ((i64.wrap (y1.1.1+(1:Int)),()),())<μ y1
  else K (true,())
theorem adp (env:EnvB prog G Θ aew) (h:∀ (a:kQ) (b:kQ),bP Gm (a,b,())→(True)→adH a b fun r=>r=((decide (a=b),()))):aG prog G yD zC:=
 aZ env mixed (fn:=f147) (c:=codeOf f147) (by kernel_rfl) (by kernel_rfl) afU (by kernel_rfl) fun ⟨a,b,⟨⟩⟩ hin hp=>
 Eq.mpr (by kernel_rfl) (h a b hin hp)
def akj:Hints:=Go.Fw.hints [] [] [] [] []
def aiu (a0:eX) (a1:kQ) (b0:eX) (b1:kQ) (K:eG→Prop):Prop:=
 bif a0==b0 then
 True∧
 let r0:=decide (a1=b1);
  K (r0,())
  else K (false,())
theorem ahH (env:EnvB prog G Θ aiV) (h:∀ (a0:eX) (a1:kQ) (b0:eX) (b1:kQ),bP JI ((a0,a1,()),(b0,b1,()),())→(True)→aiu a0 a1 b0 b1 fun r=>r=((decide ((a0,a1,())=(b0,b1,())),()))):aG prog G Bz Di:=
 aZ env mixed (fn:=f95) (c:=codeOf f95) (by kernel_rfl) (by kernel_rfl) akj (by kernel_rfl) fun ⟨⟨a0,a1,⟨⟩⟩,⟨b0,b1,⟨⟩⟩,⟨⟩⟩ hin hp=>
 Eq.mpr (by kernel_rfl) (h a0 a1 b0 b1 hin hp)
def aiv:Hints:=Go.Fw.hints [] [(4,⟨[],⟨[(0, .one (.sl 124 (.cons .str (.cons (.sl 167 (.cons (.int .i64) (.cons (.int .i64) (.cons (.int .i64) (.cons .str (.cons (.int .i64) (.cons (.int .i64) (.cons .str .nil)))))))) .nil)) false)),(1, .one (.sl 124 (.cons .str (.cons (.sl 167 (.cons (.int .i64) (.cons (.int .i64) (.cons (.int .i64) (.cons .str (.cons (.int .i64) (.cons (.int .i64) (.cons .str .nil)))))))) .nil)) false))],[]⟩,⟨[(5, .one (.int .i64))],[]⟩⟩)] [] [] []
def afV (a:jQ) (b:jQ) (K:eG→Prop):Prop:=
 bif (↑a.length:Int) !=(↑b.length:Int) then K (false,())
 else
 let s0:=((a,b,()),());
  ∃ (I:bM→Prop),
  ∃ (μ:bM→Nat),
  I (((0:Int),()),())∧
  ∀ (y1:bM),
  I y1→
  bif decide (y1.1.1<(↑a.length:Int)) then
  ((0:Int)≤y1.1.1∧y1.1.1<(↑a.length:Int))∧
  ((0:Int)≤y1.1.1∧y1.1.1<(↑b.length:Int))∧
  True∧
 let r2:=
  decide
  (((a.getD (Int.toNat y1.1.1) ([],[],())).1,(a.getD (Int.toNat y1.1.1) ([],[],())).2.1,())=
  ((b.getD (Int.toNat y1.1.1) ([],[],())).1,(b.getD (Int.toNat y1.1.1) ([],[],())).2.1,()));
  bif !r2 then K (false,())
  else s0=s0∧I ((i64.wrap (y1.1.1+(1:Int)),()),())∧μ ((i64.wrap (y1.1.1+(1:Int)),()),())<μ y1
  else K (true,())
theorem afm (env:EnvB prog G Θ ags) (h:∀ (a:jQ) (b:jQ),bP Hz (a,b,())→(True)→afV a b fun r=>r=((decide (a=b),()))):aG prog G zN AU:=
 aZ env mixed (fn:=f53) (c:=codeOf f53) (by kernel_rfl) (by kernel_rfl) aiv (by kernel_rfl) fun ⟨a,b,⟨⟩⟩ hin hp=>
 Eq.mpr (by kernel_rfl) (h a b hin hp)
def aaf:Hints:=Go.Fw.hints [] [] [] [] []
def Yr (a0:fQ) (a1:ja) (a2:Int) (a3:jQ) (b0:fQ) (b1:ja) (b2:Int) (b3:jQ) (K:eG→Prop):Prop:=
 True∧
 let r0:=decide ((a0,a1,a2,())=(b0,b1,b2,()));
  bif r0 then
  True∧
 let r1:=decide (a3=b3);
  K (r1,())
  else K (false,())
theorem XF (env:EnvB prog G Θ Y9) (h:∀ (a0:fQ) (a1:ja) (a2:Int) (a3:jQ) (b0:fQ) (b1:ja) (b2:Int) (b3:jQ),bP Dj ((a0,a1,a2,a3,()),(b0,b1,b2,b3,()),())→(True)→Yr a0 a1 a2 a3 b0 b1 b2 b3 fun r=>r=((decide ((a0,a1,a2,a3,())=(b0,b1,b2,b3,())),()))):aG prog G kW lM:=
 aZ env mixed (fn:=f15) (c:=codeOf f15) (by kernel_rfl) (by kernel_rfl) aaf (by kernel_rfl) fun ⟨⟨a0,a1,a2,a3,⟨⟩⟩,⟨b0,b1,b2,b3,⟨⟩⟩,⟨⟩⟩ hin hp=>
 Eq.mpr (by kernel_rfl) (h a0 a1 a2 a3 b0 b1 b2 b3 hin hp)
def acj:Hints:=Go.Fw.hints [] [] [] [] []
def aag (a0:Int) (a1:fQ) (a2:ja) (a3:Int) (a4:jQ) (a5:Int) (b0:Int) (b1:fQ) (b2:ja) (b3:Int) (b4:jQ) (b5:Int) (K:eG→Prop):Prop:=
 bif a0==b0 then
 True∧
 let r0:=decide ((a1,a2,a3,a4,())=(b1,b2,b3,b4,()));
  bif r0 then K (a5==b5,()) else K (false,())
  else K (false,())
theorem ZB (env:EnvB prog G Θ aaF) (h:∀ (a0:Int) (a1:fQ) (a2:ja) (a3:Int) (a4:jQ) (a5:Int) (b0:Int) (b1:fQ) (b2:ja) (b3:Int) (b4:jQ) (b5:Int),bP Ey ((a0,a1,a2,a3,a4,a5,()),(b0,b1,b2,b3,b4,b5,()),())→(True)→aag a0 a1 a2 a3 a4 a5 b0 b1 b2 b3 b4 b5 fun r=>r=((decide ((a0,a1,a2,a3,a4,a5,())=(b0,b1,b2,b3,b4,b5,())),()))):aG prog G uK wY:=
 aZ env mixed (fn:=f51) (c:=codeOf f51) (by kernel_rfl) (by kernel_rfl) acj (by kernel_rfl) fun ⟨⟨a0,a1,a2,a3,a4,a5,⟨⟩⟩,⟨b0,b1,b2,b3,b4,b5,⟨⟩⟩,⟨⟩⟩ hin hp=>
 Eq.mpr (by kernel_rfl) (h a0 a1 a2 a3 a4 a5 b0 b1 b2 b3 b4 b5 hin hp)
def aah:Hints:=Go.Fw.hints [] [(4,⟨[],⟨[(0, .one (.sl 78 (.cons (.int .i64) (.cons (.sl 155 (.cons .str (.cons (.int .i64) .nil))) (.cons (.sl 56 (.cons (.int .i64) (.cons (.int .i64) (.cons .bool (.cons (.int .i64) (.cons (.sl 94 (.cons .str (.cons (.int .i64) (.cons (.int .i64) (.cons .str .nil))))) .nil)))))) (.cons (.int .i64) (.cons (.sl 124 (.cons .str (.cons (.sl 167 (.cons (.int .i64) (.cons (.int .i64) (.cons (.int .i64) (.cons .str (.cons (.int .i64) (.cons (.int .i64) (.cons .str .nil)))))))) .nil))) (.cons (.int .i64) .nil)))))) false)),(1, .one (.sl 78 (.cons (.int .i64) (.cons (.sl 155 (.cons .str (.cons (.int .i64) .nil))) (.cons (.sl 56 (.cons (.int .i64) (.cons (.int .i64) (.cons .bool (.cons (.int .i64) (.cons (.sl 94 (.cons .str (.cons (.int .i64) (.cons (.int .i64) (.cons .str .nil))))) .nil)))))) (.cons (.int .i64) (.cons (.sl 124 (.cons .str (.cons (.sl 167 (.cons (.int .i64) (.cons (.int .i64) (.cons (.int .i64) (.cons .str (.cons (.int .i64) (.cons (.int .i64) (.cons .str .nil)))))))) .nil))) (.cons (.int .i64) .nil)))))) false))],[]⟩,⟨[(5, .one (.int .i64))],[]⟩⟩)] [] [] []
def Yt (a:uT) (b:uT) (K:eG→Prop):Prop:=
 bif (↑a.length:Int) !=(↑b.length:Int) then K (false,())
 else
 let s0:=((a,b,()),());
  ∃ (I:bM→Prop),
  ∃ (μ:bM→Nat),
  I (((0:Int),()),())∧
  ∀ (y1:bM),
  I y1→
  bif decide (y1.1.1<(↑a.length:Int)) then
  ((0:Int)≤y1.1.1∧y1.1.1<(↑a.length:Int))∧
  ((0:Int)≤y1.1.1∧y1.1.1<(↑b.length:Int))∧
  True∧
 let r2:=
  decide
  (((a.getD (Int.toNat y1.1.1) ((0:Int),[],[],(0:Int),[],(0:Int),())).1,
  (a.getD (Int.toNat y1.1.1) ((0:Int),[],[],(0:Int),[],(0:Int),())).2.1,
  (a.getD (Int.toNat y1.1.1) ((0:Int),[],[],(0:Int),[],(0:Int),())).2.2.1,
  (a.getD (Int.toNat y1.1.1) ((0:Int),[],[],(0:Int),[],(0:Int),())).2.2.2.1,
  (a.getD (Int.toNat y1.1.1) ((0:Int),[],[],(0:Int),[],(0:Int),())).2.2.2.2.1,
  (a.getD (Int.toNat y1.1.1) ((0:Int),[],[],(0:Int),[],(0:Int),())).2.2.2.2.2.1,())=
  ((b.getD (Int.toNat y1.1.1) ((0:Int),[],[],(0:Int),[],(0:Int),())).1,
  (b.getD (Int.toNat y1.1.1) ((0:Int),[],[],(0:Int),[],(0:Int),())).2.1,
  (b.getD (Int.toNat y1.1.1) ((0:Int),[],[],(0:Int),[],(0:Int),())).2.2.1,
  (b.getD (Int.toNat y1.1.1) ((0:Int),[],[],(0:Int),[],(0:Int),())).2.2.2.1,
  (b.getD (Int.toNat y1.1.1) ((0:Int),[],[],(0:Int),[],(0:Int),())).2.2.2.2.1,
  (b.getD (Int.toNat y1.1.1) ((0:Int),[],[],(0:Int),[],(0:Int),())).2.2.2.2.2.1,()));
  bif !r2 then K (false,())
  else s0=s0∧I ((i64.wrap (y1.1.1+(1:Int)),()),())∧μ ((i64.wrap (y1.1.1+(1:Int)),()),())<μ y1
  else K (true,())
theorem XG (env:EnvB prog G Θ Za) (h:∀ (a:uT) (b:uT),bP Dk (a,b,())→(True)→Yt a b fun r=>r=((decide (a=b),()))):aG prog G sJ vN:=
 aZ env mixed (fn:=f14) (c:=codeOf f14) (by kernel_rfl) (by kernel_rfl) aah (by kernel_rfl) fun ⟨a,b,⟨⟩⟩ hin hp=>
 Eq.mpr (by kernel_rfl) (h a b hin hp)
def Wh:Hints:=Go.Fw.hints [] [] [(11,⟨[],⟨[(3, .one (.sl 78 (.cons (.int .i64) (.cons (.sl 155 (.cons .str (.cons (.int .i64) .nil))) (.cons (.sl 56 (.cons (.int .i64) (.cons (.int .i64) (.cons .bool (.cons (.int .i64) (.cons (.sl 94 (.cons .str (.cons (.int .i64) (.cons (.int .i64) (.cons .str .nil))))) .nil)))))) (.cons (.int .i64) (.cons (.sl 124 (.cons .str (.cons (.sl 167 (.cons (.int .i64) (.cons (.int .i64) (.cons (.int .i64) (.cons .str (.cons (.int .i64) (.cons (.int .i64) (.cons .str .nil)))))))) .nil))) (.cons (.int .i64) .nil)))))) false)),(4, .one (.int .i64)),(5, .dw 320 0),(6, .one (.sl 78 (.cons (.int .i64) (.cons (.sl 155 (.cons .str (.cons (.int .i64) .nil))) (.cons (.sl 56 (.cons (.int .i64) (.cons (.int .i64) (.cons .bool (.cons (.int .i64) (.cons (.sl 94 (.cons .str (.cons (.int .i64) (.cons (.int .i64) (.cons .str .nil))))) .nil)))))) (.cons (.int .i64) (.cons (.sl 124 (.cons .str (.cons (.sl 167 (.cons (.int .i64) (.cons (.int .i64) (.cons (.int .i64) (.cons .str (.cons (.int .i64) (.cons (.int .i64) (.cons .str .nil)))))))) .nil))) (.cons (.int .i64) .nil)))))) false)),(7, .one (.bool))],[(320, .var [.sl 155 (.cons .str (.cons (.int .i64) .nil)) false, .sl 56 (.cons (.int .i64) (.cons (.int .i64) (.cons .bool (.cons (.int .i64) (.cons (.sl 94 (.cons .str (.cons (.int .i64) (.cons (.int .i64) (.cons .str .nil))))) .nil))))) false, .int .i64, .sl 124 (.cons .str (.cons (.sl 167 (.cons (.int .i64) (.cons (.int .i64) (.cons (.int .i64) (.cons .str (.cons (.int .i64) (.cons (.int .i64) (.cons .str .nil)))))))) .nil)) false])]⟩,⟨[],[]⟩⟩)] [] []
def UO (code:dH) (K:eG→Prop):Prop:=
 True∧
 let r0:=decide ((1048576:Int)<(↑code.length:Int));
  bif r0 then K (true,())
  else
  code.length≤(1048576:Nat)∧
  ∀
  (r1:
  ao8),
  r1.1.1.length≤(10:Nat)∧Sp.bn r1.1.1∧Sp.eF (r1.1.2.2.1.1,r1.1.2.2.1.2.1,r1.1.2.2.1.2.2.1,r1.1.2.2.1.2.2.2.1,())→
  (Sp.bn r1.1.1∧
  List.length r1.1.1≤(100:Nat)∧
  Sp.eF (r1.1.2.2.1.1,r1.1.2.2.1.2.1,r1.1.2.2.1.2.2.1,r1.1.2.2.1.2.2.2.1,()))∧
  ∀
  (r2:
  LX),
  r2.1.1=
  (Sp.fM r1.1.1 r1.1.2.1
  (r1.1.2.2.1.1,r1.1.2.2.1.2.1,r1.1.2.2.1.2.2.1,r1.1.2.2.1.2.2.2.1,())).1∧
  r2.1.2.1=
  (Sp.fM r1.1.1 r1.1.2.1
  (r1.1.2.2.1.1,r1.1.2.2.1.2.1,r1.1.2.2.1.2.2.1,r1.1.2.2.1.2.2.2.1,())).2→
  (Sp.bn r1.1.1∧
  List.length r1.1.1≤(100:Nat)∧
  Sp.eF (r1.1.2.2.1.1,r1.1.2.2.1.2.1,r1.1.2.2.1.2.2.1,r1.1.2.2.1.2.2.2.1,()))∧
  ∀
  (r3:
  LX),
  r3.1.1=
  (Sp.fM r1.1.1 r1.1.2.1
  (r1.1.2.2.1.1,r1.1.2.2.1.2.1,r1.1.2.2.1.2.2.1,r1.1.2.2.1.2.2.2.1,())).1∧
  r3.1.2.1=
  (Sp.fM r1.1.1 r1.1.2.1
  (r1.1.2.2.1.1,r1.1.2.2.1.2.1,r1.1.2.2.1.2.2.1,r1.1.2.2.1.2.2.2.1,())).2→
  code.length≤(1048576:Nat)∧
  ∀
  (r4:
  (uT×iY)×Unit),
  r4.1.1.length≤(10:Nat)∧Sp.bn r4.1.1→
  Sp.bn r4.1.1∧
  ∀
  (r5:
  XY),
  (r5.1.1.1,r5.1.1.2.1,r5.1.1.2.2.1,r5.1.1.2.2.2.1,())=(Sp.iq r4.1.1 r4.1.2.1).1∧
  r5.1.2.1=(Sp.iq r4.1.1 r4.1.2.1).2→
  Sp.bn r4.1.1∧
  ∀
  (r6:
  XY),
  (r6.1.1.1,r6.1.1.2.1,r6.1.1.2.2.1,r6.1.1.2.2.2.1,())=(Sp.iq r4.1.1 r4.1.2.1).1∧
  r6.1.2.1=(Sp.iq r4.1.1 r4.1.2.1).2→
 let s7:=
  ((r1.1.1,r1.1.2.1,(),r2.1.1,r2.1.2.1,()),
  (r1.1.2.2.1.1,r1.1.2.2.1.2.1,r1.1.2.2.1.2.2.1,r1.1.2.2.1.2.2.2.1,()),());
  ∃ (J:Unit×Unit→Prop),
  (bif !r2.1.2.1==r3.1.2.1 then K (false,())
  else
  True∧
 let r8:=decide (r2.1.1=r3.1.1);
  bif !r8 then K (false,())
  else
  bif !r5.1.2.1==r6.1.2.1 then K (false,())
  else
  True∧
 let r9:=
  decide
  ((r5.1.1.1,r5.1.1.2.1,r5.1.1.2.2.1,r5.1.1.2.2.2.1,())=
  (r6.1.1.1,r6.1.1.2.1,r6.1.1.2.2.1,r6.1.1.2.2.2.1,()));
  bif !r9 then K (false,()) else s7=s7∧J ((),()))∧
  ∀ (y10:Unit×Unit),
  J y10→
  Sp.bn r2.1.1∧
  ∀
  (r11:
  XY),
  (r11.1.1.1,r11.1.1.2.1,r11.1.1.2.2.1,r11.1.1.2.2.2.1,())=(Sp.iq r2.1.1 r1.1.2.1).1∧
  r11.1.2.1=(Sp.iq r2.1.1 r1.1.2.1).2→
  bif !r2.1.2.1 then K (true,())
  else
  bif r11.1.2.1 then
  True∧
 let r12:=
  decide
  ((r11.1.1.1,r11.1.1.2.1,r11.1.1.2.2.1,r11.1.1.2.2.2.1,())=
  (r1.1.2.2.1.1,r1.1.2.2.1.2.1,r1.1.2.2.1.2.2.1,
  r1.1.2.2.1.2.2.2.1,()));
  bif r12 then
  bif (↑(List.length r2.1.1):Int)==i64.wrap ((↑(List.length r1.1.1):Int)+(1:Int)) then
  Sp.bn r2.1.1∧
 let r13:=Sp.fO r2.1.1;
  K (r13,())
  else K (false,())
  else K (false,())
  else K (false,())
theorem UD (env:EnvB prog G Θ UX) (h:∀ (code:dH),bP Ah (code,())→(True)→UO code fun r=>r=((true,()))):aG prog G I4 FW:=
 aZ env mixed (fn:=f3) (c:=codeOf f3) (by kernel_rfl) (by kernel_rfl) Wh (by kernel_rfl) fun ⟨code,⟨⟩⟩ hin hp=>
 Eq.mpr (by kernel_rfl) (h code hin hp)
end Go.Proofs.Tryz

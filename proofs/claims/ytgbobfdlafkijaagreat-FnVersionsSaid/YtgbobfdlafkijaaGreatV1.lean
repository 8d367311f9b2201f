import Derived.Test.YtgbobfdlafkijaaGreatF
namespace Go.Proofs.Tryz
open Go Go.Fw
set_option maxRecDepth 100000
open Go.IntKind (i64)
abbrev fK:=List UInt8
abbrev jT:=Int×Unit
abbrev fC:=List (fK×jT)
abbrev NZ:=fK×Unit
abbrev Ty1:=fK×Int×Int×NZ
abbrev oq:=List Ty1
abbrev asB:=Int×Int×Bool×Int×oq×Unit
abbrev iw:=List asB
abbrev kG:=List (Int×Int×Int×Ty1)
abbrev jf:=List (fK×kG×Unit)
abbrev kJ:=List (Int×fC×iw×Int×jf×jT)
abbrev dB:=List jT
abbrev BD:=dB×Int×jT
abbrev jm:=BD×Unit
abbrev fG:=Bool×Unit
abbrev Gh:=asB×Unit
abbrev Gi:=jf×Unit
abbrev Tf:=(fC×iw×Int×Gi)×Unit
abbrev bG:=jT×Unit
abbrev av1:=Int×Int×Bool×Int×Unit×Unit
abbrev agR:=Unit×BD×av1×oq×Unit
abbrev tX:=kJ×Unit
abbrev ou:=tX×Unit
abbrev yw:=(List NZ×Unit)×Unit
abbrev QJ:=(fC×iw×jT)×Unit
abbrev tY:=(kJ×fG)×Unit
abbrev gB:=jT×jm
abbrev Di:=(kG×Unit)×jm
abbrev agS:=((fC×iw×Int×Gi)×fG)×Unit
abbrev Zk:=(Int×Int×Int×Ty1)×Unit
abbrev acE:=((Int×Int×NZ)×Unit)×jm
abbrev qL:=Unit×jT
abbrev QK:=(kJ×jT)×Unit
abbrev Ti:=(Int×jT)×Unit
abbrev asC:=((fC×iw×jT)×Int×fG)×Unit
abbrev wH:=NZ×jm
abbrev Gj:=dB×Unit
abbrev agT:=(dB×fG)×Unit
abbrev PG:=QJ×Unit
abbrev aoS:=jT×List fG×Unit
abbrev auE:=((fC×iw×jT)×fG)×Unit
abbrev av2:=jT×BD×(Unit×qL)×fC×iw×Unit
abbrev Tj:=Tf×Unit
abbrev QL:=Gi×jm
abbrev auF:=(kJ×Int×Tf)×Unit
def aqJ:Hints:=Go.Fw.hints [31] [(3,⟨[],⟨[(0, .one (.sl 5 (.cons (.int .u8) .nil) false))],[]⟩,⟨[(3, .one (.int .i64)),(4, .one (.int .i64))],[]⟩⟩)] [] [] []
def aoT (code:dB) (K:BD→Prop):Prop:=
 let s0:=((code,()),());
  ∃ (I:Ti→Prop),
  ∃ (μ:Ti→Nat),
  I ((i64.wrap ((94701:Int)+(↑code.length:Int)),(0:Int),()),())∧
  ∀ (y1:Ti),
  I y1→
  bif decide (y1.1.2.1<(↑code.length:Int)) then
  bif decide (y1.1.2.1<(4000:Int)) then
  ((0:Int)≤y1.1.2.1∧y1.1.2.1<(↑code.length:Int))∧
  s0=s0∧
  I
  ((bitsOf BinOp.and IntKind.i64
  (i64.wrap
  (i64.wrap (i64.wrap (y1.1.1*(131:Int))+i64.wrap (code.getD (Int.toNat y1.1.2.1) ((0:Int),())).1)+
  (7:Int)))
  (1073741823:Int),
  i64.wrap (y1.1.2.1+(1:Int)),()),
  ())∧
  μ
  ((bitsOf BinOp.and IntKind.i64
  (i64.wrap
  (i64.wrap (i64.wrap (y1.1.1*(131:Int))+i64.wrap (code.getD (Int.toNat y1.1.2.1) ((0:Int),())).1)+
  (7:Int)))
  (1073741823:Int),
  i64.wrap (y1.1.2.1+(1:Int)),()),
  ())<
  μ y1
  else K (code,(0:Int),y1.1.1,())
  else K (code,(0:Int),y1.1.1,())
theorem aop (env:EnvB prog G Θ aqc) (hne:∀ x,(RU x).1→∃ t,(RU x).2 t) (h:∀ (code:dB),dh lg (code,())→(code.length≤(1048576:Nat))→aoT code fun (r:BD)=>(code.length≤(1048576:Nat),fun (x:BD)=>x.2.1=(0:Int)).2 r):aC prog G mJ lM:=
 awz env mixed (fn:=f40) (c:=codeOf f40) (by kernel_rfl) (by kernel_rfl) aqJ (by kernel_rfl) hne fun ⟨code,⟨⟩⟩ hin hp=>
 Eq.mpr (by kernel_rfl) (h code hin hp)
def aoU:Hints:=Go.Fw.hints [] [] [] [] []
def am0 (c0:dB) (c1:Int) (c2:Int) (K:gB→Prop):Prop:=
 (0:Int)≤(33:Int)∧
 (0:Int)≤(45:Int)∧
 bif decide (c1<(↑c0.length:Int)) then
 ((0:Int)≤c1∧c1<(↑c0.length:Int))∧
 K
 ((bitsOf BinOp.and IntKind.i64
 (i64.wrap
 (bitsOf BinOp.and IntKind.i64
 (bitsOf BinOp.xor IntKind.i64
 ((i64.wrap (i64.wrap (c2*(6364136223846793005:Int))+(1442695040888963407:Int))).fdiv
 ((2:Int) ^ min (Int.toNat (33:Int)) IntKind.i64.bits))
 ((i64.wrap (i64.wrap (c2*(6364136223846793005:Int))+(1442695040888963407:Int))).fdiv
 ((2:Int) ^ min (Int.toNat (45:Int)) IntKind.i64.bits)))
 (255:Int)+
 i64.wrap (c0.getD c1.toNat ((0:Int),())).1))
 (255:Int),
 ()),
 (c0,i64.wrap (c1+(1:Int)),i64.wrap (i64.wrap (c2*(6364136223846793005:Int))+(1442695040888963407:Int)),()),())
 else
 K
 ((bitsOf BinOp.and IntKind.i64
 (bitsOf BinOp.xor IntKind.i64
 ((i64.wrap (i64.wrap (c2*(6364136223846793005:Int))+(1442695040888963407:Int))).fdiv
 ((2:Int) ^ min (Int.toNat (33:Int)) IntKind.i64.bits))
 ((i64.wrap (i64.wrap (c2*(6364136223846793005:Int))+(1442695040888963407:Int))).fdiv
 ((2:Int) ^ min (Int.toNat (45:Int)) IntKind.i64.bits)))
 (255:Int),
 ()),
 (c0,c1,i64.wrap (i64.wrap (c2*(6364136223846793005:Int))+(1442695040888963407:Int)),()),())
theorem amh (env:EnvB prog G Θ anL) (hne:∀ x,(Qj x).1→∃ t,(Qj x).2 t) (h:∀ (c0:dB) (c1:Int) (c2:Int),dh zx ((c0,c1,c2,()),())→((0:Int)≤c1)→am0 c0 c1 c2 fun (r:gB)=>((0:Int)≤c1,fun (x:gB)=>(0:Int)≤x.2.1.2.1∧(0:Int)≤x.1.1∧x.1.1≤(255:Int)).2 r):aC prog G FD Gx:=
 bI env mixed (fn:=f105) (c:=codeOf f105) (by kernel_rfl) (by kernel_rfl) aoU (by kernel_rfl) hne fun ⟨⟨c0,c1,c2,⟨⟩⟩,⟨⟩⟩ hin hp=>
 Eq.mpr (by kernel_rfl) (h c0 c1 c2 hin hp)
def am1:Hints:=Go.Fw.hints [] [] [] [] []
def akB (c0:dB) (c1:Int) (c2:Int) (n:Int) (K:gB→Prop):Prop:=
 bif decide (n≤(0:Int)) then K (((0:Int),()),(c0,c1,c2,()),())
 else
 bif decide (n≤(256:Int)) then
 (0:Int)≤c1∧
 ∀ (r0:gB),
 (0:Int)≤r0.2.1.2.1∧(0:Int)≤r0.1.1∧r0.1.1≤(255:Int)→
 n≠(0:Int)∧K ((Int.tmod r0.1.1 n,()),(r0.2.1.1,r0.2.1.2.1,r0.2.1.2.2.1,()),())
 else
 (0:Int)≤c1∧
 ∀ (r1:gB),
 (0:Int)≤r1.2.1.2.1∧(0:Int)≤r1.1.1∧r1.1.1≤(255:Int)→
 (0:Int)≤r1.2.1.2.1∧
 ∀ (r2:gB),
 (0:Int)≤r2.2.1.2.1∧(0:Int)≤r2.1.1∧r2.1.1≤(255:Int)→
 (0:Int)≤r2.2.1.2.1∧
 ∀ (r3:gB),
 (0:Int)≤r3.2.1.2.1∧(0:Int)≤r3.1.1∧r3.1.1≤(255:Int)→
 (0:Int)≤r3.2.1.2.1∧
 ∀ (r4:gB),
 (0:Int)≤r4.2.1.2.1∧(0:Int)≤r4.1.1∧r4.1.1≤(255:Int)→
 n≠(0:Int)∧
 K
 (((i64.wrap
 (i64.wrap
 (i64.wrap (i64.wrap (r1.1.1*(16777216:Int))+i64.wrap (r2.1.1*(65536:Int)))+
 i64.wrap (r3.1.1*(256:Int)))+
 r4.1.1)).tmod
 n,
 ()),
 (r4.2.1.1,r4.2.1.2.1,r4.2.1.2.2.1,()),())
theorem aj3 (env:EnvB prog G Θ ale) (hne:∀ x,(N7 x).1→∃ t,(N7 x).2 t) (h:∀ (c0:dB) (c1:Int) (c2:Int) (n:Int),dh aQ ((c0,c1,c2,()),n,())→((0:Int)≤c1)→akB c0 c1 c2 n fun (r:gB)=>((0:Int)≤c1,fun (x:gB)=>
 (0:Int)≤x.2.1.2.1∧(0:Int)≤x.1.1∧((0:Int)<n→x.1.1<n)∧(n≤(0:Int)→x.1.1=(0:Int))).2
 r):aC prog G aU aP:=
 bI env mixed (fn:=f66) (c:=codeOf f66) (by kernel_rfl) (by kernel_rfl) am1 (by kernel_rfl) hne fun ⟨⟨c0,c1,c2,⟨⟩⟩,n,⟨⟩⟩ hin hp=>
 Eq.mpr (by kernel_rfl) (h c0 c1 c2 n hin hp)
def aoV:Hints:=Go.Fw.hints [] [] [] [] []
def am2 (c0:dB) (c1:Int) (c2:Int) (n:Int) (K:fG×jm→Prop):Prop:=
 (0:Int)≤c1∧
 ∀ (r0:gB),
 (0:Int)≤r0.2.1.2.1∧(0:Int)≤r0.1.1∧((0:Int)<n→r0.1.1<n)∧(n≤(0:Int)→r0.1.1=(0:Int))→
 K ((r0.1.1==(0:Int),()),(r0.2.1.1,r0.2.1.2.1,r0.2.1.2.2.1,()),())
theorem ami (env:EnvB prog G Θ anM) (hne:∀ x,(Qk x).1→∃ t,(Qk x).2 t) (h:∀ (c0:dB) (c1:Int) (c2:Int) (n:Int),dh iP ((c0,c1,c2,()),n,())→((0:Int)≤c1)→am2 c0 c1 c2 n fun (r:fG×jm)=>((0:Int)≤c1,fun (x:fG×jm)=>(x.2.1.2.1-(0:Int)).NonNeg).2 r):aC prog G jU jw:=
 bI env mixed (fn:=f59) (c:=codeOf f59) (by kernel_rfl) (by kernel_rfl) aoV (by kernel_rfl) hne fun ⟨⟨c0,c1,c2,⟨⟩⟩,n,⟨⟩⟩ hin hp=>
 Eq.mpr (by kernel_rfl) (h c0 c1 c2 n hin hp)
def aoW:Hints:=Go.Fw.hints [] [] [] [] []
def am3 (c0:dB) (c1:Int) (c2:Int) (list:List NZ) (K:wH→Prop):Prop:=
 (0:Int)≤c1∧
 ∀ (r0:gB),
 (0:Int)≤r0.2.1.2.1∧
 (0:Int)≤r0.1.1∧((0:Int)<(↑list.length:Int)→r0.1.1<(↑list.length:Int))∧((↑list.length:Int)≤(0:Int)→r0.1.1=(0:Int))→
 ((0:Int)≤r0.1.1∧r0.1.1<(↑list.length:Int))∧
 K (((list.getD (Int.toNat r0.1.1) ([],())).1,()),(r0.2.1.1,r0.2.1.2.1,r0.2.1.2.2.1,()),())
theorem amj (env:EnvB prog G Θ anN) (hne:∀ x,(Ql x).1→∃ t,(Ql x).2 t) (h:∀ (c0:dB) (c1:Int) (c2:Int) (list:List NZ),dh dG ((c0,c1,c2,()),list,())→((0:Int)≤c1∧list≠[])→am3 c0 c1 c2 list fun (r:wH)=>((0:Int)≤c1∧list≠[],fun (x:wH)=>(0:Int)≤x.2.1.2.1∧(x.1.1,())∈list).2 r):aC prog G eP dN:=
 bI env mixed (fn:=f140) (c:=codeOf f140) (by kernel_rfl) (by kernel_rfl) aoW (by kernel_rfl) hne fun ⟨⟨c0,c1,c2,⟨⟩⟩,list,⟨⟩⟩ hin hp=>
 Eq.mpr (by kernel_rfl) (h c0 c1 c2 list hin hp)
def aiq:Hints:=Go.Fw.hints [] [] [] [] []
def agU (c0:dB) (c1:Int) (c2:Int) (list:dB) (K:gB→Prop):Prop:=
 (0:Int)≤c1∧
 ∀ (r0:gB),
 (0:Int)≤r0.2.1.2.1∧
 (0:Int)≤r0.1.1∧((0:Int)<(↑list.length:Int)→r0.1.1<(↑list.length:Int))∧((↑list.length:Int)≤(0:Int)→r0.1.1=(0:Int))→
 ((0:Int)≤r0.1.1∧r0.1.1<(↑list.length:Int))∧
 K (((list.getD (Int.toNat r0.1.1) ((0:Int),())).1,()),(r0.2.1.1,r0.2.1.2.1,r0.2.1.2.2.1,()),())
theorem agn (env:EnvB prog G Θ ahG) (hne:∀ x,(KC x).1→∃ t,(KC x).2 t) (h:∀ (c0:dB) (c1:Int) (c2:Int) (list:dB),dh dI ((c0,c1,c2,()),list,())→((0:Int)≤c1∧list≠[])→agU c0 c1 c2 list fun (r:gB)=>((0:Int)≤c1∧list≠[],fun (x:gB)=>(0:Int)≤x.2.1.2.1∧(x.1.1,())∈list).2 r):aC prog G eX dX:=
 bI env mixed (fn:=f42) (c:=codeOf f42) (by kernel_rfl) (by kernel_rfl) aiq (by kernel_rfl) hne fun ⟨⟨c0,c1,c2,⟨⟩⟩,list,⟨⟩⟩ hin hp=>
 Eq.mpr (by kernel_rfl) (h c0 c1 c2 list hin hp)
def am4:Hints:=Go.Fw.hints [5] [] [] [] []
def akC (K:(fC×Unit)×Unit→Prop):Prop:=
 K (([([(97:UInt8)],(1:Int),()),([(98:UInt8)],(1:Int),()),([(110:UInt8)],(2:Int),()),([(116:UInt8)],(2:Int),())],()),())
theorem aj6 (env:EnvB prog G Θ alf) (hne:∀ x,(N8 x).1→∃ t,(N8 x).2 t) (h:dh oM (())→(True)→akC fun (r:(fC×Unit)×Unit)=>(True,fun (x:(fC×Unit)×Unit)=>x.1.1=Sp.usual).2 r):aC prog G vC vV:=
 bI env mixed (fn:=f158) (c:=codeOf f158) (by kernel_rfl) (by kernel_rfl) am4 (by kernel_rfl) hne fun ⟨⟩ hin hp=>
 Eq.mpr (by kernel_rfl) (h hin hp)
def aoX:Hints:=Go.Fw.hints [] [] [] [] []
def am5 (c0:dB) (c1:Int) (c2:Int) (K:wH→Prop):Prop:=
 ((0:Int)≤c1∧
 [([(97:UInt8)],()),([(98:UInt8)],()),([(110:UInt8)],()),([(116:UInt8)],()),([(97:UInt8)],()),([(98:UInt8)],()),([(116:UInt8)],()),
 ([(122:UInt8)],()),([(65:UInt8)],()),([],())]≠
 [])∧
 ∀ (r0:wH),
 (0:Int)≤r0.2.1.2.1∧
 (r0.1.1,())∈
 [([(97:UInt8)],()),([(98:UInt8)],()),([(110:UInt8)],()),([(116:UInt8)],()),([(97:UInt8)],()),([(98:UInt8)],()),([(116:UInt8)],()),
 ([(122:UInt8)],()),([(65:UInt8)],()),([],())]→
 K ((r0.1.1,()),(r0.2.1.1,r0.2.1.2.1,r0.2.1.2.2.1,()),())
theorem amk (env:EnvB prog G Θ anO) (hne:∀ x,(Qm x).1→∃ t,(Qm x).2 t) (h:∀ (c0:dB) (c1:Int) (c2:Int),dh qN ((c0,c1,c2,()),())→((0:Int)≤c1)→am5 c0 c1 c2 fun (r:wH)=>((0:Int)≤c1,fun (x:wH)=>(0:Int)≤x.2.1.2.1∧x.1.1.length≤(1:Nat)).2 r):aC prog G xP xB:=
 bI env mixed (fn:=f193) (c:=codeOf f193) (by kernel_rfl) (by kernel_rfl) aoX (by kernel_rfl) hne fun ⟨⟨c0,c1,c2,⟨⟩⟩,⟨⟩⟩ hin hp=>
 Eq.mpr (by kernel_rfl) (h c0 c1 c2 hin hp)
def aqK:Hints:=Go.Fw.hints [4,29] [] [] [] []
def aoY (c0:dB) (c1:Int) (c2:Int) (K:(fC×Unit)×jm→Prop):Prop:=
 True∧
 ∀ (r0:(fC×Unit)×Unit),
 r0.1.1=Sp.usual→
 (0:Int)≤c1∧
 ∀ (r1:gB),
 (0:Int)≤r1.2.1.2.1∧(0:Int)≤r1.1.1∧((0:Int)<(8:Int)→r1.1.1<(8:Int))∧((8:Int)≤(0:Int)→r1.1.1=(0:Int))→
 bif r1.1.1==(0:Int) then
 (0:Int)≤r1.2.1.2.1∧
 ∀ (r2:gB),
 (0:Int)≤r2.2.1.2.1∧(0:Int)≤r2.1.1∧((0:Int)<(4:Int)→r2.1.1<(4:Int))∧((4:Int)≤(0:Int)→r2.1.1=(0:Int))→
 ((0:Int)≤r2.1.1∧r2.1.1≤(↑(List.length r0.1.1):Int))∧
 K ((List.take (Int.toNat r2.1.1) r0.1.1,()),(r2.2.1.1,r2.2.1.2.1,r2.2.1.2.2.1,()),())
 else
 bif r1.1.1==(1:Int) then
 (0:Int)≤r1.2.1.2.1∧
 ∀ (r3:gB),
 (0:Int)≤r3.2.1.2.1∧(0:Int)≤r3.1.1∧((0:Int)<(4:Int)→r3.1.1<(4:Int))∧((4:Int)≤(0:Int)→r3.1.1=(0:Int))→
 (0:Int)≤r3.2.1.2.1∧
 ∀ (r4:gB),
 (0:Int)≤r4.2.1.2.1∧(0:Int)≤r4.1.1∧((0:Int)<(5:Int)→r4.1.1<(5:Int))∧((5:Int)≤(0:Int)→r4.1.1=(0:Int))→
 ((0:Int)≤r3.1.1∧r3.1.1<(↑(List.length r0.1.1):Int))∧
 Int.toNat r3.1.1<List.length r0.1.1∧
 K
 ((List.set r0.1.1 (Int.toNat r3.1.1)
 ((List.getD r0.1.1 (Int.toNat r3.1.1) ([],(0:Int),())).1,i64.wrap (r4.1.1-(1:Int)),()),
 ()),
 (r4.2.1.1,r4.2.1.2.1,r4.2.1.2.2.1,()),())
 else
 bif r1.1.1==(2:Int) then
 (0:Int)≤r1.2.1.2.1∧
 ∀ (r5:gB),
 (0:Int)≤r5.2.1.2.1∧(0:Int)≤r5.1.1∧((0:Int)<(4:Int)→r5.1.1<(4:Int))∧((4:Int)≤(0:Int)→r5.1.1=(0:Int))→
 (0:Int)≤r5.2.1.2.1∧
 ∀ (r6:wH),
 (0:Int)≤r6.2.1.2.1∧r6.1.1.length≤(1:Nat)→
 ((0:Int)≤r5.1.1∧r5.1.1<(↑(List.length r0.1.1):Int))∧
 Int.toNat r5.1.1<List.length r0.1.1∧
 K
 ((List.set r0.1.1 (Int.toNat r5.1.1) (r6.1.1,(List.getD r0.1.1 (Int.toNat r5.1.1) ([],(0:Int),())).2.1,()),()),
 (r6.2.1.1,r6.2.1.2.1,r6.2.1.2.2.1,()),())
 else
 bif r1.1.1==(3:Int) then
 ((0:Int)≤r1.2.1.2.1∧[([(117:UInt8)],()),([(122:UInt8)],()),([(97:UInt8)],())]≠[])∧
 ∀ (r7:wH),
 (0:Int)≤r7.2.1.2.1∧(r7.1.1,())∈[([(117:UInt8)],()),([(122:UInt8)],()),([(97:UInt8)],())]→
 List.length r0.1.1+[(r7.1.1,(1:Int),())].length≤big∧
 K ((r0.1.1++[(r7.1.1,(1:Int),())],()),(r7.2.1.1,r7.2.1.2.1,r7.2.1.2.2.1,()),())
 else
 bif r1.1.1==(4:Int) then
 List.length r0.1.1+[([(117:UInt8)],(1:Int),()),([(118:UInt8)],(2:Int),())].length≤big∧
 K
 ((r0.1.1++[([(117:UInt8)],(1:Int),()),([(118:UInt8)],(2:Int),())],()),
 (r1.2.1.1,r1.2.1.2.1,r1.2.1.2.2.1,()),())
 else K ((r0.1.1,()),(r1.2.1.1,r1.2.1.2.1,r1.2.1.2.2.1,()),())
theorem aor (env:EnvB prog G Θ aqd) (hne:∀ x,(RV x).1→∃ t,(RV x).2 t) (h:∀ (c0:dB) (c1:Int) (c2:Int),dh BJ ((c0,c1,c2,()),())→((0:Int)≤c1)→aoY c0 c1 c2 fun (r:(fC×Unit)×jm)=>((0:Int)≤c1,fun (x:(fC×Unit)×jm)=>(0:Int)≤x.2.1.2.1∧x.1.1.length≤(6:Nat)).2 r):aC prog G Ic Je:=
 bI env mixed (fn:=f136) (c:=codeOf f136) (by kernel_rfl) (by kernel_rfl) aqK (by kernel_rfl) hne fun ⟨⟨c0,c1,c2,⟨⟩⟩,⟨⟩⟩ hin hp=>
 Eq.mpr (by kernel_rfl) (h c0 c1 c2 hin hp)
def am6:Hints:=Go.Fw.hints [] [] [] [] []
def akD (c0:dB) (c1:Int) (c2:Int) (K:acE→Prop):Prop:=
 (0:Int)≤c1∧
 ∀ (r0:gB),
 (0:Int)≤r0.2.1.2.1∧(0:Int)≤r0.1.1∧((0:Int)<(5:Int)→r0.1.1<(5:Int))∧((5:Int)≤(0:Int)→r0.1.1=(0:Int))→
 bif r0.1.1==(0:Int) then K ((((0:Int),(0:Int),[],()),()),(r0.2.1.1,r0.2.1.2.1,r0.2.1.2.2.1,()),())
 else
 bif r0.1.1==(1:Int) then
 bif r0.1.1==(1:Int) then
 (0:Int)≤r0.2.1.2.1∧
 ∀ (r1:gB),
 (0:Int)≤r1.2.1.2.1∧(0:Int)≤r1.1.1∧((0:Int)<(5:Int)→r1.1.1<(5:Int))∧((5:Int)≤(0:Int)→r1.1.1=(0:Int))→
 True∧
 let r2:=r1.1.1;
  K ((((1:Int),r2,[],()),()),(r1.2.1.1,r1.2.1.2.1,r1.2.1.2.2.1,()),())
  else
  ((0:Int)≤r0.2.1.2.1∧
  [([(114:UInt8),101,100],()),([(98:UInt8),108,117,101],()),
  ([(105:UInt8),110,107],())]≠
  [])∧
  ∀ (r3:wH),
  (0:Int)≤r3.2.1.2.1∧
  (r3.1.1,())∈
  [([(114:UInt8),101,100],()),([(98:UInt8),108,117,101],()),
  ([(105:UInt8),110,107],())]→
  True∧
 let r4:=r3.1.1;
  K ((((2:Int),(0:Int),r4,()),()),(r3.2.1.1,r3.2.1.2.1,r3.2.1.2.2.1,()),())
  else
  bif r0.1.1==(2:Int) then
  (0:Int)≤r0.2.1.2.1∧
  ∀ (r5:gB),
  (0:Int)≤r5.2.1.2.1∧(0:Int)≤r5.1.1∧((0:Int)<(5:Int)→r5.1.1<(5:Int))∧((5:Int)≤(0:Int)→r5.1.1=(0:Int))→
  True∧
 let r6:=r5.1.1;
  K ((((1:Int),r6,[],()),()),(r5.2.1.1,r5.2.1.2.1,r5.2.1.2.2.1,()),())
  else
  ((0:Int)≤r0.2.1.2.1∧
  [([(114:UInt8),101,100],()),([(98:UInt8),108,117,101],()),
  ([(105:UInt8),110,107],())]≠
  [])∧
  ∀ (r7:wH),
  (0:Int)≤r7.2.1.2.1∧
  (r7.1.1,())∈
  [([(114:UInt8),101,100],()),([(98:UInt8),108,117,101],()),
  ([(105:UInt8),110,107],())]→
  True∧
 let r8:=r7.1.1;
  K ((((2:Int),(0:Int),r8,()),()),(r7.2.1.1,r7.2.1.2.1,r7.2.1.2.2.1,()),())
theorem aj9 (env:EnvB prog G Θ alg) (hne:∀ x,(N9 x).1→∃ t,(N9 x).2 t) (h:∀ (c0:dB) (c1:Int) (c2:Int),dh xC ((c0,c1,c2,()),())→((0:Int)≤c1)→akD c0 c1 c2 fun (r:acE)=>((0:Int)≤c1,fun (x:acE)=>
 (0:Int)≤x.2.1.2.1∧x.1.1.2.2.1.length≤(10:Nat)).2
 r):aC prog G D6 EP:=
 bI env mixed (fn:=f231) (c:=codeOf f231) (by kernel_rfl) (by kernel_rfl) am6 (by kernel_rfl) hne fun ⟨⟨c0,c1,c2,⟨⟩⟩,⟨⟩⟩ hin hp=>
 Eq.mpr (by kernel_rfl) (h c0 c1 c2 hin hp)
def aqL:Hints:=Go.Fw.hints [] [] [] [] []
def aoZ (c0:dB) (c1:Int) (c2:Int) (K:acE→Prop):Prop:=
 (0:Int)≤c1∧
 ∀ (r0:acE),
 (0:Int)≤r0.2.1.2.1∧r0.1.1.2.2.1.length≤(10:Nat)→
 (0:Int)≤r0.2.1.2.1∧
 ∀ (r1:gB),
 (0:Int)≤r1.2.1.2.1∧(0:Int)≤r1.1.1∧((0:Int)<(10:Int)→r1.1.1<(10:Int))∧((10:Int)≤(0:Int)→r1.1.1=(0:Int))→
 bif r1.1.1==(0:Int) then
 (0:Int)≤r1.2.1.2.1∧
 ∀ (r2:gB),
 (0:Int)≤r2.2.1.2.1∧(0:Int)≤r2.1.1∧((0:Int)<(5:Int)→r2.1.1<(5:Int))∧((5:Int)≤(0:Int)→r2.1.1=(0:Int))→
 K
 (((i64.wrap (r2.1.1-(1:Int)),r0.1.1.2.1,r0.1.1.2.2.1,()),()),
 (r2.2.1.1,r2.2.1.2.1,r2.2.1.2.2.1,()),())
 else
 bif r1.1.1==(1:Int) then
 ((0:Int)≤r1.2.1.2.1∧[((-1:Int),()),((0:Int),()),((999:Int),()),((1000:Int),()),((9223372036854775807:Int),())]≠[])∧
 ∀ (r3:gB),
 (0:Int)≤r3.2.1.2.1∧(r3.1.1,())∈[((-1:Int),()),((0:Int),()),((999:Int),()),((1000:Int),()),((9223372036854775807:Int),())]→
 K (((r0.1.1.1,r3.1.1,r0.1.1.2.2.1,()),()),(r3.2.1.1,r3.2.1.2.1,r3.2.1.2.2.1,()),())
 else
 bif r1.1.1==(2:Int) then
 ((0:Int)≤r1.2.1.2.1∧
 [([],()),([(65:UInt8)],()),([(97:UInt8),98,99,100,101,102,103],()),
 ([(97:UInt8),98,99,100,101,102],()),([(97:UInt8),32,98],())]≠
 [])∧
 ∀ (r4:wH),
 (0:Int)≤r4.2.1.2.1∧
 (r4.1.1,())∈
 [([],()),([(65:UInt8)],()),([(97:UInt8),98,99,100,101,102,103],()),
 ([(97:UInt8),98,99,100,101,102],()),([(97:UInt8),32,98],())]→
 K (((r0.1.1.1,r0.1.1.2.1,r4.1.1,()),()),(r4.2.1.1,r4.2.1.2.1,r4.2.1.2.2.1,()),())
 else K (((r0.1.1.1,r0.1.1.2.1,r0.1.1.2.2.1,()),()),(r1.2.1.1,r1.2.1.2.1,r1.2.1.2.2.1,()),())
theorem aos (env:EnvB prog G Θ aqe) (hne:∀ x,(RX x).1→∃ t,(RX x).2 t) (h:∀ (c0:dB) (c1:Int) (c2:Int),dh tZ ((c0,c1,c2,()),())→((0:Int)≤c1)→aoZ c0 c1 c2 fun (r:acE)=>((0:Int)≤c1,fun (x:acE)=>
 (0:Int)≤x.2.1.2.1∧x.1.1.2.2.1.length≤(10:Nat)).2
 r):aC prog G Ac zy:=
 bI env mixed (fn:=f194) (c:=codeOf f194) (by kernel_rfl) (by kernel_rfl) aqL (by kernel_rfl) hne fun ⟨⟨c0,c1,c2,⟨⟩⟩,⟨⟩⟩ hin hp=>
 Eq.mpr (by kernel_rfl) (h c0 c1 c2 hin hp)
def am7:Hints:=Go.Fw.hints [] [] [] [] []
def akE (n:Int) (K:(Int×Int×NZ)×Unit→Prop):Prop:=
 K (((1:Int),n,[],()),())
theorem aj7 (env:EnvB prog G Θ alh) (h:∀ (n:Int),bH LX (n,())→(True)→akE n fun r=>r=((((1:Int),n,[],()),()))):aG prog G nS mZ:=
 aX env mixed (fn:=f32) (c:=codeOf f32) (by kernel_rfl) (by kernel_rfl) am7 (by kernel_rfl) fun ⟨n,⟨⟩⟩ hin hp=>
 Eq.mpr (by kernel_rfl) (h n hin hp)
def agV:Hints:=Go.Fw.hints [] [] [] [] []
def aey (w:fK) (K:(Int×Int×NZ)×Unit→Prop):Prop:=
 K (((2:Int),(0:Int),w,()),())
theorem ad6 (env:EnvB prog G Θ afj) (h:∀ (w:fK),bH IG (w,())→(True)→aey w fun r=>r=((((2:Int),(0:Int),w,()),()))):aG prog G jh iZ:=
 aX env mixed (fn:=f195) (c:=codeOf f195) (by kernel_rfl) (by kernel_rfl) agV (by kernel_rfl) fun ⟨w,⟨⟩⟩ hin hp=>
 Eq.mpr (by kernel_rfl) (h w hin hp)
def asD:Hints:=Go.Fw.hints [] [] [] [] []
def aqM (x:Int) (least:Int) (most:Int) (K:fG→Prop):Prop:=
 bif decide (x≥least) then K (decide (x≤most),()) else K (false,())
theorem aqD (env:EnvB prog G Θ arb) (h:∀ (x:Int) (least:Int) (most:Int),bH RY (x,least,most,())→(True)→aqM x least most fun r=>r=((decide (least≤x)&&decide (x≤most),()))):aG prog G gU fD:=
 aX env mixed (fn:=f63) (c:=codeOf f63) (by kernel_rfl) (by kernel_rfl) asD (by kernel_rfl) fun ⟨x,least,most,⟨⟩⟩ hin hp=>
 Eq.mpr (by kernel_rfl) (h x least most hin hp)
def aqN:Hints:=Go.Fw.hints [] [] [] [] []
def ao0 (n:Int) (low:Int) (high:Int) (K:fG→Prop):Prop:=
 bif decide (low≤n) then K (decide (n≤high),()) else K (false,())
theorem aot (env:EnvB prog G Θ aqf) (h:∀ (n:Int) (low:Int) (high:Int),bH Qn (n,low,high,())→(True)→ao0 n low high fun r=>r=((decide (low≤n)&&decide (n≤high),()))):aG prog G fO eF:=
 aX env mixed (fn:=f54) (c:=codeOf f54) (by kernel_rfl) (by kernel_rfl) aqN (by kernel_rfl) fun ⟨n,low,high,⟨⟩⟩ hin hp=>
 Eq.mpr (by kernel_rfl) (h n low high hin hp)
def ao1:Hints:=Go.Fw.hints [] [(2,⟨[],⟨[(0, .one (.str)),(1, .one (.int .i64))],[]⟩,⟨[(5, .one (.int .i64))],[]⟩⟩)] [] [] []
def am8 (s:fK) (most:Int) (K:fG→Prop):Prop:=
 let s0:=((s,most,()),());
  ∃ (I:bG→Prop),
  ∃ (μ:bG→Nat),
  I (((0:Int),()),())∧
  ∀ (y1:bG),
  I y1→
  bif decide (y1.1.1<(↑s.length:Int)) then
  ((0:Int)≤y1.1.1∧y1.1.1<(↑s.length:Int))∧
  bif decide ((↑(s.getD (Int.toNat y1.1.1) (0:UInt8)).toNat:Int)<(97:Int)) then K (false,())
  else
  ((0:Int)≤y1.1.1∧y1.1.1<(↑s.length:Int))∧
  bif decide ((↑(s.getD (Int.toNat y1.1.1) (0:UInt8)).toNat:Int)>(122:Int)) then K (false,())
  else s0=s0∧I ((i64.wrap (y1.1.1+(1:Int)),()),())∧μ ((i64.wrap (y1.1.1+(1:Int)),()),())<μ y1
  else
  True∧
 let r2:=decide ((1:Int)≤(↑s.length:Int))&&decide ((↑s.length:Int)≤most);
  K (r2,())
theorem aml (env:EnvB prog G Θ anP) (h:∀ (s:fK) (most:Int),bH Ob (s,most,())→(True)→am8 s most fun r=>r=((Sp.lower s&&decide ((1:Int)≤(↑s.length:Int))&&decide ((↑s.length:Int)≤most),()))):aG prog G xQ xE:=
 aX env mixed (fn:=f237) (c:=codeOf f237) (by kernel_rfl) (by kernel_rfl) ao1 (by kernel_rfl) fun ⟨s,most,⟨⟩⟩ hin hp=>
 Eq.mpr (by kernel_rfl) (h s most hin hp)
def acF:Hints:=Go.Fw.hints [] [] [] [] []
def aaK (s:fK) (K:fG→Prop):Prop:=
 True∧
 let r0:=Sp.lower s&&decide ((1:Int)≤(↑s.length:Int))&&decide ((↑s.length:Int)≤(6:Int));
  K (r0,())
theorem aam (env:EnvB prog G Θ aa6) (h:∀ (s:fK),bH Fe (s,())→(True)→aaK s fun r=>r=((Sp.iR s,()))):aG prog G jI jM:=
 aX env mixed (fn:=f225) (c:=codeOf f225) (by kernel_rfl) (by kernel_rfl) acF (by kernel_rfl) fun ⟨s,⟨⟩⟩ hin hp=>
 Eq.mpr (by kernel_rfl) (h s hin hp)
def acG:Hints:=Go.Fw.hints [] [(2,⟨[],⟨[(0, .one (.str)),(5, .one (.int .i64))],[]⟩,⟨[(6, .one (.int .i64))],[]⟩⟩)] [] [] []
def aaL (s:fK) (K:fG→Prop):Prop:=
 let s0:=((s,(↑s.length:Int),()),());
  ∃ (I:bG→Prop),
  ∃ (μ:bG→Nat),
  I (((0:Int),()),())∧
  ∀ (y1:bG),
  I y1→
  bif decide (y1.1.1<(↑s.length:Int)) then
  ((0:Int)≤y1.1.1∧y1.1.1<(↑s.length:Int))∧
  bif decide ((↑(s.getD (Int.toNat y1.1.1) (0:UInt8)).toNat:Int)<(97:Int)) then K (false,())
  else
  ((0:Int)≤y1.1.1∧y1.1.1<(↑s.length:Int))∧
  bif decide ((↑(s.getD (Int.toNat y1.1.1) (0:UInt8)).toNat:Int)>(122:Int)) then K (false,())
  else s0=s0∧I ((i64.wrap (y1.1.1+(1:Int)),()),())∧μ ((i64.wrap (y1.1.1+(1:Int)),()),())<μ y1
  else
  True∧
 let r2:=decide ((1:Int)≤(↑s.length:Int))&&decide ((↑s.length:Int)≤(6:Int));
  K (r2,())
theorem aar (env:EnvB prog G Θ aa7) (h:∀ (s:fK),bH Fg (s,())→(True)→aaL s fun r=>r=((Sp.iR s,()))):aG prog G jJ jO:=
 aX env mixed (fn:=f233) (c:=codeOf f233) (by kernel_rfl) (by kernel_rfl) acG (by kernel_rfl) fun ⟨s,⟨⟩⟩ hin hp=>
 Eq.mpr (by kernel_rfl) (h s hin hp)
def aez:Hints:=Go.Fw.hints [] [] [] [] []
def acH (v0:Int) (v1:Int) (v2:fK) (K:fG→Prop):Prop:=
 bif v0==(0:Int) then K (v0==(0:Int)&&(v1==(0:Int)&&(v2==[]&&true)),())
 else
 bif v0==(1:Int) then
 True∧
 let r0:=decide ((0:Int)≤v1)&&decide (v1≤(999:Int));
  bif r0 then K (v2==[],()) else K (false,())
  else bif v0==(2:Int) then True∧bif Sp.iR v2 then K (v1==(0:Int),()) else K (false,()) else K (false,())
theorem abP (env:EnvB prog G Θ adE) (h:∀ (v0:Int) (v1:Int) (v2:fK),bH Gy ((v0,v1,v2,()),())→(True)→acH v0 v1 v2 fun r=>r=((Sp.kK v0 v1 v2,()))):aG prog G nG oz:=
 aX env mixed (fn:=f221) (c:=codeOf f221) (by kernel_rfl) (by kernel_rfl) aez (by kernel_rfl) fun ⟨⟨v0,v1,v2,⟨⟩⟩,⟨⟩⟩ hin hp=>
 Eq.mpr (by kernel_rfl) (h v0 v1 v2 hin hp)
def aeA:Hints:=Go.Fw.hints [] [] [] [] []
def acI (v0:Int) (v1:Int) (v2:fK) (K:fG→Prop):Prop:=
 bif v0==(0:Int) then K (v0==(0:Int)&&(v1==(0:Int)&&(v2==[]&&true)),())
 else
 bif v0==(1:Int) then
 True∧
 let r0:=decide ((0:Int)≤v1)&&decide (v1≤(999:Int));
  bif r0 then K (v2==[],()) else K (false,())
  else bif v0==(2:Int) then True∧bif Sp.iR v2 then K (v1==(0:Int),()) else K (false,()) else K (false,())
theorem abS (env:EnvB prog G Θ adF) (h:∀ (v0:Int) (v1:Int) (v2:fK),bH Gz ((v0,v1,v2,()),())→(True)→acI v0 v1 v2 fun r=>r=((Sp.kK v0 v1 v2,()))):aG prog G nH oC:=
 aX env mixed (fn:=f208) (c:=codeOf f208) (by kernel_rfl) (by kernel_rfl) aeA (by kernel_rfl) fun ⟨⟨v0,v1,v2,⟨⟩⟩,⟨⟩⟩ hin hp=>
 Eq.mpr (by kernel_rfl) (h v0 v1 v2 hin hp)
def Zl:Hints:=Go.Fw.hints [] [] [] [] []
def XB (s:fK) (K:fG→Prop):Prop:=
 True∧
 let r0:=Sp.lower s&&decide ((1:Int)≤(↑s.length:Int))&&decide ((↑s.length:Int)≤(1:Int));
  K (r0,())
theorem Xk (env:EnvB prog G Θ YM) (h:∀ (s:fK),bH Dv (s,())→(True)→XB s fun r=>r=((Sp.kH s,()))):aG prog G kQ lq:=
 aX env mixed (fn:=f207) (c:=codeOf f207) (by kernel_rfl) (by kernel_rfl) Zl (by kernel_rfl) fun ⟨s,⟨⟩⟩ hin hp=>
 Eq.mpr (by kernel_rfl) (h s hin hp)
def Zm:Hints:=Go.Fw.hints [] [] [] [] []
def XC (s:fK) (K:fG→Prop):Prop:=
 bif (↑s.length:Int)==(1:Int) then
 ((0:Int)≤(0:Int)∧(0:Int)<(↑s.length:Int))∧
 bif decide ((↑(s.getD (Int.toNat (0:Int)) (0:UInt8)).toNat:Int)≥(97:Int)) then
 ((0:Int)≤(0:Int)∧(0:Int)<(↑s.length:Int))∧K (decide ((↑(s.getD (Int.toNat (0:Int)) (0:UInt8)).toNat:Int)≤(122:Int)),())
 else K (false,())
 else K (false,())
theorem Xl (env:EnvB prog G Θ YN) (h:∀ (s:fK),bH Dw (s,())→(True)→XC s fun r=>r=((Sp.kH s,()))):aG prog G kR lC:=
 aX env mixed (fn:=f200) (c:=codeOf f200) (by kernel_rfl) (by kernel_rfl) Zm (by kernel_rfl) fun ⟨s,⟨⟩⟩ hin hp=>
 Eq.mpr (by kernel_rfl) (h s hin hp)
def akF:Hints:=Go.Fw.hints [] [(2,⟨[],⟨[(0, .one (.sl 155 (.cons .str (.cons (.int .i64) .nil)) false)),(1, .one (.str))],[]⟩,⟨[(5, .one (.int .i64))],[]⟩⟩)] [] [] []
def air (s:fC) (name:fK) (K:jT→Prop):Prop:=
 let s0:=((s,name,()),());
  ∃ (I:bG→Prop),
  ∃ (μ:bG→Nat),
  I (((0:Int),()),())∧
  ∀ (y1:bG),
  I y1→
  bif decide (y1.1.1<(↑s.length:Int)) then
  ((0:Int)≤y1.1.1∧y1.1.1<(↑s.length:Int))∧
  bif (s.getD (Int.toNat y1.1.1) ([],(0:Int),())).1==name then
  ((0:Int)≤y1.1.1∧y1.1.1<(↑s.length:Int))∧K ((s.getD (Int.toNat y1.1.1) ([],(0:Int),())).2.1,())
  else s0=s0∧I ((i64.wrap (y1.1.1+(1:Int)),()),())∧μ ((i64.wrap (y1.1.1+(1:Int)),()),())<μ y1
  else K ((0:Int),())
theorem ah4 (env:EnvB prog G Θ ajr) (h:∀ (s:fC) (name:fK),bH KD (s,name,())→(True)→air s name fun r=>r=((Sp.kindOf s name,()))):aG prog G Cm DN:=
 aX env mixed (fn:=f222) (c:=codeOf f222) (by kernel_rfl) (by kernel_rfl) akF (by kernel_rfl) fun ⟨s,name,⟨⟩⟩ hin hp=>
 Eq.mpr (by kernel_rfl) (h s name hin hp)
def akG:Hints:=Go.Fw.hints [] [(2,⟨[],⟨[(1, .one (.str)),(7, .one (.sl 155 (.cons .str (.cons (.int .i64) .nil)) false)),(8, .one (.int .i64))],[]⟩,⟨[(9, .one (.int .i64))],[]⟩⟩)] [] [] []
def ais (s:fC) (name:fK) (K:jT→Prop):Prop:=
 let s0:=((name,s,(↑s.length:Int),()),());
  ∃ (I:bG→Prop),
  ∃ (μ:bG→Nat),
  I (((0:Int),()),())∧
  ∀ (y1:bG),
  I y1→
  bif decide (y1.1.1<(↑s.length:Int)) then
  ((0:Int)≤y1.1.1∧y1.1.1<(↑s.length:Int))∧
  bif (s.getD (Int.toNat y1.1.1) ([],(0:Int),())).1==name then K ((s.getD (Int.toNat y1.1.1) ([],(0:Int),())).2.1,())
  else s0=s0∧I ((i64.wrap (y1.1.1+(1:Int)),()),())∧μ ((i64.wrap (y1.1.1+(1:Int)),()),())<μ y1
  else K ((0:Int),())
theorem aic (env:EnvB prog G Θ ajs) (h:∀ (s:fC) (name:fK),bH KE (s,name,())→(True)→ais s name fun r=>r=((Sp.kindOf s name,()))):aG prog G CB DR:=
 aX env mixed (fn:=f209) (c:=codeOf f209) (by kernel_rfl) (by kernel_rfl) akG (by kernel_rfl) fun ⟨s,name,⟨⟩⟩ hin hp=>
 Eq.mpr (by kernel_rfl) (h s name hin hp)
def acJ:Hints:=Go.Fw.hints [] [(2,⟨[],⟨[(0, .one (.sl 155 (.cons .str (.cons (.int .i64) .nil)) false))],[]⟩,⟨[(3, .one (.int .i64))],[]⟩⟩)] [] [] []
def aaM (s:fC) (K:fG→Prop):Prop:=
 let s0:=((s,()),());
  ∃ (I:bG→Prop),
  ∃ (μ:bG→Nat),
  I (((0:Int),()),())∧
  ∀ (y1:bG),
  I y1→
  bif decide (y1.1.1<(↑s.length:Int)) then
  ((0:Int)≤y1.1.1∧y1.1.1<(↑s.length:Int))∧
  True∧
 let r2:=Sp.kH (s.getD (Int.toNat y1.1.1) ([],(0:Int),())).1;
  bif !r2 then K (false,())
  else
  ((0:Int)≤y1.1.1∧y1.1.1<(↑s.length:Int))∧
  True∧
 let r3:=
  decide ((1:Int)≤(s.getD (Int.toNat y1.1.1) ([],(0:Int),())).2.1)&&
  decide ((s.getD (Int.toNat y1.1.1) ([],(0:Int),())).2.1≤(2:Int));
  bif !r3 then K (false,())
  else
  bif decide (y1.1.1>(0:Int)) then
  ((0:Int)≤i64.wrap (y1.1.1-(1:Int))∧i64.wrap (y1.1.1-(1:Int))<(↑s.length:Int))∧
  ((0:Int)≤y1.1.1∧y1.1.1<(↑s.length:Int))∧
  bif
  !Op.bytesLess (s.getD (i64.wrap (y1.1.1-(1:Int))).toNat ([],(0:Int),())).1
  (s.getD (Int.toNat y1.1.1) ([],(0:Int),())).1 then
  K (false,())
  else s0=s0∧I ((i64.wrap (y1.1.1+(1:Int)),()),())∧μ ((i64.wrap (y1.1.1+(1:Int)),()),())<μ y1
  else s0=s0∧I ((i64.wrap (y1.1.1+(1:Int)),()),())∧μ ((i64.wrap (y1.1.1+(1:Int)),()),())<μ y1
  else K (decide ((↑s.length:Int)≤(5:Int)),())
theorem aan (env:EnvB prog G Θ aa8) (h:∀ (s:fC),bH Fh (s,())→(True)→aaM s fun r=>r=((Sp.gQ s,()))):aG prog G mg mP:=
 aX env mixed (fn:=f156) (c:=codeOf f156) (by kernel_rfl) (by kernel_rfl) acJ (by kernel_rfl) fun ⟨s,⟨⟩⟩ hin hp=>
 Eq.mpr (by kernel_rfl) (h s hin hp)
def acK:Hints:=Go.Fw.hints [] [(2,⟨[],⟨[(0, .one (.sl 155 (.cons .str (.cons (.int .i64) .nil)) false)),(5, .one (.sl 155 (.cons .str (.cons (.int .i64) .nil)) false)),(6, .one (.int .i64))],[]⟩,⟨[(7, .one (.int .i64))],[]⟩⟩)] [] [] []
def aaN (s:fC) (K:fG→Prop):Prop:=
 let s0:=((s,s,(↑s.length:Int),()),());
  ∃ (I:bG→Prop),
  ∃ (μ:bG→Nat),
  I (((0:Int),()),())∧
  ∀ (y1:bG),
  I y1→
  bif decide (y1.1.1<(↑s.length:Int)) then
  ((0:Int)≤y1.1.1∧y1.1.1<(↑s.length:Int))∧
  True∧
 let r2:=Sp.kH (s.getD (Int.toNat y1.1.1) ([],(0:Int),())).1;
  bif !r2 then K (false,())
  else
  bif (s.getD (Int.toNat y1.1.1) ([],(0:Int),())).2.1 !=(1:Int) then
  bif (s.getD (Int.toNat y1.1.1) ([],(0:Int),())).2.1 !=(2:Int) then K (false,())
  else
  bif decide (y1.1.1>(0:Int)) then
  ((0:Int)≤i64.wrap (y1.1.1-(1:Int))∧i64.wrap (y1.1.1-(1:Int))<(↑s.length:Int))∧
  bif
  !Op.bytesLess (s.getD (i64.wrap (y1.1.1-(1:Int))).toNat ([],(0:Int),())).1
  (s.getD (Int.toNat y1.1.1) ([],(0:Int),())).1 then
  K (false,())
  else s0=s0∧I ((i64.wrap (y1.1.1+(1:Int)),()),())∧μ ((i64.wrap (y1.1.1+(1:Int)),()),())<μ y1
  else s0=s0∧I ((i64.wrap (y1.1.1+(1:Int)),()),())∧μ ((i64.wrap (y1.1.1+(1:Int)),()),())<μ y1
  else
  bif decide (y1.1.1>(0:Int)) then
  ((0:Int)≤i64.wrap (y1.1.1-(1:Int))∧i64.wrap (y1.1.1-(1:Int))<(↑s.length:Int))∧
  bif
  !Op.bytesLess (s.getD (i64.wrap (y1.1.1-(1:Int))).toNat ([],(0:Int),())).1
  (s.getD (Int.toNat y1.1.1) ([],(0:Int),())).1 then
  K (false,())
  else s0=s0∧I ((i64.wrap (y1.1.1+(1:Int)),()),())∧μ ((i64.wrap (y1.1.1+(1:Int)),()),())<μ y1
  else s0=s0∧I ((i64.wrap (y1.1.1+(1:Int)),()),())∧μ ((i64.wrap (y1.1.1+(1:Int)),()),())<μ y1
  else K (decide ((↑s.length:Int)≤(5:Int)),())
theorem aas (env:EnvB prog G Θ aa9) (h:∀ (s:fC),bH Fj (s,())→(True)→aaN s fun r=>r=((Sp.gQ s,()))):aG prog G mr mQ:=
 aX env mixed (fn:=f148) (c:=codeOf f148) (by kernel_rfl) (by kernel_rfl) acK (by kernel_rfl) fun ⟨s,⟨⟩⟩ hin hp=>
 Eq.mpr (by kernel_rfl) (h s hin hp)
def acL:Hints:=Go.Fw.hints [] [] [] [] []
def aaO (s:fC) (name:fK) (v0:Int) (v1:Int) (v2:fK) (K:fG→Prop):Prop:=
 True∧bif Sp.kK v0 v1 v2 then bif v0 !=(0:Int) then True∧K (v0==Sp.kindOf s name,()) else K (false,()) else K (false,())
theorem aap (env:EnvB prog G Θ abb) (h:∀ (s:fC) (name:fK) (v0:Int) (v1:Int) (v2:fK),bH Fp (s,name,(v0,v1,v2,()),())→(True)→aaO s name v0 v1 v2 fun r=>r=((Sp.kN s name v0 v1 v2,()))):aG prog G vF yC:=
 aX env mixed (fn:=f180) (c:=codeOf f180) (by kernel_rfl) (by kernel_rfl) acL (by kernel_rfl) fun ⟨s,name,⟨v0,v1,v2,⟨⟩⟩,⟨⟩⟩ hin hp=>
 Eq.mpr (by kernel_rfl) (h s name v0 v1 v2 hin hp)
def acM:Hints:=Go.Fw.hints [] [] [] [] []
def aaP (s:fC) (name:fK) (v0:Int) (v1:Int) (v2:fK) (K:fG→Prop):Prop:=
 True∧bif Sp.kK v0 v1 v2 then bif v0 !=(0:Int) then True∧K (v0==Sp.kindOf s name,()) else K (false,()) else K (false,())
theorem aau (env:EnvB prog G Θ abd) (h:∀ (s:fC) (name:fK) (v0:Int) (v1:Int) (v2:fK),bH Fq (s,name,(v0,v1,v2,()),())→(True)→aaP s name v0 v1 v2 fun r=>r=((Sp.kN s name v0 v1 v2,()))):aG prog G vG yD:=
 aX env mixed (fn:=f162) (c:=codeOf f162) (by kernel_rfl) (by kernel_rfl) acM (by kernel_rfl) fun ⟨s,name,⟨v0,v1,v2,⟨⟩⟩,⟨⟩⟩ hin hp=>
 Eq.mpr (by kernel_rfl) (h s name v0 v1 v2 hin hp)
def agW:Hints:=Go.Fw.hints [] [(2,⟨[],⟨[(0, .one (.sl 155 (.cons .str (.cons (.int .i64) .nil)) false)),(3, .iM [.int .i64, .int .i64, .bool, .int .i64, .sl 94 (.cons .str (.cons (.int .i64) (.cons (.int .i64) (.cons .str .nil)))) false] 0)],[]⟩,⟨[(5, .one (.int .i64))],[]⟩⟩)] [] [] []
def aeB (s:fC) (f0:Int) (f1:Int) (f2:Bool) (f3:Int) (f4:oq) (K:fG→Prop):Prop:=
 let s0:=((s,(f0,f1,f2,f3,f4,()),()),());
  ∃ (I:bG→Prop),
  ∃ (μ:bG→Nat),
  I (((0:Int),()),())∧
  ∀ (y1:bG),
  I y1→
  bif decide (y1.1.1<(↑f4.length:Int)) then
  ((0:Int)≤y1.1.1∧y1.1.1<(↑f4.length:Int))∧
  ((0:Int)≤y1.1.1∧y1.1.1<(↑f4.length:Int))∧
  True∧
 let r2:=
  Sp.kN s (f4.getD (Int.toNat y1.1.1) ([],(0:Int),(0:Int),[],())).1
  (f4.getD (Int.toNat y1.1.1) ([],(0:Int),(0:Int),[],())).2.1 (f4.getD (Int.toNat y1.1.1) ([],(0:Int),(0:Int),[],())).2.2.1
  (f4.getD (Int.toNat y1.1.1) ([],(0:Int),(0:Int),[],())).2.2.2.1;
  bif !r2 then K (false,())
  else
  bif decide (y1.1.1>(0:Int)) then
  ((0:Int)≤i64.wrap (y1.1.1-(1:Int))∧i64.wrap (y1.1.1-(1:Int))<(↑f4.length:Int))∧
  ((0:Int)≤y1.1.1∧y1.1.1<(↑f4.length:Int))∧
  bif
  !Op.bytesLess (f4.getD (i64.wrap (y1.1.1-(1:Int))).toNat ([],(0:Int),(0:Int),[],())).1
  (f4.getD (Int.toNat y1.1.1) ([],(0:Int),(0:Int),[],())).1 then
  K (false,())
  else s0=s0∧I ((i64.wrap (y1.1.1+(1:Int)),()),())∧μ ((i64.wrap (y1.1.1+(1:Int)),()),())<μ y1
  else s0=s0∧I ((i64.wrap (y1.1.1+(1:Int)),()),())∧μ ((i64.wrap (y1.1.1+(1:Int)),()),())<μ y1
  else
  True∧
  bif Sp.gQ s then
  True∧
 let r3:=decide ((1:Int)≤f0)&&decide (f0≤(60:Int));
  bif r3 then
  True∧
 let r4:=decide ((0:Int)≤f1)&&decide (f1≤(2:Int));
  bif r4 then
  True∧
 let r5:=decide ((0:Int)≤f3)&&decide (f3≤(60:Int));
  K (r5,())
  else K (false,())
  else K (false,())
  else K (false,())
theorem ad7 (env:EnvB prog G Θ afk) (h:∀ (s:fC) (f0:Int) (f1:Int) (f2:Bool) (f3:Int) (f4:oq),bH II (s,(f0,f1,f2,f3,f4,()),())→(True)→aeB s f0 f1 f2 f3 f4 fun r=>r=((Sp.eU s (f0,f1,f2,f3,f4,()),()))):aG prog G oW pV:=
 aX env mixed (fn:=f125) (c:=codeOf f125) (by kernel_rfl) (by kernel_rfl) agW (by kernel_rfl) fun ⟨s,⟨f0,f1,f2,f3,f4,⟨⟩⟩,⟨⟩⟩ hin hp=>
 Eq.mpr (by kernel_rfl) (h s f0 f1 f2 f3 f4 hin hp)
def agX:Hints:=Go.Fw.hints [] [(2,⟨[],⟨[(0, .one (.sl 155 (.cons .str (.cons (.int .i64) .nil)) false)),(3, .iM [.int .i64, .int .i64, .bool, .int .i64, .sl 94 (.cons .str (.cons (.int .i64) (.cons (.int .i64) (.cons .str .nil)))) false] 0),(8, .one (.sl 94 (.cons .str (.cons (.int .i64) (.cons (.int .i64) (.cons .str .nil)))) false)),(9, .one (.int .i64))],[]⟩,⟨[(10, .one (.int .i64))],[]⟩⟩)] [] [] []
def aeC (s:fC) (f0:Int) (f1:Int) (f2:Bool) (f3:Int) (f4:oq) (K:fG→Prop):Prop:=
 let s0:=((s,(f0,f1,f2,f3,f4,()),f4,(↑f4.length:Int),()),());
  ∃ (I:bG→Prop),
  ∃ (μ:bG→Nat),
  I (((0:Int),()),())∧
  ∀ (y1:bG),
  I y1→
  bif decide (y1.1.1<(↑f4.length:Int)) then
  ((0:Int)≤y1.1.1∧y1.1.1<(↑f4.length:Int))∧
  bif decide (y1.1.1>(0:Int)) then
  ((0:Int)≤i64.wrap (y1.1.1-(1:Int))∧i64.wrap (y1.1.1-(1:Int))<(↑f4.length:Int))∧
  bif
  !Op.bytesLess (f4.getD (i64.wrap (y1.1.1-(1:Int))).toNat ([],(0:Int),(0:Int),[],())).1
  (f4.getD (Int.toNat y1.1.1) ([],(0:Int),(0:Int),[],())).1 then
  K (false,())
  else
  True∧
 let r2:=
  Sp.kN s (f4.getD (Int.toNat y1.1.1) ([],(0:Int),(0:Int),[],())).1
  (f4.getD (Int.toNat y1.1.1) ([],(0:Int),(0:Int),[],())).2.1
  (f4.getD (Int.toNat y1.1.1) ([],(0:Int),(0:Int),[],())).2.2.1
  (f4.getD (Int.toNat y1.1.1) ([],(0:Int),(0:Int),[],())).2.2.2.1;
  bif !r2 then K (false,())
  else s0=s0∧I ((i64.wrap (y1.1.1+(1:Int)),()),())∧μ ((i64.wrap (y1.1.1+(1:Int)),()),())<μ y1
  else
  True∧
 let r3:=
  Sp.kN s (f4.getD (Int.toNat y1.1.1) ([],(0:Int),(0:Int),[],())).1
  (f4.getD (Int.toNat y1.1.1) ([],(0:Int),(0:Int),[],())).2.1 (f4.getD (Int.toNat y1.1.1) ([],(0:Int),(0:Int),[],())).2.2.1
  (f4.getD (Int.toNat y1.1.1) ([],(0:Int),(0:Int),[],())).2.2.2.1;
  bif !r3 then K (false,()) else s0=s0∧I ((i64.wrap (y1.1.1+(1:Int)),()),())∧μ ((i64.wrap (y1.1.1+(1:Int)),()),())<μ y1
  else
  True∧
 let r4:=decide ((1:Int)≤f0)&&decide (f0≤(60:Int));
  bif r4 then
  True∧
 let r5:=decide ((0:Int)≤f1)&&decide (f1≤(2:Int));
  bif r5 then
  True∧
 let r6:=decide ((0:Int)≤f3)&&decide (f3≤(60:Int));
  bif r6 then True∧K (Sp.gQ s,()) else K (false,())
  else K (false,())
  else K (false,())
theorem ad9 (env:EnvB prog G Θ afl) (h:∀ (s:fC) (f0:Int) (f1:Int) (f2:Bool) (f3:Int) (f4:oq),bH IJ (s,(f0,f1,f2,f3,f4,()),())→(True)→aeC s f0 f1 f2 f3 f4 fun r=>r=((Sp.eU s (f0,f1,f2,f3,f4,()),()))):aG prog G yS Aw:=
 aX env mixed (fn:=f107) (c:=codeOf f107) (by kernel_rfl) (by kernel_rfl) agX (by kernel_rfl) fun ⟨s,⟨f0,f1,f2,f3,f4,⟨⟩⟩,⟨⟩⟩ hin hp=>
 Eq.mpr (by kernel_rfl) (h s f0 f1 f2 f3 f4 hin hp)
def aeD:Hints:=Go.Fw.hints [] [(2,⟨[],⟨[(1, .iM [.sl 155 (.cons .str (.cons (.int .i64) .nil)) false, .sl 56 (.cons (.int .i64) (.cons (.int .i64) (.cons .bool (.cons (.int .i64) (.cons (.sl 94 (.cons .str (.cons (.int .i64) (.cons (.int .i64) (.cons .str .nil))))) .nil))))) false, .int .i64] 0)],[]⟩,⟨[(3, .one (.int .i64))],[]⟩⟩)] [] [] []
def acN (s0:fC) (s1:iw) (s2:Int) (K:fG→Prop):Prop:=
 let Tm:=(((s0,s1,s2,()),()),());
  ∃ (I:bG→Prop),
  ∃ (μ:bG→Nat),
  I (((0:Int),()),())∧
  ∀ (y1:bG),
  I y1→
  bif decide (y1.1.1<(↑s1.length:Int)) then
  ((0:Int)≤y1.1.1∧y1.1.1<(↑s1.length:Int))∧
  True∧
 let r2:=
  Sp.eU s0
  ((s1.getD (Int.toNat y1.1.1) ((0:Int),(0:Int),false,(0:Int),[],())).1,
  (s1.getD (Int.toNat y1.1.1) ((0:Int),(0:Int),false,(0:Int),[],())).2.1,
  (s1.getD (Int.toNat y1.1.1) ((0:Int),(0:Int),false,(0:Int),[],())).2.2.1,
  (s1.getD (Int.toNat y1.1.1) ((0:Int),(0:Int),false,(0:Int),[],())).2.2.2.1,
  (s1.getD (Int.toNat y1.1.1) ((0:Int),(0:Int),false,(0:Int),[],())).2.2.2.2.1,());
  bif !r2 then K (false,())
  else
  ((0:Int)≤y1.1.1∧y1.1.1<(↑s1.length:Int))∧
  bif decide ((s1.getD (Int.toNat y1.1.1) ((0:Int),(0:Int),false,(0:Int),[],())).1≥s2) then K (false,())
  else
  bif decide (y1.1.1>(0:Int)) then
  ((0:Int)≤i64.wrap (y1.1.1-(1:Int))∧i64.wrap (y1.1.1-(1:Int))<(↑s1.length:Int))∧
  ((0:Int)≤y1.1.1∧y1.1.1<(↑s1.length:Int))∧
  bif
  decide
  ((s1.getD (i64.wrap (y1.1.1-(1:Int))).toNat ((0:Int),(0:Int),false,(0:Int),[],())).1≥
  (s1.getD (Int.toNat y1.1.1) ((0:Int),(0:Int),false,(0:Int),[],())).1) then
  K (false,())
  else Tm=Tm∧I ((i64.wrap (y1.1.1+(1:Int)),()),())∧μ ((i64.wrap (y1.1.1+(1:Int)),()),())<μ y1
  else Tm=Tm∧I ((i64.wrap (y1.1.1+(1:Int)),()),())∧μ ((i64.wrap (y1.1.1+(1:Int)),()),())<μ y1
  else
  True∧
  bif Sp.gQ s0 then
  bif decide ((↑s1.length:Int)≤(12:Int)) then
  True∧
 let r3:=decide ((1:Int)≤s2)&&decide (s2≤(61:Int));
  K (r3,())
  else K (false,())
  else K (false,())
theorem abQ (env:EnvB prog G Θ adG) (h:∀ (s0:fC) (s1:iw) (s2:Int),bH GH ((s0,s1,s2,()),())→(True)→acN s0 s1 s2 fun r=>r=((Sp.dF (s0,s1,s2,()),()))):aG prog G jX ku:=
 aX env mixed (fn:=f100) (c:=codeOf f100) (by kernel_rfl) (by kernel_rfl) aeD (by kernel_rfl) fun ⟨⟨s0,s1,s2,⟨⟩⟩,⟨⟩⟩ hin hp=>
 Eq.mpr (by kernel_rfl) (h s0 s1 s2 hin hp)
def aeE:Hints:=Go.Fw.hints [] [(2,⟨[],⟨[(1, .iM [.sl 155 (.cons .str (.cons (.int .i64) .nil)) false, .sl 56 (.cons (.int .i64) (.cons (.int .i64) (.cons .bool (.cons (.int .i64) (.cons (.sl 94 (.cons .str (.cons (.int .i64) (.cons (.int .i64) (.cons .str .nil))))) .nil))))) false, .int .i64] 0),(6, .one (.sl 56 (.cons (.int .i64) (.cons (.int .i64) (.cons .bool (.cons (.int .i64) (.cons (.sl 94 (.cons .str (.cons (.int .i64) (.cons (.int .i64) (.cons .str .nil))))) .nil))))) false)),(7, .one (.int .i64))],[]⟩,⟨[(8, .one (.int .i64))],[]⟩⟩)] [] [] []
def acO (s0:fC) (s1:iw) (s2:Int) (K:fG→Prop):Prop:=
 let Tm:=(((s0,s1,s2,()),s1,(↑s1.length:Int),()),());
  ∃ (I:bG→Prop),
  ∃ (μ:bG→Nat),
  I (((0:Int),()),())∧
  ∀ (y1:bG),
  I y1→
  bif decide (y1.1.1<(↑s1.length:Int)) then
  ((0:Int)≤y1.1.1∧y1.1.1<(↑s1.length:Int))∧
  True∧
 let r2:=
  Sp.eU s0
  ((s1.getD (Int.toNat y1.1.1) ((0:Int),(0:Int),false,(0:Int),[],())).1,
  (s1.getD (Int.toNat y1.1.1) ((0:Int),(0:Int),false,(0:Int),[],())).2.1,
  (s1.getD (Int.toNat y1.1.1) ((0:Int),(0:Int),false,(0:Int),[],())).2.2.1,
  (s1.getD (Int.toNat y1.1.1) ((0:Int),(0:Int),false,(0:Int),[],())).2.2.2.1,
  (s1.getD (Int.toNat y1.1.1) ((0:Int),(0:Int),false,(0:Int),[],())).2.2.2.2.1,());
  bif !r2 then K (false,())
  else
  bif decide ((s1.getD (Int.toNat y1.1.1) ((0:Int),(0:Int),false,(0:Int),[],())).1≥s2) then K (false,())
  else
  bif decide (y1.1.1>(0:Int)) then
  ((0:Int)≤i64.wrap (y1.1.1-(1:Int))∧i64.wrap (y1.1.1-(1:Int))<(↑s1.length:Int))∧
  bif
  decide
  ((s1.getD (i64.wrap (y1.1.1-(1:Int))).toNat ((0:Int),(0:Int),false,(0:Int),[],())).1≥
  (s1.getD (Int.toNat y1.1.1) ((0:Int),(0:Int),false,(0:Int),[],())).1) then
  K (false,())
  else Tm=Tm∧I ((i64.wrap (y1.1.1+(1:Int)),()),())∧μ ((i64.wrap (y1.1.1+(1:Int)),()),())<μ y1
  else Tm=Tm∧I ((i64.wrap (y1.1.1+(1:Int)),()),())∧μ ((i64.wrap (y1.1.1+(1:Int)),()),())<μ y1
  else
  True∧
  bif Sp.gQ s0 then
  bif decide ((↑s1.length:Int)≤(12:Int)) then
  True∧
 let r3:=decide ((1:Int)≤s2)&&decide (s2≤(61:Int));
  K (r3,())
  else K (false,())
  else K (false,())
theorem abU (env:EnvB prog G Θ adH) (h:∀ (s0:fC) (s1:iw) (s2:Int),bH GI ((s0,s1,s2,()),())→(True)→acO s0 s1 s2 fun r=>r=((Sp.dF (s0,s1,s2,()),()))):aG prog G wU zA:=
 aX env mixed (fn:=f96) (c:=codeOf f96) (by kernel_rfl) (by kernel_rfl) aeE (by kernel_rfl) fun ⟨⟨s0,s1,s2,⟨⟩⟩,⟨⟩⟩ hin hp=>
 Eq.mpr (by kernel_rfl) (h s0 s1 s2 hin hp)
def ait:Hints:=Go.Fw.hints [] [(4,⟨[],⟨[(0, .one (.sl 155 (.cons .str (.cons (.int .i64) .nil)) false)),(1, .one (.sl 155 (.cons .str (.cons (.int .i64) .nil)) false))],[]⟩,⟨[(5, .one (.int .i64))],[]⟩⟩)] [] [] []
def agY (a:fC) (b:fC) (K:fG→Prop):Prop:=
 bif (↑a.length:Int) !=(↑b.length:Int) then K (false,())
 else
 let s0:=((a,b,()),());
  ∃ (I:bG→Prop),
  ∃ (μ:bG→Nat),
  I (((0:Int),()),())∧
  ∀ (y1:bG),
  I y1→
  bif decide (y1.1.1<(↑a.length:Int)) then
  ((0:Int)≤y1.1.1∧y1.1.1<(↑a.length:Int))∧
  ((0:Int)≤y1.1.1∧y1.1.1<(↑b.length:Int))∧
  bif
  !((a.getD (Int.toNat y1.1.1) ([],(0:Int),())).1==(b.getD (Int.toNat y1.1.1) ([],(0:Int),())).1&&
  ((a.getD (Int.toNat y1.1.1) ([],(0:Int),())).2.1==(b.getD (Int.toNat y1.1.1) ([],(0:Int),())).2.1&&true)) then
  K (false,())
  else s0=s0∧I ((i64.wrap (y1.1.1+(1:Int)),()),())∧μ ((i64.wrap (y1.1.1+(1:Int)),()),())<μ y1
  else K (true,())
theorem ags (env:EnvB prog G Θ ahH) (h:∀ (a:fC) (b:fC),bH Jw (a,b,())→(True)→agY a b fun r=>r=((decide (a=b),()))):aG prog G Aj Dj:=
 aX env mixed (fn:=f93) (c:=codeOf f93) (by kernel_rfl) (by kernel_rfl) ait (by kernel_rfl) fun ⟨a,b,⟨⟩⟩ hin hp=>
 Eq.mpr (by kernel_rfl) (h a b hin hp)
def akH:Hints:=Go.Fw.hints [] [(4,⟨[],⟨[(0, .one (.sl 94 (.cons .str (.cons (.int .i64) (.cons (.int .i64) (.cons .str .nil)))) false)),(1, .one (.sl 94 (.cons .str (.cons (.int .i64) (.cons (.int .i64) (.cons .str .nil)))) false))],[]⟩,⟨[(5, .one (.int .i64))],[]⟩⟩)] [] [] []
def aiu (a:oq) (b:oq) (K:fG→Prop):Prop:=
 bif (↑a.length:Int) !=(↑b.length:Int) then K (false,())
 else
 let s0:=((a,b,()),());
  ∃ (I:bG→Prop),
  ∃ (μ:bG→Nat),
  I (((0:Int),()),())∧
  ∀ (y1:bG),
  I y1→
  bif decide (y1.1.1<(↑a.length:Int)) then
  ((0:Int)≤y1.1.1∧y1.1.1<(↑a.length:Int))∧
  ((0:Int)≤y1.1.1∧y1.1.1<(↑b.length:Int))∧
  bif
  !((a.getD (Int.toNat y1.1.1) ([],(0:Int),(0:Int),[],())).1==(b.getD (Int.toNat y1.1.1) ([],(0:Int),(0:Int),[],())).1&&
  ((a.getD (Int.toNat y1.1.1) ([],(0:Int),(0:Int),[],())).2.1==
  (b.getD (Int.toNat y1.1.1) ([],(0:Int),(0:Int),[],())).2.1&&
  ((a.getD (Int.toNat y1.1.1) ([],(0:Int),(0:Int),[],())).2.2.1==
  (b.getD (Int.toNat y1.1.1) ([],(0:Int),(0:Int),[],())).2.2.1&&
  ((a.getD (Int.toNat y1.1.1) ([],(0:Int),(0:Int),[],())).2.2.2.1==
  (b.getD (Int.toNat y1.1.1) ([],(0:Int),(0:Int),[],())).2.2.2.1&&
  true)))) then
  K (false,())
  else s0=s0∧I ((i64.wrap (y1.1.1+(1:Int)),()),())∧μ ((i64.wrap (y1.1.1+(1:Int)),()),())<μ y1
  else K (true,())
theorem ah6 (env:EnvB prog G Θ ajt) (h:∀ (a:oq) (b:oq),bH KF (a,b,())→(True)→aiu a b fun r=>r=((decide (a=b),()))):aG prog G CG DT:=
 aX env mixed (fn:=f199) (c:=codeOf f199) (by kernel_rfl) (by kernel_rfl) akH (by kernel_rfl) fun ⟨a,b,⟨⟩⟩ hin hp=>
 Eq.mpr (by kernel_rfl) (h a b hin hp)
def am9:Hints:=Go.Fw.hints [] [] [] [] []
def akI (a0:Int) (a1:Int) (a2:Bool) (a3:Int) (a4:oq) (b0:Int) (b1:Int) (b2:Bool) (b3:Int) (b4:oq) (K:fG→Prop):Prop:=
 bif a0==b0 then
 bif a1==b1 then
 bif a2==b2 then
 bif a3==b3 then
 True∧
 let r0:=decide (a4=b4);
  K (r0,())
  else K (false,())
  else K (false,())
  else K (false,())
  else K (false,())
theorem akc (env:EnvB prog G Θ ali) (h:∀ (a0:Int) (a1:Int) (a2:Bool) (a3:Int) (a4:oq) (b0:Int) (b1:Int) (b2:Bool) (b3:Int) (b4:oq),bH LY ((a0,a1,a2,a3,a4,()),(b0,b1,b2,b3,b4,()),())→(True)→akI a0 a1 a2 a3 a4 b0 b1 b2 b3 b4 fun r=>r=((decide ((a0,a1,a2,a3,a4,())=(b0,b1,b2,b3,b4,())),()))):aG prog G D7 ER:=
 aX env mixed (fn:=f146) (c:=codeOf f146) (by kernel_rfl) (by kernel_rfl) am9 (by kernel_rfl) fun ⟨⟨a0,a1,a2,a3,a4,⟨⟩⟩,⟨b0,b1,b2,b3,b4,⟨⟩⟩,⟨⟩⟩ hin hp=>
 Eq.mpr (by kernel_rfl) (h a0 a1 a2 a3 a4 b0 b1 b2 b3 b4 hin hp)
def akJ:Hints:=Go.Fw.hints [] [(4,⟨[],⟨[(0, .one (.sl 56 (.cons (.int .i64) (.cons (.int .i64) (.cons .bool (.cons (.int .i64) (.cons (.sl 94 (.cons .str (.cons (.int .i64) (.cons (.int .i64) (.cons .str .nil))))) .nil))))) false)),(1, .one (.sl 56 (.cons (.int .i64) (.cons (.int .i64) (.cons .bool (.cons (.int .i64) (.cons (.sl 94 (.cons .str (.cons (.int .i64) (.cons (.int .i64) (.cons .str .nil))))) .nil))))) false))],[]⟩,⟨[(5, .one (.int .i64))],[]⟩⟩)] [] [] []
def aiv (a:iw) (b:iw) (K:fG→Prop):Prop:=
 bif (↑a.length:Int) !=(↑b.length:Int) then K (false,())
 else
 let s0:=((a,b,()),());
  ∃ (I:bG→Prop),
  ∃ (μ:bG→Nat),
  I (((0:Int),()),())∧
  ∀ (y1:bG),
  I y1→
  bif decide (y1.1.1<(↑a.length:Int)) then
  ((0:Int)≤y1.1.1∧y1.1.1<(↑a.length:Int))∧
  ((0:Int)≤y1.1.1∧y1.1.1<(↑b.length:Int))∧
  True∧
 let r2:=
  decide
  (((a.getD (Int.toNat y1.1.1) ((0:Int),(0:Int),false,(0:Int),[],())).1,
  (a.getD (Int.toNat y1.1.1) ((0:Int),(0:Int),false,(0:Int),[],())).2.1,
  (a.getD (Int.toNat y1.1.1) ((0:Int),(0:Int),false,(0:Int),[],())).2.2.1,
  (a.getD (Int.toNat y1.1.1) ((0:Int),(0:Int),false,(0:Int),[],())).2.2.2.1,
  (a.getD (Int.toNat y1.1.1) ((0:Int),(0:Int),false,(0:Int),[],())).2.2.2.2.1,())=
  ((b.getD (Int.toNat y1.1.1) ((0:Int),(0:Int),false,(0:Int),[],())).1,
  (b.getD (Int.toNat y1.1.1) ((0:Int),(0:Int),false,(0:Int),[],())).2.1,
  (b.getD (Int.toNat y1.1.1) ((0:Int),(0:Int),false,(0:Int),[],())).2.2.1,
  (b.getD (Int.toNat y1.1.1) ((0:Int),(0:Int),false,(0:Int),[],())).2.2.2.1,
  (b.getD (Int.toNat y1.1.1) ((0:Int),(0:Int),false,(0:Int),[],())).2.2.2.2.1,()));
  bif !r2 then K (false,())
  else s0=s0∧I ((i64.wrap (y1.1.1+(1:Int)),()),())∧μ ((i64.wrap (y1.1.1+(1:Int)),()),())<μ y1
  else K (true,())
theorem ah8 (env:EnvB prog G Θ aju) (h:∀ (a:iw) (b:iw),bH KG (a,b,())→(True)→aiv a b fun r=>r=((decide (a=b),()))):aG prog G CJ DU:=
 aX env mixed (fn:=f94) (c:=codeOf f94) (by kernel_rfl) (by kernel_rfl) akJ (by kernel_rfl) fun ⟨a,b,⟨⟩⟩ hin hp=>
 Eq.mpr (by kernel_rfl) (h a b hin hp)
def akK:Hints:=Go.Fw.hints [] [] [] [] []
def aiw (a0:fC) (a1:iw) (a2:Int) (b0:fC) (b1:iw) (b2:Int) (K:fG→Prop):Prop:=
 True∧
 let r0:=decide (a0=b0);
  bif r0 then
  True∧
 let r1:=decide (a1=b1);
  bif r1 then K (a2==b2,()) else K (false,())
  else K (false,())
theorem aia (env:EnvB prog G Θ ajv) (h:∀ (a0:fC) (a1:iw) (a2:Int) (b0:fC) (b1:iw) (b2:Int),bH KH ((a0,a1,a2,()),(b0,b1,b2,()),())→(True)→aiw a0 a1 a2 b0 b1 b2 fun r=>r=((decide ((a0,a1,a2,())=(b0,b1,b2,())),()))):aG prog G CS DV:=
 aX env mixed (fn:=f52) (c:=codeOf f52) (by kernel_rfl) (by kernel_rfl) akK (by kernel_rfl) fun ⟨⟨a0,a1,a2,⟨⟩⟩,⟨b0,b1,b2,⟨⟩⟩,⟨⟩⟩ hin hp=>
 Eq.mpr (by kernel_rfl) (h a0 a1 a2 b0 b1 b2 hin hp)
def ao2:Hints:=Go.Fw.hints [3,1] [] [] [] []
def ana (f0:Int) (f1:Int) (f2:Bool) (f3:Int) (f4:oq) (K:Gh→Prop):Prop:=
 (0:Nat)+f4.length≤big∧K ((f0,f1,f2,f3,f4,()),())
theorem amn (env:EnvB prog G Θ anQ) (h:∀ (f0:Int) (f1:Int) (f2:Bool) (f3:Int) (f4:oq),bH Og ((f0,f1,f2,f3,f4,()),())→(Sp.lT (f0,f1,f2,f3,f4,()))→ana f0 f1 f2 f3 f4 fun r=>r=(((f0,f1,f2,f3,f4,()),()))):aG prog G xU xG:=
 aX env mixed (fn:=f124) (c:=codeOf f124) (by kernel_rfl) (by kernel_rfl) ao2 (by kernel_rfl) fun ⟨⟨f0,f1,f2,f3,f4,⟨⟩⟩,⟨⟩⟩ hin hp=>
 Eq.mpr (by kernel_rfl) (h f0 f1 f2 f3 f4 hin hp)
def anb:Hints:=Go.Fw.hints [1] [] [] [] []
def akL (f0:Int) (f1:Int) (f2:Bool) (f3:Int) (f4:oq) (K:Gh→Prop):Prop:=
 f4.length≤(1000:Nat)∧K ((f0,f1,f2,f3,f4,()),())
theorem ake (env:EnvB prog G Θ alj) (h:∀ (f0:Int) (f1:Int) (f2:Bool) (f3:Int) (f4:oq),bH LZ ((f0,f1,f2,f3,f4,()),())→(Sp.lT (f0,f1,f2,f3,f4,()))→akL f0 f1 f2 f3 f4 fun r=>r=(((f0,f1,f2,f3,f4,()),()))):aG prog G Ea ES:=
 aX env mixed (fn:=f108) (c:=codeOf f108) (by kernel_rfl) (by kernel_rfl) anb (by kernel_rfl) fun ⟨⟨f0,f1,f2,f3,f4,⟨⟩⟩,⟨⟩⟩ hin hp=>
 Eq.mpr (by kernel_rfl) (h f0 f1 f2 f3 f4 hin hp)
def aqO:Hints:=Go.Fw.hints [] [] [] [] []
def ao3 (n:Int) (K:fG→Prop):Prop:=
 True∧
 let r0:=decide ((0:Int)≤n)&&decide (n≤(2:Int));
  K (r0,())
theorem aov (env:EnvB prog G Θ aqg) (h:∀ (n:Int),bH Qo (n,())→(True)→ao3 n fun r=>r=((decide ((0:Int)≤n)&&decide (n≤(2:Int)),()))):aG prog G Ib Jf:=
 aX env mixed (fn:=f163) (c:=codeOf f163) (by kernel_rfl) (by kernel_rfl) aqO (by kernel_rfl) fun ⟨n,⟨⟩⟩ hin hp=>
 Eq.mpr (by kernel_rfl) (h n hin hp)
def anc:Hints:=Go.Fw.hints [] [(2,⟨[],⟨[(1, .one (.int .i64)),(2, .iM [.sl 155 (.cons .str (.cons (.int .i64) .nil)) false, .sl 56 (.cons (.int .i64) (.cons (.int .i64) (.cons .bool (.cons (.int .i64) (.cons (.sl 94 (.cons .str (.cons (.int .i64) (.cons (.int .i64) (.cons .str .nil))))) .nil))))) false, .int .i64] 0)],[]⟩,⟨[(5, .one (.int .i64))],[]⟩⟩)] [] [] []
def akM (s0:fC) (s1:iw) (s2:Int) (id:Int) (K:jT→Prop):Prop:=
 let s0:=((id,(s0,s1,s2,()),()),());
  ∃ (I:bG→Prop),
  ∃ (μ:bG→Nat),
  I (((0:Int),()),())∧
  ∀ (y1:bG),
  I y1→
  bif decide (y1.1.1<(↑s1.length:Int)) then
  ((0:Int)≤y1.1.1∧y1.1.1<(↑s1.length:Int))∧
  bif (s1.getD (Int.toNat y1.1.1) ((0:Int),(0:Int),false,(0:Int),[],())).1==id then K (y1.1.1,())
  else s0=s0∧I ((i64.wrap (y1.1.1+(1:Int)),()),())∧μ ((i64.wrap (y1.1.1+(1:Int)),()),())<μ y1
  else K ((-1:Int),())
theorem akg (env:EnvB prog G Θ alk) (h:∀ (s0:fC) (s1:iw) (s2:Int) (id:Int),bH L6 ((s0,s1,s2,()),id,())→(True)→akM s0 s1 s2 id fun r=>r=((Sp.place s1 id,()))):aG prog G D8 ET:=
 aX env mixed (fn:=f123) (c:=codeOf f123) (by kernel_rfl) (by kernel_rfl) anc (by kernel_rfl) fun ⟨⟨s0,s1,s2,⟨⟩⟩,id,⟨⟩⟩ hin hp=>
 Eq.mpr (by kernel_rfl) (h s0 s1 s2 id hin hp)
def U2:Hints:=Go.Fw.hints [5] [] [] [] []
def Tn (s:fC) (K:fC×Unit→Prop):Prop:=
 ∀ (g0:Bool),(g0=true→s.length=(0:Nat))→bif g0 then K ([],()) else (0:Nat)+s.length≤big∧K (s,())
theorem SY (env:EnvB prog G Θ Un) (h:∀ (s:fC),bH zY (s,())→(s.length≤(1000:Nat))→Tn s fun r=>r=((s,()))):aG prog G nT qO:=
 aX env mixed (fn:=f143) (c:=codeOf f143) (by kernel_rfl) (by kernel_rfl) U2 (by kernel_rfl) fun ⟨s,⟨⟩⟩ hin hp=>
 Eq.mpr (by kernel_rfl) (h s hin hp)
def WU:Hints:=Go.Fw.hints [5] [] [] [] []
def U3 (s:oq) (K:oq×Unit→Prop):Prop:=
 ∀ (g0:Bool),(g0=true→s.length=(0:Nat))→bif g0 then K ([],()) else (0:Nat)+s.length≤big∧K (s,())
theorem UJ (env:EnvB prog G Θ VJ) (h:∀ (s:oq),bH Az (s,())→(s.length≤(1000:Nat))→U3 s fun r=>r=((s,()))):aG prog G oZ sJ:=
 aX env mixed (fn:=f164) (c:=codeOf f164) (by kernel_rfl) (by kernel_rfl) WU (by kernel_rfl) fun ⟨s,⟨⟩⟩ hin hp=>
 Eq.mpr (by kernel_rfl) (h s hin hp)
def ao4:Hints:=Go.Fw.hints [11,53,11,33,53,61,3] [(3,⟨[],⟨[(1, .one (.str)),(3, .dP 192 0),(5, .iM [.int .i64, .int .i64, .str] 0),(6, .dP 384 0)],[(192, .var [.int .i64, .int .i64, .bool, .int .i64, .sl 94 (.cons .str (.cons (.int .i64) (.cons (.int .i64) (.cons .str .nil)))) false]),(384, .var [.int .i64, .int .i64, .bool, .int .i64, .nil])]⟩,⟨[(7, .one (.ref 705)),(8, .one (.int .i64))],[(705, .arr 94 (.cons .str (.cons (.int .i64) (.cons (.int .i64) (.cons .str .nil)))) true)]⟩⟩),(9,⟨[],⟨[(1, .one (.str)),(3, .dP 192 0),(5, .iM [.int .i64, .int .i64, .str] 0),(6, .dP 384 0),(7, .one (.ref 705))],[(192, .var [.int .i64, .int .i64, .bool, .int .i64, .sl 94 (.cons .str (.cons (.int .i64) (.cons (.int .i64) (.cons .str .nil)))) false]),(384, .var [.int .i64, .int .i64, .bool, .int .i64, .nil]),(705, .arr 94 (.cons .str (.cons (.int .i64) (.cons (.int .i64) (.cons .str .nil)))) true)]⟩,⟨[(9, .one (.int .i64))],[]⟩⟩)] [] [] [(11,[.still 705])]
def ane (f0:Int) (f1:Int) (f2:Bool) (f3:Int) (f4:oq) (name:fK) (v0:Int) (v1:Int) (v2:fK) (K:Gh×Unit→Prop):Prop:=
 let s0:=((name,(),(v0,v1,v2,()),(),()),(f0,f1,f2,f3,f4,()),((0:Int),(0:Int),false,(0:Int),(),()),());
  ∃ (I:qL×oq×Unit→Prop),
  ∃ (μ:qL×oq×Unit→Nat),
  I (((),(0:Int),()),[],())∧
  ∀ (y1:qL×oq×Unit),
  I y1→
  bif decide (y1.1.2.1<(↑f4.length:Int)) then
  ((0:Int)≤y1.1.2.1∧y1.1.2.1<(↑f4.length:Int))∧
  bif !(f4.getD (Int.toNat y1.1.2.1) ([],(0:Int),(0:Int),[],())).1==name then
  ((0:Int)≤y1.1.2.1∧y1.1.2.1<(↑f4.length:Int))∧
  List.length y1.2.1+
  [((f4.getD (Int.toNat y1.1.2.1) ([],(0:Int),(0:Int),[],())).1,
  (f4.getD (Int.toNat y1.1.2.1) ([],(0:Int),(0:Int),[],())).2.1,
  (f4.getD (Int.toNat y1.1.2.1) ([],(0:Int),(0:Int),[],())).2.2.1,
  (f4.getD (Int.toNat y1.1.2.1) ([],(0:Int),(0:Int),[],())).2.2.2.1,())].length≤
  big∧
  s0=s0∧
  I
  (((),i64.wrap (y1.1.2.1+(1:Int)),()),
  y1.2.1++
  [((f4.getD (Int.toNat y1.1.2.1) ([],(0:Int),(0:Int),[],())).1,
  (f4.getD (Int.toNat y1.1.2.1) ([],(0:Int),(0:Int),[],())).2.1,
  (f4.getD (Int.toNat y1.1.2.1) ([],(0:Int),(0:Int),[],())).2.2.1,
  (f4.getD (Int.toNat y1.1.2.1) ([],(0:Int),(0:Int),[],())).2.2.2.1,())],
  ())∧
  μ
  (((),i64.wrap (y1.1.2.1+(1:Int)),()),
  y1.2.1++
  [((f4.getD (Int.toNat y1.1.2.1) ([],(0:Int),(0:Int),[],())).1,
  (f4.getD (Int.toNat y1.1.2.1) ([],(0:Int),(0:Int),[],())).2.1,
  (f4.getD (Int.toNat y1.1.2.1) ([],(0:Int),(0:Int),[],())).2.2.1,
  (f4.getD (Int.toNat y1.1.2.1) ([],(0:Int),(0:Int),[],())).2.2.2.1,())],
  ())<
  μ y1
  else
  s0=s0∧
  I (((),i64.wrap (y1.1.2.1+(1:Int)),()),y1.2.1,())∧μ (((),i64.wrap (y1.1.2.1+(1:Int)),()),y1.2.1,())<μ y1
  else
  bif v0 !=(0:Int) then
 let s2:=((name,(),(v0,v1,v2,()),(),(),()),(f0,f1,f2,f3,f4,()),((0:Int),(0:Int),false,(0:Int),(),()),y1.2.1,());
  ∃ (I:bG→Prop),
  ∃ (μ:bG→Nat),
  I (((0:Int),()),())∧
  ∀ (y3:bG),
  I y3→
  bif decide (y3.1.1<(↑(List.length y1.2.1):Int)) then
  ((0:Int)≤y3.1.1∧y3.1.1<(↑(List.length y1.2.1):Int))∧
  Int.toNat y3.1.1<List.length y1.2.1∧
  bif
  Op.bytesLess (List.getD y1.2.1 (Int.toNat y3.1.1) ([],(0:Int),(0:Int),[],())).1 name||
  (List.getD y1.2.1 (Int.toNat y3.1.1) ([],(0:Int),(0:Int),[],())).1==name then
  s2=s2∧I ((i64.wrap (y3.1.1+(1:Int)),()),())∧μ ((i64.wrap (y3.1.1+(1:Int)),()),())<μ y3
  else
  ((0:Int)≤y3.1.1∧y3.1.1≤(↑(List.length y1.2.1):Int))∧
  (0:Nat)+(List.drop (0:Nat) (List.take (Int.toNat y3.1.1) y1.2.1)).length≤big∧
  (List.drop (0:Nat) (List.take (Int.toNat y3.1.1) y1.2.1)).length+[(name,v0,v1,v2,())].length≤big∧
  ((0:Int)≤y3.1.1∧y3.1.1≤(↑(List.length y1.2.1):Int))∧
  (List.drop (0:Nat) (List.take (Int.toNat y3.1.1) y1.2.1)++[(name,v0,v1,v2,())]).length+
  (List.drop (Int.toNat y3.1.1) (List.take (List.length y1.2.1) y1.2.1)).length≤
  big∧
  K
  (((f0,f1,f2,f3,
  List.drop (0:Nat) (List.take (Int.toNat y3.1.1) y1.2.1)++[(name,v0,v1,v2,())]++
  List.drop (Int.toNat y3.1.1) (List.take (List.length y1.2.1) y1.2.1),
  ()),
  ()),
  ())
  else
  ((0:Int)≤y3.1.1∧y3.1.1≤(↑(List.length y1.2.1):Int))∧
  (0:Nat)+(List.drop (0:Nat) (List.take (Int.toNat y3.1.1) y1.2.1)).length≤big∧
  (List.drop (0:Nat) (List.take (Int.toNat y3.1.1) y1.2.1)).length+[(name,v0,v1,v2,())].length≤big∧
  ((0:Int)≤y3.1.1∧y3.1.1≤(↑(List.length y1.2.1):Int))∧
  (List.drop (0:Nat) (List.take (Int.toNat y3.1.1) y1.2.1)++[(name,v0,v1,v2,())]).length+
  (List.drop (Int.toNat y3.1.1) (List.take (List.length y1.2.1) y1.2.1)).length≤
  big∧
  K
  (((f0,f1,f2,f3,
  List.drop (0:Nat) (List.take (Int.toNat y3.1.1) y1.2.1)++[(name,v0,v1,v2,())]++
  List.drop (Int.toNat y3.1.1) (List.take (List.length y1.2.1) y1.2.1),
  ()),
  ()),
  ())
  else K (((f0,f1,f2,f3,y1.2.1,()),()),())
theorem amr (env:EnvB prog G Θ anR) (hne:∀ x,(Qp x).1→∃ t,(Qp x).2 t) (h:∀ (f0:Int) (f1:Int) (f2:Bool) (f3:Int) (f4:oq) (name:fK) (v0:Int) (v1:Int) (v2:fK),dh qP ((f0,f1,f2,f3,f4,()),name,(v0,v1,v2,()),())→(f4.length≤(1000:Nat))→ane f0 f1 f2 f3 f4 name v0 v1 v2 fun (r:Gh×Unit)=>(f4.length≤(1000:Nat),fun (x:Gh×Unit)=>
 x.1.1.1=f0∧x.1.1.2.1=f1∧x.1.1.2.2.1=f2∧x.1.1.2.2.2.1=f3∧x.1.1.2.2.2.2.1=Sp.mV f4 name v0 v1 v2).2
 r):aC prog G xR xH:=
 bI env mixed (fn:=f31) (c:=codeOf f31) (by kernel_rfl) (by kernel_rfl) ao4 (by kernel_rfl) hne fun ⟨⟨f0,f1,f2,f3,f4,⟨⟩⟩,name,⟨v0,v1,v2,⟨⟩⟩,⟨⟩⟩ hin hp=>
 Eq.mpr (by kernel_rfl) (h f0 f1 f2 f3 f4 name v0 v1 v2 hin hp)
def ao5:Hints:=Go.Fw.hints [8,10,13,15,18,24,26,31,33,40,42,48] [] [(4,⟨[],⟨[(0, .dP 48 0),(4, .dP 256 0),(5, .dP 320 0)],[(256, .var [.int .i64, .int .i64, .bool, .int .i64, .nil])]⟩,⟨[],[(48, .var [.sl 5 (.cons (.int .u8) .nil) false, .int .i64, .int .i64]),(320, .var [.int .i64, .int .i64, .bool, .int .i64, .nil])]⟩⟩),(6,⟨[(.obj 320 4,357,94,(.cons .str (.cons (.int .i64) (.cons (.int .i64) (.cons .str .nil)))),true)],⟨[(0, .dP 48 0),(4, .dP 256 0),(5, .dP 320 0)],[(256, .var [.int .i64, .int .i64, .bool, .int .i64, .nil])]⟩,⟨[],[(48, .var [.sl 5 (.cons (.int .u8) .nil) false, .int .i64, .int .i64]),(320, .var [.int .i64, .int .i64, .bool, .int .i64, .ref 357]),(357, .arr 94 (.cons .str (.cons (.int .i64) (.cons (.int .i64) (.cons .str .nil)))) true)]⟩⟩),(8,⟨[(.obj 320 4,357,94,(.cons .str (.cons (.int .i64) (.cons (.int .i64) (.cons .str .nil)))),true)],⟨[(0, .dP 48 0),(4, .dP 256 0),(5, .dP 320 0)],[(256, .var [.int .i64, .int .i64, .bool, .int .i64, .nil])]⟩,⟨[],[(48, .var [.sl 5 (.cons (.int .u8) .nil) false, .int .i64, .int .i64]),(320, .var [.int .i64, .int .i64, .bool, .int .i64, .ref 357]),(357, .arr 94 (.cons .str (.cons (.int .i64) (.cons (.int .i64) (.cons .str .nil)))) true)]⟩⟩),(10,⟨[(.obj 320 4,357,94,(.cons .str (.cons (.int .i64) (.cons (.int .i64) (.cons .str .nil)))),true)],⟨[(0, .dP 48 0),(4, .dP 256 0),(5, .dP 320 0)],[(256, .var [.int .i64, .int .i64, .bool, .int .i64, .nil])]⟩,⟨[],[(48, .var [.sl 5 (.cons (.int .u8) .nil) false, .int .i64, .int .i64]),(320, .var [.int .i64, .int .i64, .bool, .int .i64, .ref 357]),(357, .arr 94 (.cons .str (.cons (.int .i64) (.cons (.int .i64) (.cons .str .nil)))) true)]⟩⟩),(12,⟨[(.obj 320 4,357,94,(.cons .str (.cons (.int .i64) (.cons (.int .i64) (.cons .str .nil)))),true)],⟨[(4, .dP 256 0),(5, .dP 320 0)],[(256, .var [.int .i64, .int .i64, .bool, .int .i64, .nil])]⟩,⟨[],[(48, .var [.sl 5 (.cons (.int .u8) .nil) false, .int .i64, .int .i64]),(320, .var [.int .i64, .int .i64, .bool, .int .i64, .ref 357]),(357, .arr 94 (.cons .str (.cons (.int .i64) (.cons (.int .i64) (.cons .str .nil)))) true)]⟩⟩)] [48] []
def anf (c0:dB) (c1:Int) (c2:Int) (id:Int) (K:Gh×jm→Prop):Prop:=
 (0:Int)≤c1∧
 ∀ (r0:gB),
 (0:Int)≤r0.2.1.2.1∧(0:Int)≤r0.1.1∧((0:Int)<(3:Int)→r0.1.1<(3:Int))∧((3:Int)≤(0:Int)→r0.1.1=(0:Int))→
 (0:Int)≤r0.2.1.2.1∧
 ∀ (r1:fG×jm),
 (r1.2.1.2.1-(0:Int)).NonNeg→
 let s2:=(((),(),(),()),((0:Int),(0:Int),false,(0:Int),(),()),());
  ∃ (J:Unit×BD×av1×Unit→Prop),
  ((0:Int)≤r1.2.1.2.1∧
  ∀ (r3:fG×jm),
  (r3.2.1.2.1-(0:Int)).NonNeg→
  bif r3.1.1 then
  (0:Int)≤r3.2.1.2.1∧
  ∀ (r4:gB),
  (0:Int)≤r4.2.1.2.1∧(0:Int)≤r4.1.1∧((0:Int)<(7:Int)→r4.1.1<(7:Int))∧((7:Int)≤(0:Int)→r4.1.1=(0:Int))→
  s2=s2∧J ((),(r4.2.1.1,r4.2.1.2.1,r4.2.1.2.2.1,()),(id,r0.1.1,r1.1.1,r4.1.1,(),()),())
  else s2=s2∧J ((),(r3.2.1.1,r3.2.1.2.1,r3.2.1.2.2.1,()),(id,r0.1.1,r1.1.1,(0:Int),(),()),()))∧
  ∀ (y5:Unit×BD×av1×Unit),
  J y5→
 let s6:=(((),(),(),()),((0:Int),(0:Int),false,(0:Int),(),()),());
  ∃ (J:
  agR→Prop),
  ((0:Int)≤y5.2.1.2.1∧
  ∀ (r7:fG×jm),
  (r7.2.1.2.1-(0:Int)).NonNeg→
  bif !r7.1.1 then
  (0:Int)≤r7.2.1.2.1∧
  ∀ (r8:gB),
  (0:Int)≤r8.2.1.2.1∧
  (0:Int)≤r8.1.1∧((0:Int)<(4:Int)→r8.1.1<(4:Int))∧((4:Int)≤(0:Int)→r8.1.1=(0:Int))→
  True∧
 let r9:=r8.1.1;
  (0:Nat)≤(1000:Nat)∧
  ∀ (r10:Gh×Unit),
  r10.1.1.1=y5.2.2.1.1∧
  r10.1.1.2.1=y5.2.2.1.2.1∧
  r10.1.1.2.2.1=y5.2.2.1.2.2.1∧
  r10.1.1.2.2.2.1=y5.2.2.1.2.2.2.1∧r10.1.1.2.2.2.2.1=Sp.mV [] [(97:UInt8)] (1:Int) r9 []→
  s6=s6∧
  J
  ((),(r8.2.1.1,r8.2.1.2.1,r8.2.1.2.2.1,()),
  (r10.1.1.1,r10.1.1.2.1,r10.1.1.2.2.1,r10.1.1.2.2.2.1,(),()),
  r10.1.1.2.2.2.2.1,())
  else
  s6=s6∧
  J
  ((),(r7.2.1.1,r7.2.1.2.1,r7.2.1.2.2.1,()),
  (y5.2.2.1.1,y5.2.2.1.2.1,y5.2.2.1.2.2.1,y5.2.2.1.2.2.2.1,(),()),[],()))∧
  ∀ (y11:agR),
  J y11→
 let s12:=(((),(),(),()),((0:Int),(0:Int),false,(0:Int),(),()),());
  ∃ (J:
  agR→
  Prop),
  ((0:Int)≤y11.2.1.2.1∧
  ∀ (r13:fG×jm),
  (r13.2.1.2.1-(0:Int)).NonNeg→
  bif r13.1.1 then
  (0:Int)≤r13.2.1.2.1∧
  ∀ (RQ:gB),
  (0:Int)≤RQ.2.1.2.1∧
  (0:Int)≤RQ.1.1∧((0:Int)<(4:Int)→RQ.1.1<(4:Int))∧((4:Int)≤(0:Int)→RQ.1.1=(0:Int))→
  True∧
 let r15:=RQ.1.1;
  List.length y11.2.2.2.1≤(1000:Nat)∧
  ∀ (r16:Gh×Unit),
  r16.1.1.1=y11.2.2.1.1∧
  r16.1.1.2.1=y11.2.2.1.2.1∧
  r16.1.1.2.2.1=y11.2.2.1.2.2.1∧
  r16.1.1.2.2.2.1=y11.2.2.1.2.2.2.1∧
  r16.1.1.2.2.2.2.1=Sp.mV y11.2.2.2.1 [(98:UInt8)] (1:Int) r15 []→
  s12=s12∧
  J
  ((),(RQ.2.1.1,RQ.2.1.2.1,RQ.2.1.2.2.1,()),
  (r16.1.1.1,r16.1.1.2.1,r16.1.1.2.2.1,r16.1.1.2.2.2.1,(),()),
  r16.1.1.2.2.2.2.1,())
  else
  s12=s12∧
  J
  ((),(r13.2.1.1,r13.2.1.2.1,r13.2.1.2.2.1,()),
  (y11.2.2.1.1,y11.2.2.1.2.1,y11.2.2.1.2.2.1,y11.2.2.1.2.2.2.1,(),()),
  y11.2.2.2.1,()))∧
  ∀
  (y17:
  agR),
  J y17→
 let s18:=(((),(),(),()),((0:Int),(0:Int),false,(0:Int),(),()),());
  ∃ (J:
  agR→
  Prop),
  ((0:Int)≤y17.2.1.2.1∧
  ∀ (Uj:fG×jm),
  (Uj.2.1.2.1-(0:Int)).NonNeg→
  bif !Uj.1.1 then
  ((0:Int)≤Uj.2.1.2.1∧
  [([(105:UInt8),110,107],()),([(115:UInt8),101,97],())]≠[])∧
  ∀ (r20:wH),
  (0:Int)≤r20.2.1.2.1∧
  (r20.1.1,())∈
  [([(105:UInt8),110,107],()),([(115:UInt8),101,97],())]→
  True∧
 let r21:=r20.1.1;
  List.length y17.2.2.2.1≤(1000:Nat)∧
  ∀ (r22:Gh×Unit),
  r22.1.1.1=y17.2.2.1.1∧
  r22.1.1.2.1=y17.2.2.1.2.1∧
  r22.1.1.2.2.1=y17.2.2.1.2.2.1∧
  r22.1.1.2.2.2.1=y17.2.2.1.2.2.2.1∧
  r22.1.1.2.2.2.2.1=Sp.mV y17.2.2.2.1 [(110:UInt8)] (2:Int) (0:Int) r21→
  s18=s18∧
  J
  ((),(r20.2.1.1,r20.2.1.2.1,r20.2.1.2.2.1,()),
  (r22.1.1.1,r22.1.1.2.1,r22.1.1.2.2.1,r22.1.1.2.2.2.1,(),()),
  r22.1.1.2.2.2.2.1,())
  else
  s18=s18∧
  J
  ((),(Uj.2.1.1,Uj.2.1.2.1,Uj.2.1.2.2.1,()),
  (y17.2.2.1.1,y17.2.2.1.2.1,y17.2.2.1.2.2.1,y17.2.2.1.2.2.2.1,(),()),
  y17.2.2.2.1,()))∧
  ∀
  (y23:
  agR),
  J y23→
 let s24:=(((),(),()),((0:Int),(0:Int),false,(0:Int),(),()),());
  ∃ (J:
  agR→
  Prop),
  ((0:Int)≤y23.2.1.2.1∧
  ∀ (r25:fG×jm),
  (r25.2.1.2.1-(0:Int)).NonNeg→
  bif r25.1.1 then
  ((0:Int)≤r25.2.1.2.1∧
  [([(114:UInt8),101,100],()),
  ([(98:UInt8),108,117,101],())]≠
  [])∧
  ∀ (Yz:wH),
  (0:Int)≤Yz.2.1.2.1∧
  (Yz.1.1,())∈
  [([(114:UInt8),101,100],()),
  ([(98:UInt8),108,117,101],())]→
  True∧
 let r27:=Yz.1.1;
  List.length y23.2.2.2.1≤(1000:Nat)∧
  ∀ (r28:Gh×Unit),
  r28.1.1.1=y23.2.2.1.1∧
  r28.1.1.2.1=y23.2.2.1.2.1∧
  r28.1.1.2.2.1=y23.2.2.1.2.2.1∧
  r28.1.1.2.2.2.1=y23.2.2.1.2.2.2.1∧
  r28.1.1.2.2.2.2.1=Sp.mV y23.2.2.2.1 [(116:UInt8)] (2:Int) (0:Int) r27→
  s24=s24∧
  J
  ((),(Yz.2.1.1,Yz.2.1.2.1,Yz.2.1.2.2.1,()),
  (r28.1.1.1,r28.1.1.2.1,r28.1.1.2.2.1,r28.1.1.2.2.2.1,(),()),
  r28.1.1.2.2.2.2.1,())
  else
  s24=s24∧
  J
  ((),(r25.2.1.1,r25.2.1.2.1,r25.2.1.2.2.1,()),
  (y23.2.2.1.1,y23.2.2.1.2.1,y23.2.2.1.2.2.1,y23.2.2.1.2.2.2.1,(),()),
  y23.2.2.2.1,()))∧
  ∀
  (y29:
  agR),
  J y29→
  K
  (((y29.2.2.1.1,y29.2.2.1.2.1,y29.2.2.1.2.2.1,y29.2.2.1.2.2.2.1,
  y29.2.2.2.1,()),
  ()),
  (y29.2.1.1,y29.2.1.2.1,y29.2.1.2.2.1,()),())
theorem amy (env:EnvB prog G Θ anS) (hne:∀ x,(Qq x).1→∃ t,(Qq x).2 t) (h:∀ (c0:dB) (c1:Int) (c2:Int) (id:Int),dh lN ((c0,c1,c2,()),id,())→((0:Int)≤c1)→anf c0 c1 c2 id fun (r:Gh×jm)=>((0:Int)≤c1,fun (x:Gh×jm)=>
 (0:Int)≤x.2.1.2.1∧
 x.1.1.1=id∧
 (0:Int)≤x.1.1.2.1∧
 x.1.1.2.1≤(2:Int)∧
 (0:Int)≤x.1.1.2.2.2.1∧x.1.1.2.2.2.1≤(6:Int)∧Sp.uf Sp.usual x.1.1.2.2.2.2.1=true∧x.1.1.2.2.2.2.1.length≤(4:Nat)).2
 r):aC prog G ql oN:=
 bI env mixed (fn:=f138) (c:=codeOf f138) (by kernel_rfl) (by kernel_rfl) ao5 (by kernel_rfl) hne fun ⟨⟨c0,c1,c2,⟨⟩⟩,id,⟨⟩⟩ hin hp=>
 Eq.mpr (by kernel_rfl) (h c0 c1 c2 id hin hp)
def aqP:Hints:=Go.Fw.hints [8,15,21,27,45] [] [] [48] []
def ao6 (c0:dB) (c1:Int) (c2:Int) (K:Gh×jm→Prop):Prop:=
 (0:Int)≤c1∧
 ∀ (r0:gB),
 (0:Int)≤r0.2.1.2.1∧(0:Int)≤r0.1.1∧((0:Int)<(7:Int)→r0.1.1<(7:Int))∧((7:Int)≤(0:Int)→r0.1.1=(0:Int))→
 (0:Int)≤r0.2.1.2.1∧
 ∀ (r1:Gh×jm),
 (0:Int)≤r1.2.1.2.1∧
 r1.1.1.1=i64.wrap ((1:Int)+r0.1.1)∧
 (0:Int)≤r1.1.1.2.1∧
 r1.1.1.2.1≤(2:Int)∧
 (0:Int)≤r1.1.1.2.2.2.1∧r1.1.1.2.2.2.1≤(6:Int)∧Sp.uf Sp.usual r1.1.1.2.2.2.2.1=true∧r1.1.1.2.2.2.2.1.length≤(4:Nat)→
 (0:Int)≤r1.2.1.2.1∧
 ∀ (r2:gB),
 (0:Int)≤r2.2.1.2.1∧(0:Int)≤r2.1.1∧((0:Int)<(14:Int)→r2.1.1<(14:Int))∧((14:Int)≤(0:Int)→r2.1.1=(0:Int))→
 bif r2.1.1==(0:Int) then
 ((0:Int)≤r2.2.1.2.1∧[((0:Int),()),((60:Int),()),((61:Int),()),((-1:Int),())]≠[])∧
 ∀ (r3:gB),
 (0:Int)≤r3.2.1.2.1∧(r3.1.1,())∈[((0:Int),()),((60:Int),()),((61:Int),()),((-1:Int),())]→
 K
 (((r3.1.1,r1.1.1.2.1,r1.1.1.2.2.1,r1.1.1.2.2.2.1,r1.1.1.2.2.2.2.1,()),()),
 (r3.2.1.1,r3.2.1.2.1,r3.2.1.2.2.1,()),())
 else
 bif r2.1.1==(1:Int) then
 ((0:Int)≤r2.2.1.2.1∧[((-1:Int),()),((2:Int),()),((3:Int),())]≠[])∧
 ∀ (r4:gB),
 (0:Int)≤r4.2.1.2.1∧(r4.1.1,())∈[((-1:Int),()),((2:Int),()),((3:Int),())]→
 K
 (((r1.1.1.1,r4.1.1,r1.1.1.2.2.1,r1.1.1.2.2.2.1,r1.1.1.2.2.2.2.1,()),()),
 (r4.2.1.1,r4.2.1.2.1,r4.2.1.2.2.1,()),())
 else
 bif r2.1.1==(2:Int) then
 ((0:Int)≤r2.2.1.2.1∧[((-1:Int),()),((60:Int),()),((61:Int),()),((9223372036854775807:Int),())]≠[])∧
 ∀ (r5:gB),
 (0:Int)≤r5.2.1.2.1∧(r5.1.1,())∈[((-1:Int),()),((60:Int),()),((61:Int),()),((9223372036854775807:Int),())]→
 K
 (((r1.1.1.1,r1.1.1.2.1,r1.1.1.2.2.1,r5.1.1,r1.1.1.2.2.2.2.1,()),()),
 (r5.2.1.1,r5.2.1.2.1,r5.2.1.2.2.1,()),())
 else
 bif r2.1.1==(3:Int) then
 (0:Int)≤r2.2.1.2.1∧
 ∀ (r6:wH),
 (0:Int)≤r6.2.1.2.1∧r6.1.1.length≤(1:Nat)→
 (0:Int)≤r6.2.1.2.1∧
 ∀ (r7:acE),
 (0:Int)≤r7.2.1.2.1∧r7.1.1.2.2.1.length≤(10:Nat)→
 List.length r1.1.1.2.2.2.2.1+[(r6.1.1,r7.1.1.1,r7.1.1.2.1,r7.1.1.2.2.1,())].length≤big∧
 K
 (((r1.1.1.1,r1.1.1.2.1,r1.1.1.2.2.1,r1.1.1.2.2.2.1,
 r1.1.1.2.2.2.2.1++[(r6.1.1,r7.1.1.1,r7.1.1.2.1,r7.1.1.2.2.1,())],()),
 ()),
 (r7.2.1.1,r7.2.1.2.1,r7.2.1.2.2.1,()),())
 else
 bif r2.1.1==(4:Int) then
 True∧
 let r8:=[(114:UInt8),101,100];
  List.length r1.1.1.2.2.2.2.1≤(1000:Nat)∧
  ∀ (r9:Gh×Unit),
  r9.1.1.1=r1.1.1.1∧
  r9.1.1.2.1=r1.1.1.2.1∧
  r9.1.1.2.2.1=r1.1.1.2.2.1∧
  r9.1.1.2.2.2.1=r1.1.1.2.2.2.1∧
  r9.1.1.2.2.2.2.1=Sp.mV r1.1.1.2.2.2.2.1 [(97:UInt8)] (2:Int) (0:Int) r8→
  K
  (((r9.1.1.1,r9.1.1.2.1,r9.1.1.2.2.1,r9.1.1.2.2.2.1,r9.1.1.2.2.2.2.1,()),()),
  (r2.2.1.1,r2.2.1.2.1,r2.2.1.2.2.1,()),())
  else
  K
  (((r1.1.1.1,r1.1.1.2.1,r1.1.1.2.2.1,r1.1.1.2.2.2.1,r1.1.1.2.2.2.2.1,()),()),
  (r2.2.1.1,r2.2.1.2.1,r2.2.1.2.2.1,()),())
theorem aox (env:EnvB prog G Θ aqh) (hne:∀ x,(RZ x).1→∃ t,(RZ x).2 t) (h:∀ (c0:dB) (c1:Int) (c2:Int),dh BK ((c0,c1,c2,()),())→((0:Int)≤c1)→ao6 c0 c1 c2 fun (r:Gh×jm)=>((0:Int)≤c1,fun (x:Gh×jm)=>
 (0:Int)≤x.2.1.2.1∧x.1.1.2.2.2.2.1.length≤(10:Nat)).2
 r):aC prog G Ie Jg:=
 bI env mixed (fn:=f135) (c:=codeOf f135) (by kernel_rfl) (by kernel_rfl) aqP (by kernel_rfl) hne fun ⟨⟨c0,c1,c2,⟨⟩⟩,⟨⟩⟩ hin hp=>
 Eq.mpr (by kernel_rfl) (h c0 c1 c2 hin hp)
def ang:Hints:=Go.Fw.hints [3,3] [] [] [] []
def akN (s:fC) (K:PG→Prop):Prop:=
 (0:Nat)+s.length≤big∧K (((s,[],(1:Int),()),()),())
theorem aki (env:EnvB prog G Θ alm) (hne:∀ x,(Oh x).1→∃ t,(Oh x).2 t) (h:∀ (s:fC),dh xI (s,())→(s.length≤(1000:Nat))→akN s fun (r:PG)=>(s.length≤(1000:Nat),
 fun (x:PG)=>
 x.1.1.1=s∧x.1.1.2.1=[]∧x.1.1.2.2.1=(1:Int)).2
 r):aC prog G D9 EU:=
 bI env mixed (fn:=f157) (c:=codeOf f157) (by kernel_rfl) (by kernel_rfl) ang (by kernel_rfl) hne fun ⟨s,⟨⟩⟩ hin hp=>
 Eq.mpr (by kernel_rfl) (h s hin hp)
def ao7:Hints:=Go.Fw.hints [5,5,26,27] [(3,⟨[(.obj 192 1,226,56,(.cons (.int .i64) (.cons (.int .i64) (.cons .bool (.cons (.int .i64) (.cons (.sl 94 (.cons .str (.cons (.int .i64) (.cons (.int .i64) (.cons .str .nil))))) .nil))))),true)],⟨[(1, .iM [.sl 155 (.cons .str (.cons (.int .i64) .nil)) false, .sl 56 (.cons (.int .i64) (.cons (.int .i64) (.cons .bool (.cons (.int .i64) (.cons (.sl 94 (.cons .str (.cons (.int .i64) (.cons (.int .i64) (.cons .str .nil))))) .nil))))) false, .int .i64] 0),(2, .dP 128 0),(3, .dP 192 0)],[(128, .var [.nil, .nil, .int .i64]),(513, .arr 155 (.cons .str (.cons (.int .i64) .nil)) true)]⟩,⟨[(4, .one (.int .i64))],[(192, .var [.ref 513, .ref 226, .int .i64]),(226, .arr 56 (.cons (.int .i64) (.cons (.int .i64) (.cons .bool (.cons (.int .i64) (.cons (.sl 94 (.cons .str (.cons (.int .i64) (.cons (.int .i64) (.cons .str .nil))))) .nil))))) true)]⟩⟩)] [] [] []
def anh (s0:fC) (s1:iw) (s2:Int) (K:PG→Prop):Prop:=
 (0:Nat)+s0.length≤big∧
 let Tm:=(((s0,s1,s2,()),(),(),()),((),(),(0:Int),()),s0,());
  ∃ (I:jT×(Unit×qL)×iw×Unit→Prop),
  ∃ (μ:jT×(Unit×qL)×iw×Unit→Nat),
  I (((0:Int),()),((),(),s2,()),[],())∧
  ∀ (y1:jT×(Unit×qL)×iw×Unit),
  I y1→
  bif decide (y1.1.1<(↑s1.length:Int)) then
  ((0:Int)≤y1.1.1∧y1.1.1<(↑s1.length:Int))∧
  Sp.lT
  ((s1.getD (Int.toNat y1.1.1) ((0:Int),(0:Int),false,(0:Int),[],())).1,
  (s1.getD (Int.toNat y1.1.1) ((0:Int),(0:Int),false,(0:Int),[],())).2.1,
  (s1.getD (Int.toNat y1.1.1) ((0:Int),(0:Int),false,(0:Int),[],())).2.2.1,
  (s1.getD (Int.toNat y1.1.1) ((0:Int),(0:Int),false,(0:Int),[],())).2.2.2.1,
  (s1.getD (Int.toNat y1.1.1) ((0:Int),(0:Int),false,(0:Int),[],())).2.2.2.2.1,())∧
 let r2:=(s1.getD (Int.toNat y1.1.1) ((0:Int),(0:Int),false,(0:Int),[],())).1;
 let r3:=(s1.getD (Int.toNat y1.1.1) ((0:Int),(0:Int),false,(0:Int),[],())).2.1;
 let r4:=(s1.getD (Int.toNat y1.1.1) ((0:Int),(0:Int),false,(0:Int),[],())).2.2.1;
 let r5:=(s1.getD (Int.toNat y1.1.1) ((0:Int),(0:Int),false,(0:Int),[],())).2.2.2.1;
 let r6:=(s1.getD (Int.toNat y1.1.1) ((0:Int),(0:Int),false,(0:Int),[],())).2.2.2.2.1;
  List.length y1.2.2.1+[(r2,r3,r4,r5,r6,())].length≤big∧
  Tm=Tm∧
  I ((i64.wrap (y1.1.1+(1:Int)),()),((),(),y1.2.1.2.2.1,()),y1.2.2.1++[(r2,r3,r4,r5,r6,())],())∧
  μ ((i64.wrap (y1.1.1+(1:Int)),()),((),(),y1.2.1.2.2.1,()),y1.2.2.1++[(r2,r3,r4,r5,r6,())],())<μ y1
  else K (((s0,y1.2.2.1,y1.2.1.2.2.1,()),()),())
theorem ams (env:EnvB prog G Θ anT) (hne:∀ x,(Qr x).1→∃ t,(Qr x).2 t) (h:∀ (s0:fC) (s1:iw) (s2:Int),dh lQ ((s0,s1,s2,()),())→(Sp.jC (s0,s1,s2,()))→anh s0 s1 s2 fun (r:PG)=>(Sp.jC (s0,s1,s2,()),
 fun (x:PG)=>
 (x.1.1.1,x.1.1.2.1,x.1.1.2.2.1,())=(s0,s1,s2,())).2
 r):aC prog G qm oO:=
 bI env mixed (fn:=f89) (c:=codeOf f89) (by kernel_rfl) (by kernel_rfl) ao7 (by kernel_rfl) hne fun ⟨⟨s0,s1,s2,⟨⟩⟩,⟨⟩⟩ hin hp=>
 Eq.mpr (by kernel_rfl) (h s0 s1 s2 hin hp)
def aix:Hints:=Go.Fw.hints [8,8,10,15,27,34,2,3] [] [] [256] []
def agZ (s0:fC) (s1:iw) (s2:Int) (f0:Int) (f1:Int) (f2:Bool) (f3:Int) (f4:oq) (K:asC→Prop):Prop:=
 Sp.jC (s0,s1,s2,())∧
 ∀ (r0:PG),
 (r0.1.1.1,r0.1.1.2.1,r0.1.1.2.2.1,())=(s0,s1,s2,())→
 Sp.lT (f0,f1,f2,f3,f4,())∧
 True∧
 let r1:=Sp.dF (r0.1.1.1,r0.1.1.2.1,r0.1.1.2.2.1,());
  bif !r1 then K (((r0.1.1.1,r0.1.1.2.1,r0.1.1.2.2.1,()),(0:Int),false,()),())
  else
  bif decide ((↑(List.length r0.1.1.2.1):Int)≥(12:Int)) then
  K (((r0.1.1.1,r0.1.1.2.1,r0.1.1.2.2.1,()),(0:Int),false,()),())
  else
  True∧
 let r2:=Sp.eU r0.1.1.1 (r0.1.1.2.2.1,f1,f2,f3,f4,());
  bif !r2 then K (((r0.1.1.1,r0.1.1.2.1,r0.1.1.2.2.1,()),(0:Int),false,()),())
  else
  List.length r0.1.1.2.1+[(r0.1.1.2.2.1,f1,f2,f3,f4,())].length≤big∧
  K
  (((r0.1.1.1,r0.1.1.2.1++[(r0.1.1.2.2.1,f1,f2,f3,f4,())],i64.wrap (r0.1.1.2.2.1+(1:Int)),()),
  r0.1.1.2.2.1,true,()),
  ())
theorem agt (env:EnvB prog G Θ ahI) (hne:∀ x,(KI x).1→∃ t,(KI x).2 t) (h:∀ (s0:fC) (s1:iw) (s2:Int) (f0:Int) (f1:Int) (f2:Bool) (f3:Int) (f4:oq),dh lU ((s0,s1,s2,()),(f0,f1,f2,f3,f4,()),())→(Sp.jC (s0,s1,s2,())∧Sp.lT (f0,f1,f2,f3,f4,()))→agZ s0 s1 s2 f0 f1 f2 f3 f4 fun (r:asC)=>(Sp.jC (s0,s1,s2,())∧Sp.lT (f0,f1,f2,f3,f4,()),
 fun
 (x:
 asC)=>
 x.1.1.1=(Sp.bU (s0,s1,s2,()) (f0,f1,f2,f3,f4,())).1.1∧
 x.1.1.2.1=(Sp.bU (s0,s1,s2,()) (f0,f1,f2,f3,f4,())).1.2.1∧
 x.1.1.2.2.1=(Sp.bU (s0,s1,s2,()) (f0,f1,f2,f3,f4,())).1.2.2.1∧
 x.1.2.1=(Sp.bU (s0,s1,s2,()) (f0,f1,f2,f3,f4,())).2.1∧x.1.2.2.1=(Sp.bU (s0,s1,s2,()) (f0,f1,f2,f3,f4,())).2.2).2
 r):aC prog G qC rF:=
 bI env mixed (fn:=f137) (c:=codeOf f137) (by kernel_rfl) (by kernel_rfl) aix (by kernel_rfl) hne fun ⟨⟨s0,s1,s2,⟨⟩⟩,⟨f0,f1,f2,f3,f4,⟨⟩⟩,⟨⟩⟩ hin hp=>
 Eq.mpr (by kernel_rfl) (h s0 s1 s2 f0 f1 f2 f3 f4 hin hp)
def aiy:Hints:=Go.Fw.hints [20,8,11,13,20,2] [] [] [] [(5,[.still 514])]
def ag0 (s0:fC) (s1:iw) (s2:Int) (id:Int) (K:auE→Prop):Prop:=
 Sp.jC (s0,s1,s2,())∧
 ∀ (r0:PG),
 (r0.1.1.1,r0.1.1.2.1,r0.1.1.2.2.1,())=(s0,s1,s2,())→
 True∧
 let r1:=Sp.place r0.1.1.2.1 id;
  True∧
 let r2:=Sp.dF (r0.1.1.1,r0.1.1.2.1,r0.1.1.2.2.1,());
  bif !r2 then K (((r0.1.1.1,r0.1.1.2.1,r0.1.1.2.2.1,()),false,()),())
  else
  bif decide (r1<(0:Int)) then K (((r0.1.1.1,r0.1.1.2.1,r0.1.1.2.2.1,()),false,()),())
  else
  ((0:Int)≤r1∧r1≤(↑(List.length r0.1.1.2.1):Int))∧
  (0:Nat)+(List.drop (0:Nat) (List.take r1.toNat r0.1.1.2.1)).length≤big∧
  ((0:Int)≤i64.wrap (r1+(1:Int))∧i64.wrap (r1+(1:Int))≤(↑(List.length r0.1.1.2.1):Int))∧
  (List.drop (0:Nat) (List.take r1.toNat r0.1.1.2.1)).length+
  (List.drop (i64.wrap (r1+(1:Int))).toNat (List.take (List.length r0.1.1.2.1) r0.1.1.2.1)).length≤
  big∧
  K
  (((r0.1.1.1,
  List.drop (0:Nat) (List.take r1.toNat r0.1.1.2.1)++
  List.drop (i64.wrap (r1+(1:Int))).toNat (List.take (List.length r0.1.1.2.1) r0.1.1.2.1),
  r0.1.1.2.2.1,()),
  true,()),
  ())
theorem agv (env:EnvB prog G Θ ahJ) (hne:∀ x,(KJ x).1→∃ t,(KJ x).2 t) (h:∀ (s0:fC) (s1:iw) (s2:Int) (id:Int),dh ug ((s0,s1,s2,()),id,())→(Sp.jC (s0,s1,s2,()))→ag0 s0 s1 s2 id fun (r:auE)=>(Sp.jC (s0,s1,s2,()),
 fun (x:auE)=>
 x.1.1.1=(Sp.fB (s0,s1,s2,()) id).1.1∧
 x.1.1.2.1=(Sp.fB (s0,s1,s2,()) id).1.2.1∧
 x.1.1.2.2.1=(Sp.fB (s0,s1,s2,()) id).1.2.2.1∧x.1.2.1=(Sp.fB (s0,s1,s2,()) id).2).2
 r):aC prog G Ak Dk:=
 bI env mixed (fn:=f159) (c:=codeOf f159) (by kernel_rfl) (by kernel_rfl) aiy (by kernel_rfl) hne fun ⟨⟨s0,s1,s2,⟨⟩⟩,id,⟨⟩⟩ hin hp=>
 Eq.mpr (by kernel_rfl) (h s0 s1 s2 id hin hp)
def ani:Hints:=Go.Fw.hints [6,9,18,28,37] [(3,⟨[(.obj 192 0,225,155,(.cons .str (.cons (.int .i64) .nil)),true),(.obj 192 1,226,56,(.cons (.int .i64) (.cons (.int .i64) (.cons .bool (.cons (.int .i64) (.cons (.sl 94 (.cons .str (.cons (.int .i64) (.cons (.int .i64) (.cons .str .nil))))) .nil))))),true)],⟨[(0, .dP 48 0),(2, .dP 128 0),(3, .dP 192 0)],[(128, .var [.nil, .nil, .int .i64])]⟩,⟨[(4, .one (.int .i64))],[(48, .var [.sl 5 (.cons (.int .u8) .nil) false, .int .i64, .int .i64]),(192, .var [.ref 225, .ref 226, .int .i64]),(225, .arr 155 (.cons .str (.cons (.int .i64) .nil)) true),(226, .arr 56 (.cons (.int .i64) (.cons (.int .i64) (.cons .bool (.cons (.int .i64) (.cons (.sl 94 (.cons .str (.cons (.int .i64) (.cons (.int .i64) (.cons .str .nil))))) .nil))))) true)]⟩⟩)] [] [48] []
def akO (c0:dB) (c1:Int) (c2:Int) (K:QJ×jm→Prop):Prop:=
 True∧
 ∀ (r0:(fC×Unit)×Unit),
 r0.1.1=Sp.usual→
 List.length r0.1.1≤(1000:Nat)∧
 ∀ (r1:PG),
 r1.1.1.1=r0.1.1∧r1.1.1.2.1=[]∧r1.1.1.2.2.1=(1:Int)→
 let s2:=(((),(),(),()),((),(),(0:Int),()),());
  ∃ (I:
  av2→
  Prop),
  ∃ (μ:
  av2→
  Nat),
  I (((0:Int),()),(c0,c1,c2,()),((),(),r1.1.1.2.2.1,()),r1.1.1.1,r1.1.1.2.1,())∧
  ∀
  (y3:
  av2),
  I y3→
  (0:Int)≤y3.2.1.2.1∧
  ∀ (r4:gB),
  (0:Int)≤r4.2.1.2.1∧(0:Int)≤r4.1.1∧((0:Int)<(7:Int)→r4.1.1<(7:Int))∧((7:Int)≤(0:Int)→r4.1.1=(0:Int))→
  bif decide (y3.1.1<i64.wrap ((1:Int)+r4.1.1)) then
  (0:Int)≤r4.2.1.2.1∧
  ∀
  (r5:
  Gh×jm),
  (0:Int)≤r5.2.1.2.1∧
  r5.1.1.1=(1:Int)∧
  (0:Int)≤r5.1.1.2.1∧
  r5.1.1.2.1≤(2:Int)∧
  (0:Int)≤r5.1.1.2.2.2.1∧
  r5.1.1.2.2.2.1≤(6:Int)∧Sp.uf Sp.usual r5.1.1.2.2.2.2.1=true∧r5.1.1.2.2.2.2.1.length≤(4:Nat)→
  (Sp.jC (y3.2.2.2.1,y3.2.2.2.2.1,y3.2.2.1.2.2.1,())∧
  Sp.lT (r5.1.1.1,r5.1.1.2.1,r5.1.1.2.2.1,r5.1.1.2.2.2.1,r5.1.1.2.2.2.2.1,()))∧
  ∀
  (r6:
  asC),
  r6.1.1.1=
  (Sp.bU (y3.2.2.2.1,y3.2.2.2.2.1,y3.2.2.1.2.2.1,())
  (r5.1.1.1,r5.1.1.2.1,r5.1.1.2.2.1,r5.1.1.2.2.2.1,r5.1.1.2.2.2.2.1,
  ())).1.1∧
  r6.1.1.2.1=
  (Sp.bU (y3.2.2.2.1,y3.2.2.2.2.1,y3.2.2.1.2.2.1,())
  (r5.1.1.1,r5.1.1.2.1,r5.1.1.2.2.1,r5.1.1.2.2.2.1,r5.1.1.2.2.2.2.1,
  ())).1.2.1∧
  r6.1.1.2.2.1=
  (Sp.bU (y3.2.2.2.1,y3.2.2.2.2.1,y3.2.2.1.2.2.1,())
  (r5.1.1.1,r5.1.1.2.1,r5.1.1.2.2.1,r5.1.1.2.2.2.1,r5.1.1.2.2.2.2.1,
  ())).1.2.2.1∧
  r6.1.2.1=
  (Sp.bU (y3.2.2.2.1,y3.2.2.2.2.1,y3.2.2.1.2.2.1,())
  (r5.1.1.1,r5.1.1.2.1,r5.1.1.2.2.1,r5.1.1.2.2.2.1,r5.1.1.2.2.2.2.1,
  ())).2.1∧
  r6.1.2.2.1=
  (Sp.bU (y3.2.2.2.1,y3.2.2.2.2.1,y3.2.2.1.2.2.1,())
  (r5.1.1.1,r5.1.1.2.1,r5.1.1.2.2.1,r5.1.1.2.2.2.1,r5.1.1.2.2.2.2.1,
  ())).2.2→
  s2=s2∧
  I
  ((i64.wrap (y3.1.1+(1:Int)),()),(r5.2.1.1,r5.2.1.2.1,r5.2.1.2.2.1,()),
  ((),(),r6.1.1.2.2.1,()),r6.1.1.1,r6.1.1.2.1,())∧
  μ
  ((i64.wrap (y3.1.1+(1:Int)),()),(r5.2.1.1,r5.2.1.2.1,r5.2.1.2.2.1,()),
  ((),(),r6.1.1.2.2.1,()),r6.1.1.1,r6.1.1.2.1,())<
  μ y3
  else
  bif decide ((↑(List.length y3.2.2.2.2.1):Int)>(2:Int)) then
  (0:Int)≤r4.2.1.2.1∧
  ∀ (r7:fG×jm),
  (r7.2.1.2.1-(0:Int)).NonNeg→
  bif r7.1.1 then
  ((0:Int)≤(1:Int)∧(1:Int)<(↑(List.length y3.2.2.2.2.1):Int))∧
  Int.toNat (1:Int)<List.length y3.2.2.2.2.1∧
  Sp.jC (y3.2.2.2.1,y3.2.2.2.2.1,y3.2.2.1.2.2.1,())∧
  ∀
  (r8:
  auE),
  r8.1.1.1=
  (Sp.fB (y3.2.2.2.1,y3.2.2.2.2.1,y3.2.2.1.2.2.1,())
  (List.getD y3.2.2.2.2.1 (Int.toNat (1:Int)) ((0:Int),(0:Int),false,(0:Int),[],())).1).1.1∧
  r8.1.1.2.1=
  (Sp.fB (y3.2.2.2.1,y3.2.2.2.2.1,y3.2.2.1.2.2.1,())
  (List.getD y3.2.2.2.2.1 (Int.toNat (1:Int))
  ((0:Int),(0:Int),false,(0:Int),[],())).1).1.2.1∧
  r8.1.1.2.2.1=
  (Sp.fB (y3.2.2.2.1,y3.2.2.2.2.1,y3.2.2.1.2.2.1,())
  (List.getD y3.2.2.2.2.1 (Int.toNat (1:Int))
  ((0:Int),(0:Int),false,(0:Int),[],())).1).1.2.2.1∧
  r8.1.2.1=
  (Sp.fB (y3.2.2.2.1,y3.2.2.2.2.1,y3.2.2.1.2.2.1,())
  (List.getD y3.2.2.2.2.1 (Int.toNat (1:Int)) ((0:Int),(0:Int),false,(0:Int),[],())).1).2→
  K
  (((r8.1.1.1,r8.1.1.2.1,r8.1.1.2.2.1,()),()),
  (r7.2.1.1,r7.2.1.2.1,r7.2.1.2.2.1,()),())
  else
  K
  (((y3.2.2.2.1,y3.2.2.2.2.1,y3.2.2.1.2.2.1,()),()),
  (r7.2.1.1,r7.2.1.2.1,r7.2.1.2.2.1,()),())
  else
  K
  (((y3.2.2.2.1,y3.2.2.2.2.1,y3.2.2.1.2.2.1,()),()),
  (r4.2.1.1,r4.2.1.2.1,r4.2.1.2.2.1,()),())
theorem akk (env:EnvB prog G Θ aln) (hne:∀ x,(Oi x).1→∃ t,(Oi x).2 t) (h:∀ (c0:dB) (c1:Int) (c2:Int),dh oP ((c0,c1,c2,()),())→((0:Int)≤c1)→akO c0 c1 c2 fun (r:QJ×jm)=>((0:Int)≤c1,
 fun
 (x:
 QJ×jm)=>
 (0:Int)≤x.2.1.2.1∧
 x.1.1.1=Sp.usual∧
 Sp.dF (x.1.1.1,x.1.1.2.1,x.1.1.2.2.1,())=true∧
 x.1.1.2.2.1≤(↑x.1.1.2.1.length:Int)+(2:Int)∧Sp.jC (x.1.1.1,x.1.1.2.1,x.1.1.2.2.1,())).2
 r):aC prog G vH vW:=
 bI env mixed (fn:=f103) (c:=codeOf f103) (by kernel_rfl) (by kernel_rfl) ani (by kernel_rfl) hne fun ⟨⟨c0,c1,c2,⟨⟩⟩,⟨⟩⟩ hin hp=>
 Eq.mpr (by kernel_rfl) (h c0 c1 c2 hin hp)
def aqQ:Hints:=Go.Fw.hints [5,12,26] [(10,⟨[],⟨[(0, .dP 48 0),(2, .dP 128 0),(3, .dP 192 0),(28, .one (.bool))],[(128, .var [.nil, .nil, .int .i64])]⟩,⟨[],[(48, .var [.sl 5 (.cons (.int .u8) .nil) false, .int .i64, .int .i64]),(192, .var [.sl 155 (.cons .str (.cons (.int .i64) .nil)) true, .sl 56 (.cons (.int .i64) (.cons (.int .i64) (.cons .bool (.cons (.int .i64) (.cons (.sl 94 (.cons .str (.cons (.int .i64) (.cons (.int .i64) (.cons .str .nil))))) .nil))))) true, .int .i64])]⟩⟩)] [] [48] []
def ao8 (c0:dB) (c1:Int) (c2:Int) (K:QJ×jm→Prop):Prop:=
 (0:Int)≤c1∧
 ∀
 (r0:
 QJ×jm),
 (0:Int)≤r0.2.1.2.1∧
 r0.1.1.1=Sp.usual∧
 Sp.dF (r0.1.1.1,r0.1.1.2.1,r0.1.1.2.2.1,())=true∧
 r0.1.1.2.2.1≤(↑r0.1.1.2.1.length:Int)+(2:Int)∧Sp.jC (r0.1.1.1,r0.1.1.2.1,r0.1.1.2.2.1,())→
 (0:Int)≤r0.2.1.2.1∧
 ∀ (r1:gB),
 (0:Int)≤r1.2.1.2.1∧(0:Int)≤r1.1.1∧((0:Int)<(14:Int)→r1.1.1<(14:Int))∧((14:Int)≤(0:Int)→r1.1.1=(0:Int))→
 bif r1.1.1==(0:Int) then
 ((0:Int)≤r1.2.1.2.1∧[((0:Int),()),((60:Int),()),((61:Int),()),((62:Int),())]≠[])∧
 ∀ (r2:gB),
 (0:Int)≤r2.2.1.2.1∧(r2.1.1,())∈[((0:Int),()),((60:Int),()),((61:Int),()),((62:Int),())]→
 K (((r0.1.1.1,r0.1.1.2.1,r2.1.1,()),()),(r2.2.1.1,r2.2.1.2.1,r2.2.1.2.2.1,()),())
 else
 bif r1.1.1==(1:Int) then
 (0:Int)≤r1.2.1.2.1∧
 ∀ (r3:Gh×jm),
 (0:Int)≤r3.2.1.2.1∧r3.1.1.2.2.2.2.1.length≤(10:Nat)→
 List.length r0.1.1.2.1+
 [(r3.1.1.1,r3.1.1.2.1,r3.1.1.2.2.1,r3.1.1.2.2.2.1,r3.1.1.2.2.2.2.1,())].length≤
 big∧
 K
 (((r0.1.1.1,
 r0.1.1.2.1++
 [(r3.1.1.1,r3.1.1.2.1,r3.1.1.2.2.1,r3.1.1.2.2.2.1,r3.1.1.2.2.2.2.1,())],
 r0.1.1.2.2.1,()),
 ()),
 (r3.2.1.1,r3.2.1.2.1,r3.2.1.2.2.1,()),())
 else
 bif r1.1.1==(2:Int) then
 (0:Int)≤r1.2.1.2.1∧
 ∀ (r4:(fC×Unit)×jm),
 (0:Int)≤r4.2.1.2.1∧r4.1.1.length≤(6:Nat)→
 K (((r4.1.1,r0.1.1.2.1,r0.1.1.2.2.1,()),()),(r4.2.1.1,r4.2.1.2.1,r4.2.1.2.2.1,()),())
 else
 bif r1.1.1==(3:Int) then
 let s5:=(((),(),(),r1.1.1==(3:Int),()),((),(),(0:Int),()),());
  ∃ (I:
  Unit×BD×QJ→
  Prop),
  ∃ (μ:
  Unit×BD×QJ→
  Nat),
  I ((),(r1.2.1.1,r1.2.1.2.1,r1.2.1.2.2.1,()),(r0.1.1.1,r0.1.1.2.1,r0.1.1.2.2.1,()),())∧
  ∀
  (y6:
  Unit×BD×QJ),
  I y6→
  bif decide ((↑(List.length y6.2.2.1.2.1):Int)<(12:Int)) then
  (0:Int)≤y6.2.1.2.1∧
  ∀
  (r7:
  Gh×jm),
  (0:Int)≤r7.2.1.2.1∧
  r7.1.1.1=(1:Int)∧
  (0:Int)≤r7.1.1.2.1∧
  r7.1.1.2.1≤(2:Int)∧
  (0:Int)≤r7.1.1.2.2.2.1∧
  r7.1.1.2.2.2.1≤(6:Int)∧Sp.uf Sp.usual r7.1.1.2.2.2.2.1=true∧r7.1.1.2.2.2.2.1.length≤(4:Nat)→
  (Sp.jC (y6.2.2.1.1,y6.2.2.1.2.1,y6.2.2.1.2.2.1,())∧
  Sp.lT (r7.1.1.1,r7.1.1.2.1,r7.1.1.2.2.1,r7.1.1.2.2.2.1,r7.1.1.2.2.2.2.1,()))∧
  ∀
  (r8:
  asC),
  r8.1.1.1=
  (Sp.bU (y6.2.2.1.1,y6.2.2.1.2.1,y6.2.2.1.2.2.1,())
  (r7.1.1.1,r7.1.1.2.1,r7.1.1.2.2.1,r7.1.1.2.2.2.1,r7.1.1.2.2.2.2.1,
  ())).1.1∧
  r8.1.1.2.1=
  (Sp.bU (y6.2.2.1.1,y6.2.2.1.2.1,y6.2.2.1.2.2.1,())
  (r7.1.1.1,r7.1.1.2.1,r7.1.1.2.2.1,r7.1.1.2.2.2.1,r7.1.1.2.2.2.2.1,
  ())).1.2.1∧
  r8.1.1.2.2.1=
  (Sp.bU (y6.2.2.1.1,y6.2.2.1.2.1,y6.2.2.1.2.2.1,())
  (r7.1.1.1,r7.1.1.2.1,r7.1.1.2.2.1,r7.1.1.2.2.2.1,
  r7.1.1.2.2.2.2.1,())).1.2.2.1∧
  r8.1.2.1=
  (Sp.bU (y6.2.2.1.1,y6.2.2.1.2.1,y6.2.2.1.2.2.1,())
  (r7.1.1.1,r7.1.1.2.1,r7.1.1.2.2.1,r7.1.1.2.2.2.1,r7.1.1.2.2.2.2.1,
  ())).2.1∧
  r8.1.2.2.1=
  (Sp.bU (y6.2.2.1.1,y6.2.2.1.2.1,y6.2.2.1.2.2.1,())
  (r7.1.1.1,r7.1.1.2.1,r7.1.1.2.2.1,r7.1.1.2.2.2.1,r7.1.1.2.2.2.2.1,
  ())).2.2→
  s5=s5∧
  I
  ((),(r7.2.1.1,r7.2.1.2.1,r7.2.1.2.2.1,()),
  (r8.1.1.1,r8.1.1.2.1,r8.1.1.2.2.1,()),())∧
  μ
  ((),(r7.2.1.1,r7.2.1.2.1,r7.2.1.2.2.1,()),
  (r8.1.1.1,r8.1.1.2.1,r8.1.1.2.2.1,()),())<
  μ y6
  else
  K
  (((y6.2.2.1.1,y6.2.2.1.2.1,y6.2.2.1.2.2.1,()),()),
  (y6.2.1.1,y6.2.1.2.1,y6.2.1.2.2.1,()),())
  else K (((r0.1.1.1,r0.1.1.2.1,r0.1.1.2.2.1,()),()),(r1.2.1.1,r1.2.1.2.1,r1.2.1.2.2.1,()),())
theorem aoB (env:EnvB prog G Θ aqi) (hne:∀ x,(Si x).1→∃ t,(Si x).2 t) (h:∀ (c0:dB) (c1:Int) (c2:Int),dh BL ((c0,c1,c2,()),())→((0:Int)≤c1)→ao8 c0 c1 c2 fun (r:QJ×jm)=>((0:Int)≤c1,
 fun
 (x:
 QJ×jm)=>
 (0:Int)≤x.2.1.2.1∧Sp.jC (x.1.1.1,x.1.1.2.1,x.1.1.2.2.1,())).2
 r):aC prog G Ii Jh:=
 bI env mixed (fn:=f85) (c:=codeOf f85) (by kernel_rfl) (by kernel_rfl) aqQ (by kernel_rfl) hne fun ⟨⟨c0,c1,c2,⟨⟩⟩,⟨⟩⟩ hin hp=>
 Eq.mpr (by kernel_rfl) (h c0 c1 c2 hin hp)
def auG:Hints:=Go.Fw.hints [] [] [] [] []
def atb (code:dB) (K:fG→Prop):Prop:=
 K (decide ((↑code.length:Int)>(1048576:Int)),())
theorem as4 (env:EnvB prog G Θ atF) (h:∀ (code:dB),bH YG (code,())→(True)→atb code fun r=>r=((decide ((1048576:Int)<(↑code.length:Int)),()))):aG prog G OO Oj:=
 aX env mixed (fn:=f7) (c:=codeOf f7) (by kernel_rfl) (by kernel_rfl) auG (by kernel_rfl) fun ⟨code,⟨⟩⟩ hin hp=>
 Eq.mpr (by kernel_rfl) (h code hin hp)
def akP:Hints:=Go.Fw.hints [6,6,15,16] [(3,⟨[(.slot 3 0,225,56,(.cons (.int .i64) (.cons (.int .i64) (.cons .bool (.cons (.int .i64) (.cons (.sl 94 (.cons .str (.cons (.int .i64) (.cons (.int .i64) (.cons .str .nil))))) .nil))))),false)],⟨[(7, .one (.sl 56 (.cons (.int .i64) (.cons (.int .i64) (.cons .bool (.cons (.int .i64) (.cons (.sl 94 (.cons .str (.cons (.int .i64) (.cons (.int .i64) (.cons .str .nil))))) .nil))))) false)),(8, .one (.int .i64))],[]⟩,⟨[(3, .one (.ref 225)),(9, .one (.int .i64))],[(225, .arr 56 (.cons (.int .i64) (.cons (.int .i64) (.cons .bool (.cons (.int .i64) (.cons (.sl 94 (.cons .str (.cons (.int .i64) (.cons (.int .i64) (.cons .str .nil))))) .nil))))) false)]⟩⟩)] [] [] []
def aiz (l:iw) (K:(iw×Unit)×Unit→Prop):Prop:=
 let s0:=((l,(↑l.length:Int),()),());
  ∃ (I:qL×iw×Unit→Prop),
  ∃ (μ:qL×iw×Unit→Nat),
  I (((),(0:Int),()),[],())∧
  ∀ (y1:qL×iw×Unit),
  I y1→
  bif decide (y1.1.2.1<(↑l.length:Int)) then
  ((0:Int)≤y1.1.2.1∧y1.1.2.1<(↑l.length:Int))∧
  Sp.lT
  ((l.getD (Int.toNat y1.1.2.1) ((0:Int),(0:Int),false,(0:Int),[],())).1,
  (l.getD (Int.toNat y1.1.2.1) ((0:Int),(0:Int),false,(0:Int),[],())).2.1,
  (l.getD (Int.toNat y1.1.2.1) ((0:Int),(0:Int),false,(0:Int),[],())).2.2.1,
  (l.getD (Int.toNat y1.1.2.1) ((0:Int),(0:Int),false,(0:Int),[],())).2.2.2.1,
  (l.getD (Int.toNat y1.1.2.1) ((0:Int),(0:Int),false,(0:Int),[],())).2.2.2.2.1,())∧
 let r2:=(l.getD (Int.toNat y1.1.2.1) ((0:Int),(0:Int),false,(0:Int),[],())).1;
 let r3:=(l.getD (Int.toNat y1.1.2.1) ((0:Int),(0:Int),false,(0:Int),[],())).2.1;
 let r4:=(l.getD (Int.toNat y1.1.2.1) ((0:Int),(0:Int),false,(0:Int),[],())).2.2.1;
 let r5:=(l.getD (Int.toNat y1.1.2.1) ((0:Int),(0:Int),false,(0:Int),[],())).2.2.2.1;
 let r6:=(l.getD (Int.toNat y1.1.2.1) ((0:Int),(0:Int),false,(0:Int),[],())).2.2.2.2.1;
  List.length y1.2.1+[(r2,r3,r4,r5,r6,())].length≤big∧
  s0=s0∧
  I (((),i64.wrap (y1.1.2.1+(1:Int)),()),y1.2.1++[(r2,r3,r4,r5,r6,())],())∧
  μ (((),i64.wrap (y1.1.2.1+(1:Int)),()),y1.2.1++[(r2,r3,r4,r5,r6,())],())<μ y1
  else K ((y1.2.1,()),())
theorem aie (env:EnvB prog G Θ ajw) (hne:∀ x,(L8 x).1→∃ t,(L8 x).2 t) (h:∀ (l:iw),dh vX (l,())→(l.length≤(1000:Nat)∧∀ (f:asB),f∈l→Sp.lT f)→aiz l fun (r:(iw×Unit)×Unit)=>(l.length≤(1000:Nat)∧∀ (f:asB),f∈l→Sp.lT f,
 fun (x:(iw×Unit)×Unit)=>x.1.1=l).2
 r):aC prog G CO DW:=
 bI env mixed (fn:=f144) (c:=codeOf f144) (by kernel_rfl) (by kernel_rfl) akP (by kernel_rfl) hne fun ⟨l,⟨⟩⟩ hin hp=>
 Eq.mpr (by kernel_rfl) (h l hin hp)
def akQ:Hints:=Go.Fw.hints [5,8] [] [] [] []
def aiA (s0:fC) (s1:iw) (s2:Int) (K:PG→Prop):Prop:=
 s0.length≤(1000:Nat)∧
 (s1.length≤(1000:Nat)∧∀ (f:asB),f∈s1→Sp.lT f)∧
 ∀ (r0:(iw×Unit)×Unit),r0.1.1=s1→K (((s0,r0.1.1,s2,()),()),())
theorem aii (env:EnvB prog G Θ ajx) (hne:∀ x,(L9 x).1→∃ t,(L9 x).2 t) (h:∀ (s0:fC) (s1:iw) (s2:Int),dh vY ((s0,s1,s2,()),())→(Sp.jC (s0,s1,s2,()))→aiA s0 s1 s2 fun (r:PG)=>(Sp.jC (s0,s1,s2,()),
 fun (x:PG)=>
 (x.1.1.1,x.1.1.2.1,x.1.1.2.2.1,())=(s0,s1,s2,())).2
 r):aC prog G CP DX:=
 bI env mixed (fn:=f87) (c:=codeOf f87) (by kernel_rfl) (by kernel_rfl) akQ (by kernel_rfl) hne fun ⟨⟨s0,s1,s2,⟨⟩⟩,⟨⟩⟩ hin hp=>
 Eq.mpr (by kernel_rfl) (h s0 s1 s2 hin hp)
end Go.Proofs.Tryz

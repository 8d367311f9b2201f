import Derived.Test.YtgbobfdlafkijaaGreatF
namespace Go.Proofs.Tryz
open Go Go.Fw
set_option maxRecDepth 100000
open Go.IntKind (i64)
abbrev eX:=List UInt8
abbrev Jc:=eX×Unit
abbrev Ty0:=eX×Int×Int×Jc
abbrev iY:=Int×Unit
abbrev fQ:=List (eX×iY)
abbrev rQ:=List Ty0
abbrev anb:=Int×Int×Bool×Int×rQ×Unit
abbrev ja:=List anb
abbrev kQ:=List (Int×Int×Int×Ty0)
abbrev jQ:=List (eX×kQ×Unit)
abbrev uT:=List (Int×fQ×ja×Int×jQ×iY)
abbrev dH:=List iY
abbrev zf:=dH×Int×iY
abbrev jF:=zf×Unit
abbrev Jd:=anb×Unit
abbrev eG:=Bool×Unit
abbrev BQ:=jQ×Unit
abbrev NS:=(fQ×ja×Int×BQ)×Unit
abbrev aqt:=Int×Int×Bool×Int×Unit×Unit
abbrev abT:=Unit×zf×aqt×rQ×Unit
abbrev bM:=iY×Unit
abbrev um:=(List Jc×Unit)×Unit
abbrev LW:=(fQ×ja×iY)×Unit
abbrev XY:=((fQ×ja×Int×BQ)×eG)×Unit
abbrev eP:=iY×jF
abbrev yM:=(kQ×Unit)×jF
abbrev UG:=(Int×Int×Int×Ty0)×Unit
abbrev XZ:=((Int×Int×Jc)×Unit)×jF
abbrev qA:=Unit×iY
abbrev Dx:=uT×Unit
abbrev LX:=(uT×eG)×Unit
abbrev NT:=(Int×iY)×Unit
abbrev anc:=((fQ×ja×iY)×Int×eG)×Unit
abbrev rU:=Jc×jF
abbrev BR:=dH×Unit
abbrev abU:=(dH×eG)×Unit
abbrev KC:=LW×Unit
abbrev ajJ:=iY×List eG×Unit
abbrev ao7:=((fQ×ja×iY)×eG)×Unit
abbrev LY:=Dx×Unit
abbrev aqu:=iY×zf×(Unit×qA)×fQ×ja×Unit
abbrev NU:=NS×Unit
abbrev LZ:=BQ×jF
abbrev NV:=eG×jF
abbrev ao8:=(uT×Int×NS)×Unit
def aly:Hints:=Go.Fw.hints [31] [(3,⟨[],⟨[(0, .one (.sl 5 (.cons (.int .u8) .nil) false))],[]⟩,⟨[(3, .one (.int .i64)),(4, .one (.int .i64))],[]⟩⟩)] [] [] []
def ajK (code:dH) (K:zf→Prop):Prop:=
 let s0:=((code,()),());
  ∃ (I:NT→Prop),
  ∃ (μ:NT→Nat),
  I ((i64.wrap ((94701:Int)+(↑code.length:Int)),(0:Int),()),())∧
  ∀ (y1:NT),
  I y1→
  bif decide (y1.1.2.1<(↑code.length:Int)) then
  bif decide (y1.1.2.1<(4000:Int)) then
  ((0:Int)≤y1.1.2.1∧y1.1.2.1<(↑code.length:Int))∧
  s0=s0∧
  I
  ((bitsOf BinOp.and IntKind.i64
  (i64.wrap
  (i64.wrap (i64.wrap (y1.1.1*(131:Int))+i64.wrap (code.getD (Int.toNat y1.1.2.1) ((0:Int),())).1)+
  (7:Int)))
  (1073741823:Int),
  i64.wrap (y1.1.2.1+(1:Int)),()),
  ())∧
  μ
  ((bitsOf BinOp.and IntKind.i64
  (i64.wrap
  (i64.wrap (i64.wrap (y1.1.1*(131:Int))+i64.wrap (code.getD (Int.toNat y1.1.2.1) ((0:Int),())).1)+
  (7:Int)))
  (1073741823:Int),
  i64.wrap (y1.1.2.1+(1:Int)),()),
  ())<
  μ y1
  else K (code,(0:Int),y1.1.1,())
  else K (code,(0:Int),y1.1.1,())
theorem ajh (env:EnvB prog G Θ ak0) (hne:∀ x,(Nk x).1→∃ t,(Nk x).2 t) (h:∀ (code:dH),dL sO (code,())→(code.length≤(1048576:Nat))→ajK code fun (r:zf)=>(code.length≤(1048576:Nat),fun (x:zf)=>x.2.1=(0:Int)).2 r):aC prog G vZ uU:=
 aqZ env mixed (fn:=f40) (c:=codeOf f40) (by kernel_rfl) (by kernel_rfl) aly (by kernel_rfl) hne fun ⟨code,⟨⟩⟩ hin hp=>
 Eq.mpr (by kernel_rfl) (h code hin hp)
def ajL:Hints:=Go.Fw.hints [] [] [] [] []
def ahT (c0:dH) (c1:Int) (c2:Int) (K:eP→Prop):Prop:=
 (0:Int)≤(33:Int)∧
 (0:Int)≤(45:Int)∧
 bif decide (c1<(↑c0.length:Int)) then
 ((0:Int)≤c1∧c1<(↑c0.length:Int))∧
 K
 ((bitsOf BinOp.and IntKind.i64
 (i64.wrap
 (bitsOf BinOp.and IntKind.i64
 (bitsOf BinOp.xor IntKind.i64
 ((i64.wrap (i64.wrap (c2*(6364136223846793005:Int))+(1442695040888963407:Int))).fdiv
 ((2:Int) ^ min (Int.toNat (33:Int)) IntKind.i64.bits))
 ((i64.wrap (i64.wrap (c2*(6364136223846793005:Int))+(1442695040888963407:Int))).fdiv
 ((2:Int) ^ min (Int.toNat (45:Int)) IntKind.i64.bits)))
 (255:Int)+
 i64.wrap (c0.getD c1.toNat ((0:Int),())).1))
 (255:Int),
 ()),
 (c0,i64.wrap (c1+(1:Int)),i64.wrap (i64.wrap (c2*(6364136223846793005:Int))+(1442695040888963407:Int)),()),())
 else
 K
 ((bitsOf BinOp.and IntKind.i64
 (bitsOf BinOp.xor IntKind.i64
 ((i64.wrap (i64.wrap (c2*(6364136223846793005:Int))+(1442695040888963407:Int))).fdiv
 ((2:Int) ^ min (Int.toNat (33:Int)) IntKind.i64.bits))
 ((i64.wrap (i64.wrap (c2*(6364136223846793005:Int))+(1442695040888963407:Int))).fdiv
 ((2:Int) ^ min (Int.toNat (45:Int)) IntKind.i64.bits)))
 (255:Int),
 ()),
 (c0,c1,i64.wrap (i64.wrap (c2*(6364136223846793005:Int))+(1442695040888963407:Int)),()),())
theorem ahb (env:EnvB prog G Θ aiD) (hne:∀ x,(KZ x).1→∃ t,(KZ x).2 t) (h:∀ (c0:dH) (c1:Int) (c2:Int),dL uV ((c0,c1,c2,()),())→((0:Int)≤c1)→ahT c0 c1 c2 fun (r:eP)=>((0:Int)≤c1,fun (x:eP)=>(0:Int)≤x.2.1.2.1∧(0:Int)≤x.1.1∧x.1.1≤(255:Int)).2 r):aC prog G Bh Cm:=
 bQ env mixed (fn:=f105) (c:=codeOf f105) (by kernel_rfl) (by kernel_rfl) ajL (by kernel_rfl) hne fun ⟨⟨c0,c1,c2,⟨⟩⟩,⟨⟩⟩ hin hp=>
 Eq.mpr (by kernel_rfl) (h c0 c1 c2 hin hp)
def ahU:Hints:=Go.Fw.hints [] [] [] [] []
def afu (c0:dH) (c1:Int) (c2:Int) (n:Int) (K:eP→Prop):Prop:=
 bif decide (n≤(0:Int)) then K (((0:Int),()),(c0,c1,c2,()),())
 else
 bif decide (n≤(256:Int)) then
 (0:Int)≤c1∧
 ∀ (r0:eP),
 (0:Int)≤r0.2.1.2.1∧(0:Int)≤r0.1.1∧r0.1.1≤(255:Int)→
 n≠(0:Int)∧K ((Int.tmod r0.1.1 n,()),(r0.2.1.1,r0.2.1.2.1,r0.2.1.2.2.1,()),())
 else
 (0:Int)≤c1∧
 ∀ (r1:eP),
 (0:Int)≤r1.2.1.2.1∧(0:Int)≤r1.1.1∧r1.1.1≤(255:Int)→
 (0:Int)≤r1.2.1.2.1∧
 ∀ (r2:eP),
 (0:Int)≤r2.2.1.2.1∧(0:Int)≤r2.1.1∧r2.1.1≤(255:Int)→
 (0:Int)≤r2.2.1.2.1∧
 ∀ (r3:eP),
 (0:Int)≤r3.2.1.2.1∧(0:Int)≤r3.1.1∧r3.1.1≤(255:Int)→
 (0:Int)≤r3.2.1.2.1∧
 ∀ (r4:eP),
 (0:Int)≤r4.2.1.2.1∧(0:Int)≤r4.1.1∧r4.1.1≤(255:Int)→
 n≠(0:Int)∧
 K
 (((i64.wrap
 (i64.wrap
 (i64.wrap (i64.wrap (r1.1.1*(16777216:Int))+i64.wrap (r2.1.1*(65536:Int)))+
 i64.wrap (r3.1.1*(256:Int)))+
 r4.1.1)).tmod
 n,
 ()),
 (r4.2.1.1,r4.2.1.2.1,r4.2.1.2.2.1,()),())
theorem aeY (env:EnvB prog G Θ af8) (hne:∀ x,(Je x).1→∃ t,(Je x).2 t) (h:∀ (c0:dH) (c1:Int) (c2:Int) (n:Int),dL aJ ((c0,c1,c2,()),n,())→((0:Int)≤c1)→afu c0 c1 c2 n fun (r:eP)=>((0:Int)≤c1,fun (x:eP)=>
 (0:Int)≤x.2.1.2.1∧(0:Int)≤x.1.1∧((0:Int)<n→x.1.1<n)∧(n≤(0:Int)→x.1.1=(0:Int))).2
 r):aC prog G aS aI:=
 bQ env mixed (fn:=f66) (c:=codeOf f66) (by kernel_rfl) (by kernel_rfl) ahU (by kernel_rfl) hne fun ⟨⟨c0,c1,c2,⟨⟩⟩,n,⟨⟩⟩ hin hp=>
 Eq.mpr (by kernel_rfl) (h c0 c1 c2 n hin hp)
def ajM:Hints:=Go.Fw.hints [] [] [] [] []
def ahV (c0:dH) (c1:Int) (c2:Int) (n:Int) (K:NV→Prop):Prop:=
 (0:Int)≤c1∧
 ∀ (r0:eP),
 (0:Int)≤r0.2.1.2.1∧(0:Int)≤r0.1.1∧((0:Int)<n→r0.1.1<n)∧(n≤(0:Int)→r0.1.1=(0:Int))→
 K ((r0.1.1==(0:Int),()),(r0.2.1.1,r0.2.1.2.1,r0.2.1.2.2.1,()),())
theorem ahc (env:EnvB prog G Θ aiE) (hne:∀ x,(La x).1→∃ t,(La x).2 t) (h:∀ (c0:dH) (c1:Int) (c2:Int) (n:Int),dL iW ((c0,c1,c2,()),n,())→((0:Int)≤c1)→ahV c0 c1 c2 n fun (r:NV)=>((0:Int)≤c1,fun (x:NV)=>(x.2.1.2.1-(0:Int)).NonNeg).2 r):aC prog G jJ jr:=
 bQ env mixed (fn:=f59) (c:=codeOf f59) (by kernel_rfl) (by kernel_rfl) ajM (by kernel_rfl) hne fun ⟨⟨c0,c1,c2,⟨⟩⟩,n,⟨⟩⟩ hin hp=>
 Eq.mpr (by kernel_rfl) (h c0 c1 c2 n hin hp)
def ajN:Hints:=Go.Fw.hints [] [] [] [] []
def ahW (c0:dH) (c1:Int) (c2:Int) (list:List Jc) (K:rU→Prop):Prop:=
 (0:Int)≤c1∧
 ∀ (r0:eP),
 (0:Int)≤r0.2.1.2.1∧
 (0:Int)≤r0.1.1∧((0:Int)<(↑list.length:Int)→r0.1.1<(↑list.length:Int))∧((↑list.length:Int)≤(0:Int)→r0.1.1=(0:Int))→
 ((0:Int)≤r0.1.1∧r0.1.1<(↑list.length:Int))∧
 K (((list.getD (Int.toNat r0.1.1) ([],())).1,()),(r0.2.1.1,r0.2.1.2.1,r0.2.1.2.2.1,()),())
theorem ahd (env:EnvB prog G Θ aiF) (hne:∀ x,(Lc x).1→∃ t,(Lc x).2 t) (h:∀ (c0:dH) (c1:Int) (c2:Int) (list:List Jc),dL dm ((c0,c1,c2,()),list,())→((0:Int)≤c1∧list≠[])→ahW c0 c1 c2 list fun (r:rU)=>((0:Int)≤c1∧list≠[],fun (x:rU)=>(0:Int)≤x.2.1.2.1∧(x.1.1,())∈list).2 r):aC prog G dN dD:=
 bQ env mixed (fn:=f140) (c:=codeOf f140) (by kernel_rfl) (by kernel_rfl) ajN (by kernel_rfl) hne fun ⟨⟨c0,c1,c2,⟨⟩⟩,list,⟨⟩⟩ hin hp=>
 Eq.mpr (by kernel_rfl) (h c0 c1 c2 list hin hp)
def adr:Hints:=Go.Fw.hints [] [] [] [] []
def abV (c0:dH) (c1:Int) (c2:Int) (list:dH) (K:eP→Prop):Prop:=
 (0:Int)≤c1∧
 ∀ (r0:eP),
 (0:Int)≤r0.2.1.2.1∧
 (0:Int)≤r0.1.1∧((0:Int)<(↑list.length:Int)→r0.1.1<(↑list.length:Int))∧((↑list.length:Int)≤(0:Int)→r0.1.1=(0:Int))→
 ((0:Int)≤r0.1.1∧r0.1.1<(↑list.length:Int))∧
 K (((list.getD (Int.toNat r0.1.1) ((0:Int),())).1,()),(r0.2.1.1,r0.2.1.2.1,r0.2.1.2.2.1,()),())
theorem abv (env:EnvB prog G Θ acK) (hne:∀ x,(FZ x).1→∃ t,(FZ x).2 t) (h:∀ (c0:dH) (c1:Int) (c2:Int) (list:dH),dL dn ((c0,c1,c2,()),list,())→((0:Int)≤c1∧list≠[])→abV c0 c1 c2 list fun (r:eP)=>((0:Int)≤c1∧list≠[],fun (x:eP)=>(0:Int)≤x.2.1.2.1∧(x.1.1,())∈list).2 r):aC prog G dP dI:=
 bQ env mixed (fn:=f42) (c:=codeOf f42) (by kernel_rfl) (by kernel_rfl) adr (by kernel_rfl) hne fun ⟨⟨c0,c1,c2,⟨⟩⟩,list,⟨⟩⟩ hin hp=>
 Eq.mpr (by kernel_rfl) (h c0 c1 c2 list hin hp)
def ahX:Hints:=Go.Fw.hints [5] [] [] [] []
def afv (K:(fQ×Unit)×Unit→Prop):Prop:=
 K (([([(97:UInt8)],(1:Int),()),([(98:UInt8)],(1:Int),()),([(110:UInt8)],(2:Int),()),([(116:UInt8)],(2:Int),())],()),())
theorem aeZ (env:EnvB prog G Θ af9) (hne:∀ x,(Jf x).1→∃ t,(Jf x).2 t) (h:dL lQ (())→(True)→afv fun (r:(fQ×Unit)×Unit)=>(True,fun (x:(fQ×Unit)×Unit)=>x.1.1=Sp.usual).2 r):aC prog G qK rq:=
 bQ env mixed (fn:=f158) (c:=codeOf f158) (by kernel_rfl) (by kernel_rfl) ahX (by kernel_rfl) hne fun ⟨⟩ hin hp=>
 Eq.mpr (by kernel_rfl) (h hin hp)
def ajO:Hints:=Go.Fw.hints [] [] [] [] []
def ahY (c0:dH) (c1:Int) (c2:Int) (K:rU→Prop):Prop:=
 ((0:Int)≤c1∧
 [([(97:UInt8)],()),([(98:UInt8)],()),([(110:UInt8)],()),([(116:UInt8)],()),([(97:UInt8)],()),([(98:UInt8)],()),([(116:UInt8)],()),
 ([(122:UInt8)],()),([(65:UInt8)],()),([],())]≠
 [])∧
 ∀ (r0:rU),
 (0:Int)≤r0.2.1.2.1∧
 (r0.1.1,())∈
 [([(97:UInt8)],()),([(98:UInt8)],()),([(110:UInt8)],()),([(116:UInt8)],()),([(97:UInt8)],()),([(98:UInt8)],()),([(116:UInt8)],()),
 ([(122:UInt8)],()),([(65:UInt8)],()),([],())]→
 K ((r0.1.1,()),(r0.2.1.1,r0.2.1.2.1,r0.2.1.2.2.1,()),())
theorem ahe (env:EnvB prog G Θ aiG) (hne:∀ x,(Ld x).1→∃ t,(Ld x).2 t) (h:∀ (c0:dH) (c1:Int) (c2:Int),dL nP ((c0,c1,c2,()),())→((0:Int)≤c1)→ahY c0 c1 c2 fun (r:rU)=>((0:Int)≤c1,fun (x:rU)=>(0:Int)≤x.2.1.2.1∧x.1.1.length≤(1:Nat)).2 r):aC prog G tK sQ:=
 bQ env mixed (fn:=f193) (c:=codeOf f193) (by kernel_rfl) (by kernel_rfl) ajO (by kernel_rfl) hne fun ⟨⟨c0,c1,c2,⟨⟩⟩,⟨⟩⟩ hin hp=>
 Eq.mpr (by kernel_rfl) (h c0 c1 c2 hin hp)
def alz:Hints:=Go.Fw.hints [4,29] [] [] [] []
def ajP (c0:dH) (c1:Int) (c2:Int) (K:(fQ×Unit)×jF→Prop):Prop:=
 True∧
 ∀ (r0:(fQ×Unit)×Unit),
 r0.1.1=Sp.usual→
 (0:Int)≤c1∧
 ∀ (r1:eP),
 (0:Int)≤r1.2.1.2.1∧(0:Int)≤r1.1.1∧((0:Int)<(8:Int)→r1.1.1<(8:Int))∧((8:Int)≤(0:Int)→r1.1.1=(0:Int))→
 bif r1.1.1==(0:Int) then
 (0:Int)≤r1.2.1.2.1∧
 ∀ (r2:eP),
 (0:Int)≤r2.2.1.2.1∧(0:Int)≤r2.1.1∧((0:Int)<(4:Int)→r2.1.1<(4:Int))∧((4:Int)≤(0:Int)→r2.1.1=(0:Int))→
 ((0:Int)≤r2.1.1∧r2.1.1≤(↑(List.length r0.1.1):Int))∧
 K ((List.take (Int.toNat r2.1.1) r0.1.1,()),(r2.2.1.1,r2.2.1.2.1,r2.2.1.2.2.1,()),())
 else
 bif r1.1.1==(1:Int) then
 (0:Int)≤r1.2.1.2.1∧
 ∀ (r3:eP),
 (0:Int)≤r3.2.1.2.1∧(0:Int)≤r3.1.1∧((0:Int)<(4:Int)→r3.1.1<(4:Int))∧((4:Int)≤(0:Int)→r3.1.1=(0:Int))→
 (0:Int)≤r3.2.1.2.1∧
 ∀ (r4:eP),
 (0:Int)≤r4.2.1.2.1∧(0:Int)≤r4.1.1∧((0:Int)<(5:Int)→r4.1.1<(5:Int))∧((5:Int)≤(0:Int)→r4.1.1=(0:Int))→
 ((0:Int)≤r3.1.1∧r3.1.1<(↑(List.length r0.1.1):Int))∧
 Int.toNat r3.1.1<List.length r0.1.1∧
 K
 ((List.set r0.1.1 (Int.toNat r3.1.1)
 ((List.getD r0.1.1 (Int.toNat r3.1.1) ([],(0:Int),())).1,i64.wrap (r4.1.1-(1:Int)),()),
 ()),
 (r4.2.1.1,r4.2.1.2.1,r4.2.1.2.2.1,()),())
 else
 bif r1.1.1==(2:Int) then
 (0:Int)≤r1.2.1.2.1∧
 ∀ (r5:eP),
 (0:Int)≤r5.2.1.2.1∧(0:Int)≤r5.1.1∧((0:Int)<(4:Int)→r5.1.1<(4:Int))∧((4:Int)≤(0:Int)→r5.1.1=(0:Int))→
 (0:Int)≤r5.2.1.2.1∧
 ∀ (r6:rU),
 (0:Int)≤r6.2.1.2.1∧r6.1.1.length≤(1:Nat)→
 ((0:Int)≤r5.1.1∧r5.1.1<(↑(List.length r0.1.1):Int))∧
 Int.toNat r5.1.1<List.length r0.1.1∧
 K
 ((List.set r0.1.1 (Int.toNat r5.1.1) (r6.1.1,(List.getD r0.1.1 (Int.toNat r5.1.1) ([],(0:Int),())).2.1,()),()),
 (r6.2.1.1,r6.2.1.2.1,r6.2.1.2.2.1,()),())
 else
 bif r1.1.1==(3:Int) then
 ((0:Int)≤r1.2.1.2.1∧[([(117:UInt8)],()),([(122:UInt8)],()),([(97:UInt8)],())]≠[])∧
 ∀ (r7:rU),
 (0:Int)≤r7.2.1.2.1∧(r7.1.1,())∈[([(117:UInt8)],()),([(122:UInt8)],()),([(97:UInt8)],())]→
 List.length r0.1.1+[(r7.1.1,(1:Int),())].length≤big∧
 K ((r0.1.1++[(r7.1.1,(1:Int),())],()),(r7.2.1.1,r7.2.1.2.1,r7.2.1.2.2.1,()),())
 else
 bif r1.1.1==(4:Int) then
 List.length r0.1.1+[([(117:UInt8)],(1:Int),()),([(118:UInt8)],(2:Int),())].length≤big∧
 K
 ((r0.1.1++[([(117:UInt8)],(1:Int),()),([(118:UInt8)],(2:Int),())],()),
 (r1.2.1.1,r1.2.1.2.1,r1.2.1.2.2.1,()),())
 else K ((r0.1.1,()),(r1.2.1.1,r1.2.1.2.1,r1.2.1.2.2.1,()),())
theorem ajj (env:EnvB prog G Θ ak1) (hne:∀ x,(Nl x).1→∃ t,(Nl x).2 t) (h:∀ (c0:dH) (c1:Int) (c2:Int),dL xI ((c0,c1,c2,()),())→((0:Int)≤c1)→ajP c0 c1 c2 fun (r:(fQ×Unit)×jF)=>((0:Int)≤c1,fun (x:(fQ×Unit)×jF)=>(0:Int)≤x.2.1.2.1∧x.1.1.length≤(6:Nat)).2 r):aC prog G DI Ez:=
 bQ env mixed (fn:=f136) (c:=codeOf f136) (by kernel_rfl) (by kernel_rfl) alz (by kernel_rfl) hne fun ⟨⟨c0,c1,c2,⟨⟩⟩,⟨⟩⟩ hin hp=>
 Eq.mpr (by kernel_rfl) (h c0 c1 c2 hin hp)
def ahZ:Hints:=Go.Fw.hints [] [] [] [] []
def afw (c0:dH) (c1:Int) (c2:Int) (K:XZ→Prop):Prop:=
 (0:Int)≤c1∧
 ∀ (r0:eP),
 (0:Int)≤r0.2.1.2.1∧(0:Int)≤r0.1.1∧((0:Int)<(5:Int)→r0.1.1<(5:Int))∧((5:Int)≤(0:Int)→r0.1.1=(0:Int))→
 bif r0.1.1==(0:Int) then K ((((0:Int),(0:Int),[],()),()),(r0.2.1.1,r0.2.1.2.1,r0.2.1.2.2.1,()),())
 else
 bif r0.1.1==(1:Int) then
 bif r0.1.1==(1:Int) then
 (0:Int)≤r0.2.1.2.1∧
 ∀ (r1:eP),
 (0:Int)≤r1.2.1.2.1∧(0:Int)≤r1.1.1∧((0:Int)<(5:Int)→r1.1.1<(5:Int))∧((5:Int)≤(0:Int)→r1.1.1=(0:Int))→
 True∧
 let r2:=r1.1.1;
  K ((((1:Int),r2,[],()),()),(r1.2.1.1,r1.2.1.2.1,r1.2.1.2.2.1,()),())
  else
  ((0:Int)≤r0.2.1.2.1∧
  [([(114:UInt8),101,100],()),([(98:UInt8),108,117,101],()),
  ([(105:UInt8),110,107],())]≠
  [])∧
  ∀ (r3:rU),
  (0:Int)≤r3.2.1.2.1∧
  (r3.1.1,())∈
  [([(114:UInt8),101,100],()),([(98:UInt8),108,117,101],()),
  ([(105:UInt8),110,107],())]→
  True∧
 let r4:=r3.1.1;
  K ((((2:Int),(0:Int),r4,()),()),(r3.2.1.1,r3.2.1.2.1,r3.2.1.2.2.1,()),())
  else
  bif r0.1.1==(2:Int) then
  (0:Int)≤r0.2.1.2.1∧
  ∀ (r5:eP),
  (0:Int)≤r5.2.1.2.1∧(0:Int)≤r5.1.1∧((0:Int)<(5:Int)→r5.1.1<(5:Int))∧((5:Int)≤(0:Int)→r5.1.1=(0:Int))→
  True∧
 let r6:=r5.1.1;
  K ((((1:Int),r6,[],()),()),(r5.2.1.1,r5.2.1.2.1,r5.2.1.2.2.1,()),())
  else
  ((0:Int)≤r0.2.1.2.1∧
  [([(114:UInt8),101,100],()),([(98:UInt8),108,117,101],()),
  ([(105:UInt8),110,107],())]≠
  [])∧
  ∀ (r7:rU),
  (0:Int)≤r7.2.1.2.1∧
  (r7.1.1,())∈
  [([(114:UInt8),101,100],()),([(98:UInt8),108,117,101],()),
  ([(105:UInt8),110,107],())]→
  True∧
 let r8:=r7.1.1;
  K ((((2:Int),(0:Int),r8,()),()),(r7.2.1.1,r7.2.1.2.1,r7.2.1.2.2.1,()),())
theorem ae2 (env:EnvB prog G Θ aga) (hne:∀ x,(Jg x).1→∃ t,(Jg x).2 t) (h:∀ (c0:dH) (c1:Int) (c2:Int),dL sS ((c0,c1,c2,()),())→((0:Int)≤c1)→afw c0 c1 c2 fun (r:XZ)=>((0:Int)≤c1,fun (x:XZ)=>
 (0:Int)≤x.2.1.2.1∧x.1.1.2.2.1.length≤(10:Nat)).2
 r):aC prog G zD Au:=
 bQ env mixed (fn:=f231) (c:=codeOf f231) (by kernel_rfl) (by kernel_rfl) ahZ (by kernel_rfl) hne fun ⟨⟨c0,c1,c2,⟨⟩⟩,⟨⟩⟩ hin hp=>
 Eq.mpr (by kernel_rfl) (h c0 c1 c2 hin hp)
def alA:Hints:=Go.Fw.hints [] [] [] [] []
def ajQ (c0:dH) (c1:Int) (c2:Int) (K:XZ→Prop):Prop:=
 (0:Int)≤c1∧
 ∀ (r0:XZ),
 (0:Int)≤r0.2.1.2.1∧r0.1.1.2.2.1.length≤(10:Nat)→
 (0:Int)≤r0.2.1.2.1∧
 ∀ (r1:eP),
 (0:Int)≤r1.2.1.2.1∧(0:Int)≤r1.1.1∧((0:Int)<(10:Int)→r1.1.1<(10:Int))∧((10:Int)≤(0:Int)→r1.1.1=(0:Int))→
 bif r1.1.1==(0:Int) then
 (0:Int)≤r1.2.1.2.1∧
 ∀ (r2:eP),
 (0:Int)≤r2.2.1.2.1∧(0:Int)≤r2.1.1∧((0:Int)<(5:Int)→r2.1.1<(5:Int))∧((5:Int)≤(0:Int)→r2.1.1=(0:Int))→
 K
 (((i64.wrap (r2.1.1-(1:Int)),r0.1.1.2.1,r0.1.1.2.2.1,()),()),
 (r2.2.1.1,r2.2.1.2.1,r2.2.1.2.2.1,()),())
 else
 bif r1.1.1==(1:Int) then
 ((0:Int)≤r1.2.1.2.1∧[((-1:Int),()),((0:Int),()),((999:Int),()),((1000:Int),()),((9223372036854775807:Int),())]≠[])∧
 ∀ (r3:eP),
 (0:Int)≤r3.2.1.2.1∧(r3.1.1,())∈[((-1:Int),()),((0:Int),()),((999:Int),()),((1000:Int),()),((9223372036854775807:Int),())]→
 K (((r0.1.1.1,r3.1.1,r0.1.1.2.2.1,()),()),(r3.2.1.1,r3.2.1.2.1,r3.2.1.2.2.1,()),())
 else
 bif r1.1.1==(2:Int) then
 ((0:Int)≤r1.2.1.2.1∧
 [([],()),([(65:UInt8)],()),([(97:UInt8),98,99,100,101,102,103],()),
 ([(97:UInt8),98,99,100,101,102],()),([(97:UInt8),32,98],())]≠
 [])∧
 ∀ (r4:rU),
 (0:Int)≤r4.2.1.2.1∧
 (r4.1.1,())∈
 [([],()),([(65:UInt8)],()),([(97:UInt8),98,99,100,101,102,103],()),
 ([(97:UInt8),98,99,100,101,102],()),([(97:UInt8),32,98],())]→
 K (((r0.1.1.1,r0.1.1.2.1,r4.1.1,()),()),(r4.2.1.1,r4.2.1.2.1,r4.2.1.2.2.1,()),())
 else K (((r0.1.1.1,r0.1.1.2.1,r0.1.1.2.2.1,()),()),(r1.2.1.1,r1.2.1.2.1,r1.2.1.2.2.1,()),())
theorem ajk (env:EnvB prog G Θ ak2) (hne:∀ x,(Np x).1→∃ t,(Np x).2 t) (h:∀ (c0:dH) (c1:Int) (c2:Int),dL pK ((c0,c1,c2,()),())→((0:Int)≤c1)→ajQ c0 c1 c2 fun (r:XZ)=>((0:Int)≤c1,fun (x:XZ)=>
 (0:Int)≤x.2.1.2.1∧x.1.1.2.2.1.length≤(10:Nat)).2
 r):aC prog G vW uX:=
 bQ env mixed (fn:=f194) (c:=codeOf f194) (by kernel_rfl) (by kernel_rfl) alA (by kernel_rfl) hne fun ⟨⟨c0,c1,c2,⟨⟩⟩,⟨⟩⟩ hin hp=>
 Eq.mpr (by kernel_rfl) (h c0 c1 c2 hin hp)
def ah0:Hints:=Go.Fw.hints [] [] [] [] []
def afx (n:Int) (K:(Int×Int×Jc)×Unit→Prop):Prop:=
 K (((1:Int),n,[],()),())
theorem ae0 (env:EnvB prog G Θ agb) (h:∀ (n:Int),bP He (n,())→(True)→afx n fun r=>r=((((1:Int),n,[],()),()))):aG prog G lg kK:=
 aZ env mixed (fn:=f32) (c:=codeOf f32) (by kernel_rfl) (by kernel_rfl) ah0 (by kernel_rfl) fun ⟨n,⟨⟩⟩ hin hp=>
 Eq.mpr (by kernel_rfl) (h n hin hp)
def abW:Hints:=Go.Fw.hints [] [] [] [] []
def ZG (w:eX) (K:(Int×Int×Jc)×Unit→Prop):Prop:=
 K (((2:Int),(0:Int),w,()),())
theorem Zh (env:EnvB prog G Θ aat) (h:∀ (w:eX),bP Ec (w,())→(True)→ZG w fun r=>r=((((2:Int),(0:Int),w,()),()))):aG prog G gZ gQ:=
 aZ env mixed (fn:=f195) (c:=codeOf f195) (by kernel_rfl) (by kernel_rfl) abW (by kernel_rfl) fun ⟨w,⟨⟩⟩ hin hp=>
 Eq.mpr (by kernel_rfl) (h w hin hp)
def ane:Hints:=Go.Fw.hints [] [] [] [] []
def alB (x:Int) (least:Int) (most:Int) (K:eG→Prop):Prop:=
 bif decide (x≥least) then K (decide (x≤most),()) else K (false,())
theorem alq (env:EnvB prog G Θ alZ) (h:∀ (x:Int) (least:Int) (most:Int),bP Nq (x,least,most,())→(True)→alB x least most fun r=>r=((decide (least≤x)&&decide (x≤most),()))):aG prog G fC dV:=
 aZ env mixed (fn:=f63) (c:=codeOf f63) (by kernel_rfl) (by kernel_rfl) ane (by kernel_rfl) fun ⟨x,least,most,⟨⟩⟩ hin hp=>
 Eq.mpr (by kernel_rfl) (h x least most hin hp)
def alC:Hints:=Go.Fw.hints [] [] [] [] []
def ajR (n:Int) (low:Int) (high:Int) (K:eG→Prop):Prop:=
 bif decide (low≤n) then K (decide (n≤high),()) else K (false,())
theorem ajl (env:EnvB prog G Θ ak3) (h:∀ (n:Int) (low:Int) (high:Int),bP Le (n,low,high,())→(True)→ajR n low high fun r=>r=((decide (low≤n)&&decide (n≤high),()))):aG prog G fF eu:=
 aZ env mixed (fn:=f54) (c:=codeOf f54) (by kernel_rfl) (by kernel_rfl) alC (by kernel_rfl) fun ⟨n,low,high,⟨⟩⟩ hin hp=>
 Eq.mpr (by kernel_rfl) (h n low high hin hp)
def ajS:Hints:=Go.Fw.hints [] [(2,⟨[],⟨[(0, .one (.str)),(1, .one (.int .i64))],[]⟩,⟨[(5, .one (.int .i64))],[]⟩⟩)] [] [] []
def ah1 (s:eX) (most:Int) (K:eG→Prop):Prop:=
 let s0:=((s,most,()),());
  ∃ (I:bM→Prop),
  ∃ (μ:bM→Nat),
  I (((0:Int),()),())∧
  ∀ (y1:bM),
  I y1→
  bif decide (y1.1.1<(↑s.length:Int)) then
  ((0:Int)≤y1.1.1∧y1.1.1<(↑s.length:Int))∧
  bif decide ((↑(s.getD (Int.toNat y1.1.1) (0:UInt8)).toNat:Int)<(97:Int)) then K (false,())
  else
  ((0:Int)≤y1.1.1∧y1.1.1<(↑s.length:Int))∧
  bif decide ((↑(s.getD (Int.toNat y1.1.1) (0:UInt8)).toNat:Int)>(122:Int)) then K (false,())
  else s0=s0∧I ((i64.wrap (y1.1.1+(1:Int)),()),())∧μ ((i64.wrap (y1.1.1+(1:Int)),()),())<μ y1
  else
  True∧
 let r2:=decide ((1:Int)≤(↑s.length:Int))&&decide ((↑s.length:Int)≤most);
  K (r2,())
theorem ahf (env:EnvB prog G Θ aiH) (h:∀ (s:eX) (most:Int),bP Ji (s,most,())→(True)→ah1 s most fun r=>r=((Sp.lower s&&decide ((1:Int)≤(↑s.length:Int))&&decide ((↑s.length:Int)≤most),()))):aG prog G tN sU:=
 aZ env mixed (fn:=f237) (c:=codeOf f237) (by kernel_rfl) (by kernel_rfl) ajS (by kernel_rfl) fun ⟨s,most,⟨⟩⟩ hin hp=>
 Eq.mpr (by kernel_rfl) (h s most hin hp)
def X0:Hints:=Go.Fw.hints [] [] [] [] []
def VW (s:eX) (K:eG→Prop):Prop:=
 True∧
 let r0:=Sp.lower s&&decide ((1:Int)≤(↑s.length:Int))&&decide ((↑s.length:Int)≤(6:Int));
  K (r0,())
theorem Vz (env:EnvB prog G Θ Wu) (h:∀ (s:eX),bP A7 (s,())→(True)→VW s fun r=>r=((Sp.gG s,()))):aG prog G iI iM:=
 aZ env mixed (fn:=f225) (c:=codeOf f225) (by kernel_rfl) (by kernel_rfl) X0 (by kernel_rfl) fun ⟨s,⟨⟩⟩ hin hp=>
 Eq.mpr (by kernel_rfl) (h s hin hp)
def X3:Hints:=Go.Fw.hints [] [(2,⟨[],⟨[(0, .one (.str)),(5, .one (.int .i64))],[]⟩,⟨[(6, .one (.int .i64))],[]⟩⟩)] [] [] []
def VX (s:eX) (K:eG→Prop):Prop:=
 let s0:=((s,(↑s.length:Int),()),());
  ∃ (I:bM→Prop),
  ∃ (μ:bM→Nat),
  I (((0:Int),()),())∧
  ∀ (y1:bM),
  I y1→
  bif decide (y1.1.1<(↑s.length:Int)) then
  ((0:Int)≤y1.1.1∧y1.1.1<(↑s.length:Int))∧
  bif decide ((↑(s.getD (Int.toNat y1.1.1) (0:UInt8)).toNat:Int)<(97:Int)) then K (false,())
  else
  ((0:Int)≤y1.1.1∧y1.1.1<(↑s.length:Int))∧
  bif decide ((↑(s.getD (Int.toNat y1.1.1) (0:UInt8)).toNat:Int)>(122:Int)) then K (false,())
  else s0=s0∧I ((i64.wrap (y1.1.1+(1:Int)),()),())∧μ ((i64.wrap (y1.1.1+(1:Int)),()),())<μ y1
  else
  True∧
 let r2:=decide ((1:Int)≤(↑s.length:Int))&&decide ((↑s.length:Int)≤(6:Int));
  K (r2,())
theorem VE (env:EnvB prog G Θ Wv) (h:∀ (s:eX),bP A8 (s,())→(True)→VX s fun r=>r=((Sp.gG s,()))):aG prog G iJ iO:=
 aZ env mixed (fn:=f233) (c:=codeOf f233) (by kernel_rfl) (by kernel_rfl) X3 (by kernel_rfl) fun ⟨s,⟨⟩⟩ hin hp=>
 Eq.mpr (by kernel_rfl) (h s hin hp)
def ZH:Hints:=Go.Fw.hints [] [] [] [] []
def X4 (v0:Int) (v1:Int) (v2:eX) (K:eG→Prop):Prop:=
 bif v0==(0:Int) then K (v0==(0:Int)&&(v1==(0:Int)&&(v2==[]&&true)),())
 else
 bif v0==(1:Int) then
 True∧
 let r0:=decide ((0:Int)≤v1)&&decide (v1≤(999:Int));
  bif r0 then K (v2==[],()) else K (false,())
  else bif v0==(2:Int) then True∧bif Sp.gG v2 then K (v1==(0:Int),()) else K (false,()) else K (false,())
theorem Xl (env:EnvB prog G Θ YQ) (h:∀ (v0:Int) (v1:Int) (v2:eX),bP CB ((v0,v1,v2,()),())→(True)→X4 v0 v1 v2 fun r=>r=((Sp.jm v0 v1 v2,()))):aG prog G kR lF:=
 aZ env mixed (fn:=f221) (c:=codeOf f221) (by kernel_rfl) (by kernel_rfl) ZH (by kernel_rfl) fun ⟨⟨v0,v1,v2,⟨⟩⟩,⟨⟩⟩ hin hp=>
 Eq.mpr (by kernel_rfl) (h v0 v1 v2 hin hp)
def ZI:Hints:=Go.Fw.hints [] [] [] [] []
def X5 (v0:Int) (v1:Int) (v2:eX) (K:eG→Prop):Prop:=
 bif v0==(0:Int) then K (v0==(0:Int)&&(v1==(0:Int)&&(v2==[]&&true)),())
 else
 bif v0==(1:Int) then
 True∧
 let r0:=decide ((0:Int)≤v1)&&decide (v1≤(999:Int));
  bif r0 then K (v2==[],()) else K (false,())
  else bif v0==(2:Int) then True∧bif Sp.gG v2 then K (v1==(0:Int),()) else K (false,()) else K (false,())
theorem Xn (env:EnvB prog G Θ YR) (h:∀ (v0:Int) (v1:Int) (v2:eX),bP CG ((v0,v1,v2,()),())→(True)→X5 v0 v1 v2 fun r=>r=((Sp.jm v0 v1 v2,()))):aG prog G kS lG:=
 aZ env mixed (fn:=f208) (c:=codeOf f208) (by kernel_rfl) (by kernel_rfl) ZI (by kernel_rfl) fun ⟨⟨v0,v1,v2,⟨⟩⟩,⟨⟩⟩ hin hp=>
 Eq.mpr (by kernel_rfl) (h v0 v1 v2 hin hp)
def UH:Hints:=Go.Fw.hints [] [] [] [] []
def RJ (s:eX) (K:eG→Prop):Prop:=
 True∧
 let r0:=Sp.lower s&&decide ((1:Int)≤(↑s.length:Int))&&decide ((↑s.length:Int)≤(1:Int));
  K (r0,())
theorem Ro (env:EnvB prog G Θ Uc) (h:∀ (s:eX),bP yV (s,())→(True)→RJ s fun r=>r=((Sp.ji s,()))):aG prog G jy jG:=
 aZ env mixed (fn:=f207) (c:=codeOf f207) (by kernel_rfl) (by kernel_rfl) UH (by kernel_rfl) fun ⟨s,⟨⟩⟩ hin hp=>
 Eq.mpr (by kernel_rfl) (h s hin hp)
def UI:Hints:=Go.Fw.hints [] [] [] [] []
def RN (s:eX) (K:eG→Prop):Prop:=
 bif (↑s.length:Int)==(1:Int) then
 ((0:Int)≤(0:Int)∧(0:Int)<(↑s.length:Int))∧
 bif decide ((↑(s.getD (Int.toNat (0:Int)) (0:UInt8)).toNat:Int)≥(97:Int)) then
 ((0:Int)≤(0:Int)∧(0:Int)<(↑s.length:Int))∧K (decide ((↑(s.getD (Int.toNat (0:Int)) (0:UInt8)).toNat:Int)≤(122:Int)),())
 else K (false,())
 else K (false,())
theorem Rq (env:EnvB prog G Θ Ud) (h:∀ (s:eX),bP yX (s,())→(True)→RN s fun r=>r=((Sp.ji s,()))):aG prog G jA jH:=
 aZ env mixed (fn:=f200) (c:=codeOf f200) (by kernel_rfl) (by kernel_rfl) UI (by kernel_rfl) fun ⟨s,⟨⟩⟩ hin hp=>
 Eq.mpr (by kernel_rfl) (h s hin hp)
def afy:Hints:=Go.Fw.hints [] [(2,⟨[],⟨[(0, .one (.sl 155 (.cons .str (.cons (.int .i64) .nil)) false)),(1, .one (.str))],[]⟩,⟨[(5, .one (.int .i64))],[]⟩⟩)] [] [] []
def ads (s:fQ) (name:eX) (K:iY→Prop):Prop:=
 let s0:=((s,name,()),());
  ∃ (I:bM→Prop),
  ∃ (μ:bM→Nat),
  I (((0:Int),()),())∧
  ∀ (y1:bM),
  I y1→
  bif decide (y1.1.1<(↑s.length:Int)) then
  ((0:Int)≤y1.1.1∧y1.1.1<(↑s.length:Int))∧
  bif (s.getD (Int.toNat y1.1.1) ([],(0:Int),())).1==name then
  ((0:Int)≤y1.1.1∧y1.1.1<(↑s.length:Int))∧K ((s.getD (Int.toNat y1.1.1) ([],(0:Int),())).2.1,())
  else s0=s0∧I ((i64.wrap (y1.1.1+(1:Int)),()),())∧μ ((i64.wrap (y1.1.1+(1:Int)),()),())<μ y1
  else K ((0:Int),())
theorem ac5 (env:EnvB prog G Θ ael) (h:∀ (s:fQ) (name:eX),bP F5 (s,name,())→(True)→ads s name fun r=>r=((Sp.kindOf s name,()))):aG prog G yt zl:=
 aZ env mixed (fn:=f222) (c:=codeOf f222) (by kernel_rfl) (by kernel_rfl) afy (by kernel_rfl) fun ⟨s,name,⟨⟩⟩ hin hp=>
 Eq.mpr (by kernel_rfl) (h s name hin hp)
def afz:Hints:=Go.Fw.hints [] [(2,⟨[],⟨[(1, .one (.str)),(7, .one (.sl 155 (.cons .str (.cons (.int .i64) .nil)) false)),(8, .one (.int .i64))],[]⟩,⟨[(9, .one (.int .i64))],[]⟩⟩)] [] [] []
def adt (s:fQ) (name:eX) (K:iY→Prop):Prop:=
 let s0:=((name,s,(↑s.length:Int),()),());
  ∃ (I:bM→Prop),
  ∃ (μ:bM→Nat),
  I (((0:Int),()),())∧
  ∀ (y1:bM),
  I y1→
  bif decide (y1.1.1<(↑s.length:Int)) then
  ((0:Int)≤y1.1.1∧y1.1.1<(↑s.length:Int))∧
  bif (s.getD (Int.toNat y1.1.1) ([],(0:Int),())).1==name then K ((s.getD (Int.toNat y1.1.1) ([],(0:Int),())).2.1,())
  else s0=s0∧I ((i64.wrap (y1.1.1+(1:Int)),()),())∧μ ((i64.wrap (y1.1.1+(1:Int)),()),())<μ y1
  else K ((0:Int),())
theorem adf (env:EnvB prog G Θ aem) (h:∀ (s:fQ) (name:eX),bP F6 (s,name,())→(True)→adt s name fun r=>r=((Sp.kindOf s name,()))):aG prog G yu zn:=
 aZ env mixed (fn:=f209) (c:=codeOf f209) (by kernel_rfl) (by kernel_rfl) afz (by kernel_rfl) fun ⟨s,name,⟨⟩⟩ hin hp=>
 Eq.mpr (by kernel_rfl) (h s name hin hp)
def X6:Hints:=Go.Fw.hints [] [(2,⟨[],⟨[(0, .one (.sl 155 (.cons .str (.cons (.int .i64) .nil)) false))],[]⟩,⟨[(3, .one (.int .i64))],[]⟩⟩)] [] [] []
def VY (s:fQ) (K:eG→Prop):Prop:=
 let s0:=((s,()),());
  ∃ (I:bM→Prop),
  ∃ (μ:bM→Nat),
  I (((0:Int),()),())∧
  ∀ (y1:bM),
  I y1→
  bif decide (y1.1.1<(↑s.length:Int)) then
  ((0:Int)≤y1.1.1∧y1.1.1<(↑s.length:Int))∧
  True∧
 let r2:=Sp.ji (s.getD (Int.toNat y1.1.1) ([],(0:Int),())).1;
  bif !r2 then K (false,())
  else
  ((0:Int)≤y1.1.1∧y1.1.1<(↑s.length:Int))∧
  True∧
 let r3:=
  decide ((1:Int)≤(s.getD (Int.toNat y1.1.1) ([],(0:Int),())).2.1)&&
  decide ((s.getD (Int.toNat y1.1.1) ([],(0:Int),())).2.1≤(2:Int));
  bif !r3 then K (false,())
  else
  bif decide (y1.1.1>(0:Int)) then
  ((0:Int)≤i64.wrap (y1.1.1-(1:Int))∧i64.wrap (y1.1.1-(1:Int))<(↑s.length:Int))∧
  ((0:Int)≤y1.1.1∧y1.1.1<(↑s.length:Int))∧
  bif
  !Op.bytesLess (s.getD (i64.wrap (y1.1.1-(1:Int))).toNat ([],(0:Int),())).1
  (s.getD (Int.toNat y1.1.1) ([],(0:Int),())).1 then
  K (false,())
  else s0=s0∧I ((i64.wrap (y1.1.1+(1:Int)),()),())∧μ ((i64.wrap (y1.1.1+(1:Int)),()),())<μ y1
  else s0=s0∧I ((i64.wrap (y1.1.1+(1:Int)),()),())∧μ ((i64.wrap (y1.1.1+(1:Int)),()),())<μ y1
  else K (decide ((↑s.length:Int)≤(5:Int)),())
theorem VA (env:EnvB prog G Θ Wx) (h:∀ (s:fQ),bP Ba (s,())→(True)→VY s fun r=>r=((Sp.fB s,()))):aG prog G jY kD:=
 aZ env mixed (fn:=f156) (c:=codeOf f156) (by kernel_rfl) (by kernel_rfl) X6 (by kernel_rfl) fun ⟨s,⟨⟩⟩ hin hp=>
 Eq.mpr (by kernel_rfl) (h s hin hp)
def X7:Hints:=Go.Fw.hints [] [(2,⟨[],⟨[(0, .one (.sl 155 (.cons .str (.cons (.int .i64) .nil)) false)),(5, .one (.sl 155 (.cons .str (.cons (.int .i64) .nil)) false)),(6, .one (.int .i64))],[]⟩,⟨[(7, .one (.int .i64))],[]⟩⟩)] [] [] []
def VZ (s:fQ) (K:eG→Prop):Prop:=
 let s0:=((s,s,(↑s.length:Int),()),());
  ∃ (I:bM→Prop),
  ∃ (μ:bM→Nat),
  I (((0:Int),()),())∧
  ∀ (y1:bM),
  I y1→
  bif decide (y1.1.1<(↑s.length:Int)) then
  ((0:Int)≤y1.1.1∧y1.1.1<(↑s.length:Int))∧
  True∧
 let r2:=Sp.ji (s.getD (Int.toNat y1.1.1) ([],(0:Int),())).1;
  bif !r2 then K (false,())
  else
  bif (s.getD (Int.toNat y1.1.1) ([],(0:Int),())).2.1 !=(1:Int) then
  bif (s.getD (Int.toNat y1.1.1) ([],(0:Int),())).2.1 !=(2:Int) then K (false,())
  else
  bif decide (y1.1.1>(0:Int)) then
  ((0:Int)≤i64.wrap (y1.1.1-(1:Int))∧i64.wrap (y1.1.1-(1:Int))<(↑s.length:Int))∧
  bif
  !Op.bytesLess (s.getD (i64.wrap (y1.1.1-(1:Int))).toNat ([],(0:Int),())).1
  (s.getD (Int.toNat y1.1.1) ([],(0:Int),())).1 then
  K (false,())
  else s0=s0∧I ((i64.wrap (y1.1.1+(1:Int)),()),())∧μ ((i64.wrap (y1.1.1+(1:Int)),()),())<μ y1
  else s0=s0∧I ((i64.wrap (y1.1.1+(1:Int)),()),())∧μ ((i64.wrap (y1.1.1+(1:Int)),()),())<μ y1
  else
  bif decide (y1.1.1>(0:Int)) then
  ((0:Int)≤i64.wrap (y1.1.1-(1:Int))∧i64.wrap (y1.1.1-(1:Int))<(↑s.length:Int))∧
  bif
  !Op.bytesLess (s.getD (i64.wrap (y1.1.1-(1:Int))).toNat ([],(0:Int),())).1
  (s.getD (Int.toNat y1.1.1) ([],(0:Int),())).1 then
  K (false,())
  else s0=s0∧I ((i64.wrap (y1.1.1+(1:Int)),()),())∧μ ((i64.wrap (y1.1.1+(1:Int)),()),())<μ y1
  else s0=s0∧I ((i64.wrap (y1.1.1+(1:Int)),()),())∧μ ((i64.wrap (y1.1.1+(1:Int)),()),())<μ y1
  else K (decide ((↑s.length:Int)≤(5:Int)),())
theorem VF (env:EnvB prog G Θ Wy) (h:∀ (s:fQ),bP Bc (s,())→(True)→VZ s fun r=>r=((Sp.fB s,()))):aG prog G jZ kE:=
 aZ env mixed (fn:=f148) (c:=codeOf f148) (by kernel_rfl) (by kernel_rfl) X7 (by kernel_rfl) fun ⟨s,⟨⟩⟩ hin hp=>
 Eq.mpr (by kernel_rfl) (h s hin hp)
def X8:Hints:=Go.Fw.hints [] [] [] [] []
def V3 (s:fQ) (name:eX) (v0:Int) (v1:Int) (v2:eX) (K:eG→Prop):Prop:=
 True∧bif Sp.jm v0 v1 v2 then bif v0 !=(0:Int) then True∧K (v0==Sp.kindOf s name,()) else K (false,()) else K (false,())
theorem VD (env:EnvB prog G Θ WA) (h:∀ (s:fQ) (name:eX) (v0:Int) (v1:Int) (v2:eX),bP Bd (s,name,(v0,v1,v2,()),())→(True)→V3 s name v0 v1 v2 fun r=>r=((Sp.jv s name v0 v1 v2,()))):aG prog G qL uo:=
 aZ env mixed (fn:=f180) (c:=codeOf f180) (by kernel_rfl) (by kernel_rfl) X8 (by kernel_rfl) fun ⟨s,name,⟨v0,v1,v2,⟨⟩⟩,⟨⟩⟩ hin hp=>
 Eq.mpr (by kernel_rfl) (h s name v0 v1 v2 hin hp)
def X9:Hints:=Go.Fw.hints [] [] [] [] []
def V4 (s:fQ) (name:eX) (v0:Int) (v1:Int) (v2:eX) (K:eG→Prop):Prop:=
 True∧bif Sp.jm v0 v1 v2 then bif v0 !=(0:Int) then True∧K (v0==Sp.kindOf s name,()) else K (false,()) else K (false,())
theorem VH (env:EnvB prog G Θ WB) (h:∀ (s:fQ) (name:eX) (v0:Int) (v1:Int) (v2:eX),bP Bf (s,name,(v0,v1,v2,()),())→(True)→V4 s name v0 v1 v2 fun r=>r=((Sp.jv s name v0 v1 v2,()))):aG prog G qM uq:=
 aZ env mixed (fn:=f162) (c:=codeOf f162) (by kernel_rfl) (by kernel_rfl) X9 (by kernel_rfl) fun ⟨s,name,⟨v0,v1,v2,⟨⟩⟩,⟨⟩⟩ hin hp=>
 Eq.mpr (by kernel_rfl) (h s name v0 v1 v2 hin hp)
def abX:Hints:=Go.Fw.hints [] [(2,⟨[],⟨[(0, .one (.sl 155 (.cons .str (.cons (.int .i64) .nil)) false)),(3, .gB [.int .i64, .int .i64, .bool, .int .i64, .sl 94 (.cons .str (.cons (.int .i64) (.cons (.int .i64) (.cons .str .nil)))) false] 0)],[]⟩,⟨[(5, .one (.int .i64))],[]⟩⟩)] [] [] []
def ZJ (s:fQ) (f0:Int) (f1:Int) (f2:Bool) (f3:Int) (f4:rQ) (K:eG→Prop):Prop:=
 let s0:=((s,(f0,f1,f2,f3,f4,()),()),());
  ∃ (I:bM→Prop),
  ∃ (μ:bM→Nat),
  I (((0:Int),()),())∧
  ∀ (y1:bM),
  I y1→
  bif decide (y1.1.1<(↑f4.length:Int)) then
  ((0:Int)≤y1.1.1∧y1.1.1<(↑f4.length:Int))∧
  ((0:Int)≤y1.1.1∧y1.1.1<(↑f4.length:Int))∧
  True∧
 let r2:=
  Sp.jv s (f4.getD (Int.toNat y1.1.1) ([],(0:Int),(0:Int),[],())).1
  (f4.getD (Int.toNat y1.1.1) ([],(0:Int),(0:Int),[],())).2.1 (f4.getD (Int.toNat y1.1.1) ([],(0:Int),(0:Int),[],())).2.2.1
  (f4.getD (Int.toNat y1.1.1) ([],(0:Int),(0:Int),[],())).2.2.2.1;
  bif !r2 then K (false,())
  else
  bif decide (y1.1.1>(0:Int)) then
  ((0:Int)≤i64.wrap (y1.1.1-(1:Int))∧i64.wrap (y1.1.1-(1:Int))<(↑f4.length:Int))∧
  ((0:Int)≤y1.1.1∧y1.1.1<(↑f4.length:Int))∧
  bif
  !Op.bytesLess (f4.getD (i64.wrap (y1.1.1-(1:Int))).toNat ([],(0:Int),(0:Int),[],())).1
  (f4.getD (Int.toNat y1.1.1) ([],(0:Int),(0:Int),[],())).1 then
  K (false,())
  else s0=s0∧I ((i64.wrap (y1.1.1+(1:Int)),()),())∧μ ((i64.wrap (y1.1.1+(1:Int)),()),())<μ y1
  else s0=s0∧I ((i64.wrap (y1.1.1+(1:Int)),()),())∧μ ((i64.wrap (y1.1.1+(1:Int)),()),())<μ y1
  else
  True∧
  bif Sp.fB s then
  True∧
 let r3:=decide ((1:Int)≤f0)&&decide (f0≤(60:Int));
  bif r3 then
  True∧
 let r4:=decide ((0:Int)≤f1)&&decide (f1≤(2:Int));
  bif r4 then
  True∧
 let r5:=decide ((0:Int)≤f3)&&decide (f3≤(60:Int));
  K (r5,())
  else K (false,())
  else K (false,())
  else K (false,())
theorem Zi (env:EnvB prog G Θ aau) (h:∀ (s:fQ) (f0:Int) (f1:Int) (f2:Bool) (f3:Int) (f4:rQ),bP Ed (s,(f0,f1,f2,f3,f4,()),())→(True)→ZJ s f0 f1 f2 f3 f4 fun r=>r=((Sp.dO s (f0,f1,f2,f3,f4,()),()))):aG prog G lY mQ:=
 aZ env mixed (fn:=f125) (c:=codeOf f125) (by kernel_rfl) (by kernel_rfl) abX (by kernel_rfl) fun ⟨s,⟨f0,f1,f2,f3,f4,⟨⟩⟩,⟨⟩⟩ hin hp=>
 Eq.mpr (by kernel_rfl) (h s f0 f1 f2 f3 f4 hin hp)
def abY:Hints:=Go.Fw.hints [] [(2,⟨[],⟨[(0, .one (.sl 155 (.cons .str (.cons (.int .i64) .nil)) false)),(3, .gB [.int .i64, .int .i64, .bool, .int .i64, .sl 94 (.cons .str (.cons (.int .i64) (.cons (.int .i64) (.cons .str .nil)))) false] 0),(8, .one (.sl 94 (.cons .str (.cons (.int .i64) (.cons (.int .i64) (.cons .str .nil)))) false)),(9, .one (.int .i64))],[]⟩,⟨[(10, .one (.int .i64))],[]⟩⟩)] [] [] []
def ZK (s:fQ) (f0:Int) (f1:Int) (f2:Bool) (f3:Int) (f4:rQ) (K:eG→Prop):Prop:=
 let s0:=((s,(f0,f1,f2,f3,f4,()),f4,(↑f4.length:Int),()),());
  ∃ (I:bM→Prop),
  ∃ (μ:bM→Nat),
  I (((0:Int),()),())∧
  ∀ (y1:bM),
  I y1→
  bif decide (y1.1.1<(↑f4.length:Int)) then
  ((0:Int)≤y1.1.1∧y1.1.1<(↑f4.length:Int))∧
  bif decide (y1.1.1>(0:Int)) then
  ((0:Int)≤i64.wrap (y1.1.1-(1:Int))∧i64.wrap (y1.1.1-(1:Int))<(↑f4.length:Int))∧
  bif
  !Op.bytesLess (f4.getD (i64.wrap (y1.1.1-(1:Int))).toNat ([],(0:Int),(0:Int),[],())).1
  (f4.getD (Int.toNat y1.1.1) ([],(0:Int),(0:Int),[],())).1 then
  K (false,())
  else
  True∧
 let r2:=
  Sp.jv s (f4.getD (Int.toNat y1.1.1) ([],(0:Int),(0:Int),[],())).1
  (f4.getD (Int.toNat y1.1.1) ([],(0:Int),(0:Int),[],())).2.1
  (f4.getD (Int.toNat y1.1.1) ([],(0:Int),(0:Int),[],())).2.2.1
  (f4.getD (Int.toNat y1.1.1) ([],(0:Int),(0:Int),[],())).2.2.2.1;
  bif !r2 then K (false,())
  else s0=s0∧I ((i64.wrap (y1.1.1+(1:Int)),()),())∧μ ((i64.wrap (y1.1.1+(1:Int)),()),())<μ y1
  else
  True∧
 let r3:=
  Sp.jv s (f4.getD (Int.toNat y1.1.1) ([],(0:Int),(0:Int),[],())).1
  (f4.getD (Int.toNat y1.1.1) ([],(0:Int),(0:Int),[],())).2.1 (f4.getD (Int.toNat y1.1.1) ([],(0:Int),(0:Int),[],())).2.2.1
  (f4.getD (Int.toNat y1.1.1) ([],(0:Int),(0:Int),[],())).2.2.2.1;
  bif !r3 then K (false,()) else s0=s0∧I ((i64.wrap (y1.1.1+(1:Int)),()),())∧μ ((i64.wrap (y1.1.1+(1:Int)),()),())<μ y1
  else
  True∧
 let r4:=decide ((1:Int)≤f0)&&decide (f0≤(60:Int));
  bif r4 then
  True∧
 let r5:=decide ((0:Int)≤f1)&&decide (f1≤(2:Int));
  bif r5 then
  True∧
 let r6:=decide ((0:Int)≤f3)&&decide (f3≤(60:Int));
  bif r6 then True∧K (Sp.fB s,()) else K (false,())
  else K (false,())
  else K (false,())
theorem Zk (env:EnvB prog G Θ aav) (h:∀ (s:fQ) (f0:Int) (f1:Int) (f2:Bool) (f3:Int) (f4:rQ),bP Ee (s,(f0,f1,f2,f3,f4,()),())→(True)→ZK s f0 f1 f2 f3 f4 fun r=>r=((Sp.dO s (f0,f1,f2,f3,f4,()),()))):aG prog G uz wJ:=
 aZ env mixed (fn:=f107) (c:=codeOf f107) (by kernel_rfl) (by kernel_rfl) abY (by kernel_rfl) fun ⟨s,⟨f0,f1,f2,f3,f4,⟨⟩⟩,⟨⟩⟩ hin hp=>
 Eq.mpr (by kernel_rfl) (h s f0 f1 f2 f3 f4 hin hp)
def ZL:Hints:=Go.Fw.hints [] [(2,⟨[],⟨[(1, .gB [.sl 155 (.cons .str (.cons (.int .i64) .nil)) false, .sl 56 (.cons (.int .i64) (.cons (.int .i64) (.cons .bool (.cons (.int .i64) (.cons (.sl 94 (.cons .str (.cons (.int .i64) (.cons (.int .i64) (.cons .str .nil))))) .nil))))) false, .int .i64] 0)],[]⟩,⟨[(3, .one (.int .i64))],[]⟩⟩)] [] [] []
def Ya (s0:fQ) (s1:ja) (s2:Int) (K:eG→Prop):Prop:=
 let NW:=(((s0,s1,s2,()),()),());
  ∃ (I:bM→Prop),
  ∃ (μ:bM→Nat),
  I (((0:Int),()),())∧
  ∀ (y1:bM),
  I y1→
  bif decide (y1.1.1<(↑s1.length:Int)) then
  ((0:Int)≤y1.1.1∧y1.1.1<(↑s1.length:Int))∧
  True∧
 let r2:=
  Sp.dO s0
  ((s1.getD (Int.toNat y1.1.1) ((0:Int),(0:Int),false,(0:Int),[],())).1,
  (s1.getD (Int.toNat y1.1.1) ((0:Int),(0:Int),false,(0:Int),[],())).2.1,
  (s1.getD (Int.toNat y1.1.1) ((0:Int),(0:Int),false,(0:Int),[],())).2.2.1,
  (s1.getD (Int.toNat y1.1.1) ((0:Int),(0:Int),false,(0:Int),[],())).2.2.2.1,
  (s1.getD (Int.toNat y1.1.1) ((0:Int),(0:Int),false,(0:Int),[],())).2.2.2.2.1,());
  bif !r2 then K (false,())
  else
  ((0:Int)≤y1.1.1∧y1.1.1<(↑s1.length:Int))∧
  bif decide ((s1.getD (Int.toNat y1.1.1) ((0:Int),(0:Int),false,(0:Int),[],())).1≥s2) then K (false,())
  else
  bif decide (y1.1.1>(0:Int)) then
  ((0:Int)≤i64.wrap (y1.1.1-(1:Int))∧i64.wrap (y1.1.1-(1:Int))<(↑s1.length:Int))∧
  ((0:Int)≤y1.1.1∧y1.1.1<(↑s1.length:Int))∧
  bif
  decide
  ((s1.getD (i64.wrap (y1.1.1-(1:Int))).toNat ((0:Int),(0:Int),false,(0:Int),[],())).1≥
  (s1.getD (Int.toNat y1.1.1) ((0:Int),(0:Int),false,(0:Int),[],())).1) then
  K (false,())
  else NW=NW∧I ((i64.wrap (y1.1.1+(1:Int)),()),())∧μ ((i64.wrap (y1.1.1+(1:Int)),()),())<μ y1
  else NW=NW∧I ((i64.wrap (y1.1.1+(1:Int)),()),())∧μ ((i64.wrap (y1.1.1+(1:Int)),()),())<μ y1
  else
  True∧
  bif Sp.fB s0 then
  bif decide ((↑s1.length:Int)≤(12:Int)) then
  True∧
 let r3:=decide ((1:Int)≤s2)&&decide (s2≤(61:Int));
  K (r3,())
  else K (false,())
  else K (false,())
theorem Xm (env:EnvB prog G Θ YS) (h:∀ (s0:fQ) (s1:ja) (s2:Int),bP CJ ((s0,s1,s2,()),())→(True)→Ya s0 s1 s2 fun r=>r=((Sp.dh (s0,s1,s2,()),()))):aG prog G jb jd:=
 aZ env mixed (fn:=f100) (c:=codeOf f100) (by kernel_rfl) (by kernel_rfl) ZL (by kernel_rfl) fun ⟨⟨s0,s1,s2,⟨⟩⟩,⟨⟩⟩ hin hp=>
 Eq.mpr (by kernel_rfl) (h s0 s1 s2 hin hp)
def ZM:Hints:=Go.Fw.hints [] [(2,⟨[],⟨[(1, .gB [.sl 155 (.cons .str (.cons (.int .i64) .nil)) false, .sl 56 (.cons (.int .i64) (.cons (.int .i64) (.cons .bool (.cons (.int .i64) (.cons (.sl 94 (.cons .str (.cons (.int .i64) (.cons (.int .i64) (.cons .str .nil))))) .nil))))) false, .int .i64] 0),(6, .one (.sl 56 (.cons (.int .i64) (.cons (.int .i64) (.cons .bool (.cons (.int .i64) (.cons (.sl 94 (.cons .str (.cons (.int .i64) (.cons (.int .i64) (.cons .str .nil))))) .nil))))) false)),(7, .one (.int .i64))],[]⟩,⟨[(8, .one (.int .i64))],[]⟩⟩)] [] [] []
def Yb (s0:fQ) (s1:ja) (s2:Int) (K:eG→Prop):Prop:=
 let NW:=(((s0,s1,s2,()),s1,(↑s1.length:Int),()),());
  ∃ (I:bM→Prop),
  ∃ (μ:bM→Nat),
  I (((0:Int),()),())∧
  ∀ (y1:bM),
  I y1→
  bif decide (y1.1.1<(↑s1.length:Int)) then
  ((0:Int)≤y1.1.1∧y1.1.1<(↑s1.length:Int))∧
  True∧
 let r2:=
  Sp.dO s0
  ((s1.getD (Int.toNat y1.1.1) ((0:Int),(0:Int),false,(0:Int),[],())).1,
  (s1.getD (Int.toNat y1.1.1) ((0:Int),(0:Int),false,(0:Int),[],())).2.1,
  (s1.getD (Int.toNat y1.1.1) ((0:Int),(0:Int),false,(0:Int),[],())).2.2.1,
  (s1.getD (Int.toNat y1.1.1) ((0:Int),(0:Int),false,(0:Int),[],())).2.2.2.1,
  (s1.getD (Int.toNat y1.1.1) ((0:Int),(0:Int),false,(0:Int),[],())).2.2.2.2.1,());
  bif !r2 then K (false,())
  else
  bif decide ((s1.getD (Int.toNat y1.1.1) ((0:Int),(0:Int),false,(0:Int),[],())).1≥s2) then K (false,())
  else
  bif decide (y1.1.1>(0:Int)) then
  ((0:Int)≤i64.wrap (y1.1.1-(1:Int))∧i64.wrap (y1.1.1-(1:Int))<(↑s1.length:Int))∧
  bif
  decide
  ((s1.getD (i64.wrap (y1.1.1-(1:Int))).toNat ((0:Int),(0:Int),false,(0:Int),[],())).1≥
  (s1.getD (Int.toNat y1.1.1) ((0:Int),(0:Int),false,(0:Int),[],())).1) then
  K (false,())
  else NW=NW∧I ((i64.wrap (y1.1.1+(1:Int)),()),())∧μ ((i64.wrap (y1.1.1+(1:Int)),()),())<μ y1
  else NW=NW∧I ((i64.wrap (y1.1.1+(1:Int)),()),())∧μ ((i64.wrap (y1.1.1+(1:Int)),()),())<μ y1
  else
  True∧
  bif Sp.fB s0 then
  bif decide ((↑s1.length:Int)≤(12:Int)) then
  True∧
 let r3:=decide ((1:Int)≤s2)&&decide (s2≤(61:Int));
  K (r3,())
  else K (false,())
  else K (false,())
theorem Xp (env:EnvB prog G Θ YT) (h:∀ (s0:fQ) (s1:ja) (s2:Int),bP CO ((s0,s1,s2,()),())→(True)→Yb s0 s1 s2 fun r=>r=((Sp.dh (s0,s1,s2,()),()))):aG prog G sG uY:=
 aZ env mixed (fn:=f96) (c:=codeOf f96) (by kernel_rfl) (by kernel_rfl) ZM (by kernel_rfl) fun ⟨⟨s0,s1,s2,⟨⟩⟩,⟨⟩⟩ hin hp=>
 Eq.mpr (by kernel_rfl) (h s0 s1 s2 hin hp)
def adu:Hints:=Go.Fw.hints [] [(4,⟨[],⟨[(0, .one (.sl 155 (.cons .str (.cons (.int .i64) .nil)) false)),(1, .one (.sl 155 (.cons .str (.cons (.int .i64) .nil)) false))],[]⟩,⟨[(5, .one (.int .i64))],[]⟩⟩)] [] [] []
def abZ (a:fQ) (b:fQ) (K:eG→Prop):Prop:=
 bif (↑a.length:Int) !=(↑b.length:Int) then K (false,())
 else
 let s0:=((a,b,()),());
  ∃ (I:bM→Prop),
  ∃ (μ:bM→Nat),
  I (((0:Int),()),())∧
  ∀ (y1:bM),
  I y1→
  bif decide (y1.1.1<(↑a.length:Int)) then
  ((0:Int)≤y1.1.1∧y1.1.1<(↑a.length:Int))∧
  ((0:Int)≤y1.1.1∧y1.1.1<(↑b.length:Int))∧
  bif
  !((a.getD (Int.toNat y1.1.1) ([],(0:Int),())).1==(b.getD (Int.toNat y1.1.1) ([],(0:Int),())).1&&
  ((a.getD (Int.toNat y1.1.1) ([],(0:Int),())).2.1==(b.getD (Int.toNat y1.1.1) ([],(0:Int),())).2.1&&true)) then
  K (false,())
  else s0=s0∧I ((i64.wrap (y1.1.1+(1:Int)),()),())∧μ ((i64.wrap (y1.1.1+(1:Int)),()),())<μ y1
  else K (true,())
theorem abz (env:EnvB prog G Θ acL) (h:∀ (a:fQ) (b:fQ),bP EU (a,b,())→(True)→abZ a b fun r=>r=((decide (a=b),()))):aG prog G wB yN:=
 aZ env mixed (fn:=f93) (c:=codeOf f93) (by kernel_rfl) (by kernel_rfl) adu (by kernel_rfl) fun ⟨a,b,⟨⟩⟩ hin hp=>
 Eq.mpr (by kernel_rfl) (h a b hin hp)
def afA:Hints:=Go.Fw.hints [] [(4,⟨[],⟨[(0, .one (.sl 94 (.cons .str (.cons (.int .i64) (.cons (.int .i64) (.cons .str .nil)))) false)),(1, .one (.sl 94 (.cons .str (.cons (.int .i64) (.cons (.int .i64) (.cons .str .nil)))) false))],[]⟩,⟨[(5, .one (.int .i64))],[]⟩⟩)] [] [] []
def adv (a:rQ) (b:rQ) (K:eG→Prop):Prop:=
 bif (↑a.length:Int) !=(↑b.length:Int) then K (false,())
 else
 let s0:=((a,b,()),());
  ∃ (I:bM→Prop),
  ∃ (μ:bM→Nat),
  I (((0:Int),()),())∧
  ∀ (y1:bM),
  I y1→
  bif decide (y1.1.1<(↑a.length:Int)) then
  ((0:Int)≤y1.1.1∧y1.1.1<(↑a.length:Int))∧
  ((0:Int)≤y1.1.1∧y1.1.1<(↑b.length:Int))∧
  bif
  !((a.getD (Int.toNat y1.1.1) ([],(0:Int),(0:Int),[],())).1==(b.getD (Int.toNat y1.1.1) ([],(0:Int),(0:Int),[],())).1&&
  ((a.getD (Int.toNat y1.1.1) ([],(0:Int),(0:Int),[],())).2.1==
  (b.getD (Int.toNat y1.1.1) ([],(0:Int),(0:Int),[],())).2.1&&
  ((a.getD (Int.toNat y1.1.1) ([],(0:Int),(0:Int),[],())).2.2.1==
  (b.getD (Int.toNat y1.1.1) ([],(0:Int),(0:Int),[],())).2.2.1&&
  ((a.getD (Int.toNat y1.1.1) ([],(0:Int),(0:Int),[],())).2.2.2.1==
  (b.getD (Int.toNat y1.1.1) ([],(0:Int),(0:Int),[],())).2.2.2.1&&
  true)))) then
  K (false,())
  else s0=s0∧I ((i64.wrap (y1.1.1+(1:Int)),()),())∧μ ((i64.wrap (y1.1.1+(1:Int)),()),())<μ y1
  else K (true,())
theorem ac7 (env:EnvB prog G Θ aen) (h:∀ (a:rQ) (b:rQ),bP F7 (a,b,())→(True)→adv a b fun r=>r=((decide (a=b),()))):aG prog G yw zo:=
 aZ env mixed (fn:=f199) (c:=codeOf f199) (by kernel_rfl) (by kernel_rfl) afA (by kernel_rfl) fun ⟨a,b,⟨⟩⟩ hin hp=>
 Eq.mpr (by kernel_rfl) (h a b hin hp)
def ah2:Hints:=Go.Fw.hints [] [] [] [] []
def afB (a0:Int) (a1:Int) (a2:Bool) (a3:Int) (a4:rQ) (b0:Int) (b1:Int) (b2:Bool) (b3:Int) (b4:rQ) (K:eG→Prop):Prop:=
 bif a0==b0 then
 bif a1==b1 then
 bif a2==b2 then
 bif a3==b3 then
 True∧
 let r0:=decide (a4=b4);
  K (r0,())
  else K (false,())
  else K (false,())
  else K (false,())
  else K (false,())
theorem ae4 (env:EnvB prog G Θ agc) (h:∀ (a0:Int) (a1:Int) (a2:Bool) (a3:Int) (a4:rQ) (b0:Int) (b1:Int) (b2:Bool) (b3:Int) (b4:rQ),bP Hf ((a0,a1,a2,a3,a4,()),(b0,b1,b2,b3,b4,()),())→(True)→afB a0 a1 a2 a3 a4 b0 b1 b2 b3 b4 fun r=>r=((decide ((a0,a1,a2,a3,a4,())=(b0,b1,b2,b3,b4,())),()))):aG prog G zF Aw:=
 aZ env mixed (fn:=f146) (c:=codeOf f146) (by kernel_rfl) (by kernel_rfl) ah2 (by kernel_rfl) fun ⟨⟨a0,a1,a2,a3,a4,⟨⟩⟩,⟨b0,b1,b2,b3,b4,⟨⟩⟩,⟨⟩⟩ hin hp=>
 Eq.mpr (by kernel_rfl) (h a0 a1 a2 a3 a4 b0 b1 b2 b3 b4 hin hp)
def afC:Hints:=Go.Fw.hints [] [(4,⟨[],⟨[(0, .one (.sl 56 (.cons (.int .i64) (.cons (.int .i64) (.cons .bool (.cons (.int .i64) (.cons (.sl 94 (.cons .str (.cons (.int .i64) (.cons (.int .i64) (.cons .str .nil))))) .nil))))) false)),(1, .one (.sl 56 (.cons (.int .i64) (.cons (.int .i64) (.cons .bool (.cons (.int .i64) (.cons (.sl 94 (.cons .str (.cons (.int .i64) (.cons (.int .i64) (.cons .str .nil))))) .nil))))) false))],[]⟩,⟨[(5, .one (.int .i64))],[]⟩⟩)] [] [] []
def adw (a:ja) (b:ja) (K:eG→Prop):Prop:=
 bif (↑a.length:Int) !=(↑b.length:Int) then K (false,())
 else
 let s0:=((a,b,()),());
  ∃ (I:bM→Prop),
  ∃ (μ:bM→Nat),
  I (((0:Int),()),())∧
  ∀ (y1:bM),
  I y1→
  bif decide (y1.1.1<(↑a.length:Int)) then
  ((0:Int)≤y1.1.1∧y1.1.1<(↑a.length:Int))∧
  ((0:Int)≤y1.1.1∧y1.1.1<(↑b.length:Int))∧
  True∧
 let r2:=
  decide
  (((a.getD (Int.toNat y1.1.1) ((0:Int),(0:Int),false,(0:Int),[],())).1,
  (a.getD (Int.toNat y1.1.1) ((0:Int),(0:Int),false,(0:Int),[],())).2.1,
  (a.getD (Int.toNat y1.1.1) ((0:Int),(0:Int),false,(0:Int),[],())).2.2.1,
  (a.getD (Int.toNat y1.1.1) ((0:Int),(0:Int),false,(0:Int),[],())).2.2.2.1,
  (a.getD (Int.toNat y1.1.1) ((0:Int),(0:Int),false,(0:Int),[],())).2.2.2.2.1,())=
  ((b.getD (Int.toNat y1.1.1) ((0:Int),(0:Int),false,(0:Int),[],())).1,
  (b.getD (Int.toNat y1.1.1) ((0:Int),(0:Int),false,(0:Int),[],())).2.1,
  (b.getD (Int.toNat y1.1.1) ((0:Int),(0:Int),false,(0:Int),[],())).2.2.1,
  (b.getD (Int.toNat y1.1.1) ((0:Int),(0:Int),false,(0:Int),[],())).2.2.2.1,
  (b.getD (Int.toNat y1.1.1) ((0:Int),(0:Int),false,(0:Int),[],())).2.2.2.2.1,()));
  bif !r2 then K (false,())
  else s0=s0∧I ((i64.wrap (y1.1.1+(1:Int)),()),())∧μ ((i64.wrap (y1.1.1+(1:Int)),()),())<μ y1
  else K (true,())
theorem ac9 (env:EnvB prog G Θ aeo) (h:∀ (a:ja) (b:ja),bP F8 (a,b,())→(True)→adw a b fun r=>r=((decide (a=b),()))):aG prog G yx zq:=
 aZ env mixed (fn:=f94) (c:=codeOf f94) (by kernel_rfl) (by kernel_rfl) afC (by kernel_rfl) fun ⟨a,b,⟨⟩⟩ hin hp=>
 Eq.mpr (by kernel_rfl) (h a b hin hp)
def afD:Hints:=Go.Fw.hints [] [] [] [] []
def adx (a0:fQ) (a1:ja) (a2:Int) (b0:fQ) (b1:ja) (b2:Int) (K:eG→Prop):Prop:=
 True∧
 let r0:=decide (a0=b0);
  bif r0 then
  True∧
 let r1:=decide (a1=b1);
  bif r1 then K (a2==b2,()) else K (false,())
  else K (false,())
theorem adb (env:EnvB prog G Θ aep) (h:∀ (a0:fQ) (a1:ja) (a2:Int) (b0:fQ) (b1:ja) (b2:Int),bP F9 ((a0,a1,a2,()),(b0,b1,b2,()),())→(True)→adx a0 a1 a2 b0 b1 b2 fun r=>r=((decide ((a0,a1,a2,())=(b0,b1,b2,())),()))):aG prog G yE zu:=
 aZ env mixed (fn:=f52) (c:=codeOf f52) (by kernel_rfl) (by kernel_rfl) afD (by kernel_rfl) fun ⟨⟨a0,a1,a2,⟨⟩⟩,⟨b0,b1,b2,⟨⟩⟩,⟨⟩⟩ hin hp=>
 Eq.mpr (by kernel_rfl) (h a0 a1 a2 b0 b1 b2 hin hp)
def ajT:Hints:=Go.Fw.hints [3,1] [] [] [] []
def ah3 (f0:Int) (f1:Int) (f2:Bool) (f3:Int) (f4:rQ) (K:Jd→Prop):Prop:=
 (0:Nat)+f4.length≤big∧K ((f0,f1,f2,f3,f4,()),())
theorem ahh (env:EnvB prog G Θ aiI) (h:∀ (f0:Int) (f1:Int) (f2:Bool) (f3:Int) (f4:rQ),bP Jl ((f0,f1,f2,f3,f4,()),())→(Sp.jR (f0,f1,f2,f3,f4,()))→ah3 f0 f1 f2 f3 f4 fun r=>r=(((f0,f1,f2,f3,f4,()),()))):aG prog G tX sV:=
 aZ env mixed (fn:=f124) (c:=codeOf f124) (by kernel_rfl) (by kernel_rfl) ajT (by kernel_rfl) fun ⟨⟨f0,f1,f2,f3,f4,⟨⟩⟩,⟨⟩⟩ hin hp=>
 Eq.mpr (by kernel_rfl) (h f0 f1 f2 f3 f4 hin hp)
def ah4:Hints:=Go.Fw.hints [1] [] [] [] []
def afE (f0:Int) (f1:Int) (f2:Bool) (f3:Int) (f4:rQ) (K:Jd→Prop):Prop:=
 f4.length≤(1000:Nat)∧K ((f0,f1,f2,f3,f4,()),())
theorem ae7 (env:EnvB prog G Θ agd) (h:∀ (f0:Int) (f1:Int) (f2:Bool) (f3:Int) (f4:rQ),bP Hg ((f0,f1,f2,f3,f4,()),())→(Sp.jR (f0,f1,f2,f3,f4,()))→afE f0 f1 f2 f3 f4 fun r=>r=(((f0,f1,f2,f3,f4,()),()))):aG prog G zI Az:=
 aZ env mixed (fn:=f108) (c:=codeOf f108) (by kernel_rfl) (by kernel_rfl) ah4 (by kernel_rfl) fun ⟨⟨f0,f1,f2,f3,f4,⟨⟩⟩,⟨⟩⟩ hin hp=>
 Eq.mpr (by kernel_rfl) (h f0 f1 f2 f3 f4 hin hp)
def alD:Hints:=Go.Fw.hints [] [] [] [] []
def ajU (n:Int) (K:eG→Prop):Prop:=
 True∧
 let r0:=decide ((0:Int)≤n)&&decide (n≤(2:Int));
  K (r0,())
theorem ajn (env:EnvB prog G Θ ak4) (h:∀ (n:Int),bP Lh (n,())→(True)→ajU n fun r=>r=((decide ((0:Int)≤n)&&decide (n≤(2:Int)),()))):aG prog G DF EC:=
 aZ env mixed (fn:=f163) (c:=codeOf f163) (by kernel_rfl) (by kernel_rfl) alD (by kernel_rfl) fun ⟨n,⟨⟩⟩ hin hp=>
 Eq.mpr (by kernel_rfl) (h n hin hp)
def ah5:Hints:=Go.Fw.hints [] [(2,⟨[],⟨[(1, .one (.int .i64)),(2, .gB [.sl 155 (.cons .str (.cons (.int .i64) .nil)) false, .sl 56 (.cons (.int .i64) (.cons (.int .i64) (.cons .bool (.cons (.int .i64) (.cons (.sl 94 (.cons .str (.cons (.int .i64) (.cons (.int .i64) (.cons .str .nil))))) .nil))))) false, .int .i64] 0)],[]⟩,⟨[(5, .one (.int .i64))],[]⟩⟩)] [] [] []
def afF (s0:fQ) (s1:ja) (s2:Int) (id:Int) (K:iY→Prop):Prop:=
 let s0:=((id,(s0,s1,s2,()),()),());
  ∃ (I:bM→Prop),
  ∃ (μ:bM→Nat),
  I (((0:Int),()),())∧
  ∀ (y1:bM),
  I y1→
  bif decide (y1.1.1<(↑s1.length:Int)) then
  ((0:Int)≤y1.1.1∧y1.1.1<(↑s1.length:Int))∧
  bif (s1.getD (Int.toNat y1.1.1) ((0:Int),(0:Int),false,(0:Int),[],())).1==id then K (y1.1.1,())
  else s0=s0∧I ((i64.wrap (y1.1.1+(1:Int)),()),())∧μ ((i64.wrap (y1.1.1+(1:Int)),()),())<μ y1
  else K ((-1:Int),())
theorem ae9 (env:EnvB prog G Θ agf) (h:∀ (s0:fQ) (s1:ja) (s2:Int) (id:Int),bP Hl ((s0,s1,s2,()),id,())→(True)→afF s0 s1 s2 id fun r=>r=((Sp.place s1 id,()))):aG prog G zG AA:=
 aZ env mixed (fn:=f123) (c:=codeOf f123) (by kernel_rfl) (by kernel_rfl) ah5 (by kernel_rfl) fun ⟨⟨s0,s1,s2,⟨⟩⟩,id,⟨⟩⟩ hin hp=>
 Eq.mpr (by kernel_rfl) (h s0 s1 s2 id hin hp)
def Pm:Hints:=Go.Fw.hints [5] [] [] [] []
def NY (s:fQ) (K:fQ×Unit→Prop):Prop:=
 ∀ (g0:Bool),(g0=true→s.length=(0:Nat))→bif g0 then K ([],()) else (0:Nat)+s.length≤big∧K (s,())
theorem NQ (env:EnvB prog G Θ OJ) (h:∀ (s:fQ),bP vU (s,())→(s.length≤(1000:Nat))→NY s fun r=>r=((s,()))):aG prog G lq nR:=
 aZ env mixed (fn:=f143) (c:=codeOf f143) (by kernel_rfl) (by kernel_rfl) Pm (by kernel_rfl) fun ⟨s,⟨⟩⟩ hin hp=>
 Eq.mpr (by kernel_rfl) (h s hin hp)
def Q7:Hints:=Go.Fw.hints [5] [] [] [] []
def Pn (s:rQ) (K:rQ×Unit→Prop):Prop:=
 ∀ (g0:Bool),(g0=true→s.length=(0:Nat))→bif g0 then K ([],()) else (0:Nat)+s.length≤big∧K (s,())
theorem O6 (env:EnvB prog G Θ Qc) (h:∀ (s:rQ),bP wK (s,())→(s.length≤(1000:Nat))→Pn s fun r=>r=((s,()))):aG prog G lZ oV:=
 aZ env mixed (fn:=f164) (c:=codeOf f164) (by kernel_rfl) (by kernel_rfl) Q7 (by kernel_rfl) fun ⟨s,⟨⟩⟩ hin hp=>
 Eq.mpr (by kernel_rfl) (h s hin hp)
def ajV:Hints:=Go.Fw.hints [11,53,11,33,53,61,3] [(3,⟨[],⟨[(1, .one (.str)),(3, .dw 192 0),(5, .gB [.int .i64, .int .i64, .str] 0),(6, .dw 384 0)],[(192, .var [.int .i64, .int .i64, .bool, .int .i64, .sl 94 (.cons .str (.cons (.int .i64) (.cons (.int .i64) (.cons .str .nil)))) false]),(384, .var [.int .i64, .int .i64, .bool, .int .i64, .nil])]⟩,⟨[(7, .one (.ref 705)),(8, .one (.int .i64))],[(705, .arr 94 (.cons .str (.cons (.int .i64) (.cons (.int .i64) (.cons .str .nil)))) true)]⟩⟩),(9,⟨[],⟨[(1, .one (.str)),(3, .dw 192 0),(5, .gB [.int .i64, .int .i64, .str] 0),(6, .dw 384 0),(7, .one (.ref 705))],[(192, .var [.int .i64, .int .i64, .bool, .int .i64, .sl 94 (.cons .str (.cons (.int .i64) (.cons (.int .i64) (.cons .str .nil)))) false]),(384, .var [.int .i64, .int .i64, .bool, .int .i64, .nil]),(705, .arr 94 (.cons .str (.cons (.int .i64) (.cons (.int .i64) (.cons .str .nil)))) true)]⟩,⟨[(9, .one (.int .i64))],[]⟩⟩)] [] [] [(11,[.still 705])]
def ah6 (f0:Int) (f1:Int) (f2:Bool) (f3:Int) (f4:rQ) (name:eX) (v0:Int) (v1:Int) (v2:eX) (K:Jd×Unit→Prop):Prop:=
 let s0:=((name,(),(v0,v1,v2,()),(),()),(f0,f1,f2,f3,f4,()),((0:Int),(0:Int),false,(0:Int),(),()),());
  ∃ (I:qA×rQ×Unit→Prop),
  ∃ (μ:qA×rQ×Unit→Nat),
  I (((),(0:Int),()),[],())∧
  ∀ (y1:qA×rQ×Unit),
  I y1→
  bif decide (y1.1.2.1<(↑f4.length:Int)) then
  ((0:Int)≤y1.1.2.1∧y1.1.2.1<(↑f4.length:Int))∧
  bif !(f4.getD (Int.toNat y1.1.2.1) ([],(0:Int),(0:Int),[],())).1==name then
  ((0:Int)≤y1.1.2.1∧y1.1.2.1<(↑f4.length:Int))∧
  List.length y1.2.1+
  [((f4.getD (Int.toNat y1.1.2.1) ([],(0:Int),(0:Int),[],())).1,
  (f4.getD (Int.toNat y1.1.2.1) ([],(0:Int),(0:Int),[],())).2.1,
  (f4.getD (Int.toNat y1.1.2.1) ([],(0:Int),(0:Int),[],())).2.2.1,
  (f4.getD (Int.toNat y1.1.2.1) ([],(0:Int),(0:Int),[],())).2.2.2.1,())].length≤
  big∧
  s0=s0∧
  I
  (((),i64.wrap (y1.1.2.1+(1:Int)),()),
  y1.2.1++
  [((f4.getD (Int.toNat y1.1.2.1) ([],(0:Int),(0:Int),[],())).1,
  (f4.getD (Int.toNat y1.1.2.1) ([],(0:Int),(0:Int),[],())).2.1,
  (f4.getD (Int.toNat y1.1.2.1) ([],(0:Int),(0:Int),[],())).2.2.1,
  (f4.getD (Int.toNat y1.1.2.1) ([],(0:Int),(0:Int),[],())).2.2.2.1,())],
  ())∧
  μ
  (((),i64.wrap (y1.1.2.1+(1:Int)),()),
  y1.2.1++
  [((f4.getD (Int.toNat y1.1.2.1) ([],(0:Int),(0:Int),[],())).1,
  (f4.getD (Int.toNat y1.1.2.1) ([],(0:Int),(0:Int),[],())).2.1,
  (f4.getD (Int.toNat y1.1.2.1) ([],(0:Int),(0:Int),[],())).2.2.1,
  (f4.getD (Int.toNat y1.1.2.1) ([],(0:Int),(0:Int),[],())).2.2.2.1,())],
  ())<
  μ y1
  else
  s0=s0∧
  I (((),i64.wrap (y1.1.2.1+(1:Int)),()),y1.2.1,())∧μ (((),i64.wrap (y1.1.2.1+(1:Int)),()),y1.2.1,())<μ y1
  else
  bif v0 !=(0:Int) then
 let s2:=((name,(),(v0,v1,v2,()),(),(),()),(f0,f1,f2,f3,f4,()),((0:Int),(0:Int),false,(0:Int),(),()),y1.2.1,());
  ∃ (I:bM→Prop),
  ∃ (μ:bM→Nat),
  I (((0:Int),()),())∧
  ∀ (y3:bM),
  I y3→
  bif decide (y3.1.1<(↑(List.length y1.2.1):Int)) then
  ((0:Int)≤y3.1.1∧y3.1.1<(↑(List.length y1.2.1):Int))∧
  Int.toNat y3.1.1<List.length y1.2.1∧
  bif
  Op.bytesLess (List.getD y1.2.1 (Int.toNat y3.1.1) ([],(0:Int),(0:Int),[],())).1 name||
  (List.getD y1.2.1 (Int.toNat y3.1.1) ([],(0:Int),(0:Int),[],())).1==name then
  s2=s2∧I ((i64.wrap (y3.1.1+(1:Int)),()),())∧μ ((i64.wrap (y3.1.1+(1:Int)),()),())<μ y3
  else
  ((0:Int)≤y3.1.1∧y3.1.1≤(↑(List.length y1.2.1):Int))∧
  (0:Nat)+(List.drop (0:Nat) (List.take (Int.toNat y3.1.1) y1.2.1)).length≤big∧
  (List.drop (0:Nat) (List.take (Int.toNat y3.1.1) y1.2.1)).length+[(name,v0,v1,v2,())].length≤big∧
  ((0:Int)≤y3.1.1∧y3.1.1≤(↑(List.length y1.2.1):Int))∧
  (List.drop (0:Nat) (List.take (Int.toNat y3.1.1) y1.2.1)++[(name,v0,v1,v2,())]).length+
  (List.drop (Int.toNat y3.1.1) (List.take (List.length y1.2.1) y1.2.1)).length≤
  big∧
  K
  (((f0,f1,f2,f3,
  List.drop (0:Nat) (List.take (Int.toNat y3.1.1) y1.2.1)++[(name,v0,v1,v2,())]++
  List.drop (Int.toNat y3.1.1) (List.take (List.length y1.2.1) y1.2.1),
  ()),
  ()),
  ())
  else
  ((0:Int)≤y3.1.1∧y3.1.1≤(↑(List.length y1.2.1):Int))∧
  (0:Nat)+(List.drop (0:Nat) (List.take (Int.toNat y3.1.1) y1.2.1)).length≤big∧
  (List.drop (0:Nat) (List.take (Int.toNat y3.1.1) y1.2.1)).length+[(name,v0,v1,v2,())].length≤big∧
  ((0:Int)≤y3.1.1∧y3.1.1≤(↑(List.length y1.2.1):Int))∧
  (List.drop (0:Nat) (List.take (Int.toNat y3.1.1) y1.2.1)++[(name,v0,v1,v2,())]).length+
  (List.drop (Int.toNat y3.1.1) (List.take (List.length y1.2.1) y1.2.1)).length≤
  big∧
  K
  (((f0,f1,f2,f3,
  List.drop (0:Nat) (List.take (Int.toNat y3.1.1) y1.2.1)++[(name,v0,v1,v2,())]++
  List.drop (Int.toNat y3.1.1) (List.take (List.length y1.2.1) y1.2.1),
  ()),
  ()),
  ())
  else K (((f0,f1,f2,f3,y1.2.1,()),()),())
theorem ahk (env:EnvB prog G Θ aiJ) (hne:∀ x,(Lj x).1→∃ t,(Lj x).2 t) (h:∀ (f0:Int) (f1:Int) (f2:Bool) (f3:Int) (f4:rQ) (name:eX) (v0:Int) (v1:Int) (v2:eX),dL nS ((f0,f1,f2,f3,f4,()),name,(v0,v1,v2,()),())→(f4.length≤(1000:Nat))→ah6 f0 f1 f2 f3 f4 name v0 v1 v2 fun (r:Jd×Unit)=>(f4.length≤(1000:Nat),fun (x:Jd×Unit)=>
 x.1.1.1=f0∧x.1.1.2.1=f1∧x.1.1.2.2.1=f2∧x.1.1.2.2.2.1=f3∧x.1.1.2.2.2.2.1=Sp.kF f4 name v0 v1 v2).2
 r):aC prog G tV sW:=
 bQ env mixed (fn:=f31) (c:=codeOf f31) (by kernel_rfl) (by kernel_rfl) ajV (by kernel_rfl) hne fun ⟨⟨f0,f1,f2,f3,f4,⟨⟩⟩,name,⟨v0,v1,v2,⟨⟩⟩,⟨⟩⟩ hin hp=>
 Eq.mpr (by kernel_rfl) (h f0 f1 f2 f3 f4 name v0 v1 v2 hin hp)
def ajW:Hints:=Go.Fw.hints [8,10,13,15,18,24,26,31,33,40,42,48] [] [(4,⟨[],⟨[(0, .dw 48 0),(4, .dw 256 0),(5, .dw 320 0)],[(256, .var [.int .i64, .int .i64, .bool, .int .i64, .nil])]⟩,⟨[],[(48, .var [.sl 5 (.cons (.int .u8) .nil) false, .int .i64, .int .i64]),(320, .var [.int .i64, .int .i64, .bool, .int .i64, .nil])]⟩⟩),(6,⟨[(.obj 320 4,357,94,(.cons .str (.cons (.int .i64) (.cons (.int .i64) (.cons .str .nil)))),true)],⟨[(0, .dw 48 0),(4, .dw 256 0),(5, .dw 320 0)],[(256, .var [.int .i64, .int .i64, .bool, .int .i64, .nil])]⟩,⟨[],[(48, .var [.sl 5 (.cons (.int .u8) .nil) false, .int .i64, .int .i64]),(320, .var [.int .i64, .int .i64, .bool, .int .i64, .ref 357]),(357, .arr 94 (.cons .str (.cons (.int .i64) (.cons (.int .i64) (.cons .str .nil)))) true)]⟩⟩),(8,⟨[(.obj 320 4,357,94,(.cons .str (.cons (.int .i64) (.cons (.int .i64) (.cons .str .nil)))),true)],⟨[(0, .dw 48 0),(4, .dw 256 0),(5, .dw 320 0)],[(256, .var [.int .i64, .int .i64, .bool, .int .i64, .nil])]⟩,⟨[],[(48, .var [.sl 5 (.cons (.int .u8) .nil) false, .int .i64, .int .i64]),(320, .var [.int .i64, .int .i64, .bool, .int .i64, .ref 357]),(357, .arr 94 (.cons .str (.cons (.int .i64) (.cons (.int .i64) (.cons .str .nil)))) true)]⟩⟩),(10,⟨[(.obj 320 4,357,94,(.cons .str (.cons (.int .i64) (.cons (.int .i64) (.cons .str .nil)))),true)],⟨[(0, .dw 48 0),(4, .dw 256 0),(5, .dw 320 0)],[(256, .var [.int .i64, .int .i64, .bool, .int .i64, .nil])]⟩,⟨[],[(48, .var [.sl 5 (.cons (.int .u8) .nil) false, .int .i64, .int .i64]),(320, .var [.int .i64, .int .i64, .bool, .int .i64, .ref 357]),(357, .arr 94 (.cons .str (.cons (.int .i64) (.cons (.int .i64) (.cons .str .nil)))) true)]⟩⟩),(12,⟨[(.obj 320 4,357,94,(.cons .str (.cons (.int .i64) (.cons (.int .i64) (.cons .str .nil)))),true)],⟨[(4, .dw 256 0),(5, .dw 320 0)],[(256, .var [.int .i64, .int .i64, .bool, .int .i64, .nil])]⟩,⟨[],[(48, .var [.sl 5 (.cons (.int .u8) .nil) false, .int .i64, .int .i64]),(320, .var [.int .i64, .int .i64, .bool, .int .i64, .ref 357]),(357, .arr 94 (.cons .str (.cons (.int .i64) (.cons (.int .i64) (.cons .str .nil)))) true)]⟩⟩)] [48] []
def ah7 (c0:dH) (c1:Int) (c2:Int) (id:Int) (K:Jd×jF→Prop):Prop:=
 (0:Int)≤c1∧
 ∀ (r0:eP),
 (0:Int)≤r0.2.1.2.1∧(0:Int)≤r0.1.1∧((0:Int)<(3:Int)→r0.1.1<(3:Int))∧((3:Int)≤(0:Int)→r0.1.1=(0:Int))→
 (0:Int)≤r0.2.1.2.1∧
 ∀ (r1:NV),
 (r1.2.1.2.1-(0:Int)).NonNeg→
 let s2:=(((),(),(),()),((0:Int),(0:Int),false,(0:Int),(),()),());
  ∃ (J:Unit×zf×aqt×Unit→Prop),
  ((0:Int)≤r1.2.1.2.1∧
  ∀ (r3:NV),
  (r3.2.1.2.1-(0:Int)).NonNeg→
  bif r3.1.1 then
  (0:Int)≤r3.2.1.2.1∧
  ∀ (r4:eP),
  (0:Int)≤r4.2.1.2.1∧(0:Int)≤r4.1.1∧((0:Int)<(7:Int)→r4.1.1<(7:Int))∧((7:Int)≤(0:Int)→r4.1.1=(0:Int))→
  s2=s2∧J ((),(r4.2.1.1,r4.2.1.2.1,r4.2.1.2.2.1,()),(id,r0.1.1,r1.1.1,r4.1.1,(),()),())
  else s2=s2∧J ((),(r3.2.1.1,r3.2.1.2.1,r3.2.1.2.2.1,()),(id,r0.1.1,r1.1.1,(0:Int),(),()),()))∧
  ∀ (y5:Unit×zf×aqt×Unit),
  J y5→
 let s6:=(((),(),(),()),((0:Int),(0:Int),false,(0:Int),(),()),());
  ∃ (J:
  abT→Prop),
  ((0:Int)≤y5.2.1.2.1∧
  ∀ (r7:NV),
  (r7.2.1.2.1-(0:Int)).NonNeg→
  bif !r7.1.1 then
  (0:Int)≤r7.2.1.2.1∧
  ∀ (r8:eP),
  (0:Int)≤r8.2.1.2.1∧
  (0:Int)≤r8.1.1∧((0:Int)<(4:Int)→r8.1.1<(4:Int))∧((4:Int)≤(0:Int)→r8.1.1=(0:Int))→
  True∧
 let r9:=r8.1.1;
  (0:Nat)≤(1000:Nat)∧
  ∀ (r10:Jd×Unit),
  r10.1.1.1=y5.2.2.1.1∧
  r10.1.1.2.1=y5.2.2.1.2.1∧
  r10.1.1.2.2.1=y5.2.2.1.2.2.1∧
  r10.1.1.2.2.2.1=y5.2.2.1.2.2.2.1∧r10.1.1.2.2.2.2.1=Sp.kF [] [(97:UInt8)] (1:Int) r9 []→
  s6=s6∧
  J
  ((),(r8.2.1.1,r8.2.1.2.1,r8.2.1.2.2.1,()),
  (r10.1.1.1,r10.1.1.2.1,r10.1.1.2.2.1,r10.1.1.2.2.2.1,(),()),
  r10.1.1.2.2.2.2.1,())
  else
  s6=s6∧
  J
  ((),(r7.2.1.1,r7.2.1.2.1,r7.2.1.2.2.1,()),
  (y5.2.2.1.1,y5.2.2.1.2.1,y5.2.2.1.2.2.1,y5.2.2.1.2.2.2.1,(),()),[],()))∧
  ∀ (V5:abT),
  J V5→
 let s12:=(((),(),(),()),((0:Int),(0:Int),false,(0:Int),(),()),());
  ∃ (J:
  abT→
  Prop),
  ((0:Int)≤V5.2.1.2.1∧
  ∀ (r13:NV),
  (r13.2.1.2.1-(0:Int)).NonNeg→
  bif r13.1.1 then
  (0:Int)≤r13.2.1.2.1∧
  ∀ (Q8:eP),
  (0:Int)≤Q8.2.1.2.1∧
  (0:Int)≤Q8.1.1∧((0:Int)<(4:Int)→Q8.1.1<(4:Int))∧((4:Int)≤(0:Int)→Q8.1.1=(0:Int))→
  True∧
 let r15:=Q8.1.1;
  List.length V5.2.2.2.1≤(1000:Nat)∧
  ∀ (r16:Jd×Unit),
  r16.1.1.1=V5.2.2.1.1∧
  r16.1.1.2.1=V5.2.2.1.2.1∧
  r16.1.1.2.2.1=V5.2.2.1.2.2.1∧
  r16.1.1.2.2.2.1=V5.2.2.1.2.2.2.1∧
  r16.1.1.2.2.2.2.1=Sp.kF V5.2.2.2.1 [(98:UInt8)] (1:Int) r15 []→
  s12=s12∧
  J
  ((),(Q8.2.1.1,Q8.2.1.2.1,Q8.2.1.2.2.1,()),
  (r16.1.1.1,r16.1.1.2.1,r16.1.1.2.2.1,r16.1.1.2.2.2.1,(),()),
  r16.1.1.2.2.2.2.1,())
  else
  s12=s12∧
  J
  ((),(r13.2.1.1,r13.2.1.2.1,r13.2.1.2.2.1,()),
  (V5.2.2.1.1,V5.2.2.1.2.1,V5.2.2.1.2.2.1,V5.2.2.1.2.2.2.1,(),()),
  V5.2.2.2.1,()))∧
  ∀
  (V6:
  abT),
  J V6→
 let s18:=(((),(),(),()),((0:Int),(0:Int),false,(0:Int),(),()),());
  ∃ (J:
  abT→
  Prop),
  ((0:Int)≤V6.2.1.2.1∧
  ∀ (r19:NV),
  (r19.2.1.2.1-(0:Int)).NonNeg→
  bif !r19.1.1 then
  ((0:Int)≤r19.2.1.2.1∧
  [([(105:UInt8),110,107],()),([(115:UInt8),101,97],())]≠[])∧
  ∀ (r20:rU),
  (0:Int)≤r20.2.1.2.1∧
  (r20.1.1,())∈
  [([(105:UInt8),110,107],()),([(115:UInt8),101,97],())]→
  True∧
 let r21:=r20.1.1;
  List.length V6.2.2.2.1≤(1000:Nat)∧
  ∀ (r22:Jd×Unit),
  r22.1.1.1=V6.2.2.1.1∧
  r22.1.1.2.1=V6.2.2.1.2.1∧
  r22.1.1.2.2.1=V6.2.2.1.2.2.1∧
  r22.1.1.2.2.2.1=V6.2.2.1.2.2.2.1∧
  r22.1.1.2.2.2.2.1=Sp.kF V6.2.2.2.1 [(110:UInt8)] (2:Int) (0:Int) r21→
  s18=s18∧
  J
  ((),(r20.2.1.1,r20.2.1.2.1,r20.2.1.2.2.1,()),
  (r22.1.1.1,r22.1.1.2.1,r22.1.1.2.2.1,r22.1.1.2.2.2.1,(),()),
  r22.1.1.2.2.2.2.1,())
  else
  s18=s18∧
  J
  ((),(r19.2.1.1,r19.2.1.2.1,r19.2.1.2.2.1,()),
  (V6.2.2.1.1,V6.2.2.1.2.1,V6.2.2.1.2.2.1,V6.2.2.1.2.2.2.1,(),()),
  V6.2.2.2.1,()))∧
  ∀
  (y23:
  abT),
  J y23→
 let s24:=(((),(),()),((0:Int),(0:Int),false,(0:Int),(),()),());
  ∃ (J:
  abT→
  Prop),
  ((0:Int)≤y23.2.1.2.1∧
  ∀ (r25:NV),
  (r25.2.1.2.1-(0:Int)).NonNeg→
  bif r25.1.1 then
  ((0:Int)≤r25.2.1.2.1∧
  [([(114:UInt8),101,100],()),
  ([(98:UInt8),108,117,101],())]≠
  [])∧
  ∀ (r26:rU),
  (0:Int)≤r26.2.1.2.1∧
  (r26.1.1,())∈
  [([(114:UInt8),101,100],()),
  ([(98:UInt8),108,117,101],())]→
  True∧
 let r27:=r26.1.1;
  List.length y23.2.2.2.1≤(1000:Nat)∧
  ∀ (r28:Jd×Unit),
  r28.1.1.1=y23.2.2.1.1∧
  r28.1.1.2.1=y23.2.2.1.2.1∧
  r28.1.1.2.2.1=y23.2.2.1.2.2.1∧
  r28.1.1.2.2.2.1=y23.2.2.1.2.2.2.1∧
  r28.1.1.2.2.2.2.1=Sp.kF y23.2.2.2.1 [(116:UInt8)] (2:Int) (0:Int) r27→
  s24=s24∧
  J
  ((),(r26.2.1.1,r26.2.1.2.1,r26.2.1.2.2.1,()),
  (r28.1.1.1,r28.1.1.2.1,r28.1.1.2.2.1,r28.1.1.2.2.2.1,(),()),
  r28.1.1.2.2.2.2.1,())
  else
  s24=s24∧
  J
  ((),(r25.2.1.1,r25.2.1.2.1,r25.2.1.2.2.1,()),
  (y23.2.2.1.1,y23.2.2.1.2.1,y23.2.2.1.2.2.1,y23.2.2.1.2.2.2.1,(),()),
  y23.2.2.2.1,()))∧
  ∀
  (y29:
  abT),
  J y29→
  K
  (((y29.2.2.1.1,y29.2.2.1.2.1,y29.2.2.1.2.2.1,y29.2.2.1.2.2.2.1,
  y29.2.2.2.1,()),
  ()),
  (y29.2.1.1,y29.2.1.2.1,y29.2.1.2.2.1,()),())
theorem ahq (env:EnvB prog G Θ aiK) (hne:∀ x,(Ll x).1→∃ t,(Ll x).2 t) (h:∀ (c0:dH) (c1:Int) (c2:Int) (id:Int),dL jO ((c0,c1,c2,()),id,())→((0:Int)≤c1)→ah7 c0 c1 c2 id fun (r:Jd×jF)=>((0:Int)≤c1,fun (x:Jd×jF)=>
 (0:Int)≤x.2.1.2.1∧
 x.1.1.1=id∧
 (0:Int)≤x.1.1.2.1∧
 x.1.1.2.1≤(2:Int)∧
 (0:Int)≤x.1.1.2.2.2.1∧x.1.1.2.2.2.1≤(6:Int)∧Sp.pO Sp.usual x.1.1.2.2.2.2.1=true∧x.1.1.2.2.2.2.1.length≤(4:Nat)).2
 r):aC prog G ni lS:=
 bQ env mixed (fn:=f138) (c:=codeOf f138) (by kernel_rfl) (by kernel_rfl) ajW (by kernel_rfl) hne fun ⟨⟨c0,c1,c2,⟨⟩⟩,id,⟨⟩⟩ hin hp=>
 Eq.mpr (by kernel_rfl) (h c0 c1 c2 id hin hp)
def alE:Hints:=Go.Fw.hints [8,15,21,27,45] [] [] [48] []
def ajX (c0:dH) (c1:Int) (c2:Int) (K:Jd×jF→Prop):Prop:=
 (0:Int)≤c1∧
 ∀ (r0:eP),
 (0:Int)≤r0.2.1.2.1∧(0:Int)≤r0.1.1∧((0:Int)<(7:Int)→r0.1.1<(7:Int))∧((7:Int)≤(0:Int)→r0.1.1=(0:Int))→
 (0:Int)≤r0.2.1.2.1∧
 ∀ (r1:Jd×jF),
 (0:Int)≤r1.2.1.2.1∧
 r1.1.1.1=i64.wrap ((1:Int)+r0.1.1)∧
 (0:Int)≤r1.1.1.2.1∧
 r1.1.1.2.1≤(2:Int)∧
 (0:Int)≤r1.1.1.2.2.2.1∧r1.1.1.2.2.2.1≤(6:Int)∧Sp.pO Sp.usual r1.1.1.2.2.2.2.1=true∧r1.1.1.2.2.2.2.1.length≤(4:Nat)→
 (0:Int)≤r1.2.1.2.1∧
 ∀ (r2:eP),
 (0:Int)≤r2.2.1.2.1∧(0:Int)≤r2.1.1∧((0:Int)<(14:Int)→r2.1.1<(14:Int))∧((14:Int)≤(0:Int)→r2.1.1=(0:Int))→
 bif r2.1.1==(0:Int) then
 ((0:Int)≤r2.2.1.2.1∧[((0:Int),()),((60:Int),()),((61:Int),()),((-1:Int),())]≠[])∧
 ∀ (r3:eP),
 (0:Int)≤r3.2.1.2.1∧(r3.1.1,())∈[((0:Int),()),((60:Int),()),((61:Int),()),((-1:Int),())]→
 K
 (((r3.1.1,r1.1.1.2.1,r1.1.1.2.2.1,r1.1.1.2.2.2.1,r1.1.1.2.2.2.2.1,()),()),
 (r3.2.1.1,r3.2.1.2.1,r3.2.1.2.2.1,()),())
 else
 bif r2.1.1==(1:Int) then
 ((0:Int)≤r2.2.1.2.1∧[((-1:Int),()),((2:Int),()),((3:Int),())]≠[])∧
 ∀ (r4:eP),
 (0:Int)≤r4.2.1.2.1∧(r4.1.1,())∈[((-1:Int),()),((2:Int),()),((3:Int),())]→
 K
 (((r1.1.1.1,r4.1.1,r1.1.1.2.2.1,r1.1.1.2.2.2.1,r1.1.1.2.2.2.2.1,()),()),
 (r4.2.1.1,r4.2.1.2.1,r4.2.1.2.2.1,()),())
 else
 bif r2.1.1==(2:Int) then
 ((0:Int)≤r2.2.1.2.1∧[((-1:Int),()),((60:Int),()),((61:Int),()),((9223372036854775807:Int),())]≠[])∧
 ∀ (r5:eP),
 (0:Int)≤r5.2.1.2.1∧(r5.1.1,())∈[((-1:Int),()),((60:Int),()),((61:Int),()),((9223372036854775807:Int),())]→
 K
 (((r1.1.1.1,r1.1.1.2.1,r1.1.1.2.2.1,r5.1.1,r1.1.1.2.2.2.2.1,()),()),
 (r5.2.1.1,r5.2.1.2.1,r5.2.1.2.2.1,()),())
 else
 bif r2.1.1==(3:Int) then
 (0:Int)≤r2.2.1.2.1∧
 ∀ (r6:rU),
 (0:Int)≤r6.2.1.2.1∧r6.1.1.length≤(1:Nat)→
 (0:Int)≤r6.2.1.2.1∧
 ∀ (r7:XZ),
 (0:Int)≤r7.2.1.2.1∧r7.1.1.2.2.1.length≤(10:Nat)→
 List.length r1.1.1.2.2.2.2.1+[(r6.1.1,r7.1.1.1,r7.1.1.2.1,r7.1.1.2.2.1,())].length≤big∧
 K
 (((r1.1.1.1,r1.1.1.2.1,r1.1.1.2.2.1,r1.1.1.2.2.2.1,
 r1.1.1.2.2.2.2.1++[(r6.1.1,r7.1.1.1,r7.1.1.2.1,r7.1.1.2.2.1,())],()),
 ()),
 (r7.2.1.1,r7.2.1.2.1,r7.2.1.2.2.1,()),())
 else
 bif r2.1.1==(4:Int) then
 True∧
 let r8:=[(114:UInt8),101,100];
  List.length r1.1.1.2.2.2.2.1≤(1000:Nat)∧
  ∀ (r9:Jd×Unit),
  r9.1.1.1=r1.1.1.1∧
  r9.1.1.2.1=r1.1.1.2.1∧
  r9.1.1.2.2.1=r1.1.1.2.2.1∧
  r9.1.1.2.2.2.1=r1.1.1.2.2.2.1∧
  r9.1.1.2.2.2.2.1=Sp.kF r1.1.1.2.2.2.2.1 [(97:UInt8)] (2:Int) (0:Int) r8→
  K
  (((r9.1.1.1,r9.1.1.2.1,r9.1.1.2.2.1,r9.1.1.2.2.2.1,r9.1.1.2.2.2.2.1,()),()),
  (r2.2.1.1,r2.2.1.2.1,r2.2.1.2.2.1,()),())
  else
  K
  (((r1.1.1.1,r1.1.1.2.1,r1.1.1.2.2.1,r1.1.1.2.2.2.1,r1.1.1.2.2.2.2.1,()),()),
  (r2.2.1.1,r2.2.1.2.1,r2.2.1.2.2.1,()),())
theorem ajp (env:EnvB prog G Θ ak5) (hne:∀ x,(Nr x).1→∃ t,(Nr x).2 t) (h:∀ (c0:dH) (c1:Int) (c2:Int),dL xJ ((c0,c1,c2,()),())→((0:Int)≤c1)→ajX c0 c1 c2 fun (r:Jd×jF)=>((0:Int)≤c1,fun (x:Jd×jF)=>
 (0:Int)≤x.2.1.2.1∧x.1.1.2.2.2.2.1.length≤(10:Nat)).2
 r):aC prog G DJ ED:=
 bQ env mixed (fn:=f135) (c:=codeOf f135) (by kernel_rfl) (by kernel_rfl) alE (by kernel_rfl) hne fun ⟨⟨c0,c1,c2,⟨⟩⟩,⟨⟩⟩ hin hp=>
 Eq.mpr (by kernel_rfl) (h c0 c1 c2 hin hp)
def ah8:Hints:=Go.Fw.hints [3,3] [] [] [] []
def afG (s:fQ) (K:KC→Prop):Prop:=
 (0:Nat)+s.length≤big∧K (((s,[],(1:Int),()),()),())
theorem afb (env:EnvB prog G Θ agh) (hne:∀ x,(Jm x).1→∃ t,(Jm x).2 t) (h:∀ (s:fQ),dL sZ (s,())→(s.length≤(1000:Nat))→afG s fun (r:KC)=>(s.length≤(1000:Nat),
 fun (x:KC)=>
 x.1.1.1=s∧x.1.1.2.1=[]∧x.1.1.2.2.1=(1:Int)).2
 r):aC prog G zH AB:=
 bQ env mixed (fn:=f157) (c:=codeOf f157) (by kernel_rfl) (by kernel_rfl) ah8 (by kernel_rfl) hne fun ⟨s,⟨⟩⟩ hin hp=>
 Eq.mpr (by kernel_rfl) (h s hin hp)
def ajY:Hints:=Go.Fw.hints [5,5,26,27] [(3,⟨[(.obj 192 1,226,56,(.cons (.int .i64) (.cons (.int .i64) (.cons .bool (.cons (.int .i64) (.cons (.sl 94 (.cons .str (.cons (.int .i64) (.cons (.int .i64) (.cons .str .nil))))) .nil))))),true)],⟨[(1, .gB [.sl 155 (.cons .str (.cons (.int .i64) .nil)) false, .sl 56 (.cons (.int .i64) (.cons (.int .i64) (.cons .bool (.cons (.int .i64) (.cons (.sl 94 (.cons .str (.cons (.int .i64) (.cons (.int .i64) (.cons .str .nil))))) .nil))))) false, .int .i64] 0),(2, .dw 128 0),(3, .dw 192 0)],[(128, .var [.nil, .nil, .int .i64]),(513, .arr 155 (.cons .str (.cons (.int .i64) .nil)) true)]⟩,⟨[(4, .one (.int .i64))],[(192, .var [.ref 513, .ref 226, .int .i64]),(226, .arr 56 (.cons (.int .i64) (.cons (.int .i64) (.cons .bool (.cons (.int .i64) (.cons (.sl 94 (.cons .str (.cons (.int .i64) (.cons (.int .i64) (.cons .str .nil))))) .nil))))) true)]⟩⟩)] [] [] []
def ah9 (s0:fQ) (s1:ja) (s2:Int) (K:KC→Prop):Prop:=
 (0:Nat)+s0.length≤big∧
 let NW:=(((s0,s1,s2,()),(),(),()),((),(),(0:Int),()),s0,());
  ∃ (I:iY×(Unit×qA)×ja×Unit→Prop),
  ∃ (μ:iY×(Unit×qA)×ja×Unit→Nat),
  I (((0:Int),()),((),(),s2,()),[],())∧
  ∀ (y1:iY×(Unit×qA)×ja×Unit),
  I y1→
  bif decide (y1.1.1<(↑s1.length:Int)) then
  ((0:Int)≤y1.1.1∧y1.1.1<(↑s1.length:Int))∧
  Sp.jR
  ((s1.getD (Int.toNat y1.1.1) ((0:Int),(0:Int),false,(0:Int),[],())).1,
  (s1.getD (Int.toNat y1.1.1) ((0:Int),(0:Int),false,(0:Int),[],())).2.1,
  (s1.getD (Int.toNat y1.1.1) ((0:Int),(0:Int),false,(0:Int),[],())).2.2.1,
  (s1.getD (Int.toNat y1.1.1) ((0:Int),(0:Int),false,(0:Int),[],())).2.2.2.1,
  (s1.getD (Int.toNat y1.1.1) ((0:Int),(0:Int),false,(0:Int),[],())).2.2.2.2.1,())∧
 let r2:=(s1.getD (Int.toNat y1.1.1) ((0:Int),(0:Int),false,(0:Int),[],())).1;
 let r3:=(s1.getD (Int.toNat y1.1.1) ((0:Int),(0:Int),false,(0:Int),[],())).2.1;
 let r4:=(s1.getD (Int.toNat y1.1.1) ((0:Int),(0:Int),false,(0:Int),[],())).2.2.1;
 let r5:=(s1.getD (Int.toNat y1.1.1) ((0:Int),(0:Int),false,(0:Int),[],())).2.2.2.1;
 let r6:=(s1.getD (Int.toNat y1.1.1) ((0:Int),(0:Int),false,(0:Int),[],())).2.2.2.2.1;
  List.length y1.2.2.1+[(r2,r3,r4,r5,r6,())].length≤big∧
  NW=NW∧
  I ((i64.wrap (y1.1.1+(1:Int)),()),((),(),y1.2.1.2.2.1,()),y1.2.2.1++[(r2,r3,r4,r5,r6,())],())∧
  μ ((i64.wrap (y1.1.1+(1:Int)),()),((),(),y1.2.1.2.2.1,()),y1.2.2.1++[(r2,r3,r4,r5,r6,())],())<μ y1
  else K (((s0,y1.2.2.1,y1.2.1.2.2.1,()),()),())
theorem ahl (env:EnvB prog G Θ aiL) (hne:∀ x,(Lm x).1→∃ t,(Lm x).2 t) (h:∀ (s0:fQ) (s1:ja) (s2:Int),dL jP ((s0,s1,s2,()),())→(Sp.iE (s0,s1,s2,()))→ah9 s0 s1 s2 fun (r:KC)=>(Sp.iE (s0,s1,s2,()),
 fun (x:KC)=>
 (x.1.1.1,x.1.1.2.1,x.1.1.2.2.1,())=(s0,s1,s2,())).2
 r):aC prog G ny lT:=
 bQ env mixed (fn:=f89) (c:=codeOf f89) (by kernel_rfl) (by kernel_rfl) ajY (by kernel_rfl) hne fun ⟨⟨s0,s1,s2,⟨⟩⟩,⟨⟩⟩ hin hp=>
 Eq.mpr (by kernel_rfl) (h s0 s1 s2 hin hp)
def ady:Hints:=Go.Fw.hints [8,8,10,15,27,34,2,3] [] [] [256] []
def ab1 (s0:fQ) (s1:ja) (s2:Int) (f0:Int) (f1:Int) (f2:Bool) (f3:Int) (f4:rQ) (K:anc→Prop):Prop:=
 Sp.iE (s0,s1,s2,())∧
 ∀ (r0:KC),
 (r0.1.1.1,r0.1.1.2.1,r0.1.1.2.2.1,())=(s0,s1,s2,())→
 Sp.jR (f0,f1,f2,f3,f4,())∧
 True∧
 let r1:=Sp.dh (r0.1.1.1,r0.1.1.2.1,r0.1.1.2.2.1,());
  bif !r1 then K (((r0.1.1.1,r0.1.1.2.1,r0.1.1.2.2.1,()),(0:Int),false,()),())
  else
  bif decide ((↑(List.length r0.1.1.2.1):Int)≥(12:Int)) then
  K (((r0.1.1.1,r0.1.1.2.1,r0.1.1.2.2.1,()),(0:Int),false,()),())
  else
  True∧
 let r2:=Sp.dO r0.1.1.1 (r0.1.1.2.2.1,f1,f2,f3,f4,());
  bif !r2 then K (((r0.1.1.1,r0.1.1.2.1,r0.1.1.2.2.1,()),(0:Int),false,()),())
  else
  List.length r0.1.1.2.1+[(r0.1.1.2.2.1,f1,f2,f3,f4,())].length≤big∧
  K
  (((r0.1.1.1,r0.1.1.2.1++[(r0.1.1.2.2.1,f1,f2,f3,f4,())],i64.wrap (r0.1.1.2.2.1+(1:Int)),()),
  r0.1.1.2.2.1,true,()),
  ())
theorem abA (env:EnvB prog G Θ acM) (hne:∀ x,(Gf x).1→∃ t,(Gf x).2 t) (h:∀ (s0:fQ) (s1:ja) (s2:Int) (f0:Int) (f1:Int) (f2:Bool) (f3:Int) (f4:rQ),dL jS ((s0,s1,s2,()),(f0,f1,f2,f3,f4,()),())→(Sp.iE (s0,s1,s2,())∧Sp.jR (f0,f1,f2,f3,f4,()))→ab1 s0 s1 s2 f0 f1 f2 f3 f4 fun (r:anc)=>(Sp.iE (s0,s1,s2,())∧Sp.jR (f0,f1,f2,f3,f4,()),
 fun
 (x:
 anc)=>
 x.1.1.1=(Sp.bF (s0,s1,s2,()) (f0,f1,f2,f3,f4,())).1.1∧
 x.1.1.2.1=(Sp.bF (s0,s1,s2,()) (f0,f1,f2,f3,f4,())).1.2.1∧
 x.1.1.2.2.1=(Sp.bF (s0,s1,s2,()) (f0,f1,f2,f3,f4,())).1.2.2.1∧
 x.1.2.1=(Sp.bF (s0,s1,s2,()) (f0,f1,f2,f3,f4,())).2.1∧x.1.2.2.1=(Sp.bF (s0,s1,s2,()) (f0,f1,f2,f3,f4,())).2.2).2
 r):aC prog G nJ oD:=
 bQ env mixed (fn:=f137) (c:=codeOf f137) (by kernel_rfl) (by kernel_rfl) ady (by kernel_rfl) hne fun ⟨⟨s0,s1,s2,⟨⟩⟩,⟨f0,f1,f2,f3,f4,⟨⟩⟩,⟨⟩⟩ hin hp=>
 Eq.mpr (by kernel_rfl) (h s0 s1 s2 f0 f1 f2 f3 f4 hin hp)
def adz:Hints:=Go.Fw.hints [20,8,11,13,20,2] [] [] [] [(5,[.still 514])]
def ab2 (s0:fQ) (s1:ja) (s2:Int) (id:Int) (K:ao7→Prop):Prop:=
 Sp.iE (s0,s1,s2,())∧
 ∀ (r0:KC),
 (r0.1.1.1,r0.1.1.2.1,r0.1.1.2.2.1,())=(s0,s1,s2,())→
 True∧
 let r1:=Sp.place r0.1.1.2.1 id;
  True∧
 let r2:=Sp.dh (r0.1.1.1,r0.1.1.2.1,r0.1.1.2.2.1,());
  bif !r2 then K (((r0.1.1.1,r0.1.1.2.1,r0.1.1.2.2.1,()),false,()),())
  else
  bif decide (r1<(0:Int)) then K (((r0.1.1.1,r0.1.1.2.1,r0.1.1.2.2.1,()),false,()),())
  else
  ((0:Int)≤r1∧r1≤(↑(List.length r0.1.1.2.1):Int))∧
  (0:Nat)+(List.drop (0:Nat) (List.take r1.toNat r0.1.1.2.1)).length≤big∧
  ((0:Int)≤i64.wrap (r1+(1:Int))∧i64.wrap (r1+(1:Int))≤(↑(List.length r0.1.1.2.1):Int))∧
  (List.drop (0:Nat) (List.take r1.toNat r0.1.1.2.1)).length+
  (List.drop (i64.wrap (r1+(1:Int))).toNat (List.take (List.length r0.1.1.2.1) r0.1.1.2.1)).length≤
  big∧
  K
  (((r0.1.1.1,
  List.drop (0:Nat) (List.take r1.toNat r0.1.1.2.1)++
  List.drop (i64.wrap (r1+(1:Int))).toNat (List.take (List.length r0.1.1.2.1) r0.1.1.2.1),
  r0.1.1.2.2.1,()),
  true,()),
  ())
theorem abC (env:EnvB prog G Θ acN) (hne:∀ x,(Gg x).1→∃ t,(Gg x).2 t) (h:∀ (s0:fQ) (s1:ja) (s2:Int) (id:Int),dL pR ((s0,s1,s2,()),id,())→(Sp.iE (s0,s1,s2,()))→ab2 s0 s1 s2 id fun (r:ao7)=>(Sp.iE (s0,s1,s2,()),
 fun (x:ao7)=>
 x.1.1.1=(Sp.dU (s0,s1,s2,()) id).1.1∧
 x.1.1.2.1=(Sp.dU (s0,s1,s2,()) id).1.2.1∧
 x.1.1.2.2.1=(Sp.dU (s0,s1,s2,()) id).1.2.2.1∧x.1.2.1=(Sp.dU (s0,s1,s2,()) id).2).2
 r):aC prog G wC yO:=
 bQ env mixed (fn:=f159) (c:=codeOf f159) (by kernel_rfl) (by kernel_rfl) adz (by kernel_rfl) hne fun ⟨⟨s0,s1,s2,⟨⟩⟩,id,⟨⟩⟩ hin hp=>
 Eq.mpr (by kernel_rfl) (h s0 s1 s2 id hin hp)
def aia:Hints:=Go.Fw.hints [6,9,18,28,37] [(3,⟨[(.obj 192 0,225,155,(.cons .str (.cons (.int .i64) .nil)),true),(.obj 192 1,226,56,(.cons (.int .i64) (.cons (.int .i64) (.cons .bool (.cons (.int .i64) (.cons (.sl 94 (.cons .str (.cons (.int .i64) (.cons (.int .i64) (.cons .str .nil))))) .nil))))),true)],⟨[(0, .dw 48 0),(2, .dw 128 0),(3, .dw 192 0)],[(128, .var [.nil, .nil, .int .i64])]⟩,⟨[(4, .one (.int .i64))],[(48, .var [.sl 5 (.cons (.int .u8) .nil) false, .int .i64, .int .i64]),(192, .var [.ref 225, .ref 226, .int .i64]),(225, .arr 155 (.cons .str (.cons (.int .i64) .nil)) true),(226, .arr 56 (.cons (.int .i64) (.cons (.int .i64) (.cons .bool (.cons (.int .i64) (.cons (.sl 94 (.cons .str (.cons (.int .i64) (.cons (.int .i64) (.cons .str .nil))))) .nil))))) true)]⟩⟩)] [] [48] []
def afH (c0:dH) (c1:Int) (c2:Int) (K:LW×jF→Prop):Prop:=
 True∧
 ∀ (r0:(fQ×Unit)×Unit),
 r0.1.1=Sp.usual→
 List.length r0.1.1≤(1000:Nat)∧
 ∀ (r1:KC),
 r1.1.1.1=r0.1.1∧r1.1.1.2.1=[]∧r1.1.1.2.2.1=(1:Int)→
 let s2:=(((),(),(),()),((),(),(0:Int),()),());
  ∃ (I:
  aqu→
  Prop),
  ∃ (μ:
  aqu→
  Nat),
  I (((0:Int),()),(c0,c1,c2,()),((),(),r1.1.1.2.2.1,()),r1.1.1.1,r1.1.1.2.1,())∧
  ∀
  (y3:
  aqu),
  I y3→
  (0:Int)≤y3.2.1.2.1∧
  ∀ (r4:eP),
  (0:Int)≤r4.2.1.2.1∧(0:Int)≤r4.1.1∧((0:Int)<(7:Int)→r4.1.1<(7:Int))∧((7:Int)≤(0:Int)→r4.1.1=(0:Int))→
  bif decide (y3.1.1<i64.wrap ((1:Int)+r4.1.1)) then
  (0:Int)≤r4.2.1.2.1∧
  ∀
  (r5:
  Jd×jF),
  (0:Int)≤r5.2.1.2.1∧
  r5.1.1.1=(1:Int)∧
  (0:Int)≤r5.1.1.2.1∧
  r5.1.1.2.1≤(2:Int)∧
  (0:Int)≤r5.1.1.2.2.2.1∧
  r5.1.1.2.2.2.1≤(6:Int)∧Sp.pO Sp.usual r5.1.1.2.2.2.2.1=true∧r5.1.1.2.2.2.2.1.length≤(4:Nat)→
  (Sp.iE (y3.2.2.2.1,y3.2.2.2.2.1,y3.2.2.1.2.2.1,())∧
  Sp.jR (r5.1.1.1,r5.1.1.2.1,r5.1.1.2.2.1,r5.1.1.2.2.2.1,r5.1.1.2.2.2.2.1,()))∧
  ∀
  (r6:
  anc),
  r6.1.1.1=
  (Sp.bF (y3.2.2.2.1,y3.2.2.2.2.1,y3.2.2.1.2.2.1,())
  (r5.1.1.1,r5.1.1.2.1,r5.1.1.2.2.1,r5.1.1.2.2.2.1,r5.1.1.2.2.2.2.1,
  ())).1.1∧
  r6.1.1.2.1=
  (Sp.bF (y3.2.2.2.1,y3.2.2.2.2.1,y3.2.2.1.2.2.1,())
  (r5.1.1.1,r5.1.1.2.1,r5.1.1.2.2.1,r5.1.1.2.2.2.1,r5.1.1.2.2.2.2.1,
  ())).1.2.1∧
  r6.1.1.2.2.1=
  (Sp.bF (y3.2.2.2.1,y3.2.2.2.2.1,y3.2.2.1.2.2.1,())
  (r5.1.1.1,r5.1.1.2.1,r5.1.1.2.2.1,r5.1.1.2.2.2.1,r5.1.1.2.2.2.2.1,
  ())).1.2.2.1∧
  r6.1.2.1=
  (Sp.bF (y3.2.2.2.1,y3.2.2.2.2.1,y3.2.2.1.2.2.1,())
  (r5.1.1.1,r5.1.1.2.1,r5.1.1.2.2.1,r5.1.1.2.2.2.1,r5.1.1.2.2.2.2.1,
  ())).2.1∧
  r6.1.2.2.1=
  (Sp.bF (y3.2.2.2.1,y3.2.2.2.2.1,y3.2.2.1.2.2.1,())
  (r5.1.1.1,r5.1.1.2.1,r5.1.1.2.2.1,r5.1.1.2.2.2.1,r5.1.1.2.2.2.2.1,
  ())).2.2→
  s2=s2∧
  I
  ((i64.wrap (y3.1.1+(1:Int)),()),(r5.2.1.1,r5.2.1.2.1,r5.2.1.2.2.1,()),
  ((),(),r6.1.1.2.2.1,()),r6.1.1.1,r6.1.1.2.1,())∧
  μ
  ((i64.wrap (y3.1.1+(1:Int)),()),(r5.2.1.1,r5.2.1.2.1,r5.2.1.2.2.1,()),
  ((),(),r6.1.1.2.2.1,()),r6.1.1.1,r6.1.1.2.1,())<
  μ y3
  else
  bif decide ((↑(List.length y3.2.2.2.2.1):Int)>(2:Int)) then
  (0:Int)≤r4.2.1.2.1∧
  ∀ (r7:NV),
  (r7.2.1.2.1-(0:Int)).NonNeg→
  bif r7.1.1 then
  ((0:Int)≤(1:Int)∧(1:Int)<(↑(List.length y3.2.2.2.2.1):Int))∧
  Int.toNat (1:Int)<List.length y3.2.2.2.2.1∧
  Sp.iE (y3.2.2.2.1,y3.2.2.2.2.1,y3.2.2.1.2.2.1,())∧
  ∀
  (r8:
  ao7),
  r8.1.1.1=
  (Sp.dU (y3.2.2.2.1,y3.2.2.2.2.1,y3.2.2.1.2.2.1,())
  (List.getD y3.2.2.2.2.1 (Int.toNat (1:Int)) ((0:Int),(0:Int),false,(0:Int),[],())).1).1.1∧
  r8.1.1.2.1=
  (Sp.dU (y3.2.2.2.1,y3.2.2.2.2.1,y3.2.2.1.2.2.1,())
  (List.getD y3.2.2.2.2.1 (Int.toNat (1:Int))
  ((0:Int),(0:Int),false,(0:Int),[],())).1).1.2.1∧
  r8.1.1.2.2.1=
  (Sp.dU (y3.2.2.2.1,y3.2.2.2.2.1,y3.2.2.1.2.2.1,())
  (List.getD y3.2.2.2.2.1 (Int.toNat (1:Int))
  ((0:Int),(0:Int),false,(0:Int),[],())).1).1.2.2.1∧
  r8.1.2.1=
  (Sp.dU (y3.2.2.2.1,y3.2.2.2.2.1,y3.2.2.1.2.2.1,())
  (List.getD y3.2.2.2.2.1 (Int.toNat (1:Int)) ((0:Int),(0:Int),false,(0:Int),[],())).1).2→
  K
  (((r8.1.1.1,r8.1.1.2.1,r8.1.1.2.2.1,()),()),
  (r7.2.1.1,r7.2.1.2.1,r7.2.1.2.2.1,()),())
  else
  K
  (((y3.2.2.2.1,y3.2.2.2.2.1,y3.2.2.1.2.2.1,()),()),
  (r7.2.1.1,r7.2.1.2.1,r7.2.1.2.2.1,()),())
  else
  K
  (((y3.2.2.2.1,y3.2.2.2.2.1,y3.2.2.1.2.2.1,()),()),
  (r4.2.1.1,r4.2.1.2.1,r4.2.1.2.2.1,()),())
theorem afd (env:EnvB prog G Θ agi) (hne:∀ x,(Jo x).1→∃ t,(Jo x).2 t) (h:∀ (c0:dH) (c1:Int) (c2:Int),dL lU ((c0,c1,c2,()),())→((0:Int)≤c1)→afH c0 c1 c2 fun (r:LW×jF)=>((0:Int)≤c1,
 fun
 (x:
 LW×jF)=>
 (0:Int)≤x.2.1.2.1∧
 x.1.1.1=Sp.usual∧
 Sp.dh (x.1.1.1,x.1.1.2.1,x.1.1.2.2.1,())=true∧
 x.1.1.2.2.1≤(↑x.1.1.2.1.length:Int)+(2:Int)∧Sp.iE (x.1.1.1,x.1.1.2.1,x.1.1.2.2.1,())).2
 r):aC prog G qN ru:=
 bQ env mixed (fn:=f103) (c:=codeOf f103) (by kernel_rfl) (by kernel_rfl) aia (by kernel_rfl) hne fun ⟨⟨c0,c1,c2,⟨⟩⟩,⟨⟩⟩ hin hp=>
 Eq.mpr (by kernel_rfl) (h c0 c1 c2 hin hp)
def alF:Hints:=Go.Fw.hints [5,12,26] [(10,⟨[],⟨[(0, .dw 48 0),(2, .dw 128 0),(3, .dw 192 0),(28, .one (.bool))],[(128, .var [.nil, .nil, .int .i64])]⟩,⟨[],[(48, .var [.sl 5 (.cons (.int .u8) .nil) false, .int .i64, .int .i64]),(192, .var [.sl 155 (.cons .str (.cons (.int .i64) .nil)) true, .sl 56 (.cons (.int .i64) (.cons (.int .i64) (.cons .bool (.cons (.int .i64) (.cons (.sl 94 (.cons .str (.cons (.int .i64) (.cons (.int .i64) (.cons .str .nil))))) .nil))))) true, .int .i64])]⟩⟩)] [] [48] []
def ajZ (c0:dH) (c1:Int) (c2:Int) (K:LW×jF→Prop):Prop:=
 (0:Int)≤c1∧
 ∀
 (r0:
 LW×jF),
 (0:Int)≤r0.2.1.2.1∧
 r0.1.1.1=Sp.usual∧
 Sp.dh (r0.1.1.1,r0.1.1.2.1,r0.1.1.2.2.1,())=true∧
 r0.1.1.2.2.1≤(↑r0.1.1.2.1.length:Int)+(2:Int)∧Sp.iE (r0.1.1.1,r0.1.1.2.1,r0.1.1.2.2.1,())→
 (0:Int)≤r0.2.1.2.1∧
 ∀ (r1:eP),
 (0:Int)≤r1.2.1.2.1∧(0:Int)≤r1.1.1∧((0:Int)<(14:Int)→r1.1.1<(14:Int))∧((14:Int)≤(0:Int)→r1.1.1=(0:Int))→
 bif r1.1.1==(0:Int) then
 ((0:Int)≤r1.2.1.2.1∧[((0:Int),()),((60:Int),()),((61:Int),()),((62:Int),())]≠[])∧
 ∀ (r2:eP),
 (0:Int)≤r2.2.1.2.1∧(r2.1.1,())∈[((0:Int),()),((60:Int),()),((61:Int),()),((62:Int),())]→
 K (((r0.1.1.1,r0.1.1.2.1,r2.1.1,()),()),(r2.2.1.1,r2.2.1.2.1,r2.2.1.2.2.1,()),())
 else
 bif r1.1.1==(1:Int) then
 (0:Int)≤r1.2.1.2.1∧
 ∀ (r3:Jd×jF),
 (0:Int)≤r3.2.1.2.1∧r3.1.1.2.2.2.2.1.length≤(10:Nat)→
 List.length r0.1.1.2.1+
 [(r3.1.1.1,r3.1.1.2.1,r3.1.1.2.2.1,r3.1.1.2.2.2.1,r3.1.1.2.2.2.2.1,())].length≤
 big∧
 K
 (((r0.1.1.1,
 r0.1.1.2.1++
 [(r3.1.1.1,r3.1.1.2.1,r3.1.1.2.2.1,r3.1.1.2.2.2.1,r3.1.1.2.2.2.2.1,())],
 r0.1.1.2.2.1,()),
 ()),
 (r3.2.1.1,r3.2.1.2.1,r3.2.1.2.2.1,()),())
 else
 bif r1.1.1==(2:Int) then
 (0:Int)≤r1.2.1.2.1∧
 ∀ (r4:(fQ×Unit)×jF),
 (0:Int)≤r4.2.1.2.1∧r4.1.1.length≤(6:Nat)→
 K (((r4.1.1,r0.1.1.2.1,r0.1.1.2.2.1,()),()),(r4.2.1.1,r4.2.1.2.1,r4.2.1.2.2.1,()),())
 else
 bif r1.1.1==(3:Int) then
 let s5:=(((),(),(),r1.1.1==(3:Int),()),((),(),(0:Int),()),());
  ∃ (I:
  Unit×zf×LW→
  Prop),
  ∃ (μ:
  Unit×zf×LW→
  Nat),
  I ((),(r1.2.1.1,r1.2.1.2.1,r1.2.1.2.2.1,()),(r0.1.1.1,r0.1.1.2.1,r0.1.1.2.2.1,()),())∧
  ∀
  (y6:
  Unit×zf×LW),
  I y6→
  bif decide ((↑(List.length y6.2.2.1.2.1):Int)<(12:Int)) then
  (0:Int)≤y6.2.1.2.1∧
  ∀
  (r7:
  Jd×jF),
  (0:Int)≤r7.2.1.2.1∧
  r7.1.1.1=(1:Int)∧
  (0:Int)≤r7.1.1.2.1∧
  r7.1.1.2.1≤(2:Int)∧
  (0:Int)≤r7.1.1.2.2.2.1∧
  r7.1.1.2.2.2.1≤(6:Int)∧Sp.pO Sp.usual r7.1.1.2.2.2.2.1=true∧r7.1.1.2.2.2.2.1.length≤(4:Nat)→
  (Sp.iE (y6.2.2.1.1,y6.2.2.1.2.1,y6.2.2.1.2.2.1,())∧
  Sp.jR (r7.1.1.1,r7.1.1.2.1,r7.1.1.2.2.1,r7.1.1.2.2.2.1,r7.1.1.2.2.2.2.1,()))∧
  ∀
  (r8:
  anc),
  r8.1.1.1=
  (Sp.bF (y6.2.2.1.1,y6.2.2.1.2.1,y6.2.2.1.2.2.1,())
  (r7.1.1.1,r7.1.1.2.1,r7.1.1.2.2.1,r7.1.1.2.2.2.1,r7.1.1.2.2.2.2.1,
  ())).1.1∧
  r8.1.1.2.1=
  (Sp.bF (y6.2.2.1.1,y6.2.2.1.2.1,y6.2.2.1.2.2.1,())
  (r7.1.1.1,r7.1.1.2.1,r7.1.1.2.2.1,r7.1.1.2.2.2.1,r7.1.1.2.2.2.2.1,
  ())).1.2.1∧
  r8.1.1.2.2.1=
  (Sp.bF (y6.2.2.1.1,y6.2.2.1.2.1,y6.2.2.1.2.2.1,())
  (r7.1.1.1,r7.1.1.2.1,r7.1.1.2.2.1,r7.1.1.2.2.2.1,
  r7.1.1.2.2.2.2.1,())).1.2.2.1∧
  r8.1.2.1=
  (Sp.bF (y6.2.2.1.1,y6.2.2.1.2.1,y6.2.2.1.2.2.1,())
  (r7.1.1.1,r7.1.1.2.1,r7.1.1.2.2.1,r7.1.1.2.2.2.1,r7.1.1.2.2.2.2.1,
  ())).2.1∧
  r8.1.2.2.1=
  (Sp.bF (y6.2.2.1.1,y6.2.2.1.2.1,y6.2.2.1.2.2.1,())
  (r7.1.1.1,r7.1.1.2.1,r7.1.1.2.2.1,r7.1.1.2.2.2.1,r7.1.1.2.2.2.2.1,
  ())).2.2→
  s5=s5∧
  I
  ((),(r7.2.1.1,r7.2.1.2.1,r7.2.1.2.2.1,()),
  (r8.1.1.1,r8.1.1.2.1,r8.1.1.2.2.1,()),())∧
  μ
  ((),(r7.2.1.1,r7.2.1.2.1,r7.2.1.2.2.1,()),
  (r8.1.1.1,r8.1.1.2.1,r8.1.1.2.2.1,()),())<
  μ y6
  else
  K
  (((y6.2.2.1.1,y6.2.2.1.2.1,y6.2.2.1.2.2.1,()),()),
  (y6.2.1.1,y6.2.1.2.1,y6.2.1.2.2.1,()),())
  else K (((r0.1.1.1,r0.1.1.2.1,r0.1.1.2.2.1,()),()),(r1.2.1.1,r1.2.1.2.1,r1.2.1.2.2.1,()),())
theorem ajt (env:EnvB prog G Θ ak6) (hne:∀ x,(Ns x).1→∃ t,(Ns x).2 t) (h:∀ (c0:dH) (c1:Int) (c2:Int),dL xK ((c0,c1,c2,()),())→((0:Int)≤c1)→ajZ c0 c1 c2 fun (r:LW×jF)=>((0:Int)≤c1,
 fun
 (x:
 LW×jF)=>
 (0:Int)≤x.2.1.2.1∧Sp.iE (x.1.1.1,x.1.1.2.1,x.1.1.2.2.1,())).2
 r):aC prog G DN EF:=
 bQ env mixed (fn:=f85) (c:=codeOf f85) (by kernel_rfl) (by kernel_rfl) alF (by kernel_rfl) hne fun ⟨⟨c0,c1,c2,⟨⟩⟩,⟨⟩⟩ hin hp=>
 Eq.mpr (by kernel_rfl) (h c0 c1 c2 hin hp)
def ao9:Hints:=Go.Fw.hints [] [] [] [] []
def anN (code:dH) (K:eG→Prop):Prop:=
 K (decide ((↑code.length:Int)>(1048576:Int)),())
theorem anF (env:EnvB prog G Θ aoi) (h:∀ (code:dH),bP TV (code,())→(True)→anN code fun r=>r=((decide ((1048576:Int)<(↑code.length:Int)),()))):aG prog G JK Jp:=
 aZ env mixed (fn:=f7) (c:=codeOf f7) (by kernel_rfl) (by kernel_rfl) ao9 (by kernel_rfl) fun ⟨code,⟨⟩⟩ hin hp=>
 Eq.mpr (by kernel_rfl) (h code hin hp)
def afI:Hints:=Go.Fw.hints [6,6,15,16] [(3,⟨[(.slot 3 0,225,56,(.cons (.int .i64) (.cons (.int .i64) (.cons .bool (.cons (.int .i64) (.cons (.sl 94 (.cons .str (.cons (.int .i64) (.cons (.int .i64) (.cons .str .nil))))) .nil))))),false)],⟨[(7, .one (.sl 56 (.cons (.int .i64) (.cons (.int .i64) (.cons .bool (.cons (.int .i64) (.cons (.sl 94 (.cons .str (.cons (.int .i64) (.cons (.int .i64) (.cons .str .nil))))) .nil))))) false)),(8, .one (.int .i64))],[]⟩,⟨[(3, .one (.ref 225)),(9, .one (.int .i64))],[(225, .arr 56 (.cons (.int .i64) (.cons (.int .i64) (.cons .bool (.cons (.int .i64) (.cons (.sl 94 (.cons .str (.cons (.int .i64) (.cons (.int .i64) (.cons .str .nil))))) .nil))))) false)]⟩⟩)] [] [] []
def adA (l:ja) (K:(ja×Unit)×Unit→Prop):Prop:=
 let s0:=((l,(↑l.length:Int),()),());
  ∃ (I:qA×ja×Unit→Prop),
  ∃ (μ:qA×ja×Unit→Nat),
  I (((),(0:Int),()),[],())∧
  ∀ (y1:qA×ja×Unit),
  I y1→
  bif decide (y1.1.2.1<(↑l.length:Int)) then
  ((0:Int)≤y1.1.2.1∧y1.1.2.1<(↑l.length:Int))∧
  Sp.jR
  ((l.getD (Int.toNat y1.1.2.1) ((0:Int),(0:Int),false,(0:Int),[],())).1,
  (l.getD (Int.toNat y1.1.2.1) ((0:Int),(0:Int),false,(0:Int),[],())).2.1,
  (l.getD (Int.toNat y1.1.2.1) ((0:Int),(0:Int),false,(0:Int),[],())).2.2.1,
  (l.getD (Int.toNat y1.1.2.1) ((0:Int),(0:Int),false,(0:Int),[],())).2.2.2.1,
  (l.getD (Int.toNat y1.1.2.1) ((0:Int),(0:Int),false,(0:Int),[],())).2.2.2.2.1,())∧
 let r2:=(l.getD (Int.toNat y1.1.2.1) ((0:Int),(0:Int),false,(0:Int),[],())).1;
 let r3:=(l.getD (Int.toNat y1.1.2.1) ((0:Int),(0:Int),false,(0:Int),[],())).2.1;
 let r4:=(l.getD (Int.toNat y1.1.2.1) ((0:Int),(0:Int),false,(0:Int),[],())).2.2.1;
 let r5:=(l.getD (Int.toNat y1.1.2.1) ((0:Int),(0:Int),false,(0:Int),[],())).2.2.2.1;
 let r6:=(l.getD (Int.toNat y1.1.2.1) ((0:Int),(0:Int),false,(0:Int),[],())).2.2.2.2.1;
  List.length y1.2.1+[(r2,r3,r4,r5,r6,())].length≤big∧
  s0=s0∧
  I (((),i64.wrap (y1.1.2.1+(1:Int)),()),y1.2.1++[(r2,r3,r4,r5,r6,())],())∧
  μ (((),i64.wrap (y1.1.2.1+(1:Int)),()),y1.2.1++[(r2,r3,r4,r5,r6,())],())<μ y1
  else K ((y1.2.1,()),())
theorem adh (env:EnvB prog G Θ aer) (hne:∀ x,(Ho x).1→∃ t,(Ho x).2 t) (h:∀ (l:ja),dL rC (l,())→(l.length≤(1000:Nat)∧∀ (f:anb),f∈l→Sp.jR f)→adA l fun (r:(ja×Unit)×Unit)=>(l.length≤(1000:Nat)∧∀ (f:anb),f∈l→Sp.jR f,
 fun (x:(ja×Unit)×Unit)=>x.1.1=l).2
 r):aC prog G yA zx:=
 bQ env mixed (fn:=f144) (c:=codeOf f144) (by kernel_rfl) (by kernel_rfl) afI (by kernel_rfl) hne fun ⟨l,⟨⟩⟩ hin hp=>
 Eq.mpr (by kernel_rfl) (h l hin hp)
def afJ:Hints:=Go.Fw.hints [5,8] [] [] [] []
def adB (s0:fQ) (s1:ja) (s2:Int) (K:KC→Prop):Prop:=
 s0.length≤(1000:Nat)∧
 (s1.length≤(1000:Nat)∧∀ (f:anb),f∈s1→Sp.jR f)∧
 ∀ (r0:(ja×Unit)×Unit),r0.1.1=s1→K (((s0,r0.1.1,s2,()),()),())
theorem adk (env:EnvB prog G Θ aes) (hne:∀ x,(Hq x).1→∃ t,(Hq x).2 t) (h:∀ (s0:fQ) (s1:ja) (s2:Int),dL rD ((s0,s1,s2,()),())→(Sp.iE (s0,s1,s2,()))→adB s0 s1 s2 fun (r:KC)=>(Sp.iE (s0,s1,s2,()),
 fun (x:KC)=>
 (x.1.1.1,x.1.1.2.1,x.1.1.2.2.1,())=(s0,s1,s2,())).2
 r):aC prog G yB zy:=
 bQ env mixed (fn:=f87) (c:=codeOf f87) (by kernel_rfl) (by kernel_rfl) afJ (by kernel_rfl) hne fun ⟨⟨s0,s1,s2,⟨⟩⟩,⟨⟩⟩ hin hp=>
 Eq.mpr (by kernel_rfl) (h s0 s1 s2 hin hp)
end Go.Proofs.Tryz

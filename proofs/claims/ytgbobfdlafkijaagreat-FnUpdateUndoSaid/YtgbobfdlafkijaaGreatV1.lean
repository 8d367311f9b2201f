import Derived.Test.YtgbobfdlafkijaaGreatF
namespace Go.Proofs.Tryz
open Go Go.Fw
set_option maxRecDepth 100000
open Go.IntKind (i64)
abbrev eH:=List UInt8
abbrev PY:=eH×Unit
abbrev Ty0:=eH×Int×Int×PY
abbrev iV:=Int×Unit
abbrev TF:=Int×Int×Int×Ty0
abbrev jr:=List TF
abbrev jv:=List (eH×jr×Unit)
abbrev iq:=List Ty0
abbrev Vf:=Int×Int×Bool×Int×iq×Unit
abbrev iW:=List Vf
abbrev bV:=List iV
abbrev kW:=bV×Unit
abbrev l7:=List (eH×kW)
abbrev qU:=List PY
abbrev Ty5:=qU×Unit
abbrev gW:=List (eH×iV)
abbrev Ol:=bV×Int×iV
abbrev xu:=Ol×Unit
abbrev dD:=Bool×Unit
abbrev bn:=iV×Unit
abbrev TG:=l7×Unit
abbrev abS:=gW×iW×Int×jv×TG
abbrev aCF:=Int×Int×Bool×Int×Unit×Unit
abbrev aj9:=Unit×Ol×aCF×iq×Unit
abbrev rF:=Unit×iV
abbrev Om:=((gW×iW×iV)×Unit)×Unit
abbrev gG:=Ty5×Unit
abbrev abT:=List (eH×bV×kW)
abbrev ae9:=(abS×abT×dD)×Unit
abbrev Ld:=(Int×iV)×Unit
abbrev MP:=(jr×Unit)×xu
abbrev Oo:=PY×xu
abbrev akb:=((gW×iW×iV)×dD)×Unit
abbrev rG:=rF×Ty5
abbrev oZ:=iV×xu
abbrev afa:=(l7×Int×dD)×Unit
abbrev WR:=(l7×dD)×Unit
abbrev ZQ:=(Vf×Unit)×Unit
abbrev ZR:=(bV×dD)×Unit
abbrev EF:=kW×Unit
abbrev abU:=(abS×Unit)×Unit
abbrev auT:=(Int×Int×PY)×Unit
abbrev EG:=jv×Unit
abbrev afb:=(bV×iV)×Unit
abbrev aAQ:=((gW×iW×iV)×Int×dD)×Unit
abbrev auU:=iV×List dD×Unit
abbrev aAR:=((gW×iW×iV)×Unit)×xu
abbrev aCG:=iV×Ol×(Unit×rF)×gW×iW×Unit
abbrev WS:=rF×TG
abbrev auV:=(Int×dD)×TG
abbrev auW:=(Bool×iV)×TG
abbrev auX:=rF×iq×Unit
abbrev auY:=(Int×iV)×TG
def awQ:Hints:=Go.Fw.hints [31] [(3,⟨[],⟨[(0, .one (.sl 5 (.cons (.int .u8) .nil) false))],[]⟩,⟨[(3, .one (.int .i64)),(4, .one (.int .i64))],[]⟩⟩)] [] [] []
def auZ (code:bV) (K:Ol→Prop):Prop:=
 let s0:=((code,()),());
  ∃ (I:Ld→Prop),
  ∃ (μ:Ld→Nat),
  I ((i64.wrap ((94701:Int)+(↑code.length:Int)),(0:Int),()),())∧
  ∀ (y1:Ld),
  I y1→
  bif decide (y1.1.2.1<(↑code.length:Int)) then
  bif decide (y1.1.2.1<(4000:Int)) then
  ((0:Int)≤y1.1.2.1∧y1.1.2.1<(↑code.length:Int))∧
  s0=s0∧
  I
  ((bitsOf BinOp.and IntKind.i64
  (i64.wrap
  (i64.wrap (i64.wrap (y1.1.1*(131:Int))+i64.wrap (code.getD (Int.toNat y1.1.2.1) ((0:Int),())).1)+
  (7:Int)))
  (1073741823:Int),
  i64.wrap (y1.1.2.1+(1:Int)),()),
  ())∧
  μ
  ((bitsOf BinOp.and IntKind.i64
  (i64.wrap
  (i64.wrap (i64.wrap (y1.1.1*(131:Int))+i64.wrap (code.getD (Int.toNat y1.1.2.1) ((0:Int),())).1)+
  (7:Int)))
  (1073741823:Int),
  i64.wrap (y1.1.2.1+(1:Int)),()),
  ())<
  μ y1
  else K (code,(0:Int),y1.1.1,())
  else K (code,(0:Int),y1.1.1,())
theorem aus (env:EnvB prog G Θ awm) (hne:∀ x,(Wp x).1→∃ t,(Wp x).2 t) (h:∀ (code:bV),dO yh (code,())→(code.length≤(1048576:Nat))→auZ code fun (r:Ol)=>(code.length≤(1048576:Nat),fun (x:Ol)=>x.2.1=(0:Int)).2 r):aG prog G Bc zW:=
 aDf env mixed (fn:=f40) (c:=codeOf f40) (by kernel_rfl) (by kernel_rfl) awQ (by kernel_rfl) hne fun ⟨code,⟨⟩⟩ hin hp=>
 Eq.mpr (by kernel_rfl) (h code hin hp)
def au0:Hints:=Go.Fw.hints [] [] [] [] []
def asA (c0:bV) (c1:Int) (c2:Int) (K:oZ→Prop):Prop:=
 (0:Int)≤(33:Int)∧
 (0:Int)≤(45:Int)∧
 bif decide (c1<(↑c0.length:Int)) then
 ((0:Int)≤c1∧c1<(↑c0.length:Int))∧
 K
 ((bitsOf BinOp.and IntKind.i64
 (i64.wrap
 (bitsOf BinOp.and IntKind.i64
 (bitsOf BinOp.xor IntKind.i64
 ((i64.wrap (i64.wrap (c2*(6364136223846793005:Int))+(1442695040888963407:Int))).fdiv
 ((2:Int) ^ min (Int.toNat (33:Int)) IntKind.i64.bits))
 ((i64.wrap (i64.wrap (c2*(6364136223846793005:Int))+(1442695040888963407:Int))).fdiv
 ((2:Int) ^ min (Int.toNat (45:Int)) IntKind.i64.bits)))
 (255:Int)+
 i64.wrap (c0.getD c1.toNat ((0:Int),())).1))
 (255:Int),
 ()),
 (c0,i64.wrap (c1+(1:Int)),i64.wrap (i64.wrap (c2*(6364136223846793005:Int))+(1442695040888963407:Int)),()),())
 else
 K
 ((bitsOf BinOp.and IntKind.i64
 (bitsOf BinOp.xor IntKind.i64
 ((i64.wrap (i64.wrap (c2*(6364136223846793005:Int))+(1442695040888963407:Int))).fdiv
 ((2:Int) ^ min (Int.toNat (33:Int)) IntKind.i64.bits))
 ((i64.wrap (i64.wrap (c2*(6364136223846793005:Int))+(1442695040888963407:Int))).fdiv
 ((2:Int) ^ min (Int.toNat (45:Int)) IntKind.i64.bits)))
 (255:Int),
 ()),
 (c0,c1,i64.wrap (i64.wrap (c2*(6364136223846793005:Int))+(1442695040888963407:Int)),()),())
theorem arl (env:EnvB prog G Θ atB) (hne:∀ x,(UE x).1→∃ t,(UE x).2 t) (h:∀ (c0:bV) (c1:Int) (c2:Int),dO zX ((c0,c1,c2,()),())→((0:Int)≤c1)→asA c0 c1 c2 fun (r:oZ)=>((0:Int)≤c1,fun (x:oZ)=>(0:Int)≤x.2.1.2.1∧(0:Int)≤x.1.1∧x.1.1≤(255:Int)).2 r):aG prog G Hr I4:=
 bZ env mixed (fn:=f105) (c:=codeOf f105) (by kernel_rfl) (by kernel_rfl) au0 (by kernel_rfl) hne fun ⟨⟨c0,c1,c2,⟨⟩⟩,⟨⟩⟩ hin hp=>
 Eq.mpr (by kernel_rfl) (h c0 c1 c2 hin hp)
def asB:Hints:=Go.Fw.hints [] [] [] [] []
def apr (c0:bV) (c1:Int) (c2:Int) (n:Int) (K:oZ→Prop):Prop:=
 bif decide (n≤(0:Int)) then K (((0:Int),()),(c0,c1,c2,()),())
 else
 bif decide (n≤(256:Int)) then
 (0:Int)≤c1∧
 ∀ (r0:oZ),
 (0:Int)≤r0.2.1.2.1∧(0:Int)≤r0.1.1∧r0.1.1≤(255:Int)→
 n≠(0:Int)∧K ((Int.tmod r0.1.1 n,()),(r0.2.1.1,r0.2.1.2.1,r0.2.1.2.2.1,()),())
 else
 (0:Int)≤c1∧
 ∀ (r1:oZ),
 (0:Int)≤r1.2.1.2.1∧(0:Int)≤r1.1.1∧r1.1.1≤(255:Int)→
 (0:Int)≤r1.2.1.2.1∧
 ∀ (r2:oZ),
 (0:Int)≤r2.2.1.2.1∧(0:Int)≤r2.1.1∧r2.1.1≤(255:Int)→
 (0:Int)≤r2.2.1.2.1∧
 ∀ (r3:oZ),
 (0:Int)≤r3.2.1.2.1∧(0:Int)≤r3.1.1∧r3.1.1≤(255:Int)→
 (0:Int)≤r3.2.1.2.1∧
 ∀ (r4:oZ),
 (0:Int)≤r4.2.1.2.1∧(0:Int)≤r4.1.1∧r4.1.1≤(255:Int)→
 n≠(0:Int)∧
 K
 (((i64.wrap
 (i64.wrap
 (i64.wrap (i64.wrap (r1.1.1*(16777216:Int))+i64.wrap (r2.1.1*(65536:Int)))+
 i64.wrap (r3.1.1*(256:Int)))+
 r4.1.1)).tmod
 n,
 ()),
 (r4.2.1.1,r4.2.1.2.1,r4.2.1.2.2.1,()),())
theorem aoH (env:EnvB prog G Θ aqk) (hne:∀ x,(QG x).1→∃ t,(QG x).2 t) (h:∀ (c0:bV) (c1:Int) (c2:Int) (n:Int),dO dn ((c0,c1,c2,()),n,())→((0:Int)≤c1)→apr c0 c1 c2 n fun (r:oZ)=>((0:Int)≤c1,fun (x:oZ)=>
 (0:Int)≤x.2.1.2.1∧(0:Int)≤x.1.1∧((0:Int)<n→x.1.1<n)∧(n≤(0:Int)→x.1.1=(0:Int))).2
 r):aG prog G dH dw:=
 bZ env mixed (fn:=f66) (c:=codeOf f66) (by kernel_rfl) (by kernel_rfl) asB (by kernel_rfl) hne fun ⟨⟨c0,c1,c2,⟨⟩⟩,n,⟨⟩⟩ hin hp=>
 Eq.mpr (by kernel_rfl) (h c0 c1 c2 n hin hp)
def au1:Hints:=Go.Fw.hints [] [] [] [] []
def asC (c0:bV) (c1:Int) (c2:Int) (n:Int) (K:dD×xu→Prop):Prop:=
 (0:Int)≤c1∧
 ∀ (r0:oZ),
 (0:Int)≤r0.2.1.2.1∧(0:Int)≤r0.1.1∧((0:Int)<n→r0.1.1<n)∧(n≤(0:Int)→r0.1.1=(0:Int))→
 K ((r0.1.1==(0:Int),()),(r0.2.1.1,r0.2.1.2.1,r0.2.1.2.2.1,()),())
theorem arn (env:EnvB prog G Θ atC) (hne:∀ x,(UF x).1→∃ t,(UF x).2 t) (h:∀ (c0:bV) (c1:Int) (c2:Int) (n:Int),dO mr ((c0,c1,c2,()),n,())→((0:Int)≤c1)→asC c0 c1 c2 n fun (r:dD×xu)=>((0:Int)≤c1,fun (x:dD×xu)=>(x.2.1.2.1-(0:Int)).NonNeg).2 r):aG prog G qL o9:=
 bZ env mixed (fn:=f59) (c:=codeOf f59) (by kernel_rfl) (by kernel_rfl) au1 (by kernel_rfl) hne fun ⟨⟨c0,c1,c2,⟨⟩⟩,n,⟨⟩⟩ hin hp=>
 Eq.mpr (by kernel_rfl) (h c0 c1 c2 n hin hp)
def au2:Hints:=Go.Fw.hints [] [] [] [] []
def asD (c0:bV) (c1:Int) (c2:Int) (list:qU) (K:Oo→Prop):Prop:=
 (0:Int)≤c1∧
 ∀ (r0:oZ),
 (0:Int)≤r0.2.1.2.1∧
 (0:Int)≤r0.1.1∧((0:Int)<(↑list.length:Int)→r0.1.1<(↑list.length:Int))∧((↑list.length:Int)≤(0:Int)→r0.1.1=(0:Int))→
 ((0:Int)≤r0.1.1∧r0.1.1<(↑list.length:Int))∧
 K (((list.getD (Int.toNat r0.1.1) ([],())).1,()),(r0.2.1.1,r0.2.1.2.1,r0.2.1.2.2.1,()),())
theorem aro (env:EnvB prog G Θ atD) (hne:∀ x,(UG x).1→∃ t,(UG x).2 t) (h:∀ (c0:bV) (c1:Int) (c2:Int) (list:qU),dO mD ((c0,c1,c2,()),list,())→((0:Int)≤c1∧list≠[])→asD c0 c1 c2 list fun (r:Oo)=>((0:Int)≤c1∧list≠[],fun (x:Oo)=>(0:Int)≤x.2.1.2.1∧(x.1.1,())∈list).2 r):aG prog G qK pq:=
 bZ env mixed (fn:=f140) (c:=codeOf f140) (by kernel_rfl) (by kernel_rfl) au2 (by kernel_rfl) hne fun ⟨⟨c0,c1,c2,⟨⟩⟩,list,⟨⟩⟩ hin hp=>
 Eq.mpr (by kernel_rfl) (h c0 c1 c2 list hin hp)
def amm:Hints:=Go.Fw.hints [] [] [] [] []
def akc (c0:bV) (c1:Int) (c2:Int) (list:bV) (K:oZ→Prop):Prop:=
 (0:Int)≤c1∧
 ∀ (r0:oZ),
 (0:Int)≤r0.2.1.2.1∧
 (0:Int)≤r0.1.1∧((0:Int)<(↑list.length:Int)→r0.1.1<(↑list.length:Int))∧((↑list.length:Int)≤(0:Int)→r0.1.1=(0:Int))→
 ((0:Int)≤r0.1.1∧r0.1.1<(↑list.length:Int))∧
 K (((list.getD (Int.toNat r0.1.1) ((0:Int),())).1,()),(r0.2.1.1,r0.2.1.2.1,r0.2.1.2.2.1,()),())
theorem aje (env:EnvB prog G Θ alg) (hne:∀ x,(Nz x).1→∃ t,(Nz x).2 t) (h:∀ (c0:bV) (c1:Int) (c2:Int) (list:bV),dO uo ((c0,c1,c2,()),list,())→((0:Int)≤c1∧list≠[])→akc c0 c1 c2 list fun (r:oZ)=>((0:Int)≤c1∧list≠[],fun (x:oZ)=>(0:Int)≤x.2.1.2.1∧(x.1.1,())∈list).2 r):aG prog G BA DZ:=
 bZ env mixed (fn:=f42) (c:=codeOf f42) (by kernel_rfl) (by kernel_rfl) amm (by kernel_rfl) hne fun ⟨⟨c0,c1,c2,⟨⟩⟩,list,⟨⟩⟩ hin hp=>
 Eq.mpr (by kernel_rfl) (h c0 c1 c2 list hin hp)
def asE:Hints:=Go.Fw.hints [5] [] [] [] []
def aps (K:(gW×Unit)×Unit→Prop):Prop:=
 K (([([(97:UInt8)],(1:Int),()),([(98:UInt8)],(1:Int),()),([(110:UInt8)],(2:Int),()),([(116:UInt8)],(2:Int),())],()),())
theorem aoJ (env:EnvB prog G Θ aql) (hne:∀ x,(QI x).1→∃ t,(QI x).2 t) (h:dO yj (())→(True)→aps fun (r:(gW×Unit)×Unit)=>(True,fun (x:(gW×Unit)×Unit)=>x.1.1=Sp.usual).2 r):aG prog G Fb Gu:=
 bZ env mixed (fn:=f158) (c:=codeOf f158) (by kernel_rfl) (by kernel_rfl) asE (by kernel_rfl) hne fun ⟨⟩ hin hp=>
 Eq.mpr (by kernel_rfl) (h hin hp)
def asF:Hints:=Go.Fw.hints [] [] [] [] []
def apt (n:Int) (K:auT→Prop):Prop:=
 K (((1:Int),n,[],()),())
theorem aoK (env:EnvB prog G Θ aqm) (h:∀ (n:Int),bF O4 (n,())→(True)→apt n fun r=>r=((((1:Int),n,[],()),()))):aA prog G oP oh:=
 aT env mixed (fn:=f32) (c:=codeOf f32) (by kernel_rfl) (by kernel_rfl) asF (by kernel_rfl) fun ⟨n,⟨⟩⟩ hin hp=>
 Eq.mpr (by kernel_rfl) (h n hin hp)
def akd:Hints:=Go.Fw.hints [] [] [] [] []
def aha (w:eH) (K:auT→Prop):Prop:=
 K (((2:Int),(0:Int),w,()),())
theorem agB (env:EnvB prog G Θ ah1) (h:∀ (w:eH),bF Kz (w,())→(True)→aha w fun r=>r=((((2:Int),(0:Int),w,()),()))):aA prog G pO qo:=
 aT env mixed (fn:=f195) (c:=codeOf f195) (by kernel_rfl) (by kernel_rfl) akd (by kernel_rfl) fun ⟨w,⟨⟩⟩ hin hp=>
 Eq.mpr (by kernel_rfl) (h w hin hp)
def ayx:Hints:=Go.Fw.hints [] [] [] [] []
def awR (x_0:Int) (least:Int) (most:Int) (K:dD→Prop):Prop:=
 bif decide (x_0≥least) then K (decide (x_0≤most),()) else K (false,())
theorem awI (env:EnvB prog G Θ axa) (h:∀ (x_0:Int) (least:Int) (most:Int),bF Wq (x_0,least,most,())→(True)→awR x_0 least most fun r=>r=((decide (least≤x_0)&&decide (x_0≤most),()))):aA prog G iU gX:=
 aT env mixed (fn:=f63) (c:=codeOf f63) (by kernel_rfl) (by kernel_rfl) ayx (by kernel_rfl) fun ⟨x_0,least,most,⟨⟩⟩ hin hp=>
 Eq.mpr (by kernel_rfl) (h x_0 least most hin hp)
def awS:Hints:=Go.Fw.hints [] [] [] [] []
def au3 (n:Int) (low:Int) (high:Int) (K:dD→Prop):Prop:=
 bif decide (low≤n) then K (decide (n≤high),()) else K (false,())
theorem aut (env:EnvB prog G Θ awn) (h:∀ (n:Int) (low:Int) (high:Int),bF UH (n,low,high,())→(True)→au3 n low high fun r=>r=((decide (low≤n)&&decide (n≤high),()))):aA prog G iZ iF:=
 aT env mixed (fn:=f54) (c:=codeOf f54) (by kernel_rfl) (by kernel_rfl) awS (by kernel_rfl) fun ⟨n,low,high,⟨⟩⟩ hin hp=>
 Eq.mpr (by kernel_rfl) (h n low high hin hp)
def au4:Hints:=Go.Fw.hints [] [(2,⟨[],⟨[(0, .one (.str)),(1, .one (.int .i64))],[]⟩,⟨[(5, .one (.int .i64))],[]⟩⟩)] [] [] []
def asH (s:eH) (most:Int) (K:dD→Prop):Prop:=
 let s0:=((s,most,()),());
  ∃ (I:bn→Prop),
  ∃ (μ:bn→Nat),
  I (((0:Int),()),())∧
  ∀ (y1:bn),
  I y1→
  bif decide (y1.1.1<(↑s.length:Int)) then
  ((0:Int)≤y1.1.1∧y1.1.1<(↑s.length:Int))∧
  bif decide ((↑(s.getD (Int.toNat y1.1.1) (0:UInt8)).toNat:Int)<(97:Int)) then K (false,())
  else
  ((0:Int)≤y1.1.1∧y1.1.1<(↑s.length:Int))∧
  bif decide ((↑(s.getD (Int.toNat y1.1.1) (0:UInt8)).toNat:Int)>(122:Int)) then K (false,())
  else s0=s0∧I ((i64.wrap (y1.1.1+(1:Int)),()),())∧μ ((i64.wrap (y1.1.1+(1:Int)),()),())<μ y1
  else
  True∧
 let r2:=decide ((1:Int)≤(↑s.length:Int))&&decide ((↑s.length:Int)≤most);
  K (r2,())
theorem arp (env:EnvB prog G Θ atE) (h:∀ (s:eH) (most:Int),bF QK (s,most,())→(True)→asH s most fun r=>r=((Sp.lower s&&decide ((1:Int)≤(↑s.length:Int))&&decide ((↑s.length:Int)≤most),()))):aA prog G yG yt:=
 aT env mixed (fn:=f237) (c:=codeOf f237) (by kernel_rfl) (by kernel_rfl) au4 (by kernel_rfl) fun ⟨s,most,⟨⟩⟩ hin hp=>
 Eq.mpr (by kernel_rfl) (h s most hin hp)
def afc:Hints:=Go.Fw.hints [] [] [] [] []
def adq (s:eH) (K:dD→Prop):Prop:=
 True∧
 let r0:=Sp.lower s&&decide ((1:Int)≤(↑s.length:Int))&&decide ((↑s.length:Int)≤(6:Int));
  K (r0,())
theorem ac2 (env:EnvB prog G Θ adN) (h:∀ (s:eH),bF GZ (s,())→(True)→adq s fun r=>r=((Sp.jf s,()))):aA prog G jK jO:=
 aT env mixed (fn:=f225) (c:=codeOf f225) (by kernel_rfl) (by kernel_rfl) afc (by kernel_rfl) fun ⟨s,⟨⟩⟩ hin hp=>
 Eq.mpr (by kernel_rfl) (h s hin hp)
def afd:Hints:=Go.Fw.hints [] [(2,⟨[],⟨[(0, .one (.str)),(5, .one (.int .i64))],[]⟩,⟨[(6, .one (.int .i64))],[]⟩⟩)] [] [] []
def adr (s:eH) (K:dD→Prop):Prop:=
 let s0:=((s,(↑s.length:Int),()),());
  ∃ (I:bn→Prop),
  ∃ (μ:bn→Nat),
  I (((0:Int),()),())∧
  ∀ (y1:bn),
  I y1→
  bif decide (y1.1.1<(↑s.length:Int)) then
  ((0:Int)≤y1.1.1∧y1.1.1<(↑s.length:Int))∧
  bif decide ((↑(s.getD (Int.toNat y1.1.1) (0:UInt8)).toNat:Int)<(97:Int)) then K (false,())
  else
  ((0:Int)≤y1.1.1∧y1.1.1<(↑s.length:Int))∧
  bif decide ((↑(s.getD (Int.toNat y1.1.1) (0:UInt8)).toNat:Int)>(122:Int)) then K (false,())
  else s0=s0∧I ((i64.wrap (y1.1.1+(1:Int)),()),())∧μ ((i64.wrap (y1.1.1+(1:Int)),()),())<μ y1
  else
  True∧
 let r2:=decide ((1:Int)≤(↑s.length:Int))&&decide ((↑s.length:Int)≤(6:Int));
  K (r2,())
theorem ac7 (env:EnvB prog G Θ adO) (h:∀ (s:eH),bF G5 (s,())→(True)→adr s fun r=>r=((Sp.jf s,()))):aA prog G jL jP:=
 aT env mixed (fn:=f233) (c:=codeOf f233) (by kernel_rfl) (by kernel_rfl) afd (by kernel_rfl) fun ⟨s,⟨⟩⟩ hin hp=>
 Eq.mpr (by kernel_rfl) (h s hin hp)
def ahb:Hints:=Go.Fw.hints [] [] [] [] []
def afe (v0:Int) (v1:Int) (v2:eH) (K:dD→Prop):Prop:=
 bif v0==(0:Int) then K (v0==(0:Int)&&(v1==(0:Int)&&(v2==[]&&true)),())
 else
 bif v0==(1:Int) then
 True∧
 let r0:=decide ((0:Int)≤v1)&&decide (v1≤(999:Int));
  bif r0 then K (v2==[],()) else K (false,())
  else bif v0==(2:Int) then True∧bif Sp.jf v2 then K (v1==(0:Int),()) else K (false,()) else K (false,())
theorem aev (env:EnvB prog G Θ afZ) (h:∀ (v0:Int) (v1:Int) (v2:eH),bF I5 ((v0,v1,v2,()),())→(True)→afe v0 v1 v2 fun r=>r=((Sp.kF v0 v1 v2,()))):aA prog G oI o5:=
 aT env mixed (fn:=f221) (c:=codeOf f221) (by kernel_rfl) (by kernel_rfl) ahb (by kernel_rfl) fun ⟨⟨v0,v1,v2,⟨⟩⟩,⟨⟩⟩ hin hp=>
 Eq.mpr (by kernel_rfl) (h v0 v1 v2 hin hp)
def ahc:Hints:=Go.Fw.hints [] [] [] [] []
def aff (v0:Int) (v1:Int) (v2:eH) (K:dD→Prop):Prop:=
 bif v0==(0:Int) then K (v0==(0:Int)&&(v1==(0:Int)&&(v2==[]&&true)),())
 else
 bif v0==(1:Int) then
 True∧
 let r0:=decide ((0:Int)≤v1)&&decide (v1≤(999:Int));
  bif r0 then K (v2==[],()) else K (false,())
  else bif v0==(2:Int) then True∧bif Sp.jf v2 then K (v1==(0:Int),()) else K (false,()) else K (false,())
theorem aey (env:EnvB prog G Θ af0) (h:∀ (v0:Int) (v1:Int) (v2:eH),bF I7 ((v0,v1,v2,()),())→(True)→aff v0 v1 v2 fun r=>r=((Sp.kF v0 v1 v2,()))):aA prog G oJ o6:=
 aT env mixed (fn:=f208) (c:=codeOf f208) (by kernel_rfl) (by kernel_rfl) ahc (by kernel_rfl) fun ⟨⟨v0,v1,v2,⟨⟩⟩,⟨⟩⟩ hin hp=>
 Eq.mpr (by kernel_rfl) (h v0 v1 v2 hin hp)
def abV:Hints:=Go.Fw.hints [] [] [] [] []
def aal (s:eH) (K:dD→Prop):Prop:=
 True∧
 let r0:=Sp.lower s&&decide ((1:Int)≤(↑s.length:Int))&&decide ((↑s.length:Int)≤(1:Int));
  K (r0,())
theorem aad (env:EnvB prog G Θ abd) (h:∀ (s:eH),bF Es (s,())→(True)→aal s fun r=>r=((Sp.kN s,()))):aA prog G kY lM:=
 aT env mixed (fn:=f207) (c:=codeOf f207) (by kernel_rfl) (by kernel_rfl) abV (by kernel_rfl) fun ⟨s,⟨⟩⟩ hin hp=>
 Eq.mpr (by kernel_rfl) (h s hin hp)
def abW:Hints:=Go.Fw.hints [] [] [] [] []
def aam (s:eH) (K:dD→Prop):Prop:=
 bif (↑s.length:Int)==(1:Int) then
 ((0:Int)≤(0:Int)∧(0:Int)<(↑s.length:Int))∧
 bif decide ((↑(s.getD (Int.toNat (0:Int)) (0:UInt8)).toNat:Int)≥(97:Int)) then
 ((0:Int)≤(0:Int)∧(0:Int)<(↑s.length:Int))∧K (decide ((↑(s.getD (Int.toNat (0:Int)) (0:UInt8)).toNat:Int)≤(122:Int)),())
 else K (false,())
 else K (false,())
theorem aae (env:EnvB prog G Θ abe) (h:∀ (s:eH),bF Et (s,())→(True)→aam s fun r=>r=((Sp.kN s,()))):aA prog G kZ lN:=
 aT env mixed (fn:=f200) (c:=codeOf f200) (by kernel_rfl) (by kernel_rfl) abW (by kernel_rfl) fun ⟨s,⟨⟩⟩ hin hp=>
 Eq.mpr (by kernel_rfl) (h s hin hp)
def apu:Hints:=Go.Fw.hints [] [(2,⟨[],⟨[(0, .one (.sl 155 (.cons .str (.cons (.int .i64) .nil)) false)),(1, .one (.str))],[]⟩,⟨[(5, .one (.int .i64))],[]⟩⟩)] [] [] []
def amn (s:gW) (name:eH) (K:iV→Prop):Prop:=
 let s0:=((s,name,()),());
  ∃ (I:bn→Prop),
  ∃ (μ:bn→Nat),
  I (((0:Int),()),())∧
  ∀ (y1:bn),
  I y1→
  bif decide (y1.1.1<(↑s.length:Int)) then
  ((0:Int)≤y1.1.1∧y1.1.1<(↑s.length:Int))∧
  bif (s.getD (Int.toNat y1.1.1) ([],(0:Int),())).1==name then
  ((0:Int)≤y1.1.1∧y1.1.1<(↑s.length:Int))∧K ((s.getD (Int.toNat y1.1.1) ([],(0:Int),())).2.1,())
  else s0=s0∧I ((i64.wrap (y1.1.1+(1:Int)),()),())∧μ ((i64.wrap (y1.1.1+(1:Int)),()),())<μ y1
  else K ((0:Int),())
theorem alS (env:EnvB prog G Θ anO) (h:∀ (s:gW) (name:eH),bF NC (s,name,())→(True)→amn s name fun r=>r=((Sp.kindOf s name,()))):aA prog G Dv EK:=
 aT env mixed (fn:=f222) (c:=codeOf f222) (by kernel_rfl) (by kernel_rfl) apu (by kernel_rfl) fun ⟨s,name,⟨⟩⟩ hin hp=>
 Eq.mpr (by kernel_rfl) (h s name hin hp)
def apv:Hints:=Go.Fw.hints [] [(2,⟨[],⟨[(1, .one (.str)),(7, .one (.sl 155 (.cons .str (.cons (.int .i64) .nil)) false)),(8, .one (.int .i64))],[]⟩,⟨[(9, .one (.int .i64))],[]⟩⟩)] [] [] []
def amo (s:gW) (name:eH) (K:iV→Prop):Prop:=
 let s0:=((name,s,(↑s.length:Int),()),());
  ∃ (I:bn→Prop),
  ∃ (μ:bn→Nat),
  I (((0:Int),()),())∧
  ∀ (y1:bn),
  I y1→
  bif decide (y1.1.1<(↑s.length:Int)) then
  ((0:Int)≤y1.1.1∧y1.1.1<(↑s.length:Int))∧
  bif (s.getD (Int.toNat y1.1.1) ([],(0:Int),())).1==name then K ((s.getD (Int.toNat y1.1.1) ([],(0:Int),())).2.1,())
  else s0=s0∧I ((i64.wrap (y1.1.1+(1:Int)),()),())∧μ ((i64.wrap (y1.1.1+(1:Int)),()),())<μ y1
  else K ((0:Int),())
theorem al0 (env:EnvB prog G Θ anP) (h:∀ (s:gW) (name:eH),bF ND (s,name,())→(True)→amo s name fun r=>r=((Sp.kindOf s name,()))):aA prog G Dw EL:=
 aT env mixed (fn:=f209) (c:=codeOf f209) (by kernel_rfl) (by kernel_rfl) apv (by kernel_rfl) fun ⟨s,name,⟨⟩⟩ hin hp=>
 Eq.mpr (by kernel_rfl) (h s name hin hp)
def afg:Hints:=Go.Fw.hints [] [(2,⟨[],⟨[(0, .one (.sl 155 (.cons .str (.cons (.int .i64) .nil)) false))],[]⟩,⟨[(3, .one (.int .i64))],[]⟩⟩)] [] [] []
def ads (s:gW) (K:dD→Prop):Prop:=
 let s0:=((s,()),());
  ∃ (I:bn→Prop),
  ∃ (μ:bn→Nat),
  I (((0:Int),()),())∧
  ∀ (y1:bn),
  I y1→
  bif decide (y1.1.1<(↑s.length:Int)) then
  ((0:Int)≤y1.1.1∧y1.1.1<(↑s.length:Int))∧
  True∧
 let r2:=Sp.kN (s.getD (Int.toNat y1.1.1) ([],(0:Int),())).1;
  bif !r2 then K (false,())
  else
  ((0:Int)≤y1.1.1∧y1.1.1<(↑s.length:Int))∧
  True∧
 let r3:=
  decide ((1:Int)≤(s.getD (Int.toNat y1.1.1) ([],(0:Int),())).2.1)&&
  decide ((s.getD (Int.toNat y1.1.1) ([],(0:Int),())).2.1≤(2:Int));
  bif !r3 then K (false,())
  else
  bif decide (y1.1.1>(0:Int)) then
  ((0:Int)≤i64.wrap (y1.1.1-(1:Int))∧i64.wrap (y1.1.1-(1:Int))<(↑s.length:Int))∧
  ((0:Int)≤y1.1.1∧y1.1.1<(↑s.length:Int))∧
  bif
  !Op.bytesLess (s.getD (i64.wrap (y1.1.1-(1:Int))).toNat ([],(0:Int),())).1
  (s.getD (Int.toNat y1.1.1) ([],(0:Int),())).1 then
  K (false,())
  else s0=s0∧I ((i64.wrap (y1.1.1+(1:Int)),()),())∧μ ((i64.wrap (y1.1.1+(1:Int)),()),())<μ y1
  else s0=s0∧I ((i64.wrap (y1.1.1+(1:Int)),()),())∧μ ((i64.wrap (y1.1.1+(1:Int)),()),())<μ y1
  else K (decide ((↑s.length:Int)≤(5:Int)),())
theorem ac3 (env:EnvB prog G Θ adP) (h:∀ (s:gW),bF G6 (s,())→(True)→ads s fun r=>r=((Sp.fZ s,()))):aA prog G nD nS:=
 aT env mixed (fn:=f156) (c:=codeOf f156) (by kernel_rfl) (by kernel_rfl) afg (by kernel_rfl) fun ⟨s,⟨⟩⟩ hin hp=>
 Eq.mpr (by kernel_rfl) (h s hin hp)
def afh:Hints:=Go.Fw.hints [] [(2,⟨[],⟨[(0, .one (.sl 155 (.cons .str (.cons (.int .i64) .nil)) false)),(5, .one (.sl 155 (.cons .str (.cons (.int .i64) .nil)) false)),(6, .one (.int .i64))],[]⟩,⟨[(7, .one (.int .i64))],[]⟩⟩)] [] [] []
def adt (s:gW) (K:dD→Prop):Prop:=
 let s0:=((s,s,(↑s.length:Int),()),());
  ∃ (I:bn→Prop),
  ∃ (μ:bn→Nat),
  I (((0:Int),()),())∧
  ∀ (y1:bn),
  I y1→
  bif decide (y1.1.1<(↑s.length:Int)) then
  ((0:Int)≤y1.1.1∧y1.1.1<(↑s.length:Int))∧
  True∧
 let r2:=Sp.kN (s.getD (Int.toNat y1.1.1) ([],(0:Int),())).1;
  bif !r2 then K (false,())
  else
  bif (s.getD (Int.toNat y1.1.1) ([],(0:Int),())).2.1 !=(1:Int) then
  bif (s.getD (Int.toNat y1.1.1) ([],(0:Int),())).2.1 !=(2:Int) then K (false,())
  else
  bif decide (y1.1.1>(0:Int)) then
  ((0:Int)≤i64.wrap (y1.1.1-(1:Int))∧i64.wrap (y1.1.1-(1:Int))<(↑s.length:Int))∧
  bif
  !Op.bytesLess (s.getD (i64.wrap (y1.1.1-(1:Int))).toNat ([],(0:Int),())).1
  (s.getD (Int.toNat y1.1.1) ([],(0:Int),())).1 then
  K (false,())
  else s0=s0∧I ((i64.wrap (y1.1.1+(1:Int)),()),())∧μ ((i64.wrap (y1.1.1+(1:Int)),()),())<μ y1
  else s0=s0∧I ((i64.wrap (y1.1.1+(1:Int)),()),())∧μ ((i64.wrap (y1.1.1+(1:Int)),()),())<μ y1
  else
  bif decide (y1.1.1>(0:Int)) then
  ((0:Int)≤i64.wrap (y1.1.1-(1:Int))∧i64.wrap (y1.1.1-(1:Int))<(↑s.length:Int))∧
  bif
  !Op.bytesLess (s.getD (i64.wrap (y1.1.1-(1:Int))).toNat ([],(0:Int),())).1
  (s.getD (Int.toNat y1.1.1) ([],(0:Int),())).1 then
  K (false,())
  else s0=s0∧I ((i64.wrap (y1.1.1+(1:Int)),()),())∧μ ((i64.wrap (y1.1.1+(1:Int)),()),())<μ y1
  else s0=s0∧I ((i64.wrap (y1.1.1+(1:Int)),()),())∧μ ((i64.wrap (y1.1.1+(1:Int)),()),())<μ y1
  else K (decide ((↑s.length:Int)≤(5:Int)),())
theorem ac8 (env:EnvB prog G Θ adQ) (h:∀ (s:gW),bF G7 (s,())→(True)→adt s fun r=>r=((Sp.fZ s,()))):aA prog G nG nT:=
 aT env mixed (fn:=f148) (c:=codeOf f148) (by kernel_rfl) (by kernel_rfl) afh (by kernel_rfl) fun ⟨s,⟨⟩⟩ hin hp=>
 Eq.mpr (by kernel_rfl) (h s hin hp)
def afi:Hints:=Go.Fw.hints [] [] [] [] []
def adu (s:gW) (name:eH) (v0:Int) (v1:Int) (v2:eH) (K:dD→Prop):Prop:=
 True∧bif Sp.kF v0 v1 v2 then bif v0 !=(0:Int) then True∧K (v0==Sp.kindOf s name,()) else K (false,()) else K (false,())
theorem ac5 (env:EnvB prog G Θ adR) (h:∀ (s:gW) (name:eH) (v0:Int) (v1:Int) (v2:eH),bF G8 (s,name,(v0,v1,v2,()),())→(True)→adu s name v0 v1 v2 fun r=>r=((Sp.jb s name v0 v1 v2,()))):aA prog G vW yO:=
 aT env mixed (fn:=f180) (c:=codeOf f180) (by kernel_rfl) (by kernel_rfl) afi (by kernel_rfl) fun ⟨s,name,⟨v0,v1,v2,⟨⟩⟩,⟨⟩⟩ hin hp=>
 Eq.mpr (by kernel_rfl) (h s name v0 v1 v2 hin hp)
def afj:Hints:=Go.Fw.hints [] [] [] [] []
def adv (s:gW) (name:eH) (v0:Int) (v1:Int) (v2:eH) (K:dD→Prop):Prop:=
 True∧bif Sp.kF v0 v1 v2 then bif v0 !=(0:Int) then True∧K (v0==Sp.kindOf s name,()) else K (false,()) else K (false,())
theorem ada (env:EnvB prog G Θ adS) (h:∀ (s:gW) (name:eH) (v0:Int) (v1:Int) (v2:eH),bF G9 (s,name,(v0,v1,v2,()),())→(True)→adv s name v0 v1 v2 fun r=>r=((Sp.jb s name v0 v1 v2,()))):aA prog G vX yP:=
 aT env mixed (fn:=f162) (c:=codeOf f162) (by kernel_rfl) (by kernel_rfl) afj (by kernel_rfl) fun ⟨s,name,⟨v0,v1,v2,⟨⟩⟩,⟨⟩⟩ hin hp=>
 Eq.mpr (by kernel_rfl) (h s name v0 v1 v2 hin hp)
def ake:Hints:=Go.Fw.hints [] [(2,⟨[],⟨[(0, .one (.sl 155 (.cons .str (.cons (.int .i64) .nil)) false)),(3, .fM [.int .i64, .int .i64, .bool, .int .i64, .sl 94 (.cons .str (.cons (.int .i64) (.cons (.int .i64) (.cons .str .nil)))) false] 0)],[]⟩,⟨[(5, .one (.int .i64))],[]⟩⟩)] [] [] []
def ahd (s:gW) (f0:Int) (f1:Int) (f2:Bool) (f3:Int) (f4:iq) (K:dD→Prop):Prop:=
 let s0:=((s,(f0,f1,f2,f3,f4,()),()),());
  ∃ (I:bn→Prop),
  ∃ (μ:bn→Nat),
  I (((0:Int),()),())∧
  ∀ (y1:bn),
  I y1→
  bif decide (y1.1.1<(↑f4.length:Int)) then
  ((0:Int)≤y1.1.1∧y1.1.1<(↑f4.length:Int))∧
  ((0:Int)≤y1.1.1∧y1.1.1<(↑f4.length:Int))∧
  True∧
 let r2:=
  Sp.jb s (f4.getD (Int.toNat y1.1.1) ([],(0:Int),(0:Int),[],())).1
  (f4.getD (Int.toNat y1.1.1) ([],(0:Int),(0:Int),[],())).2.1 (f4.getD (Int.toNat y1.1.1) ([],(0:Int),(0:Int),[],())).2.2.1
  (f4.getD (Int.toNat y1.1.1) ([],(0:Int),(0:Int),[],())).2.2.2.1;
  bif !r2 then K (false,())
  else
  bif decide (y1.1.1>(0:Int)) then
  ((0:Int)≤i64.wrap (y1.1.1-(1:Int))∧i64.wrap (y1.1.1-(1:Int))<(↑f4.length:Int))∧
  ((0:Int)≤y1.1.1∧y1.1.1<(↑f4.length:Int))∧
  bif
  !Op.bytesLess (f4.getD (i64.wrap (y1.1.1-(1:Int))).toNat ([],(0:Int),(0:Int),[],())).1
  (f4.getD (Int.toNat y1.1.1) ([],(0:Int),(0:Int),[],())).1 then
  K (false,())
  else s0=s0∧I ((i64.wrap (y1.1.1+(1:Int)),()),())∧μ ((i64.wrap (y1.1.1+(1:Int)),()),())<μ y1
  else s0=s0∧I ((i64.wrap (y1.1.1+(1:Int)),()),())∧μ ((i64.wrap (y1.1.1+(1:Int)),()),())<μ y1
  else
  True∧
  bif Sp.fZ s then
  True∧
 let r3:=decide ((1:Int)≤f0)&&decide (f0≤(60:Int));
  bif r3 then
  True∧
 let r4:=decide ((0:Int)≤f1)&&decide (f1≤(2:Int));
  bif r4 then
  True∧
 let r5:=decide ((0:Int)≤f3)&&decide (f3≤(60:Int));
  K (r5,())
  else K (false,())
  else K (false,())
  else K (false,())
theorem agC (env:EnvB prog G Θ ah2) (h:∀ (s:gW) (f0:Int) (f1:Int) (f2:Bool) (f3:Int) (f4:iq),bF KA (s,(f0,f1,f2,f3,f4,()),())→(True)→ahd s f0 f1 f2 f3 f4 fun r=>r=((Sp.dA s (f0,f1,f2,f3,f4,()),()))):aA prog G pI qp:=
 aT env mixed (fn:=f125) (c:=codeOf f125) (by kernel_rfl) (by kernel_rfl) ake (by kernel_rfl) fun ⟨s,⟨f0,f1,f2,f3,f4,⟨⟩⟩,⟨⟩⟩ hin hp=>
 Eq.mpr (by kernel_rfl) (h s f0 f1 f2 f3 f4 hin hp)
def akf:Hints:=Go.Fw.hints [] [(2,⟨[],⟨[(0, .one (.sl 155 (.cons .str (.cons (.int .i64) .nil)) false)),(3, .fM [.int .i64, .int .i64, .bool, .int .i64, .sl 94 (.cons .str (.cons (.int .i64) (.cons (.int .i64) (.cons .str .nil)))) false] 0),(8, .one (.sl 94 (.cons .str (.cons (.int .i64) (.cons (.int .i64) (.cons .str .nil)))) false)),(9, .one (.int .i64))],[]⟩,⟨[(10, .one (.int .i64))],[]⟩⟩)] [] [] []
def ahe (s:gW) (f0:Int) (f1:Int) (f2:Bool) (f3:Int) (f4:iq) (K:dD→Prop):Prop:=
 let s0:=((s,(f0,f1,f2,f3,f4,()),f4,(↑f4.length:Int),()),());
  ∃ (I:bn→Prop),
  ∃ (μ:bn→Nat),
  I (((0:Int),()),())∧
  ∀ (y1:bn),
  I y1→
  bif decide (y1.1.1<(↑f4.length:Int)) then
  ((0:Int)≤y1.1.1∧y1.1.1<(↑f4.length:Int))∧
  bif decide (y1.1.1>(0:Int)) then
  ((0:Int)≤i64.wrap (y1.1.1-(1:Int))∧i64.wrap (y1.1.1-(1:Int))<(↑f4.length:Int))∧
  bif
  !Op.bytesLess (f4.getD (i64.wrap (y1.1.1-(1:Int))).toNat ([],(0:Int),(0:Int),[],())).1
  (f4.getD (Int.toNat y1.1.1) ([],(0:Int),(0:Int),[],())).1 then
  K (false,())
  else
  True∧
 let r2:=
  Sp.jb s (f4.getD (Int.toNat y1.1.1) ([],(0:Int),(0:Int),[],())).1
  (f4.getD (Int.toNat y1.1.1) ([],(0:Int),(0:Int),[],())).2.1
  (f4.getD (Int.toNat y1.1.1) ([],(0:Int),(0:Int),[],())).2.2.1
  (f4.getD (Int.toNat y1.1.1) ([],(0:Int),(0:Int),[],())).2.2.2.1;
  bif !r2 then K (false,())
  else s0=s0∧I ((i64.wrap (y1.1.1+(1:Int)),()),())∧μ ((i64.wrap (y1.1.1+(1:Int)),()),())<μ y1
  else
  True∧
 let r3:=
  Sp.jb s (f4.getD (Int.toNat y1.1.1) ([],(0:Int),(0:Int),[],())).1
  (f4.getD (Int.toNat y1.1.1) ([],(0:Int),(0:Int),[],())).2.1 (f4.getD (Int.toNat y1.1.1) ([],(0:Int),(0:Int),[],())).2.2.1
  (f4.getD (Int.toNat y1.1.1) ([],(0:Int),(0:Int),[],())).2.2.2.1;
  bif !r3 then K (false,()) else s0=s0∧I ((i64.wrap (y1.1.1+(1:Int)),()),())∧μ ((i64.wrap (y1.1.1+(1:Int)),()),())<μ y1
  else
  True∧
 let r4:=decide ((1:Int)≤f0)&&decide (f0≤(60:Int));
  bif r4 then
  True∧
 let r5:=decide ((0:Int)≤f1)&&decide (f1≤(2:Int));
  bif r5 then
  True∧
 let r6:=decide ((0:Int)≤f3)&&decide (f3≤(60:Int));
  bif r6 then True∧K (Sp.fZ s,()) else K (false,())
  else K (false,())
  else K (false,())
theorem agD (env:EnvB prog G Θ ah3) (h:∀ (s:gW) (f0:Int) (f1:Int) (f2:Bool) (f3:Int) (f4:iq),bF KC (s,(f0,f1,f2,f3,f4,()),())→(True)→ahe s f0 f1 f2 f3 f4 fun r=>r=((Sp.dA s (f0,f1,f2,f3,f4,()),()))):aA prog G pJ qw:=
 aT env mixed (fn:=f107) (c:=codeOf f107) (by kernel_rfl) (by kernel_rfl) akf (by kernel_rfl) fun ⟨s,⟨f0,f1,f2,f3,f4,⟨⟩⟩,⟨⟩⟩ hin hp=>
 Eq.mpr (by kernel_rfl) (h s f0 f1 f2 f3 f4 hin hp)
def ahf:Hints:=Go.Fw.hints [] [(2,⟨[],⟨[(1, .fM [.sl 155 (.cons .str (.cons (.int .i64) .nil)) false, .sl 56 (.cons (.int .i64) (.cons (.int .i64) (.cons .bool (.cons (.int .i64) (.cons (.sl 94 (.cons .str (.cons (.int .i64) (.cons (.int .i64) (.cons .str .nil))))) .nil))))) false, .int .i64] 0)],[]⟩,⟨[(3, .one (.int .i64))],[]⟩⟩)] [] [] []
def afk (s0:gW) (s1:iW) (s2:Int) (K:dD→Prop):Prop:=
 let WT:=(((s0,s1,s2,()),()),());
  ∃ (I:bn→Prop),
  ∃ (μ:bn→Nat),
  I (((0:Int),()),())∧
  ∀ (y1:bn),
  I y1→
  bif decide (y1.1.1<(↑s1.length:Int)) then
  ((0:Int)≤y1.1.1∧y1.1.1<(↑s1.length:Int))∧
  True∧
 let r2:=
  Sp.dA s0
  ((s1.getD (Int.toNat y1.1.1) ((0:Int),(0:Int),false,(0:Int),[],())).1,
  (s1.getD (Int.toNat y1.1.1) ((0:Int),(0:Int),false,(0:Int),[],())).2.1,
  (s1.getD (Int.toNat y1.1.1) ((0:Int),(0:Int),false,(0:Int),[],())).2.2.1,
  (s1.getD (Int.toNat y1.1.1) ((0:Int),(0:Int),false,(0:Int),[],())).2.2.2.1,
  (s1.getD (Int.toNat y1.1.1) ((0:Int),(0:Int),false,(0:Int),[],())).2.2.2.2.1,());
  bif !r2 then K (false,())
  else
  ((0:Int)≤y1.1.1∧y1.1.1<(↑s1.length:Int))∧
  bif decide ((s1.getD (Int.toNat y1.1.1) ((0:Int),(0:Int),false,(0:Int),[],())).1≥s2) then K (false,())
  else
  bif decide (y1.1.1>(0:Int)) then
  ((0:Int)≤i64.wrap (y1.1.1-(1:Int))∧i64.wrap (y1.1.1-(1:Int))<(↑s1.length:Int))∧
  ((0:Int)≤y1.1.1∧y1.1.1<(↑s1.length:Int))∧
  bif
  decide
  ((s1.getD (i64.wrap (y1.1.1-(1:Int))).toNat ((0:Int),(0:Int),false,(0:Int),[],())).1≥
  (s1.getD (Int.toNat y1.1.1) ((0:Int),(0:Int),false,(0:Int),[],())).1) then
  K (false,())
  else WT=WT∧I ((i64.wrap (y1.1.1+(1:Int)),()),())∧μ ((i64.wrap (y1.1.1+(1:Int)),()),())<μ y1
  else WT=WT∧I ((i64.wrap (y1.1.1+(1:Int)),()),())∧μ ((i64.wrap (y1.1.1+(1:Int)),()),())<μ y1
  else
  True∧
  bif Sp.fZ s0 then
  bif decide ((↑s1.length:Int)≤(12:Int)) then
  True∧
 let r3:=decide ((1:Int)≤s2)&&decide (s2≤(61:Int));
  K (r3,())
  else K (false,())
  else K (false,())
theorem aew (env:EnvB prog G Θ af2) (h:∀ (s0:gW) (s1:iW) (s2:Int),bF I8 ((s0,s1,s2,()),())→(True)→afk s0 s1 s2 fun r=>r=((Sp.aN (s0,s1,s2,()),()))):aA prog G kz kG:=
 aT env mixed (fn:=f100) (c:=codeOf f100) (by kernel_rfl) (by kernel_rfl) ahf (by kernel_rfl) fun ⟨⟨s0,s1,s2,⟨⟩⟩,⟨⟩⟩ hin hp=>
 Eq.mpr (by kernel_rfl) (h s0 s1 s2 hin hp)
def ahg:Hints:=Go.Fw.hints [] [(2,⟨[],⟨[(1, .fM [.sl 155 (.cons .str (.cons (.int .i64) .nil)) false, .sl 56 (.cons (.int .i64) (.cons (.int .i64) (.cons .bool (.cons (.int .i64) (.cons (.sl 94 (.cons .str (.cons (.int .i64) (.cons (.int .i64) (.cons .str .nil))))) .nil))))) false, .int .i64] 0),(6, .one (.sl 56 (.cons (.int .i64) (.cons (.int .i64) (.cons .bool (.cons (.int .i64) (.cons (.sl 94 (.cons .str (.cons (.int .i64) (.cons (.int .i64) (.cons .str .nil))))) .nil))))) false)),(7, .one (.int .i64))],[]⟩,⟨[(8, .one (.int .i64))],[]⟩⟩)] [] [] []
def afl (s0:gW) (s1:iW) (s2:Int) (K:dD→Prop):Prop:=
 let WT:=(((s0,s1,s2,()),s1,(↑s1.length:Int),()),());
  ∃ (I:bn→Prop),
  ∃ (μ:bn→Nat),
  I (((0:Int),()),())∧
  ∀ (y1:bn),
  I y1→
  bif decide (y1.1.1<(↑s1.length:Int)) then
  ((0:Int)≤y1.1.1∧y1.1.1<(↑s1.length:Int))∧
  True∧
 let r2:=
  Sp.dA s0
  ((s1.getD (Int.toNat y1.1.1) ((0:Int),(0:Int),false,(0:Int),[],())).1,
  (s1.getD (Int.toNat y1.1.1) ((0:Int),(0:Int),false,(0:Int),[],())).2.1,
  (s1.getD (Int.toNat y1.1.1) ((0:Int),(0:Int),false,(0:Int),[],())).2.2.1,
  (s1.getD (Int.toNat y1.1.1) ((0:Int),(0:Int),false,(0:Int),[],())).2.2.2.1,
  (s1.getD (Int.toNat y1.1.1) ((0:Int),(0:Int),false,(0:Int),[],())).2.2.2.2.1,());
  bif !r2 then K (false,())
  else
  bif decide ((s1.getD (Int.toNat y1.1.1) ((0:Int),(0:Int),false,(0:Int),[],())).1≥s2) then K (false,())
  else
  bif decide (y1.1.1>(0:Int)) then
  ((0:Int)≤i64.wrap (y1.1.1-(1:Int))∧i64.wrap (y1.1.1-(1:Int))<(↑s1.length:Int))∧
  bif
  decide
  ((s1.getD (i64.wrap (y1.1.1-(1:Int))).toNat ((0:Int),(0:Int),false,(0:Int),[],())).1≥
  (s1.getD (Int.toNat y1.1.1) ((0:Int),(0:Int),false,(0:Int),[],())).1) then
  K (false,())
  else WT=WT∧I ((i64.wrap (y1.1.1+(1:Int)),()),())∧μ ((i64.wrap (y1.1.1+(1:Int)),()),())<μ y1
  else WT=WT∧I ((i64.wrap (y1.1.1+(1:Int)),()),())∧μ ((i64.wrap (y1.1.1+(1:Int)),()),())<μ y1
  else
  True∧
  bif Sp.fZ s0 then
  bif decide ((↑s1.length:Int)≤(12:Int)) then
  True∧
 let r3:=decide ((1:Int)≤s2)&&decide (s2≤(61:Int));
  K (r3,())
  else K (false,())
  else K (false,())
theorem aez (env:EnvB prog G Θ af4) (h:∀ (s0:gW) (s1:iW) (s2:Int),bF I9 ((s0,s1,s2,()),())→(True)→afl s0 s1 s2 fun r=>r=((Sp.aN (s0,s1,s2,()),()))):aA prog G oK o7:=
 aT env mixed (fn:=f96) (c:=codeOf f96) (by kernel_rfl) (by kernel_rfl) ahg (by kernel_rfl) fun ⟨⟨s0,s1,s2,⟨⟩⟩,⟨⟩⟩ hin hp=>
 Eq.mpr (by kernel_rfl) (h s0 s1 s2 hin hp)
def amq:Hints:=Go.Fw.hints [] [(4,⟨[],⟨[(0, .one (.sl 155 (.cons .str (.cons (.int .i64) .nil)) false)),(1, .one (.sl 155 (.cons .str (.cons (.int .i64) .nil)) false))],[]⟩,⟨[(5, .one (.int .i64))],[]⟩⟩)] [] [] []
def akg (a:gW) (b:gW) (K:dD→Prop):Prop:=
 bif (↑a.length:Int) !=(↑b.length:Int) then K (false,())
 else
 let s0:=((a,b,()),());
  ∃ (I:bn→Prop),
  ∃ (μ:bn→Nat),
  I (((0:Int),()),())∧
  ∀ (y1:bn),
  I y1→
  bif decide (y1.1.1<(↑a.length:Int)) then
  ((0:Int)≤y1.1.1∧y1.1.1<(↑a.length:Int))∧
  ((0:Int)≤y1.1.1∧y1.1.1<(↑b.length:Int))∧
  bif
  !((a.getD (Int.toNat y1.1.1) ([],(0:Int),())).1==(b.getD (Int.toNat y1.1.1) ([],(0:Int),())).1&&
  ((a.getD (Int.toNat y1.1.1) ([],(0:Int),())).2.1==(b.getD (Int.toNat y1.1.1) ([],(0:Int),())).2.1&&true)) then
  K (false,())
  else s0=s0∧I ((i64.wrap (y1.1.1+(1:Int)),()),())∧μ ((i64.wrap (y1.1.1+(1:Int)),()),())<μ y1
  else K (true,())
theorem ajh (env:EnvB prog G Θ alh) (h:∀ (a:gW) (b:gW),bF LC (a,b,())→(True)→akg a b fun r=>r=((decide (a=b),()))):aA prog G Bo D5:=
 aT env mixed (fn:=f93) (c:=codeOf f93) (by kernel_rfl) (by kernel_rfl) amq (by kernel_rfl) fun ⟨a,b,⟨⟩⟩ hin hp=>
 Eq.mpr (by kernel_rfl) (h a b hin hp)
def apw:Hints:=Go.Fw.hints [] [(4,⟨[],⟨[(0, .one (.sl 94 (.cons .str (.cons (.int .i64) (.cons (.int .i64) (.cons .str .nil)))) false)),(1, .one (.sl 94 (.cons .str (.cons (.int .i64) (.cons (.int .i64) (.cons .str .nil)))) false))],[]⟩,⟨[(5, .one (.int .i64))],[]⟩⟩)] [] [] []
def amr (a:iq) (b:iq) (K:dD→Prop):Prop:=
 bif (↑a.length:Int) !=(↑b.length:Int) then K (false,())
 else
 let s0:=((a,b,()),());
  ∃ (I:bn→Prop),
  ∃ (μ:bn→Nat),
  I (((0:Int),()),())∧
  ∀ (y1:bn),
  I y1→
  bif decide (y1.1.1<(↑a.length:Int)) then
  ((0:Int)≤y1.1.1∧y1.1.1<(↑a.length:Int))∧
  ((0:Int)≤y1.1.1∧y1.1.1<(↑b.length:Int))∧
  bif
  !((a.getD (Int.toNat y1.1.1) ([],(0:Int),(0:Int),[],())).1==(b.getD (Int.toNat y1.1.1) ([],(0:Int),(0:Int),[],())).1&&
  ((a.getD (Int.toNat y1.1.1) ([],(0:Int),(0:Int),[],())).2.1==
  (b.getD (Int.toNat y1.1.1) ([],(0:Int),(0:Int),[],())).2.1&&
  ((a.getD (Int.toNat y1.1.1) ([],(0:Int),(0:Int),[],())).2.2.1==
  (b.getD (Int.toNat y1.1.1) ([],(0:Int),(0:Int),[],())).2.2.1&&
  ((a.getD (Int.toNat y1.1.1) ([],(0:Int),(0:Int),[],())).2.2.2.1==
  (b.getD (Int.toNat y1.1.1) ([],(0:Int),(0:Int),[],())).2.2.2.1&&
  true)))) then
  K (false,())
  else s0=s0∧I ((i64.wrap (y1.1.1+(1:Int)),()),())∧μ ((i64.wrap (y1.1.1+(1:Int)),()),())<μ y1
  else K (true,())
theorem alU (env:EnvB prog G Θ anQ) (h:∀ (a:iq) (b:iq),bF NG (a,b,())→(True)→amr a b fun r=>r=((decide (a=b),()))):aA prog G Dx EM:=
 aT env mixed (fn:=f199) (c:=codeOf f199) (by kernel_rfl) (by kernel_rfl) apw (by kernel_rfl) fun ⟨a,b,⟨⟩⟩ hin hp=>
 Eq.mpr (by kernel_rfl) (h a b hin hp)
def asI:Hints:=Go.Fw.hints [] [] [] [] []
def apx (a0:Int) (a1:Int) (a2:Bool) (a3:Int) (a4:iq) (b0:Int) (b1:Int) (b2:Bool) (b3:Int) (b4:iq) (K:dD→Prop):Prop:=
 bif a0==b0 then
 bif a1==b1 then
 bif a2==b2 then
 bif a3==b3 then
 True∧
 let r0:=decide (a4=b4);
  K (r0,())
  else K (false,())
  else K (false,())
  else K (false,())
  else K (false,())
theorem aoM (env:EnvB prog G Θ aqn) (h:∀ (a0:Int) (a1:Int) (a2:Bool) (a3:Int) (a4:iq) (b0:Int) (b1:Int) (b2:Bool) (b3:Int) (b4:iq),bF O5 ((a0,a1,a2,a3,a4,()),(b0,b1,b2,b3,b4,()),())→(True)→apx a0 a1 a2 a3 a4 b0 b1 b2 b3 b4 fun r=>r=((decide ((a0,a1,a2,a3,a4,())=(b0,b1,b2,b3,b4,())),()))):aA prog G E5 Gv:=
 aT env mixed (fn:=f146) (c:=codeOf f146) (by kernel_rfl) (by kernel_rfl) asI (by kernel_rfl) fun ⟨⟨a0,a1,a2,a3,a4,⟨⟩⟩,⟨b0,b1,b2,b3,b4,⟨⟩⟩,⟨⟩⟩ hin hp=>
 Eq.mpr (by kernel_rfl) (h a0 a1 a2 a3 a4 b0 b1 b2 b3 b4 hin hp)
def apy:Hints:=Go.Fw.hints [] [(4,⟨[],⟨[(0, .one (.sl 56 (.cons (.int .i64) (.cons (.int .i64) (.cons .bool (.cons (.int .i64) (.cons (.sl 94 (.cons .str (.cons (.int .i64) (.cons (.int .i64) (.cons .str .nil))))) .nil))))) false)),(1, .one (.sl 56 (.cons (.int .i64) (.cons (.int .i64) (.cons .bool (.cons (.int .i64) (.cons (.sl 94 (.cons .str (.cons (.int .i64) (.cons (.int .i64) (.cons .str .nil))))) .nil))))) false))],[]⟩,⟨[(5, .one (.int .i64))],[]⟩⟩)] [] [] []
def ams (a:iW) (b:iW) (K:dD→Prop):Prop:=
 bif (↑a.length:Int) !=(↑b.length:Int) then K (false,())
 else
 let s0:=((a,b,()),());
  ∃ (I:bn→Prop),
  ∃ (μ:bn→Nat),
  I (((0:Int),()),())∧
  ∀ (y1:bn),
  I y1→
  bif decide (y1.1.1<(↑a.length:Int)) then
  ((0:Int)≤y1.1.1∧y1.1.1<(↑a.length:Int))∧
  ((0:Int)≤y1.1.1∧y1.1.1<(↑b.length:Int))∧
  True∧
 let r2:=
  decide
  (((a.getD (Int.toNat y1.1.1) ((0:Int),(0:Int),false,(0:Int),[],())).1,
  (a.getD (Int.toNat y1.1.1) ((0:Int),(0:Int),false,(0:Int),[],())).2.1,
  (a.getD (Int.toNat y1.1.1) ((0:Int),(0:Int),false,(0:Int),[],())).2.2.1,
  (a.getD (Int.toNat y1.1.1) ((0:Int),(0:Int),false,(0:Int),[],())).2.2.2.1,
  (a.getD (Int.toNat y1.1.1) ((0:Int),(0:Int),false,(0:Int),[],())).2.2.2.2.1,())=
  ((b.getD (Int.toNat y1.1.1) ((0:Int),(0:Int),false,(0:Int),[],())).1,
  (b.getD (Int.toNat y1.1.1) ((0:Int),(0:Int),false,(0:Int),[],())).2.1,
  (b.getD (Int.toNat y1.1.1) ((0:Int),(0:Int),false,(0:Int),[],())).2.2.1,
  (b.getD (Int.toNat y1.1.1) ((0:Int),(0:Int),false,(0:Int),[],())).2.2.2.1,
  (b.getD (Int.toNat y1.1.1) ((0:Int),(0:Int),false,(0:Int),[],())).2.2.2.2.1,()));
  bif !r2 then K (false,())
  else s0=s0∧I ((i64.wrap (y1.1.1+(1:Int)),()),())∧μ ((i64.wrap (y1.1.1+(1:Int)),()),())<μ y1
  else K (true,())
theorem alW (env:EnvB prog G Θ anR) (h:∀ (a:iW) (b:iW),bF NH (a,b,())→(True)→ams a b fun r=>r=((decide (a=b),()))):aA prog G Dy EN:=
 aT env mixed (fn:=f94) (c:=codeOf f94) (by kernel_rfl) (by kernel_rfl) apy (by kernel_rfl) fun ⟨a,b,⟨⟩⟩ hin hp=>
 Eq.mpr (by kernel_rfl) (h a b hin hp)
def apz:Hints:=Go.Fw.hints [] [] [] [] []
def amu (a0:gW) (a1:iW) (a2:Int) (b0:gW) (b1:iW) (b2:Int) (K:dD→Prop):Prop:=
 True∧
 let r0:=decide (a0=b0);
  bif r0 then
  True∧
 let r1:=decide (a1=b1);
  bif r1 then K (a2==b2,()) else K (false,())
  else K (false,())
theorem alY (env:EnvB prog G Θ anS) (h:∀ (a0:gW) (a1:iW) (a2:Int) (b0:gW) (b1:iW) (b2:Int),bF NI ((a0,a1,a2,()),(b0,b1,b2,()),())→(True)→amu a0 a1 a2 b0 b1 b2 fun r=>r=((decide ((a0,a1,a2,())=(b0,b1,b2,())),()))):aA prog G DN EO:=
 aT env mixed (fn:=f52) (c:=codeOf f52) (by kernel_rfl) (by kernel_rfl) apz (by kernel_rfl) fun ⟨⟨a0,a1,a2,⟨⟩⟩,⟨b0,b1,b2,⟨⟩⟩,⟨⟩⟩ hin hp=>
 Eq.mpr (by kernel_rfl) (h a0 a1 a2 b0 b1 b2 hin hp)
def au5:Hints:=Go.Fw.hints [3,1] [] [] [] []
def asJ (f0:Int) (f1:Int) (f2:Bool) (f3:Int) (f4:iq) (K:Vf×Unit→Prop):Prop:=
 (0:Nat)+f4.length≤big∧K ((f0,f1,f2,f3,f4,()),())
theorem ars (env:EnvB prog G Θ atF) (h:∀ (f0:Int) (f1:Int) (f2:Bool) (f3:Int) (f4:iq),bF QN ((f0,f1,f2,f3,f4,()),())→(Sp.dK (f0,f1,f2,f3,f4,()))→asJ f0 f1 f2 f3 f4 fun r=>r=(((f0,f1,f2,f3,f4,()),()))):aA prog G yH yu:=
 aT env mixed (fn:=f124) (c:=codeOf f124) (by kernel_rfl) (by kernel_rfl) au5 (by kernel_rfl) fun ⟨⟨f0,f1,f2,f3,f4,⟨⟩⟩,⟨⟩⟩ hin hp=>
 Eq.mpr (by kernel_rfl) (h f0 f1 f2 f3 f4 hin hp)
def asK:Hints:=Go.Fw.hints [1] [] [] [] []
def apA (f0:Int) (f1:Int) (f2:Bool) (f3:Int) (f4:iq) (K:Vf×Unit→Prop):Prop:=
 f4.length≤(1000:Nat)∧K ((f0,f1,f2,f3,f4,()),())
theorem aoO (env:EnvB prog G Θ aqo) (h:∀ (f0:Int) (f1:Int) (f2:Bool) (f3:Int) (f4:iq),bF O6 ((f0,f1,f2,f3,f4,()),())→(Sp.dK (f0,f1,f2,f3,f4,()))→apA f0 f1 f2 f3 f4 fun r=>r=(((f0,f1,f2,f3,f4,()),()))):aA prog G oQ oq:=
 aT env mixed (fn:=f108) (c:=codeOf f108) (by kernel_rfl) (by kernel_rfl) asK (by kernel_rfl) fun ⟨⟨f0,f1,f2,f3,f4,⟨⟩⟩,⟨⟩⟩ hin hp=>
 Eq.mpr (by kernel_rfl) (h f0 f1 f2 f3 f4 hin hp)
def awT:Hints:=Go.Fw.hints [] [] [] [] []
def au6 (n:Int) (K:dD→Prop):Prop:=
 True∧
 let r0:=decide ((0:Int)≤n)&&decide (n≤(2:Int));
  K (r0,())
theorem auv (env:EnvB prog G Θ awo) (h:∀ (n:Int),bF UI (n,())→(True)→au6 n fun r=>r=((decide ((0:Int)≤n)&&decide (n≤(2:Int)),()))):aA prog G JW Lh:=
 aT env mixed (fn:=f163) (c:=codeOf f163) (by kernel_rfl) (by kernel_rfl) awT (by kernel_rfl) fun ⟨n,⟨⟩⟩ hin hp=>
 Eq.mpr (by kernel_rfl) (h n hin hp)
def asL:Hints:=Go.Fw.hints [] [(2,⟨[],⟨[(1, .one (.int .i64)),(2, .fM [.sl 155 (.cons .str (.cons (.int .i64) .nil)) false, .sl 56 (.cons (.int .i64) (.cons (.int .i64) (.cons .bool (.cons (.int .i64) (.cons (.sl 94 (.cons .str (.cons (.int .i64) (.cons (.int .i64) (.cons .str .nil))))) .nil))))) false, .int .i64] 0)],[]⟩,⟨[(5, .one (.int .i64))],[]⟩⟩)] [] [] []
def apB (s0:gW) (s1:iW) (s2:Int) (id:Int) (K:iV→Prop):Prop:=
 let s0:=((id,(s0,s1,s2,()),()),());
  ∃ (I:bn→Prop),
  ∃ (μ:bn→Nat),
  I (((0:Int),()),())∧
  ∀ (y1:bn),
  I y1→
  bif decide (y1.1.1<(↑s1.length:Int)) then
  ((0:Int)≤y1.1.1∧y1.1.1<(↑s1.length:Int))∧
  bif (s1.getD (Int.toNat y1.1.1) ((0:Int),(0:Int),false,(0:Int),[],())).1==id then K (y1.1.1,())
  else s0=s0∧I ((i64.wrap (y1.1.1+(1:Int)),()),())∧μ ((i64.wrap (y1.1.1+(1:Int)),()),())<μ y1
  else K ((-1:Int),())
theorem aoQ (env:EnvB prog G Θ aqp) (h:∀ (s0:gW) (s1:iW) (s2:Int) (id:Int),bF O7 ((s0,s1,s2,()),id,())→(True)→apB s0 s1 s2 id fun r=>r=((Sp.place s1 id,()))):aA prog G E8 Gw:=
 aT env mixed (fn:=f123) (c:=codeOf f123) (by kernel_rfl) (by kernel_rfl) asL (by kernel_rfl) fun ⟨⟨s0,s1,s2,⟨⟩⟩,id,⟨⟩⟩ hin hp=>
 Eq.mpr (by kernel_rfl) (h s0 s1 s2 id hin hp)
def Yn:Hints:=Go.Fw.hints [5] [] [] [] []
def WU (s:gW) (K:gW×Unit→Prop):Prop:=
 ∀ (g0:Bool),(g0=true→s.length=(0:Nat))→bif g0 then K ([],()) else (0:Nat)+s.length≤big∧K (s,())
theorem WI (env:EnvB prog G Θ XM) (h:∀ (s:gW),bF AU (s,())→(s.length≤(1000:Nat))→WU s fun r=>r=((s,()))):aA prog G oU rH:=
 aT env mixed (fn:=f143) (c:=codeOf f143) (by kernel_rfl) (by kernel_rfl) Yn (by kernel_rfl) fun ⟨s,⟨⟩⟩ hin hp=>
 Eq.mpr (by kernel_rfl) (h s hin hp)
def ZT:Hints:=Go.Fw.hints [5] [] [] [] []
def Yo (s:iq) (K:iq×Unit→Prop):Prop:=
 ∀ (g0:Bool),(g0=true→s.length=(0:Nat))→bif g0 then K ([],()) else (0:Nat)+s.length≤big∧K (s,())
theorem Ye (env:EnvB prog G Θ Y5) (h:∀ (s:iq),bF BU (s,())→(s.length≤(1000:Nat))→Yo s fun r=>r=((s,()))):aA prog G pK sU:=
 aT env mixed (fn:=f164) (c:=codeOf f164) (by kernel_rfl) (by kernel_rfl) ZT (by kernel_rfl) fun ⟨s,⟨⟩⟩ hin hp=>
 Eq.mpr (by kernel_rfl) (h s hin hp)
def au7:Hints:=Go.Fw.hints [11,53,11,33,53,61,3] [(3,⟨[],⟨[(1, .one (.str)),(3, .dW 192 0),(5, .fM [.int .i64, .int .i64, .str] 0),(6, .dW 384 0)],[(192, .var [.int .i64, .int .i64, .bool, .int .i64, .sl 94 (.cons .str (.cons (.int .i64) (.cons (.int .i64) (.cons .str .nil)))) false]),(384, .var [.int .i64, .int .i64, .bool, .int .i64, .nil])]⟩,⟨[(7, .one (.ref 705)),(8, .one (.int .i64))],[(705, .arr 94 (.cons .str (.cons (.int .i64) (.cons (.int .i64) (.cons .str .nil)))) true)]⟩⟩),(9,⟨[],⟨[(1, .one (.str)),(3, .dW 192 0),(5, .fM [.int .i64, .int .i64, .str] 0),(6, .dW 384 0),(7, .one (.ref 705))],[(192, .var [.int .i64, .int .i64, .bool, .int .i64, .sl 94 (.cons .str (.cons (.int .i64) (.cons (.int .i64) (.cons .str .nil)))) false]),(384, .var [.int .i64, .int .i64, .bool, .int .i64, .nil]),(705, .arr 94 (.cons .str (.cons (.int .i64) (.cons (.int .i64) (.cons .str .nil)))) true)]⟩,⟨[(9, .one (.int .i64))],[]⟩⟩)] [] [] [(11,[.still 705])]
def asM (f0:Int) (f1:Int) (f2:Bool) (f3:Int) (f4:iq) (name:eH) (v0:Int) (v1:Int) (v2:eH) (K:ZQ→Prop):Prop:=
 let s0:=((name,(),(v0,v1,v2,()),(),()),(f0,f1,f2,f3,f4,()),((0:Int),(0:Int),false,(0:Int),(),()),());
  ∃ (I:auX→Prop),
  ∃ (μ:auX→Nat),
  I (((),(0:Int),()),[],())∧
  ∀ (y1:auX),
  I y1→
  bif decide (y1.1.2.1<(↑f4.length:Int)) then
  ((0:Int)≤y1.1.2.1∧y1.1.2.1<(↑f4.length:Int))∧
  bif !(f4.getD (Int.toNat y1.1.2.1) ([],(0:Int),(0:Int),[],())).1==name then
  ((0:Int)≤y1.1.2.1∧y1.1.2.1<(↑f4.length:Int))∧
  List.length y1.2.1+
  [((f4.getD (Int.toNat y1.1.2.1) ([],(0:Int),(0:Int),[],())).1,
  (f4.getD (Int.toNat y1.1.2.1) ([],(0:Int),(0:Int),[],())).2.1,
  (f4.getD (Int.toNat y1.1.2.1) ([],(0:Int),(0:Int),[],())).2.2.1,
  (f4.getD (Int.toNat y1.1.2.1) ([],(0:Int),(0:Int),[],())).2.2.2.1,())].length≤
  big∧
  s0=s0∧
  I
  (((),i64.wrap (y1.1.2.1+(1:Int)),()),
  y1.2.1++
  [((f4.getD (Int.toNat y1.1.2.1) ([],(0:Int),(0:Int),[],())).1,
  (f4.getD (Int.toNat y1.1.2.1) ([],(0:Int),(0:Int),[],())).2.1,
  (f4.getD (Int.toNat y1.1.2.1) ([],(0:Int),(0:Int),[],())).2.2.1,
  (f4.getD (Int.toNat y1.1.2.1) ([],(0:Int),(0:Int),[],())).2.2.2.1,())],
  ())∧
  μ
  (((),i64.wrap (y1.1.2.1+(1:Int)),()),
  y1.2.1++
  [((f4.getD (Int.toNat y1.1.2.1) ([],(0:Int),(0:Int),[],())).1,
  (f4.getD (Int.toNat y1.1.2.1) ([],(0:Int),(0:Int),[],())).2.1,
  (f4.getD (Int.toNat y1.1.2.1) ([],(0:Int),(0:Int),[],())).2.2.1,
  (f4.getD (Int.toNat y1.1.2.1) ([],(0:Int),(0:Int),[],())).2.2.2.1,())],
  ())<
  μ y1
  else
  s0=s0∧
  I (((),i64.wrap (y1.1.2.1+(1:Int)),()),y1.2.1,())∧μ (((),i64.wrap (y1.1.2.1+(1:Int)),()),y1.2.1,())<μ y1
  else
  bif v0 !=(0:Int) then
 let s2:=((name,(),(v0,v1,v2,()),(),(),()),(f0,f1,f2,f3,f4,()),((0:Int),(0:Int),false,(0:Int),(),()),y1.2.1,());
  ∃ (I:bn→Prop),
  ∃ (μ:bn→Nat),
  I (((0:Int),()),())∧
  ∀ (y3:bn),
  I y3→
  bif decide (y3.1.1<(↑(List.length y1.2.1):Int)) then
  ((0:Int)≤y3.1.1∧y3.1.1<(↑(List.length y1.2.1):Int))∧
  Int.toNat y3.1.1<List.length y1.2.1∧
  bif
  Op.bytesLess (List.getD y1.2.1 (Int.toNat y3.1.1) ([],(0:Int),(0:Int),[],())).1 name||
  (List.getD y1.2.1 (Int.toNat y3.1.1) ([],(0:Int),(0:Int),[],())).1==name then
  s2=s2∧I ((i64.wrap (y3.1.1+(1:Int)),()),())∧μ ((i64.wrap (y3.1.1+(1:Int)),()),())<μ y3
  else
  ((0:Int)≤y3.1.1∧y3.1.1≤(↑(List.length y1.2.1):Int))∧
  (0:Nat)+(List.drop (0:Nat) (List.take (Int.toNat y3.1.1) y1.2.1)).length≤big∧
  (List.drop (0:Nat) (List.take (Int.toNat y3.1.1) y1.2.1)).length+[(name,v0,v1,v2,())].length≤big∧
  ((0:Int)≤y3.1.1∧y3.1.1≤(↑(List.length y1.2.1):Int))∧
  (List.drop (0:Nat) (List.take (Int.toNat y3.1.1) y1.2.1)++[(name,v0,v1,v2,())]).length+
  (List.drop (Int.toNat y3.1.1) (List.take (List.length y1.2.1) y1.2.1)).length≤
  big∧
  K
  (((f0,f1,f2,f3,
  List.drop (0:Nat) (List.take (Int.toNat y3.1.1) y1.2.1)++[(name,v0,v1,v2,())]++
  List.drop (Int.toNat y3.1.1) (List.take (List.length y1.2.1) y1.2.1),
  ()),
  ()),
  ())
  else
  ((0:Int)≤y3.1.1∧y3.1.1≤(↑(List.length y1.2.1):Int))∧
  (0:Nat)+(List.drop (0:Nat) (List.take (Int.toNat y3.1.1) y1.2.1)).length≤big∧
  (List.drop (0:Nat) (List.take (Int.toNat y3.1.1) y1.2.1)).length+[(name,v0,v1,v2,())].length≤big∧
  ((0:Int)≤y3.1.1∧y3.1.1≤(↑(List.length y1.2.1):Int))∧
  (List.drop (0:Nat) (List.take (Int.toNat y3.1.1) y1.2.1)++[(name,v0,v1,v2,())]).length+
  (List.drop (Int.toNat y3.1.1) (List.take (List.length y1.2.1) y1.2.1)).length≤
  big∧
  K
  (((f0,f1,f2,f3,
  List.drop (0:Nat) (List.take (Int.toNat y3.1.1) y1.2.1)++[(name,v0,v1,v2,())]++
  List.drop (Int.toNat y3.1.1) (List.take (List.length y1.2.1) y1.2.1),
  ()),
  ()),
  ())
  else K (((f0,f1,f2,f3,y1.2.1,()),()),())
theorem arw (env:EnvB prog G Θ atG) (hne:∀ x,(UJ x).1→∃ t,(UJ x).2 t) (h:∀ (f0:Int) (f1:Int) (f2:Bool) (f3:Int) (f4:iq) (name:eH) (v0:Int) (v1:Int) (v2:eH),dO zY ((f0,f1,f2,f3,f4,()),name,(v0,v1,v2,()),())→(f4.length≤(1000:Nat))→asM f0 f1 f2 f3 f4 name v0 v1 v2 fun (r:ZQ)=>(f4.length≤(1000:Nat),fun (x:ZQ)=>
 x.1.1.1=f0∧x.1.1.2.1=f1∧x.1.1.2.2.1=f2∧x.1.1.2.2.2.1=f3∧x.1.1.2.2.2.2.1=Sp.kH f4 name v0 v1 v2).2
 r):aG prog G Ht Ja:=
 bZ env mixed (fn:=f31) (c:=codeOf f31) (by kernel_rfl) (by kernel_rfl) au7 (by kernel_rfl) hne fun ⟨⟨f0,f1,f2,f3,f4,⟨⟩⟩,name,⟨v0,v1,v2,⟨⟩⟩,⟨⟩⟩ hin hp=>
 Eq.mpr (by kernel_rfl) (h f0 f1 f2 f3 f4 name v0 v1 v2 hin hp)
def au8:Hints:=Go.Fw.hints [8,10,13,15,18,24,26,31,33,40,42,48] [] [(4,⟨[],⟨[(0, .dW 48 0),(4, .dW 256 0),(5, .dW 320 0)],[(256, .var [.int .i64, .int .i64, .bool, .int .i64, .nil])]⟩,⟨[],[(48, .var [.sl 5 (.cons (.int .u8) .nil) false, .int .i64, .int .i64]),(320, .var [.int .i64, .int .i64, .bool, .int .i64, .nil])]⟩⟩),(6,⟨[(.obj 320 4,357,94,(.cons .str (.cons (.int .i64) (.cons (.int .i64) (.cons .str .nil)))),true)],⟨[(0, .dW 48 0),(4, .dW 256 0),(5, .dW 320 0)],[(256, .var [.int .i64, .int .i64, .bool, .int .i64, .nil])]⟩,⟨[],[(48, .var [.sl 5 (.cons (.int .u8) .nil) false, .int .i64, .int .i64]),(320, .var [.int .i64, .int .i64, .bool, .int .i64, .ref 357]),(357, .arr 94 (.cons .str (.cons (.int .i64) (.cons (.int .i64) (.cons .str .nil)))) true)]⟩⟩),(8,⟨[(.obj 320 4,357,94,(.cons .str (.cons (.int .i64) (.cons (.int .i64) (.cons .str .nil)))),true)],⟨[(0, .dW 48 0),(4, .dW 256 0),(5, .dW 320 0)],[(256, .var [.int .i64, .int .i64, .bool, .int .i64, .nil])]⟩,⟨[],[(48, .var [.sl 5 (.cons (.int .u8) .nil) false, .int .i64, .int .i64]),(320, .var [.int .i64, .int .i64, .bool, .int .i64, .ref 357]),(357, .arr 94 (.cons .str (.cons (.int .i64) (.cons (.int .i64) (.cons .str .nil)))) true)]⟩⟩),(10,⟨[(.obj 320 4,357,94,(.cons .str (.cons (.int .i64) (.cons (.int .i64) (.cons .str .nil)))),true)],⟨[(0, .dW 48 0),(4, .dW 256 0),(5, .dW 320 0)],[(256, .var [.int .i64, .int .i64, .bool, .int .i64, .nil])]⟩,⟨[],[(48, .var [.sl 5 (.cons (.int .u8) .nil) false, .int .i64, .int .i64]),(320, .var [.int .i64, .int .i64, .bool, .int .i64, .ref 357]),(357, .arr 94 (.cons .str (.cons (.int .i64) (.cons (.int .i64) (.cons .str .nil)))) true)]⟩⟩),(12,⟨[(.obj 320 4,357,94,(.cons .str (.cons (.int .i64) (.cons (.int .i64) (.cons .str .nil)))),true)],⟨[(4, .dW 256 0),(5, .dW 320 0)],[(256, .var [.int .i64, .int .i64, .bool, .int .i64, .nil])]⟩,⟨[],[(48, .var [.sl 5 (.cons (.int .u8) .nil) false, .int .i64, .int .i64]),(320, .var [.int .i64, .int .i64, .bool, .int .i64, .ref 357]),(357, .arr 94 (.cons .str (.cons (.int .i64) (.cons (.int .i64) (.cons .str .nil)))) true)]⟩⟩)] [48] []
def asN (c0:bV) (c1:Int) (c2:Int) (id:Int) (K:(Vf×Unit)×xu→Prop):Prop:=
 (0:Int)≤c1∧
 ∀ (r0:oZ),
 (0:Int)≤r0.2.1.2.1∧(0:Int)≤r0.1.1∧((0:Int)<(3:Int)→r0.1.1<(3:Int))∧((3:Int)≤(0:Int)→r0.1.1=(0:Int))→
 (0:Int)≤r0.2.1.2.1∧
 ∀ (r1:dD×xu),
 (r1.2.1.2.1-(0:Int)).NonNeg→
 let s2:=(((),(),(),()),((0:Int),(0:Int),false,(0:Int),(),()),());
  ∃ (J:Unit×Ol×aCF×Unit→Prop),
  ((0:Int)≤r1.2.1.2.1∧
  ∀ (r3:dD×xu),
  (r3.2.1.2.1-(0:Int)).NonNeg→
  bif r3.1.1 then
  (0:Int)≤r3.2.1.2.1∧
  ∀ (r4:oZ),
  (0:Int)≤r4.2.1.2.1∧(0:Int)≤r4.1.1∧((0:Int)<(7:Int)→r4.1.1<(7:Int))∧((7:Int)≤(0:Int)→r4.1.1=(0:Int))→
  s2=s2∧J ((),(r4.2.1.1,r4.2.1.2.1,r4.2.1.2.2.1,()),(id,r0.1.1,r1.1.1,r4.1.1,(),()),())
  else s2=s2∧J ((),(r3.2.1.1,r3.2.1.2.1,r3.2.1.2.2.1,()),(id,r0.1.1,r1.1.1,(0:Int),(),()),()))∧
  ∀ (y5:Unit×Ol×aCF×Unit),
  J y5→
 let s6:=(((),(),(),()),((0:Int),(0:Int),false,(0:Int),(),()),());
  ∃ (J:
  aj9→Prop),
  ((0:Int)≤y5.2.1.2.1∧
  ∀ (r7:dD×xu),
  (r7.2.1.2.1-(0:Int)).NonNeg→
  bif !r7.1.1 then
  (0:Int)≤r7.2.1.2.1∧
  ∀ (r8:oZ),
  (0:Int)≤r8.2.1.2.1∧
  (0:Int)≤r8.1.1∧((0:Int)<(4:Int)→r8.1.1<(4:Int))∧((4:Int)≤(0:Int)→r8.1.1=(0:Int))→
  True∧
 let r9:=r8.1.1;
  (0:Nat)≤(1000:Nat)∧
  ∀ (r10:ZQ),
  r10.1.1.1=y5.2.2.1.1∧
  r10.1.1.2.1=y5.2.2.1.2.1∧
  r10.1.1.2.2.1=y5.2.2.1.2.2.1∧
  r10.1.1.2.2.2.1=y5.2.2.1.2.2.2.1∧r10.1.1.2.2.2.2.1=Sp.kH [] [(97:UInt8)] (1:Int) r9 []→
  s6=s6∧
  J
  ((),(r8.2.1.1,r8.2.1.2.1,r8.2.1.2.2.1,()),
  (r10.1.1.1,r10.1.1.2.1,r10.1.1.2.2.1,r10.1.1.2.2.2.1,(),()),
  r10.1.1.2.2.2.2.1,())
  else
  s6=s6∧
  J
  ((),(r7.2.1.1,r7.2.1.2.1,r7.2.1.2.2.1,()),
  (y5.2.2.1.1,y5.2.2.1.2.1,y5.2.2.1.2.2.1,y5.2.2.1.2.2.2.1,(),()),[],()))∧
  ∀ (y11:aj9),
  J y11→
 let s12:=(((),(),(),()),((0:Int),(0:Int),false,(0:Int),(),()),());
  ∃ (J:
  aj9→
  Prop),
  ((0:Int)≤y11.2.1.2.1∧
  ∀ (r13:dD×xu),
  (r13.2.1.2.1-(0:Int)).NonNeg→
  bif r13.1.1 then
  (0:Int)≤r13.2.1.2.1∧
  ∀ (TJ:oZ),
  (0:Int)≤TJ.2.1.2.1∧
  (0:Int)≤TJ.1.1∧((0:Int)<(4:Int)→TJ.1.1<(4:Int))∧((4:Int)≤(0:Int)→TJ.1.1=(0:Int))→
  True∧
 let r15:=TJ.1.1;
  List.length y11.2.2.2.1≤(1000:Nat)∧
  ∀ (r16:ZQ),
  r16.1.1.1=y11.2.2.1.1∧
  r16.1.1.2.1=y11.2.2.1.2.1∧
  r16.1.1.2.2.1=y11.2.2.1.2.2.1∧
  r16.1.1.2.2.2.1=y11.2.2.1.2.2.2.1∧
  r16.1.1.2.2.2.2.1=Sp.kH y11.2.2.2.1 [(98:UInt8)] (1:Int) r15 []→
  s12=s12∧
  J
  ((),(TJ.2.1.1,TJ.2.1.2.1,TJ.2.1.2.2.1,()),
  (r16.1.1.1,r16.1.1.2.1,r16.1.1.2.2.1,r16.1.1.2.2.2.1,(),()),
  r16.1.1.2.2.2.2.1,())
  else
  s12=s12∧
  J
  ((),(r13.2.1.1,r13.2.1.2.1,r13.2.1.2.2.1,()),
  (y11.2.2.1.1,y11.2.2.1.2.1,y11.2.2.1.2.2.1,y11.2.2.1.2.2.2.1,(),()),
  y11.2.2.2.1,()))∧
  ∀
  (y17:
  aj9),
  J y17→
 let s18:=(((),(),(),()),((0:Int),(0:Int),false,(0:Int),(),()),());
  ∃ (J:
  aj9→
  Prop),
  ((0:Int)≤y17.2.1.2.1∧
  ∀ (r19:dD×xu),
  (r19.2.1.2.1-(0:Int)).NonNeg→
  bif !r19.1.1 then
  ((0:Int)≤r19.2.1.2.1∧
  [([(105:UInt8),110,107],()),([(115:UInt8),101,97],())]≠[])∧
  ∀ (r20:Oo),
  (0:Int)≤r20.2.1.2.1∧
  (r20.1.1,())∈
  [([(105:UInt8),110,107],()),([(115:UInt8),101,97],())]→
  True∧
 let r21:=r20.1.1;
  List.length y17.2.2.2.1≤(1000:Nat)∧
  ∀ (r22:ZQ),
  r22.1.1.1=y17.2.2.1.1∧
  r22.1.1.2.1=y17.2.2.1.2.1∧
  r22.1.1.2.2.1=y17.2.2.1.2.2.1∧
  r22.1.1.2.2.2.1=y17.2.2.1.2.2.2.1∧
  r22.1.1.2.2.2.2.1=Sp.kH y17.2.2.2.1 [(110:UInt8)] (2:Int) (0:Int) r21→
  s18=s18∧
  J
  ((),(r20.2.1.1,r20.2.1.2.1,r20.2.1.2.2.1,()),
  (r22.1.1.1,r22.1.1.2.1,r22.1.1.2.2.1,r22.1.1.2.2.2.1,(),()),
  r22.1.1.2.2.2.2.1,())
  else
  s18=s18∧
  J
  ((),(r19.2.1.1,r19.2.1.2.1,r19.2.1.2.2.1,()),
  (y17.2.2.1.1,y17.2.2.1.2.1,y17.2.2.1.2.2.1,y17.2.2.1.2.2.2.1,(),()),
  y17.2.2.2.1,()))∧
  ∀
  (y23:
  aj9),
  J y23→
 let s24:=(((),(),()),((0:Int),(0:Int),false,(0:Int),(),()),());
  ∃ (J:
  aj9→
  Prop),
  ((0:Int)≤y23.2.1.2.1∧
  ∀ (r25:dD×xu),
  (r25.2.1.2.1-(0:Int)).NonNeg→
  bif r25.1.1 then
  ((0:Int)≤r25.2.1.2.1∧
  [([(114:UInt8),101,100],()),
  ([(98:UInt8),108,117,101],())]≠
  [])∧
  ∀ (r26:Oo),
  (0:Int)≤r26.2.1.2.1∧
  (r26.1.1,())∈
  [([(114:UInt8),101,100],()),
  ([(98:UInt8),108,117,101],())]→
  True∧
 let r27:=r26.1.1;
  List.length y23.2.2.2.1≤(1000:Nat)∧
  ∀ (r28:ZQ),
  r28.1.1.1=y23.2.2.1.1∧
  r28.1.1.2.1=y23.2.2.1.2.1∧
  r28.1.1.2.2.1=y23.2.2.1.2.2.1∧
  r28.1.1.2.2.2.1=y23.2.2.1.2.2.2.1∧
  r28.1.1.2.2.2.2.1=Sp.kH y23.2.2.2.1 [(116:UInt8)] (2:Int) (0:Int) r27→
  s24=s24∧
  J
  ((),(r26.2.1.1,r26.2.1.2.1,r26.2.1.2.2.1,()),
  (r28.1.1.1,r28.1.1.2.1,r28.1.1.2.2.1,r28.1.1.2.2.2.1,(),()),
  r28.1.1.2.2.2.2.1,())
  else
  s24=s24∧
  J
  ((),(r25.2.1.1,r25.2.1.2.1,r25.2.1.2.2.1,()),
  (y23.2.2.1.1,y23.2.2.1.2.1,y23.2.2.1.2.2.1,y23.2.2.1.2.2.2.1,(),()),
  y23.2.2.2.1,()))∧
  ∀
  (y29:
  aj9),
  J y29→
  K
  (((y29.2.2.1.1,y29.2.2.1.2.1,y29.2.2.1.2.2.1,y29.2.2.1.2.2.2.1,
  y29.2.2.2.1,()),
  ()),
  (y29.2.1.1,y29.2.1.2.1,y29.2.1.2.2.1,()),())
theorem arE (env:EnvB prog G Θ atH) (hne:∀ x,(UK x).1→∃ t,(UK x).2 t) (h:∀ (c0:bV) (c1:Int) (c2:Int) (id:Int),dO zZ ((c0,c1,c2,()),id,())→((0:Int)≤c1)→asN c0 c1 c2 id fun (r:(Vf×Unit)×xu)=>((0:Int)≤c1,fun (x:(Vf×Unit)×xu)=>
 (0:Int)≤x.2.1.2.1∧
 x.1.1.1=id∧
 (0:Int)≤x.1.1.2.1∧
 x.1.1.2.1≤(2:Int)∧
 (0:Int)≤x.1.1.2.2.2.1∧x.1.1.2.2.2.1≤(6:Int)∧Sp.lQ Sp.usual x.1.1.2.2.2.2.1=true∧x.1.1.2.2.2.2.1.length≤(4:Nat)).2
 r):aG prog G Hu Jb:=
 bZ env mixed (fn:=f138) (c:=codeOf f138) (by kernel_rfl) (by kernel_rfl) au8 (by kernel_rfl) hne fun ⟨⟨c0,c1,c2,⟨⟩⟩,id,⟨⟩⟩ hin hp=>
 Eq.mpr (by kernel_rfl) (h c0 c1 c2 id hin hp)
def asO:Hints:=Go.Fw.hints [3,3] [] [] [] []
def apC (s:gW) (K:Om→Prop):Prop:=
 (0:Nat)+s.length≤big∧K (((s,[],(1:Int),()),()),())
theorem aoS (env:EnvB prog G Θ aqr) (hne:∀ x,(QO x).1→∃ t,(QO x).2 t) (h:∀ (s:gW),dO yw (s,())→(s.length≤(1000:Nat))→apC s fun (r:Om)=>(s.length≤(1000:Nat),
 fun (x:Om)=>
 x.1.1.1=s∧x.1.1.2.1=[]∧x.1.1.2.2.1=(1:Int)).2
 r):aG prog G Fa Gx:=
 bZ env mixed (fn:=f157) (c:=codeOf f157) (by kernel_rfl) (by kernel_rfl) asO (by kernel_rfl) hne fun ⟨s,⟨⟩⟩ hin hp=>
 Eq.mpr (by kernel_rfl) (h s hin hp)
def au9:Hints:=Go.Fw.hints [5,5,26,27] [(3,⟨[(.obj 192 1,226,56,(.cons (.int .i64) (.cons (.int .i64) (.cons .bool (.cons (.int .i64) (.cons (.sl 94 (.cons .str (.cons (.int .i64) (.cons (.int .i64) (.cons .str .nil))))) .nil))))),true)],⟨[(1, .fM [.sl 155 (.cons .str (.cons (.int .i64) .nil)) false, .sl 56 (.cons (.int .i64) (.cons (.int .i64) (.cons .bool (.cons (.int .i64) (.cons (.sl 94 (.cons .str (.cons (.int .i64) (.cons (.int .i64) (.cons .str .nil))))) .nil))))) false, .int .i64] 0),(2, .dW 128 0),(3, .dW 192 0)],[(128, .var [.nil, .nil, .int .i64]),(513, .arr 155 (.cons .str (.cons (.int .i64) .nil)) true)]⟩,⟨[(4, .one (.int .i64))],[(192, .var [.ref 513, .ref 226, .int .i64]),(226, .arr 56 (.cons (.int .i64) (.cons (.int .i64) (.cons .bool (.cons (.int .i64) (.cons (.sl 94 (.cons .str (.cons (.int .i64) (.cons (.int .i64) (.cons .str .nil))))) .nil))))) true)]⟩⟩)] [] [] []
def asP (s0:gW) (s1:iW) (s2:Int) (K:Om→Prop):Prop:=
 (0:Nat)+s0.length≤big∧
 let WT:=(((s0,s1,s2,()),(),(),()),((),(),(0:Int),()),s0,());
  ∃ (I:iV×(Unit×rF)×iW×Unit→Prop),
  ∃ (μ:iV×(Unit×rF)×iW×Unit→Nat),
  I (((0:Int),()),((),(),s2,()),[],())∧
  ∀ (y1:iV×(Unit×rF)×iW×Unit),
  I y1→
  bif decide (y1.1.1<(↑s1.length:Int)) then
  ((0:Int)≤y1.1.1∧y1.1.1<(↑s1.length:Int))∧
  Sp.dK
  ((s1.getD (Int.toNat y1.1.1) ((0:Int),(0:Int),false,(0:Int),[],())).1,
  (s1.getD (Int.toNat y1.1.1) ((0:Int),(0:Int),false,(0:Int),[],())).2.1,
  (s1.getD (Int.toNat y1.1.1) ((0:Int),(0:Int),false,(0:Int),[],())).2.2.1,
  (s1.getD (Int.toNat y1.1.1) ((0:Int),(0:Int),false,(0:Int),[],())).2.2.2.1,
  (s1.getD (Int.toNat y1.1.1) ((0:Int),(0:Int),false,(0:Int),[],())).2.2.2.2.1,())∧
 let r2:=(s1.getD (Int.toNat y1.1.1) ((0:Int),(0:Int),false,(0:Int),[],())).1;
 let r3:=(s1.getD (Int.toNat y1.1.1) ((0:Int),(0:Int),false,(0:Int),[],())).2.1;
 let r4:=(s1.getD (Int.toNat y1.1.1) ((0:Int),(0:Int),false,(0:Int),[],())).2.2.1;
 let r5:=(s1.getD (Int.toNat y1.1.1) ((0:Int),(0:Int),false,(0:Int),[],())).2.2.2.1;
 let r6:=(s1.getD (Int.toNat y1.1.1) ((0:Int),(0:Int),false,(0:Int),[],())).2.2.2.2.1;
  List.length y1.2.2.1+[(r2,r3,r4,r5,r6,())].length≤big∧
  WT=WT∧
  I ((i64.wrap (y1.1.1+(1:Int)),()),((),(),y1.2.1.2.2.1,()),y1.2.2.1++[(r2,r3,r4,r5,r6,())],())∧
  μ ((i64.wrap (y1.1.1+(1:Int)),()),((),(),y1.2.1.2.2.1,()),y1.2.2.1++[(r2,r3,r4,r5,r6,())],())<μ y1
  else K (((s0,y1.2.2.1,y1.2.1.2.2.1,()),()),())
theorem arx (env:EnvB prog G Θ atI) (hne:∀ x,(UL x).1→∃ t,(UL x).2 t) (h:∀ (s0:gW) (s1:iW) (s2:Int),dO mF ((s0,s1,s2,()),())→(Sp.bQ (s0,s1,s2,()))→asP s0 s1 s2 fun (r:Om)=>(Sp.bQ (s0,s1,s2,()),
 fun (x:Om)=>
 (x.1.1.1,x.1.1.2.1,x.1.1.2.2.1,())=(s0,s1,s2,())).2
 r):aG prog G qM pz:=
 bZ env mixed (fn:=f89) (c:=codeOf f89) (by kernel_rfl) (by kernel_rfl) au9 (by kernel_rfl) hne fun ⟨⟨s0,s1,s2,⟨⟩⟩,⟨⟩⟩ hin hp=>
 Eq.mpr (by kernel_rfl) (h s0 s1 s2 hin hp)
def amv:Hints:=Go.Fw.hints [8,8,10,15,27,34,2,3] [] [] [256] []
def akh (s0:gW) (s1:iW) (s2:Int) (f0:Int) (f1:Int) (f2:Bool) (f3:Int) (f4:iq) (K:aAQ→Prop):Prop:=
 Sp.bQ (s0,s1,s2,())∧
 ∀ (r0:Om),
 (r0.1.1.1,r0.1.1.2.1,r0.1.1.2.2.1,())=(s0,s1,s2,())→
 Sp.dK (f0,f1,f2,f3,f4,())∧
 True∧
 let r1:=Sp.aN (r0.1.1.1,r0.1.1.2.1,r0.1.1.2.2.1,());
  bif !r1 then K (((r0.1.1.1,r0.1.1.2.1,r0.1.1.2.2.1,()),(0:Int),false,()),())
  else
  bif decide ((↑(List.length r0.1.1.2.1):Int)≥(12:Int)) then
  K (((r0.1.1.1,r0.1.1.2.1,r0.1.1.2.2.1,()),(0:Int),false,()),())
  else
  True∧
 let r2:=Sp.dA r0.1.1.1 (r0.1.1.2.2.1,f1,f2,f3,f4,());
  bif !r2 then K (((r0.1.1.1,r0.1.1.2.1,r0.1.1.2.2.1,()),(0:Int),false,()),())
  else
  List.length r0.1.1.2.1+[(r0.1.1.2.2.1,f1,f2,f3,f4,())].length≤big∧
  K
  (((r0.1.1.1,r0.1.1.2.1++[(r0.1.1.2.2.1,f1,f2,f3,f4,())],i64.wrap (r0.1.1.2.2.1+(1:Int)),()),
  r0.1.1.2.2.1,true,()),
  ())
theorem ajk (env:EnvB prog G Θ ali) (hne:∀ x,(NJ x).1→∃ t,(NJ x).2 t) (h:∀ (s0:gW) (s1:iW) (s2:Int) (f0:Int) (f1:Int) (f2:Bool) (f3:Int) (f4:iq),dO uq ((s0,s1,s2,()),(f0,f1,f2,f3,f4,()),())→(Sp.bQ (s0,s1,s2,())∧Sp.dK (f0,f1,f2,f3,f4,()))→akh s0 s1 s2 f0 f1 f2 f3 f4 fun (r:aAQ)=>(Sp.bQ (s0,s1,s2,())∧Sp.dK (f0,f1,f2,f3,f4,()),
 fun
 (x:
 aAQ)=>
 x.1.1.1=(Sp.dV (s0,s1,s2,()) (f0,f1,f2,f3,f4,())).1.1∧
 x.1.1.2.1=(Sp.dV (s0,s1,s2,()) (f0,f1,f2,f3,f4,())).1.2.1∧
 x.1.1.2.2.1=(Sp.dV (s0,s1,s2,()) (f0,f1,f2,f3,f4,())).1.2.2.1∧
 x.1.2.1=(Sp.dV (s0,s1,s2,()) (f0,f1,f2,f3,f4,())).2.1∧x.1.2.2.1=(Sp.dV (s0,s1,s2,()) (f0,f1,f2,f3,f4,())).2.2).2
 r):aG prog G Bv D6:=
 bZ env mixed (fn:=f137) (c:=codeOf f137) (by kernel_rfl) (by kernel_rfl) amv (by kernel_rfl) hne fun ⟨⟨s0,s1,s2,⟨⟩⟩,⟨f0,f1,f2,f3,f4,⟨⟩⟩,⟨⟩⟩ hin hp=>
 Eq.mpr (by kernel_rfl) (h s0 s1 s2 f0 f1 f2 f3 f4 hin hp)
def amw:Hints:=Go.Fw.hints [20,8,11,13,20,2] [] [] [] [(5,[.still 514])]
def aki (s0:gW) (s1:iW) (s2:Int) (id:Int) (K:akb→Prop):Prop:=
 Sp.bQ (s0,s1,s2,())∧
 ∀ (r0:Om),
 (r0.1.1.1,r0.1.1.2.1,r0.1.1.2.2.1,())=(s0,s1,s2,())→
 True∧
 let r1:=Sp.place r0.1.1.2.1 id;
  True∧
 let r2:=Sp.aN (r0.1.1.1,r0.1.1.2.1,r0.1.1.2.2.1,());
  bif !r2 then K (((r0.1.1.1,r0.1.1.2.1,r0.1.1.2.2.1,()),false,()),())
  else
  bif decide (r1<(0:Int)) then K (((r0.1.1.1,r0.1.1.2.1,r0.1.1.2.2.1,()),false,()),())
  else
  ((0:Int)≤r1∧r1≤(↑(List.length r0.1.1.2.1):Int))∧
  (0:Nat)+(List.drop (0:Nat) (List.take r1.toNat r0.1.1.2.1)).length≤big∧
  ((0:Int)≤i64.wrap (r1+(1:Int))∧i64.wrap (r1+(1:Int))≤(↑(List.length r0.1.1.2.1):Int))∧
  (List.drop (0:Nat) (List.take r1.toNat r0.1.1.2.1)).length+
  (List.drop (i64.wrap (r1+(1:Int))).toNat (List.take (List.length r0.1.1.2.1) r0.1.1.2.1)).length≤
  big∧
  K
  (((r0.1.1.1,
  List.drop (0:Nat) (List.take r1.toNat r0.1.1.2.1)++
  List.drop (i64.wrap (r1+(1:Int))).toNat (List.take (List.length r0.1.1.2.1) r0.1.1.2.1),
  r0.1.1.2.2.1,()),
  true,()),
  ())
theorem ajm (env:EnvB prog G Θ alj) (hne:∀ x,(NK x).1→∃ t,(NK x).2 t) (h:∀ (s0:gW) (s1:iW) (s2:Int) (id:Int),dO uw ((s0,s1,s2,()),id,())→(Sp.bQ (s0,s1,s2,()))→aki s0 s1 s2 id fun (r:akb)=>(Sp.bQ (s0,s1,s2,()),
 fun (x:akb)=>
 x.1.1.1=(Sp.fJ (s0,s1,s2,()) id).1.1∧
 x.1.1.2.1=(Sp.fJ (s0,s1,s2,()) id).1.2.1∧
 x.1.1.2.2.1=(Sp.fJ (s0,s1,s2,()) id).1.2.2.1∧x.1.2.1=(Sp.fJ (s0,s1,s2,()) id).2).2
 r):aG prog G Bq D7:=
 bZ env mixed (fn:=f159) (c:=codeOf f159) (by kernel_rfl) (by kernel_rfl) amw (by kernel_rfl) hne fun ⟨⟨s0,s1,s2,⟨⟩⟩,id,⟨⟩⟩ hin hp=>
 Eq.mpr (by kernel_rfl) (h s0 s1 s2 id hin hp)
def asQ:Hints:=Go.Fw.hints [6,9,18,28,37] [(3,⟨[(.obj 192 0,225,155,(.cons .str (.cons (.int .i64) .nil)),true),(.obj 192 1,226,56,(.cons (.int .i64) (.cons (.int .i64) (.cons .bool (.cons (.int .i64) (.cons (.sl 94 (.cons .str (.cons (.int .i64) (.cons (.int .i64) (.cons .str .nil))))) .nil))))),true)],⟨[(0, .dW 48 0),(2, .dW 128 0),(3, .dW 192 0)],[(128, .var [.nil, .nil, .int .i64])]⟩,⟨[(4, .one (.int .i64))],[(48, .var [.sl 5 (.cons (.int .u8) .nil) false, .int .i64, .int .i64]),(192, .var [.ref 225, .ref 226, .int .i64]),(225, .arr 155 (.cons .str (.cons (.int .i64) .nil)) true),(226, .arr 56 (.cons (.int .i64) (.cons (.int .i64) (.cons .bool (.cons (.int .i64) (.cons (.sl 94 (.cons .str (.cons (.int .i64) (.cons (.int .i64) (.cons .str .nil))))) .nil))))) true)]⟩⟩)] [] [48] []
def apD (c0:bV) (c1:Int) (c2:Int) (K:aAR→Prop):Prop:=
 True∧
 ∀ (r0:(gW×Unit)×Unit),
 r0.1.1=Sp.usual→
 List.length r0.1.1≤(1000:Nat)∧
 ∀ (r1:Om),
 r1.1.1.1=r0.1.1∧r1.1.1.2.1=[]∧r1.1.1.2.2.1=(1:Int)→
 let s2:=(((),(),(),()),((),(),(0:Int),()),());
  ∃ (I:
  aCG→
  Prop),
  ∃ (μ:
  aCG→
  Nat),
  I (((0:Int),()),(c0,c1,c2,()),((),(),r1.1.1.2.2.1,()),r1.1.1.1,r1.1.1.2.1,())∧
  ∀
  (y3:
  aCG),
  I y3→
  (0:Int)≤y3.2.1.2.1∧
  ∀ (r4:oZ),
  (0:Int)≤r4.2.1.2.1∧(0:Int)≤r4.1.1∧((0:Int)<(7:Int)→r4.1.1<(7:Int))∧((7:Int)≤(0:Int)→r4.1.1=(0:Int))→
  bif decide (y3.1.1<i64.wrap ((1:Int)+r4.1.1)) then
  (0:Int)≤r4.2.1.2.1∧
  ∀
  (r5:
  (Vf×Unit)×xu),
  (0:Int)≤r5.2.1.2.1∧
  r5.1.1.1=(1:Int)∧
  (0:Int)≤r5.1.1.2.1∧
  r5.1.1.2.1≤(2:Int)∧
  (0:Int)≤r5.1.1.2.2.2.1∧
  r5.1.1.2.2.2.1≤(6:Int)∧Sp.lQ Sp.usual r5.1.1.2.2.2.2.1=true∧r5.1.1.2.2.2.2.1.length≤(4:Nat)→
  (Sp.bQ (y3.2.2.2.1,y3.2.2.2.2.1,y3.2.2.1.2.2.1,())∧
  Sp.dK (r5.1.1.1,r5.1.1.2.1,r5.1.1.2.2.1,r5.1.1.2.2.2.1,r5.1.1.2.2.2.2.1,()))∧
  ∀
  (r6:
  aAQ),
  r6.1.1.1=
  (Sp.dV (y3.2.2.2.1,y3.2.2.2.2.1,y3.2.2.1.2.2.1,())
  (r5.1.1.1,r5.1.1.2.1,r5.1.1.2.2.1,r5.1.1.2.2.2.1,r5.1.1.2.2.2.2.1,
  ())).1.1∧
  r6.1.1.2.1=
  (Sp.dV (y3.2.2.2.1,y3.2.2.2.2.1,y3.2.2.1.2.2.1,())
  (r5.1.1.1,r5.1.1.2.1,r5.1.1.2.2.1,r5.1.1.2.2.2.1,r5.1.1.2.2.2.2.1,
  ())).1.2.1∧
  r6.1.1.2.2.1=
  (Sp.dV (y3.2.2.2.1,y3.2.2.2.2.1,y3.2.2.1.2.2.1,())
  (r5.1.1.1,r5.1.1.2.1,r5.1.1.2.2.1,r5.1.1.2.2.2.1,r5.1.1.2.2.2.2.1,
  ())).1.2.2.1∧
  r6.1.2.1=
  (Sp.dV (y3.2.2.2.1,y3.2.2.2.2.1,y3.2.2.1.2.2.1,())
  (r5.1.1.1,r5.1.1.2.1,r5.1.1.2.2.1,r5.1.1.2.2.2.1,r5.1.1.2.2.2.2.1,
  ())).2.1∧
  r6.1.2.2.1=
  (Sp.dV (y3.2.2.2.1,y3.2.2.2.2.1,y3.2.2.1.2.2.1,())
  (r5.1.1.1,r5.1.1.2.1,r5.1.1.2.2.1,r5.1.1.2.2.2.1,r5.1.1.2.2.2.2.1,
  ())).2.2→
  s2=s2∧
  I
  ((i64.wrap (y3.1.1+(1:Int)),()),(r5.2.1.1,r5.2.1.2.1,r5.2.1.2.2.1,()),
  ((),(),r6.1.1.2.2.1,()),r6.1.1.1,r6.1.1.2.1,())∧
  μ
  ((i64.wrap (y3.1.1+(1:Int)),()),(r5.2.1.1,r5.2.1.2.1,r5.2.1.2.2.1,()),
  ((),(),r6.1.1.2.2.1,()),r6.1.1.1,r6.1.1.2.1,())<
  μ y3
  else
  bif decide ((↑(List.length y3.2.2.2.2.1):Int)>(2:Int)) then
  (0:Int)≤r4.2.1.2.1∧
  ∀ (r7:dD×xu),
  (r7.2.1.2.1-(0:Int)).NonNeg→
  bif r7.1.1 then
  ((0:Int)≤(1:Int)∧(1:Int)<(↑(List.length y3.2.2.2.2.1):Int))∧
  Int.toNat (1:Int)<List.length y3.2.2.2.2.1∧
  Sp.bQ (y3.2.2.2.1,y3.2.2.2.2.1,y3.2.2.1.2.2.1,())∧
  ∀
  (r8:
  akb),
  r8.1.1.1=
  (Sp.fJ (y3.2.2.2.1,y3.2.2.2.2.1,y3.2.2.1.2.2.1,())
  (List.getD y3.2.2.2.2.1 (Int.toNat (1:Int)) ((0:Int),(0:Int),false,(0:Int),[],())).1).1.1∧
  r8.1.1.2.1=
  (Sp.fJ (y3.2.2.2.1,y3.2.2.2.2.1,y3.2.2.1.2.2.1,())
  (List.getD y3.2.2.2.2.1 (Int.toNat (1:Int))
  ((0:Int),(0:Int),false,(0:Int),[],())).1).1.2.1∧
  r8.1.1.2.2.1=
  (Sp.fJ (y3.2.2.2.1,y3.2.2.2.2.1,y3.2.2.1.2.2.1,())
  (List.getD y3.2.2.2.2.1 (Int.toNat (1:Int))
  ((0:Int),(0:Int),false,(0:Int),[],())).1).1.2.2.1∧
  r8.1.2.1=
  (Sp.fJ (y3.2.2.2.1,y3.2.2.2.2.1,y3.2.2.1.2.2.1,())
  (List.getD y3.2.2.2.2.1 (Int.toNat (1:Int)) ((0:Int),(0:Int),false,(0:Int),[],())).1).2→
  K
  (((r8.1.1.1,r8.1.1.2.1,r8.1.1.2.2.1,()),()),
  (r7.2.1.1,r7.2.1.2.1,r7.2.1.2.2.1,()),())
  else
  K
  (((y3.2.2.2.1,y3.2.2.2.2.1,y3.2.2.1.2.2.1,()),()),
  (r7.2.1.1,r7.2.1.2.1,r7.2.1.2.2.1,()),())
  else
  K
  (((y3.2.2.2.1,y3.2.2.2.2.1,y3.2.2.1.2.2.1,()),()),
  (r4.2.1.1,r4.2.1.2.1,r4.2.1.2.2.1,()),())
theorem aoV (env:EnvB prog G Θ aqs) (hne:∀ x,(QS x).1→∃ t,(QS x).2 t) (h:∀ (c0:bV) (c1:Int) (c2:Int),dO yx ((c0,c1,c2,()),())→((0:Int)≤c1)→apD c0 c1 c2 fun (r:aAR)=>((0:Int)≤c1,
 fun
 (x:
 aAR)=>
 (0:Int)≤x.2.1.2.1∧
 x.1.1.1=Sp.usual∧
 Sp.aN (x.1.1.1,x.1.1.2.1,x.1.1.2.2.1,())=true∧
 x.1.1.2.2.1≤(↑x.1.1.2.1.length:Int)+(2:Int)∧Sp.bQ (x.1.1.1,x.1.1.2.1,x.1.1.2.2.1,())∧(0:Nat)<x.1.1.2.1.length).2
 r):aG prog G Fz Gy:=
 bZ env mixed (fn:=f103) (c:=codeOf f103) (by kernel_rfl) (by kernel_rfl) asQ (by kernel_rfl) hne fun ⟨⟨c0,c1,c2,⟨⟩⟩,⟨⟩⟩ hin hp=>
 Eq.mpr (by kernel_rfl) (h c0 c1 c2 hin hp)
def aAS:Hints:=Go.Fw.hints [] [] [] [] []
def ay8 (code:bV) (K:dD→Prop):Prop:=
 K (decide ((↑code.length:Int)>(1048576:Int)),())
theorem ayX (env:EnvB prog G Θ azN) (h:∀ (code:bV),bF aa8 (code,())→(True)→ay8 code fun r=>r=((decide ((1048576:Int)<(↑code.length:Int)),()))):aA prog G RV QT:=
 aT env mixed (fn:=f7) (c:=codeOf f7) (by kernel_rfl) (by kernel_rfl) aAS (by kernel_rfl) fun ⟨code,⟨⟩⟩ hin hp=>
 Eq.mpr (by kernel_rfl) (h code hin hp)
def apE:Hints:=Go.Fw.hints [6,6,15,16] [(3,⟨[(.slot 3 0,225,56,(.cons (.int .i64) (.cons (.int .i64) (.cons .bool (.cons (.int .i64) (.cons (.sl 94 (.cons .str (.cons (.int .i64) (.cons (.int .i64) (.cons .str .nil))))) .nil))))),false)],⟨[(7, .one (.sl 56 (.cons (.int .i64) (.cons (.int .i64) (.cons .bool (.cons (.int .i64) (.cons (.sl 94 (.cons .str (.cons (.int .i64) (.cons (.int .i64) (.cons .str .nil))))) .nil))))) false)),(8, .one (.int .i64))],[]⟩,⟨[(3, .one (.ref 225)),(9, .one (.int .i64))],[(225, .arr 56 (.cons (.int .i64) (.cons (.int .i64) (.cons .bool (.cons (.int .i64) (.cons (.sl 94 (.cons .str (.cons (.int .i64) (.cons (.int .i64) (.cons .str .nil))))) .nil))))) false)]⟩⟩)] [] [] []
def amx (l:iW) (K:(iW×Unit)×Unit→Prop):Prop:=
 let s0:=((l,(↑l.length:Int),()),());
  ∃ (I:rF×iW×Unit→Prop),
  ∃ (μ:rF×iW×Unit→Nat),
  I (((),(0:Int),()),[],())∧
  ∀ (y1:rF×iW×Unit),
  I y1→
  bif decide (y1.1.2.1<(↑l.length:Int)) then
  ((0:Int)≤y1.1.2.1∧y1.1.2.1<(↑l.length:Int))∧
  Sp.dK
  ((l.getD (Int.toNat y1.1.2.1) ((0:Int),(0:Int),false,(0:Int),[],())).1,
  (l.getD (Int.toNat y1.1.2.1) ((0:Int),(0:Int),false,(0:Int),[],())).2.1,
  (l.getD (Int.toNat y1.1.2.1) ((0:Int),(0:Int),false,(0:Int),[],())).2.2.1,
  (l.getD (Int.toNat y1.1.2.1) ((0:Int),(0:Int),false,(0:Int),[],())).2.2.2.1,
  (l.getD (Int.toNat y1.1.2.1) ((0:Int),(0:Int),false,(0:Int),[],())).2.2.2.2.1,())∧
 let r2:=(l.getD (Int.toNat y1.1.2.1) ((0:Int),(0:Int),false,(0:Int),[],())).1;
 let r3:=(l.getD (Int.toNat y1.1.2.1) ((0:Int),(0:Int),false,(0:Int),[],())).2.1;
 let r4:=(l.getD (Int.toNat y1.1.2.1) ((0:Int),(0:Int),false,(0:Int),[],())).2.2.1;
 let r5:=(l.getD (Int.toNat y1.1.2.1) ((0:Int),(0:Int),false,(0:Int),[],())).2.2.2.1;
 let r6:=(l.getD (Int.toNat y1.1.2.1) ((0:Int),(0:Int),false,(0:Int),[],())).2.2.2.2.1;
  List.length y1.2.1+[(r2,r3,r4,r5,r6,())].length≤big∧
  s0=s0∧
  I (((),i64.wrap (y1.1.2.1+(1:Int)),()),y1.2.1++[(r2,r3,r4,r5,r6,())],())∧
  μ (((),i64.wrap (y1.1.2.1+(1:Int)),()),y1.2.1++[(r2,r3,r4,r5,r6,())],())<μ y1
  else K ((y1.2.1,()),())
theorem al2 (env:EnvB prog G Θ anT) (hne:∀ x,(O8 x).1→∃ t,(O8 x).2 t) (h:∀ (l:iW),dO wJ (l,())→(l.length≤(1000:Nat)∧∀ (f:Vf),f∈l→Sp.dK f)→amx l fun (r:(iW×Unit)×Unit)=>(l.length≤(1000:Nat)∧∀ (f:Vf),f∈l→Sp.dK f,
 fun (x:(iW×Unit)×Unit)=>x.1.1=l).2
 r):aG prog G Dz EP:=
 bZ env mixed (fn:=f144) (c:=codeOf f144) (by kernel_rfl) (by kernel_rfl) apE (by kernel_rfl) hne fun ⟨l,⟨⟩⟩ hin hp=>
 Eq.mpr (by kernel_rfl) (h l hin hp)
def apF:Hints:=Go.Fw.hints [5,8] [] [] [] []
def amy (s0:gW) (s1:iW) (s2:Int) (K:Om→Prop):Prop:=
 s0.length≤(1000:Nat)∧
 (s1.length≤(1000:Nat)∧∀ (f:Vf),f∈s1→Sp.dK f)∧
 ∀ (r0:(iW×Unit)×Unit),r0.1.1=s1→K (((s0,r0.1.1,s2,()),()),())
theorem al3 (env:EnvB prog G Θ anU) (hne:∀ x,(O9 x).1→∃ t,(O9 x).2 t) (h:∀ (s0:gW) (s1:iW) (s2:Int),dO kM ((s0,s1,s2,()),())→(Sp.bQ (s0,s1,s2,()))→amy s0 s1 s2 fun (r:Om)=>(Sp.bQ (s0,s1,s2,()),
 fun (x:Om)=>
 (x.1.1.1,x.1.1.2.1,x.1.1.2.2.1,())=(s0,s1,s2,())).2
 r):aG prog G nI mM:=
 bZ env mixed (fn:=f87) (c:=codeOf f87) (by kernel_rfl) (by kernel_rfl) apF (by kernel_rfl) hne fun ⟨⟨s0,s1,s2,⟨⟩⟩,⟨⟩⟩ hin hp=>
 Eq.mpr (by kernel_rfl) (h s0 s1 s2 hin hp)
end Go.Proofs.Tryz

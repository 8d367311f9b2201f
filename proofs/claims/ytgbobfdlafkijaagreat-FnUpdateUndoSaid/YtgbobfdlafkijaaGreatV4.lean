import Derived.Test.YtgbobfdlafkijaaGreatV1
namespace Go.Proofs.Tryz
open Go Go.Fw
set_option maxRecDepth 100000
open Go.IntKind (i64)
def avl:Hints:=Go.Fw.hints [] [(2,⟨[],⟨[(1, .one (.str)),(4, .dW 256 0),(8, .one (.sl 94 (.cons .str (.cons (.int .i64) (.cons (.int .i64) (.cons .str .nil)))) false)),(9, .one (.int .i64))],[(256, .var [.int .i64, .int .i64, .str])]⟩,⟨[(10, .one (.int .i64))],[]⟩⟩)] [] [] []
def as7 (f0:Int) (f1:Int) (f2:Bool) (f3:Int) (f4:iq) (name:eH) (K:auT→Prop):Prop:=
 let s0:(eH×Unit×iq×iV)×auT:=
  ((name,(),f4,(↑f4.length:Int),()),((0:Int),(0:Int),[],()),());
  ∃ (I:bn→Prop),
  ∃ (μ:bn→Nat),
  I (((0:Int),()),())∧
  ∀ (y1:bn),
  I y1→
  bif decide (y1.1.1<(↑f4.length:Int)) then
  ((0:Int)≤y1.1.1∧y1.1.1<(↑f4.length:Int))∧
  bif (f4.getD (Int.toNat y1.1.1) ([],(0:Int),(0:Int),[],())).1==name then
  K ((f4.getD (Int.toNat y1.1.1) ([],(0:Int),(0:Int),[],())).2,())
  else s0=s0∧I ((i64.wrap (y1.1.1+(1:Int)),()),())∧μ ((i64.wrap (y1.1.1+(1:Int)),()),())<μ y1
  else K (((0:Int),(0:Int),[],()),())
theorem arK (env:EnvB prog G Θ atS) (h:∀ (f0:Int) (f1:Int) (f2:Bool) (f3:Int) (f4:iq) (name:eH),bF Rk ((f0,f1,f2,f3,f4,()),name,())→(True)→as7 f0 f1 f2 f3 f4 name fun r=>r=((Sp.dF f4 name,()))):aA prog G qN pG:=
 aT env mixed (fn:=f216) (c:=codeOf f216) (by kernel_rfl) (by kernel_rfl) avl (by kernel_rfl) fun ⟨⟨f0,f1,f2,f3,f4,⟨⟩⟩,name,⟨⟩⟩ hin hp=>
 Eq.mpr (by kernel_rfl) (h f0 f1 f2 f3 f4 name hin hp)
def avm:Hints:=Go.Fw.hints [] [(2,⟨[],⟨[(1, .one (.str)),(2, .fM [.int .i64, .int .i64, .bool, .int .i64, .sl 94 (.cons .str (.cons (.int .i64) (.cons (.int .i64) (.cons .str .nil)))) false] 0),(4, .dW 256 0)],[(256, .var [.int .i64, .int .i64, .str])]⟩,⟨[(5, .one (.int .i64))],[]⟩⟩)] [] [] []
def as8 (f0:Int) (f1:Int) (f2:Bool) (f3:Int) (f4:iq) (name:eH) (K:auT→Prop):Prop:=
 let s0:(eH×Vf×Unit×Unit)×auT:=
  ((name,(f0,f1,f2,f3,f4,()),(),()),((0:Int),(0:Int),[],()),());
  ∃ (I:bn→Prop),
  ∃ (μ:bn→Nat),
  I (((0:Int),()),())∧
  ∀ (y1:bn),
  I y1→
  bif decide (y1.1.1<(↑f4.length:Int)) then
  ((0:Int)≤y1.1.1∧y1.1.1<(↑f4.length:Int))∧
  bif (f4.getD (Int.toNat y1.1.1) ([],(0:Int),(0:Int),[],())).1==name then
  ((0:Int)≤y1.1.1∧y1.1.1<(↑f4.length:Int))∧K ((f4.getD (Int.toNat y1.1.1) ([],(0:Int),(0:Int),[],())).2,())
  else s0=s0∧I ((i64.wrap (y1.1.1+(1:Int)),()),())∧μ ((i64.wrap (y1.1.1+(1:Int)),()),())<μ y1
  else K (((0:Int),(0:Int),[],()),())
theorem arM (env:EnvB prog G Θ atT) (h:∀ (f0:Int) (f1:Int) (f2:Bool) (f3:Int) (f4:iq) (name:eH),bF Rl ((f0,f1,f2,f3,f4,()),name,())→(True)→as8 f0 f1 f2 f3 f4 name fun r=>r=((Sp.dF f4 name,()))):aA prog G H7 Jo:=
 aT env mixed (fn:=f224) (c:=codeOf f224) (by kernel_rfl) (by kernel_rfl) avm (by kernel_rfl) fun ⟨⟨f0,f1,f2,f3,f4,⟨⟩⟩,name,⟨⟩⟩ hin hp=>
 Eq.mpr (by kernel_rfl) (h f0 f1 f2 f3 f4 name hin hp)
def avn:Hints:=Go.Fw.hints [] [] [] [] []
def as9 (f0:Int) (f1:Int) (f2:Bool) (f3:Int) (f4:iq) (name:eH) (K:Int×dD→Prop):Prop:=
 True∧
 let r0:=(Sp.dF f4 name).1;
 let r1:=(Sp.dF f4 name).2.1;
  bif r0 !=(1:Int) then K ((0:Int),false,()) else K (r1,true,())
theorem arO (env:EnvB prog G Θ atU) (h:∀ (f0:Int) (f1:Int) (f2:Bool) (f3:Int) (f4:iq) (name:eH),bF Rn ((f0,f1,f2,f3,f4,()),name,())→(True)→as9 f0 f1 f2 f3 f4 name fun r=>r=((bif (Sp.dF f4 name).1==(1:Int) then (Sp.dF f4 name).2.1 else (0:Int),(Sp.dF f4 name).1==(1:Int),()))):aA prog G H6 Jp:=
 aT env mixed (fn:=f266) (c:=codeOf f266) (by kernel_rfl) (by kernel_rfl) avn (by kernel_rfl) fun ⟨⟨f0,f1,f2,f3,f4,⟨⟩⟩,name,⟨⟩⟩ hin hp=>
 Eq.mpr (by kernel_rfl) (h f0 f1 f2 f3 f4 name hin hp)
def akr:Hints:=Go.Fw.hints [] [(2,⟨[],⟨[(0, .one (.sl 3 (.cons (.int .i64) .nil) false)),(1, .one (.int .i64)),(7, .one (.int .i64))],[]⟩,⟨[(8, .one (.int .i64))],[]⟩⟩)] [] [] []
def ahu (s:bV) (v:Int) (K:iV→Prop):Prop:=
 let s0:=((s,v,(↑s.length:Int),()),());
  ∃ (I:bn→Prop),
  ∃ (μ:bn→Nat),
  I (((0:Int),()),())∧
  ∀ (y1:bn),
  I y1→
  bif decide (y1.1.1<(↑s.length:Int)) then
  ((0:Int)≤y1.1.1∧y1.1.1<(↑s.length:Int))∧
  bif v==(s.getD (Int.toNat y1.1.1) ((0:Int),())).1 then K y1.1
  else s0=s0∧I ((i64.wrap (y1.1.1+(1:Int)),()),())∧μ ((i64.wrap (y1.1.1+(1:Int)),()),())<μ y1
  else K ((-1:Int),())
theorem agI (env:EnvB prog G Θ aia) (h:∀ (s:bV) (v:Int),bF KP (s,v,())→(True)→ahu s v fun r=>r=((Sp.findAt (fun (x:iV)=>x.1==v) s,()))):aA prog G zi CB:=
 aT env mixed (fn:=f254) (c:=codeOf f254) (by kernel_rfl) (by kernel_rfl) akr (by kernel_rfl) fun ⟨s,v,⟨⟩⟩ hin hp=>
 Eq.mpr (by kernel_rfl) (h s v hin hp)
def adz:Hints:=Go.Fw.hints [] [] [] [] []
def abZ (s:bV) (v:Int) (K:dD→Prop):Prop:=
 True∧
 let r0:=Sp.findAt (fun (x:iV)=>x.1==v) s;
  K (decide (r0≥(0:Int)),())
theorem aby (env:EnvB prog G Θ aci) (h:∀ (s:bV) (v:Int),bF FY (s,v,())→(True)→abZ s v fun r=>r=((Sp.dS s v,()))):aA prog G lW mY:=
 aT env mixed (fn:=f240) (c:=codeOf f240) (by kernel_rfl) (by kernel_rfl) adz (by kernel_rfl) fun ⟨s,v,⟨⟩⟩ hin hp=>
 Eq.mpr (by kernel_rfl) (h s v hin hp)
def adA:Hints:=Go.Fw.hints [] [(2,⟨[],⟨[(0, .one (.sl 9 (.cons .str .nil) false)),(1, .one (.str)),(7, .one (.int .i64))],[]⟩,⟨[(8, .one (.int .i64))],[]⟩⟩)] [] [] []
def ab1 (s:qU) (v:eH) (K:iV→Prop):Prop:=
 let s0:=((s,v,(↑s.length:Int),()),());
  ∃ (I:bn→Prop),
  ∃ (μ:bn→Nat),
  I (((0:Int),()),())∧
  ∀ (y1:bn),
  I y1→
  bif decide (y1.1.1<(↑s.length:Int)) then
  ((0:Int)≤y1.1.1∧y1.1.1<(↑s.length:Int))∧
  bif v==(s.getD (Int.toNat y1.1.1) ([],())).1 then K y1.1
  else s0=s0∧I ((i64.wrap (y1.1.1+(1:Int)),()),())∧μ ((i64.wrap (y1.1.1+(1:Int)),()),())<μ y1
  else K ((-1:Int),())
theorem abx (env:EnvB prog G Θ acj) (h:∀ (s:qU) (v:eH),bF FZ (s,v,())→(True)→ab1 s v fun r=>r=((Sp.findAt (fun (x:PY)=>x.1==v) s,()))):aA prog G uU xB:=
 aT env mixed (fn:=f212) (c:=codeOf f212) (by kernel_rfl) (by kernel_rfl) adA (by kernel_rfl) fun ⟨s,v,⟨⟩⟩ hin hp=>
 Eq.mpr (by kernel_rfl) (h s v hin hp)
def ZV:Hints:=Go.Fw.hints [] [] [] [] []
def Yr (s:qU) (v:eH) (K:dD→Prop):Prop:=
 True∧
 let r0:=Sp.findAt (fun (x:PY)=>x.1==v) s;
  K (decide (r0≥(0:Int)),())
theorem Yh (env:EnvB prog G Θ Y7) (h:∀ (s:qU) (v:eH),bF CG (s,v,())→(True)→Yr s v fun r=>r=((Sp.iG s v,()))):aA prog G gm gu:=
 aT env mixed (fn:=f170) (c:=codeOf f170) (by kernel_rfl) (by kernel_rfl) ZV (by kernel_rfl) fun ⟨s,v,⟨⟩⟩ hin hp=>
 Eq.mpr (by kernel_rfl) (h s v hin hp)
def amD:Hints:=Go.Fw.hints [] [] [] [] []
def aks (ids:bV) (id:Int) (K:dD→Prop):Prop:=
 True∧K (Sp.dS ids id,())
theorem ajs (env:EnvB prog G Θ aln) (h:∀ (ids:bV) (id:Int),bF LJ (ids,id,())→(True)→aks ids id fun r=>r=((Sp.dS ids id,()))):aA prog G BB Ea:=
 aT env mixed (fn:=f267) (c:=codeOf f267) (by kernel_rfl) (by kernel_rfl) amD (by kernel_rfl) fun ⟨ids,id,⟨⟩⟩ hin hp=>
 Eq.mpr (by kernel_rfl) (h ids id hin hp)
def amE:Hints:=Go.Fw.hints [] [(2,⟨[],⟨[(0, .one (.sl 3 (.cons (.int .i64) .nil) false)),(1, .one (.int .i64))],[]⟩,⟨[(5, .one (.int .i64))],[]⟩⟩)] [] [] []
def akt (ids:bV) (id:Int) (K:dD→Prop):Prop:=
 let s0:=((ids,id,()),());
  ∃ (I:bn→Prop),
  ∃ (μ:bn→Nat),
  I (((0:Int),()),())∧
  ∀ (y1:bn),
  I y1→
  bif decide (y1.1.1<(↑ids.length:Int)) then
  ((0:Int)≤y1.1.1∧y1.1.1<(↑ids.length:Int))∧
  bif (ids.getD (Int.toNat y1.1.1) ((0:Int),())).1==id then K (true,())
  else s0=s0∧I ((i64.wrap (y1.1.1+(1:Int)),()),())∧μ ((i64.wrap (y1.1.1+(1:Int)),()),())<μ y1
  else K (false,())
theorem ajt (env:EnvB prog G Θ alo) (h:∀ (ids:bV) (id:Int),bF LK (ids,id,())→(True)→akt ids id fun r=>r=((Sp.dS ids id,()))):aA prog G ru su:=
 aT env mixed (fn:=f115) (c:=codeOf f115) (by kernel_rfl) (by kernel_rfl) amE (by kernel_rfl) fun ⟨ids,id,⟨⟩⟩ hin hp=>
 Eq.mpr (by kernel_rfl) (h ids id hin hp)
def aku:Hints:=Go.Fw.hints [5] [] [] [] []
def ahv (s:bV) (K:kW→Prop):Prop:=
 ∀ (g0:Bool),(g0=true→s.length=(0:Nat))→bif g0 then K ([],()) else (0:Nat)+s.length≤big∧K (s,())
theorem agJ (env:EnvB prog G Θ aib) (h:∀ (s:bV),bF KQ (s,())→(s.length≤(1000:Nat))→ahv s fun r=>r=((s,()))):aA prog G pU qC:=
 aT env mixed (fn:=f165) (c:=codeOf f165) (by kernel_rfl) (by kernel_rfl) aku (by kernel_rfl) fun ⟨s,⟨⟩⟩ hin hp=>
 Eq.mpr (by kernel_rfl) (h s hin hp)
def apO:Hints:=Go.Fw.hints [] [(2,⟨[],⟨[(1, .one (.str)),(7, .one (.sl 104 (.cons .str (.cons (.sl 3 (.cons (.int .i64) .nil)) .nil)) false)),(8, .one (.int .i64))],[]⟩,⟨[(9, .one (.int .i64))],[]⟩⟩)] [] [] []
def amF (Dk:l7) (name:eH) (K:kW→Prop):Prop:=
 let s0:=((name,Dk,(↑Dk.length:Int),()),());
  ∃ (I:bn→Prop),
  ∃ (μ:bn→Nat),
  I (((0:Int),()),())∧
  ∀ (y1:bn),
  I y1→
  bif decide (y1.1.1<(↑Dk.length:Int)) then
  ((0:Int)≤y1.1.1∧y1.1.1<(↑Dk.length:Int))∧
  bif (Dk.getD (Int.toNat y1.1.1) ([],[],())).1==name then
  List.length (Dk.getD (Int.toNat y1.1.1) ([],[],())).2.1≤(1000:Nat)∧
 let r2:=(Dk.getD (Int.toNat y1.1.1) ([],[],())).2.1;
  K (r2,())
  else s0=s0∧I ((i64.wrap (y1.1.1+(1:Int)),()),())∧μ ((i64.wrap (y1.1.1+(1:Int)),()),())<μ y1
  else K ([],())
theorem al4 (env:EnvB prog G Θ anX) (h:∀ (Dk:l7) (name:eH),bF NR (Dk,name,())→(Sp.bJ Dk)→amF Dk name fun r=>r=((Sp.gV Dk name,()))):aA prog G nH mO:=
 aT env mixed (fn:=f167) (c:=codeOf f167) (by kernel_rfl) (by kernel_rfl) apO (by kernel_rfl) fun ⟨Dk,name,⟨⟩⟩ hin hp=>
 Eq.mpr (by kernel_rfl) (h Dk name hin hp)
def apP:Hints:=Go.Fw.hints [19] [(2,⟨[],⟨[(0, .one (.sl 104 (.cons .str (.cons (.sl 3 (.cons (.int .i64) .nil)) .nil)) false)),(1, .one (.str))],[]⟩,⟨[(5, .one (.int .i64))],[]⟩⟩)] [] [] []
def amG (a:l7) (name:eH) (K:kW→Prop):Prop:=
 let s0:=((a,name,()),());
  ∃ (I:bn→Prop),
  ∃ (μ:bn→Nat),
  I (((0:Int),()),())∧
  ∀ (y1:bn),
  I y1→
  bif decide (y1.1.1<(↑a.length:Int)) then
  ((0:Int)≤y1.1.1∧y1.1.1<(↑a.length:Int))∧
  bif (a.getD (Int.toNat y1.1.1) ([],[],())).1==name then
  ((0:Int)≤y1.1.1∧y1.1.1<(↑a.length:Int))∧
  (0:Nat)+List.length (a.getD (Int.toNat y1.1.1) ([],[],())).2.1≤big∧K (a.getD (Int.toNat y1.1.1) ([],[],())).2
  else s0=s0∧I ((i64.wrap (y1.1.1+(1:Int)),()),())∧μ ((i64.wrap (y1.1.1+(1:Int)),()),())<μ y1
  else K ([],())
theorem al6 (env:EnvB prog G Θ anY) (h:∀ (a:l7) (name:eH),bF NS (a,name,())→(Sp.bJ a)→amG a name fun r=>r=((Sp.gV a name,()))):aA prog G DF EU:=
 aT env mixed (fn:=f181) (c:=codeOf f181) (by kernel_rfl) (by kernel_rfl) apP (by kernel_rfl) fun ⟨a,name,⟨⟩⟩ hin hp=>
 Eq.mpr (by kernel_rfl) (h a name hin hp)
def ab2:Hints:=Go.Fw.hints [] [] [] [] []
def aap [yU] (q:jr) (at':Int) (f0:Int) (f1:Int) (f2:Bool) (f3:Int) (f4:iq) (OZ:l7) (K:dD→Prop):Prop:=
 ((0:Int)≤at'∧at'<(↑q.length:Int))∧
 bif (q.getD at'.toNat ((0:Int),(0:Int),(0:Int),[],(0:Int),(0:Int),[],())).1==(2:Int) then
 True∧
 let r0:=(Sp.dF f4 (q.getD at'.toNat ((0:Int),(0:Int),(0:Int),[],(0:Int),(0:Int),[],())).2.2.2.1).1;
  K (r0 !=(0:Int),())
  else
  bif (q.getD at'.toNat ((0:Int),(0:Int),(0:Int),[],(0:Int),(0:Int),[],())).1==(3:Int) then
  True∧
 let r3:=(Sp.dF f4 (q.getD at'.toNat ((0:Int),(0:Int),(0:Int),[],(0:Int),(0:Int),[],())).2.2.2.1).1;
 let r4:=(Sp.dF f4 (q.getD at'.toNat ((0:Int),(0:Int),(0:Int),[],(0:Int),(0:Int),[],())).2.2.2.1).2.1;
 let r5:=(Sp.dF f4 (q.getD at'.toNat ((0:Int),(0:Int),(0:Int),[],(0:Int),(0:Int),[],())).2.2.2.1).2.2.1;
  K
  (r3==(q.getD at'.toNat ((0:Int),(0:Int),(0:Int),[],(0:Int),(0:Int),[],())).2.2.2.2.1&&
  (r4==(q.getD at'.toNat ((0:Int),(0:Int),(0:Int),[],(0:Int),(0:Int),[],())).2.2.2.2.2.1&&
  (r5==(q.getD at'.toNat ((0:Int),(0:Int),(0:Int),[],(0:Int),(0:Int),[],())).2.2.2.2.2.2.1&&true)),
  ())
  else
  bif (q.getD at'.toNat ((0:Int),(0:Int),(0:Int),[],(0:Int),(0:Int),[],())).1==(4:Int) then
  True∧
 let r6:=
  bif (Sp.dF f4 (q.getD at'.toNat ((0:Int),(0:Int),(0:Int),[],(0:Int),(0:Int),[],())).2.2.2.1).1==(1:Int) then
  (Sp.dF f4 (q.getD at'.toNat ((0:Int),(0:Int),(0:Int),[],(0:Int),(0:Int),[],())).2.2.2.1).2.1
  else (0:Int);
 let r7:=(Sp.dF f4 (q.getD at'.toNat ((0:Int),(0:Int),(0:Int),[],(0:Int),(0:Int),[],())).2.2.2.1).1==(1:Int);
  bif r7 then K (decide (r6<(q.getD at'.toNat ((0:Int),(0:Int),(0:Int),[],(0:Int),(0:Int),[],())).2.2.2.2.2.1),()) else K (false,())
  else
  bif (q.getD at'.toNat ((0:Int),(0:Int),(0:Int),[],(0:Int),(0:Int),[],())).1==(5:Int) then
  ((Sp.bT q=true∧
  (0:Int)≤(q.getD at'.toNat ((0:Int),(0:Int),(0:Int),[],(0:Int),(0:Int),[],())).2.1∧
  (q.getD at'.toNat ((0:Int),(0:Int),(0:Int),[],(0:Int),(0:Int),[],())).2.1<(↑q.length:Int)∧Sp.bJ OZ)∧
  Int.toNat (q.getD at'.toNat ((0:Int),(0:Int),(0:Int),[],(0:Int),(0:Int),[],())).2.1<yg)∧
 let r8:=Sp.val q (f0,f1,f2,f3,f4,()) (Sp.bD OZ) (Int.toNat (q.getD at'.toNat ((0:Int),(0:Int),(0:Int),[],(0:Int),(0:Int),[],())).2.1);
  K (!r8,())
  else
  bif (q.getD at'.toNat ((0:Int),(0:Int),(0:Int),[],(0:Int),(0:Int),[],())).1==(6:Int) then
  ((Sp.bT q=true∧
  (0:Int)≤(q.getD at'.toNat ((0:Int),(0:Int),(0:Int),[],(0:Int),(0:Int),[],())).2.1∧
  (q.getD at'.toNat ((0:Int),(0:Int),(0:Int),[],(0:Int),(0:Int),[],())).2.1<(↑q.length:Int)∧Sp.bJ OZ)∧
  Int.toNat (q.getD at'.toNat ((0:Int),(0:Int),(0:Int),[],(0:Int),(0:Int),[],())).2.1<yg)∧
 let r9:=Sp.val q (f0,f1,f2,f3,f4,()) (Sp.bD OZ) (Int.toNat (q.getD at'.toNat ((0:Int),(0:Int),(0:Int),[],(0:Int),(0:Int),[],())).2.1);
  bif r9 then
  ((Sp.bT q=true∧
  (0:Int)≤(q.getD at'.toNat ((0:Int),(0:Int),(0:Int),[],(0:Int),(0:Int),[],())).2.2.1∧
  (q.getD at'.toNat ((0:Int),(0:Int),(0:Int),[],(0:Int),(0:Int),[],())).2.2.1<(↑q.length:Int)∧Sp.bJ OZ)∧
  Int.toNat (q.getD at'.toNat ((0:Int),(0:Int),(0:Int),[],(0:Int),(0:Int),[],())).2.2.1<yg)∧
 let r10:=
  Sp.val q (f0,f1,f2,f3,f4,()) (Sp.bD OZ) (Int.toNat (q.getD at'.toNat ((0:Int),(0:Int),(0:Int),[],(0:Int),(0:Int),[],())).2.2.1);
  K (r10,())
  else K (false,())
  else
  bif (q.getD at'.toNat ((0:Int),(0:Int),(0:Int),[],(0:Int),(0:Int),[],())).1==(7:Int) then
  ((Sp.bT q=true∧
  (0:Int)≤(q.getD at'.toNat ((0:Int),(0:Int),(0:Int),[],(0:Int),(0:Int),[],())).2.1∧
  (q.getD at'.toNat ((0:Int),(0:Int),(0:Int),[],(0:Int),(0:Int),[],())).2.1<(↑q.length:Int)∧Sp.bJ OZ)∧
  Int.toNat (q.getD at'.toNat ((0:Int),(0:Int),(0:Int),[],(0:Int),(0:Int),[],())).2.1<yg)∧
 let r11:=
  Sp.val q (f0,f1,f2,f3,f4,()) (Sp.bD OZ) (Int.toNat (q.getD at'.toNat ((0:Int),(0:Int),(0:Int),[],(0:Int),(0:Int),[],())).2.1);
  bif r11 then K (true,())
  else
  ((Sp.bT q=true∧
  (0:Int)≤(q.getD at'.toNat ((0:Int),(0:Int),(0:Int),[],(0:Int),(0:Int),[],())).2.2.1∧
  (q.getD at'.toNat ((0:Int),(0:Int),(0:Int),[],(0:Int),(0:Int),[],())).2.2.1<(↑q.length:Int)∧Sp.bJ OZ)∧
  Int.toNat (q.getD at'.toNat ((0:Int),(0:Int),(0:Int),[],(0:Int),(0:Int),[],())).2.2.1<yg)∧
 let r12:=
  Sp.val q (f0,f1,f2,f3,f4,()) (Sp.bD OZ)
  (Int.toNat (q.getD at'.toNat ((0:Int),(0:Int),(0:Int),[],(0:Int),(0:Int),[],())).2.2.1);
  K (r12,())
  else
  bif (q.getD at'.toNat ((0:Int),(0:Int),(0:Int),[],(0:Int),(0:Int),[],())).1==(8:Int) then
  Sp.bJ OZ∧
 let r13:=Sp.gV OZ (q.getD at'.toNat ((0:Int),(0:Int),(0:Int),[],(0:Int),(0:Int),[],())).2.2.2.1;
  True∧K (Sp.dS r13 f0,())
  else
  bif (q.getD at'.toNat ((0:Int),(0:Int),(0:Int),[],(0:Int),(0:Int),[],())).1==(9:Int) then
  bif f3 !=(0:Int) then
  Sp.bJ OZ∧
 let TJ:=Sp.gV OZ (q.getD at'.toNat ((0:Int),(0:Int),(0:Int),[],(0:Int),(0:Int),[],())).2.2.2.1;
  True∧K (Sp.dS TJ f3,())
  else K (false,())
  else K (true,())
theorem aag [yU] (env:EnvB prog G Θ abh) (h:∀ (q:jr) (at':Int) (f0:Int) (f1:Int) (f2:Bool) (f3:Int) (f4:iq) (OZ:l7),bF Ez (q,at',(f0,f1,f2,f3,f4,()),OZ,())→((Sp.bT q=true∧(0:Int)≤at'∧at'<(↑q.length:Int)∧Sp.bJ OZ)∧at'.toNat<yg+(1:Nat))→aap q at' f0 f1 f2 f3 f4 OZ fun r=>r=((Sp.val q (f0,f1,f2,f3,f4,()) (Sp.bD OZ) at'.toNat,()))):aA prog G OU LQ:=
 aT env mixed (fn:=f244) (c:=codeOf f244) (by kernel_rfl) (by kernel_rfl) ab2 (by kernel_rfl) fun ⟨q,at',⟨f0,f1,f2,f3,f4,⟨⟩⟩,OZ,⟨⟩⟩ hin hp=>
 Eq.mpr (by kernel_rfl) (h q at' f0 f1 f2 f3 f4 OZ hin hp)
def afw:Hints:=Go.Fw.hints [] [] [] [] []
def adB [yU] (q:jr) (at':Int) (f0:Int) (f1:Int) (f2:Bool) (f3:Int) (f4:iq) (a:l7) (K:dD→Prop):Prop:=
 ((0:Int)≤at'∧at'<(↑q.length:Int))∧
 True∧
 let r0:=(Sp.dF f4 (q.getD at'.toNat ((0:Int),(0:Int),(0:Int),[],(0:Int),(0:Int),[],())).2.2.2.1).1;
 let r1:=(Sp.dF f4 (q.getD at'.toNat ((0:Int),(0:Int),(0:Int),[],(0:Int),(0:Int),[],())).2.2.2.1).2.1;
 let r2:=(Sp.dF f4 (q.getD at'.toNat ((0:Int),(0:Int),(0:Int),[],(0:Int),(0:Int),[],())).2.2.2.1).2.2.1;
  bif (q.getD at'.toNat ((0:Int),(0:Int),(0:Int),[],(0:Int),(0:Int),[],())).1==(1:Int) then K (true,())
  else
  bif (q.getD at'.toNat ((0:Int),(0:Int),(0:Int),[],(0:Int),(0:Int),[],())).1==(2:Int) then K (r0 !=(0:Int),())
  else
  bif (q.getD at'.toNat ((0:Int),(0:Int),(0:Int),[],(0:Int),(0:Int),[],())).1==(3:Int) then
  K
  (r0==(q.getD at'.toNat ((0:Int),(0:Int),(0:Int),[],(0:Int),(0:Int),[],())).2.2.2.2.1&&
  (r1==(q.getD at'.toNat ((0:Int),(0:Int),(0:Int),[],(0:Int),(0:Int),[],())).2.2.2.2.2.1&&
  (r2==(q.getD at'.toNat ((0:Int),(0:Int),(0:Int),[],(0:Int),(0:Int),[],())).2.2.2.2.2.2.1&&true)),
  ())
  else
  bif (q.getD at'.toNat ((0:Int),(0:Int),(0:Int),[],(0:Int),(0:Int),[],())).1==(4:Int) then
  bif r0==(1:Int) then K (decide (r1<(q.getD at'.toNat ((0:Int),(0:Int),(0:Int),[],(0:Int),(0:Int),[],())).2.2.2.2.2.1),())
  else K (false,())
  else
  bif (q.getD at'.toNat ((0:Int),(0:Int),(0:Int),[],(0:Int),(0:Int),[],())).1==(5:Int) then
  ((Sp.bT q=true∧
  (0:Int)≤(q.getD at'.toNat ((0:Int),(0:Int),(0:Int),[],(0:Int),(0:Int),[],())).2.1∧
  (q.getD at'.toNat ((0:Int),(0:Int),(0:Int),[],(0:Int),(0:Int),[],())).2.1<(↑q.length:Int)∧Sp.bJ a)∧
  Int.toNat (q.getD at'.toNat ((0:Int),(0:Int),(0:Int),[],(0:Int),(0:Int),[],())).2.1<yg)∧
 let r3:=Sp.val q (f0,f1,f2,f3,f4,()) (Sp.bD a) (Int.toNat (q.getD at'.toNat ((0:Int),(0:Int),(0:Int),[],(0:Int),(0:Int),[],())).2.1);
  K (!r3,())
  else
  bif (q.getD at'.toNat ((0:Int),(0:Int),(0:Int),[],(0:Int),(0:Int),[],())).1==(6:Int) then
  ((Sp.bT q=true∧
  (0:Int)≤(q.getD at'.toNat ((0:Int),(0:Int),(0:Int),[],(0:Int),(0:Int),[],())).2.1∧
  (q.getD at'.toNat ((0:Int),(0:Int),(0:Int),[],(0:Int),(0:Int),[],())).2.1<(↑q.length:Int)∧Sp.bJ a)∧
  Int.toNat (q.getD at'.toNat ((0:Int),(0:Int),(0:Int),[],(0:Int),(0:Int),[],())).2.1<yg)∧
 let r4:=
  Sp.val q (f0,f1,f2,f3,f4,()) (Sp.bD a) (Int.toNat (q.getD at'.toNat ((0:Int),(0:Int),(0:Int),[],(0:Int),(0:Int),[],())).2.1);
  bif r4 then
  ((Sp.bT q=true∧
  (0:Int)≤(q.getD at'.toNat ((0:Int),(0:Int),(0:Int),[],(0:Int),(0:Int),[],())).2.2.1∧
  (q.getD at'.toNat ((0:Int),(0:Int),(0:Int),[],(0:Int),(0:Int),[],())).2.2.1<(↑q.length:Int)∧Sp.bJ a)∧
  Int.toNat (q.getD at'.toNat ((0:Int),(0:Int),(0:Int),[],(0:Int),(0:Int),[],())).2.2.1<yg)∧
 let r5:=
  Sp.val q (f0,f1,f2,f3,f4,()) (Sp.bD a)
  (Int.toNat (q.getD at'.toNat ((0:Int),(0:Int),(0:Int),[],(0:Int),(0:Int),[],())).2.2.1);
  K (r5,())
  else K (false,())
  else
  bif (q.getD at'.toNat ((0:Int),(0:Int),(0:Int),[],(0:Int),(0:Int),[],())).1==(7:Int) then
  ((Sp.bT q=true∧
  (0:Int)≤(q.getD at'.toNat ((0:Int),(0:Int),(0:Int),[],(0:Int),(0:Int),[],())).2.1∧
  (q.getD at'.toNat ((0:Int),(0:Int),(0:Int),[],(0:Int),(0:Int),[],())).2.1<(↑q.length:Int)∧Sp.bJ a)∧
  Int.toNat (q.getD at'.toNat ((0:Int),(0:Int),(0:Int),[],(0:Int),(0:Int),[],())).2.1<yg)∧
 let r6:=
  Sp.val q (f0,f1,f2,f3,f4,()) (Sp.bD a) (Int.toNat (q.getD at'.toNat ((0:Int),(0:Int),(0:Int),[],(0:Int),(0:Int),[],())).2.1);
  bif r6 then K (true,())
  else
  ((Sp.bT q=true∧
  (0:Int)≤(q.getD at'.toNat ((0:Int),(0:Int),(0:Int),[],(0:Int),(0:Int),[],())).2.2.1∧
  (q.getD at'.toNat ((0:Int),(0:Int),(0:Int),[],(0:Int),(0:Int),[],())).2.2.1<(↑q.length:Int)∧Sp.bJ a)∧
  Int.toNat (q.getD at'.toNat ((0:Int),(0:Int),(0:Int),[],(0:Int),(0:Int),[],())).2.2.1<yg)∧
 let r7:=
  Sp.val q (f0,f1,f2,f3,f4,()) (Sp.bD a)
  (Int.toNat (q.getD at'.toNat ((0:Int),(0:Int),(0:Int),[],(0:Int),(0:Int),[],())).2.2.1);
  K (r7,())
  else
  bif (q.getD at'.toNat ((0:Int),(0:Int),(0:Int),[],(0:Int),(0:Int),[],())).1==(8:Int) then
  Sp.bJ a∧
 let r8:=Sp.gV a (q.getD at'.toNat ((0:Int),(0:Int),(0:Int),[],(0:Int),(0:Int),[],())).2.2.2.1;
  True∧K (Sp.dS r8 f0,())
  else
  bif f3 !=(0:Int) then
  Sp.bJ a∧
 let r9:=Sp.gV a (q.getD at'.toNat ((0:Int),(0:Int),(0:Int),[],(0:Int),(0:Int),[],())).2.2.2.1;
  True∧K (Sp.dS r9 f3,())
  else K (false,())
theorem adg [yU] (env:EnvB prog G Θ adU) (h:∀ (q:jr) (at':Int) (f0:Int) (f1:Int) (f2:Bool) (f3:Int) (f4:iq) (a:l7),bF Hg (q,at',(f0,f1,f2,f3,f4,()),a,())→((Sp.bT q=true∧(0:Int)≤at'∧at'<(↑q.length:Int)∧Sp.bJ a)∧at'.toNat<yg+(1:Nat))→adB q at' f0 f1 f2 f3 f4 a fun r=>r=((Sp.val q (f0,f1,f2,f3,f4,()) (Sp.bD a) at'.toNat,()))):aA prog G SQ OE:=
 aT env mixed (fn:=f230) (c:=codeOf f230) (by kernel_rfl) (by kernel_rfl) afw (by kernel_rfl) fun ⟨q,at',⟨f0,f1,f2,f3,f4,⟨⟩⟩,a,⟨⟩⟩ hin hp=>
 Eq.mpr (by kernel_rfl) (h q at' f0 f1 f2 f3 f4 a hin hp)
def avo:Hints:=Go.Fw.hints [] [] [] [] []
def ata (q:jr) (f0:Int) (f1:Int) (f2:Bool) (f3:Int) (f4:iq) (rZ:l7) (K:dD→Prop):Prop:=
 q.length≤(1000000:Nat)∧
 bif Sp.bT q then
 (Sp.bT q=true∧(0:Int)≤i64.wrap ((↑q.length:Int)-(1:Int))∧i64.wrap ((↑q.length:Int)-(1:Int))<(↑q.length:Int)∧Sp.bJ rZ)∧
 let r0:=Sp.val q (f0,f1,f2,f3,f4,()) (Sp.bD rZ) (i64.wrap ((↑q.length:Int)-(1:Int))).toNat;
  K (r0,())
  else K (false,())
theorem arS (env:EnvB prog G Θ atV) (h:∀ (q:jr) (f0:Int) (f1:Int) (f2:Bool) (f3:Int) (f4:iq) (rZ:l7),bF Rw (q,(f0,f1,f2,f3,f4,()),rZ,())→(q.length≤(1000:Nat)∧Sp.bJ rZ)→ata q f0 f1 f2 f3 f4 rZ fun r=>r=((Sp.jh q (f0,f1,f2,f3,f4,()) (Sp.bD rZ),()))):aA prog G H8 Jq:=
 aT env mixed (fn:=f220) (c:=codeOf f220) (by kernel_rfl) (by kernel_rfl) avo (by kernel_rfl) fun ⟨q,⟨f0,f1,f2,f3,f4,⟨⟩⟩,rZ,⟨⟩⟩ hin hp=>
 Eq.mpr (by kernel_rfl) (h q f0 f1 f2 f3 f4 rZ hin hp)
def avp:Hints:=Go.Fw.hints [] [] [] [] []
def atb (q:jr) (f0:Int) (f1:Int) (f2:Bool) (f3:Int) (f4:iq) (a:l7) (K:dD→Prop):Prop:=
 q.length≤(1000000:Nat)∧
 bif Sp.bT q then
 (Sp.bT q=true∧(0:Int)≤i64.wrap ((↑q.length:Int)-(1:Int))∧i64.wrap ((↑q.length:Int)-(1:Int))<(↑q.length:Int)∧Sp.bJ a)∧
 let r0:=Sp.val q (f0,f1,f2,f3,f4,()) (Sp.bD a) (i64.wrap ((↑q.length:Int)-(1:Int))).toNat;
  K (r0,())
  else K (false,())
theorem arU (env:EnvB prog G Θ atW) (h:∀ (q:jr) (f0:Int) (f1:Int) (f2:Bool) (f3:Int) (f4:iq) (a:l7),bF Rx (q,(f0,f1,f2,f3,f4,()),a,())→(q.length≤(1000:Nat)∧Sp.bJ a)→atb q f0 f1 f2 f3 f4 a fun r=>r=((Sp.jh q (f0,f1,f2,f3,f4,()) (Sp.bD a),()))):aA prog G H9 Jr:=
 aT env mixed (fn:=f192) (c:=codeOf f192) (by kernel_rfl) (by kernel_rfl) avp (by kernel_rfl) fun ⟨q,⟨f0,f1,f2,f3,f4,⟨⟩⟩,a,⟨⟩⟩ hin hp=>
 Eq.mpr (by kernel_rfl) (h q f0 f1 f2 f3 f4 a hin hp)
def akv:Hints:=Go.Fw.hints [10] [(3,⟨[],⟨[(1, .one (.sl 167 (.cons (.int .i64) (.cons (.int .i64) (.cons (.int .i64) (.cons .str (.cons (.int .i64) (.cons (.int .i64) (.cons .str .nil))))))) false)),(2, .one (.sl 104 (.cons .str (.cons (.sl 3 (.cons (.int .i64) .nil)) .nil)) false)),(12, .one (.sl 56 (.cons (.int .i64) (.cons (.int .i64) (.cons .bool (.cons (.int .i64) (.cons (.sl 94 (.cons .str (.cons (.int .i64) (.cons (.int .i64) (.cons .str .nil))))) .nil))))) false)),(13, .one (.int .i64))],[]⟩,⟨[(7, .one (.ref 641)),(14, .one (.int .i64))],[(641, .arr 3 (.cons (.int .i64) .nil) true)]⟩⟩)] [] [] []
def ahw (s0:gW) (s1:iW) (s2:Int) (q:jr) (rZ:l7) (K:kW→Prop):Prop:=
 let s0:=((q,rZ,s1,(↑s1.length:Int),()),());
  ∃ (I:rF×kW→Prop),
  ∃ (μ:rF×kW→Nat),
  I (((),(0:Int),()),[],())∧
  ∀ (y1:rF×kW),
  I y1→
  bif decide (y1.1.2.1<(↑s1.length:Int)) then
  ((0:Int)≤y1.1.2.1∧y1.1.2.1<(↑s1.length:Int))∧
  (q.length≤(1000:Nat)∧Sp.bJ rZ)∧
 let r2:=Sp.jh q (s1.getD (Int.toNat y1.1.2.1) ((0:Int),(0:Int),false,(0:Int),[],())) (Sp.bD rZ);
  bif r2 then
  List.length y1.2.1+[((s1.getD (Int.toNat y1.1.2.1) ((0:Int),(0:Int),false,(0:Int),[],())).1,())].length≤big∧
  s0=s0∧
  I
  (((),i64.wrap (y1.1.2.1+(1:Int)),()),
  y1.2.1++[((s1.getD (Int.toNat y1.1.2.1) ((0:Int),(0:Int),false,(0:Int),[],())).1,())],())∧
  μ
  (((),i64.wrap (y1.1.2.1+(1:Int)),()),
  y1.2.1++[((s1.getD (Int.toNat y1.1.2.1) ((0:Int),(0:Int),false,(0:Int),[],())).1,())],())<
  μ y1
  else s0=s0∧I (((),i64.wrap (y1.1.2.1+(1:Int)),()),y1.2)∧μ (((),i64.wrap (y1.1.2.1+(1:Int)),()),y1.2)<μ y1
  else K y1.2
theorem agL (env:EnvB prog G Θ aic) (h:∀ (s0:gW) (s1:iW) (s2:Int) (q:jr) (rZ:l7),bF KR ((s0,s1,s2,()),q,rZ,())→(Sp.bQ (s0,s1,s2,())∧q.length≤(1000:Nat)∧Sp.bJ rZ)→ahw s0 s1 s2 q rZ fun r=>r=((Sp.sel s1 q (Sp.bD rZ),()))):aA prog G zk CJ:=
 aT env mixed (fn:=f179) (c:=codeOf f179) (by kernel_rfl) (by kernel_rfl) akv (by kernel_rfl) fun ⟨⟨s0,s1,s2,⟨⟩⟩,q,rZ,⟨⟩⟩ hin hp=>
 Eq.mpr (by kernel_rfl) (h s0 s1 s2 q rZ hin hp)
def akw:Hints:=Go.Fw.hints [9] [(3,⟨[],⟨[(1, .one (.sl 167 (.cons (.int .i64) (.cons (.int .i64) (.cons (.int .i64) (.cons .str (.cons (.int .i64) (.cons (.int .i64) (.cons .str .nil))))))) false)),(2, .one (.sl 104 (.cons .str (.cons (.sl 3 (.cons (.int .i64) .nil)) .nil)) false)),(3, .fM [.sl 155 (.cons .str (.cons (.int .i64) .nil)) false, .sl 56 (.cons (.int .i64) (.cons (.int .i64) (.cons .bool (.cons (.int .i64) (.cons (.sl 94 (.cons .str (.cons (.int .i64) (.cons (.int .i64) (.cons .str .nil))))) .nil))))) false, .int .i64] 0)],[]⟩,⟨[(7, .one (.ref 577)),(8, .one (.int .i64))],[(577, .arr 3 (.cons (.int .i64) .nil) true)]⟩⟩)] [] [] []
def ahx (s0:gW) (s1:iW) (s2:Int) (q:jr) (a:l7) (K:kW→Prop):Prop:=
 let s0:=((q,a,(s0,s1,s2,()),()),());
  ∃ (I:rF×kW→Prop),
  ∃ (μ:rF×kW→Nat),
  I (((),(0:Int),()),[],())∧
  ∀ (y1:rF×kW),
  I y1→
  bif decide (y1.1.2.1<(↑s1.length:Int)) then
  ((0:Int)≤y1.1.2.1∧y1.1.2.1<(↑s1.length:Int))∧
  (q.length≤(1000:Nat)∧Sp.bJ a)∧
 let r2:=Sp.jh q (s1.getD (Int.toNat y1.1.2.1) ((0:Int),(0:Int),false,(0:Int),[],())) (Sp.bD a);
  bif r2 then
  ((0:Int)≤y1.1.2.1∧y1.1.2.1<(↑s1.length:Int))∧
  List.length y1.2.1+[((s1.getD (Int.toNat y1.1.2.1) ((0:Int),(0:Int),false,(0:Int),[],())).1,())].length≤big∧
  s0=s0∧
  I
  (((),i64.wrap (y1.1.2.1+(1:Int)),()),
  y1.2.1++[((s1.getD (Int.toNat y1.1.2.1) ((0:Int),(0:Int),false,(0:Int),[],())).1,())],())∧
  μ
  (((),i64.wrap (y1.1.2.1+(1:Int)),()),
  y1.2.1++[((s1.getD (Int.toNat y1.1.2.1) ((0:Int),(0:Int),false,(0:Int),[],())).1,())],())<
  μ y1
  else s0=s0∧I (((),i64.wrap (y1.1.2.1+(1:Int)),()),y1.2)∧μ (((),i64.wrap (y1.1.2.1+(1:Int)),()),y1.2)<μ y1
  else K y1.2
theorem agO (env:EnvB prog G Θ aid) (h:∀ (s0:gW) (s1:iW) (s2:Int) (q:jr) (a:l7),bF KT ((s0,s1,s2,()),q,a,())→(Sp.bQ (s0,s1,s2,())∧q.length≤(1000:Nat)∧Sp.bJ a)→ahx s0 s1 s2 q a fun r=>r=((Sp.sel s1 q (Sp.bD a),()))):aA prog G zl CO:=
 aT env mixed (fn:=f133) (c:=codeOf f133) (by kernel_rfl) (by kernel_rfl) akw (by kernel_rfl) fun ⟨⟨s0,s1,s2,⟨⟩⟩,q,a,⟨⟩⟩ hin hp=>
 Eq.mpr (by kernel_rfl) (h s0 s1 s2 q a hin hp)
def akx:Hints:=Go.Fw.hints [] [(4,⟨[],⟨[(0, .one (.sl 3 (.cons (.int .i64) .nil) false)),(1, .one (.sl 3 (.cons (.int .i64) .nil) false)),(12, .one (.int .i64))],[]⟩,⟨[(13, .one (.int .i64))],[]⟩⟩)] [] [] []
def ahy (s1:bV) (s2:bV) (K:dD→Prop):Prop:=
 bif (↑s1.length:Int) !=(↑s2.length:Int) then K (false,())
 else
 let s0:=((s1,s2,(↑s1.length:Int),()),());
  ∃ (I:bn→Prop),
  ∃ (μ:bn→Nat),
  I (((0:Int),()),())∧
  ∀ (y1:bn),
  I y1→
  bif decide (y1.1.1<(↑s1.length:Int)) then
  ((0:Int)≤y1.1.1∧y1.1.1<(↑s1.length:Int))∧
  ((0:Int)≤y1.1.1∧y1.1.1<(↑s2.length:Int))∧
  bif (s1.getD (Int.toNat y1.1.1) ((0:Int),())).1 !=(s2.getD (Int.toNat y1.1.1) ((0:Int),())).1 then K (false,())
  else s0=s0∧I ((i64.wrap (y1.1.1+(1:Int)),()),())∧μ ((i64.wrap (y1.1.1+(1:Int)),()),())<μ y1
  else K (true,())
theorem agM (env:EnvB prog G Θ aie) (h:∀ (s1:bV) (s2:bV),bF KU (s1,s2,())→(True)→ahy s1 s2 fun r=>r=((decide (s1=s2),()))):aA prog G pV qE:=
 aT env mixed (fn:=f121) (c:=codeOf f121) (by kernel_rfl) (by kernel_rfl) akx (by kernel_rfl) fun ⟨s1,s2,⟨⟩⟩ hin hp=>
 Eq.mpr (by kernel_rfl) (h s1 s2 hin hp)
def adC:Hints:=Go.Fw.hints [] [] [] [] []
def ab3 (x0:eH) (x1:bV) (y0:eH) (y1:bV) (K:dD→Prop):Prop:=
 bif x0==y0 then
 True∧
 let r0:=decide (x1=y1);
  K (r0,())
  else K (false,())
theorem abA (env:EnvB prog G Θ ack) (h:∀ (x0:eH) (x1:bV) (y0:eH) (y1:bV),bF F5 ((x0,x1,()),(y0,y1,()),())→(True)→ab3 x0 x1 y0 y1 fun r=>r=((decide ((x0,x1,())=(y0,y1,())),()))):aA prog G lX mZ:=
 aT env mixed (fn:=f120) (c:=codeOf f120) (by kernel_rfl) (by kernel_rfl) adC (by kernel_rfl) fun ⟨⟨x0,x1,⟨⟩⟩,⟨y0,y1,⟨⟩⟩,⟨⟩⟩ hin hp=>
 Eq.mpr (by kernel_rfl) (h x0 x1 y0 y1 hin hp)
def vH:Hints:=Go.Fw.hints [] [(4,⟨[],⟨[(1, .one (.sl 104 (.cons .str (.cons (.sl 3 (.cons (.int .i64) .nil)) .nil)) false)),(2, .fn 120 []),(15, .one (.sl 104 (.cons .str (.cons (.sl 3 (.cons (.int .i64) .nil)) .nil)) false)),(16, .one (.int .i64))],[]⟩,⟨[(17, .one (.int .i64))],[]⟩⟩)] [] [] []
def um (s1:l7) (s2:l7) (K:dD→Prop):Prop:=
 bif (↑s1.length:Int) !=(↑s2.length:Int) then K (false,())
 else
 let s0:=((s2,(),s1,(↑s1.length:Int),()),());
  ∃ (I:bn→Prop),
  ∃ (μ:bn→Nat),
  I (((0:Int),()),())∧
  ∀ (y1:bn),
  I y1→
  bif decide (y1.1.1<(↑s1.length:Int)) then
  ((0:Int)≤y1.1.1∧y1.1.1<(↑s1.length:Int))∧
  ((0:Int)≤y1.1.1∧y1.1.1<(↑s2.length:Int))∧
  True∧
 let r2:=decide (s1.getD (Int.toNat y1.1.1) ([],[],())=s2.getD (Int.toNat y1.1.1) ([],[],()));
  bif !r2 then K (false,())
  else s0=s0∧I ((i64.wrap (y1.1.1+(1:Int)),()),())∧μ ((i64.wrap (y1.1.1+(1:Int)),()),())<μ y1
  else K (true,())
theorem uh (env:EnvB prog G Θ uV) (h:∀ (s1:l7) (s2:l7),bF iD (s1,s2,(()),())→(True)→um s1 s2 fun r=>r=((decide (s1=s2),()))):aA prog G dL eY:=
 aT env mixed (fn:=f119) (c:=codeOf f119) (by kernel_rfl) (by kernel_rfl) vH (by kernel_rfl) fun ⟨s1,s2,⟨⟩,⟨⟩⟩ hin hp=>
 Eq.mpr (by kernel_rfl) (h s1 s2 hin hp)
def ahz:Hints:=Go.Fw.hints [] [] [] [] []
def afx (a:l7) (b:l7) (K:dD→Prop):Prop:=
 True∧
 let r0:=decide (a=b);
  K (r0,())
theorem aeJ (env:EnvB prog G Θ agf) (h:∀ (a:l7) (b:l7),bF Js (a,b,())→(True)→afx a b fun r=>r=((decide (a=b),()))):aA prog G xQ Aq:=
 aT env mixed (fn:=f75) (c:=codeOf f75) (by kernel_rfl) (by kernel_rfl) ahz (by kernel_rfl) fun ⟨a,b,⟨⟩⟩ hin hp=>
 Eq.mpr (by kernel_rfl) (h a b hin hp)
def amH:Hints:=Go.Fw.hints [] [] [] [] []
def aky (d:jv) (K:bn→Prop):Prop:=
 Sp.aS d∧
 ∀ (r0:ZR),
 r0.1.2.1=Sp.aH d∧(r0.1.2.1=true→Sp.nR d r0.1.1)→
 bif !r0.1.2.1 then K (((-1:Int),()),())
 else
 bif (↑(List.length r0.1.1):Int)==(0:Int) then K (((-1:Int),()),())
 else (0:Nat)<List.length r0.1.1∧∀ (r1:bn),(∀ (x:iV),x∈r0.1.1→x.1≤r1.1.1)∧r1.1∈r0.1.1→K r1
theorem ajx (env:EnvB prog G Θ alp) (hne:∀ x,(NT x).1→∃ t,(NT x).2 t) (h:∀ (d:jv),dO uH (d,())→(Sp.aS d)→aky d fun (r:bn)=>(Sp.aS d,fun (x:bn)=>Sp.acg d x.1.1).2 r):aG prog G BD Eb:=
 bZ env mixed (fn:=f178) (c:=codeOf f178) (by kernel_rfl) (by kernel_rfl) amH (by kernel_rfl) hne fun ⟨d,⟨⟩⟩ hin hp=>
 Eq.mpr (by kernel_rfl) (h d hin hp)
def amI:Hints:=Go.Fw.hints [] [(4,⟨[],⟨[(3, .one (.sl 3 (.cons (.int .i64) .nil) true))],[]⟩,⟨[(5, .one (.int .i64)),(6, .one (.int .i64))],[]⟩⟩)] [] [] []
def akz (d:jv) (K:bn→Prop):Prop:=
 Sp.aS d∧
 ∀ (r0:ZR),
 r0.1.2.1=Sp.aH d∧(r0.1.2.1=true→Sp.nR d r0.1.1)∧(r0.1.2.1=false→r0.1.1=[])→
 let s1:=((r0.1.1,()),());
  ∃ (I:Ld→Prop),
  ∃ (μ:Ld→Nat),
  I (((-1:Int),(0:Int),()),())∧
  ∀ (y2:Ld),
  I y2→
  bif decide (y2.1.2.1<(↑(List.length r0.1.1):Int)) then
  ((0:Int)≤y2.1.2.1∧y2.1.2.1<(↑(List.length r0.1.1):Int))∧
  bif decide ((List.getD r0.1.1 (Int.toNat y2.1.2.1) ((0:Int),())).1>y2.1.1) then
  ((0:Int)≤y2.1.2.1∧y2.1.2.1<(↑(List.length r0.1.1):Int))∧
  s1=s1∧
  I (((List.getD r0.1.1 (Int.toNat y2.1.2.1) ((0:Int),())).1,i64.wrap (y2.1.2.1+(1:Int)),()),())∧
  μ (((List.getD r0.1.1 (Int.toNat y2.1.2.1) ((0:Int),())).1,i64.wrap (y2.1.2.1+(1:Int)),()),())<μ y2
  else
  s1=s1∧
  I ((y2.1.1,i64.wrap (y2.1.2.1+(1:Int)),()),())∧μ ((y2.1.1,i64.wrap (y2.1.2.1+(1:Int)),()),())<μ y2
  else K ((y2.1.1,()),())
theorem ajA (env:EnvB prog G Θ alq) (hne:∀ x,(NU x).1→∃ t,(NU x).2 t) (h:∀ (d:jv),dO uI (d,())→(Sp.aS d)→akz d fun (r:bn)=>(Sp.aS d,fun (x:bn)=>Sp.acg d x.1.1).2 r):aG prog G BF Ec:=
 bZ env mixed (fn:=f132) (c:=codeOf f132) (by kernel_rfl) (by kernel_rfl) amI (by kernel_rfl) hne fun ⟨d,⟨⟩⟩ hin hp=>
 Eq.mpr (by kernel_rfl) (h d hin hp)
def atc:Hints:=Go.Fw.hints [6] [(3,⟨[],⟨[(7, .one (.sl 124 (.cons .str (.cons (.sl 167 (.cons (.int .i64) (.cons (.int .i64) (.cons (.int .i64) (.cons .str (.cons (.int .i64) (.cons (.int .i64) (.cons .str .nil)))))))) .nil)) false)),(8, .one (.int .i64))],[]⟩,⟨[(3, .one (.ref 385)),(9, .one (.int .i64))],[(385, .arr 9 (.cons .str .nil) true)]⟩⟩)] [] [] []
def apQ (d:jv) (K:Ty5→Prop):Prop:=
 let s0:=((d,(↑d.length:Int),()),());
  ∃ (I:rG→Prop),
  ∃ (μ:rG→Nat),
  I (((),(0:Int),()),[],())∧
  ∀ (y1:rG),
  I y1→
  bif decide (y1.1.2.1<(↑d.length:Int)) then
  ((0:Int)≤y1.1.2.1∧y1.1.2.1<(↑d.length:Int))∧
  List.length y1.2.1+[((d.getD (Int.toNat y1.1.2.1) ([],[],())).1,())].length≤big∧
  s0=s0∧
  I (((),i64.wrap (y1.1.2.1+(1:Int)),()),y1.2.1++[((d.getD (Int.toNat y1.1.2.1) ([],[],())).1,())],())∧
  μ (((),i64.wrap (y1.1.2.1+(1:Int)),()),y1.2.1++[((d.getD (Int.toNat y1.1.2.1) ([],[],())).1,())],())<μ y1
  else K y1.2
theorem ao2 (env:EnvB prog G Θ aqz) (h:∀ (d:jv),bF Pq (d,())→(d.length≤(1000:Nat))→apQ d fun r=>r=((Sp.lT d,()))):aA prog G wo wP:=
 aT env mixed (fn:=f118) (c:=codeOf f118) (by kernel_rfl) (by kernel_rfl) atc (by kernel_rfl) fun ⟨d,⟨⟩⟩ hin hp=>
 Eq.mpr (by kernel_rfl) (h d hin hp)
def atd:Hints:=Go.Fw.hints [] [] [] [] []
def apR (s0:gW) (s1:iW) (s2:Int) (d:jv) (K:WR→Prop):Prop:=
 d.length≤(1000:Nat)∧
 (Sp.bQ (s0,s1,s2,())∧Sp.aS d∧Sp.bJ [])∧
 ∀ (r0:afa),
 r0.1.2.2.1=(Sp.aH d&&Sp.aN (s0,s1,s2,()))∧(r0.1.2.2.1=true→Sp.iY s1 d [] (Sp.iG (Sp.lT d)) r0.1.1)→
 K ((r0.1.1,r0.1.2.2),())
theorem ao7 (env:EnvB prog G Θ aqA) (hne:∀ x,(RG x).1→∃ t,(RG x).2 t) (h:∀ (s0:gW) (s1:iW) (s2:Int) (d:jv),dO yD ((s0,s1,s2,()),d,())→(Sp.bQ (s0,s1,s2,())∧Sp.aS d)→apR s0 s1 s2 d fun (r:WR)=>(Sp.bQ (s0,s1,s2,())∧Sp.aS d,fun (x:WR)=>
 x.1.2.1=(Sp.aH d&&Sp.aN (s0,s1,s2,()))∧(x.1.2.1=true→Sp.iY s1 d [] (fun (x:Sp.Bytes)=>true) x.1.1)).2
 r):aG prog G Fj GK:=
 bZ env mixed (fn:=f74) (c:=codeOf f74) (by kernel_rfl) (by kernel_rfl) atd (by kernel_rfl) hne fun ⟨⟨s0,s1,s2,⟨⟩⟩,d,⟨⟩⟩ hin hp=>
 Eq.mpr (by kernel_rfl) (h s0 s1 s2 d hin hp)
def amJ:Hints:=Go.Fw.hints [] [] [] [] []
def akA (s0:gW) (s1:iW) (s2:Int) (d:jv) (rZ:l7) (names:qU) (K:WR→Prop):Prop:=
 (Sp.bQ (s0,s1,s2,())∧Sp.aS d∧Sp.bJ rZ)∧
 ∀ (r0:afa),
 r0.1.2.2.1=(Sp.aH d&&Sp.aN (s0,s1,s2,()))∧(r0.1.2.2.1=true→Sp.iY s1 d rZ (Sp.iG names) r0.1.1)→K ((r0.1.1,r0.1.2.2),())
theorem ajC (env:EnvB prog G Θ alr) (hne:∀ x,(NV x).1→∃ t,(NV x).2 t) (h:∀ (s0:gW) (s1:iW) (s2:Int) (d:jv) (rZ:l7) (names:qU),dO uK ((s0,s1,s2,()),d,rZ,names,())→(Sp.bQ (s0,s1,s2,())∧Sp.aS d∧Sp.bJ rZ)→akA s0 s1 s2 d rZ names fun (r:WR)=>(Sp.bQ (s0,s1,s2,())∧Sp.aS d∧Sp.bJ rZ,fun (x:WR)=>
 x.1.2.1=(Sp.aH d&&Sp.aN (s0,s1,s2,()))∧(x.1.2.1=true→Sp.iY s1 d rZ (Sp.iG names) x.1.1)).2
 r):aG prog G BI Ed:=
 bZ env mixed (fn:=f110) (c:=codeOf f110) (by kernel_rfl) (by kernel_rfl) amJ (by kernel_rfl) hne fun ⟨⟨s0,s1,s2,⟨⟩⟩,d,rZ,names,⟨⟩⟩ hin hp=>
 Eq.mpr (by kernel_rfl) (h s0 s1 s2 d rZ names hin hp)
def ate:Hints:=Go.Fw.hints [] [] [] [] []
def apS (s0:gW) (s1:iW) (s2:Int) (d:jv) (K:WR→Prop):Prop:=
 (Sp.bQ (s0,s1,s2,())∧Sp.aS d)∧
 ∀ (r0:afa),
 r0.1.2.2.1=(Sp.aH d&&Sp.aN (s0,s1,s2,()))∧(r0.1.2.2.1=true→Sp.iY s1 d [] (fun (x:Sp.Bytes)=>true) r0.1.1)→
 K ((r0.1.1,r0.1.2.2),())
theorem ao9 (env:EnvB prog G Θ aqB) (hne:∀ x,(RH x).1→∃ t,(RH x).2 t) (h:∀ (s0:gW) (s1:iW) (s2:Int) (d:jv),dO yE ((s0,s1,s2,()),d,())→(Sp.bQ (s0,s1,s2,())∧Sp.aS d)→apS s0 s1 s2 d fun (r:WR)=>(Sp.bQ (s0,s1,s2,())∧Sp.aS d,fun (x:WR)=>
 x.1.2.1=(Sp.aH d&&Sp.aN (s0,s1,s2,()))∧(x.1.2.1=true→Sp.iY s1 d [] (fun (x:Sp.Bytes)=>true) x.1.1)).2
 r):aG prog G Fh GL:=
 bZ env mixed (fn:=f39) (c:=codeOf f39) (by kernel_rfl) (by kernel_rfl) ate (by kernel_rfl) hne fun ⟨⟨s0,s1,s2,⟨⟩⟩,d,⟨⟩⟩ hin hp=>
 Eq.mpr (by kernel_rfl) (h s0 s1 s2 d hin hp)
def amK:Hints:=Go.Fw.hints [] [] [] [] []
def akB (s0:gW) (s1:iW) (s2:Int) (d:jv) (K:(abS×dD)×Unit→Prop):Prop:=
 (Sp.bQ (s0,s1,s2,())∧Sp.aS d)∧
 ∀ (r0:WR),
 r0.1.2.1=(Sp.aH d&&Sp.aN (s0,s1,s2,()))∧(r0.1.2.1=true→Sp.iY s1 d [] (fun (x:Sp.Bytes)=>true) r0.1.1)→
 bif !r0.1.2.1 then K ((([],[],(0:Int),[],[],()),false,()),())
 else
 Sp.bQ (s0,s1,s2,())∧
 ∀ (r1:Om),
 r1.1.1=(s0,s1,s2,())→Sp.aS d∧K (((r1.1.1.1,r1.1.1.2.1,r1.1.1.2.2.1,d,r0.1.1,()),true,()),())
theorem ajE (env:EnvB prog G Θ als) (hne:∀ x,(NW x).1→∃ t,(NW x).2 t) (h:∀ (s0:gW) (s1:iW) (s2:Int) (d:jv),dO uM ((s0,s1,s2,()),d,())→(Sp.bQ (s0,s1,s2,())∧Sp.aS d)→akB s0 s1 s2 d fun (r:(abS×dD)×Unit)=>(Sp.bQ (s0,s1,s2,())∧Sp.aS d,
 fun
 (x:
 (abS×dD)×Unit)=>
 x.1.2.1=(Sp.aH d&&Sp.aN (s0,s1,s2,()))∧
 (x.1.2.1=true→
 (x.1.1.1,x.1.1.2.1,x.1.1.2.2.1,())=(s0,s1,s2,())∧x.1.1.2.2.2.1=d∧Sp.iY s1 d [] (fun (x:Sp.Bytes)=>true) x.1.1.2.2.2.2.1)∧
 (x.1.2.1=false→x.1.1=([],[],(0:Int),[],[],()))).2
 r):aG prog G BK Ee:=
 bZ env mixed (fn:=f102) (c:=codeOf f102) (by kernel_rfl) (by kernel_rfl) amK (by kernel_rfl) hne fun ⟨⟨s0,s1,s2,⟨⟩⟩,d,⟨⟩⟩ hin hp=>
 Eq.mpr (by kernel_rfl) (h s0 s1 s2 d hin hp)
def apT:Hints:=Go.Fw.hints [] [] [] [] []
def amL (c0:gW) (c1:iW) (c2:Int) (c3:jv) (c4:l7) (K:dD→Prop):Prop:=
 (Sp.bQ (c0,c1,c2,())∧Sp.aS c3)∧
 ∀ (r0:WR),
 r0.1.2.1=(Sp.aH c3&&Sp.aN (c0,c1,c2,()))∧(r0.1.2.1=true→Sp.iY c1 c3 [] (fun (x:Sp.Bytes)=>true) r0.1.1)→
 bif r0.1.2.1 then
 True∧
 let r1:=decide (r0.1.1=c4);
  K (r1,())
  else K (false,())
theorem amc (env:EnvB prog G Θ an1) (h:∀ (c0:gW) (c1:iW) (c2:Int) (c3:jv) (c4:l7),bF NY ((c0,c1,c2,c3,c4,()),())→(Sp.uN (c0,c1,c2,c3,c4,()))→amL c0 c1 c2 c3 c4 fun r=>r=((Sp.yQ (c0,c1,c2,c3,c4,()),()))):aA prog G DL EX:=
 aT env mixed (fn:=f37) (c:=codeOf f37) (by kernel_rfl) (by kernel_rfl) apT (by kernel_rfl) fun ⟨⟨c0,c1,c2,c3,c4,⟨⟩⟩,⟨⟩⟩ hin hp=>
 Eq.mpr (by kernel_rfl) (h c0 c1 c2 c3 c4 hin hp)
def awY:Hints:=Go.Fw.hints [] [] [] [] []
def avq (s0:gW) (s1:iW) (s2:Int) (id:Int) (K:iV→Prop):Prop:=
 True∧K (Sp.place s1 id,())
theorem auD (env:EnvB prog G Θ awu) (h:∀ (s0:gW) (s1:iW) (s2:Int) (id:Int),bF UR ((s0,s1,s2,()),id,())→(True)→avq s0 s1 s2 id fun r=>r=((Sp.place s1 id,()))):aA prog G Ba Ar:=
 aT env mixed (fn:=f106) (c:=codeOf f106) (by kernel_rfl) (by kernel_rfl) awY (by kernel_rfl) fun ⟨⟨s0,s1,s2,⟨⟩⟩,id,⟨⟩⟩ hin hp=>
 Eq.mpr (by kernel_rfl) (h s0 s1 s2 id hin hp)
def atf:Hints:=Go.Fw.hints [] [] [] [] []
def apU (f0:Int) (f1:Int) (f2:Bool) (f3:Int) (f4:iq) (p10:Int) (K:dD→Prop):Prop:=
 K (f0==p10,())
theorem ao3 (env:EnvB prog G Θ aqC) (h:∀ (f0:Int) (f1:Int) (f2:Bool) (f3:Int) (f4:iq) (p10:Int),bF Px ((f0,f1,f2,f3,f4,()),(p10,()),())→(True)→apU f0 f1 f2 f3 f4 p10 fun r=>r=((decide (f0=p10),()))):aA prog G wu wQ:=
 aT env mixed (fn:=f161) (c:=codeOf f161) (by kernel_rfl) (by kernel_rfl) atf (by kernel_rfl) fun ⟨⟨f0,f1,f2,f3,f4,⟨⟩⟩,⟨p10,⟨⟩⟩,⟨⟩⟩ hin hp=>
 Eq.mpr (by kernel_rfl) (h f0 f1 f2 f3 f4 p10 hin hp)
def Gt:Hints:=Go.Fw.hints [] [(2,⟨[],⟨[(0, .one (.sl 56 (.cons (.int .i64) (.cons (.int .i64) (.cons .bool (.cons (.int .i64) (.cons (.sl 94 (.cons .str (.cons (.int .i64) (.cons (.int .i64) (.cons .str .nil))))) .nil))))) false)),(1, .fn 161 [[.int .i64]]),(7, .one (.int .i64))],[]⟩,⟨[(8, .one (.int .i64))],[]⟩⟩)] [] [] []
def Gl (s:iW) (lq:Int) (K:iV→Prop):Prop:=
 let s0:=((s,((lq,()),()),(↑s.length:Int),()),());
  ∃ (I:bn→Prop),
  ∃ (μ:bn→Nat),
  I (((0:Int),()),())∧
  ∀ (y1:bn),
  I y1→
  bif decide (y1.1.1<(↑s.length:Int)) then
  ((0:Int)≤y1.1.1∧y1.1.1<(↑s.length:Int))∧
  True∧
 let r2:=decide ((s.getD (Int.toNat y1.1.1) ((0:Int),(0:Int),false,(0:Int),[],())).1=lq);
  bif r2 then K y1.1 else s0=s0∧I ((i64.wrap (y1.1.1+(1:Int)),()),())∧μ ((i64.wrap (y1.1.1+(1:Int)),()),())<μ y1
  else K ((-1:Int),())
theorem Gh (env:EnvB prog G Θ Gq) (h:∀ (s:iW) (lq:Int),bF kX (s,((lq,()),()),())→(True)→Gl s lq fun r=>r=((Sp.place s lq,()))):aA prog G iC je:=
 aT env mixed (fn:=f160) (c:=codeOf f160) (by kernel_rfl) (by kernel_rfl) Gt (by kernel_rfl) fun ⟨s,⟨⟨lq,⟨⟩⟩,⟨⟩⟩,⟨⟩⟩ hin hp=>
 Eq.mpr (by kernel_rfl) (h s lq hin hp)
def atg:Hints:=Go.Fw.hints [] [] [] [] []
def apV (s0:gW) (s1:iW) (s2:Int) (id:Int) (K:Vf×dD→Prop):Prop:=
 True∧
 bif decide (Sp.place s1 id≥(0:Int)) then
 ((0:Int)≤Sp.place s1 id∧Sp.place s1 id<(↑s1.length:Int))∧
 Sp.dK (s1.getD (Sp.place s1 id).toNat ((0:Int),(0:Int),false,(0:Int),[],()))∧
 let r0:=(s1.getD (Sp.place s1 id).toNat ((0:Int),(0:Int),false,(0:Int),[],())).1;
 let r1:=(s1.getD (Sp.place s1 id).toNat ((0:Int),(0:Int),false,(0:Int),[],())).2.1;
 let r2:=(s1.getD (Sp.place s1 id).toNat ((0:Int),(0:Int),false,(0:Int),[],())).2.2.1;
 let r3:=(s1.getD (Sp.place s1 id).toNat ((0:Int),(0:Int),false,(0:Int),[],())).2.2.2.1;
 let r4:=(s1.getD (Sp.place s1 id).toNat ((0:Int),(0:Int),false,(0:Int),[],())).2.2.2.2.1;
  K ((r0,r1,r2,r3,r4,()),true,())
  else K (((0:Int),(0:Int),false,(0:Int),[],()),false,())
theorem ao5 (env:EnvB prog G Θ aqD) (h:∀ (s0:gW) (s1:iW) (s2:Int) (id:Int),bF Py ((s0,s1,s2,()),id,())→(Sp.bQ (s0,s1,s2,()))→apV s0 s1 s2 id fun r=>r=(((Sp.jY (s0,s1,s2,()) id).1,(Sp.jY (s0,s1,s2,()) id).2,()))):aA prog G Fp GN:=
 aT env mixed (fn:=f69) (c:=codeOf f69) (by kernel_rfl) (by kernel_rfl) atg (by kernel_rfl) fun ⟨⟨s0,s1,s2,⟨⟩⟩,id,⟨⟩⟩ hin hp=>
 Eq.mpr (by kernel_rfl) (h s0 s1 s2 id hin hp)
def akC:Hints:=Go.Fw.hints [9,33,9,13,15,25,33] [] [] [] []
def ahA (s0:gW) (s1:iW) (s2:Int) (f0:Int) (f1:Int) (f2:Bool) (f3:Int) (f4:iq) (K:akb→Prop):Prop:=
 Sp.bQ (s0,s1,s2,())∧
 ∀ (r0:Om),
 r0.1.1=(s0,s1,s2,())→
 True∧
 True∧
 let r1:=Sp.aN (s0,s1,s2,());
  bif !r1 then K ((r0.1.1,false,()),())
  else
  bif decide (Sp.place s1 f0<(0:Int)) then K ((r0.1.1,false,()),())
  else
  True∧
 let r2:=Sp.dA s0 (f0,f1,f2,f3,f4,());
  bif !r2 then K ((r0.1.1,false,()),())
  else
  Sp.dK (f0,f1,f2,f3,f4,())∧
  ((0:Int)≤Sp.place s1 f0∧Sp.place s1 f0<(↑(List.length r0.1.1.2.1):Int))∧
  (Sp.place s1 f0).toNat<List.length r0.1.1.2.1∧
  K (((r0.1.1.1,List.set r0.1.1.2.1 (Sp.place s1 f0).toNat (f0,f1,f2,f3,f4,()),r0.1.1.2.2),true,()),())
theorem agQ (env:EnvB prog G Θ aif) (hne:∀ x,(LU x).1→∃ t,(LU x).2 t) (h:∀ (s0:gW) (s1:iW) (s2:Int) (f0:Int) (f1:Int) (f2:Bool) (f3:Int) (f4:iq),dO sD ((s0,s1,s2,()),(f0,f1,f2,f3,f4,()),())→(Sp.bQ (s0,s1,s2,())∧Sp.dK (f0,f1,f2,f3,f4,()))→ahA s0 s1 s2 f0 f1 f2 f3 f4 fun (r:akb)=>(Sp.bQ (s0,s1,s2,())∧Sp.dK (f0,f1,f2,f3,f4,()),
 fun (x:akb)=>
 x.1.1.1=(Sp.bU (s0,s1,s2,()) (f0,f1,f2,f3,f4,())).1.1∧
 x.1.1.2.1=(Sp.bU (s0,s1,s2,()) (f0,f1,f2,f3,f4,())).1.2.1∧
 x.1.1.2.2.1=(Sp.bU (s0,s1,s2,()) (f0,f1,f2,f3,f4,())).1.2.2.1∧
 x.1.2.1=(Sp.bU (s0,s1,s2,()) (f0,f1,f2,f3,f4,())).2).2
 r):aG prog G zq CP:=
 bZ env mixed (fn:=f67) (c:=codeOf f67) (by kernel_rfl) (by kernel_rfl) akC (by kernel_rfl) hne fun ⟨⟨s0,s1,s2,⟨⟩⟩,⟨f0,f1,f2,f3,f4,⟨⟩⟩,⟨⟩⟩ hin hp=>
 Eq.mpr (by kernel_rfl) (h s0 s1 s2 f0 f1 f2 f3 f4 hin hp)
def apW:Hints:=Go.Fw.hints [6] [(3,⟨[],⟨[(8, .one (.sl 94 (.cons .str (.cons (.int .i64) (.cons (.int .i64) (.cons .str .nil)))) false)),(9, .one (.int .i64))],[]⟩,⟨[(3, .one (.ref 385)),(10, .one (.int .i64))],[(385, .arr 9 (.cons .str .nil) true)]⟩⟩)] [] [] []
def amM (f0:Int) (f1:Int) (f2:Bool) (f3:Int) (f4:iq) (K:Ty5→Prop):Prop:=
 let s0:=((f4,(↑f4.length:Int),()),());
  ∃ (I:rG→Prop),
  ∃ (μ:rG→Nat),
  I (((),(0:Int),()),[],())∧
  ∀ (y1:rG),
  I y1→
  bif decide (y1.1.2.1<(↑f4.length:Int)) then
  ((0:Int)≤y1.1.2.1∧y1.1.2.1<(↑f4.length:Int))∧
  List.length y1.2.1+[((f4.getD (Int.toNat y1.1.2.1) ([],(0:Int),(0:Int),[],())).1,())].length≤big∧
  s0=s0∧
  I
  (((),i64.wrap (y1.1.2.1+(1:Int)),()),y1.2.1++[((f4.getD (Int.toNat y1.1.2.1) ([],(0:Int),(0:Int),[],())).1,())],
  ())∧
  μ
  (((),i64.wrap (y1.1.2.1+(1:Int)),()),y1.2.1++[((f4.getD (Int.toNat y1.1.2.1) ([],(0:Int),(0:Int),[],())).1,())],
  ())<
  μ y1
  else K y1.2
theorem amd (env:EnvB prog G Θ an2) (h:∀ (f0:Int) (f1:Int) (f2:Bool) (f3:Int) (f4:iq),bF NZ ((f0,f1,f2,f3,f4,()),())→(f4.length≤(1000:Nat))→amM f0 f1 f2 f3 f4 fun r=>r=((Sp.kU f4,()))):aA prog G Zx VI:=
 aT env mixed (fn:=f215) (c:=codeOf f215) (by kernel_rfl) (by kernel_rfl) apW (by kernel_rfl) fun ⟨⟨f0,f1,f2,f3,f4,⟨⟩⟩,⟨⟩⟩ hin hp=>
 Eq.mpr (by kernel_rfl) (h f0 f1 f2 f3 f4 hin hp)
def ahB:Hints:=Go.Fw.hints [8,10] [(3,⟨[],⟨[(2, .fM [.int .i64, .int .i64, .bool, .int .i64, .sl 94 (.cons .str (.cons (.int .i64) (.cons (.int .i64) (.cons .str .nil)))) false] 0),(3, .fM [.int .i64, .int .i64, .bool, .int .i64, .sl 94 (.cons .str (.cons (.int .i64) (.cons (.int .i64) (.cons .str .nil)))) false] 0),(13, .one (.ref 833)),(14, .one (.int .i64))],[(833, .arr 9 (.cons .str .nil) true)]⟩,⟨[(5, .one (.ref 513)),(15, .one (.int .i64))],[(513, .arr 9 (.cons .str .nil) true)]⟩⟩)] [] [] []
def afy (a0:Int) (a1:Int) (a2:Bool) (a3:Int) (a4:iq) (b0:Int) (b1:Int) (b2:Bool) (b3:Int) (b4:iq) (K:gG→Prop):Prop:=
 a4.length≤(1000:Nat)∧
 ∀ (r0:gG),
 r0.1.1=Sp.kU a4→
 b4.length≤(1000:Nat)∧
 ∀ (r1:gG),
 r1.1.1=Sp.kU b4→
 List.length r0.1.1+List.length r1.1.1≤big∧
 let s2:=(((a0,a1,a2,a3,a4,()),(b0,b1,b2,b3,b4,()),(),(↑(r0.1.1++r1.1.1).length:Int),()),r0.1.1++r1.1.1,());
  ∃ (I:rG→Prop),
  ∃ (μ:rG→Nat),
  I (((),(0:Int),()),[],())∧
  ∀ (y3:rG),
  I y3→
  bif decide (y3.1.2.1<(↑(r0.1.1++r1.1.1).length:Int)) then
  ((0:Int)≤y3.1.2.1∧y3.1.2.1<(↑(r0.1.1++r1.1.1).length:Int))∧
  Int.toNat y3.1.2.1<(r0.1.1++r1.1.1).length∧
  True∧
 let r4:=(Sp.dF a4 ((r0.1.1++r1.1.1).getD (Int.toNat y3.1.2.1) ([],())).1).1;
 let r5:=(Sp.dF a4 ((r0.1.1++r1.1.1).getD (Int.toNat y3.1.2.1) ([],())).1).2.1;
 let r6:=(Sp.dF a4 ((r0.1.1++r1.1.1).getD (Int.toNat y3.1.2.1) ([],())).1).2.2.1;
  True∧
 let r7:=(Sp.dF b4 ((r0.1.1++r1.1.1).getD (Int.toNat y3.1.2.1) ([],())).1).1;
 let r8:=(Sp.dF b4 ((r0.1.1++r1.1.1).getD (Int.toNat y3.1.2.1) ([],())).1).2.1;
 let r9:=(Sp.dF b4 ((r0.1.1++r1.1.1).getD (Int.toNat y3.1.2.1) ([],())).1).2.2.1;
  bif !(r4==r7&&(r5==r8&&(r6==r9&&true))) then
  List.length y3.2.1+[(r0.1.1++r1.1.1).getD (Int.toNat y3.1.2.1) ([],())].length≤big∧
  s2=s2∧
  I
  (((),i64.wrap (y3.1.2.1+(1:Int)),()),
  y3.2.1++[(r0.1.1++r1.1.1).getD (Int.toNat y3.1.2.1) ([],())],())∧
  μ
  (((),i64.wrap (y3.1.2.1+(1:Int)),()),
  y3.2.1++[(r0.1.1++r1.1.1).getD (Int.toNat y3.1.2.1) ([],())],())<
  μ y3
  else
  s2=s2∧
  I (((),i64.wrap (y3.1.2.1+(1:Int)),()),y3.2)∧
  μ (((),i64.wrap (y3.1.2.1+(1:Int)),()),y3.2)<μ y3
  else
  List.length y3.2.1≤(1000:Nat)∧
  ∀ (r10:gG),
  (r10.1.1.length≤List.length y3.2.1∧∀ (s:PY),s∈r10.1.1↔s∈y3.2.1)→K r10
theorem aeN (env:EnvB prog G Θ agh) (hne:∀ x,(KW x).1→∃ t,(KW x).2 t) (h:∀ (a0:Int) (a1:Int) (a2:Bool) (a3:Int) (a4:iq) (b0:Int) (b1:Int) (b2:Bool) (b3:Int) (b4:iq),dO qF ((a0,a1,a2,a3,a4,()),(b0,b1,b2,b3,b4,()),())→(Sp.dK (a0,a1,a2,a3,a4,())∧Sp.dK (b0,b1,b2,b3,b4,())∧a4.length+b4.length≤(1000:Nat))→afy a0 a1 a2 a3 a4 b0 b1 b2 b3 b4 fun (r:gG)=>(Sp.dK (a0,a1,a2,a3,a4,())∧Sp.dK (b0,b1,b2,b3,b4,())∧a4.length+b4.length≤(1000:Nat),fun (x:gG)=>
 Sp.dN x.1.1 (Sp.oH (a0,a1,a2,a3,a4,()) (b0,b1,b2,b3,b4,()))).2
 r):aG prog G xR Au:=
 bZ env mixed (fn:=f172) (c:=codeOf f172) (by kernel_rfl) (by kernel_rfl) ahB (by kernel_rfl) hne fun ⟨⟨a0,a1,a2,a3,a4,⟨⟩⟩,⟨b0,b1,b2,b3,b4,⟨⟩⟩,⟨⟩⟩ hin hp=>
 Eq.mpr (by kernel_rfl) (h a0 a1 a2 a3 a4 b0 b1 b2 b3 b4 hin hp)
end Go.Proofs.Tryz

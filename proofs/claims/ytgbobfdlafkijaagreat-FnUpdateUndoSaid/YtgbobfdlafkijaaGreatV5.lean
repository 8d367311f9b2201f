import Derived.Test.YtgbobfdlafkijaaGreatV1
namespace Go.Proofs.Tryz
open Go Go.Fw
set_option maxRecDepth 100000
open Go.IntKind (i64)
def amN:Hints:=Go.Fw.hints [6] [(3,⟨[],⟨[(7, .one (.sl 167 (.cons (.int .i64) (.cons (.int .i64) (.cons (.int .i64) (.cons .str (.cons (.int .i64) (.cons (.int .i64) (.cons .str .nil))))))) false)),(8, .one (.int .i64))],[]⟩,⟨[(3, .one (.ref 385)),(9, .one (.int .i64))],[(385, .arr 9 (.cons .str .nil) true)]⟩⟩)] [] [] []
def akD (q:jr) (K:gG→Prop):Prop:=
 let s0:=((q,(↑q.length:Int),()),());
  ∃ (I:rG→Prop),
  ∃ (μ:rG→Nat),
  I (((),(0:Int),()),[],())∧
  ∀ (y1:rG),
  I y1→
  bif decide (y1.1.2.1<(↑q.length:Int)) then
  ((0:Int)≤y1.1.2.1∧y1.1.2.1<(↑q.length:Int))∧
  bif (q.getD (Int.toNat y1.1.2.1) ((0:Int),(0:Int),(0:Int),[],(0:Int),(0:Int),[],())).1==(2:Int) then
  List.length y1.2.1+[((q.getD (Int.toNat y1.1.2.1) ((0:Int),(0:Int),(0:Int),[],(0:Int),(0:Int),[],())).2.2.2.1,())].length≤
  big∧
  s0=s0∧
  I
  (((),i64.wrap (y1.1.2.1+(1:Int)),()),
  y1.2.1++[((q.getD (Int.toNat y1.1.2.1) ((0:Int),(0:Int),(0:Int),[],(0:Int),(0:Int),[],())).2.2.2.1,())],())∧
  μ
  (((),i64.wrap (y1.1.2.1+(1:Int)),()),
  y1.2.1++[((q.getD (Int.toNat y1.1.2.1) ((0:Int),(0:Int),(0:Int),[],(0:Int),(0:Int),[],())).2.2.2.1,())],())<
  μ y1
  else
  bif (q.getD (Int.toNat y1.1.2.1) ((0:Int),(0:Int),(0:Int),[],(0:Int),(0:Int),[],())).1==(3:Int) then
  List.length y1.2.1+[((q.getD (Int.toNat y1.1.2.1) ((0:Int),(0:Int),(0:Int),[],(0:Int),(0:Int),[],())).2.2.2.1,())].length≤
  big∧
  s0=s0∧
  I
  (((),i64.wrap (y1.1.2.1+(1:Int)),()),
  y1.2.1++[((q.getD (Int.toNat y1.1.2.1) ((0:Int),(0:Int),(0:Int),[],(0:Int),(0:Int),[],())).2.2.2.1,())],())∧
  μ
  (((),i64.wrap (y1.1.2.1+(1:Int)),()),
  y1.2.1++[((q.getD (Int.toNat y1.1.2.1) ((0:Int),(0:Int),(0:Int),[],(0:Int),(0:Int),[],())).2.2.2.1,())],())<
  μ y1
  else
  bif (q.getD (Int.toNat y1.1.2.1) ((0:Int),(0:Int),(0:Int),[],(0:Int),(0:Int),[],())).1==(4:Int) then
  List.length y1.2.1+
  [((q.getD (Int.toNat y1.1.2.1) ((0:Int),(0:Int),(0:Int),[],(0:Int),(0:Int),[],())).2.2.2.1,())].length≤
  big∧
  s0=s0∧
  I
  (((),i64.wrap (y1.1.2.1+(1:Int)),()),
  y1.2.1++[((q.getD (Int.toNat y1.1.2.1) ((0:Int),(0:Int),(0:Int),[],(0:Int),(0:Int),[],())).2.2.2.1,())],())∧
  μ
  (((),i64.wrap (y1.1.2.1+(1:Int)),()),
  y1.2.1++[((q.getD (Int.toNat y1.1.2.1) ((0:Int),(0:Int),(0:Int),[],(0:Int),(0:Int),[],())).2.2.2.1,())],())<
  μ y1
  else s0=s0∧I (((),i64.wrap (y1.1.2.1+(1:Int)),()),y1.2)∧μ (((),i64.wrap (y1.1.2.1+(1:Int)),()),y1.2)<μ y1
  else
  List.length y1.2.1≤(1000:Nat)∧
  ∀ (r2:gG),(r2.1.1.length≤List.length y1.2.1∧∀ (s:PY),s∈r2.1.1↔s∈y1.2.1)→K r2
theorem ajI (env:EnvB prog G Θ alu) (hne:∀ x,(N7 x).1→∃ t,(N7 x).2 t) (h:∀ (q:jr),dO uO (q,())→(q.length≤(1000:Nat))→akD q fun (r:gG)=>(q.length≤(1000:Nat),fun (x:gG)=>Sp.dN x.1.1 (Sp.wR q)).2 r):aG prog G BH Ef:=
 bZ env mixed (fn:=f173) (c:=codeOf f173) (by kernel_rfl) (by kernel_rfl) amN (by kernel_rfl) hne fun ⟨q,⟨⟩⟩ hin hp=>
 Eq.mpr (by kernel_rfl) (h q hin hp)
def apX:Hints:=Go.Fw.hints [6] [(3,⟨[],⟨[(7, .one (.sl 167 (.cons (.int .i64) (.cons (.int .i64) (.cons (.int .i64) (.cons .str (.cons (.int .i64) (.cons (.int .i64) (.cons .str .nil))))))) false)),(8, .one (.int .i64))],[]⟩,⟨[(3, .one (.ref 385)),(9, .one (.int .i64))],[(385, .arr 9 (.cons .str .nil) true)]⟩⟩)] [] [] []
def amO (q:jr) (K:gG→Prop):Prop:=
 let s0:=((q,(↑q.length:Int),()),());
  ∃ (I:rG→Prop),
  ∃ (μ:rG→Nat),
  I (((),(0:Int),()),[],())∧
  ∀ (y1:rG),
  I y1→
  bif decide (y1.1.2.1<(↑q.length:Int)) then
  ((0:Int)≤y1.1.2.1∧y1.1.2.1<(↑q.length:Int))∧
  True∧
 let r2:=
  (q.getD (Int.toNat y1.1.2.1) ((0:Int),(0:Int),(0:Int),[],(0:Int),(0:Int),[],())).1==(8:Int)||
  (q.getD (Int.toNat y1.1.2.1) ((0:Int),(0:Int),(0:Int),[],(0:Int),(0:Int),[],())).1==(9:Int);
  bif r2 then
  List.length y1.2.1+[((q.getD (Int.toNat y1.1.2.1) ((0:Int),(0:Int),(0:Int),[],(0:Int),(0:Int),[],())).2.2.2.1,())].length≤
  big∧
  s0=s0∧
  I
  (((),i64.wrap (y1.1.2.1+(1:Int)),()),
  y1.2.1++[((q.getD (Int.toNat y1.1.2.1) ((0:Int),(0:Int),(0:Int),[],(0:Int),(0:Int),[],())).2.2.2.1,())],())∧
  μ
  (((),i64.wrap (y1.1.2.1+(1:Int)),()),
  y1.2.1++[((q.getD (Int.toNat y1.1.2.1) ((0:Int),(0:Int),(0:Int),[],(0:Int),(0:Int),[],())).2.2.2.1,())],())<
  μ y1
  else s0=s0∧I (((),i64.wrap (y1.1.2.1+(1:Int)),()),y1.2)∧μ (((),i64.wrap (y1.1.2.1+(1:Int)),()),y1.2)<μ y1
  else
  List.length y1.2.1≤(1000:Nat)∧
  ∀ (r3:gG),(r3.1.1.length≤List.length y1.2.1∧∀ (s:PY),s∈r3.1.1↔s∈y1.2.1)→K r3
theorem amf (env:EnvB prog G Θ an3) (hne:∀ x,(Pz x).1→∃ t,(Pz x).2 t) (h:∀ (q:jr),dO wS (q,())→(q.length≤(1000:Nat))→amO q fun (r:gG)=>(q.length≤(1000:Nat),fun (x:gG)=>Sp.dN x.1.1 (Sp.JV q)).2 r):aG prog G DJ EY:=
 bZ env mixed (fn:=f211) (c:=codeOf f211) (by kernel_rfl) (by kernel_rfl) apX (by kernel_rfl) hne fun ⟨q,⟨⟩⟩ hin hp=>
 Eq.mpr (by kernel_rfl) (h q hin hp)
def amP:Hints:=Go.Fw.hints [8] [(3,⟨[],⟨[(1, .one (.str)),(9, .one (.sl 124 (.cons .str (.cons (.sl 167 (.cons (.int .i64) (.cons (.int .i64) (.cons (.int .i64) (.cons .str (.cons (.int .i64) (.cons (.int .i64) (.cons .str .nil)))))))) .nil)) false)),(10, .one (.int .i64))],[]⟩,⟨[(5, .one (.ref 513)),(11, .one (.int .i64))],[(513, .arr 9 (.cons .str .nil) true)]⟩⟩)] [] [] []
def akE (d:jv) (name:eH) (K:gG→Prop):Prop:=
 let s0:=((name,d,(↑d.length:Int),()),());
  ∃ (I:rG→Prop),
  ∃ (μ:rG→Nat),
  I (((),(0:Int),()),[],())∧
  ∀ (y1:rG),
  I y1→
  bif decide (y1.1.2.1<(↑d.length:Int)) then
  ((0:Int)≤y1.1.2.1∧y1.1.2.1<(↑d.length:Int))∧
  List.length (d.getD (Int.toNat y1.1.2.1) ([],[],())).2.1≤(1000:Nat)∧
  ∀ (r2:gG),
  Sp.dN r2.1.1 (Sp.JV (d.getD (Int.toNat y1.1.2.1) ([],[],())).2.1)→
  True∧
 let r3:=Sp.iG r2.1.1 name;
  bif r3 then
  List.length y1.2.1+[((d.getD (Int.toNat y1.1.2.1) ([],[],())).1,())].length≤big∧
  s0=s0∧
  I (((),i64.wrap (y1.1.2.1+(1:Int)),()),y1.2.1++[((d.getD (Int.toNat y1.1.2.1) ([],[],())).1,())],())∧
  μ (((),i64.wrap (y1.1.2.1+(1:Int)),()),y1.2.1++[((d.getD (Int.toNat y1.1.2.1) ([],[],())).1,())],())<μ y1
  else
  s0=s0∧I (((),i64.wrap (y1.1.2.1+(1:Int)),()),y1.2)∧μ (((),i64.wrap (y1.1.2.1+(1:Int)),()),y1.2)<μ y1
  else K (y1.2,())
theorem ajK (env:EnvB prog G Θ alv) (hne:∀ x,(N8 x).1→∃ t,(N8 x).2 t) (h:∀ (d:jv) (name:eH),dO uP (d,name,())→(Sp.aS d)→akE d name fun (r:gG)=>(Sp.aS d,fun (x:gG)=>x.1.1=Sp.asking d name).2 r):aG prog G BG Eg:=
 bZ env mixed (fn:=f169) (c:=codeOf f169) (by kernel_rfl) (by kernel_rfl) amP (by kernel_rfl) hne fun ⟨d,name,⟨⟩⟩ hin hp=>
 Eq.mpr (by kernel_rfl) (h d name hin hp)
def Wl:Hints:=Go.Fw.hints [10] [(3,⟨[],⟨[(0, .one (.sl 124 (.cons .str (.cons (.sl 167 (.cons (.int .i64) (.cons (.int .i64) (.cons (.int .i64) (.cons .str (.cons (.int .i64) (.cons (.int .i64) (.cons .str .nil)))))))) .nil)) false))],[]⟩,⟨[(5, .one (.ref 641)),(6, .one (.int .i64))],[(641, .arr 9 (.cons .str .nil) false)]⟩⟩),(6,⟨[],⟨[(0, .one (.sl 124 (.cons .str (.cons (.sl 167 (.cons (.int .i64) (.cons (.int .i64) (.cons (.int .i64) (.cons .str (.cons (.int .i64) (.cons (.int .i64) (.cons .str .nil)))))))) .nil)) false)),(6, .one (.int .i64)),(22, .one (.sl 9 (.cons .str .nil) true)),(23, .one (.int .i64))],[]⟩,⟨[(5, .one (.ref 641)),(24, .one (.int .i64))],[(641, .arr 9 (.cons .str .nil) false)]⟩⟩)] [] [] []
def Vg (d:jv) (names:qU) (K:gG→Prop):Prop:=
 names.length≤(1000:Nat)∧
 ∀ (r0:gG),
 r0.1.1=names→
 let s1:=((d,()),());
  ∃ (I:rG→Prop),
  ∃ (μ:rG→Nat),
  I (((),(0:Int),()),r0.1)∧
  ∀ (y2:rG),
  I y2→
  bif decide (y2.1.2.1<(↑(List.length y2.2.1):Int)) then
  ((0:Int)≤y2.1.2.1∧y2.1.2.1<(↑(List.length y2.2.1):Int))∧
  Int.toNat y2.1.2.1<List.length y2.2.1∧
  Sp.aS d∧
  ∀ (r3:gG),
  r3.1.1=Sp.asking d (List.getD y2.2.1 (Int.toNat y2.1.2.1) ([],())).1→
 let s4:=((d,y2.1.2.1,r3.1.1,(↑(List.length r3.1.1):Int),()),());
  ∃ (Gn:rG→Prop),
  ∃ (IG:rG→Nat),
  Gn (((),(0:Int),()),y2.2)∧
  ∀ (y5:rG),
  Gn y5→
  bif decide (y5.1.2.1<(↑(List.length r3.1.1):Int)) then
  ((0:Int)≤y5.1.2.1∧y5.1.2.1<(↑(List.length r3.1.1):Int))∧
  True∧
 let r6:=Sp.iG y5.2.1 (List.getD r3.1.1 (Int.toNat y5.1.2.1) ([],())).1;
  bif !r6 then
  List.length y5.2.1+[List.getD r3.1.1 (Int.toNat y5.1.2.1) ([],())].length≤big∧
  s4=s4∧
  Gn
  (((),i64.wrap (y5.1.2.1+(1:Int)),()),
  y5.2.1++[List.getD r3.1.1 (Int.toNat y5.1.2.1) ([],())],())∧
  IG
  (((),i64.wrap (y5.1.2.1+(1:Int)),()),
  y5.2.1++[List.getD r3.1.1 (Int.toNat y5.1.2.1) ([],())],())<
  IG y5
  else
  s4=s4∧
  Gn (((),i64.wrap (y5.1.2.1+(1:Int)),()),y5.2)∧
  IG (((),i64.wrap (y5.1.2.1+(1:Int)),()),y5.2)<IG y5
  else
  s1=s1∧
  I (((),i64.wrap (y2.1.2.1+(1:Int)),()),y5.2)∧
  μ (((),i64.wrap (y2.1.2.1+(1:Int)),()),y5.2)<μ y2
  else
  List.length y2.2.1≤(1000:Nat)∧
  ∀ (r7:gG),(r7.1.1.length≤List.length y2.2.1∧∀ (s:PY),s∈r7.1.1↔s∈y2.2.1)→K r7
theorem Vb (env:EnvB prog G Θ VN) (hne:∀ x,(yV x).1→∃ t,(yV x).2 t) (h:∀ (d:jv) (names:qU),dO jU (d,names,())→(Sp.aS d∧d.length≤(5:Nat)∧names.length≤(900:Nat))→Vg d names fun (r:gG)=>(Sp.aS d∧d.length≤(5:Nat)∧names.length≤(900:Nat),fun (x:gG)=>Sp.reached d names x.1.1).2 r):aG prog G mQ o8:=
 bZ env mixed (fn:=f112) (c:=codeOf f112) (by kernel_rfl) (by kernel_rfl) Wl (by kernel_rfl) hne fun ⟨d,names,⟨⟩⟩ hin hp=>
 Eq.mpr (by kernel_rfl) (h d names hin hp)
def Yt:Hints:=Go.Fw.hints [] [] [] [] []
def WW (n0:Int) (n1:Int) (n2:Int) (n3:eH) (n4:Int) (n5:Int) (n6:eH) (K:dD→Prop):Prop:=
 K (n0==(9:Int),())
theorem WL (env:EnvB prog G Θ XP) (h:∀ (n0:Int) (n1:Int) (n2:Int) (n3:eH) (n4:Int) (n5:Int) (n6:eH),bF AX ((n0,n1,n2,n3,n4,n5,n6,()),())→(True)→WW n0 n1 n2 n3 n4 n5 n6 fun r=>r=((n0==(9:Int),()))):aA prog G iI iQ:=
 aT env mixed (fn:=f177) (c:=codeOf f177) (by kernel_rfl) (by kernel_rfl) Yt (by kernel_rfl) fun ⟨⟨n0,n1,n2,n3,n4,n5,n6,⟨⟩⟩,⟨⟩⟩ hin hp=>
 Eq.mpr (by kernel_rfl) (h n0 n1 n2 n3 n4 n5 n6 hin hp)
def zU:Hints:=Go.Fw.hints [] [(2,⟨[],⟨[(0, .one (.sl 167 (.cons (.int .i64) (.cons (.int .i64) (.cons (.int .i64) (.cons .str (.cons (.int .i64) (.cons (.int .i64) (.cons .str .nil))))))) false)),(1, .fn 177 []),(7, .one (.int .i64))],[]⟩,⟨[(8, .one (.int .i64))],[]⟩⟩)] [] [] []
def zM (s:jr) (K:iV→Prop):Prop:=
 let s0:=((s,(),(↑s.length:Int),()),());
  ∃ (I:bn→Prop),
  ∃ (μ:bn→Nat),
  I (((0:Int),()),())∧
  ∀ (y1:bn),
  I y1→
  bif decide (y1.1.1<(↑s.length:Int)) then
  ((0:Int)≤y1.1.1∧y1.1.1<(↑s.length:Int))∧
  True∧
 let r2:=(s.getD (Int.toNat y1.1.1) ((0:Int),(0:Int),(0:Int),[],(0:Int),(0:Int),[],())).1==(9:Int);
  bif r2 then K y1.1 else s0=s0∧I ((i64.wrap (y1.1.1+(1:Int)),()),())∧μ ((i64.wrap (y1.1.1+(1:Int)),()),())<μ y1
  else K ((-1:Int),())
theorem zI (env:EnvB prog G Θ zS) (h:∀ (s:jr),bF jm (s,(()),())→(True)→zM s fun r=>r=((Sp.findAt (fun (n:TF)=>n.1==(9:Int)) s,()))):aA prog G fC gI:=
 aT env mixed (fn:=f218) (c:=codeOf f218) (by kernel_rfl) (by kernel_rfl) zU (by kernel_rfl) fun ⟨s,⟨⟩,⟨⟩⟩ hin hp=>
 Eq.mpr (by kernel_rfl) (h s hin hp)
def yN:Hints:=Go.Fw.hints [] [] [] [] []
def yc (s:jr) (K:dD→Prop):Prop:=
 True∧
 let r0:=Sp.findAt (fun (n:TF)=>n.1==(9:Int)) s;
  K (decide (r0≥(0:Int)),())
theorem x9 (env:EnvB prog G Θ yK) (h:∀ (s:jr),bF jc (s,(()),())→(True)→yc s fun r=>r=((Sp.linked s,()))):aA prog G dZ fV:=
 aT env mixed (fn:=f176) (c:=codeOf f176) (by kernel_rfl) (by kernel_rfl) yN (by kernel_rfl) fun ⟨s,⟨⟩,⟨⟩⟩ hin hp=>
 Eq.mpr (by kernel_rfl) (h s hin hp)
def aaq:Hints:=Go.Fw.hints [24] [(6,⟨[],⟨[(4, .fM [.int .i64, .int .i64, .bool, .int .i64, .sl 94 (.cons .str (.cons (.int .i64) (.cons (.int .i64) (.cons .str .nil)))) false] 0),(5, .fM [.int .i64, .int .i64, .bool, .int .i64, .sl 94 (.cons .str (.cons (.int .i64) (.cons (.int .i64) (.cons .str .nil)))) false] 0),(7, .one (.sl 9 (.cons .str .nil) true)),(25, .one (.sl 124 (.cons .str (.cons (.sl 167 (.cons (.int .i64) (.cons (.int .i64) (.cons (.int .i64) (.cons .str (.cons (.int .i64) (.cons (.int .i64) (.cons .str .nil)))))))) .nil)) false)),(26, .one (.int .i64))],[]⟩,⟨[(8, .one (.ref 1537)),(27, .one (.int .i64))],[(1537, .arr 9 (.cons .str .nil) true)]⟩⟩)] [] [] [(9,[.aB6 704])]
def ZW (d:jv) (l9:Int) (ni:Int) (ny:Bool) (mg:Int) (jI:iq) (qh:Int) (qZ:Int) (rq:Bool) (qi:Int) (lI:iq) (K:gG→Prop):Prop:=
 bif l9 !=qh then d.length≤(1000:Nat)∧K ((Sp.lT d,()),())
 else
 (Sp.dK (l9,ni,ny,mg,jI,())∧Sp.dK (qh,qZ,rq,qi,lI,())∧jI.length+lI.length≤(1000:Nat))∧
 ∀ (r0:gG),
 Sp.dN r0.1.1 (Sp.oH (l9,ni,ny,mg,jI,()) (qh,qZ,rq,qi,lI,()))→
 let s1:=(((l9,ni,ny,mg,jI,()),(qh,qZ,rq,qi,lI,()),r0.1.1,d,(↑d.length:Int),()),());
  ∃ (I:rG→Prop),
  ∃ (μ:rG→Nat),
  I (((),(0:Int),()),[],())∧
  ∀ (y2:rG),
  I y2→
  bif decide (y2.1.2.1<(↑d.length:Int)) then
  ((0:Int)≤y2.1.2.1∧y2.1.2.1<(↑d.length:Int))∧
  List.length (d.getD (Int.toNat y2.1.2.1) ([],[],())).2.1≤(1000:Nat)∧
  ∀ (r3:gG),
  Sp.dN r3.1.1 (Sp.wR (d.getD (Int.toNat y2.1.2.1) ([],[],())).2.1)→
  True∧
 let r4:=List.any r0.1.1 fun (x:PY)=>Sp.iG r3.1.1 x.1;
  True∧
 let r5:=Sp.linked (d.getD (Int.toNat y2.1.2.1) ([],[],())).2.1;
  bif r4 then
  List.length y2.2.1+[((d.getD (Int.toNat y2.1.2.1) ([],[],())).1,())].length≤big∧
  s1=s1∧
  I (((),i64.wrap (y2.1.2.1+(1:Int)),()),y2.2.1++[((d.getD (Int.toNat y2.1.2.1) ([],[],())).1,())],())∧
  μ
  (((),i64.wrap (y2.1.2.1+(1:Int)),()),y2.2.1++[((d.getD (Int.toNat y2.1.2.1) ([],[],())).1,())],
  ())<
  μ y2
  else
  bif r5 then
  bif mg !=qi then
  List.length y2.2.1+[((d.getD (Int.toNat y2.1.2.1) ([],[],())).1,())].length≤big∧
  s1=s1∧
  I
  (((),i64.wrap (y2.1.2.1+(1:Int)),()),y2.2.1++[((d.getD (Int.toNat y2.1.2.1) ([],[],())).1,())],
  ())∧
  μ
  (((),i64.wrap (y2.1.2.1+(1:Int)),()),
  y2.2.1++[((d.getD (Int.toNat y2.1.2.1) ([],[],())).1,())],())<
  μ y2
  else
  s1=s1∧
  I (((),i64.wrap (y2.1.2.1+(1:Int)),()),y2.2)∧
  μ (((),i64.wrap (y2.1.2.1+(1:Int)),()),y2.2)<μ y2
  else
  s1=s1∧
  I (((),i64.wrap (y2.1.2.1+(1:Int)),()),y2.2)∧
  μ (((),i64.wrap (y2.1.2.1+(1:Int)),()),y2.2)<μ y2
  else K (y2.2,())
theorem ZL (env:EnvB prog G Θ ZY) (hne:∀ x,(EC x).1→∃ t,(EC x).2 t) (h:∀ (d:jv) (l9:Int) (ni:Int) (ny:Bool) (mg:Int) (jI:iq) (qh:Int) (qZ:Int) (rq:Bool) (qi:Int) (lI:iq),dO lU (d,(l9,ni,ny,mg,jI,()),(qh,qZ,rq,qi,lI,()),())→(Sp.aS d∧Sp.dK (l9,ni,ny,mg,jI,())∧Sp.dK (qh,qZ,rq,qi,lI,())∧jI.length+lI.length≤(1000:Nat))→ZW d l9 ni ny mg jI qh qZ rq qi lI fun (r:gG)=>(Sp.aS d∧Sp.dK (l9,ni,ny,mg,jI,())∧Sp.dK (qh,qZ,rq,qi,lI,())∧jI.length+lI.length≤(1000:Nat),
 fun (x:gG)=>Sp.touched d (l9,ni,ny,mg,jI,()) (qh,qZ,rq,qi,lI,()) x.1.1).2
 r):aG prog G qW vJ:=
 bZ env mixed (fn:=f113) (c:=codeOf f113) (by kernel_rfl) (by kernel_rfl) aaq (by kernel_rfl) hne fun ⟨d,⟨l9,ni,ny,mg,jI,⟨⟩⟩,⟨qh,qZ,rq,qi,lI,⟨⟩⟩,⟨⟩⟩ hin hp=>
 Eq.mpr (by kernel_rfl) (h d l9 ni ny mg jI qh qZ rq qi lI hin hp)
def Yu:Hints:=Go.Fw.hints [] [] [] [] []
def WX (name:eH) (p10:qU) (K:dD→Prop):Prop:=
 True∧K (Sp.iG p10 name,())
theorem WM (env:EnvB prog G Θ XQ) (h:∀ (name:eH) (p10:qU),bF AY (name,(p10,()),())→(True)→WX name p10 fun r=>r=((Sp.iG p10 name,()))):aA prog G iJ iR:=
 aT env mixed (fn:=f175) (c:=codeOf f175) (by kernel_rfl) (by kernel_rfl) Yu (by kernel_rfl) fun ⟨name,⟨p10,⟨⟩⟩,⟨⟩⟩ hin hp=>
 Eq.mpr (by kernel_rfl) (h name p10 hin hp)
def Dh:Hints:=Go.Fw.hints [] [(2,⟨[],⟨[(0, .one (.sl 9 (.cons .str .nil) false)),(1, .fn 175 [[.sl 9 (.cons .str .nil) false]]),(7, .one (.int .i64))],[]⟩,⟨[(8, .one (.int .i64))],[]⟩⟩)] [] [] []
def BR (s:qU) (lq:qU) (K:iV→Prop):Prop:=
 let s0:=((s,((lq,()),()),(↑s.length:Int),()),());
  ∃ (I:bn→Prop),
  ∃ (μ:bn→Nat),
  I (((0:Int),()),())∧
  ∀ (y1:bn),
  I y1→
  bif decide (y1.1.1<(↑s.length:Int)) then
  ((0:Int)≤y1.1.1∧y1.1.1<(↑s.length:Int))∧
  True∧
 let r2:=Sp.iG lq (s.getD (Int.toNat y1.1.1) ([],())).1;
  bif r2 then K y1.1 else s0=s0∧I ((i64.wrap (y1.1.1+(1:Int)),()),())∧μ ((i64.wrap (y1.1.1+(1:Int)),()),())<μ y1
  else K ((-1:Int),())
theorem BQ (env:EnvB prog G Θ CX) (h:∀ (s:qU) (lq:qU),bF jF (s,((lq,()),()),())→(True)→BR s lq fun r=>r=((Sp.findAt (fun (x:PY)=>Sp.iG lq x.1) s,()))):aA prog G fP iw:=
 aT env mixed (fn:=f217) (c:=codeOf f217) (by kernel_rfl) (by kernel_rfl) Dh (by kernel_rfl) fun ⟨s,⟨⟨lq,⟨⟩⟩,⟨⟩⟩,⟨⟩⟩ hin hp=>
 Eq.mpr (by kernel_rfl) (h s lq hin hp)
def zV:Hints:=Go.Fw.hints [] [] [] [] []
def zN (s:qU) (lq:qU) (K:dD→Prop):Prop:=
 True∧
 let r0:=Sp.findAt (fun (x:PY)=>Sp.iG lq x.1) s;
  K (decide (r0≥(0:Int)),())
theorem zK (env:EnvB prog G Θ zT) (h:∀ (s:qU) (lq:qU),bF jo (s,((lq,()),()),())→(True)→zN s lq fun r=>r=((s.any fun (x:PY)=>Sp.iG lq x.1,()))):aA prog G fD gJ:=
 aT env mixed (fn:=f174) (c:=codeOf f174) (by kernel_rfl) (by kernel_rfl) zV (by kernel_rfl) fun ⟨s,⟨⟨lq,⟨⟩⟩,⟨⟩⟩,⟨⟩⟩ hin hp=>
 Eq.mpr (by kernel_rfl) (h s lq hin hp)
def WY:Hints:=Go.Fw.hints [5,5] [] [] [] []
def Wn (s:qU) (K:gG→Prop):Prop:=
 ∀ (g0:Bool),(g0=true→s.length=(0:Nat))→bif g0 then K (([],()),()) else (0:Nat)+s.length≤big∧K ((s,()),())
theorem Wh (env:EnvB prog G Θ Wy) (hne:∀ x,(AZ x).1→∃ t,(AZ x).2 t) (h:∀ (s:qU),dO kL (s,())→(s.length≤(1000:Nat))→Wn s fun (r:gG)=>(s.length≤(1000:Nat),fun (x:gG)=>x.1.1=s).2 r):aG prog G nP qG:=
 bZ env mixed (fn:=f168) (c:=codeOf f168) (by kernel_rfl) (by kernel_rfl) WY (by kernel_rfl) hne fun ⟨s,⟨⟩⟩ hin hp=>
 Eq.mpr (by kernel_rfl) (h s hin hp)
def aar:Hints:=Go.Fw.hints [5,5] [] [] [] []
def ZX (s:bV) (K:EF→Prop):Prop:=
 ∀ (g0:Bool),(g0=true→s.length=(0:Nat))→bif g0 then K (([],()),()) else (0:Nat)+s.length≤big∧K ((s,()),())
theorem ZJ (env:EnvB prog G Θ Z4) (hne:∀ x,(ED x).1→∃ t,(ED x).2 t) (h:∀ (s:bV),dO lV (s,())→(s.length≤(1000:Nat))→ZX s fun (r:EF)=>(s.length≤(1000:Nat),fun (x:EF)=>x.1.1=s).2 r):aG prog G qV vK:=
 bZ env mixed (fn:=f165) (c:=codeOf f165) (by kernel_rfl) (by kernel_rfl) aar (by kernel_rfl) hne fun ⟨s,⟨⟩⟩ hin hp=>
 Eq.mpr (by kernel_rfl) (h s hin hp)
def apY:Hints:=Go.Fw.hints [] [] [] [] []
def amQ (id:Int) (p10:bV) (K:dD→Prop):Prop:=
 True∧K (Sp.dS p10 id,())
theorem amg (env:EnvB prog G Θ an4) (h:∀ (id:Int) (p10:bV),bF N9 (id,(p10,()),())→(True)→amQ id p10 fun r=>r=((Sp.dS p10 id,()))):aA prog G nJ mP:=
 aT env mixed (fn:=f239) (c:=codeOf f239) (by kernel_rfl) (by kernel_rfl) apY (by kernel_rfl) fun ⟨id,⟨p10,⟨⟩⟩,⟨⟩⟩ hin hp=>
 Eq.mpr (by kernel_rfl) (h id p10 hin hp)
def Le:Hints:=Go.Fw.hints [] [(2,⟨[],⟨[(0, .one (.sl 3 (.cons (.int .i64) .nil) false)),(1, .fn 239 [[.sl 3 (.cons (.int .i64) .nil) false]]),(7, .one (.int .i64))],[]⟩,⟨[(8, .one (.int .i64))],[]⟩⟩)] [] [] []
def Ko (s:bV) (lq:bV) (K:iV→Prop):Prop:=
 let s0:=((s,((lq,()),()),(↑s.length:Int),()),());
  ∃ (I:bn→Prop),
  ∃ (μ:bn→Nat),
  I (((0:Int),()),())∧
  ∀ (y1:bn),
  I y1→
  bif decide (y1.1.1<(↑s.length:Int)) then
  ((0:Int)≤y1.1.1∧y1.1.1<(↑s.length:Int))∧
  True∧
 let r2:=Sp.dS lq (s.getD (Int.toNat y1.1.1) ((0:Int),())).1;
  bif r2 then K y1.1 else s0=s0∧I ((i64.wrap (y1.1.1+(1:Int)),()),())∧μ ((i64.wrap (y1.1.1+(1:Int)),()),())<μ y1
  else K ((-1:Int),())
theorem J8 (env:EnvB prog G Θ Lc) (h:∀ (s:bV) (lq:bV),bF nN (s,((lq,()),()),())→(True)→Ko s lq fun r=>r=((Sp.findAt (fun (x:iV)=>Sp.dS lq x.1) s,()))):aA prog G jd jJ:=
 aT env mixed (fn:=f253) (c:=codeOf f253) (by kernel_rfl) (by kernel_rfl) Le (by kernel_rfl) fun ⟨s,⟨⟨lq,⟨⟩⟩,⟨⟩⟩,⟨⟩⟩ hin hp=>
 Eq.mpr (by kernel_rfl) (h s lq hin hp)
def Kq:Hints:=Go.Fw.hints [10,28] [(5,⟨[],⟨[(0, .one (.ref 49)),(1, .fn 239 [[.sl 3 (.cons (.int .i64) .nil) false]])],[]⟩,⟨[(5, .one (.int .i64)),(6, .one (.int .i64))],[(49, .arr 3 (.cons (.int .i64) .nil) false)]⟩⟩)] [] [] [(12,[.closes 0]),(11,[.opens 0])]
def JQ (s:bV) (TL:bV) (K:EF→Prop):Prop:=
 True∧
 let r0:=Sp.findAt (fun (x:iV)=>Sp.dS TL x.1) s;
  bif r0==(-1:Int) then K ((s,()),())
  else
 let s1:=(((),((TL,()),()),()),());
  ∃ (I:(Int×iV)×kW→Prop),
  ∃ (μ:(Int×iV)×kW→Nat),
  I ((r0,i64.wrap (r0+(1:Int)),()),s,())∧
  ∀ (y2:(Int×iV)×kW),
  I y2→
  bif decide (y2.1.2.1<(↑(List.length y2.2.1):Int)) then
  ((0:Int)≤y2.1.2.1∧y2.1.2.1<(↑(List.length y2.2.1):Int))∧
  Int.toNat y2.1.2.1<List.length y2.2.1∧
  True∧
 let r3:=Sp.dS TL (List.getD y2.2.1 (Int.toNat y2.1.2.1) ((0:Int),())).1;
  bif !r3 then
  ((0:Int)≤y2.1.1∧y2.1.1<(↑(List.length y2.2.1):Int))∧
  Int.toNat y2.1.1<List.length y2.2.1∧
  s1=s1∧
  I
  ((i64.wrap (y2.1.1+(1:Int)),i64.wrap (y2.1.2.1+(1:Int)),()),
  List.set y2.2.1 (Int.toNat y2.1.1) (List.getD y2.2.1 (Int.toNat y2.1.2.1) ((0:Int),())),())∧
  μ
  ((i64.wrap (y2.1.1+(1:Int)),i64.wrap (y2.1.2.1+(1:Int)),()),
  List.set y2.2.1 (Int.toNat y2.1.1) (List.getD y2.2.1 (Int.toNat y2.1.2.1) ((0:Int),())),())<
  μ y2
  else
  s1=s1∧
  I ((y2.1.1,i64.wrap (y2.1.2.1+(1:Int)),()),y2.2)∧
  μ ((y2.1.1,i64.wrap (y2.1.2.1+(1:Int)),()),y2.2)<μ y2
  else
  (0:Nat)<List.length y2.2.1∧
  ((0:Int)≤y2.1.1∧y2.1.1≤(↑(List.length y2.2.1):Int))∧
  (0:Nat)+Int.toNat y2.1.1+(List.length y2.2.1-Int.toNat y2.1.1)≤List.length y2.2.1∧
  ((0:Nat)<
  (iE y2.2.1 ((0:Nat)+Int.toNat y2.1.1) (List.replicate (List.length y2.2.1-Int.toNat y2.1.1) ((0:Int),()))).length∧
  List.length y2.2.1≤
  (iE y2.2.1 ((0:Nat)+Int.toNat y2.1.1) (List.replicate (List.length y2.2.1-Int.toNat y2.1.1) ((0:Int),()))).length)∧
  ((0:Int)≤y2.1.1∧
  y2.1.1≤
  (↑(List.take (List.length y2.2.1)
  (iE y2.2.1 ((0:Nat)+Int.toNat y2.1.1)
  (List.replicate (List.length y2.2.1-Int.toNat y2.1.1) ((0:Int),())))).length:
  Int))∧
  K
  ((List.take (Int.toNat y2.1.1)
  (List.take (List.length y2.2.1)
  (iE y2.2.1 ((0:Nat)+Int.toNat y2.1.1) (List.replicate (List.length y2.2.1-Int.toNat y2.1.1) ((0:Int),())))),
  ()),
  ())
theorem JM (env:EnvB prog G Θ JZ) (hne:∀ x,(nO x).1→∃ t,(nO x).2 t) (h:∀ (s:bV) (TL:bV),dO gB (s,((TL,()),()),())→(s.length≤(1000:Nat))→JQ s TL fun (r:EF)=>(s.length≤(1000:Nat),fun (x:EF)=>x.1.1=List.filter (fun (x:iV)=>!Sp.dS TL x.1) s).2 r):aG prog G ja jE:=
 bZ env mixed (fn:=f238) (c:=codeOf f238) (by kernel_rfl) (by kernel_rfl) Kq (by kernel_rfl) hne fun ⟨s,⟨⟨TL,⟨⟩⟩,⟨⟩⟩,⟨⟩⟩ hin hp=>
 Eq.mpr (by kernel_rfl) (h s TL hin hp)
def avr:Hints:=Go.Fw.hints [8,6] [] [] [] []
def ath (a:bV) (b:bV) (K:EF→Prop):Prop:=
 a.length≤(1000:Nat)∧
 ∀ (r0:EF),
 r0.1.1=a→
 List.length r0.1.1≤(1000:Nat)∧∀ (r1:EF),r1.1.1=List.filter (fun (x:iV)=>!Sp.dS b x.1) r0.1.1→K r1
theorem ar0 (env:EnvB prog G Θ atX) (hne:∀ x,(UU x).1→∃ t,(UU x).2 t) (h:∀ (a:bV) (b:bV),dO Aw (a,b,())→(a.length≤(1000:Nat))→ath a b fun (r:EF)=>(a.length≤(1000:Nat),fun (x:EF)=>x.1.1=Sp.without a b).2 r):aG prog G Ib Jt:=
 bZ env mixed (fn:=f210) (c:=codeOf f210) (by kernel_rfl) (by kernel_rfl) avr (by kernel_rfl) hne fun ⟨a,b,⟨⟩⟩ hin hp=>
 Eq.mpr (by kernel_rfl) (h a b hin hp)
def avs:Hints:=Go.Fw.hints [] [] [] [] []
def ati (a:bV) (b:bV) (K:(bV×kW)×Unit→Prop):Prop:=
 b.length≤(1000:Nat)∧
 ∀ (r0:EF),
 r0.1.1=Sp.without b a→a.length≤(1000:Nat)∧∀ (r1:EF),r1.1.1=Sp.without a b→K ((r0.1.1,r1.1),())
theorem ar2 (env:EnvB prog G Θ atY) (hne:∀ x,(UW x).1→∃ t,(UW x).2 t) (h:∀ (a:bV) (b:bV),dO Az (a,b,())→(a.length≤(1000:Nat)∧b.length≤(1000:Nat))→ati a b fun (r:(bV×kW)×Unit)=>(a.length≤(1000:Nat)∧b.length≤(1000:Nat),fun (x:(bV×kW)×Unit)=>x.1.1=Sp.without b a∧x.1.2.1=Sp.without a b).2 r):aG prog G Ic Ju:=
 bZ env mixed (fn:=f166) (c:=codeOf f166) (by kernel_rfl) (by kernel_rfl) avs (by kernel_rfl) hne fun ⟨a,b,⟨⟩⟩ hin hp=>
 Eq.mpr (by kernel_rfl) (h a b hin hp)
def akF:Hints:=Go.Fw.hints [10] [(3,⟨[(.slot 5 0,353,106,(.cons .str (.cons (.sl 3 (.cons (.int .i64) .nil)) (.cons (.sl 3 (.cons (.int .i64) .nil)) .nil))),false)],⟨[(0, .one (.sl 104 (.cons .str (.cons (.sl 3 (.cons (.int .i64) .nil)) .nil)) false)),(11, .one (.sl 104 (.cons .str (.cons (.sl 3 (.cons (.int .i64) .nil)) .nil)) false)),(12, .one (.int .i64))],[]⟩,⟨[(5, .one (.ref 353)),(13, .one (.int .i64))],[(353, .arr 106 (.cons .str (.cons (.sl 3 (.cons (.int .i64) .nil)) (.cons (.sl 3 (.cons (.int .i64) .nil)) .nil))) false)]⟩⟩)] [] [] []
def ahC (a:l7) (b:l7) (K:(abT×Unit)×Unit→Prop):Prop:=
 let s0:=((a,b,(↑b.length:Int),()),());
  ∃ (I:rF×abT×Unit→Prop),
  ∃ (μ:rF×abT×Unit→Nat),
  I (((),(0:Int),()),[],())∧
  ∀ (y1:rF×abT×Unit),
  I y1→
  bif decide (y1.1.2.1<(↑b.length:Int)) then
  ((0:Int)≤y1.1.2.1∧y1.1.2.1<(↑b.length:Int))∧
  Sp.bJ a∧
 let r2:=Sp.gV a (b.getD (Int.toNat y1.1.2.1) ([],[],())).1;
  (r2.length≤(1000:Nat)∧List.length (b.getD (Int.toNat y1.1.2.1) ([],[],())).2.1≤(1000:Nat))∧
  ∀ (r3:(bV×kW)×Unit),
  r3.1.1=Sp.without (b.getD (Int.toNat y1.1.2.1) ([],[],())).2.1 r2∧
  r3.1.2.1=Sp.without r2 (b.getD (Int.toNat y1.1.2.1) ([],[],())).2.1→
  bif decide (i64.wrap ((↑(List.length r3.1.1):Int)+(↑(List.length r3.1.2.1):Int))>(0:Int)) then
  List.length y1.2.1+[((b.getD (Int.toNat y1.1.2.1) ([],[],())).1,r3.1)].length≤big∧
  s0=s0∧
  I (((),i64.wrap (y1.1.2.1+(1:Int)),()),y1.2.1++[((b.getD (Int.toNat y1.1.2.1) ([],[],())).1,r3.1)],())∧
  μ (((),i64.wrap (y1.1.2.1+(1:Int)),()),y1.2.1++[((b.getD (Int.toNat y1.1.2.1) ([],[],())).1,r3.1)],())<μ y1
  else
  s0=s0∧I (((),i64.wrap (y1.1.2.1+(1:Int)),()),y1.2)∧μ (((),i64.wrap (y1.1.2.1+(1:Int)),()),y1.2)<μ y1
  else K (y1.2,())
theorem agS (env:EnvB prog G Θ aii) (hne:∀ x,(LV x).1→∃ t,(LV x).2 t) (h:∀ (a:l7) (b:l7),dO sF (a,b,())→(Sp.bJ a∧Sp.bJ b)→ahC a b fun (r:(abT×Unit)×Unit)=>(Sp.bJ a∧Sp.bJ b,fun (x:(abT×Unit)×Unit)=>x.1.1=Sp.GR a b).2 r):aG prog G zo CS:=
 bZ env mixed (fn:=f111) (c:=codeOf f111) (by kernel_rfl) (by kernel_rfl) akF (by kernel_rfl) hne fun ⟨a,b,⟨⟩⟩ hin hp=>
 Eq.mpr (by kernel_rfl) (h a b hin hp)
def akG:Hints:=Go.Fw.hints [6] [(3,⟨[(.slot 3 0,225,104,(.cons .str (.cons (.sl 3 (.cons (.int .i64) .nil)) .nil)),false)],⟨[(7, .one (.sl 104 (.cons .str (.cons (.sl 3 (.cons (.int .i64) .nil)) .nil)) false)),(8, .one (.int .i64))],[]⟩,⟨[(3, .one (.ref 225)),(9, .one (.int .i64))],[(225, .arr 104 (.cons .str (.cons (.sl 3 (.cons (.int .i64) .nil)) .nil)) false)]⟩⟩)] [] [] []
def ahD (Dk:l7) (K:TG×Unit→Prop):Prop:=
 let s0:=((Dk,(↑Dk.length:Int),()),());
  ∃ (I:WS→Prop),
  ∃ (μ:WS→Nat),
  I (((),(0:Int),()),[],())∧
  ∀ (y1:WS),
  I y1→
  bif decide (y1.1.2.1<(↑Dk.length:Int)) then
  ((0:Int)≤y1.1.2.1∧y1.1.2.1<(↑Dk.length:Int))∧
  List.length (Dk.getD (Int.toNat y1.1.2.1) ([],[],())).2.1≤(1000:Nat)∧
 let r2:=(Dk.getD (Int.toNat y1.1.2.1) ([],[],())).2.1;
  List.length y1.2.1+[((Dk.getD (Int.toNat y1.1.2.1) ([],[],())).1,r2,())].length≤big∧
  s0=s0∧
  I (((),i64.wrap (y1.1.2.1+(1:Int)),()),y1.2.1++[((Dk.getD (Int.toNat y1.1.2.1) ([],[],())).1,r2,())],())∧
  μ (((),i64.wrap (y1.1.2.1+(1:Int)),()),y1.2.1++[((Dk.getD (Int.toNat y1.1.2.1) ([],[],())).1,r2,())],())<μ y1
  else K (y1.2,())
theorem agU (env:EnvB prog G Θ aij) (hne:∀ x,(LW x).1→∃ t,(LW x).2 t) (h:∀ (Dk:l7),dO sG (Dk,())→(Sp.bJ Dk)→ahD Dk fun (r:TG×Unit)=>(Sp.bJ Dk,fun (x:TG×Unit)=>x.1.1=Dk).2 r):aG prog G zn CU:=
 bZ env mixed (fn:=f109) (c:=codeOf f109) (by kernel_rfl) (by kernel_rfl) akG (by kernel_rfl) hne fun ⟨Dk,⟨⟩⟩ hin hp=>
 Eq.mpr (by kernel_rfl) (h Dk hin hp)
def akH:Hints:=Go.Fw.hints [] [] [] [] []
def ahE (c0:gW) (c1:iW) (c2:Int) (c3:jv) (c4:l7) (K:abU→Prop):Prop:=
 Sp.bQ (c0,c1,c2,())∧
 ∀ (r0:Om),
 r0.1.1=(c0,c1,c2,())→
 Sp.aS c3∧
 Sp.bJ c4∧
 ∀ (r1:TG×Unit),
 r1.1.1=c4→K (((r0.1.1.1,r0.1.1.2.1,r0.1.1.2.2.1,c3,r1.1),()),())
theorem agV (env:EnvB prog G Θ aik) (hne:∀ x,(LX x).1→∃ t,(LX x).2 t) (h:∀ (c0:gW) (c1:iW) (c2:Int) (c3:jv) (c4:l7),dO lK ((c0,c1,c2,c3,c4,()),())→(Sp.uN (c0,c1,c2,c3,c4,()))→ahE c0 c1 c2 c3 c4 fun (r:abU)=>(Sp.uN (c0,c1,c2,c3,c4,()),
 fun
 (x:
 abU)=>
 x.1.1=(c0,c1,c2,c3,c4,())).2
 r):aG prog G pW qH:=
 bZ env mixed (fn:=f68) (c:=codeOf f68) (by kernel_rfl) (by kernel_rfl) akH (by kernel_rfl) hne fun ⟨⟨c0,c1,c2,c3,c4,⟨⟩⟩,⟨⟩⟩ hin hp=>
 Eq.mpr (by kernel_rfl) (h c0 c1 c2 c3 c4 hin hp)
def ahF:Hints:=Go.Fw.hints [] [] [] [] []
def afz (d:jv) (l9:Int) (ni:Int) (ny:Bool) (mg:Int) (jI:iq) (qh:Int) (qZ:Int) (rq:Bool) (qi:Int) (lI:iq) (K:gG→Prop):Prop:=
 (Sp.aS d∧
 Sp.dK (l9,ni,ny,mg,jI,())∧Sp.dK (qh,qZ,rq,qi,lI,())∧jI.length+lI.length≤(1000:Nat))∧
 ∀ (r0:gG),
 Sp.touched d (l9,ni,ny,mg,jI,()) (qh,qZ,rq,qi,lI,()) r0.1.1→
 (Sp.aS d∧d.length≤(5:Nat)∧List.length r0.1.1≤(900:Nat))∧∀ (r1:gG),Sp.reached d r0.1.1 r1.1.1→K r1
theorem aeP (env:EnvB prog G Θ agi) (hne:∀ x,(KY x).1→∃ t,(KY x).2 t) (h:∀ (d:jv) (l9:Int) (ni:Int) (ny:Bool) (mg:Int) (jI:iq) (qh:Int) (qZ:Int) (rq:Bool) (qi:Int) (lI:iq),dO qI (d,(l9,ni,ny,mg,jI,()),(qh,qZ,rq,qi,lI,()),())→(Sp.aS d∧
 d.length≤(5:Nat)∧
 Sp.dK (l9,ni,ny,mg,jI,())∧Sp.dK (qh,qZ,rq,qi,lI,())∧jI.length+lI.length≤(1000:Nat))→afz d l9 ni ny mg jI qh qZ rq qi lI fun (r:gG)=>(Sp.aS d∧
 d.length≤(5:Nat)∧
 Sp.dK (l9,ni,ny,mg,jI,())∧Sp.dK (qh,qZ,rq,qi,lI,())∧jI.length+lI.length≤(1000:Nat),
 fun (x:gG)=>
 Sp.isSet x.1.1 (Sp.Aff d (l9,ni,ny,mg,jI,()) (qh,qZ,rq,qi,lI,()))).2
 r):aG prog G xU AA:=
 bZ env mixed (fn:=f71) (c:=codeOf f71) (by kernel_rfl) (by kernel_rfl) ahF (by kernel_rfl) hne fun ⟨d,⟨l9,ni,ny,mg,jI,⟨⟩⟩,⟨qh,qZ,rq,qi,lI,⟨⟩⟩,⟨⟩⟩ hin hp=>
 Eq.mpr (by kernel_rfl) (h d l9 ni ny mg jI qh qZ rq qi lI hin hp)
def apZ:Hints:=Go.Fw.hints [] [] [] [] []
def amR (c0:gW) (c1:iW) (c2:Int) (c3:jv) (c4:l7) (s0:gW) (s1:iW) (s2:Int) (d:jv) (names:qU) (K:ae9→Prop):Prop:=
 (Sp.bQ (s0,s1,s2,())∧Sp.aS d∧Sp.bJ c4)∧
 ∀ (r0:WR),
 r0.1.2.1=(Sp.aH d&&Sp.aN (s0,s1,s2,()))∧(r0.1.2.1=true→Sp.iY s1 d c4 (Sp.iG names) r0.1.1)→
 bif !r0.1.2.1 then
 Sp.uN (c0,c1,c2,c3,c4,())∧
 ∀
 (r1:
 abU),
 r1.1.1=(c0,c1,c2,c3,c4,())→K ((r1.1.1,[],false,()),())
 else
 Sp.bQ (s0,s1,s2,())∧
 ∀ (r2:Om),
 r2.1.1=(s0,s1,s2,())→
 Sp.aS d∧
 (Sp.bJ c4∧Sp.bJ r0.1.1)∧
 ∀ (r3:(abT×Unit)×Unit),
 r3.1.1=Sp.GR c4 r0.1.1→K (((r2.1.1.1,r2.1.1.2.1,r2.1.1.2.2.1,d,r0.1.1,()),r3.1.1,true,()),())
theorem ami (env:EnvB prog G Θ an5) (hne:∀ x,(PD x).1→∃ t,(PD x).2 t) (h:∀ (c0:gW) (c1:iW) (c2:Int) (c3:jv) (c4:l7) (s0:gW) (s1:iW) (s2:Int) (d:jv) (names:qU),dO wU ((c0,c1,c2,c3,c4,()),(s0,s1,s2,()),d,names,())→(Sp.uN (c0,c1,c2,c3,c4,())∧Sp.bQ (s0,s1,s2,())∧Sp.aS d)→amR c0 c1 c2 c3 c4 s0 s1 s2 d names fun (r:ae9)=>(Sp.uN (c0,c1,c2,c3,c4,())∧Sp.bQ (s0,s1,s2,())∧Sp.aS d,
 fun
 (x:
 ae9)=>
 Sp.turned (c0,c1,c2,c3,c4,()) (s0,s1,s2,()) d (Sp.iG names) x.1.1 x.1.2.1 x.1.2.2.1).2
 r):aG prog G DK EZ:=
 bZ env mixed (fn:=f70) (c:=codeOf f70) (by kernel_rfl) (by kernel_rfl) apZ (by kernel_rfl) hne fun ⟨⟨c0,c1,c2,c3,c4,⟨⟩⟩,⟨s0,s1,s2,⟨⟩⟩,d,names,⟨⟩⟩ hin hp=>
 Eq.mpr (by kernel_rfl) (h c0 c1 c2 c3 c4 s0 s1 s2 d names hin hp)
def amS:Hints:=Go.Fw.hints [] [] [] [] []
def akI (c0:gW) (c1:iW) (c2:Int) (c3:jv) (c4:l7) (f0:Int) (f1:Int) (f2:Bool) (f3:Int) (f4:iq) (K:ae9→Prop):Prop:=
 (Sp.bQ (c0,c1,c2,())∧Sp.dK (f0,f1,f2,f3,f4,()))∧
 ∀ (r0:akb),
 r0.1.1.1=(Sp.bU (c0,c1,c2,()) (f0,f1,f2,f3,f4,())).1.1∧
 r0.1.1.2.1=(Sp.bU (c0,c1,c2,()) (f0,f1,f2,f3,f4,())).1.2.1∧
 r0.1.1.2.2.1=(Sp.bU (c0,c1,c2,()) (f0,f1,f2,f3,f4,())).1.2.2.1∧
 r0.1.2.1=(Sp.bU (c0,c1,c2,()) (f0,f1,f2,f3,f4,())).2→
 bif !r0.1.2.1 then
 Sp.uN (c0,c1,c2,c3,c4,())∧
 ∀
 (r1:
 abU),
 r1.1.1=(c0,c1,c2,c3,c4,())→K ((r1.1.1,[],false,()),())
 else
 Sp.uN (c0,c1,c2,c3,c4,())∧
 let r2:=Sp.yQ (c0,c1,c2,c3,c4,());
  bif !r2 then
  Sp.uN (c0,c1,c2,c3,c4,())∧
  ∀
  (r3:
  abU),
  r3.1.1=(c0,c1,c2,c3,c4,())→K ((r3.1.1,[],false,()),())
  else
  Sp.bQ (c0,c1,c2,())∧
 let r4:=(Sp.jY (c0,c1,c2,()) f0).1.1;
 let r5:=(Sp.jY (c0,c1,c2,()) f0).1.2.1;
 let r6:=(Sp.jY (c0,c1,c2,()) f0).1.2.2.1;
 let r7:=(Sp.jY (c0,c1,c2,()) f0).1.2.2.2.1;
 let r8:=(Sp.jY (c0,c1,c2,()) f0).1.2.2.2.2.1;
  (Sp.aS c3∧c3.length≤(5:Nat)∧Sp.dK (r4,r5,r6,r7,r8,())∧Sp.dK (f0,f1,f2,f3,f4,())∧r8.length+f4.length≤(1000:Nat))∧
  ∀ (r10:gG),
  Sp.isSet r10.1.1 (Sp.Aff c3 (r4,r5,r6,r7,r8,()) (f0,f1,f2,f3,f4,()))→
  (Sp.uN (c0,c1,c2,c3,c4,())∧Sp.bQ r0.1.1∧Sp.aS c3)∧
  ∀
  (r11:
  ae9),
  Sp.turned (c0,c1,c2,c3,c4,()) r0.1.1 c3 (Sp.iG r10.1.1) r11.1.1 r11.1.2.1 r11.1.2.2.1→K r11
theorem ajO (env:EnvB prog G Θ alx) (hne:∀ x,(Oa x).1→∃ t,(Oa x).2 t) (h:∀ (c0:gW) (c1:iW) (c2:Int) (c3:jv) (c4:l7) (f0:Int) (f1:Int) (f2:Bool) (f3:Int) (f4:iq),dO uQ ((c0,c1,c2,c3,c4,()),(f0,f1,f2,f3,f4,()),())→(Sp.uN (c0,c1,c2,c3,c4,())∧Sp.dK (f0,f1,f2,f3,f4,())∧Sp.akR (c0,c1,c2,c3,c4,())∧Sp.adM (f0,f1,f2,f3,f4,()))→akI c0 c1 c2 c3 c4 f0 f1 f2 f3 f4 fun (r:ae9)=>(Sp.uN (c0,c1,c2,c3,c4,())∧Sp.dK (f0,f1,f2,f3,f4,())∧Sp.akR (c0,c1,c2,c3,c4,())∧Sp.adM (f0,f1,f2,f3,f4,()),
 fun
 (x:
 ae9)=>
 Sp.updated (c0,c1,c2,c3,c4,()) (f0,f1,f2,f3,f4,()) x.1.1 x.1.2.1 x.1.2.2.1).2
 r):aG prog G BM Eh:=
 bZ env mixed (fn:=f33) (c:=codeOf f33) (by kernel_rfl) (by kernel_rfl) amS (by kernel_rfl) hne fun ⟨⟨c0,c1,c2,c3,c4,⟨⟩⟩,⟨f0,f1,f2,f3,f4,⟨⟩⟩,⟨⟩⟩ hin hp=>
 Eq.mpr (by kernel_rfl) (h c0 c1 c2 c3 c4 f0 f1 f2 f3 f4 hin hp)
def atj:Hints:=Go.Fw.hints [] [(4,⟨[],⟨[(0, .one (.sl 3 (.cons (.int .i64) .nil) false)),(1, .one (.sl 3 (.cons (.int .i64) .nil) false))],[]⟩,⟨[(5, .one (.int .i64))],[]⟩⟩)] [] [] []
def ap0 (a:bV) (b:bV) (K:dD→Prop):Prop:=
 bif (↑a.length:Int) !=(↑b.length:Int) then K (false,())
 else
 let s0:=((a,b,()),());
  ∃ (I:bn→Prop),
  ∃ (μ:bn→Nat),
  I (((0:Int),()),())∧
  ∀ (y1:bn),
  I y1→
  bif decide (y1.1.1<(↑a.length:Int)) then
  ((0:Int)≤y1.1.1∧y1.1.1<(↑a.length:Int))∧
  ((0:Int)≤y1.1.1∧y1.1.1<(↑b.length:Int))∧
  bif (a.getD (Int.toNat y1.1.1) ((0:Int),())).1 !=(b.getD (Int.toNat y1.1.1) ((0:Int),())).1 then K (false,())
  else s0=s0∧I ((i64.wrap (y1.1.1+(1:Int)),()),())∧μ ((i64.wrap (y1.1.1+(1:Int)),()),())<μ y1
  else K (true,())
theorem apb (env:EnvB prog G Θ aqE) (h:∀ (a:bV) (b:bV),bF PE (a,b,())→(True)→ap0 a b fun r=>r=((decide (a=b),()))):aA prog G Fq GU:=
 aT env mixed (fn:=f114) (c:=codeOf f114) (by kernel_rfl) (by kernel_rfl) atj (by kernel_rfl) fun ⟨a,b,⟨⟩⟩ hin hp=>
 Eq.mpr (by kernel_rfl) (h a b hin hp)
def amT:Hints:=Go.Fw.hints [] [] [] [] []
def akJ (a0:eH) (a1:bV) (b0:eH) (b1:bV) (K:dD→Prop):Prop:=
 bif a0==b0 then
 True∧
 let r0:=decide (a1=b1);
  K (r0,())
  else K (false,())
theorem ajQ (env:EnvB prog G Θ aly) (h:∀ (a0:eH) (a1:bV) (b0:eH) (b1:bV),bF LY ((a0,a1,()),(b0,b1,()),())→(True)→akJ a0 a1 b0 b1 fun r=>r=((decide ((a0,a1,())=(b0,b1,())),()))):aA prog G BJ Ei:=
 aT env mixed (fn:=f72) (c:=codeOf f72) (by kernel_rfl) (by kernel_rfl) amT (by kernel_rfl) fun ⟨⟨a0,a1,⟨⟩⟩,⟨b0,b1,⟨⟩⟩,⟨⟩⟩ hin hp=>
 Eq.mpr (by kernel_rfl) (h a0 a1 b0 b1 hin hp)
def akK:Hints:=Go.Fw.hints [] [(4,⟨[],⟨[(0, .one (.sl 104 (.cons .str (.cons (.sl 3 (.cons (.int .i64) .nil)) .nil)) false)),(1, .one (.sl 104 (.cons .str (.cons (.sl 3 (.cons (.int .i64) .nil)) .nil)) false))],[]⟩,⟨[(5, .one (.int .i64))],[]⟩⟩)] [] [] []
def ahG (a:l7) (b:l7) (K:dD→Prop):Prop:=
 bif (↑a.length:Int) !=(↑b.length:Int) then K (false,())
 else
 let s0:=((a,b,()),());
  ∃ (I:bn→Prop),
  ∃ (μ:bn→Nat),
  I (((0:Int),()),())∧
  ∀ (y1:bn),
  I y1→
  bif decide (y1.1.1<(↑a.length:Int)) then
  ((0:Int)≤y1.1.1∧y1.1.1<(↑a.length:Int))∧
  ((0:Int)≤y1.1.1∧y1.1.1<(↑b.length:Int))∧
  True∧
 let r2:=decide (a.getD (Int.toNat y1.1.1) ([],[],())=b.getD (Int.toNat y1.1.1) ([],[],()));
  bif !r2 then K (false,())
  else s0=s0∧I ((i64.wrap (y1.1.1+(1:Int)),()),())∧μ ((i64.wrap (y1.1.1+(1:Int)),()),())<μ y1
  else K (true,())
theorem agW (env:EnvB prog G Θ ail) (h:∀ (a:l7) (b:l7),bF KZ (a,b,())→(True)→ahG a b fun r=>r=((decide (a=b),()))):aA prog G pX qJ:=
 aT env mixed (fn:=f35) (c:=codeOf f35) (by kernel_rfl) (by kernel_rfl) akK (by kernel_rfl) fun ⟨a,b,⟨⟩⟩ hin hp=>
 Eq.mpr (by kernel_rfl) (h a b hin hp)
def akL:Hints:=Go.Fw.hints [] [] [] [] []
def ahH (a0:gW) (a1:iW) (a2:Int) (a3:jv) (a4:l7) (b0:gW) (b1:iW) (b2:Int) (b3:jv) (b4:l7) (K:dD→Prop):Prop:=
 True∧
 let r0:=decide ((a0,a1,a2,())=(b0,b1,b2,()));
  bif r0 then
  True∧
 let r1:=decide (a3=b3);
  bif r1 then
  True∧
 let r2:=decide (a4=b4);
  K (r2,())
  else K (false,())
  else K (false,())
theorem agY (env:EnvB prog G Θ aim) (h:∀ (a0:gW) (a1:iW) (a2:Int) (a3:jv) (a4:l7) (b0:gW) (b1:iW) (b2:Int) (b3:jv) (b4:l7),bF La ((a0,a1,a2,a3,a4,()),(b0,b1,b2,b3,b4,()),())→(True)→ahH a0 a1 a2 a3 a4 b0 b1 b2 b3 b4 fun r=>r=((decide ((a0,a1,a2,a3,a4,())=(b0,b1,b2,b3,b4,())),()))):aA prog G zu CV:=
 aT env mixed (fn:=f34) (c:=codeOf f34) (by kernel_rfl) (by kernel_rfl) akL (by kernel_rfl) fun ⟨⟨a0,a1,a2,a3,a4,⟨⟩⟩,⟨b0,b1,b2,b3,b4,⟨⟩⟩,⟨⟩⟩ hin hp=>
 Eq.mpr (by kernel_rfl) (h a0 a1 a2 a3 a4 b0 b1 b2 b3 b4 hin hp)
def avt:Hints:=Go.Fw.hints [] [] [] [] []
def atl (c0:bV) (c1:Int) (c2:Int) (K:(abS×Unit)×xu→Prop):Prop:=
 (0:Int)≤c1∧
 ∀
 (r0:
 aAR),
 (0:Int)≤r0.2.1.2.1∧
 r0.1.1.1=Sp.usual∧Sp.aN r0.1.1=true∧r0.1.1.2.2.1≤(↑r0.1.1.2.1.length:Int)+(2:Int)∧Sp.bQ r0.1.1∧(0:Nat)<r0.1.1.2.1.length→
 (0:Int)≤r0.2.1.2.1∧
 ∀ (r1:EG×xu),
 (0:Int)≤r1.2.1.2.1∧r1.1.1.length≤(10:Nat)∧Sp.aS r1.1.1∧Sp.aH r1.1.1=true→
 (Sp.bQ r0.1.1∧Sp.aS r1.1.1)∧
 ∀
 (r2:
 (abS×dD)×Unit),
 r2.1.2.1=(Sp.aH r1.1.1&&Sp.aN r0.1.1)∧
 (r2.1.2.1=true→
 (r2.1.1.1,r2.1.1.2.1,r2.1.1.2.2.1,())=r0.1.1∧
 r2.1.1.2.2.2.1=r1.1.1∧Sp.iY r0.1.1.2.1 r1.1.1 [] (fun (x:Sp.Bytes)=>true) r2.1.1.2.2.2.2.1)∧
 (r2.1.2.1=false→r2.1.1=([],[],(0:Int),[],[],()))→
 K ((r2.1.1,()),r1.2)
theorem ar7 (env:EnvB prog G Θ atZ) (hne:∀ x,(UX x).1→∃ t,(UX x).2 t) (h:∀ (c0:bV) (c1:Int) (c2:Int),dO AB ((c0,c1,c2,()),())→((0:Int)≤c1)→atl c0 c1 c2 fun (r:(abS×Unit)×xu)=>((0:Int)≤c1,
 fun
 (x:
 (abS×Unit)×xu)=>
 (0:Int)≤x.2.1.2.1∧Sp.XL x.1.1).2
 r):aG prog G Ig Jv:=
 bZ env mixed (fn:=f65) (c:=codeOf f65) (by kernel_rfl) (by kernel_rfl) avt (by kernel_rfl) hne fun ⟨⟨c0,c1,c2,⟨⟩⟩,⟨⟩⟩ hin hp=>
 Eq.mpr (by kernel_rfl) (h c0 c1 c2 hin hp)
def akM:Hints:=Go.Fw.hints [] [] [] [] []
def ahI (code:bV) (K:abU→Prop):Prop:=
 code.length≤(1048576:Nat)∧
 ∀ (r0:Ol),
 r0.2.1=(0:Int)→
 (0:Int)≤r0.2.1∧
 ∀
 (r1:
 (abS×Unit)×xu),
 (0:Int)≤r1.2.1.2.1∧Sp.XL r1.1.1→K (r1.1,())
theorem ag0 (env:EnvB prog G Θ ain) (hne:∀ x,(LZ x).1→∃ t,(LZ x).2 t) (h:∀ (code:bV),dO sH (code,())→(code.length≤(1048576:Nat))→ahI code fun (r:abU)=>(code.length≤(1048576:Nat),
 fun
 (x:
 abU)=>
 Sp.XL x.1.1).2
 r):aG prog G zx CW:=
 bZ env mixed (fn:=f29) (c:=codeOf f29) (by kernel_rfl) (by kernel_rfl) akM (by kernel_rfl) hne fun ⟨code,⟨⟩⟩ hin hp=>
 Eq.mpr (by kernel_rfl) (h code hin hp)
def amU:Hints:=Go.Fw.hints [8] [(4,⟨[],⟨[(3, .dW 448 0)],[]⟩,⟨[(4, .one (.ref 513)),(5, .one (.int .i64))],[(448, .var [.sl 5 (.cons (.int .u8) .nil) false, .int .i64, .int .i64]),(513, .arr 3 (.cons (.int .i64) .nil) true)]⟩⟩)] [] [] []
def akN (code:bV) (K:EF→Prop):Prop:=
 code.length≤(1048576:Nat)∧
 ∀ (r0:Ol),
 r0.2.1=(0:Int)→
 let s1:=(((),()),());
  ∃ (I:rF×Ol×kW→Prop),
  ∃ (μ:rF×Ol×kW→Nat),
  I (((),(0:Int),()),r0,[],())∧
  ∀ (y2:rF×Ol×kW),
  I y2→
  bif decide (y2.1.2.1<(12:Int)) then
  (0:Int)≤y2.2.1.2.1∧
  ∀ (r3:oZ),
  (0:Int)≤r3.2.1.2.1∧
  (0:Int)≤r3.1.1∧((0:Int)<(10000:Int)→r3.1.1<(10000:Int))∧((10000:Int)≤(0:Int)→r3.1.1=(0:Int))→
  List.length y2.2.2.1+[r3.1].length≤big∧
  s1=s1∧
  I (((),i64.wrap (y2.1.2.1+(1:Int)),()),r3.2.1,y2.2.2.1++[r3.1],())∧
  μ (((),i64.wrap (y2.1.2.1+(1:Int)),()),r3.2.1,y2.2.2.1++[r3.1],())<μ y2
  else K (y2.2.2,())
theorem ajS (env:EnvB prog G Θ alz) (hne:∀ x,(Ob x).1→∃ t,(Ob x).2 t) (h:∀ (code:bV),dO uS (code,())→(code.length≤(1048576:Nat))→akN code fun (r:EF)=>(code.length≤(1048576:Nat),fun (x:EF)=>
 x.1.1.length=(12:Nat)∧∀ (x_1:iV),x_1∈x.1.1→(0:Int)≤x_1.1∧x_1.1<(10000:Int)).2
 r):aG prog G BN Ej:=
 bZ env mixed (fn:=f30) (c:=codeOf f30) (by kernel_rfl) (by kernel_rfl) amU (by kernel_rfl) hne fun ⟨code,⟨⟩⟩ hin hp=>
 Eq.mpr (by kernel_rfl) (h code hin hp)
def atm:Hints:=Go.Fw.hints [34] [(2,⟨[],⟨[(0, .one (.sl 3 (.cons (.int .i64) .nil) false)),(1, .one (.int .i64))],[]⟩,⟨[(5, .one (.int .i64))],[]⟩⟩)] [] [] []
def ap3 (list:bV) (n:Int) (K:kW→Prop):Prop:=
 let s0:=((list,n,()),());
  ∃ (I:bn→Prop),
  ∃ (μ:bn→Nat),
  I (((0:Int),()),())∧
  ∀ (y1:bn),
  I y1→
  bif decide (y1.1.1<(↑list.length:Int)) then
  ((0:Int)≤y1.1.1∧y1.1.1<(↑list.length:Int))∧
  bif decide ((list.getD (Int.toNat y1.1.1) ((0:Int),())).1<n) then
  s0=s0∧I ((i64.wrap (y1.1.1+(1:Int)),()),())∧μ ((i64.wrap (y1.1.1+(1:Int)),()),())<μ y1
  else
  bif decide (y1.1.1<(↑list.length:Int)) then
  ((0:Int)≤y1.1.1∧y1.1.1<(↑list.length:Int))∧
  bif (list.getD (Int.toNat y1.1.1) ((0:Int),())).1==n then K (list,())
  else
  ((0:Int)≤y1.1.1∧y1.1.1≤(↑list.length:Int))∧
  (0:Nat)+(List.drop (0:Nat) (List.take (Int.toNat y1.1.1) list)).length≤big∧
  (List.drop (0:Nat) (List.take (Int.toNat y1.1.1) list)).length+[(n,())].length≤big∧
  ((0:Int)≤y1.1.1∧y1.1.1≤(↑list.length:Int))∧
  (List.drop (0:Nat) (List.take (Int.toNat y1.1.1) list)++[(n,())]).length+
  (List.drop (Int.toNat y1.1.1) (List.take list.length list)).length≤
  big∧
  K (List.drop (0:Nat) (List.take (Int.toNat y1.1.1) list)++[(n,())]++List.drop (Int.toNat y1.1.1) (List.take list.length list),())
  else
  ((0:Int)≤y1.1.1∧y1.1.1≤(↑list.length:Int))∧
  (0:Nat)+(List.drop (0:Nat) (List.take (Int.toNat y1.1.1) list)).length≤big∧
  (List.drop (0:Nat) (List.take (Int.toNat y1.1.1) list)).length+[(n,())].length≤big∧
  ((0:Int)≤y1.1.1∧y1.1.1≤(↑list.length:Int))∧
  (List.drop (0:Nat) (List.take (Int.toNat y1.1.1) list)++[(n,())]).length+
  (List.drop (Int.toNat y1.1.1) (List.take list.length list)).length≤
  big∧
  K (List.drop (0:Nat) (List.take (Int.toNat y1.1.1) list)++[(n,())]++List.drop (Int.toNat y1.1.1) (List.take list.length list),())
  else
  bif decide (y1.1.1<(↑list.length:Int)) then
  ((0:Int)≤y1.1.1∧y1.1.1<(↑list.length:Int))∧
  bif (list.getD (Int.toNat y1.1.1) ((0:Int),())).1==n then K (list,())
  else
  ((0:Int)≤y1.1.1∧y1.1.1≤(↑list.length:Int))∧
  (0:Nat)+(List.drop (0:Nat) (List.take (Int.toNat y1.1.1) list)).length≤big∧
  (List.drop (0:Nat) (List.take (Int.toNat y1.1.1) list)).length+[(n,())].length≤big∧
  ((0:Int)≤y1.1.1∧y1.1.1≤(↑list.length:Int))∧
  (List.drop (0:Nat) (List.take (Int.toNat y1.1.1) list)++[(n,())]).length+
  (List.drop (Int.toNat y1.1.1) (List.take list.length list)).length≤
  big∧
  K (List.drop (0:Nat) (List.take (Int.toNat y1.1.1) list)++[(n,())]++List.drop (Int.toNat y1.1.1) (List.take list.length list),())
  else
  ((0:Int)≤y1.1.1∧y1.1.1≤(↑list.length:Int))∧
  (0:Nat)+(List.drop (0:Nat) (List.take (Int.toNat y1.1.1) list)).length≤big∧
  (List.drop (0:Nat) (List.take (Int.toNat y1.1.1) list)).length+[(n,())].length≤big∧
  ((0:Int)≤y1.1.1∧y1.1.1≤(↑list.length:Int))∧
  (List.drop (0:Nat) (List.take (Int.toNat y1.1.1) list)++[(n,())]).length+(List.drop (Int.toNat y1.1.1) (List.take list.length list)).length≤
  big∧
  K (List.drop (0:Nat) (List.take (Int.toNat y1.1.1) list)++[(n,())]++List.drop (Int.toNat y1.1.1) (List.take list.length list),())
theorem ape (env:EnvB prog G Θ aqF) (h:∀ (list:bV) (n:Int),bF PG (list,n,())→(list.length≤(1000:Nat))→ap3 list n fun r=>r=((Sp.Jw list n,()))):aA prog G FB GV:=
 aT env mixed (fn:=f116) (c:=codeOf f116) (by kernel_rfl) (by kernel_rfl) atm (by kernel_rfl) fun ⟨list,n,⟨⟩⟩ hin hp=>
 Eq.mpr (by kernel_rfl) (h list n hin hp)
def adD:Hints:=Go.Fw.hints [43] [(3,⟨[],⟨[(0, .one (.sl 3 (.cons (.int .i64) .nil) false)),(3, .fM [.str, .sl 3 (.cons (.int .i64) .nil) false, .sl 3 (.cons (.int .i64) .nil) false] 0)],[]⟩,⟨[(5, .one (.sl 3 (.cons (.int .i64) .nil) false)),(6, .one (.int .i64))],[]⟩⟩),(8,⟨[],⟨[(3, .fM [.str, .sl 3 (.cons (.int .i64) .nil) false, .sl 3 (.cons (.int .i64) .nil) false] 0)],[]⟩,⟨[(5, .one (.sl 3 (.cons (.int .i64) .nil) false)),(7, .one (.int .i64))],[]⟩⟩)] [] [] []
def ab4 (ids:bV) (d0:eH) (d1:bV) (d2:bV) (K:kW→Prop):Prop:=
 let s0:=((ids,(d0,d1,d2,()),()),());
  ∃ (I:afb→Prop),
  ∃ (μ:afb→Nat),
  I (([],(0:Int),()),())∧
  ∀ (y1:afb),
  I y1→
  bif decide (y1.1.2.1<(↑ids.length:Int)) then
  ((0:Int)≤y1.1.2.1∧y1.1.2.1<(↑ids.length:Int))∧
  True∧
 let r2:=Sp.dS d2 (ids.getD (Int.toNat y1.1.2.1) ((0:Int),())).1;
  bif !r2 then
  ((0:Int)≤y1.1.2.1∧y1.1.2.1<(↑ids.length:Int))∧
  List.length y1.1.1≤(1000:Nat)∧
 let r3:=Sp.Jw y1.1.1 (ids.getD (Int.toNat y1.1.2.1) ((0:Int),())).1;
  s0=s0∧I ((r3,i64.wrap (y1.1.2.1+(1:Int)),()),())∧μ ((r3,i64.wrap (y1.1.2.1+(1:Int)),()),())<μ y1
  else
  s0=s0∧I ((y1.1.1,i64.wrap (y1.1.2.1+(1:Int)),()),())∧μ ((y1.1.1,i64.wrap (y1.1.2.1+(1:Int)),()),())<μ y1
  else
 let s4:=(((d0,d1,d2,()),()),());
  ∃ (I:afb→Prop),
  ∃ (μ:afb→Nat),
  I ((y1.1.1,(0:Int),()),())∧
  ∀ (y5:afb),
  I y5→
  bif decide (y5.1.2.1<(↑d1.length:Int)) then
  ((0:Int)≤y5.1.2.1∧y5.1.2.1<(↑d1.length:Int))∧
  List.length y5.1.1≤(1000:Nat)∧
 let r6:=Sp.Jw y5.1.1 (d1.getD (Int.toNat y5.1.2.1) ((0:Int),())).1;
  s4=s4∧I ((r6,i64.wrap (y5.1.2.1+(1:Int)),()),())∧μ ((r6,i64.wrap (y5.1.2.1+(1:Int)),()),())<μ y5
  else (0:Nat)+List.length y5.1.1≤big∧K (y5.1.1,())
theorem abK (env:EnvB prog G Θ acn) (h:∀ (ids:bV) (d0:eH) (d1:bV) (d2:bV),bF F6 (ids,(d0,d1,d2,()),())→(ids.length≤(400:Nat)∧d1.length≤(400:Nat))→ab4 ids d0 d1 d2 fun r=>r=((Sp.A7 ids d1 d2,()))):aA prog G uY xC:=
 aT env mixed (fn:=f73) (c:=codeOf f73) (by kernel_rfl) (by kernel_rfl) adD (by kernel_rfl) fun ⟨ids,⟨d0,d1,d2,⟨⟩⟩,⟨⟩⟩ hin hp=>
 Eq.mpr (by kernel_rfl) (h ids d0 d1 d2 hin hp)
def amV:Hints:=Go.Fw.hints [9,21] [(3,⟨[],⟨[(0, .one (.sl 104 (.cons .str (.cons (.sl 3 (.cons (.int .i64) .nil)) .nil)) false)),(1, .one (.sl 106 (.cons .str (.cons (.sl 3 (.cons (.int .i64) .nil)) (.cons (.sl 3 (.cons (.int .i64) .nil)) .nil))) false))],[]⟩,⟨[(5, .one (.ref 577)),(6, .one (.int .i64))],[(577, .arr 104 (.cons .str (.cons (.sl 3 (.cons (.int .i64) .nil)) .nil)) true)]⟩⟩),(7,⟨[],⟨[(0, .one (.sl 104 (.cons .str (.cons (.sl 3 (.cons (.int .i64) .nil)) .nil)) false)),(1, .one (.sl 106 (.cons .str (.cons (.sl 3 (.cons (.int .i64) .nil)) (.cons (.sl 3 (.cons (.int .i64) .nil)) .nil))) false)),(5, .one (.ref 577)),(6, .one (.int .i64)),(7, .dW 448 0)],[(577, .arr 104 (.cons .str (.cons (.sl 3 (.cons (.int .i64) .nil)) .nil)) true)]⟩,⟨[(8, .one (.int .i64))],[(448, .var [.str, .sl 3 (.cons (.int .i64) .nil) true])]⟩⟩)] [] [] []
def akO (a:l7) (d:abT) (K:TG×Unit→Prop):Prop:=
 let s0:=((a,d,()),());
  ∃ (I:WS→Prop),
  ∃ (μ:WS→Nat),
  I (((),(0:Int),()),[],())∧
  ∀ (y1:WS),
  I y1→
  bif decide (y1.1.2.1<(↑a.length:Int)) then
  ((0:Int)≤y1.1.2.1∧y1.1.2.1<(↑a.length:Int))∧
  ((0:Int)≤y1.1.2.1∧y1.1.2.1<(↑a.length:Int))∧
  (0:Nat)+List.length (a.getD (Int.toNat y1.1.2.1) ([],[],())).2.1≤big∧
 let s2:=((a,d,(),y1.1.2.1,(),()),y1.2);
  ∃ (Gn:iV×(eH×kW)×Unit→Prop),
  ∃ (IG:iV×(eH×kW)×Unit→Nat),
  Gn (((0:Int),()),a.getD (Int.toNat y1.1.2.1) ([],[],()),())∧
  ∀ (y3:iV×(eH×kW)×Unit),
  Gn y3→
  bif decide (y3.1.1<(↑d.length:Int)) then
  ((0:Int)≤y3.1.1∧y3.1.1<(↑d.length:Int))∧
  bif (d.getD (Int.toNat y3.1.1) ([],[],[],())).1==y3.2.1.1 then
  ((0:Int)≤y3.1.1∧y3.1.1<(↑d.length:Int))∧
  (List.length y3.2.1.2.1≤(400:Nat)∧List.length (d.getD (Int.toNat y3.1.1) ([],[],[],())).2.1≤(400:Nat))∧
 let r4:=
  Sp.A7 y3.2.1.2.1 (d.getD (Int.toNat y3.1.1) ([],[],[],())).2.1
  (d.getD (Int.toNat y3.1.1) ([],[],[],())).2.2.1;
  s2=s2∧
  Gn ((i64.wrap (y3.1.1+(1:Int)),()),(y3.2.1.1,r4,()),())∧
  IG ((i64.wrap (y3.1.1+(1:Int)),()),(y3.2.1.1,r4,()),())<IG y3
  else
  s2=s2∧Gn ((i64.wrap (y3.1.1+(1:Int)),()),y3.2)∧IG ((i64.wrap (y3.1.1+(1:Int)),()),y3.2)<IG y3
  else
  List.length y1.2.1+[y3.2.1].length≤big∧
  s0=s0∧
  I (((),i64.wrap (y1.1.2.1+(1:Int)),()),y1.2.1++[y3.2.1],())∧
  μ (((),i64.wrap (y1.1.2.1+(1:Int)),()),y1.2.1++[y3.2.1],())<μ y1
  else K (y1.2,())
theorem ajW (env:EnvB prog G Θ alA) (hne:∀ x,(Oc x).1→∃ t,(Oc x).2 t) (h:∀ (a:l7) (d:abT),dO uT (a,d,())→(Sp.UY a∧Sp.UZ d)→akO a d fun (r:TG×Unit)=>(Sp.UY a∧Sp.UZ d,fun (x:TG×Unit)=>x.1.1=Sp.oO a d).2 r):aG prog G BL Em:=
 bZ env mixed (fn:=f36) (c:=codeOf f36) (by kernel_rfl) (by kernel_rfl) amV (by kernel_rfl) hne fun ⟨a,d,⟨⟩⟩ hin hp=>
 Eq.mpr (by kernel_rfl) (h a d hin hp)
def adE:Hints:=Go.Fw.hints [6,6,17] [(3,⟨[],⟨[(8, .one (.sl 94 (.cons .str (.cons (.int .i64) (.cons (.int .i64) (.cons .str .nil)))) false)),(9, .one (.int .i64))],[]⟩,⟨[(3, .one (.ref 385)),(10, .one (.int .i64))],[(385, .arr 9 (.cons .str .nil) true)]⟩⟩)] [] [] []
def ab5 (f0:Int) (f1:Int) (f2:Bool) (f3:Int) (f4:iq) (K:gG→Prop):Prop:=
 let s0:=((f4,(↑f4.length:Int),()),());
  ∃ (I:rG→Prop),
  ∃ (μ:rG→Nat),
  I (((),(0:Int),()),[],())∧
  ∀ (y1:rG),
  I y1→
  bif decide (y1.1.2.1<(↑f4.length:Int)) then
  ((0:Int)≤y1.1.2.1∧y1.1.2.1<(↑f4.length:Int))∧
  List.length y1.2.1+[((f4.getD (Int.toNat y1.1.2.1) ([],(0:Int),(0:Int),[],())).1,())].length≤big∧
  s0=s0∧
  I
  (((),i64.wrap (y1.1.2.1+(1:Int)),()),y1.2.1++[((f4.getD (Int.toNat y1.1.2.1) ([],(0:Int),(0:Int),[],())).1,())],
  ())∧
  μ
  (((),i64.wrap (y1.1.2.1+(1:Int)),()),y1.2.1++[((f4.getD (Int.toNat y1.1.2.1) ([],(0:Int),(0:Int),[],())).1,())],
  ())<
  μ y1
  else K (y1.2,())
theorem abE (env:EnvB prog G Θ aco) (hne:∀ x,(Ho x).1→∃ t,(Ho x).2 t) (h:∀ (f0:Int) (f1:Int) (f2:Bool) (f3:Int) (f4:iq),dO nV ((f0,f1,f2,f3,f4,()),())→(f4.length≤(1000:Nat))→ab5 f0 f1 f2 f3 f4 fun (r:gG)=>(f4.length≤(1000:Nat),fun (x:gG)=>x.1.1=Sp.kU f4).2 r):aG prog G uX xE:=
 bZ env mixed (fn:=f215) (c:=codeOf f215) (by kernel_rfl) (by kernel_rfl) adE (by kernel_rfl) hne fun ⟨⟨f0,f1,f2,f3,f4,⟨⟩⟩,⟨⟩⟩ hin hp=>
 Eq.mpr (by kernel_rfl) (h f0 f1 f2 f3 f4 hin hp)
def adF:Hints:=Go.Fw.hints [11,53,3] [(3,⟨[],⟨[(1, .one (.str)),(3, .dW 192 0),(5, .fM [.int .i64, .int .i64, .str] 0),(6, .dW 384 0)],[(192, .var [.int .i64, .int .i64, .bool, .int .i64, .sl 94 (.cons .str (.cons (.int .i64) (.cons (.int .i64) (.cons .str .nil)))) false]),(384, .var [.int .i64, .int .i64, .bool, .int .i64, .nil])]⟩,⟨[(7, .one (.ref 705)),(8, .one (.int .i64))],[(705, .arr 94 (.cons .str (.cons (.int .i64) (.cons (.int .i64) (.cons .str .nil)))) true)]⟩⟩),(9,⟨[],⟨[(1, .one (.str)),(3, .dW 192 0),(5, .fM [.int .i64, .int .i64, .str] 0),(6, .dW 384 0),(7, .one (.ref 705))],[(192, .var [.int .i64, .int .i64, .bool, .int .i64, .sl 94 (.cons .str (.cons (.int .i64) (.cons (.int .i64) (.cons .str .nil)))) false]),(384, .var [.int .i64, .int .i64, .bool, .int .i64, .nil]),(705, .arr 94 (.cons .str (.cons (.int .i64) (.cons (.int .i64) (.cons .str .nil)))) true)]⟩,⟨[(9, .one (.int .i64))],[]⟩⟩)] [] [] [(11,[.still 705])]
def ab6 (f0:Int) (f1:Int) (f2:Bool) (f3:Int) (f4:iq) (name:eH) (v0:Int) (v1:Int) (v2:eH) (K:ZQ→Prop):Prop:=
 let s0:=((name,(),(v0,v1,v2,()),(),()),(f0,f1,f2,f3,f4,()),((0:Int),(0:Int),false,(0:Int),(),()),());
  ∃ (I:auX→Prop),
  ∃ (μ:auX→Nat),
  I (((),(0:Int),()),[],())∧
  ∀ (y1:auX),
  I y1→
  bif decide (y1.1.2.1<(↑f4.length:Int)) then
  ((0:Int)≤y1.1.2.1∧y1.1.2.1<(↑f4.length:Int))∧
  bif !(f4.getD (Int.toNat y1.1.2.1) ([],(0:Int),(0:Int),[],())).1==name then
  ((0:Int)≤y1.1.2.1∧y1.1.2.1<(↑f4.length:Int))∧
  List.length y1.2.1+[f4.getD (Int.toNat y1.1.2.1) ([],(0:Int),(0:Int),[],())].length≤big∧
  s0=s0∧
  I (((),i64.wrap (y1.1.2.1+(1:Int)),()),y1.2.1++[f4.getD (Int.toNat y1.1.2.1) ([],(0:Int),(0:Int),[],())],())∧
  μ (((),i64.wrap (y1.1.2.1+(1:Int)),()),y1.2.1++[f4.getD (Int.toNat y1.1.2.1) ([],(0:Int),(0:Int),[],())],())<
  μ y1
  else s0=s0∧I (((),i64.wrap (y1.1.2.1+(1:Int)),()),y1.2)∧μ (((),i64.wrap (y1.1.2.1+(1:Int)),()),y1.2)<μ y1
  else
  bif v0 !=(0:Int) then
 let s2:=((name,(),(v0,v1,v2,()),(),(),()),(f0,f1,f2,f3,f4,()),((0:Int),(0:Int),false,(0:Int),(),()),y1.2);
  ∃ (I:bn→Prop),
  ∃ (μ:bn→Nat),
  I (((0:Int),()),())∧
  ∀ (y3:bn),
  I y3→
  bif decide (y3.1.1<(↑(List.length y1.2.1):Int)) then
  ((0:Int)≤y3.1.1∧y3.1.1<(↑(List.length y1.2.1):Int))∧
  Int.toNat y3.1.1<List.length y1.2.1∧
  bif
  Op.bytesLess (List.getD y1.2.1 (Int.toNat y3.1.1) ([],(0:Int),(0:Int),[],())).1 name||
  (List.getD y1.2.1 (Int.toNat y3.1.1) ([],(0:Int),(0:Int),[],())).1==name then
  s2=s2∧I ((i64.wrap (y3.1.1+(1:Int)),()),())∧μ ((i64.wrap (y3.1.1+(1:Int)),()),())<μ y3
  else
  ((0:Int)≤y3.1.1∧y3.1.1≤(↑(List.length y1.2.1):Int))∧
  (0:Nat)+(List.drop (0:Nat) (List.take (Int.toNat y3.1.1) y1.2.1)).length≤big∧
  (List.drop (0:Nat) (List.take (Int.toNat y3.1.1) y1.2.1)).length+[(name,v0,v1,v2,())].length≤big∧
  ((0:Int)≤y3.1.1∧y3.1.1≤(↑(List.length y1.2.1):Int))∧
  (List.drop (0:Nat) (List.take (Int.toNat y3.1.1) y1.2.1)++[(name,v0,v1,v2,())]).length+
  (List.drop (Int.toNat y3.1.1) (List.take (List.length y1.2.1) y1.2.1)).length≤
  big∧
  K
  (((f0,f1,f2,f3,
  List.drop (0:Nat) (List.take (Int.toNat y3.1.1) y1.2.1)++[(name,v0,v1,v2,())]++
  List.drop (Int.toNat y3.1.1) (List.take (List.length y1.2.1) y1.2.1),
  ()),
  ()),
  ())
  else
  ((0:Int)≤y3.1.1∧y3.1.1≤(↑(List.length y1.2.1):Int))∧
  (0:Nat)+(List.drop (0:Nat) (List.take (Int.toNat y3.1.1) y1.2.1)).length≤big∧
  (List.drop (0:Nat) (List.take (Int.toNat y3.1.1) y1.2.1)).length+[(name,v0,v1,v2,())].length≤big∧
  ((0:Int)≤y3.1.1∧y3.1.1≤(↑(List.length y1.2.1):Int))∧
  (List.drop (0:Nat) (List.take (Int.toNat y3.1.1) y1.2.1)++[(name,v0,v1,v2,())]).length+
  (List.drop (Int.toNat y3.1.1) (List.take (List.length y1.2.1) y1.2.1)).length≤
  big∧
  K
  (((f0,f1,f2,f3,
  List.drop (0:Nat) (List.take (Int.toNat y3.1.1) y1.2.1)++[(name,v0,v1,v2,())]++
  List.drop (Int.toNat y3.1.1) (List.take (List.length y1.2.1) y1.2.1),
  ()),
  ()),
  ())
  else K (((f0,f1,f2,f3,y1.2),()),())
theorem abM (env:EnvB prog G Θ acp) (hne:∀ x,(Hq x).1→∃ t,(Hq x).2 t) (h:∀ (f0:Int) (f1:Int) (f2:Bool) (f3:Int) (f4:iq) (name:eH) (v0:Int) (v1:Int) (v2:eH),dO nX ((f0,f1,f2,f3,f4,()),name,(v0,v1,v2,()),())→(f4.length≤(1000:Nat))→ab6 f0 f1 f2 f3 f4 name v0 v1 v2 fun (r:ZQ)=>(f4.length≤(1000:Nat),fun (x:ZQ)=>
 x.1.1.1=f0∧x.1.1.2.1=f1∧x.1.1.2.2.1=f2∧x.1.1.2.2.2.1=f3∧x.1.1.2.2.2.2.1=Sp.kH f4 name v0 v1 v2).2
 r):aG prog G uZ xG:=
 bZ env mixed (fn:=f31) (c:=codeOf f31) (by kernel_rfl) (by kernel_rfl) adF (by kernel_rfl) hne fun ⟨⟨f0,f1,f2,f3,f4,⟨⟩⟩,name,⟨v0,v1,v2,⟨⟩⟩,⟨⟩⟩ hin hp=>
 Eq.mpr (by kernel_rfl) (h f0 f1 f2 f3 f4 name v0 v1 v2 hin hp)
end Go.Proofs.Tryz

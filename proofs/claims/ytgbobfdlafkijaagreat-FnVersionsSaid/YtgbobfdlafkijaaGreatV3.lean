import Derived.Test.YtgbobfdlafkijaaGreatV1
namespace Go.Proofs.Tryz
open Go Go.Fw
set_option maxRecDepth 100000
open Go.IntKind (i64)
def ae1:Hints:=Go.Fw.hints [9,9,12,14] [] [] [] []
def ac6 (k:kJ) (version:Int) (K:tY→Prop):Prop:=
 Sp.aH k∧
 ∀
 (r0:
 ou),
 r0.1.1=k→
 True∧
 Sp.aH k∧
 bif !Sp.fZ k then K ((r0.1.1,false,()),())
 else
 bif decide (Sp.aB k version<(0:Int)) then K ((r0.1.1,false,()),())
 else
 ((0:Int)≤Sp.aB k version∧Sp.aB k version<(↑k.length:Int))∧
 bif decide ((k.getD (Sp.aB k version).toNat ((0:Int),[],[],(0:Int),[],(0:Int),())).2.2.2.2.2.1≤(0:Int)) then
 K ((r0.1.1,false,()),())
 else
 ((0:Int)≤Sp.aB k version∧Sp.aB k version<(↑(List.length r0.1.1):Int))∧
 (Sp.aB k version).toNat<List.length r0.1.1∧
 ((0:Int)≤Sp.aB k version∧Sp.aB k version<(↑(List.length r0.1.1):Int))∧
 (Sp.aB k version).toNat<List.length r0.1.1∧
 K
 ((List.set r0.1.1 (Sp.aB k version).toNat
 ((List.getD r0.1.1 (Sp.aB k version).toNat ((0:Int),[],[],(0:Int),[],(0:Int),())).1,
 (List.getD r0.1.1 (Sp.aB k version).toNat ((0:Int),[],[],(0:Int),[],(0:Int),())).2.1,
 (List.getD r0.1.1 (Sp.aB k version).toNat ((0:Int),[],[],(0:Int),[],(0:Int),())).2.2.1,
 (List.getD r0.1.1 (Sp.aB k version).toNat ((0:Int),[],[],(0:Int),[],(0:Int),())).2.2.2.1,
 (List.getD r0.1.1 (Sp.aB k version).toNat ((0:Int),[],[],(0:Int),[],(0:Int),())).2.2.2.2.1,
 i64.wrap
 ((List.getD r0.1.1 (Sp.aB k version).toNat ((0:Int),[],[],(0:Int),[],(0:Int),())).2.2.2.2.2.1-(1:Int)),
 ()),
 true,()),
 ())
theorem ace (env:EnvB prog G Θ adW) (hne:∀ x,(Ja x).1→∃ t,(Ja x).2 t) (h:∀ (k:kJ) (version:Int),dh qg (k,version,())→(Sp.aH k∧k.length≤(100:Nat))→ac6 k version fun (r:tY)=>(Sp.aH k∧k.length≤(100:Nat),
 fun
 (x:
 tY)=>
 x.1.1=(Sp.dJ k version (-1:Int)).1∧x.1.2.1=(Sp.dJ k version (-1:Int)).2).2
 r):aC prog G wX zO:=
 bI env mixed (fn:=f24) (c:=codeOf f24) (by kernel_rfl) (by kernel_rfl) ae1 (by kernel_rfl) hne fun ⟨k,version,⟨⟩⟩ hin hp=>
 Eq.mpr (by kernel_rfl) (h k version hin hp)
def aqZ:Hints:=Go.Fw.hints [11] [] [] [] []
def aps (v:kJ) (number:Int) (more:Int) (K:tY→Prop):Prop:=
 Sp.aH v∧
 ∀
 (r0:
 ou),
 r0.1.1=v→
 True∧
 Sp.aH v∧
 bif !Sp.fZ v then K ((r0.1.1,false,()),())
 else
 bif decide (Sp.aB v number<(0:Int)) then K ((r0.1.1,false,()),())
 else
 ((0:Int)≤Sp.aB v number∧Sp.aB v number<(↑v.length:Int))∧
 True∧
 let r1:=
  decide
  ((0:Int)≤i64.wrap ((v.getD (Sp.aB v number).toNat ((0:Int),[],[],(0:Int),[],(0:Int),())).2.2.2.2.2.1+more))&&
  decide
  (i64.wrap ((v.getD (Sp.aB v number).toNat ((0:Int),[],[],(0:Int),[],(0:Int),())).2.2.2.2.2.1+more)≤(99:Int));
  bif !r1 then K ((r0.1.1,false,()),())
  else
  ((0:Int)≤Sp.aB v number∧Sp.aB v number<(↑(List.length r0.1.1):Int))∧
  (Sp.aB v number).toNat<List.length r0.1.1∧
  ((0:Int)≤Sp.aB v number∧Sp.aB v number<(↑(List.length r0.1.1):Int))∧
  (Sp.aB v number).toNat<List.length r0.1.1∧
  K
  ((List.set r0.1.1 (Sp.aB v number).toNat
  ((List.getD r0.1.1 (Sp.aB v number).toNat ((0:Int),[],[],(0:Int),[],(0:Int),())).1,
  (List.getD r0.1.1 (Sp.aB v number).toNat ((0:Int),[],[],(0:Int),[],(0:Int),())).2.1,
  (List.getD r0.1.1 (Sp.aB v number).toNat ((0:Int),[],[],(0:Int),[],(0:Int),())).2.2.1,
  (List.getD r0.1.1 (Sp.aB v number).toNat ((0:Int),[],[],(0:Int),[],(0:Int),())).2.2.2.1,
  (List.getD r0.1.1 (Sp.aB v number).toNat ((0:Int),[],[],(0:Int),[],(0:Int),())).2.2.2.2.1,
  i64.wrap
  ((List.getD r0.1.1 (Sp.aB v number).toNat ((0:Int),[],[],(0:Int),[],(0:Int),())).2.2.2.2.2.1+more),
  ()),
  true,()),
  ())
theorem aoJ (env:EnvB prog G Θ aqr) (hne:∀ x,(SB x).1→∃ t,(SB x).2 t) (h:∀ (v:kJ) (number:Int) (more:Int),dh uz (v,number,more,())→(Sp.aH v∧v.length≤(100:Nat)∧(-1:Int)≤more∧more≤(1:Int))→aps v number more fun (r:tY)=>(Sp.aH v∧v.length≤(100:Nat)∧(-1:Int)≤more∧more≤(1:Int),
 fun
 (x:
 tY)=>
 x.1.1=(Sp.dJ v number more).1∧x.1.2.1=(Sp.dJ v number more).2).2
 r):aC prog G Ae zQ:=
 bI env mixed (fn:=f58) (c:=codeOf f58) (by kernel_rfl) (by kernel_rfl) aqZ (by kernel_rfl) hne fun ⟨v,number,more,⟨⟩⟩ hin hp=>
 Eq.mpr (by kernel_rfl) (h v number more hin hp)
def aiH:Hints:=Go.Fw.hints [] [] [] [] []
def ahf (v:kJ) (number:Int) (K:tY→Prop):Prop:=
 (Sp.aH v∧v.length≤(100:Nat)∧(-1:Int)≤(1:Int)∧(1:Int)≤(1:Int))∧
 ∀
 (r0:
 tY),
 r0.1.1=(Sp.dJ v number (1:Int)).1∧r0.1.2.1=(Sp.dJ v number (1:Int)).2→K r0
theorem agG (env:EnvB prog G Θ ahN) (hne:∀ x,(KR x).1→∃ t,(KR x).2 t) (h:∀ (v:kJ) (number:Int),dh uD (v,number,())→(Sp.aH v∧v.length≤(100:Nat))→ahf v number fun (r:tY)=>(Sp.aH v∧v.length≤(100:Nat),
 fun
 (x:
 tY)=>
 x.1.1=(Sp.dJ v number (1:Int)).1∧x.1.2.1=(Sp.dJ v number (1:Int)).2).2
 r):aC prog G Aq Dq:=
 bI env mixed (fn:=f20) (c:=codeOf f20) (by kernel_rfl) (by kernel_rfl) aiH (by kernel_rfl) hne fun ⟨v,number,⟨⟩⟩ hin hp=>
 Eq.mpr (by kernel_rfl) (h v number hin hp)
def ae2:Hints:=Go.Fw.hints [] [] [] [] []
def ac7 (v:kJ) (number:Int) (K:tY→Prop):Prop:=
 (Sp.aH v∧v.length≤(100:Nat)∧(-1:Int)≤(-1:Int)∧(-1:Int)≤(1:Int))∧
 ∀
 (r0:
 tY),
 r0.1.1=(Sp.dJ v number (-1:Int)).1∧r0.1.2.1=(Sp.dJ v number (-1:Int)).2→K r0
theorem acg (env:EnvB prog G Θ adX) (hne:∀ x,(Jb x).1→∃ t,(Jb x).2 t) (h:∀ (v:kJ) (number:Int),dh qh (v,number,())→(Sp.aH v∧v.length≤(100:Nat))→ac7 v number fun (r:tY)=>(Sp.aH v∧v.length≤(100:Nat),
 fun
 (x:
 tY)=>
 x.1.1=(Sp.dJ v number (-1:Int)).1∧x.1.2.1=(Sp.dJ v number (-1:Int)).2).2
 r):aC prog G wY zS:=
 bI env mixed (fn:=f23) (c:=codeOf f23) (by kernel_rfl) (by kernel_rfl) ae2 (by kernel_rfl) hne fun ⟨v,number,⟨⟩⟩ hin hp=>
 Eq.mpr (by kernel_rfl) (h v number hin hp)
def WZ:Hints:=Go.Fw.hints [] [] [] [] []
def U7 (x0:Int) (x1:fC) (x2:iw) (x3:Int) (x4:jf) (x5:Int) (K:fG→Prop):Prop:=
 K (x5==(0:Int),())
theorem UR (env:EnvB prog G Θ VN) (h:∀ (x0:Int) (x1:fC) (x2:iw) (x3:Int) (x4:jf) (x5:Int),bH Ba ((x0,x1,x2,x3,x4,x5,()),())→(True)→U7 x0 x1 x2 x3 x4 x5 fun r=>r=((x5==(0:Int),()))):aG prog G iE iH:=
 aX env mixed (fn:=f57) (c:=codeOf f57) (by kernel_rfl) (by kernel_rfl) WZ (by kernel_rfl) fun ⟨⟨x0,x1,x2,x3,x4,x5,⟨⟩⟩,⟨⟩⟩ hin hp=>
 Eq.mpr (by kernel_rfl) (h x0 x1 x2 x3 x4 x5 hin hp)
def yO:Hints:=Go.Fw.hints [] [(2,⟨[],⟨[(0, .one (.sl 78 (.cons (.int .i64) (.cons (.sl 155 (.cons .str (.cons (.int .i64) .nil))) (.cons (.sl 56 (.cons (.int .i64) (.cons (.int .i64) (.cons .bool (.cons (.int .i64) (.cons (.sl 94 (.cons .str (.cons (.int .i64) (.cons (.int .i64) (.cons .str .nil))))) .nil)))))) (.cons (.int .i64) (.cons (.sl 124 (.cons .str (.cons (.sl 167 (.cons (.int .i64) (.cons (.int .i64) (.cons (.int .i64) (.cons .str (.cons (.int .i64) (.cons (.int .i64) (.cons .str .nil)))))))) .nil))) (.cons (.int .i64) .nil)))))) false)),(1, .fn 57 []),(7, .one (.int .i64))],[]⟩,⟨[(8, .one (.int .i64))],[]⟩⟩)] [] [] []
def yx (s:kJ) (K:jT→Prop):Prop:=
 let s0:=((s,(),(↑s.length:Int),()),());
  ∃ (I:bG→Prop),
  ∃ (μ:bG→Nat),
  I (((0:Int),()),())∧
  ∀ (y1:bG),
  I y1→
  bif decide (y1.1.1<(↑s.length:Int)) then
  ((0:Int)≤y1.1.1∧y1.1.1<(↑s.length:Int))∧
  True∧
 let r2:=(s.getD (Int.toNat y1.1.1) ((0:Int),[],[],(0:Int),[],(0:Int),())).2.2.2.2.2.1==(0:Int);
  bif r2 then K y1.1 else s0=s0∧I ((i64.wrap (y1.1.1+(1:Int)),()),())∧μ ((i64.wrap (y1.1.1+(1:Int)),()),())<μ y1
  else K ((-1:Int),())
theorem yu (env:EnvB prog G Θ yI) (h:∀ (s:kJ),bH iT (s,(()),())→(True)→yx s fun r=>r=((Sp.findAt Sp.unpinned s,()))):aG prog G dS fQ:=
 aX env mixed (fn:=f91) (c:=codeOf f91) (by kernel_rfl) (by kernel_rfl) yO (by kernel_rfl) fun ⟨s,⟨⟩,⟨⟩⟩ hin hp=>
 Eq.mpr (by kernel_rfl) (h s hin hp)
def yA:Hints:=Go.Fw.hints [10,28] [(5,⟨[],⟨[(0, .one (.ref 49)),(1, .fn 57 [])],[]⟩,⟨[(5, .one (.int .i64)),(6, .one (.int .i64))],[(49, .arr 78 (.cons (.int .i64) (.cons (.sl 155 (.cons .str (.cons (.int .i64) .nil))) (.cons (.sl 56 (.cons (.int .i64) (.cons (.int .i64) (.cons .bool (.cons (.int .i64) (.cons (.sl 94 (.cons .str (.cons (.int .i64) (.cons (.int .i64) (.cons .str .nil))))) .nil)))))) (.cons (.int .i64) (.cons (.sl 124 (.cons .str (.cons (.sl 167 (.cons (.int .i64) (.cons (.int .i64) (.cons (.int .i64) (.cons .str (.cons (.int .i64) (.cons (.int .i64) (.cons .str .nil)))))))) .nil))) (.cons (.int .i64) .nil)))))) false)]⟩⟩)] [] [] [(12,[.closes 0]),(11,[.opens 0])]
def xA (s:kJ) (K:ou→Prop):Prop:=
 True∧
 bif Sp.findAt Sp.unpinned s==(-1:Int) then K ((s,()),())
 else
 let s0:=(((),(),()),());
  ∃ (I:
  (Int×jT)×tX→
  Prop),
  ∃ (μ:
  (Int×jT)×tX→
  Nat),
  I ((Sp.findAt Sp.unpinned s,i64.wrap (Sp.findAt Sp.unpinned s+(1:Int)),()),s,())∧
  ∀
  (y1:
  (Int×jT)×tX),
  I y1→
  bif decide (y1.1.2.1<(↑(List.length y1.2.1):Int)) then
  ((0:Int)≤y1.1.2.1∧y1.1.2.1<(↑(List.length y1.2.1):Int))∧
  Int.toNat y1.1.2.1<List.length y1.2.1∧
  True∧
 let r2:=(List.getD y1.2.1 (Int.toNat y1.1.2.1) ((0:Int),[],[],(0:Int),[],(0:Int),())).2.2.2.2.2.1==(0:Int);
  bif !r2 then
  ((0:Int)≤y1.1.1∧y1.1.1<(↑(List.length y1.2.1):Int))∧
  Int.toNat y1.1.1<List.length y1.2.1∧
  s0=s0∧
  I
  ((i64.wrap (y1.1.1+(1:Int)),i64.wrap (y1.1.2.1+(1:Int)),()),
  List.set y1.2.1 (Int.toNat y1.1.1) (List.getD y1.2.1 (Int.toNat y1.1.2.1) ((0:Int),[],[],(0:Int),[],(0:Int),())),
  ())∧
  μ
  ((i64.wrap (y1.1.1+(1:Int)),i64.wrap (y1.1.2.1+(1:Int)),()),
  List.set y1.2.1 (Int.toNat y1.1.1)
  (List.getD y1.2.1 (Int.toNat y1.1.2.1) ((0:Int),[],[],(0:Int),[],(0:Int),())),
  ())<
  μ y1
  else
  s0=s0∧
  I ((y1.1.1,i64.wrap (y1.1.2.1+(1:Int)),()),y1.2)∧
  μ ((y1.1.1,i64.wrap (y1.1.2.1+(1:Int)),()),y1.2)<μ y1
  else
  (0:Nat)<List.length y1.2.1∧
  ((0:Int)≤y1.1.1∧y1.1.1≤(↑(List.length y1.2.1):Int))∧
  (0:Nat)+Int.toNat y1.1.1+(List.length y1.2.1-Int.toNat y1.1.1)≤List.length y1.2.1∧
  ((0:Nat)<
  (gZ y1.2.1 ((0:Nat)+Int.toNat y1.1.1)
  (List.replicate (List.length y1.2.1-Int.toNat y1.1.1) ((0:Int),[],[],(0:Int),[],(0:Int),()))).length∧
  List.length y1.2.1≤
  (gZ y1.2.1 ((0:Nat)+Int.toNat y1.1.1)
  (List.replicate (List.length y1.2.1-Int.toNat y1.1.1) ((0:Int),[],[],(0:Int),[],(0:Int),()))).length)∧
  ((0:Int)≤y1.1.1∧
  y1.1.1≤
  (↑(List.take (List.length y1.2.1)
  (gZ y1.2.1 ((0:Nat)+Int.toNat y1.1.1)
  (List.replicate (List.length y1.2.1-Int.toNat y1.1.1) ((0:Int),[],[],(0:Int),[],(0:Int),())))).length:
  Int))∧
  K
  ((List.take (Int.toNat y1.1.1)
  (List.take (List.length y1.2.1)
  (gZ y1.2.1 ((0:Nat)+Int.toNat y1.1.1)
  (List.replicate (List.length y1.2.1-Int.toNat y1.1.1) ((0:Int),[],[],(0:Int),[],(0:Int),())))),
  ()),
  ())
theorem xw (env:EnvB prog G Θ xZ) (hne:∀ x,(iU x).1→∃ t,(iU x).2 t) (h:∀ (s:kJ),dh bZ (s,(()),())→(s.length≤(1000:Nat))→xA s fun (r:ou)=>(s.length≤(1000:Nat),
 fun
 (x:
 ou)=>
 x.1.1=List.filter (fun (x:Sp.gX)=>!Sp.unpinned x) s).2
 r):aC prog G dO fH:=
 bI env mixed (fn:=f56) (c:=codeOf f56) (by kernel_rfl) (by kernel_rfl) yA (by kernel_rfl) hne fun ⟨s,⟨⟩,⟨⟩⟩ hin hp=>
 Eq.mpr (by kernel_rfl) (h s hin hp)
def Zt:Hints:=Go.Fw.hints [6,27] [] [] [] []
def XL (v:kJ) (K:ou→Prop):Prop:=
 Sp.aH v∧
 ∀
 (r0:
 ou),
 r0.1.1=v→
 Sp.aH v∧
 bif !Sp.fZ v then K r0
 else
 bif (↑v.length:Int)==(0:Int) then K r0
 else
 ((0:Int)≤i64.wrap ((↑(List.length r0.1.1):Int)-(1:Int))∧
 i64.wrap ((↑(List.length r0.1.1):Int)-(1:Int))<(↑(List.length r0.1.1):Int))∧
 (i64.wrap ((↑(List.length r0.1.1):Int)-(1:Int))).toNat<List.length r0.1.1∧
 ((0:Int)≤i64.wrap ((↑(List.length r0.1.1):Int)-(1:Int))∧
 i64.wrap ((↑(List.length r0.1.1):Int)-(1:Int))≤(↑(List.length r0.1.1):Int))∧
 (List.take (i64.wrap ((↑(List.length r0.1.1):Int)-(1:Int))).toNat r0.1.1).length≤(1000:Nat)∧
 ∀
 (r1:
 ou),
 r1.1.1=List.filter (fun (x:Sp.gX)=>!Sp.unpinned x) (List.take (i64.wrap ((↑(List.length r0.1.1):Int)-(1:Int))).toNat r0.1.1)→
 List.length r1.1.1+
 [List.getD r0.1.1 (i64.wrap ((↑(List.length r0.1.1):Int)-(1:Int))).toNat
 ((0:Int),[],[],(0:Int),[],(0:Int),())].length≤
 big∧
 K
 ((r1.1.1++
 [List.getD r0.1.1 (i64.wrap ((↑(List.length r0.1.1):Int)-(1:Int))).toNat ((0:Int),[],[],(0:Int),[],(0:Int),())],
 ()),
 ())
theorem Xu (env:EnvB prog G Θ YT) (hne:∀ x,(ED x).1→∃ t,(ED x).2 t) (h:∀ (v:kJ),dh lZ (v,())→(Sp.aH v)→XL v fun (r:ou)=>(Sp.aH v,
 fun
 (x:
 ou)=>
 x.1.1=Sp.collect v).2
 r):aC prog G sD vw:=
 bI env mixed (fn:=f18) (c:=codeOf f18) (by kernel_rfl) (by kernel_rfl) Zt (by kernel_rfl) hne fun ⟨v,⟨⟩⟩ hin hp=>
 Eq.mpr (by kernel_rfl) (h v hin hp)
def Zu:Hints:=Go.Fw.hints [10] [(5,⟨[(.slot 3 0,225,78,(.cons (.int .i64) (.cons (.sl 155 (.cons .str (.cons (.int .i64) .nil))) (.cons (.sl 56 (.cons (.int .i64) (.cons (.int .i64) (.cons .bool (.cons (.int .i64) (.cons (.sl 94 (.cons .str (.cons (.int .i64) (.cons (.int .i64) (.cons .str .nil))))) .nil)))))) (.cons (.int .i64) (.cons (.sl 124 (.cons .str (.cons (.sl 167 (.cons (.int .i64) (.cons (.int .i64) (.cons (.int .i64) (.cons .str (.cons (.int .i64) (.cons (.int .i64) (.cons .str .nil)))))))) .nil))) (.cons (.int .i64) .nil)))))),false)],⟨[(0, .one (.sl 78 (.cons (.int .i64) (.cons (.sl 155 (.cons .str (.cons (.int .i64) .nil))) (.cons (.sl 56 (.cons (.int .i64) (.cons (.int .i64) (.cons .bool (.cons (.int .i64) (.cons (.sl 94 (.cons .str (.cons (.int .i64) (.cons (.int .i64) (.cons .str .nil))))) .nil)))))) (.cons (.int .i64) (.cons (.sl 124 (.cons .str (.cons (.sl 167 (.cons (.int .i64) (.cons (.int .i64) (.cons (.int .i64) (.cons .str (.cons (.int .i64) (.cons (.int .i64) (.cons .str .nil)))))))) .nil))) (.cons (.int .i64) .nil)))))) false))],[]⟩,⟨[(3, .one (.ref 225)),(4, .one (.int .i64))],[(225, .arr 78 (.cons (.int .i64) (.cons (.sl 155 (.cons .str (.cons (.int .i64) .nil))) (.cons (.sl 56 (.cons (.int .i64) (.cons (.int .i64) (.cons .bool (.cons (.int .i64) (.cons (.sl 94 (.cons .str (.cons (.int .i64) (.cons (.int .i64) (.cons .str .nil))))) .nil)))))) (.cons (.int .i64) (.cons (.sl 124 (.cons .str (.cons (.sl 167 (.cons (.int .i64) (.cons (.int .i64) (.cons (.int .i64) (.cons .str (.cons (.int .i64) (.cons (.int .i64) (.cons .str .nil)))))))) .nil))) (.cons (.int .i64) .nil)))))) false)]⟩⟩)] [] [] []
def XM (k:kJ) (K:ou→Prop):Prop:=
 Sp.aH k∧
 bif !Sp.fZ k then
 Sp.aH k∧
 ∀
 (r0:
 ou),
 r0.1.1=k→K r0
 else
 let s1:=((k,()),());
  ∃ (I:
  qL×tX→
  Prop),
  ∃ (μ:
  qL×tX→
  Nat),
  I (((),(0:Int),()),[],())∧
  ∀
  (y2:
  qL×tX),
  I y2→
  bif decide (y2.1.2.1<(↑k.length:Int)) then
  ((0:Int)≤y2.1.2.1∧y2.1.2.1<(↑k.length:Int))∧
  bif decide ((k.getD (Int.toNat y2.1.2.1) ((0:Int),[],[],(0:Int),[],(0:Int),())).2.2.2.2.2.1>(0:Int)) then
  ((0:Int)≤y2.1.2.1∧y2.1.2.1<(↑k.length:Int))∧
  List.length y2.2.1+[k.getD (Int.toNat y2.1.2.1) ((0:Int),[],[],(0:Int),[],(0:Int),())].length≤big∧
  s1=s1∧
  I
  (((),i64.wrap (y2.1.2.1+(1:Int)),()),
  y2.2.1++[k.getD (Int.toNat y2.1.2.1) ((0:Int),[],[],(0:Int),[],(0:Int),())],())∧
  μ
  (((),i64.wrap (y2.1.2.1+(1:Int)),()),
  y2.2.1++[k.getD (Int.toNat y2.1.2.1) ((0:Int),[],[],(0:Int),[],(0:Int),())],())<
  μ y2
  else
  bif y2.1.2.1==i64.wrap ((↑k.length:Int)-(1:Int)) then
  ((0:Int)≤y2.1.2.1∧y2.1.2.1<(↑k.length:Int))∧
  List.length y2.2.1+[k.getD (Int.toNat y2.1.2.1) ((0:Int),[],[],(0:Int),[],(0:Int),())].length≤big∧
  s1=s1∧
  I
  (((),i64.wrap (y2.1.2.1+(1:Int)),()),
  y2.2.1++[k.getD (Int.toNat y2.1.2.1) ((0:Int),[],[],(0:Int),[],(0:Int),())],())∧
  μ
  (((),i64.wrap (y2.1.2.1+(1:Int)),()),
  y2.2.1++[k.getD (Int.toNat y2.1.2.1) ((0:Int),[],[],(0:Int),[],(0:Int),())],())<
  μ y2
  else s1=s1∧I (((),i64.wrap (y2.1.2.1+(1:Int)),()),y2.2)∧μ (((),i64.wrap (y2.1.2.1+(1:Int)),()),y2.2)<μ y2
  else
  Sp.aH y2.2.1∧
  ∀
  (r3:
  ou),
  r3.1.1=y2.2.1→K r3
theorem Xw (env:EnvB prog G Θ YU) (hne:∀ x,(EF x).1→∃ t,(EF x).2 t) (h:∀ (k:kJ),dh l7 (k,())→(Sp.aH k)→XM k fun (r:ou)=>(Sp.aH k,
 fun
 (x:
 ou)=>
 x.1.1=Sp.collect k).2
 r):aC prog G su vz:=
 bI env mixed (fn:=f25) (c:=codeOf f25) (by kernel_rfl) (by kernel_rfl) Zu (by kernel_rfl) hne fun ⟨k,⟨⟩⟩ hin hp=>
 Eq.mpr (by kernel_rfl) (h k hin hp)
def aiI:Hints:=Go.Fw.hints [] [] [] [] []
def ahg (a0:Int) (a1:Int) (a2:Bool) (a3:Int) (a4:oq) (b0:Int) (b1:Int) (b2:Bool) (b3:Int) (b4:oq) (K:fG→Prop):Prop:=
 bif a0==b0 then
 bif a1==b1 then
 bif a2==b2 then
 bif a3==b3 then
 True∧
 let r0:=decide (a4=b4);
  K (r0,())
  else K (false,())
  else K (false,())
  else K (false,())
  else K (false,())
theorem agE (env:EnvB prog G Θ ahO) (h:∀ (a0:Int) (a1:Int) (a2:Bool) (a3:Int) (a4:oq) (b0:Int) (b1:Int) (b2:Bool) (b3:Int) (b4:oq),bH JI ((a0,a1,a2,a3,a4,()),(b0,b1,b2,b3,b4,()),())→(True)→ahg a0 a1 a2 a3 a4 b0 b1 b2 b3 b4 fun r=>r=((decide ((a0,a1,a2,a3,a4,())=(b0,b1,b2,b3,b4,())),()))):aG prog G qF rO:=
 aX env mixed (fn:=f152) (c:=codeOf f152) (by kernel_rfl) (by kernel_rfl) aiI (by kernel_rfl) fun ⟨⟨a0,a1,a2,a3,a4,⟨⟩⟩,⟨b0,b1,b2,b3,b4,⟨⟩⟩,⟨⟩⟩ hin hp=>
 Eq.mpr (by kernel_rfl) (h a0 a1 a2 a3 a4 b0 b1 b2 b3 b4 hin hp)
def W9:Hints:=Go.Fw.hints [] [(4,⟨[],⟨[(0, .one (.sl 94 (.cons .str (.cons (.int .i64) (.cons (.int .i64) (.cons .str .nil)))) false)),(1, .one (.sl 94 (.cons .str (.cons (.int .i64) (.cons (.int .i64) (.cons .str .nil)))) false)),(12, .one (.int .i64))],[]⟩,⟨[(13, .one (.int .i64))],[]⟩⟩)] [] [] []
def U8 (s1:oq) (s2:oq) (K:fG→Prop):Prop:=
 bif (↑s1.length:Int) !=(↑s2.length:Int) then K (false,())
 else
 let s0:=((s1,s2,(↑s1.length:Int),()),());
  ∃ (I:bG→Prop),
  ∃ (μ:bG→Nat),
  I (((0:Int),()),())∧
  ∀ (y1:bG),
  I y1→
  bif decide (y1.1.1<(↑s1.length:Int)) then
  ((0:Int)≤y1.1.1∧y1.1.1<(↑s1.length:Int))∧
  ((0:Int)≤y1.1.1∧y1.1.1<(↑s2.length:Int))∧
  bif
  !((s1.getD (Int.toNat y1.1.1) ([],(0:Int),(0:Int),[],())).1==(s2.getD (Int.toNat y1.1.1) ([],(0:Int),(0:Int),[],())).1&&
  ((s1.getD (Int.toNat y1.1.1) ([],(0:Int),(0:Int),[],())).2.1==
  (s2.getD (Int.toNat y1.1.1) ([],(0:Int),(0:Int),[],())).2.1&&
  ((s1.getD (Int.toNat y1.1.1) ([],(0:Int),(0:Int),[],())).2.2.1==
  (s2.getD (Int.toNat y1.1.1) ([],(0:Int),(0:Int),[],())).2.2.1&&
  ((s1.getD (Int.toNat y1.1.1) ([],(0:Int),(0:Int),[],())).2.2.2.1==
  (s2.getD (Int.toNat y1.1.1) ([],(0:Int),(0:Int),[],())).2.2.2.1&&
  true)))) then
  K (false,())
  else s0=s0∧I ((i64.wrap (y1.1.1+(1:Int)),()),())∧μ ((i64.wrap (y1.1.1+(1:Int)),()),())<μ y1
  else K (true,())
theorem UN (env:EnvB prog G Θ VO) (h:∀ (s1:oq) (s2:oq),bH Bc (s1,s2,())→(True)→U8 s1 s2 fun r=>r=((decide (s1=s2),()))):aG prog G o7 sO:=
 aX env mixed (fn:=f205) (c:=codeOf f205) (by kernel_rfl) (by kernel_rfl) W9 (by kernel_rfl) fun ⟨s1,s2,⟨⟩⟩ hin hp=>
 Eq.mpr (by kernel_rfl) (h s1 s2 hin hp)
def U9:Hints:=Go.Fw.hints [] [(4,⟨[],⟨[(0, .one (.sl 155 (.cons .str (.cons (.int .i64) .nil)) false)),(1, .one (.sl 155 (.cons .str (.cons (.int .i64) .nil)) false)),(12, .one (.int .i64))],[]⟩,⟨[(13, .one (.int .i64))],[]⟩⟩)] [] [] []
def Tt (s1:fC) (s2:fC) (K:fG→Prop):Prop:=
 bif (↑s1.length:Int) !=(↑s2.length:Int) then K (false,())
 else
 let s0:=((s1,s2,(↑s1.length:Int),()),());
  ∃ (I:bG→Prop),
  ∃ (μ:bG→Nat),
  I (((0:Int),()),())∧
  ∀ (y1:bG),
  I y1→
  bif decide (y1.1.1<(↑s1.length:Int)) then
  ((0:Int)≤y1.1.1∧y1.1.1<(↑s1.length:Int))∧
  ((0:Int)≤y1.1.1∧y1.1.1<(↑s2.length:Int))∧
  bif
  !((s1.getD (Int.toNat y1.1.1) ([],(0:Int),())).1==(s2.getD (Int.toNat y1.1.1) ([],(0:Int),())).1&&
  ((s1.getD (Int.toNat y1.1.1) ([],(0:Int),())).2.1==(s2.getD (Int.toNat y1.1.1) ([],(0:Int),())).2.1&&true)) then
  K (false,())
  else s0=s0∧I ((i64.wrap (y1.1.1+(1:Int)),()),())∧μ ((i64.wrap (y1.1.1+(1:Int)),()),())<μ y1
  else K (true,())
theorem Tc (env:EnvB prog G Θ Ur) (h:∀ (s1:fC) (s2:fC),bH zZ (s1,s2,())→(True)→Tt s1 s2 fun r=>r=((decide (s1=s2),()))):aG prog G nX qU:=
 aX env mixed (fn:=f150) (c:=codeOf f150) (by kernel_rfl) (by kernel_rfl) U9 (by kernel_rfl) fun ⟨s1,s2,⟨⟩⟩ hin hp=>
 Eq.mpr (by kernel_rfl) (h s1 s2 hin hp)
def yP:Hints:=Go.Fw.hints [] [(4,⟨[],⟨[(1, .one (.sl 56 (.cons (.int .i64) (.cons (.int .i64) (.cons .bool (.cons (.int .i64) (.cons (.sl 94 (.cons .str (.cons (.int .i64) (.cons (.int .i64) (.cons .str .nil))))) .nil))))) false)),(2, .fn 152 []),(15, .one (.sl 56 (.cons (.int .i64) (.cons (.int .i64) (.cons .bool (.cons (.int .i64) (.cons (.sl 94 (.cons .str (.cons (.int .i64) (.cons (.int .i64) (.cons .str .nil))))) .nil))))) false)),(16, .one (.int .i64))],[]⟩,⟨[(17, .one (.int .i64))],[]⟩⟩)] [] [] []
def yB (s1:iw) (s2:iw) (K:fG→Prop):Prop:=
 bif (↑s1.length:Int) !=(↑s2.length:Int) then K (false,())
 else
 let s0:=((s2,(),s1,(↑s1.length:Int),()),());
  ∃ (I:bG→Prop),
  ∃ (μ:bG→Nat),
  I (((0:Int),()),())∧
  ∀ (y1:bG),
  I y1→
  bif decide (y1.1.1<(↑s1.length:Int)) then
  ((0:Int)≤y1.1.1∧y1.1.1<(↑s1.length:Int))∧
  ((0:Int)≤y1.1.1∧y1.1.1<(↑s2.length:Int))∧
  True∧
 let r2:=
  decide
  (s1.getD (Int.toNat y1.1.1) ((0:Int),(0:Int),false,(0:Int),[],())=
  s2.getD (Int.toNat y1.1.1) ((0:Int),(0:Int),false,(0:Int),[],()));
  bif !r2 then K (false,())
  else s0=s0∧I ((i64.wrap (y1.1.1+(1:Int)),()),())∧μ ((i64.wrap (y1.1.1+(1:Int)),()),())<μ y1
  else K (true,())
theorem yj (env:EnvB prog G Θ yJ) (h:∀ (s1:iw) (s2:iw),bH iV (s1,s2,(()),())→(True)→yB s1 s2 fun r=>r=((decide (s1=s2),()))):aG prog G dU fU:=
 aX env mixed (fn:=f151) (c:=codeOf f151) (by kernel_rfl) (by kernel_rfl) yP (by kernel_rfl) fun ⟨s1,s2,⟨⟩,⟨⟩⟩ hin hp=>
 Eq.mpr (by kernel_rfl) (h s1 s2 hin hp)
def ahh:Hints:=Go.Fw.hints [] [] [] [] []
def ae3 (a0:fC) (a1:iw) (a2:Int) (b0:fC) (b1:iw) (b2:Int) (K:fG→Prop):Prop:=
 True∧
 let r0:=decide (a0=b0);
  bif r0 then
  True∧
 let r1:=decide (a1=b1);
  bif r1 then K (a2==b2,()) else K (false,())
  else K (false,())
theorem aej (env:EnvB prog G Θ afw) (h:∀ (a0:fC) (a1:iw) (a2:Int) (b0:fC) (b1:iw) (b2:Int),bH Jc ((a0,a1,a2,()),(b0,b1,b2,()),())→(True)→ae3 a0 a1 a2 b0 b1 b2 fun r=>r=((decide ((a0,a1,a2,())=(b0,b1,b2,())),()))):aG prog G zf Bd:=
 aX env mixed (fn:=f98) (c:=codeOf f98) (by kernel_rfl) (by kernel_rfl) ahh (by kernel_rfl) fun ⟨⟨a0,a1,a2,⟨⟩⟩,⟨b0,b1,b2,⟨⟩⟩,⟨⟩⟩ hin hp=>
 Eq.mpr (by kernel_rfl) (h a0 a1 a2 b0 b1 b2 hin hp)
def Xa:Hints:=Go.Fw.hints [] [(4,⟨[],⟨[(0, .one (.sl 167 (.cons (.int .i64) (.cons (.int .i64) (.cons (.int .i64) (.cons .str (.cons (.int .i64) (.cons (.int .i64) (.cons .str .nil))))))) false)),(1, .one (.sl 167 (.cons (.int .i64) (.cons (.int .i64) (.cons (.int .i64) (.cons .str (.cons (.int .i64) (.cons (.int .i64) (.cons .str .nil))))))) false)),(12, .one (.int .i64))],[]⟩,⟨[(13, .one (.int .i64))],[]⟩⟩)] [] [] []
def Va (s1:kG) (s2:kG) (K:fG→Prop):Prop:=
 bif (↑s1.length:Int) !=(↑s2.length:Int) then K (false,())
 else
 let s0:=((s1,s2,(↑s1.length:Int),()),());
  ∃ (I:bG→Prop),
  ∃ (μ:bG→Nat),
  I (((0:Int),()),())∧
  ∀ (y1:bG),
  I y1→
  bif decide (y1.1.1<(↑s1.length:Int)) then
  ((0:Int)≤y1.1.1∧y1.1.1<(↑s1.length:Int))∧
  ((0:Int)≤y1.1.1∧y1.1.1<(↑s2.length:Int))∧
  bif
  !((s1.getD (Int.toNat y1.1.1) ((0:Int),(0:Int),(0:Int),[],(0:Int),(0:Int),[],())).1==
  (s2.getD (Int.toNat y1.1.1) ((0:Int),(0:Int),(0:Int),[],(0:Int),(0:Int),[],())).1&&
  ((s1.getD (Int.toNat y1.1.1) ((0:Int),(0:Int),(0:Int),[],(0:Int),(0:Int),[],())).2.1==
  (s2.getD (Int.toNat y1.1.1) ((0:Int),(0:Int),(0:Int),[],(0:Int),(0:Int),[],())).2.1&&
  ((s1.getD (Int.toNat y1.1.1) ((0:Int),(0:Int),(0:Int),[],(0:Int),(0:Int),[],())).2.2.1==
  (s2.getD (Int.toNat y1.1.1) ((0:Int),(0:Int),(0:Int),[],(0:Int),(0:Int),[],())).2.2.1&&
  ((s1.getD (Int.toNat y1.1.1) ((0:Int),(0:Int),(0:Int),[],(0:Int),(0:Int),[],())).2.2.2.1==
  (s2.getD (Int.toNat y1.1.1) ((0:Int),(0:Int),(0:Int),[],(0:Int),(0:Int),[],())).2.2.2.1&&
  ((s1.getD (Int.toNat y1.1.1) ((0:Int),(0:Int),(0:Int),[],(0:Int),(0:Int),[],())).2.2.2.2.1==
  (s2.getD (Int.toNat y1.1.1) ((0:Int),(0:Int),(0:Int),[],(0:Int),(0:Int),[],())).2.2.2.2.1&&
  ((s1.getD (Int.toNat y1.1.1) ((0:Int),(0:Int),(0:Int),[],(0:Int),(0:Int),[],())).2.2.2.2.2.1==
  (s2.getD (Int.toNat y1.1.1) ((0:Int),(0:Int),(0:Int),[],(0:Int),(0:Int),[],())).2.2.2.2.2.1&&
  ((s1.getD (Int.toNat y1.1.1) ((0:Int),(0:Int),(0:Int),[],(0:Int),(0:Int),[],())).2.2.2.2.2.2.1==
  (s2.getD (Int.toNat y1.1.1) ((0:Int),(0:Int),(0:Int),[],(0:Int),(0:Int),[],())).2.2.2.2.2.2.1&&
  true))))))) then
  K (false,())
  else s0=s0∧I ((i64.wrap (y1.1.1+(1:Int)),()),())∧μ ((i64.wrap (y1.1.1+(1:Int)),()),())<μ y1
  else K (true,())
theorem UQ (env:EnvB prog G Θ VP) (h:∀ (s1:kG) (s2:kG),bH Bf (s1,s2,())→(True)→Va s1 s2 fun r=>r=((decide (s1=s2),()))):aG prog G o8 sQ:=
 aX env mixed (fn:=f206) (c:=codeOf f206) (by kernel_rfl) (by kernel_rfl) Xa (by kernel_rfl) fun ⟨s1,s2,⟨⟩⟩ hin hp=>
 Eq.mpr (by kernel_rfl) (h s1 s2 hin hp)
def ae4:Hints:=Go.Fw.hints [] [] [] [] []
def ac8 (a:kG) (b:kG) (K:fG→Prop):Prop:=
 True∧
 let r0:=decide (a=b);
  K (r0,())
theorem ab8 (env:EnvB prog G Θ adY) (h:∀ (a:kG) (b:kG),bH Hg (a,b,())→(True)→ac8 a b fun r=>r=((decide (a=b),()))):aG prog G wV zT:=
 aX env mixed (fn:=f155) (c:=codeOf f155) (by kernel_rfl) (by kernel_rfl) ae4 (by kernel_rfl) fun ⟨a,b,⟨⟩⟩ hin hp=>
 Eq.mpr (by kernel_rfl) (h a b hin hp)
def ahi:Hints:=Go.Fw.hints [] [] [] [] []
def ae5 (x0:fK) (x1:kG) (y0:fK) (y1:kG) (K:fG→Prop):Prop:=
 bif x0==y0 then
 True∧
 let r0:=decide (x1=y1);
  K (r0,())
  else K (false,())
theorem aek (env:EnvB prog G Θ afx) (h:∀ (x0:fK) (x1:kG) (y0:fK) (y1:kG),bH Jd ((x0,x1,()),(y0,y1,()),())→(True)→ae5 x0 x1 y0 y1 fun r=>r=((decide ((x0,x1,())=(y0,y1,())),()))):aG prog G o9 qi:=
 aX env mixed (fn:=f154) (c:=codeOf f154) (by kernel_rfl) (by kernel_rfl) ahi (by kernel_rfl) fun ⟨⟨x0,x1,⟨⟩⟩,⟨y0,y1,⟨⟩⟩,⟨⟩⟩ hin hp=>
 Eq.mpr (by kernel_rfl) (h x0 x1 y0 y1 hin hp)
def zu:Hints:=Go.Fw.hints [] [(4,⟨[],⟨[(1, .one (.sl 124 (.cons .str (.cons (.sl 167 (.cons (.int .i64) (.cons (.int .i64) (.cons (.int .i64) (.cons .str (.cons (.int .i64) (.cons (.int .i64) (.cons .str .nil)))))))) .nil)) false)),(2, .fn 154 []),(15, .one (.sl 124 (.cons .str (.cons (.sl 167 (.cons (.int .i64) (.cons (.int .i64) (.cons (.int .i64) (.cons .str (.cons (.int .i64) (.cons (.int .i64) (.cons .str .nil)))))))) .nil)) false)),(16, .one (.int .i64))],[]⟩,⟨[(17, .one (.int .i64))],[]⟩⟩)] [] [] []
def yQ (s1:jf) (s2:jf) (K:fG→Prop):Prop:=
 bif (↑s1.length:Int) !=(↑s2.length:Int) then K (false,())
 else
 let s0:=((s2,(),s1,(↑s1.length:Int),()),());
  ∃ (I:bG→Prop),
  ∃ (μ:bG→Nat),
  I (((0:Int),()),())∧
  ∀ (y1:bG),
  I y1→
  bif decide (y1.1.1<(↑s1.length:Int)) then
  ((0:Int)≤y1.1.1∧y1.1.1<(↑s1.length:Int))∧
  ((0:Int)≤y1.1.1∧y1.1.1<(↑s2.length:Int))∧
  True∧
 let r2:=decide (s1.getD (Int.toNat y1.1.1) ([],[],())=s2.getD (Int.toNat y1.1.1) ([],[],()));
  bif !r2 then K (false,())
  else s0=s0∧I ((i64.wrap (y1.1.1+(1:Int)),()),())∧μ ((i64.wrap (y1.1.1+(1:Int)),()),())<μ y1
  else K (true,())
theorem yN (env:EnvB prog G Θ y9) (h:∀ (s1:jf) (s2:jf),bH jd (s1,s2,(()),())→(True)→yQ s1 s2 fun r=>r=((decide (s1=s2),()))):aG prog G dW gq:=
 aX env mixed (fn:=f153) (c:=codeOf f153) (by kernel_rfl) (by kernel_rfl) zu (by kernel_rfl) fun ⟨s1,s2,⟨⟩,⟨⟩⟩ hin hp=>
 Eq.mpr (by kernel_rfl) (h s1 s2 hin hp)
def ak3:Hints:=Go.Fw.hints [] [] [] [] []
def aiJ (a:jf) (b:jf) (K:fG→Prop):Prop:=
 True∧
 let r0:=decide (a=b);
  K (r0,())
theorem ail (env:EnvB prog G Θ ajB) (h:∀ (a:jf) (b:jf),bH KT (a,b,())→(True)→aiJ a b fun r=>r=((decide (a=b),()))):aG prog G CU D5:=
 aX env mixed (fn:=f99) (c:=codeOf f99) (by kernel_rfl) (by kernel_rfl) ak3 (by kernel_rfl) fun ⟨a,b,⟨⟩⟩ hin hp=>
 Eq.mpr (by kernel_rfl) (h a b hin hp)
def aaV:Hints:=Go.Fw.hints [] [] [] [] []
def Zv (a0:fC) (a1:iw) (a2:Int) (a3:jf) (b0:fC) (b1:iw) (b2:Int) (b3:jf) (K:fG→Prop):Prop:=
 True∧
 let r0:=decide ((a0,a1,a2,())=(b0,b1,b2,()));
  bif r0 then
  True∧
 let r1:=decide (a3=b3);
  K (r1,())
  else K (false,())
theorem Zf (env:EnvB prog G Θ ZC) (h:∀ (a0:fC) (a1:iw) (a2:Int) (a3:jf) (b0:fC) (b1:iw) (b2:Int) (b3:jf),bH EG ((a0,a1,a2,a3,()),(b0,b1,b2,b3,()),())→(True)→Zv a0 a1 a2 a3 b0 b1 b2 b3 fun r=>r=((decide ((a0,a1,a2,a3,())=(b0,b1,b2,b3,())),()))):aG prog G uF wI:=
 aX env mixed (fn:=f62) (c:=codeOf f62) (by kernel_rfl) (by kernel_rfl) aaV (by kernel_rfl) fun ⟨⟨a0,a1,a2,a3,⟨⟩⟩,⟨b0,b1,b2,b3,⟨⟩⟩,⟨⟩⟩ hin hp=>
 Eq.mpr (by kernel_rfl) (h a0 a1 a2 a3 b0 b1 b2 b3 hin hp)
def Zw:Hints:=Go.Fw.hints [] [] [] [] []
def XO (x0:Int) (x1:fC) (x2:iw) (x3:Int) (x4:jf) (x5:Int) (y0:Int) (y1:fC) (y2:iw) (y3:Int) (y4:jf) (y5:Int) (K:fG→Prop):Prop:=
 bif x0==y0 then
 bif x5==y5 then
 True∧
 let r0:=decide ((x1,x2,x3,x4,())=(y1,y2,y3,y4,()));
  K (r0,())
  else K (false,())
  else K (false,())
theorem Xr (env:EnvB prog G Θ YV) (h:∀ (x0:Int) (x1:fC) (x2:iw) (x3:Int) (x4:jf) (x5:Int) (y0:Int) (y1:fC) (y2:iw) (y3:Int) (y4:jf) (y5:Int),bH DF ((x0,x1,x2,x3,x4,x5,()),(y0,y1,y2,y3,y4,y5,()),())→(True)→XO x0 x1 x2 x3 x4 x5 y0 y1 y2 y3 y4 y5 fun r=>r=((decide ((x0,x1,x2,x3,x4,x5,())=(y0,y1,y2,y3,y4,y5,())),()))):aG prog G kS lH:=
 aX env mixed (fn:=f61) (c:=codeOf f61) (by kernel_rfl) (by kernel_rfl) Zw (by kernel_rfl) fun ⟨⟨x0,x1,x2,x3,x4,x5,⟨⟩⟩,⟨y0,y1,y2,y3,y4,y5,⟨⟩⟩,⟨⟩⟩ hin hp=>
 Eq.mpr (by kernel_rfl) (h x0 x1 x2 x3 x4 x5 y0 y1 y2 y3 y4 y5 hin hp)
def sH:Hints:=Go.Fw.hints [] [(4,⟨[],⟨[(1, .one (.sl 78 (.cons (.int .i64) (.cons (.sl 155 (.cons .str (.cons (.int .i64) .nil))) (.cons (.sl 56 (.cons (.int .i64) (.cons (.int .i64) (.cons .bool (.cons (.int .i64) (.cons (.sl 94 (.cons .str (.cons (.int .i64) (.cons (.int .i64) (.cons .str .nil))))) .nil)))))) (.cons (.int .i64) (.cons (.sl 124 (.cons .str (.cons (.sl 167 (.cons (.int .i64) (.cons (.int .i64) (.cons (.int .i64) (.cons .str (.cons (.int .i64) (.cons (.int .i64) (.cons .str .nil)))))))) .nil))) (.cons (.int .i64) .nil)))))) false)),(2, .fn 61 []),(15, .one (.sl 78 (.cons (.int .i64) (.cons (.sl 155 (.cons .str (.cons (.int .i64) .nil))) (.cons (.sl 56 (.cons (.int .i64) (.cons (.int .i64) (.cons .bool (.cons (.int .i64) (.cons (.sl 94 (.cons .str (.cons (.int .i64) (.cons (.int .i64) (.cons .str .nil))))) .nil)))))) (.cons (.int .i64) (.cons (.sl 124 (.cons .str (.cons (.sl 167 (.cons (.int .i64) (.cons (.int .i64) (.cons (.int .i64) (.cons .str (.cons (.int .i64) (.cons (.int .i64) (.cons .str .nil)))))))) .nil))) (.cons (.int .i64) .nil)))))) false)),(16, .one (.int .i64))],[]⟩,⟨[(17, .one (.int .i64))],[]⟩⟩)] [] [] []
def rE (s1:kJ) (s2:kJ) (K:fG→Prop):Prop:=
 bif (↑s1.length:Int) !=(↑s2.length:Int) then K (false,())
 else
 let s0:=((s2,(),s1,(↑s1.length:Int),()),());
  ∃ (I:bG→Prop),
  ∃ (μ:bG→Nat),
  I (((0:Int),()),())∧
  ∀ (y1:bG),
  I y1→
  bif decide (y1.1.1<(↑s1.length:Int)) then
  ((0:Int)≤y1.1.1∧y1.1.1<(↑s1.length:Int))∧
  ((0:Int)≤y1.1.1∧y1.1.1<(↑s2.length:Int))∧
  True∧
 let r2:=
  decide
  (s1.getD (Int.toNat y1.1.1) ((0:Int),[],[],(0:Int),[],(0:Int),())=
  s2.getD (Int.toNat y1.1.1) ((0:Int),[],[],(0:Int),[],(0:Int),()));
  bif !r2 then K (false,())
  else s0=s0∧I ((i64.wrap (y1.1.1+(1:Int)),()),())∧μ ((i64.wrap (y1.1.1+(1:Int)),()),())<μ y1
  else K (true,())
theorem rD (env:EnvB prog G Θ rZ) (h:∀ (s1:kJ) (s2:kJ),bH gJ (s1,s2,(()),())→(True)→rE s1 s2 fun r=>r=((decide (s1=s2),()))):aG prog G cu dK:=
 aX env mixed (fn:=f60) (c:=codeOf f60) (by kernel_rfl) (by kernel_rfl) sH (by kernel_rfl) fun ⟨s1,s2,⟨⟩,⟨⟩⟩ hin hp=>
 Eq.mpr (by kernel_rfl) (h s1 s2 hin hp)
def ac9:Hints:=Go.Fw.hints [] [] [] [] []
def aaW (a:kJ) (b:kJ) (K:fG→Prop):Prop:=
 True∧
 let r0:=decide (a=b);
  K (r0,())
theorem aaD (env:EnvB prog G Θ abh) (h:∀ (a:kJ) (b:kJ),bH Fz (a,b,())→(True)→aaW a b fun r=>r=((decide (a=b),()))):aG prog G vK yH:=
 aX env mixed (fn:=f27) (c:=codeOf f27) (by kernel_rfl) (by kernel_rfl) ac9 (by kernel_rfl) fun ⟨a,b,⟨⟩⟩ hin hp=>
 Eq.mpr (by kernel_rfl) (h a b hin hp)
def Tv:Hints:=Go.Fw.hints [] [] [] [] []
def RS (code:dB) (K:ou→Prop):Prop:=
 code.length≤(1048576:Nat)∧
 ∀ (r0:BD),
 r0.2.1=(0:Int)→
 (0:Int)≤r0.2.1∧
 ∀
 (r1:
 tX×jm),
 (0:Int)≤r1.2.1.2.1∧r1.1.1.length≤(10:Nat)∧Sp.aH r1.1.1→K (r1.1,())
theorem RP (env:EnvB prog G Θ SC) (hne:∀ x,(Aa x).1→∃ t,(Aa x).2 t) (h:∀ (code:dB),dh kF (code,())→(code.length≤(1048576:Nat))→RS code fun (r:ou)=>(code.length≤(1048576:Nat),
 fun
 (x:
 ou)=>
 x.1.1.length≤(10:Nat)∧Sp.aH x.1.1).2
 r):aC prog G mM qj:=
 bI env mixed (fn:=f17) (c:=codeOf f17) (by kernel_rfl) (by kernel_rfl) Tv (by kernel_rfl) hne fun ⟨code,⟨⟩⟩ hin hp=>
 Eq.mpr (by kernel_rfl) (h code hin hp)
def aaX:Hints:=Go.Fw.hints [] [] [] [] []
def Zx (code:dB) (K:QK→Prop):Prop:=
 code.length≤(1048576:Nat)∧
 ∀
 (r0:
 QK),
 r0.1.1.length≤(10:Nat)∧Sp.aH r0.1.1→K r0
theorem Zh (env:EnvB prog G Θ ZE) (hne:∀ x,(FC x).1→∃ t,(FC x).2 t) (h:∀ (code:dB),dh mX (code,())→(code.length≤(1048576:Nat))→Zx code fun (r:QK)=>(code.length≤(1048576:Nat),
 fun
 (x:
 QK)=>
 x.1.1.length≤(10:Nat)∧Sp.aH x.1.1).2
 r):aC prog G uG wJ:=
 bI env mixed (fn:=f19) (c:=codeOf f19) (by kernel_rfl) (by kernel_rfl) aaX (by kernel_rfl) hne fun ⟨code,⟨⟩⟩ hin hp=>
 Eq.mpr (by kernel_rfl) (h code hin hp)
def XP:Hints:=Go.Fw.hints [] [] [] [] []
def Xb (code:dB) (K:QK→Prop):Prop:=
 code.length≤(1048576:Nat)∧
 ∀
 (r0:
 QK),
 r0.1.1.length≤(10:Nat)∧Sp.aH r0.1.1→K r0
theorem WS (env:EnvB prog G Θ Xh) (hne:∀ x,(DI x).1→∃ t,(DI x).2 t) (h:∀ (code:dB),dh lI (code,())→(code.length≤(1048576:Nat))→Xb code fun (r:QK)=>(code.length≤(1048576:Nat),
 fun
 (x:
 QK)=>
 x.1.1.length≤(10:Nat)∧Sp.aH x.1.1).2
 r):aC prog G qy uT:=
 bI env mixed (fn:=f22) (c:=codeOf f22) (by kernel_rfl) (by kernel_rfl) XP (by kernel_rfl) hne fun ⟨code,⟨⟩⟩ hin hp=>
 Eq.mpr (by kernel_rfl) (h code hin hp)
def Xc:Hints:=Go.Fw.hints [12] [] [] [] []
def Vb (code:dB) (K:(kJ×tX)×Unit→Prop):Prop:=
 code.length≤(1048576:Nat)∧
 ∀ (r0:BD),
 r0.2.1=(0:Int)→
 (0:Int)≤r0.2.1∧
 ∀
 (r1:
 tX×jm),
 (0:Int)≤r1.2.1.2.1∧r1.1.1.length≤(10:Nat)∧Sp.aH r1.1.1→
 Sp.aH r1.1.1∧
 ∀
 (r2:
 ou),
 r2.1.1=r1.1.1→
 bif decide ((↑(List.length r2.1.1):Int)>(0:Int)) then
 (0:Int)≤r1.2.1.2.1∧
 ∀ (r3:fG×jm),
 (r3.2.1.2.1-(0:Int)).NonNeg→
 bif r3.1.1 then
 ((0:Int)≤(0:Int)∧(0:Int)<(↑(List.length r2.1.1):Int))∧
 Int.toNat (0:Int)<List.length r2.1.1∧
 ((0:Int)≤(0:Int)∧(0:Int)<(↑(List.length r2.1.1):Int))∧
 Int.toNat (0:Int)<List.length r2.1.1∧
 K
 ((r1.1.1,
 List.set r2.1.1 (Int.toNat (0:Int))
 ((List.getD r2.1.1 (Int.toNat (0:Int)) ((0:Int),[],[],(0:Int),[],(0:Int),())).1,
 (List.getD r2.1.1 (Int.toNat (0:Int)) ((0:Int),[],[],(0:Int),[],(0:Int),())).2.1,
 (List.getD r2.1.1 (Int.toNat (0:Int)) ((0:Int),[],[],(0:Int),[],(0:Int),())).2.2.1,
 (List.getD r2.1.1 (Int.toNat (0:Int)) ((0:Int),[],[],(0:Int),[],(0:Int),())).2.2.2.1,
 (List.getD r2.1.1 (Int.toNat (0:Int)) ((0:Int),[],[],(0:Int),[],(0:Int),())).2.2.2.2.1,
 i64.wrap
 ((List.getD r2.1.1 (Int.toNat (0:Int)) ((0:Int),[],[],(0:Int),[],(0:Int),())).2.2.2.2.2.1+
 (1:Int)),
 ()),
 ()),
 ())
 else K ((r1.1.1,r2.1),())
 else K ((r1.1.1,r2.1),())
theorem UX (env:EnvB prog G Θ VQ) (hne:∀ x,(Cj x).1→∃ t,(Cj x).2 t) (h:∀ (code:dB),dh kV (code,())→(code.length≤(1048576:Nat))→Vb code fun (r:(kJ×tX)×Unit)=>(code.length≤(1048576:Nat),
 fun
 (x:
 (kJ×tX)×Unit)=>
 x.1.1.length≤(10:Nat)∧Sp.aH x.1.1∧x.1.2.1.length≤(10:Nat)∧Sp.aH x.1.2.1).2
 r):aC prog G pq sS:=
 bI env mixed (fn:=f26) (c:=codeOf f26) (by kernel_rfl) (by kernel_rfl) Xc (by kernel_rfl) hne fun ⟨code,⟨⟩⟩ hin hp=>
 Eq.mpr (by kernel_rfl) (h code hin hp)
def aiK:Hints:=Go.Fw.hints [] [] [(16,⟨[],⟨[(0, .one (.sl 5 (.cons (.int .u8) .nil) false)),(3, .one (.sl 78 (.cons (.int .i64) (.cons (.sl 155 (.cons .str (.cons (.int .i64) .nil))) (.cons (.sl 56 (.cons (.int .i64) (.cons (.int .i64) (.cons .bool (.cons (.int .i64) (.cons (.sl 94 (.cons .str (.cons (.int .i64) (.cons (.int .i64) (.cons .str .nil))))) .nil)))))) (.cons (.int .i64) (.cons (.sl 124 (.cons .str (.cons (.sl 167 (.cons (.int .i64) (.cons (.int .i64) (.cons (.int .i64) (.cons .str (.cons (.int .i64) (.cons (.int .i64) (.cons .str .nil)))))))) .nil))) (.cons (.int .i64) .nil)))))) false)),(12, .one (.sl 78 (.cons (.int .i64) (.cons (.sl 155 (.cons .str (.cons (.int .i64) .nil))) (.cons (.sl 56 (.cons (.int .i64) (.cons (.int .i64) (.cons .bool (.cons (.int .i64) (.cons (.sl 94 (.cons .str (.cons (.int .i64) (.cons (.int .i64) (.cons .str .nil))))) .nil)))))) (.cons (.int .i64) (.cons (.sl 124 (.cons .str (.cons (.sl 167 (.cons (.int .i64) (.cons (.int .i64) (.cons (.int .i64) (.cons .str (.cons (.int .i64) (.cons (.int .i64) (.cons .str .nil)))))))) .nil))) (.cons (.int .i64) .nil)))))) false)),(13, .one (.int .i64)),(14, .one (.sl 78 (.cons (.int .i64) (.cons (.sl 155 (.cons .str (.cons (.int .i64) .nil))) (.cons (.sl 56 (.cons (.int .i64) (.cons (.int .i64) (.cons .bool (.cons (.int .i64) (.cons (.sl 94 (.cons .str (.cons (.int .i64) (.cons (.int .i64) (.cons .str .nil))))) .nil)))))) (.cons (.int .i64) (.cons (.sl 124 (.cons .str (.cons (.sl 167 (.cons (.int .i64) (.cons (.int .i64) (.cons (.int .i64) (.cons .str (.cons (.int .i64) (.cons (.int .i64) (.cons .str .nil)))))))) .nil))) (.cons (.int .i64) .nil)))))) false)),(15, .one (.bool))],[]⟩,⟨[],[]⟩⟩)] [] []
def ahj (code:dB) (K:fG→Prop):Prop:=
 True∧
 let r0:=decide ((1048576:Int)<(↑code.length:Int));
  bif r0 then K (true,())
  else
  code.length≤(1048576:Nat)∧
  ∀
  (r1:
  ou),
  r1.1.1.length≤(10:Nat)∧Sp.aH r1.1.1→
  Sp.aH r1.1.1∧
  ∀
  (r2:
  ou),
  r2.1.1=Sp.collect r1.1.1→
  code.length≤(1048576:Nat)∧
  ∀
  (r3:
  auF),
  r3.1.1.length≤(10:Nat)∧Sp.aH r3.1.1∧Sp.fV r3.1.2.2.1→
  (Sp.aH r3.1.1∧List.length r3.1.1≤(100:Nat)∧Sp.fV r3.1.2.2.1)∧
  ∀
  (r4:
  tY),
  r4.1.1=(Sp.iD r3.1.1 r3.1.2.1 r3.1.2.2.1).1∧
  r4.1.2.1=(Sp.iD r3.1.1 r3.1.2.1 r3.1.2.2.1).2→
  (Sp.aH r3.1.1∧List.length r3.1.1≤(100:Nat)∧Sp.fV r3.1.2.2.1)∧
  ∀
  (r5:
  tY),
  r5.1.1=(Sp.iD r3.1.1 r3.1.2.1 r3.1.2.2.1).1∧
  r5.1.2.1=(Sp.iD r3.1.1 r3.1.2.1 r3.1.2.2.1).2→
  code.length≤(1048576:Nat)∧
  ∀
  (r6:
  QK),
  r6.1.1.length≤(10:Nat)∧Sp.aH r6.1.1→
  (Sp.aH r6.1.1∧List.length r6.1.1≤(100:Nat))∧
  ∀
  (r7:
  tY),
  r7.1.1=(Sp.dJ r6.1.1 r6.1.2.1 (1:Int)).1∧r7.1.2.1=(Sp.dJ r6.1.1 r6.1.2.1 (1:Int)).2→
  (Sp.aH r6.1.1∧List.length r6.1.1≤(100:Nat))∧
  ∀
  (r8:
  tY),
  r8.1.1=(Sp.dJ r6.1.1 r6.1.2.1 (1:Int)).1∧
  r8.1.2.1=(Sp.dJ r6.1.1 r6.1.2.1 (1:Int)).2→
  code.length≤(1048576:Nat)∧
  ∀
  (r9:
  QK),
  r9.1.1.length≤(10:Nat)∧Sp.aH r9.1.1→
  (Sp.aH r9.1.1∧List.length r9.1.1≤(100:Nat))∧
  ∀
  (r10:
  tY),
  r10.1.1=(Sp.dJ r9.1.1 r9.1.2.1 (-1:Int)).1∧
  r10.1.2.1=(Sp.dJ r9.1.1 r9.1.2.1 (-1:Int)).2→
  (Sp.aH r9.1.1∧List.length r9.1.1≤(100:Nat))∧
  ∀
  (r11:
  tY),
  r11.1.1=(Sp.dJ r9.1.1 r9.1.2.1 (-1:Int)).1∧
  r11.1.2.1=(Sp.dJ r9.1.1 r9.1.2.1 (-1:Int)).2→
 let s12:=((code,r1.1.1,r6.1.1,r6.1.2.1,r7.1),());
  ∃ (J:Unit×Unit→Prop),
  (Sp.aH r1.1.1∧
  ∀
  (r13:
  ou),
  r13.1.1=Sp.collect r1.1.1→
  True∧
 let RQ:=decide (r2.1.1=r13.1.1);
  bif !RQ then K (false,())
  else
  bif !r4.1.2.1==r5.1.2.1 then K (false,())
  else
  True∧
 let r15:=decide (r4.1.1=r5.1.1);
  bif !r15 then K (false,())
  else
  bif !r7.1.2.1==r8.1.2.1 then K (false,())
  else
  True∧
 let r16:=decide (r7.1.1=r8.1.1);
  bif !r16 then K (false,())
  else
  bif !r10.1.2.1==r11.1.2.1 then K (false,())
  else
  True∧
 let r17:=decide (r10.1.1=r11.1.1);
  bif !r17 then K (false,()) else s12=s12∧J ((),()))∧
  ∀ (y18:Unit×Unit),
  J y18→
  code.length≤(1048576:Nat)∧
  ∀
  (Uj:
  (kJ×tX)×Unit),
  Uj.1.1.length≤(10:Nat)∧
  Sp.aH Uj.1.1∧Uj.1.2.1.length≤(10:Nat)∧Sp.aH Uj.1.2.1→
  True∧
 let r20:=decide (Uj.1.1=Uj.1.2.1);
  True∧
 let r21:=decide (Uj.1.1=Uj.1.2.1);
  bif !r20==r21 then K (false,())
  else
  Sp.aH r1.1.1∧
 let r22:=Sp.fZ r1.1.1;
  Sp.aH r1.1.1∧
 let r23:=Sp.fZ r1.1.1;
  bif !r22==r23 then K (false,())
  else
  bif !r7.1.2.1 then
  True∧
 let r24:=decide (r7.1.1=r6.1.1);
  K (r24,())
  else
  Sp.aH r7.1.1∧
  ∀
  (r25:
  ou),
  r25.1.1=Sp.collect r7.1.1→
  Sp.aH r25.1.1∧
  ∀
  (Yz:
  agS),
  Yz.1.1=(Sp.jg r25.1.1 r6.1.2.1).1∧
  Yz.1.2.1=(Sp.jg r25.1.1 r6.1.2.1).2→
  Sp.aH r6.1.1∧
  ∀
  (r27:
  agS),
  r27.1.1=(Sp.jg r6.1.1 r6.1.2.1).1∧
  r27.1.2.1=(Sp.jg r6.1.1 r6.1.2.1).2→
  bif Yz.1.2.1 then
  bif r27.1.2.1 then
  True∧
 let r28:=decide (Yz.1.1=r27.1.1);
  K (r28,())
  else K (false,())
  else K (false,())
theorem agI (env:EnvB prog G Θ ahP) (h:∀ (code:dB),bH JK (code,())→(True)→ahj code fun r=>r=((true,()))):aG prog G Uh P5:=
 aX env mixed (fn:=f4) (c:=codeOf f4) (by kernel_rfl) (by kernel_rfl) aiK (by kernel_rfl) fun ⟨code,⟨⟩⟩ hin hp=>
 Eq.mpr (by kernel_rfl) (h code hin hp)
end Go.Proofs.Tryz

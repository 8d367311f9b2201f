import Derived.Test.YtgbobfdlafkijaaGreatV1
namespace Go.Proofs.Tryz
open Go Go.Fw
set_option maxRecDepth 100000
open Go.IntKind (i64)
def ap5:Hints:=Go.Fw.hints [35] [(15,⟨[],⟨[(1, .one (.sl 124 (.cons .str (.cons (.sl 167 (.cons (.int .i64) (.cons (.int .i64) (.cons (.int .i64) (.cons .str (.cons (.int .i64) (.cons (.int .i64) (.cons .str .nil)))))))) .nil)) false)),(3, .one (.sl 9 (.cons .str .nil) false)),(4, .fM [.sl 155 (.cons .str (.cons (.int .i64) .nil)) false, .sl 56 (.cons (.int .i64) (.cons (.int .i64) (.cons .bool (.cons (.int .i64) (.cons (.sl 94 (.cons .str (.cons (.int .i64) (.cons (.int .i64) (.cons .str .nil))))) .nil))))) false, .int .i64] 0),(11, .one (.sl 3 (.cons (.int .i64) .nil) true)),(13, .one (.ref 865))],[]⟩,⟨[(17, .one (.int .i64)),(18, .one (.int .i64))],[(865, .arr 104 (.cons .str (.cons (.sl 3 (.cons (.int .i64) .nil)) .nil)) false)]⟩⟩),(18,⟨[],⟨[(1, .one (.sl 124 (.cons .str (.cons (.sl 167 (.cons (.int .i64) (.cons (.int .i64) (.cons (.int .i64) (.cons .str (.cons (.int .i64) (.cons (.int .i64) (.cons .str .nil)))))))) .nil)) false)),(3, .one (.sl 9 (.cons .str .nil) false)),(4, .fM [.sl 155 (.cons .str (.cons (.int .i64) .nil)) false, .sl 56 (.cons (.int .i64) (.cons (.int .i64) (.cons .bool (.cons (.int .i64) (.cons (.sl 94 (.cons .str (.cons (.int .i64) (.cons (.int .i64) (.cons .str .nil))))) .nil))))) false, .int .i64] 0),(11, .one (.sl 3 (.cons (.int .i64) .nil) true)),(13, .one (.ref 865)),(18, .one (.int .i64))],[]⟩,⟨[(17, .one (.int .i64)),(19, .one (.bool))],[(865, .arr 104 (.cons .str (.cons (.sl 3 (.cons (.int .i64) .nil)) .nil)) false)]⟩⟩),(22,⟨[],⟨[(1, .one (.sl 124 (.cons .str (.cons (.sl 167 (.cons (.int .i64) (.cons (.int .i64) (.cons (.int .i64) (.cons .str (.cons (.int .i64) (.cons (.int .i64) (.cons .str .nil)))))))) .nil)) false)),(3, .one (.sl 9 (.cons .str .nil) false)),(4, .fM [.sl 155 (.cons .str (.cons (.int .i64) .nil)) false, .sl 56 (.cons (.int .i64) (.cons (.int .i64) (.cons .bool (.cons (.int .i64) (.cons (.sl 94 (.cons .str (.cons (.int .i64) (.cons (.int .i64) (.cons .str .nil))))) .nil))))) false, .int .i64] 0),(11, .one (.sl 3 (.cons (.int .i64) .nil) true)),(13, .one (.ref 865)),(17, .one (.int .i64)),(18, .one (.int .i64)),(69, .one (.sl 124 (.cons .str (.cons (.sl 167 (.cons (.int .i64) (.cons (.int .i64) (.cons (.int .i64) (.cons .str (.cons (.int .i64) (.cons (.int .i64) (.cons .str .nil)))))))) .nil)) false)),(70, .one (.int .i64))],[]⟩,⟨[(19, .one (.bool)),(71, .one (.int .i64))],[(865, .arr 104 (.cons .str (.cons (.sl 3 (.cons (.int .i64) .nil)) .nil)) false)]⟩⟩),(6,⟨[(.slot 13 0,865,104,(.cons .str (.cons (.sl 3 (.cons (.int .i64) .nil)) .nil)),false)],⟨[(1, .one (.sl 124 (.cons .str (.cons (.sl 167 (.cons (.int .i64) (.cons (.int .i64) (.cons (.int .i64) (.cons .str (.cons (.int .i64) (.cons (.int .i64) (.cons .str .nil)))))))) .nil)) false)),(2, .one (.sl 104 (.cons .str (.cons (.sl 3 (.cons (.int .i64) .nil)) .nil)) false)),(3, .one (.sl 9 (.cons .str .nil) false)),(4, .fM [.sl 155 (.cons .str (.cons (.int .i64) .nil)) false, .sl 56 (.cons (.int .i64) (.cons (.int .i64) (.cons .bool (.cons (.int .i64) (.cons (.sl 94 (.cons .str (.cons (.int .i64) (.cons (.int .i64) (.cons .str .nil))))) .nil))))) false, .int .i64] 0),(11, .one (.sl 3 (.cons (.int .i64) .nil) true)),(36, .one (.sl 124 (.cons .str (.cons (.sl 167 (.cons (.int .i64) (.cons (.int .i64) (.cons (.int .i64) (.cons .str (.cons (.int .i64) (.cons (.int .i64) (.cons .str .nil)))))))) .nil)) false)),(37, .one (.int .i64))],[]⟩,⟨[(13, .one (.ref 865)),(38, .one (.int .i64))],[(865, .arr 104 (.cons .str (.cons (.sl 3 (.cons (.int .i64) .nil)) .nil)) false)]⟩⟩)] [(4,⟨[],⟨[(1, .one (.sl 124 (.cons .str (.cons (.sl 167 (.cons (.int .i64) (.cons (.int .i64) (.cons (.int .i64) (.cons .str (.cons (.int .i64) (.cons (.int .i64) (.cons .str .nil)))))))) .nil)) false)),(2, .one (.sl 104 (.cons .str (.cons (.sl 3 (.cons (.int .i64) .nil)) .nil)) false)),(3, .one (.sl 9 (.cons .str .nil) false)),(4, .fM [.sl 155 (.cons .str (.cons (.int .i64) .nil)) false, .sl 56 (.cons (.int .i64) (.cons (.int .i64) (.cons .bool (.cons (.int .i64) (.cons (.sl 94 (.cons .str (.cons (.int .i64) (.cons (.int .i64) (.cons .str .nil))))) .nil))))) false, .int .i64] 0),(11, .one (.sl 3 (.cons (.int .i64) .nil) true))],[]⟩,⟨[],[]⟩⟩)] [] []
def amX (s0:gW) (s1:iW) (s2:Int) (d:jv) (rZ:l7) (names:qU) (K:afa→Prop):Prop:=
 Sp.aS d∧
 ∀ (r0:ZR),
 r0.1.2.1=Sp.aH d∧(r0.1.2.1=true→Sp.nR d r0.1.1)→
 let ayz:=((d,rZ,names,(s0,s1,s2,()),r0.1.1,()),());
  ∃ (J:Unit×Unit→Prop),
  (bif !r0.1.2.1 then K (([],(0:Int),false,()),())
  else
  True∧
 let r2:=Sp.aN (s0,s1,s2,());
  bif !r2 then K (([],(0:Int),false,()),()) else ayz=ayz∧J ((),()))∧
  ∀ (y3:Unit×Unit),
  J y3→
 let s4:=((d,rZ,names,(s0,s1,s2,()),r0.1.1,d,(↑d.length:Int),()),());
  ∃ (I:WS→Prop),
  ∃ (μ:WS→Nat),
  I (((),(0:Int),()),[],())∧
  ∀ (y5:WS),
  I y5→
  bif decide (y5.1.2.1<(↑d.length:Int)) then
  ((0:Int)≤y5.1.2.1∧y5.1.2.1<(↑d.length:Int))∧
  True∧
 let r6:=Sp.iG names (d.getD (Int.toNat y5.1.2.1) (lJ,[],())).1;
  bif !r6 then
  Sp.bJ rZ∧
 let r7:=Sp.gV rZ (d.getD (Int.toNat y5.1.2.1) (lJ,[],())).1;
  List.length y5.2.1+[((d.getD (Int.toNat y5.1.2.1) (lJ,[],())).1,r7,())].length≤big∧
  s4=s4∧
  I
  (((),i64.wrap (y5.1.2.1+(1:Int)),()),
  y5.2.1++[((d.getD (Int.toNat y5.1.2.1) (lJ,[],())).1,r7,())],())∧
  μ
  (((),i64.wrap (y5.1.2.1+(1:Int)),()),
  y5.2.1++[((d.getD (Int.toNat y5.1.2.1) (lJ,[],())).1,r7,())],())<
  μ y5
  else
  List.length y5.2.1+[((d.getD (Int.toNat y5.1.2.1) (lJ,[],())).1,U3,())].length≤big∧
  s4=s4∧
  I
  (((),i64.wrap (y5.1.2.1+(1:Int)),()),
  y5.2.1++[((d.getD (Int.toNat y5.1.2.1) (lJ,[],())).1,U3,())],())∧
  μ
  (((),i64.wrap (y5.1.2.1+(1:Int)),()),
  y5.2.1++[((d.getD (Int.toNat y5.1.2.1) (lJ,[],())).1,U3,())],())<
  μ y5
  else
 let s8:=((d,names,(s0,s1,s2,()),r0.1.1,(),()),());
  ∃ (I:auY→Prop),
  ∃ (μ:auY→Nat),
  I (((0:Int),(0:Int),()),y5.2)∧
  ∀ (y9:auY),
  I y9→
  Sp.aS d∧
  ∀ (r10:bn),
  Sp.acg d r10.1.1→
  bif decide (y9.1.2.1≤r10.1.1) then
 let s11:=((d,names,(s0,s1,s2,()),r0.1.1,(),y9.1.2),());
  ∃ (Gn:auV→Prop),
  ∃ (IG:auV→Nat),
  Gn ((y9.1.1,true,()),y9.2)∧
  ∀ (jX:auV),
  Gn jX→
  bif jX.1.2.1 then
 let s13:=
  ((d,names,(s0,s1,s2,()),r0.1.1,(),i64.wrap (jX.1.1+(1:Int)),y9.1.2.1,d,
  (↑d.length:Int),()),
  ());
  ∃ (I:auW→Prop),
  ∃ (μ:auW→Nat),
  I ((false,(0:Int),()),jX.2)∧
  ∀ (kS:auW),
  I kS→
  bif decide (kS.1.2.1<(↑d.length:Int)) then
  ((0:Int)≤kS.1.2.1∧kS.1.2.1<(↑d.length:Int))∧
  ((0:Int)≤kS.1.2.1∧kS.1.2.1<(↑(List.length r0.1.1):Int))∧
  bif (List.getD r0.1.1 (Int.toNat kS.1.2.1) ((0:Int),())).1 !=y9.1.2.1 then
  s13=s13∧
  I ((kS.1.1,i64.wrap (kS.1.2.1+(1:Int)),()),kS.2)∧
  μ ((kS.1.1,i64.wrap (kS.1.2.1+(1:Int)),()),kS.2)<μ kS
  else
  True∧
 let r15:=Sp.iG names (d.getD (Int.toNat kS.1.2.1) (lJ,[],())).1;
  bif !r15 then
  s13=s13∧
  I ((kS.1.1,i64.wrap (kS.1.2.1+(1:Int)),()),kS.2)∧
  μ ((kS.1.1,i64.wrap (kS.1.2.1+(1:Int)),()),kS.2)<μ kS
  else
  (Sp.bQ (s0,s1,s2,())∧
  List.length (d.getD (Int.toNat kS.1.2.1) (lJ,[],())).2.1≤(1000:Nat)∧
  Sp.bJ kS.2.1)∧
 let r16:=
  Sp.sel s1 (d.getD (Int.toNat kS.1.2.1) (lJ,[],())).2.1 (Sp.bD kS.2.1);
  ((0:Int)≤kS.1.2.1∧kS.1.2.1<(↑(List.length kS.2.1):Int))∧
  Int.toNat kS.1.2.1<List.length kS.2.1∧
  True∧
 let r17:=
  decide (r16=(List.getD kS.2.1 (Int.toNat kS.1.2.1) (lJ,U3,())).2.1);
  bif !r17 then
  ((0:Int)≤kS.1.2.1∧kS.1.2.1<(↑(List.length kS.2.1):Int))∧
  Int.toNat kS.1.2.1<List.length kS.2.1∧
  s13=s13∧
  I
  ((true,i64.wrap (kS.1.2.1+(1:Int)),()),
  List.set kS.2.1 (Int.toNat kS.1.2.1)
  ((List.getD kS.2.1 (Int.toNat kS.1.2.1) (lJ,U3,())).1,
  r16,()),
  ())∧
  μ
  ((true,i64.wrap (kS.1.2.1+(1:Int)),()),
  List.set kS.2.1 (Int.toNat kS.1.2.1)
  ((List.getD kS.2.1 (Int.toNat kS.1.2.1) (lJ,U3,())).1,
  r16,()),
  ())<
  μ kS
  else
  s13=s13∧
  I ((kS.1.1,i64.wrap (kS.1.2.1+(1:Int)),()),kS.2)∧
  μ ((kS.1.1,i64.wrap (kS.1.2.1+(1:Int)),()),kS.2)<μ kS
  else
  s11=s11∧
  Gn ((i64.wrap (jX.1.1+(1:Int)),kS.1.1,()),kS.2)∧
  IG ((i64.wrap (jX.1.1+(1:Int)),kS.1.1,()),kS.2)<IG jX
  else
  s8=s8∧
  I ((jX.1.1,i64.wrap (y9.1.2.1+(1:Int)),()),jX.2)∧
  μ ((jX.1.1,i64.wrap (y9.1.2.1+(1:Int)),()),jX.2)<μ y9
  else K ((y9.2.1,y9.1.1,true,()),())
theorem ama (env:EnvB prog G Θ an0) (hne:∀ x,(Pv x).1→∃ t,(Pv x).2 t) (h:∀ (s0:gW) (s1:iW) (s2:Int) (d:jv) (rZ:l7) (names:qU),dO oC ((s0,s1,s2,()),d,rZ,names,())→(Sp.bQ (s0,s1,s2,())∧Sp.aS d∧Sp.bJ rZ)→amX s0 s1 s2 d rZ names fun (r:afa)=>(Sp.bQ (s0,s1,s2,())∧Sp.aS d∧Sp.bJ rZ,fun (x:afa)=>
 x.1.2.2.1=(Sp.aH d&&Sp.aN (s0,s1,s2,()))∧(x.1.2.2.1=true→Sp.iY s1 d rZ (Sp.iG names) x.1.1)).2
 r):aG prog G tY uJ:=
 bZ env mixed (fn:=f117) (c:=codeOf f117) (by kernel_rfl) (by kernel_rfl) ap5 (by kernel_rfl) hne fun ⟨⟨s0,s1,s2,⟨⟩⟩,d,rZ,names,⟨⟩⟩ hin hp=>
 Eq.mpr (by kernel_rfl) (h s0 s1 s2 d rZ names hin hp)
def awZ:Hints:=Go.Fw.hints [29] [(6,⟨[],⟨[(1, .one (.sl 124 (.cons .str (.cons (.sl 167 (.cons (.int .i64) (.cons (.int .i64) (.cons (.int .i64) (.cons .str (.cons (.int .i64) (.cons (.int .i64) (.cons .str .nil)))))))) .nil)) false)),(2, .fM [.sl 155 (.cons .str (.cons (.int .i64) .nil)) false, .sl 56 (.cons (.int .i64) (.cons (.int .i64) (.cons .bool (.cons (.int .i64) (.cons (.sl 94 (.cons .str (.cons (.int .i64) (.cons (.int .i64) (.cons .str .nil))))) .nil))))) false, .int .i64] 0),(7, .one (.sl 3 (.cons (.int .i64) .nil) true))],[]⟩,⟨[(9, .one (.ref 1857)),(10, .one (.int .i64))],[(1857, .arr 104 (.cons .str (.cons (.sl 3 (.cons (.int .i64) .nil)) .nil)) true)]⟩⟩),(11,⟨[],⟨[(1, .one (.sl 124 (.cons .str (.cons (.sl 167 (.cons (.int .i64) (.cons (.int .i64) (.cons (.int .i64) (.cons .str (.cons (.int .i64) (.cons (.int .i64) (.cons .str .nil)))))))) .nil)) false)),(2, .fM [.sl 155 (.cons .str (.cons (.int .i64) .nil)) false, .sl 56 (.cons (.int .i64) (.cons (.int .i64) (.cons .bool (.cons (.int .i64) (.cons (.sl 94 (.cons .str (.cons (.int .i64) (.cons (.int .i64) (.cons .str .nil))))) .nil))))) false, .int .i64] 0),(7, .one (.sl 3 (.cons (.int .i64) .nil) true)),(9, .one (.ref 1857))],[]⟩,⟨[(11, .one (.int .i64)),(12, .one (.int .i64))],[(1857, .arr 104 (.cons .str (.cons (.sl 3 (.cons (.int .i64) .nil)) .nil)) true)]⟩⟩),(14,⟨[],⟨[(1, .one (.sl 124 (.cons .str (.cons (.sl 167 (.cons (.int .i64) (.cons (.int .i64) (.cons (.int .i64) (.cons .str (.cons (.int .i64) (.cons (.int .i64) (.cons .str .nil)))))))) .nil)) false)),(2, .fM [.sl 155 (.cons .str (.cons (.int .i64) .nil)) false, .sl 56 (.cons (.int .i64) (.cons (.int .i64) (.cons .bool (.cons (.int .i64) (.cons (.sl 94 (.cons .str (.cons (.int .i64) (.cons (.int .i64) (.cons .str .nil))))) .nil))))) false, .int .i64] 0),(7, .one (.sl 3 (.cons (.int .i64) .nil) true)),(9, .one (.ref 1857)),(12, .one (.int .i64))],[]⟩,⟨[(11, .one (.int .i64)),(13, .one (.bool))],[(1857, .arr 104 (.cons .str (.cons (.sl 3 (.cons (.int .i64) .nil)) .nil)) true)]⟩⟩),(18,⟨[],⟨[(1, .one (.sl 124 (.cons .str (.cons (.sl 167 (.cons (.int .i64) (.cons (.int .i64) (.cons (.int .i64) (.cons .str (.cons (.int .i64) (.cons (.int .i64) (.cons .str .nil)))))))) .nil)) false)),(2, .fM [.sl 155 (.cons .str (.cons (.int .i64) .nil)) false, .sl 56 (.cons (.int .i64) (.cons (.int .i64) (.cons .bool (.cons (.int .i64) (.cons (.sl 94 (.cons .str (.cons (.int .i64) (.cons (.int .i64) (.cons .str .nil))))) .nil))))) false, .int .i64] 0),(7, .one (.sl 3 (.cons (.int .i64) .nil) true)),(9, .one (.ref 1857)),(11, .one (.int .i64)),(12, .one (.int .i64))],[]⟩,⟨[(13, .one (.bool)),(14, .one (.int .i64))],[(1857, .arr 104 (.cons .str (.cons (.sl 3 (.cons (.int .i64) .nil)) .nil)) true)]⟩⟩)] [(4,⟨[],⟨[(1, .one (.sl 124 (.cons .str (.cons (.sl 167 (.cons (.int .i64) (.cons (.int .i64) (.cons (.int .i64) (.cons .str (.cons (.int .i64) (.cons (.int .i64) (.cons .str .nil)))))))) .nil)) false)),(2, .fM [.sl 155 (.cons .str (.cons (.int .i64) .nil)) false, .sl 56 (.cons (.int .i64) (.cons (.int .i64) (.cons .bool (.cons (.int .i64) (.cons (.sl 94 (.cons .str (.cons (.int .i64) (.cons (.int .i64) (.cons .str .nil))))) .nil))))) false, .int .i64] 0),(7, .one (.sl 3 (.cons (.int .i64) .nil) true))],[]⟩,⟨[],[]⟩⟩)] [] []
def avu (s0:gW) (s1:iW) (s2:Int) (d:jv) (K:afa→Prop):Prop:=
 Sp.aS d∧
 ∀ (r0:ZR),
 r0.1.2.1=Sp.aH d∧(r0.1.2.1=true→Sp.nR d r0.1.1)∧(r0.1.2.1=false→r0.1.1=U3)→
 let ayz:=((d,(s0,s1,s2,()),r0.1.1,()),());
  ∃ (J:Unit×Unit→Prop),
  (bif !r0.1.2.1 then K (([],(0:Int),false,()),())
  else
  True∧
 let r2:=Sp.aN (s0,s1,s2,());
  bif !r2 then K (([],(0:Int),false,()),()) else ayz=ayz∧J ((),()))∧
  ∀ (y3:Unit×Unit),
  J y3→
 let s4:=((d,(s0,s1,s2,()),r0.1.1,()),());
  ∃ (I:WS→Prop),
  ∃ (μ:WS→Nat),
  I (((),(0:Int),()),[],())∧
  ∀ (y5:WS),
  I y5→
  bif decide (y5.1.2.1<(↑d.length:Int)) then
  ((0:Int)≤y5.1.2.1∧y5.1.2.1<(↑d.length:Int))∧
  List.length y5.2.1+[((d.getD (Int.toNat y5.1.2.1) (lJ,[],())).1,U3,())].length≤big∧
  s4=s4∧
  I
  (((),i64.wrap (y5.1.2.1+(1:Int)),()),y5.2.1++[((d.getD (Int.toNat y5.1.2.1) (lJ,[],())).1,U3,())],
  ())∧
  μ
  (((),i64.wrap (y5.1.2.1+(1:Int)),()),y5.2.1++[((d.getD (Int.toNat y5.1.2.1) (lJ,[],())).1,U3,())],
  ())<
  μ y5
  else
 let s6:=((d,(s0,s1,s2,()),r0.1.1,(),()),());
  ∃ (I:auY→Prop),
  ∃ (μ:auY→Nat),
  I (((0:Int),(0:Int),()),y5.2)∧
  ∀ (y7:auY),
  I y7→
  Sp.aS d∧
  ∀ (r8:bn),
  Sp.acg d r8.1.1→
  bif decide (y7.1.2.1≤r8.1.1) then
 let s9:=((d,(s0,s1,s2,()),r0.1.1,(),y7.1.2),());
  ∃ (Gn:auV→Prop),
  ∃ (IG:auV→Nat),
  Gn ((y7.1.1,true,()),y7.2)∧
  ∀ (y10:auV),
  Gn y10→
  bif y10.1.2.1 then
 let s11:=((d,(s0,s1,s2,()),r0.1.1,(),i64.wrap (y10.1.1+(1:Int)),y7.1.2),());
  ∃ (I:auW→Prop),
  ∃ (μ:auW→Nat),
  I ((false,(0:Int),()),y10.2)∧
  ∀ (jX:auW),
  I jX→
  bif decide (jX.1.2.1<(↑d.length:Int)) then
  ((0:Int)≤jX.1.2.1∧jX.1.2.1<(↑(List.length r0.1.1):Int))∧
  bif (List.getD r0.1.1 (Int.toNat jX.1.2.1) ((0:Int),())).1 !=y7.1.2.1 then
  s11=s11∧
  I ((jX.1.1,i64.wrap (jX.1.2.1+(1:Int)),()),jX.2)∧
  μ ((jX.1.1,i64.wrap (jX.1.2.1+(1:Int)),()),jX.2)<μ jX
  else
  ((0:Int)≤jX.1.2.1∧jX.1.2.1<(↑d.length:Int))∧
  (Sp.bQ (s0,s1,s2,())∧
  List.length (d.getD (Int.toNat jX.1.2.1) (lJ,[],())).2.1≤(1000:Nat)∧
  Sp.bJ jX.2.1)∧
 let r13:=Sp.sel s1 (d.getD (Int.toNat jX.1.2.1) (lJ,[],())).2.1 (Sp.bD jX.2.1);
  ((0:Int)≤jX.1.2.1∧jX.1.2.1<(↑(List.length jX.2.1):Int))∧
  Int.toNat jX.1.2.1<List.length jX.2.1∧
  True∧
 let TJ:=
  decide (r13=(List.getD jX.2.1 (Int.toNat jX.1.2.1) (lJ,U3,())).2.1);
  bif !TJ then
  ((0:Int)≤jX.1.2.1∧jX.1.2.1<(↑(List.length jX.2.1):Int))∧
  Int.toNat jX.1.2.1<List.length jX.2.1∧
  s11=s11∧
  I
  ((true,i64.wrap (jX.1.2.1+(1:Int)),()),
  List.set jX.2.1 (Int.toNat jX.1.2.1)
  ((List.getD jX.2.1 (Int.toNat jX.1.2.1) (lJ,U3,())).1,r13,
  ()),
  ())∧
  μ
  ((true,i64.wrap (jX.1.2.1+(1:Int)),()),
  List.set jX.2.1 (Int.toNat jX.1.2.1)
  ((List.getD jX.2.1 (Int.toNat jX.1.2.1) (lJ,U3,())).1,r13,
  ()),
  ())<
  μ jX
  else
  s11=s11∧
  I ((jX.1.1,i64.wrap (jX.1.2.1+(1:Int)),()),jX.2)∧
  μ ((jX.1.1,i64.wrap (jX.1.2.1+(1:Int)),()),jX.2)<μ jX
  else
  s9=s9∧
  Gn ((i64.wrap (y10.1.1+(1:Int)),jX.1.1,()),jX.2)∧
  IG ((i64.wrap (y10.1.1+(1:Int)),jX.1.1,()),jX.2)<IG y10
  else
  s6=s6∧
  I ((y10.1.1,i64.wrap (y7.1.2.1+(1:Int)),()),y10.2)∧
  μ ((y10.1.1,i64.wrap (y7.1.2.1+(1:Int)),()),y10.2)<μ y7
  else K ((y7.2.1,y7.1.1,true,()),())
theorem auC (env:EnvB prog G Θ awt) (hne:∀ x,(Wx x).1→∃ t,(Wx x).2 t) (h:∀ (s0:gW) (s1:iW) (s2:Int) (d:jv),dO Dl ((s0,s1,s2,()),d,())→(Sp.bQ (s0,s1,s2,())∧Sp.aS d)→avu s0 s1 s2 d fun (r:afa)=>(Sp.bQ (s0,s1,s2,())∧Sp.aS d,fun (x:afa)=>
 x.1.2.2.1=(Sp.aH d&&Sp.aN (s0,s1,s2,()))∧(x.1.2.2.1=true→Sp.iY s1 d [] (fun (x:Sp.Bytes)=>true) x.1.1)).2
 r):aG prog G JY Ll:=
 bZ env mixed (fn:=f82) (c:=codeOf f82) (by kernel_rfl) (by kernel_rfl) awZ (by kernel_rfl) hne fun ⟨⟨s0,s1,s2,⟨⟩⟩,d,⟨⟩⟩ hin hp=>
 Eq.mpr (by kernel_rfl) (h s0 s1 s2 d hin hp)
end Go.Proofs.Tryz

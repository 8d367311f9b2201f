import Derived.Test.YtkgkfdphbkfjnaaGreatFwC
import Derived.Test.YtkgkfdphbkfjnaaGreatProg
import Derived.Lib.LaidTab
import Derived.Lib.ItoaNum
namespace Go.Proofs.Tryz
open Go Go.Fw
abbrev eX:TypeId:=3
abbrev adh:TypeId:=4
abbrev eP:TypeId:=5
abbrev dw:TypeId:=9
abbrev aF:TypeId:=42
abbrev aG:TypeId:=49
abbrev Vp:TypeId:=51
abbrev aP:TypeId:=79
abbrev iC:TypeId:=105
abbrev aB:TypeId:=138
abbrev ak:TypeId:=176
abbrev aU:TypeId:=206
abbrev kU:aK:=(.cons (.int .i64) .nil)
abbrev jo:aK:=(.cons (.int .i64) .nil)
abbrev R_4:aK:=(.cons (.bool) .nil)
abbrev jB:aK:=(.cons (.int .u8) .nil)
abbrev R_6:aK:=(.cons (.int .u8) .nil)
abbrev R_7:aK:=(.cons (.int .i64) (.cons (.int .i64) (.cons (.bool) (.cons (.int .u8) .nil))))
abbrev R_8:aK:=(.cons (.int .i64) (.cons (.int .i64) (.cons (.bool) (.cons (.int .u8) .nil))))
abbrev dZ:aK:=(.cons (.str) .nil)
abbrev arE:aK:=(.cons (.str) .nil)
abbrev arF:aK:=(.cons (.str) .nil)
abbrev arG:aK:=(.cons (.int .u64) .nil)
abbrev arH:aK:=(.cons (.str) (.cons (.int .u64) .nil))
abbrev arI:aK:=(.cons (.str) (.cons (.int .u64) .nil))
abbrev arJ:aK:=(.cons (.int .i32) .nil)
abbrev arK:aK:=(.cons (.sl eP jB) .nil)
abbrev aS:aK:=(.cons (.str) (.cons (.int .i64) .nil))
abbrev arL:aK:=(.cons (.sl ak aS) .nil)
abbrev arM:aK:=(.cons (.int .i64) (.cons (.int .i64) (.cons (.str) .nil)))
abbrev bZ:aK:=(.cons (.str) (.cons (.int .i64) (.cons (.int .i64) (.cons (.str) .nil))))
abbrev arN:aK:=(.cons (.sl aP bZ) .nil)
abbrev bg:aK:=(.cons (.int .i64) (.cons (.int .i64) (.cons (.bool) (.cons (.int .i64) (.cons (.sl aP bZ) .nil)))))
abbrev arO:aK:=(.cons (.sl aF bg) .nil)
abbrev arP:aK:=(.cons (.sl ak aS) (.cons (.sl aF bg) (.cons (.int .i64) .nil)))
abbrev arQ:aK:=(.cons (.sl ak aS) (.cons (.sl aF bg) (.cons (.int .i64) .nil)))
abbrev bP:aK:=(.cons (.int .i64) (.cons (.int .i64) (.cons (.int .i64) (.cons (.str) (.cons (.int .i64) (.cons (.int .i64) (.cons (.str) .nil)))))))
abbrev arR:aK:=(.cons (.sl aU bP) .nil)
abbrev aW:aK:=(.cons (.str) (.cons (.sl aU bP) .nil))
abbrev arS:aK:=(.cons (.sl aG aW) .nil)
abbrev arT:aK:=(.cons (.sl eX jo) .nil)
abbrev aY:aK:=(.cons (.str) (.cons (.sl eX jo) .nil))
abbrev arU:aK:=(.cons (.sl aB aY) .nil)
abbrev arV:aK:=(.cons (.sl ak aS) (.cons (.sl aF bg) (.cons (.int .i64) (.cons (.sl aG aW) (.cons (.sl aB aY) .nil)))))
abbrev arW:aK:=(.cons (.sl ak aS) (.cons (.sl aF bg) (.cons (.int .i64) (.cons (.sl aG aW) (.cons (.sl aB aY) .nil)))))
abbrev arX:aK:=(.cons (.int .i64) (.cons (.int .i64) (.cons (.bool) (.cons (.int .i64) (.cons (.sl aP bZ) .nil)))))
abbrev arY:aK:=(.cons (.sl dw dZ) .nil)
abbrev arZ:aK:=(.cons (.str) (.cons (.sl aU bP) .nil))
abbrev ar0:aK:=(.cons (.int .i64) (.cons (.int .i64) (.cons (.int .i64) (.cons (.bool) (.cons (.int .i64) (.cons (.sl aP bZ) (.cons (.int .i64) (.cons (.str) (.cons (.sl aU bP) .nil)))))))))
abbrev ap9:aK:=(.cons (.int .i64) (.cons (.int .i64) (.cons (.int .i64) (.cons (.bool) (.cons (.int .i64) (.cons (.sl aP bZ) (.cons (.int .i64) (.cons (.str) (.cons (.sl aU bP) .nil)))))))))
abbrev kP:aK:=(.cons (.str) (.cons (.sl eX jo) (.cons (.sl eX jo) .nil)))
abbrev ar1:aK:=(.cons (.sl iC kP) .nil)
abbrev ar2:aK:=(.cons (.sl Vp ap9) .nil)
abbrev ar4:aK:=(.cons (.int .i64) (.cons (.int .i64) (.cons (.str) .nil)))
abbrev ar5:aK:=(.cons (.str) (.cons (.int .i64) (.cons (.int .i64) (.cons (.str) .nil))))
abbrev aqG:aK:=(.cons (.str) (.cons (.sl eX jo) (.cons (.sl eX jo) .nil)))
abbrev aqH:aK:=(.cons (.sl eP jB) (.cons (.int .i64) (.cons (.int .i64) .nil)))
abbrev aqI:aK:=(.cons (.sl eP jB) (.cons (.int .i64) (.cons (.int .i64) .nil)))
abbrev aqJ:aK:=(.cons (.bool) (.cons (.sl aP bZ) .nil))
abbrev aqK:aK:=(.cons (.bool) (.cons (.sl aP bZ) .nil))
abbrev aqL:aK:=(.cons (.str) (.cons (.sl eX jo) .nil))
abbrev aqM:aK:=(.cons (.str) (.cons (.int .i64) .nil))
abbrev aqN:aK:=(.cons (.int .i64) (.cons (.int .i64) (.cons (.int .i64) (.cons (.str) (.cons (.int .i64) (.cons (.int .i64) (.cons (.str) .nil)))))))
abbrev aqO:aK:=(.cons (.int .u64) .nil)
abbrev aqP:aK:=(.cons (.int .i64) .nil)
abbrev aqQ:aK:=(.cons (.int .u32) .nil)
abbrev aqR:aK:=(.cons (.int .u64) .nil)
abbrev aqS:aK:=(.cons (.sl adh R_4) .nil)
abbrev aqT:aK:=(.cons (.int .u64) .nil)
abbrev aqU:aK:=(.cons (.int .u8) .nil)
abbrev aqV:aK:=(.cons (.int .u8) .nil)
abbrev aqW:aK:=(.cons (.int .i32) .nil)
abbrev aqX:aK:=(.cons (.int .i32) .nil)
def qN:List (Nat×Go.Fw.TI):=[
 (2,⟨.scalar,kU,8,false⟩),
 (3,⟨.scalar,jo,8,false⟩),
 (4,⟨.scalar,R_4,1,false⟩),
 (5,⟨.scalar,jB,1,false⟩),
 (6,⟨.scalar,R_6,1,false⟩),
 (7,⟨.struct [(0,2),(1,3),(2,4),(3,6)],R_7,24,false⟩),
 (8,⟨.struct [(0,2),(1,3),(2,4),(3,6)],R_8,24,false⟩),
 (9,⟨.str,dZ,16,false⟩),
 (10,⟨.str,arE,16,false⟩),
 (11,⟨.str,arF,16,false⟩),
 (12,⟨.scalar,arG,8,false⟩),
 (13,⟨.struct [(0,9),(1,12)],arH,24,false⟩),
 (14,⟨.struct [(0,9),(1,12)],arI,24,false⟩),
 (21,⟨.scalar,arJ,4,false⟩),
 (22,⟨.slice eP,arK,24,false⟩),
 (24,⟨.slice ak,arL,24,false⟩),
 (25,⟨.slice aF,arO,24,false⟩),
 (26,⟨.struct [(0,24),(1,25),(2,3)],arP,56,false⟩),
 (27,⟨.struct [(0,24),(1,25),(2,3)],arQ,56,false⟩),
 (28,⟨.slice aG,arS,24,false⟩),
 (29,⟨.slice aB,arU,24,false⟩),
 (30,⟨.struct [(0,27),(3,28),(4,29)],arV,104,false⟩),
 (31,⟨.struct [(0,27),(3,28),(4,29)],arW,104,false⟩),
 (34,⟨.slice aP,arN,24,false⟩),
 (41,⟨.struct [(0,3),(1,3),(2,4),(3,3),(4,34)],arX,56,false⟩),
 (42,⟨.struct [(0,3),(1,3),(2,4),(3,3),(4,34)],bg,56,false⟩),
 (44,⟨.slice dw,arY,24,false⟩),
 (47,⟨.slice aU,arR,24,false⟩),
 (48,⟨.struct [(0,9),(1,47)],arZ,40,false⟩),
 (49,⟨.struct [(0,9),(1,47)],aW,40,false⟩),
 (50,⟨.struct [(0,3),(1,42),(6,3),(7,49)],ar0,112,false⟩),
 (51,⟨.struct [(0,3),(1,42),(6,3),(7,49)],ap9,112,false⟩),
 (54,⟨.slice iC,ar1,24,false⟩),
 (63,⟨.slice Vp,ar2,24,false⟩),
 (64,⟨.slice eX,arT,24,false⟩),
 (76,⟨.struct [(0,3),(1,3),(2,9)],ar4,32,false⟩),
 (77,⟨.struct [(0,3),(1,3),(2,9)],arM,32,true⟩),
 (78,⟨.struct [(0,9),(1,77)],ar5,48,true⟩),
 (79,⟨.struct [(0,9),(1,77)],bZ,48,true⟩),
 (104,⟨.struct [(0,9),(1,64),(2,64)],aqG,64,false⟩),
 (105,⟨.struct [(0,9),(1,64),(2,64)],kP,64,false⟩),
 (118,⟨.struct [(0,22),(1,3),(2,3)],aqH,40,false⟩),
 (119,⟨.struct [(0,22),(1,3),(2,3)],aqI,40,false⟩),
 (124,⟨.struct [(0,4),(1,34)],aqJ,32,false⟩),
 (125,⟨.struct [(0,4),(1,34)],aqK,32,false⟩),
 (137,⟨.struct [(0,9),(1,64)],aqL,40,false⟩),
 (138,⟨.struct [(0,9),(1,64)],aY,40,false⟩),
 (175,⟨.struct [(0,9),(1,3)],aqM,24,false⟩),
 (176,⟨.struct [(0,9),(1,3)],aS,24,true⟩),
 (205,⟨.struct [(0,3),(1,3),(2,3),(3,9),(4,77)],aqN,72,true⟩),
 (206,⟨.struct [(0,3),(1,3),(2,3),(3,9),(4,77)],bP,72,true⟩),
 (207,⟨.scalar,aqO,8,false⟩),
 (243,⟨.scalar,aqP,8,false⟩),
 (251,⟨.scalar,aqQ,4,false⟩),
 (253,⟨.scalar,aqR,8,false⟩),
 (256,⟨.slice adh,aqS,24,false⟩),
 (259,⟨.scalar,aqT,8,false⟩),
 (276,⟨.scalar,aqU,1,false⟩),
 (277,⟨.scalar,aqV,1,false⟩),
 (280,⟨.scalar,aqW,4,false⟩),
 (281,⟨.scalar,aqX,4,false⟩)]
def Θ:jC:=adz qN
theorem ahS:Rn prog qN=true:=by kernel_rfl
theorem mixed:prog.follows .mixedOrders=true:=by kernel_rfl
def G:kC where
 n:=0
 ok:=fun _=>True
 low:=fun _ _=>Nat.zero_le _
 stable:=fun _ _ _ _ _=>trivial
abbrev afY:Nat:=192
abbrev xK:Nat:=192
theorem Rz:oI prog xK:=sF (fn:=f192) (by kernel_rfl) (by kernel_rfl)
abbrev Ja:Nat:=192
abbrev xO:Nat:=192
theorem Ii:oI prog xO:=sF (fn:=f192) (by kernel_rfl) (by kernel_rfl)
abbrev mQ:Nat:=140
theorem rE:oI prog mQ:=sF (fn:=f140) (by kernel_rfl) (by kernel_rfl)
abbrev Hr:Nat:=226
theorem Xv:oI prog Hr:=sF (fn:=f226) (by kernel_rfl) (by kernel_rfl)
abbrev uF:Nat:=226
theorem OY:oI prog uF:=sF (fn:=f226) (by kernel_rfl) (by kernel_rfl)
abbrev Gs:Nat:=226
abbrev JQ:Nat:=237
theorem abW:oI prog JQ:=sF (fn:=f237) (by kernel_rfl) (by kernel_rfl)
abbrev xM:Nat:=237
theorem RD:oI prog xM:=sF (fn:=f237) (by kernel_rfl) (by kernel_rfl)
abbrev Jb:Nat:=237
abbrev wX:Nat:=202
theorem Le:oI prog wX:=sF (fn:=f202) (by kernel_rfl) (by kernel_rfl)
abbrev OK (x:Nat×La):Prop:=adI prog G x
theorem au (l:List (Nat×La)) (h:ai2 prog G l):EnvB prog G Θ (LZ l):=an2 ahS h
end Go.Proofs.Tryz

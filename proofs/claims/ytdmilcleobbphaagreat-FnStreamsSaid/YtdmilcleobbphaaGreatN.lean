import Derived.Test.YtdmilcleobbphaaGreatFwC
import Derived.Test.YtdmilcleobbphaaGreatProg
import Derived.Lib.LaidTab
import Derived.Lib.ItoaNum
namespace Go.Proofs.Tryz
open Go Go.Fw
abbrev aX:TypeId:=3
abbrev aci:TypeId:=4
abbrev eX:TypeId:=5
abbrev dS:TypeId:=9
abbrev dQ:TypeId:=43
abbrev dY:TypeId:=71
abbrev bf:TypeId:=90
abbrev tu:TypeId:=97
abbrev ax:TypeId:=109
abbrev au:TypeId:=115
abbrev Jv:TypeId:=137
abbrev ai:TypeId:=140
abbrev qP:TypeId:=142
abbrev bg:TypeId:=163
abbrev ah:TypeId:=180
abbrev aU:TypeId:=193
abbrev iH:aP:=(.cons (.int .i64) .nil)
abbrev dL:aP:=(.cons (.int .i64) .nil)
abbrev R_4:aP:=(.cons (.bool) .nil)
abbrev jw:aP:=(.cons (.int .u8) .nil)
abbrev R_6:aP:=(.cons (.int .u8) .nil)
abbrev R_7:aP:=(.cons (.int .i64) (.cons (.int .i64) (.cons (.bool) (.cons (.int .u8) .nil))))
abbrev R_8:aP:=(.cons (.int .i64) (.cons (.int .i64) (.cons (.bool) (.cons (.int .u8) .nil))))
abbrev gu:aP:=(.cons (.str) .nil)
abbrev aNH:aP:=(.cons (.str) .nil)
abbrev aNI:aP:=(.cons (.str) .nil)
abbrev aNJ:aP:=(.cons (.int .u64) .nil)
abbrev aNK:aP:=(.cons (.str) (.cons (.int .u64) .nil))
abbrev aNL:aP:=(.cons (.str) (.cons (.int .u64) .nil))
abbrev aNM:aP:=(.cons (.int .i32) .nil)
abbrev aNN:aP:=(.cons (.sl eX jw) .nil)
abbrev aB:aP:=(.cons (.str) (.cons (.int .i64) .nil))
abbrev aNO:aP:=(.cons (.sl ah aB) .nil)
abbrev aMu:aP:=(.cons (.int .i64) (.cons (.int .i64) (.cons (.str) .nil)))
abbrev bG:aP:=(.cons (.str) (.cons (.int .i64) (.cons (.int .i64) (.cons (.str) .nil))))
abbrev aMv:aP:=(.cons (.sl aU bG) .nil)
abbrev aF:aP:=(.cons (.int .i64) (.cons (.int .i64) (.cons (.bool) (.cons (.int .i64) (.cons (.sl aU bG) .nil)))))
abbrev aNP:aP:=(.cons (.sl ai aF) .nil)
abbrev aNQ:aP:=(.cons (.sl ah aB) (.cons (.sl ai aF) (.cons (.int .i64) .nil)))
abbrev aNR:aP:=(.cons (.sl ah aB) (.cons (.sl ai aF) (.cons (.int .i64) .nil)))
abbrev dG:aP:=(.cons (.int .i64) (.cons (.int .i64) (.cons (.int .i64) (.cons (.str) (.cons (.int .i64) (.cons (.int .i64) (.cons (.str) .nil)))))))
abbrev aMw:aP:=(.cons (.sl bg dG) .nil)
abbrev ay:aP:=(.cons (.str) (.cons (.sl bg dG) .nil))
abbrev aNS:aP:=(.cons (.sl au ay) .nil)
abbrev aNT:aP:=(.cons (.sl aX dL) .nil)
abbrev aT:aP:=(.cons (.str) (.cons (.sl aX dL) .nil))
abbrev aNU:aP:=(.cons (.sl ax aT) .nil)
abbrev aNV:aP:=(.cons (.sl ah aB) (.cons (.sl ai aF) (.cons (.int .i64) (.cons (.sl au ay) (.cons (.sl ax aT) .nil)))))
abbrev aNW:aP:=(.cons (.sl ah aB) (.cons (.sl ai aF) (.cons (.int .i64) (.cons (.sl au ay) (.cons (.sl ax aT) .nil)))))
abbrev aNX:aP:=(.cons (.str) (.cons (.str) .nil))
abbrev aNY:aP:=(.cons (.str) (.cons (.str) .nil))
abbrev aNZ:aP:=(.cons (.sl ah aB) (.cons (.sl ai aF) (.cons (.int .i64) (.cons (.sl au ay) .nil))))
abbrev gV:aP:=(.cons (.int .i64) (.cons (.sl ah aB) (.cons (.sl ai aF) (.cons (.int .i64) (.cons (.sl au ay) (.cons (.int .i64) .nil))))))
abbrev aN0:aP:=(.cons (.sl bf gV) .nil)
abbrev ja:aP:=(.cons (.int .i64) (.cons (.sl aX dL) (.cons (.sl aX dL) .nil)))
abbrev aN1:aP:=(.cons (.sl dY ja) .nil)
abbrev jW:aP:=(.cons (.int .i64) (.cons (.str) (.cons (.sl aX dL) (.cons (.sl dY ja) .nil))))
abbrev aN2:aP:=(.cons (.sl dQ jW) .nil)
abbrev aN3:aP:=(.cons (.sl ah aB) (.cons (.sl ai aF) (.cons (.int .i64) (.cons (.sl au ay) (.cons (.sl ax aT) (.cons (.str) (.cons (.str) (.cons (.int .i64) (.cons (.sl bf gV) (.cons (.sl dQ jW) (.cons (.sl aX dL) .nil)))))))))))
abbrev aN4:aP:=(.cons (.sl ah aB) (.cons (.sl ai aF) (.cons (.int .i64) (.cons (.sl au ay) (.cons (.sl ax aT) (.cons (.str) (.cons (.str) (.cons (.int .i64) (.cons (.sl bf gV) (.cons (.sl dQ jW) (.cons (.sl aX dL) .nil)))))))))))
abbrev aN5:aP:=(.cons (.int .i64) (.cons (.str) (.cons (.sl aX dL) (.cons (.sl dY ja) .nil))))
abbrev aN6:aP:=(.cons (.sl ah aB) (.cons (.sl ai aF) (.cons (.int .i64) (.cons (.sl au ay) .nil))))
abbrev aN7:aP:=(.cons (.int .i64) (.cons (.sl aX dL) (.cons (.sl aX dL) .nil)))
abbrev aN8:aP:=(.cons (.sl eX jw) (.cons (.int .i64) (.cons (.int .i64) .nil)))
abbrev aN9:aP:=(.cons (.sl eX jw) (.cons (.int .i64) (.cons (.int .i64) .nil)))
abbrev aOa:aP:=(.cons (.sl dS gu) .nil)
abbrev aOb:aP:=(.cons (.int .i64) (.cons (.sl ah aB) (.cons (.sl ai aF) (.cons (.int .i64) (.cons (.sl au ay) (.cons (.int .i64) .nil))))))
abbrev aom:aP:=(.cons (.str) (.cons (.sl aX dL) (.cons (.sl aX dL) .nil)))
abbrev Yz:aP:=(.cons (.str) (.cons (.sl aX dL) (.cons (.sl aX dL) .nil)))
abbrev aMx:aP:=(.cons (.sl aci R_4) .nil)
abbrev Iu:aP:=(.cons (.int .i64) (.cons (.int .i64) (.cons (.int .i64) (.cons (.bool) (.cons (.int .i64) (.cons (.sl aU bG) (.cons (.int .i64) (.cons (.str) (.cons (.sl bg dG) .nil)))))))))
abbrev aMy:aP:=(.cons (.sl qP Iu) .nil)
abbrev XC:aP:=(.cons (.int .i64) (.cons (.int .i64) (.cons (.sl qP Iu) (.cons (.str) (.cons (.int .i64) .nil)))))
abbrev aMz:aP:=(.cons (.sl Jv XC) .nil)
abbrev aMA:aP:=(.cons (.str) (.cons (.sl aX dL) .nil))
abbrev aMB:aP:=(.cons (.str) (.cons (.sl bg dG) .nil))
abbrev aMC:aP:=(.cons (.int .i64) (.cons (.int .i64) (.cons (.sl qP Iu) (.cons (.str) (.cons (.int .i64) .nil)))))
abbrev aMD:aP:=(.cons (.int .i64) (.cons (.int .i64) (.cons (.bool) (.cons (.int .i64) (.cons (.sl aU bG) .nil)))))
abbrev aME:aP:=(.cons (.int .i64) (.cons (.int .i64) (.cons (.int .i64) (.cons (.bool) (.cons (.int .i64) (.cons (.sl aU bG) (.cons (.int .i64) (.cons (.str) (.cons (.sl bg dG) .nil)))))))))
abbrev aMF:aP:=(.cons (.int .i64) (.cons (.int .i64) (.cons (.str) .nil)))
abbrev aMG:aP:=(.cons (.int .i64) (.cons (.int .i64) (.cons (.int .i64) (.cons (.str) (.cons (.int .i64) (.cons (.int .i64) (.cons (.str) .nil)))))))
abbrev aMH:aP:=(.cons (.int .u64) .nil)
abbrev aMI:aP:=(.cons (.str) (.cons (.int .i64) .nil))
abbrev aMJ:aP:=(.cons (.str) (.cons (.int .i64) (.cons (.int .i64) (.cons (.str) .nil))))
abbrev aMK:aP:=(.cons (.int .i64) .nil)
abbrev aML:aP:=(.cons (.int .u32) .nil)
abbrev aMM:aP:=(.cons (.int .u64) .nil)
abbrev aMN:aP:=(.cons (.int .u64) .nil)
abbrev aMO:aP:=(.cons (.sl tu Yz) .nil)
abbrev aMP:aP:=(.cons (.bool) (.cons (.sl aU bG) .nil))
abbrev aMQ:aP:=(.cons (.bool) (.cons (.sl aU bG) .nil))
abbrev aMR:aP:=(.cons (.int .u8) .nil)
abbrev aMS:aP:=(.cons (.int .u8) .nil)
abbrev aMT:aP:=(.cons (.int .i32) .nil)
abbrev aMU:aP:=(.cons (.int .i32) .nil)
def xq:List (Nat×Go.Fw.TI):=[
 (2,⟨.scalar,iH,8,false⟩),
 (3,⟨.scalar,dL,8,false⟩),
 (4,⟨.scalar,R_4,1,false⟩),
 (5,⟨.scalar,jw,1,false⟩),
 (6,⟨.scalar,R_6,1,false⟩),
 (7,⟨.struct [(0,2),(1,3),(2,4),(3,6)],R_7,24,false⟩),
 (8,⟨.struct [(0,2),(1,3),(2,4),(3,6)],R_8,24,false⟩),
 (9,⟨.str,gu,16,false⟩),
 (10,⟨.str,aNH,16,false⟩),
 (11,⟨.str,aNI,16,false⟩),
 (12,⟨.scalar,aNJ,8,false⟩),
 (13,⟨.struct [(0,9),(1,12)],aNK,24,false⟩),
 (14,⟨.struct [(0,9),(1,12)],aNL,24,false⟩),
 (21,⟨.scalar,aNM,4,false⟩),
 (22,⟨.slice eX,aNN,24,false⟩),
 (24,⟨.slice ah,aNO,24,false⟩),
 (25,⟨.slice ai,aNP,24,false⟩),
 (26,⟨.struct [(0,24),(1,25),(2,3)],aNQ,56,false⟩),
 (27,⟨.struct [(0,24),(1,25),(2,3)],aNR,56,false⟩),
 (28,⟨.slice au,aNS,24,false⟩),
 (29,⟨.slice ax,aNU,24,false⟩),
 (30,⟨.struct [(0,27),(3,28),(4,29)],aNV,104,false⟩),
 (31,⟨.struct [(0,27),(3,28),(4,29)],aNW,104,false⟩),
 (32,⟨.struct [(0,9),(1,9)],aNX,32,false⟩),
 (33,⟨.struct [(0,9),(1,9)],aNY,32,true⟩),
 (34,⟨.slice bf,aN0,24,false⟩),
 (35,⟨.slice dQ,aN2,24,false⟩),
 (36,⟨.slice aX,aNT,24,false⟩),
 (37,⟨.struct [(0,31),(5,33),(7,3),(8,34),(9,35),(10,36)],aN3,216,false⟩),
 (38,⟨.struct [(0,31),(5,33),(7,3),(8,34),(9,35),(10,36)],aN4,216,false⟩),
 (41,⟨.slice dY,aN1,24,false⟩),
 (42,⟨.struct [(0,3),(1,9),(2,36),(3,41)],aN5,72,false⟩),
 (43,⟨.struct [(0,3),(1,9),(2,36),(3,41)],jW,72,false⟩),
 (63,⟨.struct [(0,27),(3,28)],aN6,80,false⟩),
 (64,⟨.struct [(0,27),(3,28)],aNZ,80,false⟩),
 (70,⟨.struct [(0,3),(1,36),(2,36)],aN7,56,false⟩),
 (71,⟨.struct [(0,3),(1,36),(2,36)],ja,56,false⟩),
 (78,⟨.struct [(0,22),(1,3),(2,3)],aN8,40,false⟩),
 (79,⟨.struct [(0,22),(1,3),(2,3)],aN9,40,false⟩),
 (86,⟨.slice dS,aOa,24,false⟩),
 (89,⟨.struct [(0,3),(1,64),(5,3)],aOb,96,false⟩),
 (90,⟨.struct [(0,3),(1,64),(5,3)],gV,96,false⟩),
 (96,⟨.struct [(0,9),(1,36),(2,36)],aom,64,false⟩),
 (97,⟨.struct [(0,9),(1,36),(2,36)],Yz,64,false⟩),
 (100,⟨.slice aci,aMx,24,false⟩),
 (103,⟨.slice Jv,aMz,24,false⟩),
 (108,⟨.struct [(0,9),(1,36)],aMA,40,false⟩),
 (109,⟨.struct [(0,9),(1,36)],aT,40,false⟩),
 (113,⟨.slice bg,aMw,24,false⟩),
 (114,⟨.struct [(0,9),(1,113)],aMB,40,false⟩),
 (115,⟨.struct [(0,9),(1,113)],ay,40,false⟩),
 (135,⟨.slice qP,aMy,24,false⟩),
 (136,⟨.struct [(0,3),(1,3),(2,135),(3,9),(4,3)],aMC,64,false⟩),
 (137,⟨.struct [(0,3),(1,3),(2,135),(3,9),(4,3)],XC,64,false⟩),
 (138,⟨.slice aU,aMv,24,false⟩),
 (139,⟨.struct [(0,3),(1,3),(2,4),(3,3),(4,138)],aMD,56,false⟩),
 (140,⟨.struct [(0,3),(1,3),(2,4),(3,3),(4,138)],aF,56,false⟩),
 (141,⟨.struct [(0,3),(1,140),(6,3),(7,115)],aME,112,false⟩),
 (142,⟨.struct [(0,3),(1,140),(6,3),(7,115)],Iu,112,false⟩),
 (160,⟨.struct [(0,3),(1,3),(2,9)],aMF,32,false⟩),
 (161,⟨.struct [(0,3),(1,3),(2,9)],aMu,32,true⟩),
 (162,⟨.struct [(0,3),(1,3),(2,3),(3,9),(4,161)],aMG,72,true⟩),
 (163,⟨.struct [(0,3),(1,3),(2,3),(3,9),(4,161)],dG,72,true⟩),
 (166,⟨.scalar,aMH,8,false⟩),
 (179,⟨.struct [(0,9),(1,3)],aMI,24,false⟩),
 (180,⟨.struct [(0,9),(1,3)],aB,24,true⟩),
 (192,⟨.struct [(0,9),(1,161)],aMJ,48,true⟩),
 (193,⟨.struct [(0,9),(1,161)],bG,48,true⟩),
 (218,⟨.scalar,aMK,8,false⟩),
 (227,⟨.scalar,aML,4,false⟩),
 (229,⟨.scalar,aMM,8,false⟩),
 (254,⟨.scalar,aMN,8,false⟩),
 (266,⟨.slice tu,aMO,24,false⟩),
 (293,⟨.struct [(0,4),(1,138)],aMP,32,false⟩),
 (294,⟨.struct [(0,4),(1,138)],aMQ,32,false⟩),
 (357,⟨.scalar,aMR,1,false⟩),
 (358,⟨.scalar,aMS,1,false⟩),
 (361,⟨.scalar,aMT,4,false⟩),
 (362,⟨.scalar,aMU,4,false⟩)]
def Θ:mD:=aqt xq
theorem Xb:acA prog xq=true:=lu
theorem mixed:prog.follows .mixedOrders=true:=lu
def G:oI where
 n:=0
 ok:=λ_=>True
 low:=λ_ _=>aQx _
 stable:=λ_ _ _ _ _=>trivial
abbrev auC:Nat:=163
abbrev DI:Nat:=163
theorem acH:mP prog DI:=mF (fn:=f163) lu lu
abbrev SL:Nat:=163
abbrev DR:Nat:=163
theorem QV:mP prog DR:=mF (fn:=f163) lu lu
abbrev Ol:Nat:=289
theorem agM:mP prog Ol:=mF (fn:=f289) lu lu
abbrev Qj:Nat:=254
theorem aiB:mP prog Qj:=mF (fn:=f254) lu lu
abbrev Aa:Nat:=254
theorem ZR:mP prog Aa:=mF (fn:=f254) lu lu
abbrev OY:Nat:=254
abbrev GR:Nat:=245
theorem Y0:mP prog GR:=mF (fn:=f245) lu lu
abbrev DJ:Nat:=245
theorem acI:mP prog DJ:=mF (fn:=f245) lu lu
abbrev SN:Nat:=245
abbrev Nz:Nat:=298
theorem Y3:mP prog Nz:=mF (fn:=f298) lu lu
abbrev DK:Nat:=298
theorem acJ:mP prog DK:=mF (fn:=f298) lu lu
abbrev SQ:Nat:=298
abbrev UR:Nat:=249
theorem aon:mP prog UR:=mF (fn:=f249) lu lu
abbrev DL:Nat:=249
theorem acK:mP prog DL:=mF (fn:=f249) lu lu
abbrev SS:Nat:=249
abbrev UU:Nat:=304
theorem aoo:mP prog UU:=mF (fn:=f304) lu lu
abbrev DN:Nat:=304
theorem acL:mP prog DN:=mF (fn:=f304) lu lu
abbrev SX:Nat:=304
abbrev He:Nat:=207
theorem ZT:mP prog He:=mF (fn:=f207) lu lu
abbrev SY:Nat:=64
theorem alu:mP prog SY:=mF (fn:=f64) lu lu
abbrev OK(x:Nat×Qg):Prop:=aqD prog G x
theorem XT(l:List (Nat×Qg))(h:acB prog G l):EnvB prog G Θ (IV l):=aHA Xb h
theorem dW{q:PA}(l:List (Nat×Qg))(W:acB prog G l)(H:Hints){p:Prop}(h:p)(e:q.say prog Θ (IV l) H=p:=by kernel_rfl):OK q.e:=PA.ok mixed (XT l W) H e h
theorem eP{q:XA}(l:List (Nat×Qg))(W:acB prog G l)(H:Hints)(w:∀x,(q.F x).1->∃t,(q.F x).2 t){p:Prop}(h:p)(e:q.say prog Θ (IV l) H=p:=by kernel_rfl):OK q.e:=XA.ok mixed (XT l W) H w e h
theorem qok{q:QA}(l:List (Nat×Qg))(W:acB prog G l)(H:Hints)(w:∀x,(q.F x).1->∃t,(q.F x).2 t){p:Prop}(h:p)(e:q.say prog Θ (IV l) H=p:=by kernel_rfl):OK q.e:=QA.ok mixed (XT l W) H w e h
end Go.Proofs.Tryz

import Derived.Test.YtflpicdbkomglaaGreatDoorFwC
import Derived.Test.YtflpicdbkomglaaGreatDoorProg
import Derived.Lib.LaidTab
import Derived.Lib.ItoaNum
import Derived.Lib.Space
namespace Go.Proofs.Tryz
open Go Go.Fw
abbrev SQ:TypeId:=3
abbrev Io:TypeId:=5
abbrev dM:TypeId:=9
abbrev yT:TypeId:=39
abbrev LK:TypeId:=53
abbrev aT:TypeId:=84
abbrev aB:TypeId:=125
abbrev vJ:TypeId:=166
abbrev vK:TypeId:=169
abbrev I8:TypeId:=197
abbrev rV:TypeId:=215
abbrev rW:TypeId:=218
abbrev R_2:au:=(.cons (.int .i64) .nil)
abbrev R_3:au:=(.cons (.int .i64) .nil)
abbrev R_4:au:=(.cons (.bool) .nil)
abbrev R_5:au:=(.cons (.int .u8) .nil)
abbrev R_6:au:=(.cons (.int .u8) .nil)
abbrev R_7:au:=(.cons (.int .i64) (.cons (.int .i64) (.cons (.bool) (.cons (.int .u8) .nil))))
abbrev R_8:au:=(.cons (.int .i64) (.cons (.int .i64) (.cons (.bool) (.cons (.int .u8) .nil))))
abbrev iF:au:=(.cons (.str) .nil)
abbrev aib:au:=(.cons (.str) .nil)
abbrev aic:au:=(.cons (.str) .nil)
abbrev aid:au:=(.cons (.int .u64) .nil)
abbrev aie:au:=(.cons (.str) (.cons (.int .u64) .nil))
abbrev aif:au:=(.cons (.str) (.cons (.int .u64) .nil))
abbrev aii:au:=(.cons (.int .i32) .nil)
abbrev ag0:au:=(.cons (.int .i64) (.cons (.int .i64) (.cons (.str) .nil)))
abbrev fK:au:=(.cons (.str) (.cons (.int .i64) (.cons (.int .i64) (.cons (.str) .nil))))
abbrev aij:au:=(.cons (.sl vJ fK) .nil)
abbrev aik:au:=(.cons (.int .i64) (.cons (.int .i64) (.cons (.bool) (.cons (.int .i64) (.cons (.sl vJ fK) .nil)))))
abbrev ail:au:=(.cons (.int .i64) (.cons (.int .i64) (.cons (.bool) (.cons (.int .i64) (.cons (.sl vJ fK) .nil)))))
abbrev fH:au:=(.cons (.int .i64) (.cons (.int .i64) (.cons (.int .i64) (.cons (.str) (.cons (.int .i64) (.cons (.int .i64) (.cons (.str) .nil)))))))
abbrev aim:au:=(.cons (.sl vK fH) .nil)
abbrev ain:au:=(.cons (.str) (.cons (.sl vK fH) .nil))
abbrev aio:au:=(.cons (.str) (.cons (.sl vK fH) .nil))
abbrev aip:au:=(.cons (.int .i64) (.cons (.int .i64) (.cons (.int .i64) (.cons (.bool) (.cons (.int .i64) (.cons (.sl vJ fK) (.cons (.int .i64) (.cons (.str) (.cons (.sl vK fH) .nil)))))))))
abbrev aiq:au:=(.cons (.int .i64) (.cons (.int .i64) (.cons (.int .i64) (.cons (.bool) (.cons (.int .i64) (.cons (.sl vJ fK) (.cons (.int .i64) (.cons (.str) (.cons (.sl vK fH) .nil)))))))))
abbrev air:au:=(.cons (.int .i64) (.cons (.int .i64) (.cons (.str) .nil)))
abbrev gY:au:=(.cons (.str) (.cons (.int .i64) (.cons (.int .i64) (.cons (.str) .nil))))
abbrev ais:au:=(.cons (.sl aT gY) .nil)
abbrev ait:au:=(.cons (.int .i64) (.cons (.int .i64) (.cons (.bool) (.cons (.int .i64) (.cons (.sl aT gY) .nil)))))
abbrev aiu:au:=(.cons (.int .i64) (.cons (.int .i64) (.cons (.bool) (.cons (.int .i64) (.cons (.sl aT gY) .nil)))))
abbrev bH:au:=(.cons (.int .i64) (.cons (.int .i64) (.cons (.int .i64) (.cons (.str) (.cons (.int .i64) (.cons (.int .i64) (.cons (.str) .nil)))))))
abbrev aiv:au:=(.cons (.sl aB bH) .nil)
abbrev aiw:au:=(.cons (.str) (.cons (.sl aB bH) .nil))
abbrev aix:au:=(.cons (.str) (.cons (.sl aB bH) .nil))
abbrev aiy:au:=(.cons (.int .i64) (.cons (.int .i64) (.cons (.int .i64) (.cons (.bool) (.cons (.int .i64) (.cons (.sl aT gY) (.cons (.int .i64) (.cons (.str) (.cons (.sl aB bH) .nil)))))))))
abbrev ab9:au:=(.cons (.int .i64) (.cons (.int .i64) (.cons (.int .i64) (.cons (.bool) (.cons (.int .i64) (.cons (.sl aT gY) (.cons (.int .i64) (.cons (.str) (.cons (.sl aB bH) .nil)))))))))
abbrev aiz:au:=(.cons (.sl Io R_5) .nil)
abbrev aiA:au:=(.cons (.sl yT ab9) .nil)
abbrev aiB:au:=(.cons (.int .i64) (.cons (.int .i64) (.cons (.sl yT ab9) (.cons (.str) (.cons (.int .i64) .nil)))))
abbrev agl:au:=(.cons (.int .i64) (.cons (.int .i64) (.cons (.sl yT ab9) (.cons (.str) (.cons (.int .i64) .nil)))))
abbrev aiC:au:=(.cons (.sl LK agl) .nil)
abbrev aiD:au:=(.cons (.sl SQ R_3) .nil)
abbrev aiE:au:=(.cons (.sl dM iF) .nil)
abbrev aiF:au:=(.cons (.int .i64) (.cons (.int .i64) (.cons (.str) .nil)))
abbrev aiG:au:=(.cons (.str) (.cons (.int .i64) (.cons (.int .i64) (.cons (.str) .nil))))
abbrev ag1:au:=(.cons (.int .i64) (.cons (.int .i64) (.cons (.int .i64) (.cons (.str) (.cons (.int .i64) (.cons (.int .i64) (.cons (.str) .nil)))))))
abbrev ag2:au:=(.cons (.sl dM iF) (.cons (.sl aB bH) .nil))
abbrev ag3:au:=(.cons (.sl dM iF) (.cons (.sl aB bH) .nil))
abbrev ag4:au:=(.cons (.sl Io R_5) (.cons (.int .i64) (.cons (.int .i64) .nil)))
abbrev ag5:au:=(.cons (.sl Io R_5) (.cons (.int .i64) (.cons (.int .i64) .nil)))
abbrev ag6:au:=(.cons (.str) (.cons (.int .i64) (.cons (.int .i64) (.cons (.str) .nil))))
abbrev ag7:au:=(.cons (.int .i64) (.cons (.int .i64) (.cons (.int .i64) (.cons (.str) (.cons (.int .i64) (.cons (.int .i64) (.cons (.str) .nil)))))))
abbrev ag8:au:=(.cons (.int .u64) .nil)
abbrev aeY:au:=(.cons (.int .i64) (.cons (.int .i64) .nil))
abbrev ag9:au:=(.cons (.sl I8 aeY) .nil)
abbrev aha:au:=(.cons (.int .i64) (.cons (.int .i64) .nil))
abbrev ahb:au:=(.cons (.int .u32) .nil)
abbrev ahc:au:=(.cons (.int .u64) .nil)
abbrev ahd:au:=(.cons (.int .u16) .nil)
abbrev X5:au:=(.cons (.int .u16) (.cons (.int .u16) (.cons (.int .u16) .nil)))
abbrev ahe:au:=(.cons (.sl rV X5) .nil)
abbrev X6:au:=(.cons (.int .u32) (.cons (.int .u32) (.cons (.int .u32) .nil)))
abbrev ahf:au:=(.cons (.sl rW X6) .nil)
abbrev ahg:au:=(.cons (.sl rV X5) (.cons (.sl rW X6) (.cons (.int .i64) .nil)))
abbrev ahh:au:=(.cons (.sl rV X5) (.cons (.sl rW X6) (.cons (.int .i64) .nil)))
abbrev ahi:au:=(.cons (.int .u16) (.cons (.int .u16) (.cons (.int .u16) .nil)))
abbrev ahj:au:=(.cons (.int .u32) (.cons (.int .u32) (.cons (.int .u32) .nil)))
abbrev ahk:au:=(.cons (.int .i64) .nil)
abbrev ahl:au:=(.cons (.int .u8) (.cons (.int .u8) .nil))
abbrev ahm:au:=(.cons (.int .u8) (.cons (.int .u8) .nil))
abbrev ahn:au:=(.cons (.str) .nil)
abbrev aho:au:=(.cons (.str) .nil)
abbrev ahp:au:=(.cons (.int .u8) .nil)
abbrev ahq:au:=(.cons (.int .u8) .nil)
abbrev ahr:au:=(.cons (.int .i32) .nil)
abbrev ahs:au:=(.cons (.int .i32) .nil)
def lQ:List (Nat×Go.Fw.TI):=[
 (2,⟨.scalar,R_2,8,false⟩),
 (3,⟨.scalar,R_3,8,false⟩),
 (4,⟨.scalar,R_4,1,false⟩),
 (5,⟨.scalar,R_5,1,false⟩),
 (6,⟨.scalar,R_6,1,false⟩),
 (7,⟨.struct [(0,2),(1,3),(2,4),(3,6)],R_7,24,false⟩),
 (8,⟨.struct [(0,2),(1,3),(2,4),(3,6)],R_8,24,false⟩),
 (9,⟨.str,iF,16,false⟩),
 (10,⟨.str,aib,16,false⟩),
 (11,⟨.str,aic,16,false⟩),
 (12,⟨.scalar,aid,8,false⟩),
 (13,⟨.struct [(0,9),(1,12)],aie,24,false⟩),
 (14,⟨.struct [(0,9),(1,12)],aif,24,false⟩),
 (21,⟨.scalar,aii,4,false⟩),
 (22,⟨.slice vJ,aij,24,false⟩),
 (23,⟨.struct [(0,3),(1,3),(2,4),(3,3),(4,22)],aik,56,false⟩),
 (24,⟨.struct [(0,3),(1,3),(2,4),(3,3),(4,22)],ail,56,false⟩),
 (25,⟨.slice vK,aim,24,false⟩),
 (26,⟨.struct [(0,9),(1,25)],ain,40,false⟩),
 (27,⟨.struct [(0,9),(1,25)],aio,40,false⟩),
 (28,⟨.struct [(0,3),(1,24),(6,3),(7,27)],aip,112,false⟩),
 (29,⟨.struct [(0,3),(1,24),(6,3),(7,27)],aiq,112,false⟩),
 (32,⟨.slice aT,ais,24,false⟩),
 (33,⟨.struct [(0,3),(1,3),(2,4),(3,3),(4,32)],ait,56,false⟩),
 (34,⟨.struct [(0,3),(1,3),(2,4),(3,3),(4,32)],aiu,56,false⟩),
 (35,⟨.slice aB,aiv,24,false⟩),
 (36,⟨.struct [(0,9),(1,35)],aiw,40,false⟩),
 (37,⟨.struct [(0,9),(1,35)],aix,40,false⟩),
 (38,⟨.struct [(0,3),(1,34),(6,3),(7,37)],aiy,112,false⟩),
 (39,⟨.struct [(0,3),(1,34),(6,3),(7,37)],ab9,112,false⟩),
 (47,⟨.slice Io,aiz,24,false⟩),
 (51,⟨.slice yT,aiA,24,false⟩),
 (52,⟨.struct [(0,3),(1,3),(2,51),(3,9),(4,3)],aiB,64,false⟩),
 (53,⟨.struct [(0,3),(1,3),(2,51),(3,9),(4,3)],agl,64,false⟩),
 (59,⟨.slice LK,aiC,24,false⟩),
 (76,⟨.slice SQ,aiD,24,false⟩),
 (77,⟨.slice dM,aiE,24,false⟩),
 (81,⟨.struct [(0,3),(1,3),(2,9)],aiF,32,false⟩),
 (82,⟨.struct [(0,3),(1,3),(2,9)],air,32,true⟩),
 (83,⟨.struct [(0,9),(1,82)],aiG,48,true⟩),
 (84,⟨.struct [(0,9),(1,82)],gY,48,true⟩),
 (124,⟨.struct [(0,3),(1,3),(2,3),(3,9),(4,82)],ag1,72,true⟩),
 (125,⟨.struct [(0,3),(1,3),(2,3),(3,9),(4,82)],bH,72,true⟩),
 (149,⟨.struct [(0,77),(1,35)],ag2,48,false⟩),
 (150,⟨.struct [(0,77),(1,35)],ag3,48,false⟩),
 (154,⟨.struct [(0,47),(1,3),(2,3)],ag4,40,false⟩),
 (155,⟨.struct [(0,47),(1,3),(2,3)],ag5,40,false⟩),
 (164,⟨.struct [(0,3),(1,3),(2,9)],ag0,32,false⟩),
 (165,⟨.struct [(0,9),(1,164)],ag6,48,false⟩),
 (166,⟨.struct [(0,9),(1,164)],fK,48,false⟩),
 (168,⟨.struct [(0,3),(1,3),(2,3),(3,9),(4,164)],ag7,72,false⟩),
 (169,⟨.struct [(0,3),(1,3),(2,3),(3,9),(4,164)],fH,72,false⟩),
 (182,⟨.scalar,ag8,8,false⟩),
 (195,⟨.slice I8,ag9,24,false⟩),
 (196,⟨.struct [(0,3),(1,3)],aha,16,false⟩),
 (197,⟨.struct [(0,3),(1,3)],aeY,16,false⟩),
 (198,⟨.scalar,ahb,4,false⟩),
 (204,⟨.scalar,ahc,8,false⟩),
 (209,⟨.slice rV,ahe,24,false⟩),
 (210,⟨.slice rW,ahf,24,false⟩),
 (211,⟨.struct [(0,209),(1,210),(2,3)],ahg,56,false⟩),
 (212,⟨.struct [(0,209),(1,210),(2,3)],ahh,56,false⟩),
 (213,⟨.scalar,ahd,2,false⟩),
 (214,⟨.struct [(0,213),(1,213),(2,213)],ahi,6,false⟩),
 (215,⟨.struct [(0,213),(1,213),(2,213)],X5,6,false⟩),
 (217,⟨.struct [(0,198),(1,198),(2,198)],ahj,12,false⟩),
 (218,⟨.struct [(0,198),(1,198),(2,198)],X6,12,false⟩),
 (220,⟨.scalar,ahk,8,false⟩),
 (226,⟨.struct [(0,5),(1,5)],ahl,2,false⟩),
 (227,⟨.struct [(0,5),(1,5)],ahm,2,false⟩),
 (246,⟨.struct [(0,9)],ahn,16,false⟩),
 (247,⟨.struct [(0,9)],aho,16,false⟩),
 (258,⟨.scalar,ahp,1,false⟩),
 (259,⟨.scalar,ahq,1,false⟩),
 (261,⟨.scalar,ahr,4,false⟩),
 (262,⟨.scalar,ahs,4,false⟩)]
def Θ:fU:=TB lQ
theorem XG:IV prog lQ=true:=by kernel_rfl
theorem mixed:prog.follows .mixedOrders=true:=by kernel_rfl
theorem Za{w w':World}{name:String}{g:Nat}{cs:Array Value}(hg:prog.globalNamed name=some g)(hk:w'.heap[g]? =w.heap[g]?)(h:World.var? prog w name=some cs):World.var? prog w' name=some cs:=by unfold World.var? at h ⊢;rw[hg]at h ⊢;show(match w'.heap[g]? with|some (.cells cs _ _)=>some cs|_=>none)=_;rw[hk];exact h
def isErr(ev:Value):Prop:=ev=.nilIface\/∃te pe,ev=.iface te pe
def G:iC where
 n:=8
 ok:=λw=>Lib.TabIs prog w "internal/strconv.uint64pow10" .u64 Lib.pow10Tab/\Lib.TabIs prog w "strings.asciiSpace" .u8 Lib.asciiSpaceTab/\
  (∃ev,w.cell? ⟨6,0,none⟩=some ev/\isErr ev)/\(∃ev,w.cell? ⟨7,0,none⟩=some ev/\isErr ev)/\∃m,w.cell? ⟨2,0,none⟩=some (.int .i64 m)
 low:=by
  intro w h;obtain⟨ev,h1,_⟩:=h.2.2.2.1;rcases aks 7 w.heap.size with h'|h'
  .exact h'
  .simp[World.cell?,amx h']at h1
 stable:=by
  intro w w' h hs hk;refine⟨Za (g:=5) (by kernel_rfl) (hk 5 (by decide)) h.1,Za (g:=0) (by kernel_rfl) (hk 0 (by decide)) h.2.1,?_,?_,?_⟩
  .obtain⟨ev,h1,h2⟩:=h.2.2.1;exact⟨ev,by rw[amI (a:=⟨6,0,none⟩) (hk 6 (by decide))];exact h1,h2⟩
  .obtain⟨ev,h1,h2⟩:=h.2.2.2.1;exact⟨ev,by rw[amI (a:=⟨7,0,none⟩) (hk 7 (by decide))];exact h1,h2⟩
  .obtain⟨m,h1⟩:=h.2.2.2.2;exact⟨m,by rw[amI (a:=⟨2,0,none⟩) (hk 2 (by decide))];exact h1⟩
abbrev BD:Nat:=113
theorem RJ:gK prog BD:=gX (fn:=f113) (by kernel_rfl) (by kernel_rfl)
abbrev mF:Nat:=58
theorem uH:gK prog mF:=gX (fn:=f58) (by kernel_rfl) (by kernel_rfl)
abbrev Ap:Nat:=46
theorem PL:gK prog Ap:=gX (fn:=f46) (by kernel_rfl) (by kernel_rfl)
abbrev uG:Nat:=130
theorem CU:gK prog uG:=gX (fn:=f130) (by kernel_rfl) (by kernel_rfl)
abbrev pX:Nat:=131
theorem wO:gK prog pX:=gX (fn:=f131) (by kernel_rfl) (by kernel_rfl)
abbrev zk:Nat:=114
theorem NZ:gK prog zk:=gX (fn:=f114) (by kernel_rfl) (by kernel_rfl)
abbrev nP:Nat:=114
theorem FV:gK prog nP:=gX (fn:=f114) (by kernel_rfl) (by kernel_rfl)
abbrev yI:Nat:=114
abbrev BF:Nat:=108
theorem RN:gK prog BF:=gX (fn:=f108) (by kernel_rfl) (by kernel_rfl)
abbrev qo:Nat:=108
theorem I9:gK prog qo:=gX (fn:=f108) (by kernel_rfl) (by kernel_rfl)
abbrev Aq:Nat:=108
abbrev BG:Nat:=129
theorem RP:gK prog BG:=gX (fn:=f129) (by kernel_rfl) (by kernel_rfl)
abbrev qp:Nat:=129
theorem Ja:gK prog qp:=gX (fn:=f129) (by kernel_rfl) (by kernel_rfl)
abbrev Ar:Nat:=129
abbrev xZ:Nat:=70
theorem LY:gK prog xZ:=gX (fn:=f70) (by kernel_rfl) (by kernel_rfl)
abbrev rC:Nat:=70
theorem E5:gK prog rC:=gX (fn:=f70) (by kernel_rfl) (by kernel_rfl)
abbrev OK(x:Nat×Dl):Prop:=TQ prog G x
theorem bf(l:List (Nat×Dl))(h:YN prog G l):EnvB prog G Θ (DJ l):=ad4 XG h
end Go.Proofs.Tryz

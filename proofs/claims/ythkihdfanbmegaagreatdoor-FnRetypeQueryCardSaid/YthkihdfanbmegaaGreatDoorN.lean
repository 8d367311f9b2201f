import Derived.Test.YthkihdfanbmegaaGreatDoorFwC
import Derived.Test.YthkihdfanbmegaaGreatDoorProg
import Derived.Lib.LaidTab
import Derived.Lib.ItoaNum
namespace Go.Proofs.Tryz
open Go Go.Fw
abbrev dP:TypeId:=3
abbrev WJ:TypeId:=4
abbrev uX:TypeId:=5
abbrev iD:TypeId:=9
abbrev bC:TypeId:=30
abbrev bg:TypeId:=33
abbrev aQ:TypeId:=66
abbrev aA:TypeId:=98
abbrev Ak:TypeId:=113
abbrev aV:TypeId:=115
abbrev aN:TypeId:=131
abbrev nD:au:=(.cons (.int .i64) .nil)
abbrev iU:au:=(.cons (.int .i64) .nil)
abbrev ZP:au:=(.cons (.bool) .nil)
abbrev JU:au:=(.cons (.int .u8) .nil)
abbrev R_6:au:=(.cons (.int .u8) .nil)
abbrev R_7:au:=(.cons (.int .i64) (.cons (.int .i64) (.cons (.bool) (.cons (.int .u8) .nil))))
abbrev R_8:au:=(.cons (.int .i64) (.cons (.int .i64) (.cons (.bool) (.cons (.int .u8) .nil))))
abbrev nY:au:=(.cons (.str) .nil)
abbrev akq:au:=(.cons (.str) .nil)
abbrev akr:au:=(.cons (.str) .nil)
abbrev aks:au:=(.cons (.int .u64) .nil)
abbrev akt:au:=(.cons (.str) (.cons (.int .u64) .nil))
abbrev aku:au:=(.cons (.str) (.cons (.int .u64) .nil))
abbrev akv:au:=(.cons (.int .i32) .nil)
abbrev akw:au:=(.cons (.sl uX JU) .nil)
abbrev akx:au:=(.cons (.sl dP iU) .nil)
abbrev aky:au:=(.cons (.int .i64) (.cons (.int .i64) (.cons (.str) .nil)))
abbrev akz:au:=(.cons (.int .i64) (.cons (.int .i64) (.cons (.str) .nil)))
abbrev Ad:au:=(.cons (.int .i64) (.cons (.int .i64) (.cons (.int .i64) (.cons (.str) (.cons (.int .i64) (.cons (.int .i64) (.cons (.str) .nil)))))))
abbrev jr:au:=(.cons (.int .i64) (.cons (.int .i64) (.cons (.int .i64) (.cons (.str) (.cons (.int .i64) (.cons (.int .i64) (.cons (.str) .nil)))))))
abbrev akA:au:=(.cons (.sl bC jr) .nil)
abbrev jM:au:=(.cons (.str) (.cons (.sl bC jr) .nil))
abbrev iQ:au:=(.cons (.str) (.cons (.sl bC jr) .nil))
abbrev akB:au:=(.cons (.sl bg iQ) .nil)
abbrev bH:au:=(.cons (.str) (.cons (.int .i64) .nil))
abbrev akC:au:=(.cons (.sl aA bH) .nil)
abbrev dD:au:=(.cons (.str) (.cons (.int .i64) (.cons (.int .i64) (.cons (.str) .nil))))
abbrev akD:au:=(.cons (.sl aV dD) .nil)
abbrev dB:au:=(.cons (.int .i64) (.cons (.int .i64) (.cons (.bool) (.cons (.int .i64) (.cons (.sl aV dD) .nil)))))
abbrev akE:au:=(.cons (.sl aQ dB) .nil)
abbrev akF:au:=(.cons (.sl aA bH) (.cons (.sl aQ dB) (.cons (.int .i64) .nil)))
abbrev akG:au:=(.cons (.sl aA bH) (.cons (.sl aQ dB) (.cons (.int .i64) .nil)))
abbrev bT:au:=(.cons (.str) (.cons (.sl dP iU) .nil))
abbrev akH:au:=(.cons (.sl aN bT) .nil)
abbrev akI:au:=(.cons (.sl aA bH) (.cons (.sl aQ dB) (.cons (.int .i64) (.cons (.sl bg iQ) (.cons (.sl aN bT) .nil)))))
abbrev akJ:au:=(.cons (.sl aA bH) (.cons (.sl aQ dB) (.cons (.int .i64) (.cons (.sl bg iQ) (.cons (.sl aN bT) .nil)))))
abbrev LG:au:=(.cons (.str) (.cons (.sl dP iU) (.cons (.sl dP iU) .nil)))
abbrev akK:au:=(.cons (.sl Ak LG) .nil)
abbrev akL:au:=(.cons (.int .i64) (.cons (.int .i64) (.cons (.bool) (.cons (.int .i64) (.cons (.sl aV dD) .nil)))))
abbrev akM:au:=(.cons (.sl iD nY) .nil)
abbrev akN:au:=(.cons (.str) (.cons (.int .i64) .nil))
abbrev aju:au:=(.cons (.str) (.cons (.sl dP iU) (.cons (.sl dP iU) .nil)))
abbrev ajv:au:=(.cons (.str) (.cons (.int .i64) (.cons (.int .i64) (.cons (.str) .nil))))
abbrev ajw:au:=(.cons (.sl uX JU) (.cons (.int .i64) (.cons (.int .i64) .nil)))
abbrev ajx:au:=(.cons (.sl uX JU) (.cons (.int .i64) (.cons (.int .i64) .nil)))
abbrev ajy:au:=(.cons (.str) (.cons (.sl dP iU) .nil))
abbrev ajz:au:=(.cons (.int .u64) .nil)
abbrev ajA:au:=(.cons (.int .i64) .nil)
abbrev ajB:au:=(.cons (.sl WJ ZP) .nil)
abbrev ajC:au:=(.cons (.int .u64) .nil)
abbrev ajD:au:=(.cons (.int .u32) .nil)
abbrev ajE:au:=(.cons (.str) .nil)
abbrev ajF:au:=(.cons (.str) .nil)
abbrev ajG:au:=(.cons (.int .i64) .nil)
abbrev ajH:au:=(.cons (.int .u64) .nil)
abbrev ajI:au:=(.cons (.int .u8) .nil)
abbrev ajJ:au:=(.cons (.int .u8) .nil)
abbrev ajK:au:=(.cons (.int .i32) .nil)
abbrev ajL:au:=(.cons (.int .i32) .nil)
def mQ:List (Nat×Go.Fw.TI):=[
 (2,⟨.scalar,nD,8,false⟩),
 (3,⟨.scalar,iU,8,false⟩),
 (4,⟨.scalar,ZP,1,false⟩),
 (5,⟨.scalar,JU,1,false⟩),
 (6,⟨.scalar,R_6,1,false⟩),
 (7,⟨.struct [(0,2),(1,3),(2,4),(3,6)],R_7,24,false⟩),
 (8,⟨.struct [(0,2),(1,3),(2,4),(3,6)],R_8,24,false⟩),
 (9,⟨.str,nY,16,false⟩),
 (10,⟨.str,akq,16,false⟩),
 (11,⟨.str,akr,16,false⟩),
 (12,⟨.scalar,aks,8,false⟩),
 (13,⟨.struct [(0,9),(1,12)],akt,24,false⟩),
 (14,⟨.struct [(0,9),(1,12)],aku,24,false⟩),
 (21,⟨.scalar,akv,4,false⟩),
 (22,⟨.slice uX,akw,24,false⟩),
 (24,⟨.slice dP,akx,24,false⟩),
 (26,⟨.struct [(0,3),(1,3),(2,9)],aky,32,false⟩),
 (27,⟨.struct [(0,3),(1,3),(2,9)],akz,32,true⟩),
 (29,⟨.struct [(0,3),(1,3),(2,3),(3,9),(4,27)],Ad,72,true⟩),
 (30,⟨.struct [(0,3),(1,3),(2,3),(3,9),(4,27)],jr,72,true⟩),
 (31,⟨.slice bC,akA,24,false⟩),
 (32,⟨.struct [(0,9),(1,31)],jM,40,false⟩),
 (33,⟨.struct [(0,9),(1,31)],iQ,40,false⟩),
 (34,⟨.slice bg,akB,24,false⟩),
 (35,⟨.slice aA,akC,24,false⟩),
 (36,⟨.slice aQ,akE,24,false⟩),
 (37,⟨.struct [(0,35),(1,36),(2,3)],akF,56,false⟩),
 (38,⟨.struct [(0,35),(1,36),(2,3)],akG,56,false⟩),
 (39,⟨.slice aN,akH,24,false⟩),
 (40,⟨.struct [(0,38),(3,34),(4,39)],akI,104,false⟩),
 (41,⟨.struct [(0,38),(3,34),(4,39)],akJ,104,false⟩),
 (45,⟨.slice Ak,akK,24,false⟩),
 (64,⟨.slice aV,akD,24,false⟩),
 (65,⟨.struct [(0,3),(1,3),(2,4),(3,3),(4,64)],akL,56,false⟩),
 (66,⟨.struct [(0,3),(1,3),(2,4),(3,3),(4,64)],dB,56,false⟩),
 (86,⟨.slice iD,akM,24,false⟩),
 (97,⟨.struct [(0,9),(1,3)],akN,24,false⟩),
 (98,⟨.struct [(0,9),(1,3)],bH,24,true⟩),
 (112,⟨.struct [(0,9),(1,24),(2,24)],aju,64,false⟩),
 (113,⟨.struct [(0,9),(1,24),(2,24)],LG,64,false⟩),
 (114,⟨.struct [(0,9),(1,27)],ajv,48,true⟩),
 (115,⟨.struct [(0,9),(1,27)],dD,48,true⟩),
 (120,⟨.struct [(0,22),(1,3),(2,3)],ajw,40,false⟩),
 (121,⟨.struct [(0,22),(1,3),(2,3)],ajx,40,false⟩),
 (130,⟨.struct [(0,9),(1,24)],ajy,40,false⟩),
 (131,⟨.struct [(0,9),(1,24)],bT,40,false⟩),
 (153,⟨.scalar,ajz,8,false⟩),
 (197,⟨.scalar,ajA,8,false⟩),
 (209,⟨.slice WJ,ajB,24,false⟩),
 (215,⟨.scalar,ajC,8,false⟩),
 (231,⟨.scalar,ajD,4,false⟩),
 (237,⟨.struct [(0,9)],ajE,16,false⟩),
 (238,⟨.struct [(0,9)],ajF,16,false⟩),
 (242,⟨.scalar,ajG,8,false⟩),
 (251,⟨.scalar,ajH,8,false⟩),
 (269,⟨.scalar,ajI,1,false⟩),
 (270,⟨.scalar,ajJ,1,false⟩),
 (272,⟨.scalar,ajK,4,false⟩),
 (273,⟨.scalar,ajL,4,false⟩)]
def Θ:iE:=Xb mQ
theorem aaY:Kt prog mQ=true:=by kernel_rfl
theorem mixed:prog.follows .mixedOrders=true:=by kernel_rfl
theorem ahi{w w':World}{name:String}{g:Nat}{cs:Array Value}(hg:prog.globalNamed name=some g)(hk:w'.heap[g]? =w.heap[g]?)(h:World.var? prog w name=some cs):World.var? prog w' name=some cs:=by unfold World.var? at h ⊢;rw[hg]at h ⊢;show(match w'.heap[g]? with|some (.cells cs _ _)=>some cs|_=>none)=_;rw[hk];exact h
theorem ain{w:World}{name:String}{g:Nat}{cs:Array Value}(hg:prog.globalNamed name=some g)(h:World.var? prog w name=some cs):g<w.heap.size:=by
 unfold World.var? at h;rw[hg]at h;have h:(match w.heap[g]? with|some (.cells cs _ _)=>some cs|_=>none)=some cs:=h;rcases al4 g w.heap.size with h'|h'
 .exact h'
 .rw[aoe h']at h;cases h
def isErr(ev:Value):Prop:=ev=.nilIface\/∃te pe,ev=.iface te pe
def G:iR where
 n:=3
 ok:=λw=>Lib.TabIs prog w "internal/strconv.uint64pow10" .u64 Lib.pow10Tab/\
  (∃ev,w.cell? ⟨0,0,none⟩=some ev/\isErr ev)
 low:=λw h=>ain (g:=2) (by kernel_rfl) h.1
 stable:=by intro w w' h hs hk;refine⟨ahi (g:=2) (by kernel_rfl) (hk 2 (by decide)) h.1,?_⟩;obtain⟨ev,h1,h2⟩:=h.2;exact⟨ev,by rw[World.cell?_of_block (a:=⟨0,0,none⟩) (hk 0 (by decide))];exact h1,h2⟩
abbrev Ac:Nat:=210
theorem Ov:lg prog Ac:=nR (fn:=f210) (by kernel_rfl) (by kernel_rfl)
abbrev Bl:Nat:=190
theorem QB:lg prog Bl:=nR (fn:=f190) (by kernel_rfl) (by kernel_rfl)
abbrev oM:Nat:=190
theorem H6:lg prog oM:=nR (fn:=f190) (by kernel_rfl) (by kernel_rfl)
abbrev AL:Nat:=190
abbrev D6:Nat:=183
theorem Vt:lg prog D6:=nR (fn:=f183) (by kernel_rfl) (by kernel_rfl)
abbrev qX:Nat:=183
theorem KD:lg prog qX:=nR (fn:=f183) (by kernel_rfl) (by kernel_rfl)
abbrev CZ:Nat:=183
abbrev pX:Nat:=107
theorem EH:lg prog pX:=nR (fn:=f107) (by kernel_rfl) (by kernel_rfl)
abbrev qL:Nat:=66
theorem ER:lg prog qL:=nR (fn:=f66) (by kernel_rfl) (by kernel_rfl)
abbrev o5:Nat:=67
theorem D7:lg prog o5:=nR (fn:=f67) (by kernel_rfl) (by kernel_rfl)
abbrev OK(x:Nat×EM):Prop:=Xm prog G x
theorem aC(l:List (Nat×EM))(h:ab4 prog G l):EnvB prog G Θ (Ip l):=ag1 aaY h
end Go.Proofs.Tryz

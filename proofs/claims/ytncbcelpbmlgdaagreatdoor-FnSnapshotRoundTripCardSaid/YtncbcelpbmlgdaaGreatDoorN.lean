import Derived.Test.YtncbcelpbmlgdaaGreatDoorFwC
import Derived.Test.YtncbcelpbmlgdaaGreatDoorProg
import Derived.Lib.LaidTab
import Derived.Lib.ItoaNum
import Derived.Lib.Space
namespace Go.Proofs.Tryz
open Go Go.Fw
abbrev Ip:TypeId:=3
abbrev abj:TypeId:=4
abbrev dS:TypeId:=5
abbrev aU:TypeId:=9
abbrev aP:TypeId:=51
abbrev aB:TypeId:=54
abbrev aX:TypeId:=93
abbrev dJ:TypeId:=102
abbrev aF:TypeId:=168
abbrev Qv:TypeId:=237
abbrev yL:TypeId:=258
abbrev yM:TypeId:=261
abbrev Zq:au:=(.cons (.int .i64) .nil)
abbrev Y4:au:=(.cons (.int .i64) .nil)
abbrev R_4:au:=(.cons (.bool) .nil)
abbrev jL:au:=(.cons (.int .u8) .nil)
abbrev R_6:au:=(.cons (.int .u8) .nil)
abbrev R_7:au:=(.cons (.int .i64) (.cons (.int .i64) (.cons (.bool) (.cons (.int .u8) .nil))))
abbrev R_8:au:=(.cons (.int .i64) (.cons (.int .i64) (.cons (.bool) (.cons (.int .u8) .nil))))
abbrev dK:au:=(.cons (.str) .nil)
abbrev asw:au:=(.cons (.str) .nil)
abbrev asx:au:=(.cons (.str) .nil)
abbrev asy:au:=(.cons (.int .u64) .nil)
abbrev asz:au:=(.cons (.str) (.cons (.int .u64) .nil))
abbrev asA:au:=(.cons (.str) (.cons (.int .u64) .nil))
abbrev asB:au:=(.cons (.int .i32) .nil)
abbrev asC:au:=(.cons (.sl dS jL) .nil)
abbrev asD:au:=(.cons (.sl Ip Y4) .nil)
abbrev bK:au:=(.cons (.str) (.cons (.int .i64) .nil))
abbrev asE:au:=(.cons (.sl aB bK) .nil)
abbrev asF:au:=(.cons (.int .i64) (.cons (.int .i64) (.cons (.str) .nil)))
abbrev dY:au:=(.cons (.str) (.cons (.int .i64) (.cons (.int .i64) (.cons (.str) .nil))))
abbrev asG:au:=(.cons (.sl dJ dY) .nil)
abbrev dI:au:=(.cons (.int .i64) (.cons (.int .i64) (.cons (.bool) (.cons (.int .i64) (.cons (.sl dJ dY) .nil)))))
abbrev asH:au:=(.cons (.sl aP dI) .nil)
abbrev asI:au:=(.cons (.sl aB bK) (.cons (.sl aP dI) (.cons (.int .i64) .nil)))
abbrev asJ:au:=(.cons (.sl aB bK) (.cons (.sl aP dI) (.cons (.int .i64) .nil)))
abbrev bg:au:=(.cons (.int .i64) (.cons (.int .i64) (.cons (.int .i64) (.cons (.str) (.cons (.int .i64) (.cons (.int .i64) (.cons (.str) .nil)))))))
abbrev asK:au:=(.cons (.sl aF bg) .nil)
abbrev dA:au:=(.cons (.str) (.cons (.sl aF bg) .nil))
abbrev asL:au:=(.cons (.sl aX dA) .nil)
abbrev asM:au:=(.cons (.sl aB bK) (.cons (.sl aP dI) (.cons (.int .i64) (.cons (.sl aX dA) .nil))))
abbrev asN:au:=(.cons (.sl aB bK) (.cons (.sl aP dI) (.cons (.int .i64) (.cons (.sl aX dA) .nil))))
abbrev asO:au:=(.cons (.str) (.cons (.str) .nil))
abbrev asP:au:=(.cons (.str) (.cons (.str) .nil))
abbrev asQ:au:=(.cons (.sl aU dK) .nil)
abbrev asR:au:=(.cons (.int .i64) (.cons (.int .i64) (.cons (.bool) (.cons (.int .i64) (.cons (.sl dJ dY) .nil)))))
abbrev asT:au:=(.cons (.str) (.cons (.int .i64) .nil))
abbrev asU:au:=(.cons (.int .i64) (.cons (.int .i64) (.cons (.str) .nil)))
abbrev asV:au:=(.cons (.str) (.cons (.sl aF bg) .nil))
abbrev aq8:au:=(.cons (.str) (.cons (.int .i64) (.cons (.int .i64) (.cons (.str) .nil))))
abbrev aq9:au:=(.cons (.sl dS jL) (.cons (.int .i64) (.cons (.int .i64) .nil)))
abbrev ara:au:=(.cons (.sl dS jL) (.cons (.int .i64) (.cons (.int .i64) .nil)))
abbrev arb:au:=(.cons (.int .u64) .nil)
abbrev ard:au:=(.cons (.int .i64) (.cons (.int .i64) (.cons (.int .i64) (.cons (.str) (.cons (.int .i64) (.cons (.int .i64) (.cons (.str) .nil)))))))
abbrev arf:au:=(.cons (.sl aU dK) (.cons (.sl aF bg) .nil))
abbrev arh:au:=(.cons (.sl aU dK) (.cons (.sl aF bg) .nil))
abbrev ari:au:=(.cons (.int .i64) .nil)
abbrev arj:au:=(.cons (.int .u64) .nil)
abbrev ark:au:=(.cons (.sl abj R_4) .nil)
abbrev arl:au:=(.cons (.int .u32) .nil)
abbrev aoS:au:=(.cons (.int .i64) (.cons (.int .i64) .nil))
abbrev arn:au:=(.cons (.sl Qv aoS) .nil)
abbrev aro:au:=(.cons (.int .i64) (.cons (.int .i64) .nil))
abbrev arp:au:=(.cons (.int .u8) (.cons (.int .u8) .nil))
abbrev arq:au:=(.cons (.int .u8) (.cons (.int .u8) .nil))
abbrev ars:au:=(.cons (.str) .nil)
abbrev aru:au:=(.cons (.str) .nil)
abbrev arv:au:=(.cons (.int .u16) .nil)
abbrev agK:au:=(.cons (.int .u16) (.cons (.int .u16) (.cons (.int .u16) .nil)))
abbrev arw:au:=(.cons (.sl yL agK) .nil)
abbrev agL:au:=(.cons (.int .u32) (.cons (.int .u32) (.cons (.int .u32) .nil)))
abbrev arx:au:=(.cons (.sl yM agL) .nil)
abbrev arz:au:=(.cons (.sl yL agK) (.cons (.sl yM agL) (.cons (.int .i64) .nil)))
abbrev arA:au:=(.cons (.sl yL agK) (.cons (.sl yM agL) (.cons (.int .i64) .nil)))
abbrev arB:au:=(.cons (.int .u16) (.cons (.int .u16) (.cons (.int .u16) .nil)))
abbrev arC:au:=(.cons (.int .u32) (.cons (.int .u32) (.cons (.int .u32) .nil)))
abbrev arD:au:=(.cons (.int .i64) .nil)
abbrev arE:au:=(.cons (.int .u64) .nil)
abbrev arF:au:=(.cons (.int .u8) .nil)
abbrev arG:au:=(.cons (.int .u8) .nil)
abbrev arH:au:=(.cons (.int .i32) .nil)
abbrev arI:au:=(.cons (.int .i32) .nil)
def qg:List (Nat×Go.Fw.TI):=[
 (2,⟨.scalar,Zq,8,false⟩),
 (3,⟨.scalar,Y4,8,false⟩),
 (4,⟨.scalar,R_4,1,false⟩),
 (5,⟨.scalar,jL,1,false⟩),
 (6,⟨.scalar,R_6,1,false⟩),
 (7,⟨.struct [(0,2),(1,3),(2,4),(3,6)],R_7,24,false⟩),
 (8,⟨.struct [(0,2),(1,3),(2,4),(3,6)],R_8,24,false⟩),
 (9,⟨.str,dK,16,false⟩),
 (10,⟨.str,asw,16,false⟩),
 (11,⟨.str,asx,16,false⟩),
 (12,⟨.scalar,asy,8,false⟩),
 (13,⟨.struct [(0,9),(1,12)],asz,24,false⟩),
 (14,⟨.struct [(0,9),(1,12)],asA,24,false⟩),
 (21,⟨.scalar,asB,4,false⟩),
 (22,⟨.slice dS,asC,24,false⟩),
 (24,⟨.slice Ip,asD,24,false⟩),
 (26,⟨.slice aB,asE,24,false⟩),
 (27,⟨.slice aP,asH,24,false⟩),
 (28,⟨.struct [(0,26),(1,27),(2,3)],asI,56,false⟩),
 (29,⟨.struct [(0,26),(1,27),(2,3)],asJ,56,false⟩),
 (31,⟨.slice aX,asL,24,false⟩),
 (32,⟨.struct [(0,29),(3,31)],asM,80,false⟩),
 (33,⟨.struct [(0,29),(3,31)],asN,80,false⟩),
 (34,⟨.struct [(0,9),(1,9)],asO,32,false⟩),
 (35,⟨.struct [(0,9),(1,9)],asP,32,true⟩),
 (42,⟨.slice aU,asQ,24,false⟩),
 (49,⟨.slice dJ,asG,24,false⟩),
 (50,⟨.struct [(0,3),(1,3),(2,4),(3,3),(4,49)],asR,56,false⟩),
 (51,⟨.struct [(0,3),(1,3),(2,4),(3,3),(4,49)],dI,56,false⟩),
 (53,⟨.struct [(0,9),(1,3)],asT,24,false⟩),
 (54,⟨.struct [(0,9),(1,3)],bK,24,true⟩),
 (80,⟨.struct [(0,3),(1,3),(2,9)],asU,32,false⟩),
 (81,⟨.struct [(0,3),(1,3),(2,9)],asF,32,true⟩),
 (91,⟨.slice aF,asK,24,false⟩),
 (92,⟨.struct [(0,9),(1,91)],asV,40,false⟩),
 (93,⟨.struct [(0,9),(1,91)],dA,40,false⟩),
 (101,⟨.struct [(0,9),(1,81)],aq8,48,true⟩),
 (102,⟨.struct [(0,9),(1,81)],dY,48,true⟩),
 (117,⟨.struct [(0,22),(1,3),(2,3)],aq9,40,false⟩),
 (118,⟨.struct [(0,22),(1,3),(2,3)],ara,40,false⟩),
 (163,⟨.scalar,arb,8,false⟩),
 (167,⟨.struct [(0,3),(1,3),(2,3),(3,9),(4,81)],ard,72,true⟩),
 (168,⟨.struct [(0,3),(1,3),(2,3),(3,9),(4,81)],bg,72,true⟩),
 (172,⟨.struct [(0,42),(1,91)],arf,48,false⟩),
 (173,⟨.struct [(0,42),(1,91)],arh,48,false⟩),
 (202,⟨.scalar,ari,8,false⟩),
 (209,⟨.scalar,arj,8,false⟩),
 (219,⟨.slice abj,ark,24,false⟩),
 (232,⟨.scalar,arl,4,false⟩),
 (235,⟨.slice Qv,arn,24,false⟩),
 (236,⟨.struct [(0,3),(1,3)],aro,16,false⟩),
 (237,⟨.struct [(0,3),(1,3)],aoS,16,false⟩),
 (242,⟨.struct [(0,5),(1,5)],arp,2,false⟩),
 (243,⟨.struct [(0,5),(1,5)],arq,2,false⟩),
 (249,⟨.struct [(0,9)],ars,16,false⟩),
 (250,⟨.struct [(0,9)],aru,16,false⟩),
 (252,⟨.slice yL,arw,24,false⟩),
 (253,⟨.slice yM,arx,24,false⟩),
 (254,⟨.struct [(0,252),(1,253),(2,3)],arz,56,false⟩),
 (255,⟨.struct [(0,252),(1,253),(2,3)],arA,56,false⟩),
 (256,⟨.scalar,arv,2,false⟩),
 (257,⟨.struct [(0,256),(1,256),(2,256)],arB,6,false⟩),
 (258,⟨.struct [(0,256),(1,256),(2,256)],agK,6,false⟩),
 (260,⟨.struct [(0,232),(1,232),(2,232)],arC,12,false⟩),
 (261,⟨.struct [(0,232),(1,232),(2,232)],agL,12,false⟩),
 (269,⟨.scalar,arD,8,false⟩),
 (276,⟨.scalar,arE,8,false⟩),
 (293,⟨.scalar,arF,1,false⟩),
 (294,⟨.scalar,arG,1,false⟩),
 (296,⟨.scalar,arH,4,false⟩),
 (297,⟨.scalar,arI,4,false⟩)]
def Θ:jo:=abB qg
theorem af9:Ql prog qg=true:=by kernel_rfl
theorem mixed:prog.follows .mixedOrders=true:=by kernel_rfl
theorem ahP{w w':World}{name:String}{g:Nat}{cs:Array Value}(hg:prog.globalNamed name=some g)(hk:w'.heap[g]? =w.heap[g]?)(h:World.var? prog w name=some cs):World.var? prog w' name=some cs:=by unfold World.var? at h ⊢;rw[hg]at h ⊢;show(match w'.heap[g]? with|some (.cells cs _ _)=>some cs|_=>none)=_;rw[hk];exact h
def isErr(ev:Value):Prop:=ev=.nilIface\/∃te pe,ev=.iface te pe
def G:jV where
 n:=5
 ok:=λw=>Lib.TabIs prog w "internal/strconv.uint64pow10" .u64 Lib.pow10Tab/\Lib.TabIs prog w "strings.asciiSpace" .u8 Lib.asciiSpaceTab/\
  (∃ev,w.cell? ⟨2,0,none⟩=some ev/\isErr ev)/\(∃ev,w.cell? ⟨3,0,none⟩=some ev/\isErr ev)/\∃m,w.cell? ⟨1,0,none⟩=some (.int .i64 m)
 low:=by
  intro w h;have h1:=h.1;unfold Lib.TabIs World.var? at h1;rw[show prog.globalNamed "internal/strconv.uint64pow10" =some 4 by kernel_rfl]at h1;rcases avb 4 w.heap.size with h'|h'
  .exact h'
  .simp[aw6 h']at h1
 stable:=by
  intro w w' h hs hk;refine⟨ahP (g:=4) (by kernel_rfl) (hk 4 (by decide)) h.1,ahP (g:=0) (by kernel_rfl) (hk 0 (by decide)) h.2.1,?_,?_,?_⟩
  .obtain⟨ev,h1,h2⟩:=h.2.2.1;exact⟨ev,by rw[awr (a:=⟨2,0,none⟩) (hk 2 (by decide))];exact h1,h2⟩
  .obtain⟨ev,h1,h2⟩:=h.2.2.2.1;exact⟨ev,by rw[awr (a:=⟨3,0,none⟩) (hk 3 (by decide))];exact h1,h2⟩
  .obtain⟨m,h1⟩:=h.2.2.2.2;exact⟨m,by rw[awr (a:=⟨1,0,none⟩) (hk 1 (by decide))];exact h1⟩
abbrev adZ:Nat:=184
abbrev vZ:Nat:=184
theorem Qw:jh prog vZ:=jg (fn:=f184) (by kernel_rfl) (by kernel_rfl)
abbrev Gj:Nat:=184
abbrev wz:Nat:=184
theorem Fg:jh prog wz:=jg (fn:=f184) (by kernel_rfl) (by kernel_rfl)
abbrev DC:Nat:=219
theorem U2:jh prog DC:=jg (fn:=f219) (by kernel_rfl) (by kernel_rfl)
abbrev H8:Nat:=103
theorem aam:jh prog H8:=jg (fn:=f103) (by kernel_rfl) (by kernel_rfl)
abbrev zk:Nat:=74
theorem MJ:jh prog zk:=jg (fn:=f74) (by kernel_rfl) (by kernel_rfl)
abbrev abY:Nat:=86
abbrev EK:Nat:=188
theorem WM:jh prog EK:=jg (fn:=f188) (by kernel_rfl) (by kernel_rfl)
abbrev Ap:Nat:=87
theorem I7:jh prog Ap:=jg (fn:=f87) (by kernel_rfl) (by kernel_rfl)
abbrev EL:Nat:=105
theorem WN:jh prog EL:=jg (fn:=f105) (by kernel_rfl) (by kernel_rfl)
abbrev sH:Nat:=105
theorem Nv:jh prog sH:=jg (fn:=f105) (by kernel_rfl) (by kernel_rfl)
abbrev Ed:Nat:=105
abbrev H9:Nat:=121
theorem aan:jh prog H9:=jg (fn:=f121) (by kernel_rfl) (by kernel_rfl)
abbrev wo:Nat:=121
theorem Qx:jh prog wo:=jg (fn:=f121) (by kernel_rfl) (by kernel_rfl)
abbrev Gl:Nat:=121
abbrev Ia:Nat:=156
theorem aao:jh prog Ia:=jg (fn:=f156) (by kernel_rfl) (by kernel_rfl)
abbrev wu:Nat:=156
theorem Qy:jh prog wu:=jg (fn:=f156) (by kernel_rfl) (by kernel_rfl)
abbrev Gm:Nat:=156
abbrev Yw:Nat:=107
abbrev zB:Nat:=15
theorem Nw:jh prog zB:=jg (fn:=f15) (by kernel_rfl) (by kernel_rfl)
abbrev zC:Nat:=17
theorem Ny:jh prog zC:=jg (fn:=f17) (by kernel_rfl) (by kernel_rfl)
abbrev OK(x:Nat×Jv):Prop:=abL prog G x
theorem aA(l:List (Nat×Jv))(h:ahv prog G l):EnvB prog G Θ (Iq l):=anu af9 h
end Go.Proofs.Tryz

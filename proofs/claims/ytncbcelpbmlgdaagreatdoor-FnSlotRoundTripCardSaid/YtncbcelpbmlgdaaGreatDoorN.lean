import Derived.Test.YtncbcelpbmlgdaaGreatDoorFwC
import Derived.Test.YtncbcelpbmlgdaaGreatDoorProg
import Derived.Lib.LaidTab
import Derived.Lib.ItoaNum
import Derived.Lib.Space
namespace Go.Proofs.Tryz
open Go Go.Fw
abbrev Fe:TypeId:=3
abbrev aaQ:TypeId:=4
abbrev dS:TypeId:=5
abbrev aT:TypeId:=9
abbrev aX:TypeId:=51
abbrev aG:TypeId:=54
abbrev bF:TypeId:=93
abbrev fG:TypeId:=102
abbrev aJ:TypeId:=168
abbrev PS:TypeId:=237
abbrev yu:TypeId:=258
abbrev yw:TypeId:=261
abbrev VT:au:=(.cons (.int .i64) .nil)
abbrev U7:au:=(.cons (.int .i64) .nil)
abbrev R_4:au:=(.cons (.bool) .nil)
abbrev jA:au:=(.cons (.int .u8) .nil)
abbrev R_6:au:=(.cons (.int .u8) .nil)
abbrev R_7:au:=(.cons (.int .i64) (.cons (.int .i64) (.cons (.bool) (.cons (.int .u8) .nil))))
abbrev R_8:au:=(.cons (.int .i64) (.cons (.int .i64) (.cons (.bool) (.cons (.int .u8) .nil))))
abbrev dJ:au:=(.cons (.str) .nil)
abbrev asr:au:=(.cons (.str) .nil)
abbrev ast:au:=(.cons (.str) .nil)
abbrev asu:au:=(.cons (.int .u64) .nil)
abbrev asv:au:=(.cons (.str) (.cons (.int .u64) .nil))
abbrev asw:au:=(.cons (.str) (.cons (.int .u64) .nil))
abbrev asx:au:=(.cons (.int .i32) .nil)
abbrev asy:au:=(.cons (.sl dS jA) .nil)
abbrev asz:au:=(.cons (.sl Fe U7) .nil)
abbrev dh:au:=(.cons (.str) (.cons (.int .i64) .nil))
abbrev asA:au:=(.cons (.sl aG dh) .nil)
abbrev asB:au:=(.cons (.int .i64) (.cons (.int .i64) (.cons (.str) .nil)))
abbrev fF:au:=(.cons (.str) (.cons (.int .i64) (.cons (.int .i64) (.cons (.str) .nil))))
abbrev asC:au:=(.cons (.sl fG fF) .nil)
abbrev dV:au:=(.cons (.int .i64) (.cons (.int .i64) (.cons (.bool) (.cons (.int .i64) (.cons (.sl fG fF) .nil)))))
abbrev asD:au:=(.cons (.sl aX dV) .nil)
abbrev asE:au:=(.cons (.sl aG dh) (.cons (.sl aX dV) (.cons (.int .i64) .nil)))
abbrev asF:au:=(.cons (.sl aG dh) (.cons (.sl aX dV) (.cons (.int .i64) .nil)))
abbrev bD:au:=(.cons (.int .i64) (.cons (.int .i64) (.cons (.int .i64) (.cons (.str) (.cons (.int .i64) (.cons (.int .i64) (.cons (.str) .nil)))))))
abbrev asG:au:=(.cons (.sl aJ bD) .nil)
abbrev dK:au:=(.cons (.str) (.cons (.sl aJ bD) .nil))
abbrev asH:au:=(.cons (.sl bF dK) .nil)
abbrev asI:au:=(.cons (.sl aG dh) (.cons (.sl aX dV) (.cons (.int .i64) (.cons (.sl bF dK) .nil))))
abbrev asJ:au:=(.cons (.sl aG dh) (.cons (.sl aX dV) (.cons (.int .i64) (.cons (.sl bF dK) .nil))))
abbrev asK:au:=(.cons (.str) (.cons (.str) .nil))
abbrev asL:au:=(.cons (.str) (.cons (.str) .nil))
abbrev asM:au:=(.cons (.sl aT dJ) .nil)
abbrev asN:au:=(.cons (.int .i64) (.cons (.int .i64) (.cons (.bool) (.cons (.int .i64) (.cons (.sl fG fF) .nil)))))
abbrev asO:au:=(.cons (.str) (.cons (.int .i64) .nil))
abbrev asP:au:=(.cons (.int .i64) (.cons (.int .i64) (.cons (.str) .nil)))
abbrev asQ:au:=(.cons (.str) (.cons (.sl aJ bD) .nil))
abbrev aqZ:au:=(.cons (.str) (.cons (.int .i64) (.cons (.int .i64) (.cons (.str) .nil))))
abbrev aq0:au:=(.cons (.sl dS jA) (.cons (.int .i64) (.cons (.int .i64) .nil)))
abbrev aq1:au:=(.cons (.sl dS jA) (.cons (.int .i64) (.cons (.int .i64) .nil)))
abbrev aq2:au:=(.cons (.int .u64) .nil)
abbrev aq3:au:=(.cons (.int .i64) (.cons (.int .i64) (.cons (.int .i64) (.cons (.str) (.cons (.int .i64) (.cons (.int .i64) (.cons (.str) .nil)))))))
abbrev aq4:au:=(.cons (.sl aT dJ) (.cons (.sl aJ bD) .nil))
abbrev aq5:au:=(.cons (.sl aT dJ) (.cons (.sl aJ bD) .nil))
abbrev aq6:au:=(.cons (.int .i64) .nil)
abbrev aq7:au:=(.cons (.int .u64) .nil)
abbrev aq8:au:=(.cons (.sl aaQ R_4) .nil)
abbrev aq9:au:=(.cons (.int .u32) .nil)
abbrev aoM:au:=(.cons (.int .i64) (.cons (.int .i64) .nil))
abbrev ara:au:=(.cons (.sl PS aoM) .nil)
abbrev arb:au:=(.cons (.int .i64) (.cons (.int .i64) .nil))
abbrev ard:au:=(.cons (.int .u8) (.cons (.int .u8) .nil))
abbrev arf:au:=(.cons (.int .u8) (.cons (.int .u8) .nil))
abbrev arh:au:=(.cons (.str) .nil)
abbrev ari:au:=(.cons (.str) .nil)
abbrev arj:au:=(.cons (.int .u16) .nil)
abbrev agv:au:=(.cons (.int .u16) (.cons (.int .u16) (.cons (.int .u16) .nil)))
abbrev ark:au:=(.cons (.sl yu agv) .nil)
abbrev agw:au:=(.cons (.int .u32) (.cons (.int .u32) (.cons (.int .u32) .nil)))
abbrev arl:au:=(.cons (.sl yw agw) .nil)
abbrev arn:au:=(.cons (.sl yu agv) (.cons (.sl yw agw) (.cons (.int .i64) .nil)))
abbrev aro:au:=(.cons (.sl yu agv) (.cons (.sl yw agw) (.cons (.int .i64) .nil)))
abbrev arp:au:=(.cons (.int .u16) (.cons (.int .u16) (.cons (.int .u16) .nil)))
abbrev arq:au:=(.cons (.int .u32) (.cons (.int .u32) (.cons (.int .u32) .nil)))
abbrev ars:au:=(.cons (.int .i64) .nil)
abbrev aru:au:=(.cons (.int .u64) .nil)
abbrev arv:au:=(.cons (.int .u8) .nil)
abbrev arw:au:=(.cons (.int .u8) .nil)
abbrev arx:au:=(.cons (.int .i32) .nil)
abbrev arz:au:=(.cons (.int .i32) .nil)
def pI:List (Nat×Go.Fw.TI):=[
 (2,⟨.scalar,VT,8,false⟩),
 (3,⟨.scalar,U7,8,false⟩),
 (4,⟨.scalar,R_4,1,false⟩),
 (5,⟨.scalar,jA,1,false⟩),
 (6,⟨.scalar,R_6,1,false⟩),
 (7,⟨.struct [(0,2),(1,3),(2,4),(3,6)],R_7,24,false⟩),
 (8,⟨.struct [(0,2),(1,3),(2,4),(3,6)],R_8,24,false⟩),
 (9,⟨.str,dJ,16,false⟩),
 (10,⟨.str,asr,16,false⟩),
 (11,⟨.str,ast,16,false⟩),
 (12,⟨.scalar,asu,8,false⟩),
 (13,⟨.struct [(0,9),(1,12)],asv,24,false⟩),
 (14,⟨.struct [(0,9),(1,12)],asw,24,false⟩),
 (21,⟨.scalar,asx,4,false⟩),
 (22,⟨.slice dS,asy,24,false⟩),
 (24,⟨.slice Fe,asz,24,false⟩),
 (26,⟨.slice aG,asA,24,false⟩),
 (27,⟨.slice aX,asD,24,false⟩),
 (28,⟨.struct [(0,26),(1,27),(2,3)],asE,56,false⟩),
 (29,⟨.struct [(0,26),(1,27),(2,3)],asF,56,false⟩),
 (31,⟨.slice bF,asH,24,false⟩),
 (32,⟨.struct [(0,29),(3,31)],asI,80,false⟩),
 (33,⟨.struct [(0,29),(3,31)],asJ,80,false⟩),
 (34,⟨.struct [(0,9),(1,9)],asK,32,false⟩),
 (35,⟨.struct [(0,9),(1,9)],asL,32,true⟩),
 (42,⟨.slice aT,asM,24,false⟩),
 (49,⟨.slice fG,asC,24,false⟩),
 (50,⟨.struct [(0,3),(1,3),(2,4),(3,3),(4,49)],asN,56,false⟩),
 (51,⟨.struct [(0,3),(1,3),(2,4),(3,3),(4,49)],dV,56,false⟩),
 (53,⟨.struct [(0,9),(1,3)],asO,24,false⟩),
 (54,⟨.struct [(0,9),(1,3)],dh,24,true⟩),
 (80,⟨.struct [(0,3),(1,3),(2,9)],asP,32,false⟩),
 (81,⟨.struct [(0,3),(1,3),(2,9)],asB,32,true⟩),
 (91,⟨.slice aJ,asG,24,false⟩),
 (92,⟨.struct [(0,9),(1,91)],asQ,40,false⟩),
 (93,⟨.struct [(0,9),(1,91)],dK,40,false⟩),
 (101,⟨.struct [(0,9),(1,81)],aqZ,48,true⟩),
 (102,⟨.struct [(0,9),(1,81)],fF,48,true⟩),
 (117,⟨.struct [(0,22),(1,3),(2,3)],aq0,40,false⟩),
 (118,⟨.struct [(0,22),(1,3),(2,3)],aq1,40,false⟩),
 (163,⟨.scalar,aq2,8,false⟩),
 (167,⟨.struct [(0,3),(1,3),(2,3),(3,9),(4,81)],aq3,72,true⟩),
 (168,⟨.struct [(0,3),(1,3),(2,3),(3,9),(4,81)],bD,72,true⟩),
 (172,⟨.struct [(0,42),(1,91)],aq4,48,false⟩),
 (173,⟨.struct [(0,42),(1,91)],aq5,48,false⟩),
 (202,⟨.scalar,aq6,8,false⟩),
 (209,⟨.scalar,aq7,8,false⟩),
 (219,⟨.slice aaQ,aq8,24,false⟩),
 (232,⟨.scalar,aq9,4,false⟩),
 (235,⟨.slice PS,ara,24,false⟩),
 (236,⟨.struct [(0,3),(1,3)],arb,16,false⟩),
 (237,⟨.struct [(0,3),(1,3)],aoM,16,false⟩),
 (242,⟨.struct [(0,5),(1,5)],ard,2,false⟩),
 (243,⟨.struct [(0,5),(1,5)],arf,2,false⟩),
 (249,⟨.struct [(0,9)],arh,16,false⟩),
 (250,⟨.struct [(0,9)],ari,16,false⟩),
 (252,⟨.slice yu,ark,24,false⟩),
 (253,⟨.slice yw,arl,24,false⟩),
 (254,⟨.struct [(0,252),(1,253),(2,3)],arn,56,false⟩),
 (255,⟨.struct [(0,252),(1,253),(2,3)],aro,56,false⟩),
 (256,⟨.scalar,arj,2,false⟩),
 (257,⟨.struct [(0,256),(1,256),(2,256)],arp,6,false⟩),
 (258,⟨.struct [(0,256),(1,256),(2,256)],agv,6,false⟩),
 (260,⟨.struct [(0,232),(1,232),(2,232)],arq,12,false⟩),
 (261,⟨.struct [(0,232),(1,232),(2,232)],agw,12,false⟩),
 (269,⟨.scalar,ars,8,false⟩),
 (276,⟨.scalar,aru,8,false⟩),
 (293,⟨.scalar,arv,1,false⟩),
 (294,⟨.scalar,arw,1,false⟩),
 (296,⟨.scalar,arx,4,false⟩),
 (297,⟨.scalar,arz,4,false⟩)]
def Θ:jm:=aa7 pI
theorem afU:Pz prog pI=true:=aa1
theorem mixed:prog.follows .mixedOrders=true:=aa1
theorem ahz{w w':World}{name:String}{g:Nat}{cs:Array Value}(hg:prog.globalNamed name=some g)(hk:w'.heap[g]? =w.heap[g]?)(h:World.var? prog w name=some cs):World.var? prog w' name=some cs:=by unfold World.var? at h ⊢;rw[hg]at h ⊢;show(match w'.heap[g]? with|some (.cells cs _ _)=>some cs|_=>none)=_;rw[hk];exact h
def isErr(ev:Value):Prop:=ev=.nilIface\/∃te pe,ev=.iface te pe
def G:jT where
 n:=5
 ok:=λw=>Lib.TabIs prog w "internal/strconv.uint64pow10" .u64 Lib.pow10Tab/\Lib.TabIs prog w "strings.asciiSpace" .u8 Lib.asciiSpaceTab/\
  (∃ev,w.cell? ⟨2,0,none⟩=some ev/\isErr ev)/\(∃ev,w.cell? ⟨3,0,none⟩=some ev/\isErr ev)/\∃m,w.cell? ⟨1,0,none⟩=some (.int .i64 m)
 low:=by
  intro w h;have h1:=h.1;unfold Lib.TabIs World.var? at h1;rw[show prog.globalNamed "internal/strconv.uint64pow10" =some 4 from aa1]at h1;rcases au2 4 w.heap.size with h'|h'
  .exact h'
  .simp[awU h']at h1
 stable:=by
  intro w w' h hs hk;refine⟨ahz (g:=4) aa1 (hk 4 abV) h.1,ahz (g:=0) aa1 (hk 0 abV) h.2.1,?_,?_,?_⟩
  .obtain⟨ev,h1,h2⟩:=h.2.2.1;exact⟨ev,by rw[awe (a:=⟨2,0,none⟩) (hk 2 abV)];exact h1,h2⟩
  .obtain⟨ev,h1,h2⟩:=h.2.2.2.1;exact⟨ev,by rw[awe (a:=⟨3,0,none⟩) (hk 3 abV)];exact h1,h2⟩
  .obtain⟨m,h1⟩:=h.2.2.2.2;exact⟨m,by rw[awe (a:=⟨1,0,none⟩) (hk 1 abV)];exact h1⟩
abbrev adE:Nat:=184
abbrev uZ:Nat:=184
theorem PU:iY prog uZ:=iP (fn:=f184) aa1 aa1
abbrev FY:Nat:=184
abbrev vw:Nat:=184
theorem ES:iY prog vw:=iP (fn:=f184) aa1 aa1
abbrev Dh:Nat:=219
theorem Un:iY prog Dh:=iP (fn:=f219) aa1 aa1
abbrev Hg:Nat:=103
theorem ZN:iY prog Hg:=iP (fn:=f103) aa1 aa1
abbrev yQ:Nat:=74
theorem KX:iY prog yQ:=iP (fn:=f74) aa1 aa1
abbrev FX:Nat:=86
theorem X7:iY prog FX:=iP (fn:=f86) aa1 aa1
abbrev Ew:Nat:=188
theorem VU:iY prog Ew:=iP (fn:=f188) aa1 aa1
abbrev uF:Nat:=87
theorem BN:iY prog uF:=iP (fn:=f87) aa1 aa1
abbrev Ey:Nat:=105
theorem VW:iY prog Ey:=iP (fn:=f105) aa1 aa1
abbrev rq:Nat:=105
theorem L6:iY prog rq:=iP (fn:=f105) aa1 aa1
abbrev DN:Nat:=105
abbrev Hl:Nat:=121
theorem ZO:iY prog Hl:=iP (fn:=f121) aa1 aa1
abbrev ve:Nat:=121
theorem PV:iY prog ve:=iP (fn:=f121) aa1 aa1
abbrev FZ:Nat:=121
abbrev Ho:Nat:=156
theorem ZP:iY prog Ho:=iP (fn:=f156) aa1 aa1
abbrev vg:Nat:=156
theorem PW:iY prog vg:=iP (fn:=f156) aa1 aa1
abbrev F5:Nat:=156
abbrev X8:Nat:=107
abbrev y7:Nat:=15
theorem L8:iY prog y7:=iP (fn:=f15) aa1 aa1
abbrev zf:Nat:=17
theorem L9:iY prog zf:=iP (fn:=f17) aa1 aa1
abbrev OK(x:Nat×Jb):Prop:=abj prog G x
theorem aB(l:List (Nat×Jb))(h:ahf prog G l):EnvB prog G Θ (H8 l):=ano afU h
end Go.Proofs.Tryz

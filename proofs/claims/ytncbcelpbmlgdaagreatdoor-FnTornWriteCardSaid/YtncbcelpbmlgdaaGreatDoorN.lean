import Derived.Test.YtncbcelpbmlgdaaGreatDoorFwC
import Derived.Test.YtncbcelpbmlgdaaGreatDoorProg
import Derived.Lib.LaidTab
import Derived.Lib.ItoaNum
import Derived.Lib.Space
namespace Go.Proofs.Tryz
open Go Go.Fw
abbrev Ip:TypeId:=3
abbrev abo:TypeId:=4
abbrev eF:TypeId:=5
abbrev aY:TypeId:=9
abbrev aP:TypeId:=51
abbrev aA:TypeId:=54
abbrev aX:TypeId:=93
abbrev fQ:TypeId:=102
abbrev aN:TypeId:=168
abbrev P6:TypeId:=237
abbrev yt:TypeId:=258
abbrev yu:TypeId:=261
abbrev Zn:ax:=(.cons (.int .i64) .nil)
abbrev YZ:ax:=(.cons (.int .i64) .nil)
abbrev R_4:ax:=(.cons (.bool) .nil)
abbrev jZ:ax:=(.cons (.int .u8) .nil)
abbrev R_6:ax:=(.cons (.int .u8) .nil)
abbrev R_7:ax:=(.cons (.int .i64) (.cons (.int .i64) (.cons (.bool) (.cons (.int .u8) .nil))))
abbrev R_8:ax:=(.cons (.int .i64) (.cons (.int .i64) (.cons (.bool) (.cons (.int .u8) .nil))))
abbrev dQ:ax:=(.cons (.str) .nil)
abbrev atf:ax:=(.cons (.str) .nil)
abbrev atg:ax:=(.cons (.str) .nil)
abbrev ath:ax:=(.cons (.int .u64) .nil)
abbrev ati:ax:=(.cons (.str) (.cons (.int .u64) .nil))
abbrev atj:ax:=(.cons (.str) (.cons (.int .u64) .nil))
abbrev atl:ax:=(.cons (.int .i32) .nil)
abbrev atm:ax:=(.cons (.sl eF jZ) .nil)
abbrev atn:ax:=(.cons (.sl Ip YZ) .nil)
abbrev bK:ax:=(.cons (.str) (.cons (.int .i64) .nil))
abbrev ato:ax:=(.cons (.sl aA bK) .nil)
abbrev atp:ax:=(.cons (.int .i64) (.cons (.int .i64) (.cons (.str) .nil)))
abbrev fP:ax:=(.cons (.str) (.cons (.int .i64) (.cons (.int .i64) (.cons (.str) .nil))))
abbrev atq:ax:=(.cons (.sl fQ fP) .nil)
abbrev dI:ax:=(.cons (.int .i64) (.cons (.int .i64) (.cons (.bool) (.cons (.int .i64) (.cons (.sl fQ fP) .nil)))))
abbrev atr:ax:=(.cons (.sl aP dI) .nil)
abbrev att:ax:=(.cons (.sl aA bK) (.cons (.sl aP dI) (.cons (.int .i64) .nil)))
abbrev atu:ax:=(.cons (.sl aA bK) (.cons (.sl aP dI) (.cons (.int .i64) .nil)))
abbrev bG:ax:=(.cons (.int .i64) (.cons (.int .i64) (.cons (.int .i64) (.cons (.str) (.cons (.int .i64) (.cons (.int .i64) (.cons (.str) .nil)))))))
abbrev atv:ax:=(.cons (.sl aN bG) .nil)
abbrev dA:ax:=(.cons (.str) (.cons (.sl aN bG) .nil))
abbrev atw:ax:=(.cons (.sl aX dA) .nil)
abbrev atx:ax:=(.cons (.sl aA bK) (.cons (.sl aP dI) (.cons (.int .i64) (.cons (.sl aX dA) .nil))))
abbrev aty:ax:=(.cons (.sl aA bK) (.cons (.sl aP dI) (.cons (.int .i64) (.cons (.sl aX dA) .nil))))
abbrev atz:ax:=(.cons (.str) (.cons (.str) .nil))
abbrev atA:ax:=(.cons (.str) (.cons (.str) .nil))
abbrev atB:ax:=(.cons (.sl aY dQ) .nil)
abbrev atC:ax:=(.cons (.int .i64) (.cons (.int .i64) (.cons (.bool) (.cons (.int .i64) (.cons (.sl fQ fP) .nil)))))
abbrev atD:ax:=(.cons (.str) (.cons (.int .i64) .nil))
abbrev atE:ax:=(.cons (.int .i64) (.cons (.int .i64) (.cons (.str) .nil)))
abbrev atF:ax:=(.cons (.str) (.cons (.sl aN bG) .nil))
abbrev arO:ax:=(.cons (.str) (.cons (.int .i64) (.cons (.int .i64) (.cons (.str) .nil))))
abbrev arP:ax:=(.cons (.sl eF jZ) (.cons (.int .i64) (.cons (.int .i64) .nil)))
abbrev arQ:ax:=(.cons (.sl eF jZ) (.cons (.int .i64) (.cons (.int .i64) .nil)))
abbrev arR:ax:=(.cons (.int .u64) .nil)
abbrev arS:ax:=(.cons (.int .i64) (.cons (.int .i64) (.cons (.int .i64) (.cons (.str) (.cons (.int .i64) (.cons (.int .i64) (.cons (.str) .nil)))))))
abbrev arT:ax:=(.cons (.sl aY dQ) (.cons (.sl aN bG) .nil))
abbrev arU:ax:=(.cons (.sl aY dQ) (.cons (.sl aN bG) .nil))
abbrev arV:ax:=(.cons (.int .i64) .nil)
abbrev arW:ax:=(.cons (.int .u64) .nil)
abbrev arX:ax:=(.cons (.sl abo R_4) .nil)
abbrev arY:ax:=(.cons (.int .u32) .nil)
abbrev apu:ax:=(.cons (.int .i64) (.cons (.int .i64) .nil))
abbrev arZ:ax:=(.cons (.sl P6 apu) .nil)
abbrev ar0:ax:=(.cons (.int .i64) (.cons (.int .i64) .nil))
abbrev ar1:ax:=(.cons (.int .u8) (.cons (.int .u8) .nil))
abbrev ar2:ax:=(.cons (.int .u8) (.cons (.int .u8) .nil))
abbrev ar4:ax:=(.cons (.str) .nil)
abbrev ar5:ax:=(.cons (.str) .nil)
abbrev ar6:ax:=(.cons (.int .u16) .nil)
abbrev ag9:ax:=(.cons (.int .u16) (.cons (.int .u16) (.cons (.int .u16) .nil)))
abbrev ar7:ax:=(.cons (.sl yt ag9) .nil)
abbrev aha:ax:=(.cons (.int .u32) (.cons (.int .u32) (.cons (.int .u32) .nil)))
abbrev ar8:ax:=(.cons (.sl yu aha) .nil)
abbrev ar9:ax:=(.cons (.sl yt ag9) (.cons (.sl yu aha) (.cons (.int .i64) .nil)))
abbrev asa:ax:=(.cons (.sl yt ag9) (.cons (.sl yu aha) (.cons (.int .i64) .nil)))
abbrev asb:ax:=(.cons (.int .u16) (.cons (.int .u16) (.cons (.int .u16) .nil)))
abbrev asc:ax:=(.cons (.int .u32) (.cons (.int .u32) (.cons (.int .u32) .nil)))
abbrev ase:ax:=(.cons (.int .i64) .nil)
abbrev asf:ax:=(.cons (.int .u64) .nil)
abbrev asg:ax:=(.cons (.int .u8) .nil)
abbrev ash:ax:=(.cons (.int .u8) .nil)
abbrev asi:ax:=(.cons (.int .i32) .nil)
abbrev asj:ax:=(.cons (.int .i32) .nil)
def pV:List (Nat×Go.Fw.TI):=[
 (2,⟨.scalar,Zn,8,false⟩),
 (3,⟨.scalar,YZ,8,false⟩),
 (4,⟨.scalar,R_4,1,false⟩),
 (5,⟨.scalar,jZ,1,false⟩),
 (6,⟨.scalar,R_6,1,false⟩),
 (7,⟨.struct [(0,2),(1,3),(2,4),(3,6)],R_7,24,false⟩),
 (8,⟨.struct [(0,2),(1,3),(2,4),(3,6)],R_8,24,false⟩),
 (9,⟨.str,dQ,16,false⟩),
 (10,⟨.str,atf,16,false⟩),
 (11,⟨.str,atg,16,false⟩),
 (12,⟨.scalar,ath,8,false⟩),
 (13,⟨.struct [(0,9),(1,12)],ati,24,false⟩),
 (14,⟨.struct [(0,9),(1,12)],atj,24,false⟩),
 (21,⟨.scalar,atl,4,false⟩),
 (22,⟨.slice eF,atm,24,false⟩),
 (24,⟨.slice Ip,atn,24,false⟩),
 (26,⟨.slice aA,ato,24,false⟩),
 (27,⟨.slice aP,atr,24,false⟩),
 (28,⟨.struct [(0,26),(1,27),(2,3)],att,56,false⟩),
 (29,⟨.struct [(0,26),(1,27),(2,3)],atu,56,false⟩),
 (31,⟨.slice aX,atw,24,false⟩),
 (32,⟨.struct [(0,29),(3,31)],atx,80,false⟩),
 (33,⟨.struct [(0,29),(3,31)],aty,80,false⟩),
 (34,⟨.struct [(0,9),(1,9)],atz,32,false⟩),
 (35,⟨.struct [(0,9),(1,9)],atA,32,true⟩),
 (42,⟨.slice aY,atB,24,false⟩),
 (49,⟨.slice fQ,atq,24,false⟩),
 (50,⟨.struct [(0,3),(1,3),(2,4),(3,3),(4,49)],atC,56,false⟩),
 (51,⟨.struct [(0,3),(1,3),(2,4),(3,3),(4,49)],dI,56,false⟩),
 (53,⟨.struct [(0,9),(1,3)],atD,24,false⟩),
 (54,⟨.struct [(0,9),(1,3)],bK,24,true⟩),
 (80,⟨.struct [(0,3),(1,3),(2,9)],atE,32,false⟩),
 (81,⟨.struct [(0,3),(1,3),(2,9)],atp,32,true⟩),
 (91,⟨.slice aN,atv,24,false⟩),
 (92,⟨.struct [(0,9),(1,91)],atF,40,false⟩),
 (93,⟨.struct [(0,9),(1,91)],dA,40,false⟩),
 (101,⟨.struct [(0,9),(1,81)],arO,48,true⟩),
 (102,⟨.struct [(0,9),(1,81)],fP,48,true⟩),
 (117,⟨.struct [(0,22),(1,3),(2,3)],arP,40,false⟩),
 (118,⟨.struct [(0,22),(1,3),(2,3)],arQ,40,false⟩),
 (163,⟨.scalar,arR,8,false⟩),
 (167,⟨.struct [(0,3),(1,3),(2,3),(3,9),(4,81)],arS,72,true⟩),
 (168,⟨.struct [(0,3),(1,3),(2,3),(3,9),(4,81)],bG,72,true⟩),
 (172,⟨.struct [(0,42),(1,91)],arT,48,false⟩),
 (173,⟨.struct [(0,42),(1,91)],arU,48,false⟩),
 (202,⟨.scalar,arV,8,false⟩),
 (209,⟨.scalar,arW,8,false⟩),
 (219,⟨.slice abo,arX,24,false⟩),
 (232,⟨.scalar,arY,4,false⟩),
 (235,⟨.slice P6,arZ,24,false⟩),
 (236,⟨.struct [(0,3),(1,3)],ar0,16,false⟩),
 (237,⟨.struct [(0,3),(1,3)],apu,16,false⟩),
 (242,⟨.struct [(0,5),(1,5)],ar1,2,false⟩),
 (243,⟨.struct [(0,5),(1,5)],ar2,2,false⟩),
 (249,⟨.struct [(0,9)],ar4,16,false⟩),
 (250,⟨.struct [(0,9)],ar5,16,false⟩),
 (252,⟨.slice yt,ar7,24,false⟩),
 (253,⟨.slice yu,ar8,24,false⟩),
 (254,⟨.struct [(0,252),(1,253),(2,3)],ar9,56,false⟩),
 (255,⟨.struct [(0,252),(1,253),(2,3)],asa,56,false⟩),
 (256,⟨.scalar,ar6,2,false⟩),
 (257,⟨.struct [(0,256),(1,256),(2,256)],asb,6,false⟩),
 (258,⟨.struct [(0,256),(1,256),(2,256)],ag9,6,false⟩),
 (260,⟨.struct [(0,232),(1,232),(2,232)],asc,12,false⟩),
 (261,⟨.struct [(0,232),(1,232),(2,232)],aha,12,false⟩),
 (269,⟨.scalar,ase,8,false⟩),
 (276,⟨.scalar,asf,8,false⟩),
 (293,⟨.scalar,asg,1,false⟩),
 (294,⟨.scalar,ash,1,false⟩),
 (296,⟨.scalar,asi,4,false⟩),
 (297,⟨.scalar,asj,4,false⟩)]
def Θ:jr:=abH pV
theorem agz:PO prog pV=true:=abu
theorem mixed:prog.follows .mixedOrders=true:=abu
theorem aie{w w':World}{name:String}{g:Nat}{cs:Array Value}(hg:prog.globalNamed name=some g)(hk:w'.heap[g]? =w.heap[g]?)(h:World.var? prog w name=some cs):World.var? prog w' name=some cs:=by unfold World.var? at h ⊢;rw[hg]at h ⊢;show(match w'.heap[g]? with|some (.cells cs _ _)=>some cs|_=>none)=_;rw[hk];exact h
def isErr(ev:Value):Prop:=ev=.nilIface\/∃te pe,ev=.iface te pe
def G:jX where
 n:=5
 ok:=λw=>Lib.TabIs prog w "internal/strconv.uint64pow10" .u64 Lib.pow10Tab/\Lib.TabIs prog w "strings.asciiSpace" .u8 Lib.asciiSpaceTab/\
  (∃ev,w.cell? ⟨2,0,none⟩=some ev/\isErr ev)/\(∃ev,w.cell? ⟨3,0,none⟩=some ev/\isErr ev)/\∃m,w.cell? ⟨1,0,none⟩=some (.int .i64 m)
 low:=by
  intro w h;have h1:=h.1;unfold Lib.TabIs World.var? at h1;rw[show prog.globalNamed "internal/strconv.uint64pow10" =some 4 from abu]at h1;rcases avN 4 w.heap.size with h'|h'
  .exact h'
  .simp[axG h']at h1
 stable:=by
  intro w w' h hs hk;refine⟨aie (g:=4) abu (hk 4 abA) h.1,aie (g:=0) abu (hk 0 abA) h.2.1,?_,?_,?_⟩
  .obtain⟨ev,h1,h2⟩:=h.2.2.1;exact⟨ev,by rw[aw3 (a:=⟨2,0,none⟩) (hk 2 abA)];exact h1,h2⟩
  .obtain⟨ev,h1,h2⟩:=h.2.2.2.1;exact⟨ev,by rw[aw3 (a:=⟨3,0,none⟩) (hk 3 abA)];exact h1,h2⟩
  .obtain⟨m,h1⟩:=h.2.2.2.2;exact⟨m,by rw[aw3 (a:=⟨1,0,none⟩) (hk 1 abA)];exact h1⟩
abbrev aef:Nat:=184
abbrev vg:Nat:=184
theorem P7:jd prog vg:=iT (fn:=f184) abu abu
abbrev Gn:Nat:=184
abbrev vC:Nat:=184
theorem Fe:jd prog vC:=iT (fn:=f184) abu abu
abbrev Dx:Nat:=219
theorem UB:jd prog Dx:=iT (fn:=f219) abu abu
abbrev H8:Nat:=103
theorem aai:jd prog H8:=iT (fn:=f103) abu abu
abbrev yP:Nat:=74
theorem LH:jd prog yP:=iT (fn:=f74) abu abu
abbrev Gm:Nat:=86
theorem Yl:jd prog Gm:=iT (fn:=f86) abu abu
abbrev EL:Nat:=188
theorem Wh:jd prog EL:=iT (fn:=f188) abu abu
abbrev uG:Nat:=87
theorem Ce:jd prog uG:=iT (fn:=f87) abu abu
abbrev EM:Nat:=105
theorem Wi:jd prog EM:=iT (fn:=f105) abu abu
abbrev rC:Nat:=105
theorem MP:jd prog rC:=iT (fn:=f105) abu abu
abbrev D8:Nat:=105
abbrev H9:Nat:=121
theorem aaj:jd prog H9:=iT (fn:=f121) abu abu
abbrev vw:Nat:=121
theorem P8:jd prog vw:=iT (fn:=f121) abu abu
abbrev Gp:Nat:=121
abbrev Ia:Nat:=156
theorem aak:jd prog Ia:=iT (fn:=f156) abu abu
abbrev vz:Nat:=156
theorem P9:jd prog vz:=iT (fn:=f156) abu abu
abbrev Gq:Nat:=156
abbrev Ym:Nat:=107
abbrev yZ:Nat:=15
theorem MQ:jd prog yZ:=iT (fn:=f15) abu abu
abbrev y7:Nat:=17
theorem MR:jd prog y7:=iT (fn:=f17) abu abu
abbrev OK(x:Nat×Js):Prop:=abQ prog G x
theorem aC(l:List (Nat×Js))(h:ahU prog G l):EnvB prog G Θ (Iq l):=an4 agz h
end Go.Proofs.Tryz

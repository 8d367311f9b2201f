import Derived.Test.YtncbcelpbmlgdaaGreatDoorFwC
import Derived.Test.YtncbcelpbmlgdaaGreatDoorProg
import Derived.Lib.LaidTab
import Derived.Lib.ItoaNum
import Derived.Lib.Space
namespace Go.Proofs.Tryz
open Go Go.Fw
abbrev DW:TypeId:=3
abbrev Xa:TypeId:=4
abbrev rH:TypeId:=5
abbrev bW:TypeId:=9
abbrev aW:TypeId:=51
abbrev aI:TypeId:=54
abbrev bH:TypeId:=93
abbrev fE:TypeId:=102
abbrev bD:TypeId:=168
abbrev KU:TypeId:=237
abbrev uN:TypeId:=258
abbrev uO:TypeId:=261
abbrev QS:au:=(.cons (.int .i64) .nil)
abbrev UD:au:=(.cons (.int .i64) .nil)
abbrev Z4:au:=(.cons (.bool) .nil)
abbrev Ir:au:=(.cons (.int .u8) .nil)
abbrev R_6:au:=(.cons (.int .u8) .nil)
abbrev R_7:au:=(.cons (.int .i64) (.cons (.int .i64) (.cons (.bool) (.cons (.int .u8) .nil))))
abbrev R_8:au:=(.cons (.int .i64) (.cons (.int .i64) (.cons (.bool) (.cons (.int .u8) .nil))))
abbrev fP:au:=(.cons (.str) .nil)
abbrev anc:au:=(.cons (.str) .nil)
abbrev ane:au:=(.cons (.str) .nil)
abbrev anf:au:=(.cons (.int .u64) .nil)
abbrev ang:au:=(.cons (.str) (.cons (.int .u64) .nil))
abbrev anh:au:=(.cons (.str) (.cons (.int .u64) .nil))
abbrev ani:au:=(.cons (.int .i32) .nil)
abbrev anj:au:=(.cons (.sl rH Ir) .nil)
abbrev ank:au:=(.cons (.sl DW UD) .nil)
abbrev dD:au:=(.cons (.str) (.cons (.int .i64) .nil))
abbrev anl:au:=(.cons (.sl aI dD) .nil)
abbrev anm:au:=(.cons (.int .i64) (.cons (.int .i64) (.cons (.str) .nil)))
abbrev iM:au:=(.cons (.str) (.cons (.int .i64) (.cons (.int .i64) (.cons (.str) .nil))))
abbrev ann:au:=(.cons (.sl fE iM) .nil)
abbrev fA:au:=(.cons (.int .i64) (.cons (.int .i64) (.cons (.bool) (.cons (.int .i64) (.cons (.sl fE iM) .nil)))))
abbrev ano:au:=(.cons (.sl aW fA) .nil)
abbrev anp:au:=(.cons (.sl aI dD) (.cons (.sl aW fA) (.cons (.int .i64) .nil)))
abbrev anq:au:=(.cons (.sl aI dD) (.cons (.sl aW fA) (.cons (.int .i64) .nil)))
abbrev dL:au:=(.cons (.int .i64) (.cons (.int .i64) (.cons (.int .i64) (.cons (.str) (.cons (.int .i64) (.cons (.int .i64) (.cons (.str) .nil)))))))
abbrev anr:au:=(.cons (.sl bD dL) .nil)
abbrev dX:au:=(.cons (.str) (.cons (.sl bD dL) .nil))
abbrev ant:au:=(.cons (.sl bH dX) .nil)
abbrev anu:au:=(.cons (.sl aI dD) (.cons (.sl aW fA) (.cons (.int .i64) (.cons (.sl bH dX) .nil))))
abbrev anv:au:=(.cons (.sl aI dD) (.cons (.sl aW fA) (.cons (.int .i64) (.cons (.sl bH dX) .nil))))
abbrev anw:au:=(.cons (.str) (.cons (.str) .nil))
abbrev anx:au:=(.cons (.str) (.cons (.str) .nil))
abbrev anz:au:=(.cons (.sl bW fP) .nil)
abbrev anA:au:=(.cons (.int .i64) (.cons (.int .i64) (.cons (.bool) (.cons (.int .i64) (.cons (.sl fE iM) .nil)))))
abbrev anB:au:=(.cons (.str) (.cons (.int .i64) .nil))
abbrev anC:au:=(.cons (.int .i64) (.cons (.int .i64) (.cons (.str) .nil)))
abbrev anD:au:=(.cons (.str) (.cons (.sl bD dL) .nil))
abbrev al0:au:=(.cons (.str) (.cons (.int .i64) (.cons (.int .i64) (.cons (.str) .nil))))
abbrev al1:au:=(.cons (.sl rH Ir) (.cons (.int .i64) (.cons (.int .i64) .nil)))
abbrev al2:au:=(.cons (.sl rH Ir) (.cons (.int .i64) (.cons (.int .i64) .nil)))
abbrev al3:au:=(.cons (.int .u64) .nil)
abbrev al4:au:=(.cons (.int .i64) (.cons (.int .i64) (.cons (.int .i64) (.cons (.str) (.cons (.int .i64) (.cons (.int .i64) (.cons (.str) .nil)))))))
abbrev al5:au:=(.cons (.sl bW fP) (.cons (.sl bD dL) .nil))
abbrev al6:au:=(.cons (.sl bW fP) (.cons (.sl bD dL) .nil))
abbrev al7:au:=(.cons (.int .i64) .nil)
abbrev al8:au:=(.cons (.int .u64) .nil)
abbrev al9:au:=(.cons (.sl Xa Z4) .nil)
abbrev ama:au:=(.cons (.int .u32) .nil)
abbrev ajS:au:=(.cons (.int .i64) (.cons (.int .i64) .nil))
abbrev amb:au:=(.cons (.sl KU ajS) .nil)
abbrev amc:au:=(.cons (.int .i64) (.cons (.int .i64) .nil))
abbrev amd:au:=(.cons (.int .u8) (.cons (.int .u8) .nil))
abbrev ame:au:=(.cons (.int .u8) (.cons (.int .u8) .nil))
abbrev amf:au:=(.cons (.str) .nil)
abbrev amg:au:=(.cons (.str) .nil)
abbrev amh:au:=(.cons (.int .u16) .nil)
abbrev abI:au:=(.cons (.int .u16) (.cons (.int .u16) (.cons (.int .u16) .nil)))
abbrev ami:au:=(.cons (.sl uN abI) .nil)
abbrev abJ:au:=(.cons (.int .u32) (.cons (.int .u32) (.cons (.int .u32) .nil)))
abbrev amj:au:=(.cons (.sl uO abJ) .nil)
abbrev amk:au:=(.cons (.sl uN abI) (.cons (.sl uO abJ) (.cons (.int .i64) .nil)))
abbrev aml:au:=(.cons (.sl uN abI) (.cons (.sl uO abJ) (.cons (.int .i64) .nil)))
abbrev amm:au:=(.cons (.int .u16) (.cons (.int .u16) (.cons (.int .u16) .nil)))
abbrev amn:au:=(.cons (.int .u32) (.cons (.int .u32) (.cons (.int .u32) .nil)))
abbrev amo:au:=(.cons (.int .i64) .nil)
abbrev amq:au:=(.cons (.int .u64) .nil)
abbrev amr:au:=(.cons (.int .u8) .nil)
abbrev ams:au:=(.cons (.int .u8) .nil)
abbrev amu:au:=(.cons (.int .i32) .nil)
abbrev amv:au:=(.cons (.int .i32) .nil)
def nO:List (Nat×Go.Fw.TI):=[
 (2,⟨.scalar,QS,8,false⟩),
 (3,⟨.scalar,UD,8,false⟩),
 (4,⟨.scalar,Z4,1,false⟩),
 (5,⟨.scalar,Ir,1,false⟩),
 (6,⟨.scalar,R_6,1,false⟩),
 (7,⟨.struct [(0,2),(1,3),(2,4),(3,6)],R_7,24,false⟩),
 (8,⟨.struct [(0,2),(1,3),(2,4),(3,6)],R_8,24,false⟩),
 (9,⟨.str,fP,16,false⟩),
 (10,⟨.str,anc,16,false⟩),
 (11,⟨.str,ane,16,false⟩),
 (12,⟨.scalar,anf,8,false⟩),
 (13,⟨.struct [(0,9),(1,12)],ang,24,false⟩),
 (14,⟨.struct [(0,9),(1,12)],anh,24,false⟩),
 (21,⟨.scalar,ani,4,false⟩),
 (22,⟨.slice rH,anj,24,false⟩),
 (24,⟨.slice DW,ank,24,false⟩),
 (26,⟨.slice aI,anl,24,false⟩),
 (27,⟨.slice aW,ano,24,false⟩),
 (28,⟨.struct [(0,26),(1,27),(2,3)],anp,56,false⟩),
 (29,⟨.struct [(0,26),(1,27),(2,3)],anq,56,false⟩),
 (31,⟨.slice bH,ant,24,false⟩),
 (32,⟨.struct [(0,29),(3,31)],anu,80,false⟩),
 (33,⟨.struct [(0,29),(3,31)],anv,80,false⟩),
 (34,⟨.struct [(0,9),(1,9)],anw,32,false⟩),
 (35,⟨.struct [(0,9),(1,9)],anx,32,true⟩),
 (42,⟨.slice bW,anz,24,false⟩),
 (49,⟨.slice fE,ann,24,false⟩),
 (50,⟨.struct [(0,3),(1,3),(2,4),(3,3),(4,49)],anA,56,false⟩),
 (51,⟨.struct [(0,3),(1,3),(2,4),(3,3),(4,49)],fA,56,false⟩),
 (53,⟨.struct [(0,9),(1,3)],anB,24,false⟩),
 (54,⟨.struct [(0,9),(1,3)],dD,24,true⟩),
 (80,⟨.struct [(0,3),(1,3),(2,9)],anC,32,false⟩),
 (81,⟨.struct [(0,3),(1,3),(2,9)],anm,32,true⟩),
 (91,⟨.slice bD,anr,24,false⟩),
 (92,⟨.struct [(0,9),(1,91)],anD,40,false⟩),
 (93,⟨.struct [(0,9),(1,91)],dX,40,false⟩),
 (101,⟨.struct [(0,9),(1,81)],al0,48,true⟩),
 (102,⟨.struct [(0,9),(1,81)],iM,48,true⟩),
 (117,⟨.struct [(0,22),(1,3),(2,3)],al1,40,false⟩),
 (118,⟨.struct [(0,22),(1,3),(2,3)],al2,40,false⟩),
 (163,⟨.scalar,al3,8,false⟩),
 (167,⟨.struct [(0,3),(1,3),(2,3),(3,9),(4,81)],al4,72,true⟩),
 (168,⟨.struct [(0,3),(1,3),(2,3),(3,9),(4,81)],dL,72,true⟩),
 (172,⟨.struct [(0,42),(1,91)],al5,48,false⟩),
 (173,⟨.struct [(0,42),(1,91)],al6,48,false⟩),
 (202,⟨.scalar,al7,8,false⟩),
 (209,⟨.scalar,al8,8,false⟩),
 (219,⟨.slice Xa,al9,24,false⟩),
 (232,⟨.scalar,ama,4,false⟩),
 (235,⟨.slice KU,amb,24,false⟩),
 (236,⟨.struct [(0,3),(1,3)],amc,16,false⟩),
 (237,⟨.struct [(0,3),(1,3)],ajS,16,false⟩),
 (242,⟨.struct [(0,5),(1,5)],amd,2,false⟩),
 (243,⟨.struct [(0,5),(1,5)],ame,2,false⟩),
 (249,⟨.struct [(0,9)],amf,16,false⟩),
 (250,⟨.struct [(0,9)],amg,16,false⟩),
 (252,⟨.slice uN,ami,24,false⟩),
 (253,⟨.slice uO,amj,24,false⟩),
 (254,⟨.struct [(0,252),(1,253),(2,3)],amk,56,false⟩),
 (255,⟨.struct [(0,252),(1,253),(2,3)],aml,56,false⟩),
 (256,⟨.scalar,amh,2,false⟩),
 (257,⟨.struct [(0,256),(1,256),(2,256)],amm,6,false⟩),
 (258,⟨.struct [(0,256),(1,256),(2,256)],abI,6,false⟩),
 (260,⟨.struct [(0,232),(1,232),(2,232)],amn,12,false⟩),
 (261,⟨.struct [(0,232),(1,232),(2,232)],abJ,12,false⟩),
 (269,⟨.scalar,amo,8,false⟩),
 (276,⟨.scalar,amq,8,false⟩),
 (293,⟨.scalar,amr,1,false⟩),
 (294,⟨.scalar,ams,1,false⟩),
 (296,⟨.scalar,amu,4,false⟩),
 (297,⟨.scalar,amv,4,false⟩)]
def Θ:iO:=Xr nO
theorem abg:KI prog nO=true:=by kernel_rfl
theorem mixed:prog.follows .mixedOrders=true:=by kernel_rfl
theorem acX{w w':World}{name:String}{g:Nat}{cs:Array Value}(hg:prog.globalNamed name=some g)(hk:w'.heap[g]? =w.heap[g]?)(h:World.var? prog w name=some cs):World.var? prog w' name=some cs:=by unfold World.var? at h ⊢;rw[hg]at h ⊢;show(match w'.heap[g]? with|some (.cells cs _ _)=>some cs|_=>none)=_;rw[hk];exact h
def isErr(ev:Value):Prop:=ev=.nilIface\/∃te pe,ev=.iface te pe
def G:jo where
 n:=5
 ok:=λw=>Lib.TabIs prog w "internal/strconv.uint64pow10" .u64 Lib.pow10Tab/\Lib.TabIs prog w "strings.asciiSpace" .u8 Lib.asciiSpaceTab/\
  (∃ev,w.cell? ⟨2,0,none⟩=some ev/\isErr ev)/\(∃ev,w.cell? ⟨3,0,none⟩=some ev/\isErr ev)/\∃m,w.cell? ⟨1,0,none⟩=some (.int .i64 m)
 low:=by
  intro w h;have h1:=h.1;unfold Lib.TabIs World.var? at h1;rw[show prog.globalNamed "internal/strconv.uint64pow10" =some 4 by kernel_rfl]at h1;rcases apa 4 w.heap.size with h'|h'
  .exact h'
  .simp[aqR h']at h1
 stable:=by
  intro w w' h hs hk;refine⟨acX (g:=4) (by kernel_rfl) (hk 4 (by decide)) h.1,acX (g:=0) (by kernel_rfl) (hk 0 (by decide)) h.2.1,?_,?_,?_⟩
  .obtain⟨ev,h1,h2⟩:=h.2.2.1;exact⟨ev,by rw[aqD (a:=⟨2,0,none⟩) (hk 2 (by decide))];exact h1,h2⟩
  .obtain⟨ev,h1,h2⟩:=h.2.2.2.1;exact⟨ev,by rw[aqD (a:=⟨3,0,none⟩) (hk 3 (by decide))];exact h1,h2⟩
  .obtain⟨m,h1⟩:=h.2.2.2.2;exact⟨m,by rw[aqD (a:=⟨1,0,none⟩) (hk 1 (by decide))];exact h1⟩
abbrev zF:Nat:=219
theorem O0:jF prog zF:=ku (fn:=f219) (by kernel_rfl) (by kernel_rfl)
abbrev DF:Nat:=103
theorem VN:jF prog DF:=ku (fn:=f103) (by kernel_rfl) (by kernel_rfl)
abbrev uZ:Nat:=74
theorem G5:jF prog uZ:=ku (fn:=f74) (by kernel_rfl) (by kernel_rfl)
abbrev CO:Nat:=86
theorem TQ:jF prog CO:=ku (fn:=f86) (by kernel_rfl) (by kernel_rfl)
abbrev AP:Nat:=188
theorem QU:jF prog AP:=ku (fn:=f188) (by kernel_rfl) (by kernel_rfl)
abbrev qH:Nat:=87
theorem yN:jF prog qH:=ku (fn:=f87) (by kernel_rfl) (by kernel_rfl)
abbrev AQ:Nat:=105
theorem QV:jF prog AQ:=ku (fn:=f105) (by kernel_rfl) (by kernel_rfl)
abbrev oV:Nat:=105
theorem Ia:jF prog oV:=ku (fn:=f105) (by kernel_rfl) (by kernel_rfl)
abbrev zX:Nat:=105
abbrev DI:Nat:=121
theorem VO:jF prog DI:=ku (fn:=f121) (by kernel_rfl) (by kernel_rfl)
abbrev qX:Nat:=121
theorem KW:jF prog qX:=ku (fn:=f121) (by kernel_rfl) (by kernel_rfl)
abbrev CP:Nat:=121
abbrev TR:Nat:=107
abbrev vI:Nat:=15
theorem Ib:jF prog vI:=ku (fn:=f15) (by kernel_rfl) (by kernel_rfl)
abbrev OK(x:Nat×EP):Prop:=XC prog G x
theorem aO(l:List (Nat×EP))(h:acC prog G l):EnvB prog G Θ (Iz l):=aiI abg h
end Go.Proofs.Tryz

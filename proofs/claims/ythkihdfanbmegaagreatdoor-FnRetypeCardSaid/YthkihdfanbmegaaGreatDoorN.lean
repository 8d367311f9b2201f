import Derived.Test.YthkihdfanbmegaaGreatDoorFwC
import Derived.Test.YthkihdfanbmegaaGreatDoorProg
import Derived.Lib.LaidTab
import Derived.Lib.ItoaNum
namespace Go.Proofs.Tryz
open Go Go.Fw
abbrev dN:TypeId:=3
abbrev aaU:TypeId:=4
abbrev dZ:TypeId:=5
abbrev gW:TypeId:=9
abbrev bC:TypeId:=30
abbrev aQ:TypeId:=33
abbrev aH:TypeId:=66
abbrev ax:TypeId:=98
abbrev oH:TypeId:=113
abbrev aT:TypeId:=115
abbrev aC:TypeId:=131
abbrev jA:aB:=(.cons (.int .i64) .nil)
abbrev iP:aB:=(.cons (.int .i64) .nil)
abbrev R_4:aB:=(.cons (.bool) .nil)
abbrev jr:aB:=(.cons (.int .u8) .nil)
abbrev R_6:aB:=(.cons (.int .u8) .nil)
abbrev R_7:aB:=(.cons (.int .i64) (.cons (.int .i64) (.cons (.bool) (.cons (.int .u8) .nil))))
abbrev R_8:aB:=(.cons (.int .i64) (.cons (.int .i64) (.cons (.bool) (.cons (.int .u8) .nil))))
abbrev kH:aB:=(.cons (.str) .nil)
abbrev apI:aB:=(.cons (.str) .nil)
abbrev apJ:aB:=(.cons (.str) .nil)
abbrev apK:aB:=(.cons (.int .u64) .nil)
abbrev apL:aB:=(.cons (.str) (.cons (.int .u64) .nil))
abbrev apM:aB:=(.cons (.str) (.cons (.int .u64) .nil))
abbrev apN:aB:=(.cons (.int .i32) .nil)
abbrev apO:aB:=(.cons (.sl dZ jr) .nil)
abbrev apP:aB:=(.cons (.sl dN iP) .nil)
abbrev apQ:aB:=(.cons (.int .i64) (.cons (.int .i64) (.cons (.str) .nil)))
abbrev apR:aB:=(.cons (.int .i64) (.cons (.int .i64) (.cons (.str) .nil)))
abbrev Cj:aB:=(.cons (.int .i64) (.cons (.int .i64) (.cons (.int .i64) (.cons (.str) (.cons (.int .i64) (.cons (.int .i64) (.cons (.str) .nil)))))))
abbrev iY:aB:=(.cons (.int .i64) (.cons (.int .i64) (.cons (.int .i64) (.cons (.str) (.cons (.int .i64) (.cons (.int .i64) (.cons (.str) .nil)))))))
abbrev apS:aB:=(.cons (.sl bC iY) .nil)
abbrev iR:aB:=(.cons (.str) (.cons (.sl bC iY) .nil))
abbrev gu:aB:=(.cons (.str) (.cons (.sl bC iY) .nil))
abbrev apT:aB:=(.cons (.sl aQ gu) .nil)
abbrev aV:aB:=(.cons (.str) (.cons (.int .i64) .nil))
abbrev apU:aB:=(.cons (.sl ax aV) .nil)
abbrev bV:aB:=(.cons (.str) (.cons (.int .i64) (.cons (.int .i64) (.cons (.str) .nil))))
abbrev apV:aB:=(.cons (.sl aT bV) .nil)
abbrev bH:aB:=(.cons (.int .i64) (.cons (.int .i64) (.cons (.bool) (.cons (.int .i64) (.cons (.sl aT bV) .nil)))))
abbrev apW:aB:=(.cons (.sl aH bH) .nil)
abbrev apX:aB:=(.cons (.sl ax aV) (.cons (.sl aH bH) (.cons (.int .i64) .nil)))
abbrev apY:aB:=(.cons (.sl ax aV) (.cons (.sl aH bH) (.cons (.int .i64) .nil)))
abbrev bD:aB:=(.cons (.str) (.cons (.sl dN iP) .nil))
abbrev apZ:aB:=(.cons (.sl aC bD) .nil)
abbrev ap0:aB:=(.cons (.sl ax aV) (.cons (.sl aH bH) (.cons (.int .i64) (.cons (.sl aQ gu) (.cons (.sl aC bD) .nil)))))
abbrev ap1:aB:=(.cons (.sl ax aV) (.cons (.sl aH bH) (.cons (.int .i64) (.cons (.sl aQ gu) (.cons (.sl aC bD) .nil)))))
abbrev x9:aB:=(.cons (.str) (.cons (.sl dN iP) (.cons (.sl dN iP) .nil)))
abbrev ap2:aB:=(.cons (.sl oH x9) .nil)
abbrev ap3:aB:=(.cons (.int .i64) (.cons (.int .i64) (.cons (.bool) (.cons (.int .i64) (.cons (.sl aT bV) .nil)))))
abbrev ap4:aB:=(.cons (.sl gW kH) .nil)
abbrev ap5:aB:=(.cons (.str) (.cons (.int .i64) .nil))
abbrev aoI:aB:=(.cons (.str) (.cons (.sl dN iP) (.cons (.sl dN iP) .nil)))
abbrev aoJ:aB:=(.cons (.str) (.cons (.int .i64) (.cons (.int .i64) (.cons (.str) .nil))))
abbrev aoK:aB:=(.cons (.sl dZ jr) (.cons (.int .i64) (.cons (.int .i64) .nil)))
abbrev aoL:aB:=(.cons (.sl dZ jr) (.cons (.int .i64) (.cons (.int .i64) .nil)))
abbrev aoM:aB:=(.cons (.str) (.cons (.sl dN iP) .nil))
abbrev aoN:aB:=(.cons (.int .u64) .nil)
abbrev aoO:aB:=(.cons (.int .i64) .nil)
abbrev aoP:aB:=(.cons (.sl aaU R_4) .nil)
abbrev aoQ:aB:=(.cons (.int .u64) .nil)
abbrev aoR:aB:=(.cons (.int .u32) .nil)
abbrev aoS:aB:=(.cons (.str) .nil)
abbrev aoT:aB:=(.cons (.str) .nil)
abbrev aoU:aB:=(.cons (.int .i64) .nil)
abbrev aoV:aB:=(.cons (.int .u64) .nil)
abbrev aoW:aB:=(.cons (.int .u8) .nil)
abbrev aoX:aB:=(.cons (.int .u8) .nil)
abbrev aoY:aB:=(.cons (.int .i32) .nil)
abbrev aoZ:aB:=(.cons (.int .i32) .nil)
def pI:List (Nat×Go.Fw.TI):=[
 (2,⟨.scalar,jA,8,false⟩),
 (3,⟨.scalar,iP,8,false⟩),
 (4,⟨.scalar,R_4,1,false⟩),
 (5,⟨.scalar,jr,1,false⟩),
 (6,⟨.scalar,R_6,1,false⟩),
 (7,⟨.struct [(0,2),(1,3),(2,4),(3,6)],R_7,24,false⟩),
 (8,⟨.struct [(0,2),(1,3),(2,4),(3,6)],R_8,24,false⟩),
 (9,⟨.str,kH,16,false⟩),
 (10,⟨.str,apI,16,false⟩),
 (11,⟨.str,apJ,16,false⟩),
 (12,⟨.scalar,apK,8,false⟩),
 (13,⟨.struct [(0,9),(1,12)],apL,24,false⟩),
 (14,⟨.struct [(0,9),(1,12)],apM,24,false⟩),
 (21,⟨.scalar,apN,4,false⟩),
 (22,⟨.slice dZ,apO,24,false⟩),
 (24,⟨.slice dN,apP,24,false⟩),
 (26,⟨.struct [(0,3),(1,3),(2,9)],apQ,32,false⟩),
 (27,⟨.struct [(0,3),(1,3),(2,9)],apR,32,true⟩),
 (29,⟨.struct [(0,3),(1,3),(2,3),(3,9),(4,27)],Cj,72,true⟩),
 (30,⟨.struct [(0,3),(1,3),(2,3),(3,9),(4,27)],iY,72,true⟩),
 (31,⟨.slice bC,apS,24,false⟩),
 (32,⟨.struct [(0,9),(1,31)],iR,40,false⟩),
 (33,⟨.struct [(0,9),(1,31)],gu,40,false⟩),
 (34,⟨.slice aQ,apT,24,false⟩),
 (35,⟨.slice ax,apU,24,false⟩),
 (36,⟨.slice aH,apW,24,false⟩),
 (37,⟨.struct [(0,35),(1,36),(2,3)],apX,56,false⟩),
 (38,⟨.struct [(0,35),(1,36),(2,3)],apY,56,false⟩),
 (39,⟨.slice aC,apZ,24,false⟩),
 (40,⟨.struct [(0,38),(3,34),(4,39)],ap0,104,false⟩),
 (41,⟨.struct [(0,38),(3,34),(4,39)],ap1,104,false⟩),
 (45,⟨.slice oH,ap2,24,false⟩),
 (64,⟨.slice aT,apV,24,false⟩),
 (65,⟨.struct [(0,3),(1,3),(2,4),(3,3),(4,64)],ap3,56,false⟩),
 (66,⟨.struct [(0,3),(1,3),(2,4),(3,3),(4,64)],bH,56,false⟩),
 (86,⟨.slice gW,ap4,24,false⟩),
 (97,⟨.struct [(0,9),(1,3)],ap5,24,false⟩),
 (98,⟨.struct [(0,9),(1,3)],aV,24,true⟩),
 (112,⟨.struct [(0,9),(1,24),(2,24)],aoI,64,false⟩),
 (113,⟨.struct [(0,9),(1,24),(2,24)],x9,64,false⟩),
 (114,⟨.struct [(0,9),(1,27)],aoJ,48,true⟩),
 (115,⟨.struct [(0,9),(1,27)],bV,48,true⟩),
 (120,⟨.struct [(0,22),(1,3),(2,3)],aoK,40,false⟩),
 (121,⟨.struct [(0,22),(1,3),(2,3)],aoL,40,false⟩),
 (130,⟨.struct [(0,9),(1,24)],aoM,40,false⟩),
 (131,⟨.struct [(0,9),(1,24)],bD,40,false⟩),
 (153,⟨.scalar,aoN,8,false⟩),
 (197,⟨.scalar,aoO,8,false⟩),
 (209,⟨.slice aaU,aoP,24,false⟩),
 (215,⟨.scalar,aoQ,8,false⟩),
 (231,⟨.scalar,aoR,4,false⟩),
 (237,⟨.struct [(0,9)],aoS,16,false⟩),
 (238,⟨.struct [(0,9)],aoT,16,false⟩),
 (242,⟨.scalar,aoU,8,false⟩),
 (251,⟨.scalar,aoV,8,false⟩),
 (269,⟨.scalar,aoW,1,false⟩),
 (270,⟨.scalar,aoX,1,false⟩),
 (272,⟨.scalar,aoY,4,false⟩),
 (273,⟨.scalar,aoZ,4,false⟩)]
def Θ:jk:=abb pI
theorem afS:PK prog pI=true:=by kernel_rfl
theorem mixed:prog.follows .mixedOrders=true:=by kernel_rfl
theorem amu{w w':World}{name:String}{g:Nat}{cs:Array Value}(hg:prog.globalNamed name=some g)(hk:w'.heap[g]? =w.heap[g]?)(h:World.var? prog w name=some cs):World.var? prog w' name=some cs:=by unfold World.var? at h ⊢;rw[hg]at h ⊢;show(match w'.heap[g]? with|some (.cells cs _ _)=>some cs|_=>none)=_;rw[hk];exact h
theorem anz{w:World}{name:String}{g:Nat}{cs:Array Value}(hg:prog.globalNamed name=some g)(h:World.var? prog w name=some cs):g<w.heap.size:=by
 unfold World.var? at h;rw[hg]at h;have h:(match w.heap[g]? with|some (.cells cs _ _)=>some cs|_=>none)=some cs:=h;rcases arH g w.heap.size with h'|h'
 .exact h'
 .rw[aue h']at h;cases h
def isErr(ev:Value):Prop:=ev=.nilIface\/∃te pe,ev=.iface te pe
def G:jF where
 n:=3
 ok:=λw=>Lib.TabIs prog w "internal/strconv.uint64pow10" .u64 Lib.pow10Tab/\
  (∃ev,w.cell? ⟨0,0,none⟩=some ev/\isErr ev)
 low:=λw h=>anz (g:=2) (by kernel_rfl) h.1
 stable:=by intro w w' h hs hk;refine⟨amu (g:=2) (by kernel_rfl) (hk 2 (by decide)) h.1,?_⟩;obtain⟨ev,h1,h2⟩:=h.2;exact⟨ev,by rw[World.cell?_of_block (a:=⟨0,0,none⟩) (hk 0 (by decide))];exact h1,h2⟩
abbrev adV:Nat:=174
abbrev vw:Nat:=174
theorem PZ:jU prog vw:=kS (fn:=f174) (by kernel_rfl) (by kernel_rfl)
abbrev Gq:Nat:=174
abbrev vC:Nat:=174
theorem Fv:jU prog vC:=kS (fn:=f174) (by kernel_rfl) (by kernel_rfl)
abbrev DR:Nat:=210
theorem TQ:jU prog DR:=kS (fn:=f210) (by kernel_rfl) (by kernel_rfl)
abbrev EX:Nat:=190
theorem VI:jU prog EX:=kS (fn:=f190) (by kernel_rfl) (by kernel_rfl)
abbrev rD:Nat:=190
theorem MX:jU prog rD:=kS (fn:=f190) (by kernel_rfl) (by kernel_rfl)
abbrev Em:Nat:=190
abbrev Ii:Nat:=183
theorem ZC:jU prog Ii:=kS (fn:=f183) (by kernel_rfl) (by kernel_rfl)
abbrev vz:Nat:=183
theorem P5:jU prog vz:=kS (fn:=f183) (by kernel_rfl) (by kernel_rfl)
abbrev Gs:Nat:=183
abbrev sW:Nat:=107
theorem Jf:jU prog sW:=kS (fn:=f107) (by kernel_rfl) (by kernel_rfl)
abbrev uN:Nat:=66
theorem Ju:jU prog uN:=kS (fn:=f66) (by kernel_rfl) (by kernel_rfl)
abbrev rW:Nat:=67
theorem Ij:jU prog rW:=kS (fn:=f67) (by kernel_rfl) (by kernel_rfl)
abbrev o6:Nat:=70
theorem Au:jU prog o6:=kS (fn:=f70) (by kernel_rfl) (by kernel_rfl)
abbrev OK(x:Nat×Jq):Prop:=abm prog G x
theorem aA(l:List (Nat×Jq))(h:ag7 prog G l):EnvB prog G Θ (JW l):=amb afS h
end Go.Proofs.Tryz

import Derived.Test.YtgnfgfokndjepaaDoorFwC
import Derived.Test.YtgnfgfokndjepaaDoorProg
import Derived.Lib.LaidTab
import Derived.Lib.ItoaNum
namespace Go.Proofs.Tryd
open Go Go.Fw
abbrev aX:TypeId:=3
abbrev MO:TypeId:=5
abbrev fD:TypeId:=9
abbrev bC:TypeId:=44
abbrev bZ:TypeId:=51
abbrev ru:aj:=(.cons (.int .i64) .nil)
abbrev dm:aj:=(.cons (.int .i64) .nil)
abbrev Yc:aj:=(.cons (.bool) .nil)
abbrev WB:aj:=(.cons (.int .u8) .nil)
abbrev Yd:aj:=(.cons (.int .u8) .nil)
abbrev Ye:aj:=(.cons (.int .i64) (.cons (.int .i64) (.cons (.bool) (.cons (.int .u8) .nil))))
abbrev Yf:aj:=(.cons (.int .i64) (.cons (.int .i64) (.cons (.bool) (.cons (.int .u8) .nil))))
abbrev nI:aj:=(.cons (.str) .nil)
abbrev Xd:aj:=(.cons (.str) .nil)
abbrev Xe:aj:=(.cons (.str) .nil)
abbrev Xf:aj:=(.cons (.int .u64) .nil)
abbrev Xg:aj:=(.cons (.str) (.cons (.int .u64) .nil))
abbrev Xh:aj:=(.cons (.str) (.cons (.int .u64) .nil))
abbrev Xi:aj:=(.cons (.int .i32) .nil)
abbrev Xj:aj:=(.cons (.sl aX dm) .nil)
abbrev kC:aj:=(.cons (.int .i64) (.cons (.sl aX dm) (.cons (.sl aX dm) .nil)))
abbrev Xk:aj:=(.cons (.sl bZ kC) .nil)
abbrev Xl:aj:=(.cons (.int .i64) (.cons (.str) (.cons (.sl aX dm) (.cons (.sl bZ kC) .nil))))
abbrev Xm:aj:=(.cons (.int .i64) (.cons (.str) (.cons (.sl aX dm) (.cons (.sl bZ kC) .nil))))
abbrev Xn:aj:=(.cons (.sl fD nI) .nil)
abbrev nC:aj:=(.cons (.int .i64) (.cons (.sl aX dm) (.cons (.sl aX dm) .nil)))
abbrev Xo:aj:=(.cons (.sl bC nC) .nil)
abbrev Xp:aj:=(.cons (.int .i64) (.cons (.str) (.cons (.sl aX dm) (.cons (.sl bC nC) .nil))))
abbrev Xq:aj:=(.cons (.int .i64) (.cons (.str) (.cons (.sl aX dm) (.cons (.sl bC nC) .nil))))
abbrev Xr:aj:=(.cons (.int .i64) (.cons (.sl aX dm) (.cons (.sl aX dm) .nil)))
abbrev Xt:aj:=(.cons (.sl MO WB) .nil)
abbrev Xu:aj:=(.cons (.int .u64) .nil)
abbrev Xv:aj:=(.cons (.int .u32) .nil)
abbrev Xw:aj:=(.cons (.int .u64) .nil)
abbrev Xx:aj:=(.cons (.int .u8) .nil)
abbrev Xy:aj:=(.cons (.int .u8) .nil)
abbrev Xz:aj:=(.cons (.int .i32) .nil)
abbrev XB:aj:=(.cons (.int .i32) .nil)
def fU:List (Nat×Go.Fw.TI):=[
 (2,⟨.scalar,ru,8,false⟩),
 (3,⟨.scalar,dm,8,false⟩),
 (4,⟨.scalar,Yc,1,false⟩),
 (5,⟨.scalar,WB,1,false⟩),
 (6,⟨.scalar,Yd,1,false⟩),
 (7,⟨.struct [(0,2),(1,3),(2,4),(3,6)],Ye,24,false⟩),
 (8,⟨.struct [(0,2),(1,3),(2,4),(3,6)],Yf,24,false⟩),
 (9,⟨.str,nI,16,false⟩),
 (10,⟨.str,Xd,16,false⟩),
 (11,⟨.str,Xe,16,false⟩),
 (12,⟨.scalar,Xf,8,false⟩),
 (13,⟨.struct [(0,9),(1,12)],Xg,24,false⟩),
 (14,⟨.struct [(0,9),(1,12)],Xh,24,false⟩),
 (21,⟨.scalar,Xi,4,false⟩),
 (22,⟨.slice aX,Xj,24,false⟩),
 (23,⟨.slice bZ,Xk,24,false⟩),
 (24,⟨.struct [(0,3),(1,9),(2,22),(3,23)],Xl,72,false⟩),
 (25,⟨.struct [(0,3),(1,9),(2,22),(3,23)],Xm,72,false⟩),
 (27,⟨.slice fD,Xn,24,false⟩),
 (29,⟨.slice bC,Xo,24,false⟩),
 (30,⟨.struct [(0,3),(1,9),(2,22),(3,29)],Xp,72,false⟩),
 (31,⟨.struct [(0,3),(1,9),(2,22),(3,29)],Xq,72,false⟩),
 (43,⟨.struct [(0,3),(1,22),(2,22)],Xr,56,false⟩),
 (44,⟨.struct [(0,3),(1,22),(2,22)],nC,56,false⟩),
 (51,⟨.struct [(0,3),(1,22),(2,22)],kC,56,false⟩),
 (54,⟨.slice MO,Xt,24,false⟩),
 (70,⟨.scalar,Xu,8,false⟩),
 (81,⟨.scalar,Xv,4,false⟩),
 (84,⟨.scalar,Xw,8,false⟩),
 (95,⟨.scalar,Xx,1,false⟩),
 (96,⟨.scalar,Xy,1,false⟩),
 (98,⟨.scalar,Xz,4,false⟩),
 (99,⟨.scalar,XB,4,false⟩)]
def Θ:bJ:=D7 fU
theorem IL:vY prog fU=true:=by kernel_rfl
theorem mixed:prog.follows .mixedOrders=true:=by kernel_rfl
def G:cu where
 n:=1
 ok:=λw=>Lib.TabIs prog w "internal/strconv.uint64pow10" .u64 Lib.pow10Tab
 low:=by
  intro w h;have h2:World.var? prog w "internal/strconv.uint64pow10" =some (Lib.pow10Tab.map λz=>Value.int .u64 z).toArray:=h;unfold World.var? at h2;obtain⟨g,hg,hv⟩:=aag.1 h2;have e:prog.globalNamed "internal/strconv.uint64pow10" =some 0:=by kernel_rfl
  rw[e]at hg;cases hg;rcases Zp 0 w.heap.size with h|h
  .exact h
  .rw[Array.getElem?_eq_none h]at hv;cases hv
 stable:=by
  intro w w' h hs hk;have h2:World.var? prog w "internal/strconv.uint64pow10" =some (Lib.pow10Tab.map λz=>Value.int .u64 z).toArray:=h;show World.var? prog w' "internal/strconv.uint64pow10" =_;unfold World.var? at h2 ⊢;obtain⟨g,hg,hv⟩:=aag.1 h2;rw[hg];have Yg:g<1:=by
   have e:prog.globalNamed "internal/strconv.uint64pow10" =some 0:=by kernel_rfl
   rw[e]at hg;cases hg;decide
  show(match w'.heap[g]? with|some (.cells cs _ _)=>some cs|_=>none)=_;rw[hk g Yg];exact hv
abbrev qi:Nat:=33
theorem CY:kJ prog qi:=vC (fn:=f33) (by kernel_rfl) (by kernel_rfl)
abbrev qj:Nat:=35
theorem CZ:kJ prog qj:=vC (fn:=f35) (by kernel_rfl) (by kernel_rfl)
abbrev OK(x:Nat×pW):Prop:=Eg prog G x
theorem VY(l:List (Nat×pW))(h:Eh prog G l):EnvB prog G Θ (xq l):=QE IL h
theorem kz{q:PA}(l:List (Nat×pW))(hl:Eh prog G l)(H:Hints){p:Prop}(h:p)(e:q.say prog Θ (xq l) H=p:=by kernel_rfl):OK q.e:=PA.ok mixed (VY l hl) H e h
end Go.Proofs.Tryd

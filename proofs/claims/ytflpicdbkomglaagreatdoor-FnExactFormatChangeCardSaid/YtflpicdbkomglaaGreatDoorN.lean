import Derived.Test.YtflpicdbkomglaaGreatDoorFwC
import Derived.Test.YtflpicdbkomglaaGreatDoorProg
import Derived.Lib.LaidTab
import Derived.Lib.ItoaNum
import Derived.Lib.Space
namespace Go.Proofs.Tryz
open Go Go.Fw
abbrev Qd:TypeId:=3
abbrev FN:TypeId:=5
abbrev fF:TypeId:=9
abbrev xk:TypeId:=39
abbrev Jw:TypeId:=53
abbrev aZ:TypeId:=84
abbrev aC:TypeId:=125
abbrev fO:TypeId:=166
abbrev fP:TypeId:=169
abbrev Gv:TypeId:=197
abbrev qf:TypeId:=215
abbrev qg:TypeId:=218
abbrev R_2:ak:=(.cons (.int .i64) .nil)
abbrev R_3:ak:=(.cons (.int .i64) .nil)
abbrev R_4:ak:=(.cons (.bool) .nil)
abbrev R_5:ak:=(.cons (.int .u8) .nil)
abbrev R_6:ak:=(.cons (.int .u8) .nil)
abbrev R_7:ak:=(.cons (.int .i64) (.cons (.int .i64) (.cons (.bool) (.cons (.int .u8) .nil))))
abbrev R_8:ak:=(.cons (.int .i64) (.cons (.int .i64) (.cons (.bool) (.cons (.int .u8) .nil))))
abbrev lV:ak:=(.cons (.str) .nil)
abbrev afL:ak:=(.cons (.str) .nil)
abbrev afM:ak:=(.cons (.str) .nil)
abbrev afN:ak:=(.cons (.int .u64) .nil)
abbrev afO:ak:=(.cons (.str) (.cons (.int .u64) .nil))
abbrev afP:ak:=(.cons (.str) (.cons (.int .u64) .nil))
abbrev afQ:ak:=(.cons (.int .i32) .nil)
abbrev aeK:ak:=(.cons (.int .i64) (.cons (.int .i64) (.cons (.str) .nil)))
abbrev dR:ak:=(.cons (.str) (.cons (.int .i64) (.cons (.int .i64) (.cons (.str) .nil))))
abbrev afR:ak:=(.cons (.sl fO dR) .nil)
abbrev afS:ak:=(.cons (.int .i64) (.cons (.int .i64) (.cons (.bool) (.cons (.int .i64) (.cons (.sl fO dR) .nil)))))
abbrev afT:ak:=(.cons (.int .i64) (.cons (.int .i64) (.cons (.bool) (.cons (.int .i64) (.cons (.sl fO dR) .nil)))))
abbrev dA:ak:=(.cons (.int .i64) (.cons (.int .i64) (.cons (.int .i64) (.cons (.str) (.cons (.int .i64) (.cons (.int .i64) (.cons (.str) .nil)))))))
abbrev afU:ak:=(.cons (.sl fP dA) .nil)
abbrev afV:ak:=(.cons (.str) (.cons (.sl fP dA) .nil))
abbrev afW:ak:=(.cons (.str) (.cons (.sl fP dA) .nil))
abbrev afX:ak:=(.cons (.int .i64) (.cons (.int .i64) (.cons (.int .i64) (.cons (.bool) (.cons (.int .i64) (.cons (.sl fO dR) (.cons (.int .i64) (.cons (.str) (.cons (.sl fP dA) .nil)))))))))
abbrev afY:ak:=(.cons (.int .i64) (.cons (.int .i64) (.cons (.int .i64) (.cons (.bool) (.cons (.int .i64) (.cons (.sl fO dR) (.cons (.int .i64) (.cons (.str) (.cons (.sl fP dA) .nil)))))))))
abbrev afZ:ak:=(.cons (.int .i64) (.cons (.int .i64) (.cons (.str) .nil)))
abbrev ji:ak:=(.cons (.str) (.cons (.int .i64) (.cons (.int .i64) (.cons (.str) .nil))))
abbrev af0:ak:=(.cons (.sl aZ ji) .nil)
abbrev af2:ak:=(.cons (.int .i64) (.cons (.int .i64) (.cons (.bool) (.cons (.int .i64) (.cons (.sl aZ ji) .nil)))))
abbrev af4:ak:=(.cons (.int .i64) (.cons (.int .i64) (.cons (.bool) (.cons (.int .i64) (.cons (.sl aZ ji) .nil)))))
abbrev bC:ak:=(.cons (.int .i64) (.cons (.int .i64) (.cons (.int .i64) (.cons (.str) (.cons (.int .i64) (.cons (.int .i64) (.cons (.str) .nil)))))))
abbrev af5:ak:=(.cons (.sl aC bC) .nil)
abbrev af6:ak:=(.cons (.str) (.cons (.sl aC bC) .nil))
abbrev af7:ak:=(.cons (.str) (.cons (.sl aC bC) .nil))
abbrev af8:ak:=(.cons (.int .i64) (.cons (.int .i64) (.cons (.int .i64) (.cons (.bool) (.cons (.int .i64) (.cons (.sl aZ ji) (.cons (.int .i64) (.cons (.str) (.cons (.sl aC bC) .nil)))))))))
abbrev aae:ak:=(.cons (.int .i64) (.cons (.int .i64) (.cons (.int .i64) (.cons (.bool) (.cons (.int .i64) (.cons (.sl aZ ji) (.cons (.int .i64) (.cons (.str) (.cons (.sl aC bC) .nil)))))))))
abbrev af9:ak:=(.cons (.sl FN R_5) .nil)
abbrev aga:ak:=(.cons (.sl xk aae) .nil)
abbrev agb:ak:=(.cons (.int .i64) (.cons (.int .i64) (.cons (.sl xk aae) (.cons (.str) (.cons (.int .i64) .nil)))))
abbrev ad6:ak:=(.cons (.int .i64) (.cons (.int .i64) (.cons (.sl xk aae) (.cons (.str) (.cons (.int .i64) .nil)))))
abbrev agc:ak:=(.cons (.sl Jw ad6) .nil)
abbrev agd:ak:=(.cons (.sl Qd R_3) .nil)
abbrev agf:ak:=(.cons (.sl fF lV) .nil)
abbrev agh:ak:=(.cons (.int .i64) (.cons (.int .i64) (.cons (.str) .nil)))
abbrev agi:ak:=(.cons (.str) (.cons (.int .i64) (.cons (.int .i64) (.cons (.str) .nil))))
abbrev aeL:ak:=(.cons (.int .i64) (.cons (.int .i64) (.cons (.int .i64) (.cons (.str) (.cons (.int .i64) (.cons (.int .i64) (.cons (.str) .nil)))))))
abbrev aeM:ak:=(.cons (.sl fF lV) (.cons (.sl aC bC) .nil))
abbrev aeN:ak:=(.cons (.sl fF lV) (.cons (.sl aC bC) .nil))
abbrev aeO:ak:=(.cons (.sl FN R_5) (.cons (.int .i64) (.cons (.int .i64) .nil)))
abbrev aeP:ak:=(.cons (.sl FN R_5) (.cons (.int .i64) (.cons (.int .i64) .nil)))
abbrev aeQ:ak:=(.cons (.str) (.cons (.int .i64) (.cons (.int .i64) (.cons (.str) .nil))))
abbrev aeR:ak:=(.cons (.int .i64) (.cons (.int .i64) (.cons (.int .i64) (.cons (.str) (.cons (.int .i64) (.cons (.int .i64) (.cons (.str) .nil)))))))
abbrev aeS:ak:=(.cons (.int .u64) .nil)
abbrev acQ:ak:=(.cons (.int .i64) (.cons (.int .i64) .nil))
abbrev aeT:ak:=(.cons (.sl Gv acQ) .nil)
abbrev aeU:ak:=(.cons (.int .i64) (.cons (.int .i64) .nil))
abbrev aeV:ak:=(.cons (.int .u32) .nil)
abbrev aeW:ak:=(.cons (.int .u64) .nil)
abbrev aeX:ak:=(.cons (.int .u16) .nil)
abbrev V6:ak:=(.cons (.int .u16) (.cons (.int .u16) (.cons (.int .u16) .nil)))
abbrev aeY:ak:=(.cons (.sl qf V6) .nil)
abbrev V7:ak:=(.cons (.int .u32) (.cons (.int .u32) (.cons (.int .u32) .nil)))
abbrev aeZ:ak:=(.cons (.sl qg V7) .nil)
abbrev ae0:ak:=(.cons (.sl qf V6) (.cons (.sl qg V7) (.cons (.int .i64) .nil)))
abbrev ae1:ak:=(.cons (.sl qf V6) (.cons (.sl qg V7) (.cons (.int .i64) .nil)))
abbrev ae2:ak:=(.cons (.int .u16) (.cons (.int .u16) (.cons (.int .u16) .nil)))
abbrev ae3:ak:=(.cons (.int .u32) (.cons (.int .u32) (.cons (.int .u32) .nil)))
abbrev ae4:ak:=(.cons (.int .i64) .nil)
abbrev ae5:ak:=(.cons (.int .u8) (.cons (.int .u8) .nil))
abbrev ae6:ak:=(.cons (.int .u8) (.cons (.int .u8) .nil))
abbrev ae7:ak:=(.cons (.str) .nil)
abbrev ae8:ak:=(.cons (.str) .nil)
abbrev ae9:ak:=(.cons (.int .u8) .nil)
abbrev afa:ak:=(.cons (.int .u8) .nil)
abbrev afb:ak:=(.cons (.int .i32) .nil)
abbrev afc:ak:=(.cons (.int .i32) .nil)
def jX:List (Nat×Go.Fw.TI):=[
 (2,⟨.scalar,R_2,8,false⟩),
 (3,⟨.scalar,R_3,8,false⟩),
 (4,⟨.scalar,R_4,1,false⟩),
 (5,⟨.scalar,R_5,1,false⟩),
 (6,⟨.scalar,R_6,1,false⟩),
 (7,⟨.struct [(0,2),(1,3),(2,4),(3,6)],R_7,24,false⟩),
 (8,⟨.struct [(0,2),(1,3),(2,4),(3,6)],R_8,24,false⟩),
 (9,⟨.str,lV,16,false⟩),
 (10,⟨.str,afL,16,false⟩),
 (11,⟨.str,afM,16,false⟩),
 (12,⟨.scalar,afN,8,false⟩),
 (13,⟨.struct [(0,9),(1,12)],afO,24,false⟩),
 (14,⟨.struct [(0,9),(1,12)],afP,24,false⟩),
 (21,⟨.scalar,afQ,4,false⟩),
 (22,⟨.slice fO,afR,24,false⟩),
 (23,⟨.struct [(0,3),(1,3),(2,4),(3,3),(4,22)],afS,56,false⟩),
 (24,⟨.struct [(0,3),(1,3),(2,4),(3,3),(4,22)],afT,56,false⟩),
 (25,⟨.slice fP,afU,24,false⟩),
 (26,⟨.struct [(0,9),(1,25)],afV,40,false⟩),
 (27,⟨.struct [(0,9),(1,25)],afW,40,false⟩),
 (28,⟨.struct [(0,3),(1,24),(6,3),(7,27)],afX,112,false⟩),
 (29,⟨.struct [(0,3),(1,24),(6,3),(7,27)],afY,112,false⟩),
 (32,⟨.slice aZ,af0,24,false⟩),
 (33,⟨.struct [(0,3),(1,3),(2,4),(3,3),(4,32)],af2,56,false⟩),
 (34,⟨.struct [(0,3),(1,3),(2,4),(3,3),(4,32)],af4,56,false⟩),
 (35,⟨.slice aC,af5,24,false⟩),
 (36,⟨.struct [(0,9),(1,35)],af6,40,false⟩),
 (37,⟨.struct [(0,9),(1,35)],af7,40,false⟩),
 (38,⟨.struct [(0,3),(1,34),(6,3),(7,37)],af8,112,false⟩),
 (39,⟨.struct [(0,3),(1,34),(6,3),(7,37)],aae,112,false⟩),
 (47,⟨.slice FN,af9,24,false⟩),
 (51,⟨.slice xk,aga,24,false⟩),
 (52,⟨.struct [(0,3),(1,3),(2,51),(3,9),(4,3)],agb,64,false⟩),
 (53,⟨.struct [(0,3),(1,3),(2,51),(3,9),(4,3)],ad6,64,false⟩),
 (59,⟨.slice Jw,agc,24,false⟩),
 (76,⟨.slice Qd,agd,24,false⟩),
 (77,⟨.slice fF,agf,24,false⟩),
 (81,⟨.struct [(0,3),(1,3),(2,9)],agh,32,false⟩),
 (82,⟨.struct [(0,3),(1,3),(2,9)],afZ,32,true⟩),
 (83,⟨.struct [(0,9),(1,82)],agi,48,true⟩),
 (84,⟨.struct [(0,9),(1,82)],ji,48,true⟩),
 (124,⟨.struct [(0,3),(1,3),(2,3),(3,9),(4,82)],aeL,72,true⟩),
 (125,⟨.struct [(0,3),(1,3),(2,3),(3,9),(4,82)],bC,72,true⟩),
 (149,⟨.struct [(0,77),(1,35)],aeM,48,false⟩),
 (150,⟨.struct [(0,77),(1,35)],aeN,48,false⟩),
 (154,⟨.struct [(0,47),(1,3),(2,3)],aeO,40,false⟩),
 (155,⟨.struct [(0,47),(1,3),(2,3)],aeP,40,false⟩),
 (164,⟨.struct [(0,3),(1,3),(2,9)],aeK,32,false⟩),
 (165,⟨.struct [(0,9),(1,164)],aeQ,48,false⟩),
 (166,⟨.struct [(0,9),(1,164)],dR,48,false⟩),
 (168,⟨.struct [(0,3),(1,3),(2,3),(3,9),(4,164)],aeR,72,false⟩),
 (169,⟨.struct [(0,3),(1,3),(2,3),(3,9),(4,164)],dA,72,false⟩),
 (182,⟨.scalar,aeS,8,false⟩),
 (195,⟨.slice Gv,aeT,24,false⟩),
 (196,⟨.struct [(0,3),(1,3)],aeU,16,false⟩),
 (197,⟨.struct [(0,3),(1,3)],acQ,16,false⟩),
 (198,⟨.scalar,aeV,4,false⟩),
 (204,⟨.scalar,aeW,8,false⟩),
 (209,⟨.slice qf,aeY,24,false⟩),
 (210,⟨.slice qg,aeZ,24,false⟩),
 (211,⟨.struct [(0,209),(1,210),(2,3)],ae0,56,false⟩),
 (212,⟨.struct [(0,209),(1,210),(2,3)],ae1,56,false⟩),
 (213,⟨.scalar,aeX,2,false⟩),
 (214,⟨.struct [(0,213),(1,213),(2,213)],ae2,6,false⟩),
 (215,⟨.struct [(0,213),(1,213),(2,213)],V6,6,false⟩),
 (217,⟨.struct [(0,198),(1,198),(2,198)],ae3,12,false⟩),
 (218,⟨.struct [(0,198),(1,198),(2,198)],V7,12,false⟩),
 (220,⟨.scalar,ae4,8,false⟩),
 (226,⟨.struct [(0,5),(1,5)],ae5,2,false⟩),
 (227,⟨.struct [(0,5),(1,5)],ae6,2,false⟩),
 (246,⟨.struct [(0,9)],ae7,16,false⟩),
 (247,⟨.struct [(0,9)],ae8,16,false⟩),
 (258,⟨.scalar,ae9,1,false⟩),
 (259,⟨.scalar,afa,1,false⟩),
 (261,⟨.scalar,afb,4,false⟩),
 (262,⟨.scalar,afc,4,false⟩)]
def Θ:dZ:=Qw jX
theorem VF:Gj prog jX=true:=by kernel_rfl
theorem mixed:prog.follows .mixedOrders=true:=by kernel_rfl
theorem Xz{w w':World}{name:String}{g:Nat}{cs:Array Value}(hg:prog.globalNamed name=some g)(hk:w'.heap[g]? =w.heap[g]?)(h:World.var? prog w name=some cs):World.var? prog w' name=some cs:=by unfold World.var? at h ⊢;rw[hg]at h ⊢;show(match w'.heap[g]? with|some (.cells cs _ _)=>some cs|_=>none)=_;rw[hk];exact h
def isErr(ev:Value):Prop:=ev=.nilIface\/∃te pe,ev=.iface te pe
def G:fG where
 n:=8
 ok:=λw=>Lib.TabIs prog w "internal/strconv.uint64pow10" .u64 Lib.pow10Tab/\Lib.TabIs prog w "strings.asciiSpace" .u8 Lib.asciiSpaceTab/\
  (∃ev,w.cell? ⟨6,0,none⟩=some ev/\isErr ev)/\(∃ev,w.cell? ⟨7,0,none⟩=some ev/\isErr ev)/\∃m,w.cell? ⟨2,0,none⟩=some (.int .i64 m)
 low:=by
  intro w h;obtain⟨ev,h1,_⟩:=h.2.2.2.1;rcases ahQ 7 w.heap.size with h'|h'
  .exact h'
  .simp[World.cell?,ajD h']at h1
 stable:=by
  intro w w' h hs hk;refine⟨Xz (g:=5) (by kernel_rfl) (hk 5 (by decide)) h.1,Xz (g:=0) (by kernel_rfl) (hk 0 (by decide)) h.2.1,?_,?_,?_⟩
  .obtain⟨ev,h1,h2⟩:=h.2.2.1;exact⟨ev,by rw[ajR (a:=⟨6,0,none⟩) (hk 6 (by decide))];exact h1,h2⟩
  .obtain⟨ev,h1,h2⟩:=h.2.2.2.1;exact⟨ev,by rw[ajR (a:=⟨7,0,none⟩) (hk 7 (by decide))];exact h1,h2⟩
  .obtain⟨m,h1⟩:=h.2.2.2.2;exact⟨m,by rw[ajR (a:=⟨2,0,none⟩) (hk 2 (by decide))];exact h1⟩
abbrev zT:Nat:=113
theorem PG:fH prog zT:=fU (fn:=f113) (by kernel_rfl) (by kernel_rfl)
abbrev mX:Nat:=58
theorem xJ:fH prog mX:=fU (fn:=f58) (by kernel_rfl) (by kernel_rfl)
abbrev yY:Nat:=46
theorem NI:fH prog yY:=fU (fn:=f46) (by kernel_rfl) (by kernel_rfl)
abbrev xI:Nat:=130
theorem Ld:fH prog xI:=fU (fn:=f130) (by kernel_rfl) (by kernel_rfl)
abbrev xH:Nat:=131
theorem Le:fH prog xH:=fU (fn:=f131) (by kernel_rfl) (by kernel_rfl)
abbrev xK:Nat:=114
theorem Lh:fH prog xK:=fU (fn:=f114) (by kernel_rfl) (by kernel_rfl)
abbrev lH:Nat:=114
theorem Ec:fH prog lH:=fU (fn:=f114) (by kernel_rfl) (by kernel_rfl)
abbrev wK:Nat:=114
abbrev zU:Nat:=108
theorem PI:fH prog zU:=fU (fn:=f108) (by kernel_rfl) (by kernel_rfl)
abbrev nU:Nat:=108
theorem Gw:fH prog nU:=fU (fn:=f108) (by kernel_rfl) (by kernel_rfl)
abbrev yZ:Nat:=108
abbrev zV:Nat:=129
theorem PK:fH prog zV:=fU (fn:=f129) (by kernel_rfl) (by kernel_rfl)
abbrev nV:Nat:=129
theorem Gx:fH prog nV:=fU (fn:=f129) (by kernel_rfl) (by kernel_rfl)
abbrev y7:Nat:=129
abbrev vS:Nat:=70
theorem JC:fH prog vS:=fU (fn:=f70) (by kernel_rfl) (by kernel_rfl)
abbrev OK(x:Nat×Ba):Prop:=QG prog G x
theorem aP(l:List (Nat×Ba))(h:Xe prog G l):EnvB prog G Θ (BD l):=abN VF h
end Go.Proofs.Tryz

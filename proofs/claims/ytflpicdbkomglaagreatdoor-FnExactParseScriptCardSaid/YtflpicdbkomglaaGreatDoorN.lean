import Derived.Test.YtflpicdbkomglaaGreatDoorFwC
import Derived.Test.YtflpicdbkomglaaGreatDoorProg
import Derived.Lib.LaidTab
import Derived.Lib.ItoaNum
import Derived.Lib.Space
namespace Go.Proofs.Tryz
open Go Go.Fw
abbrev VL:TypeId:=3
abbrev KF:TypeId:=5
abbrev eF:TypeId:=9
abbrev dU:TypeId:=39
abbrev dV:TypeId:=53
abbrev bG:TypeId:=84
abbrev aI:TypeId:=125
abbrev xZ:TypeId:=166
abbrev x9:TypeId:=169
abbrev Ls:TypeId:=197
abbrev uZ:TypeId:=215
abbrev ve:TypeId:=218
abbrev R_2:aB:=(.cons (.int .i64) .nil)
abbrev R_3:aB:=(.cons (.int .i64) .nil)
abbrev R_4:aB:=(.cons (.bool) .nil)
abbrev R_5:aB:=(.cons (.int .u8) .nil)
abbrev R_6:aB:=(.cons (.int .u8) .nil)
abbrev R_7:aB:=(.cons (.int .i64) (.cons (.int .i64) (.cons (.bool) (.cons (.int .u8) .nil))))
abbrev R_8:aB:=(.cons (.int .i64) (.cons (.int .i64) (.cons (.bool) (.cons (.int .u8) .nil))))
abbrev gm:aB:=(.cons (.str) .nil)
abbrev ali:aB:=(.cons (.str) .nil)
abbrev alj:aB:=(.cons (.str) .nil)
abbrev alk:aB:=(.cons (.int .u64) .nil)
abbrev alm:aB:=(.cons (.str) (.cons (.int .u64) .nil))
abbrev aln:aB:=(.cons (.str) (.cons (.int .u64) .nil))
abbrev alo:aB:=(.cons (.int .i32) .nil)
abbrev ajU:aB:=(.cons (.int .i64) (.cons (.int .i64) (.cons (.str) .nil)))
abbrev gZ:aB:=(.cons (.str) (.cons (.int .i64) (.cons (.int .i64) (.cons (.str) .nil))))
abbrev alp:aB:=(.cons (.sl xZ gZ) .nil)
abbrev alq:aB:=(.cons (.int .i64) (.cons (.int .i64) (.cons (.bool) (.cons (.int .i64) (.cons (.sl xZ gZ) .nil)))))
abbrev alr:aB:=(.cons (.int .i64) (.cons (.int .i64) (.cons (.bool) (.cons (.int .i64) (.cons (.sl xZ gZ) .nil)))))
abbrev gX:aB:=(.cons (.int .i64) (.cons (.int .i64) (.cons (.int .i64) (.cons (.str) (.cons (.int .i64) (.cons (.int .i64) (.cons (.str) .nil)))))))
abbrev als:aB:=(.cons (.sl x9 gX) .nil)
abbrev alu:aB:=(.cons (.str) (.cons (.sl x9 gX) .nil))
abbrev alv:aB:=(.cons (.str) (.cons (.sl x9 gX) .nil))
abbrev alx:aB:=(.cons (.int .i64) (.cons (.int .i64) (.cons (.int .i64) (.cons (.bool) (.cons (.int .i64) (.cons (.sl xZ gZ) (.cons (.int .i64) (.cons (.str) (.cons (.sl x9 gX) .nil)))))))))
abbrev aly:aB:=(.cons (.int .i64) (.cons (.int .i64) (.cons (.int .i64) (.cons (.bool) (.cons (.int .i64) (.cons (.sl xZ gZ) (.cons (.int .i64) (.cons (.str) (.cons (.sl x9 gX) .nil)))))))))
abbrev alz:aB:=(.cons (.int .i64) (.cons (.int .i64) (.cons (.str) .nil)))
abbrev jm:aB:=(.cons (.str) (.cons (.int .i64) (.cons (.int .i64) (.cons (.str) .nil))))
abbrev alA:aB:=(.cons (.sl bG jm) .nil)
abbrev alB:aB:=(.cons (.int .i64) (.cons (.int .i64) (.cons (.bool) (.cons (.int .i64) (.cons (.sl bG jm) .nil)))))
abbrev alC:aB:=(.cons (.int .i64) (.cons (.int .i64) (.cons (.bool) (.cons (.int .i64) (.cons (.sl bG jm) .nil)))))
abbrev bY:aB:=(.cons (.int .i64) (.cons (.int .i64) (.cons (.int .i64) (.cons (.str) (.cons (.int .i64) (.cons (.int .i64) (.cons (.str) .nil)))))))
abbrev alD:aB:=(.cons (.sl aI bY) .nil)
abbrev alE:aB:=(.cons (.str) (.cons (.sl aI bY) .nil))
abbrev alF:aB:=(.cons (.str) (.cons (.sl aI bY) .nil))
abbrev uK:aB:=(.cons (.int .i64) (.cons (.int .i64) (.cons (.int .i64) (.cons (.bool) (.cons (.int .i64) (.cons (.sl bG jm) (.cons (.int .i64) (.cons (.str) (.cons (.sl aI bY) .nil)))))))))
abbrev vK:aB:=(.cons (.int .i64) (.cons (.int .i64) (.cons (.int .i64) (.cons (.bool) (.cons (.int .i64) (.cons (.sl bG jm) (.cons (.int .i64) (.cons (.str) (.cons (.sl aI bY) .nil)))))))))
abbrev alG:aB:=(.cons (.sl KF R_5) .nil)
abbrev alH:aB:=(.cons (.sl dU vK) .nil)
abbrev Ih:aB:=(.cons (.int .i64) (.cons (.int .i64) (.cons (.sl dU vK) (.cons (.str) (.cons (.int .i64) .nil)))))
abbrev vM:aB:=(.cons (.int .i64) (.cons (.int .i64) (.cons (.sl dU vK) (.cons (.str) (.cons (.int .i64) .nil)))))
abbrev alI:aB:=(.cons (.sl dV vM) .nil)
abbrev alJ:aB:=(.cons (.sl VL R_3) .nil)
abbrev alK:aB:=(.cons (.sl eF gm) .nil)
abbrev alL:aB:=(.cons (.int .i64) (.cons (.int .i64) (.cons (.str) .nil)))
abbrev alM:aB:=(.cons (.str) (.cons (.int .i64) (.cons (.int .i64) (.cons (.str) .nil))))
abbrev ajV:aB:=(.cons (.int .i64) (.cons (.int .i64) (.cons (.int .i64) (.cons (.str) (.cons (.int .i64) (.cons (.int .i64) (.cons (.str) .nil)))))))
abbrev ajW:aB:=(.cons (.sl eF gm) (.cons (.sl aI bY) .nil))
abbrev ajX:aB:=(.cons (.sl eF gm) (.cons (.sl aI bY) .nil))
abbrev ajY:aB:=(.cons (.sl KF R_5) (.cons (.int .i64) (.cons (.int .i64) .nil)))
abbrev ajZ:aB:=(.cons (.sl KF R_5) (.cons (.int .i64) (.cons (.int .i64) .nil)))
abbrev aj0:aB:=(.cons (.str) (.cons (.int .i64) (.cons (.int .i64) (.cons (.str) .nil))))
abbrev aj1:aB:=(.cons (.int .i64) (.cons (.int .i64) (.cons (.int .i64) (.cons (.str) (.cons (.int .i64) (.cons (.int .i64) (.cons (.str) .nil)))))))
abbrev aj2:aB:=(.cons (.int .u64) .nil)
abbrev ahI:aB:=(.cons (.int .i64) (.cons (.int .i64) .nil))
abbrev aj3:aB:=(.cons (.sl Ls ahI) .nil)
abbrev aj6:aB:=(.cons (.int .i64) (.cons (.int .i64) .nil))
abbrev aj7:aB:=(.cons (.int .u32) .nil)
abbrev aj8:aB:=(.cons (.int .u64) .nil)
abbrev aj9:aB:=(.cons (.int .u16) .nil)
abbrev aav:aB:=(.cons (.int .u16) (.cons (.int .u16) (.cons (.int .u16) .nil)))
abbrev akb:aB:=(.cons (.sl uZ aav) .nil)
abbrev aaw:aB:=(.cons (.int .u32) (.cons (.int .u32) (.cons (.int .u32) .nil)))
abbrev akc:aB:=(.cons (.sl ve aaw) .nil)
abbrev akd:aB:=(.cons (.sl uZ aav) (.cons (.sl ve aaw) (.cons (.int .i64) .nil)))
abbrev ake:aB:=(.cons (.sl uZ aav) (.cons (.sl ve aaw) (.cons (.int .i64) .nil)))
abbrev akf:aB:=(.cons (.int .u16) (.cons (.int .u16) (.cons (.int .u16) .nil)))
abbrev akg:aB:=(.cons (.int .u32) (.cons (.int .u32) (.cons (.int .u32) .nil)))
abbrev akh:aB:=(.cons (.int .i64) .nil)
abbrev aki:aB:=(.cons (.int .u8) (.cons (.int .u8) .nil))
abbrev akj:aB:=(.cons (.int .u8) (.cons (.int .u8) .nil))
abbrev akk:aB:=(.cons (.str) .nil)
abbrev akl:aB:=(.cons (.str) .nil)
abbrev akm:aB:=(.cons (.int .u8) .nil)
abbrev akn:aB:=(.cons (.int .u8) .nil)
abbrev ako:aB:=(.cons (.int .i32) .nil)
abbrev akp:aB:=(.cons (.int .i32) .nil)
def nS:List (Nat×Go.Fw.TI):=[
 (2,⟨.scalar,R_2,8,false⟩),
 (3,⟨.scalar,R_3,8,false⟩),
 (4,⟨.scalar,R_4,1,false⟩),
 (5,⟨.scalar,R_5,1,false⟩),
 (6,⟨.scalar,R_6,1,false⟩),
 (7,⟨.struct [(0,2),(1,3),(2,4),(3,6)],R_7,24,false⟩),
 (8,⟨.struct [(0,2),(1,3),(2,4),(3,6)],R_8,24,false⟩),
 (9,⟨.str,gm,16,false⟩),
 (10,⟨.str,ali,16,false⟩),
 (11,⟨.str,alj,16,false⟩),
 (12,⟨.scalar,alk,8,false⟩),
 (13,⟨.struct [(0,9),(1,12)],alm,24,false⟩),
 (14,⟨.struct [(0,9),(1,12)],aln,24,false⟩),
 (21,⟨.scalar,alo,4,false⟩),
 (22,⟨.slice xZ,alp,24,false⟩),
 (23,⟨.struct [(0,3),(1,3),(2,4),(3,3),(4,22)],alq,56,false⟩),
 (24,⟨.struct [(0,3),(1,3),(2,4),(3,3),(4,22)],alr,56,false⟩),
 (25,⟨.slice x9,als,24,false⟩),
 (26,⟨.struct [(0,9),(1,25)],alu,40,false⟩),
 (27,⟨.struct [(0,9),(1,25)],alv,40,false⟩),
 (28,⟨.struct [(0,3),(1,24),(6,3),(7,27)],alx,112,false⟩),
 (29,⟨.struct [(0,3),(1,24),(6,3),(7,27)],aly,112,false⟩),
 (32,⟨.slice bG,alA,24,false⟩),
 (33,⟨.struct [(0,3),(1,3),(2,4),(3,3),(4,32)],alB,56,false⟩),
 (34,⟨.struct [(0,3),(1,3),(2,4),(3,3),(4,32)],alC,56,false⟩),
 (35,⟨.slice aI,alD,24,false⟩),
 (36,⟨.struct [(0,9),(1,35)],alE,40,false⟩),
 (37,⟨.struct [(0,9),(1,35)],alF,40,false⟩),
 (38,⟨.struct [(0,3),(1,34),(6,3),(7,37)],uK,112,false⟩),
 (39,⟨.struct [(0,3),(1,34),(6,3),(7,37)],vK,112,false⟩),
 (47,⟨.slice KF,alG,24,false⟩),
 (51,⟨.slice dU,alH,24,false⟩),
 (52,⟨.struct [(0,3),(1,3),(2,51),(3,9),(4,3)],Ih,64,false⟩),
 (53,⟨.struct [(0,3),(1,3),(2,51),(3,9),(4,3)],vM,64,false⟩),
 (59,⟨.slice dV,alI,24,false⟩),
 (76,⟨.slice VL,alJ,24,false⟩),
 (77,⟨.slice eF,alK,24,false⟩),
 (81,⟨.struct [(0,3),(1,3),(2,9)],alL,32,false⟩),
 (82,⟨.struct [(0,3),(1,3),(2,9)],alz,32,true⟩),
 (83,⟨.struct [(0,9),(1,82)],alM,48,true⟩),
 (84,⟨.struct [(0,9),(1,82)],jm,48,true⟩),
 (124,⟨.struct [(0,3),(1,3),(2,3),(3,9),(4,82)],ajV,72,true⟩),
 (125,⟨.struct [(0,3),(1,3),(2,3),(3,9),(4,82)],bY,72,true⟩),
 (149,⟨.struct [(0,77),(1,35)],ajW,48,false⟩),
 (150,⟨.struct [(0,77),(1,35)],ajX,48,false⟩),
 (154,⟨.struct [(0,47),(1,3),(2,3)],ajY,40,false⟩),
 (155,⟨.struct [(0,47),(1,3),(2,3)],ajZ,40,false⟩),
 (164,⟨.struct [(0,3),(1,3),(2,9)],ajU,32,false⟩),
 (165,⟨.struct [(0,9),(1,164)],aj0,48,false⟩),
 (166,⟨.struct [(0,9),(1,164)],gZ,48,false⟩),
 (168,⟨.struct [(0,3),(1,3),(2,3),(3,9),(4,164)],aj1,72,false⟩),
 (169,⟨.struct [(0,3),(1,3),(2,3),(3,9),(4,164)],gX,72,false⟩),
 (182,⟨.scalar,aj2,8,false⟩),
 (195,⟨.slice Ls,aj3,24,false⟩),
 (196,⟨.struct [(0,3),(1,3)],aj6,16,false⟩),
 (197,⟨.struct [(0,3),(1,3)],ahI,16,false⟩),
 (198,⟨.scalar,aj7,4,false⟩),
 (204,⟨.scalar,aj8,8,false⟩),
 (209,⟨.slice uZ,akb,24,false⟩),
 (210,⟨.slice ve,akc,24,false⟩),
 (211,⟨.struct [(0,209),(1,210),(2,3)],akd,56,false⟩),
 (212,⟨.struct [(0,209),(1,210),(2,3)],ake,56,false⟩),
 (213,⟨.scalar,aj9,2,false⟩),
 (214,⟨.struct [(0,213),(1,213),(2,213)],akf,6,false⟩),
 (215,⟨.struct [(0,213),(1,213),(2,213)],aav,6,false⟩),
 (217,⟨.struct [(0,198),(1,198),(2,198)],akg,12,false⟩),
 (218,⟨.struct [(0,198),(1,198),(2,198)],aaw,12,false⟩),
 (220,⟨.scalar,akh,8,false⟩),
 (226,⟨.struct [(0,5),(1,5)],aki,2,false⟩),
 (227,⟨.struct [(0,5),(1,5)],akj,2,false⟩),
 (246,⟨.struct [(0,9)],akk,16,false⟩),
 (247,⟨.struct [(0,9)],akl,16,false⟩),
 (258,⟨.scalar,akm,1,false⟩),
 (259,⟨.scalar,akn,1,false⟩),
 (261,⟨.scalar,ako,4,false⟩),
 (262,⟨.scalar,akp,4,false⟩)]
def Θ:iF:=V7 nS
theorem Z8:Ld prog nS=true:=by kernel_rfl
theorem mixed:prog.follows .mixedOrders=true:=by kernel_rfl
theorem abB{w w':World}{name:String}{g:Nat}{cs:Array Value}(hg:prog.globalNamed name=some g)(hk:w'.heap[g]? =w.heap[g]?)(h:World.var? prog w name=some cs):World.var? prog w' name=some cs:=by unfold World.var? at h ⊢;rw[hg]at h ⊢;show(match w'.heap[g]? with|some (.cells cs _ _)=>some cs|_=>none)=_;rw[hk];exact h
def isErr(ev:Value):Prop:=ev=.nilIface\/∃te pe,ev=.iface te pe
def G:jg where
 n:=8
 ok:=λw=>Lib.TabIs prog w "internal/strconv.uint64pow10" .u64 Lib.pow10Tab/\Lib.TabIs prog w "strings.asciiSpace" .u8 Lib.asciiSpaceTab/\
  (∃ev,w.cell? ⟨6,0,none⟩=some ev/\isErr ev)/\(∃ev,w.cell? ⟨7,0,none⟩=some ev/\isErr ev)/\∃m,w.cell? ⟨2,0,none⟩=some (.int .i64 m)
 low:=by
  intro w h;obtain⟨ev,h1,_⟩:=h.2.2.2.1;rcases anL 7 w.heap.size with h'|h'
  .exact h'
  .simp[World.cell?,ap0 h']at h1
 stable:=by
  intro w w' h hs hk;refine⟨abB (g:=5) (by kernel_rfl) (hk 5 (by decide)) h.1,abB (g:=0) (by kernel_rfl) (hk 0 (by decide)) h.2.1,?_,?_,?_⟩
  .obtain⟨ev,h1,h2⟩:=h.2.2.1;exact⟨ev,by rw[aqb (a:=⟨6,0,none⟩) (hk 6 (by decide))];exact h1,h2⟩
  .obtain⟨ev,h1,h2⟩:=h.2.2.2.1;exact⟨ev,by rw[aqb (a:=⟨7,0,none⟩) (hk 7 (by decide))];exact h1,h2⟩
  .obtain⟨m,h1⟩:=h.2.2.2.2;exact⟨m,by rw[aqb (a:=⟨2,0,none⟩) (hk 2 (by decide))];exact h1⟩
abbrev Eg:Nat:=113
theorem Vh:iQ prog Eg:=iV (fn:=f113) (by kernel_rfl) (by kernel_rfl)
abbrev lZ:Nat:=58
theorem rJ:iQ prog lZ:=iV (fn:=f58) (by kernel_rfl) (by kernel_rfl)
abbrev Dl:Nat:=46
theorem Tn:iQ prog Dl:=iV (fn:=f46) (by kernel_rfl) (by kernel_rfl)
abbrev wY:Nat:=130
theorem EZ:iQ prog wY:=iV (fn:=f130) (by kernel_rfl) (by kernel_rfl)
abbrev rH:Nat:=131
theorem yV:iQ prog rH:=iV (fn:=f131) (by kernel_rfl) (by kernel_rfl)
abbrev Bv:Nat:=114
theorem QJ:iQ prog Bv:=iV (fn:=f114) (by kernel_rfl) (by kernel_rfl)
abbrev pG:Nat:=114
theorem I8:iQ prog pG:=iV (fn:=f114) (by kernel_rfl) (by kernel_rfl)
abbrev Az:Nat:=114
abbrev Eh:Nat:=108
theorem Vj:iQ prog Eh:=iV (fn:=f108) (by kernel_rfl) (by kernel_rfl)
abbrev sG:Nat:=108
theorem Lu:iQ prog sG:=iV (fn:=f108) (by kernel_rfl) (by kernel_rfl)
abbrev Dn:Nat:=108
abbrev Ei:Nat:=129
theorem Vk:iQ prog Ei:=iV (fn:=f129) (by kernel_rfl) (by kernel_rfl)
abbrev sH:Nat:=129
theorem LC:iQ prog sH:=iV (fn:=f129) (by kernel_rfl) (by kernel_rfl)
abbrev Dp:Nat:=129
abbrev zZ:Nat:=70
theorem OZ:iQ prog zZ:=iV (fn:=f70) (by kernel_rfl) (by kernel_rfl)
abbrev uM:Nat:=70
theorem Ii:iQ prog uM:=iV (fn:=f70) (by kernel_rfl) (by kernel_rfl)
abbrev OK(x:Nat×FH):Prop:=Wq prog G x
theorem aY(l:List (Nat×FH))(h:abf prog G l):EnvB prog G Θ (F5 l):=agI Z8 h
end Go.Proofs.Tryz

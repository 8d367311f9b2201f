import Derived.Test.YtflpicdbkomglaaGreatDoorFwC
import Derived.Test.YtflpicdbkomglaaGreatDoorProg
import Derived.Lib.LaidTab
import Derived.Lib.ItoaNum
import Derived.Lib.Space
namespace Go.Proofs.Tryz
open Go Go.Fw
abbrev Tf:TypeId:=3
abbrev dH:TypeId:=5
abbrev eu:TypeId:=9
abbrev dS:TypeId:=39
abbrev Pq:TypeId:=53
abbrev bC:TypeId:=84
abbrev aF:TypeId:=125
abbrev yJ:TypeId:=166
abbrev yK:TypeId:=169
abbrev Me:TypeId:=197
abbrev vU:TypeId:=215
abbrev vV:TypeId:=218
abbrev R_2:ax:=(.cons (.int .i64) .nil)
abbrev R_3:ax:=(.cons (.int .i64) .nil)
abbrev R_4:ax:=(.cons (.bool) .nil)
abbrev jR:ax:=(.cons (.int .u8) .nil)
abbrev R_6:ax:=(.cons (.int .u8) .nil)
abbrev R_7:ax:=(.cons (.int .i64) (.cons (.int .i64) (.cons (.bool) (.cons (.int .u8) .nil))))
abbrev R_8:ax:=(.cons (.int .i64) (.cons (.int .i64) (.cons (.bool) (.cons (.int .u8) .nil))))
abbrev iw:ax:=(.cons (.str) .nil)
abbrev ak1:ax:=(.cons (.str) .nil)
abbrev ak2:ax:=(.cons (.str) .nil)
abbrev ak3:ax:=(.cons (.int .u64) .nil)
abbrev ak4:ax:=(.cons (.str) (.cons (.int .u64) .nil))
abbrev ak5:ax:=(.cons (.str) (.cons (.int .u64) .nil))
abbrev ak6:ax:=(.cons (.int .i32) .nil)
abbrev ajJ:ax:=(.cons (.int .i64) (.cons (.int .i64) (.cons (.str) .nil)))
abbrev dV:ax:=(.cons (.str) (.cons (.int .i64) (.cons (.int .i64) (.cons (.str) .nil))))
abbrev ak7:ax:=(.cons (.sl yJ dV) .nil)
abbrev ak8:ax:=(.cons (.int .i64) (.cons (.int .i64) (.cons (.bool) (.cons (.int .i64) (.cons (.sl yJ dV) .nil)))))
abbrev ak9:ax:=(.cons (.int .i64) (.cons (.int .i64) (.cons (.bool) (.cons (.int .i64) (.cons (.sl yJ dV) .nil)))))
abbrev gX:ax:=(.cons (.int .i64) (.cons (.int .i64) (.cons (.int .i64) (.cons (.str) (.cons (.int .i64) (.cons (.int .i64) (.cons (.str) .nil)))))))
abbrev ala:ax:=(.cons (.sl yK gX) .nil)
abbrev alb:ax:=(.cons (.str) (.cons (.sl yK gX) .nil))
abbrev alc:ax:=(.cons (.str) (.cons (.sl yK gX) .nil))
abbrev ald:ax:=(.cons (.int .i64) (.cons (.int .i64) (.cons (.int .i64) (.cons (.bool) (.cons (.int .i64) (.cons (.sl yJ dV) (.cons (.int .i64) (.cons (.str) (.cons (.sl yK gX) .nil)))))))))
abbrev ale:ax:=(.cons (.int .i64) (.cons (.int .i64) (.cons (.int .i64) (.cons (.bool) (.cons (.int .i64) (.cons (.sl yJ dV) (.cons (.int .i64) (.cons (.str) (.cons (.sl yK gX) .nil)))))))))
abbrev alf:ax:=(.cons (.int .i64) (.cons (.int .i64) (.cons (.str) .nil)))
abbrev jy:ax:=(.cons (.str) (.cons (.int .i64) (.cons (.int .i64) (.cons (.str) .nil))))
abbrev alg:ax:=(.cons (.sl bC jy) .nil)
abbrev alh:ax:=(.cons (.int .i64) (.cons (.int .i64) (.cons (.bool) (.cons (.int .i64) (.cons (.sl bC jy) .nil)))))
abbrev ali:ax:=(.cons (.int .i64) (.cons (.int .i64) (.cons (.bool) (.cons (.int .i64) (.cons (.sl bC jy) .nil)))))
abbrev bM:ax:=(.cons (.int .i64) (.cons (.int .i64) (.cons (.int .i64) (.cons (.str) (.cons (.int .i64) (.cons (.int .i64) (.cons (.str) .nil)))))))
abbrev alj:ax:=(.cons (.sl aF bM) .nil)
abbrev alk:ax:=(.cons (.str) (.cons (.sl aF bM) .nil))
abbrev alm:ax:=(.cons (.str) (.cons (.sl aF bM) .nil))
abbrev wQ:ax:=(.cons (.int .i64) (.cons (.int .i64) (.cons (.int .i64) (.cons (.bool) (.cons (.int .i64) (.cons (.sl bC jy) (.cons (.int .i64) (.cons (.str) (.cons (.sl aF bM) .nil)))))))))
abbrev yP:ax:=(.cons (.int .i64) (.cons (.int .i64) (.cons (.int .i64) (.cons (.bool) (.cons (.int .i64) (.cons (.sl bC jy) (.cons (.int .i64) (.cons (.str) (.cons (.sl aF bM) .nil)))))))))
abbrev aln:ax:=(.cons (.sl dH jR) .nil)
abbrev alo:ax:=(.cons (.sl dS yP) .nil)
abbrev alp:ax:=(.cons (.int .i64) (.cons (.int .i64) (.cons (.sl dS yP) (.cons (.str) (.cons (.int .i64) .nil)))))
abbrev ai0:ax:=(.cons (.int .i64) (.cons (.int .i64) (.cons (.sl dS yP) (.cons (.str) (.cons (.int .i64) .nil)))))
abbrev alq:ax:=(.cons (.sl Pq ai0) .nil)
abbrev alr:ax:=(.cons (.sl Tf R_3) .nil)
abbrev als:ax:=(.cons (.sl eu iw) .nil)
abbrev alu:ax:=(.cons (.int .i64) (.cons (.int .i64) (.cons (.str) .nil)))
abbrev alv:ax:=(.cons (.str) (.cons (.int .i64) (.cons (.int .i64) (.cons (.str) .nil))))
abbrev ajK:ax:=(.cons (.int .i64) (.cons (.int .i64) (.cons (.int .i64) (.cons (.str) (.cons (.int .i64) (.cons (.int .i64) (.cons (.str) .nil)))))))
abbrev ajL:ax:=(.cons (.sl eu iw) (.cons (.sl aF bM) .nil))
abbrev ajM:ax:=(.cons (.sl eu iw) (.cons (.sl aF bM) .nil))
abbrev ajN:ax:=(.cons (.sl dH jR) (.cons (.int .i64) (.cons (.int .i64) .nil)))
abbrev ajO:ax:=(.cons (.sl dH jR) (.cons (.int .i64) (.cons (.int .i64) .nil)))
abbrev ajP:ax:=(.cons (.str) (.cons (.int .i64) (.cons (.int .i64) (.cons (.str) .nil))))
abbrev ajQ:ax:=(.cons (.int .i64) (.cons (.int .i64) (.cons (.int .i64) (.cons (.str) (.cons (.int .i64) (.cons (.int .i64) (.cons (.str) .nil)))))))
abbrev ajR:ax:=(.cons (.int .u64) .nil)
abbrev ahO:ax:=(.cons (.int .i64) (.cons (.int .i64) .nil))
abbrev ajS:ax:=(.cons (.sl Me ahO) .nil)
abbrev ajT:ax:=(.cons (.int .i64) (.cons (.int .i64) .nil))
abbrev ajU:ax:=(.cons (.int .u32) .nil)
abbrev ajV:ax:=(.cons (.int .u64) .nil)
abbrev ajW:ax:=(.cons (.int .u16) .nil)
abbrev aa7:ax:=(.cons (.int .u16) (.cons (.int .u16) (.cons (.int .u16) .nil)))
abbrev ajX:ax:=(.cons (.sl vU aa7) .nil)
abbrev aa8:ax:=(.cons (.int .u32) (.cons (.int .u32) (.cons (.int .u32) .nil)))
abbrev ajY:ax:=(.cons (.sl vV aa8) .nil)
abbrev ajZ:ax:=(.cons (.sl vU aa7) (.cons (.sl vV aa8) (.cons (.int .i64) .nil)))
abbrev aj0:ax:=(.cons (.sl vU aa7) (.cons (.sl vV aa8) (.cons (.int .i64) .nil)))
abbrev aj1:ax:=(.cons (.int .u16) (.cons (.int .u16) (.cons (.int .u16) .nil)))
abbrev aj2:ax:=(.cons (.int .u32) (.cons (.int .u32) (.cons (.int .u32) .nil)))
abbrev aj3:ax:=(.cons (.int .i64) .nil)
abbrev aj6:ax:=(.cons (.int .u8) (.cons (.int .u8) .nil))
abbrev aj7:ax:=(.cons (.int .u8) (.cons (.int .u8) .nil))
abbrev aj8:ax:=(.cons (.str) .nil)
abbrev aj9:ax:=(.cons (.str) .nil)
abbrev akb:ax:=(.cons (.int .u8) .nil)
abbrev akc:ax:=(.cons (.int .u8) .nil)
abbrev akd:ax:=(.cons (.int .i32) .nil)
abbrev ake:ax:=(.cons (.int .i32) .nil)
def oz:List (Nat×Go.Fw.TI):=[
 (2,⟨.scalar,R_2,8,false⟩),
 (3,⟨.scalar,R_3,8,false⟩),
 (4,⟨.scalar,R_4,1,false⟩),
 (5,⟨.scalar,jR,1,false⟩),
 (6,⟨.scalar,R_6,1,false⟩),
 (7,⟨.struct [(0,2),(1,3),(2,4),(3,6)],R_7,24,false⟩),
 (8,⟨.struct [(0,2),(1,3),(2,4),(3,6)],R_8,24,false⟩),
 (9,⟨.str,iw,16,false⟩),
 (10,⟨.str,ak1,16,false⟩),
 (11,⟨.str,ak2,16,false⟩),
 (12,⟨.scalar,ak3,8,false⟩),
 (13,⟨.struct [(0,9),(1,12)],ak4,24,false⟩),
 (14,⟨.struct [(0,9),(1,12)],ak5,24,false⟩),
 (21,⟨.scalar,ak6,4,false⟩),
 (22,⟨.slice yJ,ak7,24,false⟩),
 (23,⟨.struct [(0,3),(1,3),(2,4),(3,3),(4,22)],ak8,56,false⟩),
 (24,⟨.struct [(0,3),(1,3),(2,4),(3,3),(4,22)],ak9,56,false⟩),
 (25,⟨.slice yK,ala,24,false⟩),
 (26,⟨.struct [(0,9),(1,25)],alb,40,false⟩),
 (27,⟨.struct [(0,9),(1,25)],alc,40,false⟩),
 (28,⟨.struct [(0,3),(1,24),(6,3),(7,27)],ald,112,false⟩),
 (29,⟨.struct [(0,3),(1,24),(6,3),(7,27)],ale,112,false⟩),
 (32,⟨.slice bC,alg,24,false⟩),
 (33,⟨.struct [(0,3),(1,3),(2,4),(3,3),(4,32)],alh,56,false⟩),
 (34,⟨.struct [(0,3),(1,3),(2,4),(3,3),(4,32)],ali,56,false⟩),
 (35,⟨.slice aF,alj,24,false⟩),
 (36,⟨.struct [(0,9),(1,35)],alk,40,false⟩),
 (37,⟨.struct [(0,9),(1,35)],alm,40,false⟩),
 (38,⟨.struct [(0,3),(1,34),(6,3),(7,37)],wQ,112,false⟩),
 (39,⟨.struct [(0,3),(1,34),(6,3),(7,37)],yP,112,false⟩),
 (47,⟨.slice dH,aln,24,false⟩),
 (51,⟨.slice dS,alo,24,false⟩),
 (52,⟨.struct [(0,3),(1,3),(2,51),(3,9),(4,3)],alp,64,false⟩),
 (53,⟨.struct [(0,3),(1,3),(2,51),(3,9),(4,3)],ai0,64,false⟩),
 (59,⟨.slice Pq,alq,24,false⟩),
 (76,⟨.slice Tf,alr,24,false⟩),
 (77,⟨.slice eu,als,24,false⟩),
 (81,⟨.struct [(0,3),(1,3),(2,9)],alu,32,false⟩),
 (82,⟨.struct [(0,3),(1,3),(2,9)],alf,32,true⟩),
 (83,⟨.struct [(0,9),(1,82)],alv,48,true⟩),
 (84,⟨.struct [(0,9),(1,82)],jy,48,true⟩),
 (124,⟨.struct [(0,3),(1,3),(2,3),(3,9),(4,82)],ajK,72,true⟩),
 (125,⟨.struct [(0,3),(1,3),(2,3),(3,9),(4,82)],bM,72,true⟩),
 (149,⟨.struct [(0,77),(1,35)],ajL,48,false⟩),
 (150,⟨.struct [(0,77),(1,35)],ajM,48,false⟩),
 (154,⟨.struct [(0,47),(1,3),(2,3)],ajN,40,false⟩),
 (155,⟨.struct [(0,47),(1,3),(2,3)],ajO,40,false⟩),
 (164,⟨.struct [(0,3),(1,3),(2,9)],ajJ,32,false⟩),
 (165,⟨.struct [(0,9),(1,164)],ajP,48,false⟩),
 (166,⟨.struct [(0,9),(1,164)],dV,48,false⟩),
 (168,⟨.struct [(0,3),(1,3),(2,3),(3,9),(4,164)],ajQ,72,false⟩),
 (169,⟨.struct [(0,3),(1,3),(2,3),(3,9),(4,164)],gX,72,false⟩),
 (182,⟨.scalar,ajR,8,false⟩),
 (195,⟨.slice Me,ajS,24,false⟩),
 (196,⟨.struct [(0,3),(1,3)],ajT,16,false⟩),
 (197,⟨.struct [(0,3),(1,3)],ahO,16,false⟩),
 (198,⟨.scalar,ajU,4,false⟩),
 (204,⟨.scalar,ajV,8,false⟩),
 (209,⟨.slice vU,ajX,24,false⟩),
 (210,⟨.slice vV,ajY,24,false⟩),
 (211,⟨.struct [(0,209),(1,210),(2,3)],ajZ,56,false⟩),
 (212,⟨.struct [(0,209),(1,210),(2,3)],aj0,56,false⟩),
 (213,⟨.scalar,ajW,2,false⟩),
 (214,⟨.struct [(0,213),(1,213),(2,213)],aj1,6,false⟩),
 (215,⟨.struct [(0,213),(1,213),(2,213)],aa7,6,false⟩),
 (217,⟨.struct [(0,198),(1,198),(2,198)],aj2,12,false⟩),
 (218,⟨.struct [(0,198),(1,198),(2,198)],aa8,12,false⟩),
 (220,⟨.scalar,aj3,8,false⟩),
 (226,⟨.struct [(0,5),(1,5)],aj6,2,false⟩),
 (227,⟨.struct [(0,5),(1,5)],aj7,2,false⟩),
 (246,⟨.struct [(0,9)],aj8,16,false⟩),
 (247,⟨.struct [(0,9)],aj9,16,false⟩),
 (258,⟨.scalar,akb,1,false⟩),
 (259,⟨.scalar,akc,1,false⟩),
 (261,⟨.scalar,akd,4,false⟩),
 (262,⟨.scalar,ake,4,false⟩)]
def Θ:iH:=WN oz
theorem aaI:LX prog oz=true:=by kernel_rfl
theorem mixed:prog.follows .mixedOrders=true:=by kernel_rfl
theorem acg{w w':World}{name:String}{g:Nat}{cs:Array Value}(hg:prog.globalNamed name=some g)(hk:w'.heap[g]? =w.heap[g]?)(h:World.var? prog w name=some cs):World.var? prog w' name=some cs:=by unfold World.var? at h ⊢;rw[hg]at h ⊢;show(match w'.heap[g]? with|some (.cells cs _ _)=>some cs|_=>none)=_;rw[hk];exact h
def isErr(ev:Value):Prop:=ev=.nilIface\/∃te pe,ev=.iface te pe
def G:jv where
 n:=8
 ok:=λw=>Lib.TabIs prog w "internal/strconv.uint64pow10" .u64 Lib.pow10Tab/\Lib.TabIs prog w "strings.asciiSpace" .u8 Lib.asciiSpaceTab/\
  (∃ev,w.cell? ⟨6,0,none⟩=some ev/\isErr ev)/\(∃ev,w.cell? ⟨7,0,none⟩=some ev/\isErr ev)/\∃m,w.cell? ⟨2,0,none⟩=some (.int .i64 m)
 low:=by
  intro w h;obtain⟨ev,h1,_⟩:=h.2.2.2.1;rcases anL 7 w.heap.size with h'|h'
  .exact h'
  .simp[World.cell?,apI h']at h1
 stable:=by
  intro w w' h hs hk;refine⟨acg (g:=5) (by kernel_rfl) (hk 5 (by decide)) h.1,acg (g:=0) (by kernel_rfl) (hk 0 (by decide)) h.2.1,?_,?_,?_⟩
  .obtain⟨ev,h1,h2⟩:=h.2.2.1;exact⟨ev,by rw[apV (a:=⟨6,0,none⟩) (hk 6 (by decide))];exact h1,h2⟩
  .obtain⟨ev,h1,h2⟩:=h.2.2.2.1;exact⟨ev,by rw[apV (a:=⟨7,0,none⟩) (hk 7 (by decide))];exact h1,h2⟩
  .obtain⟨m,h1⟩:=h.2.2.2.2;exact⟨m,by rw[apV (a:=⟨2,0,none⟩) (hk 2 (by decide))];exact h1⟩
abbrev Y0:Nat:=177
abbrev tJ:Nat:=177
theorem MB:iI prog tJ:=iJ (fn:=f177) (by kernel_rfl) (by kernel_rfl)
abbrev DW:Nat:=177
abbrev yS:Nat:=177
theorem MC:iI prog yS:=iJ (fn:=f177) (by kernel_rfl) (by kernel_rfl)
abbrev EK:Nat:=113
theorem VQ:iI prog EK:=iJ (fn:=f113) (by kernel_rfl) (by kernel_rfl)
abbrev mX:Nat:=58
theorem sS:iI prog mX:=iJ (fn:=f58) (by kernel_rfl) (by kernel_rfl)
abbrev DV:Nat:=46
theorem Ug:iI prog DV:=iJ (fn:=f46) (by kernel_rfl) (by kernel_rfl)
abbrev xK:Nat:=130
theorem FU:iI prog xK:=iJ (fn:=f130) (by kernel_rfl) (by kernel_rfl)
abbrev sQ:Nat:=131
theorem zG:iI prog sQ:=iJ (fn:=f131) (by kernel_rfl) (by kernel_rfl)
abbrev Cb:Nat:=114
theorem Rq:iI prog Cb:=iJ (fn:=f114) (by kernel_rfl) (by kernel_rfl)
abbrev qx:Nat:=114
theorem Jy:iI prog qx:=iJ (fn:=f114) (by kernel_rfl) (by kernel_rfl)
abbrev Bv:Nat:=114
abbrev EL:Nat:=108
theorem VR:iI prog EL:=iJ (fn:=f108) (by kernel_rfl) (by kernel_rfl)
abbrev tK:Nat:=108
theorem MF:iI prog tK:=iJ (fn:=f108) (by kernel_rfl) (by kernel_rfl)
abbrev DX:Nat:=108
abbrev EM:Nat:=129
theorem VS:iI prog EM:=iJ (fn:=f129) (by kernel_rfl) (by kernel_rfl)
abbrev tN:Nat:=129
theorem MG:iI prog tN:=iJ (fn:=f129) (by kernel_rfl) (by kernel_rfl)
abbrev DY:Nat:=129
abbrev vW:Nat:=70
theorem Et:iI prog vW:=iJ (fn:=f70) (by kernel_rfl) (by kernel_rfl)
abbrev OK(x:Nat×Gt):Prop:=WX prog G x
theorem aQ(l:List (Nat×Gt))(h:abS prog G l):EnvB prog G Θ (EY l):=agW aaI h
end Go.Proofs.Tryz

import Derived.Test.YtlmamafnoigopaaGreatDoorFwC
import Derived.Test.YtlmamafnoigopaaGreatDoorProg
import Derived.Lib.LaidTab
import Derived.Lib.ItoaNum
namespace Go.Proofs.Tryz
open Go Go.Fw
abbrev bg:TypeId:=3
abbrev ZN:TypeId:=4
abbrev aiQ:TypeId:=5
abbrev dF:TypeId:=9
abbrev iH:TypeId:=69
abbrev ji:TypeId:=90
abbrev kY:TypeId:=94
abbrev aN:TypeId:=102
abbrev iG:TypeId:=106
abbrev fU:TypeId:=113
abbrev fE:TypeId:=132
abbrev gJ:TypeId:=135
abbrev aU:TypeId:=148
abbrev ax:TypeId:=161
abbrev aC:TypeId:=164
abbrev cZ:TypeId:=167
abbrev dJ:TypeId:=171
abbrev oO:TypeId:=174
abbrev bI:TypeId:=203
abbrev bF:TypeId:=205
abbrev qJ:TypeId:=210
abbrev qI:TypeId:=243
abbrev jm:ak:=(.cons (.int .i64) .nil)
abbrev dN:ak:=(.cons (.int .i64) .nil)
abbrev R_4:ak:=(.cons (.bool) .nil)
abbrev R_5:ak:=(.cons (.int .u8) .nil)
abbrev R_6:ak:=(.cons (.int .u8) .nil)
abbrev R_7:ak:=(.cons (.int .i64) (.cons (.int .i64) (.cons (.bool) (.cons (.int .u8) .nil))))
abbrev R_8:ak:=(.cons (.int .i64) (.cons (.int .i64) (.cons (.bool) (.cons (.int .u8) .nil))))
abbrev fO:ak:=(.cons (.str) .nil)
abbrev aqO:ak:=(.cons (.str) .nil)
abbrev aqP:ak:=(.cons (.str) .nil)
abbrev aqQ:ak:=(.cons (.int .u64) .nil)
abbrev aqR:ak:=(.cons (.str) (.cons (.int .u64) .nil))
abbrev aqS:ak:=(.cons (.str) (.cons (.int .u64) .nil))
abbrev aqT:ak:=(.cons (.int .i32) .nil)
abbrev cu:ak:=(.cons (.str) (.cons (.int .i64) .nil))
abbrev aqU:ak:=(.cons (.sl cZ cu) .nil)
abbrev apr:ak:=(.cons (.int .i64) (.cons (.int .i64) (.cons (.str) .nil)))
abbrev rO:ak:=(.cons (.str) (.cons (.int .i64) (.cons (.int .i64) (.cons (.str) .nil))))
abbrev aps:ak:=(.cons (.sl qI rO) .nil)
abbrev jE:ak:=(.cons (.int .i64) (.cons (.int .i64) (.cons (.bool) (.cons (.int .i64) (.cons (.sl qI rO) .nil)))))
abbrev aqV:ak:=(.cons (.sl dJ jE) .nil)
abbrev aqW:ak:=(.cons (.sl cZ cu) (.cons (.sl dJ jE) (.cons (.int .i64) .nil)))
abbrev aqX:ak:=(.cons (.sl cZ cu) (.cons (.sl dJ jE) (.cons (.int .i64) .nil)))
abbrev kJ:ak:=(.cons (.int .i64) (.cons (.int .i64) (.cons (.int .i64) (.cons (.str) (.cons (.int .i64) (.cons (.int .i64) (.cons (.str) .nil)))))))
abbrev apt:ak:=(.cons (.sl qJ kJ) .nil)
abbrev lW:ak:=(.cons (.str) (.cons (.sl qJ kJ) .nil))
abbrev aqY:ak:=(.cons (.sl fE lW) .nil)
abbrev aqZ:ak:=(.cons (.sl bg dN) .nil)
abbrev iy:ak:=(.cons (.str) (.cons (.sl bg dN) .nil))
abbrev aq0:ak:=(.cons (.sl gJ iy) .nil)
abbrev aq1:ak:=(.cons (.sl cZ cu) (.cons (.sl dJ jE) (.cons (.int .i64) (.cons (.sl fE lW) (.cons (.sl gJ iy) .nil)))))
abbrev aq2:ak:=(.cons (.sl cZ cu) (.cons (.sl dJ jE) (.cons (.int .i64) (.cons (.sl fE lW) (.cons (.sl gJ iy) .nil)))))
abbrev aq3:ak:=(.cons (.str) (.cons (.str) .nil))
abbrev aq4:ak:=(.cons (.str) (.cons (.str) .nil))
abbrev aq5:ak:=(.cons (.sl cZ cu) (.cons (.sl dJ jE) (.cons (.int .i64) (.cons (.sl fE lW) .nil))))
abbrev HY:ak:=(.cons (.int .i64) (.cons (.sl cZ cu) (.cons (.sl dJ jE) (.cons (.int .i64) (.cons (.sl fE lW) (.cons (.int .i64) .nil))))))
abbrev aq6:ak:=(.cons (.sl ji HY) .nil)
abbrev wZ:ak:=(.cons (.int .i64) (.cons (.sl bg dN) (.cons (.sl bg dN) .nil)))
abbrev aq7:ak:=(.cons (.sl oO wZ) .nil)
abbrev H6:ak:=(.cons (.int .i64) (.cons (.str) (.cons (.sl bg dN) (.cons (.sl oO wZ) .nil))))
abbrev aq8:ak:=(.cons (.sl kY H6) .nil)
abbrev aq9:ak:=(.cons (.sl cZ cu) (.cons (.sl dJ jE) (.cons (.int .i64) (.cons (.sl fE lW) (.cons (.sl gJ iy) (.cons (.str) (.cons (.str) (.cons (.int .i64) (.cons (.sl ji HY) (.cons (.sl kY H6) (.cons (.sl bg dN) .nil)))))))))))
abbrev adl:ak:=(.cons (.sl cZ cu) (.cons (.sl dJ jE) (.cons (.int .i64) (.cons (.sl fE lW) (.cons (.sl gJ iy) (.cons (.str) (.cons (.str) (.cons (.int .i64) (.cons (.sl ji HY) (.cons (.sl kY H6) (.cons (.sl bg dN) .nil)))))))))))
abbrev ara:ak:=(.cons (.sl dF fO) .nil)
abbrev bM:ak:=(.cons (.str) (.cons (.int .i64) .nil))
abbrev arb:ak:=(.cons (.sl ax bM) .nil)
abbrev apu:ak:=(.cons (.int .i64) (.cons (.int .i64) (.cons (.str) .nil)))
abbrev gI:ak:=(.cons (.str) (.cons (.int .i64) (.cons (.int .i64) (.cons (.str) .nil))))
abbrev apv:ak:=(.cons (.sl bF gI) .nil)
abbrev aX:ak:=(.cons (.int .i64) (.cons (.int .i64) (.cons (.bool) (.cons (.int .i64) (.cons (.sl bF gI) .nil)))))
abbrev ard:ak:=(.cons (.sl aC aX) .nil)
abbrev arf:ak:=(.cons (.sl ax bM) (.cons (.sl aC aX) (.cons (.int .i64) .nil)))
abbrev arh:ak:=(.cons (.sl ax bM) (.cons (.sl aC aX) (.cons (.int .i64) .nil)))
abbrev iF:ak:=(.cons (.int .i64) (.cons (.int .i64) (.cons (.int .i64) (.cons (.str) (.cons (.int .i64) (.cons (.int .i64) (.cons (.str) .nil)))))))
abbrev apw:ak:=(.cons (.sl bI iF) .nil)
abbrev bC:ak:=(.cons (.str) (.cons (.sl bI iF) .nil))
abbrev ari:ak:=(.cons (.sl aN bC) .nil)
abbrev gB:ak:=(.cons (.str) (.cons (.sl bg dN) .nil))
abbrev arj:ak:=(.cons (.sl aU gB) .nil)
abbrev ark:ak:=(.cons (.sl ax bM) (.cons (.sl aC aX) (.cons (.int .i64) (.cons (.sl aN bC) (.cons (.sl aU gB) .nil)))))
abbrev arl:ak:=(.cons (.sl ax bM) (.cons (.sl aC aX) (.cons (.int .i64) (.cons (.sl aN bC) (.cons (.sl aU gB) .nil)))))
abbrev arn:ak:=(.cons (.str) (.cons (.str) .nil))
abbrev apx:ak:=(.cons (.sl ax bM) (.cons (.sl aC aX) (.cons (.int .i64) (.cons (.sl aN bC) .nil))))
abbrev o8:ak:=(.cons (.int .i64) (.cons (.sl ax bM) (.cons (.sl aC aX) (.cons (.int .i64) (.cons (.sl aN bC) (.cons (.int .i64) .nil))))))
abbrev aro:ak:=(.cons (.sl fU o8) .nil)
abbrev yY:ak:=(.cons (.int .i64) (.cons (.sl bg dN) (.cons (.sl bg dN) .nil)))
abbrev arp:ak:=(.cons (.sl iG yY) .nil)
abbrev uF:ak:=(.cons (.int .i64) (.cons (.str) (.cons (.sl bg dN) (.cons (.sl iG yY) .nil))))
abbrev arq:ak:=(.cons (.sl iH uF) .nil)
abbrev ars:ak:=(.cons (.sl ax bM) (.cons (.sl aC aX) (.cons (.int .i64) (.cons (.sl aN bC) (.cons (.sl aU gB) (.cons (.str) (.cons (.str) (.cons (.int .i64) (.cons (.sl fU o8) (.cons (.sl iH uF) (.cons (.sl bg dN) .nil)))))))))))
abbrev O3:ak:=(.cons (.sl ax bM) (.cons (.sl aC aX) (.cons (.int .i64) (.cons (.sl aN bC) (.cons (.sl aU gB) (.cons (.str) (.cons (.str) (.cons (.int .i64) (.cons (.sl fU o8) (.cons (.sl iH uF) (.cons (.sl bg dN) .nil)))))))))))
abbrev aru:ak:=(.cons (.int .i64) (.cons (.str) (.cons (.sl bg dN) (.cons (.sl iG yY) .nil))))
abbrev arv:ak:=(.cons (.sl cZ cu) (.cons (.sl dJ jE) (.cons (.int .i64) (.cons (.sl fE lW) .nil))))
abbrev arw:ak:=(.cons (.int .i64) (.cons (.sl cZ cu) (.cons (.sl dJ jE) (.cons (.int .i64) (.cons (.sl fE lW) (.cons (.int .i64) .nil))))))
abbrev arx:ak:=(.cons (.int .i64) (.cons (.str) (.cons (.sl bg dN) (.cons (.sl oO wZ) .nil))))
abbrev arz:ak:=(.cons (.sl aiQ R_5) .nil)
abbrev apy:ak:=(.cons (.str) (.cons (.sl bI iF) .nil))
abbrev apz:ak:=(.cons (.int .i64) (.cons (.sl bg dN) (.cons (.sl bg dN) .nil)))
abbrev apA:ak:=(.cons (.sl ax bM) (.cons (.sl aC aX) (.cons (.int .i64) (.cons (.sl aN bC) .nil))))
abbrev apB:ak:=(.cons (.int .i64) (.cons (.sl ax bM) (.cons (.sl aC aX) (.cons (.int .i64) (.cons (.sl aN bC) (.cons (.int .i64) .nil))))))
abbrev apC:ak:=(.cons (.str) (.cons (.sl qJ kJ) .nil))
abbrev apD:ak:=(.cons (.str) (.cons (.sl bg dN) .nil))
abbrev apE:ak:=(.cons (.str) (.cons (.int .i64) .nil))
abbrev apF:ak:=(.cons (.int .i64) (.cons (.int .i64) (.cons (.bool) (.cons (.int .i64) (.cons (.sl bF gI) .nil)))))
abbrev apG:ak:=(.cons (.int .i64) (.cons (.int .i64) (.cons (.bool) (.cons (.int .i64) (.cons (.sl qI rO) .nil)))))
abbrev apH:ak:=(.cons (.int .i64) (.cons (.int .i64) (.cons (.str) .nil)))
abbrev apI:ak:=(.cons (.int .i64) (.cons (.int .i64) (.cons (.int .i64) (.cons (.str) (.cons (.int .i64) (.cons (.int .i64) (.cons (.str) .nil)))))))
abbrev apJ:ak:=(.cons (.str) (.cons (.int .i64) (.cons (.int .i64) (.cons (.str) .nil))))
abbrev apK:ak:=(.cons (.int .i64) (.cons (.int .i64) (.cons (.int .i64) (.cons (.str) (.cons (.int .i64) (.cons (.int .i64) (.cons (.str) .nil)))))))
abbrev apL:ak:=(.cons (.int .u64) .nil)
abbrev apM:ak:=(.cons (.str) (.cons (.int .i64) (.cons (.int .i64) (.cons (.str) .nil))))
abbrev apN:ak:=(.cons (.int .u32) .nil)
abbrev apO:ak:=(.cons (.int .u64) .nil)
abbrev apP:ak:=(.cons (.sl ZN R_4) .nil)
abbrev apQ:ak:=(.cons (.int .i64) .nil)
abbrev apR:ak:=(.cons (.int .u64) .nil)
abbrev apS:ak:=(.cons (.int .u8) .nil)
abbrev apT:ak:=(.cons (.int .u8) .nil)
abbrev apU:ak:=(.cons (.int .i32) .nil)
abbrev apV:ak:=(.cons (.int .i32) .nil)
def ny:List (Nat×Go.Fw.TI):=[
 (2,⟨.scalar,jm,8,false⟩),
 (3,⟨.scalar,dN,8,false⟩),
 (4,⟨.scalar,R_4,1,false⟩),
 (5,⟨.scalar,R_5,1,false⟩),
 (6,⟨.scalar,R_6,1,false⟩),
 (7,⟨.struct [(0,2),(1,3),(2,4),(3,6)],R_7,24,false⟩),
 (8,⟨.struct [(0,2),(1,3),(2,4),(3,6)],R_8,24,false⟩),
 (9,⟨.str,fO,16,false⟩),
 (10,⟨.str,aqO,16,false⟩),
 (11,⟨.str,aqP,16,false⟩),
 (12,⟨.scalar,aqQ,8,false⟩),
 (13,⟨.struct [(0,9),(1,12)],aqR,24,false⟩),
 (14,⟨.struct [(0,9),(1,12)],aqS,24,false⟩),
 (21,⟨.scalar,aqT,4,false⟩),
 (22,⟨.slice cZ,aqU,24,false⟩),
 (23,⟨.slice dJ,aqV,24,false⟩),
 (24,⟨.struct [(0,22),(1,23),(2,3)],aqW,56,false⟩),
 (25,⟨.struct [(0,22),(1,23),(2,3)],aqX,56,false⟩),
 (26,⟨.slice fE,aqY,24,false⟩),
 (27,⟨.slice gJ,aq0,24,false⟩),
 (28,⟨.struct [(0,25),(3,26),(4,27)],aq1,104,false⟩),
 (29,⟨.struct [(0,25),(3,26),(4,27)],aq2,104,false⟩),
 (30,⟨.struct [(0,9),(1,9)],aq3,32,false⟩),
 (31,⟨.struct [(0,9),(1,9)],aq4,32,false⟩),
 (32,⟨.slice ji,aq6,24,false⟩),
 (33,⟨.slice kY,aq8,24,false⟩),
 (34,⟨.slice bg,aqZ,24,false⟩),
 (35,⟨.struct [(0,29),(5,31),(7,3),(8,32),(9,33),(10,34)],aq9,216,false⟩),
 (36,⟨.struct [(0,29),(5,31),(7,3),(8,32),(9,33),(10,34)],adl,216,false⟩),
 (38,⟨.slice dF,ara,24,false⟩),
 (40,⟨.slice ax,arb,24,false⟩),
 (41,⟨.slice aC,ard,24,false⟩),
 (42,⟨.struct [(0,40),(1,41),(2,3)],arf,56,false⟩),
 (43,⟨.struct [(0,40),(1,41),(2,3)],arh,56,false⟩),
 (44,⟨.slice aN,ari,24,false⟩),
 (45,⟨.slice aU,arj,24,false⟩),
 (46,⟨.struct [(0,43),(3,44),(4,45)],ark,104,false⟩),
 (47,⟨.struct [(0,43),(3,44),(4,45)],arl,104,false⟩),
 (48,⟨.struct [(0,9),(1,9)],arn,32,true⟩),
 (49,⟨.slice fU,aro,24,false⟩),
 (50,⟨.slice iH,arq,24,false⟩),
 (51,⟨.struct [(0,47),(5,48),(7,3),(8,49),(9,50),(10,34)],ars,216,false⟩),
 (52,⟨.struct [(0,47),(5,48),(7,3),(8,49),(9,50),(10,34)],O3,216,false⟩),
 (67,⟨.slice iG,arp,24,false⟩),
 (68,⟨.struct [(0,3),(1,9),(2,34),(3,67)],aru,72,false⟩),
 (69,⟨.struct [(0,3),(1,9),(2,34),(3,67)],uF,72,false⟩),
 (87,⟨.struct [(0,25),(3,26)],arv,80,false⟩),
 (88,⟨.struct [(0,25),(3,26)],aq5,80,false⟩),
 (89,⟨.struct [(0,3),(1,88),(5,3)],arw,96,false⟩),
 (90,⟨.struct [(0,3),(1,88),(5,3)],HY,96,false⟩),
 (92,⟨.slice oO,aq7,24,false⟩),
 (93,⟨.struct [(0,3),(1,9),(2,34),(3,92)],arx,72,false⟩),
 (94,⟨.struct [(0,3),(1,9),(2,34),(3,92)],H6,72,false⟩),
 (96,⟨.slice aiQ,arz,24,false⟩),
 (100,⟨.slice bI,apw,24,false⟩),
 (101,⟨.struct [(0,9),(1,100)],apy,40,false⟩),
 (102,⟨.struct [(0,9),(1,100)],bC,40,false⟩),
 (105,⟨.struct [(0,3),(1,34),(2,34)],apz,56,false⟩),
 (106,⟨.struct [(0,3),(1,34),(2,34)],yY,56,false⟩),
 (110,⟨.struct [(0,43),(3,44)],apA,80,false⟩),
 (111,⟨.struct [(0,43),(3,44)],apx,80,false⟩),
 (112,⟨.struct [(0,3),(1,111),(5,3)],apB,96,false⟩),
 (113,⟨.struct [(0,3),(1,111),(5,3)],o8,96,false⟩),
 (130,⟨.slice qJ,apt,24,false⟩),
 (131,⟨.struct [(0,9),(1,130)],apC,40,false⟩),
 (132,⟨.struct [(0,9),(1,130)],lW,40,false⟩),
 (134,⟨.struct [(0,9),(1,34)],apD,40,false⟩),
 (135,⟨.struct [(0,9),(1,34)],iy,40,false⟩),
 (148,⟨.struct [(0,9),(1,34)],gB,40,false⟩),
 (160,⟨.struct [(0,9),(1,3)],apE,24,false⟩),
 (161,⟨.struct [(0,9),(1,3)],bM,24,true⟩),
 (162,⟨.slice bF,apv,24,false⟩),
 (163,⟨.struct [(0,3),(1,3),(2,4),(3,3),(4,162)],apF,56,false⟩),
 (164,⟨.struct [(0,3),(1,3),(2,4),(3,3),(4,162)],aX,56,false⟩),
 (167,⟨.struct [(0,9),(1,3)],cu,24,false⟩),
 (169,⟨.slice qI,aps,24,false⟩),
 (170,⟨.struct [(0,3),(1,3),(2,4),(3,3),(4,169)],apG,56,false⟩),
 (171,⟨.struct [(0,3),(1,3),(2,4),(3,3),(4,169)],jE,56,false⟩),
 (174,⟨.struct [(0,3),(1,34),(2,34)],wZ,56,false⟩),
 (200,⟨.struct [(0,3),(1,3),(2,9)],apH,32,false⟩),
 (201,⟨.struct [(0,3),(1,3),(2,9)],apu,32,true⟩),
 (202,⟨.struct [(0,3),(1,3),(2,3),(3,9),(4,201)],apI,72,true⟩),
 (203,⟨.struct [(0,3),(1,3),(2,3),(3,9),(4,201)],iF,72,true⟩),
 (204,⟨.struct [(0,9),(1,201)],apJ,48,true⟩),
 (205,⟨.struct [(0,9),(1,201)],gI,48,true⟩),
 (208,⟨.struct [(0,3),(1,3),(2,9)],apr,32,false⟩),
 (209,⟨.struct [(0,3),(1,3),(2,3),(3,9),(4,208)],apK,72,false⟩),
 (210,⟨.struct [(0,3),(1,3),(2,3),(3,9),(4,208)],kJ,72,false⟩),
 (220,⟨.scalar,apL,8,false⟩),
 (242,⟨.struct [(0,9),(1,208)],apM,48,false⟩),
 (243,⟨.struct [(0,9),(1,208)],rO,48,false⟩),
 (256,⟨.scalar,apN,4,false⟩),
 (258,⟨.scalar,apO,8,false⟩),
 (280,⟨.slice ZN,apP,24,false⟩),
 (290,⟨.scalar,apQ,8,false⟩),
 (297,⟨.scalar,apR,8,false⟩),
 (312,⟨.scalar,apS,1,false⟩),
 (313,⟨.scalar,apT,1,false⟩),
 (315,⟨.scalar,apU,4,false⟩),
 (316,⟨.scalar,apV,4,false⟩)]
def Θ:gY:=aag ny
theorem afx:Ny prog ny=true:=by kernel_rfl
theorem mixed:prog.follows .mixedOrders=true:=by kernel_rfl
def G:iV where
 n:=1
 ok:=λw=>Lib.TabIs prog w "internal/strconv.uint64pow10" .u64 Lib.pow10Tab
 low:=by
  intro w h;have h2:World.var? prog w "internal/strconv.uint64pow10" =some (Lib.pow10Tab.map λz=>Value.int .u64 z).toArray:=h;unfold World.var? at h2;obtain⟨g,hg,hv⟩:=auI.1 h2;have e:prog.globalNamed "internal/strconv.uint64pow10" =some 0:=by kernel_rfl
  rw[e]at hg;cases hg;rcases atm 0 w.heap.size with h|h
  .exact h
  .rw[auM h]at hv;cases hv
 stable:=by
  intro w w' h hs hk;have h2:World.var? prog w "internal/strconv.uint64pow10" =some (Lib.pow10Tab.map λz=>Value.int .u64 z).toArray:=h;show World.var? prog w' "internal/strconv.uint64pow10" =_;unfold World.var? at h2 ⊢;obtain⟨g,hg,hv⟩:=auI.1 h2;rw[hg];have hg8:g<1:=by
   have e:prog.globalNamed "internal/strconv.uint64pow10" =some 0:=by kernel_rfl
   rw[e]at hg;cases hg;decide
  show(match w'.heap[g]? with|some (.cells cs _ _)=>some cs|_=>none)=_;rw[hk g hg8];exact hv
abbrev BV:Nat:=226
theorem QF:mO prog BV:=qM (fn:=f226) (by kernel_rfl) (by kernel_rfl)
abbrev D9:Nat:=213
theorem TL:mO prog D9:=qM (fn:=f213) (by kernel_rfl) (by kernel_rfl)
abbrev pI:Nat:=213
theorem J4:mO prog pI:=qM (fn:=f213) (by kernel_rfl) (by kernel_rfl)
abbrev CV:Nat:=213
abbrev Gj:Nat:=206
theorem Yd:mO prog Gj:=qM (fn:=f206) (by kernel_rfl) (by kernel_rfl)
abbrev rP:Nat:=206
theorem NJ:mO prog rP:=qM (fn:=f206) (by kernel_rfl) (by kernel_rfl)
abbrev EZ:Nat:=206
abbrev Gh:Nat:=54
theorem Ye:mO prog Gh:=qM (fn:=f54) (by kernel_rfl) (by kernel_rfl)
abbrev Gi:Nat:=135
theorem Yf:mO prog Gi:=qM (fn:=f135) (by kernel_rfl) (by kernel_rfl)
abbrev OK(x:Nat×EG):Prop:=aap prog G x
theorem af5(l:List (Nat×EG))(h:Tj prog G l):EnvB prog G Θ (Gq l):=al0 afx h
theorem aV{q:PA}(l:List (Nat×EG))(hl:Tj prog G l)(H:Hints){p:Prop}(h:p)(e:q.say prog Θ (Gq l) H=p:=by kernel_rfl):OK q.e:=PA.ok mixed (af5 l hl) H e h
theorem FV{q:XA}(l:List (Nat×EG))(hl:Tj prog G l)(H:Hints)(w:∀x,(q.F x).1->∃t,(q.F x).2 t){p:Prop}(h:p)(e:q.say prog Θ (Gq l) H=p:=by kernel_rfl):OK q.e:=XA.ok mixed (af5 l hl) H w e h
end Go.Proofs.Tryz

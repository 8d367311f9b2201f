import Derived.Test.YtkogcnaellmcdaaGreatFwC
import Derived.Test.YtkogcnaellmcdaaGreatProg
import Derived.Lib.LaidTab
import Derived.Lib.ItoaNum
namespace Go.Proofs.Tryz
open Go Go.Fw
abbrev aF:TypeId:=3
abbrev X9:TypeId:=4
abbrev agJ:TypeId:=5
abbrev iO:TypeId:=9
abbrev jE:TypeId:=90
abbrev lQ:TypeId:=94
abbrev fG:TypeId:=97
abbrev eF:TypeId:=105
abbrev eU:TypeId:=129
abbrev gV:TypeId:=132
abbrev aQ:TypeId:=142
abbrev aO:TypeId:=144
abbrev ax:TypeId:=164
abbrev aJ:TypeId:=167
abbrev dK:TypeId:=171
abbrev dn:TypeId:=173
abbrev dF:TypeId:=177
abbrev nU:TypeId:=180
abbrev bH:TypeId:=210
abbrev bK:TypeId:=212
abbrev pF:TypeId:=217
abbrev pz:TypeId:=238
abbrev jb:ak:=(.cons (.int .i64) .nil)
abbrev bD:ak:=(.cons (.int .i64) .nil)
abbrev R_4:ak:=(.cons (.bool) .nil)
abbrev R_5:ak:=(.cons (.int .u8) .nil)
abbrev R_6:ak:=(.cons (.int .u8) .nil)
abbrev R_7:ak:=(.cons (.int .i64) (.cons (.int .i64) (.cons (.bool) (.cons (.int .u8) .nil))))
abbrev R_8:ak:=(.cons (.int .i64) (.cons (.int .i64) (.cons (.bool) (.cons (.int .u8) .nil))))
abbrev oO:ak:=(.cons (.str) .nil)
abbrev anA:ak:=(.cons (.str) .nil)
abbrev anB:ak:=(.cons (.str) .nil)
abbrev anC:ak:=(.cons (.int .u64) .nil)
abbrev anD:ak:=(.cons (.str) (.cons (.int .u64) .nil))
abbrev anE:ak:=(.cons (.str) (.cons (.int .u64) .nil))
abbrev anF:ak:=(.cons (.int .i32) .nil)
abbrev dD:ak:=(.cons (.str) (.cons (.int .i64) .nil))
abbrev anG:ak:=(.cons (.sl dn dD) .nil)
abbrev amv:ak:=(.cons (.int .i64) (.cons (.int .i64) (.cons (.str) .nil)))
abbrev qK:ak:=(.cons (.str) (.cons (.int .i64) (.cons (.int .i64) (.cons (.str) .nil))))
abbrev amw:ak:=(.cons (.sl pz qK) .nil)
abbrev jD:ak:=(.cons (.int .i64) (.cons (.int .i64) (.cons (.bool) (.cons (.int .i64) (.cons (.sl pz qK) .nil)))))
abbrev anH:ak:=(.cons (.sl dF jD) .nil)
abbrev anI:ak:=(.cons (.sl dn dD) (.cons (.sl dF jD) (.cons (.int .i64) .nil)))
abbrev anJ:ak:=(.cons (.sl dn dD) (.cons (.sl dF jD) (.cons (.int .i64) .nil)))
abbrev jU:ak:=(.cons (.int .i64) (.cons (.int .i64) (.cons (.int .i64) (.cons (.str) (.cons (.int .i64) (.cons (.int .i64) (.cons (.str) .nil)))))))
abbrev amx:ak:=(.cons (.sl pF jU) .nil)
abbrev lN:ak:=(.cons (.str) (.cons (.sl pF jU) .nil))
abbrev anK:ak:=(.cons (.sl eU lN) .nil)
abbrev anL:ak:=(.cons (.sl aF bD) .nil)
abbrev gX:ak:=(.cons (.str) (.cons (.sl aF bD) .nil))
abbrev anM:ak:=(.cons (.sl gV gX) .nil)
abbrev anN:ak:=(.cons (.sl dn dD) (.cons (.sl dF jD) (.cons (.int .i64) (.cons (.sl eU lN) (.cons (.sl gV gX) .nil)))))
abbrev anO:ak:=(.cons (.sl dn dD) (.cons (.sl dF jD) (.cons (.int .i64) (.cons (.sl eU lN) (.cons (.sl gV gX) .nil)))))
abbrev anP:ak:=(.cons (.str) (.cons (.str) .nil))
abbrev anQ:ak:=(.cons (.str) (.cons (.str) .nil))
abbrev anR:ak:=(.cons (.sl dn dD) (.cons (.sl dF jD) (.cons (.int .i64) (.cons (.sl eU lN) .nil))))
abbrev HY:ak:=(.cons (.int .i64) (.cons (.sl dn dD) (.cons (.sl dF jD) (.cons (.int .i64) (.cons (.sl eU lN) (.cons (.int .i64) .nil))))))
abbrev anS:ak:=(.cons (.sl jE HY) .nil)
abbrev nK:ak:=(.cons (.int .i64) (.cons (.sl aF bD) (.cons (.sl aF bD) .nil)))
abbrev anT:ak:=(.cons (.sl nU nK) .nil)
abbrev H7:ak:=(.cons (.int .i64) (.cons (.str) (.cons (.sl aF bD) (.cons (.sl nU nK) .nil))))
abbrev anU:ak:=(.cons (.sl lQ H7) .nil)
abbrev anV:ak:=(.cons (.sl dn dD) (.cons (.sl dF jD) (.cons (.int .i64) (.cons (.sl eU lN) (.cons (.sl gV gX) (.cons (.str) (.cons (.str) (.cons (.int .i64) (.cons (.sl jE HY) (.cons (.sl lQ H7) (.cons (.sl aF bD) .nil)))))))))))
abbrev anW:ak:=(.cons (.sl dn dD) (.cons (.sl dF jD) (.cons (.int .i64) (.cons (.sl eU lN) (.cons (.sl gV gX) (.cons (.str) (.cons (.str) (.cons (.int .i64) (.cons (.sl jE HY) (.cons (.sl lQ H7) (.cons (.sl aF bD) .nil)))))))))))
abbrev bW:ak:=(.cons (.str) (.cons (.int .i64) .nil))
abbrev anX:ak:=(.cons (.sl ax bW) .nil)
abbrev amy:ak:=(.cons (.int .i64) (.cons (.int .i64) (.cons (.str) .nil)))
abbrev iF:ak:=(.cons (.str) (.cons (.int .i64) (.cons (.int .i64) (.cons (.str) .nil))))
abbrev amz:ak:=(.cons (.sl bK iF) .nil)
abbrev aY:ak:=(.cons (.int .i64) (.cons (.int .i64) (.cons (.bool) (.cons (.int .i64) (.cons (.sl bK iF) .nil)))))
abbrev anY:ak:=(.cons (.sl aJ aY) .nil)
abbrev anZ:ak:=(.cons (.sl ax bW) (.cons (.sl aJ aY) (.cons (.int .i64) .nil)))
abbrev an0:ak:=(.cons (.sl ax bW) (.cons (.sl aJ aY) (.cons (.int .i64) .nil)))
abbrev iw:ak:=(.cons (.int .i64) (.cons (.int .i64) (.cons (.int .i64) (.cons (.str) (.cons (.int .i64) (.cons (.int .i64) (.cons (.str) .nil)))))))
abbrev amA:ak:=(.cons (.sl bH iw) .nil)
abbrev bn:ak:=(.cons (.str) (.cons (.sl bH iw) .nil))
abbrev an1:ak:=(.cons (.sl aQ bn) .nil)
abbrev fE:ak:=(.cons (.str) (.cons (.sl aF bD) .nil))
abbrev an2:ak:=(.cons (.sl aO fE) .nil)
abbrev an3:ak:=(.cons (.sl ax bW) (.cons (.sl aJ aY) (.cons (.int .i64) (.cons (.sl aQ bn) (.cons (.sl aO fE) .nil)))))
abbrev an4:ak:=(.cons (.sl ax bW) (.cons (.sl aJ aY) (.cons (.int .i64) (.cons (.sl aQ bn) (.cons (.sl aO fE) .nil)))))
abbrev an5:ak:=(.cons (.str) (.cons (.str) .nil))
abbrev an6:ak:=(.cons (.sl ax bW) (.cons (.sl aJ aY) (.cons (.int .i64) (.cons (.sl aQ bn) .nil))))
abbrev nJ:ak:=(.cons (.int .i64) (.cons (.sl ax bW) (.cons (.sl aJ aY) (.cons (.int .i64) (.cons (.sl aQ bn) (.cons (.int .i64) .nil))))))
abbrev an7:ak:=(.cons (.sl eF nJ) .nil)
abbrev mO:ak:=(.cons (.int .i64) (.cons (.sl aF bD) (.cons (.sl aF bD) .nil)))
abbrev an8:ak:=(.cons (.sl dK mO) .nil)
abbrev sJ:ak:=(.cons (.int .i64) (.cons (.str) (.cons (.sl aF bD) (.cons (.sl dK mO) .nil))))
abbrev an9:ak:=(.cons (.sl fG sJ) .nil)
abbrev aoa:ak:=(.cons (.sl ax bW) (.cons (.sl aJ aY) (.cons (.int .i64) (.cons (.sl aQ bn) (.cons (.sl aO fE) (.cons (.str) (.cons (.str) (.cons (.int .i64) (.cons (.sl eF nJ) (.cons (.sl fG sJ) (.cons (.sl aF bD) .nil)))))))))))
abbrev aob:ak:=(.cons (.sl ax bW) (.cons (.sl aJ aY) (.cons (.int .i64) (.cons (.sl aQ bn) (.cons (.sl aO fE) (.cons (.str) (.cons (.str) (.cons (.int .i64) (.cons (.sl eF nJ) (.cons (.sl fG sJ) (.cons (.sl aF bD) .nil)))))))))))
abbrev aoc:ak:=(.cons (.sl ax bW) (.cons (.sl aJ aY) (.cons (.int .i64) (.cons (.sl aQ bn) .nil))))
abbrev aod:ak:=(.cons (.sl dn dD) (.cons (.sl dF jD) (.cons (.int .i64) (.cons (.sl eU lN) .nil))))
abbrev aoe:ak:=(.cons (.int .i64) (.cons (.sl dn dD) (.cons (.sl dF jD) (.cons (.int .i64) (.cons (.sl eU lN) (.cons (.int .i64) .nil))))))
abbrev aof:ak:=(.cons (.int .i64) (.cons (.str) (.cons (.sl aF bD) (.cons (.sl nU nK) .nil))))
abbrev aog:ak:=(.cons (.int .i64) (.cons (.str) (.cons (.sl aF bD) (.cons (.sl dK mO) .nil))))
abbrev amB:ak:=(.cons (.int .i64) (.cons (.sl ax bW) (.cons (.sl aJ aY) (.cons (.int .i64) (.cons (.sl aQ bn) (.cons (.int .i64) .nil))))))
abbrev amC:ak:=(.cons (.str) (.cons (.sl pF jU) .nil))
abbrev amD:ak:=(.cons (.str) (.cons (.sl aF bD) .nil))
abbrev amE:ak:=(.cons (.str) (.cons (.sl bH iw) .nil))
abbrev amF:ak:=(.cons (.str) (.cons (.int .i64) .nil))
abbrev amG:ak:=(.cons (.int .i64) (.cons (.int .i64) (.cons (.bool) (.cons (.int .i64) (.cons (.sl bK iF) .nil)))))
abbrev amH:ak:=(.cons (.sl agJ R_5) .nil)
abbrev amI:ak:=(.cons (.int .i64) (.cons (.sl aF bD) (.cons (.sl aF bD) .nil)))
abbrev amJ:ak:=(.cons (.int .i64) (.cons (.int .i64) (.cons (.bool) (.cons (.int .i64) (.cons (.sl pz qK) .nil)))))
abbrev amK:ak:=(.cons (.str) (.cons (.sl aF bD) (.cons (.sl aF bD) .nil)))
abbrev amL:ak:=(.cons (.str) (.cons (.sl aF bD) (.cons (.sl aF bD) .nil)))
abbrev amM:ak:=(.cons (.sl iO oO) .nil)
abbrev amN:ak:=(.cons (.int .i64) (.cons (.int .i64) (.cons (.str) .nil)))
abbrev amO:ak:=(.cons (.int .i64) (.cons (.int .i64) (.cons (.int .i64) (.cons (.str) (.cons (.int .i64) (.cons (.int .i64) (.cons (.str) .nil)))))))
abbrev amP:ak:=(.cons (.str) (.cons (.int .i64) (.cons (.int .i64) (.cons (.str) .nil))))
abbrev amQ:ak:=(.cons (.int .i64) (.cons (.int .i64) (.cons (.int .i64) (.cons (.str) (.cons (.int .i64) (.cons (.int .i64) (.cons (.str) .nil)))))))
abbrev amR:ak:=(.cons (.str) (.cons (.int .i64) (.cons (.int .i64) (.cons (.str) .nil))))
abbrev amS:ak:=(.cons (.int .u64) .nil)
abbrev amT:ak:=(.cons (.int .i64) .nil)
abbrev amU:ak:=(.cons (.int .u32) .nil)
abbrev amV:ak:=(.cons (.int .u64) .nil)
abbrev amW:ak:=(.cons (.int .u64) .nil)
abbrev amX:ak:=(.cons (.sl X9 R_4) .nil)
abbrev amY:ak:=(.cons (.int .u8) .nil)
abbrev amZ:ak:=(.cons (.int .u8) .nil)
abbrev am0:ak:=(.cons (.int .i32) .nil)
abbrev am1:ak:=(.cons (.int .i32) .nil)
def mr:List (Nat×Go.Fw.TI):=[
 (2,⟨.scalar,jb,8,false⟩),
 (3,⟨.scalar,bD,8,false⟩),
 (4,⟨.scalar,R_4,1,false⟩),
 (5,⟨.scalar,R_5,1,false⟩),
 (6,⟨.scalar,R_6,1,false⟩),
 (7,⟨.struct [(0,2),(1,3),(2,4),(3,6)],R_7,24,false⟩),
 (8,⟨.struct [(0,2),(1,3),(2,4),(3,6)],R_8,24,false⟩),
 (9,⟨.str,oO,16,false⟩),
 (10,⟨.str,anA,16,false⟩),
 (11,⟨.str,anB,16,false⟩),
 (12,⟨.scalar,anC,8,false⟩),
 (13,⟨.struct [(0,9),(1,12)],anD,24,false⟩),
 (14,⟨.struct [(0,9),(1,12)],anE,24,false⟩),
 (21,⟨.scalar,anF,4,false⟩),
 (22,⟨.slice dn,anG,24,false⟩),
 (23,⟨.slice dF,anH,24,false⟩),
 (24,⟨.struct [(0,22),(1,23),(2,3)],anI,56,false⟩),
 (25,⟨.struct [(0,22),(1,23),(2,3)],anJ,56,false⟩),
 (26,⟨.slice eU,anK,24,false⟩),
 (27,⟨.slice gV,anM,24,false⟩),
 (28,⟨.struct [(0,25),(3,26),(4,27)],anN,104,false⟩),
 (29,⟨.struct [(0,25),(3,26),(4,27)],anO,104,false⟩),
 (30,⟨.struct [(0,9),(1,9)],anP,32,false⟩),
 (31,⟨.struct [(0,9),(1,9)],anQ,32,false⟩),
 (32,⟨.slice jE,anS,24,false⟩),
 (33,⟨.slice lQ,anU,24,false⟩),
 (34,⟨.slice aF,anL,24,false⟩),
 (35,⟨.struct [(0,29),(5,31),(7,3),(8,32),(9,33),(10,34)],anV,216,false⟩),
 (36,⟨.struct [(0,29),(5,31),(7,3),(8,32),(9,33),(10,34)],anW,216,false⟩),
 (39,⟨.slice ax,anX,24,false⟩),
 (40,⟨.slice aJ,anY,24,false⟩),
 (41,⟨.struct [(0,39),(1,40),(2,3)],anZ,56,false⟩),
 (42,⟨.struct [(0,39),(1,40),(2,3)],an0,56,false⟩),
 (43,⟨.slice aQ,an1,24,false⟩),
 (44,⟨.slice aO,an2,24,false⟩),
 (45,⟨.struct [(0,42),(3,43),(4,44)],an3,104,false⟩),
 (46,⟨.struct [(0,42),(3,43),(4,44)],an4,104,false⟩),
 (47,⟨.struct [(0,9),(1,9)],an5,32,true⟩),
 (48,⟨.slice eF,an7,24,false⟩),
 (49,⟨.slice fG,an9,24,false⟩),
 (50,⟨.struct [(0,46),(5,47),(7,3),(8,48),(9,49),(10,34)],aoa,216,false⟩),
 (51,⟨.struct [(0,46),(5,47),(7,3),(8,48),(9,49),(10,34)],aob,216,false⟩),
 (75,⟨.struct [(0,42),(3,43)],aoc,80,false⟩),
 (76,⟨.struct [(0,42),(3,43)],an6,80,false⟩),
 (87,⟨.struct [(0,25),(3,26)],aod,80,false⟩),
 (88,⟨.struct [(0,25),(3,26)],anR,80,false⟩),
 (89,⟨.struct [(0,3),(1,88),(5,3)],aoe,96,false⟩),
 (90,⟨.struct [(0,3),(1,88),(5,3)],HY,96,false⟩),
 (92,⟨.slice nU,anT,24,false⟩),
 (93,⟨.struct [(0,3),(1,9),(2,34),(3,92)],aof,72,false⟩),
 (94,⟨.struct [(0,3),(1,9),(2,34),(3,92)],H7,72,false⟩),
 (95,⟨.slice dK,an8,24,false⟩),
 (96,⟨.struct [(0,3),(1,9),(2,34),(3,95)],aog,72,false⟩),
 (97,⟨.struct [(0,3),(1,9),(2,34),(3,95)],sJ,72,false⟩),
 (104,⟨.struct [(0,3),(1,76),(5,3)],amB,96,false⟩),
 (105,⟨.struct [(0,3),(1,76),(5,3)],nJ,96,false⟩),
 (127,⟨.slice pF,amx,24,false⟩),
 (128,⟨.struct [(0,9),(1,127)],amC,40,false⟩),
 (129,⟨.struct [(0,9),(1,127)],lN,40,false⟩),
 (131,⟨.struct [(0,9),(1,34)],amD,40,false⟩),
 (132,⟨.struct [(0,9),(1,34)],gX,40,false⟩),
 (140,⟨.slice bH,amA,24,false⟩),
 (141,⟨.struct [(0,9),(1,140)],amE,40,false⟩),
 (142,⟨.struct [(0,9),(1,140)],bn,40,false⟩),
 (144,⟨.struct [(0,9),(1,34)],fE,40,false⟩),
 (163,⟨.struct [(0,9),(1,3)],amF,24,false⟩),
 (164,⟨.struct [(0,9),(1,3)],bW,24,true⟩),
 (165,⟨.slice bK,amz,24,false⟩),
 (166,⟨.struct [(0,3),(1,3),(2,4),(3,3),(4,165)],amG,56,false⟩),
 (167,⟨.struct [(0,3),(1,3),(2,4),(3,3),(4,165)],aY,56,false⟩),
 (169,⟨.slice agJ,amH,24,false⟩),
 (170,⟨.struct [(0,3),(1,34),(2,34)],amI,56,false⟩),
 (171,⟨.struct [(0,3),(1,34),(2,34)],mO,56,false⟩),
 (173,⟨.struct [(0,9),(1,3)],dD,24,false⟩),
 (175,⟨.slice pz,amw,24,false⟩),
 (176,⟨.struct [(0,3),(1,3),(2,4),(3,3),(4,175)],amJ,56,false⟩),
 (177,⟨.struct [(0,3),(1,3),(2,4),(3,3),(4,175)],jD,56,false⟩),
 (180,⟨.struct [(0,3),(1,34),(2,34)],nK,56,false⟩),
 (183,⟨.struct [(0,9),(1,34),(2,34)],amK,64,false⟩),
 (184,⟨.struct [(0,9),(1,34),(2,34)],amL,64,false⟩),
 (205,⟨.slice iO,amM,24,false⟩),
 (207,⟨.struct [(0,3),(1,3),(2,9)],amN,32,false⟩),
 (208,⟨.struct [(0,3),(1,3),(2,9)],amy,32,true⟩),
 (209,⟨.struct [(0,3),(1,3),(2,3),(3,9),(4,208)],amO,72,true⟩),
 (210,⟨.struct [(0,3),(1,3),(2,3),(3,9),(4,208)],iw,72,true⟩),
 (211,⟨.struct [(0,9),(1,208)],amP,48,true⟩),
 (212,⟨.struct [(0,9),(1,208)],iF,48,true⟩),
 (215,⟨.struct [(0,3),(1,3),(2,9)],amv,32,false⟩),
 (216,⟨.struct [(0,3),(1,3),(2,3),(3,9),(4,215)],amQ,72,false⟩),
 (217,⟨.struct [(0,3),(1,3),(2,3),(3,9),(4,215)],jU,72,false⟩),
 (237,⟨.struct [(0,9),(1,215)],amR,48,false⟩),
 (238,⟨.struct [(0,9),(1,215)],qK,48,false⟩),
 (245,⟨.scalar,amS,8,false⟩),
 (260,⟨.scalar,amT,8,false⟩),
 (269,⟨.scalar,amU,4,false⟩),
 (271,⟨.scalar,amV,8,false⟩),
 (276,⟨.scalar,amW,8,false⟩),
 (286,⟨.slice X9,amX,24,false⟩),
 (313,⟨.scalar,amY,1,false⟩),
 (314,⟨.scalar,amZ,1,false⟩),
 (317,⟨.scalar,am0,4,false⟩),
 (318,⟨.scalar,am1,4,false⟩)]
def Θ:gI:=Yt mr
theorem F5:Lr prog mr=true:=by kernel_rfl
theorem mixed:prog.follows .mixedOrders=true:=by kernel_rfl
def G:iP where
 n:=0
 ok:=λ_=>True
 low:=λ_ _=>apW _
 stable:=λ_ _ _ _ _=>trivial
abbrev AQ:Nat:=239
theorem Pm:ny prog AQ:=sQ (fn:=f239) (by kernel_rfl) (by kernel_rfl)
abbrev CV:Nat:=222
theorem Q8:ny prog CV:=sQ (fn:=f222) (by kernel_rfl) (by kernel_rfl)
abbrev oC:Nat:=222
theorem IY:ny prog oC:=sQ (fn:=f222) (by kernel_rfl) (by kernel_rfl)
abbrev Bz:Nat:=222
abbrev EM:Nat:=217
theorem Wy:ny prog EM:=sQ (fn:=f217) (by kernel_rfl) (by kernel_rfl)
abbrev qM:Nat:=217
theorem LH:ny prog qM:=sQ (fn:=f217) (by kernel_rfl) (by kernel_rfl)
abbrev D6:Nat:=217
abbrev D7:Nat:=126
theorem Uc:ny prog D7:=sQ (fn:=f126) (by kernel_rfl) (by kernel_rfl)
abbrev OK(x:Nat×Dy):Prop:=YC prog G x
theorem ad5(l:List (Nat×Dy))(h:QL prog G l):EnvB prog G Θ (EX l):=ajx F5 h
theorem aV{q:PA}(l:List (Nat×Dy))(hl:QL prog G l)(H:Hints){p:Prop}(h:p)(e:q.say prog Θ (EX l) H=p:=by kernel_rfl):OK q.e:=PA.ok mixed (ad5 l hl) H e h
theorem uO{q:XA}(l:List (Nat×Dy))(hl:QL prog G l)(H:Hints)(w:∀x,(q.F x).1->∃t,(q.F x).2 t){p:Prop}(h:p)(e:q.say prog Θ (EX l) H=p:=by kernel_rfl):OK q.e:=XA.ok mixed (ad5 l hl) H w e h
end Go.Proofs.Tryz

import Derived.Test.YtlbkigkbmeckbaaGreatFwC
import Derived.Test.YtlbkigkbmeckbaaGreatProg
import Derived.Lib.LaidTab
import Derived.Lib.ItoaNum
namespace Go.Proofs.Tryz
open Go Go.Fw
abbrev dZ:TypeId:=3
abbrev afR:TypeId:=4
abbrev fG:TypeId:=5
abbrev cu:TypeId:=9
abbrev aP:TypeId:=34
abbrev aJ:TypeId:=54
abbrev jK:TypeId:=97
abbrev aI:TypeId:=115
abbrev bg:TypeId:=132
abbrev ay:TypeId:=154
abbrev aW:TypeId:=172
abbrev jJ:aK:=(.cons (.int .i64) .nil)
abbrev ja:aK:=(.cons (.int .i64) .nil)
abbrev R_4:aK:=(.cons (.bool) .nil)
abbrev kG:aK:=(.cons (.int .u8) .nil)
abbrev R_6:aK:=(.cons (.int .u8) .nil)
abbrev R_7:aK:=(.cons (.int .i64) (.cons (.int .i64) (.cons (.bool) (.cons (.int .u8) .nil))))
abbrev R_8:aK:=(.cons (.int .i64) (.cons (.int .i64) (.cons (.bool) (.cons (.int .u8) .nil))))
abbrev eP:aK:=(.cons (.str) .nil)
abbrev avw:aK:=(.cons (.str) .nil)
abbrev avx:aK:=(.cons (.str) .nil)
abbrev avy:aK:=(.cons (.int .u64) .nil)
abbrev avz:aK:=(.cons (.str) (.cons (.int .u64) .nil))
abbrev avA:aK:=(.cons (.str) (.cons (.int .u64) .nil))
abbrev avC:aK:=(.cons (.int .i32) .nil)
abbrev avD:aK:=(.cons (.sl fG kG) .nil)
abbrev aY:aK:=(.cons (.str) (.cons (.int .i64) .nil))
abbrev avE:aK:=(.cons (.sl ay aY) .nil)
abbrev auE:aK:=(.cons (.int .i64) (.cons (.int .i64) (.cons (.str) .nil)))
abbrev bP:aK:=(.cons (.str) (.cons (.int .i64) (.cons (.int .i64) (.cons (.str) .nil))))
abbrev avF:aK:=(.cons (.sl aW bP) .nil)
abbrev bM:aK:=(.cons (.int .i64) (.cons (.int .i64) (.cons (.bool) (.cons (.int .i64) (.cons (.sl aW bP) .nil)))))
abbrev avG:aK:=(.cons (.sl aJ bM) .nil)
abbrev avH:aK:=(.cons (.sl ay aY) (.cons (.sl aJ bM) (.cons (.int .i64) .nil)))
abbrev avI:aK:=(.cons (.sl ay aY) (.cons (.sl aJ bM) (.cons (.int .i64) .nil)))
abbrev dJ:aK:=(.cons (.int .i64) (.cons (.int .i64) (.cons (.int .i64) (.cons (.str) (.cons (.int .i64) (.cons (.int .i64) (.cons (.str) .nil)))))))
abbrev avJ:aK:=(.cons (.sl bg dJ) .nil)
abbrev bD:aK:=(.cons (.str) (.cons (.sl bg dJ) .nil))
abbrev avK:aK:=(.cons (.sl aP bD) .nil)
abbrev avL:aK:=(.cons (.sl dZ ja) .nil)
abbrev aZ:aK:=(.cons (.str) (.cons (.sl dZ ja) .nil))
abbrev avM:aK:=(.cons (.sl aI aZ) .nil)
abbrev avN:aK:=(.cons (.sl ay aY) (.cons (.sl aJ bM) (.cons (.int .i64) (.cons (.sl aP bD) (.cons (.sl aI aZ) .nil)))))
abbrev avO:aK:=(.cons (.sl ay aY) (.cons (.sl aJ bM) (.cons (.int .i64) (.cons (.sl aP bD) (.cons (.sl aI aZ) .nil)))))
abbrev avP:aK:=(.cons (.str) (.cons (.sl bg dJ) .nil))
abbrev vU:aK:=(.cons (.str) (.cons (.sl dZ ja) (.cons (.sl dZ ja) .nil)))
abbrev avQ:aK:=(.cons (.sl jK vU) .nil)
abbrev avR:aK:=(.cons (.int .i64) (.cons (.int .i64) (.cons (.bool) (.cons (.int .i64) (.cons (.sl aW bP) .nil)))))
abbrev avS:aK:=(.cons (.sl cu eP) .nil)
abbrev avT:aK:=(.cons (.str) (.cons (.sl dZ ja) (.cons (.sl dZ ja) .nil)))
abbrev auF:aK:=(.cons (.str) (.cons (.sl dZ ja) .nil))
abbrev auG:aK:=(.cons (.int .i64) (.cons (.int .i64) (.cons (.str) .nil)))
abbrev auH:aK:=(.cons (.sl fG kG) (.cons (.int .i64) (.cons (.int .i64) .nil)))
abbrev auI:aK:=(.cons (.sl fG kG) (.cons (.int .i64) (.cons (.int .i64) .nil)))
abbrev auJ:aK:=(.cons (.int .i64) (.cons (.int .i64) (.cons (.int .i64) (.cons (.str) (.cons (.int .i64) (.cons (.int .i64) (.cons (.str) .nil)))))))
abbrev auK:aK:=(.cons (.str) (.cons (.int .i64) .nil))
abbrev auL:aK:=(.cons (.str) (.cons (.int .i64) (.cons (.int .i64) (.cons (.str) .nil))))
abbrev auM:aK:=(.cons (.int .u64) .nil)
abbrev auN:aK:=(.cons (.sl afR R_4) .nil)
abbrev auO:aK:=(.cons (.int .i64) .nil)
abbrev auP:aK:=(.cons (.int .u32) .nil)
abbrev auQ:aK:=(.cons (.int .u64) .nil)
abbrev auR:aK:=(.cons (.int .u64) .nil)
abbrev auS:aK:=(.cons (.int .u8) .nil)
abbrev auT:aK:=(.cons (.int .u8) .nil)
abbrev auU:aK:=(.cons (.int .i32) .nil)
abbrev auV:aK:=(.cons (.int .i32) .nil)
def uf:List (Nat×Go.Fw.TI):=[
 (2,⟨.scalar,jJ,8,false⟩),
 (3,⟨.scalar,ja,8,false⟩),
 (4,⟨.scalar,R_4,1,false⟩),
 (5,⟨.scalar,kG,1,false⟩),
 (6,⟨.scalar,R_6,1,false⟩),
 (7,⟨.struct [(0,2),(1,3),(2,4),(3,6)],R_7,24,false⟩),
 (8,⟨.struct [(0,2),(1,3),(2,4),(3,6)],R_8,24,false⟩),
 (9,⟨.str,eP,16,false⟩),
 (10,⟨.str,avw,16,false⟩),
 (11,⟨.str,avx,16,false⟩),
 (12,⟨.scalar,avy,8,false⟩),
 (13,⟨.struct [(0,9),(1,12)],avz,24,false⟩),
 (14,⟨.struct [(0,9),(1,12)],avA,24,false⟩),
 (21,⟨.scalar,avC,4,false⟩),
 (22,⟨.slice fG,avD,24,false⟩),
 (24,⟨.slice ay,avE,24,false⟩),
 (25,⟨.slice aJ,avG,24,false⟩),
 (26,⟨.struct [(0,24),(1,25),(2,3)],avH,56,false⟩),
 (27,⟨.struct [(0,24),(1,25),(2,3)],avI,56,false⟩),
 (28,⟨.slice aP,avK,24,false⟩),
 (29,⟨.slice aI,avM,24,false⟩),
 (30,⟨.struct [(0,27),(3,28),(4,29)],avN,104,false⟩),
 (31,⟨.struct [(0,27),(3,28),(4,29)],avO,104,false⟩),
 (32,⟨.slice bg,avJ,24,false⟩),
 (33,⟨.struct [(0,9),(1,32)],avP,40,false⟩),
 (34,⟨.struct [(0,9),(1,32)],bD,40,false⟩),
 (37,⟨.slice jK,avQ,24,false⟩),
 (52,⟨.slice aW,avF,24,false⟩),
 (53,⟨.struct [(0,3),(1,3),(2,4),(3,3),(4,52)],avR,56,false⟩),
 (54,⟨.struct [(0,3),(1,3),(2,4),(3,3),(4,52)],bM,56,false⟩),
 (81,⟨.slice cu,avS,24,false⟩),
 (95,⟨.slice dZ,avL,24,false⟩),
 (96,⟨.struct [(0,9),(1,95),(2,95)],avT,64,false⟩),
 (97,⟨.struct [(0,9),(1,95),(2,95)],vU,64,false⟩),
 (114,⟨.struct [(0,9),(1,95)],auF,40,false⟩),
 (115,⟨.struct [(0,9),(1,95)],aZ,40,false⟩),
 (120,⟨.struct [(0,3),(1,3),(2,9)],auG,32,false⟩),
 (121,⟨.struct [(0,3),(1,3),(2,9)],auE,32,true⟩),
 (126,⟨.struct [(0,22),(1,3),(2,3)],auH,40,false⟩),
 (127,⟨.struct [(0,22),(1,3),(2,3)],auI,40,false⟩),
 (131,⟨.struct [(0,3),(1,3),(2,3),(3,9),(4,121)],auJ,72,true⟩),
 (132,⟨.struct [(0,3),(1,3),(2,3),(3,9),(4,121)],dJ,72,true⟩),
 (153,⟨.struct [(0,9),(1,3)],auK,24,false⟩),
 (154,⟨.struct [(0,9),(1,3)],aY,24,true⟩),
 (171,⟨.struct [(0,9),(1,121)],auL,48,true⟩),
 (172,⟨.struct [(0,9),(1,121)],bP,48,true⟩),
 (203,⟨.scalar,auM,8,false⟩),
 (226,⟨.slice afR,auN,24,false⟩),
 (230,⟨.scalar,auO,8,false⟩),
 (239,⟨.scalar,auP,4,false⟩),
 (241,⟨.scalar,auQ,8,false⟩),
 (246,⟨.scalar,auR,8,false⟩),
 (263,⟨.scalar,auS,1,false⟩),
 (264,⟨.scalar,auT,1,false⟩),
 (267,⟨.scalar,auU,4,false⟩),
 (268,⟨.scalar,auV,4,false⟩)]
def Θ:gG:=agC uf
theorem ah:QZ prog uf=true:=by kernel_rfl
theorem mixed:prog.follows .mixedOrders=true:=by kernel_rfl
def G:kW where
 n:=0
 ok:=fun _=>True
 low:=fun _ _=>Nat.zero_le _
 stable:=fun _ _ _ _ _=>trivial
abbrev ajS:Nat:=108
abbrev DC:Nat:=108
theorem Rj:tq prog DC:=yF (fn:=f108) (by kernel_rfl) (by kernel_rfl)
abbrev Hf:Nat:=108
abbrev zA:Nat:=108
theorem Gn:tq prog zA:=yF (fn:=f108) (by kernel_rfl) (by kernel_rfl)
abbrev o6:Nat:=122
theorem uJ:tq prog o6:=yF (fn:=f122) (by kernel_rfl) (by kernel_rfl)
abbrev FT:Nat:=275
theorem YM:tq prog FT:=yF (fn:=f275) (by kernel_rfl) (by kernel_rfl)
abbrev Bc:Nat:=275
theorem NT:tq prog Bc:=yF (fn:=f275) (by kernel_rfl) (by kernel_rfl)
abbrev Fp:Nat:=275
abbrev Iu:Nat:=274
theorem aen:tq prog Iu:=yF (fn:=f274) (by kernel_rfl) (by kernel_rfl)
abbrev DF:Nat:=274
theorem Rk:tq prog DF:=yF (fn:=f274) (by kernel_rfl) (by kernel_rfl)
abbrev Hg:Nat:=274
end Go.Proofs.Tryz

import Derived.Test.YtlbkigkbmeckbaaGreatFwC
import Derived.Test.YtlbkigkbmeckbaaGreatProg
import Derived.Lib.LaidTab
import Derived.Lib.ItoaNum
namespace Go.Proofs.Tryz
open Go Go.Fw
abbrev fE:TypeId:=3
abbrev ag6:TypeId:=4
abbrev eG:TypeId:=5
abbrev bY:TypeId:=9
abbrev aS:TypeId:=34
abbrev aJ:TypeId:=54
abbrev yT:TypeId:=97
abbrev aI:TypeId:=115
abbrev bg:TypeId:=132
abbrev aC:TypeId:=154
abbrev aO:TypeId:=172
abbrev lV:aN:=(.cons (.int .i64) .nil)
abbrev jU:aN:=(.cons (.int .i64) .nil)
abbrev R_4:aN:=(.cons (.bool) .nil)
abbrev jM:aN:=(.cons (.int .u8) .nil)
abbrev R_6:aN:=(.cons (.int .u8) .nil)
abbrev R_7:aN:=(.cons (.int .i64) (.cons (.int .i64) (.cons (.bool) (.cons (.int .u8) .nil))))
abbrev R_8:aN:=(.cons (.int .i64) (.cons (.int .i64) (.cons (.bool) (.cons (.int .u8) .nil))))
abbrev eH:aN:=(.cons (.str) .nil)
abbrev axn:aN:=(.cons (.str) .nil)
abbrev axo:aN:=(.cons (.str) .nil)
abbrev axp:aN:=(.cons (.int .u64) .nil)
abbrev axq:aN:=(.cons (.str) (.cons (.int .u64) .nil))
abbrev axr:aN:=(.cons (.str) (.cons (.int .u64) .nil))
abbrev axs:aN:=(.cons (.int .i32) .nil)
abbrev axt:aN:=(.cons (.sl eG jM) .nil)
abbrev aX:aN:=(.cons (.str) (.cons (.int .i64) .nil))
abbrev axu:aN:=(.cons (.sl aC aX) .nil)
abbrev awx:aN:=(.cons (.int .i64) (.cons (.int .i64) (.cons (.str) .nil)))
abbrev aZ:aN:=(.cons (.str) (.cons (.int .i64) (.cons (.int .i64) (.cons (.str) .nil))))
abbrev axv:aN:=(.cons (.sl aO aZ) .nil)
abbrev bP:aN:=(.cons (.int .i64) (.cons (.int .i64) (.cons (.bool) (.cons (.int .i64) (.cons (.sl aO aZ) .nil)))))
abbrev axw:aN:=(.cons (.sl aJ bP) .nil)
abbrev axx:aN:=(.cons (.sl aC aX) (.cons (.sl aJ bP) (.cons (.int .i64) .nil)))
abbrev axy:aN:=(.cons (.sl aC aX) (.cons (.sl aJ bP) (.cons (.int .i64) .nil)))
abbrev dG:aN:=(.cons (.int .i64) (.cons (.int .i64) (.cons (.int .i64) (.cons (.str) (.cons (.int .i64) (.cons (.int .i64) (.cons (.str) .nil)))))))
abbrev axz:aN:=(.cons (.sl bg dG) .nil)
abbrev bF:aN:=(.cons (.str) (.cons (.sl bg dG) .nil))
abbrev axA:aN:=(.cons (.sl aS bF) .nil)
abbrev axB:aN:=(.cons (.sl fE jU) .nil)
abbrev bn:aN:=(.cons (.str) (.cons (.sl fE jU) .nil))
abbrev axC:aN:=(.cons (.sl aI bn) .nil)
abbrev axD:aN:=(.cons (.sl aC aX) (.cons (.sl aJ bP) (.cons (.int .i64) (.cons (.sl aS bF) (.cons (.sl aI bn) .nil)))))
abbrev axE:aN:=(.cons (.sl aC aX) (.cons (.sl aJ bP) (.cons (.int .i64) (.cons (.sl aS bF) (.cons (.sl aI bn) .nil)))))
abbrev axF:aN:=(.cons (.str) (.cons (.sl bg dG) .nil))
abbrev KW:aN:=(.cons (.str) (.cons (.sl fE jU) (.cons (.sl fE jU) .nil)))
abbrev axG:aN:=(.cons (.sl yT KW) .nil)
abbrev axH:aN:=(.cons (.int .i64) (.cons (.int .i64) (.cons (.bool) (.cons (.int .i64) (.cons (.sl aO aZ) .nil)))))
abbrev axI:aN:=(.cons (.sl bY eH) .nil)
abbrev axJ:aN:=(.cons (.str) (.cons (.sl fE jU) (.cons (.sl fE jU) .nil)))
abbrev awy:aN:=(.cons (.str) (.cons (.sl fE jU) .nil))
abbrev awz:aN:=(.cons (.int .i64) (.cons (.int .i64) (.cons (.str) .nil)))
abbrev awC:aN:=(.cons (.sl eG jM) (.cons (.int .i64) (.cons (.int .i64) .nil)))
abbrev awD:aN:=(.cons (.sl eG jM) (.cons (.int .i64) (.cons (.int .i64) .nil)))
abbrev awE:aN:=(.cons (.int .i64) (.cons (.int .i64) (.cons (.int .i64) (.cons (.str) (.cons (.int .i64) (.cons (.int .i64) (.cons (.str) .nil)))))))
abbrev awF:aN:=(.cons (.str) (.cons (.int .i64) .nil))
abbrev awG:aN:=(.cons (.str) (.cons (.int .i64) (.cons (.int .i64) (.cons (.str) .nil))))
abbrev awH:aN:=(.cons (.int .u64) .nil)
abbrev awI:aN:=(.cons (.sl ag6 R_4) .nil)
abbrev awJ:aN:=(.cons (.int .i64) .nil)
abbrev awK:aN:=(.cons (.int .u32) .nil)
abbrev awL:aN:=(.cons (.int .u64) .nil)
abbrev awM:aN:=(.cons (.int .u64) .nil)
abbrev awN:aN:=(.cons (.int .u8) .nil)
abbrev awO:aN:=(.cons (.int .u8) .nil)
abbrev awP:aN:=(.cons (.int .i32) .nil)
abbrev awQ:aN:=(.cons (.int .i32) .nil)
def uq:List (Nat×Go.Fw.TI):=[
 (2,⟨.scalar,lV,8,false⟩),
 (3,⟨.scalar,jU,8,false⟩),
 (4,⟨.scalar,R_4,1,false⟩),
 (5,⟨.scalar,jM,1,false⟩),
 (6,⟨.scalar,R_6,1,false⟩),
 (7,⟨.struct [(0,2),(1,3),(2,4),(3,6)],R_7,24,false⟩),
 (8,⟨.struct [(0,2),(1,3),(2,4),(3,6)],R_8,24,false⟩),
 (9,⟨.str,eH,16,false⟩),
 (10,⟨.str,axn,16,false⟩),
 (11,⟨.str,axo,16,false⟩),
 (12,⟨.scalar,axp,8,false⟩),
 (13,⟨.struct [(0,9),(1,12)],axq,24,false⟩),
 (14,⟨.struct [(0,9),(1,12)],axr,24,false⟩),
 (21,⟨.scalar,axs,4,false⟩),
 (22,⟨.slice eG,axt,24,false⟩),
 (24,⟨.slice aC,axu,24,false⟩),
 (25,⟨.slice aJ,axw,24,false⟩),
 (26,⟨.struct [(0,24),(1,25),(2,3)],axx,56,false⟩),
 (27,⟨.struct [(0,24),(1,25),(2,3)],axy,56,false⟩),
 (28,⟨.slice aS,axA,24,false⟩),
 (29,⟨.slice aI,axC,24,false⟩),
 (30,⟨.struct [(0,27),(3,28),(4,29)],axD,104,false⟩),
 (31,⟨.struct [(0,27),(3,28),(4,29)],axE,104,false⟩),
 (32,⟨.slice bg,axz,24,false⟩),
 (33,⟨.struct [(0,9),(1,32)],axF,40,false⟩),
 (34,⟨.struct [(0,9),(1,32)],bF,40,false⟩),
 (37,⟨.slice yT,axG,24,false⟩),
 (52,⟨.slice aO,axv,24,false⟩),
 (53,⟨.struct [(0,3),(1,3),(2,4),(3,3),(4,52)],axH,56,false⟩),
 (54,⟨.struct [(0,3),(1,3),(2,4),(3,3),(4,52)],bP,56,false⟩),
 (81,⟨.slice bY,axI,24,false⟩),
 (95,⟨.slice fE,axB,24,false⟩),
 (96,⟨.struct [(0,9),(1,95),(2,95)],axJ,64,false⟩),
 (97,⟨.struct [(0,9),(1,95),(2,95)],KW,64,false⟩),
 (114,⟨.struct [(0,9),(1,95)],awy,40,false⟩),
 (115,⟨.struct [(0,9),(1,95)],bn,40,false⟩),
 (120,⟨.struct [(0,3),(1,3),(2,9)],awz,32,false⟩),
 (121,⟨.struct [(0,3),(1,3),(2,9)],awx,32,true⟩),
 (126,⟨.struct [(0,22),(1,3),(2,3)],awC,40,false⟩),
 (127,⟨.struct [(0,22),(1,3),(2,3)],awD,40,false⟩),
 (131,⟨.struct [(0,3),(1,3),(2,3),(3,9),(4,121)],awE,72,true⟩),
 (132,⟨.struct [(0,3),(1,3),(2,3),(3,9),(4,121)],dG,72,true⟩),
 (153,⟨.struct [(0,9),(1,3)],awF,24,false⟩),
 (154,⟨.struct [(0,9),(1,3)],aX,24,true⟩),
 (171,⟨.struct [(0,9),(1,121)],awG,48,true⟩),
 (172,⟨.struct [(0,9),(1,121)],aZ,48,true⟩),
 (203,⟨.scalar,awH,8,false⟩),
 (226,⟨.slice ag6,awI,24,false⟩),
 (230,⟨.scalar,awJ,8,false⟩),
 (239,⟨.scalar,awK,4,false⟩),
 (241,⟨.scalar,awL,8,false⟩),
 (246,⟨.scalar,awM,8,false⟩),
 (263,⟨.scalar,awN,1,false⟩),
 (264,⟨.scalar,awO,1,false⟩),
 (267,⟨.scalar,awP,4,false⟩),
 (268,⟨.scalar,awQ,4,false⟩)]
def Θ:gK:=ahN uq
theorem ah:SN prog uq=true:=by kernel_rfl
theorem mixed:prog.follows .mixedOrders=true:=by kernel_rfl
def G:kQ where
 n:=0
 ok:=fun _=>True
 low:=fun _ _=>Nat.zero_le _
 stable:=fun _ _ _ _ _=>trivial
abbrev alj:Nat:=108
abbrev Eu:Nat:=108
theorem Tf:qU prog Eu:=vT (fn:=f108) (by kernel_rfl) (by kernel_rfl)
abbrev IE:Nat:=108
abbrev zT:Nat:=108
theorem Ht:qU prog zT:=vT (fn:=f108) (by kernel_rfl) (by kernel_rfl)
abbrev o7:Nat:=122
theorem uS:qU prog o7:=vT (fn:=f122) (by kernel_rfl) (by kernel_rfl)
abbrev GI:Nat:=275
theorem Z5:qU prog GI:=vT (fn:=f275) (by kernel_rfl) (by kernel_rfl)
abbrev Cj:Nat:=275
theorem O3:qU prog Cj:=vT (fn:=f275) (by kernel_rfl) (by kernel_rfl)
abbrev Gl:Nat:=275
abbrev Jy:Nat:=274
theorem afu:qU prog Jy:=vT (fn:=f274) (by kernel_rfl) (by kernel_rfl)
abbrev Ew:Nat:=274
theorem Ti:qU prog Ew:=vT (fn:=f274) (by kernel_rfl) (by kernel_rfl)
abbrev IG:Nat:=274
abbrev yL:Nat:=175
theorem KD:qU prog yL:=vT (fn:=f175) (by kernel_rfl) (by kernel_rfl)
end Go.Proofs.Tryz

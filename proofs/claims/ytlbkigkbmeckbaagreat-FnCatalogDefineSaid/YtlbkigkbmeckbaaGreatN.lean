import Derived.Test.YtlbkigkbmeckbaaGreatFwC
import Derived.Test.YtlbkigkbmeckbaaGreatProg
import Derived.Lib.LaidTab
import Derived.Lib.ItoaNum
namespace Go.Proofs.Tryz
open Go Go.Fw
abbrev dW:TypeId:=3
abbrev aea:TypeId:=4
abbrev eF:TypeId:=5
abbrev dY:TypeId:=9
abbrev aN:TypeId:=34
abbrev aP:TypeId:=54
abbrev qI:TypeId:=97
abbrev aI:TypeId:=115
abbrev aS:TypeId:=132
abbrev aF:TypeId:=154
abbrev bW:TypeId:=172
abbrev kX:aK:=(.cons (.int .i64) .nil)
abbrev jd:aK:=(.cons (.int .i64) .nil)
abbrev R_4:aK:=(.cons (.bool) .nil)
abbrev jD:aK:=(.cons (.int .u8) .nil)
abbrev R_6:aK:=(.cons (.int .u8) .nil)
abbrev R_7:aK:=(.cons (.int .i64) (.cons (.int .i64) (.cons (.bool) (.cons (.int .u8) .nil))))
abbrev R_8:aK:=(.cons (.int .i64) (.cons (.int .i64) (.cons (.bool) (.cons (.int .u8) .nil))))
abbrev ig:aK:=(.cons (.str) .nil)
abbrev atF:aK:=(.cons (.str) .nil)
abbrev atG:aK:=(.cons (.str) .nil)
abbrev atH:aK:=(.cons (.int .u64) .nil)
abbrev atI:aK:=(.cons (.str) (.cons (.int .u64) .nil))
abbrev atJ:aK:=(.cons (.str) (.cons (.int .u64) .nil))
abbrev atK:aK:=(.cons (.int .i32) .nil)
abbrev atL:aK:=(.cons (.sl eF jD) .nil)
abbrev aU:aK:=(.cons (.str) (.cons (.int .i64) .nil))
abbrev atM:aK:=(.cons (.sl aF aU) .nil)
abbrev asK:aK:=(.cons (.int .i64) (.cons (.int .i64) (.cons (.str) .nil)))
abbrev eG:aK:=(.cons (.str) (.cons (.int .i64) (.cons (.int .i64) (.cons (.str) .nil))))
abbrev atN:aK:=(.cons (.sl bW eG) .nil)
abbrev bP:aK:=(.cons (.int .i64) (.cons (.int .i64) (.cons (.bool) (.cons (.int .i64) (.cons (.sl bW eG) .nil)))))
abbrev atO:aK:=(.cons (.sl aP bP) .nil)
abbrev atP:aK:=(.cons (.sl aF aU) (.cons (.sl aP bP) (.cons (.int .i64) .nil)))
abbrev atQ:aK:=(.cons (.sl aF aU) (.cons (.sl aP bP) (.cons (.int .i64) .nil)))
abbrev bH:aK:=(.cons (.int .i64) (.cons (.int .i64) (.cons (.int .i64) (.cons (.str) (.cons (.int .i64) (.cons (.int .i64) (.cons (.str) .nil)))))))
abbrev atS:aK:=(.cons (.sl aS bH) .nil)
abbrev aW:aK:=(.cons (.str) (.cons (.sl aS bH) .nil))
abbrev atT:aK:=(.cons (.sl aN aW) .nil)
abbrev atU:aK:=(.cons (.sl dW jd) .nil)
abbrev bf:aK:=(.cons (.str) (.cons (.sl dW jd) .nil))
abbrev atV:aK:=(.cons (.sl aI bf) .nil)
abbrev atW:aK:=(.cons (.sl aF aU) (.cons (.sl aP bP) (.cons (.int .i64) (.cons (.sl aN aW) (.cons (.sl aI bf) .nil)))))
abbrev atX:aK:=(.cons (.sl aF aU) (.cons (.sl aP bP) (.cons (.int .i64) (.cons (.sl aN aW) (.cons (.sl aI bf) .nil)))))
abbrev atY:aK:=(.cons (.str) (.cons (.sl aS bH) .nil))
abbrev Du:aK:=(.cons (.str) (.cons (.sl dW jd) (.cons (.sl dW jd) .nil)))
abbrev atZ:aK:=(.cons (.sl qI Du) .nil)
abbrev at1:aK:=(.cons (.int .i64) (.cons (.int .i64) (.cons (.bool) (.cons (.int .i64) (.cons (.sl bW eG) .nil)))))
abbrev at6:aK:=(.cons (.sl dY ig) .nil)
abbrev at7:aK:=(.cons (.str) (.cons (.sl dW jd) (.cons (.sl dW jd) .nil)))
abbrev asL:aK:=(.cons (.str) (.cons (.sl dW jd) .nil))
abbrev asM:aK:=(.cons (.int .i64) (.cons (.int .i64) (.cons (.str) .nil)))
abbrev asN:aK:=(.cons (.sl eF jD) (.cons (.int .i64) (.cons (.int .i64) .nil)))
abbrev asO:aK:=(.cons (.sl eF jD) (.cons (.int .i64) (.cons (.int .i64) .nil)))
abbrev asP:aK:=(.cons (.int .i64) (.cons (.int .i64) (.cons (.int .i64) (.cons (.str) (.cons (.int .i64) (.cons (.int .i64) (.cons (.str) .nil)))))))
abbrev asQ:aK:=(.cons (.str) (.cons (.int .i64) .nil))
abbrev asR:aK:=(.cons (.str) (.cons (.int .i64) (.cons (.int .i64) (.cons (.str) .nil))))
abbrev asT:aK:=(.cons (.int .u64) .nil)
abbrev asU:aK:=(.cons (.sl aea R_4) .nil)
abbrev asV:aK:=(.cons (.int .i64) .nil)
abbrev asW:aK:=(.cons (.int .u32) .nil)
abbrev asX:aK:=(.cons (.int .u64) .nil)
abbrev asY:aK:=(.cons (.int .u64) .nil)
abbrev asZ:aK:=(.cons (.int .u8) .nil)
abbrev as1:aK:=(.cons (.int .u8) .nil)
abbrev as2:aK:=(.cons (.int .i32) .nil)
abbrev as3:aK:=(.cons (.int .i32) .nil)
def su:List (Nat×Go.Fw.TI):=[
 (2,⟨.scalar,kX,8,false⟩),
 (3,⟨.scalar,jd,8,false⟩),
 (4,⟨.scalar,R_4,1,false⟩),
 (5,⟨.scalar,jD,1,false⟩),
 (6,⟨.scalar,R_6,1,false⟩),
 (7,⟨.struct [(0,2),(1,3),(2,4),(3,6)],R_7,24,false⟩),
 (8,⟨.struct [(0,2),(1,3),(2,4),(3,6)],R_8,24,false⟩),
 (9,⟨.str,ig,16,false⟩),
 (10,⟨.str,atF,16,false⟩),
 (11,⟨.str,atG,16,false⟩),
 (12,⟨.scalar,atH,8,false⟩),
 (13,⟨.struct [(0,9),(1,12)],atI,24,false⟩),
 (14,⟨.struct [(0,9),(1,12)],atJ,24,false⟩),
 (21,⟨.scalar,atK,4,false⟩),
 (22,⟨.slice eF,atL,24,false⟩),
 (24,⟨.slice aF,atM,24,false⟩),
 (25,⟨.slice aP,atO,24,false⟩),
 (26,⟨.struct [(0,24),(1,25),(2,3)],atP,56,false⟩),
 (27,⟨.struct [(0,24),(1,25),(2,3)],atQ,56,false⟩),
 (28,⟨.slice aN,atT,24,false⟩),
 (29,⟨.slice aI,atV,24,false⟩),
 (30,⟨.struct [(0,27),(3,28),(4,29)],atW,104,false⟩),
 (31,⟨.struct [(0,27),(3,28),(4,29)],atX,104,false⟩),
 (32,⟨.slice aS,atS,24,false⟩),
 (33,⟨.struct [(0,9),(1,32)],atY,40,false⟩),
 (34,⟨.struct [(0,9),(1,32)],aW,40,false⟩),
 (37,⟨.slice qI,atZ,24,false⟩),
 (52,⟨.slice bW,atN,24,false⟩),
 (53,⟨.struct [(0,3),(1,3),(2,4),(3,3),(4,52)],at1,56,false⟩),
 (54,⟨.struct [(0,3),(1,3),(2,4),(3,3),(4,52)],bP,56,false⟩),
 (81,⟨.slice dY,at6,24,false⟩),
 (95,⟨.slice dW,atU,24,false⟩),
 (96,⟨.struct [(0,9),(1,95),(2,95)],at7,64,false⟩),
 (97,⟨.struct [(0,9),(1,95),(2,95)],Du,64,false⟩),
 (114,⟨.struct [(0,9),(1,95)],asL,40,false⟩),
 (115,⟨.struct [(0,9),(1,95)],bf,40,false⟩),
 (120,⟨.struct [(0,3),(1,3),(2,9)],asM,32,false⟩),
 (121,⟨.struct [(0,3),(1,3),(2,9)],asK,32,true⟩),
 (126,⟨.struct [(0,22),(1,3),(2,3)],asN,40,false⟩),
 (127,⟨.struct [(0,22),(1,3),(2,3)],asO,40,false⟩),
 (131,⟨.struct [(0,3),(1,3),(2,3),(3,9),(4,121)],asP,72,true⟩),
 (132,⟨.struct [(0,3),(1,3),(2,3),(3,9),(4,121)],bH,72,true⟩),
 (153,⟨.struct [(0,9),(1,3)],asQ,24,false⟩),
 (154,⟨.struct [(0,9),(1,3)],aU,24,true⟩),
 (171,⟨.struct [(0,9),(1,121)],asR,48,true⟩),
 (172,⟨.struct [(0,9),(1,121)],eG,48,true⟩),
 (203,⟨.scalar,asT,8,false⟩),
 (226,⟨.slice aea,asU,24,false⟩),
 (230,⟨.scalar,asV,8,false⟩),
 (239,⟨.scalar,asW,4,false⟩),
 (241,⟨.scalar,asX,8,false⟩),
 (246,⟨.scalar,asY,8,false⟩),
 (263,⟨.scalar,asZ,1,false⟩),
 (264,⟨.scalar,as1,1,false⟩),
 (267,⟨.scalar,as2,4,false⟩),
 (268,⟨.scalar,as3,4,false⟩)]
def Θ:fO:=aeN su
theorem ah:Pq prog su=true:=by kernel_rfl
theorem mixed:prog.follows .mixedOrders=true:=by kernel_rfl
def G:jF where
 n:=0
 ok:=fun _=>True
 low:=fun _ _=>Nat.zero_le _
 stable:=fun _ _ _ _ _=>trivial
abbrev ah3:Nat:=108
abbrev BL:Nat:=108
theorem PI:pF prog BL:=uy (fn:=f108) (by kernel_rfl) (by kernel_rfl)
abbrev FM:Nat:=108
abbrev yt:Nat:=108
theorem EK:pF prog yt:=uy (fn:=f108) (by kernel_rfl) (by kernel_rfl)
abbrev rJ:Nat:=122
theorem yu:pF prog rJ:=uy (fn:=f122) (by kernel_rfl) (by kernel_rfl)
abbrev Ei:Nat:=275
theorem Xv:pF prog Ei:=uy (fn:=f275) (by kernel_rfl) (by kernel_rfl)
abbrev zK:Nat:=275
theorem MC:pF prog zK:=uy (fn:=f275) (by kernel_rfl) (by kernel_rfl)
abbrev D5:Nat:=275
abbrev GH:Nat:=274
theorem acL:pF prog GH:=uy (fn:=f274) (by kernel_rfl) (by kernel_rfl)
abbrev BM:Nat:=274
theorem PK:pF prog BM:=uy (fn:=f274) (by kernel_rfl) (by kernel_rfl)
abbrev FN:Nat:=274
abbrev xR:Nat:=113
theorem II:pF prog xR:=uy (fn:=f113) (by kernel_rfl) (by kernel_rfl)
end Go.Proofs.Tryz

import Derived.Test.YtkgkfdphbkfjnaaGreatFwC
import Derived.Test.YtkgkfdphbkfjnaaGreatProg
import Derived.Lib.LaidTab
import Derived.Lib.ItoaNum
namespace Go.Proofs.Tryz
open Go Go.Fw
abbrev dZ:TypeId:=3
abbrev adS:TypeId:=4
abbrev eU:TypeId:=5
abbrev dH:TypeId:=9
abbrev ay:TypeId:=42
abbrev aG:TypeId:=49
abbrev Dz:TypeId:=51
abbrev aS:TypeId:=79
abbrev iq:TypeId:=105
abbrev ax:TypeId:=138
abbrev ai:TypeId:=176
abbrev aW:TypeId:=206
abbrev jD:aN:=(.cons (.int .i64) .nil)
abbrev iQ:aN:=(.cons (.int .i64) .nil)
abbrev R_4:aN:=(.cons (.bool) .nil)
abbrev jo:aN:=(.cons (.int .u8) .nil)
abbrev R_6:aN:=(.cons (.int .u8) .nil)
abbrev R_7:aN:=(.cons (.int .i64) (.cons (.int .i64) (.cons (.bool) (.cons (.int .u8) .nil))))
abbrev R_8:aN:=(.cons (.int .i64) (.cons (.int .i64) (.cons (.bool) (.cons (.int .u8) .nil))))
abbrev eY:aN:=(.cons (.str) .nil)
abbrev asP:aN:=(.cons (.str) .nil)
abbrev asQ:aN:=(.cons (.str) .nil)
abbrev asR:aN:=(.cons (.int .u64) .nil)
abbrev asT:aN:=(.cons (.str) (.cons (.int .u64) .nil))
abbrev asU:aN:=(.cons (.str) (.cons (.int .u64) .nil))
abbrev asV:aN:=(.cons (.int .i32) .nil)
abbrev asW:aN:=(.cons (.sl eU jo) .nil)
abbrev aO:aN:=(.cons (.str) (.cons (.int .i64) .nil))
abbrev asX:aN:=(.cons (.sl ai aO) .nil)
abbrev asY:aN:=(.cons (.int .i64) (.cons (.int .i64) (.cons (.str) .nil)))
abbrev dh:aN:=(.cons (.str) (.cons (.int .i64) (.cons (.int .i64) (.cons (.str) .nil))))
abbrev asZ:aN:=(.cons (.sl aS dh) .nil)
abbrev aY:aN:=(.cons (.int .i64) (.cons (.int .i64) (.cons (.bool) (.cons (.int .i64) (.cons (.sl aS dh) .nil)))))
abbrev as1:aN:=(.cons (.sl ay aY) .nil)
abbrev as2:aN:=(.cons (.sl ai aO) (.cons (.sl ay aY) (.cons (.int .i64) .nil)))
abbrev as3:aN:=(.cons (.sl ai aO) (.cons (.sl ay aY) (.cons (.int .i64) .nil)))
abbrev bW:aN:=(.cons (.int .i64) (.cons (.int .i64) (.cons (.int .i64) (.cons (.str) (.cons (.int .i64) (.cons (.int .i64) (.cons (.str) .nil)))))))
abbrev as4:aN:=(.cons (.sl aW bW) .nil)
abbrev aP:aN:=(.cons (.str) (.cons (.sl aW bW) .nil))
abbrev as5:aN:=(.cons (.sl aG aP) .nil)
abbrev as6:aN:=(.cons (.sl dZ iQ) .nil)
abbrev aU:aN:=(.cons (.str) (.cons (.sl dZ iQ) .nil))
abbrev as7:aN:=(.cons (.sl ax aU) .nil)
abbrev as8:aN:=(.cons (.sl ai aO) (.cons (.sl ay aY) (.cons (.int .i64) (.cons (.sl aG aP) (.cons (.sl ax aU) .nil)))))
abbrev as9:aN:=(.cons (.sl ai aO) (.cons (.sl ay aY) (.cons (.int .i64) (.cons (.sl aG aP) (.cons (.sl ax aU) .nil)))))
abbrev ata:aN:=(.cons (.int .i64) (.cons (.int .i64) (.cons (.bool) (.cons (.int .i64) (.cons (.sl aS dh) .nil)))))
abbrev atb:aN:=(.cons (.sl dH eY) .nil)
abbrev atc:aN:=(.cons (.str) (.cons (.sl aW bW) .nil))
abbrev Ux:aN:=(.cons (.int .i64) (.cons (.int .i64) (.cons (.int .i64) (.cons (.bool) (.cons (.int .i64) (.cons (.sl aS dh) (.cons (.int .i64) (.cons (.str) (.cons (.sl aW bW) .nil)))))))))
abbrev aje:aN:=(.cons (.int .i64) (.cons (.int .i64) (.cons (.int .i64) (.cons (.bool) (.cons (.int .i64) (.cons (.sl aS dh) (.cons (.int .i64) (.cons (.str) (.cons (.sl aW bW) .nil)))))))))
abbrev kG:aN:=(.cons (.str) (.cons (.sl dZ iQ) (.cons (.sl dZ iQ) .nil)))
abbrev atd:aN:=(.cons (.sl iq kG) .nil)
abbrev ate:aN:=(.cons (.sl Dz aje) .nil)
abbrev atf:aN:=(.cons (.int .i64) (.cons (.int .i64) (.cons (.str) .nil)))
abbrev atg:aN:=(.cons (.str) (.cons (.int .i64) (.cons (.int .i64) (.cons (.str) .nil))))
abbrev arR:aN:=(.cons (.str) (.cons (.sl dZ iQ) (.cons (.sl dZ iQ) .nil)))
abbrev arS:aN:=(.cons (.sl eU jo) (.cons (.int .i64) (.cons (.int .i64) .nil)))
abbrev arT:aN:=(.cons (.sl eU jo) (.cons (.int .i64) (.cons (.int .i64) .nil)))
abbrev arU:aN:=(.cons (.bool) (.cons (.sl aS dh) .nil))
abbrev arV:aN:=(.cons (.bool) (.cons (.sl aS dh) .nil))
abbrev arW:aN:=(.cons (.str) (.cons (.sl dZ iQ) .nil))
abbrev arX:aN:=(.cons (.str) (.cons (.int .i64) .nil))
abbrev arY:aN:=(.cons (.int .i64) (.cons (.int .i64) (.cons (.int .i64) (.cons (.str) (.cons (.int .i64) (.cons (.int .i64) (.cons (.str) .nil)))))))
abbrev arZ:aN:=(.cons (.int .u64) .nil)
abbrev ar0:aN:=(.cons (.int .i64) .nil)
abbrev ar1:aN:=(.cons (.int .u32) .nil)
abbrev ar2:aN:=(.cons (.int .u64) .nil)
abbrev ar4:aN:=(.cons (.sl adS R_4) .nil)
abbrev ar5:aN:=(.cons (.int .u64) .nil)
abbrev ar6:aN:=(.cons (.int .u8) .nil)
abbrev ar7:aN:=(.cons (.int .u8) .nil)
abbrev ar8:aN:=(.cons (.int .i32) .nil)
abbrev ar9:aN:=(.cons (.int .i32) .nil)
def qW:List (Nat×Go.Fw.TI):=[
 (2,⟨.scalar,jD,8,false⟩),
 (3,⟨.scalar,iQ,8,false⟩),
 (4,⟨.scalar,R_4,1,false⟩),
 (5,⟨.scalar,jo,1,false⟩),
 (6,⟨.scalar,R_6,1,false⟩),
 (7,⟨.struct [(0,2),(1,3),(2,4),(3,6)],R_7,24,false⟩),
 (8,⟨.struct [(0,2),(1,3),(2,4),(3,6)],R_8,24,false⟩),
 (9,⟨.str,eY,16,false⟩),
 (10,⟨.str,asP,16,false⟩),
 (11,⟨.str,asQ,16,false⟩),
 (12,⟨.scalar,asR,8,false⟩),
 (13,⟨.struct [(0,9),(1,12)],asT,24,false⟩),
 (14,⟨.struct [(0,9),(1,12)],asU,24,false⟩),
 (21,⟨.scalar,asV,4,false⟩),
 (22,⟨.slice eU,asW,24,false⟩),
 (24,⟨.slice ai,asX,24,false⟩),
 (25,⟨.slice ay,as1,24,false⟩),
 (26,⟨.struct [(0,24),(1,25),(2,3)],as2,56,false⟩),
 (27,⟨.struct [(0,24),(1,25),(2,3)],as3,56,false⟩),
 (28,⟨.slice aG,as5,24,false⟩),
 (29,⟨.slice ax,as7,24,false⟩),
 (30,⟨.struct [(0,27),(3,28),(4,29)],as8,104,false⟩),
 (31,⟨.struct [(0,27),(3,28),(4,29)],as9,104,false⟩),
 (34,⟨.slice aS,asZ,24,false⟩),
 (41,⟨.struct [(0,3),(1,3),(2,4),(3,3),(4,34)],ata,56,false⟩),
 (42,⟨.struct [(0,3),(1,3),(2,4),(3,3),(4,34)],aY,56,false⟩),
 (44,⟨.slice dH,atb,24,false⟩),
 (47,⟨.slice aW,as4,24,false⟩),
 (48,⟨.struct [(0,9),(1,47)],atc,40,false⟩),
 (49,⟨.struct [(0,9),(1,47)],aP,40,false⟩),
 (50,⟨.struct [(0,3),(1,42),(6,3),(7,49)],Ux,112,false⟩),
 (51,⟨.struct [(0,3),(1,42),(6,3),(7,49)],aje,112,false⟩),
 (54,⟨.slice iq,atd,24,false⟩),
 (63,⟨.slice Dz,ate,24,false⟩),
 (64,⟨.slice dZ,as6,24,false⟩),
 (76,⟨.struct [(0,3),(1,3),(2,9)],atf,32,false⟩),
 (77,⟨.struct [(0,3),(1,3),(2,9)],asY,32,true⟩),
 (78,⟨.struct [(0,9),(1,77)],atg,48,true⟩),
 (79,⟨.struct [(0,9),(1,77)],dh,48,true⟩),
 (104,⟨.struct [(0,9),(1,64),(2,64)],arR,64,false⟩),
 (105,⟨.struct [(0,9),(1,64),(2,64)],kG,64,false⟩),
 (118,⟨.struct [(0,22),(1,3),(2,3)],arS,40,false⟩),
 (119,⟨.struct [(0,22),(1,3),(2,3)],arT,40,false⟩),
 (124,⟨.struct [(0,4),(1,34)],arU,32,false⟩),
 (125,⟨.struct [(0,4),(1,34)],arV,32,false⟩),
 (137,⟨.struct [(0,9),(1,64)],arW,40,false⟩),
 (138,⟨.struct [(0,9),(1,64)],aU,40,false⟩),
 (175,⟨.struct [(0,9),(1,3)],arX,24,false⟩),
 (176,⟨.struct [(0,9),(1,3)],aO,24,true⟩),
 (205,⟨.struct [(0,3),(1,3),(2,3),(3,9),(4,77)],arY,72,true⟩),
 (206,⟨.struct [(0,3),(1,3),(2,3),(3,9),(4,77)],bW,72,true⟩),
 (207,⟨.scalar,arZ,8,false⟩),
 (243,⟨.scalar,ar0,8,false⟩),
 (251,⟨.scalar,ar1,4,false⟩),
 (253,⟨.scalar,ar2,8,false⟩),
 (256,⟨.slice adS,ar4,24,false⟩),
 (259,⟨.scalar,ar5,8,false⟩),
 (276,⟨.scalar,ar6,1,false⟩),
 (277,⟨.scalar,ar7,1,false⟩),
 (280,⟨.scalar,ar8,4,false⟩),
 (281,⟨.scalar,ar9,4,false⟩)]
def Θ:jK:=ad9 qW
theorem aiE:Sl prog qW=true:=by kernel_rfl
theorem mixed:prog.follows .mixedOrders=true:=by kernel_rfl
def G:kJ where
 n:=0
 ok:=λ_=>True
 low:=λ_ _=>auX _
 stable:=λ_ _ _ _ _=>trivial
abbrev agJ:Nat:=192
abbrev x9:Nat:=192
theorem SE:oM prog x9:=sU (fn:=f192) (by kernel_rfl) (by kernel_rfl)
abbrev Jq:Nat:=192
abbrev yg:Nat:=192
theorem Iz:oM prog yg:=sU (fn:=f192) (by kernel_rfl) (by kernel_rfl)
abbrev mY:Nat:=140
theorem rQ:oM prog mY:=sU (fn:=f140) (by kernel_rfl) (by kernel_rfl)
abbrev Ib:Nat:=226
theorem X4:oM prog Ib:=sU (fn:=f226) (by kernel_rfl) (by kernel_rfl)
abbrev uS:Nat:=226
theorem PK:oM prog uS:=sU (fn:=f226) (by kernel_rfl) (by kernel_rfl)
abbrev GU:Nat:=226
abbrev Kq:Nat:=237
theorem acr:oM prog Kq:=sU (fn:=f237) (by kernel_rfl) (by kernel_rfl)
abbrev yc:Nat:=237
theorem SG:oM prog yc:=sU (fn:=f237) (by kernel_rfl) (by kernel_rfl)
abbrev Jr:Nat:=237
abbrev xB:Nat:=202
theorem LY:oM prog xB:=sU (fn:=f202) (by kernel_rfl) (by kernel_rfl)
abbrev OK(x:Nat×LV):Prop:=aei prog G x
theorem au(l:List (Nat×LV))(h:ajQ prog G l):EnvB prog G Θ (MQ l):=aoZ aiE h
end Go.Proofs.Tryz

import Derived.Test.YtkgkfdphbkfjnaaGreatFwC
import Derived.Test.YtkgkfdphbkfjnaaGreatProg
import Derived.Lib.LaidTab
import Derived.Lib.ItoaNum
namespace Go.Proofs.Tryz
open Go Go.Fw
abbrev fH:TypeId:=3
abbrev afM:TypeId:=4
abbrev eG:TypeId:=5
abbrev dn:TypeId:=9
abbrev aG:TypeId:=42
abbrev aJ:TypeId:=49
abbrev YH:TypeId:=51
abbrev ai:TypeId:=79
abbrev wZ:TypeId:=105
abbrev ay:TypeId:=138
abbrev au:TypeId:=176
abbrev bg:TypeId:=206
abbrev lJ:aK:=(.cons (.int .i64) .nil)
abbrev jR:aK:=(.cons (.int .i64) .nil)
abbrev R_4:aK:=(.cons (.bool) .nil)
abbrev jL:aK:=(.cons (.int .u8) .nil)
abbrev R_6:aK:=(.cons (.int .u8) .nil)
abbrev R_7:aK:=(.cons (.int .i64) (.cons (.int .i64) (.cons (.bool) (.cons (.int .u8) .nil))))
abbrev R_8:aK:=(.cons (.int .i64) (.cons (.int .i64) (.cons (.bool) (.cons (.int .u8) .nil))))
abbrev eF:aK:=(.cons (.str) .nil)
abbrev avc:aK:=(.cons (.str) .nil)
abbrev avd:aK:=(.cons (.str) .nil)
abbrev ave:aK:=(.cons (.int .u64) .nil)
abbrev avf:aK:=(.cons (.str) (.cons (.int .u64) .nil))
abbrev avg:aK:=(.cons (.str) (.cons (.int .u64) .nil))
abbrev avh:aK:=(.cons (.int .i32) .nil)
abbrev avi:aK:=(.cons (.sl eG jL) .nil)
abbrev aT:aK:=(.cons (.str) (.cons (.int .i64) .nil))
abbrev avj:aK:=(.cons (.sl au aT) .nil)
abbrev avk:aK:=(.cons (.int .i64) (.cons (.int .i64) (.cons (.str) .nil)))
abbrev aN:aK:=(.cons (.str) (.cons (.int .i64) (.cons (.int .i64) (.cons (.str) .nil))))
abbrev avl:aK:=(.cons (.sl ai aN) .nil)
abbrev bG:aK:=(.cons (.int .i64) (.cons (.int .i64) (.cons (.bool) (.cons (.int .i64) (.cons (.sl ai aN) .nil)))))
abbrev avm:aK:=(.cons (.sl aG bG) .nil)
abbrev avn:aK:=(.cons (.sl au aT) (.cons (.sl aG bG) (.cons (.int .i64) .nil)))
abbrev avo:aK:=(.cons (.sl au aT) (.cons (.sl aG bG) (.cons (.int .i64) .nil)))
abbrev bW:aK:=(.cons (.int .i64) (.cons (.int .i64) (.cons (.int .i64) (.cons (.str) (.cons (.int .i64) (.cons (.int .i64) (.cons (.str) .nil)))))))
abbrev avp:aK:=(.cons (.sl bg bW) .nil)
abbrev bF:aK:=(.cons (.str) (.cons (.sl bg bW) .nil))
abbrev avq:aK:=(.cons (.sl aJ bF) .nil)
abbrev avr:aK:=(.cons (.sl fH jR) .nil)
abbrev aY:aK:=(.cons (.str) (.cons (.sl fH jR) .nil))
abbrev avs:aK:=(.cons (.sl ay aY) .nil)
abbrev avt:aK:=(.cons (.sl au aT) (.cons (.sl aG bG) (.cons (.int .i64) (.cons (.sl aJ bF) (.cons (.sl ay aY) .nil)))))
abbrev avu:aK:=(.cons (.sl au aT) (.cons (.sl aG bG) (.cons (.int .i64) (.cons (.sl aJ bF) (.cons (.sl ay aY) .nil)))))
abbrev avv:aK:=(.cons (.int .i64) (.cons (.int .i64) (.cons (.bool) (.cons (.int .i64) (.cons (.sl ai aN) .nil)))))
abbrev avw:aK:=(.cons (.sl dn eF) .nil)
abbrev avx:aK:=(.cons (.str) (.cons (.sl bg bW) .nil))
abbrev avy:aK:=(.cons (.int .i64) (.cons (.int .i64) (.cons (.int .i64) (.cons (.bool) (.cons (.int .i64) (.cons (.sl ai aN) (.cons (.int .i64) (.cons (.str) (.cons (.sl bg bW) .nil)))))))))
abbrev atD:aK:=(.cons (.int .i64) (.cons (.int .i64) (.cons (.int .i64) (.cons (.bool) (.cons (.int .i64) (.cons (.sl ai aN) (.cons (.int .i64) (.cons (.str) (.cons (.sl bg bW) .nil)))))))))
abbrev Jb:aK:=(.cons (.str) (.cons (.sl fH jR) (.cons (.sl fH jR) .nil)))
abbrev avz:aK:=(.cons (.sl wZ Jb) .nil)
abbrev avA:aK:=(.cons (.sl YH atD) .nil)
abbrev avC:aK:=(.cons (.int .i64) (.cons (.int .i64) (.cons (.str) .nil)))
abbrev avD:aK:=(.cons (.str) (.cons (.int .i64) (.cons (.int .i64) (.cons (.str) .nil))))
abbrev auh:aK:=(.cons (.str) (.cons (.sl fH jR) (.cons (.sl fH jR) .nil)))
abbrev aui:aK:=(.cons (.sl eG jL) (.cons (.int .i64) (.cons (.int .i64) .nil)))
abbrev auj:aK:=(.cons (.sl eG jL) (.cons (.int .i64) (.cons (.int .i64) .nil)))
abbrev auk:aK:=(.cons (.bool) (.cons (.sl ai aN) .nil))
abbrev aul:aK:=(.cons (.bool) (.cons (.sl ai aN) .nil))
abbrev aum:aK:=(.cons (.str) (.cons (.sl fH jR) .nil))
abbrev aun:aK:=(.cons (.str) (.cons (.int .i64) .nil))
abbrev auo:aK:=(.cons (.int .i64) (.cons (.int .i64) (.cons (.int .i64) (.cons (.str) (.cons (.int .i64) (.cons (.int .i64) (.cons (.str) .nil)))))))
abbrev aup:aK:=(.cons (.int .u64) .nil)
abbrev auq:aK:=(.cons (.int .i64) .nil)
abbrev aur:aK:=(.cons (.int .u32) .nil)
abbrev aus:aK:=(.cons (.int .u64) .nil)
abbrev aut:aK:=(.cons (.sl afM R_4) .nil)
abbrev auu:aK:=(.cons (.int .u64) .nil)
abbrev auv:aK:=(.cons (.int .u8) .nil)
abbrev auw:aK:=(.cons (.int .u8) .nil)
abbrev auy:aK:=(.cons (.int .i32) .nil)
abbrev auz:aK:=(.cons (.int .i32) .nil)
def qX:List (Nat×Go.Fw.TI):=[
 (2,⟨.scalar,lJ,8,false⟩),
 (3,⟨.scalar,jR,8,false⟩),
 (4,⟨.scalar,R_4,1,false⟩),
 (5,⟨.scalar,jL,1,false⟩),
 (6,⟨.scalar,R_6,1,false⟩),
 (7,⟨.struct [(0,2),(1,3),(2,4),(3,6)],R_7,24,false⟩),
 (8,⟨.struct [(0,2),(1,3),(2,4),(3,6)],R_8,24,false⟩),
 (9,⟨.str,eF,16,false⟩),
 (10,⟨.str,avc,16,false⟩),
 (11,⟨.str,avd,16,false⟩),
 (12,⟨.scalar,ave,8,false⟩),
 (13,⟨.struct [(0,9),(1,12)],avf,24,false⟩),
 (14,⟨.struct [(0,9),(1,12)],avg,24,false⟩),
 (21,⟨.scalar,avh,4,false⟩),
 (22,⟨.slice eG,avi,24,false⟩),
 (24,⟨.slice au,avj,24,false⟩),
 (25,⟨.slice aG,avm,24,false⟩),
 (26,⟨.struct [(0,24),(1,25),(2,3)],avn,56,false⟩),
 (27,⟨.struct [(0,24),(1,25),(2,3)],avo,56,false⟩),
 (28,⟨.slice aJ,avq,24,false⟩),
 (29,⟨.slice ay,avs,24,false⟩),
 (30,⟨.struct [(0,27),(3,28),(4,29)],avt,104,false⟩),
 (31,⟨.struct [(0,27),(3,28),(4,29)],avu,104,false⟩),
 (34,⟨.slice ai,avl,24,false⟩),
 (41,⟨.struct [(0,3),(1,3),(2,4),(3,3),(4,34)],avv,56,false⟩),
 (42,⟨.struct [(0,3),(1,3),(2,4),(3,3),(4,34)],bG,56,false⟩),
 (44,⟨.slice dn,avw,24,false⟩),
 (47,⟨.slice bg,avp,24,false⟩),
 (48,⟨.struct [(0,9),(1,47)],avx,40,false⟩),
 (49,⟨.struct [(0,9),(1,47)],bF,40,false⟩),
 (50,⟨.struct [(0,3),(1,42),(6,3),(7,49)],avy,112,false⟩),
 (51,⟨.struct [(0,3),(1,42),(6,3),(7,49)],atD,112,false⟩),
 (54,⟨.slice wZ,avz,24,false⟩),
 (63,⟨.slice YH,avA,24,false⟩),
 (64,⟨.slice fH,avr,24,false⟩),
 (76,⟨.struct [(0,3),(1,3),(2,9)],avC,32,false⟩),
 (77,⟨.struct [(0,3),(1,3),(2,9)],avk,32,true⟩),
 (78,⟨.struct [(0,9),(1,77)],avD,48,true⟩),
 (79,⟨.struct [(0,9),(1,77)],aN,48,true⟩),
 (104,⟨.struct [(0,9),(1,64),(2,64)],auh,64,false⟩),
 (105,⟨.struct [(0,9),(1,64),(2,64)],Jb,64,false⟩),
 (118,⟨.struct [(0,22),(1,3),(2,3)],aui,40,false⟩),
 (119,⟨.struct [(0,22),(1,3),(2,3)],auj,40,false⟩),
 (124,⟨.struct [(0,4),(1,34)],auk,32,false⟩),
 (125,⟨.struct [(0,4),(1,34)],aul,32,false⟩),
 (137,⟨.struct [(0,9),(1,64)],aum,40,false⟩),
 (138,⟨.struct [(0,9),(1,64)],aY,40,false⟩),
 (175,⟨.struct [(0,9),(1,3)],aun,24,false⟩),
 (176,⟨.struct [(0,9),(1,3)],aT,24,true⟩),
 (205,⟨.struct [(0,3),(1,3),(2,3),(3,9),(4,77)],auo,72,true⟩),
 (206,⟨.struct [(0,3),(1,3),(2,3),(3,9),(4,77)],bW,72,true⟩),
 (207,⟨.scalar,aup,8,false⟩),
 (243,⟨.scalar,auq,8,false⟩),
 (251,⟨.scalar,aur,4,false⟩),
 (253,⟨.scalar,aus,8,false⟩),
 (256,⟨.slice afM,aut,24,false⟩),
 (259,⟨.scalar,auu,8,false⟩),
 (276,⟨.scalar,auv,1,false⟩),
 (277,⟨.scalar,auw,1,false⟩),
 (280,⟨.scalar,auy,4,false⟩),
 (281,⟨.scalar,auz,4,false⟩)]
def Θ:jT:=af4 qX
theorem akO:Vh prog qX=true:=by kernel_rfl
theorem mixed:prog.follows .mixedOrders=true:=by kernel_rfl
def G:kR where
 n:=0
 ok:=λ_=>True
 low:=λ_ _=>axp _
 stable:=λ_ _ _ _ _=>trivial
abbrev aiN:Nat:=192
abbrev yR:Nat:=192
theorem Vr:kY prog yR:=lG (fn:=f192) (by kernel_rfl) (by kernel_rfl)
abbrev KR:Nat:=192
abbrev yU:Nat:=192
theorem JS:kY prog yU:=lG (fn:=f192) (by kernel_rfl) (by kernel_rfl)
abbrev nJ:Nat:=140
theorem rX:kY prog nJ:=lG (fn:=f140) (by kernel_rfl) (by kernel_rfl)
abbrev xY:Nat:=226
theorem NY:kY prog xY:=lG (fn:=f226) (by kernel_rfl) (by kernel_rfl)
abbrev ve:Nat:=226
theorem RI:kY prog ve:=lG (fn:=f226) (by kernel_rfl) (by kernel_rfl)
abbrev II:Nat:=226
abbrev Dc:Nat:=237
theorem QD:kY prog Dc:=lG (fn:=f237) (by kernel_rfl) (by kernel_rfl)
abbrev yS:Nat:=237
theorem Vs:kY prog yS:=lG (fn:=f237) (by kernel_rfl) (by kernel_rfl)
abbrev KT:Nat:=237
abbrev qi:Nat:=232
theorem DU:kY prog qi:=lG (fn:=f232) (by kernel_rfl) (by kernel_rfl)
abbrev Jj:Nat:=172
theorem Td:kY prog Jj:=lG (fn:=f172) (by kernel_rfl) (by kernel_rfl)
abbrev Aq:Nat:=172
theorem W9:kY prog Aq:=lG (fn:=f172) (by kernel_rfl) (by kernel_rfl)
abbrev Me:Nat:=172
abbrev Hg:Nat:=180
theorem QE:kY prog Hg:=lG (fn:=f180) (by kernel_rfl) (by kernel_rfl)
abbrev yT:Nat:=180
theorem Vt:kY prog yT:=lG (fn:=f180) (by kernel_rfl) (by kernel_rfl)
abbrev KU:Nat:=180
abbrev OK(x:Nat×Ot):Prop:=agd prog G x
theorem ax(l:List (Nat×Ot))(h:al2 prog G l):EnvB prog G Θ (Kv l):=arj akO h
end Go.Proofs.Tryz

import Derived.Test.YtkgkfdphbkfjnaaGreatFwC
import Derived.Test.YtkgkfdphbkfjnaaGreatProg
import Derived.Lib.LaidTab
import Derived.Lib.ItoaNum
namespace Go.Proofs.Tryz
open Go Go.Fw
abbrev fH:TypeId:=3
abbrev afG:TypeId:=4
abbrev eH:TypeId:=5
abbrev dn:TypeId:=9
abbrev aG:TypeId:=42
abbrev aJ:TypeId:=49
abbrev Yw:TypeId:=51
abbrev ai:TypeId:=79
abbrev wV:TypeId:=105
abbrev ay:TypeId:=138
abbrev ak:TypeId:=176
abbrev bg:TypeId:=206
abbrev lH:aK:=(.cons (.int .i64) .nil)
abbrev jR:aK:=(.cons (.int .i64) .nil)
abbrev R_4:aK:=(.cons (.bool) .nil)
abbrev jQ:aK:=(.cons (.int .u8) .nil)
abbrev R_6:aK:=(.cons (.int .u8) .nil)
abbrev R_7:aK:=(.cons (.int .i64) (.cons (.int .i64) (.cons (.bool) (.cons (.int .u8) .nil))))
abbrev R_8:aK:=(.cons (.int .i64) (.cons (.int .i64) (.cons (.bool) (.cons (.int .u8) .nil))))
abbrev eF:aK:=(.cons (.str) .nil)
abbrev au3:aK:=(.cons (.str) .nil)
abbrev au4:aK:=(.cons (.str) .nil)
abbrev au5:aK:=(.cons (.int .u64) .nil)
abbrev au6:aK:=(.cons (.str) (.cons (.int .u64) .nil))
abbrev au7:aK:=(.cons (.str) (.cons (.int .u64) .nil))
abbrev au8:aK:=(.cons (.int .i32) .nil)
abbrev au9:aK:=(.cons (.sl eH jQ) .nil)
abbrev aS:aK:=(.cons (.str) (.cons (.int .i64) .nil))
abbrev ava:aK:=(.cons (.sl ak aS) .nil)
abbrev avb:aK:=(.cons (.int .i64) (.cons (.int .i64) (.cons (.str) .nil)))
abbrev aN:aK:=(.cons (.str) (.cons (.int .i64) (.cons (.int .i64) (.cons (.str) .nil))))
abbrev avc:aK:=(.cons (.sl ai aN) .nil)
abbrev bG:aK:=(.cons (.int .i64) (.cons (.int .i64) (.cons (.bool) (.cons (.int .i64) (.cons (.sl ai aN) .nil)))))
abbrev avd:aK:=(.cons (.sl aG bG) .nil)
abbrev ave:aK:=(.cons (.sl ak aS) (.cons (.sl aG bG) (.cons (.int .i64) .nil)))
abbrev avf:aK:=(.cons (.sl ak aS) (.cons (.sl aG bG) (.cons (.int .i64) .nil)))
abbrev bW:aK:=(.cons (.int .i64) (.cons (.int .i64) (.cons (.int .i64) (.cons (.str) (.cons (.int .i64) (.cons (.int .i64) (.cons (.str) .nil)))))))
abbrev avg:aK:=(.cons (.sl bg bW) .nil)
abbrev bF:aK:=(.cons (.str) (.cons (.sl bg bW) .nil))
abbrev avh:aK:=(.cons (.sl aJ bF) .nil)
abbrev avi:aK:=(.cons (.sl fH jR) .nil)
abbrev aX:aK:=(.cons (.str) (.cons (.sl fH jR) .nil))
abbrev avj:aK:=(.cons (.sl ay aX) .nil)
abbrev avk:aK:=(.cons (.sl ak aS) (.cons (.sl aG bG) (.cons (.int .i64) (.cons (.sl aJ bF) (.cons (.sl ay aX) .nil)))))
abbrev avl:aK:=(.cons (.sl ak aS) (.cons (.sl aG bG) (.cons (.int .i64) (.cons (.sl aJ bF) (.cons (.sl ay aX) .nil)))))
abbrev avm:aK:=(.cons (.int .i64) (.cons (.int .i64) (.cons (.bool) (.cons (.int .i64) (.cons (.sl ai aN) .nil)))))
abbrev avn:aK:=(.cons (.sl dn eF) .nil)
abbrev avo:aK:=(.cons (.str) (.cons (.sl bg bW) .nil))
abbrev avp:aK:=(.cons (.int .i64) (.cons (.int .i64) (.cons (.int .i64) (.cons (.bool) (.cons (.int .i64) (.cons (.sl ai aN) (.cons (.int .i64) (.cons (.str) (.cons (.sl bg bW) .nil)))))))))
abbrev att:aK:=(.cons (.int .i64) (.cons (.int .i64) (.cons (.int .i64) (.cons (.bool) (.cons (.int .i64) (.cons (.sl ai aN) (.cons (.int .i64) (.cons (.str) (.cons (.sl bg bW) .nil)))))))))
abbrev I7:aK:=(.cons (.str) (.cons (.sl fH jR) (.cons (.sl fH jR) .nil)))
abbrev avq:aK:=(.cons (.sl wV I7) .nil)
abbrev avr:aK:=(.cons (.sl Yw att) .nil)
abbrev avs:aK:=(.cons (.int .i64) (.cons (.int .i64) (.cons (.str) .nil)))
abbrev avt:aK:=(.cons (.str) (.cons (.int .i64) (.cons (.int .i64) (.cons (.str) .nil))))
abbrev at6:aK:=(.cons (.str) (.cons (.sl fH jR) (.cons (.sl fH jR) .nil)))
abbrev at7:aK:=(.cons (.sl eH jQ) (.cons (.int .i64) (.cons (.int .i64) .nil)))
abbrev aua:aK:=(.cons (.sl eH jQ) (.cons (.int .i64) (.cons (.int .i64) .nil)))
abbrev aub:aK:=(.cons (.bool) (.cons (.sl ai aN) .nil))
abbrev auc:aK:=(.cons (.bool) (.cons (.sl ai aN) .nil))
abbrev aud:aK:=(.cons (.str) (.cons (.sl fH jR) .nil))
abbrev aue:aK:=(.cons (.str) (.cons (.int .i64) .nil))
abbrev auf:aK:=(.cons (.int .i64) (.cons (.int .i64) (.cons (.int .i64) (.cons (.str) (.cons (.int .i64) (.cons (.int .i64) (.cons (.str) .nil)))))))
abbrev aug:aK:=(.cons (.int .u64) .nil)
abbrev auh:aK:=(.cons (.int .i64) .nil)
abbrev aui:aK:=(.cons (.int .u32) .nil)
abbrev auj:aK:=(.cons (.int .u64) .nil)
abbrev auk:aK:=(.cons (.sl afG R_4) .nil)
abbrev aul:aK:=(.cons (.int .u64) .nil)
abbrev aum:aK:=(.cons (.int .u8) .nil)
abbrev aun:aK:=(.cons (.int .u8) .nil)
abbrev auo:aK:=(.cons (.int .i32) .nil)
abbrev aup:aK:=(.cons (.int .i32) .nil)
def qW:List (Nat×Go.Fw.TI):=[
 (2,⟨.scalar,lH,8,false⟩),
 (3,⟨.scalar,jR,8,false⟩),
 (4,⟨.scalar,R_4,1,false⟩),
 (5,⟨.scalar,jQ,1,false⟩),
 (6,⟨.scalar,R_6,1,false⟩),
 (7,⟨.struct [(0,2),(1,3),(2,4),(3,6)],R_7,24,false⟩),
 (8,⟨.struct [(0,2),(1,3),(2,4),(3,6)],R_8,24,false⟩),
 (9,⟨.str,eF,16,false⟩),
 (10,⟨.str,au3,16,false⟩),
 (11,⟨.str,au4,16,false⟩),
 (12,⟨.scalar,au5,8,false⟩),
 (13,⟨.struct [(0,9),(1,12)],au6,24,false⟩),
 (14,⟨.struct [(0,9),(1,12)],au7,24,false⟩),
 (21,⟨.scalar,au8,4,false⟩),
 (22,⟨.slice eH,au9,24,false⟩),
 (24,⟨.slice ak,ava,24,false⟩),
 (25,⟨.slice aG,avd,24,false⟩),
 (26,⟨.struct [(0,24),(1,25),(2,3)],ave,56,false⟩),
 (27,⟨.struct [(0,24),(1,25),(2,3)],avf,56,false⟩),
 (28,⟨.slice aJ,avh,24,false⟩),
 (29,⟨.slice ay,avj,24,false⟩),
 (30,⟨.struct [(0,27),(3,28),(4,29)],avk,104,false⟩),
 (31,⟨.struct [(0,27),(3,28),(4,29)],avl,104,false⟩),
 (34,⟨.slice ai,avc,24,false⟩),
 (41,⟨.struct [(0,3),(1,3),(2,4),(3,3),(4,34)],avm,56,false⟩),
 (42,⟨.struct [(0,3),(1,3),(2,4),(3,3),(4,34)],bG,56,false⟩),
 (44,⟨.slice dn,avn,24,false⟩),
 (47,⟨.slice bg,avg,24,false⟩),
 (48,⟨.struct [(0,9),(1,47)],avo,40,false⟩),
 (49,⟨.struct [(0,9),(1,47)],bF,40,false⟩),
 (50,⟨.struct [(0,3),(1,42),(6,3),(7,49)],avp,112,false⟩),
 (51,⟨.struct [(0,3),(1,42),(6,3),(7,49)],att,112,false⟩),
 (54,⟨.slice wV,avq,24,false⟩),
 (63,⟨.slice Yw,avr,24,false⟩),
 (64,⟨.slice fH,avi,24,false⟩),
 (76,⟨.struct [(0,3),(1,3),(2,9)],avs,32,false⟩),
 (77,⟨.struct [(0,3),(1,3),(2,9)],avb,32,true⟩),
 (78,⟨.struct [(0,9),(1,77)],avt,48,true⟩),
 (79,⟨.struct [(0,9),(1,77)],aN,48,true⟩),
 (104,⟨.struct [(0,9),(1,64),(2,64)],at6,64,false⟩),
 (105,⟨.struct [(0,9),(1,64),(2,64)],I7,64,false⟩),
 (118,⟨.struct [(0,22),(1,3),(2,3)],at7,40,false⟩),
 (119,⟨.struct [(0,22),(1,3),(2,3)],aua,40,false⟩),
 (124,⟨.struct [(0,4),(1,34)],aub,32,false⟩),
 (125,⟨.struct [(0,4),(1,34)],auc,32,false⟩),
 (137,⟨.struct [(0,9),(1,64)],aud,40,false⟩),
 (138,⟨.struct [(0,9),(1,64)],aX,40,false⟩),
 (175,⟨.struct [(0,9),(1,3)],aue,24,false⟩),
 (176,⟨.struct [(0,9),(1,3)],aS,24,true⟩),
 (205,⟨.struct [(0,3),(1,3),(2,3),(3,9),(4,77)],auf,72,true⟩),
 (206,⟨.struct [(0,3),(1,3),(2,3),(3,9),(4,77)],bW,72,true⟩),
 (207,⟨.scalar,aug,8,false⟩),
 (243,⟨.scalar,auh,8,false⟩),
 (251,⟨.scalar,aui,4,false⟩),
 (253,⟨.scalar,auj,8,false⟩),
 (256,⟨.slice afG,auk,24,false⟩),
 (259,⟨.scalar,aul,8,false⟩),
 (276,⟨.scalar,aum,1,false⟩),
 (277,⟨.scalar,aun,1,false⟩),
 (280,⟨.scalar,auo,4,false⟩),
 (281,⟨.scalar,aup,4,false⟩)]
def Θ:jT:=afW qW
theorem akH:U1 prog qW=true:=by kernel_rfl
theorem mixed:prog.follows .mixedOrders=true:=by kernel_rfl
def G:kP where
 n:=0
 ok:=λ_=>True
 low:=λ_ _=>axg _
 stable:=λ_ _ _ _ _=>trivial
abbrev aiF:Nat:=192
abbrev yN:Nat:=192
theorem U9:kV prog yN:=lD (fn:=f192) (by kernel_rfl) (by kernel_rfl)
abbrev KL:Nat:=192
abbrev yQ:Nat:=192
theorem JL:kV prog yQ:=lD (fn:=f192) (by kernel_rfl) (by kernel_rfl)
abbrev nJ:Nat:=140
theorem rW:kV prog nJ:=lD (fn:=f140) (by kernel_rfl) (by kernel_rfl)
abbrev xQ:Nat:=226
theorem NM:kV prog xQ:=lD (fn:=f226) (by kernel_rfl) (by kernel_rfl)
abbrev uU:Nat:=226
theorem Ro:kV prog uU:=lD (fn:=f226) (by kernel_rfl) (by kernel_rfl)
abbrev IA:Nat:=226
abbrev CX:Nat:=237
theorem Qr:kV prog CX:=lD (fn:=f237) (by kernel_rfl) (by kernel_rfl)
abbrev yO:Nat:=237
theorem Va:kV prog yO:=lD (fn:=f237) (by kernel_rfl) (by kernel_rfl)
abbrev KN:Nat:=237
abbrev qi:Nat:=232
theorem DK:kV prog qi:=lD (fn:=f232) (by kernel_rfl) (by kernel_rfl)
abbrev Jf:Nat:=172
theorem SE:kV prog Jf:=lD (fn:=f172) (by kernel_rfl) (by kernel_rfl)
abbrev Aj:Nat:=172
theorem WJ:kV prog Aj:=lD (fn:=f172) (by kernel_rfl) (by kernel_rfl)
abbrev LX:Nat:=172
abbrev G8:Nat:=180
theorem Qs:kV prog G8:=lD (fn:=f180) (by kernel_rfl) (by kernel_rfl)
abbrev yP:Nat:=180
theorem Vb:kV prog yP:=lD (fn:=f180) (by kernel_rfl) (by kernel_rfl)
abbrev KO:Nat:=180
abbrev OK(x:Nat×Oe):Prop:=af7 prog G x
theorem ax(l:List (Nat×Oe))(h:alU prog G l):EnvB prog G Θ (Ko l):=aq8 akH h
end Go.Proofs.Tryz

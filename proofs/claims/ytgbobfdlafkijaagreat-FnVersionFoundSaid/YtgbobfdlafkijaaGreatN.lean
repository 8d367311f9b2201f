import Derived.Test.YtgbobfdlafkijaaGreatFwC
import Derived.Test.YtgbobfdlafkijaaGreatProg
import Derived.Lib.LaidTab
import Derived.Lib.ItoaNum
namespace Go.Proofs.Tryz
open Go Go.Fw
abbrev Ar:TypeId:=3
abbrev af2:TypeId:=4
abbrev dZ:TypeId:=5
abbrev nI:TypeId:=9
abbrev aW:TypeId:=56
abbrev bY:TypeId:=78
abbrev fZ:TypeId:=94
abbrev G8:TypeId:=104
abbrev ad4:TypeId:=106
abbrev bg:TypeId:=124
abbrev aK:TypeId:=155
abbrev bK:TypeId:=167
abbrev R_2:aB:=(.cons (.int .i64) .nil)
abbrev N8:aB:=(.cons (.int .i64) .nil)
abbrev R_4:aB:=(.cons (.bool) .nil)
abbrev qB:aB:=(.cons (.int .u8) .nil)
abbrev R_6:aB:=(.cons (.int .u8) .nil)
abbrev R_7:aB:=(.cons (.int .i64) (.cons (.int .i64) (.cons (.bool) (.cons (.int .u8) .nil))))
abbrev R_8:aB:=(.cons (.int .i64) (.cons (.int .i64) (.cons (.bool) (.cons (.int .u8) .nil))))
abbrev MC:aB:=(.cons (.str) .nil)
abbrev asG:aB:=(.cons (.str) .nil)
abbrev asH:aB:=(.cons (.str) .nil)
abbrev asI:aB:=(.cons (.int .u64) .nil)
abbrev asJ:aB:=(.cons (.str) (.cons (.int .u64) .nil))
abbrev asK:aB:=(.cons (.str) (.cons (.int .u64) .nil))
abbrev asL:aB:=(.cons (.int .i32) .nil)
abbrev asM:aB:=(.cons (.sl dZ qB) .nil)
abbrev dR:aB:=(.cons (.str) (.cons (.int .i64) .nil))
abbrev asN:aB:=(.cons (.sl aK dR) .nil)
abbrev asO:aB:=(.cons (.int .i64) (.cons (.int .i64) (.cons (.str) .nil)))
abbrev Af:aB:=(.cons (.str) (.cons (.int .i64) (.cons (.int .i64) (.cons (.str) .nil))))
abbrev asP:aB:=(.cons (.sl fZ Af) .nil)
abbrev iU:aB:=(.cons (.int .i64) (.cons (.int .i64) (.cons (.bool) (.cons (.int .i64) (.cons (.sl fZ Af) .nil)))))
abbrev asQ:aB:=(.cons (.sl aW iU) .nil)
abbrev asR:aB:=(.cons (.sl aK dR) (.cons (.sl aW iU) (.cons (.int .i64) .nil)))
abbrev jo:aB:=(.cons (.int .i64) (.cons (.int .i64) (.cons (.int .i64) (.cons (.str) (.cons (.int .i64) (.cons (.int .i64) (.cons (.str) .nil)))))))
abbrev arV:aB:=(.cons (.sl bK jo) .nil)
abbrev gu:aB:=(.cons (.str) (.cons (.sl bK jo) .nil))
abbrev asT:aB:=(.cons (.sl bg gu) .nil)
abbrev asU:aB:=(.cons (.sl aK dR) (.cons (.sl aW iU) (.cons (.int .i64) (.cons (.sl bg gu) .nil))))
abbrev vV:aB:=(.cons (.int .i64) (.cons (.sl aK dR) (.cons (.sl aW iU) (.cons (.int .i64) (.cons (.sl bg gu) (.cons (.int .i64) .nil))))))
abbrev asV:aB:=(.cons (.sl bY vV) .nil)
abbrev asW:aB:=(.cons (.sl aK dR) (.cons (.sl aW iU) (.cons (.int .i64) .nil)))
abbrev asX:aB:=(.cons (.sl aK dR) (.cons (.sl aW iU) (.cons (.int .i64) (.cons (.sl bg gu) .nil))))
abbrev asY:aB:=(.cons (.sl Ar N8) .nil)
abbrev alW:aB:=(.cons (.str) (.cons (.sl Ar N8) .nil))
abbrev asZ:aB:=(.cons (.sl G8 alW) .nil)
abbrev as1:aB:=(.cons (.sl aK dR) (.cons (.sl aW iU) (.cons (.int .i64) (.cons (.sl bg gu) (.cons (.sl G8 alW) .nil)))))
abbrev as2:aB:=(.cons (.sl aK dR) (.cons (.sl aW iU) (.cons (.int .i64) (.cons (.sl bg gu) (.cons (.sl G8 alW) .nil)))))
abbrev as3:aB:=(.cons (.int .i64) (.cons (.int .i64) (.cons (.bool) (.cons (.int .i64) (.cons (.sl fZ Af) .nil)))))
abbrev as4:aB:=(.cons (.int .i64) (.cons (.int .i64) (.cons (.str) .nil)))
abbrev aqQ:aB:=(.cons (.str) (.cons (.sl Ar N8) (.cons (.sl Ar N8) .nil)))
abbrev as5:aB:=(.cons (.sl ad4 aqQ) .nil)
abbrev as6:aB:=(.cons (.sl nI MC) .nil)
abbrev as7:aB:=(.cons (.int .i64) (.cons (.sl aK dR) (.cons (.sl aW iU) (.cons (.int .i64) (.cons (.sl bg gu) (.cons (.int .i64) .nil))))))
abbrev as8:aB:=(.cons (.str) (.cons (.int .i64) (.cons (.int .i64) (.cons (.str) .nil))))
abbrev arW:aB:=(.cons (.str) (.cons (.sl Ar N8) .nil))
abbrev arX:aB:=(.cons (.str) (.cons (.sl Ar N8) (.cons (.sl Ar N8) .nil)))
abbrev arY:aB:=(.cons (.sl dZ qB) (.cons (.int .i64) (.cons (.int .i64) .nil)))
abbrev arZ:aB:=(.cons (.sl dZ qB) (.cons (.int .i64) (.cons (.int .i64) .nil)))
abbrev ar0:aB:=(.cons (.str) (.cons (.sl bK jo) .nil))
abbrev ar1:aB:=(.cons (.str) (.cons (.int .i64) .nil))
abbrev ar2:aB:=(.cons (.int .i64) (.cons (.int .i64) (.cons (.int .i64) (.cons (.str) (.cons (.int .i64) (.cons (.int .i64) (.cons (.str) .nil)))))))
abbrev ar4:aB:=(.cons (.int .u64) .nil)
abbrev ar5:aB:=(.cons (.sl af2 R_4) .nil)
abbrev ar6:aB:=(.cons (.int .i64) .nil)
abbrev ar7:aB:=(.cons (.int .u32) .nil)
abbrev ar8:aB:=(.cons (.int .u64) .nil)
abbrev ar9:aB:=(.cons (.int .u64) .nil)
abbrev asa:aB:=(.cons (.int .u8) .nil)
abbrev asb:aB:=(.cons (.int .u8) .nil)
abbrev asc:aB:=(.cons (.int .i32) .nil)
abbrev ase:aB:=(.cons (.int .i32) .nil)
def rM:List (Nat×Go.Fw.TI):=[
 (2,⟨.scalar,R_2,8,false⟩),
 (3,⟨.scalar,N8,8,false⟩),
 (4,⟨.scalar,R_4,1,false⟩),
 (5,⟨.scalar,qB,1,false⟩),
 (6,⟨.scalar,R_6,1,false⟩),
 (7,⟨.struct [(0,2),(1,3),(2,4),(3,6)],R_7,24,false⟩),
 (8,⟨.struct [(0,2),(1,3),(2,4),(3,6)],R_8,24,false⟩),
 (9,⟨.str,MC,16,false⟩),
 (10,⟨.str,asG,16,false⟩),
 (11,⟨.str,asH,16,false⟩),
 (12,⟨.scalar,asI,8,false⟩),
 (13,⟨.struct [(0,9),(1,12)],asJ,24,false⟩),
 (14,⟨.struct [(0,9),(1,12)],asK,24,false⟩),
 (21,⟨.scalar,asL,4,false⟩),
 (22,⟨.slice dZ,asM,24,false⟩),
 (24,⟨.slice bY,asV,24,false⟩),
 (25,⟨.slice aK,asN,24,false⟩),
 (26,⟨.slice aW,asQ,24,false⟩),
 (27,⟨.struct [(0,25),(1,26),(2,3)],asW,56,false⟩),
 (28,⟨.struct [(0,25),(1,26),(2,3)],asR,56,false⟩),
 (29,⟨.slice bg,asT,24,false⟩),
 (30,⟨.struct [(0,28),(3,29)],asX,80,false⟩),
 (31,⟨.struct [(0,28),(3,29)],asU,80,false⟩),
 (48,⟨.slice G8,asZ,24,false⟩),
 (49,⟨.struct [(0,28),(3,29),(4,48)],as1,104,false⟩),
 (50,⟨.struct [(0,28),(3,29),(4,48)],as2,104,false⟩),
 (52,⟨.slice Ar,asY,24,false⟩),
 (54,⟨.slice fZ,asP,24,false⟩),
 (55,⟨.struct [(0,3),(1,3),(2,4),(3,3),(4,54)],as3,56,false⟩),
 (56,⟨.struct [(0,3),(1,3),(2,4),(3,3),(4,54)],iU,56,false⟩),
 (58,⟨.struct [(0,3),(1,3),(2,9)],as4,32,false⟩),
 (59,⟨.struct [(0,3),(1,3),(2,9)],asO,32,true⟩),
 (61,⟨.slice ad4,as5,24,false⟩),
 (68,⟨.slice nI,as6,24,false⟩),
 (77,⟨.struct [(0,3),(1,31),(5,3)],as7,96,false⟩),
 (78,⟨.struct [(0,3),(1,31),(5,3)],vV,96,false⟩),
 (93,⟨.struct [(0,9),(1,59)],as8,48,true⟩),
 (94,⟨.struct [(0,9),(1,59)],Af,48,true⟩),
 (103,⟨.struct [(0,9),(1,52)],arW,40,false⟩),
 (104,⟨.struct [(0,9),(1,52)],alW,40,false⟩),
 (105,⟨.struct [(0,9),(1,52),(2,52)],arX,64,false⟩),
 (106,⟨.struct [(0,9),(1,52),(2,52)],aqQ,64,false⟩),
 (112,⟨.struct [(0,22),(1,3),(2,3)],arY,40,false⟩),
 (113,⟨.struct [(0,22),(1,3),(2,3)],arZ,40,false⟩),
 (122,⟨.slice bK,arV,24,false⟩),
 (123,⟨.struct [(0,9),(1,122)],ar0,40,false⟩),
 (124,⟨.struct [(0,9),(1,122)],gu,40,false⟩),
 (154,⟨.struct [(0,9),(1,3)],ar1,24,false⟩),
 (155,⟨.struct [(0,9),(1,3)],dR,24,true⟩),
 (166,⟨.struct [(0,3),(1,3),(2,3),(3,9),(4,59)],ar2,72,true⟩),
 (167,⟨.struct [(0,3),(1,3),(2,3),(3,9),(4,59)],jo,72,true⟩),
 (168,⟨.scalar,ar4,8,false⟩),
 (220,⟨.slice af2,ar5,24,false⟩),
 (225,⟨.scalar,ar6,8,false⟩),
 (234,⟨.scalar,ar7,4,false⟩),
 (236,⟨.scalar,ar8,8,false⟩),
 (238,⟨.scalar,ar9,8,false⟩),
 (254,⟨.scalar,asa,1,false⟩),
 (255,⟨.scalar,asb,1,false⟩),
 (258,⟨.scalar,asc,4,false⟩),
 (259,⟨.scalar,ase,4,false⟩)]
def Θ:fU:=alQ rM
theorem ah:acA prog rM=true:=by kernel_rfl
theorem mixed:prog.follows .mixedOrders=true:=by kernel_rfl
def G:mD where
 n:=0
 ok:=fun _=>True
 low:=fun _ _=>Nat.zero_le _
 stable:=fun _ _ _ _ _=>trivial
abbrev vZ:Nat:=40
theorem Tm:ay prog vZ:=ak (fn:=f40) (by kernel_rfl) (by kernel_rfl)
abbrev Bh:Nat:=105
theorem aeR:ay prog Bh:=ak (fn:=f105) (by kernel_rfl) (by kernel_rfl)
abbrev aS:Nat:=66
theorem cO:ay prog aS:=ak (fn:=f66) (by kernel_rfl) (by kernel_rfl)
abbrev jJ:Nat:=59
theorem Du:ay prog jJ:=ak (fn:=f59) (by kernel_rfl) (by kernel_rfl)
abbrev dN:Nat:=140
theorem kz:ay prog dN:=ak (fn:=f140) (by kernel_rfl) (by kernel_rfl)
abbrev dP:Nat:=42
theorem kZ:ay prog dP:=ak (fn:=f42) (by kernel_rfl) (by kernel_rfl)
abbrev qK:Nat:=158
theorem OB:ay prog qK:=ak (fn:=f158) (by kernel_rfl) (by kernel_rfl)
abbrev tK:Nat:=193
theorem Qz:ay prog tK:=ak (fn:=f193) (by kernel_rfl) (by kernel_rfl)
abbrev DI:Nat:=136
theorem ag1:ay prog DI:=ak (fn:=f136) (by kernel_rfl) (by kernel_rfl)
abbrev zD:Nat:=231
theorem acU:ay prog zD:=ak (fn:=f231) (by kernel_rfl) (by kernel_rfl)
abbrev vW:Nat:=194
theorem Tn:ay prog vW:=ak (fn:=f194) (by kernel_rfl) (by kernel_rfl)
abbrev lg:Nat:=32
theorem Gn:ay prog lg:=ak (fn:=f32) (by kernel_rfl) (by kernel_rfl)
abbrev gZ:Nat:=195
theorem xw:ay prog gZ:=ak (fn:=f195) (by kernel_rfl) (by kernel_rfl)
abbrev fC:Nat:=63
theorem nG:ay prog fC:=ak (fn:=f63) (by kernel_rfl) (by kernel_rfl)
abbrev fF:Nat:=54
theorem oC:ay prog fF:=ak (fn:=f54) (by kernel_rfl) (by kernel_rfl)
abbrev tN:Nat:=237
theorem QB:ay prog tN:=ak (fn:=f237) (by kernel_rfl) (by kernel_rfl)
abbrev iI:Nat:=225
theorem Ak:ay prog iI:=ak (fn:=f225) (by kernel_rfl) (by kernel_rfl)
abbrev iJ:Nat:=233
theorem Am:ay prog iJ:=ak (fn:=f233) (by kernel_rfl) (by kernel_rfl)
abbrev kR:Nat:=221
theorem IQ:ay prog kR:=ak (fn:=f221) (by kernel_rfl) (by kernel_rfl)
abbrev kS:Nat:=208
theorem IU:ay prog kS:=ak (fn:=f208) (by kernel_rfl) (by kernel_rfl)
abbrev jy:Nat:=207
theorem Fz:ay prog jy:=ak (fn:=f207) (by kernel_rfl) (by kernel_rfl)
abbrev jA:Nat:=200
theorem FB:ay prog jA:=ak (fn:=f200) (by kernel_rfl) (by kernel_rfl)
abbrev yt:Nat:=222
theorem abl:ay prog yt:=ak (fn:=f222) (by kernel_rfl) (by kernel_rfl)
abbrev yu:Nat:=209
theorem abm:ay prog yu:=ak (fn:=f209) (by kernel_rfl) (by kernel_rfl)
abbrev jY:Nat:=156
theorem GX:ay prog jY:=ak (fn:=f156) (by kernel_rfl) (by kernel_rfl)
abbrev jZ:Nat:=148
theorem GY:ay prog jZ:=ak (fn:=f148) (by kernel_rfl) (by kernel_rfl)
abbrev qL:Nat:=180
theorem Ut:ay prog qL:=ak (fn:=f180) (by kernel_rfl) (by kernel_rfl)
abbrev qM:Nat:=162
theorem Uu:ay prog qM:=ak (fn:=f162) (by kernel_rfl) (by kernel_rfl)
abbrev lY:Nat:=125
theorem J6:ay prog lY:=ak (fn:=f125) (by kernel_rfl) (by kernel_rfl)
abbrev uz:Nat:=107
theorem Xb:ay prog uz:=ak (fn:=f107) (by kernel_rfl) (by kernel_rfl)
abbrev jb:Nat:=100
theorem BK:ay prog jb:=ak (fn:=f100) (by kernel_rfl) (by kernel_rfl)
abbrev sG:Nat:=96
theorem Vk:ay prog sG:=ak (fn:=f96) (by kernel_rfl) (by kernel_rfl)
abbrev wB:Nat:=93
theorem Zb:ay prog wB:=ak (fn:=f93) (by kernel_rfl) (by kernel_rfl)
abbrev yw:Nat:=199
theorem abn:ay prog yw:=ak (fn:=f199) (by kernel_rfl) (by kernel_rfl)
abbrev zF:Nat:=146
theorem acV:ay prog zF:=ak (fn:=f146) (by kernel_rfl) (by kernel_rfl)
abbrev yx:Nat:=94
theorem abo:ay prog yx:=ak (fn:=f94) (by kernel_rfl) (by kernel_rfl)
abbrev yE:Nat:=52
theorem abp:ay prog yE:=ak (fn:=f52) (by kernel_rfl) (by kernel_rfl)
abbrev tX:Nat:=124
theorem QC:ay prog tX:=ak (fn:=f124) (by kernel_rfl) (by kernel_rfl)
abbrev zI:Nat:=108
theorem acW:ay prog zI:=ak (fn:=f108) (by kernel_rfl) (by kernel_rfl)
abbrev DF:Nat:=163
theorem ag2:ay prog DF:=ak (fn:=f163) (by kernel_rfl) (by kernel_rfl)
abbrev zG:Nat:=123
theorem acX:ay prog zG:=ak (fn:=f123) (by kernel_rfl) (by kernel_rfl)
abbrev lq:Nat:=143
theorem Nc:ay prog lq:=ak (fn:=f143) (by kernel_rfl) (by kernel_rfl)
abbrev lZ:Nat:=164
theorem NJ:ay prog lZ:=ak (fn:=f164) (by kernel_rfl) (by kernel_rfl)
abbrev tV:Nat:=31
theorem QD:ay prog tV:=ak (fn:=f31) (by kernel_rfl) (by kernel_rfl)
abbrev ni:Nat:=138
theorem H7:ay prog ni:=ak (fn:=f138) (by kernel_rfl) (by kernel_rfl)
abbrev DJ:Nat:=135
theorem ag3:ay prog DJ:=ak (fn:=f135) (by kernel_rfl) (by kernel_rfl)
abbrev zH:Nat:=157
theorem acY:ay prog zH:=ak (fn:=f157) (by kernel_rfl) (by kernel_rfl)
abbrev ny:Nat:=89
theorem H8:ay prog ny:=ak (fn:=f89) (by kernel_rfl) (by kernel_rfl)
abbrev nJ:Nat:=137
theorem KR:ay prog nJ:=ak (fn:=f137) (by kernel_rfl) (by kernel_rfl)
abbrev wC:Nat:=159
theorem Zc:ay prog wC:=ak (fn:=f159) (by kernel_rfl) (by kernel_rfl)
abbrev qN:Nat:=103
theorem OC:ay prog qN:=ak (fn:=f103) (by kernel_rfl) (by kernel_rfl)
abbrev DN:Nat:=85
theorem ag4:ay prog DN:=ak (fn:=f85) (by kernel_rfl) (by kernel_rfl)
abbrev JK:Nat:=7
theorem amS:ay prog JK:=ak (fn:=f7) (by kernel_rfl) (by kernel_rfl)
abbrev yA:Nat:=144
theorem abq:ay prog yA:=ak (fn:=f144) (by kernel_rfl) (by kernel_rfl)
abbrev yB:Nat:=87
theorem abr:ay prog yB:=ak (fn:=f87) (by kernel_rfl) (by kernel_rfl)
abbrev wE:Nat:=232
theorem Zd:ay prog wE:=ak (fn:=f232) (by kernel_rfl) (by kernel_rfl)
abbrev tY:Nat:=196
theorem QE:ay prog tY:=ak (fn:=f196) (by kernel_rfl) (by kernel_rfl)
abbrev ajf:Nat:=197
abbrev yT:Nat:=197
theorem Vl:ay prog yT:=ak (fn:=f197) (by kernel_rfl) (by kernel_rfl)
abbrev J7:Nat:=197
abbrev oJ:Nat:=197
theorem IV:ay prog oJ:=ak (fn:=f197) (by kernel_rfl) (by kernel_rfl)
abbrev uD:Nat:=142
theorem Xc:ay prog uD:=ak (fn:=f142) (by kernel_rfl) (by kernel_rfl)
abbrev iK:Nat:=142
theorem Ci:ay prog iK:=ak (fn:=f142) (by kernel_rfl) (by kernel_rfl)
abbrev DK:Nat:=141
theorem ag5:ay prog DK:=ak (fn:=f141) (by kernel_rfl) (by kernel_rfl)
abbrev tZ:Nat:=139
theorem QF:ay prog tZ:=ak (fn:=f139) (by kernel_rfl) (by kernel_rfl)
abbrev DL:Nat:=86
theorem ag6:ay prog DL:=ak (fn:=f86) (by kernel_rfl) (by kernel_rfl)
abbrev Bj:Nat:=104
theorem aeS:ay prog Bj:=ak (fn:=f104) (by kernel_rfl) (by kernel_rfl)
abbrev qO:Nat:=84
theorem OD:ay prog qO:=ak (fn:=f84) (by kernel_rfl) (by kernel_rfl)
abbrev vX:Nat:=43
theorem Tq:ay prog vX:=ak (fn:=f43) (by kernel_rfl) (by kernel_rfl)
abbrev Bl:Nat:=83
theorem aeT:ay prog Bl:=ak (fn:=f83) (by kernel_rfl) (by kernel_rfl)
abbrev vY:Nat:=41
theorem Tt:ay prog vY:=ak (fn:=f41) (by kernel_rfl) (by kernel_rfl)
abbrev wG:Nat:=48
theorem Ze:ay prog wG:=ak (fn:=f48) (by kernel_rfl) (by kernel_rfl)
abbrev mr:Nat:=8
theorem NK:ay prog mr:=ak (fn:=f8) (by kernel_rfl) (by kernel_rfl)
abbrev oP:Nat:=11
theorem QG:ay prog oP:=ak (fn:=f11) (by kernel_rfl) (by kernel_rfl)
abbrev uF:Nat:=245
theorem Xd:ay prog uF:=ak (fn:=f245) (by kernel_rfl) (by kernel_rfl)
abbrev uG:Nat:=248
theorem Xe:ay prog uG:=ak (fn:=f248) (by kernel_rfl) (by kernel_rfl)
abbrev oL:Nat:=246
theorem QI:ay prog oL:=ak (fn:=f246) (by kernel_rfl) (by kernel_rfl)
abbrev oM:Nat:=249
theorem QJ:ay prog oM:=ak (fn:=f249) (by kernel_rfl) (by kernel_rfl)
abbrev kU:Nat:=226
theorem IW:ay prog kU:=ak (fn:=f226) (by kernel_rfl) (by kernel_rfl)
abbrev kV:Nat:=234
theorem IX:ay prog kV:=ak (fn:=f234) (by kernel_rfl) (by kernel_rfl)
abbrev uJ:Nat:=190
theorem Xf:ay prog uJ:=ak (fn:=f190) (by kernel_rfl) (by kernel_rfl)
abbrev uI:Nat:=201
theorem Xg:ay prog uI:=ak (fn:=f201) (by kernel_rfl) (by kernel_rfl)
abbrev zJ:Nat:=241
theorem acZ:ay prog zJ:=ak (fn:=f241) (by kernel_rfl) (by kernel_rfl)
abbrev rX:Nat:=268
theorem Vm:ay prog rX:=ak (fn:=f268) (by kernel_rfl) (by kernel_rfl)
abbrev rW:Nat:=252
theorem Vo:ay prog rW:=ak (fn:=f252) (by kernel_rfl) (by kernel_rfl)
abbrev AX:Nat:=171
theorem Zf:ay prog AX:=ak (fn:=f171) (by kernel_rfl) (by kernel_rfl)
abbrev pF:Nat:=236
theorem Nh:ay prog pF:=ak (fn:=f236) (by kernel_rfl) (by kernel_rfl)
abbrev rZ:Nat:=203
theorem Vp:ay prog rZ:=ak (fn:=f203) (by kernel_rfl) (by kernel_rfl)
abbrev rY:Nat:=204
theorem Vq:ay prog rY:=ak (fn:=f204) (by kernel_rfl) (by kernel_rfl)
abbrev DR:Nat:=184
theorem ag7:ay prog DR:=ak (fn:=f184) (by kernel_rfl) (by kernel_rfl)
abbrev qP:Nat:=247
theorem OE:ay prog qP:=ak (fn:=f247) (by kernel_rfl) (by kernel_rfl)
abbrev sD:Nat:=227
theorem Vr:ay prog sD:=ak (fn:=f227) (by kernel_rfl) (by kernel_rfl)
abbrev su:Nat:=229
theorem Vs:ay prog su:=ak (fn:=f229) (by kernel_rfl) (by kernel_rfl)
abbrev uf:Nat:=251
theorem QK:ay prog uf:=ak (fn:=f251) (by kernel_rfl) (by kernel_rfl)
abbrev fP:Nat:=250
theorem Aq:ay prog fP:=ak (fn:=f250) (by kernel_rfl) (by kernel_rfl)
abbrev Fe:Nat:=235
theorem ajg:ay prog Fe:=ak (fn:=f235) (by kernel_rfl) (by kernel_rfl)
abbrev zK:Nat:=228
theorem ac0:ay prog zK:=ak (fn:=f228) (by kernel_rfl) (by kernel_rfl)
abbrev uH:Nat:=202
theorem Xh:ay prog uH:=ak (fn:=f202) (by kernel_rfl) (by kernel_rfl)
abbrev DT:Nat:=149
theorem ag8:ay prog DT:=ak (fn:=f149) (by kernel_rfl) (by kernel_rfl)
abbrev sF:Nat:=97
theorem Vt:ay prog sF:=ak (fn:=f97) (by kernel_rfl) (by kernel_rfl)
abbrev zL:Nat:=191
theorem ac1:ay prog zL:=ak (fn:=f191) (by kernel_rfl) (by kernel_rfl)
abbrev Bo:Nat:=134
theorem aeU:ay prog Bo:=ak (fn:=f134) (by kernel_rfl) (by kernel_rfl)
abbrev DU:Nat:=131
theorem ag9:ay prog DU:=ak (fn:=f131) (by kernel_rfl) (by kernel_rfl)
abbrev kT:Nat:=101
theorem IY:ay prog kT:=ak (fn:=f101) (by kernel_rfl) (by kernel_rfl)
abbrev l9:Nat:=198
theorem NM:ay prog l9:=ak (fn:=f198) (by kernel_rfl) (by kernel_rfl)
abbrev Bq:Nat:=145
theorem aeV:ay prog Bq:=ak (fn:=f145) (by kernel_rfl) (by kernel_rfl)
abbrev zM:Nat:=88
theorem ac2:ay prog zM:=ak (fn:=f88) (by kernel_rfl) (by kernel_rfl)
abbrev Bv:Nat:=90
theorem aeW:ay prog Bv:=ak (fn:=f90) (by kernel_rfl) (by kernel_rfl)
abbrev jc:Nat:=45
theorem BL:ay prog jc:=ak (fn:=f45) (by kernel_rfl) (by kernel_rfl)
abbrev lC:Nat:=47
theorem Gp:ay prog lC:=ak (fn:=f47) (by kernel_rfl) (by kernel_rfl)
abbrev sH:Nat:=44
theorem Vu:ay prog sH:=ak (fn:=f44) (by kernel_rfl) (by kernel_rfl)
abbrev ug:Nat:=46
theorem QL:ay prog ug:=ak (fn:=f46) (by kernel_rfl) (by kernel_rfl)
abbrev oN:Nat:=55
theorem QM:ay prog oN:=ak (fn:=f55) (by kernel_rfl) (by kernel_rfl)
abbrev oO:Nat:=64
theorem QN:ay prog oO:=ak (fn:=f64) (by kernel_rfl) (by kernel_rfl)
abbrev jk:Nat:=16
theorem EO:ay prog jk:=ak (fn:=f16) (by kernel_rfl) (by kernel_rfl)
abbrev jl:Nat:=28
theorem EP:ay prog jl:=ak (fn:=f28) (by kernel_rfl) (by kernel_rfl)
abbrev mg:Nat:=92
theorem J8:ay prog mg:=ak (fn:=f92) (by kernel_rfl) (by kernel_rfl)
abbrev dW:Nat:=91
theorem wI:ay prog dW:=ak (fn:=f91) (by kernel_rfl) (by kernel_rfl)
abbrev yC:Nat:=49
theorem abt:ay prog yC:=ak (fn:=f49) (by kernel_rfl) (by kernel_rfl)
abbrev qQ:Nat:=50
theorem OG:ay prog qQ:=ak (fn:=f50) (by kernel_rfl) (by kernel_rfl)
abbrev qR:Nat:=9
theorem Uw:ay prog qR:=ak (fn:=f9) (by kernel_rfl) (by kernel_rfl)
abbrev ku:Nat:=10
theorem GZ:ay prog ku:=ak (fn:=f10) (by kernel_rfl) (by kernel_rfl)
abbrev wF:Nat:=21
theorem Zg:ay prog wF:=ak (fn:=f21) (by kernel_rfl) (by kernel_rfl)
abbrev uN:Nat:=12
theorem Xi:ay prog uN:=ak (fn:=f12) (by kernel_rfl) (by kernel_rfl)
abbrev uM:Nat:=13
theorem Xj:ay prog uM:=ak (fn:=f13) (by kernel_rfl) (by kernel_rfl)
abbrev yD:Nat:=147
theorem abu:ay prog yD:=ak (fn:=f147) (by kernel_rfl) (by kernel_rfl)
abbrev Bz:Nat:=95
theorem aeX:ay prog Bz:=ak (fn:=f95) (by kernel_rfl) (by kernel_rfl)
abbrev zN:Nat:=53
theorem ac3:ay prog zN:=ak (fn:=f53) (by kernel_rfl) (by kernel_rfl)
abbrev kW:Nat:=15
theorem IZ:ay prog kW:=ak (fn:=f15) (by kernel_rfl) (by kernel_rfl)
abbrev uK:Nat:=51
theorem Xk:ay prog uK:=ak (fn:=f51) (by kernel_rfl) (by kernel_rfl)
abbrev sJ:Nat:=14
theorem Vw:ay prog sJ:=ak (fn:=f14) (by kernel_rfl) (by kernel_rfl)
abbrev I4:Nat:=3
end Go.Proofs.Tryz

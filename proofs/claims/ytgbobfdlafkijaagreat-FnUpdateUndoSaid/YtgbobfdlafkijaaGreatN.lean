import Derived.Test.YtgbobfdlafkijaaGreatFwC
import Derived.Test.YtgbobfdlafkijaaGreatProg
import Derived.Lib.LaidTab
import Derived.Lib.ItoaNum
namespace Go.Proofs.Tryz
open Go Go.Fw
abbrev fU:TypeId:=3
abbrev aqb:TypeId:=4
abbrev jy:TypeId:=5
abbrev fB:TypeId:=9
abbrev aZ:TypeId:=56
abbrev acO:TypeId:=78
abbrev bK:TypeId:=94
abbrev aX:TypeId:=104
abbrev Kr:TypeId:=106
abbrev bH:TypeId:=124
abbrev aO:TypeId:=155
abbrev bG:TypeId:=167
abbrev R_2:aK:=(.cons (.int .i64) .nil)
abbrev lF:aK:=(.cons (.int .i64) .nil)
abbrev R_4:aK:=(.cons (.bool) .nil)
abbrev EJ:aK:=(.cons (.int .u8) .nil)
abbrev R_6:aK:=(.cons (.int .u8) .nil)
abbrev R_7:aK:=(.cons (.int .i64) (.cons (.int .i64) (.cons (.bool) (.cons (.int .u8) .nil))))
abbrev R_8:aK:=(.cons (.int .i64) (.cons (.int .i64) (.cons (.bool) (.cons (.int .u8) .nil))))
abbrev vN:aK:=(.cons (.str) .nil)
abbrev aFa:aK:=(.cons (.str) .nil)
abbrev aFb:aK:=(.cons (.str) .nil)
abbrev aFc:aK:=(.cons (.int .u64) .nil)
abbrev aFd:aK:=(.cons (.str) (.cons (.int .u64) .nil))
abbrev aFe:aK:=(.cons (.str) (.cons (.int .u64) .nil))
abbrev aFf:aK:=(.cons (.int .i32) .nil)
abbrev aFg:aK:=(.cons (.sl jy EJ) .nil)
abbrev eU:aK:=(.cons (.str) (.cons (.int .i64) .nil))
abbrev aFh:aK:=(.cons (.sl aO eU) .nil)
abbrev aFi:aK:=(.cons (.int .i64) (.cons (.int .i64) (.cons (.str) .nil)))
abbrev kP:aK:=(.cons (.str) (.cons (.int .i64) (.cons (.int .i64) (.cons (.str) .nil))))
abbrev aFj:aK:=(.cons (.sl bK kP) .nil)
abbrev jg:aK:=(.cons (.int .i64) (.cons (.int .i64) (.cons (.bool) (.cons (.int .i64) (.cons (.sl bK kP) .nil)))))
abbrev aFk:aK:=(.cons (.sl aZ jg) .nil)
abbrev aFl:aK:=(.cons (.sl aO eU) (.cons (.sl aZ jg) (.cons (.int .i64) .nil)))
abbrev iO:aK:=(.cons (.int .i64) (.cons (.int .i64) (.cons (.int .i64) (.cons (.str) (.cons (.int .i64) (.cons (.int .i64) (.cons (.str) .nil)))))))
abbrev aEl:aK:=(.cons (.sl bG iO) .nil)
abbrev gY:aK:=(.cons (.str) (.cons (.sl bG iO) .nil))
abbrev aFm:aK:=(.cons (.sl bH gY) .nil)
abbrev aFn:aK:=(.cons (.sl aO eU) (.cons (.sl aZ jg) (.cons (.int .i64) (.cons (.sl bH gY) .nil))))
abbrev aDU:aK:=(.cons (.int .i64) (.cons (.sl aO eU) (.cons (.sl aZ jg) (.cons (.int .i64) (.cons (.sl bH gY) (.cons (.int .i64) .nil))))))
abbrev aFo:aK:=(.cons (.sl acO aDU) .nil)
abbrev aFp:aK:=(.cons (.sl aO eU) (.cons (.sl aZ jg) (.cons (.int .i64) .nil)))
abbrev aFq:aK:=(.cons (.sl aO eU) (.cons (.sl aZ jg) (.cons (.int .i64) (.cons (.sl bH gY) .nil))))
abbrev aFr:aK:=(.cons (.sl fU lF) .nil)
abbrev iT:aK:=(.cons (.str) (.cons (.sl fU lF) .nil))
abbrev aFs:aK:=(.cons (.sl aX iT) .nil)
abbrev aFt:aK:=(.cons (.sl aO eU) (.cons (.sl aZ jg) (.cons (.int .i64) (.cons (.sl bH gY) (.cons (.sl aX iT) .nil)))))
abbrev aFu:aK:=(.cons (.sl aO eU) (.cons (.sl aZ jg) (.cons (.int .i64) (.cons (.sl bH gY) (.cons (.sl aX iT) .nil)))))
abbrev aFv:aK:=(.cons (.int .i64) (.cons (.int .i64) (.cons (.bool) (.cons (.int .i64) (.cons (.sl bK kP) .nil)))))
abbrev aFw:aK:=(.cons (.int .i64) (.cons (.int .i64) (.cons (.str) .nil)))
abbrev akQ:aK:=(.cons (.str) (.cons (.sl fU lF) (.cons (.sl fU lF) .nil)))
abbrev aFx:aK:=(.cons (.sl Kr akQ) .nil)
abbrev aFy:aK:=(.cons (.sl fB vN) .nil)
abbrev aFz:aK:=(.cons (.int .i64) (.cons (.sl aO eU) (.cons (.sl aZ jg) (.cons (.int .i64) (.cons (.sl bH gY) (.cons (.int .i64) .nil))))))
abbrev aFA:aK:=(.cons (.str) (.cons (.int .i64) (.cons (.int .i64) (.cons (.str) .nil))))
abbrev aEm:aK:=(.cons (.str) (.cons (.sl fU lF) .nil))
abbrev aEn:aK:=(.cons (.str) (.cons (.sl fU lF) (.cons (.sl fU lF) .nil)))
abbrev aEo:aK:=(.cons (.sl jy EJ) (.cons (.int .i64) (.cons (.int .i64) .nil)))
abbrev aEp:aK:=(.cons (.sl jy EJ) (.cons (.int .i64) (.cons (.int .i64) .nil)))
abbrev aEq:aK:=(.cons (.str) (.cons (.sl bG iO) .nil))
abbrev aEr:aK:=(.cons (.str) (.cons (.int .i64) .nil))
abbrev aEs:aK:=(.cons (.int .i64) (.cons (.int .i64) (.cons (.int .i64) (.cons (.str) (.cons (.int .i64) (.cons (.int .i64) (.cons (.str) .nil)))))))
abbrev aEt:aK:=(.cons (.int .u64) .nil)
abbrev aEu:aK:=(.cons (.sl aqb R_4) .nil)
abbrev aEv:aK:=(.cons (.int .i64) .nil)
abbrev aEw:aK:=(.cons (.int .u32) .nil)
abbrev aEx:aK:=(.cons (.int .u64) .nil)
abbrev aEy:aK:=(.cons (.int .u64) .nil)
abbrev aEz:aK:=(.cons (.int .u8) .nil)
abbrev aEA:aK:=(.cons (.int .u8) .nil)
abbrev aEB:aK:=(.cons (.int .i32) .nil)
abbrev aEC:aK:=(.cons (.int .i32) .nil)
def wZ:List (Nat×Go.Fw.TI):=[
 (2,⟨.scalar,R_2,8,false⟩),
 (3,⟨.scalar,lF,8,false⟩),
 (4,⟨.scalar,R_4,1,false⟩),
 (5,⟨.scalar,EJ,1,false⟩),
 (6,⟨.scalar,R_6,1,false⟩),
 (7,⟨.struct [(0,2),(1,3),(2,4),(3,6)],R_7,24,false⟩),
 (8,⟨.struct [(0,2),(1,3),(2,4),(3,6)],R_8,24,false⟩),
 (9,⟨.str,vN,16,false⟩),
 (10,⟨.str,aFa,16,false⟩),
 (11,⟨.str,aFb,16,false⟩),
 (12,⟨.scalar,aFc,8,false⟩),
 (13,⟨.struct [(0,9),(1,12)],aFd,24,false⟩),
 (14,⟨.struct [(0,9),(1,12)],aFe,24,false⟩),
 (21,⟨.scalar,aFf,4,false⟩),
 (22,⟨.slice jy,aFg,24,false⟩),
 (24,⟨.slice acO,aFo,24,false⟩),
 (25,⟨.slice aO,aFh,24,false⟩),
 (26,⟨.slice aZ,aFk,24,false⟩),
 (27,⟨.struct [(0,25),(1,26),(2,3)],aFp,56,false⟩),
 (28,⟨.struct [(0,25),(1,26),(2,3)],aFl,56,false⟩),
 (29,⟨.slice bH,aFm,24,false⟩),
 (30,⟨.struct [(0,28),(3,29)],aFq,80,false⟩),
 (31,⟨.struct [(0,28),(3,29)],aFn,80,false⟩),
 (48,⟨.slice aX,aFs,24,false⟩),
 (49,⟨.struct [(0,28),(3,29),(4,48)],aFt,104,false⟩),
 (50,⟨.struct [(0,28),(3,29),(4,48)],aFu,104,false⟩),
 (52,⟨.slice fU,aFr,24,false⟩),
 (54,⟨.slice bK,aFj,24,false⟩),
 (55,⟨.struct [(0,3),(1,3),(2,4),(3,3),(4,54)],aFv,56,false⟩),
 (56,⟨.struct [(0,3),(1,3),(2,4),(3,3),(4,54)],jg,56,false⟩),
 (58,⟨.struct [(0,3),(1,3),(2,9)],aFw,32,false⟩),
 (59,⟨.struct [(0,3),(1,3),(2,9)],aFi,32,true⟩),
 (61,⟨.slice Kr,aFx,24,false⟩),
 (68,⟨.slice fB,aFy,24,false⟩),
 (77,⟨.struct [(0,3),(1,31),(5,3)],aFz,96,false⟩),
 (78,⟨.struct [(0,3),(1,31),(5,3)],aDU,96,false⟩),
 (93,⟨.struct [(0,9),(1,59)],aFA,48,true⟩),
 (94,⟨.struct [(0,9),(1,59)],kP,48,true⟩),
 (103,⟨.struct [(0,9),(1,52)],aEm,40,false⟩),
 (104,⟨.struct [(0,9),(1,52)],iT,40,false⟩),
 (105,⟨.struct [(0,9),(1,52),(2,52)],aEn,64,false⟩),
 (106,⟨.struct [(0,9),(1,52),(2,52)],akQ,64,false⟩),
 (112,⟨.struct [(0,22),(1,3),(2,3)],aEo,40,false⟩),
 (113,⟨.struct [(0,22),(1,3),(2,3)],aEp,40,false⟩),
 (122,⟨.slice bG,aEl,24,false⟩),
 (123,⟨.struct [(0,9),(1,122)],aEq,40,false⟩),
 (124,⟨.struct [(0,9),(1,122)],gY,40,false⟩),
 (154,⟨.struct [(0,9),(1,3)],aEr,24,false⟩),
 (155,⟨.struct [(0,9),(1,3)],eU,24,true⟩),
 (166,⟨.struct [(0,3),(1,3),(2,3),(3,9),(4,59)],aEs,72,true⟩),
 (167,⟨.struct [(0,3),(1,3),(2,3),(3,9),(4,59)],iO,72,true⟩),
 (168,⟨.scalar,aEt,8,false⟩),
 (220,⟨.slice aqb,aEu,24,false⟩),
 (225,⟨.scalar,aEv,8,false⟩),
 (234,⟨.scalar,aEw,4,false⟩),
 (236,⟨.scalar,aEx,8,false⟩),
 (238,⟨.scalar,aEy,8,false⟩),
 (254,⟨.scalar,aEz,1,false⟩),
 (255,⟨.scalar,aEA,1,false⟩),
 (258,⟨.scalar,aEB,4,false⟩),
 (259,⟨.scalar,aEC,4,false⟩)]
def Θ:iP:=aw2 wZ
theorem ah:ak2 prog wZ=true:=by kernel_rfl
theorem mixed:prog.follows .mixedOrders=true:=by kernel_rfl
def G:pY where
 n:=0
 ok:=fun _=>True
 low:=fun _ _=>Nat.zero_le _
 stable:=fun _ _ _ _ _=>trivial
abbrev Bc:Nat:=40
theorem aaP:ak prog Bc:=ai (fn:=f40) (by kernel_rfl) (by kernel_rfl)
abbrev Hr:Nat:=105
theorem aoq:ak prog Hr:=ai (fn:=f105) (by kernel_rfl) (by kernel_rfl)
abbrev dH:Nat:=66
theorem jG:ak prog dH:=ai (fn:=f66) (by kernel_rfl) (by kernel_rfl)
abbrev qL:Nat:=59
theorem PL:ak prog qL:=ai (fn:=f59) (by kernel_rfl) (by kernel_rfl)
abbrev qK:Nat:=140
theorem PN:ak prog qK:=ai (fn:=f140) (by kernel_rfl) (by kernel_rfl)
abbrev BA:Nat:=42
theorem agk:ak prog BA:=ai (fn:=f42) (by kernel_rfl) (by kernel_rfl)
abbrev Fb:Nat:=158
theorem alE:ak prog Fb:=ai (fn:=f158) (by kernel_rfl) (by kernel_rfl)
abbrev oP:Nat:=32
theorem Oe:ak prog oP:=ai (fn:=f32) (by kernel_rfl) (by kernel_rfl)
abbrev pO:Nat:=195
theorem SG:ak prog pO:=ai (fn:=f195) (by kernel_rfl) (by kernel_rfl)
abbrev iU:Nat:=63
theorem vF:ak prog iU:=ai (fn:=f63) (by kernel_rfl) (by kernel_rfl)
abbrev iZ:Nat:=54
theorem wG:ak prog iZ:=ai (fn:=f54) (by kernel_rfl) (by kernel_rfl)
abbrev yG:Nat:=237
theorem Zq:ak prog yG:=ai (fn:=f237) (by kernel_rfl) (by kernel_rfl)
abbrev jK:Nat:=225
theorem F9:ak prog jK:=ai (fn:=f225) (by kernel_rfl) (by kernel_rfl)
abbrev jL:Nat:=233
theorem Gf:ak prog jL:=ai (fn:=f233) (by kernel_rfl) (by kernel_rfl)
abbrev oI:Nat:=221
theorem Qy:ak prog oI:=ai (fn:=f221) (by kernel_rfl) (by kernel_rfl)
abbrev oJ:Nat:=208
theorem Qz:ak prog oJ:=ai (fn:=f208) (by kernel_rfl) (by kernel_rfl)
abbrev kY:Nat:=207
theorem MC:ak prog kY:=ai (fn:=f207) (by kernel_rfl) (by kernel_rfl)
abbrev kZ:Nat:=200
theorem MF:ak prog kZ:=ai (fn:=f200) (by kernel_rfl) (by kernel_rfl)
abbrev Dv:Nat:=222
theorem ai0:ak prog Dv:=ai (fn:=f222) (by kernel_rfl) (by kernel_rfl)
abbrev Dw:Nat:=209
theorem ai1:ak prog Dw:=ai (fn:=f209) (by kernel_rfl) (by kernel_rfl)
abbrev nD:Nat:=156
theorem OQ:ak prog nD:=ai (fn:=f156) (by kernel_rfl) (by kernel_rfl)
abbrev nG:Nat:=148
theorem OT:ak prog nG:=ai (fn:=f148) (by kernel_rfl) (by kernel_rfl)
abbrev vW:Nat:=180
theorem abr:ak prog vW:=ai (fn:=f180) (by kernel_rfl) (by kernel_rfl)
abbrev vX:Nat:=162
theorem abt:ak prog vX:=ai (fn:=f162) (by kernel_rfl) (by kernel_rfl)
abbrev pI:Nat:=125
theorem SH:ak prog pI:=ai (fn:=f125) (by kernel_rfl) (by kernel_rfl)
abbrev pJ:Nat:=107
theorem SI:ak prog pJ:=ai (fn:=f107) (by kernel_rfl) (by kernel_rfl)
abbrev kz:Nat:=100
theorem Ir:ak prog kz:=ai (fn:=f100) (by kernel_rfl) (by kernel_rfl)
abbrev oK:Nat:=96
theorem QB:ak prog oK:=ai (fn:=f96) (by kernel_rfl) (by kernel_rfl)
abbrev Bo:Nat:=93
theorem agl:ak prog Bo:=ai (fn:=f93) (by kernel_rfl) (by kernel_rfl)
abbrev Dx:Nat:=199
theorem ai2:ak prog Dx:=ai (fn:=f199) (by kernel_rfl) (by kernel_rfl)
abbrev E5:Nat:=146
theorem alF:ak prog E5:=ai (fn:=f146) (by kernel_rfl) (by kernel_rfl)
abbrev Dy:Nat:=94
theorem ai3:ak prog Dy:=ai (fn:=f94) (by kernel_rfl) (by kernel_rfl)
abbrev DN:Nat:=52
theorem ai4:ak prog DN:=ai (fn:=f52) (by kernel_rfl) (by kernel_rfl)
abbrev yH:Nat:=124
theorem Zr:ak prog yH:=ai (fn:=f124) (by kernel_rfl) (by kernel_rfl)
abbrev oQ:Nat:=108
theorem Og:ak prog oQ:=ai (fn:=f108) (by kernel_rfl) (by kernel_rfl)
abbrev JW:Nat:=163
theorem arh:ak prog JW:=ai (fn:=f163) (by kernel_rfl) (by kernel_rfl)
abbrev E8:Nat:=123
theorem alG:ak prog E8:=ai (fn:=f123) (by kernel_rfl) (by kernel_rfl)
abbrev oU:Nat:=143
theorem VY:ak prog oU:=ai (fn:=f143) (by kernel_rfl) (by kernel_rfl)
abbrev pK:Nat:=164
theorem WE:ak prog pK:=ai (fn:=f164) (by kernel_rfl) (by kernel_rfl)
abbrev Ht:Nat:=31
theorem aor:ak prog Ht:=ai (fn:=f31) (by kernel_rfl) (by kernel_rfl)
abbrev Hu:Nat:=138
theorem aos:ak prog Hu:=ai (fn:=f138) (by kernel_rfl) (by kernel_rfl)
abbrev Fa:Nat:=157
theorem alH:ak prog Fa:=ai (fn:=f157) (by kernel_rfl) (by kernel_rfl)
abbrev qM:Nat:=89
theorem PO:ak prog qM:=ai (fn:=f89) (by kernel_rfl) (by kernel_rfl)
abbrev Bv:Nat:=137
theorem agm:ak prog Bv:=ai (fn:=f137) (by kernel_rfl) (by kernel_rfl)
abbrev Bq:Nat:=159
theorem agn:ak prog Bq:=ai (fn:=f159) (by kernel_rfl) (by kernel_rfl)
abbrev Fz:Nat:=103
theorem alI:ak prog Fz:=ai (fn:=f103) (by kernel_rfl) (by kernel_rfl)
abbrev RV:Nat:=7
theorem ax2:ak prog RV:=ai (fn:=f7) (by kernel_rfl) (by kernel_rfl)
abbrev Dz:Nat:=144
theorem ai5:ak prog Dz:=ai (fn:=f144) (by kernel_rfl) (by kernel_rfl)
abbrev nI:Nat:=87
theorem MG:ak prog nI:=ai (fn:=f87) (by kernel_rfl) (by kernel_rfl)
abbrev Bz:Nat:=232
theorem agp:ak prog Bz:=ai (fn:=f232) (by kernel_rfl) (by kernel_rfl)
abbrev Hw:Nat:=196
theorem aot:ak prog Hw:=ai (fn:=f196) (by kernel_rfl) (by kernel_rfl)
abbrev auq:Nat:=197
abbrev En:Nat:=197
theorem acP:ak prog En:=ai (fn:=f197) (by kernel_rfl) (by kernel_rfl)
abbrev SK:Nat:=197
abbrev sJ:Nat:=197
theorem QC:ak prog sJ:=ai (fn:=f197) (by kernel_rfl) (by kernel_rfl)
abbrev VZ:Nat:=142
abbrev oV:Nat:=142
theorem V3:ak prog oV:=ai (fn:=f142) (by kernel_rfl) (by kernel_rfl)
abbrev Hy:Nat:=139
theorem aou:ak prog Hy:=ai (fn:=f139) (by kernel_rfl) (by kernel_rfl)
abbrev Ie:Nat:=104
theorem aov:ak prog Ie:=ai (fn:=f104) (by kernel_rfl) (by kernel_rfl)
abbrev Xy:Nat:=48
abbrev yX:Nat:=245
theorem aeg:ak prog yX:=ai (fn:=f245) (by kernel_rfl) (by kernel_rfl)
abbrev yY:Nat:=248
theorem aeh:ak prog yY:=ai (fn:=f248) (by kernel_rfl) (by kernel_rfl)
abbrev sK:Nat:=246
theorem Zt:ak prog sK:=ai (fn:=f246) (by kernel_rfl) (by kernel_rfl)
abbrev sN:Nat:=249
theorem Zu:ak prog sN:=ai (fn:=f249) (by kernel_rfl) (by kernel_rfl)
abbrev kC:Nat:=226
theorem Iu:ak prog kC:=ai (fn:=f226) (by kernel_rfl) (by kernel_rfl)
abbrev kD:Nat:=234
theorem Iw:ak prog kD:=ai (fn:=f234) (by kernel_rfl) (by kernel_rfl)
abbrev zh:Nat:=190
theorem aei:ak prog zh:=ai (fn:=f190) (by kernel_rfl) (by kernel_rfl)
abbrev zf:Nat:=201
theorem aej:ak prog zf:=ai (fn:=f201) (by kernel_rfl) (by kernel_rfl)
abbrev vY:Nat:=241
theorem Xz:ak prog vY:=ai (fn:=f241) (by kernel_rfl) (by kernel_rfl)
abbrev xJ:Nat:=268
theorem acQ:ak prog xJ:=ai (fn:=f268) (by kernel_rfl) (by kernel_rfl)
abbrev xI:Nat:=252
theorem acR:ak prog xI:=ai (fn:=f252) (by kernel_rfl) (by kernel_rfl)
abbrev jl:Nat:=171
theorem xY:ak prog jl:=ai (fn:=f171) (by kernel_rfl) (by kernel_rfl)
abbrev tX:Nat:=236
theorem V4:ak prog tX:=ai (fn:=f236) (by kernel_rfl) (by kernel_rfl)
abbrev xM:Nat:=203
theorem acS:ak prog xM:=ai (fn:=f203) (by kernel_rfl) (by kernel_rfl)
abbrev xK:Nat:=204
theorem acT:ak prog xK:=ai (fn:=f204) (by kernel_rfl) (by kernel_rfl)
abbrev JX:Nat:=184
theorem ari:ak prog JX:=ai (fn:=f184) (by kernel_rfl) (by kernel_rfl)
abbrev vZ:Nat:=247
theorem XA:ak prog vZ:=ai (fn:=f247) (by kernel_rfl) (by kernel_rfl)
abbrev xP:Nat:=227
theorem acU:ak prog xP:=ai (fn:=f227) (by kernel_rfl) (by kernel_rfl)
abbrev xO:Nat:=229
theorem acV:ak prog xO:=ai (fn:=f229) (by kernel_rfl) (by kernel_rfl)
abbrev yI:Nat:=251
theorem Zv:ak prog yI:=ai (fn:=f251) (by kernel_rfl) (by kernel_rfl)
abbrev iL:Nat:=250
theorem Gs:ak prog iL:=ai (fn:=f250) (by kernel_rfl) (by kernel_rfl)
abbrev L6:Nat:=235
theorem aur:ak prog L6:=ai (fn:=f235) (by kernel_rfl) (by kernel_rfl)
abbrev Fe:Nat:=228
theorem alJ:ak prog Fe:=ai (fn:=f228) (by kernel_rfl) (by kernel_rfl)
abbrev yZ:Nat:=202
theorem aek:ak prog yZ:=ai (fn:=f202) (by kernel_rfl) (by kernel_rfl)
abbrev A8:Nat:=149
theorem aaQ:ak prog A8:=ai (fn:=f149) (by kernel_rfl) (by kernel_rfl)
abbrev Fg:Nat:=191
theorem alK:ak prog Fg:=ai (fn:=f191) (by kernel_rfl) (by kernel_rfl)
abbrev yJ:Nat:=134
theorem Zw:ak prog yJ:=ai (fn:=f134) (by kernel_rfl) (by kernel_rfl)
abbrev sW:Nat:=131
theorem SL:ak prog sW:=ai (fn:=f131) (by kernel_rfl) (by kernel_rfl)
abbrev xH:Nat:=101
theorem acW:ak prog xH:=ai (fn:=f101) (by kernel_rfl) (by kernel_rfl)
abbrev pR:Nat:=198
theorem WG:ak prog pR:=ai (fn:=f198) (by kernel_rfl) (by kernel_rfl)
abbrev Hz:Nat:=145
theorem aow:ak prog Hz:=ai (fn:=f145) (by kernel_rfl) (by kernel_rfl)
abbrev wz:Nat:=88
theorem XB:ak prog wz:=ai (fn:=f88) (by kernel_rfl) (by kernel_rfl)
abbrev Ia:Nat:=90
theorem aox:ak prog Ia:=ai (fn:=f90) (by kernel_rfl) (by kernel_rfl)
abbrev DC:Nat:=147
theorem ai6:ak prog DC:=ai (fn:=f147) (by kernel_rfl) (by kernel_rfl)
abbrev HY:Nat:=95
theorem aoy:ak prog HY:=ai (fn:=f95) (by kernel_rfl) (by kernel_rfl)
abbrev Fv:Nat:=53
theorem alL:ak prog Fv:=ai (fn:=f53) (by kernel_rfl) (by kernel_rfl)
abbrev qN:Nat:=216
theorem PS:ak prog qN:=ai (fn:=f216) (by kernel_rfl) (by kernel_rfl)
abbrev H7:Nat:=224
theorem aoz:ak prog H7:=ai (fn:=f224) (by kernel_rfl) (by kernel_rfl)
abbrev H6:Nat:=266
theorem aoA:ak prog H6:=ai (fn:=f266) (by kernel_rfl) (by kernel_rfl)
abbrev zi:Nat:=254
theorem ael:ak prog zi:=ai (fn:=f254) (by kernel_rfl) (by kernel_rfl)
abbrev lW:Nat:=240
theorem Nu:ak prog lW:=ai (fn:=f240) (by kernel_rfl) (by kernel_rfl)
abbrev uU:Nat:=212
theorem Z5:ak prog uU:=ai (fn:=f212) (by kernel_rfl) (by kernel_rfl)
abbrev gm:Nat:=170
theorem tH:ak prog gm:=ai (fn:=f170) (by kernel_rfl) (by kernel_rfl)
abbrev BB:Nat:=267
theorem agq:ak prog BB:=ai (fn:=f267) (by kernel_rfl) (by kernel_rfl)
abbrev ru:Nat:=115
theorem Ur:ak prog ru:=ai (fn:=f115) (by kernel_rfl) (by kernel_rfl)
abbrev pU:Nat:=165
theorem SN:ak prog pU:=ai (fn:=f165) (by kernel_rfl) (by kernel_rfl)
abbrev nH:Nat:=167
theorem MH:ak prog nH:=ai (fn:=f167) (by kernel_rfl) (by kernel_rfl)
abbrev DF:Nat:=181
theorem ai7:ak prog DF:=ai (fn:=f181) (by kernel_rfl) (by kernel_rfl)
abbrev Jz:Nat:=244
theorem ai8:ak prog Jz:=ai (fn:=f244) (by kernel_rfl) (by kernel_rfl)
abbrev AL:Nat:=244
theorem Z7:ak prog AL:=ai (fn:=f244) (by kernel_rfl) (by kernel_rfl)
abbrev OU:Nat:=244
abbrev MR:Nat:=230
theorem aoB:ak prog MR:=ai (fn:=f230) (by kernel_rfl) (by kernel_rfl)
abbrev Eo:Nat:=230
theorem acX:ak prog Eo:=ai (fn:=f230) (by kernel_rfl) (by kernel_rfl)
abbrev SQ:Nat:=230
abbrev H8:Nat:=220
theorem aoC:ak prog H8:=ai (fn:=f220) (by kernel_rfl) (by kernel_rfl)
abbrev H9:Nat:=192
theorem aoD:ak prog H9:=ai (fn:=f192) (by kernel_rfl) (by kernel_rfl)
abbrev zk:Nat:=179
theorem aem:ak prog zk:=ai (fn:=f179) (by kernel_rfl) (by kernel_rfl)
abbrev zl:Nat:=133
theorem aen:ak prog zl:=ai (fn:=f133) (by kernel_rfl) (by kernel_rfl)
abbrev pV:Nat:=121
theorem SS:ak prog pV:=ai (fn:=f121) (by kernel_rfl) (by kernel_rfl)
abbrev lX:Nat:=120
theorem Nv:ak prog lX:=ai (fn:=f120) (by kernel_rfl) (by kernel_rfl)
abbrev dL:Nat:=119
theorem tJ:ak prog dL:=ai (fn:=f119) (by kernel_rfl) (by kernel_rfl)
abbrev xQ:Nat:=75
theorem acY:ak prog xQ:=ai (fn:=f75) (by kernel_rfl) (by kernel_rfl)
abbrev DI:Nat:=219
theorem ai9:ak prog DI:=ai (fn:=f219) (by kernel_rfl) (by kernel_rfl)
abbrev BD:Nat:=178
theorem agr:ak prog BD:=ai (fn:=f178) (by kernel_rfl) (by kernel_rfl)
abbrev BF:Nat:=132
theorem ags:ak prog BF:=ai (fn:=f132) (by kernel_rfl) (by kernel_rfl)
abbrev wo:Nat:=118
theorem XC:ak prog wo:=ai (fn:=f118) (by kernel_rfl) (by kernel_rfl)
abbrev tY:Nat:=117
theorem V5:ak prog tY:=ai (fn:=f117) (by kernel_rfl) (by kernel_rfl)
abbrev Fj:Nat:=74
theorem alM:ak prog Fj:=ai (fn:=f74) (by kernel_rfl) (by kernel_rfl)
abbrev BI:Nat:=110
theorem agt:ak prog BI:=ai (fn:=f110) (by kernel_rfl) (by kernel_rfl)
abbrev JY:Nat:=82
theorem arj:ak prog JY:=ai (fn:=f82) (by kernel_rfl) (by kernel_rfl)
abbrev Fh:Nat:=39
theorem alN:ak prog Fh:=ai (fn:=f39) (by kernel_rfl) (by kernel_rfl)
abbrev BK:Nat:=102
theorem agu:ak prog BK:=ai (fn:=f102) (by kernel_rfl) (by kernel_rfl)
abbrev DL:Nat:=37
theorem aja:ak prog DL:=ai (fn:=f37) (by kernel_rfl) (by kernel_rfl)
abbrev Ba:Nat:=106
theorem aaR:ak prog Ba:=ai (fn:=f106) (by kernel_rfl) (by kernel_rfl)
abbrev wu:Nat:=161
theorem XD:ak prog wu:=ai (fn:=f161) (by kernel_rfl) (by kernel_rfl)
abbrev iC:Nat:=160
theorem FN:ak prog iC:=ai (fn:=f160) (by kernel_rfl) (by kernel_rfl)
abbrev Fp:Nat:=69
theorem alO:ak prog Fp:=ai (fn:=f69) (by kernel_rfl) (by kernel_rfl)
abbrev zq:Nat:=67
theorem aeo:ak prog zq:=ai (fn:=f67) (by kernel_rfl) (by kernel_rfl)
abbrev Zx:Nat:=215
abbrev xR:Nat:=172
theorem acZ:ak prog xR:=ai (fn:=f172) (by kernel_rfl) (by kernel_rfl)
abbrev BH:Nat:=173
theorem agv:ak prog BH:=ai (fn:=f173) (by kernel_rfl) (by kernel_rfl)
abbrev DJ:Nat:=211
theorem ajb:ak prog DJ:=ai (fn:=f211) (by kernel_rfl) (by kernel_rfl)
abbrev BG:Nat:=169
theorem agw:ak prog BG:=ai (fn:=f169) (by kernel_rfl) (by kernel_rfl)
abbrev mQ:Nat:=112
theorem TM:ak prog mQ:=ai (fn:=f112) (by kernel_rfl) (by kernel_rfl)
abbrev iI:Nat:=177
theorem zF:ak prog iI:=ai (fn:=f177) (by kernel_rfl) (by kernel_rfl)
abbrev fC:Nat:=218
theorem yS:ak prog fC:=ai (fn:=f218) (by kernel_rfl) (by kernel_rfl)
abbrev dZ:Nat:=176
theorem xA:ak prog dZ:=ai (fn:=f176) (by kernel_rfl) (by kernel_rfl)
abbrev qW:Nat:=113
theorem Ya:ak prog qW:=ai (fn:=f113) (by kernel_rfl) (by kernel_rfl)
abbrev iJ:Nat:=175
theorem zG:ak prog iJ:=ai (fn:=f175) (by kernel_rfl) (by kernel_rfl)
abbrev fP:Nat:=217
theorem Bg:ak prog fP:=ai (fn:=f217) (by kernel_rfl) (by kernel_rfl)
abbrev fD:Nat:=174
theorem yT:ak prog fD:=ai (fn:=f174) (by kernel_rfl) (by kernel_rfl)
abbrev nP:Nat:=168
theorem U6:ak prog nP:=ai (fn:=f168) (by kernel_rfl) (by kernel_rfl)
abbrev qV:Nat:=165
theorem Yb:ak prog qV:=ai (fn:=f165) (by kernel_rfl) (by kernel_rfl)
abbrev nJ:Nat:=239
theorem MI:ak prog nJ:=ai (fn:=f239) (by kernel_rfl) (by kernel_rfl)
abbrev jd:Nat:=253
theorem JF:ak prog jd:=ai (fn:=f253) (by kernel_rfl) (by kernel_rfl)
abbrev ja:Nat:=238
theorem IK:ak prog ja:=ai (fn:=f238) (by kernel_rfl) (by kernel_rfl)
abbrev Ib:Nat:=210
theorem aoE:ak prog Ib:=ai (fn:=f210) (by kernel_rfl) (by kernel_rfl)
abbrev Ic:Nat:=166
theorem aoF:ak prog Ic:=ai (fn:=f166) (by kernel_rfl) (by kernel_rfl)
abbrev zo:Nat:=111
theorem aep:ak prog zo:=ai (fn:=f111) (by kernel_rfl) (by kernel_rfl)
abbrev zn:Nat:=109
theorem aer:ak prog zn:=ai (fn:=f109) (by kernel_rfl) (by kernel_rfl)
abbrev pW:Nat:=68
theorem SX:ak prog pW:=ai (fn:=f68) (by kernel_rfl) (by kernel_rfl)
abbrev xU:Nat:=71
theorem ac0:ak prog xU:=ai (fn:=f71) (by kernel_rfl) (by kernel_rfl)
abbrev DK:Nat:=70
theorem ajc:ak prog DK:=ai (fn:=f70) (by kernel_rfl) (by kernel_rfl)
abbrev BM:Nat:=33
theorem agx:ak prog BM:=ai (fn:=f33) (by kernel_rfl) (by kernel_rfl)
abbrev Fq:Nat:=114
theorem alP:ak prog Fq:=ai (fn:=f114) (by kernel_rfl) (by kernel_rfl)
abbrev BJ:Nat:=72
theorem agy:ak prog BJ:=ai (fn:=f72) (by kernel_rfl) (by kernel_rfl)
abbrev pX:Nat:=35
theorem SY:ak prog pX:=ai (fn:=f35) (by kernel_rfl) (by kernel_rfl)
abbrev zu:Nat:=34
theorem aes:ak prog zu:=ai (fn:=f34) (by kernel_rfl) (by kernel_rfl)
abbrev Ig:Nat:=65
theorem aoG:ak prog Ig:=ai (fn:=f65) (by kernel_rfl) (by kernel_rfl)
abbrev zx:Nat:=29
theorem aeu:ak prog zx:=ai (fn:=f29) (by kernel_rfl) (by kernel_rfl)
abbrev BN:Nat:=30
theorem agz:ak prog BN:=ai (fn:=f30) (by kernel_rfl) (by kernel_rfl)
abbrev FB:Nat:=116
theorem alQ:ak prog FB:=ai (fn:=f116) (by kernel_rfl) (by kernel_rfl)
abbrev uY:Nat:=73
theorem Z8:ak prog uY:=ai (fn:=f73) (by kernel_rfl) (by kernel_rfl)
abbrev BL:Nat:=36
theorem agA:ak prog BL:=ai (fn:=f36) (by kernel_rfl) (by kernel_rfl)
abbrev Us:Nat:=5
abbrev uX:Nat:=215
theorem Z9:ak prog uX:=ai (fn:=f215) (by kernel_rfl) (by kernel_rfl)
abbrev uZ:Nat:=31
theorem aac:ak prog uZ:=ai (fn:=f31) (by kernel_rfl) (by kernel_rfl)
end Go.Proofs.Tryz

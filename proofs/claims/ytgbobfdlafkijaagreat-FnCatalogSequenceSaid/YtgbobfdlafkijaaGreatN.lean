import Derived.Test.YtgbobfdlafkijaaGreatFwC
import Derived.Test.YtgbobfdlafkijaaGreatProg
import Derived.Lib.LaidTab
import Derived.Lib.ItoaNum
namespace Go.Proofs.Tryz
open Go Go.Fw
abbrev iD:TypeId:=3
abbrev atB:TypeId:=4
abbrev jP:TypeId:=5
abbrev dL:TypeId:=9
abbrev aV:TypeId:=56
abbrev ae8:TypeId:=78
abbrev bD:TypeId:=94
abbrev aQ:TypeId:=104
abbrev EJ:TypeId:=106
abbrev bf:TypeId:=124
abbrev aN:TypeId:=155
abbrev bM:TypeId:=167
abbrev pV:aP:=(.cons (.int .i64) .nil)
abbrev mP:aP:=(.cons (.int .i64) .nil)
abbrev R_4:aP:=(.cons (.bool) .nil)
abbrev xC:aP:=(.cons (.int .u8) .nil)
abbrev R_6:aP:=(.cons (.int .u8) .nil)
abbrev R_7:aP:=(.cons (.int .i64) (.cons (.int .i64) (.cons (.bool) (.cons (.int .u8) .nil))))
abbrev R_8:aP:=(.cons (.int .i64) (.cons (.int .i64) (.cons (.bool) (.cons (.int .u8) .nil))))
abbrev gq:aP:=(.cons (.str) .nil)
abbrev aIj:aP:=(.cons (.str) .nil)
abbrev aIk:aP:=(.cons (.str) .nil)
abbrev aIl:aP:=(.cons (.int .u64) .nil)
abbrev aIm:aP:=(.cons (.str) (.cons (.int .u64) .nil))
abbrev aIn:aP:=(.cons (.str) (.cons (.int .u64) .nil))
abbrev aIo:aP:=(.cons (.int .i32) .nil)
abbrev aIp:aP:=(.cons (.sl jP xC) .nil)
abbrev bU:aP:=(.cons (.str) (.cons (.int .i64) .nil))
abbrev aIq:aP:=(.cons (.sl aN bU) .nil)
abbrev aIr:aP:=(.cons (.int .i64) (.cons (.int .i64) (.cons (.str) .nil)))
abbrev eu:aP:=(.cons (.str) (.cons (.int .i64) (.cons (.int .i64) (.cons (.str) .nil))))
abbrev aIs:aP:=(.cons (.sl bD eu) .nil)
abbrev dR:aP:=(.cons (.int .i64) (.cons (.int .i64) (.cons (.bool) (.cons (.int .i64) (.cons (.sl bD eu) .nil)))))
abbrev aIt:aP:=(.cons (.sl aV dR) .nil)
abbrev aIu:aP:=(.cons (.sl aN bU) (.cons (.sl aV dR) (.cons (.int .i64) .nil)))
abbrev eP:aP:=(.cons (.int .i64) (.cons (.int .i64) (.cons (.int .i64) (.cons (.str) (.cons (.int .i64) (.cons (.int .i64) (.cons (.str) .nil)))))))
abbrev aHs:aP:=(.cons (.sl bM eP) .nil)
abbrev bI:aP:=(.cons (.str) (.cons (.sl bM eP) .nil))
abbrev aIv:aP:=(.cons (.sl bf bI) .nil)
abbrev aIw:aP:=(.cons (.sl aN bU) (.cons (.sl aV dR) (.cons (.int .i64) (.cons (.sl bf bI) .nil))))
abbrev aG3:aP:=(.cons (.int .i64) (.cons (.sl aN bU) (.cons (.sl aV dR) (.cons (.int .i64) (.cons (.sl bf bI) (.cons (.int .i64) .nil))))))
abbrev aIx:aP:=(.cons (.sl ae8 aG3) .nil)
abbrev aIy:aP:=(.cons (.sl aN bU) (.cons (.sl aV dR) (.cons (.int .i64) .nil)))
abbrev aIz:aP:=(.cons (.sl aN bU) (.cons (.sl aV dR) (.cons (.int .i64) (.cons (.sl bf bI) .nil))))
abbrev aIA:aP:=(.cons (.sl iD mP) .nil)
abbrev cZ:aP:=(.cons (.str) (.cons (.sl iD mP) .nil))
abbrev aIB:aP:=(.cons (.sl aQ cZ) .nil)
abbrev aIC:aP:=(.cons (.sl aN bU) (.cons (.sl aV dR) (.cons (.int .i64) (.cons (.sl bf bI) (.cons (.sl aQ cZ) .nil)))))
abbrev aID:aP:=(.cons (.sl aN bU) (.cons (.sl aV dR) (.cons (.int .i64) (.cons (.sl bf bI) (.cons (.sl aQ cZ) .nil)))))
abbrev aIE:aP:=(.cons (.int .i64) (.cons (.int .i64) (.cons (.bool) (.cons (.int .i64) (.cons (.sl bD eu) .nil)))))
abbrev aIF:aP:=(.cons (.int .i64) (.cons (.int .i64) (.cons (.str) .nil)))
abbrev Rk:aP:=(.cons (.str) (.cons (.sl iD mP) (.cons (.sl iD mP) .nil)))
abbrev aIG:aP:=(.cons (.sl EJ Rk) .nil)
abbrev aIH:aP:=(.cons (.sl dL gq) .nil)
abbrev aII:aP:=(.cons (.int .i64) (.cons (.sl aN bU) (.cons (.sl aV dR) (.cons (.int .i64) (.cons (.sl bf bI) (.cons (.int .i64) .nil))))))
abbrev aIJ:aP:=(.cons (.str) (.cons (.int .i64) (.cons (.int .i64) (.cons (.str) .nil))))
abbrev aHt:aP:=(.cons (.str) (.cons (.sl iD mP) .nil))
abbrev aHu:aP:=(.cons (.str) (.cons (.sl iD mP) (.cons (.sl iD mP) .nil)))
abbrev aHv:aP:=(.cons (.sl jP xC) (.cons (.int .i64) (.cons (.int .i64) .nil)))
abbrev aHw:aP:=(.cons (.sl jP xC) (.cons (.int .i64) (.cons (.int .i64) .nil)))
abbrev aHx:aP:=(.cons (.str) (.cons (.sl bM eP) .nil))
abbrev aHy:aP:=(.cons (.str) (.cons (.int .i64) .nil))
abbrev aHz:aP:=(.cons (.int .i64) (.cons (.int .i64) (.cons (.int .i64) (.cons (.str) (.cons (.int .i64) (.cons (.int .i64) (.cons (.str) .nil)))))))
abbrev aHA:aP:=(.cons (.int .u64) .nil)
abbrev aHB:aP:=(.cons (.sl atB R_4) .nil)
abbrev aHC:aP:=(.cons (.int .i64) .nil)
abbrev aHD:aP:=(.cons (.int .u32) .nil)
abbrev aHE:aP:=(.cons (.int .u64) .nil)
abbrev aHF:aP:=(.cons (.int .u64) .nil)
abbrev aHG:aP:=(.cons (.int .u8) .nil)
abbrev aHH:aP:=(.cons (.int .u8) .nil)
abbrev aHI:aP:=(.cons (.int .i32) .nil)
abbrev aHJ:aP:=(.cons (.int .i32) .nil)
def yH:List (Nat×Go.Fw.TI):=[
 (2,⟨.scalar,pV,8,false⟩),
 (3,⟨.scalar,mP,8,false⟩),
 (4,⟨.scalar,R_4,1,false⟩),
 (5,⟨.scalar,xC,1,false⟩),
 (6,⟨.scalar,R_6,1,false⟩),
 (7,⟨.struct [(0,2),(1,3),(2,4),(3,6)],R_7,24,false⟩),
 (8,⟨.struct [(0,2),(1,3),(2,4),(3,6)],R_8,24,false⟩),
 (9,⟨.str,gq,16,false⟩),
 (10,⟨.str,aIj,16,false⟩),
 (11,⟨.str,aIk,16,false⟩),
 (12,⟨.scalar,aIl,8,false⟩),
 (13,⟨.struct [(0,9),(1,12)],aIm,24,false⟩),
 (14,⟨.struct [(0,9),(1,12)],aIn,24,false⟩),
 (21,⟨.scalar,aIo,4,false⟩),
 (22,⟨.slice jP,aIp,24,false⟩),
 (24,⟨.slice ae8,aIx,24,false⟩),
 (25,⟨.slice aN,aIq,24,false⟩),
 (26,⟨.slice aV,aIt,24,false⟩),
 (27,⟨.struct [(0,25),(1,26),(2,3)],aIy,56,false⟩),
 (28,⟨.struct [(0,25),(1,26),(2,3)],aIu,56,false⟩),
 (29,⟨.slice bf,aIv,24,false⟩),
 (30,⟨.struct [(0,28),(3,29)],aIz,80,false⟩),
 (31,⟨.struct [(0,28),(3,29)],aIw,80,false⟩),
 (48,⟨.slice aQ,aIB,24,false⟩),
 (49,⟨.struct [(0,28),(3,29),(4,48)],aIC,104,false⟩),
 (50,⟨.struct [(0,28),(3,29),(4,48)],aID,104,false⟩),
 (52,⟨.slice iD,aIA,24,false⟩),
 (54,⟨.slice bD,aIs,24,false⟩),
 (55,⟨.struct [(0,3),(1,3),(2,4),(3,3),(4,54)],aIE,56,false⟩),
 (56,⟨.struct [(0,3),(1,3),(2,4),(3,3),(4,54)],dR,56,false⟩),
 (58,⟨.struct [(0,3),(1,3),(2,9)],aIF,32,false⟩),
 (59,⟨.struct [(0,3),(1,3),(2,9)],aIr,32,true⟩),
 (61,⟨.slice EJ,aIG,24,false⟩),
 (68,⟨.slice dL,aIH,24,false⟩),
 (77,⟨.struct [(0,3),(1,31),(5,3)],aII,96,false⟩),
 (78,⟨.struct [(0,3),(1,31),(5,3)],aG3,96,false⟩),
 (93,⟨.struct [(0,9),(1,59)],aIJ,48,true⟩),
 (94,⟨.struct [(0,9),(1,59)],eu,48,true⟩),
 (103,⟨.struct [(0,9),(1,52)],aHt,40,false⟩),
 (104,⟨.struct [(0,9),(1,52)],cZ,40,false⟩),
 (105,⟨.struct [(0,9),(1,52),(2,52)],aHu,64,false⟩),
 (106,⟨.struct [(0,9),(1,52),(2,52)],Rk,64,false⟩),
 (112,⟨.struct [(0,22),(1,3),(2,3)],aHv,40,false⟩),
 (113,⟨.struct [(0,22),(1,3),(2,3)],aHw,40,false⟩),
 (122,⟨.slice bM,aHs,24,false⟩),
 (123,⟨.struct [(0,9),(1,122)],aHx,40,false⟩),
 (124,⟨.struct [(0,9),(1,122)],bI,40,false⟩),
 (154,⟨.struct [(0,9),(1,3)],aHy,24,false⟩),
 (155,⟨.struct [(0,9),(1,3)],bU,24,true⟩),
 (166,⟨.struct [(0,3),(1,3),(2,3),(3,9),(4,59)],aHz,72,true⟩),
 (167,⟨.struct [(0,3),(1,3),(2,3),(3,9),(4,59)],eP,72,true⟩),
 (168,⟨.scalar,aHA,8,false⟩),
 (220,⟨.slice atB,aHB,24,false⟩),
 (225,⟨.scalar,aHC,8,false⟩),
 (234,⟨.scalar,aHD,4,false⟩),
 (236,⟨.scalar,aHE,8,false⟩),
 (238,⟨.scalar,aHF,8,false⟩),
 (254,⟨.scalar,aHG,1,false⟩),
 (255,⟨.scalar,aHH,1,false⟩),
 (258,⟨.scalar,aHI,4,false⟩),
 (259,⟨.scalar,aHJ,4,false⟩)]
def Θ:je:=aAj yH
theorem ah:anX prog yH=true:=by kernel_rfl
theorem mixed:prog.follows .mixedOrders=true:=by kernel_rfl
def G:qU where
 n:=0
 ok:=fun _=>True
 low:=fun _ _=>Nat.zero_le _
 stable:=fun _ _ _ _ _=>trivial
abbrev Df:Nat:=40
theorem adn:ak prog Df:=ai (fn:=f40) (by kernel_rfl) (by kernel_rfl)
abbrev Jr:Nat:=105
theorem arC:ak prog Jr:=ai (fn:=f105) (by kernel_rfl) (by kernel_rfl)
abbrev dU:Nat:=66
theorem jZ:ak prog dU:=ai (fn:=f66) (by kernel_rfl) (by kernel_rfl)
abbrev sG:Nat:=59
theorem Sv:ak prog sG:=ai (fn:=f59) (by kernel_rfl) (by kernel_rfl)
abbrev sF:Nat:=140
theorem Sz:ak prog sF:=ai (fn:=f140) (by kernel_rfl) (by kernel_rfl)
abbrev Dx:Nat:=42
theorem aiQ:ak prog Dx:=ai (fn:=f42) (by kernel_rfl) (by kernel_rfl)
abbrev G8:Nat:=158
theorem aoz:ak prog G8:=ai (fn:=f158) (by kernel_rfl) (by kernel_rfl)
abbrev qj:Nat:=32
theorem Qp:ak prog qj:=ai (fn:=f32) (by kernel_rfl) (by kernel_rfl)
abbrev qL:Nat:=195
theorem Vm:ak prog qL:=ai (fn:=f195) (by kernel_rfl) (by kernel_rfl)
abbrev iq:Nat:=63
theorem pF:ak prog iq:=ai (fn:=f63) (by kernel_rfl) (by kernel_rfl)
abbrev jm:Nat:=54
theorem yc:ak prog jm:=ai (fn:=f54) (by kernel_rfl) (by kernel_rfl)
abbrev zN:Nat:=237
theorem abM:ak prog zN:=ai (fn:=f237) (by kernel_rfl) (by kernel_rfl)
abbrev kD:Nat:=225
theorem Iw:ak prog kD:=ai (fn:=f225) (by kernel_rfl) (by kernel_rfl)
abbrev kE:Nat:=233
theorem Iy:ak prog kE:=ai (fn:=f233) (by kernel_rfl) (by kernel_rfl)
abbrev pY:Nat:=221
theorem TS:ak prog pY:=ai (fn:=f221) (by kernel_rfl) (by kernel_rfl)
abbrev qc:Nat:=208
theorem TT:ak prog qc:=ai (fn:=f208) (by kernel_rfl) (by kernel_rfl)
abbrev lV:Nat:=207
theorem OM:ak prog lV:=ai (fn:=f207) (by kernel_rfl) (by kernel_rfl)
abbrev lW:Nat:=200
theorem OO:ak prog lW:=ai (fn:=f200) (by kernel_rfl) (by kernel_rfl)
abbrev EU:Nat:=222
theorem alI:ak prog EU:=ai (fn:=f222) (by kernel_rfl) (by kernel_rfl)
abbrev EW:Nat:=209
theorem alJ:ak prog EW:=ai (fn:=f209) (by kernel_rfl) (by kernel_rfl)
abbrev oJ:Nat:=156
theorem QZ:ak prog oJ:=ai (fn:=f156) (by kernel_rfl) (by kernel_rfl)
abbrev oK:Nat:=148
theorem Q5:ak prog oK:=ai (fn:=f148) (by kernel_rfl) (by kernel_rfl)
abbrev xM:Nat:=180
theorem adX:ak prog xM:=ai (fn:=f180) (by kernel_rfl) (by kernel_rfl)
abbrev xO:Nat:=162
theorem adY:ak prog xO:=ai (fn:=f162) (by kernel_rfl) (by kernel_rfl)
abbrev lK:Nat:=125
theorem LG:ak prog lK:=ai (fn:=f125) (by kernel_rfl) (by kernel_rfl)
abbrev qJ:Nat:=107
theorem Vo:ak prog qJ:=ai (fn:=f107) (by kernel_rfl) (by kernel_rfl)
abbrev iM:Nat:=100
theorem xg:ak prog iM:=ai (fn:=f100) (by kernel_rfl) (by kernel_rfl)
abbrev qf:Nat:=96
theorem TU:ak prog qf:=ai (fn:=f96) (by kernel_rfl) (by kernel_rfl)
abbrev Dt:Nat:=93
theorem aiR:ak prog Dt:=ai (fn:=f93) (by kernel_rfl) (by kernel_rfl)
abbrev EX:Nat:=199
theorem alK:ak prog EX:=ai (fn:=f199) (by kernel_rfl) (by kernel_rfl)
abbrev G6:Nat:=146
theorem aoA:ak prog G6:=ai (fn:=f146) (by kernel_rfl) (by kernel_rfl)
abbrev EY:Nat:=94
theorem alL:ak prog EY:=ai (fn:=f94) (by kernel_rfl) (by kernel_rfl)
abbrev Fj:Nat:=52
theorem alM:ak prog Fj:=ai (fn:=f52) (by kernel_rfl) (by kernel_rfl)
abbrev ny:Nat:=124
theorem LH:ak prog ny:=ai (fn:=f124) (by kernel_rfl) (by kernel_rfl)
abbrev qm:Nat:=108
theorem Qq:ak prog qm:=ai (fn:=f108) (by kernel_rfl) (by kernel_rfl)
abbrev Md:Nat:=163
theorem auO:ak prog Md:=ai (fn:=f163) (by kernel_rfl) (by kernel_rfl)
abbrev ql:Nat:=123
theorem Qr:ak prog ql:=ai (fn:=f123) (by kernel_rfl) (by kernel_rfl)
abbrev qo:Nat:=143
theorem Yt:ak prog qo:=ai (fn:=f143) (by kernel_rfl) (by kernel_rfl)
abbrev qK:Nat:=164
theorem YS:ak prog qK:=ai (fn:=f164) (by kernel_rfl) (by kernel_rfl)
abbrev Js:Nat:=31
theorem arD:ak prog Js:=ai (fn:=f31) (by kernel_rfl) (by kernel_rfl)
abbrev Jt:Nat:=138
theorem arE:ak prog Jt:=ai (fn:=f138) (by kernel_rfl) (by kernel_rfl)
abbrev G7:Nat:=157
theorem aoB:ak prog G7:=ai (fn:=f157) (by kernel_rfl) (by kernel_rfl)
abbrev kQ:Nat:=89
theorem FC:ak prog kQ:=ai (fn:=f89) (by kernel_rfl) (by kernel_rfl)
abbrev Dv:Nat:=137
theorem aiS:ak prog Dv:=ai (fn:=f137) (by kernel_rfl) (by kernel_rfl)
abbrev Du:Nat:=159
theorem aiT:ak prog Du:=ai (fn:=f159) (by kernel_rfl) (by kernel_rfl)
abbrev Ht:Nat:=103
theorem aoC:ak prog Ht:=ai (fn:=f103) (by kernel_rfl) (by kernel_rfl)
abbrev U5:Nat:=7
theorem aBk:ak prog U5:=ai (fn:=f7) (by kernel_rfl) (by kernel_rfl)
abbrev EZ:Nat:=144
theorem alN:ak prog EZ:=ai (fn:=f144) (by kernel_rfl) (by kernel_rfl)
abbrev oN:Nat:=87
theorem OQ:ak prog oN:=ai (fn:=f87) (by kernel_rfl) (by kernel_rfl)
abbrev Dw:Nat:=232
theorem aiU:ak prog Dw:=ai (fn:=f232) (by kernel_rfl) (by kernel_rfl)
abbrev Ju:Nat:=196
theorem arF:ak prog Ju:=ai (fn:=f196) (by kernel_rfl) (by kernel_rfl)
abbrev axS:Nat:=197
abbrev F9:Nat:=197
theorem ae9:ak prog F9:=ai (fn:=f197) (by kernel_rfl) (by kernel_rfl)
abbrev Vp:Nat:=197
abbrev uK:Nat:=197
theorem TV:ak prog uK:=ai (fn:=f197) (by kernel_rfl) (by kernel_rfl)
abbrev Yu:Nat:=142
abbrev qp:Nat:=142
theorem Yv:ak prog qp:=ai (fn:=f142) (by kernel_rfl) (by kernel_rfl)
abbrev Jv:Nat:=139
theorem arG:ak prog Jv:=ai (fn:=f139) (by kernel_rfl) (by kernel_rfl)
abbrev JH:Nat:=104
theorem arH:ak prog JH:=ai (fn:=f104) (by kernel_rfl) (by kernel_rfl)
abbrev ZH:Nat:=48
abbrev Ai:Nat:=245
theorem agD:ak prog Ai:=ai (fn:=f245) (by kernel_rfl) (by kernel_rfl)
abbrev Aj:Nat:=248
theorem agE:ak prog Aj:=ai (fn:=f248) (by kernel_rfl) (by kernel_rfl)
abbrev uN:Nat:=246
theorem abN:ak prog uN:=ai (fn:=f246) (by kernel_rfl) (by kernel_rfl)
abbrev uO:Nat:=249
theorem abO:ak prog uO:=ai (fn:=f249) (by kernel_rfl) (by kernel_rfl)
abbrev kW:Nat:=226
theorem JV:ak prog kW:=ai (fn:=f226) (by kernel_rfl) (by kernel_rfl)
abbrev kX:Nat:=234
theorem JW:ak prog kX:=ai (fn:=f234) (by kernel_rfl) (by kernel_rfl)
abbrev Ap:Nat:=190
theorem agF:ak prog Ap:=ai (fn:=f190) (by kernel_rfl) (by kernel_rfl)
abbrev Am:Nat:=201
theorem agG:ak prog Am:=ai (fn:=f201) (by kernel_rfl) (by kernel_rfl)
abbrev xP:Nat:=241
theorem ZI:ak prog xP:=ai (fn:=f241) (by kernel_rfl) (by kernel_rfl)
abbrev yT:Nat:=268
theorem afa:ak prog yT:=ai (fn:=f268) (by kernel_rfl) (by kernel_rfl)
abbrev yS:Nat:=252
theorem afb:ak prog yS:=ai (fn:=f252) (by kernel_rfl) (by kernel_rfl)
abbrev jJ:Nat:=171
theorem zq:ak prog jJ:=ai (fn:=f171) (by kernel_rfl) (by kernel_rfl)
abbrev vH:Nat:=236
theorem Yw:ak prog vH:=ai (fn:=f236) (by kernel_rfl) (by kernel_rfl)
abbrev yV:Nat:=203
theorem afc:ak prog yV:=ai (fn:=f203) (by kernel_rfl) (by kernel_rfl)
abbrev yU:Nat:=204
theorem afd:ak prog yU:=ai (fn:=f204) (by kernel_rfl) (by kernel_rfl)
abbrev lI:Nat:=184
theorem H7:ak prog lI:=ai (fn:=f184) (by kernel_rfl) (by kernel_rfl)
abbrev xQ:Nat:=247
theorem ZJ:ak prog xQ:=ai (fn:=f247) (by kernel_rfl) (by kernel_rfl)
abbrev yY:Nat:=227
theorem afe:ak prog yY:=ai (fn:=f227) (by kernel_rfl) (by kernel_rfl)
abbrev yX:Nat:=229
theorem aff:ak prog yX:=ai (fn:=f229) (by kernel_rfl) (by kernel_rfl)
abbrev zO:Nat:=251
theorem abP:ak prog zO:=ai (fn:=f251) (by kernel_rfl) (by kernel_rfl)
abbrev jd:Nat:=250
theorem IL:ak prog jd:=ai (fn:=f250) (by kernel_rfl) (by kernel_rfl)
abbrev OD:Nat:=235
theorem axT:ak prog OD:=ai (fn:=f235) (by kernel_rfl) (by kernel_rfl)
abbrev G9:Nat:=228
theorem aoD:ak prog G9:=ai (fn:=f228) (by kernel_rfl) (by kernel_rfl)
abbrev Ak:Nat:=202
theorem agH:ak prog Ak:=ai (fn:=f202) (by kernel_rfl) (by kernel_rfl)
abbrev C9:Nat:=149
theorem ado:ak prog C9:=ai (fn:=f149) (by kernel_rfl) (by kernel_rfl)
abbrev He:Nat:=191
theorem aoE:ak prog He:=ai (fn:=f191) (by kernel_rfl) (by kernel_rfl)
abbrev nC:Nat:=134
theorem LJ:ak prog nC:=ai (fn:=f134) (by kernel_rfl) (by kernel_rfl)
abbrev oW:Nat:=131
theorem N8:ak prog oW:=ai (fn:=f131) (by kernel_rfl) (by kernel_rfl)
abbrev yR:Nat:=101
theorem afg:ak prog yR:=ai (fn:=f101) (by kernel_rfl) (by kernel_rfl)
abbrev qM:Nat:=198
theorem YT:ak prog qM:=ai (fn:=f198) (by kernel_rfl) (by kernel_rfl)
abbrev Jw:Nat:=145
theorem arI:ak prog Jw:=ai (fn:=f145) (by kernel_rfl) (by kernel_rfl)
abbrev xW:Nat:=88
theorem ZK:ak prog xW:=ai (fn:=f88) (by kernel_rfl) (by kernel_rfl)
abbrev zS:Nat:=90
theorem abQ:ak prog zS:=ai (fn:=f90) (by kernel_rfl) (by kernel_rfl)
abbrev E5:Nat:=147
theorem alO:ak prog E5:=ai (fn:=f147) (by kernel_rfl) (by kernel_rfl)
abbrev Jy:Nat:=95
theorem arJ:ak prog Jy:=ai (fn:=f95) (by kernel_rfl) (by kernel_rfl)
abbrev Hr:Nat:=53
theorem aoF:ak prog Hr:=ai (fn:=f53) (by kernel_rfl) (by kernel_rfl)
abbrev sH:Nat:=216
theorem SA:ak prog sH:=ai (fn:=f216) (by kernel_rfl) (by kernel_rfl)
abbrev zQ:Nat:=224
theorem abR:ak prog zQ:=ai (fn:=f224) (by kernel_rfl) (by kernel_rfl)
abbrev Jz:Nat:=266
theorem arK:ak prog Jz:=ai (fn:=f266) (by kernel_rfl) (by kernel_rfl)
abbrev Aq:Nat:=254
theorem agI:ak prog Aq:=ai (fn:=f254) (by kernel_rfl) (by kernel_rfl)
abbrev nD:Nat:=240
theorem PD:ak prog nD:=ai (fn:=f240) (by kernel_rfl) (by kernel_rfl)
abbrev wP:Nat:=212
theorem acz:ak prog wP:=ai (fn:=f212) (by kernel_rfl) (by kernel_rfl)
abbrev iw:Nat:=170
theorem vg:ak prog iw:=ai (fn:=f170) (by kernel_rfl) (by kernel_rfl)
abbrev Dy:Nat:=267
theorem aiV:ak prog Dy:=ai (fn:=f267) (by kernel_rfl) (by kernel_rfl)
abbrev tu:Nat:=115
theorem WC:ak prog tu:=ai (fn:=f115) (by kernel_rfl) (by kernel_rfl)
abbrev qN:Nat:=165
theorem Vq:ak prog qN:=ai (fn:=f165) (by kernel_rfl) (by kernel_rfl)
abbrev oL:Nat:=167
theorem OT:ak prog oL:=ai (fn:=f167) (by kernel_rfl) (by kernel_rfl)
abbrev oM:Nat:=181
theorem OU:ak prog oM:=ai (fn:=f181) (by kernel_rfl) (by kernel_rfl)
abbrev Lp:Nat:=244
theorem alP:ak prog Lp:=ai (fn:=f244) (by kernel_rfl) (by kernel_rfl)
abbrev CQ:Nat:=244
theorem acA:ak prog CQ:=ai (fn:=f244) (by kernel_rfl) (by kernel_rfl)
abbrev Q7:Nat:=244
abbrev O6:Nat:=230
theorem arL:ak prog O6:=ai (fn:=f230) (by kernel_rfl) (by kernel_rfl)
abbrev Gf:Nat:=230
theorem afh:ak prog Gf:=ai (fn:=f230) (by kernel_rfl) (by kernel_rfl)
abbrev Vr:Nat:=230
abbrev JA:Nat:=220
theorem arM:ak prog JA:=ai (fn:=f220) (by kernel_rfl) (by kernel_rfl)
abbrev JB:Nat:=192
theorem arN:ak prog JB:=ai (fn:=f192) (by kernel_rfl) (by kernel_rfl)
abbrev Ar:Nat:=179
theorem agJ:ak prog Ar:=ai (fn:=f179) (by kernel_rfl) (by kernel_rfl)
abbrev qP:Nat:=133
theorem Vs:ak prog qP:=ai (fn:=f133) (by kernel_rfl) (by kernel_rfl)
abbrev qO:Nat:=121
theorem Vt:ak prog qO:=ai (fn:=f121) (by kernel_rfl) (by kernel_rfl)
abbrev nG:Nat:=120
theorem PE:ak prog nG:=ai (fn:=f120) (by kernel_rfl) (by kernel_rfl)
abbrev dZ:Nat:=119
theorem vw:ak prog dZ:=ai (fn:=f119) (by kernel_rfl) (by kernel_rfl)
abbrev yZ:Nat:=75
theorem afi:ak prog yZ:=ai (fn:=f75) (by kernel_rfl) (by kernel_rfl)
abbrev zf:Nat:=126
theorem afj:ak prog zf:=ai (fn:=f126) (by kernel_rfl) (by kernel_rfl)
abbrev E8:Nat:=219
theorem alQ:ak prog E8:=ai (fn:=f219) (by kernel_rfl) (by kernel_rfl)
abbrev Dz:Nat:=178
theorem aiW:ak prog Dz:=ai (fn:=f178) (by kernel_rfl) (by kernel_rfl)
abbrev tC:Nat:=132
theorem WE:ak prog tC:=ai (fn:=f132) (by kernel_rfl) (by kernel_rfl)
abbrev xR:Nat:=118
theorem ZL:ak prog xR:=ai (fn:=f118) (by kernel_rfl) (by kernel_rfl)
abbrev Hg:Nat:=186
theorem aoG:ak prog Hg:=ai (fn:=f186) (by kernel_rfl) (by kernel_rfl)
abbrev vI:Nat:=117
theorem Yx:ak prog vI:=ai (fn:=f117) (by kernel_rfl) (by kernel_rfl)
abbrev Hf:Nat:=74
theorem aoH:ak prog Hf:=ai (fn:=f74) (by kernel_rfl) (by kernel_rfl)
abbrev DK:Nat:=110
theorem aiX:ak prog DK:=ai (fn:=f110) (by kernel_rfl) (by kernel_rfl)
abbrev Me:Nat:=82
theorem auP:ak prog Me:=ai (fn:=f82) (by kernel_rfl) (by kernel_rfl)
abbrev qw:Nat:=39
theorem Qs:ak prog qw:=ai (fn:=f39) (by kernel_rfl) (by kernel_rfl)
abbrev DL:Nat:=127
theorem aiY:ak prog DL:=ai (fn:=f127) (by kernel_rfl) (by kernel_rfl)
abbrev DR:Nat:=102
theorem aiZ:ak prog DR:=ai (fn:=f102) (by kernel_rfl) (by kernel_rfl)
abbrev vJ:Nat:=37
theorem Yy:ak prog vJ:=ai (fn:=f37) (by kernel_rfl) (by kernel_rfl)
abbrev Fh:Nat:=79
theorem alR:ak prog Fh:=ai (fn:=f79) (by kernel_rfl) (by kernel_rfl)
abbrev Dc:Nat:=106
theorem adp:ak prog Dc:=ai (fn:=f106) (by kernel_rfl) (by kernel_rfl)
abbrev xU:Nat:=161
theorem ZM:ak prog xU:=ai (fn:=f161) (by kernel_rfl) (by kernel_rfl)
abbrev iR:Nat:=160
theorem H8:ak prog iR:=ai (fn:=f160) (by kernel_rfl) (by kernel_rfl)
abbrev Hl:Nat:=69
theorem aoI:ak prog Hl:=ai (fn:=f69) (by kernel_rfl) (by kernel_rfl)
abbrev Ho:Nat:=77
theorem aoJ:ak prog Ho:=ai (fn:=f77) (by kernel_rfl) (by kernel_rfl)
abbrev AA:Nat:=67
theorem agK:ak prog AA:=ai (fn:=f67) (by kernel_rfl) (by kernel_rfl)
abbrev AB:Nat:=78
theorem agL:ak prog AB:=ai (fn:=f78) (by kernel_rfl) (by kernel_rfl)
abbrev abS:Nat:=215
abbrev zh:Nat:=172
theorem afk:ak prog zh:=ai (fn:=f172) (by kernel_rfl) (by kernel_rfl)
abbrev zi:Nat:=187
theorem afl:ak prog zi:=ai (fn:=f187) (by kernel_rfl) (by kernel_rfl)
abbrev DF:Nat:=173
theorem ai0:ak prog DF:=ai (fn:=f173) (by kernel_rfl) (by kernel_rfl)
abbrev DI:Nat:=189
theorem ai1:ak prog DI:=ai (fn:=f189) (by kernel_rfl) (by kernel_rfl)
abbrev Fa:Nat:=211
theorem alS:ak prog Fa:=ai (fn:=f211) (by kernel_rfl) (by kernel_rfl)
abbrev Fb:Nat:=185
theorem alT:ak prog Fb:=ai (fn:=f185) (by kernel_rfl) (by kernel_rfl)
abbrev uV:Nat:=182
theorem Vu:ak prog uV:=ai (fn:=f182) (by kernel_rfl) (by kernel_rfl)
abbrev DC:Nat:=169
theorem ai2:ak prog DC:=ai (fn:=f169) (by kernel_rfl) (by kernel_rfl)
abbrev nY:Nat:=112
theorem VQ:ak prog nY:=ai (fn:=f112) (by kernel_rfl) (by kernel_rfl)
abbrev nZ:Nat:=129
theorem VR:ak prog nZ:=ai (fn:=f129) (by kernel_rfl) (by kernel_rfl)
abbrev ja:Nat:=177
theorem AZ:ak prog ja:=ai (fn:=f177) (by kernel_rfl) (by kernel_rfl)
abbrev fV:Nat:=218
theorem Aa:ak prog fV:=ai (fn:=f218) (by kernel_rfl) (by kernel_rfl)
abbrev fH:Nat:=176
theorem yM:ak prog fH:=ai (fn:=f176) (by kernel_rfl) (by kernel_rfl)
abbrev Fe:Nat:=188
theorem alU:ak prog Fe:=ai (fn:=f188) (by kernel_rfl) (by kernel_rfl)
abbrev sU:Nat:=113
theorem aam:ak prog sU:=ai (fn:=f113) (by kernel_rfl) (by kernel_rfl)
abbrev sV:Nat:=130
theorem aan:ak prog sV:=ai (fn:=f130) (by kernel_rfl) (by kernel_rfl)
abbrev jb:Nat:=175
theorem A7:ak prog jb:=ai (fn:=f175) (by kernel_rfl) (by kernel_rfl)
abbrev gU:Nat:=217
theorem Dj:ak prog gU:=ai (fn:=f217) (by kernel_rfl) (by kernel_rfl)
abbrev fZ:Nat:=174
theorem Ac:ak prog fZ:=ai (fn:=f174) (by kernel_rfl) (by kernel_rfl)
abbrev oZ:Nat:=168
theorem Xq:ak prog oZ:=ai (fn:=f168) (by kernel_rfl) (by kernel_rfl)
abbrev sS:Nat:=165
theorem aao:ak prog sS:=ai (fn:=f165) (by kernel_rfl) (by kernel_rfl)
abbrev oO:Nat:=239
theorem OV:ak prog oO:=ai (fn:=f239) (by kernel_rfl) (by kernel_rfl)
abbrev jv:Nat:=253
theorem LK:ak prog jv:=ai (fn:=f253) (by kernel_rfl) (by kernel_rfl)
abbrev jo:Nat:=238
theorem Kq:ak prog jo:=ai (fn:=f238) (by kernel_rfl) (by kernel_rfl)
abbrev JC:Nat:=210
theorem arO:ak prog JC:=ai (fn:=f210) (by kernel_rfl) (by kernel_rfl)
abbrev JD:Nat:=166
theorem arP:ak prog JD:=ai (fn:=f166) (by kernel_rfl) (by kernel_rfl)
abbrev JE:Nat:=183
theorem arQ:ak prog JE:=ai (fn:=f183) (by kernel_rfl) (by kernel_rfl)
abbrev Aw:Nat:=111
theorem agM:ak prog Aw:=ai (fn:=f111) (by kernel_rfl) (by kernel_rfl)
abbrev Az:Nat:=128
theorem agN:ak prog Az:=ai (fn:=f128) (by kernel_rfl) (by kernel_rfl)
abbrev Au:Nat:=109
theorem agO:ak prog Au:=ai (fn:=f109) (by kernel_rfl) (by kernel_rfl)
abbrev qQ:Nat:=68
theorem Vw:ak prog qQ:=ai (fn:=f68) (by kernel_rfl) (by kernel_rfl)
abbrev DJ:Nat:=122
theorem ai3:ak prog DJ:=ai (fn:=f122) (by kernel_rfl) (by kernel_rfl)
abbrev JG:Nat:=76
theorem arR:ak prog JG:=ai (fn:=f76) (by kernel_rfl) (by kernel_rfl)
abbrev zk:Nat:=71
theorem afm:ak prog zk:=ai (fn:=f71) (by kernel_rfl) (by kernel_rfl)
abbrev zl:Nat:=81
theorem afn:ak prog zl:=ai (fn:=f81) (by kernel_rfl) (by kernel_rfl)
abbrev Fg:Nat:=70
theorem alV:ak prog Fg:=ai (fn:=f70) (by kernel_rfl) (by kernel_rfl)
abbrev JF:Nat:=80
theorem arS:ak prog JF:=ai (fn:=f80) (by kernel_rfl) (by kernel_rfl)
abbrev DU:Nat:=33
theorem ai4:ak prog DU:=ai (fn:=f33) (by kernel_rfl) (by kernel_rfl)
abbrev DT:Nat:=38
theorem ai5:ak prog DT:=ai (fn:=f38) (by kernel_rfl) (by kernel_rfl)
abbrev Hq:Nat:=114
theorem aoK:ak prog Hq:=ai (fn:=f114) (by kernel_rfl) (by kernel_rfl)
abbrev DN:Nat:=72
theorem ai6:ak prog DN:=ai (fn:=f72) (by kernel_rfl) (by kernel_rfl)
abbrev qR:Nat:=35
theorem Vx:ak prog qR:=ai (fn:=f35) (by kernel_rfl) (by kernel_rfl)
abbrev AL:Nat:=34
theorem agP:ak prog AL:=ai (fn:=f34) (by kernel_rfl) (by kernel_rfl)
abbrev JI:Nat:=65
theorem arT:ak prog JI:=ai (fn:=f65) (by kernel_rfl) (by kernel_rfl)
abbrev AO:Nat:=29
theorem agQ:ak prog AO:=ai (fn:=f29) (by kernel_rfl) (by kernel_rfl)
abbrev DV:Nat:=30
theorem ai7:ak prog DV:=ai (fn:=f30) (by kernel_rfl) (by kernel_rfl)
abbrev OW:Nat:=6
abbrev wR:Nat:=215
theorem acB:ak prog wR:=ai (fn:=f215) (by kernel_rfl) (by kernel_rfl)
abbrev wS:Nat:=223
theorem acC:ak prog wS:=ai (fn:=f223) (by kernel_rfl) (by kernel_rfl)
abbrev wU:Nat:=31
theorem acD:ak prog wU:=ai (fn:=f31) (by kernel_rfl) (by kernel_rfl)
end Go.Proofs.Tryz

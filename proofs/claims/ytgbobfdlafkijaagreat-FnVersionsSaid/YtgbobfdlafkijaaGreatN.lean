import Derived.Test.YtgbobfdlafkijaaGreatFwC
import Derived.Test.YtgbobfdlafkijaaGreatProg
import Derived.Lib.LaidTab
import Derived.Lib.ItoaNum
namespace Go.Proofs.Tryz
open Go Go.Fw
abbrev EO:TypeId:=3
abbrev ak9:TypeId:=4
abbrev eu:TypeId:=5
abbrev qB:TypeId:=9
abbrev aW:TypeId:=56
abbrev aS:TypeId:=78
abbrev fM:TypeId:=94
abbrev LV:TypeId:=104
abbrev ai6:TypeId:=106
abbrev bf:TypeId:=124
abbrev aJ:TypeId:=155
abbrev bJ:TypeId:=167
abbrev R_2:aI:=(.cons (.int .i64) .nil)
abbrev TA:aI:=(.cons (.int .i64) .nil)
abbrev R_4:aI:=(.cons (.bool) .nil)
abbrev qM:aI:=(.cons (.int .u8) .nil)
abbrev R_6:aI:=(.cons (.int .u8) .nil)
abbrev R_7:aI:=(.cons (.int .i64) (.cons (.int .i64) (.cons (.bool) (.cons (.int .u8) .nil))))
abbrev R_8:aI:=(.cons (.int .i64) (.cons (.int .i64) (.cons (.bool) (.cons (.int .u8) .nil))))
abbrev QW:aI:=(.cons (.str) .nil)
abbrev ayj:aI:=(.cons (.str) .nil)
abbrev ayk:aI:=(.cons (.str) .nil)
abbrev ayl:aI:=(.cons (.int .u64) .nil)
abbrev aym:aI:=(.cons (.str) (.cons (.int .u64) .nil))
abbrev ayn:aI:=(.cons (.str) (.cons (.int .u64) .nil))
abbrev ayo:aI:=(.cons (.int .i32) .nil)
abbrev ayp:aI:=(.cons (.sl eu qM) .nil)
abbrev dH:aI:=(.cons (.str) (.cons (.int .i64) .nil))
abbrev ayq:aI:=(.cons (.sl aJ dH) .nil)
abbrev ayr:aI:=(.cons (.int .i64) (.cons (.int .i64) (.cons (.str) .nil)))
abbrev zX:aI:=(.cons (.str) (.cons (.int .i64) (.cons (.int .i64) (.cons (.str) .nil))))
abbrev ays:aI:=(.cons (.sl fM zX) .nil)
abbrev iJ:aI:=(.cons (.int .i64) (.cons (.int .i64) (.cons (.bool) (.cons (.int .i64) (.cons (.sl fM zX) .nil)))))
abbrev ayt:aI:=(.cons (.sl aW iJ) .nil)
abbrev ayu:aI:=(.cons (.sl aJ dH) (.cons (.sl aW iJ) (.cons (.int .i64) .nil)))
abbrev jo:aI:=(.cons (.int .i64) (.cons (.int .i64) (.cons (.int .i64) (.cons (.str) (.cons (.int .i64) (.cons (.int .i64) (.cons (.str) .nil)))))))
abbrev axz:aI:=(.cons (.sl bJ jo) .nil)
abbrev gm:aI:=(.cons (.str) (.cons (.sl bJ jo) .nil))
abbrev ayv:aI:=(.cons (.sl bf gm) .nil)
abbrev ayw:aI:=(.cons (.sl aJ dH) (.cons (.sl aW iJ) (.cons (.int .i64) (.cons (.sl bf gm) .nil))))
abbrev jG:aI:=(.cons (.int .i64) (.cons (.sl aJ dH) (.cons (.sl aW iJ) (.cons (.int .i64) (.cons (.sl bf gm) (.cons (.int .i64) .nil))))))
abbrev ayx:aI:=(.cons (.sl aS jG) .nil)
abbrev ayy:aI:=(.cons (.sl aJ dH) (.cons (.sl aW iJ) (.cons (.int .i64) .nil)))
abbrev ayz:aI:=(.cons (.sl aJ dH) (.cons (.sl aW iJ) (.cons (.int .i64) (.cons (.sl bf gm) .nil))))
abbrev ayA:aI:=(.cons (.sl EO TA) .nil)
abbrev aq8:aI:=(.cons (.str) (.cons (.sl EO TA) .nil))
abbrev ayB:aI:=(.cons (.sl LV aq8) .nil)
abbrev ayC:aI:=(.cons (.sl aJ dH) (.cons (.sl aW iJ) (.cons (.int .i64) (.cons (.sl bf gm) (.cons (.sl LV aq8) .nil)))))
abbrev ayD:aI:=(.cons (.sl aJ dH) (.cons (.sl aW iJ) (.cons (.int .i64) (.cons (.sl bf gm) (.cons (.sl LV aq8) .nil)))))
abbrev ayE:aI:=(.cons (.int .i64) (.cons (.int .i64) (.cons (.bool) (.cons (.int .i64) (.cons (.sl fM zX) .nil)))))
abbrev ayF:aI:=(.cons (.int .i64) (.cons (.int .i64) (.cons (.str) .nil)))
abbrev awr:aI:=(.cons (.str) (.cons (.sl EO TA) (.cons (.sl EO TA) .nil)))
abbrev ayG:aI:=(.cons (.sl ai6 awr) .nil)
abbrev ayH:aI:=(.cons (.sl qB QW) .nil)
abbrev ayI:aI:=(.cons (.int .i64) (.cons (.sl aJ dH) (.cons (.sl aW iJ) (.cons (.int .i64) (.cons (.sl bf gm) (.cons (.int .i64) .nil))))))
abbrev ayJ:aI:=(.cons (.str) (.cons (.int .i64) (.cons (.int .i64) (.cons (.str) .nil))))
abbrev axA:aI:=(.cons (.str) (.cons (.sl EO TA) .nil))
abbrev axB:aI:=(.cons (.str) (.cons (.sl EO TA) (.cons (.sl EO TA) .nil)))
abbrev axC:aI:=(.cons (.sl eu qM) (.cons (.int .i64) (.cons (.int .i64) .nil)))
abbrev axD:aI:=(.cons (.sl eu qM) (.cons (.int .i64) (.cons (.int .i64) .nil)))
abbrev axE:aI:=(.cons (.str) (.cons (.sl bJ jo) .nil))
abbrev axF:aI:=(.cons (.str) (.cons (.int .i64) .nil))
abbrev axG:aI:=(.cons (.int .i64) (.cons (.int .i64) (.cons (.int .i64) (.cons (.str) (.cons (.int .i64) (.cons (.int .i64) (.cons (.str) .nil)))))))
abbrev axH:aI:=(.cons (.int .u64) .nil)
abbrev axI:aI:=(.cons (.sl ak9 R_4) .nil)
abbrev axJ:aI:=(.cons (.int .i64) .nil)
abbrev axK:aI:=(.cons (.int .u32) .nil)
abbrev axL:aI:=(.cons (.int .u64) .nil)
abbrev axM:aI:=(.cons (.int .u64) .nil)
abbrev axN:aI:=(.cons (.int .u8) .nil)
abbrev axO:aI:=(.cons (.int .u8) .nil)
abbrev axP:aI:=(.cons (.int .i32) .nil)
abbrev axQ:aI:=(.cons (.int .i32) .nil)
def wC:List (Nat×Go.Fw.TI):=[
 (2,⟨.scalar,R_2,8,false⟩),
 (3,⟨.scalar,TA,8,false⟩),
 (4,⟨.scalar,R_4,1,false⟩),
 (5,⟨.scalar,qM,1,false⟩),
 (6,⟨.scalar,R_6,1,false⟩),
 (7,⟨.struct [(0,2),(1,3),(2,4),(3,6)],R_7,24,false⟩),
 (8,⟨.struct [(0,2),(1,3),(2,4),(3,6)],R_8,24,false⟩),
 (9,⟨.str,QW,16,false⟩),
 (10,⟨.str,ayj,16,false⟩),
 (11,⟨.str,ayk,16,false⟩),
 (12,⟨.scalar,ayl,8,false⟩),
 (13,⟨.struct [(0,9),(1,12)],aym,24,false⟩),
 (14,⟨.struct [(0,9),(1,12)],ayn,24,false⟩),
 (21,⟨.scalar,ayo,4,false⟩),
 (22,⟨.slice eu,ayp,24,false⟩),
 (24,⟨.slice aS,ayx,24,false⟩),
 (25,⟨.slice aJ,ayq,24,false⟩),
 (26,⟨.slice aW,ayt,24,false⟩),
 (27,⟨.struct [(0,25),(1,26),(2,3)],ayy,56,false⟩),
 (28,⟨.struct [(0,25),(1,26),(2,3)],ayu,56,false⟩),
 (29,⟨.slice bf,ayv,24,false⟩),
 (30,⟨.struct [(0,28),(3,29)],ayz,80,false⟩),
 (31,⟨.struct [(0,28),(3,29)],ayw,80,false⟩),
 (48,⟨.slice LV,ayB,24,false⟩),
 (49,⟨.struct [(0,28),(3,29),(4,48)],ayC,104,false⟩),
 (50,⟨.struct [(0,28),(3,29),(4,48)],ayD,104,false⟩),
 (52,⟨.slice EO,ayA,24,false⟩),
 (54,⟨.slice fM,ays,24,false⟩),
 (55,⟨.struct [(0,3),(1,3),(2,4),(3,3),(4,54)],ayE,56,false⟩),
 (56,⟨.struct [(0,3),(1,3),(2,4),(3,3),(4,54)],iJ,56,false⟩),
 (58,⟨.struct [(0,3),(1,3),(2,9)],ayF,32,false⟩),
 (59,⟨.struct [(0,3),(1,3),(2,9)],ayr,32,true⟩),
 (61,⟨.slice ai6,ayG,24,false⟩),
 (68,⟨.slice qB,ayH,24,false⟩),
 (77,⟨.struct [(0,3),(1,31),(5,3)],ayI,96,false⟩),
 (78,⟨.struct [(0,3),(1,31),(5,3)],jG,96,false⟩),
 (93,⟨.struct [(0,9),(1,59)],ayJ,48,true⟩),
 (94,⟨.struct [(0,9),(1,59)],zX,48,true⟩),
 (103,⟨.struct [(0,9),(1,52)],axA,40,false⟩),
 (104,⟨.struct [(0,9),(1,52)],aq8,40,false⟩),
 (105,⟨.struct [(0,9),(1,52),(2,52)],axB,64,false⟩),
 (106,⟨.struct [(0,9),(1,52),(2,52)],awr,64,false⟩),
 (112,⟨.struct [(0,22),(1,3),(2,3)],axC,40,false⟩),
 (113,⟨.struct [(0,22),(1,3),(2,3)],axD,40,false⟩),
 (122,⟨.slice bJ,axz,24,false⟩),
 (123,⟨.struct [(0,9),(1,122)],axE,40,false⟩),
 (124,⟨.struct [(0,9),(1,122)],gm,40,false⟩),
 (154,⟨.struct [(0,9),(1,3)],axF,24,false⟩),
 (155,⟨.struct [(0,9),(1,3)],dH,24,true⟩),
 (166,⟨.struct [(0,3),(1,3),(2,3),(3,9),(4,59)],axG,72,true⟩),
 (167,⟨.struct [(0,3),(1,3),(2,3),(3,9),(4,59)],jo,72,true⟩),
 (168,⟨.scalar,axH,8,false⟩),
 (220,⟨.slice ak9,axI,24,false⟩),
 (225,⟨.scalar,axJ,8,false⟩),
 (234,⟨.scalar,axK,4,false⟩),
 (236,⟨.scalar,axL,8,false⟩),
 (238,⟨.scalar,axM,8,false⟩),
 (254,⟨.scalar,axN,1,false⟩),
 (255,⟨.scalar,axO,1,false⟩),
 (258,⟨.scalar,axP,4,false⟩),
 (259,⟨.scalar,axQ,4,false⟩)]
def Θ:iy:=aq2 wC
theorem ah:ahv prog wC=true:=by kernel_rfl
theorem mixed:prog.follows .mixedOrders=true:=by kernel_rfl
def G:pF where
 n:=0
 ok:=fun _=>True
 low:=fun _ _=>Nat.zero_le _
 stable:=fun _ _ _ _ _=>trivial
abbrev mJ:Nat:=40
theorem Js:au prog mJ:=aj (fn:=f40) (by kernel_rfl) (by kernel_rfl)
abbrev FD:Nat:=105
theorem ajW:au prog FD:=aj (fn:=f105) (by kernel_rfl) (by kernel_rfl)
abbrev aU:Nat:=66
theorem dA:au prog aU:=aj (fn:=f66) (by kernel_rfl) (by kernel_rfl)
abbrev jU:Nat:=59
theorem C9:au prog jU:=aj (fn:=f59) (by kernel_rfl) (by kernel_rfl)
abbrev eP:Nat:=140
theorem mF:au prog eP:=aj (fn:=f140) (by kernel_rfl) (by kernel_rfl)
abbrev eX:Nat:=42
theorem nP:au prog eX:=aj (fn:=f42) (by kernel_rfl) (by kernel_rfl)
abbrev vC:Nat:=158
theorem Ud:au prog vC:=aj (fn:=f158) (by kernel_rfl) (by kernel_rfl)
abbrev xP:Nat:=193
theorem Wl:au prog xP:=aj (fn:=f193) (by kernel_rfl) (by kernel_rfl)
abbrev Ic:Nat:=136
theorem al7:au prog Ic:=aj (fn:=f136) (by kernel_rfl) (by kernel_rfl)
abbrev D6:Nat:=231
theorem ahT:au prog D6:=aj (fn:=f231) (by kernel_rfl) (by kernel_rfl)
abbrev Ac:Nat:=194
theorem Yn:au prog Ac:=aj (fn:=f194) (by kernel_rfl) (by kernel_rfl)
abbrev nS:Nat:=32
theorem KU:au prog nS:=aj (fn:=f32) (by kernel_rfl) (by kernel_rfl)
abbrev jh:Nat:=195
theorem Bq:au prog jh:=aj (fn:=f195) (by kernel_rfl) (by kernel_rfl)
abbrev gU:Nat:=63
theorem qw:au prog gU:=aj (fn:=f63) (by kernel_rfl) (by kernel_rfl)
abbrev fO:Nat:=54
theorem nY:au prog fO:=aj (fn:=f54) (by kernel_rfl) (by kernel_rfl)
abbrev xQ:Nat:=237
theorem Wn:au prog xQ:=aj (fn:=f237) (by kernel_rfl) (by kernel_rfl)
abbrev jI:Nat:=225
theorem EJ:au prog jI:=aj (fn:=f225) (by kernel_rfl) (by kernel_rfl)
abbrev jJ:Nat:=233
theorem EK:au prog jJ:=aj (fn:=f233) (by kernel_rfl) (by kernel_rfl)
abbrev nG:Nat:=221
theorem NI:au prog nG:=aj (fn:=f221) (by kernel_rfl) (by kernel_rfl)
abbrev nH:Nat:=208
theorem NJ:au prog nH:=aj (fn:=f208) (by kernel_rfl) (by kernel_rfl)
abbrev kQ:Nat:=207
theorem JV:au prog kQ:=aj (fn:=f207) (by kernel_rfl) (by kernel_rfl)
abbrev kR:Nat:=200
theorem JW:au prog kR:=aj (fn:=f200) (by kernel_rfl) (by kernel_rfl)
abbrev Cm:Nat:=222
theorem agc:au prog Cm:=aj (fn:=f222) (by kernel_rfl) (by kernel_rfl)
abbrev CB:Nat:=209
theorem agd:au prog CB:=aj (fn:=f209) (by kernel_rfl) (by kernel_rfl)
abbrev mg:Nat:=156
theorem LJ:au prog mg:=aj (fn:=f156) (by kernel_rfl) (by kernel_rfl)
abbrev mr:Nat:=148
theorem LK:au prog mr:=aj (fn:=f148) (by kernel_rfl) (by kernel_rfl)
abbrev vF:Nat:=180
theorem Y7:au prog vF:=aj (fn:=f180) (by kernel_rfl) (by kernel_rfl)
abbrev vG:Nat:=162
theorem Y8:au prog vG:=aj (fn:=f162) (by kernel_rfl) (by kernel_rfl)
abbrev oW:Nat:=125
theorem O8:au prog oW:=aj (fn:=f125) (by kernel_rfl) (by kernel_rfl)
abbrev yS:Nat:=107
theorem abD:au prog yS:=aj (fn:=f107) (by kernel_rfl) (by kernel_rfl)
abbrev jX:Nat:=100
theorem FZ:au prog jX:=aj (fn:=f100) (by kernel_rfl) (by kernel_rfl)
abbrev wU:Nat:=96
theorem Z5:au prog wU:=aj (fn:=f96) (by kernel_rfl) (by kernel_rfl)
abbrev Aj:Nat:=93
theorem adZ:au prog Aj:=aj (fn:=f93) (by kernel_rfl) (by kernel_rfl)
abbrev CG:Nat:=199
theorem agf:au prog CG:=aj (fn:=f199) (by kernel_rfl) (by kernel_rfl)
abbrev D7:Nat:=146
theorem ahU:au prog D7:=aj (fn:=f146) (by kernel_rfl) (by kernel_rfl)
abbrev CJ:Nat:=94
theorem agh:au prog CJ:=aj (fn:=f94) (by kernel_rfl) (by kernel_rfl)
abbrev CS:Nat:=52
theorem agi:au prog CS:=aj (fn:=f52) (by kernel_rfl) (by kernel_rfl)
abbrev xU:Nat:=124
theorem Wp:au prog xU:=aj (fn:=f124) (by kernel_rfl) (by kernel_rfl)
abbrev Ea:Nat:=108
theorem ahV:au prog Ea:=aj (fn:=f108) (by kernel_rfl) (by kernel_rfl)
abbrev Ib:Nat:=163
theorem al8:au prog Ib:=aj (fn:=f163) (by kernel_rfl) (by kernel_rfl)
abbrev D8:Nat:=123
theorem ahW:au prog D8:=aj (fn:=f123) (by kernel_rfl) (by kernel_rfl)
abbrev nT:Nat:=143
theorem Ry:au prog nT:=aj (fn:=f143) (by kernel_rfl) (by kernel_rfl)
abbrev oZ:Nat:=164
theorem SI:au prog oZ:=aj (fn:=f164) (by kernel_rfl) (by kernel_rfl)
abbrev xR:Nat:=31
theorem Wq:au prog xR:=aj (fn:=f31) (by kernel_rfl) (by kernel_rfl)
abbrev ql:Nat:=138
theorem MI:au prog ql:=aj (fn:=f138) (by kernel_rfl) (by kernel_rfl)
abbrev Ie:Nat:=135
theorem al9:au prog Ie:=aj (fn:=f135) (by kernel_rfl) (by kernel_rfl)
abbrev D9:Nat:=157
theorem ahX:au prog D9:=aj (fn:=f157) (by kernel_rfl) (by kernel_rfl)
abbrev qm:Nat:=89
theorem MJ:au prog qm:=aj (fn:=f89) (by kernel_rfl) (by kernel_rfl)
abbrev qC:Nat:=137
theorem P9:au prog qC:=aj (fn:=f137) (by kernel_rfl) (by kernel_rfl)
abbrev Ak:Nat:=159
theorem ad1:au prog Ak:=aj (fn:=f159) (by kernel_rfl) (by kernel_rfl)
abbrev vH:Nat:=103
theorem Ue:au prog vH:=aj (fn:=f103) (by kernel_rfl) (by kernel_rfl)
abbrev Ii:Nat:=85
theorem ama:au prog Ii:=aj (fn:=f85) (by kernel_rfl) (by kernel_rfl)
abbrev OO:Nat:=7
theorem asa:au prog OO:=aj (fn:=f7) (by kernel_rfl) (by kernel_rfl)
abbrev CO:Nat:=144
theorem agj:au prog CO:=aj (fn:=f144) (by kernel_rfl) (by kernel_rfl)
abbrev CP:Nat:=87
theorem agk:au prog CP:=aj (fn:=f87) (by kernel_rfl) (by kernel_rfl)
abbrev Am:Nat:=232
theorem ad2:au prog Am:=aj (fn:=f232) (by kernel_rfl) (by kernel_rfl)
abbrev xW:Nat:=196
theorem Ws:au prog xW:=aj (fn:=f196) (by kernel_rfl) (by kernel_rfl)
abbrev aon:Nat:=197
abbrev Dt:Nat:=197
theorem Z7:au prog Dt:=aj (fn:=f197) (by kernel_rfl) (by kernel_rfl)
abbrev O9:Nat:=197
abbrev rP:Nat:=197
theorem NK:au prog rP:=aj (fn:=f197) (by kernel_rfl) (by kernel_rfl)
abbrev yT:Nat:=142
theorem abE:au prog yT:=aj (fn:=f142) (by kernel_rfl) (by kernel_rfl)
abbrev jK:Nat:=142
theorem Gv:au prog jK:=aj (fn:=f142) (by kernel_rfl) (by kernel_rfl)
abbrev Ig:Nat:=141
theorem amb:au prog Ig:=aj (fn:=f141) (by kernel_rfl) (by kernel_rfl)
abbrev xX:Nat:=139
theorem Wu:au prog xX:=aj (fn:=f139) (by kernel_rfl) (by kernel_rfl)
abbrev Ih:Nat:=86
theorem amc:au prog Ih:=aj (fn:=f86) (by kernel_rfl) (by kernel_rfl)
abbrev FH:Nat:=104
theorem ajX:au prog FH:=aj (fn:=f104) (by kernel_rfl) (by kernel_rfl)
abbrev vI:Nat:=84
theorem Uf:au prog vI:=aj (fn:=f84) (by kernel_rfl) (by kernel_rfl)
abbrev Ad:Nat:=43
theorem Yo:au prog Ad:=aj (fn:=f43) (by kernel_rfl) (by kernel_rfl)
abbrev FI:Nat:=83
theorem ajY:au prog FI:=aj (fn:=f83) (by kernel_rfl) (by kernel_rfl)
abbrev mG:Nat:=41
theorem Jt:au prog mG:=aj (fn:=f41) (by kernel_rfl) (by kernel_rfl)
abbrev Ap:Nat:=48
theorem ad3:au prog Ap:=aj (fn:=f48) (by kernel_rfl) (by kernel_rfl)
abbrev pz:Nat:=8
theorem SK:au prog pz:=aj (fn:=f8) (by kernel_rfl) (by kernel_rfl)
abbrev kT:Nat:=11
theorem JX:au prog kT:=aj (fn:=f11) (by kernel_rfl) (by kernel_rfl)
abbrev yU:Nat:=245
theorem abG:au prog yU:=aj (fn:=f245) (by kernel_rfl) (by kernel_rfl)
abbrev yV:Nat:=248
theorem abH:au prog yV:=aj (fn:=f248) (by kernel_rfl) (by kernel_rfl)
abbrev rV:Nat:=246
theorem Wv:au prog rV:=aj (fn:=f246) (by kernel_rfl) (by kernel_rfl)
abbrev rW:Nat:=249
theorem Wx:au prog rW:=aj (fn:=f249) (by kernel_rfl) (by kernel_rfl)
abbrev nJ:Nat:=226
theorem NM:au prog nJ:=aj (fn:=f226) (by kernel_rfl) (by kernel_rfl)
abbrev nK:Nat:=234
theorem NP:au prog nK:=aj (fn:=f234) (by kernel_rfl) (by kernel_rfl)
abbrev yZ:Nat:=190
theorem abI:au prog yZ:=aj (fn:=f190) (by kernel_rfl) (by kernel_rfl)
abbrev yY:Nat:=201
theorem abJ:au prog yY:=aj (fn:=f201) (by kernel_rfl) (by kernel_rfl)
abbrev Eb:Nat:=241
theorem ahY:au prog Eb:=aj (fn:=f241) (by kernel_rfl) (by kernel_rfl)
abbrev wM:Nat:=268
theorem Z8:au prog wM:=aj (fn:=f268) (by kernel_rfl) (by kernel_rfl)
abbrev wL:Nat:=252
theorem Z9:au prog wL:=aj (fn:=f252) (by kernel_rfl) (by kernel_rfl)
abbrev E8:Nat:=171
theorem ad4:au prog E8:=aj (fn:=f171) (by kernel_rfl) (by kernel_rfl)
abbrev tH:Nat:=236
theorem Rz:au prog tH:=aj (fn:=f236) (by kernel_rfl) (by kernel_rfl)
abbrev wP:Nat:=203
theorem aac:au prog wP:=aj (fn:=f203) (by kernel_rfl) (by kernel_rfl)
abbrev wO:Nat:=204
theorem aad:au prog wO:=aj (fn:=f204) (by kernel_rfl) (by kernel_rfl)
abbrev Ij:Nat:=184
theorem amd:au prog Ij:=aj (fn:=f184) (by kernel_rfl) (by kernel_rfl)
abbrev vJ:Nat:=247
theorem Ug:au prog vJ:=aj (fn:=f247) (by kernel_rfl) (by kernel_rfl)
abbrev wR:Nat:=227
theorem aae:au prog wR:=aj (fn:=f227) (by kernel_rfl) (by kernel_rfl)
abbrev wQ:Nat:=229
theorem aaf:au prog wQ:=aj (fn:=f229) (by kernel_rfl) (by kernel_rfl)
abbrev xY:Nat:=251
theorem Wy:au prog xY:=aj (fn:=f251) (by kernel_rfl) (by kernel_rfl)
abbrev iq:Nat:=250
theorem EN:au prog iq:=aj (fn:=f250) (by kernel_rfl) (by kernel_rfl)
abbrev JL:Nat:=235
theorem aoo:au prog JL:=aj (fn:=f235) (by kernel_rfl) (by kernel_rfl)
abbrev Ec:Nat:=228
theorem ahZ:au prog Ec:=aj (fn:=f228) (by kernel_rfl) (by kernel_rfl)
abbrev yX:Nat:=202
theorem abK:au prog yX:=aj (fn:=f202) (by kernel_rfl) (by kernel_rfl)
abbrev Ik:Nat:=149
theorem ame:au prog Ik:=aj (fn:=f149) (by kernel_rfl) (by kernel_rfl)
abbrev wS:Nat:=97
theorem aag:au prog wS:=aj (fn:=f97) (by kernel_rfl) (by kernel_rfl)
abbrev Ed:Nat:=191
theorem ah0:au prog Ed:=aj (fn:=f191) (by kernel_rfl) (by kernel_rfl)
abbrev FK:Nat:=134
theorem ajZ:au prog FK:=aj (fn:=f134) (by kernel_rfl) (by kernel_rfl)
abbrev Il:Nat:=131
theorem amf:au prog Il:=aj (fn:=f131) (by kernel_rfl) (by kernel_rfl)
abbrev nI:Nat:=101
theorem NQ:au prog nI:=aj (fn:=f101) (by kernel_rfl) (by kernel_rfl)
abbrev o5:Nat:=198
theorem SL:au prog o5:=aj (fn:=f198) (by kernel_rfl) (by kernel_rfl)
abbrev FM:Nat:=145
theorem aj0:au prog FM:=aj (fn:=f145) (by kernel_rfl) (by kernel_rfl)
abbrev Ee:Nat:=88
theorem ah1:au prog Ee:=aj (fn:=f88) (by kernel_rfl) (by kernel_rfl)
abbrev FN:Nat:=90
theorem aj1:au prog FN:=aj (fn:=f90) (by kernel_rfl) (by kernel_rfl)
abbrev jY:Nat:=45
theorem F5:au prog jY:=aj (fn:=f45) (by kernel_rfl) (by kernel_rfl)
abbrev nU:Nat:=47
theorem KW:au prog nU:=aj (fn:=f47) (by kernel_rfl) (by kernel_rfl)
abbrev jZ:Nat:=44
theorem F6:au prog jZ:=aj (fn:=f44) (by kernel_rfl) (by kernel_rfl)
abbrev jV:Nat:=46
theorem Dc:au prog jV:=aj (fn:=f46) (by kernel_rfl) (by kernel_rfl)
abbrev rX:Nat:=55
theorem WA:au prog rX:=aj (fn:=f55) (by kernel_rfl) (by kernel_rfl)
abbrev rY:Nat:=64
theorem WB:au prog rY:=aj (fn:=f64) (by kernel_rfl) (by kernel_rfl)
abbrev gu:Nat:=16
theorem uU:au prog gu:=aj (fn:=f16) (by kernel_rfl) (by kernel_rfl)
abbrev dY:Nat:=28
theorem nZ:au prog dY:=aj (fn:=f28) (by kernel_rfl) (by kernel_rfl)
abbrev o6:Nat:=92
theorem Pe:au prog o6:=aj (fn:=f92) (by kernel_rfl) (by kernel_rfl)
abbrev fE:Nat:=91
theorem Au:au prog fE:=aj (fn:=f91) (by kernel_rfl) (by kernel_rfl)
abbrev tJ:Nat:=49
theorem RD:au prog tJ:=aj (fn:=f49) (by kernel_rfl) (by kernel_rfl)
abbrev nV:Nat:=50
theorem KX:au prog nV:=aj (fn:=f50) (by kernel_rfl) (by kernel_rfl)
abbrev vM:Nat:=9
theorem Y9:au prog vM:=aj (fn:=f9) (by kernel_rfl) (by kernel_rfl)
abbrev mD:Nat:=10
theorem LM:au prog mD:=aj (fn:=f10) (by kernel_rfl) (by kernel_rfl)
abbrev qE:Nat:=21
theorem Qa:au prog qE:=aj (fn:=f21) (by kernel_rfl) (by kernel_rfl)
abbrev zi:Nat:=12
theorem abL:au prog zi:=aj (fn:=f12) (by kernel_rfl) (by kernel_rfl)
abbrev zh:Nat:=13
theorem abM:au prog zh:=aj (fn:=f13) (by kernel_rfl) (by kernel_rfl)
abbrev CQ:Nat:=147
theorem agl:au prog CQ:=aj (fn:=f147) (by kernel_rfl) (by kernel_rfl)
abbrev FO:Nat:=95
theorem aj2:au prog FO:=aj (fn:=f95) (by kernel_rfl) (by kernel_rfl)
abbrev Ef:Nat:=53
theorem ah2:au prog Ef:=aj (fn:=f53) (by kernel_rfl) (by kernel_rfl)
abbrev nM:Nat:=15
theorem NR:au prog nM:=aj (fn:=f15) (by kernel_rfl) (by kernel_rfl)
abbrev y7:Nat:=51
theorem abN:au prog y7:=aj (fn:=f51) (by kernel_rfl) (by kernel_rfl)
abbrev wW:Nat:=14
theorem aah:au prog wW:=aj (fn:=f14) (by kernel_rfl) (by kernel_rfl)
abbrev wX:Nat:=24
theorem aai:au prog wX:=aj (fn:=f24) (by kernel_rfl) (by kernel_rfl)
abbrev Ae:Nat:=58
theorem Yp:au prog Ae:=aj (fn:=f58) (by kernel_rfl) (by kernel_rfl)
abbrev Aq:Nat:=20
theorem ad5:au prog Aq:=aj (fn:=f20) (by kernel_rfl) (by kernel_rfl)
abbrev wY:Nat:=23
theorem aaj:au prog wY:=aj (fn:=f23) (by kernel_rfl) (by kernel_rfl)
abbrev iE:Nat:=57
theorem Ah:au prog iE:=aj (fn:=f57) (by kernel_rfl) (by kernel_rfl)
abbrev dS:Nat:=91
theorem xk:au prog dS:=aj (fn:=f91) (by kernel_rfl) (by kernel_rfl)
abbrev dO:Nat:=56
theorem wG:au prog dO:=aj (fn:=f56) (by kernel_rfl) (by kernel_rfl)
abbrev sD:Nat:=18
theorem WC:au prog sD:=aj (fn:=f18) (by kernel_rfl) (by kernel_rfl)
abbrev su:Nat:=25
theorem WE:au prog su:=aj (fn:=f25) (by kernel_rfl) (by kernel_rfl)
abbrev qF:Nat:=152
theorem Qb:au prog qF:=aj (fn:=f152) (by kernel_rfl) (by kernel_rfl)
abbrev o7:Nat:=205
theorem SN:au prog o7:=aj (fn:=f205) (by kernel_rfl) (by kernel_rfl)
abbrev nX:Nat:=150
theorem RG:au prog nX:=aj (fn:=f150) (by kernel_rfl) (by kernel_rfl)
abbrev dU:Nat:=151
theorem xq:au prog dU:=aj (fn:=f151) (by kernel_rfl) (by kernel_rfl)
abbrev zf:Nat:=98
theorem abO:au prog zf:=aj (fn:=f98) (by kernel_rfl) (by kernel_rfl)
abbrev o8:Nat:=206
theorem SQ:au prog o8:=aj (fn:=f206) (by kernel_rfl) (by kernel_rfl)
abbrev wV:Nat:=155
theorem aak:au prog wV:=aj (fn:=f155) (by kernel_rfl) (by kernel_rfl)
abbrev o9:Nat:=154
theorem Pg:au prog o9:=aj (fn:=f154) (by kernel_rfl) (by kernel_rfl)
abbrev dW:Nat:=153
theorem x9:au prog dW:=aj (fn:=f153) (by kernel_rfl) (by kernel_rfl)
abbrev CU:Nat:=99
theorem agm:au prog CU:=aj (fn:=f99) (by kernel_rfl) (by kernel_rfl)
abbrev uF:Nat:=62
theorem Xi:au prog uF:=aj (fn:=f62) (by kernel_rfl) (by kernel_rfl)
abbrev kS:Nat:=61
theorem JY:au prog kS:=aj (fn:=f61) (by kernel_rfl) (by kernel_rfl)
abbrev cu:Nat:=60
theorem qJ:au prog cu:=aj (fn:=f60) (by kernel_rfl) (by kernel_rfl)
abbrev vK:Nat:=27
theorem Za:au prog vK:=aj (fn:=f27) (by kernel_rfl) (by kernel_rfl)
abbrev mM:Nat:=17
theorem QF:au prog mM:=aj (fn:=f17) (by kernel_rfl) (by kernel_rfl)
abbrev uG:Nat:=19
theorem Xj:au prog uG:=aj (fn:=f19) (by kernel_rfl) (by kernel_rfl)
abbrev qy:Nat:=22
theorem UG:au prog qy:=aj (fn:=f22) (by kernel_rfl) (by kernel_rfl)
abbrev pq:Nat:=26
theorem SS:au prog pq:=aj (fn:=f26) (by kernel_rfl) (by kernel_rfl)
abbrev Uh:Nat:=4
end Go.Proofs.Tryz

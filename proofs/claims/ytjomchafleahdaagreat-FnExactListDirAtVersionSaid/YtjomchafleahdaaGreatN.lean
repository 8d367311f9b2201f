import Derived.Test.YtjomchafleahdaaGreatFwC
import Derived.Test.YtjomchafleahdaaGreatProg
import Derived.Lib.LaidTab
import Derived.Lib.ItoaNum
namespace Go.Proofs.Tryz
open Go Go.Fw
abbrev aV:TypeId:=3
abbrev Ym:TypeId:=4
abbrev ahm:TypeId:=5
abbrev iZ:TypeId:=9
abbrev jk:TypeId:=87
abbrev kQ:TypeId:=91
abbrev dN:TypeId:=94
abbrev ig:TypeId:=104
abbrev fA:TypeId:=123
abbrev gu:TypeId:=126
abbrev aS:TypeId:=135
abbrev aI:TypeId:=140
abbrev au:TypeId:=156
abbrev aA:TypeId:=159
abbrev je:TypeId:=163
abbrev bY:TypeId:=165
abbrev dG:TypeId:=169
abbrev nY:TypeId:=172
abbrev bg:TypeId:=196
abbrev bK:TypeId:=198
abbrev qg:TypeId:=203
abbrev qf:TypeId:=220
abbrev oQ:ak:=(.cons (.int .i64) .nil)
abbrev dn:ak:=(.cons (.int .i64) .nil)
abbrev R_4:ak:=(.cons (.bool) .nil)
abbrev R_5:ak:=(.cons (.int .u8) .nil)
abbrev R_6:ak:=(.cons (.int .u8) .nil)
abbrev R_7:ak:=(.cons (.int .i64) (.cons (.int .i64) (.cons (.bool) (.cons (.int .u8) .nil))))
abbrev R_8:ak:=(.cons (.int .i64) (.cons (.int .i64) (.cons (.bool) (.cons (.int .u8) .nil))))
abbrev o7:ak:=(.cons (.str) .nil)
abbrev ao8:ak:=(.cons (.str) .nil)
abbrev ao9:ak:=(.cons (.str) .nil)
abbrev apa:ak:=(.cons (.int .u64) .nil)
abbrev apb:ak:=(.cons (.str) (.cons (.int .u64) .nil))
abbrev apc:ak:=(.cons (.str) (.cons (.int .u64) .nil))
abbrev apd:ak:=(.cons (.int .i32) .nil)
abbrev dF:ak:=(.cons (.str) (.cons (.int .i64) .nil))
abbrev ape:ak:=(.cons (.sl bY dF) .nil)
abbrev anM:ak:=(.cons (.int .i64) (.cons (.int .i64) (.cons (.str) .nil)))
abbrev qY:ak:=(.cons (.str) (.cons (.int .i64) (.cons (.int .i64) (.cons (.str) .nil))))
abbrev anN:ak:=(.cons (.sl qf qY) .nil)
abbrev jE:ak:=(.cons (.int .i64) (.cons (.int .i64) (.cons (.bool) (.cons (.int .i64) (.cons (.sl qf qY) .nil)))))
abbrev apf:ak:=(.cons (.sl dG jE) .nil)
abbrev apg:ak:=(.cons (.sl bY dF) (.cons (.sl dG jE) (.cons (.int .i64) .nil)))
abbrev aph:ak:=(.cons (.sl bY dF) (.cons (.sl dG jE) (.cons (.int .i64) .nil)))
abbrev kF:ak:=(.cons (.int .i64) (.cons (.int .i64) (.cons (.int .i64) (.cons (.str) (.cons (.int .i64) (.cons (.int .i64) (.cons (.str) .nil)))))))
abbrev anO:ak:=(.cons (.sl qg kF) .nil)
abbrev lJ:ak:=(.cons (.str) (.cons (.sl qg kF) .nil))
abbrev apj:ak:=(.cons (.sl fA lJ) .nil)
abbrev apk:ak:=(.cons (.sl aV dn) .nil)
abbrev iI:ak:=(.cons (.str) (.cons (.sl aV dn) .nil))
abbrev apl:ak:=(.cons (.sl gu iI) .nil)
abbrev apm:ak:=(.cons (.sl bY dF) (.cons (.sl dG jE) (.cons (.int .i64) (.cons (.sl fA lJ) (.cons (.sl gu iI) .nil)))))
abbrev apn:ak:=(.cons (.sl bY dF) (.cons (.sl dG jE) (.cons (.int .i64) (.cons (.sl fA lJ) (.cons (.sl gu iI) .nil)))))
abbrev apo:ak:=(.cons (.str) (.cons (.str) .nil))
abbrev apq:ak:=(.cons (.str) (.cons (.str) .nil))
abbrev apr:ak:=(.cons (.sl bY dF) (.cons (.sl dG jE) (.cons (.int .i64) (.cons (.sl fA lJ) .nil))))
abbrev Gm:ak:=(.cons (.int .i64) (.cons (.sl bY dF) (.cons (.sl dG jE) (.cons (.int .i64) (.cons (.sl fA lJ) (.cons (.int .i64) .nil))))))
abbrev aps:ak:=(.cons (.sl jk Gm) .nil)
abbrev Af:ak:=(.cons (.int .i64) (.cons (.sl aV dn) (.cons (.sl aV dn) .nil)))
abbrev apt:ak:=(.cons (.sl nY Af) .nil)
abbrev Gn:ak:=(.cons (.int .i64) (.cons (.str) (.cons (.sl aV dn) (.cons (.sl nY Af) .nil))))
abbrev apu:ak:=(.cons (.sl kQ Gn) .nil)
abbrev apv:ak:=(.cons (.sl bY dF) (.cons (.sl dG jE) (.cons (.int .i64) (.cons (.sl fA lJ) (.cons (.sl gu iI) (.cons (.str) (.cons (.str) (.cons (.int .i64) (.cons (.sl jk Gm) (.cons (.sl kQ Gn) (.cons (.sl aV dn) .nil)))))))))))
abbrev abM:ak:=(.cons (.sl bY dF) (.cons (.sl dG jE) (.cons (.int .i64) (.cons (.sl fA lJ) (.cons (.sl gu iI) (.cons (.str) (.cons (.str) (.cons (.int .i64) (.cons (.sl jk Gm) (.cons (.sl kQ Gn) (.cons (.sl aV dn) .nil)))))))))))
abbrev bJ:ak:=(.cons (.str) (.cons (.int .i64) .nil))
abbrev apw:ak:=(.cons (.sl au bJ) .nil)
abbrev anP:ak:=(.cons (.int .i64) (.cons (.int .i64) (.cons (.str) .nil)))
abbrev iE:ak:=(.cons (.str) (.cons (.int .i64) (.cons (.int .i64) (.cons (.str) .nil))))
abbrev anQ:ak:=(.cons (.sl bK iE) .nil)
abbrev aQ:ak:=(.cons (.int .i64) (.cons (.int .i64) (.cons (.bool) (.cons (.int .i64) (.cons (.sl bK iE) .nil)))))
abbrev apx:ak:=(.cons (.sl aA aQ) .nil)
abbrev apy:ak:=(.cons (.sl au bJ) (.cons (.sl aA aQ) (.cons (.int .i64) .nil)))
abbrev apz:ak:=(.cons (.sl au bJ) (.cons (.sl aA aQ) (.cons (.int .i64) .nil)))
abbrev fU:ak:=(.cons (.int .i64) (.cons (.int .i64) (.cons (.int .i64) (.cons (.str) (.cons (.int .i64) (.cons (.int .i64) (.cons (.str) .nil)))))))
abbrev anR:ak:=(.cons (.sl bg fU) .nil)
abbrev aY:ak:=(.cons (.str) (.cons (.sl bg fU) .nil))
abbrev apA:ak:=(.cons (.sl aI aY) .nil)
abbrev fV:ak:=(.cons (.str) (.cons (.sl aV dn) .nil))
abbrev apB:ak:=(.cons (.sl aS fV) .nil)
abbrev apC:ak:=(.cons (.sl au bJ) (.cons (.sl aA aQ) (.cons (.int .i64) (.cons (.sl aI aY) (.cons (.sl aS fV) .nil)))))
abbrev apD:ak:=(.cons (.sl au bJ) (.cons (.sl aA aQ) (.cons (.int .i64) (.cons (.sl aI aY) (.cons (.sl aS fV) .nil)))))
abbrev apE:ak:=(.cons (.str) (.cons (.str) .nil))
abbrev apF:ak:=(.cons (.sl au bJ) (.cons (.sl aA aQ) (.cons (.int .i64) (.cons (.sl aI aY) .nil))))
abbrev pJ:ak:=(.cons (.int .i64) (.cons (.sl au bJ) (.cons (.sl aA aQ) (.cons (.int .i64) (.cons (.sl aI aY) (.cons (.int .i64) .nil))))))
abbrev apG:ak:=(.cons (.sl dN pJ) .nil)
abbrev CO:ak:=(.cons (.int .i64) (.cons (.sl aV dn) (.cons (.sl aV dn) .nil)))
abbrev anS:ak:=(.cons (.sl je CO) .nil)
abbrev sO:ak:=(.cons (.int .i64) (.cons (.str) (.cons (.sl aV dn) (.cons (.sl je CO) .nil))))
abbrev apH:ak:=(.cons (.sl ig sO) .nil)
abbrev apI:ak:=(.cons (.sl au bJ) (.cons (.sl aA aQ) (.cons (.int .i64) (.cons (.sl aI aY) (.cons (.sl aS fV) (.cons (.str) (.cons (.str) (.cons (.int .i64) (.cons (.sl dN pJ) (.cons (.sl ig sO) (.cons (.sl aV dn) .nil)))))))))))
abbrev NV:ak:=(.cons (.sl au bJ) (.cons (.sl aA aQ) (.cons (.int .i64) (.cons (.sl aI aY) (.cons (.sl aS fV) (.cons (.str) (.cons (.str) (.cons (.int .i64) (.cons (.sl dN pJ) (.cons (.sl ig sO) (.cons (.sl aV dn) .nil)))))))))))
abbrev apJ:ak:=(.cons (.sl au bJ) (.cons (.sl aA aQ) (.cons (.int .i64) (.cons (.sl aI aY) .nil))))
abbrev apK:ak:=(.cons (.sl bY dF) (.cons (.sl dG jE) (.cons (.int .i64) (.cons (.sl fA lJ) .nil))))
abbrev apL:ak:=(.cons (.int .i64) (.cons (.sl bY dF) (.cons (.sl dG jE) (.cons (.int .i64) (.cons (.sl fA lJ) (.cons (.int .i64) .nil))))))
abbrev apM:ak:=(.cons (.int .i64) (.cons (.str) (.cons (.sl aV dn) (.cons (.sl nY Af) .nil))))
abbrev apN:ak:=(.cons (.int .i64) (.cons (.sl au bJ) (.cons (.sl aA aQ) (.cons (.int .i64) (.cons (.sl aI aY) (.cons (.int .i64) .nil))))))
abbrev anT:ak:=(.cons (.int .i64) (.cons (.str) (.cons (.sl aV dn) (.cons (.sl je CO) .nil))))
abbrev anU:ak:=(.cons (.str) (.cons (.sl qg kF) .nil))
abbrev anV:ak:=(.cons (.str) (.cons (.sl aV dn) .nil))
abbrev anW:ak:=(.cons (.str) (.cons (.sl bg fU) .nil))
abbrev anX:ak:=(.cons (.str) (.cons (.int .i64) .nil))
abbrev anY:ak:=(.cons (.int .i64) (.cons (.int .i64) (.cons (.bool) (.cons (.int .i64) (.cons (.sl bK iE) .nil)))))
abbrev anZ:ak:=(.cons (.sl ahm R_5) .nil)
abbrev an0:ak:=(.cons (.int .i64) (.cons (.sl aV dn) (.cons (.sl aV dn) .nil)))
abbrev an1:ak:=(.cons (.int .i64) (.cons (.int .i64) (.cons (.bool) (.cons (.int .i64) (.cons (.sl qf qY) .nil)))))
abbrev an2:ak:=(.cons (.sl iZ o7) .nil)
abbrev an3:ak:=(.cons (.int .i64) (.cons (.int .i64) (.cons (.str) .nil)))
abbrev an4:ak:=(.cons (.int .i64) (.cons (.int .i64) (.cons (.int .i64) (.cons (.str) (.cons (.int .i64) (.cons (.int .i64) (.cons (.str) .nil)))))))
abbrev an5:ak:=(.cons (.str) (.cons (.int .i64) (.cons (.int .i64) (.cons (.str) .nil))))
abbrev an6:ak:=(.cons (.int .i64) (.cons (.int .i64) (.cons (.int .i64) (.cons (.str) (.cons (.int .i64) (.cons (.int .i64) (.cons (.str) .nil)))))))
abbrev an7:ak:=(.cons (.str) (.cons (.int .i64) (.cons (.int .i64) (.cons (.str) .nil))))
abbrev an8:ak:=(.cons (.sl Ym R_4) .nil)
abbrev an9:ak:=(.cons (.int .u64) .nil)
abbrev aoa:ak:=(.cons (.int .i64) .nil)
abbrev aob:ak:=(.cons (.int .u32) .nil)
abbrev aoc:ak:=(.cons (.int .u64) .nil)
abbrev aod:ak:=(.cons (.int .u64) .nil)
abbrev aoe:ak:=(.cons (.int .u8) .nil)
abbrev aof:ak:=(.cons (.int .u8) .nil)
abbrev aog:ak:=(.cons (.int .i32) .nil)
abbrev aoh:ak:=(.cons (.int .i32) .nil)
def mM:List (Nat×Go.Fw.TI):=[
 (2,⟨.scalar,oQ,8,false⟩),
 (3,⟨.scalar,dn,8,false⟩),
 (4,⟨.scalar,R_4,1,false⟩),
 (5,⟨.scalar,R_5,1,false⟩),
 (6,⟨.scalar,R_6,1,false⟩),
 (7,⟨.struct [(0,2),(1,3),(2,4),(3,6)],R_7,24,false⟩),
 (8,⟨.struct [(0,2),(1,3),(2,4),(3,6)],R_8,24,false⟩),
 (9,⟨.str,o7,16,false⟩),
 (10,⟨.str,ao8,16,false⟩),
 (11,⟨.str,ao9,16,false⟩),
 (12,⟨.scalar,apa,8,false⟩),
 (13,⟨.struct [(0,9),(1,12)],apb,24,false⟩),
 (14,⟨.struct [(0,9),(1,12)],apc,24,false⟩),
 (21,⟨.scalar,apd,4,false⟩),
 (22,⟨.slice bY,ape,24,false⟩),
 (23,⟨.slice dG,apf,24,false⟩),
 (24,⟨.struct [(0,22),(1,23),(2,3)],apg,56,false⟩),
 (25,⟨.struct [(0,22),(1,23),(2,3)],aph,56,false⟩),
 (26,⟨.slice fA,apj,24,false⟩),
 (27,⟨.slice gu,apl,24,false⟩),
 (28,⟨.struct [(0,25),(3,26),(4,27)],apm,104,false⟩),
 (29,⟨.struct [(0,25),(3,26),(4,27)],apn,104,false⟩),
 (30,⟨.struct [(0,9),(1,9)],apo,32,false⟩),
 (31,⟨.struct [(0,9),(1,9)],apq,32,false⟩),
 (32,⟨.slice jk,aps,24,false⟩),
 (33,⟨.slice kQ,apu,24,false⟩),
 (34,⟨.slice aV,apk,24,false⟩),
 (35,⟨.struct [(0,29),(5,31),(7,3),(8,32),(9,33),(10,34)],apv,216,false⟩),
 (36,⟨.struct [(0,29),(5,31),(7,3),(8,32),(9,33),(10,34)],abM,216,false⟩),
 (40,⟨.slice au,apw,24,false⟩),
 (41,⟨.slice aA,apx,24,false⟩),
 (42,⟨.struct [(0,40),(1,41),(2,3)],apy,56,false⟩),
 (43,⟨.struct [(0,40),(1,41),(2,3)],apz,56,false⟩),
 (44,⟨.slice aI,apA,24,false⟩),
 (45,⟨.slice aS,apB,24,false⟩),
 (46,⟨.struct [(0,43),(3,44),(4,45)],apC,104,false⟩),
 (47,⟨.struct [(0,43),(3,44),(4,45)],apD,104,false⟩),
 (48,⟨.struct [(0,9),(1,9)],apE,32,true⟩),
 (49,⟨.slice dN,apG,24,false⟩),
 (50,⟨.slice ig,apH,24,false⟩),
 (51,⟨.struct [(0,47),(5,48),(7,3),(8,49),(9,50),(10,34)],apI,216,false⟩),
 (52,⟨.struct [(0,47),(5,48),(7,3),(8,49),(9,50),(10,34)],NV,216,false⟩),
 (63,⟨.struct [(0,43),(3,44)],apJ,80,false⟩),
 (64,⟨.struct [(0,43),(3,44)],apF,80,false⟩),
 (84,⟨.struct [(0,25),(3,26)],apK,80,false⟩),
 (85,⟨.struct [(0,25),(3,26)],apr,80,false⟩),
 (86,⟨.struct [(0,3),(1,85),(5,3)],apL,96,false⟩),
 (87,⟨.struct [(0,3),(1,85),(5,3)],Gm,96,false⟩),
 (89,⟨.slice nY,apt,24,false⟩),
 (90,⟨.struct [(0,3),(1,9),(2,34),(3,89)],apM,72,false⟩),
 (91,⟨.struct [(0,3),(1,9),(2,34),(3,89)],Gn,72,false⟩),
 (93,⟨.struct [(0,3),(1,64),(5,3)],apN,96,false⟩),
 (94,⟨.struct [(0,3),(1,64),(5,3)],pJ,96,false⟩),
 (102,⟨.slice je,anS,24,false⟩),
 (103,⟨.struct [(0,3),(1,9),(2,34),(3,102)],anT,72,false⟩),
 (104,⟨.struct [(0,3),(1,9),(2,34),(3,102)],sO,72,false⟩),
 (121,⟨.slice qg,anO,24,false⟩),
 (122,⟨.struct [(0,9),(1,121)],anU,40,false⟩),
 (123,⟨.struct [(0,9),(1,121)],lJ,40,false⟩),
 (125,⟨.struct [(0,9),(1,34)],anV,40,false⟩),
 (126,⟨.struct [(0,9),(1,34)],iI,40,false⟩),
 (135,⟨.struct [(0,9),(1,34)],fV,40,false⟩),
 (138,⟨.slice bg,anR,24,false⟩),
 (139,⟨.struct [(0,9),(1,138)],anW,40,false⟩),
 (140,⟨.struct [(0,9),(1,138)],aY,40,false⟩),
 (155,⟨.struct [(0,9),(1,3)],anX,24,false⟩),
 (156,⟨.struct [(0,9),(1,3)],bJ,24,true⟩),
 (157,⟨.slice bK,anQ,24,false⟩),
 (158,⟨.struct [(0,3),(1,3),(2,4),(3,3),(4,157)],anY,56,false⟩),
 (159,⟨.struct [(0,3),(1,3),(2,4),(3,3),(4,157)],aQ,56,false⟩),
 (161,⟨.slice ahm,anZ,24,false⟩),
 (162,⟨.struct [(0,3),(1,34),(2,34)],an0,56,false⟩),
 (163,⟨.struct [(0,3),(1,34),(2,34)],CO,56,false⟩),
 (165,⟨.struct [(0,9),(1,3)],dF,24,false⟩),
 (167,⟨.slice qf,anN,24,false⟩),
 (168,⟨.struct [(0,3),(1,3),(2,4),(3,3),(4,167)],an1,56,false⟩),
 (169,⟨.struct [(0,3),(1,3),(2,4),(3,3),(4,167)],jE,56,false⟩),
 (172,⟨.struct [(0,3),(1,34),(2,34)],Af,56,false⟩),
 (187,⟨.slice iZ,an2,24,false⟩),
 (193,⟨.struct [(0,3),(1,3),(2,9)],an3,32,false⟩),
 (194,⟨.struct [(0,3),(1,3),(2,9)],anP,32,true⟩),
 (195,⟨.struct [(0,3),(1,3),(2,3),(3,9),(4,194)],an4,72,true⟩),
 (196,⟨.struct [(0,3),(1,3),(2,3),(3,9),(4,194)],fU,72,true⟩),
 (197,⟨.struct [(0,9),(1,194)],an5,48,true⟩),
 (198,⟨.struct [(0,9),(1,194)],iE,48,true⟩),
 (201,⟨.struct [(0,3),(1,3),(2,9)],anM,32,false⟩),
 (202,⟨.struct [(0,3),(1,3),(2,3),(3,9),(4,201)],an6,72,false⟩),
 (203,⟨.struct [(0,3),(1,3),(2,3),(3,9),(4,201)],kF,72,false⟩),
 (219,⟨.struct [(0,9),(1,201)],an7,48,false⟩),
 (220,⟨.struct [(0,9),(1,201)],qY,48,false⟩),
 (245,⟨.slice Ym,an8,24,false⟩),
 (255,⟨.scalar,an9,8,false⟩),
 (257,⟨.scalar,aoa,8,false⟩),
 (265,⟨.scalar,aob,4,false⟩),
 (267,⟨.scalar,aoc,8,false⟩),
 (268,⟨.scalar,aod,8,false⟩),
 (284,⟨.scalar,aoe,1,false⟩),
 (285,⟨.scalar,aof,1,false⟩),
 (288,⟨.scalar,aog,4,false⟩),
 (289,⟨.scalar,aoh,4,false⟩)]
def Θ:gU:=YF mM
theorem ad8:LQ prog mM=true:=by kernel_rfl
theorem mixed:prog.follows .mixedOrders=true:=by kernel_rfl
def G:iQ where
 n:=0
 ok:=λ_=>True
 low:=λ_ _=>arw _
 stable:=λ_ _ _ _ _=>trivial
abbrev Bh:Nat:=194
theorem PD:o6 prog Bh:=xY (fn:=f194) (by kernel_rfl) (by kernel_rfl)
abbrev Dl:Nat:=182
theorem Ru:o6 prog Dl:=xY (fn:=f182) (by kernel_rfl) (by kernel_rfl)
abbrev oM:Nat:=182
theorem Je:o6 prog oM:=xY (fn:=f182) (by kernel_rfl) (by kernel_rfl)
abbrev BL:Nat:=182
abbrev Fg:Nat:=177
theorem WE:o6 prog Fg:=xY (fn:=f177) (by kernel_rfl) (by kernel_rfl)
abbrev qZ:Nat:=177
theorem L6:o6 prog qZ:=xY (fn:=f177) (by kernel_rfl) (by kernel_rfl)
abbrev Ep:Nat:=177
abbrev OK(x:Nat×DZ):Prop:=YO prog G x
theorem aeE(l:List (Nat×DZ))(h:Q7 prog G l):EnvB prog G Θ (Fz l):=akm ad8 h
theorem aZ{q:PA}(l:List (Nat×DZ))(hl:Q7 prog G l)(H:Hints){p:Prop}(h:p)(e:q.say prog Θ (Fz l) H=p:=by kernel_rfl):OK q.e:=PA.ok mixed (aeE l hl) H e h
theorem xH{q:XA}(l:List (Nat×DZ))(hl:Q7 prog G l)(H:Hints)(w:∀x,(q.F x).1->∃t,(q.F x).2 t){p:Prop}(h:p)(e:q.say prog Θ (Fz l) H=p:=by kernel_rfl):OK q.e:=XA.ok mixed (aeE l hl) H w e h
end Go.Proofs.Tryz

import Derived.Test.YtpipombdnmdimaaGreatDoorFwC
import Derived.Test.YtpipombdnmdimaaGreatDoorProg
import Derived.Lib.LaidTab
import Derived.Lib.ItoaNum
import Derived.Lib.Space
namespace Go.Proofs.Tryz
open Go Go.Fw
abbrev aN:TypeId:=3
abbrev akl:TypeId:=4
abbrev avt:TypeId:=5
abbrev bF:TypeId:=9
abbrev fO:TypeId:=70
abbrev iV:TypeId:=73
abbrev gZ:TypeId:=75
abbrev oz:TypeId:=97
abbrev rH:TypeId:=101
abbrev jg:TypeId:=137
abbrev kE:TypeId:=140
abbrev aQ:TypeId:=146
abbrev aj:TypeId:=149
abbrev ay:TypeId:=154
abbrev aC:TypeId:=157
abbrev eU:TypeId:=188
abbrev fZ:TypeId:=192
abbrev uU:TypeId:=195
abbrev cZ:TypeId:=212
abbrev aS:TypeId:=231
abbrev xu:TypeId:=242
abbrev xq:TypeId:=277
abbrev Yt:TypeId:=386
abbrev CQ:TypeId:=403
abbrev CS:TypeId:=406
abbrev iW:au:=(.cons (.int .i64) .nil)
abbrev bZ:au:=(.cons (.int .i64) .nil)
abbrev R_4:au:=(.cons (.bool) .nil)
abbrev R_5:au:=(.cons (.int .u8) .nil)
abbrev R_6:au:=(.cons (.int .u8) .nil)
abbrev R_7:au:=(.cons (.int .i64) (.cons (.int .i64) (.cons (.bool) (.cons (.int .u8) .nil))))
abbrev R_8:au:=(.cons (.int .i64) (.cons (.int .i64) (.cons (.bool) (.cons (.int .u8) .nil))))
abbrev dZ:au:=(.cons (.str) .nil)
abbrev aE2:au:=(.cons (.str) .nil)
abbrev aE3:au:=(.cons (.str) .nil)
abbrev aE4:au:=(.cons (.int .u64) .nil)
abbrev aE5:au:=(.cons (.str) (.cons (.int .u64) .nil))
abbrev aE6:au:=(.cons (.str) (.cons (.int .u64) .nil))
abbrev aE7:au:=(.cons (.int .i32) .nil)
abbrev dG:au:=(.cons (.str) (.cons (.int .i64) .nil))
abbrev aE8:au:=(.cons (.sl eU dG) .nil)
abbrev aDv:au:=(.cons (.int .i64) (.cons (.int .i64) (.cons (.str) .nil)))
abbrev qQ:au:=(.cons (.str) (.cons (.int .i64) (.cons (.int .i64) (.cons (.str) .nil))))
abbrev aDw:au:=(.cons (.sl xq qQ) .nil)
abbrev ou:au:=(.cons (.int .i64) (.cons (.int .i64) (.cons (.bool) (.cons (.int .i64) (.cons (.sl xq qQ) .nil)))))
abbrev aE9:au:=(.cons (.sl fZ ou) .nil)
abbrev aFa:au:=(.cons (.sl eU dG) (.cons (.sl fZ ou) (.cons (.int .i64) .nil)))
abbrev aFb:au:=(.cons (.sl eU dG) (.cons (.sl fZ ou) (.cons (.int .i64) .nil)))
abbrev lH:au:=(.cons (.int .i64) (.cons (.int .i64) (.cons (.int .i64) (.cons (.str) (.cons (.int .i64) (.cons (.int .i64) (.cons (.str) .nil)))))))
abbrev aDx:au:=(.cons (.sl xu lH) .nil)
abbrev rG:au:=(.cons (.str) (.cons (.sl xu lH) .nil))
abbrev aFc:au:=(.cons (.sl jg rG) .nil)
abbrev aFd:au:=(.cons (.sl aN bZ) .nil)
abbrev jh:au:=(.cons (.str) (.cons (.sl aN bZ) .nil))
abbrev aFe:au:=(.cons (.sl kE jh) .nil)
abbrev aFf:au:=(.cons (.sl eU dG) (.cons (.sl fZ ou) (.cons (.int .i64) (.cons (.sl jg rG) (.cons (.sl kE jh) .nil)))))
abbrev aFg:au:=(.cons (.sl eU dG) (.cons (.sl fZ ou) (.cons (.int .i64) (.cons (.sl jg rG) (.cons (.sl kE jh) .nil)))))
abbrev aFh:au:=(.cons (.str) (.cons (.str) .nil))
abbrev aFi:au:=(.cons (.str) (.cons (.str) .nil))
abbrev aFj:au:=(.cons (.sl eU dG) (.cons (.sl fZ ou) (.cons (.int .i64) (.cons (.sl jg rG) .nil))))
abbrev TR:au:=(.cons (.int .i64) (.cons (.sl eU dG) (.cons (.sl fZ ou) (.cons (.int .i64) (.cons (.sl jg rG) (.cons (.int .i64) .nil))))))
abbrev aFk:au:=(.cons (.sl oz TR) .nil)
abbrev o5:au:=(.cons (.int .i64) (.cons (.sl aN bZ) (.cons (.sl aN bZ) .nil)))
abbrev aFl:au:=(.cons (.sl uU o5) .nil)
abbrev Nv:au:=(.cons (.int .i64) (.cons (.str) (.cons (.sl aN bZ) (.cons (.sl uU o5) .nil))))
abbrev aFm:au:=(.cons (.sl rH Nv) .nil)
abbrev aFn:au:=(.cons (.sl eU dG) (.cons (.sl fZ ou) (.cons (.int .i64) (.cons (.sl jg rG) (.cons (.sl kE jh) (.cons (.str) (.cons (.str) (.cons (.int .i64) (.cons (.sl oz TR) (.cons (.sl rH Nv) (.cons (.sl aN bZ) .nil)))))))))))
abbrev aFo:au:=(.cons (.sl eU dG) (.cons (.sl fZ ou) (.cons (.int .i64) (.cons (.sl jg rG) (.cons (.sl kE jh) (.cons (.str) (.cons (.str) (.cons (.int .i64) (.cons (.sl oz TR) (.cons (.sl rH Nv) (.cons (.sl aN bZ) .nil)))))))))))
abbrev bC:au:=(.cons (.str) (.cons (.int .i64) .nil))
abbrev aFp:au:=(.cons (.sl aj bC) .nil)
abbrev aDy:au:=(.cons (.int .i64) (.cons (.int .i64) (.cons (.str) .nil)))
abbrev jk:au:=(.cons (.str) (.cons (.int .i64) (.cons (.int .i64) (.cons (.str) .nil))))
abbrev aDz:au:=(.cons (.sl cZ jk) .nil)
abbrev aJ:au:=(.cons (.int .i64) (.cons (.int .i64) (.cons (.bool) (.cons (.int .i64) (.cons (.sl cZ jk) .nil)))))
abbrev aFq:au:=(.cons (.sl ay aJ) .nil)
abbrev aFr:au:=(.cons (.sl aj bC) (.cons (.sl ay aJ) (.cons (.int .i64) .nil)))
abbrev aFs:au:=(.cons (.sl aj bC) (.cons (.sl ay aJ) (.cons (.int .i64) .nil)))
abbrev dR:au:=(.cons (.int .i64) (.cons (.int .i64) (.cons (.int .i64) (.cons (.str) (.cons (.int .i64) (.cons (.int .i64) (.cons (.str) .nil)))))))
abbrev aDA:au:=(.cons (.sl aS dR) .nil)
abbrev aK:au:=(.cons (.str) (.cons (.sl aS dR) .nil))
abbrev aFt:au:=(.cons (.sl aC aK) .nil)
abbrev gW:au:=(.cons (.str) (.cons (.sl aN bZ) .nil))
abbrev aFu:au:=(.cons (.sl aQ gW) .nil)
abbrev aFv:au:=(.cons (.sl aj bC) (.cons (.sl ay aJ) (.cons (.int .i64) (.cons (.sl aC aK) (.cons (.sl aQ gW) .nil)))))
abbrev aFw:au:=(.cons (.sl aj bC) (.cons (.sl ay aJ) (.cons (.int .i64) (.cons (.sl aC aK) (.cons (.sl aQ gW) .nil)))))
abbrev aFx:au:=(.cons (.str) (.cons (.str) .nil))
abbrev aFy:au:=(.cons (.sl aj bC) (.cons (.sl ay aJ) (.cons (.int .i64) (.cons (.sl aC aK) .nil))))
abbrev oO:au:=(.cons (.int .i64) (.cons (.sl aj bC) (.cons (.sl ay aJ) (.cons (.int .i64) (.cons (.sl aC aK) (.cons (.int .i64) .nil))))))
abbrev aFz:au:=(.cons (.sl fO oO) .nil)
abbrev Dq:au:=(.cons (.int .i64) (.cons (.sl aN bZ) (.cons (.sl aN bZ) .nil)))
abbrev aFA:au:=(.cons (.sl gZ Dq) .nil)
abbrev rF:au:=(.cons (.int .i64) (.cons (.str) (.cons (.sl aN bZ) (.cons (.sl gZ Dq) .nil))))
abbrev aFB:au:=(.cons (.sl iV rF) .nil)
abbrev aFC:au:=(.cons (.sl aj bC) (.cons (.sl ay aJ) (.cons (.int .i64) (.cons (.sl aC aK) (.cons (.sl aQ gW) (.cons (.str) (.cons (.str) (.cons (.int .i64) (.cons (.sl fO oO) (.cons (.sl iV rF) (.cons (.sl aN bZ) .nil)))))))))))
abbrev aFD:au:=(.cons (.sl aj bC) (.cons (.sl ay aJ) (.cons (.int .i64) (.cons (.sl aC aK) (.cons (.sl aQ gW) (.cons (.str) (.cons (.str) (.cons (.int .i64) (.cons (.sl fO oO) (.cons (.sl iV rF) (.cons (.sl aN bZ) .nil)))))))))))
abbrev aFE:au:=(.cons (.sl aj bC) (.cons (.sl ay aJ) (.cons (.int .i64) (.cons (.sl aC aK) .nil))))
abbrev aFF:au:=(.cons (.int .i64) (.cons (.sl aj bC) (.cons (.sl ay aJ) (.cons (.int .i64) (.cons (.sl aC aK) (.cons (.int .i64) .nil))))))
abbrev aFG:au:=(.cons (.int .i64) (.cons (.str) (.cons (.sl aN bZ) (.cons (.sl gZ Dq) .nil))))
abbrev aFH:au:=(.cons (.int .i64) (.cons (.sl aN bZ) (.cons (.sl aN bZ) .nil)))
abbrev aFI:au:=(.cons (.sl eU dG) (.cons (.sl fZ ou) (.cons (.int .i64) (.cons (.sl jg rG) .nil))))
abbrev aFJ:au:=(.cons (.int .i64) (.cons (.sl eU dG) (.cons (.sl fZ ou) (.cons (.int .i64) (.cons (.sl jg rG) (.cons (.int .i64) .nil))))))
abbrev aDB:au:=(.cons (.int .i64) (.cons (.str) (.cons (.sl aN bZ) (.cons (.sl uU o5) .nil))))
abbrev aDC:au:=(.cons (.sl bF dZ) .nil)
abbrev aDD:au:=(.cons (.str) (.cons (.sl xu lH) .nil))
abbrev aDE:au:=(.cons (.str) (.cons (.sl aN bZ) .nil))
abbrev aDF:au:=(.cons (.str) (.cons (.int .i64) .nil))
abbrev aDG:au:=(.cons (.int .i64) (.cons (.int .i64) (.cons (.bool) (.cons (.int .i64) (.cons (.sl cZ jk) .nil)))))
abbrev aDH:au:=(.cons (.str) (.cons (.sl aS dR) .nil))
abbrev aDI:au:=(.cons (.str) (.cons (.sl aN bZ) (.cons (.sl aN bZ) .nil)))
abbrev aDJ:au:=(.cons (.str) (.cons (.sl aN bZ) (.cons (.sl aN bZ) .nil)))
abbrev aDK:au:=(.cons (.int .i64) (.cons (.int .i64) (.cons (.bool) (.cons (.int .i64) (.cons (.sl xq qQ) .nil)))))
abbrev aDL:au:=(.cons (.sl avt R_5) .nil)
abbrev aDM:au:=(.cons (.int .i64) (.cons (.int .i64) (.cons (.str) .nil)))
abbrev aDN:au:=(.cons (.str) (.cons (.int .i64) (.cons (.int .i64) (.cons (.str) .nil))))
abbrev aDO:au:=(.cons (.int .i64) (.cons (.int .i64) (.cons (.int .i64) (.cons (.str) (.cons (.int .i64) (.cons (.int .i64) (.cons (.str) .nil)))))))
abbrev aDP:au:=(.cons (.int .i64) (.cons (.int .i64) (.cons (.int .i64) (.cons (.str) (.cons (.int .i64) (.cons (.int .i64) (.cons (.str) .nil)))))))
abbrev aDQ:au:=(.cons (.int .u64) .nil)
abbrev aDR:au:=(.cons (.str) (.cons (.int .i64) (.cons (.int .i64) (.cons (.str) .nil))))
abbrev aDS:au:=(.cons (.int .i64) .nil)
abbrev aDT:au:=(.cons (.int .u32) .nil)
abbrev aDU:au:=(.cons (.int .u64) .nil)
abbrev aDV:au:=(.cons (.int .i64) .nil)
abbrev aDW:au:=(.cons (.sl bF dZ) (.cons (.sl aS dR) .nil))
abbrev aDX:au:=(.cons (.sl bF dZ) (.cons (.sl aS dR) .nil))
abbrev aDY:au:=(.cons (.sl akl R_4) .nil)
abbrev aDZ:au:=(.cons (.int .u64) .nil)
abbrev aD0:au:=(.cons (.int .u8) (.cons (.int .u8) .nil))
abbrev aD1:au:=(.cons (.int .u8) (.cons (.int .u8) .nil))
abbrev aD2:au:=(.cons (.str) .nil)
abbrev aD3:au:=(.cons (.str) .nil)
abbrev aAV:au:=(.cons (.int .i64) (.cons (.int .i64) .nil))
abbrev aD4:au:=(.cons (.sl Yt aAV) .nil)
abbrev aD5:au:=(.cons (.int .i64) (.cons (.int .i64) .nil))
abbrev aD6:au:=(.cons (.int .u16) .nil)
abbrev arH:au:=(.cons (.int .u16) (.cons (.int .u16) (.cons (.int .u16) .nil)))
abbrev aD7:au:=(.cons (.sl CQ arH) .nil)
abbrev arI:au:=(.cons (.int .u32) (.cons (.int .u32) (.cons (.int .u32) .nil)))
abbrev aD8:au:=(.cons (.sl CS arI) .nil)
abbrev aD9:au:=(.cons (.sl CQ arH) (.cons (.sl CS arI) (.cons (.int .i64) .nil)))
abbrev aEa:au:=(.cons (.sl CQ arH) (.cons (.sl CS arI) (.cons (.int .i64) .nil)))
abbrev aEb:au:=(.cons (.int .u16) (.cons (.int .u16) (.cons (.int .u16) .nil)))
abbrev aEc:au:=(.cons (.int .u32) (.cons (.int .u32) (.cons (.int .u32) .nil)))
abbrev aEd:au:=(.cons (.int .u8) .nil)
abbrev aEe:au:=(.cons (.int .u8) .nil)
abbrev aEf:au:=(.cons (.int .i32) .nil)
abbrev aEg:au:=(.cons (.int .i32) .nil)
def sG:List (Nat×Go.Fw.TI):=[
 (2,⟨.scalar,iW,8,false⟩),
 (3,⟨.scalar,bZ,8,false⟩),
 (4,⟨.scalar,R_4,1,false⟩),
 (5,⟨.scalar,R_5,1,false⟩),
 (6,⟨.scalar,R_6,1,false⟩),
 (7,⟨.struct [(0,2),(1,3),(2,4),(3,6)],R_7,24,false⟩),
 (8,⟨.struct [(0,2),(1,3),(2,4),(3,6)],R_8,24,false⟩),
 (9,⟨.str,dZ,16,false⟩),
 (10,⟨.str,aE2,16,false⟩),
 (11,⟨.str,aE3,16,false⟩),
 (12,⟨.scalar,aE4,8,false⟩),
 (13,⟨.struct [(0,9),(1,12)],aE5,24,false⟩),
 (14,⟨.struct [(0,9),(1,12)],aE6,24,false⟩),
 (21,⟨.scalar,aE7,4,false⟩),
 (22,⟨.slice eU,aE8,24,false⟩),
 (23,⟨.slice fZ,aE9,24,false⟩),
 (24,⟨.struct [(0,22),(1,23),(2,3)],aFa,56,false⟩),
 (25,⟨.struct [(0,22),(1,23),(2,3)],aFb,56,false⟩),
 (26,⟨.slice jg,aFc,24,false⟩),
 (27,⟨.slice kE,aFe,24,false⟩),
 (28,⟨.struct [(0,25),(3,26),(4,27)],aFf,104,false⟩),
 (29,⟨.struct [(0,25),(3,26),(4,27)],aFg,104,false⟩),
 (30,⟨.struct [(0,9),(1,9)],aFh,32,false⟩),
 (31,⟨.struct [(0,9),(1,9)],aFi,32,false⟩),
 (32,⟨.slice oz,aFk,24,false⟩),
 (33,⟨.slice rH,aFm,24,false⟩),
 (34,⟨.slice aN,aFd,24,false⟩),
 (35,⟨.struct [(0,29),(5,31),(7,3),(8,32),(9,33),(10,34)],aFn,216,false⟩),
 (36,⟨.struct [(0,29),(5,31),(7,3),(8,32),(9,33),(10,34)],aFo,216,false⟩),
 (39,⟨.slice aj,aFp,24,false⟩),
 (40,⟨.slice ay,aFq,24,false⟩),
 (41,⟨.struct [(0,39),(1,40),(2,3)],aFr,56,false⟩),
 (42,⟨.struct [(0,39),(1,40),(2,3)],aFs,56,false⟩),
 (43,⟨.slice aC,aFt,24,false⟩),
 (44,⟨.slice aQ,aFu,24,false⟩),
 (45,⟨.struct [(0,42),(3,43),(4,44)],aFv,104,false⟩),
 (46,⟨.struct [(0,42),(3,43),(4,44)],aFw,104,false⟩),
 (47,⟨.struct [(0,9),(1,9)],aFx,32,true⟩),
 (48,⟨.slice fO,aFz,24,false⟩),
 (49,⟨.slice iV,aFB,24,false⟩),
 (50,⟨.struct [(0,46),(5,47),(7,3),(8,48),(9,49),(10,34)],aFC,216,false⟩),
 (51,⟨.struct [(0,46),(5,47),(7,3),(8,48),(9,49),(10,34)],aFD,216,false⟩),
 (60,⟨.struct [(0,42),(3,43)],aFE,80,false⟩),
 (61,⟨.struct [(0,42),(3,43)],aFy,80,false⟩),
 (69,⟨.struct [(0,3),(1,61),(5,3)],aFF,96,false⟩),
 (70,⟨.struct [(0,3),(1,61),(5,3)],oO,96,false⟩),
 (71,⟨.slice gZ,aFA,24,false⟩),
 (72,⟨.struct [(0,3),(1,9),(2,34),(3,71)],aFG,72,false⟩),
 (73,⟨.struct [(0,3),(1,9),(2,34),(3,71)],rF,72,false⟩),
 (74,⟨.struct [(0,3),(1,34),(2,34)],aFH,56,false⟩),
 (75,⟨.struct [(0,3),(1,34),(2,34)],Dq,56,false⟩),
 (94,⟨.struct [(0,25),(3,26)],aFI,80,false⟩),
 (95,⟨.struct [(0,25),(3,26)],aFj,80,false⟩),
 (96,⟨.struct [(0,3),(1,95),(5,3)],aFJ,96,false⟩),
 (97,⟨.struct [(0,3),(1,95),(5,3)],TR,96,false⟩),
 (99,⟨.slice uU,aFl,24,false⟩),
 (100,⟨.struct [(0,3),(1,9),(2,34),(3,99)],aDB,72,false⟩),
 (101,⟨.struct [(0,3),(1,9),(2,34),(3,99)],Nv,72,false⟩),
 (108,⟨.slice bF,aDC,24,false⟩),
 (135,⟨.slice xu,aDx,24,false⟩),
 (136,⟨.struct [(0,9),(1,135)],aDD,40,false⟩),
 (137,⟨.struct [(0,9),(1,135)],rG,40,false⟩),
 (139,⟨.struct [(0,9),(1,34)],aDE,40,false⟩),
 (140,⟨.struct [(0,9),(1,34)],jh,40,false⟩),
 (146,⟨.struct [(0,9),(1,34)],gW,40,false⟩),
 (148,⟨.struct [(0,9),(1,3)],aDF,24,false⟩),
 (149,⟨.struct [(0,9),(1,3)],bC,24,true⟩),
 (152,⟨.slice cZ,aDz,24,false⟩),
 (153,⟨.struct [(0,3),(1,3),(2,4),(3,3),(4,152)],aDG,56,false⟩),
 (154,⟨.struct [(0,3),(1,3),(2,4),(3,3),(4,152)],aJ,56,false⟩),
 (155,⟨.slice aS,aDA,24,false⟩),
 (156,⟨.struct [(0,9),(1,155)],aDH,40,false⟩),
 (157,⟨.struct [(0,9),(1,155)],aK,40,false⟩),
 (162,⟨.struct [(0,9),(1,34),(2,34)],aDI,64,false⟩),
 (163,⟨.struct [(0,9),(1,34),(2,34)],aDJ,64,false⟩),
 (188,⟨.struct [(0,9),(1,3)],dG,24,false⟩),
 (190,⟨.slice xq,aDw,24,false⟩),
 (191,⟨.struct [(0,3),(1,3),(2,4),(3,3),(4,190)],aDK,56,false⟩),
 (192,⟨.struct [(0,3),(1,3),(2,4),(3,3),(4,190)],ou,56,false⟩),
 (195,⟨.struct [(0,3),(1,34),(2,34)],o5,56,false⟩),
 (208,⟨.slice avt,aDL,24,false⟩),
 (209,⟨.struct [(0,3),(1,3),(2,9)],aDM,32,false⟩),
 (210,⟨.struct [(0,3),(1,3),(2,9)],aDy,32,true⟩),
 (211,⟨.struct [(0,9),(1,210)],aDN,48,true⟩),
 (212,⟨.struct [(0,9),(1,210)],jk,48,true⟩),
 (230,⟨.struct [(0,3),(1,3),(2,3),(3,9),(4,210)],aDO,72,true⟩),
 (231,⟨.struct [(0,3),(1,3),(2,3),(3,9),(4,210)],dR,72,true⟩),
 (240,⟨.struct [(0,3),(1,3),(2,9)],aDv,32,false⟩),
 (241,⟨.struct [(0,3),(1,3),(2,3),(3,9),(4,240)],aDP,72,false⟩),
 (242,⟨.struct [(0,3),(1,3),(2,3),(3,9),(4,240)],lH,72,false⟩),
 (271,⟨.scalar,aDQ,8,false⟩),
 (276,⟨.struct [(0,9),(1,240)],aDR,48,false⟩),
 (277,⟨.struct [(0,9),(1,240)],qQ,48,false⟩),
 (303,⟨.scalar,aDS,8,false⟩),
 (311,⟨.scalar,aDT,4,false⟩),
 (313,⟨.scalar,aDU,8,false⟩),
 (324,⟨.scalar,aDV,8,false⟩),
 (331,⟨.struct [(0,108),(1,155)],aDW,48,false⟩),
 (332,⟨.struct [(0,108),(1,155)],aDX,48,false⟩),
 (336,⟨.slice akl,aDY,24,false⟩),
 (348,⟨.scalar,aDZ,8,false⟩),
 (372,⟨.struct [(0,5),(1,5)],aD0,2,false⟩),
 (373,⟨.struct [(0,5),(1,5)],aD1,2,false⟩),
 (379,⟨.struct [(0,9)],aD2,16,false⟩),
 (380,⟨.struct [(0,9)],aD3,16,false⟩),
 (384,⟨.slice Yt,aD4,24,false⟩),
 (385,⟨.struct [(0,3),(1,3)],aD5,16,false⟩),
 (386,⟨.struct [(0,3),(1,3)],aAV,16,false⟩),
 (397,⟨.slice CQ,aD7,24,false⟩),
 (398,⟨.slice CS,aD8,24,false⟩),
 (399,⟨.struct [(0,397),(1,398),(2,3)],aD9,56,false⟩),
 (400,⟨.struct [(0,397),(1,398),(2,3)],aEa,56,false⟩),
 (401,⟨.scalar,aD6,2,false⟩),
 (402,⟨.struct [(0,401),(1,401),(2,401)],aEb,6,false⟩),
 (403,⟨.struct [(0,401),(1,401),(2,401)],arH,6,false⟩),
 (405,⟨.struct [(0,311),(1,311),(2,311)],aEc,12,false⟩),
 (406,⟨.struct [(0,311),(1,311),(2,311)],arI,12,false⟩),
 (421,⟨.scalar,aEd,1,false⟩),
 (422,⟨.scalar,aEe,1,false⟩),
 (424,⟨.scalar,aEf,4,false⟩),
 (425,⟨.scalar,aEg,4,false⟩)]
def Θ:jY:=akD sG
theorem Rf:Yl prog sG=true:=mF
theorem mixed:prog.follows .mixedOrders=true:=mF
theorem asT{w w':World}{name:String}{g:Nat}{A:Array Value}(d:prog.globalNamed name=some g)(u:w'.heap[g]? =w.heap[g]?)(h:World.var? prog w name=some A):World.var? prog w' name=some A:=by unfold World.var? at h ⊢;rw[d]at h ⊢;show(match w'.heap[g]? with|some (.cells A _ _)=>some A|_=>none)=_;rw[u];exact h
def isErr(a:Value):Prop:=a=.nilIface\/∃d b,a=.iface d b
def G:lT where
 n:=7
 ok:=λw=>Lib.TabIs prog w "internal/strconv.uint64pow10" .u64 Lib.pow10Tab/\Lib.TabIs prog w "strings.asciiSpace" .u8 Lib.asciiSpaceTab/\
  (∃ev,w.cell? ⟨1,0,none⟩=some ev/\isErr ev)/\(∃ev,w.cell? ⟨2,0,none⟩=some ev/\isErr ev)/\∃m,w.cell? ⟨0,0,none⟩=some (.int .i64 m)
 low:=by
  intro w h;have h1:=h.2.1;unfold Lib.TabIs World.var? at h1;rw[show prog.globalNamed "strings.asciiSpace" =some 6 from mF]at h1;rcases aHU 6 w.heap.size with h'|h'
  .exact h'
  .simp[aJH h']at h1
 stable:=by
  intro w w' h hs hk;refine⟨asT (g:=3) mF (hk 3 lZ) h.1,asT (g:=6) mF (hk 6 lZ) h.2.1,?_,?_,?_⟩
  .obtain⟨ev,h1,h2⟩:=h.2.2.1;exact⟨ev,by rw[aIE (a:=⟨1,0,none⟩) (hk 1 lZ)];exact h1,h2⟩
  .obtain⟨ev,h1,h2⟩:=h.2.2.2.1;exact⟨ev,by rw[aIE (a:=⟨2,0,none⟩) (hk 2 lZ)];exact h1,h2⟩
  .obtain⟨m,h1⟩:=h.2.2.2.2;exact⟨m,by rw[aIE (a:=⟨0,0,none⟩) (hk 0 lZ)];exact h1⟩
abbrev JX:Nat:=305
theorem ab4:ji prog JX:=iQ (fn:=f305) mF mF
abbrev L8:Nat:=264
theorem adP:ji prog L8:=iQ (fn:=f264) mF mF
abbrev vI:Nat:=264
theorem Vb:ji prog vI:=iQ (fn:=f264) mF mF
abbrev KG:Nat:=264
abbrev Px:Nat:=250
theorem aiB:ji prog Px:=iQ (fn:=f250) mF mF
abbrev yX:Nat:=250
theorem Yu:ji prog yX:=iQ (fn:=f250) mF mF
abbrev Ob:Nat:=250
abbrev Pv:Nat:=180
theorem aiC:ji prog Pv:=iQ (fn:=f180) mF mF
abbrev DC:Nat:=182
theorem Un:ji prog DC:=iQ (fn:=f182) mF mF
abbrev Oa:Nat:=168
theorem af0:ji prog Oa:=iQ (fn:=f168) mF mF
abbrev L6:Nat:=335
theorem adQ:ji prog L6:=iQ (fn:=f335) mF mF
abbrev yu:Nat:=169
theorem Io:ji prog yu:=iQ (fn:=f169) mF mF
abbrev L9:Nat:=184
theorem adR:ji prog L9:=iQ (fn:=f184) mF mF
abbrev vJ:Nat:=184
theorem Vd:ji prog vJ:=iQ (fn:=f184) mF mF
abbrev KH:Nat:=184
abbrev Py:Nat:=157
theorem aiD:ji prog Py:=iQ (fn:=f157) mF mF
abbrev yY:Nat:=157
theorem Yv:ji prog yY:=iQ (fn:=f157) mF mF
abbrev Oc:Nat:=157
abbrev Pz:Nat:=286
theorem aiE:ji prog Pz:=iQ (fn:=f286) mF mF
abbrev yZ:Nat:=286
theorem Yw:ji prog yZ:=iQ (fn:=f286) mF mF
abbrev Oe:Nat:=286
abbrev af2:Nat:=260
abbrev DV:Nat:=170
theorem Ve:ji prog DV:=iQ (fn:=f170) mF mF
abbrev DW:Nat:=148
theorem Vf:ji prog DW:=iQ (fn:=f148) mF mF
abbrev Og:Nat:=129
theorem af4:ji prog Og:=iQ (fn:=f129) mF mF
abbrev OK(x:Nat×NC):Prop:=akM prog G x
theorem ZR(l:List (Nat×NC))(h:adB prog G l):EnvB prog G Θ (Jq l):=azs Rf h
theorem aO{q:PA}(l:List (Nat×NC))(Q:adB prog G l)(H:Hints){p:Prop}(h:p)(e:q.say prog Θ (Jq l) H=p:=by kernel_rfl):OK q.e:=PA.ok mixed (ZR l Q) H e h
theorem zn{q:XA}(l:List (Nat×NC))(Q:adB prog G l)(H:Hints)(w:∀x,(q.F x).1->∃t,(q.F x).2 t){p:Prop}(h:p)(e:q.say prog Θ (Jq l) H=p:=by kernel_rfl):OK q.e:=XA.ok mixed (ZR l Q) H w e h
end Go.Proofs.Tryz

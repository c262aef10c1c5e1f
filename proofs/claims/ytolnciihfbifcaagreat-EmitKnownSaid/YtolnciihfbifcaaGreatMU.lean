/-
  Texts of one proof, laid together: K12x0 K12x1.
-/
import Derived.Test.YtolnciihfbifcaaGreatMT
set_option linter.unusedVariables false
set_option linter.unusedSimpArgs false
set_option linter.defProp false
open Option renaming some→D,none→Y
open Bool renaming true→V,false→U
open Go.cV.aa renaming int→I,str→X,bool→Z
open Go.IntKind renaming i64→J
namespace Go.Proofs.YtolnciihfbifcaaGreat
open Go.cV
section
set_option maxRecDepth 1000000
abbrev D2:=List (Nat×an)
def gw:Nat×an:=(1,(.row U 1 [[I J 21],[I J 0]]))
def gx:Nat×an:=(2,(.row U 1 [[I J 11]]))
def gy:Nat×an:=(3,(.row U 1 [[I J 3]]))
def gz:Nat×an:=(4,(.row U 1 [[I J 1]]))
def gA:Nat×an:=(5,(.row U 1 [[I J 7]]))
def gB:Nat×an:=(6,(.row U 1 [[I J 6]]))
def gC:Nat×an:=(7,(.row U 1 [[I J 22],[I J 0]]))
def gD:Nat×an:=(8,(.row U 1 [[I J 15]]))
def gE:Nat×an:=(9,(.row U 1 [[I J 1]]))
def gM:Nat×an:=(10,(.row U 1 [[I J 15]]))
def Tb:Nat×an:=(11,(.row U 1 [[I J 18]]))
def Tc:Nat×an:=(12,(.row U 1 [[(.ag 1 0 2 1 (D 2))],[(.ag 2 0 1 1 (D 1))],[(.ag 3 0 1 1 (D 1))],[(.ag 4 0 1 1 (D 1))],[(.ag 5 0 1 1 (D 1))],[(.ag 6 0 1 1 (D 1))],[(.ag 7 0 2 1 (D 2))],[(.ag 8 0 1 1 (D 1))],[(.ag 9 0 1 1 (D 1))],[(.ag 10 0 1 1 (D 1))],[(.ag 11 0 1 1 (D 1))]]))
def Td:Nat×an:=(13,(.row U 1 [[I J 1]]))
def Te:Nat×an:=(14,(.row U 1 [[I J 3]]))
def Tf:Nat×an:=(15,(.row U 1 [[I J 1]]))
def Tg:Nat×an:=(16,(.row U 1 [[I J 4]]))
def Th:Nat×an:=(17,(.row U 1 [[I J 17],[I J 5],[I J 6]]))
def Ti:Nat×an:=(18,(.row U 1 [[I J 16],[I J 7]]))
def Tj:Nat×an:=(19,(.row U 1 [[I J 16],[I J 17]]))
def Tk:Nat×an:=(20,(.row U 1 [[I J 21],[I J 0]]))
def Tl:Nat×an:=(21,(.row U 1 [[I J 11]]))
def Tm:Nat×an:=(22,(.row U 1 [[I J 3]]))
def Tn:Nat×an:=(23,(.row U 1 [[I J 6]]))
def To:Nat×an:=(24,(.row U 1 [[I J 22],[I J 0]]))
def Tp:Nat×an:=(25,(.row U 1 [[I J 15]]))
def Tq:Nat×an:=(26,(.row U 1 [[I J 1]]))
def Tr:Nat×an:=(27,(.row U 1 [[I J 4]]))
def Ts:Nat×an:=(28,(.row U 1 [[I J 3]]))
def Tt:Nat×an:=(29,(.row U 1 [[I J 16],[I J 2]]))
def Tu:Nat×an:=(30,(.row U 1 [[I J 18]]))
def Tv:Nat×an:=(31,(.row U 1 [[(.ag 13 0 1 1 (D 1))],[(.ag 14 0 1 1 (D 1))],[(.ag 15 0 1 1 (D 1))],[(.ag 16 0 1 1 (D 1))],[(.ag 17 0 3 1 (D 3))],[(.ag 18 0 2 1 (D 2))],[(.ag 19 0 2 1 (D 2))],[(.ag 20 0 2 1 (D 2))],[(.ag 21 0 1 1 (D 1))],[(.ag 22 0 1 1 (D 1))],[(.ag 23 0 1 1 (D 1))],[(.ag 24 0 2 1 (D 2))],[(.ag 25 0 1 1 (D 1))],[(.ag 26 0 1 1 (D 1))],[(.ag 27 0 1 1 (D 1))],[(.ag 28 0 1 1 (D 1))],[(.ag 29 0 2 1 (D 2))],[(.ag 30 0 1 1 (D 1))]]))
def Tw:Nat×an:=(32,(.row U 1 [[I J 21],[I J 0],[I J 1]]))
def Tx:Nat×an:=(33,(.row U 1 [[I J 11]]))
def Ty:Nat×an:=(34,(.row U 1 [[I J 3]]))
def Tz:Nat×an:=(35,(.row U 1 [[I J 13]]))
def TA:Nat×an:=(36,(.row U 1 [[I J 22],[I J 0],[I J 1]]))
def TB:Nat×an:=(37,(.row U 1 [[I J 1]]))
def TC:Nat×an:=(38,(.row U 1 [[I J 15]]))
def TD:Nat×an:=(39,(.row U 1 [[I J 18]]))
def TE:Nat×an:=(40,(.row U 1 [[(.ag 32 0 3 1 (D 3))],[(.ag 33 0 1 1 (D 1))],[(.ag 34 0 1 1 (D 1))],[(.ag 35 0 1 1 (D 1))],[(.ag 36 0 3 1 (D 3))],[(.ag 37 0 1 1 (D 1))],[(.ag 38 0 1 1 (D 1))],[(.ag 39 0 1 1 (D 1))]]))
def TF:Nat×an:=(41,(.row U 1 [[I J 21],[I J 0]]))
def TG:Nat×an:=(42,(.row U 1 [[I J 13]]))
def TH:Nat×an:=(43,(.row U 1 [[I J 3]]))
def TI:Nat×an:=(44,(.row U 1 [[I J 2]]))
def TJ:Nat×an:=(45,(.row U 1 [[I J 4]]))
def TK:Nat×an:=(46,(.row U 1 [[I J 22],[I J 0]]))
def TL:Nat×an:=(47,(.row U 1 [[I J 17],[I J 7],[I J 8]]))
def TM:Nat×an:=(48,(.row U 1 [[I J 16],[I J 9]]))
def TN:Nat×an:=(49,(.row U 1 [[I J 16],[I J 12]]))
def TO:Nat×an:=(50,(.row U 1 [[I J 1]]))
def TP:Nat×an:=(51,(.row U 1 [[I J 15]]))
def TQ:Nat×an:=(52,(.row U 1 [[I J 16],[I J 12]]))
def TR:Nat×an:=(53,(.row U 1 [[I J 18]]))
def TS:Nat×an:=(54,(.row U 1 [[(.ag 41 0 2 1 (D 2))],[(.ag 42 0 1 1 (D 1))],[(.ag 43 0 1 1 (D 1))],[(.ag 44 0 1 1 (D 1))],[(.ag 45 0 1 1 (D 1))],[(.ag 46 0 2 1 (D 2))],[(.ag 47 0 3 1 (D 3))],[(.ag 48 0 2 1 (D 2))],[(.ag 49 0 2 1 (D 2))],[(.ag 50 0 1 1 (D 1))],[(.ag 51 0 1 1 (D 1))],[(.ag 52 0 2 1 (D 2))],[(.ag 53 0 1 1 (D 1))]]))
def TT:Nat×an:=(55,(.row U 1 [[I J 21],[I J 0]]))
def TV:Nat×an:=(56,(.row U 1 [[I J 11]]))
def TW:Nat×an:=(57,(.row U 1 [[I J 3]]))
def TX:Nat×an:=(58,(.row U 1 [[I J 14]]))
def TY:Nat×an:=(59,(.row U 1 [[I J 1]]))
def TZ:Nat×an:=(60,(.row U 1 [[I J 4]]))
def T0:Nat×an:=(61,(.row U 1 [[I J 17],[I J 7],[I J 8]]))
def T3:Nat×an:=(62,(.row U 1 [[I J 16],[I J 10]]))
def T4:Nat×an:=(63,(.row U 1 [[I J 22],[I J 0]]))
def T5:Nat×an:=(64,(.row U 1 [[I J 16],[I J 14]]))
def T6:Nat×an:=(65,(.row U 1 [[I J 6]]))
def T7:Nat×an:=(66,(.row U 1 [[I J 22],[I J 0]]))
def T8:Nat×an:=(67,(.row U 1 [[I J 15]]))
def T9:Nat×an:=(68,(.row U 1 [[I J 16],[I J 14]]))
def T_:Nat×an:=(69,(.row U 1 [[I J 1]]))
def Ua:Nat×an:=(70,(.row U 1 [[I J 15]]))
def Ub:Nat×an:=(71,(.row U 1 [[I J 18]]))
def Uc:Nat×an:=(72,(.row U 1 [[(.ag 55 0 2 1 (D 2))],[(.ag 56 0 1 1 (D 1))],[(.ag 57 0 1 1 (D 1))],[(.ag 58 0 1 1 (D 1))],[(.ag 59 0 1 1 (D 1))],[(.ag 60 0 1 1 (D 1))],[(.ag 61 0 3 1 (D 3))],[(.ag 62 0 2 1 (D 2))],[(.ag 63 0 2 1 (D 2))],[(.ag 64 0 2 1 (D 2))],[(.ag 65 0 1 1 (D 1))],[(.ag 66 0 2 1 (D 2))],[(.ag 67 0 1 1 (D 1))],[(.ag 68 0 2 1 (D 2))],[(.ag 69 0 1 1 (D 1))],[(.ag 70 0 1 1 (D 1))],[(.ag 71 0 1 1 (D 1))]]))
def Ud:Nat×an:=(73,(.row U 1 [[I J 11]]))
def Ue:Nat×an:=(74,(.row U 1 [[I J 20]]))
def Uf:Nat×an:=(75,(.row U 1 [[I J 18]]))
def Ug:Nat×an:=(76,(.row U 1 [[(.ag 73 0 1 1 (D 1))],[(.ag 74 0 1 1 (D 1))],[(.ag 75 0 1 1 (D 1))]]))
def Uh:Nat×an:=(77,(.row U 1 [[(.ag 12 0 11 1 (D 11))],[(.ag 31 0 18 1 (D 18))],[(.ag 40 0 8 1 (D 8))],[(.ag 54 0 13 1 (D 13))],[(.ag 72 0 17 1 (D 17))],[(.ag 76 0 3 1 (D 3))]]))
def Ui:Nat×an:=(80,(.row U 1 [[I J 11]]))
def Uj:Nat×an:=(81,(.row U 1 [[I J 7]]))
def Uk:Nat×an:=(82,(.row U 1 [[I J 18]]))
def gF:Nat×an:=(83,(.row U 1 [[(.ag 80 0 1 1 (D 1))],[(.ag 81 0 1 1 (D 1))],[(.ag 82 0 1 1 (D 1))]]))
def gG:Nat×an:=(84,(.row U 1 [[I J 11]]))
def gH:Nat×an:=(85,(.row U 1 [[I J 18]]))
def gI:Nat×an:=(86,(.row U 1 [[I J 2]]))
def gJ:Nat×an:=(87,(.row U 1 [[I J 18]]))
def gK:Nat×an:=(88,(.row U 1 [[(.ag 84 0 1 1 (D 1))],[(.ag 85 0 1 1 (D 1))],[(.ag 86 0 1 1 (D 1))],[(.ag 87 0 1 1 (D 1))]]))
def gL:Nat×an:=(91,(.row U 1 [[(.ag 78 0 0 1 (D 0))],[(.ag 79 0 0 1 (D 0))],[(.ag 83 0 3 1 (D 3))],[(.ag 88 0 4 1 (D 4))],[(.ag 89 0 0 1 (D 0))],[(.ag 90 0 0 1 (D 0))]]))
def JV:Nat×an:=(322,(.row U 4 [[X [97],X [105,110,116],I J 0,I J 11]]))
def JW:Nat×an:=(330,(.row U 3 [[X [82],.ag 322 0 1 4 Y,I J 7]]))
def JX:Nat×an:=(497,(.row U 11 [[I J 8,I J 0,X [],X [82],I J 0,.ao,I J 46,I J 0,I J 0,I J 0,I J 0]]))
def JY:Nat×an:=(566,(.row U 11 [[I J 4,I J 0,X [114],X [],I J 0,.ao,I J 53,I J 0,I J 0,I J 0,I J 0]]))
def JZ:Nat×an:=(751,(.row U 11 [[I J 5,I J 0,X [97],X [],I J 0,(.ag 566 0 1 11 (D 1)),I J 54,I J 0,I J 0,I J 0,I J 0],[I J 1,I J 3,X [],X [],I J 0,.ao,I J 59,I J 0,I J 0,I J 0,I J 0]]))
def J0:Nat×an:=(816,(.row U 11 [[I J 4,I J 0,X [114],X [],I J 0,.ao,I J 68,I J 0,I J 0,I J 0,I J 0]]))
def J1:Nat×an:=(896,(.row U 11 [[I J 5,I J 0,X [97],X [],I J 0,(.ag 816 0 1 11 (D 1)),I J 69,I J 0,I J 0,I J 0,I J 0]]))
def J2:Nat×an:=(1016,(.row U 11 [[I J 1,I J 4,X [],X [],I J 0,.ao,I J 79,I J 0,I J 0,I J 0,I J 0]]))
def J3:Nat×an:=(1020,(.row U 9 [[I J 2,X [114],X [82],I J 0,(.ag 497 0 1 11 (D 1)),.ao,.ao,I J 35,I J 0],[I J 4,X [],X [],I J 0,(.ag 751 0 2 11 (D 2)),.ao,.ao,I J 53,I J 0],[I J 8,X [],X [],I J 0,(.ag 896 0 1 11 (D 1)),.ao,.ao,I J 62,I J 0],[I J 8,X [],X [],I J 0,(.ag 1016 0 1 11 (D 1)),.ao,.ao,I J 73,I J 0]]))
def J4:Nat×an:=(1026,(.row U 7 [[X [109,97,105,110],.ao,Z U,X [],I J 0,.ag 1020 0 4 9 Y,I J 26]]))
def hx:Nat×an:=(1029,(.row U 2 [[I J 0,I J 0]]))
def iw:Nat×an:=(1048,(.row U 4 [[X [97],I J 1,I J 0,I J 0]]))
def ix:Nat×an:=(1051,(.row U 2 [[X [82],.ag 1048 0 1 4 Y]]))
def iq:Nat×an:=(1359,(.row U 4 [[I J 0,I J 3,I J 0,I J 0]]))
def ir:Nat×an:=(1398,(.row U 3 [[I J 3,I J 0,I J 0],[I J 3,I J 0,I J 0],[I J 1,I J 0,I J 0],[I J 1,I J 0,I J 0],[I J 1,I J 0,I J 0]]))
def iu:Nat×an:=(1407,(.row U 6 [[I J 11,I J 1,I J 0,I J 0,I J 0,.ao],[I J 3,I J 0,I J 1,I J 0,I J 0,.ao],[I J 1,I J 2,I J 0,I J 0,I J 3,.ao],[I J 7,I J 0,I J 2,I J 0,I J 0,.ao],[I J 6,I J 3,I J 0,I J 0,I J 0,.ao],[I J 15,I J 3,I J 0,I J 0,I J 0,.ao],[I J 1,I J 4,I J 0,I J 0,I J 4,.ao],[I J 15,I J 4,I J 0,I J 0,I J 0,.ao],[I J 18,(I J (-1)),I J 0,I J 0,I J 0,.ao]]))
def iv:Nat×an:=(1409,(.row U 7 [[I J 0,.ag 1398 0 5 3 Y,Z U,I J 0,I J 0,I J 0,.ag 1407 0 9 6 Y]]))
def hG:Nat×an:=(1411,(.row U 2 [[I J 0,I J 0]]))
def iW:Nat×an:=(1412,(.row U 5 [[.ag 1051 0 1 2 Y,.ao,.ag 1409 0 1 7 Y,.ag 1359 0 1 4 Y,I J 0]]))
def iX:Nat×an:=(1413,(.row U 4 [[.ao,.ao,.ao,I J 0]]))
def jK:Nat×an:=(2574,(.row U 1 [[I J 0]]))
def jL:Nat×an:=(2587,(.row U 1 [[I J 0],[I J 0],[(I J (-1))],[(I J (-1))],[(I J (-1))],[(I J (-1))]]))
def jM:Nat×an:=(2611,(.row U 1 [[(I J (-1))],[(I J (-1))],[(I J (-1))],[(I J (-1))],[(I J (-1))],[(I J (-1))],[(I J (-1))],[(I J (-1))]]))
def jN:Nat×an:=(2613,(.row U 1 [[.ag 2611 0 8 1 Y]]))
def kj:Nat×an:=(4010,(.row U 1 [[.ao]]))
def jX:Nat×an:=(5638,(.row U 1 [[I J 0]]))
def mL:Nat×an:=(5640,(.row U 1 [[.ag 5638 0 1 1 Y]]))
def qp:Nat×an:=(5641,(.row U 13 [[.ag 1051 0 1 2 Y,.ao,.ag 1409 0 1 7 Y,.ag 1359 0 1 4 Y,I J 0,I J 1,(.ag 2574 0 1 1 (D 1)),.ag 2587 0 6 1 Y,.ag 2613 0 1 1 Y,(.ag 4010 0 1 1 (D 1)),.ag 5640 0 1 1 Y,I J 5,I J 5]]))
def n1:Nat×an:=(5642,(.row U 7 [[I J 0,.ag 1398 0 5 3 Y,Z U,I J 0,I J 0,I J 0,.ag 1407 0 9 6 Y]]))
def n2:Nat×an:=(5643,(.row U 4 [[.ag 5825 0 1 2 Y,.ao,.ao,I J 0]]))
def kk:Nat×an:=(5823,(.row U 1 [[(I J (-2))]]))
def n3:Nat×an:=(5824,(.row U 2 [[Z U,.ag 5823 0 1 1 Y]]))
def km:Nat×an:=(5825,(.row U 2 [[Z U,.ag 5823 0 1 1 Y]]))
def x2:Nat×an:=(5826,(.row U 6 [[I J 0,.ao,I J 0,.ao,.ao,.ao]]))
def x3:Nat×an:=(5827,(.row U 7 [[I J 0,.ag 1398 0 5 3 Y,Z U,I J 0,I J 0,I J 0,.ag 1407 0 9 6 Y]]))
def x4:Nat×an:=(5828,(.row U 6 [[I J 0,.ag 5853 0 5 1 Y,(I J (-3)),.ao,.ag 5638 0 1 1 Y,.ao]]))
def x5:Nat×an:=(5849,(.row U 3 [[I J 1,I J 0,I J 0]]))
def x6:Nat×an:=(5852,(.row U 1 [[(I J (-2))]]))
def k6:Nat×an:=(5853,(.row U 1 [[I J 0],[I J 0],[(I J (-2))],[(I J (-2))],[(I J (-2))]]))
def D3:Nat×an:=(8723,(.row U 1 [[I J 0]]))
def D4:Nat×an:=(8736,(.row U 1 [[I J 0]]))
def D5:Nat×an:=(8751,(.row U 1 [[I J 0]]))
def D6:Nat×an:=(8764,(.row U 1 [[I J 0]]))
def D7:Nat×an:=(8790,(.row U 1 [[.ao],[.ag 8723 0 1 1 Y],[.ag 8736 0 1 1 Y],[.ag 8751 0 1 1 Y],[.ag 8764 0 1 1 Y],[.ao],[.ao],[.ao],[.ao]]))
def x7:Nat×an:=(11809,(.row U 1 [[I J 0]]))
def x8:Nat×an:=(11878,(.row U 1 [[I J 0]]))
def x9:Nat×an:=(11919,(.row U 6 [[I J 21,I J 0,I J 0,I J 0,I J 0,.ag 11809 0 1 1 Y],[I J 11,I J 1,I J 0,I J 0,I J 0,.ao],[I J 3,I J 0,I J 1,I J 0,I J 0,.ao],[I J 1,I J 2,I J 0,I J 0,I J 3,.ao],[I J 7,I J 0,I J 2,I J 0,I J 0,.ao],[I J 6,I J 3,I J 0,I J 0,I J 0,.ao],[I J 22,I J 0,I J 0,I J 0,I J 0,.ag 11878 0 1 1 Y],[I J 15,I J 3,I J 0,I J 0,I J 0,.ao],[I J 1,I J 4,I J 0,I J 0,I J 4,.ao],[I J 15,I J 4,I J 0,I J 0,I J 0,.ao],[I J 18,(I J (-1)),I J 0,I J 0,I J 0,.ao]]))
def D8:Nat×an:=(11921,(.row U 6 [[I J 0,.ag 5853 0 5 1 Y,(I J (-3)),.ao,.ag 5638 0 1 1 Y,.ag 11919 0 11 6 Y]]))
def JU:Nat×an:=(11922,(.row U 4 [[.ag 5825 0 1 2 Y,.ao,.ag 11921 0 1 6 Y,I J 0]]))
def gN:D2:=[TY,TZ,T0,T3,T4,T5,T6,T7,T8,T9,T_,Ua,Ub,Uc,Ud,Ue,Uf,Ug,Uh,(78,(.row U 1 [])),(79,(.row U 1 [])),Ui,Uj,Uk]
def gO:D2:=[Tb,Tc,Td,Te,Tf,Tg,Th,Ti,Tj,Tk,Tl,Tm,Tn,To,Tp,Tq,Tr,Ts,Tt,Tu,Tv,Tw,Tx,Ty]
def gP:D2:=[Tz,TA,TB,TC,TD,TE,TF,TG,TH,TI,TJ,TK,TL,TM,TN,TO,TP,TQ,TR,TS,TT,TV,TW,TX]
def JJ:aR:=⟨32,[X [114,101,99,111,114,100,32,82,32,123,32,97,58,32,105,110,116,59,32,125,32,102,117,110,99,32,109,97,105,110,40,41,32,123,32,108,101,116,32,114,58,32,82,32,61,32,110,101,119,32,82,59,32,114,46,97,32,61,32,51,59,32,112,114,105,110,116,32,114,46,97,59,32,112,114,105,110,116,32,52,59,32,125]],92,([gw,gx,gy,gz,gA,gB,gC,gD,gE,gM]++gO++gP++gN++[gF,gG,gH,gI,gJ,gK,(89,(.row U 1 [])),(90,(.row U 1 [])),gL]),(.tuple [.agg [.ag 330 0 1 3 Y,.ao,.ag 1026 0 1 7 Y],.agg [I J 0,I J 0]]),1028,([gw,gx,gy,gz,gA,gB,gC,gD,gE,gM]++gO++gP++gN++[gF,gG,gH,gI,gJ,gK,(89,(.row U 1 [])),(90,(.row U 1 [])),gL,JV,JW,JX,JY,JZ,J0,J1,J2,J3,J4])⟩
def SY(a:aZ az P aY):JJ.Ok az P:=aR.bm (bk a bB 100) j
def JL:aR:=⟨33,[.agg [.ag 330 0 1 3 Y,.ao,.ag 1026 0 1 7 Y]],1030,([gw,gx,gy,gz,gA,gB,gC,gD,gE,gM]++gO++gP++gN++[gF,gG,gH,gI,gJ,gK,(89,(.row U 1 [])),(90,(.row U 1 [])),gL,JV,JW,JX,JY,JZ,J0,J1,J2,J3,J4,hx]),(.tuple [.agg [.ag 1051 0 1 2 Y,.ao,.ag 1409 0 1 7 Y,.ag 1359 0 1 4 Y,I J 0],.agg [I J 0,I J 0]]),1410,([gw,gx,gy,gz,gA,gB,gC,gD,gE,gM]++gO++gP++gN++[gF,gG,gH,gI,gJ,gK,(89,(.row U 1 [])),(90,(.row U 1 [])),gL,hx,iw,ix,iq,ir,iu,iv])⟩
def S0(a:aZ az P aY):JL.Ok az P:=aR.bm (bk a bB 100) j
def JP:aR:=⟨76,[.agg [.ag 1051 0 1 2 Y,.ao,.ag 1409 0 1 7 Y,.ag 1359 0 1 4 Y,I J 0]],1583,([gw,gx,gy,gz,gA,gB,gC,gD,gE,gM]++gO++gP++gN++[gF,gG,gH,gI,gJ,gK,(89,(.row U 1 [])),(90,(.row U 1 [])),gL,hx,iw,ix,iq,ir,iu,iv,hG,iW,iX]),(.agg [I J 1,(.ag 2574 0 1 1 (D 1)),.ag 2587 0 6 1 Y,.ag 2613 0 1 1 Y]),2616,([gw,gx,gy,gz,gA,gB,gC,gD,gE,gM]++gO++gP++gN++[gF,gG,gH,gI,gJ,gK,(89,(.row U 1 [])),(90,(.row U 1 [])),gL,hx,iw,ix,iq,ir,iu,iv,hG,iW,iX,jK,jL,jM,jN])⟩
def S4(a:aZ az P aY):JP.Ok az P:=aR.bm (bk a bB 100) j
def JQ:aR:=⟨77,[.agg [.ag 1051 0 1 2 Y,.ao,.ag 1409 0 1 7 Y,.ag 1359 0 1 4 Y,I J 0]],2616,([gw,gx,gy,gz,gA,gB,gC,gD,gE,gM]++gO++gP++gN++[gF,gG,gH,gI,gJ,gK,(89,(.row U 1 [])),(90,(.row U 1 [])),gL,hx,iw,ix,iq,ir,iu,iv,hG,iW,iX,jK,jL,jM,jN]),(.ag 4010 0 1 1 (D 1)),4031,([gw,gx,gy,gz,gA,gB,gC,gD,gE,gM]++gO++gP++gN++[gF,gG,gH,gI,gJ,gK,(89,(.row U 1 [])),(90,(.row U 1 [])),gL,hx,iw,ix,iq,ir,iu,iv,hG,iW,iX,jK,jL,jM,jN,kj])⟩
def S5(a:aZ az P aY):JQ.Ok az P:=aR.bm (bk a bB 100) j
def JR:aR:=⟨78,[.agg [.ag 1051 0 1 2 Y,.ao,.ag 1409 0 1 7 Y,.ag 1359 0 1 4 Y,I J 0]],4031,([gw,gx,gy,gz,gA,gB,gC,gD,gE,gM]++gO++gP++gN++[gF,gG,gH,gI,gJ,gK,(89,(.row U 1 [])),(90,(.row U 1 [])),gL,hx,iw,ix,iq,ir,iu,iv,hG,iW,iX,jK,jL,jM,jN,kj]),.ag 5640 0 1 1 Y,5641,([gw,gx,gy,gz,gA,gB,gC,gD,gE,gM]++gO++gP++gN++[gF,gG,gH,gI,gJ,gK,(89,(.row U 1 [])),(90,(.row U 1 [])),gL,hx,iw,ix,iq,ir,iu,iv,hG,iW,iX,jK,jL,jM,jN,kj,jX,mL])⟩
def S7(a:aZ az P aY):JR.Ok az P:=aR.bm (bk a bB 100) j
def JM:aR:=⟨16,[.agg [.ag 1051 0 1 2 Y,.ao,.ag 1409 0 1 7 Y,.ag 1359 0 1 4 Y,I J 0],I J 0],5854,([gw,gx,gy,gz,gA,gB,gC,gD,gE,gM]++gO++gP++gN++[gF,gG,gH,gI,gJ,gK,(89,(.row U 1 [])),(90,(.row U 1 [])),gL,hx,iw,ix,iq,ir,iu,iv,hG,iW,iX,jK,jL,jM,jN,kj,jX,mL,qp,n1,n2,kk,n3,km,x2,x3,x4,x5,x6,k6]),.ag 8790 0 9 1 Y,8791,([gw,gx,gy,gz,gA,gB,gC,gD,gE,gM]++gO++gP++gN++[gF,gG,gH,gI,gJ,gK,(89,(.row U 1 [])),(90,(.row U 1 [])),gL,hx,iw,ix,iq,ir,iu,iv,hG,iW,iX,jK,jL,jM,jN,kj,jX,mL,qp,n1,n2,kk,n3,km,x2,x3,x4,x5,x6,k6,D3,D4,D5,D6,D7])⟩
def SZ(a:aZ az P aY):JM.Ok az P:=aR.bm (bk a bB 100) j
def JO:aR:=⟨19,[.agg [.ag 1051 0 1 2 Y,.ao,.ag 1409 0 1 7 Y,.ag 1359 0 1 4 Y,I J 0],I J 0],8791,([gw,gx,gy,gz,gA,gB,gC,gD,gE,gM]++gO++gP++gN++[gF,gG,gH,gI,gJ,gK,(89,(.row U 1 [])),(90,(.row U 1 [])),gL,hx,iw,ix,iq,ir,iu,iv,hG,iW,iX,jK,jL,jM,jN,kj,jX,mL,qp,n1,n2,kk,n3,km,x2,x3,x4,x5,x6,k6,D3,D4,D5,D6,D7]),(.ag 11728 0 9 1 (D 9)),11802,([gw,gx,gy,gz,gA,gB,gC,gD,gE,gM]++gO++gP++gN++[gF,gG,gH,gI,gJ,gK,(89,(.row U 1 [])),(90,(.row U 1 [])),gL,hx,iw,ix,iq,ir,iu,iv,hG,iW,iX,jK,jL,jM,jN,kj,jX,mL,qp,n1,n2,kk,n3,km,x2,x3,x4,x5,x6,k6,D3,D4,D5,D6,D7,(11728,(.row U 1 [[.ag 11750 0 1 1 Y],[.ag 11760 0 0 1 Y],[.ag 11770 0 0 1 Y],[.ag 11780 0 0 1 Y],[.ao],[.ao],[.ao],[.ao],[.ao]])),(11750,(.row U 1 [[I J 0]])),(11760,(.row U 1 [[I J 0]])),(11770,(.row U 1 [[I J 0]])),(11780,(.row U 1 [[I J 0]]))])⟩
def S3(a:aZ az P aY):JO.Ok az P:=aR.bm (bk a bB 100) j
def JT:aR:=⟨81,[.ptr 5641 0 0,I J 0],5826,([gw,gx,gy,gz,gA,gB,gC,gD,gE,gM]++gO++gP++gN++[gF,gG,gH,gI,gJ,gK,(89,(.row U 1 [])),(90,(.row U 1 [])),gL,hx,iw,ix,iq,ir,iu,iv,hG,iW,iX,jK,jL,jM,jN,kj,jX,mL,(5641,(.row U 13 [[.ag 1051 0 1 2 Y,.ao,.ag 1409 0 1 7 Y,.ag 1359 0 1 4 Y,I J 0,I J 1,(.ag 2574 0 1 1 (D 1)),.ag 2587 0 6 1 Y,.ag 2613 0 1 1 Y,(.ag 4010 0 1 1 (D 1)),.ag 5640 0 1 1 Y,I J 0,I J 5]])),n1,n2,kk,n3,km]),(.agg [I J 0,.ag 5853 0 5 1 Y,(I J (-3)),.ao,.ag 5638 0 1 1 Y,.ag 11919 0 11 6 Y]),11920,([gw,gx,gy,gz,gA,gB,gC,gD,gE,gM]++gO++gP++gN++[gF,gG,gH,gI,gJ,gK,(89,(.row U 1 [])),(90,(.row U 1 [])),gL,hx,iw,ix,iq,ir,iu,iv,hG,iW,iX,jK,jL,jM,jN,kj,jX,mL,qp,n1,n2,kk,n3,km,k6,x7,x8,x9])⟩
def S8(a:aZ az P aY):∀s∈[JM,JO],s.Ok az P:=by
 intro s b;simp only[List.mem_cons,List.not_mem_nil,or_false]at b;rcases b with rfl|rfl
 ·exact SZ a
 ·exact S3 a
def S9(a:aZ az P aY):JT.Ok az P:=aR.bm (bk (dn a (S8 a)) lO 100) j
def JN:aR:=⟨37,[.agg [.ag 1051 0 1 2 Y,.ao,.ag 1409 0 1 7 Y,.ag 1359 0 1 4 Y,I J 0]],1412,([gw,gx,gy,gz,gA,gB,gC,gD,gE,gM]++gO++gP++gN++[gF,gG,gH,gI,gJ,gK,(89,(.row U 1 [])),(90,(.row U 1 [])),gL,hx,iw,ix,iq,ir,iu,iv,hG]),.agg [.ag 5825 0 1 2 Y,.ao,.ag 11921 0 1 6 Y,I J 0],11922,([gw,gx,gy,gz,gA,gB,gC,gD,gE,gM]++gO++gP++gN++[gF,gG,gH,gI,gJ,gK,(89,(.row U 1 [])),(90,(.row U 1 [])),gL,hx,hG,jX,kk,km,k6,x7,x8,x9,D8])⟩
def S1(a:aZ az P aY):∀s∈[JP,JQ,JR,JT],s.Ok az P:=by
 intro s b;simp only[List.mem_cons,List.not_mem_nil,or_false]at b;rcases b with rfl|rfl|rfl|rfl
 ·exact S4 a
 ·exact S5 a
 ·exact S7 a
 ·exact S9 a
def S2(a:aZ az P aY):JN.Ok az P:=aR.bm (bk (dn a (S1 a)) mT 100) j
def JS:aR:=⟨39,[],11936,([gw,gx,gy,gz,gA,gB,gC,gD,gE,gM]++gO++gP++gN++[gF,gG,gH,gI,gJ,gK,(89,(.row U 1 [])),(90,(.row U 1 [])),gL,hx,hG,jX,kk,km,k6,x7,x8,x9,D8,JU]),Z V,11936,([gw,gx,gy,gz,gA,gB,gC,gD,gE,gM]++gO++gP++gN++[gF,gG,gH,gI,gJ,gK,(89,(.row U 1 [])),(90,(.row U 1 [])),gL,hx,hG,jX,kk,km,k6,x7,x8,x9,D8,JU])⟩
def S6(a:aZ az P aY):JS.Ok az P:=nW a _
def S_(a:aZ az P aY):∀s∈[JJ,JL,JN,JS],s.Ok az P:=by
 intro s b;simp only[List.mem_cons,List.not_mem_nil,or_false]at b;rcases b with rfl|rfl|rfl|rfl
 ·exact SY a
 ·exact S0 a
 ·exact S2 a
 ·exact S6 a
def Ta(a:aZ az P aY)(H:af):eM az P 12 [I J 0] H (Z V) H:=by
 obtain⟨bh,c⟩:=mE (b:=true) (m:=9) (f:=12) (args:=[I J 0]) (H:=af.empty) (dn a (S_ a)) oF j;exact nI c H
end
section
set_option maxRecDepth 1000000
abbrev D9:=List (Nat×an)
def dJ:Nat×an:=(1,(.row U 1 [[I J 21],[I J 0]]))
def dK:Nat×an:=(2,(.row U 1 [[I J 11]]))
def dL:Nat×an:=(3,(.row U 1 [[I J 3]]))
def dM:Nat×an:=(4,(.row U 1 [[I J 1]]))
def dN:Nat×an:=(5,(.row U 1 [[I J 7]]))
def dO:Nat×an:=(6,(.row U 1 [[I J 6]]))
def dP:Nat×an:=(7,(.row U 1 [[I J 22],[I J 0]]))
def dQ:Nat×an:=(8,(.row U 1 [[I J 15]]))
def dR:Nat×an:=(9,(.row U 1 [[I J 1]]))
def dZ:Nat×an:=(10,(.row U 1 [[I J 15]]))
def UL:Nat×an:=(11,(.row U 1 [[I J 18]]))
def UM:Nat×an:=(12,(.row U 1 [[(.ag 1 0 2 1 (D 2))],[(.ag 2 0 1 1 (D 1))],[(.ag 3 0 1 1 (D 1))],[(.ag 4 0 1 1 (D 1))],[(.ag 5 0 1 1 (D 1))],[(.ag 6 0 1 1 (D 1))],[(.ag 7 0 2 1 (D 2))],[(.ag 8 0 1 1 (D 1))],[(.ag 9 0 1 1 (D 1))],[(.ag 10 0 1 1 (D 1))],[(.ag 11 0 1 1 (D 1))]]))
def UN:Nat×an:=(13,(.row U 1 [[I J 1]]))
def UO:Nat×an:=(14,(.row U 1 [[I J 3]]))
def UP:Nat×an:=(15,(.row U 1 [[I J 1]]))
def UQ:Nat×an:=(16,(.row U 1 [[I J 4]]))
def UR:Nat×an:=(17,(.row U 1 [[I J 17],[I J 5],[I J 6]]))
def US:Nat×an:=(18,(.row U 1 [[I J 16],[I J 7]]))
def UT:Nat×an:=(19,(.row U 1 [[I J 16],[I J 17]]))
def UU:Nat×an:=(20,(.row U 1 [[I J 21],[I J 0]]))
def UW:Nat×an:=(21,(.row U 1 [[I J 11]]))
def UX:Nat×an:=(22,(.row U 1 [[I J 3]]))
def UY:Nat×an:=(23,(.row U 1 [[I J 6]]))
def UZ:Nat×an:=(24,(.row U 1 [[I J 22],[I J 0]]))
def U0:Nat×an:=(25,(.row U 1 [[I J 15]]))
def U1:Nat×an:=(26,(.row U 1 [[I J 1]]))
def U2:Nat×an:=(27,(.row U 1 [[I J 4]]))
def U3:Nat×an:=(28,(.row U 1 [[I J 3]]))
def U4:Nat×an:=(29,(.row U 1 [[I J 16],[I J 2]]))
def U5:Nat×an:=(30,(.row U 1 [[I J 18]]))
def U6:Nat×an:=(31,(.row U 1 [[(.ag 13 0 1 1 (D 1))],[(.ag 14 0 1 1 (D 1))],[(.ag 15 0 1 1 (D 1))],[(.ag 16 0 1 1 (D 1))],[(.ag 17 0 3 1 (D 3))],[(.ag 18 0 2 1 (D 2))],[(.ag 19 0 2 1 (D 2))],[(.ag 20 0 2 1 (D 2))],[(.ag 21 0 1 1 (D 1))],[(.ag 22 0 1 1 (D 1))],[(.ag 23 0 1 1 (D 1))],[(.ag 24 0 2 1 (D 2))],[(.ag 25 0 1 1 (D 1))],[(.ag 26 0 1 1 (D 1))],[(.ag 27 0 1 1 (D 1))],[(.ag 28 0 1 1 (D 1))],[(.ag 29 0 2 1 (D 2))],[(.ag 30 0 1 1 (D 1))]]))
def U7:Nat×an:=(32,(.row U 1 [[I J 21],[I J 0],[I J 1]]))
def U8:Nat×an:=(33,(.row U 1 [[I J 11]]))
def U9:Nat×an:=(34,(.row U 1 [[I J 3]]))
def U_:Nat×an:=(35,(.row U 1 [[I J 13]]))
def Va:Nat×an:=(36,(.row U 1 [[I J 22],[I J 0],[I J 1]]))
def Vb:Nat×an:=(37,(.row U 1 [[I J 1]]))
def Vc:Nat×an:=(38,(.row U 1 [[I J 15]]))
def Vd:Nat×an:=(39,(.row U 1 [[I J 18]]))
def Ve:Nat×an:=(40,(.row U 1 [[(.ag 32 0 3 1 (D 3))],[(.ag 33 0 1 1 (D 1))],[(.ag 34 0 1 1 (D 1))],[(.ag 35 0 1 1 (D 1))],[(.ag 36 0 3 1 (D 3))],[(.ag 37 0 1 1 (D 1))],[(.ag 38 0 1 1 (D 1))],[(.ag 39 0 1 1 (D 1))]]))
def Vf:Nat×an:=(41,(.row U 1 [[I J 21],[I J 0]]))
def Vg:Nat×an:=(42,(.row U 1 [[I J 13]]))
def Vh:Nat×an:=(43,(.row U 1 [[I J 3]]))
def Vi:Nat×an:=(44,(.row U 1 [[I J 2]]))
def Vj:Nat×an:=(45,(.row U 1 [[I J 4]]))
def Vk:Nat×an:=(46,(.row U 1 [[I J 22],[I J 0]]))
def Vl:Nat×an:=(47,(.row U 1 [[I J 17],[I J 7],[I J 8]]))
def Vm:Nat×an:=(48,(.row U 1 [[I J 16],[I J 9]]))
def Vn:Nat×an:=(49,(.row U 1 [[I J 16],[I J 12]]))
def Vo:Nat×an:=(50,(.row U 1 [[I J 1]]))
def Vp:Nat×an:=(51,(.row U 1 [[I J 15]]))
def Vq:Nat×an:=(52,(.row U 1 [[I J 16],[I J 12]]))
def Vr:Nat×an:=(53,(.row U 1 [[I J 18]]))
def Vs:Nat×an:=(54,(.row U 1 [[(.ag 41 0 2 1 (D 2))],[(.ag 42 0 1 1 (D 1))],[(.ag 43 0 1 1 (D 1))],[(.ag 44 0 1 1 (D 1))],[(.ag 45 0 1 1 (D 1))],[(.ag 46 0 2 1 (D 2))],[(.ag 47 0 3 1 (D 3))],[(.ag 48 0 2 1 (D 2))],[(.ag 49 0 2 1 (D 2))],[(.ag 50 0 1 1 (D 1))],[(.ag 51 0 1 1 (D 1))],[(.ag 52 0 2 1 (D 2))],[(.ag 53 0 1 1 (D 1))]]))
def Vt:Nat×an:=(55,(.row U 1 [[I J 21],[I J 0]]))
def Vu:Nat×an:=(56,(.row U 1 [[I J 11]]))
def Vv:Nat×an:=(57,(.row U 1 [[I J 3]]))
def Vw:Nat×an:=(58,(.row U 1 [[I J 14]]))
def Vx:Nat×an:=(59,(.row U 1 [[I J 1]]))
def Vy:Nat×an:=(60,(.row U 1 [[I J 4]]))
def Vz:Nat×an:=(61,(.row U 1 [[I J 17],[I J 7],[I J 8]]))
def VA:Nat×an:=(62,(.row U 1 [[I J 16],[I J 10]]))
def VB:Nat×an:=(63,(.row U 1 [[I J 22],[I J 0]]))
def VC:Nat×an:=(64,(.row U 1 [[I J 16],[I J 14]]))
def VD:Nat×an:=(65,(.row U 1 [[I J 6]]))
def VE:Nat×an:=(66,(.row U 1 [[I J 22],[I J 0]]))
def VF:Nat×an:=(67,(.row U 1 [[I J 15]]))
def VG:Nat×an:=(68,(.row U 1 [[I J 16],[I J 14]]))
def VH:Nat×an:=(69,(.row U 1 [[I J 1]]))
def VI:Nat×an:=(70,(.row U 1 [[I J 15]]))
def VJ:Nat×an:=(71,(.row U 1 [[I J 18]]))
def VK:Nat×an:=(72,(.row U 1 [[(.ag 55 0 2 1 (D 2))],[(.ag 56 0 1 1 (D 1))],[(.ag 57 0 1 1 (D 1))],[(.ag 58 0 1 1 (D 1))],[(.ag 59 0 1 1 (D 1))],[(.ag 60 0 1 1 (D 1))],[(.ag 61 0 3 1 (D 3))],[(.ag 62 0 2 1 (D 2))],[(.ag 63 0 2 1 (D 2))],[(.ag 64 0 2 1 (D 2))],[(.ag 65 0 1 1 (D 1))],[(.ag 66 0 2 1 (D 2))],[(.ag 67 0 1 1 (D 1))],[(.ag 68 0 2 1 (D 2))],[(.ag 69 0 1 1 (D 1))],[(.ag 70 0 1 1 (D 1))],[(.ag 71 0 1 1 (D 1))]]))
def VL:Nat×an:=(73,(.row U 1 [[I J 11]]))
def VM:Nat×an:=(74,(.row U 1 [[I J 20]]))
def VN:Nat×an:=(75,(.row U 1 [[I J 18]]))
def VO:Nat×an:=(76,(.row U 1 [[(.ag 73 0 1 1 (D 1))],[(.ag 74 0 1 1 (D 1))],[(.ag 75 0 1 1 (D 1))]]))
def VP:Nat×an:=(77,(.row U 1 [[(.ag 12 0 11 1 (D 11))],[(.ag 31 0 18 1 (D 18))],[(.ag 40 0 8 1 (D 8))],[(.ag 54 0 13 1 (D 13))],[(.ag 72 0 17 1 (D 17))],[(.ag 76 0 3 1 (D 3))]]))
def VQ:Nat×an:=(80,(.row U 1 [[I J 11]]))
def VR:Nat×an:=(81,(.row U 1 [[I J 7]]))
def VS:Nat×an:=(82,(.row U 1 [[I J 18]]))
def dS:Nat×an:=(83,(.row U 1 [[(.ag 80 0 1 1 (D 1))],[(.ag 81 0 1 1 (D 1))],[(.ag 82 0 1 1 (D 1))]]))
def dT:Nat×an:=(84,(.row U 1 [[I J 11]]))
def dU:Nat×an:=(85,(.row U 1 [[I J 18]]))
def dV:Nat×an:=(86,(.row U 1 [[I J 2]]))
def dW:Nat×an:=(87,(.row U 1 [[I J 18]]))
def dX:Nat×an:=(88,(.row U 1 [[(.ag 84 0 1 1 (D 1))],[(.ag 85 0 1 1 (D 1))],[(.ag 86 0 1 1 (D 1))],[(.ag 87 0 1 1 (D 1))]]))
def dY:Nat×an:=(91,(.row U 1 [[(.ag 78 0 0 1 (D 0))],[(.ag 79 0 0 1 (D 0))],[(.ag 83 0 3 1 (D 3))],[(.ag 88 0 4 1 (D 4))],[(.ag 89 0 0 1 (D 0))],[(.ag 90 0 0 1 (D 0))]]))
def Kp:Nat×an:=(373,(.row U 4 [[X [97],X [105,110,116],I J 0,I J 11]]))
def Kq:Nat×an:=(381,(.row U 3 [[X [82],.ag 373 0 1 4 Y,I J 7]]))
def Kr:Nat×an:=(532,(.row U 11 [[I J 1,I J 2,X [],X [],I J 0,.ao,I J 48,I J 0,I J 0,I J 0,I J 0]]))
def Ks:Nat×an:=(701,(.row U 11 [[I J 1,I J 0,X [],X [],I J 0,.ao,I J 57,I J 0,I J 0,I J 0,I J 0],[I J 4,I J 0,X [107],X [],I J 0,.ao,I J 61,I J 0,I J 0,I J 0,I J 0]]))
def Kt:Nat×an:=(746,(.row U 11 [[I J 19,I J 0,X [],X [],I J 0,(.ag 701 0 2 11 (D 2)),I J 59,I J 0,I J 0,I J 0,I J 0]]))
def Ku:Nat×an:=(887,(.row U 11 [[I J 8,I J 0,X [],X [82],I J 0,.ao,I J 76,I J 0,I J 0,I J 0,I J 0]]))
def Kv:Nat×an:=(954,(.row U 11 [[I J 4,I J 0,X [114],X [],I J 0,.ao,I J 89,I J 0,I J 0,I J 0,I J 0]]))
def Kw:Nat×an:=(1034,(.row U 11 [[I J 5,I J 0,X [97],X [],I J 0,(.ag 954 0 1 11 (D 1)),I J 90,I J 0,I J 0,I J 0,I J 0]]))
def Kx:Nat×an:=(1298,(.row U 11 [[I J 4,I J 0,X [107],X [],I J 0,.ao,I J 98,I J 0,I J 0,I J 0,I J 0],[I J 1,I J 1,X [],X [],I J 0,.ao,I J 102,I J 0,I J 0,I J 0,I J 0]]))
def Ky:Nat×an:=(1361,(.row U 11 [[I J 15,I J 0,X [],X [],I J 0,(.ag 1298 0 2 11 (D 2)),I J 100,I J 0,I J 0,I J 0,I J 0]]))
def Kz:Nat×an:=(1363,(.row U 9 [[I J 2,X [114],X [82],I J 0,(.ag 887 0 1 11 (D 1)),.ao,.ao,I J 65,I J 0],[I J 8,X [],X [],I J 0,(.ag 1034 0 1 11 (D 1)),.ao,.ao,I J 83,I J 0],[I J 3,X [107],X [],I J 0,(.ag 1361 0 1 11 (D 1)),.ao,.ao,I J 94,I J 0]]))
def KA:Nat×an:=(1369,(.row U 9 [[I J 2,X [107],X [105,110,116],I J 0,(.ag 532 0 1 11 (D 1)),.ao,.ao,I J 35,I J 0],[I J 6,X [],X [],I J 0,(.ag 746 0 1 11 (D 1)),.ag 1363 0 3 9 Y,.ao,I J 51,I J 0]]))
def KB:Nat×an:=(1375,(.row U 7 [[X [109,97,105,110],.ao,Z U,X [],I J 0,.ag 1369 0 2 9 Y,I J 26]]))
def eD:Nat×an:=(1378,(.row U 2 [[I J 0,I J 0]]))
def eO:Nat×an:=(1397,(.row U 4 [[X [97],I J 1,I J 0,I J 0]]))
def eP:Nat×an:=(1400,(.row U 2 [[X [82],.ag 1397 0 1 4 Y]]))
def eQ:Nat×an:=(1852,(.row U 4 [[I J 0,I J 3,I J 0,I J 0]]))
def eR:Nat×an:=(1889,(.row U 3 [[I J 1,I J 0,I J 0],[I J 3,I J 0,I J 0],[I J 1,I J 0,I J 0],[I J 1,I J 0,I J 0],[I J 2,I J 0,I J 0],[I J 3,I J 0,I J 0],[I J 1,I J 0,I J 0],[I J 1,I J 0,I J 0],[I J 1,I J 0,I J 0]]))
def eS:Nat×an:=(1901,(.row U 6 [[I J 1,I J 2,I J 0,I J 0,I J 2,.ao],[I J 3,I J 0,I J 2,I J 0,I J 0,.ao],[I J 1,I J 3,I J 0,I J 0,I J 0,.ao],[I J 4,I J 4,I J 3,I J 0,I J 19,.ao],[I J 17,I J 4,I J 0,I J 13,I J 5,.ao],[I J 11,I J 5,I J 0,I J 0,I J 0,.ao],[I J 3,I J 1,I J 5,I J 0,I J 0,.ao],[I J 6,I J 6,I J 1,I J 0,I J 0,.ao],[I J 15,I J 6,I J 0,I J 0,I J 0,.ao],[I J 1,I J 7,I J 0,I J 0,I J 1,.ao],[I J 4,I J 8,I J 0,I J 7,I J 15,.ao],[I J 3,I J 0,I J 8,I J 0,I J 0,.ao],[I J 16,I J 0,I J 0,I J 0,I J 2,.ao],[I J 18,(I J (-1)),I J 0,I J 0,I J 0,.ao]]))
def eT:Nat×an:=(1903,(.row U 7 [[I J 0,.ag 1889 0 9 3 Y,Z U,I J 0,I J 0,I J 0,.ag 1901 0 14 6 Y]]))
def eI:Nat×an:=(1905,(.row U 2 [[I J 0,I J 0]]))
def e2:Nat×an:=(1906,(.row U 5 [[.ag 1400 0 1 2 Y,.ao,.ag 1903 0 1 7 Y,.ag 1852 0 1 4 Y,I J 0]]))
def e3:Nat×an:=(1907,(.row U 4 [[.ao,.ao,.ao,I J 0]]))
def e8:Nat×an:=(3588,(.row U 1 [[I J 0]]))
def e9:Nat×an:=(3609,(.row U 1 [[(I J (-1))],[I J 0],[(I J (-1))],[(I J (-1))],[(I J (-1))],[I J 0],[(I J (-1))],[(I J (-1))],[(I J (-1))],[(I J (-1))]]))
def e_:Nat×an:=(3633,(.row U 1 [[(I J (-1))],[(I J (-1))],[(I J (-1))],[(I J (-1))],[(I J (-1))],[(I J (-1))],[(I J (-1))],[(I J (-1))]]))
def fa:Nat×an:=(3635,(.row U 1 [[.ag 3633 0 8 1 Y]]))
def fw:Nat×an:=(5656,(.row U 1 [[.ao]]))
def fi:Nat×an:=(8024,(.row U 1 [[I J 0]]))
def fN:Nat×an:=(8026,(.row U 1 [[.ag 8024 0 1 1 Y]]))
def gn:Nat×an:=(8027,(.row U 13 [[.ag 1400 0 1 2 Y,.ao,.ag 1903 0 1 7 Y,.ag 1852 0 1 4 Y,I J 0,I J 1,(.ag 3588 0 1 1 (D 1)),.ag 3609 0 10 1 Y,.ag 3635 0 1 1 Y,(.ag 5656 0 1 1 (D 1)),.ag 8026 0 1 1 Y,I J 9,I J 9]]))
def fR:Nat×an:=(8028,(.row U 7 [[I J 0,.ag 1889 0 9 3 Y,Z U,I J 0,I J 0,I J 0,.ag 1901 0 14 6 Y]]))
def fS:Nat×an:=(8029,(.row U 4 [[.ag 8307 0 1 2 Y,.ao,.ao,I J 0]]))
def fx:Nat×an:=(8305,(.row U 1 [[(I J (-2))]]))
def fT:Nat×an:=(8306,(.row U 2 [[Z U,.ag 8305 0 1 1 Y]]))
def fy:Nat×an:=(8307,(.row U 2 [[Z U,.ag 8305 0 1 1 Y]]))
def gQ:Nat×an:=(8308,(.row U 6 [[I J 0,.ao,I J 0,.ao,.ao,.ao]]))
def gR:Nat×an:=(8309,(.row U 7 [[I J 0,.ag 1889 0 9 3 Y,Z U,I J 0,I J 0,I J 0,.ag 1901 0 14 6 Y]]))
def gS:Nat×an:=(8310,(.row U 6 [[I J 0,.ag 8355 0 9 1 Y,(I J (-3)),.ao,.ag 8024 0 1 1 Y,.ao]]))
def gT:Nat×an:=(8351,(.row U 3 [[I J 1,I J 0,I J 0]]))
def gU:Nat×an:=(8354,(.row U 1 [[(I J (-2))]]))
def fF:Nat×an:=(8355,(.row U 1 [[(I J (-2))],[I J 0],[(I J (-2))],[(I J (-2))],[(I J (-2))],[I J 0],[(I J (-2))],[(I J (-2))],[(I J (-2))]]))
def k7:Nat×an:=(8356,(.row U 5 [[.ag 1400 0 1 2 Y,.ao,.ag 1903 0 1 7 Y,.ag 1852 0 1 4 Y,I J 0]]))
def n4:Nat×an:=(8357,(.row U 5 [[.ag 1400 0 1 2 Y,.ao,.ag 1903 0 1 7 Y,.ag 1852 0 1 4 Y,I J 0]]))
def n_:Nat×an:=(10695,(.row U 1 [[I J 0]]))
def qq:Nat×an:=(10697,(.row U 1 [[.ag 10695 0 1 1 Y]]))
def x_:Nat×an:=(12113,(.row U 1 [[I J 0]]))
def ya:Nat×an:=(12134,(.row U 1 [[(I J (-1))],[I J 0],[(I J (-1))],[(I J (-1))],[(I J (-1))],[I J 0],[(I J (-1))],[(I J (-1))],[(I J (-1))],[(I J (-1))]]))
def yb:Nat×an:=(12158,(.row U 1 [[(I J (-1))],[(I J (-1))],[(I J (-1))],[(I J (-1))],[(I J (-1))],[(I J (-1))],[(I J (-1))],[(I J (-1))]]))
def yc:Nat×an:=(12160,(.row U 1 [[.ag 12158 0 8 1 Y]]))
def Km:Nat×an:=(12163,(.row U 12 [[.ag 1400 0 1 2 Y,.ao,.ag 1903 0 1 7 Y,.ag 1852 0 1 4 Y,I J 0,I J 0,I J 1,(.ag 12113 0 1 1 (D 1)),.ag 12134 0 10 1 Y,.ag 12160 0 1 1 Y,.ag 10695 0 1 1 Y,.ao]]))
def iY:Nat×an:=(12716,(.row U 1 [[I J 0]]))
def iZ:Nat×an:=(12731,(.row U 1 [[I J 0]]))
def i_:Nat×an:=(12781,(.row U 1 [[.ao],[.ao],[.ao],[.ao],[.ao],[.ao],[.ag 12716 0 1 1 Y],[.ag 12731 0 1 1 Y],[.ao],[.ao],[.ao],[.ao],[.ao],[.ao]]))
def k8:Nat×an:=(12782,(.row U 5 [[.ag 1400 0 1 2 Y,.ao,.ag 1903 0 1 7 Y,.ag 1852 0 1 4 Y,I J 0]]))
def oa:Nat×an:=(12783,(.row U 5 [[.ag 1400 0 1 2 Y,.ao,.ag 1903 0 1 7 Y,.ag 1852 0 1 4 Y,I J 0]]))
def ob:Nat×an:=(15121,(.row U 1 [[I J 0]]))
def qs:Nat×an:=(15123,(.row U 1 [[.ag 15121 0 1 1 Y]]))
def yd:Nat×an:=(16539,(.row U 1 [[I J 0]]))
def ye:Nat×an:=(16560,(.row U 1 [[(I J (-1))],[I J 0],[(I J (-1))],[(I J (-1))],[(I J (-1))],[I J 0],[(I J (-1))],[(I J (-1))],[(I J (-1))],[(I J (-1))]]))
def yf:Nat×an:=(16584,(.row U 1 [[(I J (-1))],[(I J (-1))],[(I J (-1))],[(I J (-1))],[(I J (-1))],[(I J (-1))],[(I J (-1))],[(I J (-1))]]))
def yg:Nat×an:=(16586,(.row U 1 [[.ag 16584 0 8 1 Y]]))
def Kn:Nat×an:=(16589,(.row U 12 [[.ag 1400 0 1 2 Y,.ao,.ag 1903 0 1 7 Y,.ag 1852 0 1 4 Y,I J 0,I J 0,I J 1,(.ag 16539 0 1 1 (D 1)),.ag 16560 0 10 1 Y,.ag 16586 0 1 1 Y,.ag 15121 0 1 1 Y,.ao]]))
def yh:Nat×an:=(17363,(.row U 1 [[I J 0]]))
def yi:Nat×an:=(17404,(.row U 1 [[I J 0]]))
def yj:Nat×an:=(17468,(.row U 6 [[I J 1,I J 2,I J 0,I J 0,I J 2,.ao],[I J 3,I J 0,I J 2,I J 0,I J 0,.ao],[I J 1,I J 3,I J 0,I J 0,I J 0,.ao],[I J 4,I J 4,I J 3,I J 0,I J 19,.ao],[I J 17,I J 4,I J 0,I J 6,I J 5,.ao],[I J 16,I J 0,I J 0,I J 0,I J 7,.ao],[I J 16,I J 0,I J 0,I J 0,I J 17,.ao],[I J 21,I J 0,I J 0,I J 0,I J 0,.ag 17363 0 1 1 Y],[I J 11,I J 5,I J 0,I J 0,I J 0,.ao],[I J 3,I J 1,I J 5,I J 0,I J 0,.ao],[I J 6,I J 6,I J 1,I J 0,I J 0,.ao],[I J 22,I J 0,I J 0,I J 0,I J 0,.ag 17404 0 1 1 Y],[I J 15,I J 6,I J 0,I J 0,I J 0,.ao],[I J 1,I J 7,I J 0,I J 0,I J 1,.ao],[I J 4,I J 8,I J 0,I J 7,I J 15,.ao],[I J 3,I J 0,I J 8,I J 0,I J 0,.ao],[I J 16,I J 0,I J 0,I J 0,I J 2,.ao],[I J 18,(I J (-1)),I J 0,I J 0,I J 0,.ao]]))
def D_:Nat×an:=(17470,(.row U 6 [[I J 0,.ag 8355 0 9 1 Y,(I J (-3)),.ao,.ag 8024 0 1 1 Y,.ag 17468 0 18 6 Y]]))
def Ko:Nat×an:=(17471,(.row U 4 [[.ag 8307 0 1 2 Y,.ao,.ag 17470 0 1 6 Y,I J 0]]))
def d_:D9:=[Vx,Vy,Vz,VA,VB,VC,VD,VE,VF,VG,VH,VI,VJ,VK,VL,VM,VN,VO,VP,(78,(.row U 1 [])),(79,(.row U 1 [])),VQ,VR,VS]
def ea:D9:=[UL,UM,UN,UO,UP,UQ,UR,US,UT,UU,UW,UX,UY,UZ,U0,U1,U2,U3,U4,U5,U6,U7,U8,U9]
def eb:D9:=[U_,Va,Vb,Vc,Vd,Ve,Vf,Vg,Vh,Vi,Vj,Vk,Vl,Vm,Vn,Vo,Vp,Vq,Vr,Vs,Vt,Vu,Vv,Vw]
def J5:aR:=⟨32,[X [114,101,99,111,114,100,32,82,32,123,32,97,58,32,105,110,116,59,32,125,32,102,117,110,99,32,109,97,105,110,40,41,32,123,32,108,101,116,32,107,58,32,105,110,116,32,61,32,50,59,32,119,104,105,108,101,32,48,32,60,32,107,32,123,32,108,101,116,32,114,58,32,82,32,61,32,110,101,119,32,82,59,32,112,114,105,110,116,32,114,46,97,59,32,107,32,61,32,107,32,45,32,49,59,32,125,32,125]],92,([dJ,dK,dL,dM,dN,dO,dP,dQ,dR,dZ]++ea++eb++d_++[dS,dT,dU,dV,dW,dX,(89,(.row U 1 [])),(90,(.row U 1 [])),dY]),(.tuple [.agg [.ag 381 0 1 3 Y,.ao,.ag 1375 0 1 7 Y],.agg [I J 0,I J 0]]),1377,([dJ,dK,dL,dM,dN,dO,dP,dQ,dR,dZ]++ea++eb++d_++[dS,dT,dU,dV,dW,dX,(89,(.row U 1 [])),(90,(.row U 1 [])),dY,Kp,Kq,Kr,Ks,Kt,Ku,Kv,Kw,Kx,Ky,Kz,KA,KB])⟩
def Ul(a:aZ az P aY):J5.Ok az P:=aR.bm (bk a bB 100) j
def J6:aR:=⟨33,[.agg [.ag 381 0 1 3 Y,.ao,.ag 1375 0 1 7 Y]],1379,([dJ,dK,dL,dM,dN,dO,dP,dQ,dR,dZ]++ea++eb++d_++[dS,dT,dU,dV,dW,dX,(89,(.row U 1 [])),(90,(.row U 1 [])),dY,Kp,Kq,Kr,Ks,Kt,Ku,Kv,Kw,Kx,Ky,Kz,KA,KB,eD]),(.tuple [.agg [.ag 1400 0 1 2 Y,.ao,.ag 1903 0 1 7 Y,.ag 1852 0 1 4 Y,I J 0],.agg [I J 0,I J 0]]),1904,([dJ,dK,dL,dM,dN,dO,dP,dQ,dR,dZ]++ea++eb++d_++[dS,dT,dU,dV,dW,dX,(89,(.row U 1 [])),(90,(.row U 1 [])),dY,eD,eO,eP,eQ,eR,eS,eT])⟩
def Uq(a:aZ az P aY):J6.Ok az P:=aR.bm (bk a bB 100) j
def Kc:aR:=⟨76,[.agg [.ag 1400 0 1 2 Y,.ao,.ag 1903 0 1 7 Y,.ag 1852 0 1 4 Y,I J 0]],2173,([dJ,dK,dL,dM,dN,dO,dP,dQ,dR,dZ]++ea++eb++d_++[dS,dT,dU,dV,dW,dX,(89,(.row U 1 [])),(90,(.row U 1 [])),dY,eD,eO,eP,eQ,eR,eS,eT,eI,e2,e3]),(.agg [I J 1,(.ag 3588 0 1 1 (D 1)),.ag 3609 0 10 1 Y,.ag 3635 0 1 1 Y]),3638,([dJ,dK,dL,dM,dN,dO,dP,dQ,dR,dZ]++ea++eb++d_++[dS,dT,dU,dV,dW,dX,(89,(.row U 1 [])),(90,(.row U 1 [])),dY,eD,eO,eP,eQ,eR,eS,eT,eI,e2,e3,e8,e9,e_,fa])⟩
def Uw(a:aZ az P aY):Kc.Ok az P:=aR.bm (bk a bB 100) j
def Kd:aR:=⟨77,[.agg [.ag 1400 0 1 2 Y,.ao,.ag 1903 0 1 7 Y,.ag 1852 0 1 4 Y,I J 0]],3638,([dJ,dK,dL,dM,dN,dO,dP,dQ,dR,dZ]++ea++eb++d_++[dS,dT,dU,dV,dW,dX,(89,(.row U 1 [])),(90,(.row U 1 [])),dY,eD,eO,eP,eQ,eR,eS,eT,eI,e2,e3,e8,e9,e_,fa]),(.ag 5656 0 1 1 (D 1)),5687,([dJ,dK,dL,dM,dN,dO,dP,dQ,dR,dZ]++ea++eb++d_++[dS,dT,dU,dV,dW,dX,(89,(.row U 1 [])),(90,(.row U 1 [])),dY,eD,eO,eP,eQ,eR,eS,eT,eI,e2,e3,e8,e9,e_,fa,fw])⟩
def UE(a:aZ az P aY):Kd.Ok az P:=aR.bm (bk a bB 100) j
def Kj:aR:=⟨78,[.agg [.ag 1400 0 1 2 Y,.ao,.ag 1903 0 1 7 Y,.ag 1852 0 1 4 Y,I J 0]],5687,([dJ,dK,dL,dM,dN,dO,dP,dQ,dR,dZ]++ea++eb++d_++[dS,dT,dU,dV,dW,dX,(89,(.row U 1 [])),(90,(.row U 1 [])),dY,eD,eO,eP,eQ,eR,eS,eT,eI,e2,e3,e8,e9,e_,fa,fw]),.ag 8026 0 1 1 Y,8027,([dJ,dK,dL,dM,dN,dO,dP,dQ,dR,dZ]++ea++eb++d_++[dS,dT,dU,dV,dW,dX,(89,(.row U 1 [])),(90,(.row U 1 [])),dY,eD,eO,eP,eQ,eR,eS,eT,eI,e2,e3,e8,e9,e_,fa,fw,fi,fN])⟩
def UF(a:aZ az P aY):Kj.Ok az P:=aR.bm (bk a bB 100) j
def J_:aR:=⟨78,[.agg [.ag 1400 0 1 2 Y,.ao,.ag 1903 0 1 7 Y,.ag 1852 0 1 4 Y,I J 0]],8358,([dJ,dK,dL,dM,dN,dO,dP,dQ,dR,dZ]++ea++eb++d_++[dS,dT,dU,dV,dW,dX,(89,(.row U 1 [])),(90,(.row U 1 [])),dY,eD,eO,eP,eQ,eR,eS,eT,eI,e2,e3,e8,e9,e_,fa,fw,fi,fN,gn,fR,fS,fx,fT,fy,gQ,gR,gS,gT,gU,fF,k7,n4]),.ag 10697 0 1 1 Y,10698,([dJ,dK,dL,dM,dN,dO,dP,dQ,dR,dZ]++ea++eb++d_++[dS,dT,dU,dV,dW,dX,(89,(.row U 1 [])),(90,(.row U 1 [])),dY,eD,eO,eP,eQ,eR,eS,eT,eI,e2,e3,e8,e9,e_,fa,fw,fi,fN,gn,fR,fS,fx,fT,fy,gQ,gR,gS,gT,gU,fF,k7,n4,n_,qq])⟩
def Ur(a:aZ az P aY):J_.Ok az P:=aR.bm (bk a bB 100) j
def Ka:aR:=⟨76,[.agg [.ag 1400 0 1 2 Y,.ao,.ag 1903 0 1 7 Y,.ag 1852 0 1 4 Y,I J 0]],10698,([dJ,dK,dL,dM,dN,dO,dP,dQ,dR,dZ]++ea++eb++d_++[dS,dT,dU,dV,dW,dX,(89,(.row U 1 [])),(90,(.row U 1 [])),dY,eD,eO,eP,eQ,eR,eS,eT,eI,e2,e3,e8,e9,e_,fa,fw,fi,fN,gn,fR,fS,fx,fT,fy,gQ,gR,gS,gT,gU,fF,k7,n4,n_,qq]),(.agg [I J 1,(.ag 12113 0 1 1 (D 1)),.ag 12134 0 10 1 Y,.ag 12160 0 1 1 Y]),12163,([dJ,dK,dL,dM,dN,dO,dP,dQ,dR,dZ]++ea++eb++d_++[dS,dT,dU,dV,dW,dX,(89,(.row U 1 [])),(90,(.row U 1 [])),dY,eD,eO,eP,eQ,eR,eS,eT,eI,e2,e3,e8,e9,e_,fa,fw,fi,fN,gn,fR,fS,fx,fT,fy,gQ,gR,gS,gT,gU,fF,k7,n4,n_,qq,x_,ya,yb,yc])⟩
def Us(a:aZ az P aY):Ka.Ok az P:=aR.bm (bk a bB 100) j
def Kb:aR:=⟨93,[.agg [I J 0,.ag 1889 0 9 3 Y,Z U,I J 0,I J 0,I J 0,.ag 1901 0 14 6 Y]],12164,([dJ,dK,dL,dM,dN,dO,dP,dQ,dR,dZ]++ea++eb++d_++[dS,dT,dU,dV,dW,dX,(89,(.row U 1 [])),(90,(.row U 1 [])),dY,eD,eO,eP,eQ,eR,eS,eT,eI,e2,e3,e8,e9,e_,fa,fw,fi,fN,gn,fR,fS,fx,fT,fy,gQ,gR,gS,gT,gU,fF,k7,n4,n_,qq,x_,ya,yb,yc,Km]),(.ag 12619 0 14 1 (D 14)),12656,([dJ,dK,dL,dM,dN,dO,dP,dQ,dR,dZ]++ea++eb++d_++[dS,dT,dU,dV,dW,dX,(89,(.row U 1 [])),(90,(.row U 1 [])),dY,eD,eO,eP,eQ,eR,eS,eT,eI,e2,e3,e8,e9,e_,fa,fw,fi,fN,gn,fR,fS,fx,fT,fy,gQ,gR,gS,gT,gU,fF,k7,n4,n_,qq,x_,ya,yb,yc,Km,(12619,(.row U 1 [[.ao],[.ag 12621 0 1 1 Y],[.ag 12623 0 1 1 Y],[.ag 12627 0 2 1 Y],[.ag 12631 0 2 1 Y],[.ag 12633 0 1 1 Y],[.ag 12637 0 2 1 Y],[.ag 12641 0 2 1 Y],[.ag 12645 0 2 1 Y],[.ag 12647 0 1 1 Y],[.ag 12651 0 2 1 Y],[.ag 12653 0 1 1 Y],[.ag 12655 0 1 1 Y],[.ao]])),(12621,(.row U 1 [[I J 2]])),(12623,(.row U 1 [[I J 0]])),(12627,(.row U 1 [[I J 0],[I J 3]])),(12631,(.row U 1 [[I J 0],[I J 4]])),(12633,(.row U 1 [[I J 0]])),(12637,(.row U 1 [[I J 0],[I J 5]])),(12641,(.row U 1 [[I J 0],[I J 1]])),(12645,(.row U 1 [[I J 0],[I J 6]])),(12647,(.row U 1 [[I J 0]])),(12651,(.row U 1 [[I J 0],[I J 7]])),(12653,(.row U 1 [[I J 8]])),(12655,(.row U 1 [[I J 0]]))])⟩
def Ut(a:aZ az P aY):Kb.Ok az P:=aR.bm (bk a bB 100) j
def J8:aR:=⟨45,[.agg [.ag 1400 0 1 2 Y,.ao,.ag 1903 0 1 7 Y,.ag 1852 0 1 4 Y,I J 0],I J 0],8357,([dJ,dK,dL,dM,dN,dO,dP,dQ,dR,dZ]++ea++eb++d_++[dS,dT,dU,dV,dW,dX,(89,(.row U 1 [])),(90,(.row U 1 [])),dY,eD,eO,eP,eQ,eR,eS,eT,eI,e2,e3,e8,e9,e_,fa,fw,fi,fN,gn,fR,fS,fx,fT,fy,gQ,gR,gS,gT,gU,fF,k7]),.ptr 12163 0 0,12782,([dJ,dK,dL,dM,dN,dO,dP,dQ,dR,dZ]++ea++eb++d_++[dS,dT,dU,dV,dW,dX,(89,(.row U 1 [])),(90,(.row U 1 [])),dY,eD,eO,eP,eQ,eR,eS,eT,eI,e2,e3,e8,e9,e_,fa,fw,fi,fN,gn,fR,fS,fx,fT,fy,gQ,gR,gS,gT,gU,fF,k7,n_,x_,ya,yb,yc,(12163,(.row U 12 [[.ag 1400 0 1 2 Y,.ao,.ag 1903 0 1 7 Y,.ag 1852 0 1 4 Y,I J 0,I J 0,I J 1,(.ag 12113 0 1 1 (D 1)),.ag 12134 0 10 1 Y,.ag 12160 0 1 1 Y,.ag 10695 0 1 1 Y,.ag 12781 0 14 1 Y]])),iY,iZ,i_])⟩
def Uo(a:aZ az P aY):∀s∈[J_,Ka,Kb],s.Ok az P:=by
 intro s b;simp only[List.mem_cons,List.not_mem_nil,or_false]at b;rcases b with rfl|rfl|rfl
 ·exact Ur a
 ·exact Us a
 ·exact Ut a
def Up(a:aZ az P aY):J8.Ok az P:=aR.bm (bk (dn a (Uo a)) jx 100) j
def J7:aR:=⟨16,[.agg [.ag 1400 0 1 2 Y,.ao,.ag 1903 0 1 7 Y,.ag 1852 0 1 4 Y,I J 0],I J 0],8356,([dJ,dK,dL,dM,dN,dO,dP,dQ,dR,dZ]++ea++eb++d_++[dS,dT,dU,dV,dW,dX,(89,(.row U 1 [])),(90,(.row U 1 [])),dY,eD,eO,eP,eQ,eR,eS,eT,eI,e2,e3,e8,e9,e_,fa,fw,fi,fN,gn,fR,fS,fx,fT,fy,gQ,gR,gS,gT,gU,fF]),.ag 12781 0 14 1 Y,12782,([dJ,dK,dL,dM,dN,dO,dP,dQ,dR,dZ]++ea++eb++d_++[dS,dT,dU,dV,dW,dX,(89,(.row U 1 [])),(90,(.row U 1 [])),dY,eD,eO,eP,eQ,eR,eS,eT,eI,e2,e3,e8,e9,e_,fa,fw,fi,fN,gn,fR,fS,fx,fT,fy,gQ,gR,gS,gT,gU,fF,iY,iZ,i_])⟩
def Um(b:aZ az P aY):∀s∈[J8],s.Ok az P:=by
 intro s a;simp only[List.mem_cons,List.not_mem_nil,or_false]at a;rcases a with rfl
 ·exact Up b
def Un(a:aZ az P aY):J7.Ok az P:=aR.bm (bk (dn a (Um a)) oG 100) j
def Kg:aR:=⟨78,[.agg [.ag 1400 0 1 2 Y,.ao,.ag 1903 0 1 7 Y,.ag 1852 0 1 4 Y,I J 0]],12784,([dJ,dK,dL,dM,dN,dO,dP,dQ,dR,dZ]++ea++eb++d_++[dS,dT,dU,dV,dW,dX,(89,(.row U 1 [])),(90,(.row U 1 [])),dY,eD,eO,eP,eQ,eR,eS,eT,eI,e2,e3,e8,e9,e_,fa,fw,fi,fN,gn,fR,fS,fx,fT,fy,gQ,gR,gS,gT,gU,fF,iY,iZ,i_,k8,oa]),.ag 15123 0 1 1 Y,15124,([dJ,dK,dL,dM,dN,dO,dP,dQ,dR,dZ]++ea++eb++d_++[dS,dT,dU,dV,dW,dX,(89,(.row U 1 [])),(90,(.row U 1 [])),dY,eD,eO,eP,eQ,eR,eS,eT,eI,e2,e3,e8,e9,e_,fa,fw,fi,fN,gn,fR,fS,fx,fT,fy,gQ,gR,gS,gT,gU,fF,iY,iZ,i_,k8,oa,ob,qs])⟩
def UB(a:aZ az P aY):Kg.Ok az P:=aR.bm (bk a bB 100) j
def Kh:aR:=⟨76,[.agg [.ag 1400 0 1 2 Y,.ao,.ag 1903 0 1 7 Y,.ag 1852 0 1 4 Y,I J 0]],15124,([dJ,dK,dL,dM,dN,dO,dP,dQ,dR,dZ]++ea++eb++d_++[dS,dT,dU,dV,dW,dX,(89,(.row U 1 [])),(90,(.row U 1 [])),dY,eD,eO,eP,eQ,eR,eS,eT,eI,e2,e3,e8,e9,e_,fa,fw,fi,fN,gn,fR,fS,fx,fT,fy,gQ,gR,gS,gT,gU,fF,iY,iZ,i_,k8,oa,ob,qs]),(.agg [I J 1,(.ag 16539 0 1 1 (D 1)),.ag 16560 0 10 1 Y,.ag 16586 0 1 1 Y]),16589,([dJ,dK,dL,dM,dN,dO,dP,dQ,dR,dZ]++ea++eb++d_++[dS,dT,dU,dV,dW,dX,(89,(.row U 1 [])),(90,(.row U 1 [])),dY,eD,eO,eP,eQ,eR,eS,eT,eI,e2,e3,e8,e9,e_,fa,fw,fi,fN,gn,fR,fS,fx,fT,fy,gQ,gR,gS,gT,gU,fF,iY,iZ,i_,k8,oa,ob,qs,yd,ye,yf,yg])⟩
def UC(a:aZ az P aY):Kh.Ok az P:=aR.bm (bk a bB 100) j
def Ki:aR:=⟨93,[.agg [I J 0,.ag 1889 0 9 3 Y,Z U,I J 0,I J 0,I J 0,.ag 1901 0 14 6 Y]],16590,([dJ,dK,dL,dM,dN,dO,dP,dQ,dR,dZ]++ea++eb++d_++[dS,dT,dU,dV,dW,dX,(89,(.row U 1 [])),(90,(.row U 1 [])),dY,eD,eO,eP,eQ,eR,eS,eT,eI,e2,e3,e8,e9,e_,fa,fw,fi,fN,gn,fR,fS,fx,fT,fy,gQ,gR,gS,gT,gU,fF,iY,iZ,i_,k8,oa,ob,qs,yd,ye,yf,yg,Kn]),(.ag 17045 0 14 1 (D 14)),17082,([dJ,dK,dL,dM,dN,dO,dP,dQ,dR,dZ]++ea++eb++d_++[dS,dT,dU,dV,dW,dX,(89,(.row U 1 [])),(90,(.row U 1 [])),dY,eD,eO,eP,eQ,eR,eS,eT,eI,e2,e3,e8,e9,e_,fa,fw,fi,fN,gn,fR,fS,fx,fT,fy,gQ,gR,gS,gT,gU,fF,iY,iZ,i_,k8,oa,ob,qs,yd,ye,yf,yg,Kn,(17045,(.row U 1 [[.ao],[.ag 17047 0 1 1 Y],[.ag 17049 0 1 1 Y],[.ag 17053 0 2 1 Y],[.ag 17057 0 2 1 Y],[.ag 17059 0 1 1 Y],[.ag 17063 0 2 1 Y],[.ag 17067 0 2 1 Y],[.ag 17071 0 2 1 Y],[.ag 17073 0 1 1 Y],[.ag 17077 0 2 1 Y],[.ag 17079 0 1 1 Y],[.ag 17081 0 1 1 Y],[.ao]])),(17047,(.row U 1 [[I J 2]])),(17049,(.row U 1 [[I J 0]])),(17053,(.row U 1 [[I J 0],[I J 3]])),(17057,(.row U 1 [[I J 0],[I J 4]])),(17059,(.row U 1 [[I J 0]])),(17063,(.row U 1 [[I J 0],[I J 5]])),(17067,(.row U 1 [[I J 0],[I J 1]])),(17071,(.row U 1 [[I J 0],[I J 6]])),(17073,(.row U 1 [[I J 0]])),(17077,(.row U 1 [[I J 0],[I J 7]])),(17079,(.row U 1 [[I J 8]])),(17081,(.row U 1 [[I J 0]]))])⟩
def UD(a:aZ az P aY):Ki.Ok az P:=aR.bm (bk a bB 100) j
def Kf:aR:=⟨45,[.agg [.ag 1400 0 1 2 Y,.ao,.ag 1903 0 1 7 Y,.ag 1852 0 1 4 Y,I J 0],I J 0],12783,([dJ,dK,dL,dM,dN,dO,dP,dQ,dR,dZ]++ea++eb++d_++[dS,dT,dU,dV,dW,dX,(89,(.row U 1 [])),(90,(.row U 1 [])),dY,eD,eO,eP,eQ,eR,eS,eT,eI,e2,e3,e8,e9,e_,fa,fw,fi,fN,gn,fR,fS,fx,fT,fy,gQ,gR,gS,gT,gU,fF,iY,iZ,i_,k8]),.ptr 16589 0 0,17208,([dJ,dK,dL,dM,dN,dO,dP,dQ,dR,dZ]++ea++eb++d_++[dS,dT,dU,dV,dW,dX,(89,(.row U 1 [])),(90,(.row U 1 [])),dY,eD,eO,eP,eQ,eR,eS,eT,eI,e2,e3,e8,e9,e_,fa,fw,fi,fN,gn,fR,fS,fx,fT,fy,gQ,gR,gS,gT,gU,fF,iY,iZ,i_,k8,ob,yd,ye,yf,yg,(16589,(.row U 12 [[.ag 1400 0 1 2 Y,.ao,.ag 1903 0 1 7 Y,.ag 1852 0 1 4 Y,I J 0,I J 0,I J 1,(.ag 16539 0 1 1 (D 1)),.ag 16560 0 10 1 Y,.ag 16586 0 1 1 Y,.ag 15121 0 1 1 Y,.ag 17207 0 14 1 Y]])),(17142,(.row U 1 [[I J 0]])),(17157,(.row U 1 [[I J 0]])),(17207,(.row U 1 [[.ao],[.ao],[.ao],[.ao],[.ao],[.ao],[.ag 17142 0 1 1 Y],[.ag 17157 0 1 1 Y],[.ao],[.ao],[.ao],[.ao],[.ao],[.ao]]))])⟩
def Uz(a:aZ az P aY):∀s∈[Kg,Kh,Ki],s.Ok az P:=by
 intro s b;simp only[List.mem_cons,List.not_mem_nil,or_false]at b;rcases b with rfl|rfl|rfl
 ·exact UB a
 ·exact UC a
 ·exact UD a
def UA(a:aZ az P aY):Kf.Ok az P:=aR.bm (bk (dn a (Uz a)) jx 100) j
def Ke:aR:=⟨19,[.agg [.ag 1400 0 1 2 Y,.ao,.ag 1903 0 1 7 Y,.ag 1852 0 1 4 Y,I J 0],I J 0],12782,([dJ,dK,dL,dM,dN,dO,dP,dQ,dR,dZ]++ea++eb++d_++[dS,dT,dU,dV,dW,dX,(89,(.row U 1 [])),(90,(.row U 1 [])),dY,eD,eO,eP,eQ,eR,eS,eT,eI,e2,e3,e8,e9,e_,fa,fw,fi,fN,gn,fR,fS,fx,fT,fy,gQ,gR,gS,gT,gU,fF,iY,iZ,i_]),(.ag 17208 0 14 1 (D 14)),17289,([dJ,dK,dL,dM,dN,dO,dP,dQ,dR,dZ]++ea++eb++d_++[dS,dT,dU,dV,dW,dX,(89,(.row U 1 [])),(90,(.row U 1 [])),dY,eD,eO,eP,eQ,eR,eS,eT,eI,e2,e3,e8,e9,e_,fa,fw,fi,fN,gn,fR,fS,fx,fT,fy,gQ,gR,gS,gT,gU,fF,iY,iZ,i_,(17208,(.row U 1 [[.ao],[.ao],[.ao],[.ao],[.ao],[.ag 17251 0 1 1 Y],[.ag 17261 0 0 1 Y],[.ao],[.ao],[.ao],[.ao],[.ao],[.ao],[.ao]])),(17251,(.row U 1 [[I J 0]])),(17261,(.row U 1 [[I J 0]]))])⟩
def Ux(b:aZ az P aY):∀s∈[Kf],s.Ok az P:=by
 intro s a;simp only[List.mem_cons,List.not_mem_nil,or_false]at a;rcases a with rfl
 ·exact UA b
def Uy(a:aZ az P aY):Ke.Ok az P:=aR.bm (bk (dn a (Ux a)) oH 100) j
def Kk:aR:=⟨81,[.ptr 8027 0 0,I J 0],8308,([dJ,dK,dL,dM,dN,dO,dP,dQ,dR,dZ]++ea++eb++d_++[dS,dT,dU,dV,dW,dX,(89,(.row U 1 [])),(90,(.row U 1 [])),dY,eD,eO,eP,eQ,eR,eS,eT,eI,e2,e3,e8,e9,e_,fa,fw,fi,fN,(8027,(.row U 13 [[.ag 1400 0 1 2 Y,.ao,.ag 1903 0 1 7 Y,.ag 1852 0 1 4 Y,I J 0,I J 1,(.ag 3588 0 1 1 (D 1)),.ag 3609 0 10 1 Y,.ag 3635 0 1 1 Y,(.ag 5656 0 1 1 (D 1)),.ag 8026 0 1 1 Y,I J 0,I J 9]])),fR,fS,fx,fT,fy]),(.agg [I J 0,.ag 8355 0 9 1 Y,(I J (-3)),.ao,.ag 8024 0 1 1 Y,.ag 17468 0 18 6 Y]),17469,([dJ,dK,dL,dM,dN,dO,dP,dQ,dR,dZ]++ea++eb++d_++[dS,dT,dU,dV,dW,dX,(89,(.row U 1 [])),(90,(.row U 1 [])),dY,eD,eO,eP,eQ,eR,eS,eT,eI,e2,e3,e8,e9,e_,fa,fw,fi,fN,gn,fR,fS,fx,fT,fy,fF,yh,yi,yj])⟩
def UH(a:aZ az P aY):∀s∈[J7,Ke],s.Ok az P:=by
 intro s b;simp only[List.mem_cons,List.not_mem_nil,or_false]at b;rcases b with rfl|rfl
 ·exact Un a
 ·exact Uy a
def UI(a:aZ az P aY):Kk.Ok az P:=aR.bm (bk (dn a (UH a)) lO 100) j
def J9:aR:=⟨37,[.agg [.ag 1400 0 1 2 Y,.ao,.ag 1903 0 1 7 Y,.ag 1852 0 1 4 Y,I J 0]],1906,([dJ,dK,dL,dM,dN,dO,dP,dQ,dR,dZ]++ea++eb++d_++[dS,dT,dU,dV,dW,dX,(89,(.row U 1 [])),(90,(.row U 1 [])),dY,eD,eO,eP,eQ,eR,eS,eT,eI]),.agg [.ag 8307 0 1 2 Y,.ao,.ag 17470 0 1 6 Y,I J 0],17471,([dJ,dK,dL,dM,dN,dO,dP,dQ,dR,dZ]++ea++eb++d_++[dS,dT,dU,dV,dW,dX,(89,(.row U 1 [])),(90,(.row U 1 [])),dY,eD,eI,fi,fx,fy,fF,yh,yi,yj,D_])⟩
def Uu(a:aZ az P aY):∀s∈[Kc,Kd,Kj,Kk],s.Ok az P:=by
 intro s b;simp only[List.mem_cons,List.not_mem_nil,or_false]at b;rcases b with rfl|rfl|rfl|rfl
 ·exact Uw a
 ·exact UE a
 ·exact UF a
 ·exact UI a
def Uv(a:aZ az P aY):J9.Ok az P:=aR.bm (bk (dn a (Uu a)) mT 100) j
def Kl:aR:=⟨39,[],17500,([dJ,dK,dL,dM,dN,dO,dP,dQ,dR,dZ]++ea++eb++d_++[dS,dT,dU,dV,dW,dX,(89,(.row U 1 [])),(90,(.row U 1 [])),dY,eD,eI,fi,fx,fy,fF,yh,yi,yj,D_,Ko]),Z V,17500,([dJ,dK,dL,dM,dN,dO,dP,dQ,dR,dZ]++ea++eb++d_++[dS,dT,dU,dV,dW,dX,(89,(.row U 1 [])),(90,(.row U 1 [])),dY,eD,eI,fi,fx,fy,fF,yh,yi,yj,D_,Ko])⟩
def UG(a:aZ az P aY):Kl.Ok az P:=nW a _
def UJ(a:aZ az P aY):∀s∈[J5,J6,J9,Kl],s.Ok az P:=by
 intro s b;simp only[List.mem_cons,List.not_mem_nil,or_false]at b;rcases b with rfl|rfl|rfl|rfl
 ·exact Ul a
 ·exact Uq a
 ·exact Uv a
 ·exact UG a
def UK(a:aZ az P aY)(H:af):eM az P 12 [I J 1] H (Z V) H:=by
 obtain⟨bh,c⟩:=mE (b:=true) (m:=9) (f:=12) (args:=[I J 1]) (H:=af.empty) (dn a (UJ a)) oF j;exact nI c H

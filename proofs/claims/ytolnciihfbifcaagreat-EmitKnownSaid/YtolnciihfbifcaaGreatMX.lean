/-
  Texts of one proof, laid together: K12x4 K12x5 Tab.
-/
import Derived.Test.YtolnciihfbifcaaGreatMT
set_option linter.unusedVariables false
set_option linter.unusedSimpArgs false
set_option linter.defProp false
open Option renaming some→D,none→Y
open Bool renaming true→V,false→U
open Go.cV.aa renaming int→I,str→X,bool→Z
open Go.IntKind renaming i64→J
namespace Go.Proofs.YtolnciihfbifcaaGreat
open Go.cV
section
set_option maxRecDepth 1000000
abbrev El:=List (Nat×an)
def ec:Nat×an:=(1,(.row U 1 [[I J 21],[I J 0]]))
def ed:Nat×an:=(2,(.row U 1 [[I J 11]]))
def ee:Nat×an:=(3,(.row U 1 [[I J 3]]))
def eg:Nat×an:=(4,(.row U 1 [[I J 1]]))
def eh:Nat×an:=(5,(.row U 1 [[I J 7]]))
def ei:Nat×an:=(6,(.row U 1 [[I J 6]]))
def ej:Nat×an:=(7,(.row U 1 [[I J 22],[I J 0]]))
def ek:Nat×an:=(8,(.row U 1 [[I J 15]]))
def en:Nat×an:=(9,(.row U 1 [[I J 1]]))
def ey:Nat×an:=(10,(.row U 1 [[I J 15]]))
def Zf:Nat×an:=(11,(.row U 1 [[I J 18]]))
def Zg:Nat×an:=(12,(.row U 1 [[(.ag 1 0 2 1 (D 2))],[(.ag 2 0 1 1 (D 1))],[(.ag 3 0 1 1 (D 1))],[(.ag 4 0 1 1 (D 1))],[(.ag 5 0 1 1 (D 1))],[(.ag 6 0 1 1 (D 1))],[(.ag 7 0 2 1 (D 2))],[(.ag 8 0 1 1 (D 1))],[(.ag 9 0 1 1 (D 1))],[(.ag 10 0 1 1 (D 1))],[(.ag 11 0 1 1 (D 1))]]))
def Zh:Nat×an:=(13,(.row U 1 [[I J 1]]))
def Zi:Nat×an:=(14,(.row U 1 [[I J 3]]))
def Zj:Nat×an:=(15,(.row U 1 [[I J 1]]))
def Zk:Nat×an:=(16,(.row U 1 [[I J 4]]))
def Zl:Nat×an:=(17,(.row U 1 [[I J 17],[I J 5],[I J 6]]))
def Zm:Nat×an:=(18,(.row U 1 [[I J 16],[I J 7]]))
def Zn:Nat×an:=(19,(.row U 1 [[I J 16],[I J 17]]))
def Zo:Nat×an:=(20,(.row U 1 [[I J 21],[I J 0]]))
def Zp:Nat×an:=(21,(.row U 1 [[I J 11]]))
def Zq:Nat×an:=(22,(.row U 1 [[I J 3]]))
def Zr:Nat×an:=(23,(.row U 1 [[I J 6]]))
def Zs:Nat×an:=(24,(.row U 1 [[I J 22],[I J 0]]))
def Zt:Nat×an:=(25,(.row U 1 [[I J 15]]))
def Zu:Nat×an:=(26,(.row U 1 [[I J 1]]))
def Zv:Nat×an:=(27,(.row U 1 [[I J 4]]))
def Zw:Nat×an:=(28,(.row U 1 [[I J 3]]))
def Zx:Nat×an:=(29,(.row U 1 [[I J 16],[I J 2]]))
def Zy:Nat×an:=(30,(.row U 1 [[I J 18]]))
def Zz:Nat×an:=(31,(.row U 1 [[(.ag 13 0 1 1 (D 1))],[(.ag 14 0 1 1 (D 1))],[(.ag 15 0 1 1 (D 1))],[(.ag 16 0 1 1 (D 1))],[(.ag 17 0 3 1 (D 3))],[(.ag 18 0 2 1 (D 2))],[(.ag 19 0 2 1 (D 2))],[(.ag 20 0 2 1 (D 2))],[(.ag 21 0 1 1 (D 1))],[(.ag 22 0 1 1 (D 1))],[(.ag 23 0 1 1 (D 1))],[(.ag 24 0 2 1 (D 2))],[(.ag 25 0 1 1 (D 1))],[(.ag 26 0 1 1 (D 1))],[(.ag 27 0 1 1 (D 1))],[(.ag 28 0 1 1 (D 1))],[(.ag 29 0 2 1 (D 2))],[(.ag 30 0 1 1 (D 1))]]))
def ZA:Nat×an:=(32,(.row U 1 [[I J 21],[I J 0],[I J 1]]))
def ZB:Nat×an:=(33,(.row U 1 [[I J 11]]))
def ZC:Nat×an:=(34,(.row U 1 [[I J 3]]))
def ZD:Nat×an:=(35,(.row U 1 [[I J 13]]))
def ZE:Nat×an:=(36,(.row U 1 [[I J 22],[I J 0],[I J 1]]))
def ZF:Nat×an:=(37,(.row U 1 [[I J 1]]))
def ZG:Nat×an:=(38,(.row U 1 [[I J 15]]))
def ZH:Nat×an:=(39,(.row U 1 [[I J 18]]))
def ZI:Nat×an:=(40,(.row U 1 [[(.ag 32 0 3 1 (D 3))],[(.ag 33 0 1 1 (D 1))],[(.ag 34 0 1 1 (D 1))],[(.ag 35 0 1 1 (D 1))],[(.ag 36 0 3 1 (D 3))],[(.ag 37 0 1 1 (D 1))],[(.ag 38 0 1 1 (D 1))],[(.ag 39 0 1 1 (D 1))]]))
def ZJ:Nat×an:=(41,(.row U 1 [[I J 21],[I J 0]]))
def ZK:Nat×an:=(42,(.row U 1 [[I J 13]]))
def ZL:Nat×an:=(43,(.row U 1 [[I J 3]]))
def ZM:Nat×an:=(44,(.row U 1 [[I J 2]]))
def ZN:Nat×an:=(45,(.row U 1 [[I J 4]]))
def ZO:Nat×an:=(46,(.row U 1 [[I J 22],[I J 0]]))
def ZP:Nat×an:=(47,(.row U 1 [[I J 17],[I J 7],[I J 8]]))
def ZQ:Nat×an:=(48,(.row U 1 [[I J 16],[I J 9]]))
def ZR:Nat×an:=(49,(.row U 1 [[I J 16],[I J 12]]))
def ZS:Nat×an:=(50,(.row U 1 [[I J 1]]))
def ZT:Nat×an:=(51,(.row U 1 [[I J 15]]))
def ZU:Nat×an:=(52,(.row U 1 [[I J 16],[I J 12]]))
def ZV:Nat×an:=(53,(.row U 1 [[I J 18]]))
def ZW:Nat×an:=(54,(.row U 1 [[(.ag 41 0 2 1 (D 2))],[(.ag 42 0 1 1 (D 1))],[(.ag 43 0 1 1 (D 1))],[(.ag 44 0 1 1 (D 1))],[(.ag 45 0 1 1 (D 1))],[(.ag 46 0 2 1 (D 2))],[(.ag 47 0 3 1 (D 3))],[(.ag 48 0 2 1 (D 2))],[(.ag 49 0 2 1 (D 2))],[(.ag 50 0 1 1 (D 1))],[(.ag 51 0 1 1 (D 1))],[(.ag 52 0 2 1 (D 2))],[(.ag 53 0 1 1 (D 1))]]))
def ZX:Nat×an:=(55,(.row U 1 [[I J 21],[I J 0]]))
def ZY:Nat×an:=(56,(.row U 1 [[I J 11]]))
def ZZ:Nat×an:=(57,(.row U 1 [[I J 3]]))
def Z0:Nat×an:=(58,(.row U 1 [[I J 14]]))
def Z1:Nat×an:=(59,(.row U 1 [[I J 1]]))
def Z2:Nat×an:=(60,(.row U 1 [[I J 4]]))
def Z3:Nat×an:=(61,(.row U 1 [[I J 17],[I J 7],[I J 8]]))
def Z4:Nat×an:=(62,(.row U 1 [[I J 16],[I J 10]]))
def Z5:Nat×an:=(63,(.row U 1 [[I J 22],[I J 0]]))
def Z6:Nat×an:=(64,(.row U 1 [[I J 16],[I J 14]]))
def Z7:Nat×an:=(65,(.row U 1 [[I J 6]]))
def Z8:Nat×an:=(66,(.row U 1 [[I J 22],[I J 0]]))
def Z9:Nat×an:=(67,(.row U 1 [[I J 15]]))
def Z_:Nat×an:=(68,(.row U 1 [[I J 16],[I J 14]]))
def aaa:Nat×an:=(69,(.row U 1 [[I J 1]]))
def aab:Nat×an:=(70,(.row U 1 [[I J 15]]))
def aac:Nat×an:=(71,(.row U 1 [[I J 18]]))
def aad:Nat×an:=(72,(.row U 1 [[(.ag 55 0 2 1 (D 2))],[(.ag 56 0 1 1 (D 1))],[(.ag 57 0 1 1 (D 1))],[(.ag 58 0 1 1 (D 1))],[(.ag 59 0 1 1 (D 1))],[(.ag 60 0 1 1 (D 1))],[(.ag 61 0 3 1 (D 3))],[(.ag 62 0 2 1 (D 2))],[(.ag 63 0 2 1 (D 2))],[(.ag 64 0 2 1 (D 2))],[(.ag 65 0 1 1 (D 1))],[(.ag 66 0 2 1 (D 2))],[(.ag 67 0 1 1 (D 1))],[(.ag 68 0 2 1 (D 2))],[(.ag 69 0 1 1 (D 1))],[(.ag 70 0 1 1 (D 1))],[(.ag 71 0 1 1 (D 1))]]))
def aae:Nat×an:=(73,(.row U 1 [[I J 11]]))
def aaf:Nat×an:=(74,(.row U 1 [[I J 20]]))
def aag:Nat×an:=(75,(.row U 1 [[I J 18]]))
def aah:Nat×an:=(76,(.row U 1 [[(.ag 73 0 1 1 (D 1))],[(.ag 74 0 1 1 (D 1))],[(.ag 75 0 1 1 (D 1))]]))
def aai:Nat×an:=(77,(.row U 1 [[(.ag 12 0 11 1 (D 11))],[(.ag 31 0 18 1 (D 18))],[(.ag 40 0 8 1 (D 8))],[(.ag 54 0 13 1 (D 13))],[(.ag 72 0 17 1 (D 17))],[(.ag 76 0 3 1 (D 3))]]))
def aaj:Nat×an:=(80,(.row U 1 [[I J 11]]))
def aak:Nat×an:=(81,(.row U 1 [[I J 7]]))
def aal:Nat×an:=(82,(.row U 1 [[I J 18]]))
def eo:Nat×an:=(83,(.row U 1 [[(.ag 80 0 1 1 (D 1))],[(.ag 81 0 1 1 (D 1))],[(.ag 82 0 1 1 (D 1))]]))
def ep:Nat×an:=(84,(.row U 1 [[I J 11]]))
def er:Nat×an:=(85,(.row U 1 [[I J 18]]))
def et:Nat×an:=(86,(.row U 1 [[I J 2]]))
def eu:Nat×an:=(87,(.row U 1 [[I J 18]]))
def ev:Nat×an:=(88,(.row U 1 [[(.ag 84 0 1 1 (D 1))],[(.ag 85 0 1 1 (D 1))],[(.ag 86 0 1 1 (D 1))],[(.ag 87 0 1 1 (D 1))]]))
def ew:Nat×an:=(91,(.row U 1 [[(.ag 78 0 0 1 (D 0))],[(.ag 79 0 0 1 (D 0))],[(.ag 83 0 3 1 (D 3))],[(.ag 88 0 4 1 (D 4))],[(.ag 89 0 0 1 (D 0))],[(.ag 90 0 0 1 (D 0))]]))
def ME:Nat×an:=(330,(.row U 4 [[X [97],X [105,110,116],I J 0,I J 11]]))
def MF:Nat×an:=(338,(.row U 3 [[X [82],.ag 330 0 1 4 Y,I J 7]]))
def MG:Nat×an:=(505,(.row U 11 [[I J 8,I J 0,X [],X [82],I J 0,.ao,I J 46,I J 0,I J 0,I J 0,I J 0]]))
def MH:Nat×an:=(672,(.row U 11 [[I J 11,I J 0,X [],X [],I J 0,.ao,I J 56,I J 0,I J 0,I J 0,I J 0],[I J 1,I J 1,X [],X [],I J 0,.ao,I J 65,I J 0,I J 0,I J 0,I J 0]]))
def MI:Nat×an:=(717,(.row U 11 [[I J 19,I J 0,X [],X [],I J 0,(.ag 672 0 2 11 (D 2)),I J 63,I J 0,I J 0,I J 0,I J 0]]))
def MJ:Nat×an:=(784,(.row U 11 [[I J 4,I J 0,X [114],X [],I J 0,.ao,I J 75,I J 0,I J 0,I J 0,I J 0]]))
def MK:Nat×an:=(864,(.row U 11 [[I J 5,I J 0,X [97],X [],I J 0,(.ag 784 0 1 11 (D 1)),I J 76,I J 0,I J 0,I J 0,I J 0]]))
def ML:Nat×an:=(868,(.row U 9 [[I J 8,X [],X [],I J 0,(.ag 864 0 1 11 (D 1)),.ao,.ao,I J 69,I J 0]]))
def MM:Nat×an:=(992,(.row U 11 [[I J 1,I J 2,X [],X [],I J 0,.ao,I J 88,I J 0,I J 0,I J 0,I J 0]]))
def MO:Nat×an:=(996,(.row U 9 [[I J 2,X [114],X [82],I J 0,(.ag 505 0 1 11 (D 1)),.ao,.ao,I J 35,I J 0],[I J 5,X [],X [],I J 0,(.ag 717 0 1 11 (D 1)),.ag 868 0 1 9 Y,.ao,I J 53,I J 0],[I J 8,X [],X [],I J 0,(.ag 992 0 1 11 (D 1)),.ao,.ao,I J 82,I J 0]]))
def MP:Nat×an:=(1002,(.row U 7 [[X [109,97,105,110],.ao,Z U,X [],I J 0,.ag 996 0 3 9 Y,I J 26]]))
def eE:Nat×an:=(1005,(.row U 2 [[I J 0,I J 0]]))
def eZ:Nat×an:=(1024,(.row U 4 [[X [97],I J 1,I J 0,I J 0]]))
def eU:Nat×an:=(1027,(.row U 2 [[X [82],.ag 1024 0 1 4 Y]]))
def eV:Nat×an:=(1342,(.row U 4 [[I J 0,I J 3,I J 0,I J 0]]))
def eW:Nat×an:=(1399,(.row U 3 [[I J 3,I J 0,I J 0],[I J 3,I J 0,I J 0],[I J 1,I J 0,I J 0],[I J 1,I J 0,I J 0],[I J 2,I J 0,I J 0],[I J 1,I J 0,I J 0],[I J 1,I J 0,I J 0]]))
def eX:Nat×an:=(1408,(.row U 6 [[I J 11,I J 1,I J 0,I J 0,I J 0,.ao],[I J 3,I J 0,I J 1,I J 0,I J 0,.ao],[I J 14,I J 2,I J 0,I J 0,I J 0,.ao],[I J 1,I J 3,I J 0,I J 0,I J 1,.ao],[I J 4,I J 4,I J 2,I J 3,I J 19,.ao],[I J 17,I J 4,I J 0,I J 9,I J 6,.ao],[I J 6,I J 5,I J 0,I J 0,I J 0,.ao],[I J 15,I J 5,I J 0,I J 0,I J 0,.ao],[I J 16,I J 0,I J 0,I J 0,I J 9,.ao],[I J 1,I J 6,I J 0,I J 0,I J 2,.ao],[I J 15,I J 6,I J 0,I J 0,I J 0,.ao],[I J 18,(I J (-1)),I J 0,I J 0,I J 0,.ao]]))
def eY:Nat×an:=(1410,(.row U 7 [[I J 0,.ag 1399 0 7 3 Y,Z U,I J 0,I J 0,I J 0,.ag 1408 0 12 6 Y]]))
def eJ:Nat×an:=(1412,(.row U 2 [[I J 0,I J 0]]))
def e4:Nat×an:=(1413,(.row U 5 [[.ag 1027 0 1 2 Y,.ao,.ag 1410 0 1 7 Y,.ag 1342 0 1 4 Y,I J 0]]))
def e5:Nat×an:=(1414,(.row U 4 [[.ao,.ao,.ao,I J 0]]))
def fb:Nat×an:=(2885,(.row U 1 [[I J 0]]))
def fc:Nat×an:=(2902,(.row U 1 [[I J 0],[I J 0],[(I J (-1))],[(I J (-1))],[(I J (-1))],[(I J (-1))],[(I J (-1))],[(I J (-1))]]))
def fe:Nat×an:=(2926,(.row U 1 [[(I J (-1))],[(I J (-1))],[(I J (-1))],[(I J (-1))],[(I J (-1))],[(I J (-1))],[(I J (-1))],[(I J (-1))]]))
def ff:Nat×an:=(2928,(.row U 1 [[.ag 2926 0 8 1 Y]]))
def fz:Nat×an:=(4697,(.row U 1 [[.ao]]))
def fr:Nat×an:=(6767,(.row U 1 [[I J 0]]))
def fO:Nat×an:=(6769,(.row U 1 [[.ag 6767 0 1 1 Y]]))
def gr:Nat×an:=(6770,(.row U 13 [[.ag 1027 0 1 2 Y,.ao,.ag 1410 0 1 7 Y,.ag 1342 0 1 4 Y,I J 0,I J 1,(.ag 2885 0 1 1 (D 1)),.ag 2902 0 8 1 Y,.ag 2928 0 1 1 Y,(.ag 4697 0 1 1 (D 1)),.ag 6769 0 1 1 Y,I J 7,I J 7]]))
def gf:Nat×an:=(6771,(.row U 7 [[I J 0,.ag 1399 0 7 3 Y,Z U,I J 0,I J 0,I J 0,.ag 1408 0 12 6 Y]]))
def gg:Nat×an:=(6772,(.row U 4 [[.ag 7012 0 1 2 Y,.ao,.ao,I J 0]]))
def fA:Nat×an:=(7010,(.row U 1 [[(I J (-2))]]))
def gi:Nat×an:=(7011,(.row U 2 [[Z U,.ag 7010 0 1 1 Y]]))
def fB:Nat×an:=(7012,(.row U 2 [[Z U,.ag 7010 0 1 1 Y]]))
def hf:Nat×an:=(7013,(.row U 6 [[I J 0,.ao,I J 0,.ao,.ao,.ao]]))
def hg:Nat×an:=(7014,(.row U 7 [[I J 0,.ag 1399 0 7 3 Y,Z U,I J 0,I J 0,I J 0,.ag 1408 0 12 6 Y]]))
def hh:Nat×an:=(7015,(.row U 6 [[I J 0,.ag 7050 0 7 1 Y,(I J (-3)),.ao,.ag 6767 0 1 1 Y,.ao]]))
def hj:Nat×an:=(7046,(.row U 3 [[I J 1,I J 0,I J 0]]))
def hk:Nat×an:=(7049,(.row U 1 [[(I J (-2))]]))
def fI:Nat×an:=(7050,(.row U 1 [[I J 0],[I J 0],[(I J (-2))],[(I J (-2))],[(I J (-2))],[(I J (-2))],[(I J (-2))]]))
def lx:Nat×an:=(7051,(.row U 5 [[.ag 1027 0 1 2 Y,.ao,.ag 1410 0 1 7 Y,.ag 1342 0 1 4 Y,I J 0]]))
def ox:Nat×an:=(7052,(.row U 5 [[.ag 1027 0 1 2 Y,.ao,.ag 1410 0 1 7 Y,.ag 1342 0 1 4 Y,I J 0]]))
def oy:Nat×an:=(9096,(.row U 1 [[I J 0]]))
def qG:Nat×an:=(9098,(.row U 1 [[.ag 9096 0 1 1 Y]]))
def yY:Nat×an:=(10342,(.row U 1 [[I J 0]]))
def yZ:Nat×an:=(10359,(.row U 1 [[I J 0],[I J 0],[(I J (-1))],[(I J (-1))],[(I J (-1))],[(I J (-1))],[(I J (-1))],[(I J (-1))]]))
def y0:Nat×an:=(10383,(.row U 1 [[(I J (-1))],[(I J (-1))],[(I J (-1))],[(I J (-1))],[(I J (-1))],[(I J (-1))],[(I J (-1))],[(I J (-1))]]))
def y1:Nat×an:=(10385,(.row U 1 [[.ag 10383 0 8 1 Y]]))
def MB:Nat×an:=(10388,(.row U 12 [[.ag 1027 0 1 2 Y,.ao,.ag 1410 0 1 7 Y,.ag 1342 0 1 4 Y,I J 0,I J 0,I J 1,(.ag 10342 0 1 1 (D 1)),.ag 10359 0 8 1 Y,.ag 10385 0 1 1 Y,.ag 9096 0 1 1 Y,.ao]]))
def jn:Nat×an:=(10688,(.row U 1 [[I J 0]]))
def jo:Nat×an:=(10701,(.row U 1 [[I J 0]]))
def jq:Nat×an:=(10716,(.row U 1 [[I J 0]]))
def jr:Nat×an:=(10733,(.row U 1 [[I J 0]]))
def js:Nat×an:=(10748,(.row U 1 [[I J 0]]))
def jt:Nat×an:=(10761,(.row U 1 [[I J 0]]))
def ju:Nat×an:=(10791,(.row U 1 [[.ao],[.ag 10688 0 1 1 Y],[.ag 10701 0 1 1 Y],[.ag 10716 0 1 1 Y],[.ag 10733 0 1 1 Y],[.ag 10748 0 1 1 Y],[.ag 10761 0 1 1 Y],[.ao],[.ao],[.ao],[.ao],[.ao]]))
def ly:Nat×an:=(10792,(.row U 5 [[.ag 1027 0 1 2 Y,.ao,.ag 1410 0 1 7 Y,.ag 1342 0 1 4 Y,I J 0]]))
def oz:Nat×an:=(10793,(.row U 5 [[.ag 1027 0 1 2 Y,.ao,.ag 1410 0 1 7 Y,.ag 1342 0 1 4 Y,I J 0]]))
def oA:Nat×an:=(12837,(.row U 1 [[I J 0]]))
def qH:Nat×an:=(12839,(.row U 1 [[.ag 12837 0 1 1 Y]]))
def y2:Nat×an:=(14083,(.row U 1 [[I J 0]]))
def y3:Nat×an:=(14100,(.row U 1 [[I J 0],[I J 0],[(I J (-1))],[(I J (-1))],[(I J (-1))],[(I J (-1))],[(I J (-1))],[(I J (-1))]]))
def y4:Nat×an:=(14124,(.row U 1 [[(I J (-1))],[(I J (-1))],[(I J (-1))],[(I J (-1))],[(I J (-1))],[(I J (-1))],[(I J (-1))],[(I J (-1))]]))
def y5:Nat×an:=(14126,(.row U 1 [[.ag 14124 0 8 1 Y]]))
def MC:Nat×an:=(14129,(.row U 12 [[.ag 1027 0 1 2 Y,.ao,.ag 1410 0 1 7 Y,.ag 1342 0 1 4 Y,I J 0,I J 0,I J 1,(.ag 14083 0 1 1 (D 1)),.ag 14100 0 8 1 Y,.ag 14126 0 1 1 Y,.ag 12837 0 1 1 Y,.ao]]))
def y6:Nat×an:=(14626,(.row U 1 [[I J 0]]))
def y7:Nat×an:=(14720,(.row U 1 [[I J 0]]))
def y8:Nat×an:=(14742,(.row U 1 [[I J 0]]))
def y9:Nat×an:=(14795,(.row U 6 [[I J 21,I J 0,I J 0,I J 0,I J 0,.ag 14626 0 1 1 Y],[I J 11,I J 1,I J 0,I J 0,I J 0,.ao],[I J 3,I J 0,I J 1,I J 0,I J 0,.ao],[I J 14,I J 2,I J 0,I J 0,I J 0,.ao],[I J 1,I J 3,I J 0,I J 0,I J 1,.ao],[I J 4,I J 4,I J 2,I J 3,I J 19,.ao],[I J 17,I J 4,I J 0,I J 8,I J 7,.ao],[I J 16,I J 0,I J 0,I J 0,I J 10,.ao],[I J 22,I J 0,I J 0,I J 0,I J 0,.ag 14720 0 1 1 Y],[I J 16,I J 0,I J 0,I J 0,I J 14,.ao],[I J 6,I J 5,I J 0,I J 0,I J 0,.ao],[I J 22,I J 0,I J 0,I J 0,I J 0,.ag 14742 0 1 1 Y],[I J 15,I J 5,I J 0,I J 0,I J 0,.ao],[I J 16,I J 0,I J 0,I J 0,I J 14,.ao],[I J 1,I J 6,I J 0,I J 0,I J 2,.ao],[I J 15,I J 6,I J 0,I J 0,I J 0,.ao],[I J 18,(I J (-1)),I J 0,I J 0,I J 0,.ao]]))
def Em:Nat×an:=(14797,(.row U 6 [[I J 0,.ag 7050 0 7 1 Y,(I J (-3)),.ao,.ag 6767 0 1 1 Y,.ag 14795 0 17 6 Y]]))
def MD:Nat×an:=(14798,(.row U 4 [[.ag 7012 0 1 2 Y,.ao,.ag 14797 0 1 6 Y,I J 0]]))
def ez:El:=[Z1,Z2,Z3,Z4,Z5,Z6,Z7,Z8,Z9,Z_,aaa,aab,aac,aad,aae,aaf,aag,aah,aai,(78,(.row U 1 [])),(79,(.row U 1 [])),aaj,aak,aal]
def eA:El:=[Zf,Zg,Zh,Zi,Zj,Zk,Zl,Zm,Zn,Zo,Zp,Zq,Zr,Zs,Zt,Zu,Zv,Zw,Zx,Zy,Zz,ZA,ZB,ZC]
def eB:El:=[ZD,ZE,ZF,ZG,ZH,ZI,ZJ,ZK,ZL,ZM,ZN,ZO,ZP,ZQ,ZR,ZS,ZT,ZU,ZV,ZW,ZX,ZY,ZZ,Z0]
def Mj:aR:=⟨32,[X [114,101,99,111,114,100,32,82,32,123,32,97,58,32,105,110,116,59,32,125,32,102,117,110,99,32,109,97,105,110,40,41,32,123,32,108,101,116,32,114,58,32,82,32,61,32,110,101,119,32,82,59,32,105,102,32,114,101,97,100,40,41,32,60,32,49,32,123,32,112,114,105,110,116,32,114,46,97,59,32,125,32,112,114,105,110,116,32,50,59,32,125]],92,([ec,ed,ee,eg,eh,ei,ej,ek,en,ey]++eA++eB++ez++[eo,ep,er,et,eu,ev,(89,(.row U 1 [])),(90,(.row U 1 [])),ew]),(.tuple [.agg [.ag 338 0 1 3 Y,.ao,.ag 1002 0 1 7 Y],.agg [I J 0,I J 0]]),1004,([ec,ed,ee,eg,eh,ei,ej,ek,en,ey]++eA++eB++ez++[eo,ep,er,et,eu,ev,(89,(.row U 1 [])),(90,(.row U 1 [])),ew,ME,MF,MG,MH,MI,MJ,MK,ML,MM,MO,MP])⟩
def YP(a:aZ az P aY):Mj.Ok az P:=aR.bm (bk a bB 100) j
def Mk:aR:=⟨33,[.agg [.ag 338 0 1 3 Y,.ao,.ag 1002 0 1 7 Y]],1006,([ec,ed,ee,eg,eh,ei,ej,ek,en,ey]++eA++eB++ez++[eo,ep,er,et,eu,ev,(89,(.row U 1 [])),(90,(.row U 1 [])),ew,ME,MF,MG,MH,MI,MJ,MK,ML,MM,MO,MP,eE]),(.tuple [.agg [.ag 1027 0 1 2 Y,.ao,.ag 1410 0 1 7 Y,.ag 1342 0 1 4 Y,I J 0],.agg [I J 0,I J 0]]),1411,([ec,ed,ee,eg,eh,ei,ej,ek,en,ey]++eA++eB++ez++[eo,ep,er,et,eu,ev,(89,(.row U 1 [])),(90,(.row U 1 [])),ew,eE,eZ,eU,eV,eW,eX,eY])⟩
def YW(a:aZ az P aY):Mk.Ok az P:=aR.bm (bk a bB 100) j
def Mr:aR:=⟨76,[.agg [.ag 1027 0 1 2 Y,.ao,.ag 1410 0 1 7 Y,.ag 1342 0 1 4 Y,I J 0]],1642,([ec,ed,ee,eg,eh,ei,ej,ek,en,ey]++eA++eB++ez++[eo,ep,er,et,eu,ev,(89,(.row U 1 [])),(90,(.row U 1 [])),ew,eE,eZ,eU,eV,eW,eX,eY,eJ,e4,e5]),(.agg [I J 1,(.ag 2885 0 1 1 (D 1)),.ag 2902 0 8 1 Y,.ag 2928 0 1 1 Y]),2931,([ec,ed,ee,eg,eh,ei,ej,ek,en,ey]++eA++eB++ez++[eo,ep,er,et,eu,ev,(89,(.row U 1 [])),(90,(.row U 1 [])),ew,eE,eZ,eU,eV,eW,eX,eY,eJ,e4,e5,fb,fc,fe,ff])⟩
def Y8(a:aZ az P aY):Mr.Ok az P:=aR.bm (bk a bB 100) j
def Mx:aR:=⟨77,[.agg [.ag 1027 0 1 2 Y,.ao,.ag 1410 0 1 7 Y,.ag 1342 0 1 4 Y,I J 0]],2931,([ec,ed,ee,eg,eh,ei,ej,ek,en,ey]++eA++eB++ez++[eo,ep,er,et,eu,ev,(89,(.row U 1 [])),(90,(.row U 1 [])),ew,eE,eZ,eU,eV,eW,eX,eY,eJ,e4,e5,fb,fc,fe,ff]),(.ag 4697 0 1 1 (D 1)),4724,([ec,ed,ee,eg,eh,ei,ej,ek,en,ey]++eA++eB++ez++[eo,ep,er,et,eu,ev,(89,(.row U 1 [])),(90,(.row U 1 [])),ew,eE,eZ,eU,eV,eW,eX,eY,eJ,e4,e5,fb,fc,fe,ff,fz])⟩
def Y9(a:aZ az P aY):Mx.Ok az P:=aR.bm (bk a bB 100) j
def My:aR:=⟨78,[.agg [.ag 1027 0 1 2 Y,.ao,.ag 1410 0 1 7 Y,.ag 1342 0 1 4 Y,I J 0]],4724,([ec,ed,ee,eg,eh,ei,ej,ek,en,ey]++eA++eB++ez++[eo,ep,er,et,eu,ev,(89,(.row U 1 [])),(90,(.row U 1 [])),ew,eE,eZ,eU,eV,eW,eX,eY,eJ,e4,e5,fb,fc,fe,ff,fz]),.ag 6769 0 1 1 Y,6770,([ec,ed,ee,eg,eh,ei,ej,ek,en,ey]++eA++eB++ez++[eo,ep,er,et,eu,ev,(89,(.row U 1 [])),(90,(.row U 1 [])),ew,eE,eZ,eU,eV,eW,eX,eY,eJ,e4,e5,fb,fc,fe,ff,fz,fr,fO])⟩
def Y_(a:aZ az P aY):My.Ok az P:=aR.bm (bk a bB 100) j
def Mn:aR:=⟨78,[.agg [.ag 1027 0 1 2 Y,.ao,.ag 1410 0 1 7 Y,.ag 1342 0 1 4 Y,I J 0]],7053,([ec,ed,ee,eg,eh,ei,ej,ek,en,ey]++eA++eB++ez++[eo,ep,er,et,eu,ev,(89,(.row U 1 [])),(90,(.row U 1 [])),ew,eE,eZ,eU,eV,eW,eX,eY,eJ,e4,e5,fb,fc,fe,ff,fz,fr,fO,gr,gf,gg,fA,gi,fB,hf,hg,hh,hj,hk,fI,lx,ox]),.ag 9098 0 1 1 Y,9099,([ec,ed,ee,eg,eh,ei,ej,ek,en,ey]++eA++eB++ez++[eo,ep,er,et,eu,ev,(89,(.row U 1 [])),(90,(.row U 1 [])),ew,eE,eZ,eU,eV,eW,eX,eY,eJ,e4,e5,fb,fc,fe,ff,fz,fr,fO,gr,gf,gg,fA,gi,fB,hf,hg,hh,hj,hk,fI,lx,ox,oy,qG])⟩
def YU(a:aZ az P aY):Mn.Ok az P:=aR.bm (bk a bB 100) j
def Mo:aR:=⟨76,[.agg [.ag 1027 0 1 2 Y,.ao,.ag 1410 0 1 7 Y,.ag 1342 0 1 4 Y,I J 0]],9099,([ec,ed,ee,eg,eh,ei,ej,ek,en,ey]++eA++eB++ez++[eo,ep,er,et,eu,ev,(89,(.row U 1 [])),(90,(.row U 1 [])),ew,eE,eZ,eU,eV,eW,eX,eY,eJ,e4,e5,fb,fc,fe,ff,fz,fr,fO,gr,gf,gg,fA,gi,fB,hf,hg,hh,hj,hk,fI,lx,ox,oy,qG]),(.agg [I J 1,(.ag 10342 0 1 1 (D 1)),.ag 10359 0 8 1 Y,.ag 10385 0 1 1 Y]),10388,([ec,ed,ee,eg,eh,ei,ej,ek,en,ey]++eA++eB++ez++[eo,ep,er,et,eu,ev,(89,(.row U 1 [])),(90,(.row U 1 [])),ew,eE,eZ,eU,eV,eW,eX,eY,eJ,e4,e5,fb,fc,fe,ff,fz,fr,fO,gr,gf,gg,fA,gi,fB,hf,hg,hh,hj,hk,fI,lx,ox,oy,qG,yY,yZ,y0,y1])⟩
def YV(a:aZ az P aY):Mo.Ok az P:=aR.bm (bk a bB 100) j
def Mq:aR:=⟨93,[.agg [I J 0,.ag 1399 0 7 3 Y,Z U,I J 0,I J 0,I J 0,.ag 1408 0 12 6 Y]],10389,([ec,ed,ee,eg,eh,ei,ej,ek,en,ey]++eA++eB++ez++[eo,ep,er,et,eu,ev,(89,(.row U 1 [])),(90,(.row U 1 [])),ew,eE,eZ,eU,eV,eW,eX,eY,eJ,e4,e5,fb,fc,fe,ff,fz,fr,fO,gr,gf,gg,fA,gi,fB,hf,hg,hh,hj,hk,fI,lx,ox,oy,qG,yY,yZ,y0,y1,MB]),(.ag 10649 0 12 1 (D 12)),10674,([ec,ed,ee,eg,eh,ei,ej,ek,en,ey]++eA++eB++ez++[eo,ep,er,et,eu,ev,(89,(.row U 1 [])),(90,(.row U 1 [])),ew,eE,eZ,eU,eV,eW,eX,eY,eJ,e4,e5,fb,fc,fe,ff,fz,fr,fO,gr,gf,gg,fA,gi,fB,hf,hg,hh,hj,hk,fI,lx,ox,oy,qG,yY,yZ,y0,y1,MB,(10649,(.row U 1 [[.ao],[.ag 10651 0 1 1 Y],[.ag 10653 0 1 1 Y],[.ag 10657 0 2 1 Y],[.ag 10663 0 3 1 Y],[.ag 10667 0 2 1 Y],[.ag 10669 0 1 1 Y],[.ag 10671 0 1 1 Y],[.ao],[.ao],[.ag 10673 0 1 1 Y],[.ao]])),(10651,(.row U 1 [[I J 1]])),(10653,(.row U 1 [[I J 0]])),(10657,(.row U 1 [[I J 0],[I J 2]])),(10663,(.row U 1 [[I J 0],[I J 2],[I J 3]])),(10667,(.row U 1 [[I J 0],[I J 4]])),(10669,(.row U 1 [[I J 0]])),(10671,(.row U 1 [[I J 5]])),(10673,(.row U 1 [[I J 6]]))])⟩
def YX(a:aZ az P aY):Mq.Ok az P:=aR.bm (bk a bB 100) j
def Mm:aR:=⟨45,[.agg [.ag 1027 0 1 2 Y,.ao,.ag 1410 0 1 7 Y,.ag 1342 0 1 4 Y,I J 0],I J 0],7052,([ec,ed,ee,eg,eh,ei,ej,ek,en,ey]++eA++eB++ez++[eo,ep,er,et,eu,ev,(89,(.row U 1 [])),(90,(.row U 1 [])),ew,eE,eZ,eU,eV,eW,eX,eY,eJ,e4,e5,fb,fc,fe,ff,fz,fr,fO,gr,gf,gg,fA,gi,fB,hf,hg,hh,hj,hk,fI,lx]),.ptr 10388 0 0,10792,([ec,ed,ee,eg,eh,ei,ej,ek,en,ey]++eA++eB++ez++[eo,ep,er,et,eu,ev,(89,(.row U 1 [])),(90,(.row U 1 [])),ew,eE,eZ,eU,eV,eW,eX,eY,eJ,e4,e5,fb,fc,fe,ff,fz,fr,fO,gr,gf,gg,fA,gi,fB,hf,hg,hh,hj,hk,fI,lx,oy,yY,yZ,y0,y1,(10388,(.row U 12 [[.ag 1027 0 1 2 Y,.ao,.ag 1410 0 1 7 Y,.ag 1342 0 1 4 Y,I J 0,I J 0,I J 1,(.ag 10342 0 1 1 (D 1)),.ag 10359 0 8 1 Y,.ag 10385 0 1 1 Y,.ag 9096 0 1 1 Y,.ag 10791 0 12 1 Y]])),jn,jo,jq,jr,js,jt,ju])⟩
def YS(a:aZ az P aY):∀s∈[Mn,Mo,Mq],s.Ok az P:=by
 intro s b;simp only[List.mem_cons,List.not_mem_nil,or_false]at b;rcases b with rfl|rfl|rfl
 ·exact YU a
 ·exact YV a
 ·exact YX a
def YT(a:aZ az P aY):Mm.Ok az P:=aR.bm (bk (dn a (YS a)) jx 100) j
def Ml:aR:=⟨16,[.agg [.ag 1027 0 1 2 Y,.ao,.ag 1410 0 1 7 Y,.ag 1342 0 1 4 Y,I J 0],I J 0],7051,([ec,ed,ee,eg,eh,ei,ej,ek,en,ey]++eA++eB++ez++[eo,ep,er,et,eu,ev,(89,(.row U 1 [])),(90,(.row U 1 [])),ew,eE,eZ,eU,eV,eW,eX,eY,eJ,e4,e5,fb,fc,fe,ff,fz,fr,fO,gr,gf,gg,fA,gi,fB,hf,hg,hh,hj,hk,fI]),.ag 10791 0 12 1 Y,10792,([ec,ed,ee,eg,eh,ei,ej,ek,en,ey]++eA++eB++ez++[eo,ep,er,et,eu,ev,(89,(.row U 1 [])),(90,(.row U 1 [])),ew,eE,eZ,eU,eV,eW,eX,eY,eJ,e4,e5,fb,fc,fe,ff,fz,fr,fO,gr,gf,gg,fA,gi,fB,hf,hg,hh,hj,hk,fI,jn,jo,jq,jr,js,jt,ju])⟩
def YQ(b:aZ az P aY):∀s∈[Mm],s.Ok az P:=by
 intro s a;simp only[List.mem_cons,List.not_mem_nil,or_false]at a;rcases a with rfl
 ·exact YT b
def YR(a:aZ az P aY):Ml.Ok az P:=aR.bm (bk (dn a (YQ a)) oG 100) j
def Mu:aR:=⟨78,[.agg [.ag 1027 0 1 2 Y,.ao,.ag 1410 0 1 7 Y,.ag 1342 0 1 4 Y,I J 0]],10794,([ec,ed,ee,eg,eh,ei,ej,ek,en,ey]++eA++eB++ez++[eo,ep,er,et,eu,ev,(89,(.row U 1 [])),(90,(.row U 1 [])),ew,eE,eZ,eU,eV,eW,eX,eY,eJ,e4,e5,fb,fc,fe,ff,fz,fr,fO,gr,gf,gg,fA,gi,fB,hf,hg,hh,hj,hk,fI,jn,jo,jq,jr,js,jt,ju,ly,oz]),.ag 12839 0 1 1 Y,12840,([ec,ed,ee,eg,eh,ei,ej,ek,en,ey]++eA++eB++ez++[eo,ep,er,et,eu,ev,(89,(.row U 1 [])),(90,(.row U 1 [])),ew,eE,eZ,eU,eV,eW,eX,eY,eJ,e4,e5,fb,fc,fe,ff,fz,fr,fO,gr,gf,gg,fA,gi,fB,hf,hg,hh,hj,hk,fI,jn,jo,jq,jr,js,jt,ju,ly,oz,oA,qH])⟩
def Y5(a:aZ az P aY):Mu.Ok az P:=aR.bm (bk a bB 100) j
def Mv:aR:=⟨76,[.agg [.ag 1027 0 1 2 Y,.ao,.ag 1410 0 1 7 Y,.ag 1342 0 1 4 Y,I J 0]],12840,([ec,ed,ee,eg,eh,ei,ej,ek,en,ey]++eA++eB++ez++[eo,ep,er,et,eu,ev,(89,(.row U 1 [])),(90,(.row U 1 [])),ew,eE,eZ,eU,eV,eW,eX,eY,eJ,e4,e5,fb,fc,fe,ff,fz,fr,fO,gr,gf,gg,fA,gi,fB,hf,hg,hh,hj,hk,fI,jn,jo,jq,jr,js,jt,ju,ly,oz,oA,qH]),(.agg [I J 1,(.ag 14083 0 1 1 (D 1)),.ag 14100 0 8 1 Y,.ag 14126 0 1 1 Y]),14129,([ec,ed,ee,eg,eh,ei,ej,ek,en,ey]++eA++eB++ez++[eo,ep,er,et,eu,ev,(89,(.row U 1 [])),(90,(.row U 1 [])),ew,eE,eZ,eU,eV,eW,eX,eY,eJ,e4,e5,fb,fc,fe,ff,fz,fr,fO,gr,gf,gg,fA,gi,fB,hf,hg,hh,hj,hk,fI,jn,jo,jq,jr,js,jt,ju,ly,oz,oA,qH,y2,y3,y4,y5])⟩
def Y6(a:aZ az P aY):Mv.Ok az P:=aR.bm (bk a bB 100) j
def Mw:aR:=⟨93,[.agg [I J 0,.ag 1399 0 7 3 Y,Z U,I J 0,I J 0,I J 0,.ag 1408 0 12 6 Y]],14130,([ec,ed,ee,eg,eh,ei,ej,ek,en,ey]++eA++eB++ez++[eo,ep,er,et,eu,ev,(89,(.row U 1 [])),(90,(.row U 1 [])),ew,eE,eZ,eU,eV,eW,eX,eY,eJ,e4,e5,fb,fc,fe,ff,fz,fr,fO,gr,gf,gg,fA,gi,fB,hf,hg,hh,hj,hk,fI,jn,jo,jq,jr,js,jt,ju,ly,oz,oA,qH,y2,y3,y4,y5,MC]),(.ag 14390 0 12 1 (D 12)),14415,([ec,ed,ee,eg,eh,ei,ej,ek,en,ey]++eA++eB++ez++[eo,ep,er,et,eu,ev,(89,(.row U 1 [])),(90,(.row U 1 [])),ew,eE,eZ,eU,eV,eW,eX,eY,eJ,e4,e5,fb,fc,fe,ff,fz,fr,fO,gr,gf,gg,fA,gi,fB,hf,hg,hh,hj,hk,fI,jn,jo,jq,jr,js,jt,ju,ly,oz,oA,qH,y2,y3,y4,y5,MC,(14390,(.row U 1 [[.ao],[.ag 14392 0 1 1 Y],[.ag 14394 0 1 1 Y],[.ag 14398 0 2 1 Y],[.ag 14404 0 3 1 Y],[.ag 14408 0 2 1 Y],[.ag 14410 0 1 1 Y],[.ag 14412 0 1 1 Y],[.ao],[.ao],[.ag 14414 0 1 1 Y],[.ao]])),(14392,(.row U 1 [[I J 1]])),(14394,(.row U 1 [[I J 0]])),(14398,(.row U 1 [[I J 0],[I J 2]])),(14404,(.row U 1 [[I J 0],[I J 2],[I J 3]])),(14408,(.row U 1 [[I J 0],[I J 4]])),(14410,(.row U 1 [[I J 0]])),(14412,(.row U 1 [[I J 5]])),(14414,(.row U 1 [[I J 6]]))])⟩
def Y7(a:aZ az P aY):Mw.Ok az P:=aR.bm (bk a bB 100) j
def Mt:aR:=⟨45,[.agg [.ag 1027 0 1 2 Y,.ao,.ag 1410 0 1 7 Y,.ag 1342 0 1 4 Y,I J 0],I J 0],10793,([ec,ed,ee,eg,eh,ei,ej,ek,en,ey]++eA++eB++ez++[eo,ep,er,et,eu,ev,(89,(.row U 1 [])),(90,(.row U 1 [])),ew,eE,eZ,eU,eV,eW,eX,eY,eJ,e4,e5,fb,fc,fe,ff,fz,fr,fO,gr,gf,gg,fA,gi,fB,hf,hg,hh,hj,hk,fI,jn,jo,jq,jr,js,jt,ju,ly]),.ptr 14129 0 0,14533,([ec,ed,ee,eg,eh,ei,ej,ek,en,ey]++eA++eB++ez++[eo,ep,er,et,eu,ev,(89,(.row U 1 [])),(90,(.row U 1 [])),ew,eE,eZ,eU,eV,eW,eX,eY,eJ,e4,e5,fb,fc,fe,ff,fz,fr,fO,gr,gf,gg,fA,gi,fB,hf,hg,hh,hj,hk,fI,jn,jo,jq,jr,js,jt,ju,ly,oA,y2,y3,y4,y5,(14129,(.row U 12 [[.ag 1027 0 1 2 Y,.ao,.ag 1410 0 1 7 Y,.ag 1342 0 1 4 Y,I J 0,I J 0,I J 1,(.ag 14083 0 1 1 (D 1)),.ag 14100 0 8 1 Y,.ag 14126 0 1 1 Y,.ag 12837 0 1 1 Y,.ag 14532 0 12 1 Y]])),(14429,(.row U 1 [[I J 0]])),(14442,(.row U 1 [[I J 0]])),(14457,(.row U 1 [[I J 0]])),(14474,(.row U 1 [[I J 0]])),(14489,(.row U 1 [[I J 0]])),(14502,(.row U 1 [[I J 0]])),(14532,(.row U 1 [[.ao],[.ag 14429 0 1 1 Y],[.ag 14442 0 1 1 Y],[.ag 14457 0 1 1 Y],[.ag 14474 0 1 1 Y],[.ag 14489 0 1 1 Y],[.ag 14502 0 1 1 Y],[.ao],[.ao],[.ao],[.ao],[.ao]]))])⟩
def Y3(a:aZ az P aY):∀s∈[Mu,Mv,Mw],s.Ok az P:=by
 intro s b;simp only[List.mem_cons,List.not_mem_nil,or_false]at b;rcases b with rfl|rfl|rfl
 ·exact Y5 a
 ·exact Y6 a
 ·exact Y7 a
def Y4(a:aZ az P aY):Mt.Ok az P:=aR.bm (bk (dn a (Y3 a)) jx 100) j
def Ms:aR:=⟨19,[.agg [.ag 1027 0 1 2 Y,.ao,.ag 1410 0 1 7 Y,.ag 1342 0 1 4 Y,I J 0],I J 0],10792,([ec,ed,ee,eg,eh,ei,ej,ek,en,ey]++eA++eB++ez++[eo,ep,er,et,eu,ev,(89,(.row U 1 [])),(90,(.row U 1 [])),ew,eE,eZ,eU,eV,eW,eX,eY,eJ,e4,e5,fb,fc,fe,ff,fz,fr,fO,gr,gf,gg,fA,gi,fB,hf,hg,hh,hj,hk,fI,jn,jo,jq,jr,js,jt,ju]),(.ag 14533 0 12 1 (D 12)),14619,([ec,ed,ee,eg,eh,ei,ej,ek,en,ey]++eA++eB++ez++[eo,ep,er,et,eu,ev,(89,(.row U 1 [])),(90,(.row U 1 [])),ew,eE,eZ,eU,eV,eW,eX,eY,eJ,e4,e5,fb,fc,fe,ff,fz,fr,fO,gr,gf,gg,fA,gi,fB,hf,hg,hh,hj,hk,fI,jn,jo,jq,jr,js,jt,ju,(14533,(.row U 1 [[.ag 14555 0 1 1 Y],[.ag 14565 0 0 1 Y],[.ag 14575 0 0 1 Y],[.ag 14585 0 0 1 Y],[.ag 14595 0 0 1 Y],[.ao],[.ao],[.ao],[.ao],[.ao],[.ao],[.ao]])),(14555,(.row U 1 [[I J 0]])),(14565,(.row U 1 [[I J 0]])),(14575,(.row U 1 [[I J 0]])),(14585,(.row U 1 [[I J 0]])),(14595,(.row U 1 [[I J 0]]))])⟩
def Y1(b:aZ az P aY):∀s∈[Mt],s.Ok az P:=by
 intro s a;simp only[List.mem_cons,List.not_mem_nil,or_false]at a;rcases a with rfl
 ·exact Y4 b
def Y2(a:aZ az P aY):Ms.Ok az P:=aR.bm (bk (dn a (Y1 a)) oH 100) j
def MA:aR:=⟨81,[.ptr 6770 0 0,I J 0],7013,([ec,ed,ee,eg,eh,ei,ej,ek,en,ey]++eA++eB++ez++[eo,ep,er,et,eu,ev,(89,(.row U 1 [])),(90,(.row U 1 [])),ew,eE,eZ,eU,eV,eW,eX,eY,eJ,e4,e5,fb,fc,fe,ff,fz,fr,fO,(6770,(.row U 13 [[.ag 1027 0 1 2 Y,.ao,.ag 1410 0 1 7 Y,.ag 1342 0 1 4 Y,I J 0,I J 1,(.ag 2885 0 1 1 (D 1)),.ag 2902 0 8 1 Y,.ag 2928 0 1 1 Y,(.ag 4697 0 1 1 (D 1)),.ag 6769 0 1 1 Y,I J 0,I J 7]])),gf,gg,fA,gi,fB]),(.agg [I J 0,.ag 7050 0 7 1 Y,(I J (-3)),.ao,.ag 6767 0 1 1 Y,.ag 14795 0 17 6 Y]),14796,([ec,ed,ee,eg,eh,ei,ej,ek,en,ey]++eA++eB++ez++[eo,ep,er,et,eu,ev,(89,(.row U 1 [])),(90,(.row U 1 [])),ew,eE,eZ,eU,eV,eW,eX,eY,eJ,e4,e5,fb,fc,fe,ff,fz,fr,fO,gr,gf,gg,fA,gi,fB,fI,y6,y7,y8,y9])⟩
def Zb(a:aZ az P aY):∀s∈[Ml,Ms],s.Ok az P:=by
 intro s b;simp only[List.mem_cons,List.not_mem_nil,or_false]at b;rcases b with rfl|rfl
 ·exact YR a
 ·exact Y2 a
def Zc(a:aZ az P aY):MA.Ok az P:=aR.bm (bk (dn a (Zb a)) lO 100) j
def Mp:aR:=⟨37,[.agg [.ag 1027 0 1 2 Y,.ao,.ag 1410 0 1 7 Y,.ag 1342 0 1 4 Y,I J 0]],1413,([ec,ed,ee,eg,eh,ei,ej,ek,en,ey]++eA++eB++ez++[eo,ep,er,et,eu,ev,(89,(.row U 1 [])),(90,(.row U 1 [])),ew,eE,eZ,eU,eV,eW,eX,eY,eJ]),.agg [.ag 7012 0 1 2 Y,.ao,.ag 14797 0 1 6 Y,I J 0],14798,([ec,ed,ee,eg,eh,ei,ej,ek,en,ey]++eA++eB++ez++[eo,ep,er,et,eu,ev,(89,(.row U 1 [])),(90,(.row U 1 [])),ew,eE,eJ,fr,fA,fB,fI,y6,y7,y8,y9,Em])⟩
def YY(a:aZ az P aY):∀s∈[Mr,Mx,My,MA],s.Ok az P:=by
 intro s b;simp only[List.mem_cons,List.not_mem_nil,or_false]at b;rcases b with rfl|rfl|rfl|rfl
 ·exact Y8 a
 ·exact Y9 a
 ·exact Y_ a
 ·exact Zc a
def Y0(a:aZ az P aY):Mp.Ok az P:=aR.bm (bk (dn a (YY a)) mT 100) j
def Mz:aR:=⟨39,[],14827,([ec,ed,ee,eg,eh,ei,ej,ek,en,ey]++eA++eB++ez++[eo,ep,er,et,eu,ev,(89,(.row U 1 [])),(90,(.row U 1 [])),ew,eE,eJ,fr,fA,fB,fI,y6,y7,y8,y9,Em,MD]),Z V,14827,([ec,ed,ee,eg,eh,ei,ej,ek,en,ey]++eA++eB++ez++[eo,ep,er,et,eu,ev,(89,(.row U 1 [])),(90,(.row U 1 [])),ew,eE,eJ,fr,fA,fB,fI,y6,y7,y8,y9,Em,MD])⟩
def Za(a:aZ az P aY):Mz.Ok az P:=nW a _
def Zd(a:aZ az P aY):∀s∈[Mj,Mk,Mp,Mz],s.Ok az P:=by
 intro s b;simp only[List.mem_cons,List.not_mem_nil,or_false]at b;rcases b with rfl|rfl|rfl|rfl
 ·exact YP a
 ·exact YW a
 ·exact Y0 a
 ·exact Za a
def Ze(a:aZ az P aY)(H:af):eM az P 12 [I J 4] H (Z V) H:=by
 obtain⟨bh,c⟩:=mE (b:=true) (m:=9) (f:=12) (args:=[I J 4]) (H:=af.empty) (dn a (Zd a)) oF j;exact nI c H
end
section
set_option maxRecDepth 1000000
abbrev En:=List (Nat×an)
def hH:Nat×an:=(1,(.row U 1 [[I J 21],[I J 0]]))
def hI:Nat×an:=(2,(.row U 1 [[I J 11]]))
def hJ:Nat×an:=(3,(.row U 1 [[I J 3]]))
def hK:Nat×an:=(4,(.row U 1 [[I J 1]]))
def hL:Nat×an:=(5,(.row U 1 [[I J 7]]))
def hM:Nat×an:=(6,(.row U 1 [[I J 6]]))
def hN:Nat×an:=(7,(.row U 1 [[I J 22],[I J 0]]))
def hO:Nat×an:=(8,(.row U 1 [[I J 15]]))
def hP:Nat×an:=(9,(.row U 1 [[I J 1]]))
def hX:Nat×an:=(10,(.row U 1 [[I J 15]]))
def aax:Nat×an:=(11,(.row U 1 [[I J 18]]))
def aay:Nat×an:=(12,(.row U 1 [[(.ag 1 0 2 1 (D 2))],[(.ag 2 0 1 1 (D 1))],[(.ag 3 0 1 1 (D 1))],[(.ag 4 0 1 1 (D 1))],[(.ag 5 0 1 1 (D 1))],[(.ag 6 0 1 1 (D 1))],[(.ag 7 0 2 1 (D 2))],[(.ag 8 0 1 1 (D 1))],[(.ag 9 0 1 1 (D 1))],[(.ag 10 0 1 1 (D 1))],[(.ag 11 0 1 1 (D 1))]]))
def aaz:Nat×an:=(13,(.row U 1 [[I J 1]]))
def aaA:Nat×an:=(14,(.row U 1 [[I J 3]]))
def aaB:Nat×an:=(15,(.row U 1 [[I J 1]]))
def aaC:Nat×an:=(16,(.row U 1 [[I J 4]]))
def aaD:Nat×an:=(17,(.row U 1 [[I J 17],[I J 5],[I J 6]]))
def aaE:Nat×an:=(18,(.row U 1 [[I J 16],[I J 7]]))
def aaF:Nat×an:=(19,(.row U 1 [[I J 16],[I J 17]]))
def aaG:Nat×an:=(20,(.row U 1 [[I J 21],[I J 0]]))
def aaH:Nat×an:=(21,(.row U 1 [[I J 11]]))
def aaI:Nat×an:=(22,(.row U 1 [[I J 3]]))
def aaJ:Nat×an:=(23,(.row U 1 [[I J 6]]))
def aaK:Nat×an:=(24,(.row U 1 [[I J 22],[I J 0]]))
def aaL:Nat×an:=(25,(.row U 1 [[I J 15]]))
def aaM:Nat×an:=(26,(.row U 1 [[I J 1]]))
def aaN:Nat×an:=(27,(.row U 1 [[I J 4]]))
def aaO:Nat×an:=(28,(.row U 1 [[I J 3]]))
def aaP:Nat×an:=(29,(.row U 1 [[I J 16],[I J 2]]))
def aaQ:Nat×an:=(30,(.row U 1 [[I J 18]]))
def aaR:Nat×an:=(31,(.row U 1 [[(.ag 13 0 1 1 (D 1))],[(.ag 14 0 1 1 (D 1))],[(.ag 15 0 1 1 (D 1))],[(.ag 16 0 1 1 (D 1))],[(.ag 17 0 3 1 (D 3))],[(.ag 18 0 2 1 (D 2))],[(.ag 19 0 2 1 (D 2))],[(.ag 20 0 2 1 (D 2))],[(.ag 21 0 1 1 (D 1))],[(.ag 22 0 1 1 (D 1))],[(.ag 23 0 1 1 (D 1))],[(.ag 24 0 2 1 (D 2))],[(.ag 25 0 1 1 (D 1))],[(.ag 26 0 1 1 (D 1))],[(.ag 27 0 1 1 (D 1))],[(.ag 28 0 1 1 (D 1))],[(.ag 29 0 2 1 (D 2))],[(.ag 30 0 1 1 (D 1))]]))
def aaS:Nat×an:=(32,(.row U 1 [[I J 21],[I J 0],[I J 1]]))
def aaT:Nat×an:=(33,(.row U 1 [[I J 11]]))
def aaU:Nat×an:=(34,(.row U 1 [[I J 3]]))
def aaV:Nat×an:=(35,(.row U 1 [[I J 13]]))
def aaW:Nat×an:=(36,(.row U 1 [[I J 22],[I J 0],[I J 1]]))
def aaX:Nat×an:=(37,(.row U 1 [[I J 1]]))
def aaY:Nat×an:=(38,(.row U 1 [[I J 15]]))
def aaZ:Nat×an:=(39,(.row U 1 [[I J 18]]))
def aa0:Nat×an:=(40,(.row U 1 [[(.ag 32 0 3 1 (D 3))],[(.ag 33 0 1 1 (D 1))],[(.ag 34 0 1 1 (D 1))],[(.ag 35 0 1 1 (D 1))],[(.ag 36 0 3 1 (D 3))],[(.ag 37 0 1 1 (D 1))],[(.ag 38 0 1 1 (D 1))],[(.ag 39 0 1 1 (D 1))]]))
def aa1:Nat×an:=(41,(.row U 1 [[I J 21],[I J 0]]))
def aa2:Nat×an:=(42,(.row U 1 [[I J 13]]))
def aa3:Nat×an:=(43,(.row U 1 [[I J 3]]))
def aa4:Nat×an:=(44,(.row U 1 [[I J 2]]))
def aa5:Nat×an:=(45,(.row U 1 [[I J 4]]))
def aa6:Nat×an:=(46,(.row U 1 [[I J 22],[I J 0]]))
def aa7:Nat×an:=(47,(.row U 1 [[I J 17],[I J 7],[I J 8]]))
def aa8:Nat×an:=(48,(.row U 1 [[I J 16],[I J 9]]))
def aa9:Nat×an:=(49,(.row U 1 [[I J 16],[I J 12]]))
def aa_:Nat×an:=(50,(.row U 1 [[I J 1]]))
def aba:Nat×an:=(51,(.row U 1 [[I J 15]]))
def abb:Nat×an:=(52,(.row U 1 [[I J 16],[I J 12]]))
def abd:Nat×an:=(53,(.row U 1 [[I J 18]]))
def abe:Nat×an:=(54,(.row U 1 [[(.ag 41 0 2 1 (D 2))],[(.ag 42 0 1 1 (D 1))],[(.ag 43 0 1 1 (D 1))],[(.ag 44 0 1 1 (D 1))],[(.ag 45 0 1 1 (D 1))],[(.ag 46 0 2 1 (D 2))],[(.ag 47 0 3 1 (D 3))],[(.ag 48 0 2 1 (D 2))],[(.ag 49 0 2 1 (D 2))],[(.ag 50 0 1 1 (D 1))],[(.ag 51 0 1 1 (D 1))],[(.ag 52 0 2 1 (D 2))],[(.ag 53 0 1 1 (D 1))]]))
def abf:Nat×an:=(55,(.row U 1 [[I J 21],[I J 0]]))
def abg:Nat×an:=(56,(.row U 1 [[I J 11]]))
def abh:Nat×an:=(57,(.row U 1 [[I J 3]]))
def abi:Nat×an:=(58,(.row U 1 [[I J 14]]))
def abj:Nat×an:=(59,(.row U 1 [[I J 1]]))
def abk:Nat×an:=(60,(.row U 1 [[I J 4]]))
def abl:Nat×an:=(61,(.row U 1 [[I J 17],[I J 7],[I J 8]]))
def abm:Nat×an:=(62,(.row U 1 [[I J 16],[I J 10]]))
def abn:Nat×an:=(63,(.row U 1 [[I J 22],[I J 0]]))
def abo:Nat×an:=(64,(.row U 1 [[I J 16],[I J 14]]))
def abp:Nat×an:=(65,(.row U 1 [[I J 6]]))
def abq:Nat×an:=(66,(.row U 1 [[I J 22],[I J 0]]))
def abr:Nat×an:=(67,(.row U 1 [[I J 15]]))
def abt:Nat×an:=(68,(.row U 1 [[I J 16],[I J 14]]))
def abu:Nat×an:=(69,(.row U 1 [[I J 1]]))
def abv:Nat×an:=(70,(.row U 1 [[I J 15]]))
def abw:Nat×an:=(71,(.row U 1 [[I J 18]]))
def abx:Nat×an:=(72,(.row U 1 [[(.ag 55 0 2 1 (D 2))],[(.ag 56 0 1 1 (D 1))],[(.ag 57 0 1 1 (D 1))],[(.ag 58 0 1 1 (D 1))],[(.ag 59 0 1 1 (D 1))],[(.ag 60 0 1 1 (D 1))],[(.ag 61 0 3 1 (D 3))],[(.ag 62 0 2 1 (D 2))],[(.ag 63 0 2 1 (D 2))],[(.ag 64 0 2 1 (D 2))],[(.ag 65 0 1 1 (D 1))],[(.ag 66 0 2 1 (D 2))],[(.ag 67 0 1 1 (D 1))],[(.ag 68 0 2 1 (D 2))],[(.ag 69 0 1 1 (D 1))],[(.ag 70 0 1 1 (D 1))],[(.ag 71 0 1 1 (D 1))]]))
def aby:Nat×an:=(73,(.row U 1 [[I J 11]]))
def abz:Nat×an:=(74,(.row U 1 [[I J 20]]))
def abA:Nat×an:=(75,(.row U 1 [[I J 18]]))
def abB:Nat×an:=(76,(.row U 1 [[(.ag 73 0 1 1 (D 1))],[(.ag 74 0 1 1 (D 1))],[(.ag 75 0 1 1 (D 1))]]))
def abC:Nat×an:=(77,(.row U 1 [[(.ag 12 0 11 1 (D 11))],[(.ag 31 0 18 1 (D 18))],[(.ag 40 0 8 1 (D 8))],[(.ag 54 0 13 1 (D 13))],[(.ag 72 0 17 1 (D 17))],[(.ag 76 0 3 1 (D 3))]]))
def abD:Nat×an:=(80,(.row U 1 [[I J 11]]))
def abE:Nat×an:=(81,(.row U 1 [[I J 7]]))
def abF:Nat×an:=(82,(.row U 1 [[I J 18]]))
def hQ:Nat×an:=(83,(.row U 1 [[(.ag 80 0 1 1 (D 1))],[(.ag 81 0 1 1 (D 1))],[(.ag 82 0 1 1 (D 1))]]))
def hR:Nat×an:=(84,(.row U 1 [[I J 11]]))
def hS:Nat×an:=(85,(.row U 1 [[I J 18]]))
def hT:Nat×an:=(86,(.row U 1 [[I J 2]]))
def hU:Nat×an:=(87,(.row U 1 [[I J 18]]))
def hV:Nat×an:=(88,(.row U 1 [[(.ag 84 0 1 1 (D 1))],[(.ag 85 0 1 1 (D 1))],[(.ag 86 0 1 1 (D 1))],[(.ag 87 0 1 1 (D 1))]]))
def hW:Nat×an:=(91,(.row U 1 [[(.ag 78 0 0 1 (D 0))],[(.ag 79 0 0 1 (D 0))],[(.ag 83 0 3 1 (D 3))],[(.ag 88 0 4 1 (D 4))],[(.ag 89 0 0 1 (D 0))],[(.ag 90 0 0 1 (D 0))]]))
def M5:Nat×an:=(227,(.row U 3 [[X [82],.ao,I J 7]]))
def M6:Nat×an:=(257,(.row U 4 [[X [103],X [82],I J 0,I J 20]]))
def M7:Nat×an:=(543,(.row U 11 [[I J 8,I J 0,X [],X [82],I J 0,.ao,I J 44,I J 0,I J 0,I J 0,I J 0]]))
def M8:Nat×an:=(545,(.row U 9 [[I J 3,X [103],X [],I J 0,(.ag 543 0 1 11 (D 1)),.ao,.ao,I J 40,I J 0]]))
def M9:Nat×an:=(551,(.row U 7 [[X [109,97,105,110],.ao,Z U,X [],I J 0,.ag 545 0 1 9 Y,I J 31]]))
def iy:Nat×an:=(554,(.row U 2 [[I J 0,I J 0]]))
def jY:Nat×an:=(571,(.row U 2 [[X [82],.ao]]))
def jZ:Nat×an:=(687,(.row U 3 [[I J 3,I J 0,I J 0]]))
def j0:Nat×an:=(695,(.row U 3 [[I J 3,I J 0,I J 0]]))
def j1:Nat×an:=(698,(.row U 4 [[I J 0,I J 3,I J 0,I J 0]]))
def j2:Nat×an:=(707,(.row U 6 [[I J 11,I J 0,I J 0,I J 0,I J 0,.ao],[I J 20,I J 0,I J 0,I J 0,I J 0,.ao],[I J 18,(I J (-1)),I J 0,I J 0,I J 0,.ao]]))
def j3:Nat×an:=(709,(.row U 7 [[I J 0,.ag 695 0 1 3 Y,Z U,I J 0,I J 0,I J 0,.ag 707 0 3 6 Y]]))
def jv:Nat×an:=(711,(.row U 2 [[I J 0,I J 0]]))
def lz:Nat×an:=(712,(.row U 5 [[.ag 571 0 1 2 Y,.ag 687 0 1 3 Y,.ag 709 0 1 7 Y,.ag 698 0 1 4 Y,I J 0]]))
def lA:Nat×an:=(713,(.row U 4 [[.ao,.ao,.ao,I J 0]]))
def mN:Nat×an:=(1310,(.row U 1 [[I J 0]]))
def mO:Nat×an:=(1317,(.row U 1 [[I J 0],[(I J (-1))],[I J 0]]))
def mP:Nat×an:=(1341,(.row U 1 [[(I J (-1))],[(I J (-1))],[(I J (-1))],[(I J (-1))],[(I J (-1))],[(I J (-1))],[(I J (-1))],[(I J (-1))]]))
def mQ:Nat×an:=(1343,(.row U 1 [[.ag 1341 0 8 1 Y]]))
def qI:Nat×an:=(2143,(.row U 1 [[.ao]]))
def Eo:Nat×an:=(3045,(.row U 1 [[.ao]]))
def MY:Nat×an:=(3047,(.row U 7 [[I J 0,.ag 695 0 1 3 Y,Z U,I J 0,I J 0,I J 0,.ag 707 0 3 6 Y]]))
def MZ:Nat×an:=(3048,(.row U 4 [[.ag 3118 0 1 2 Y,.ag 3123 0 1 1 Y,.ao,I J 0]]))
def M0:Nat×an:=(3117,(.row U 2 [[Z U,.ao]]))
def qJ:Nat×an:=(3118,(.row U 2 [[Z U,.ao]]))
def M1:Nat×an:=(3119,(.row U 3 [[I J 3,I J 0,I J 0]]))
def M3:Nat×an:=(3122,(.row U 1 [[I J 0]]))
def qK:Nat×an:=(3123,(.row U 1 [[I J 0]]))
def y_:Nat×an:=(3131,(.row U 1 [[I J 0]]))
def za:Nat×an:=(6293,(.row U 6 [[I J 11,I J 0,I J 0,I J 0,I J 0,.ao],[I J 20,I J 0,I J 0,I J 0,I J 0,.ao],[I J 18,(I J (-1)),I J 0,I J 0,I J 0,.ao]]))
def Ep:Nat×an:=(6295,(.row U 6 [[I J 0,.ag 3131 0 1 1 Y,(I J (-3)),.ao,.ao,.ag 6293 0 3 6 Y]]))
def M4:Nat×an:=(6296,(.row U 4 [[.ag 3118 0 1 2 Y,.ag 3123 0 1 1 Y,.ag 6295 0 1 6 Y,I J 0]]))
def hY:En:=[abj,abk,abl,abm,abn,abo,abp,abq,abr,abt,abu,abv,abw,abx,aby,abz,abA,abB,abC,(78,(.row U 1 [])),(79,(.row U 1 [])),abD,abE,abF]
def hZ:En:=[aax,aay,aaz,aaA,aaB,aaC,aaD,aaE,aaF,aaG,aaH,aaI,aaJ,aaK,aaL,aaM,aaN,aaO,aaP,aaQ,aaR,aaS,aaT,aaU]
def h0:En:=[aaV,aaW,aaX,aaY,aaZ,aa0,aa1,aa2,aa3,aa4,aa5,aa6,aa7,aa8,aa9,aa_,aba,abb,abd,abe,abf,abg,abh,abi]
def MQ:aR:=⟨32,[X [114,101,99,111,114,100,32,82,32,123,32,125,32,103,108,111,98,97,108,32,103,58,32,82,59,32,102,117,110,99,32,109,97,105,110,40,41,32,123,32,103,32,61,32,110,101,119,32,82,59,32,125]],92,([hH,hI,hJ,hK,hL,hM,hN,hO,hP,hX]++hZ++h0++hY++[hQ,hR,hS,hT,hU,hV,(89,(.row U 1 [])),(90,(.row U 1 [])),hW]),(.tuple [.agg [.ag 227 0 1 3 Y,.ag 257 0 1 4 Y,.ag 551 0 1 7 Y],.agg [I J 0,I J 0]]),553,([hH,hI,hJ,hK,hL,hM,hN,hO,hP,hX]++hZ++h0++hY++[hQ,hR,hS,hT,hU,hV,(89,(.row U 1 [])),(90,(.row U 1 [])),hW,M5,M6,M7,M8,M9])⟩
def aam(a:aZ az P aY):MQ.Ok az P:=aR.bm (bk a bB 100) j
def MR:aR:=⟨33,[.agg [.ag 227 0 1 3 Y,.ag 257 0 1 4 Y,.ag 551 0 1 7 Y]],555,([hH,hI,hJ,hK,hL,hM,hN,hO,hP,hX]++hZ++h0++hY++[hQ,hR,hS,hT,hU,hV,(89,(.row U 1 [])),(90,(.row U 1 [])),hW,M5,M6,M7,M8,M9,iy]),(.tuple [.agg [.ag 571 0 1 2 Y,.ag 687 0 1 3 Y,.ag 709 0 1 7 Y,.ag 698 0 1 4 Y,I J 0],.agg [I J 0,I J 0]]),710,([hH,hI,hJ,hK,hL,hM,hN,hO,hP,hX]++hZ++h0++hY++[hQ,hR,hS,hT,hU,hV,(89,(.row U 1 [])),(90,(.row U 1 [])),hW,iy,jY,jZ,j0,j1,j2,j3])⟩
def aan(a:aZ az P aY):MR.Ok az P:=aR.bm (bk a bB 100) j
def MU:aR:=⟨76,[.agg [.ag 571 0 1 2 Y,.ag 687 0 1 3 Y,.ag 709 0 1 7 Y,.ag 698 0 1 4 Y,I J 0]],778,([hH,hI,hJ,hK,hL,hM,hN,hO,hP,hX]++hZ++h0++hY++[hQ,hR,hS,hT,hU,hV,(89,(.row U 1 [])),(90,(.row U 1 [])),hW,iy,jY,jZ,j0,j1,j2,j3,jv,lz,lA]),(.agg [I J 1,(.ag 1310 0 1 1 (D 1)),.ag 1317 0 3 1 Y,.ag 1343 0 1 1 Y]),1346,([hH,hI,hJ,hK,hL,hM,hN,hO,hP,hX]++hZ++h0++hY++[hQ,hR,hS,hT,hU,hV,(89,(.row U 1 [])),(90,(.row U 1 [])),hW,iy,jY,jZ,j0,j1,j2,j3,jv,lz,lA,mN,mO,mP,mQ])⟩
def aar(a:aZ az P aY):MU.Ok az P:=aR.bm (bk a bB 100) j
def MV:aR:=⟨77,[.agg [.ag 571 0 1 2 Y,.ag 687 0 1 3 Y,.ag 709 0 1 7 Y,.ag 698 0 1 4 Y,I J 0]],1346,([hH,hI,hJ,hK,hL,hM,hN,hO,hP,hX]++hZ++h0++hY++[hQ,hR,hS,hT,hU,hV,(89,(.row U 1 [])),(90,(.row U 1 [])),hW,iy,jY,jZ,j0,j1,j2,j3,jv,lz,lA,mN,mO,mP,mQ]),(.ag 2143 0 1 1 (D 1)),2152,([hH,hI,hJ,hK,hL,hM,hN,hO,hP,hX]++hZ++h0++hY++[hQ,hR,hS,hT,hU,hV,(89,(.row U 1 [])),(90,(.row U 1 [])),hW,iy,jY,jZ,j0,j1,j2,j3,jv,lz,lA,mN,mO,mP,mQ,qI])⟩
def aas(a:aZ az P aY):MV.Ok az P:=aR.bm (bk a bB 100) j
def MW:aR:=⟨78,[.agg [.ag 571 0 1 2 Y,.ag 687 0 1 3 Y,.ag 709 0 1 7 Y,.ag 698 0 1 4 Y,I J 0]],2152,([hH,hI,hJ,hK,hL,hM,hN,hO,hP,hX]++hZ++h0++hY++[hQ,hR,hS,hT,hU,hV,(89,(.row U 1 [])),(90,(.row U 1 [])),hW,iy,jY,jZ,j0,j1,j2,j3,jv,lz,lA,mN,mO,mP,mQ,qI]),.ag 3045 0 1 1 Y,3046,([hH,hI,hJ,hK,hL,hM,hN,hO,hP,hX]++hZ++h0++hY++[hQ,hR,hS,hT,hU,hV,(89,(.row U 1 [])),(90,(.row U 1 [])),hW,iy,jY,jZ,j0,j1,j2,j3,jv,lz,lA,mN,mO,mP,mQ,qI,Eo])⟩
def aat(a:aZ az P aY):MW.Ok az P:=aR.bm (bk a bB 100) j
def MX:aR:=⟨81,[.ptr 3046 0 0,I J 0],3124,([hH,hI,hJ,hK,hL,hM,hN,hO,hP,hX]++hZ++h0++hY++[hQ,hR,hS,hT,hU,hV,(89,(.row U 1 [])),(90,(.row U 1 [])),hW,iy,jY,jZ,j0,j1,j2,j3,jv,lz,lA,mN,mO,mP,mQ,qI,Eo,(3046,(.row U 13 [[.ag 571 0 1 2 Y,.ag 687 0 1 3 Y,.ag 709 0 1 7 Y,.ag 698 0 1 4 Y,I J 0,I J 1,(.ag 1310 0 1 1 (D 1)),.ag 1317 0 3 1 Y,.ag 1343 0 1 1 Y,(.ag 2143 0 1 1 (D 1)),.ag 3045 0 1 1 Y,I J 0,I J 1]])),MY,MZ,M0,qJ,M1,M3,qK]),(.agg [I J 0,.ag 3131 0 1 1 Y,(I J (-3)),.ao,.ao,.ag 6293 0 3 6 Y]),6294,([hH,hI,hJ,hK,hL,hM,hN,hO,hP,hX]++hZ++h0++hY++[hQ,hR,hS,hT,hU,hV,(89,(.row U 1 [])),(90,(.row U 1 [])),hW,iy,jY,jZ,j0,j1,j2,j3,jv,lz,lA,mN,mO,mP,mQ,qI,Eo,(3046,(.row U 13 [[.ag 571 0 1 2 Y,.ag 687 0 1 3 Y,.ag 709 0 1 7 Y,.ag 698 0 1 4 Y,I J 0,I J 1,(.ag 1310 0 1 1 (D 1)),.ag 1317 0 3 1 Y,.ag 1343 0 1 1 Y,(.ag 2143 0 1 1 (D 1)),.ag 3045 0 1 1 Y,I J 1,I J 1]])),MY,MZ,M0,qJ,M1,M3,qK,y_,za])⟩
def aau(a:aZ az P aY):MX.Ok az P:=aR.bm (bk a bB 100) j
def MS:aR:=⟨37,[.agg [.ag 571 0 1 2 Y,.ag 687 0 1 3 Y,.ag 709 0 1 7 Y,.ag 698 0 1 4 Y,I J 0]],712,([hH,hI,hJ,hK,hL,hM,hN,hO,hP,hX]++hZ++h0++hY++[hQ,hR,hS,hT,hU,hV,(89,(.row U 1 [])),(90,(.row U 1 [])),hW,iy,jY,jZ,j0,j1,j2,j3,jv]),.agg [.ag 3118 0 1 2 Y,.ag 3123 0 1 1 Y,.ag 6295 0 1 6 Y,I J 0],6296,([hH,hI,hJ,hK,hL,hM,hN,hO,hP,hX]++hZ++h0++hY++[hQ,hR,hS,hT,hU,hV,(89,(.row U 1 [])),(90,(.row U 1 [])),hW,iy,jv,qJ,qK,y_,za,Ep])⟩
def aao(a:aZ az P aY):∀s∈[MU,MV,MW,MX],s.Ok az P:=by
 intro s b;simp only[List.mem_cons,List.not_mem_nil,or_false]at b;rcases b with rfl|rfl|rfl|rfl
 ·exact aar a
 ·exact aas a
 ·exact aat a
 ·exact aau a
def aap(a:aZ az P aY):MS.Ok az P:=aR.bm (bk (dn a (aao a)) mT 100) j
def MT:aR:=⟨39,[],6300,([hH,hI,hJ,hK,hL,hM,hN,hO,hP,hX]++hZ++h0++hY++[hQ,hR,hS,hT,hU,hV,(89,(.row U 1 [])),(90,(.row U 1 [])),hW,iy,jv,qJ,qK,y_,za,Ep,M4]),Z V,6300,([hH,hI,hJ,hK,hL,hM,hN,hO,hP,hX]++hZ++h0++hY++[hQ,hR,hS,hT,hU,hV,(89,(.row U 1 [])),(90,(.row U 1 [])),hW,iy,jv,qJ,qK,y_,za,Ep,M4])⟩
def aaq(a:aZ az P aY):MT.Ok az P:=nW a _
def aav(a:aZ az P aY):∀s∈[MQ,MR,MS,MT],s.Ok az P:=by
 intro s b;simp only[List.mem_cons,List.not_mem_nil,or_false]at b;rcases b with rfl|rfl|rfl|rfl
 ·exact aam a
 ·exact aan a
 ·exact aap a
 ·exact aaq a
def aaw(a:aZ az P aY)(H:af):eM az P 12 [I J 5] H (Z V) H:=by
 obtain⟨bh,c⟩:=mE (b:=true) (m:=9) (f:=12) (args:=[I J 5]) (H:=af.empty) (dn a (aav a)) oF j;exact nI c H
end
def p6(place:Nat->Option (Nat×Nat))(cells:List aa):List (Nat×List aa)->Option (List aa)
 |[]=>D cells
 |(i,v)::rest=>match place i with
  |none=>Y
  |some (off,size)=>if v.length=size/\off+v.length<=cells.length then p6 place (fD cells off v) rest else Y
def C8(P:Program)(t:TypeId)(parts:List (Nat×List aa)):Option aa:=
 match gv P t,P.underlying t with
 |some z,D (.struct a)=>(match nF P a.toList with|some pl=>(p6 (pl[·]?) z.cells parts).map .agg|none=>Y)
 |some z,D (.array _ e)=>(match cT P e with|some n=>(p6 (λi=>D (i*n,n)) z.cells parts).map .agg|none=>Y)
 |_,_=>Y
def IC(place:Nat->Option (Nat×Nat)):∀(parts:List (Nat×aa)) (cells:List aa),kZ place cells parts=p6 place cells (parts.map λp=>(p.1,p.2.cells))
 |[],_=>rfl
 |(i,v)::rest,cells=>by
  show(match place i with
   |none=>Y
   |some (off,size)=>if v.cells.length=size/\off+v.cells.length<=cells.length then kZ place (fD cells off v.cells) rest else Y)=(match place i with
   |none=>Y
   |some (off,size)=>if v.cells.length=size/\off+v.cells.length<=cells.length then p6 place (fD cells off v.cells) (rest.map λp=>(p.1,p.2.cells))else Y)
  cases place i with
  |none=>rfl
  |some p=>simp only[IC place rest]
def O1(Q:Program)(t:TypeId)(parts:List (Nat×aa)):bo Q t parts=C8 Q t (parts.map λp=>(p.1,p.2.cells)):=by
 unfold bo C8;simp only[IC];generalize gv Q t=z;generalize Q.underlying t=u;cases z with
 |none=>rfl
 |some z=>cases u with
  |none=>rfl
  |some d=>cases d<;>rfl
def Iz(t:TypeId)(parts:List (Nat×aa)):bo P t parts=C8 P t (parts.map λp=>(p.1,p.2.cells)):=O1 P t parts
def arh:ft P 3=D false:=j
def arE:cT P 3=D 1:=j
def ark:ft P 4=D false:=j
def arH:cT P 4=D 1:=j
def P6{c:Bool}(a b:Bool):al P .eql 4 c (Z a) (Z b)=D (Z (a==b)):=j
def acu{c:Bool}(a b:Bool):al P .neq 4 c (Z a) (Z b)=D (Z (!(a==b))):=j
def ary:ft P 9=D false:=j
def arT:cT P 9=D 1:=j
def aci{H:af}{s:List UInt8}:a6 P H .len [9] [X s]=D (I J s.length):=j
def arc:ft P 22=D false:=j
def arA:cT P 22=D 1:=j
def RF(l i n:Nat)(cap:Option Nat)(k:Int):aH P 22 (.ag l i n 2 cap) (I J k)=if 2=2/\0<=k/\k<n then D (.ptr l (i+k.toNat) 0)else none:=j
def RE{l i n:Nat}{cap:Option Nat}{k:Int}(a:0<=k)(b:k<n):aH P 22 (.ag l i n 2 cap) (I J k)=D (.ptr l (i+k.toNat) 0):=by rw[RF,if_pos ⟨rfl,a,b⟩]
def abZ{H:af}{l i n e:Nat}{cap:Option Nat}:a6 P H .len [22] [.ag l i n e cap]=D (I J n):=j
def ab0{H:af}:a6 P H .len [22] [.ao]=D (I J 0):=j
def ard:ft P 23=D false:=j
def arB:cT P 23=D 1:=j
def RH(l i n:Nat)(cap:Option Nat)(k:Int):aH P 23 (.ag l i n 3 cap) (I J k)=if 3=3/\0<=k/\k<n then D (.ptr l (i+k.toNat) 0)else none:=j
def RG{l i n:Nat}{cap:Option Nat}{k:Int}(a:0<=k)(b:k<n):aH P 23 (.ag l i n 3 cap) (I J k)=D (.ptr l (i+k.toNat) 0):=by rw[RH,if_pos ⟨rfl,a,b⟩]
def ab1{H:af}{l i n e:Nat}{cap:Option Nat}:a6 P H .len [23] [.ag l i n e cap]=D (I J n):=j
def ab2{H:af}:a6 P H .len [23] [.ao]=D (I J 0):=j
def are:ft P 24=D false:=j
def arC:cT P 24=D 1:=j
def RJ(l i n:Nat)(cap:Option Nat)(k:Int):aH P 24 (.ag l i n 7 cap) (I J k)=if 7=7/\0<=k/\k<n then D (.ptr l (i+k.toNat) 0)else none:=j
def RI{l i n:Nat}{cap:Option Nat}{k:Int}(a:0<=k)(b:k<n):aH P 24 (.ag l i n 7 cap) (I J k)=D (.ptr l (i+k.toNat) 0):=by rw[RJ,if_pos ⟨rfl,a,b⟩]
def ab3{H:af}{l i n e:Nat}{cap:Option Nat}:a6 P H .len [24] [.ag l i n e cap]=D (I J n):=j
def ab4{H:af}:a6 P H .len [24] [.ao]=D (I J 0):=j
def arf:ft P 27=D true:=j
def arD:cT P 27=D 5:=j
def Qb(l i c:Nat):ak P 27 (.ptr l i c) 0=D (.ptr l i (c+0)):=j
def QY(a0 a b a3 a4:aa):dc P 27 (.agg [a0,a,b,a3,a4]) 0=D a0:=j
def Qc(l i c:Nat):ak P 27 (.ptr l i c) 1=D (.ptr l i (c+1)):=j
def QZ(a0 a b a3 a4:aa):dc P 27 (.agg [a0,a,b,a3,a4]) 1=D a:=j
def Qd(l i c:Nat):ak P 27 (.ptr l i c) 2=D (.ptr l i (c+2)):=j
def Q0(a0 b a a3 a4:aa):dc P 27 (.agg [a0,b,a,a3,a4]) 2=D a:=j
def Qe(l i c:Nat):ak P 27 (.ptr l i c) 3=D (.ptr l i (c+3)):=j
def Q1(a0 a b a3 a4:aa):dc P 27 (.agg [a0,a,b,a3,a4]) 3=D a3:=j
def Qf(l i c:Nat):ak P 27 (.ptr l i c) 4=D (.ptr l i (c+4)):=j
def Q2(a0 a b a3 a4:aa):dc P 27 (.agg [a0,a,b,a3,a4]) 4=D a4:=j
def ari:ft P 30=D false:=j
def arF:cT P 30=D 1:=j
def RL(l i n:Nat)(cap:Option Nat)(k:Int):aH P 30 (.ag l i n 1 cap) (I J k)=if 1=1/\0<=k/\k<n then D (.ptr l (i+k.toNat) 0)else none:=j
def RK{l i n:Nat}{cap:Option Nat}{k:Int}(a:0<=k)(b:k<n):aH P 30 (.ag l i n 1 cap) (I J k)=D (.ptr l (i+k.toNat) 0):=by rw[RL,if_pos ⟨rfl,a,b⟩]
def ab5{H:af}{l i n e:Nat}{cap:Option Nat}:a6 P H .len [30] [.ag l i n e cap]=D (I J n):=j
def ab6{H:af}:a6 P H .len [30] [.ao]=D (I J 0):=j
def arj:ft P 35=D false:=j
def arG:cT P 35=D 1:=j
def RN(l i n:Nat)(cap:Option Nat)(k:Int):aH P 35 (.ag l i n 1 cap) (I J k)=if 1=1/\0<=k/\k<n then D (.ptr l (i+k.toNat) 0)else none:=j
def RM{l i n:Nat}{cap:Option Nat}{k:Int}(a:0<=k)(b:k<n):aH P 35 (.ag l i n 1 cap) (I J k)=D (.ptr l (i+k.toNat) 0):=by rw[RN,if_pos ⟨rfl,a,b⟩]
def ab7{H:af}{l i n e:Nat}{cap:Option Nat}:a6 P H .len [35] [.ag l i n e cap]=D (I J n):=j
def ab8{H:af}:a6 P H .len [35] [.ao]=D (I J 0):=j
def arl:ft P 43=D true:=j
def arI:cT P 43=D 3:=j
def Qg(l i c:Nat):ak P 43 (.ptr l i c) 0=D (.ptr l i (c+0)):=j
def Q3(a0 a b:aa):dc P 43 (.agg [a0,a,b]) 0=D a0:=j
def Qh(l i c:Nat):ak P 43 (.ptr l i c) 1=D (.ptr l i (c+1)):=j
def Q4(a0 a b:aa):dc P 43 (.agg [a0,a,b]) 1=D a:=j
def Qi(l i c:Nat):ak P 43 (.ptr l i c) 2=D (.ptr l i (c+2)):=j
def Q5(a0 b a:aa):dc P 43 (.agg [a0,b,a]) 2=D a:=j
def arn:ft P 44=D false:=j
def arJ:cT P 44=D 1:=j
def RP(l i n:Nat)(cap:Option Nat)(k:Int):aH P 44 (.ag l i n 6 cap) (I J k)=if 6=6/\0<=k/\k<n then D (.ptr l (i+k.toNat) 0)else none:=j
def RO{l i n:Nat}{cap:Option Nat}{k:Int}(a:0<=k)(b:k<n):aH P 44 (.ag l i n 6 cap) (I J k)=D (.ptr l (i+k.toNat) 0):=by rw[RP,if_pos ⟨rfl,a,b⟩]
def ab9{H:af}{l i n e:Nat}{cap:Option Nat}:a6 P H .len [44] [.ag l i n e cap]=D (I J n):=j
def ab_{H:af}:a6 P H .len [44] [.ao]=D (I J 0):=j
def aro:ft P 46=D true:=j
def arK:cT P 46=D 7:=j
def Qj(l i c:Nat):ak P 46 (.ptr l i c) 0=D (.ptr l i (c+0)):=j
def Q6(a0 a b a3 a4 a5 c:aa):dc P 46 (.agg [a0,a,b,a3,a4,a5,c]) 0=D a0:=j
def Qk(l i c:Nat):ak P 46 (.ptr l i c) 1=D (.ptr l i (c+1)):=j
def Q7(a0 a b a3 a4 a5 c:aa):dc P 46 (.agg [a0,a,b,a3,a4,a5,c]) 1=D a:=j
def Ql(l i c:Nat):ak P 46 (.ptr l i c) 2=D (.ptr l i (c+2)):=j
def Q8(a0 b a a3 a4 a5 c:aa):dc P 46 (.agg [a0,b,a,a3,a4,a5,c]) 2=D a:=j
def Qm(l i c:Nat):ak P 46 (.ptr l i c) 3=D (.ptr l i (c+3)):=j
def Q9(a0 a b a3 a4 a5 c:aa):dc P 46 (.agg [a0,a,b,a3,a4,a5,c]) 3=D (.agg [a3,a4,a5]):=j
def Qn(l i c:Nat):ak P 46 (.ptr l i c) 4=D (.ptr l i (c+6)):=j
def Q_(a0 b c a3 a4 a5 a:aa):dc P 46 (.agg [a0,b,c,a3,a4,a5,a]) 4=D a:=j
def arp:ft P 55=D true:=j
def arL:cT P 55=D 3:=j
def Qo(l i c:Nat):ak P 55 (.ptr l i c) 0=D (.ptr l i (c+0)):=j
def Ra(a0 a b:aa):dc P 55 (.agg [a0,a,b]) 0=D a0:=j
def Qp(l i c:Nat):ak P 55 (.ptr l i c) 1=D (.ptr l i (c+1)):=j
def Rb(a0 a b:aa):dc P 55 (.agg [a0,a,b]) 1=D a:=j
def Qq(l i c:Nat):ak P 55 (.ptr l i c) 2=D (.ptr l i (c+2)):=j
def Rc(a0 b a:aa):dc P 55 (.agg [a0,b,a]) 2=D a:=j
def arq:ft P 58=D true:=j
def arM:cT P 58=D 2:=j
def Qr(l i c:Nat):ak P 58 (.ptr l i c) 0=D (.ptr l i (c+0)):=j
def Re(a0 a:aa):dc P 58 (.agg [a0,a]) 0=D a0:=j
def Qs(l i c:Nat):ak P 58 (.ptr l i c) 1=D (.ptr l i (c+1)):=j
def Rf(a0 a:aa):dc P 58 (.agg [a0,a]) 1=D a:=j
def ars:ft P 67=D false:=j
def arN:cT P 67=D 1:=j
def RR(l i n:Nat)(cap:Option Nat)(k:Int):aH P 67 (.ag l i n 6 cap) (I J k)=if 6=6/\0<=k/\k<n then D (.ptr l (i+k.toNat) 0)else none:=j
def RQ{l i n:Nat}{cap:Option Nat}{k:Int}(a:0<=k)(b:k<n):aH P 67 (.ag l i n 6 cap) (I J k)=D (.ptr l (i+k.toNat) 0):=by rw[RR,if_pos ⟨rfl,a,b⟩]
def aca{H:af}{l i n e:Nat}{cap:Option Nat}:a6 P H .len [67] [.ag l i n e cap]=D (I J n):=j
def acb{H:af}:a6 P H .len [67] [.ao]=D (I J 0):=j
def art:ft P 69=D true:=j
def arO:cT P 69=D 4:=j
def Qt(l i c:Nat):ak P 69 (.ptr l i c) 0=D (.ptr l i (c+0)):=j
def Rg(a0 a b a3:aa):dc P 69 (.agg [a0,a,b,a3]) 0=D a0:=j
def Qu(l i c:Nat):ak P 69 (.ptr l i c) 1=D (.ptr l i (c+1)):=j
def Rh(a0 a b a3:aa):dc P 69 (.agg [a0,a,b,a3]) 1=D a:=j
def Qv(l i c:Nat):ak P 69 (.ptr l i c) 2=D (.ptr l i (c+2)):=j
def Ri(a0 b a a3:aa):dc P 69 (.agg [a0,b,a,a3]) 2=D a:=j
def Qw(l i c:Nat):ak P 69 (.ptr l i c) 3=D (.ptr l i (c+3)):=j
def Rj(a0 a b a3:aa):dc P 69 (.agg [a0,a,b,a3]) 3=D a3:=j
def aru:ft P 72=D true:=j
def arP:cT P 72=D 6:=j
def Qx(l i c:Nat):ak P 72 (.ptr l i c) 0=D (.ptr l i (c+0)):=j
def Rk(a0 a b a3 a4 a5:aa):dc P 72 (.agg [a0,a,b,a3,a4,a5]) 0=D a0:=j
def Qy(l i c:Nat):ak P 72 (.ptr l i c) 1=D (.ptr l i (c+1)):=j
def Rl(a0 a b a3 a4 a5:aa):dc P 72 (.agg [a0,a,b,a3,a4,a5]) 1=D a:=j
def Qz(l i c:Nat):ak P 72 (.ptr l i c) 2=D (.ptr l i (c+2)):=j
def Rm(a0 b a a3 a4 a5:aa):dc P 72 (.agg [a0,b,a,a3,a4,a5]) 2=D a:=j
def QA(l i c:Nat):ak P 72 (.ptr l i c) 3=D (.ptr l i (c+3)):=j
def Rn(a0 a b a3 a4 a5:aa):dc P 72 (.agg [a0,a,b,a3,a4,a5]) 3=D a3:=j
def QB(l i c:Nat):ak P 72 (.ptr l i c) 4=D (.ptr l i (c+4)):=j
def Ro(a0 a b a3 a4 a5:aa):dc P 72 (.agg [a0,a,b,a3,a4,a5]) 4=D a4:=j
def QC(l i c:Nat):ak P 72 (.ptr l i c) 5=D (.ptr l i (c+5)):=j
def Rp(a0 a b a3 a4 a5:aa):dc P 72 (.agg [a0,a,b,a3,a4,a5]) 5=D a5:=j
def arv:ft P 75=D true:=j
def arQ:cT P 75=D 6:=j
def QD(l i c:Nat):ak P 75 (.ptr l i c) 0=D (.ptr l i (c+0)):=j
def Rq(a0 a b a3 a4 a5:aa):dc P 75 (.agg [a0,a,b,a3,a4,a5]) 0=D a0:=j
def QE(l i c:Nat):ak P 75 (.ptr l i c) 1=D (.ptr l i (c+1)):=j
def Rr(a0 a b a3 a4 a5:aa):dc P 75 (.agg [a0,a,b,a3,a4,a5]) 1=D a:=j
def QF(l i c:Nat):ak P 75 (.ptr l i c) 2=D (.ptr l i (c+2)):=j
def Rs(a0 b a a3 a4 a5:aa):dc P 75 (.agg [a0,b,a,a3,a4,a5]) 2=D a:=j
def QG(l i c:Nat):ak P 75 (.ptr l i c) 3=D (.ptr l i (c+3)):=j
def Rt(a0 a b a3 a4 a5:aa):dc P 75 (.agg [a0,a,b,a3,a4,a5]) 3=D a3:=j
def QH(l i c:Nat):ak P 75 (.ptr l i c) 4=D (.ptr l i (c+4)):=j
def Ru(a0 a b a3 a4 a5:aa):dc P 75 (.agg [a0,a,b,a3,a4,a5]) 4=D a4:=j
def QI(l i c:Nat):ak P 75 (.ptr l i c) 5=D (.ptr l i (c+5)):=j
def Rv(a0 a b a3 a4 a5:aa):dc P 75 (.agg [a0,a,b,a3,a4,a5]) 5=D a5:=j
def arw:ft P 77=D false:=j
def arR:cT P 77=D 1:=j
def RU(l i n:Nat)(cap:Option Nat)(k:Int):aH P 77 (.ag l i n 1 cap) (I J k)=if 1=1/\0<=k/\k<n then D (.ptr l (i+k.toNat) 0)else none:=j
def RT{l i n:Nat}{cap:Option Nat}{k:Int}(a:0<=k)(b:k<n):aH P 77 (.ag l i n 1 cap) (I J k)=D (.ptr l (i+k.toNat) 0):=by rw[RU,if_pos ⟨rfl,a,b⟩]
def acd{H:af}{l i n e:Nat}{cap:Option Nat}:a6 P H .len [77] [.ag l i n e cap]=D (I J n):=j
def acf{H:af}:a6 P H .len [77] [.ao]=D (I J 0):=j
def arx:ft P 78=D false:=j
def arS:cT P 78=D 1:=j
def RW(l i n:Nat)(cap:Option Nat)(k:Int):aH P 78 (.ag l i n 1 cap) (I J k)=if 1=1/\0<=k/\k<n then D (.ptr l (i+k.toNat) 0)else none:=j
def RV{l i n:Nat}{cap:Option Nat}{k:Int}(a:0<=k)(b:k<n):aH P 78 (.ag l i n 1 cap) (I J k)=D (.ptr l (i+k.toNat) 0):=by rw[RW,if_pos ⟨rfl,a,b⟩]
def acg{H:af}{l i n e:Nat}{cap:Option Nat}:a6 P H .len [78] [.ag l i n e cap]=D (I J n):=j
def ach{H:af}:a6 P H .len [78] [.ao]=D (I J 0):=j
def PO{b:aa}{c:aa}{d:aa}{e:aa}{f:aa}{g:aa}{h:aa}{i:aa}{j:aa}{a:aa}{a3:aa}(k:a.one=V)(l:a3.one=V):bo P 149 [(0,.agg [b,c,d,e,f]),(1,.agg [g,h,i,j]),(2,a),(3,a3)]=D (.agg [b,c,d,e,f,g,h,i,j,a,a3,I J 0,I J 0]):=by
 rw[Iz];simp only[List.map_cons,List.map_nil,Dw k,Dw l];kernel_rfl
def PR{a3:aa}(a:a3.one=V):bo P 69 [(3,a3)]=D (.agg [aa.ao,aa.ao,aa.ao,a3]):=by
 rw[Iz];simp only[List.map_cons,List.map_nil,Dw a];kernel_rfl

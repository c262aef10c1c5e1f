/-
  Texts of one proof, laid together: K12x2.
-/
import Derived.Test.YtolnciihfbifcaaGreatMT
set_option linter.unusedVariables false
set_option linter.unusedSimpArgs false
set_option linter.defProp false
open Option renaming some→D,none→Y
open Bool renaming true→V,false→U
open Go.cV.aa renaming int→I,str→X,bool→Z
open Go.IntKind renaming i64→J
namespace Go.Proofs.YtolnciihfbifcaaGreat
open Go.cV
set_option maxRecDepth 1000000
abbrev Ea:=List (Nat×an)
def bM:Nat×an:=(1,(.row U 1 [[I J 21],[I J 0]]))
def bN:Nat×an:=(2,(.row U 1 [[I J 11]]))
def bO:Nat×an:=(3,(.row U 1 [[I J 3]]))
def bP:Nat×an:=(4,(.row U 1 [[I J 1]]))
def bW:Nat×an:=(5,(.row U 1 [[I J 7]]))
def b7:Nat×an:=(6,(.row U 1 [[I J 6]]))
def cb:Nat×an:=(7,(.row U 1 [[I J 22],[I J 0]]))
def cc:Nat×an:=(8,(.row U 1 [[I J 15]]))
def cf:Nat×an:=(9,(.row U 1 [[I J 1]]))
def cg:Nat×an:=(10,(.row U 1 [[I J 15]]))
def Wz:Nat×an:=(11,(.row U 1 [[I J 18]]))
def WA:Nat×an:=(12,(.row U 1 [[(.ag 1 0 2 1 (D 2))],[(.ag 2 0 1 1 (D 1))],[(.ag 3 0 1 1 (D 1))],[(.ag 4 0 1 1 (D 1))],[(.ag 5 0 1 1 (D 1))],[(.ag 6 0 1 1 (D 1))],[(.ag 7 0 2 1 (D 2))],[(.ag 8 0 1 1 (D 1))],[(.ag 9 0 1 1 (D 1))],[(.ag 10 0 1 1 (D 1))],[(.ag 11 0 1 1 (D 1))]]))
def WB:Nat×an:=(13,(.row U 1 [[I J 1]]))
def WC:Nat×an:=(14,(.row U 1 [[I J 3]]))
def WD:Nat×an:=(15,(.row U 1 [[I J 1]]))
def WE:Nat×an:=(16,(.row U 1 [[I J 4]]))
def WG:Nat×an:=(17,(.row U 1 [[I J 17],[I J 5],[I J 6]]))
def WH:Nat×an:=(18,(.row U 1 [[I J 16],[I J 7]]))
def WI:Nat×an:=(19,(.row U 1 [[I J 16],[I J 17]]))
def WJ:Nat×an:=(20,(.row U 1 [[I J 21],[I J 0]]))
def WK:Nat×an:=(21,(.row U 1 [[I J 11]]))
def WL:Nat×an:=(22,(.row U 1 [[I J 3]]))
def WM:Nat×an:=(23,(.row U 1 [[I J 6]]))
def WN:Nat×an:=(24,(.row U 1 [[I J 22],[I J 0]]))
def WO:Nat×an:=(25,(.row U 1 [[I J 15]]))
def WQ:Nat×an:=(26,(.row U 1 [[I J 1]]))
def WR:Nat×an:=(27,(.row U 1 [[I J 4]]))
def WS:Nat×an:=(28,(.row U 1 [[I J 3]]))
def WT:Nat×an:=(29,(.row U 1 [[I J 16],[I J 2]]))
def WU:Nat×an:=(30,(.row U 1 [[I J 18]]))
def WV:Nat×an:=(31,(.row U 1 [[(.ag 13 0 1 1 (D 1))],[(.ag 14 0 1 1 (D 1))],[(.ag 15 0 1 1 (D 1))],[(.ag 16 0 1 1 (D 1))],[(.ag 17 0 3 1 (D 3))],[(.ag 18 0 2 1 (D 2))],[(.ag 19 0 2 1 (D 2))],[(.ag 20 0 2 1 (D 2))],[(.ag 21 0 1 1 (D 1))],[(.ag 22 0 1 1 (D 1))],[(.ag 23 0 1 1 (D 1))],[(.ag 24 0 2 1 (D 2))],[(.ag 25 0 1 1 (D 1))],[(.ag 26 0 1 1 (D 1))],[(.ag 27 0 1 1 (D 1))],[(.ag 28 0 1 1 (D 1))],[(.ag 29 0 2 1 (D 2))],[(.ag 30 0 1 1 (D 1))]]))
def WW:Nat×an:=(32,(.row U 1 [[I J 21],[I J 0],[I J 1]]))
def WY:Nat×an:=(33,(.row U 1 [[I J 11]]))
def WZ:Nat×an:=(34,(.row U 1 [[I J 3]]))
def bQ:Nat×an:=(35,(.row U 1 [[I J 13]]))
def bR:Nat×an:=(36,(.row U 1 [[I J 22],[I J 0],[I J 1]]))
def bS:Nat×an:=(37,(.row U 1 [[I J 1]]))
def bT:Nat×an:=(38,(.row U 1 [[I J 15]]))
def bU:Nat×an:=(39,(.row U 1 [[I J 18]]))
def bV:Nat×an:=(40,(.row U 1 [[(.ag 32 0 3 1 (D 3))],[(.ag 33 0 1 1 (D 1))],[(.ag 34 0 1 1 (D 1))],[(.ag 35 0 1 1 (D 1))],[(.ag 36 0 3 1 (D 3))],[(.ag 37 0 1 1 (D 1))],[(.ag 38 0 1 1 (D 1))],[(.ag 39 0 1 1 (D 1))]]))
def bX:Nat×an:=(41,(.row U 1 [[I J 21],[I J 0]]))
def bY:Nat×an:=(42,(.row U 1 [[I J 13]]))
def bZ:Nat×an:=(43,(.row U 1 [[I J 3]]))
def b0:Nat×an:=(44,(.row U 1 [[I J 2]]))
def b1:Nat×an:=(45,(.row U 1 [[I J 4]]))
def b2:Nat×an:=(46,(.row U 1 [[I J 22],[I J 0]]))
def b3:Nat×an:=(47,(.row U 1 [[I J 17],[I J 7],[I J 8]]))
def b4:Nat×an:=(48,(.row U 1 [[I J 16],[I J 9]]))
def b5:Nat×an:=(49,(.row U 1 [[I J 16],[I J 12]]))
def b6:Nat×an:=(50,(.row U 1 [[I J 1]]))
def b8:Nat×an:=(51,(.row U 1 [[I J 15]]))
def b9:Nat×an:=(52,(.row U 1 [[I J 16],[I J 12]]))
def b_:Nat×an:=(53,(.row U 1 [[I J 18]]))
def ca:Nat×an:=(54,(.row U 1 [[(.ag 41 0 2 1 (D 2))],[(.ag 42 0 1 1 (D 1))],[(.ag 43 0 1 1 (D 1))],[(.ag 44 0 1 1 (D 1))],[(.ag 45 0 1 1 (D 1))],[(.ag 46 0 2 1 (D 2))],[(.ag 47 0 3 1 (D 3))],[(.ag 48 0 2 1 (D 2))],[(.ag 49 0 2 1 (D 2))],[(.ag 50 0 1 1 (D 1))],[(.ag 51 0 1 1 (D 1))],[(.ag 52 0 2 1 (D 2))],[(.ag 53 0 1 1 (D 1))]]))
def W0:Nat×an:=(55,(.row U 1 [[I J 21],[I J 0]]))
def W1:Nat×an:=(56,(.row U 1 [[I J 11]]))
def W2:Nat×an:=(57,(.row U 1 [[I J 3]]))
def W3:Nat×an:=(58,(.row U 1 [[I J 14]]))
def W4:Nat×an:=(59,(.row U 1 [[I J 1]]))
def W5:Nat×an:=(60,(.row U 1 [[I J 4]]))
def W6:Nat×an:=(61,(.row U 1 [[I J 17],[I J 7],[I J 8]]))
def W7:Nat×an:=(62,(.row U 1 [[I J 16],[I J 10]]))
def W8:Nat×an:=(63,(.row U 1 [[I J 22],[I J 0]]))
def W9:Nat×an:=(64,(.row U 1 [[I J 16],[I J 14]]))
def W_:Nat×an:=(65,(.row U 1 [[I J 6]]))
def Xa:Nat×an:=(66,(.row U 1 [[I J 22],[I J 0]]))
def Xb:Nat×an:=(67,(.row U 1 [[I J 15]]))
def Xc:Nat×an:=(68,(.row U 1 [[I J 16],[I J 14]]))
def Xd:Nat×an:=(69,(.row U 1 [[I J 1]]))
def Xe:Nat×an:=(70,(.row U 1 [[I J 15]]))
def Xf:Nat×an:=(71,(.row U 1 [[I J 18]]))
def Xg:Nat×an:=(72,(.row U 1 [[(.ag 55 0 2 1 (D 2))],[(.ag 56 0 1 1 (D 1))],[(.ag 57 0 1 1 (D 1))],[(.ag 58 0 1 1 (D 1))],[(.ag 59 0 1 1 (D 1))],[(.ag 60 0 1 1 (D 1))],[(.ag 61 0 3 1 (D 3))],[(.ag 62 0 2 1 (D 2))],[(.ag 63 0 2 1 (D 2))],[(.ag 64 0 2 1 (D 2))],[(.ag 65 0 1 1 (D 1))],[(.ag 66 0 2 1 (D 2))],[(.ag 67 0 1 1 (D 1))],[(.ag 68 0 2 1 (D 2))],[(.ag 69 0 1 1 (D 1))],[(.ag 70 0 1 1 (D 1))],[(.ag 71 0 1 1 (D 1))]]))
def Xh:Nat×an:=(73,(.row U 1 [[I J 11]]))
def Xi:Nat×an:=(74,(.row U 1 [[I J 20]]))
def Xj:Nat×an:=(75,(.row U 1 [[I J 18]]))
def Xk:Nat×an:=(76,(.row U 1 [[(.ag 73 0 1 1 (D 1))],[(.ag 74 0 1 1 (D 1))],[(.ag 75 0 1 1 (D 1))]]))
def Xl:Nat×an:=(77,(.row U 1 [[(.ag 12 0 11 1 (D 11))],[(.ag 31 0 18 1 (D 18))],[(.ag 40 0 8 1 (D 8))],[(.ag 54 0 13 1 (D 13))],[(.ag 72 0 17 1 (D 17))],[(.ag 76 0 3 1 (D 3))]]))
def ld:Nat×an:=(80,(.row U 1 [[I J 11]]))
def lf:Nat×an:=(81,(.row U 1 [[I J 7]]))
def lg:Nat×an:=(82,(.row U 1 [[I J 18]]))
def lh:Nat×an:=(83,(.row U 1 [[(.ag 80 0 1 1 (D 1))],[(.ag 81 0 1 1 (D 1))],[(.ag 82 0 1 1 (D 1))]]))
def lj:Nat×an:=(84,(.row U 1 [[I J 11]]))
def lk:Nat×an:=(85,(.row U 1 [[I J 18]]))
def ll:Nat×an:=(86,(.row U 1 [[I J 2]]))
def ln:Nat×an:=(87,(.row U 1 [[I J 18]]))
def lo:Nat×an:=(88,(.row U 1 [[(.ag 84 0 1 1 (D 1))],[(.ag 85 0 1 1 (D 1))],[(.ag 86 0 1 1 (D 1))],[(.ag 87 0 1 1 (D 1))]]))
def lp:Nat×an:=(91,(.row U 1 [[(.ag 78 0 0 1 (D 0))],[(.ag 79 0 0 1 (D 0))],[(.ag 83 0 3 1 (D 3))],[(.ag 88 0 4 1 (D 4))],[(.ag 89 0 0 1 (D 0))],[(.ag 90 0 0 1 (D 0))]]))
def Ll:Nat×an:=(381,(.row U 4 [[X [110],X [82],I J 0,I J 11]]))
def Lm:Nat×an:=(389,(.row U 3 [[X [82],.ag 381 0 1 4 Y,I J 7]]))
def Ln:Nat×an:=(556,(.row U 11 [[I J 8,I J 0,X [],X [82],I J 0,.ao,I J 44,I J 0,I J 0,I J 0,I J 0]]))
def Lo:Nat×an:=(737,(.row U 11 [[I J 4,I J 0,X [97],X [],I J 0,.ao,I J 53,I J 0,I J 0,I J 0,I J 0]]))
def Lp:Nat×an:=(826,(.row U 11 [[I J 7,I J 0,X [102],X [],I J 0,.ag 737 0 1 11 Y,I J 51,I J 0,I J 0,I J 0,I J 0]]))
def Lq:Nat×an:=(948,(.row U 11 [[I J 1,I J 1,X [],X [],I J 0,.ao,I J 63,I J 0,I J 0,I J 0,I J 0]]))
def Lr:Nat×an:=(952,(.row U 9 [[I J 2,X [97],X [82],I J 0,(.ag 556 0 1 11 (D 1)),.ao,.ao,I J 33,I J 0],[I J 9,X [],X [],I J 0,(.ag 826 0 1 11 (D 1)),.ao,.ao,I J 51,I J 0],[I J 8,X [],X [],I J 0,(.ag 948 0 1 11 (D 1)),.ao,.ao,I J 57,I J 0]]))
def Ls:Nat×an:=(1000,(.row U 4 [[X [114],X [82],I J 0,I J 75]]))
def Lt:Nat×an:=(1077,(.row U 11 [[I J 4,I J 0,X [114],X [],I J 0,.ao,I J 83,I J 0,I J 0,I J 0,I J 0]]))
def Lu:Nat×an:=(1275,(.row U 11 [[I J 5,I J 0,X [110],X [],I J 0,(.ag 1077 0 1 11 (D 1)),I J 84,I J 0,I J 0,I J 0,I J 0],[I J 8,I J 0,X [],X [82],I J 0,.ao,I J 89,I J 0,I J 0,I J 0,I J 0]]))
def Lv:Nat×an:=(1277,(.row U 9 [[I J 4,X [],X [],I J 0,(.ag 1275 0 2 11 (D 2)),.ao,.ao,I J 83,I J 0]]))
def Lw:Nat×an:=(1283,(.row U 7 [[X [109,97,105,110],.ao,Z U,X [],I J 0,.ag 952 0 3 9 Y,I J 24],[X [102],.ag 1000 0 1 4 Y,Z U,X [],I J 0,.ag 1277 0 1 9 Y,I J 73]]))
def oj:Nat×an:=(1286,(.row U 2 [[I J 0,I J 0]]))
def K6:Nat×an:=(1305,(.row U 4 [[X [110],I J 3,I J 0,I J 0]]))
def K7:Nat×an:=(1308,(.row U 2 [[X [82],.ag 1305 0 1 4 Y]]))
def K8:Nat×an:=(1667,(.row U 1 [[I J 0]]))
def K9:Nat×an:=(1675,(.row U 3 [[I J 3,I J 0,I J 0],[I J 3,I J 0,I J 0],[I J 1,I J 0,I J 0]]))
def K_:Nat×an:=(1684,(.row U 6 [[I J 11,I J 1,I J 0,I J 0,I J 0,.ao],[I J 3,I J 0,I J 1,I J 0,I J 0,.ao],[I J 13,(I J (-1)),I J 0,I J 1,I J 0,.ag 1667 0 1 1 Y],[I J 1,I J 2,I J 0,I J 0,I J 1,.ao],[I J 15,I J 2,I J 0,I J 0,I J 0,.ao],[I J 18,(I J (-1)),I J 0,I J 0,I J 0,.ao]]))
def La:Nat×an:=(1700,(.row U 3 [[I J 3,I J 0,I J 0],[I J 3,I J 0,I J 0]]))
def Lb:Nat×an:=(1703,(.row U 4 [[I J 0,I J 3,I J 0,I J 0],[I J 1,I J 3,I J 0,I J 0]]))
def Lc:Nat×an:=(1712,(.row U 6 [[I J 11,I J 1,I J 0,I J 0,I J 1,.ao],[I J 7,I J 0,I J 1,I J 0,I J 0,.ao],[I J 18,(I J (-1)),I J 0,I J 0,I J 0,.ao]]))
def Ld:Nat×an:=(1714,(.row U 7 [[I J 0,.ag 1675 0 3 3 Y,Z U,I J 0,I J 0,I J 0,.ag 1684 0 6 6 Y],[I J 1,.ag 1700 0 2 3 Y,Z U,I J 0,I J 0,I J 0,.ag 1712 0 3 6 Y]]))
def yk:Nat×an:=(1716,(.row U 2 [[I J 0,I J 0]]))
def cY:Nat×an:=(1717,(.row U 5 [[.ag 1308 0 1 2 Y,.ao,.ag 1714 0 2 7 Y,.ag 1703 0 2 4 Y,I J 0]]))
def cZ:Nat×an:=(1718,(.row U 4 [[.ao,.ao,.ao,I J 0]]))
def c4:Nat×an:=(3117,(.row U 1 [[I J 0],[I J 1]]))
def c5:Nat×an:=(3132,(.row U 1 [[I J 0],[I J 0],[(I J (-1))],[I J 0],[I J 1],[(I J (-1))],[(I J (-1))]]))
def c6:Nat×an:=(3157,(.row U 1 [[I J 1],[(I J (-1))],[(I J (-1))],[(I J (-1))],[(I J (-1))],[(I J (-1))],[(I J (-1))],[(I J (-1))]]))
def c7:Nat×an:=(3183,(.row U 1 [[(I J (-1))],[(I J (-1))],[(I J (-1))],[(I J (-1))],[(I J (-1))],[(I J (-1))],[(I J (-1))],[(I J (-1))]]))
def c8:Nat×an:=(3185,(.row U 1 [[.ag 3157 0 8 1 Y],[.ag 3183 0 8 1 Y]]))
def dg:Nat×an:=(5250,(.row U 1 [[.ao],[.ag 5295 0 1 1 Y]]))
def c0:Nat×an:=(5295,(.row U 1 [[I J 1]]))
def dd:Nat×an:=(7584,(.row U 1 [[I J 0],[I J 1]]))
def dv:Nat×an:=(7801,(.row U 1 [[.ag 7584 0 2 1 Y],[.ao]]))
def fU:Nat×an:=(7802,(.row U 13 [[.ag 1308 0 1 2 Y,.ao,.ag 1714 0 2 7 Y,.ag 1703 0 2 4 Y,I J 0,I J 2,(.ag 3117 0 2 1 (D 2)),.ag 3132 0 7 1 Y,.ag 3185 0 2 1 Y,(.ag 5250 0 2 1 (D 2)),.ag 7801 0 2 1 Y,I J 3,I J 5]]))
def dy:Nat×an:=(7804,(.row U 7 [[I J 1,.ag 1700 0 2 3 Y,Z U,I J 0,I J 0,I J 0,.ag 1712 0 3 6 Y]]))
def fV:Nat×an:=(7805,(.row U 4 [[.ag 8181 0 2 2 Y,.ao,.ao,I J 0]]))
def dh:Nat×an:=(7991,(.row U 1 [[I J 1]]))
def di:Nat×an:=(8179,(.row U 1 [[(I J (-1))]]))
def dz:Nat×an:=(8180,(.row U 2 [[Z U,.ag 8179 0 1 1 Y]]))
def dj:Nat×an:=(8181,(.row U 2 [[Z U,.ag 7991 0 1 1 Y],[Z U,.ag 8179 0 1 1 Y]]))
def gV:Nat×an:=(8182,(.row U 6 [[I J 0,.ao,I J 0,.ao,.ao,.ao]]))
def gW:Nat×an:=(8183,(.row U 7 [[I J 0,.ag 1675 0 3 3 Y,Z U,I J 0,I J 0,I J 0,.ag 1684 0 6 6 Y]]))
def gX:Nat×an:=(8184,(.row U 6 [[I J 0,.ag 8199 0 3 1 Y,(I J (-3)),.ao,.ag 7584 0 2 1 Y,.ao]]))
def gY:Nat×an:=(8195,(.row U 3 [[I J 1,I J 0,I J 0]]))
def gZ:Nat×an:=(8198,(.row U 1 [[(I J (-2))]]))
def ds:Nat×an:=(8199,(.row U 1 [[I J 0],[I J 0],[(I J (-2))]]))
def k9:Nat×an:=(8200,(.row U 5 [[.ag 1308 0 1 2 Y,.ao,.ag 1714 0 2 7 Y,.ag 1703 0 2 4 Y,I J 0]]))
def oc:Nat×an:=(8201,(.row U 5 [[.ag 1308 0 1 2 Y,.ao,.ag 1714 0 2 7 Y,.ag 1703 0 2 4 Y,I J 0]]))
def od:Nat×an:=(10490,(.row U 1 [[I J 0],[I J 1]]))
def qt:Nat×an:=(10707,(.row U 1 [[.ag 10490 0 2 1 Y],[.ao]]))
def yl:Nat×an:=(11931,(.row U 1 [[I J 0],[I J 1]]))
def ym:Nat×an:=(11946,(.row U 1 [[I J 0],[I J 0],[(I J (-1))],[I J 0],[I J 1],[(I J (-1))],[(I J (-1))]]))
def yn:Nat×an:=(11971,(.row U 1 [[I J 1],[(I J (-1))],[(I J (-1))],[(I J (-1))],[(I J (-1))],[(I J (-1))],[(I J (-1))],[(I J (-1))]]))
def yo:Nat×an:=(11997,(.row U 1 [[(I J (-1))],[(I J (-1))],[(I J (-1))],[(I J (-1))],[(I J (-1))],[(I J (-1))],[(I J (-1))],[(I J (-1))]]))
def yp:Nat×an:=(11999,(.row U 1 [[.ag 11971 0 8 1 Y],[.ag 11997 0 8 1 Y]]))
def Le:Nat×an:=(12002,(.row U 12 [[.ag 1308 0 1 2 Y,.ao,.ag 1714 0 2 7 Y,.ag 1703 0 2 4 Y,I J 0,I J 0,I J 2,(.ag 11931 0 2 1 (D 2)),.ag 11946 0 7 1 Y,.ag 11999 0 2 1 Y,.ag 10490 0 2 1 Y,.ao]]))
def ja:Nat×an:=(12159,(.row U 1 [[I J 0],[I J 1]]))
def jb:Nat×an:=(12175,(.row U 1 [[I J 0],[I J 1]]))
def jc:Nat×an:=(12193,(.row U 1 [[.ao],[.ag 12159 0 2 1 Y],[.ag 12175 0 2 1 Y],[.ao],[.ao],[.ao]]))
def k_:Nat×an:=(12194,(.row U 5 [[.ag 1308 0 1 2 Y,.ao,.ag 1714 0 2 7 Y,.ag 1703 0 2 4 Y,I J 0]]))
def oe:Nat×an:=(12195,(.row U 5 [[.ag 1308 0 1 2 Y,.ao,.ag 1714 0 2 7 Y,.ag 1703 0 2 4 Y,I J 0]]))
def og:Nat×an:=(14484,(.row U 1 [[I J 0],[I J 1]]))
def qu:Nat×an:=(14701,(.row U 1 [[.ag 14484 0 2 1 Y],[.ao]]))
def yq:Nat×an:=(15925,(.row U 1 [[I J 0],[I J 1]]))
def yr:Nat×an:=(15940,(.row U 1 [[I J 0],[I J 0],[(I J (-1))],[I J 0],[I J 1],[(I J (-1))],[(I J (-1))]]))
def ys:Nat×an:=(15965,(.row U 1 [[I J 1],[(I J (-1))],[(I J (-1))],[(I J (-1))],[(I J (-1))],[(I J (-1))],[(I J (-1))],[(I J (-1))]]))
def yt:Nat×an:=(15991,(.row U 1 [[(I J (-1))],[(I J (-1))],[(I J (-1))],[(I J (-1))],[(I J (-1))],[(I J (-1))],[(I J (-1))],[(I J (-1))]]))
def yu:Nat×an:=(15993,(.row U 1 [[.ag 15965 0 8 1 Y],[.ag 15991 0 8 1 Y]]))
def Lf:Nat×an:=(15996,(.row U 12 [[.ag 1308 0 1 2 Y,.ao,.ag 1714 0 2 7 Y,.ag 1703 0 2 4 Y,I J 0,I J 0,I J 2,(.ag 15925 0 2 1 (D 2)),.ag 15940 0 7 1 Y,.ag 15993 0 2 1 Y,.ag 14484 0 2 1 Y,.ao]]))
def fj:Nat×an:=(18317,(.row U 1 [[I J 0],[I J 1]]))
def fk:Nat×an:=(18349,(.row U 1 [[I J 0]]))
def fl:Nat×an:=(18360,(.row U 1 [[I J 0],[I J 1]]))
def fm:Nat×an:=(18390,(.row U 6 [[I J 21,I J 0,I J 0,I J 0,I J 0,.ag 18317 0 2 1 Y],[I J 11,I J 1,I J 0,I J 0,I J 0,.ao],[I J 3,I J 0,I J 1,I J 0,I J 0,.ao],[I J 13,(I J (-1)),I J 0,I J 1,I J 0,.ag 18349 0 1 1 Y],[I J 22,I J 0,I J 0,I J 0,I J 0,.ag 18360 0 2 1 Y],[I J 1,I J 2,I J 0,I J 0,I J 1,.ao],[I J 15,I J 2,I J 0,I J 0,I J 0,.ao],[I J 18,(I J (-1)),I J 0,I J 0,I J 0,.ao]]))
def gp:Nat×an:=(7802,(.row U 13 [[.ag 1308 0 1 2 Y,.ao,.ag 1714 0 2 7 Y,.ag 1703 0 2 4 Y,I J 0,I J 2,(.ag 3117 0 2 1 (D 2)),.ag 3132 0 7 1 Y,.ag 3185 0 2 1 Y,(.ag 5250 0 2 1 (D 2)),.ag 7801 0 2 1 Y,I J 5,I J 5]]))
def fW:Nat×an:=(7805,(.row U 4 [[.ag 8181 0 2 2 Y,.ao,.ag 18392 0 1 6 Y,I J 0]]))
def fX:Nat×an:=(18391,(.row U 6 [[I J 0,.ag 8199 0 3 1 Y,(I J (-3)),.ao,.ag 7584 0 2 1 Y,.ag 18390 0 8 6 Y]]))
def fY:Nat×an:=(18392,(.row U 6 [[I J 0,.ag 8199 0 3 1 Y,(I J (-3)),.ao,.ag 7584 0 2 1 Y,.ag 18390 0 8 6 Y]]))
def g0:Nat×an:=(18393,(.row U 6 [[I J 0,.ao,I J 0,.ao,.ao,.ao]]))
def g1:Nat×an:=(18394,(.row U 7 [[I J 1,.ag 1700 0 2 3 Y,Z U,I J 0,I J 0,I J 0,.ag 1712 0 3 6 Y]]))
def g2:Nat×an:=(18395,(.row U 6 [[I J 1,.ag 18405 0 2 1 Y,(I J (-3)),.ag 5295 0 1 1 Y,.ao,.ao]]))
def g3:Nat×an:=(18401,(.row U 3 [[I J 3,I J 0,I J 0]]))
def g4:Nat×an:=(18404,(.row U 1 [[I J 1]]))
def fG:Nat×an:=(18405,(.row U 1 [[I J 0],[I J 1]]))
def la:Nat×an:=(18406,(.row U 5 [[.ag 1308 0 1 2 Y,.ao,.ag 1714 0 2 7 Y,.ag 1703 0 2 4 Y,I J 0]]))
def oh:Nat×an:=(18407,(.row U 5 [[.ag 1308 0 1 2 Y,.ao,.ag 1714 0 2 7 Y,.ag 1703 0 2 4 Y,I J 0]]))
def qv:Nat×an:=(20696,(.row U 1 [[I J 0],[I J 1]]))
def qw:Nat×an:=(20913,(.row U 1 [[.ag 20696 0 2 1 Y],[.ao]]))
def yv:Nat×an:=(22137,(.row U 1 [[I J 0],[I J 1]]))
def yw:Nat×an:=(22152,(.row U 1 [[I J 0],[I J 0],[(I J (-1))],[I J 0],[I J 1],[(I J (-1))],[(I J (-1))]]))
def yx:Nat×an:=(22177,(.row U 1 [[I J 1],[(I J (-1))],[(I J (-1))],[(I J (-1))],[(I J (-1))],[(I J (-1))],[(I J (-1))],[(I J (-1))]]))
def yy:Nat×an:=(22203,(.row U 1 [[(I J (-1))],[(I J (-1))],[(I J (-1))],[(I J (-1))],[(I J (-1))],[(I J (-1))],[(I J (-1))],[(I J (-1))]]))
def yA:Nat×an:=(22205,(.row U 1 [[.ag 22177 0 8 1 Y],[.ag 22203 0 8 1 Y]]))
def Lg:Nat×an:=(22208,(.row U 12 [[.ag 1308 0 1 2 Y,.ao,.ag 1714 0 2 7 Y,.ag 1703 0 2 4 Y,I J 0,I J 1,I J 2,(.ag 22137 0 2 1 (D 2)),.ag 22152 0 7 1 Y,.ag 22205 0 2 1 Y,.ao,.ao]]))
def Lh:Nat×an:=(22209,(.row U 7 [[I J 0,.ag 1675 0 3 3 Y,Z U,I J 0,I J 0,I J 0,.ag 1684 0 6 6 Y]]))
def jd:Nat×an:=(22296,(.row U 1 [[I J 0],[I J 0]]))
def je:Nat×an:=(22314,(.row U 1 [[I J 0],[I J 0]]))
def jf:Nat×an:=(22320,(.row U 1 [[.ag 22296 0 0 1 Y],[.ag 22314 0 0 1 Y],[.ao]]))
def lb:Nat×an:=(22321,(.row U 5 [[.ag 1308 0 1 2 Y,.ao,.ag 1714 0 2 7 Y,.ag 1703 0 2 4 Y,I J 0]]))
def oi:Nat×an:=(22322,(.row U 5 [[.ag 1308 0 1 2 Y,.ao,.ag 1714 0 2 7 Y,.ag 1703 0 2 4 Y,I J 0]]))
def qx:Nat×an:=(24611,(.row U 1 [[I J 0],[I J 1]]))
def qy:Nat×an:=(24828,(.row U 1 [[.ag 24611 0 2 1 Y],[.ao]]))
def yB:Nat×an:=(26052,(.row U 1 [[I J 0],[I J 1]]))
def yC:Nat×an:=(26067,(.row U 1 [[I J 0],[I J 0],[(I J (-1))],[I J 0],[I J 1],[(I J (-1))],[(I J (-1))]]))
def yD:Nat×an:=(26092,(.row U 1 [[I J 1],[(I J (-1))],[(I J (-1))],[(I J (-1))],[(I J (-1))],[(I J (-1))],[(I J (-1))],[(I J (-1))]]))
def yE:Nat×an:=(26118,(.row U 1 [[(I J (-1))],[(I J (-1))],[(I J (-1))],[(I J (-1))],[(I J (-1))],[(I J (-1))],[(I J (-1))],[(I J (-1))]]))
def yF:Nat×an:=(26120,(.row U 1 [[.ag 26092 0 8 1 Y],[.ag 26118 0 8 1 Y]]))
def Li:Nat×an:=(26123,(.row U 12 [[.ag 1308 0 1 2 Y,.ao,.ag 1714 0 2 7 Y,.ag 1703 0 2 4 Y,I J 0,I J 1,I J 2,(.ag 26052 0 2 1 (D 2)),.ag 26067 0 7 1 Y,.ag 26120 0 2 1 Y,.ao,.ao]]))
def Lj:Nat×an:=(26124,(.row U 7 [[I J 0,.ag 1675 0 3 3 Y,Z U,I J 0,I J 0,I J 0,.ag 1684 0 6 6 Y]]))
def yG:Nat×an:=(26287,(.row U 6 [[I J 11,I J 1,I J 0,I J 0,I J 1,.ao],[I J 7,I J 0,I J 1,I J 0,I J 0,.ao],[I J 18,(I J (-1)),I J 0,I J 0,I J 0,.ao]]))
def Eb:Nat×an:=(26289,(.row U 6 [[I J 0,.ag 8199 0 3 1 Y,(I J (-3)),.ao,.ag 7584 0 2 1 Y,.ag 18390 0 8 6 Y],[I J 1,.ag 18405 0 2 1 Y,(I J (-3)),.ag 5295 0 1 1 Y,.ao,.ag 26287 0 3 6 Y]]))
def Lk:Nat×an:=(26290,(.row U 4 [[.ag 8181 0 2 2 Y,.ao,.ag 26289 0 2 6 Y,I J 0]]))
def cX:Ea:=[(79,(.row U 1 [])),ld,lf,lg,lh,lj,lk,ll,ln,lo,(89,(.row U 1 [])),(90,(.row U 1 [])),lp,oj,K6,K7,K8,K9,K_,La,Lb,Lc,Ld,yk]
def ch:Ea:=[W0,W1,W2,W3,W4,W5,W6,W7,W8,W9,W_,Xa,Xb,Xc,Xd,Xe,Xf,Xg,Xh,Xi,Xj,Xk,Xl,(78,(.row U 1 []))]
def cj:Ea:=[Wz,WA,WB,WC,WD,WE,WG,WH,WI,WJ,WK,WL,WM,WN,WO,WQ,WR,WS,WT,WU,WV,WW,WY,WZ]
def KC:aR:=⟨32,[X [114,101,99,111,114,100,32,82,32,123,32,110,58,32,82,59,32,125,32,102,117,110,99,32,109,97,105,110,40,41,32,123,32,108,101,116,32,97,58,32,82,32,61,32,110,101,119,32,82,59,32,102,40,97,41,59,32,112,114,105,110,116,32,49,59,32,125,32,102,117,110,99,32,102,40,114,58,32,82,41,32,123,32,114,46,110,32,61,32,110,101,119,32,82,59,32,125]],92,([bM,bN,bO,bP,bW,b7,cb,cc,cf,cg]++cj++[bQ,bR,bS,bT,bU,bV,bX,bY,bZ,b0,b1,b2,b3,b4,b5,b6,b8,b9,b_,ca]++ch++[(79,(.row U 1 [])),ld,lf,lg,lh,lj,lk,ll,ln,lo,(89,(.row U 1 [])),(90,(.row U 1 [])),lp]),(.tuple [.agg [.ag 389 0 1 3 Y,.ao,.ag 1283 0 2 7 Y],.agg [I J 0,I J 0]]),1285,([bM,bN,bO,bP,bW,b7,cb,cc,cf,cg]++cj++[bQ,bR,bS,bT,bU,bV,bX,bY,bZ,b0,b1,b2,b3,b4,b5,b6,b8,b9,b_,ca]++ch++[(79,(.row U 1 [])),ld,lf,lg,lh,lj,lk,ll,ln,lo,(89,(.row U 1 [])),(90,(.row U 1 [])),lp,Ll,Lm,Ln,Lo,Lp,Lq,Lr,Ls,Lt,Lu,Lv,Lw])⟩
def VT(a:aZ az P aY):KC.Ok az P:=aR.bm (bk a bB 100) j
def KD:aR:=⟨33,[.agg [.ag 389 0 1 3 Y,.ao,.ag 1283 0 2 7 Y]],1287,([bM,bN,bO,bP,bW,b7,cb,cc,cf,cg]++cj++[bQ,bR,bS,bT,bU,bV,bX,bY,bZ,b0,b1,b2,b3,b4,b5,b6,b8,b9,b_,ca]++ch++[(79,(.row U 1 [])),ld,lf,lg,lh,lj,lk,ll,ln,lo,(89,(.row U 1 [])),(90,(.row U 1 [])),lp,Ll,Lm,Ln,Lo,Lp,Lq,Lr,Ls,Lt,Lu,Lv,Lw,oj]),(.tuple [.agg [.ag 1308 0 1 2 Y,.ao,.ag 1714 0 2 7 Y,.ag 1703 0 2 4 Y,I J 0],.agg [I J 0,I J 0]]),1715,([bM,bN,bO,bP,bW,b7,cb,cc,cf,cg]++cj++[bQ,bR,bS,bT,bU,bV,bX,bY,bZ,b0,b1,b2,b3,b4,b5,b6,b8,b9,b_,ca]++ch++[(79,(.row U 1 [])),ld,lf,lg,lh,lj,lk,ll,ln,lo,(89,(.row U 1 [])),(90,(.row U 1 [])),lp,oj,K6,K7,K8,K9,K_,La,Lb,Lc,Ld])⟩
def V2(a:aZ az P aY):KD.Ok az P:=aR.bm (bk a bB 100) j
def KQ:aR:=⟨76,[.agg [.ag 1308 0 1 2 Y,.ao,.ag 1714 0 2 7 Y,.ag 1703 0 2 4 Y,I J 0]],1894,([bM,bN,bO,bP,bW,b7,cb,cc,cf,cg]++cj++[bQ,bR,bS,bT,bU,bV,bX,bY,bZ,b0,b1,b2,b3,b4,b5,b6,b8,b9,b_,ca]++ch++cX++[cY,cZ]),(.agg [I J 2,(.ag 3117 0 2 1 (D 2)),.ag 3132 0 7 1 Y,.ag 3185 0 2 1 Y]),3188,([bM,bN,bO,bP,bW,b7,cb,cc,cf,cg]++cj++[bQ,bR,bS,bT,bU,bV,bX,bY,bZ,b0,b1,b2,b3,b4,b5,b6,b8,b9,b_,ca]++ch++cX++[cY,cZ,c4,c5,c6,c7,c8])⟩
def Wd(a:aZ az P aY):KQ.Ok az P:=aR.bm (bk a bB 100) j
def KS:aR:=⟨77,[.agg [.ag 1308 0 1 2 Y,.ao,.ag 1714 0 2 7 Y,.ag 1703 0 2 4 Y,I J 0]],3188,([bM,bN,bO,bP,bW,b7,cb,cc,cf,cg]++cj++[bQ,bR,bS,bT,bU,bV,bX,bY,bZ,b0,b1,b2,b3,b4,b5,b6,b8,b9,b_,ca]++ch++cX++[cY,cZ,c4,c5,c6,c7,c8]),(.ag 5250 0 2 1 (D 2)),5296,([bM,bN,bO,bP,bW,b7,cb,cc,cf,cg]++cj++[bQ,bR,bS,bT,bU,bV,bX,bY,bZ,b0,b1,b2,b3,b4,b5,b6,b8,b9,b_,ca]++ch++cX++[cY,cZ,c4,c5,c6,c7,c8,dg,c0])⟩
def Wl(a:aZ az P aY):KS.Ok az P:=aR.bm (bk a bB 100) j
def KY:aR:=⟨78,[.agg [.ag 1308 0 1 2 Y,.ao,.ag 1714 0 2 7 Y,.ag 1703 0 2 4 Y,I J 0]],5296,([bM,bN,bO,bP,bW,b7,cb,cc,cf,cg]++cj++[bQ,bR,bS,bT,bU,bV,bX,bY,bZ,b0,b1,b2,b3,b4,b5,b6,b8,b9,b_,ca]++ch++cX++[cY,cZ,c4,c5,c6,c7,c8,dg,c0]),.ag 7801 0 2 1 Y,7802,([bM,bN,bO,bP,bW,b7,cb,cc,cf,cg]++cj++[bQ,bR,bS,bT,bU,bV,bX,bY,bZ,b0,b1,b2,b3,b4,b5,b6,b8,b9,b_,ca]++ch++cX++[cY,cZ,c4,c5,c6,c7,c8,dg,c0,dd,dv])⟩
def Wt(a:aZ az P aY):KY.Ok az P:=aR.bm (bk a bB 100) j
def KG:aR:=⟨78,[.agg [.ag 1308 0 1 2 Y,.ao,.ag 1714 0 2 7 Y,.ag 1703 0 2 4 Y,I J 0]],8202,([bM,bN,bO,bP,bW,b7,cb,cc,cf,cg]++cj++[bQ,bR,bS,bT,bU,bV,bX,bY,bZ,b0,b1,b2,b3,b4,b5,b6,b8,b9,b_,ca]++ch++cX++[cY,cZ,c4,c5,c6,c7,c8,dg,c0,dd,dv,fU,dy,fV,dh,di,dz,dj,gV,gW,gX,gY,gZ,ds,k9,oc]),.ag 10707 0 2 1 Y,10708,([bM,bN,bO,bP,bW,b7,cb,cc,cf,cg]++cj++[bQ,bR,bS,bT,bU,bV,bX,bY,bZ,b0,b1,b2,b3,b4,b5,b6,b8,b9,b_,ca]++ch++cX++[cY,cZ,c4,c5,c6,c7,c8,dg,c0,dd,dv,fU,dy,fV,dh,di,dz,dj,gV,gW,gX,gY,gZ,ds,k9,oc,od,qt])⟩
def VZ(a:aZ az P aY):KG.Ok az P:=aR.bm (bk a bB 100) j
def KH:aR:=⟨76,[.agg [.ag 1308 0 1 2 Y,.ao,.ag 1714 0 2 7 Y,.ag 1703 0 2 4 Y,I J 0]],10708,([bM,bN,bO,bP,bW,b7,cb,cc,cf,cg]++cj++[bQ,bR,bS,bT,bU,bV,bX,bY,bZ,b0,b1,b2,b3,b4,b5,b6,b8,b9,b_,ca]++ch++cX++[cY,cZ,c4,c5,c6,c7,c8,dg,c0,dd,dv,fU,dy,fV,dh,di,dz,dj,gV,gW,gX,gY,gZ,ds,k9,oc,od,qt]),(.agg [I J 2,(.ag 11931 0 2 1 (D 2)),.ag 11946 0 7 1 Y,.ag 11999 0 2 1 Y]),12002,([bM,bN,bO,bP,bW,b7,cb,cc,cf,cg]++cj++[bQ,bR,bS,bT,bU,bV,bX,bY,bZ,b0,b1,b2,b3,b4,b5,b6,b8,b9,b_,ca]++ch++cX++[cY,cZ,c4,c5,c6,c7,c8,dg,c0,dd,dv,fU,dy,fV,dh,di,dz,dj,gV,gW,gX,gY,gZ,ds,k9,oc,od,qt,yl,ym,yn,yo,yp])⟩
def V0(a:aZ az P aY):KH.Ok az P:=aR.bm (bk a bB 100) j
def KI:aR:=⟨93,[.agg [I J 0,.ag 1675 0 3 3 Y,Z U,I J 0,I J 0,I J 0,.ag 1684 0 6 6 Y]],12003,([bM,bN,bO,bP,bW,b7,cb,cc,cf,cg]++cj++[bQ,bR,bS,bT,bU,bV,bX,bY,bZ,b0,b1,b2,b3,b4,b5,b6,b8,b9,b_,ca]++ch++cX++[cY,cZ,c4,c5,c6,c7,c8,dg,c0,dd,dv,fU,dy,fV,dh,di,dz,dj,gV,gW,gX,gY,gZ,ds,k9,oc,od,qt,yl,ym,yn,yo,yp,Le]),(.ag 12135 0 6 1 (D 6)),12142,([bM,bN,bO,bP,bW,b7,cb,cc,cf,cg]++cj++[bQ,bR,bS,bT,bU,bV,bX,bY,bZ,b0,b1,b2,b3,b4,b5,b6,b8,b9,b_,ca]++ch++cX++[cY,cZ,c4,c5,c6,c7,c8,dg,c0,dd,dv,fU,dy,fV,dh,di,dz,dj,gV,gW,gX,gY,gZ,ds,k9,oc,od,qt,yl,ym,yn,yo,yp,Le,(12135,(.row U 1 [[.ao],[.ag 12137 0 1 1 Y],[.ag 12139 0 1 1 Y],[.ao],[.ag 12141 0 1 1 Y],[.ao]])),(12137,(.row U 1 [[I J 1]])),(12139,(.row U 1 [[I J 0]])),(12141,(.row U 1 [[I J 2]]))])⟩
def V1(a:aZ az P aY):KI.Ok az P:=aR.bm (bk a bB 100) j
def KF:aR:=⟨45,[.agg [.ag 1308 0 1 2 Y,.ao,.ag 1714 0 2 7 Y,.ag 1703 0 2 4 Y,I J 0],I J 0],8201,([bM,bN,bO,bP,bW,b7,cb,cc,cf,cg]++cj++[bQ,bR,bS,bT,bU,bV,bX,bY,bZ,b0,b1,b2,b3,b4,b5,b6,b8,b9,b_,ca]++ch++cX++[cY,cZ,c4,c5,c6,c7,c8,dg,c0,dd,dv,fU,dy,fV,dh,di,dz,dj,gV,gW,gX,gY,gZ,ds,k9]),.ptr 12002 0 0,12194,([bM,bN,bO,bP,bW,b7,cb,cc,cf,cg]++cj++[bQ,bR,bS,bT,bU,bV,bX,bY,bZ,b0,b1,b2,b3,b4,b5,b6,b8,b9,b_,ca]++ch++cX++[cY,cZ,c4,c5,c6,c7,c8,dg,c0,dd,dv,fU,dy,fV,dh,di,dz,dj,gV,gW,gX,gY,gZ,ds,k9,od,yl,ym,yn,yo,yp,(12002,(.row U 12 [[.ag 1308 0 1 2 Y,.ao,.ag 1714 0 2 7 Y,.ag 1703 0 2 4 Y,I J 0,I J 0,I J 2,(.ag 11931 0 2 1 (D 2)),.ag 11946 0 7 1 Y,.ag 11999 0 2 1 Y,.ag 10490 0 2 1 Y,.ag 12193 0 6 1 Y]])),ja,jb,jc])⟩
def VX(a:aZ az P aY):∀s∈[KG,KH,KI],s.Ok az P:=by
 intro s b;simp only[List.mem_cons,List.not_mem_nil,or_false]at b;rcases b with rfl|rfl|rfl
 ·exact VZ a
 ·exact V0 a
 ·exact V1 a
def VY(a:aZ az P aY):KF.Ok az P:=aR.bm (bk (dn a (VX a)) jx 100) j
def KE:aR:=⟨16,[.agg [.ag 1308 0 1 2 Y,.ao,.ag 1714 0 2 7 Y,.ag 1703 0 2 4 Y,I J 0],I J 0],8200,([bM,bN,bO,bP,bW,b7,cb,cc,cf,cg]++cj++[bQ,bR,bS,bT,bU,bV,bX,bY,bZ,b0,b1,b2,b3,b4,b5,b6,b8,b9,b_,ca]++ch++cX++[cY,cZ,c4,c5,c6,c7,c8,dg,c0,dd,dv,fU,dy,fV,dh,di,dz,dj,gV,gW,gX,gY,gZ,ds]),.ag 12193 0 6 1 Y,12194,([bM,bN,bO,bP,bW,b7,cb,cc,cf,cg]++cj++[bQ,bR,bS,bT,bU,bV,bX,bY,bZ,b0,b1,b2,b3,b4,b5,b6,b8,b9,b_,ca]++ch++cX++[cY,cZ,c4,c5,c6,c7,c8,dg,c0,dd,dv,fU,dy,fV,dh,di,dz,dj,gV,gW,gX,gY,gZ,ds,ja,jb,jc])⟩
def VU(b:aZ az P aY):∀s∈[KF],s.Ok az P:=by
 intro s a;simp only[List.mem_cons,List.not_mem_nil,or_false]at a;rcases a with rfl
 ·exact VY b
def VV(a:aZ az P aY):KE.Ok az P:=aR.bm (bk (dn a (VU a)) oG 100) j
def KN:aR:=⟨78,[.agg [.ag 1308 0 1 2 Y,.ao,.ag 1714 0 2 7 Y,.ag 1703 0 2 4 Y,I J 0]],12196,([bM,bN,bO,bP,bW,b7,cb,cc,cf,cg]++cj++[bQ,bR,bS,bT,bU,bV,bX,bY,bZ,b0,b1,b2,b3,b4,b5,b6,b8,b9,b_,ca]++ch++cX++[cY,cZ,c4,c5,c6,c7,c8,dg,c0,dd,dv,fU,dy,fV,dh,di,dz,dj,gV,gW,gX,gY,gZ,ds,ja,jb,jc,k_,oe]),.ag 14701 0 2 1 Y,14702,([bM,bN,bO,bP,bW,b7,cb,cc,cf,cg]++cj++[bQ,bR,bS,bT,bU,bV,bX,bY,bZ,b0,b1,b2,b3,b4,b5,b6,b8,b9,b_,ca]++ch++cX++[cY,cZ,c4,c5,c6,c7,c8,dg,c0,dd,dv,fU,dy,fV,dh,di,dz,dj,gV,gW,gX,gY,gZ,ds,ja,jb,jc,k_,oe,og,qu])⟩
def V9(a:aZ az P aY):KN.Ok az P:=aR.bm (bk a bB 100) j
def KO:aR:=⟨76,[.agg [.ag 1308 0 1 2 Y,.ao,.ag 1714 0 2 7 Y,.ag 1703 0 2 4 Y,I J 0]],14702,([bM,bN,bO,bP,bW,b7,cb,cc,cf,cg]++cj++[bQ,bR,bS,bT,bU,bV,bX,bY,bZ,b0,b1,b2,b3,b4,b5,b6,b8,b9,b_,ca]++ch++cX++[cY,cZ,c4,c5,c6,c7,c8,dg,c0,dd,dv,fU,dy,fV,dh,di,dz,dj,gV,gW,gX,gY,gZ,ds,ja,jb,jc,k_,oe,og,qu]),(.agg [I J 2,(.ag 15925 0 2 1 (D 2)),.ag 15940 0 7 1 Y,.ag 15993 0 2 1 Y]),15996,([bM,bN,bO,bP,bW,b7,cb,cc,cf,cg]++cj++[bQ,bR,bS,bT,bU,bV,bX,bY,bZ,b0,b1,b2,b3,b4,b5,b6,b8,b9,b_,ca]++ch++cX++[cY,cZ,c4,c5,c6,c7,c8,dg,c0,dd,dv,fU,dy,fV,dh,di,dz,dj,gV,gW,gX,gY,gZ,ds,ja,jb,jc,k_,oe,og,qu,yq,yr,ys,yt,yu])⟩
def V_(a:aZ az P aY):KO.Ok az P:=aR.bm (bk a bB 100) j
def KP:aR:=⟨93,[.agg [I J 0,.ag 1675 0 3 3 Y,Z U,I J 0,I J 0,I J 0,.ag 1684 0 6 6 Y]],15997,([bM,bN,bO,bP,bW,b7,cb,cc,cf,cg]++cj++[bQ,bR,bS,bT,bU,bV,bX,bY,bZ,b0,b1,b2,b3,b4,b5,b6,b8,b9,b_,ca]++ch++cX++[cY,cZ,c4,c5,c6,c7,c8,dg,c0,dd,dv,fU,dy,fV,dh,di,dz,dj,gV,gW,gX,gY,gZ,ds,ja,jb,jc,k_,oe,og,qu,yq,yr,ys,yt,yu,Lf]),(.ag 16129 0 6 1 (D 6)),16136,([bM,bN,bO,bP,bW,b7,cb,cc,cf,cg]++cj++[bQ,bR,bS,bT,bU,bV,bX,bY,bZ,b0,b1,b2,b3,b4,b5,b6,b8,b9,b_,ca]++ch++cX++[cY,cZ,c4,c5,c6,c7,c8,dg,c0,dd,dv,fU,dy,fV,dh,di,dz,dj,gV,gW,gX,gY,gZ,ds,ja,jb,jc,k_,oe,og,qu,yq,yr,ys,yt,yu,Lf,(16129,(.row U 1 [[.ao],[.ag 16131 0 1 1 Y],[.ag 16133 0 1 1 Y],[.ao],[.ag 16135 0 1 1 Y],[.ao]])),(16131,(.row U 1 [[I J 1]])),(16133,(.row U 1 [[I J 0]])),(16135,(.row U 1 [[I J 2]]))])⟩
def Wa(a:aZ az P aY):KP.Ok az P:=aR.bm (bk a bB 100) j
def KM:aR:=⟨45,[.agg [.ag 1308 0 1 2 Y,.ao,.ag 1714 0 2 7 Y,.ag 1703 0 2 4 Y,I J 0],I J 0],12195,([bM,bN,bO,bP,bW,b7,cb,cc,cf,cg]++cj++[bQ,bR,bS,bT,bU,bV,bX,bY,bZ,b0,b1,b2,b3,b4,b5,b6,b8,b9,b_,ca]++ch++cX++[cY,cZ,c4,c5,c6,c7,c8,dg,c0,dd,dv,fU,dy,fV,dh,di,dz,dj,gV,gW,gX,gY,gZ,ds,ja,jb,jc,k_]),.ptr 15996 0 0,16188,([bM,bN,bO,bP,bW,b7,cb,cc,cf,cg]++cj++[bQ,bR,bS,bT,bU,bV,bX,bY,bZ,b0,b1,b2,b3,b4,b5,b6,b8,b9,b_,ca]++ch++cX++[cY,cZ,c4,c5,c6,c7,c8,dg,c0,dd,dv,fU,dy,fV,dh,di,dz,dj,gV,gW,gX,gY,gZ,ds,ja,jb,jc,k_,og,yq,yr,ys,yt,yu,(15996,(.row U 12 [[.ag 1308 0 1 2 Y,.ao,.ag 1714 0 2 7 Y,.ag 1703 0 2 4 Y,I J 0,I J 0,I J 2,(.ag 15925 0 2 1 (D 2)),.ag 15940 0 7 1 Y,.ag 15993 0 2 1 Y,.ag 14484 0 2 1 Y,.ag 16187 0 6 1 Y]])),(16153,(.row U 1 [[I J 0],[I J 1]])),(16169,(.row U 1 [[I J 0],[I J 1]])),(16187,(.row U 1 [[.ao],[.ag 16153 0 2 1 Y],[.ag 16169 0 2 1 Y],[.ao],[.ao],[.ao]]))])⟩
def V7(a:aZ az P aY):∀s∈[KN,KO,KP],s.Ok az P:=by
 intro s b;simp only[List.mem_cons,List.not_mem_nil,or_false]at b;rcases b with rfl|rfl|rfl
 ·exact V9 a
 ·exact V_ a
 ·exact Wa a
def V8(a:aZ az P aY):KM.Ok az P:=aR.bm (bk (dn a (V7 a)) jx 100) j
def KK:aR:=⟨19,[.agg [.ag 1308 0 1 2 Y,.ao,.ag 1714 0 2 7 Y,.ag 1703 0 2 4 Y,I J 0],I J 0],12194,([bM,bN,bO,bP,bW,b7,cb,cc,cf,cg]++cj++[bQ,bR,bS,bT,bU,bV,bX,bY,bZ,b0,b1,b2,b3,b4,b5,b6,b8,b9,b_,ca]++ch++cX++[cY,cZ,c4,c5,c6,c7,c8,dg,c0,dd,dv,fU,dy,fV,dh,di,dz,dj,gV,gW,gX,gY,gZ,ds,ja,jb,jc]),(.ag 16188 0 6 1 (D 6)),18310,([bM,bN,bO,bP,bW,b7,cb,cc,cf,cg]++cj++[bQ,bR,bS,bT,bU,bV,bX,bY,bZ,b0,b1,b2,b3,b4,b5,b6,b8,b9,b_,ca]++ch++cX++[cY,cZ,c4,c5,c6,c7,c8,dg,c0,dd,dv,fU,dy,fV,dh,di,dz,dj,gV,gW,gX,gY,gZ,ds,ja,jb,jc,(16188,(.row U 1 [[.ag 16213 0 2 1 Y],[.ag 16223 0 0 1 Y],[.ag 18298 0 0 1 Y],[.ao],[.ao],[.ao]])),(16213,(.row U 1 [[I J 0],[I J 1]])),(16223,(.row U 1 [[I J 0],[I J 0]])),(18298,(.row U 1 [[I J 0],[I J 0]]))])⟩
def V5(b:aZ az P aY):∀s∈[KM],s.Ok az P:=by
 intro s a;simp only[List.mem_cons,List.not_mem_nil,or_false]at a;rcases a with rfl
 ·exact V8 b
def V6(a:aZ az P aY):KK.Ok az P:=aR.bm (bk (dn a (V5 a)) oH 100) j
def K5:aR:=⟨81,[.ptr 7802 0 0,I J 0],8182,([bM,bN,bO,bP,bW,b7,cb,cc,cf,cg]++cj++[bQ,bR,bS,bT,bU,bV,bX,bY,bZ,b0,b1,b2,b3,b4,b5,b6,b8,b9,b_,ca]++ch++cX++[cY,cZ,c4,c5,c6,c7,c8,dg,c0,dd,dv,(7802,(.row U 13 [[.ag 1308 0 1 2 Y,.ao,.ag 1714 0 2 7 Y,.ag 1703 0 2 4 Y,I J 0,I J 2,(.ag 3117 0 2 1 (D 2)),.ag 3132 0 7 1 Y,.ag 3185 0 2 1 Y,(.ag 5250 0 2 1 (D 2)),.ag 7801 0 2 1 Y,I J 0,I J 5]])),dy,fV,dh,di,dz,dj]),(.agg [I J 0,.ag 8199 0 3 1 Y,(I J (-3)),.ao,.ag 7584 0 2 1 Y,.ag 18390 0 8 6 Y]),18391,([bM,bN,bO,bP,bW,b7,cb,cc,cf,cg]++cj++[bQ,bR,bS,bT,bU,bV,bX,bY,bZ,b0,b1,b2,b3,b4,b5,b6,b8,b9,b_,ca]++ch++cX++[cY,cZ,c4,c5,c6,c7,c8,dg,c0,dd,dv,fU,dy,fV,dh,di,dz,dj,ds,fj,fk,fl,fm])⟩
def Wv(a:aZ az P aY):∀s∈[KE,KK],s.Ok az P:=by
 intro s b;simp only[List.mem_cons,List.not_mem_nil,or_false]at b;rcases b with rfl|rfl
 ·exact VV a
 ·exact V6 a
def Ww(a:aZ az P aY):K5.Ok az P:=aR.bm (bk (dn a (Wv a)) lO 100) j
def KV:aR:=⟨78,[.agg [.ag 1308 0 1 2 Y,.ao,.ag 1714 0 2 7 Y,.ag 1703 0 2 4 Y,I J 0]],18408,([bM,bN,bO,bP,bW,b7,cb,cc,cf,cg]++cj++[bQ,bR,bS,bT,bU,bV,bX,bY,bZ,b0,b1,b2,b3,b4,b5,b6,b8,b9,b_,ca]++ch++cX++[cY,cZ,c4,c5,c6,c7,c8,dg,c0,dd,dv,gp,dy,fW,dh,di,dz,dj,ds,fj,fk,fl,fm,fX,fY,g0,g1,g2,g3,g4,fG,la,oh]),.ag 20913 0 2 1 Y,20914,([bM,bN,bO,bP,bW,b7,cb,cc,cf,cg]++cj++[bQ,bR,bS,bT,bU,bV,bX,bY,bZ,b0,b1,b2,b3,b4,b5,b6,b8,b9,b_,ca]++ch++cX++[cY,cZ,c4,c5,c6,c7,c8,dg,c0,dd,dv,gp,dy,fW,dh,di,dz,dj,ds,fj,fk,fl,fm,fX,fY,g0,g1,g2,g3,g4,fG,la,oh,qv,qw])⟩
def Wi(a:aZ az P aY):KV.Ok az P:=aR.bm (bk a bB 100) j
def KW:aR:=⟨76,[.agg [.ag 1308 0 1 2 Y,.ao,.ag 1714 0 2 7 Y,.ag 1703 0 2 4 Y,I J 0]],20914,([bM,bN,bO,bP,bW,b7,cb,cc,cf,cg]++cj++[bQ,bR,bS,bT,bU,bV,bX,bY,bZ,b0,b1,b2,b3,b4,b5,b6,b8,b9,b_,ca]++ch++cX++[cY,cZ,c4,c5,c6,c7,c8,dg,c0,dd,dv,gp,dy,fW,dh,di,dz,dj,ds,fj,fk,fl,fm,fX,fY,g0,g1,g2,g3,g4,fG,la,oh,qv,qw]),(.agg [I J 2,(.ag 22137 0 2 1 (D 2)),.ag 22152 0 7 1 Y,.ag 22205 0 2 1 Y]),22208,([bM,bN,bO,bP,bW,b7,cb,cc,cf,cg]++cj++[bQ,bR,bS,bT,bU,bV,bX,bY,bZ,b0,b1,b2,b3,b4,b5,b6,b8,b9,b_,ca]++ch++cX++[cY,cZ,c4,c5,c6,c7,c8,dg,c0,dd,dv,gp,dy,fW,dh,di,dz,dj,ds,fj,fk,fl,fm,fX,fY,g0,g1,g2,g3,g4,fG,la,oh,qv,qw,yv,yw,yx,yy,yA])⟩
def Wj(a:aZ az P aY):KW.Ok az P:=aR.bm (bk a bB 100) j
def KX:aR:=⟨93,[.agg [I J 1,.ag 1700 0 2 3 Y,Z U,I J 0,I J 0,I J 0,.ag 1712 0 3 6 Y]],22210,([bM,bN,bO,bP,bW,b7,cb,cc,cf,cg]++cj++[bQ,bR,bS,bT,bU,bV,bX,bY,bZ,b0,b1,b2,b3,b4,b5,b6,b8,b9,b_,ca]++ch++cX++[cY,cZ,c4,c5,c6,c7,c8,dg,c0,dd,dv,gp,dy,fW,dh,di,dz,dj,ds,fj,fk,fl,fm,fX,fY,g0,g1,g2,g3,g4,fG,la,oh,qv,qw,yv,yw,yx,yy,yA,Lg,Lh]),(.ag 22276 0 3 1 (D 3)),22283,([bM,bN,bO,bP,bW,b7,cb,cc,cf,cg]++cj++[bQ,bR,bS,bT,bU,bV,bX,bY,bZ,b0,b1,b2,b3,b4,b5,b6,b8,b9,b_,ca]++ch++cX++[cY,cZ,c4,c5,c6,c7,c8,dg,c0,dd,dv,gp,dy,fW,dh,di,dz,dj,ds,fj,fk,fl,fm,fX,fY,g0,g1,g2,g3,g4,fG,la,oh,qv,qw,yv,yw,yx,yy,yA,Lg,Lh,(22276,(.row U 1 [[.ag 22278 0 1 1 Y],[.ag 22282 0 2 1 Y],[.ao]])),(22278,(.row U 1 [[I J 0]])),(22282,(.row U 1 [[I J 0],[I J 1]]))])⟩
def Wk(a:aZ az P aY):KX.Ok az P:=aR.bm (bk a bB 100) j
def KU:aR:=⟨45,[.agg [.ag 1308 0 1 2 Y,.ao,.ag 1714 0 2 7 Y,.ag 1703 0 2 4 Y,I J 0],I J 1],18407,([bM,bN,bO,bP,bW,b7,cb,cc,cf,cg]++cj++[bQ,bR,bS,bT,bU,bV,bX,bY,bZ,b0,b1,b2,b3,b4,b5,b6,b8,b9,b_,ca]++ch++cX++[cY,cZ,c4,c5,c6,c7,c8,dg,c0,dd,dv,gp,dy,fW,dh,di,dz,dj,ds,fj,fk,fl,fm,fX,fY,g0,g1,g2,g3,g4,fG,la]),.ptr 22208 0 0,22321,([bM,bN,bO,bP,bW,b7,cb,cc,cf,cg]++cj++[bQ,bR,bS,bT,bU,bV,bX,bY,bZ,b0,b1,b2,b3,b4,b5,b6,b8,b9,b_,ca]++ch++cX++[cY,cZ,c4,c5,c6,c7,c8,dg,c0,dd,dv,gp,dy,fW,dh,di,dz,dj,ds,fj,fk,fl,fm,fX,fY,g0,g1,g2,g3,g4,fG,la,yv,yw,yx,yy,yA,(22208,(.row U 12 [[.ag 1308 0 1 2 Y,.ao,.ag 1714 0 2 7 Y,.ag 1703 0 2 4 Y,I J 0,I J 1,I J 2,(.ag 22137 0 2 1 (D 2)),.ag 22152 0 7 1 Y,.ag 22205 0 2 1 Y,.ao,.ag 22320 0 3 1 Y]])),jd,je,jf])⟩
def Wg(a:aZ az P aY):∀s∈[KV,KW,KX],s.Ok az P:=by
 intro s b;simp only[List.mem_cons,List.not_mem_nil,or_false]at b;rcases b with rfl|rfl|rfl
 ·exact Wi a
 ·exact Wj a
 ·exact Wk a
def Wh(a:aZ az P aY):KU.Ok az P:=aR.bm (bk (dn a (Wg a)) jx 100) j
def KT:aR:=⟨16,[.agg [.ag 1308 0 1 2 Y,.ao,.ag 1714 0 2 7 Y,.ag 1703 0 2 4 Y,I J 0],I J 1],18406,([bM,bN,bO,bP,bW,b7,cb,cc,cf,cg]++cj++[bQ,bR,bS,bT,bU,bV,bX,bY,bZ,b0,b1,b2,b3,b4,b5,b6,b8,b9,b_,ca]++ch++cX++[cY,cZ,c4,c5,c6,c7,c8,dg,c0,dd,dv,gp,dy,fW,dh,di,dz,dj,ds,fj,fk,fl,fm,fX,fY,g0,g1,g2,g3,g4,fG]),.ag 22320 0 3 1 Y,22321,([bM,bN,bO,bP,bW,b7,cb,cc,cf,cg]++cj++[bQ,bR,bS,bT,bU,bV,bX,bY,bZ,b0,b1,b2,b3,b4,b5,b6,b8,b9,b_,ca]++ch++cX++[cY,cZ,c4,c5,c6,c7,c8,dg,c0,dd,dv,gp,dy,fW,dh,di,dz,dj,ds,fj,fk,fl,fm,fX,fY,g0,g1,g2,g3,g4,fG,jd,je,jf])⟩
def We(b:aZ az P aY):∀s∈[KU],s.Ok az P:=by
 intro s a;simp only[List.mem_cons,List.not_mem_nil,or_false]at a;rcases a with rfl
 ·exact Wh b
def Wf(a:aZ az P aY):KT.Ok az P:=aR.bm (bk (dn a (We a)) oG 100) j
def K1:aR:=⟨78,[.agg [.ag 1308 0 1 2 Y,.ao,.ag 1714 0 2 7 Y,.ag 1703 0 2 4 Y,I J 0]],22323,([bM,bN,bO,bP,bW,b7,cb,cc,cf,cg]++cj++[bQ,bR,bS,bT,bU,bV,bX,bY,bZ,b0,b1,b2,b3,b4,b5,b6,b8,b9,b_,ca]++ch++cX++[cY,cZ,c4,c5,c6,c7,c8,dg,c0,dd,dv,gp,dy,fW,dh,di,dz,dj,ds,fj,fk,fl,fm,fX,fY,g0,g1,g2,g3,g4,fG,jd,je,jf,lb,oi]),.ag 24828 0 2 1 Y,24829,([bM,bN,bO,bP,bW,b7,cb,cc,cf,cg]++cj++[bQ,bR,bS,bT,bU,bV,bX,bY,bZ,b0,b1,b2,b3,b4,b5,b6,b8,b9,b_,ca]++ch++cX++[cY,cZ,c4,c5,c6,c7,c8,dg,c0,dd,dv,gp,dy,fW,dh,di,dz,dj,ds,fj,fk,fl,fm,fX,fY,g0,g1,g2,g3,g4,fG,jd,je,jf,lb,oi,qx,qy])⟩
def Wq(a:aZ az P aY):K1.Ok az P:=aR.bm (bk a bB 100) j
def K2:aR:=⟨76,[.agg [.ag 1308 0 1 2 Y,.ao,.ag 1714 0 2 7 Y,.ag 1703 0 2 4 Y,I J 0]],24829,([bM,bN,bO,bP,bW,b7,cb,cc,cf,cg]++cj++[bQ,bR,bS,bT,bU,bV,bX,bY,bZ,b0,b1,b2,b3,b4,b5,b6,b8,b9,b_,ca]++ch++cX++[cY,cZ,c4,c5,c6,c7,c8,dg,c0,dd,dv,gp,dy,fW,dh,di,dz,dj,ds,fj,fk,fl,fm,fX,fY,g0,g1,g2,g3,g4,fG,jd,je,jf,lb,oi,qx,qy]),(.agg [I J 2,(.ag 26052 0 2 1 (D 2)),.ag 26067 0 7 1 Y,.ag 26120 0 2 1 Y]),26123,([bM,bN,bO,bP,bW,b7,cb,cc,cf,cg]++cj++[bQ,bR,bS,bT,bU,bV,bX,bY,bZ,b0,b1,b2,b3,b4,b5,b6,b8,b9,b_,ca]++ch++cX++[cY,cZ,c4,c5,c6,c7,c8,dg,c0,dd,dv,gp,dy,fW,dh,di,dz,dj,ds,fj,fk,fl,fm,fX,fY,g0,g1,g2,g3,g4,fG,jd,je,jf,lb,oi,qx,qy,yB,yC,yD,yE,yF])⟩
def Wr(a:aZ az P aY):K2.Ok az P:=aR.bm (bk a bB 100) j
def K3:aR:=⟨93,[.agg [I J 1,.ag 1700 0 2 3 Y,Z U,I J 0,I J 0,I J 0,.ag 1712 0 3 6 Y]],26125,([bM,bN,bO,bP,bW,b7,cb,cc,cf,cg]++cj++[bQ,bR,bS,bT,bU,bV,bX,bY,bZ,b0,b1,b2,b3,b4,b5,b6,b8,b9,b_,ca]++ch++cX++[cY,cZ,c4,c5,c6,c7,c8,dg,c0,dd,dv,gp,dy,fW,dh,di,dz,dj,ds,fj,fk,fl,fm,fX,fY,g0,g1,g2,g3,g4,fG,jd,je,jf,lb,oi,qx,qy,yB,yC,yD,yE,yF,Li,Lj]),(.ag 26191 0 3 1 (D 3)),26198,([bM,bN,bO,bP,bW,b7,cb,cc,cf,cg]++cj++[bQ,bR,bS,bT,bU,bV,bX,bY,bZ,b0,b1,b2,b3,b4,b5,b6,b8,b9,b_,ca]++ch++cX++[cY,cZ,c4,c5,c6,c7,c8,dg,c0,dd,dv,gp,dy,fW,dh,di,dz,dj,ds,fj,fk,fl,fm,fX,fY,g0,g1,g2,g3,g4,fG,jd,je,jf,lb,oi,qx,qy,yB,yC,yD,yE,yF,Li,Lj,(26191,(.row U 1 [[.ag 26193 0 1 1 Y],[.ag 26197 0 2 1 Y],[.ao]])),(26193,(.row U 1 [[I J 0]])),(26197,(.row U 1 [[I J 0],[I J 1]]))])⟩
def Ws(a:aZ az P aY):K3.Ok az P:=aR.bm (bk a bB 100) j
def K0:aR:=⟨45,[.agg [.ag 1308 0 1 2 Y,.ao,.ag 1714 0 2 7 Y,.ag 1703 0 2 4 Y,I J 0],I J 1],22322,([bM,bN,bO,bP,bW,b7,cb,cc,cf,cg]++cj++[bQ,bR,bS,bT,bU,bV,bX,bY,bZ,b0,b1,b2,b3,b4,b5,b6,b8,b9,b_,ca]++ch++cX++[cY,cZ,c4,c5,c6,c7,c8,dg,c0,dd,dv,gp,dy,fW,dh,di,dz,dj,ds,fj,fk,fl,fm,fX,fY,g0,g1,g2,g3,g4,fG,jd,je,jf,lb]),.ptr 26123 0 0,26236,([bM,bN,bO,bP,bW,b7,cb,cc,cf,cg]++cj++[bQ,bR,bS,bT,bU,bV,bX,bY,bZ,b0,b1,b2,b3,b4,b5,b6,b8,b9,b_,ca]++ch++cX++[cY,cZ,c4,c5,c6,c7,c8,dg,c0,dd,dv,gp,dy,fW,dh,di,dz,dj,ds,fj,fk,fl,fm,fX,fY,g0,g1,g2,g3,g4,fG,jd,je,jf,lb,yB,yC,yD,yE,yF,(26123,(.row U 12 [[.ag 1308 0 1 2 Y,.ao,.ag 1714 0 2 7 Y,.ag 1703 0 2 4 Y,I J 0,I J 1,I J 2,(.ag 26052 0 2 1 (D 2)),.ag 26067 0 7 1 Y,.ag 26120 0 2 1 Y,.ao,.ag 26235 0 3 1 Y]])),(26211,(.row U 1 [[I J 0],[I J 0]])),(26229,(.row U 1 [[I J 0],[I J 0]])),(26235,(.row U 1 [[.ag 26211 0 0 1 Y],[.ag 26229 0 0 1 Y],[.ao]]))])⟩
def Wo(a:aZ az P aY):∀s∈[K1,K2,K3],s.Ok az P:=by
 intro s b;simp only[List.mem_cons,List.not_mem_nil,or_false]at b;rcases b with rfl|rfl|rfl
 ·exact Wq a
 ·exact Wr a
 ·exact Ws a
def Wp(a:aZ az P aY):K0.Ok az P:=aR.bm (bk (dn a (Wo a)) jx 100) j
def KZ:aR:=⟨19,[.agg [.ag 1308 0 1 2 Y,.ao,.ag 1714 0 2 7 Y,.ag 1703 0 2 4 Y,I J 0],I J 1],22321,([bM,bN,bO,bP,bW,b7,cb,cc,cf,cg]++cj++[bQ,bR,bS,bT,bU,bV,bX,bY,bZ,b0,b1,b2,b3,b4,b5,b6,b8,b9,b_,ca]++ch++cX++[cY,cZ,c4,c5,c6,c7,c8,dg,c0,dd,dv,gp,dy,fW,dh,di,dz,dj,ds,fj,fk,fl,fm,fX,fY,g0,g1,g2,g3,g4,fG,jd,je,jf]),(.ag 26236 0 3 1 (D 3)),26259,([bM,bN,bO,bP,bW,b7,cb,cc,cf,cg]++cj++[bQ,bR,bS,bT,bU,bV,bX,bY,bZ,b0,b1,b2,b3,b4,b5,b6,b8,b9,b_,ca]++ch++cX++[cY,cZ,c4,c5,c6,c7,c8,dg,c0,dd,dv,gp,dy,fW,dh,di,dz,dj,ds,fj,fk,fl,fm,fX,fY,g0,g1,g2,g3,g4,fG,jd,je,jf,(26236,(.row U 1 [[.ao],[.ao],[.ao]]))])⟩
def Wm(b:aZ az P aY):∀s∈[K0],s.Ok az P:=by
 intro s a;simp only[List.mem_cons,List.not_mem_nil,or_false]at a;rcases a with rfl
 ·exact Wp b
def Wn(a:aZ az P aY):KZ.Ok az P:=aR.bm (bk (dn a (Wm a)) oH 100) j
def KR:aR:=⟨81,[.ptr 7802 0 0,I J 1],18393,([bM,bN,bO,bP,bW,b7,cb,cc,cf,cg]++cj++[bQ,bR,bS,bT,bU,bV,bX,bY,bZ,b0,b1,b2,b3,b4,b5,b6,b8,b9,b_,ca]++ch++cX++[cY,cZ,c4,c5,c6,c7,c8,dg,c0,dd,dv,fU,dy,fW,dh,di,dz,dj,ds,fj,fk,fl,fm,fX,fY]),(.agg [I J 1,.ag 18405 0 2 1 Y,(I J (-3)),.ag 5295 0 1 1 Y,.ao,.ag 26287 0 3 6 Y]),26288,([bM,bN,bO,bP,bW,b7,cb,cc,cf,cg]++cj++[bQ,bR,bS,bT,bU,bV,bX,bY,bZ,b0,b1,b2,b3,b4,b5,b6,b8,b9,b_,ca]++ch++cX++[cY,cZ,c4,c5,c6,c7,c8,dg,c0,dd,dv,gp,dy,fW,dh,di,dz,dj,ds,fj,fk,fl,fm,fX,fY,fG,yG])⟩
def Wb(a:aZ az P aY):∀s∈[KT,KZ],s.Ok az P:=by
 intro s b;simp only[List.mem_cons,List.not_mem_nil,or_false]at b;rcases b with rfl|rfl
 ·exact Wf a
 ·exact Wn a
def Wc(a:aZ az P aY):KR.Ok az P:=aR.bm (bk (dn a (Wb a)) lO 100) j
def KJ:aR:=⟨37,[.agg [.ag 1308 0 1 2 Y,.ao,.ag 1714 0 2 7 Y,.ag 1703 0 2 4 Y,I J 0]],1717,([bM,bN,bO,bP,bW,b7,cb,cc,cf,cg]++cj++[bQ,bR,bS,bT,bU,bV,bX,bY,bZ,b0,b1,b2,b3,b4,b5,b6,b8,b9,b_,ca]++ch++cX),.agg [.ag 8181 0 2 2 Y,.ao,.ag 26289 0 2 6 Y,I J 0],26290,([bM,bN,bO,bP,bW,b7,cb,cc,cf,cg]++cj++[bQ,bR,bS,bT,bU,bV,bX,bY,bZ,b0,b1,b2,b3,b4,b5,b6,b8,b9,b_,ca]++ch++[(79,(.row U 1 [])),ld,lf,lg,lh,lj,lk,ll,ln,lo,(89,(.row U 1 [])),(90,(.row U 1 [])),lp,oj,yk,c0,dd,dh,di,dj,ds,fj,fk,fl,fm,fG,yG,Eb])⟩
def V3(a:aZ az P aY):∀s∈[KQ,KS,KY,K5,KR],s.Ok az P:=by
 intro s b;simp only[List.mem_cons,List.not_mem_nil,or_false]at b;rcases b with rfl|rfl|rfl|rfl|rfl
 ·exact Wd a
 ·exact Wl a
 ·exact Wt a
 ·exact Ww a
 ·exact Wc a
def V4(a:aZ az P aY):KJ.Ok az P:=aR.bm (bk (dn a (V3 a)) mT 100) j
def K4:aR:=⟨39,[],26304,([bM,bN,bO,bP,bW,b7,cb,cc,cf,cg]++cj++[bQ,bR,bS,bT,bU,bV,bX,bY,bZ,b0,b1,b2,b3,b4,b5,b6,b8,b9,b_,ca]++ch++[(79,(.row U 1 [])),ld,lf,lg,lh,lj,lk,ll,ln,lo,(89,(.row U 1 [])),(90,(.row U 1 [])),lp,oj,yk,c0,dd,dh,di,dj,ds,fj,fk,fl,fm,fG,yG,Eb,Lk]),Z V,26304,([bM,bN,bO,bP,bW,b7,cb,cc,cf,cg]++cj++[bQ,bR,bS,bT,bU,bV,bX,bY,bZ,b0,b1,b2,b3,b4,b5,b6,b8,b9,b_,ca]++ch++[(79,(.row U 1 [])),ld,lf,lg,lh,lj,lk,ll,ln,lo,(89,(.row U 1 [])),(90,(.row U 1 [])),lp,oj,yk,c0,dd,dh,di,dj,ds,fj,fk,fl,fm,fG,yG,Eb,Lk])⟩
def Wu(a:aZ az P aY):K4.Ok az P:=nW a _
def Wx(a:aZ az P aY):∀s∈[KC,KD,KJ,K4],s.Ok az P:=by
 intro s b;simp only[List.mem_cons,List.not_mem_nil,or_false]at b;rcases b with rfl|rfl|rfl|rfl
 ·exact VT a
 ·exact V2 a
 ·exact V4 a
 ·exact Wu a
def Wy(a:aZ az P aY)(H:af):eM az P 12 [I J 2] H (Z V) H:=by
 obtain⟨bh,c⟩:=mE (b:=true) (m:=9) (f:=12) (args:=[I J 2]) (H:=af.empty) (dn a (Wx a)) oF j;exact nI c H

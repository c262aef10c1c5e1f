/-
  Texts of one proof, laid together: K12x3.
-/
import Derived.Test.YtolnciihfbifcaaGreatMT
set_option linter.unusedVariables false
set_option linter.unusedSimpArgs false
set_option linter.defProp false
open Option renaming some→D,none→Y
open Bool renaming true→V,false→U
open Go.cV.aa renaming int→I,str→X,bool→Z
open Go.IntKind renaming i64→J
namespace Go.Proofs.YtolnciihfbifcaaGreat
open Go.cV
set_option maxRecDepth 1000000
abbrev Ec:=List (Nat×an)
def ck:Nat×an:=(1,(.row U 1 [[I J 21],[I J 0]]))
def cl:Nat×an:=(2,(.row U 1 [[I J 11]]))
def cm:Nat×an:=(3,(.row U 1 [[I J 3]]))
def cn:Nat×an:=(4,(.row U 1 [[I J 1]]))
def cw:Nat×an:=(5,(.row U 1 [[I J 7]]))
def cH:Nat×an:=(6,(.row U 1 [[I J 6]]))
def cM:Nat×an:=(7,(.row U 1 [[I J 22],[I J 0]]))
def cN:Nat×an:=(8,(.row U 1 [[I J 15]]))
def cO:Nat×an:=(9,(.row U 1 [[I J 1]]))
def cP:Nat×an:=(10,(.row U 1 [[I J 15]]))
def X3:Nat×an:=(11,(.row U 1 [[I J 18]]))
def X6:Nat×an:=(12,(.row U 1 [[(.ag 1 0 2 1 (D 2))],[(.ag 2 0 1 1 (D 1))],[(.ag 3 0 1 1 (D 1))],[(.ag 4 0 1 1 (D 1))],[(.ag 5 0 1 1 (D 1))],[(.ag 6 0 1 1 (D 1))],[(.ag 7 0 2 1 (D 2))],[(.ag 8 0 1 1 (D 1))],[(.ag 9 0 1 1 (D 1))],[(.ag 10 0 1 1 (D 1))],[(.ag 11 0 1 1 (D 1))]]))
def X7:Nat×an:=(13,(.row U 1 [[I J 1]]))
def X8:Nat×an:=(14,(.row U 1 [[I J 3]]))
def X9:Nat×an:=(15,(.row U 1 [[I J 1]]))
def X_:Nat×an:=(16,(.row U 1 [[I J 4]]))
def Ya:Nat×an:=(17,(.row U 1 [[I J 17],[I J 5],[I J 6]]))
def Yb:Nat×an:=(18,(.row U 1 [[I J 16],[I J 7]]))
def Yc:Nat×an:=(19,(.row U 1 [[I J 16],[I J 17]]))
def Yd:Nat×an:=(20,(.row U 1 [[I J 21],[I J 0]]))
def Ye:Nat×an:=(21,(.row U 1 [[I J 11]]))
def Yf:Nat×an:=(22,(.row U 1 [[I J 3]]))
def Yg:Nat×an:=(23,(.row U 1 [[I J 6]]))
def Yh:Nat×an:=(24,(.row U 1 [[I J 22],[I J 0]]))
def Yi:Nat×an:=(25,(.row U 1 [[I J 15]]))
def Yj:Nat×an:=(26,(.row U 1 [[I J 1]]))
def Yk:Nat×an:=(27,(.row U 1 [[I J 4]]))
def Yl:Nat×an:=(28,(.row U 1 [[I J 3]]))
def Ym:Nat×an:=(29,(.row U 1 [[I J 16],[I J 2]]))
def Yn:Nat×an:=(30,(.row U 1 [[I J 18]]))
def Yo:Nat×an:=(31,(.row U 1 [[(.ag 13 0 1 1 (D 1))],[(.ag 14 0 1 1 (D 1))],[(.ag 15 0 1 1 (D 1))],[(.ag 16 0 1 1 (D 1))],[(.ag 17 0 3 1 (D 3))],[(.ag 18 0 2 1 (D 2))],[(.ag 19 0 2 1 (D 2))],[(.ag 20 0 2 1 (D 2))],[(.ag 21 0 1 1 (D 1))],[(.ag 22 0 1 1 (D 1))],[(.ag 23 0 1 1 (D 1))],[(.ag 24 0 2 1 (D 2))],[(.ag 25 0 1 1 (D 1))],[(.ag 26 0 1 1 (D 1))],[(.ag 27 0 1 1 (D 1))],[(.ag 28 0 1 1 (D 1))],[(.ag 29 0 2 1 (D 2))],[(.ag 30 0 1 1 (D 1))]]))
def Yp:Nat×an:=(32,(.row U 1 [[I J 21],[I J 0],[I J 1]]))
def Yq:Nat×an:=(33,(.row U 1 [[I J 11]]))
def Yr:Nat×an:=(34,(.row U 1 [[I J 3]]))
def cp:Nat×an:=(35,(.row U 1 [[I J 13]]))
def cq:Nat×an:=(36,(.row U 1 [[I J 22],[I J 0],[I J 1]]))
def cr:Nat×an:=(37,(.row U 1 [[I J 1]]))
def ct:Nat×an:=(38,(.row U 1 [[I J 15]]))
def cu:Nat×an:=(39,(.row U 1 [[I J 18]]))
def cv:Nat×an:=(40,(.row U 1 [[(.ag 32 0 3 1 (D 3))],[(.ag 33 0 1 1 (D 1))],[(.ag 34 0 1 1 (D 1))],[(.ag 35 0 1 1 (D 1))],[(.ag 36 0 3 1 (D 3))],[(.ag 37 0 1 1 (D 1))],[(.ag 38 0 1 1 (D 1))],[(.ag 39 0 1 1 (D 1))]]))
def cx:Nat×an:=(41,(.row U 1 [[I J 21],[I J 0]]))
def cy:Nat×an:=(42,(.row U 1 [[I J 13]]))
def cz:Nat×an:=(43,(.row U 1 [[I J 3]]))
def cA:Nat×an:=(44,(.row U 1 [[I J 2]]))
def cB:Nat×an:=(45,(.row U 1 [[I J 4]]))
def cC:Nat×an:=(46,(.row U 1 [[I J 22],[I J 0]]))
def cD:Nat×an:=(47,(.row U 1 [[I J 17],[I J 7],[I J 8]]))
def cE:Nat×an:=(48,(.row U 1 [[I J 16],[I J 9]]))
def cF:Nat×an:=(49,(.row U 1 [[I J 16],[I J 12]]))
def cG:Nat×an:=(50,(.row U 1 [[I J 1]]))
def cI:Nat×an:=(51,(.row U 1 [[I J 15]]))
def cJ:Nat×an:=(52,(.row U 1 [[I J 16],[I J 12]]))
def cK:Nat×an:=(53,(.row U 1 [[I J 18]]))
def cL:Nat×an:=(54,(.row U 1 [[(.ag 41 0 2 1 (D 2))],[(.ag 42 0 1 1 (D 1))],[(.ag 43 0 1 1 (D 1))],[(.ag 44 0 1 1 (D 1))],[(.ag 45 0 1 1 (D 1))],[(.ag 46 0 2 1 (D 2))],[(.ag 47 0 3 1 (D 3))],[(.ag 48 0 2 1 (D 2))],[(.ag 49 0 2 1 (D 2))],[(.ag 50 0 1 1 (D 1))],[(.ag 51 0 1 1 (D 1))],[(.ag 52 0 2 1 (D 2))],[(.ag 53 0 1 1 (D 1))]]))
def Ys:Nat×an:=(55,(.row U 1 [[I J 21],[I J 0]]))
def Yt:Nat×an:=(56,(.row U 1 [[I J 11]]))
def Yu:Nat×an:=(57,(.row U 1 [[I J 3]]))
def Yv:Nat×an:=(58,(.row U 1 [[I J 14]]))
def Yw:Nat×an:=(59,(.row U 1 [[I J 1]]))
def Yx:Nat×an:=(60,(.row U 1 [[I J 4]]))
def Yy:Nat×an:=(61,(.row U 1 [[I J 17],[I J 7],[I J 8]]))
def Yz:Nat×an:=(62,(.row U 1 [[I J 16],[I J 10]]))
def YA:Nat×an:=(63,(.row U 1 [[I J 22],[I J 0]]))
def YB:Nat×an:=(64,(.row U 1 [[I J 16],[I J 14]]))
def YC:Nat×an:=(65,(.row U 1 [[I J 6]]))
def YD:Nat×an:=(66,(.row U 1 [[I J 22],[I J 0]]))
def YE:Nat×an:=(67,(.row U 1 [[I J 15]]))
def YF:Nat×an:=(68,(.row U 1 [[I J 16],[I J 14]]))
def YG:Nat×an:=(69,(.row U 1 [[I J 1]]))
def YH:Nat×an:=(70,(.row U 1 [[I J 15]]))
def YI:Nat×an:=(71,(.row U 1 [[I J 18]]))
def YJ:Nat×an:=(72,(.row U 1 [[(.ag 55 0 2 1 (D 2))],[(.ag 56 0 1 1 (D 1))],[(.ag 57 0 1 1 (D 1))],[(.ag 58 0 1 1 (D 1))],[(.ag 59 0 1 1 (D 1))],[(.ag 60 0 1 1 (D 1))],[(.ag 61 0 3 1 (D 3))],[(.ag 62 0 2 1 (D 2))],[(.ag 63 0 2 1 (D 2))],[(.ag 64 0 2 1 (D 2))],[(.ag 65 0 1 1 (D 1))],[(.ag 66 0 2 1 (D 2))],[(.ag 67 0 1 1 (D 1))],[(.ag 68 0 2 1 (D 2))],[(.ag 69 0 1 1 (D 1))],[(.ag 70 0 1 1 (D 1))],[(.ag 71 0 1 1 (D 1))]]))
def YK:Nat×an:=(73,(.row U 1 [[I J 11]]))
def YL:Nat×an:=(74,(.row U 1 [[I J 20]]))
def YM:Nat×an:=(75,(.row U 1 [[I J 18]]))
def YN:Nat×an:=(76,(.row U 1 [[(.ag 73 0 1 1 (D 1))],[(.ag 74 0 1 1 (D 1))],[(.ag 75 0 1 1 (D 1))]]))
def YO:Nat×an:=(77,(.row U 1 [[(.ag 12 0 11 1 (D 11))],[(.ag 31 0 18 1 (D 18))],[(.ag 40 0 8 1 (D 8))],[(.ag 54 0 13 1 (D 13))],[(.ag 72 0 17 1 (D 17))],[(.ag 76 0 3 1 (D 3))]]))
def kn:Nat×an:=(80,(.row U 1 [[I J 11]]))
def ko:Nat×an:=(81,(.row U 1 [[I J 7]]))
def kp:Nat×an:=(82,(.row U 1 [[I J 18]]))
def kq:Nat×an:=(83,(.row U 1 [[(.ag 80 0 1 1 (D 1))],[(.ag 81 0 1 1 (D 1))],[(.ag 82 0 1 1 (D 1))]]))
def kr:Nat×an:=(84,(.row U 1 [[I J 11]]))
def ks:Nat×an:=(85,(.row U 1 [[I J 18]]))
def kt:Nat×an:=(86,(.row U 1 [[I J 2]]))
def ku:Nat×an:=(87,(.row U 1 [[I J 18]]))
def kv:Nat×an:=(88,(.row U 1 [[(.ag 84 0 1 1 (D 1))],[(.ag 85 0 1 1 (D 1))],[(.ag 86 0 1 1 (D 1))],[(.ag 87 0 1 1 (D 1))]]))
def kx:Nat×an:=(91,(.row U 1 [[(.ag 78 0 0 1 (D 0))],[(.ag 79 0 0 1 (D 0))],[(.ag 83 0 3 1 (D 3))],[(.ag 88 0 4 1 (D 4))],[(.ag 89 0 0 1 (D 0))],[(.ag 90 0 0 1 (D 0))]]))
def L_:Nat×an:=(335,(.row U 3 [[X [82],.ao,I J 7]]))
def Ma:Nat×an:=(515,(.row U 11 [[I J 7,I J 0,X [102],X [],I J 0,.ao,I J 38,I J 0,I J 0,I J 0,I J 0]]))
def Mb:Nat×an:=(698,(.row U 11 [[I J 4,I J 0,X [97],X [],I J 0,.ao,I J 46,I J 0,I J 0,I J 0,I J 0],[I J 3,I J 0,X [],X [82],I J 0,.ao,I J 51,I J 0,I J 0,I J 0,I J 0]]))
def Mc:Nat×an:=(743,(.row U 11 [[I J 21,I J 0,X [],X [],I J 0,(.ag 698 0 2 11 (D 2)),I J 48,I J 0,I J 0,I J 0,I J 0]]))
def Md:Nat×an:=(863,(.row U 11 [[I J 1,I J 1,X [],X [],I J 0,.ao,I J 66,I J 0,I J 0,I J 0,I J 0]]))
def Me:Nat×an:=(867,(.row U 9 [[I J 8,X [],X [],I J 0,(.ag 863 0 1 11 (D 1)),.ao,.ao,I J 60,I J 0]]))
def Mf:Nat×an:=(875,(.row U 9 [[I J 2,X [97],X [82],I J 0,(.ag 515 0 1 11 (D 1)),.ao,.ao,I J 27,I J 0],[I J 5,X [],X [],I J 0,(.ag 743 0 1 11 (D 1)),.ag 867 0 1 9 Y,.ao,I J 43,I J 0]]))
def Mg:Nat×an:=(1050,(.row U 11 [[I J 8,I J 0,X [],X [82],I J 0,.ao,I J 94,I J 0,I J 0,I J 0,I J 0]]))
def Mh:Nat×an:=(1054,(.row U 9 [[I J 7,X [],X [],I J 0,(.ag 1050 0 1 11 (D 1)),.ao,.ao,I J 87,I J 0]]))
def Mi:Nat×an:=(1060,(.row U 7 [[X [109,97,105,110],.ao,Z U,X [],I J 0,.ag 875 0 2 9 Y,I J 18],[X [102],.ao,Z V,X [82],I J 0,.ag 1054 0 1 9 Y,I J 78]]))
def mM:Nat×an:=(1063,(.row U 2 [[I J 0,I J 0]]))
def Ej:Nat×an:=(1080,(.row U 2 [[X [82],.ao]]))
def Ek:Nat×an:=(1436,(.row U 3 [[I J 3,I J 0,I J 0],[I J 3,I J 0,I J 0],[I J 3,I J 0,I J 0],[I J 2,I J 0,I J 0],[I J 1,I J 0,I J 0]]))
def Ed:Nat×an:=(1448,(.row U 6 [[I J 13,I J 1,I J 0,I J 1,I J 0,.ao],[I J 3,I J 0,I J 1,I J 0,I J 0,.ao],[I J 2,I J 2,I J 0,I J 0,I J 0,.ao],[I J 4,I J 3,I J 0,I J 2,I J 21,.ao],[I J 17,I J 3,I J 0,I J 8,I J 5,.ao],[I J 1,I J 4,I J 0,I J 0,I J 1,.ao],[I J 15,I J 4,I J 0,I J 0,I J 0,.ao],[I J 16,I J 0,I J 0,I J 0,I J 8,.ao],[I J 18,(I J (-1)),I J 0,I J 0,I J 0,.ao]]))
def Ee:Nat×an:=(1461,(.row U 4 [[I J 1,I J 3,I J 0,I J 0]]))
def Ef:Nat×an:=(1470,(.row U 3 [[I J 3,I J 0,I J 0],[I J 3,I J 0,I J 0]]))
def Eg:Nat×an:=(1477,(.row U 6 [[I J 11,I J 0,I J 0,I J 0,I J 0,.ao],[I J 18,I J 0,I J 0,I J 0,I J 0,.ao],[I J 2,I J 1,I J 0,I J 0,I J 0,.ao],[I J 18,I J 1,I J 0,I J 0,I J 0,.ao]]))
def Eh:Nat×an:=(1479,(.row U 7 [[I J 0,.ag 1436 0 5 3 Y,Z U,I J 0,I J 0,I J 0,.ag 1448 0 9 6 Y],[I J 0,.ag 1470 0 2 3 Y,Z V,I J 3,I J 0,I J 0,.ag 1477 0 4 6 Y]]))
def qz:Nat×an:=(1481,(.row U 2 [[I J 0,I J 0]]))
def X4:Nat×an:=(1482,(.row U 5 [[.ag 1080 0 1 2 Y,.ao,.ag 1479 0 2 7 Y,.ag 1461 0 1 4 Y,I J 0]]))
def X5:Nat×an:=(1483,(.row U 4 [[.ao,.ao,.ao,I J 0]]))
def c9:Nat×an:=(3083,(.row U 1 [[I J 0]]))
def c_:Nat×an:=(3102,(.row U 1 [[I J 0],[I J 0],[(I J (-1))],[(I J (-1))],[(I J (-1))],[I J 0],[(I J (-1))],[(I J (-1))],[I J 0]]))
def da:Nat×an:=(3126,(.row U 1 [[(I J (-1))],[(I J (-1))],[(I J (-1))],[(I J (-1))],[(I J (-1))],[(I J (-1))],[(I J (-1))],[(I J (-1))]]))
def db:Nat×an:=(3128,(.row U 1 [[.ag 3126 0 8 1 Y]]))
def dk:Nat×an:=(5542,(.row U 1 [[.ao],[.ag 5601 0 1 1 Y]]))
def c1:Nat×an:=(5601,(.row U 1 [[I J 0]]))
def df:Nat×an:=(8287,(.row U 1 [[I J 0]]))
def dw:Nat×an:=(8561,(.row U 1 [[.ag 8287 0 1 1 Y],[.ao]]))
def fZ:Nat×an:=(8562,(.row U 13 [[.ag 1080 0 1 2 Y,.ao,.ag 1479 0 2 7 Y,.ag 1461 0 1 4 Y,I J 0,I J 1,(.ag 3083 0 1 1 (D 1)),.ag 3102 0 9 1 Y,.ag 3128 0 1 1 Y,(.ag 5542 0 2 1 (D 2)),.ag 8561 0 2 1 Y,I J 5,I J 7]]))
def dA:Nat×an:=(8564,(.row U 7 [[I J 0,.ag 1470 0 2 3 Y,Z V,I J 3,I J 0,I J 0,.ag 1477 0 4 6 Y]]))
def f_:Nat×an:=(8565,(.row U 4 [[.ag 8805 0 1 2 Y,.ao,.ao,I J 0]]))
def dB:Nat×an:=(8804,(.row U 2 [[Z U,.ao]]))
def dm:Nat×an:=(8805,(.row U 2 [[Z U,.ao]]))
def g5:Nat×an:=(8806,(.row U 6 [[I J 0,.ao,I J 0,.ao,.ao,.ao]]))
def g6:Nat×an:=(8807,(.row U 7 [[I J 0,.ag 1436 0 5 3 Y,Z U,I J 0,I J 0,I J 0,.ag 1448 0 9 6 Y]]))
def g7:Nat×an:=(8808,(.row U 6 [[I J 0,.ag 8833 0 5 1 Y,(I J (-3)),.ao,.ag 8287 0 1 1 Y,.ao]]))
def g8:Nat×an:=(8829,(.row U 3 [[I J 1,I J 0,I J 0]]))
def g9:Nat×an:=(8832,(.row U 1 [[(I J (-2))]]))
def dt:Nat×an:=(8833,(.row U 1 [[I J 0],[I J 0],[(I J (-1))],[(I J (-2))],[(I J (-2))]]))
def lq:Nat×an:=(8834,(.row U 5 [[.ag 1080 0 1 2 Y,.ao,.ag 1479 0 2 7 Y,.ag 1461 0 1 4 Y,I J 0]]))
def om:Nat×an:=(8835,(.row U 5 [[.ag 1080 0 1 2 Y,.ao,.ag 1479 0 2 7 Y,.ag 1461 0 1 4 Y,I J 0]]))
def oo:Nat×an:=(11521,(.row U 1 [[I J 0]]))
def qA:Nat×an:=(11795,(.row U 1 [[.ag 11521 0 1 1 Y],[.ao]]))
def yH:Nat×an:=(13161,(.row U 1 [[I J 0]]))
def yI:Nat×an:=(13180,(.row U 1 [[I J 0],[I J 0],[(I J (-1))],[(I J (-1))],[(I J (-1))],[I J 0],[(I J (-1))],[(I J (-1))],[I J 0]]))
def yJ:Nat×an:=(13204,(.row U 1 [[(I J (-1))],[(I J (-1))],[(I J (-1))],[(I J (-1))],[(I J (-1))],[(I J (-1))],[(I J (-1))],[(I J (-1))]]))
def yK:Nat×an:=(13206,(.row U 1 [[.ag 13204 0 8 1 Y]]))
def L3:Nat×an:=(13209,(.row U 12 [[.ag 1080 0 1 2 Y,.ao,.ag 1479 0 2 7 Y,.ag 1461 0 1 4 Y,I J 0,I J 0,I J 1,(.ag 13161 0 1 1 (D 1)),.ag 13180 0 9 1 Y,.ag 13206 0 1 1 Y,.ag 11521 0 1 1 Y,.ao]]))
def jg:Nat×an:=(13433,(.row U 1 [[I J 0]]))
def jh:Nat×an:=(13446,(.row U 1 [[I J 0]]))
def ji:Nat×an:=(13461,(.row U 1 [[I J 0]]))
def jj:Nat×an:=(13491,(.row U 1 [[.ao],[.ag 13433 0 1 1 Y],[.ag 13446 0 1 1 Y],[.ag 13461 0 1 1 Y],[.ao],[.ao],[.ao],[.ao],[.ao]]))
def lr:Nat×an:=(13492,(.row U 5 [[.ag 1080 0 1 2 Y,.ao,.ag 1479 0 2 7 Y,.ag 1461 0 1 4 Y,I J 0]]))
def oq:Nat×an:=(13493,(.row U 5 [[.ag 1080 0 1 2 Y,.ao,.ag 1479 0 2 7 Y,.ag 1461 0 1 4 Y,I J 0]]))
def ou:Nat×an:=(16179,(.row U 1 [[I J 0]]))
def qB:Nat×an:=(16453,(.row U 1 [[.ag 16179 0 1 1 Y],[.ao]]))
def yL:Nat×an:=(17819,(.row U 1 [[I J 0]]))
def yM:Nat×an:=(17838,(.row U 1 [[I J 0],[I J 0],[(I J (-1))],[(I J (-1))],[(I J (-1))],[I J 0],[(I J (-1))],[(I J (-1))],[I J 0]]))
def yN:Nat×an:=(17862,(.row U 1 [[(I J (-1))],[(I J (-1))],[(I J (-1))],[(I J (-1))],[(I J (-1))],[(I J (-1))],[(I J (-1))],[(I J (-1))]]))
def yO:Nat×an:=(17864,(.row U 1 [[.ag 17862 0 8 1 Y]]))
def L4:Nat×an:=(17867,(.row U 12 [[.ag 1080 0 1 2 Y,.ao,.ag 1479 0 2 7 Y,.ag 1461 0 1 4 Y,I J 0,I J 0,I J 1,(.ag 17819 0 1 1 (D 1)),.ag 17838 0 9 1 Y,.ag 17864 0 1 1 Y,.ag 16179 0 1 1 Y,.ao]]))
def fo:Nat×an:=(20622,(.row U 1 [[I J 0]]))
def fp:Nat×an:=(20677,(.row U 1 [[I J 0]]))
def fq:Nat×an:=(20742,(.row U 6 [[I J 21,I J 0,I J 0,I J 0,I J 0,.ag 20622 0 1 1 Y],[I J 13,I J 1,I J 0,I J 1,I J 0,.ao],[I J 3,I J 0,I J 1,I J 0,I J 0,.ao],[I J 2,I J 2,I J 0,I J 0,I J 0,.ao],[I J 4,I J 3,I J 0,I J 2,I J 21,.ao],[I J 22,I J 0,I J 0,I J 0,I J 0,.ag 20677 0 1 1 Y],[I J 17,I J 3,I J 0,I J 8,I J 7,.ao],[I J 16,I J 0,I J 0,I J 0,I J 9,.ao],[I J 16,I J 0,I J 0,I J 0,I J 12,.ao],[I J 1,I J 4,I J 0,I J 0,I J 1,.ao],[I J 15,I J 4,I J 0,I J 0,I J 0,.ao],[I J 16,I J 0,I J 0,I J 0,I J 12,.ao],[I J 18,(I J (-1)),I J 0,I J 0,I J 0,.ao]]))
def gq:Nat×an:=(8562,(.row U 13 [[.ag 1080 0 1 2 Y,.ao,.ag 1479 0 2 7 Y,.ag 1461 0 1 4 Y,I J 0,I J 1,(.ag 3083 0 1 1 (D 1)),.ag 3102 0 9 1 Y,.ag 3128 0 1 1 Y,(.ag 5542 0 2 1 (D 2)),.ag 8561 0 2 1 Y,I J 7,I J 7]]))
def ga:Nat×an:=(8565,(.row U 4 [[.ag 8805 0 1 2 Y,.ao,.ag 20744 0 1 6 Y,I J 0]]))
def gb:Nat×an:=(20743,(.row U 6 [[I J 0,.ag 8833 0 5 1 Y,(I J (-3)),.ao,.ag 8287 0 1 1 Y,.ag 20742 0 13 6 Y]]))
def gd:Nat×an:=(20744,(.row U 6 [[I J 0,.ag 8833 0 5 1 Y,(I J (-3)),.ao,.ag 8287 0 1 1 Y,.ag 20742 0 13 6 Y]]))
def g_:Nat×an:=(20745,(.row U 6 [[I J 0,.ao,I J 0,.ao,.ao,.ao]]))
def ha:Nat×an:=(20746,(.row U 7 [[I J 0,.ag 1470 0 2 3 Y,Z V,I J 3,I J 0,I J 0,.ag 1477 0 4 6 Y]]))
def hb:Nat×an:=(20747,(.row U 6 [[I J 0,.ag 20757 0 2 1 Y,I J 0,.ag 5601 0 1 1 Y,.ao,.ao]]))
def hc:Nat×an:=(20753,(.row U 3 [[I J 3,I J 0,I J 0]]))
def hd:Nat×an:=(20756,(.row U 1 [[(I J (-1))]]))
def fH:Nat×an:=(20757,(.row U 1 [[I J 0],[(I J (-1))]]))
def lu:Nat×an:=(20760,(.row U 5 [[.ag 1080 0 1 2 Y,.ao,.ag 1479 0 2 7 Y,.ag 1461 0 1 4 Y,I J 0]]))
def ov:Nat×an:=(20761,(.row U 5 [[.ag 1080 0 1 2 Y,.ao,.ag 1479 0 2 7 Y,.ag 1461 0 1 4 Y,I J 0]]))
def qC:Nat×an:=(23447,(.row U 1 [[I J 0]]))
def qD:Nat×an:=(23721,(.row U 1 [[.ag 23447 0 1 1 Y],[.ao]]))
def yP:Nat×an:=(25087,(.row U 1 [[I J 0]]))
def yQ:Nat×an:=(25106,(.row U 1 [[I J 0],[I J 0],[(I J (-1))],[(I J (-1))],[(I J (-1))],[I J 0],[(I J (-1))],[(I J (-1))],[I J 0]]))
def yR:Nat×an:=(25130,(.row U 1 [[(I J (-1))],[(I J (-1))],[(I J (-1))],[(I J (-1))],[(I J (-1))],[(I J (-1))],[(I J (-1))],[(I J (-1))]]))
def yS:Nat×an:=(25132,(.row U 1 [[.ag 25130 0 8 1 Y]]))
def L5:Nat×an:=(25135,(.row U 12 [[.ag 1080 0 1 2 Y,.ao,.ag 1479 0 2 7 Y,.ag 1461 0 1 4 Y,I J 0,I J 1,I J 1,(.ag 25087 0 1 1 (D 1)),.ag 25106 0 9 1 Y,.ag 25132 0 1 1 Y,.ao,.ao]]))
def L6:Nat×an:=(25136,(.row U 7 [[I J 0,.ag 1436 0 5 3 Y,Z U,I J 0,I J 0,I J 0,.ag 1448 0 9 6 Y]]))
def jl:Nat×an:=(25242,(.row U 1 [[I J 0]]))
def jm:Nat×an:=(25256,(.row U 1 [[.ao],[.ag 25242 0 0 1 Y],[.ao],[.ao]]))
def lv:Nat×an:=(25257,(.row U 5 [[.ag 1080 0 1 2 Y,.ao,.ag 1479 0 2 7 Y,.ag 1461 0 1 4 Y,I J 0]]))
def ow:Nat×an:=(25258,(.row U 5 [[.ag 1080 0 1 2 Y,.ao,.ag 1479 0 2 7 Y,.ag 1461 0 1 4 Y,I J 0]]))
def qE:Nat×an:=(27944,(.row U 1 [[I J 0]]))
def qF:Nat×an:=(28218,(.row U 1 [[.ag 27944 0 1 1 Y],[.ao]]))
def yT:Nat×an:=(29584,(.row U 1 [[I J 0]]))
def yU:Nat×an:=(29603,(.row U 1 [[I J 0],[I J 0],[(I J (-1))],[(I J (-1))],[(I J (-1))],[I J 0],[(I J (-1))],[(I J (-1))],[I J 0]]))
def yV:Nat×an:=(29627,(.row U 1 [[(I J (-1))],[(I J (-1))],[(I J (-1))],[(I J (-1))],[(I J (-1))],[(I J (-1))],[(I J (-1))],[(I J (-1))]]))
def yW:Nat×an:=(29629,(.row U 1 [[.ag 29627 0 8 1 Y]]))
def L7:Nat×an:=(29632,(.row U 12 [[.ag 1080 0 1 2 Y,.ao,.ag 1479 0 2 7 Y,.ag 1461 0 1 4 Y,I J 0,I J 1,I J 1,(.ag 29584 0 1 1 (D 1)),.ag 29603 0 9 1 Y,.ag 29629 0 1 1 Y,.ao,.ao]]))
def L8:Nat×an:=(29633,(.row U 7 [[I J 0,.ag 1436 0 5 3 Y,Z U,I J 0,I J 0,I J 0,.ag 1448 0 9 6 Y]]))
def yX:Nat×an:=(29812,(.row U 6 [[I J 11,I J 0,I J 0,I J 0,I J 0,.ao],[I J 18,I J 0,I J 0,I J 0,I J 0,.ao],[I J 2,I J 1,I J 0,I J 0,I J 0,.ao],[I J 18,I J 1,I J 0,I J 0,I J 0,.ao]]))
def Ei:Nat×an:=(29814,(.row U 6 [[I J 0,.ag 8833 0 5 1 Y,(I J (-3)),.ao,.ag 8287 0 1 1 Y,.ag 20742 0 13 6 Y],[I J 0,.ag 20757 0 2 1 Y,I J 0,.ag 5601 0 1 1 Y,.ao,.ag 29812 0 4 6 Y]]))
def L9:Nat×an:=(29815,(.row U 4 [[.ag 8805 0 1 2 Y,.ao,.ag 29814 0 2 6 Y,I J 0]]))
def c2:Ec:=[(79,(.row U 1 [])),kn,ko,kp,kq,kr,ks,kt,ku,kv,(89,(.row U 1 [])),(90,(.row U 1 [])),kx,mM,Ej,Ek,Ed,Ee,Ef,Eg,Eh,qz,X4,X5]
def cQ:Ec:=[Ys,Yt,Yu,Yv,Yw,Yx,Yy,Yz,YA,YB,YC,YD,YE,YF,YG,YH,YI,YJ,YK,YL,YM,YN,YO,(78,(.row U 1 []))]
def cR:Ec:=[X3,X6,X7,X8,X9,X_,Ya,Yb,Yc,Yd,Ye,Yf,Yg,Yh,Yi,Yj,Yk,Yl,Ym,Yn,Yo,Yp,Yq,Yr]
def Lx:aR:=⟨32,[X [114,101,99,111,114,100,32,82,32,123,32,125,32,102,117,110,99,32,109,97,105,110,40,41,32,123,32,108,101,116,32,97,58,32,82,32,61,32,102,40,41,59,32,105,102,32,97,32,61,61,32,110,117,108,108,32,82,32,123,32,112,114,105,110,116,32,49,59,32,125,32,125,32,102,117,110,99,32,102,40,41,58,32,82,32,123,32,114,101,116,117,114,110,32,110,101,119,32,82,59,32,125]],92,([ck,cl,cm,cn,cw,cH,cM,cN,cO,cP]++cR++[cp,cq,cr,ct,cu,cv,cx,cy,cz,cA,cB,cC,cD,cE,cF,cG,cI,cJ,cK,cL]++cQ++[(79,(.row U 1 [])),kn,ko,kp,kq,kr,ks,kt,ku,kv,(89,(.row U 1 [])),(90,(.row U 1 [])),kx]),(.tuple [.agg [.ag 335 0 1 3 Y,.ao,.ag 1060 0 2 7 Y],.agg [I J 0,I J 0]]),1062,([ck,cl,cm,cn,cw,cH,cM,cN,cO,cP]++cR++[cp,cq,cr,ct,cu,cv,cx,cy,cz,cA,cB,cC,cD,cE,cF,cG,cI,cJ,cK,cL]++cQ++[(79,(.row U 1 [])),kn,ko,kp,kq,kr,ks,kt,ku,kv,(89,(.row U 1 [])),(90,(.row U 1 [])),kx,L_,Ma,Mb,Mc,Md,Me,Mf,Mg,Mh,Mi])⟩
def Xm(a:aZ az P aY):Lx.Ok az P:=aR.bm (bk a bB 100) j
def Ly:aR:=⟨33,[.agg [.ag 335 0 1 3 Y,.ao,.ag 1060 0 2 7 Y]],1064,([ck,cl,cm,cn,cw,cH,cM,cN,cO,cP]++cR++[cp,cq,cr,ct,cu,cv,cx,cy,cz,cA,cB,cC,cD,cE,cF,cG,cI,cJ,cK,cL]++cQ++[(79,(.row U 1 [])),kn,ko,kp,kq,kr,ks,kt,ku,kv,(89,(.row U 1 [])),(90,(.row U 1 [])),kx,L_,Ma,Mb,Mc,Md,Me,Mf,Mg,Mh,Mi,mM]),(.tuple [.agg [.ag 1080 0 1 2 Y,.ao,.ag 1479 0 2 7 Y,.ag 1461 0 1 4 Y,I J 0],.agg [I J 0,I J 0]]),1480,([ck,cl,cm,cn,cw,cH,cM,cN,cO,cP]++cR++[cp,cq,cr,ct,cu,cv,cx,cy,cz,cA,cB,cC,cD,cE,cF,cG,cI,cJ,cK,cL]++cQ++[(79,(.row U 1 [])),kn,ko,kp,kq,kr,ks,kt,ku,kv,(89,(.row U 1 [])),(90,(.row U 1 [])),kx,mM,Ej,Ek,Ed,Ee,Ef,Eg,Eh])⟩
def Xu(a:aZ az P aY):Ly.Ok az P:=aR.bm (bk a bB 100) j
def LJ:aR:=⟨76,[.agg [.ag 1080 0 1 2 Y,.ao,.ag 1479 0 2 7 Y,.ag 1461 0 1 4 Y,I J 0]],1718,([ck,cl,cm,cn,cw,cH,cM,cN,cO,cP]++cR++[cp,cq,cr,ct,cu,cv,cx,cy,cz,cA,cB,cC,cD,cE,cF,cG,cI,cJ,cK,cL]++cQ++c2),(.agg [I J 1,(.ag 3083 0 1 1 (D 1)),.ag 3102 0 9 1 Y,.ag 3128 0 1 1 Y]),3131,([ck,cl,cm,cn,cw,cH,cM,cN,cO,cP]++cR++[cp,cq,cr,ct,cu,cv,cx,cy,cz,cA,cB,cC,cD,cE,cF,cG,cI,cJ,cK,cL]++cQ++c2++[c9,c_,da,db])⟩
def XE(a:aZ az P aY):LJ.Ok az P:=aR.bm (bk a bB 100) j
def LN:aR:=⟨77,[.agg [.ag 1080 0 1 2 Y,.ao,.ag 1479 0 2 7 Y,.ag 1461 0 1 4 Y,I J 0]],3131,([ck,cl,cm,cn,cw,cH,cM,cN,cO,cP]++cR++[cp,cq,cr,ct,cu,cv,cx,cy,cz,cA,cB,cC,cD,cE,cF,cG,cI,cJ,cK,cL]++cQ++c2++[c9,c_,da,db]),(.ag 5542 0 2 1 (D 2)),5602,([ck,cl,cm,cn,cw,cH,cM,cN,cO,cP]++cR++[cp,cq,cr,ct,cu,cv,cx,cy,cz,cA,cB,cC,cD,cE,cF,cG,cI,cJ,cK,cL]++cQ++c2++[c9,c_,da,db,dk,c1])⟩
def XF(a:aZ az P aY):LN.Ok az P:=aR.bm (bk a bB 100) j
def LO:aR:=⟨78,[.agg [.ag 1080 0 1 2 Y,.ao,.ag 1479 0 2 7 Y,.ag 1461 0 1 4 Y,I J 0]],5602,([ck,cl,cm,cn,cw,cH,cM,cN,cO,cP]++cR++[cp,cq,cr,ct,cu,cv,cx,cy,cz,cA,cB,cC,cD,cE,cF,cG,cI,cJ,cK,cL]++cQ++c2++[c9,c_,da,db,dk,c1]),.ag 8561 0 2 1 Y,8562,([ck,cl,cm,cn,cw,cH,cM,cN,cO,cP]++cR++[cp,cq,cr,ct,cu,cv,cx,cy,cz,cA,cB,cC,cD,cE,cF,cG,cI,cJ,cK,cL]++cQ++c2++[c9,c_,da,db,dk,c1,df,dw])⟩
def XO(a:aZ az P aY):LO.Ok az P:=aR.bm (bk a bB 100) j
def LB:aR:=⟨78,[.agg [.ag 1080 0 1 2 Y,.ao,.ag 1479 0 2 7 Y,.ag 1461 0 1 4 Y,I J 0]],8836,([ck,cl,cm,cn,cw,cH,cM,cN,cO,cP]++cR++[cp,cq,cr,ct,cu,cv,cx,cy,cz,cA,cB,cC,cD,cE,cF,cG,cI,cJ,cK,cL]++cQ++c2++[c9,c_,da,db,dk,c1,df,dw,fZ,dA,f_,dB,dm,g5,g6,g7,g8,g9,dt,lq,om]),.ag 11795 0 2 1 Y,11796,([ck,cl,cm,cn,cw,cH,cM,cN,cO,cP]++cR++[cp,cq,cr,ct,cu,cv,cx,cy,cz,cA,cB,cC,cD,cE,cF,cG,cI,cJ,cK,cL]++cQ++c2++[c9,c_,da,db,dk,c1,df,dw,fZ,dA,f_,dB,dm,g5,g6,g7,g8,g9,dt,lq,om,oo,qA])⟩
def Xr(a:aZ az P aY):LB.Ok az P:=aR.bm (bk a bB 100) j
def LC:aR:=⟨76,[.agg [.ag 1080 0 1 2 Y,.ao,.ag 1479 0 2 7 Y,.ag 1461 0 1 4 Y,I J 0]],11796,([ck,cl,cm,cn,cw,cH,cM,cN,cO,cP]++cR++[cp,cq,cr,ct,cu,cv,cx,cy,cz,cA,cB,cC,cD,cE,cF,cG,cI,cJ,cK,cL]++cQ++c2++[c9,c_,da,db,dk,c1,df,dw,fZ,dA,f_,dB,dm,g5,g6,g7,g8,g9,dt,lq,om,oo,qA]),(.agg [I J 1,(.ag 13161 0 1 1 (D 1)),.ag 13180 0 9 1 Y,.ag 13206 0 1 1 Y]),13209,([ck,cl,cm,cn,cw,cH,cM,cN,cO,cP]++cR++[cp,cq,cr,ct,cu,cv,cx,cy,cz,cA,cB,cC,cD,cE,cF,cG,cI,cJ,cK,cL]++cQ++c2++[c9,c_,da,db,dk,c1,df,dw,fZ,dA,f_,dB,dm,g5,g6,g7,g8,g9,dt,lq,om,oo,qA,yH,yI,yJ,yK])⟩
def Xs(a:aZ az P aY):LC.Ok az P:=aR.bm (bk a bB 100) j
def LD:aR:=⟨93,[.agg [I J 0,.ag 1436 0 5 3 Y,Z U,I J 0,I J 0,I J 0,.ag 1448 0 9 6 Y]],13210,([ck,cl,cm,cn,cw,cH,cM,cN,cO,cP]++cR++[cp,cq,cr,ct,cu,cv,cx,cy,cz,cA,cB,cC,cD,cE,cF,cG,cI,cJ,cK,cL]++cQ++c2++[c9,c_,da,db,dk,c1,df,dw,fZ,dA,f_,dB,dm,g5,g6,g7,g8,g9,dt,lq,om,oo,qA,yH,yI,yJ,yK,L3]),(.ag 13406 0 9 1 (D 9)),13419,([ck,cl,cm,cn,cw,cH,cM,cN,cO,cP]++cR++[cp,cq,cr,ct,cu,cv,cx,cy,cz,cA,cB,cC,cD,cE,cF,cG,cI,cJ,cK,cL]++cQ++c2++[c9,c_,da,db,dk,c1,df,dw,fZ,dA,f_,dB,dm,g5,g6,g7,g8,g9,dt,lq,om,oo,qA,yH,yI,yJ,yK,L3,(13406,(.row U 1 [[.ao],[.ag 13408 0 1 1 Y],[.ag 13410 0 1 1 Y],[.ag 13414 0 2 1 Y],[.ag 13416 0 1 1 Y],[.ao],[.ag 13418 0 1 1 Y],[.ao],[.ao]])),(13408,(.row U 1 [[I J 1]])),(13410,(.row U 1 [[I J 0]])),(13414,(.row U 1 [[I J 0],[I J 2]])),(13416,(.row U 1 [[I J 3]])),(13418,(.row U 1 [[I J 4]]))])⟩
def Xt(a:aZ az P aY):LD.Ok az P:=aR.bm (bk a bB 100) j
def LA:aR:=⟨45,[.agg [.ag 1080 0 1 2 Y,.ao,.ag 1479 0 2 7 Y,.ag 1461 0 1 4 Y,I J 0],I J 0],8835,([ck,cl,cm,cn,cw,cH,cM,cN,cO,cP]++cR++[cp,cq,cr,ct,cu,cv,cx,cy,cz,cA,cB,cC,cD,cE,cF,cG,cI,cJ,cK,cL]++cQ++c2++[c9,c_,da,db,dk,c1,df,dw,fZ,dA,f_,dB,dm,g5,g6,g7,g8,g9,dt,lq]),.ptr 13209 0 0,13492,([ck,cl,cm,cn,cw,cH,cM,cN,cO,cP]++cR++[cp,cq,cr,ct,cu,cv,cx,cy,cz,cA,cB,cC,cD,cE,cF,cG,cI,cJ,cK,cL]++cQ++c2++[c9,c_,da,db,dk,c1,df,dw,fZ,dA,f_,dB,dm,g5,g6,g7,g8,g9,dt,lq,oo,yH,yI,yJ,yK,(13209,(.row U 12 [[.ag 1080 0 1 2 Y,.ao,.ag 1479 0 2 7 Y,.ag 1461 0 1 4 Y,I J 0,I J 0,I J 1,(.ag 13161 0 1 1 (D 1)),.ag 13180 0 9 1 Y,.ag 13206 0 1 1 Y,.ag 11521 0 1 1 Y,.ag 13491 0 9 1 Y]])),jg,jh,ji,jj])⟩
def Xp(a:aZ az P aY):∀s∈[LB,LC,LD],s.Ok az P:=by
 intro s b;simp only[List.mem_cons,List.not_mem_nil,or_false]at b;rcases b with rfl|rfl|rfl
 ·exact Xr a
 ·exact Xs a
 ·exact Xt a
def Xq(a:aZ az P aY):LA.Ok az P:=aR.bm (bk (dn a (Xp a)) jx 100) j
def Lz:aR:=⟨16,[.agg [.ag 1080 0 1 2 Y,.ao,.ag 1479 0 2 7 Y,.ag 1461 0 1 4 Y,I J 0],I J 0],8834,([ck,cl,cm,cn,cw,cH,cM,cN,cO,cP]++cR++[cp,cq,cr,ct,cu,cv,cx,cy,cz,cA,cB,cC,cD,cE,cF,cG,cI,cJ,cK,cL]++cQ++c2++[c9,c_,da,db,dk,c1,df,dw,fZ,dA,f_,dB,dm,g5,g6,g7,g8,g9,dt]),.ag 13491 0 9 1 Y,13492,([ck,cl,cm,cn,cw,cH,cM,cN,cO,cP]++cR++[cp,cq,cr,ct,cu,cv,cx,cy,cz,cA,cB,cC,cD,cE,cF,cG,cI,cJ,cK,cL]++cQ++c2++[c9,c_,da,db,dk,c1,df,dw,fZ,dA,f_,dB,dm,g5,g6,g7,g8,g9,dt,jg,jh,ji,jj])⟩
def Xn(b:aZ az P aY):∀s∈[LA],s.Ok az P:=by
 intro s a;simp only[List.mem_cons,List.not_mem_nil,or_false]at a;rcases a with rfl
 ·exact Xq b
def Xo(a:aZ az P aY):Lz.Ok az P:=aR.bm (bk (dn a (Xn a)) oG 100) j
def LI:aR:=⟨78,[.agg [.ag 1080 0 1 2 Y,.ao,.ag 1479 0 2 7 Y,.ag 1461 0 1 4 Y,I J 0]],13494,([ck,cl,cm,cn,cw,cH,cM,cN,cO,cP]++cR++[cp,cq,cr,ct,cu,cv,cx,cy,cz,cA,cB,cC,cD,cE,cF,cG,cI,cJ,cK,cL]++cQ++c2++[c9,c_,da,db,dk,c1,df,dw,fZ,dA,f_,dB,dm,g5,g6,g7,g8,g9,dt,jg,jh,ji,jj,lr,oq]),.ag 16453 0 2 1 Y,16454,([ck,cl,cm,cn,cw,cH,cM,cN,cO,cP]++cR++[cp,cq,cr,ct,cu,cv,cx,cy,cz,cA,cB,cC,cD,cE,cF,cG,cI,cJ,cK,cL]++cQ++c2++[c9,c_,da,db,dk,c1,df,dw,fZ,dA,f_,dB,dm,g5,g6,g7,g8,g9,dt,jg,jh,ji,jj,lr,oq,ou,qB])⟩
def XB(a:aZ az P aY):LI.Ok az P:=aR.bm (bk a bB 100) j
def LK:aR:=⟨76,[.agg [.ag 1080 0 1 2 Y,.ao,.ag 1479 0 2 7 Y,.ag 1461 0 1 4 Y,I J 0]],16454,([ck,cl,cm,cn,cw,cH,cM,cN,cO,cP]++cR++[cp,cq,cr,ct,cu,cv,cx,cy,cz,cA,cB,cC,cD,cE,cF,cG,cI,cJ,cK,cL]++cQ++c2++[c9,c_,da,db,dk,c1,df,dw,fZ,dA,f_,dB,dm,g5,g6,g7,g8,g9,dt,jg,jh,ji,jj,lr,oq,ou,qB]),(.agg [I J 1,(.ag 17819 0 1 1 (D 1)),.ag 17838 0 9 1 Y,.ag 17864 0 1 1 Y]),17867,([ck,cl,cm,cn,cw,cH,cM,cN,cO,cP]++cR++[cp,cq,cr,ct,cu,cv,cx,cy,cz,cA,cB,cC,cD,cE,cF,cG,cI,cJ,cK,cL]++cQ++c2++[c9,c_,da,db,dk,c1,df,dw,fZ,dA,f_,dB,dm,g5,g6,g7,g8,g9,dt,jg,jh,ji,jj,lr,oq,ou,qB,yL,yM,yN,yO])⟩
def XC(a:aZ az P aY):LK.Ok az P:=aR.bm (bk a bB 100) j
def LL:aR:=⟨93,[.agg [I J 0,.ag 1436 0 5 3 Y,Z U,I J 0,I J 0,I J 0,.ag 1448 0 9 6 Y]],17868,([ck,cl,cm,cn,cw,cH,cM,cN,cO,cP]++cR++[cp,cq,cr,ct,cu,cv,cx,cy,cz,cA,cB,cC,cD,cE,cF,cG,cI,cJ,cK,cL]++cQ++c2++[c9,c_,da,db,dk,c1,df,dw,fZ,dA,f_,dB,dm,g5,g6,g7,g8,g9,dt,jg,jh,ji,jj,lr,oq,ou,qB,yL,yM,yN,yO,L4]),(.ag 18064 0 9 1 (D 9)),18077,([ck,cl,cm,cn,cw,cH,cM,cN,cO,cP]++cR++[cp,cq,cr,ct,cu,cv,cx,cy,cz,cA,cB,cC,cD,cE,cF,cG,cI,cJ,cK,cL]++cQ++c2++[c9,c_,da,db,dk,c1,df,dw,fZ,dA,f_,dB,dm,g5,g6,g7,g8,g9,dt,jg,jh,ji,jj,lr,oq,ou,qB,yL,yM,yN,yO,L4,(18064,(.row U 1 [[.ao],[.ag 18066 0 1 1 Y],[.ag 18068 0 1 1 Y],[.ag 18072 0 2 1 Y],[.ag 18074 0 1 1 Y],[.ao],[.ag 18076 0 1 1 Y],[.ao],[.ao]])),(18066,(.row U 1 [[I J 1]])),(18068,(.row U 1 [[I J 0]])),(18072,(.row U 1 [[I J 0],[I J 2]])),(18074,(.row U 1 [[I J 3]])),(18076,(.row U 1 [[I J 4]]))])⟩
def XD(a:aZ az P aY):LL.Ok az P:=aR.bm (bk a bB 100) j
def LH:aR:=⟨45,[.agg [.ag 1080 0 1 2 Y,.ao,.ag 1479 0 2 7 Y,.ag 1461 0 1 4 Y,I J 0],I J 0],13493,([ck,cl,cm,cn,cw,cH,cM,cN,cO,cP]++cR++[cp,cq,cr,ct,cu,cv,cx,cy,cz,cA,cB,cC,cD,cE,cF,cG,cI,cJ,cK,cL]++cQ++c2++[c9,c_,da,db,dk,c1,df,dw,fZ,dA,f_,dB,dm,g5,g6,g7,g8,g9,dt,jg,jh,ji,jj,lr]),.ptr 17867 0 0,18150,([ck,cl,cm,cn,cw,cH,cM,cN,cO,cP]++cR++[cp,cq,cr,ct,cu,cv,cx,cy,cz,cA,cB,cC,cD,cE,cF,cG,cI,cJ,cK,cL]++cQ++c2++[c9,c_,da,db,dk,c1,df,dw,fZ,dA,f_,dB,dm,g5,g6,g7,g8,g9,dt,jg,jh,ji,jj,lr,ou,yL,yM,yN,yO,(17867,(.row U 12 [[.ag 1080 0 1 2 Y,.ao,.ag 1479 0 2 7 Y,.ag 1461 0 1 4 Y,I J 0,I J 0,I J 1,(.ag 17819 0 1 1 (D 1)),.ag 17838 0 9 1 Y,.ag 17864 0 1 1 Y,.ag 16179 0 1 1 Y,.ag 18149 0 9 1 Y]])),(18091,(.row U 1 [[I J 0]])),(18104,(.row U 1 [[I J 0]])),(18119,(.row U 1 [[I J 0]])),(18149,(.row U 1 [[.ao],[.ag 18091 0 1 1 Y],[.ag 18104 0 1 1 Y],[.ag 18119 0 1 1 Y],[.ao],[.ao],[.ao],[.ao],[.ao]]))])⟩
def Xz(a:aZ az P aY):∀s∈[LI,LK,LL],s.Ok az P:=by
 intro s b;simp only[List.mem_cons,List.not_mem_nil,or_false]at b;rcases b with rfl|rfl|rfl
 ·exact XB a
 ·exact XC a
 ·exact XD a
def XA(a:aZ az P aY):LH.Ok az P:=aR.bm (bk (dn a (Xz a)) jx 100) j
def LG:aR:=⟨19,[.agg [.ag 1080 0 1 2 Y,.ao,.ag 1479 0 2 7 Y,.ag 1461 0 1 4 Y,I J 0],I J 0],13492,([ck,cl,cm,cn,cw,cH,cM,cN,cO,cP]++cR++[cp,cq,cr,ct,cu,cv,cx,cy,cz,cA,cB,cC,cD,cE,cF,cG,cI,cJ,cK,cL]++cQ++c2++[c9,c_,da,db,dk,c1,df,dw,fZ,dA,f_,dB,dm,g5,g6,g7,g8,g9,dt,jg,jh,ji,jj]),(.ag 18150 0 9 1 (D 9)),20615,([ck,cl,cm,cn,cw,cH,cM,cN,cO,cP]++cR++[cp,cq,cr,ct,cu,cv,cx,cy,cz,cA,cB,cC,cD,cE,cF,cG,cI,cJ,cK,cL]++cQ++c2++[c9,c_,da,db,dk,c1,df,dw,fZ,dA,f_,dB,dm,g5,g6,g7,g8,g9,dt,jg,jh,ji,jj,(18150,(.row U 1 [[.ag 20576 0 1 1 Y],[.ag 20586 0 0 1 Y],[.ag 20596 0 0 1 Y],[.ao],[.ao],[.ao],[.ao],[.ao],[.ao]])),(20576,(.row U 1 [[I J 0]])),(20586,(.row U 1 [[I J 0]])),(20596,(.row U 1 [[I J 0]]))])⟩
def Xx(b:aZ az P aY):∀s∈[LH],s.Ok az P:=by
 intro s a;simp only[List.mem_cons,List.not_mem_nil,or_false]at a;rcases a with rfl
 ·exact XA b
def Xy(a:aZ az P aY):LG.Ok az P:=aR.bm (bk (dn a (Xx a)) oH 100) j
def LX:aR:=⟨81,[.ptr 8562 0 0,I J 0],8806,([ck,cl,cm,cn,cw,cH,cM,cN,cO,cP]++cR++[cp,cq,cr,ct,cu,cv,cx,cy,cz,cA,cB,cC,cD,cE,cF,cG,cI,cJ,cK,cL]++cQ++c2++[c9,c_,da,db,dk,c1,df,dw,(8562,(.row U 13 [[.ag 1080 0 1 2 Y,.ao,.ag 1479 0 2 7 Y,.ag 1461 0 1 4 Y,I J 0,I J 1,(.ag 3083 0 1 1 (D 1)),.ag 3102 0 9 1 Y,.ag 3128 0 1 1 Y,(.ag 5542 0 2 1 (D 2)),.ag 8561 0 2 1 Y,I J 0,I J 7]])),dA,f_,dB,dm]),(.agg [I J 0,.ag 8833 0 5 1 Y,(I J (-3)),.ao,.ag 8287 0 1 1 Y,.ag 20742 0 13 6 Y]),20743,([ck,cl,cm,cn,cw,cH,cM,cN,cO,cP]++cR++[cp,cq,cr,ct,cu,cv,cx,cy,cz,cA,cB,cC,cD,cE,cF,cG,cI,cJ,cK,cL]++cQ++c2++[c9,c_,da,db,dk,c1,df,dw,fZ,dA,f_,dB,dm,dt,fo,fp,fq])⟩
def XX(a:aZ az P aY):∀s∈[Lz,LG],s.Ok az P:=by
 intro s b;simp only[List.mem_cons,List.not_mem_nil,or_false]at b;rcases b with rfl|rfl
 ·exact Xo a
 ·exact Xy a
def XZ(a:aZ az P aY):LX.Ok az P:=aR.bm (bk (dn a (XX a)) lO 100) j
def LS:aR:=⟨78,[.agg [.ag 1080 0 1 2 Y,.ao,.ag 1479 0 2 7 Y,.ag 1461 0 1 4 Y,I J 0]],20762,([ck,cl,cm,cn,cw,cH,cM,cN,cO,cP]++cR++[cp,cq,cr,ct,cu,cv,cx,cy,cz,cA,cB,cC,cD,cE,cF,cG,cI,cJ,cK,cL]++cQ++c2++[c9,c_,da,db,dk,c1,df,dw,gq,dA,ga,dB,dm,dt,fo,fp,fq,gb,gd,g_,ha,hb,hc,hd,fH,lu,ov]),.ag 23721 0 2 1 Y,23722,([ck,cl,cm,cn,cw,cH,cM,cN,cO,cP]++cR++[cp,cq,cr,ct,cu,cv,cx,cy,cz,cA,cB,cC,cD,cE,cF,cG,cI,cJ,cK,cL]++cQ++c2++[c9,c_,da,db,dk,c1,df,dw,gq,dA,ga,dB,dm,dt,fo,fp,fq,gb,gd,g_,ha,hb,hc,hd,fH,lu,ov,qC,qD])⟩
def XM(a:aZ az P aY):LS.Ok az P:=aR.bm (bk a bB 100) j
def LU:aR:=⟨76,[.agg [.ag 1080 0 1 2 Y,.ao,.ag 1479 0 2 7 Y,.ag 1461 0 1 4 Y,I J 0]],23722,([ck,cl,cm,cn,cw,cH,cM,cN,cO,cP]++cR++[cp,cq,cr,ct,cu,cv,cx,cy,cz,cA,cB,cC,cD,cE,cF,cG,cI,cJ,cK,cL]++cQ++c2++[c9,c_,da,db,dk,c1,df,dw,gq,dA,ga,dB,dm,dt,fo,fp,fq,gb,gd,g_,ha,hb,hc,hd,fH,lu,ov,qC,qD]),(.agg [I J 1,(.ag 25087 0 1 1 (D 1)),.ag 25106 0 9 1 Y,.ag 25132 0 1 1 Y]),25135,([ck,cl,cm,cn,cw,cH,cM,cN,cO,cP]++cR++[cp,cq,cr,ct,cu,cv,cx,cy,cz,cA,cB,cC,cD,cE,cF,cG,cI,cJ,cK,cL]++cQ++c2++[c9,c_,da,db,dk,c1,df,dw,gq,dA,ga,dB,dm,dt,fo,fp,fq,gb,gd,g_,ha,hb,hc,hd,fH,lu,ov,qC,qD,yP,yQ,yR,yS])⟩
def XN(a:aZ az P aY):LU.Ok az P:=aR.bm (bk a bB 100) j
def LV:aR:=⟨93,[.agg [I J 0,.ag 1470 0 2 3 Y,Z V,I J 3,I J 0,I J 0,.ag 1477 0 4 6 Y]],25137,([ck,cl,cm,cn,cw,cH,cM,cN,cO,cP]++cR++[cp,cq,cr,ct,cu,cv,cx,cy,cz,cA,cB,cC,cD,cE,cF,cG,cI,cJ,cK,cL]++cQ++c2++[c9,c_,da,db,dk,c1,df,dw,gq,dA,ga,dB,dm,dt,fo,fp,fq,gb,gd,g_,ha,hb,hc,hd,fH,lu,ov,qC,qD,yP,yQ,yR,yS,L5,L6]),(.ag 25223 0 4 1 (D 4)),25228,([ck,cl,cm,cn,cw,cH,cM,cN,cO,cP]++cR++[cp,cq,cr,ct,cu,cv,cx,cy,cz,cA,cB,cC,cD,cE,cF,cG,cI,cJ,cK,cL]++cQ++c2++[c9,c_,da,db,dk,c1,df,dw,gq,dA,ga,dB,dm,dt,fo,fp,fq,gb,gd,g_,ha,hb,hc,hd,fH,lu,ov,qC,qD,yP,yQ,yR,yS,L5,L6,(25223,(.row U 1 [[.ao],[.ag 25225 0 1 1 Y],[.ao],[.ag 25227 0 1 1 Y]])),(25225,(.row U 1 [[I J 0]])),(25227,(.row U 1 [[I J 1]]))])⟩
def XP(a:aZ az P aY):LV.Ok az P:=aR.bm (bk a bB 100) j
def LR:aR:=⟨45,[.agg [.ag 1080 0 1 2 Y,.ao,.ag 1479 0 2 7 Y,.ag 1461 0 1 4 Y,I J 0],I J 1],20761,([ck,cl,cm,cn,cw,cH,cM,cN,cO,cP]++cR++[cp,cq,cr,ct,cu,cv,cx,cy,cz,cA,cB,cC,cD,cE,cF,cG,cI,cJ,cK,cL]++cQ++c2++[c9,c_,da,db,dk,c1,df,dw,gq,dA,ga,dB,dm,dt,fo,fp,fq,gb,gd,g_,ha,hb,hc,hd,fH,lu]),.ptr 25135 0 0,25257,([ck,cl,cm,cn,cw,cH,cM,cN,cO,cP]++cR++[cp,cq,cr,ct,cu,cv,cx,cy,cz,cA,cB,cC,cD,cE,cF,cG,cI,cJ,cK,cL]++cQ++c2++[c9,c_,da,db,dk,c1,df,dw,gq,dA,ga,dB,dm,dt,fo,fp,fq,gb,gd,g_,ha,hb,hc,hd,fH,lu,yP,yQ,yR,yS,(25135,(.row U 12 [[.ag 1080 0 1 2 Y,.ao,.ag 1479 0 2 7 Y,.ag 1461 0 1 4 Y,I J 0,I J 1,I J 1,(.ag 25087 0 1 1 (D 1)),.ag 25106 0 9 1 Y,.ag 25132 0 1 1 Y,.ao,.ag 25256 0 4 1 Y]])),jl,jm])⟩
def XK(a:aZ az P aY):∀s∈[LS,LU,LV],s.Ok az P:=by
 intro s b;simp only[List.mem_cons,List.not_mem_nil,or_false]at b;rcases b with rfl|rfl|rfl
 ·exact XM a
 ·exact XN a
 ·exact XP a
def XL(a:aZ az P aY):LR.Ok az P:=aR.bm (bk (dn a (XK a)) jx 100) j
def LQ:aR:=⟨16,[.agg [.ag 1080 0 1 2 Y,.ao,.ag 1479 0 2 7 Y,.ag 1461 0 1 4 Y,I J 0],I J 1],20760,([ck,cl,cm,cn,cw,cH,cM,cN,cO,cP]++cR++[cp,cq,cr,ct,cu,cv,cx,cy,cz,cA,cB,cC,cD,cE,cF,cG,cI,cJ,cK,cL]++cQ++c2++[c9,c_,da,db,dk,c1,df,dw,gq,dA,ga,dB,dm,dt,fo,fp,fq,gb,gd,g_,ha,hb,hc,hd,fH]),.ag 25256 0 4 1 Y,25257,([ck,cl,cm,cn,cw,cH,cM,cN,cO,cP]++cR++[cp,cq,cr,ct,cu,cv,cx,cy,cz,cA,cB,cC,cD,cE,cF,cG,cI,cJ,cK,cL]++cQ++c2++[c9,c_,da,db,dk,c1,df,dw,gq,dA,ga,dB,dm,dt,fo,fp,fq,gb,gd,g_,ha,hb,hc,hd,fH,jl,jm])⟩
def XI(b:aZ az P aY):∀s∈[LR],s.Ok az P:=by
 intro s a;simp only[List.mem_cons,List.not_mem_nil,or_false]at a;rcases a with rfl
 ·exact XL b
def XJ(a:aZ az P aY):LQ.Ok az P:=aR.bm (bk (dn a (XI a)) oG 100) j
def LZ:aR:=⟨78,[.agg [.ag 1080 0 1 2 Y,.ao,.ag 1479 0 2 7 Y,.ag 1461 0 1 4 Y,I J 0]],25259,([ck,cl,cm,cn,cw,cH,cM,cN,cO,cP]++cR++[cp,cq,cr,ct,cu,cv,cx,cy,cz,cA,cB,cC,cD,cE,cF,cG,cI,cJ,cK,cL]++cQ++c2++[c9,c_,da,db,dk,c1,df,dw,gq,dA,ga,dB,dm,dt,fo,fp,fq,gb,gd,g_,ha,hb,hc,hd,fH,jl,jm,lv,ow]),.ag 28218 0 2 1 Y,28219,([ck,cl,cm,cn,cw,cH,cM,cN,cO,cP]++cR++[cp,cq,cr,ct,cu,cv,cx,cy,cz,cA,cB,cC,cD,cE,cF,cG,cI,cJ,cK,cL]++cQ++c2++[c9,c_,da,db,dk,c1,df,dw,gq,dA,ga,dB,dm,dt,fo,fp,fq,gb,gd,g_,ha,hb,hc,hd,fH,jl,jm,lv,ow,qE,qF])⟩
def XU(a:aZ az P aY):LZ.Ok az P:=aR.bm (bk a bB 100) j
def L0:aR:=⟨76,[.agg [.ag 1080 0 1 2 Y,.ao,.ag 1479 0 2 7 Y,.ag 1461 0 1 4 Y,I J 0]],28219,([ck,cl,cm,cn,cw,cH,cM,cN,cO,cP]++cR++[cp,cq,cr,ct,cu,cv,cx,cy,cz,cA,cB,cC,cD,cE,cF,cG,cI,cJ,cK,cL]++cQ++c2++[c9,c_,da,db,dk,c1,df,dw,gq,dA,ga,dB,dm,dt,fo,fp,fq,gb,gd,g_,ha,hb,hc,hd,fH,jl,jm,lv,ow,qE,qF]),(.agg [I J 1,(.ag 29584 0 1 1 (D 1)),.ag 29603 0 9 1 Y,.ag 29629 0 1 1 Y]),29632,([ck,cl,cm,cn,cw,cH,cM,cN,cO,cP]++cR++[cp,cq,cr,ct,cu,cv,cx,cy,cz,cA,cB,cC,cD,cE,cF,cG,cI,cJ,cK,cL]++cQ++c2++[c9,c_,da,db,dk,c1,df,dw,gq,dA,ga,dB,dm,dt,fo,fp,fq,gb,gd,g_,ha,hb,hc,hd,fH,jl,jm,lv,ow,qE,qF,yT,yU,yV,yW])⟩
def XV(a:aZ az P aY):L0.Ok az P:=aR.bm (bk a bB 100) j
def L1:aR:=⟨93,[.agg [I J 0,.ag 1470 0 2 3 Y,Z V,I J 3,I J 0,I J 0,.ag 1477 0 4 6 Y]],29634,([ck,cl,cm,cn,cw,cH,cM,cN,cO,cP]++cR++[cp,cq,cr,ct,cu,cv,cx,cy,cz,cA,cB,cC,cD,cE,cF,cG,cI,cJ,cK,cL]++cQ++c2++[c9,c_,da,db,dk,c1,df,dw,gq,dA,ga,dB,dm,dt,fo,fp,fq,gb,gd,g_,ha,hb,hc,hd,fH,jl,jm,lv,ow,qE,qF,yT,yU,yV,yW,L7,L8]),(.ag 29720 0 4 1 (D 4)),29725,([ck,cl,cm,cn,cw,cH,cM,cN,cO,cP]++cR++[cp,cq,cr,ct,cu,cv,cx,cy,cz,cA,cB,cC,cD,cE,cF,cG,cI,cJ,cK,cL]++cQ++c2++[c9,c_,da,db,dk,c1,df,dw,gq,dA,ga,dB,dm,dt,fo,fp,fq,gb,gd,g_,ha,hb,hc,hd,fH,jl,jm,lv,ow,qE,qF,yT,yU,yV,yW,L7,L8,(29720,(.row U 1 [[.ao],[.ag 29722 0 1 1 Y],[.ao],[.ag 29724 0 1 1 Y]])),(29722,(.row U 1 [[I J 0]])),(29724,(.row U 1 [[I J 1]]))])⟩
def XW(a:aZ az P aY):L1.Ok az P:=aR.bm (bk a bB 100) j
def LY:aR:=⟨45,[.agg [.ag 1080 0 1 2 Y,.ao,.ag 1479 0 2 7 Y,.ag 1461 0 1 4 Y,I J 0],I J 1],25258,([ck,cl,cm,cn,cw,cH,cM,cN,cO,cP]++cR++[cp,cq,cr,ct,cu,cv,cx,cy,cz,cA,cB,cC,cD,cE,cF,cG,cI,cJ,cK,cL]++cQ++c2++[c9,c_,da,db,dk,c1,df,dw,gq,dA,ga,dB,dm,dt,fo,fp,fq,gb,gd,g_,ha,hb,hc,hd,fH,jl,jm,lv]),.ptr 29632 0 0,29754,([ck,cl,cm,cn,cw,cH,cM,cN,cO,cP]++cR++[cp,cq,cr,ct,cu,cv,cx,cy,cz,cA,cB,cC,cD,cE,cF,cG,cI,cJ,cK,cL]++cQ++c2++[c9,c_,da,db,dk,c1,df,dw,gq,dA,ga,dB,dm,dt,fo,fp,fq,gb,gd,g_,ha,hb,hc,hd,fH,jl,jm,lv,yT,yU,yV,yW,(29632,(.row U 12 [[.ag 1080 0 1 2 Y,.ao,.ag 1479 0 2 7 Y,.ag 1461 0 1 4 Y,I J 0,I J 1,I J 1,(.ag 29584 0 1 1 (D 1)),.ag 29603 0 9 1 Y,.ag 29629 0 1 1 Y,.ao,.ag 29753 0 4 1 Y]])),(29739,(.row U 1 [[I J 0]])),(29753,(.row U 1 [[.ao],[.ag 29739 0 0 1 Y],[.ao],[.ao]]))])⟩
def XS(a:aZ az P aY):∀s∈[LZ,L0,L1],s.Ok az P:=by
 intro s b;simp only[List.mem_cons,List.not_mem_nil,or_false]at b;rcases b with rfl|rfl|rfl
 ·exact XU a
 ·exact XV a
 ·exact XW a
def XT(a:aZ az P aY):LY.Ok az P:=aR.bm (bk (dn a (XS a)) jx 100) j
def LW:aR:=⟨19,[.agg [.ag 1080 0 1 2 Y,.ao,.ag 1479 0 2 7 Y,.ag 1461 0 1 4 Y,I J 0],I J 1],25257,([ck,cl,cm,cn,cw,cH,cM,cN,cO,cP]++cR++[cp,cq,cr,ct,cu,cv,cx,cy,cz,cA,cB,cC,cD,cE,cF,cG,cI,cJ,cK,cL]++cQ++c2++[c9,c_,da,db,dk,c1,df,dw,gq,dA,ga,dB,dm,dt,fo,fp,fq,gb,gd,g_,ha,hb,hc,hd,fH,jl,jm]),(.ag 29754 0 4 1 (D 4)),29778,([ck,cl,cm,cn,cw,cH,cM,cN,cO,cP]++cR++[cp,cq,cr,ct,cu,cv,cx,cy,cz,cA,cB,cC,cD,cE,cF,cG,cI,cJ,cK,cL]++cQ++c2++[c9,c_,da,db,dk,c1,df,dw,gq,dA,ga,dB,dm,dt,fo,fp,fq,gb,gd,g_,ha,hb,hc,hd,fH,jl,jm,(29754,(.row U 1 [[.ao],[.ao],[.ao],[.ao]]))])⟩
def XQ(b:aZ az P aY):∀s∈[LY],s.Ok az P:=by
 intro s a;simp only[List.mem_cons,List.not_mem_nil,or_false]at a;rcases a with rfl
 ·exact XT b
def XR(a:aZ az P aY):LW.Ok az P:=aR.bm (bk (dn a (XQ a)) oH 100) j
def LP:aR:=⟨81,[.ptr 8562 0 0,I J 1],20745,([ck,cl,cm,cn,cw,cH,cM,cN,cO,cP]++cR++[cp,cq,cr,ct,cu,cv,cx,cy,cz,cA,cB,cC,cD,cE,cF,cG,cI,cJ,cK,cL]++cQ++c2++[c9,c_,da,db,dk,c1,df,dw,fZ,dA,ga,dB,dm,dt,fo,fp,fq,gb,gd]),.agg [I J 0,.ag 20757 0 2 1 Y,I J 0,.ag 5601 0 1 1 Y,.ao,.ag 29812 0 4 6 Y],29813,([ck,cl,cm,cn,cw,cH,cM,cN,cO,cP]++cR++[cp,cq,cr,ct,cu,cv,cx,cy,cz,cA,cB,cC,cD,cE,cF,cG,cI,cJ,cK,cL]++cQ++c2++[c9,c_,da,db,dk,c1,df,dw,gq,dA,ga,dB,dm,dt,fo,fp,fq,gb,gd,fH,yX])⟩
def XG(a:aZ az P aY):∀s∈[LQ,LW],s.Ok az P:=by
 intro s b;simp only[List.mem_cons,List.not_mem_nil,or_false]at b;rcases b with rfl|rfl
 ·exact XJ a
 ·exact XR a
def XH(a:aZ az P aY):LP.Ok az P:=aR.bm (bk (dn a (XG a)) lO 100) j
def LF:aR:=⟨37,[.agg [.ag 1080 0 1 2 Y,.ao,.ag 1479 0 2 7 Y,.ag 1461 0 1 4 Y,I J 0]],1482,([ck,cl,cm,cn,cw,cH,cM,cN,cO,cP]++cR++[cp,cq,cr,ct,cu,cv,cx,cy,cz,cA,cB,cC,cD,cE,cF,cG,cI,cJ,cK,cL]++cQ++[(79,(.row U 1 [])),kn,ko,kp,kq,kr,ks,kt,ku,kv,(89,(.row U 1 [])),(90,(.row U 1 [])),kx,mM,Ej,Ek,Ed,Ee,Ef,Eg,Eh,qz]),.agg [.ag 8805 0 1 2 Y,.ao,.ag 29814 0 2 6 Y,I J 0],29815,([ck,cl,cm,cn,cw,cH,cM,cN,cO,cP]++cR++[cp,cq,cr,ct,cu,cv,cx,cy,cz,cA,cB,cC,cD,cE,cF,cG,cI,cJ,cK,cL]++cQ++[(79,(.row U 1 [])),kn,ko,kp,kq,kr,ks,kt,ku,kv,(89,(.row U 1 [])),(90,(.row U 1 [])),kx,mM,qz,c1,df,dm,dt,fo,fp,fq,fH,yX,Ei])⟩
def Xv(a:aZ az P aY):∀s∈[LJ,LN,LO,LX,LP],s.Ok az P:=by
 intro s b;simp only[List.mem_cons,List.not_mem_nil,or_false]at b;rcases b with rfl|rfl|rfl|rfl|rfl
 ·exact XE a
 ·exact XF a
 ·exact XO a
 ·exact XZ a
 ·exact XH a
def Xw(a:aZ az P aY):LF.Ok az P:=aR.bm (bk (dn a (Xv a)) mT 100) j
def L2:aR:=⟨39,[],29843,([ck,cl,cm,cn,cw,cH,cM,cN,cO,cP]++cR++[cp,cq,cr,ct,cu,cv,cx,cy,cz,cA,cB,cC,cD,cE,cF,cG,cI,cJ,cK,cL]++cQ++[(79,(.row U 1 [])),kn,ko,kp,kq,kr,ks,kt,ku,kv,(89,(.row U 1 [])),(90,(.row U 1 [])),kx,mM,qz,c1,df,dm,dt,fo,fp,fq,fH,yX,Ei,L9]),Z V,29843,([ck,cl,cm,cn,cw,cH,cM,cN,cO,cP]++cR++[cp,cq,cr,ct,cu,cv,cx,cy,cz,cA,cB,cC,cD,cE,cF,cG,cI,cJ,cK,cL]++cQ++[(79,(.row U 1 [])),kn,ko,kp,kq,kr,ks,kt,ku,kv,(89,(.row U 1 [])),(90,(.row U 1 [])),kx,mM,qz,c1,df,dm,dt,fo,fp,fq,fH,yX,Ei,L9])⟩
def X0(a:aZ az P aY):L2.Ok az P:=nW a _
def X1(a:aZ az P aY):∀s∈[Lx,Ly,LF,L2],s.Ok az P:=by
 intro s b;simp only[List.mem_cons,List.not_mem_nil,or_false]at b;rcases b with rfl|rfl|rfl|rfl
 ·exact Xm a
 ·exact Xu a
 ·exact Xw a
 ·exact X0 a
def X2(a:aZ az P aY)(H:af):eM az P 12 [I J 3] H (Z V) H:=by
 obtain⟨bh,c⟩:=mE (b:=true) (m:=9) (f:=12) (args:=[I J 3]) (H:=af.empty) (dn a (X1 a)) oF j;exact nI c H

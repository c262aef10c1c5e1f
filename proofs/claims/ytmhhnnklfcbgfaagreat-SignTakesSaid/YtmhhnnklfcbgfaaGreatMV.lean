/-
  Texts of one proof, laid together: Kv.
-/
import Derived.Test.YtmhhnnklfcbgfaaGreatMU
set_option linter.unusedVariables false
set_option linter.unusedSimpArgs false
set_option linter.defProp false
open Option renaming some→A,none→Z
open Bool renaming true→J,false→I
open Go.cv.af renaming int→D,str→X,bool→C
open Go.IntKind renaming i64→F
namespace Go.Proofs.YtmhhnnklfcbgfaaGreat
open Go.cv
set_option maxRecDepth 1000000
def Om:List af:=[X [114,101,99,111,114,100,32,82,32,123,32,110,58,32,82,59,32,125,32,102,117,110,99,32,102,40,114,58,32,82,41,58,32,82,32,123,32,114,101,116,117,114,110,32,114,46,110,59,32,125,32,102,117,110,99,32,109,97,105,110,40,41,32,123,32,108,101,116,32,97,58,32,82,32,61,32,110,101,119,32,82,59,32,97,46,110,32,61,32,110,101,119,32,82,59,32,108,101,116,32,98,58,32,82,32,61,32,102,40,97,41,59,32,105,102,32,98,32,61,61,32,110,117,108,108,32,82,32,123,32,112,114,105,110,116,32,49,59,32,125,32,112,114,105,110,116,32,50,59,32,125]]
def Ag:Nat×bA:=(0,(.row I 3 [[.aq,.aq,.aq]]))
def Ah:Nat×bA:=(1,(.row I 2 [[D F 0,D F 0]]))
def FR:Nat×bA:=(364,(.row I 4 [[D F 3,X [114,101,99,111,114,100],D F 0,D F 0],[D F 1,X [82],D F 0,D F 7],[D F 4,X [123],D F 0,D F 9],[D F 1,X [110],D F 0,D F 11],[D F 4,X [58],D F 0,D F 12],[D F 1,X [82],D F 0,D F 14],[D F 4,X [59],D F 0,D F 15],[D F 4,X [125],D F 0,D F 17],[D F 3,X [102,117,110,99],D F 0,D F 19],[D F 1,X [102],D F 0,D F 24],[D F 4,X [40],D F 0,D F 25],[D F 1,X [114],D F 0,D F 26],[D F 4,X [58],D F 0,D F 27],[D F 1,X [82],D F 0,D F 29],[D F 4,X [41],D F 0,D F 30],[D F 4,X [58],D F 0,D F 31],[D F 1,X [82],D F 0,D F 33],[D F 4,X [123],D F 0,D F 35],[D F 3,X [114,101,116,117,114,110],D F 0,D F 37],[D F 1,X [114],D F 0,D F 44],[D F 4,X [46],D F 0,D F 45],[D F 1,X [110],D F 0,D F 46],[D F 4,X [59],D F 0,D F 47],[D F 4,X [125],D F 0,D F 49],[D F 3,X [102,117,110,99],D F 0,D F 51],[D F 1,X [109,97,105,110],D F 0,D F 56],[D F 4,X [40],D F 0,D F 60],[D F 4,X [41],D F 0,D F 61],[D F 4,X [123],D F 0,D F 63],[D F 3,X [108,101,116],D F 0,D F 65],[D F 1,X [97],D F 0,D F 69],[D F 4,X [58],D F 0,D F 70],[D F 1,X [82],D F 0,D F 72],[D F 4,X [61],D F 0,D F 74],[D F 3,X [110,101,119],D F 0,D F 76],[D F 1,X [82],D F 0,D F 80],[D F 4,X [59],D F 0,D F 81],[D F 1,X [97],D F 0,D F 83],[D F 4,X [46],D F 0,D F 84],[D F 1,X [110],D F 0,D F 85],[D F 4,X [61],D F 0,D F 87],[D F 3,X [110,101,119],D F 0,D F 89],[D F 1,X [82],D F 0,D F 93],[D F 4,X [59],D F 0,D F 94],[D F 3,X [108,101,116],D F 0,D F 96],[D F 1,X [98],D F 0,D F 100],[D F 4,X [58],D F 0,D F 101],[D F 1,X [82],D F 0,D F 103],[D F 4,X [61],D F 0,D F 105],[D F 1,X [102],D F 0,D F 107],[D F 4,X [40],D F 0,D F 108],[D F 1,X [97],D F 0,D F 109],[D F 4,X [41],D F 0,D F 110],[D F 4,X [59],D F 0,D F 111],[D F 3,X [105,102],D F 0,D F 113],[D F 1,X [98],D F 0,D F 116],[D F 4,X [61,61],D F 0,D F 118],[D F 3,X [110,117,108,108],D F 0,D F 121],[D F 1,X [82],D F 0,D F 126],[D F 4,X [123],D F 0,D F 128],[D F 3,X [112,114,105,110,116],D F 0,D F 130],[D F 2,X [],D F 1,D F 136],[D F 4,X [59],D F 0,D F 137],[D F 4,X [125],D F 0,D F 139],[D F 3,X [112,114,105,110,116],D F 0,D F 141],[D F 2,X [],D F 2,D F 147],[D F 4,X [59],D F 0,D F 148],[D F 4,X [125],D F 0,D F 150],[D F 0,X [],D F 0,D F 151]]))
def Ot:Nat×bA:=(365,(.row I 2 [[D F 0,D F 0]]))
def Ou:Nat×bA:=(367,(.row I 3 [[.az 413 0 1 3 Z,.aq,.az 630 0 1 7 Z]]))
def Ak:Nat×bA:=(405,(.row I 4 [[X [110],X [82],D F 0,D F 11]]))
def Ov:Nat×bA:=(412,(.row I 3 [[X [82],.az 405 0 1 4 Z,D F 7]]))
def Al:Nat×bA:=(413,(.row I 3 [[X [82],.az 405 0 1 4 Z,D F 7]]))
def Am:Nat×bA:=(455,(.row I 4 [[X [114],X [82],D F 0,D F 26]]))
def An:Nat×bA:=(540,(.row I 11 [[D F 4,D F 0,X [114],X [],D F 0,.aq,D F 44,D F 0,D F 0,D F 0,D F 0]]))
def Ai:Nat×bA:=(620,(.row I 11 [[D F 5,D F 0,X [110],X [],D F 0,(.az 540 0 1 11 (A 1)),D F 45,D F 0,D F 0,D F 0,D F 0]]))
def Aj:Nat×bA:=(624,(.row I 9 [[D F 7,X [],X [],D F 0,(.az 620 0 1 11 (A 1)),.aq,.aq,D F 37,D F 0]]))
def On:Nat×bA:=(629,(.row I 7 [[X [102],.az 455 0 1 4 Z,C J,X [82],D F 0,.az 624 0 1 9 Z,D F 24]]))
def Oo:Nat×bA:=(630,(.row I 7 [[X [102],.az 455 0 1 4 Z,C J,X [82],D F 0,.az 624 0 1 9 Z,D F 24]]))
def FL:Nat×bA:=(797,(.row I 11 [[D F 8,D F 0,X [],X [82],D F 0,.aq,D F 76,D F 0,D F 0,D F 0,D F 0]]))
def FM:Nat×bA:=(866,(.row I 11 [[D F 4,D F 0,X [97],X [],D F 0,.aq,D F 83,D F 0,D F 0,D F 0,D F 0]]))
def FN:Nat×bA:=(1064,(.row I 11 [[D F 5,D F 0,X [110],X [],D F 0,(.az 866 0 1 11 (A 1)),D F 84,D F 0,D F 0,D F 0,D F 0],[D F 8,D F 0,X [],X [82],D F 0,.aq,D F 89,D F 0,D F 0,D F 0,D F 0]]))
def FO:Nat×bA:=(1249,(.row I 11 [[D F 4,D F 0,X [97],X [],D F 0,.aq,D F 109,D F 0,D F 0,D F 0,D F 0]]))
def FP:Nat×bA:=(1335,(.row I 11 [[D F 7,D F 0,X [102],X [],D F 0,.az 1249 0 1 11 Z,D F 107,D F 0,D F 0,D F 0,D F 0]]))
def FQ:Nat×bA:=(1518,(.row I 11 [[D F 4,D F 0,X [98],X [],D F 0,.aq,D F 116,D F 0,D F 0,D F 0,D F 0],[D F 3,D F 0,X [],X [82],D F 0,.aq,D F 121,D F 0,D F 0,D F 0,D F 0]]))
def FT:Nat×bA:=(1563,(.row I 11 [[D F 21,D F 0,X [],X [],D F 0,(.az 1518 0 2 11 (A 2)),D F 118,D F 0,D F 0,D F 0,D F 0]]))
def FU:Nat×bA:=(1683,(.row I 11 [[D F 1,D F 1,X [],X [],D F 0,.aq,D F 136,D F 0,D F 0,D F 0,D F 0]]))
def FV:Nat×bA:=(1687,(.row I 9 [[D F 8,X [],X [],D F 0,(.az 1683 0 1 11 (A 1)),.aq,.aq,D F 130,D F 0]]))
def FW:Nat×bA:=(1811,(.row I 11 [[D F 1,D F 2,X [],X [],D F 0,.aq,D F 147,D F 0,D F 0,D F 0,D F 0]]))
def FX:Nat×bA:=(1815,(.row I 9 [[D F 2,X [97],X [82],D F 0,(.az 797 0 1 11 (A 1)),.aq,.aq,D F 65,D F 0],[D F 4,X [],X [],D F 0,(.az 1064 0 2 11 (A 2)),.aq,.aq,D F 83,D F 0],[D F 2,X [98],X [82],D F 0,(.az 1335 0 1 11 (A 1)),.aq,.aq,D F 96,D F 0],[D F 5,X [],X [],D F 0,(.az 1563 0 1 11 (A 1)),.az 1687 0 1 9 Z,.aq,D F 113,D F 0],[D F 8,X [],X [],D F 0,(.az 1811 0 1 11 (A 1)),.aq,.aq,D F 141,D F 0]]))
def Oq:Nat×bA:=(1821,(.row I 7 [[X [102],.az 455 0 1 4 Z,C J,X [82],D F 0,.az 624 0 1 9 Z,D F 24],[X [109,97,105,110],.aq,C I,X [],D F 0,.az 1815 0 5 9 Z,D F 56]]))
def mR:Nat×bA:=(1843,(.row I 4 [[X [110],D F 3,D F 0,D F 0]]))
def mS:Nat×bA:=(1846,(.row I 2 [[X [82],.az 1843 0 1 4 Z]]))
def mT:Nat×bA:=(2411,(.row I 3 [[D F 3,D F 0,D F 0],[D F 3,D F 0,D F 0],[D F 3,D F 0,D F 0]]))
def mU:Nat×bA:=(2418,(.row I 6 [[D F 6,D F 1,D F 0,D F 0,D F 0,.aq],[D F 18,D F 1,D F 0,D F 0,D F 0,.aq],[D F 2,D F 2,D F 0,D F 0,D F 0,.aq],[D F 18,D F 2,D F 0,D F 0,D F 0,.aq]]))
def mV:Nat×bA:=(2454,(.row I 4 [[D F 1,D F 3,D F 0,D F 0],[D F 1,D F 3,D F 0,D F 0]]))
def mW:Nat×bA:=(2465,(.row I 1 [[D F 0]]))
def mX:Nat×bA:=(2516,(.row I 3 [[D F 3,D F 0,D F 0],[D F 3,D F 0,D F 0],[D F 3,D F 0,D F 0],[D F 3,D F 0,D F 0],[D F 3,D F 0,D F 0],[D F 3,D F 0,D F 0],[D F 2,D F 0,D F 0],[D F 1,D F 0,D F 0],[D F 1,D F 0,D F 0]]))
def mY:Nat×bA:=(2525,(.row I 6 [[D F 11,D F 2,D F 0,D F 0,D F 0,.aq],[D F 3,D F 0,D F 2,D F 0,D F 0,.aq],[D F 11,D F 3,D F 0,D F 0,D F 1,.aq],[D F 7,D F 0,D F 3,D F 0,D F 0,.aq],[D F 13,D F 4,D F 0,D F 0,D F 0,.az 2465 0 1 1 Z],[D F 3,D F 1,D F 4,D F 0,D F 0,.aq],[D F 2,D F 5,D F 0,D F 0,D F 0,.aq],[D F 4,D F 6,D F 1,D F 5,D F 21,.aq],[D F 17,D F 6,D F 0,D F 12,D F 9,.aq],[D F 1,D F 7,D F 0,D F 0,D F 1,.aq],[D F 15,D F 7,D F 0,D F 0,D F 0,.aq],[D F 16,D F 0,D F 0,D F 0,D F 12,.aq],[D F 1,D F 8,D F 0,D F 0,D F 2,.aq],[D F 15,D F 8,D F 0,D F 0,D F 0,.aq],[D F 18,(D F (-1)),D F 0,D F 0,D F 0,.aq]]))
def mZ:Nat×bA:=(2527,(.row I 7 [[D F 1,.az 2411 0 3 3 Z,C J,D F 3,D F 0,D F 0,.az 2418 0 4 6 Z],[D F 0,.az 2516 0 9 3 Z,C I,D F 0,D F 0,D F 0,.az 2525 0 15 6 Z]]))
def nL:Nat×bA:=(2528,(.row I 5 [[.az 1846 0 1 2 Z,.aq,.az 2527 0 2 7 Z,.az 2454 0 2 4 Z,D F 1]]))
def Od:gY:=⟨58,Om,2,[Ag,Ah],(.tuple [.az 364 0 69 4 Z,.agg [D F 0,D F 0]]),365,[Ag,Ah,FR]⟩
def Oe:gY:=⟨66,[.ptr 366 0 0],644,[Ag,Ah,FR,Ot,(366,(.row I 5 [[.az 364 0 69 4 Z,D F 25,D F 0,D F 0,D F 0]])),Ou,Ak,Ov,Al,Am,An,Ai,Aj,On,Oo],(.agg [X [109,97,105,110],.aq,C I,X [],D F 0,.az 1815 0 5 9 Z,D F 56]),1820,[Ag,Ah,FR,Ot,(366,(.row I 5 [[.az 364 0 69 4 Z,D F 68,D F 0,D F 0,D F 0]])),Ou,Ak,Ov,Al,Am,An,Ai,Aj,On,Oo,FL,FM,FN,FO,FP,FQ,FT,FU,FV,FW,FX]⟩
def Oc:gY:=⟨33,Om,0,[],(.tuple [.agg [.az 413 0 1 3 Z,.aq,.az 1821 0 2 7 Z],.agg [D F 0,D F 0]]),1823,[Ak,Al,Am,An,Ai,Aj,FL,FM,FN,FO,FP,FQ,FT,FU,FV,FW,FX,Oq]⟩
def Of:gY:=⟨34,[.agg [.az 413 0 1 3 Z,.aq,.az 1821 0 2 7 Z]],1825,[Ak,Al,Am,An,Ai,Aj,FL,FM,FN,FO,FP,FQ,FT,FU,FV,FW,FX,Oq],(.tuple [.agg [.az 1846 0 1 2 Z,.aq,.az 2527 0 2 7 Z,.az 2454 0 2 4 Z,D F 1],.agg [D F 0,D F 0]]),2528,[mR,mS,mT,mU,mV,mW,mX,mY,mZ]⟩
def Og:gY:=⟨11,[.agg [.az 1846 0 1 2 Z,.aq,.az 2527 0 2 7 Z,.az 2454 0 2 4 Z,D F 1]],2530,[mR,mS,mT,mU,mV,mW,mX,mY,mZ,nL],(.agg [D F 2,(.az 4695 0 2 1 (A 2)),.az 4724 0 14 1 Z,.az 4777 0 2 1 Z]),4780,[mR,mS,mT,mU,mV,mW,mX,mY,mZ,nL,(4695,(.row I 1 [[D F 0],[D F 1]])),(4724,(.row I 1 [[D F 0],[D F 1],[(D F (-1))],[D F 0],[D F 1],[D F 0],[D F 1],[D F 1],[(D F (-1))],[(D F (-1))],[(D F (-1))],[(D F (-1))],[D F 1],[(D F (-1))]])),(4749,(.row I 1 [[D F 1],[(D F (-1))],[(D F (-1))],[(D F (-1))],[(D F (-1))],[(D F (-1))],[(D F (-1))],[(D F (-1))]])),(4775,(.row I 1 [[(D F (-1))],[(D F (-1))],[(D F (-1))],[(D F (-1))],[(D F (-1))],[(D F (-1))],[(D F (-1))],[(D F (-1))]])),(4777,(.row I 1 [[.az 4749 0 8 1 Z],[.az 4775 0 8 1 Z]]))]⟩
def Oh:gY:=⟨22,[.agg [.az 1846 0 1 2 Z,.aq,.az 2527 0 2 7 Z,.az 2454 0 2 4 Z,D F 1],D F 0],4781,[mR,mS,mT,mU,mV,mW,mX,mY,mZ,nL],.az 7785 0 2 1 Z,8531,[mR,mS,mT,mU,mV,mW,mX,mY,mZ,nL,(7785,(.row I 1 [[D F 0],[D F 1]]))]⟩
def Oi:gY:=⟨20,[.agg [.az 1846 0 1 2 Z,.aq,.az 2527 0 2 7 Z,.az 2454 0 2 4 Z,D F 1]],8532,[mR,mS,mT,mU,mV,mW,mX,mY,mZ,nL],.az 13111 0 2 1 Z,13112,[mR,mS,mT,mU,mV,mW,mX,mY,mZ,nL,(13109,(.row I 1 [[D F 0],[D F 1]])),(13111,(.row I 1 [[.aq],[.az 13109 0 2 1 Z]]))]⟩
def Oj:gY:=⟨18,[.agg [.az 1846 0 1 2 Z,.aq,.az 2527 0 2 7 Z,.az 2454 0 2 4 Z,D F 1]],13115,[mR,mS,mT,mU,mV,mW,mX,mY,mZ,nL],(.az 16865 0 2 1 (A 2)),16908,[mR,mS,mT,mU,mV,mW,mX,mY,mZ,nL,(16865,(.row I 1 [[.aq],[.aq]]))]⟩
def Ol:gY:=⟨14,[.agg [.az 1846 0 1 2 Z,.aq,.az 2527 0 2 7 Z,.az 2454 0 2 4 Z,D F 1]],16911,[mR,mS,mT,mU,mV,mW,mX,mY,mZ,nL],.aq,20661,[mR,mS,mT,mU,mV,mW,mX,mY,mZ,nL]⟩
def abx(a:e_ E0 P aD):Od.Ok E0 P:=gY.oS (pJ a tg 100) aG
def aby(a:e_ E0 P aD):Oe.Ok E0 P:=gY.oS (vh (N:=100000) lC a 100) aG
def abG(a:e_ E0 P aD):∀s∈[Od,Oe],s.Ok E0 P:=by
 intro s b;simp only[List.mem_cons,List.not_mem_nil,or_false]at b;rcases b with rfl|rfl
 ·exact abx a
 ·exact aby a
def abw(a:e_ E0 P aD):Oc.Ok E0 P:=gY.oS (vh (N:=100000) lC (Jw a (abG a)) 100) aG
def abz(a:e_ E0 P aD):Of.Ok E0 P:=gY.oS (vh (N:=100000) lC a 100) aG
def abA(a:e_ E0 P aD):Og.Ok E0 P:=gY.oS (pJ a tg 100) aG
def abB(a:e_ E0 P aD):Oh.Ok E0 P:=gY.oS (pJ a tg 100) aG
def abC(a:e_ E0 P aD):Oi.Ok E0 P:=gY.oS (pJ a tg 100) aG
def abD(a:e_ E0 P aD):Oj.Ok E0 P:=gY.oS (pJ a tg 100) aG
def abE(a:e_ E0 P aD):Ol.Ok E0 P:=gY.oS (pJ a tg 100) aG
def abF(a:e_ E0 P aD):∀s∈[Oc,Of,Og,Oh,Oi,Oj,Ol],s.Ok E0 P:=by
 intro s b;simp only[List.mem_cons,List.not_mem_nil,or_false]at b;rcases b with rfl|rfl|rfl|rfl|rfl|rfl|rfl
 ·exact abw a
 ·exact abz a
 ·exact abA a
 ·exact abB a
 ·exact abC a
 ·exact abD a
 ·exact abE a
def abH(a:e_ E0 P aD)(H:ae):hE E0 P 16 [] H (C J) H:=by
 obtain⟨H0,c⟩:=WY (b:=true) (m:=5) (f:=16) (args:=[]) (H:=ae.empty) (Jw a (abF a)) abv aG;exact Wi c H

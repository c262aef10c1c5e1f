/-
  Texts of one proof, laid together: Kv.
-/
import Derived.Test.YtmhhnnklfcbgfaaGreatMX
set_option linter.unusedVariables false
set_option linter.unusedSimpArgs false
set_option linter.defProp false
open Option renaming some→D,none→I
open Bool renaming true→C,false→Z
open Go.bo.aa renaming int→J,str→F,bool→y
open Go.IntKind renaming i64→X
namespace Go.Proofs.YtmhhnnklfcbgfaaGreat
open Go.bo
set_option maxRecDepth 1000000
def ER:List aa:=[F [114,101,99,111,114,100,32,82,32,123,32,110,58,32,82,59,32,125,32,102,117,110,99,32,102,40,114,58,32,82,41,58,32,82,32,123,32,114,101,116,117,114,110,32,114,46,110,59,32,125,32,102,117,110,99,32,109,97,105,110,40,41,32,123,32,108,101,116,32,97,58,32,82,32,61,32,110,101,119,32,82,59,32,97,46,110,32,61,32,110,101,119,32,82,59,32,108,101,116,32,98,58,32,82,32,61,32,102,40,97,41,59,32,105,102,32,98,32,61,61,32,110,117,108,108,32,82,32,123,32,112,114,105,110,116,32,49,59,32,125,32,112,114,105,110,116,32,50,59,32,125]]
def wz:Nat×bL:=(0,(.row Z 3 [[.aB,.aB,.aB]]))
def wA:Nat×bL:=(1,(.row Z 2 [[J X 0,J X 0]]))
def zV:Nat×bL:=(364,(.row Z 4 [[J X 3,F [114,101,99,111,114,100],J X 0,J X 0],[J X 1,F [82],J X 0,J X 7],[J X 4,F [123],J X 0,J X 9],[J X 1,F [110],J X 0,J X 11],[J X 4,F [58],J X 0,J X 12],[J X 1,F [82],J X 0,J X 14],[J X 4,F [59],J X 0,J X 15],[J X 4,F [125],J X 0,J X 17],[J X 3,F [102,117,110,99],J X 0,J X 19],[J X 1,F [102],J X 0,J X 24],[J X 4,F [40],J X 0,J X 25],[J X 1,F [114],J X 0,J X 26],[J X 4,F [58],J X 0,J X 27],[J X 1,F [82],J X 0,J X 29],[J X 4,F [41],J X 0,J X 30],[J X 4,F [58],J X 0,J X 31],[J X 1,F [82],J X 0,J X 33],[J X 4,F [123],J X 0,J X 35],[J X 3,F [114,101,116,117,114,110],J X 0,J X 37],[J X 1,F [114],J X 0,J X 44],[J X 4,F [46],J X 0,J X 45],[J X 1,F [110],J X 0,J X 46],[J X 4,F [59],J X 0,J X 47],[J X 4,F [125],J X 0,J X 49],[J X 3,F [102,117,110,99],J X 0,J X 51],[J X 1,F [109,97,105,110],J X 0,J X 56],[J X 4,F [40],J X 0,J X 60],[J X 4,F [41],J X 0,J X 61],[J X 4,F [123],J X 0,J X 63],[J X 3,F [108,101,116],J X 0,J X 65],[J X 1,F [97],J X 0,J X 69],[J X 4,F [58],J X 0,J X 70],[J X 1,F [82],J X 0,J X 72],[J X 4,F [61],J X 0,J X 74],[J X 3,F [110,101,119],J X 0,J X 76],[J X 1,F [82],J X 0,J X 80],[J X 4,F [59],J X 0,J X 81],[J X 1,F [97],J X 0,J X 83],[J X 4,F [46],J X 0,J X 84],[J X 1,F [110],J X 0,J X 85],[J X 4,F [61],J X 0,J X 87],[J X 3,F [110,101,119],J X 0,J X 89],[J X 1,F [82],J X 0,J X 93],[J X 4,F [59],J X 0,J X 94],[J X 3,F [108,101,116],J X 0,J X 96],[J X 1,F [98],J X 0,J X 100],[J X 4,F [58],J X 0,J X 101],[J X 1,F [82],J X 0,J X 103],[J X 4,F [61],J X 0,J X 105],[J X 1,F [102],J X 0,J X 107],[J X 4,F [40],J X 0,J X 108],[J X 1,F [97],J X 0,J X 109],[J X 4,F [41],J X 0,J X 110],[J X 4,F [59],J X 0,J X 111],[J X 3,F [105,102],J X 0,J X 113],[J X 1,F [98],J X 0,J X 116],[J X 4,F [61,61],J X 0,J X 118],[J X 3,F [110,117,108,108],J X 0,J X 121],[J X 1,F [82],J X 0,J X 126],[J X 4,F [123],J X 0,J X 128],[J X 3,F [112,114,105,110,116],J X 0,J X 130],[J X 2,F [],J X 1,J X 136],[J X 4,F [59],J X 0,J X 137],[J X 4,F [125],J X 0,J X 139],[J X 3,F [112,114,105,110,116],J X 0,J X 141],[J X 2,F [],J X 2,J X 147],[J X 4,F [59],J X 0,J X 148],[J X 4,F [125],J X 0,J X 150],[J X 0,F [],J X 0,J X 151]]))
def EV:Nat×bL:=(365,(.row Z 2 [[J X 0,J X 0]]))
def EW:Nat×bL:=(367,(.row Z 3 [[.aJ 413 0 1 3 I,.aB,.aJ 630 0 1 7 I]]))
def wD:Nat×bL:=(405,(.row Z 4 [[F [110],F [82],J X 0,J X 11]]))
def EX:Nat×bL:=(412,(.row Z 3 [[F [82],.aJ 405 0 1 4 I,J X 7]]))
def wE:Nat×bL:=(413,(.row Z 3 [[F [82],.aJ 405 0 1 4 I,J X 7]]))
def wF:Nat×bL:=(455,(.row Z 4 [[F [114],F [82],J X 0,J X 26]]))
def wG:Nat×bL:=(540,(.row Z 11 [[J X 4,J X 0,F [114],F [],J X 0,.aB,J X 44,J X 0,J X 0,J X 0,J X 0]]))
def wB:Nat×bL:=(620,(.row Z 11 [[J X 5,J X 0,F [110],F [],J X 0,(.aJ 540 0 1 11 (D 1)),J X 45,J X 0,J X 0,J X 0,J X 0]]))
def wC:Nat×bL:=(624,(.row Z 9 [[J X 7,F [],F [],J X 0,(.aJ 620 0 1 11 (D 1)),.aB,.aB,J X 37,J X 0]]))
def ES:Nat×bL:=(629,(.row Z 7 [[F [102],.aJ 455 0 1 4 I,y C,F [82],J X 0,.aJ 624 0 1 9 I,J X 24]]))
def ET:Nat×bL:=(630,(.row Z 7 [[F [102],.aJ 455 0 1 4 I,y C,F [82],J X 0,.aJ 624 0 1 9 I,J X 24]]))
def zP:Nat×bL:=(797,(.row Z 11 [[J X 8,J X 0,F [],F [82],J X 0,.aB,J X 76,J X 0,J X 0,J X 0,J X 0]]))
def zQ:Nat×bL:=(866,(.row Z 11 [[J X 4,J X 0,F [97],F [],J X 0,.aB,J X 83,J X 0,J X 0,J X 0,J X 0]]))
def zR:Nat×bL:=(1064,(.row Z 11 [[J X 5,J X 0,F [110],F [],J X 0,(.aJ 866 0 1 11 (D 1)),J X 84,J X 0,J X 0,J X 0,J X 0],[J X 8,J X 0,F [],F [82],J X 0,.aB,J X 89,J X 0,J X 0,J X 0,J X 0]]))
def zS:Nat×bL:=(1249,(.row Z 11 [[J X 4,J X 0,F [97],F [],J X 0,.aB,J X 109,J X 0,J X 0,J X 0,J X 0]]))
def zT:Nat×bL:=(1335,(.row Z 11 [[J X 7,J X 0,F [102],F [],J X 0,.aJ 1249 0 1 11 I,J X 107,J X 0,J X 0,J X 0,J X 0]]))
def zU:Nat×bL:=(1518,(.row Z 11 [[J X 4,J X 0,F [98],F [],J X 0,.aB,J X 116,J X 0,J X 0,J X 0,J X 0],[J X 3,J X 0,F [],F [82],J X 0,.aB,J X 121,J X 0,J X 0,J X 0,J X 0]]))
def zW:Nat×bL:=(1563,(.row Z 11 [[J X 21,J X 0,F [],F [],J X 0,(.aJ 1518 0 2 11 (D 2)),J X 118,J X 0,J X 0,J X 0,J X 0]]))
def zY:Nat×bL:=(1683,(.row Z 11 [[J X 1,J X 1,F [],F [],J X 0,.aB,J X 136,J X 0,J X 0,J X 0,J X 0]]))
def zZ:Nat×bL:=(1687,(.row Z 9 [[J X 8,F [],F [],J X 0,(.aJ 1683 0 1 11 (D 1)),.aB,.aB,J X 130,J X 0]]))
def z1:Nat×bL:=(1811,(.row Z 11 [[J X 1,J X 2,F [],F [],J X 0,.aB,J X 147,J X 0,J X 0,J X 0,J X 0]]))
def z2:Nat×bL:=(1815,(.row Z 9 [[J X 2,F [97],F [82],J X 0,(.aJ 797 0 1 11 (D 1)),.aB,.aB,J X 65,J X 0],[J X 4,F [],F [],J X 0,(.aJ 1064 0 2 11 (D 2)),.aB,.aB,J X 83,J X 0],[J X 2,F [98],F [82],J X 0,(.aJ 1335 0 1 11 (D 1)),.aB,.aB,J X 96,J X 0],[J X 5,F [],F [],J X 0,(.aJ 1563 0 1 11 (D 1)),.aJ 1687 0 1 9 I,.aB,J X 113,J X 0],[J X 8,F [],F [],J X 0,(.aJ 1811 0 1 11 (D 1)),.aB,.aB,J X 141,J X 0]]))
def EU:Nat×bL:=(1821,(.row Z 7 [[F [102],.aJ 455 0 1 4 I,y C,F [82],J X 0,.aJ 624 0 1 9 I,J X 24],[F [109,97,105,110],.aB,y Z,F [],J X 0,.aJ 1815 0 5 9 I,J X 56]]))
def jM:Nat×bL:=(1843,(.row Z 4 [[F [110],J X 3,J X 0,J X 0]]))
def jN:Nat×bL:=(1846,(.row Z 2 [[F [82],.aJ 1843 0 1 4 I]]))
def jO:Nat×bL:=(2411,(.row Z 3 [[J X 3,J X 0,J X 0],[J X 3,J X 0,J X 0],[J X 3,J X 0,J X 0]]))
def jP:Nat×bL:=(2418,(.row Z 6 [[J X 6,J X 1,J X 0,J X 0,J X 0,.aB],[J X 18,J X 1,J X 0,J X 0,J X 0,.aB],[J X 2,J X 2,J X 0,J X 0,J X 0,.aB],[J X 18,J X 2,J X 0,J X 0,J X 0,.aB]]))
def jQ:Nat×bL:=(2454,(.row Z 4 [[J X 1,J X 3,J X 0,J X 0],[J X 1,J X 3,J X 0,J X 0]]))
def jR:Nat×bL:=(2465,(.row Z 1 [[J X 0]]))
def jS:Nat×bL:=(2516,(.row Z 3 [[J X 3,J X 0,J X 0],[J X 3,J X 0,J X 0],[J X 3,J X 0,J X 0],[J X 3,J X 0,J X 0],[J X 3,J X 0,J X 0],[J X 3,J X 0,J X 0],[J X 2,J X 0,J X 0],[J X 1,J X 0,J X 0],[J X 1,J X 0,J X 0]]))
def jT:Nat×bL:=(2525,(.row Z 6 [[J X 11,J X 2,J X 0,J X 0,J X 0,.aB],[J X 3,J X 0,J X 2,J X 0,J X 0,.aB],[J X 11,J X 3,J X 0,J X 0,J X 1,.aB],[J X 7,J X 0,J X 3,J X 0,J X 0,.aB],[J X 13,J X 4,J X 0,J X 0,J X 0,.aJ 2465 0 1 1 I],[J X 3,J X 1,J X 4,J X 0,J X 0,.aB],[J X 2,J X 5,J X 0,J X 0,J X 0,.aB],[J X 4,J X 6,J X 1,J X 5,J X 21,.aB],[J X 17,J X 6,J X 0,J X 12,J X 9,.aB],[J X 1,J X 7,J X 0,J X 0,J X 1,.aB],[J X 15,J X 7,J X 0,J X 0,J X 0,.aB],[J X 16,J X 0,J X 0,J X 0,J X 12,.aB],[J X 1,J X 8,J X 0,J X 0,J X 2,.aB],[J X 15,J X 8,J X 0,J X 0,J X 0,.aB],[J X 18,(J X (-1)),J X 0,J X 0,J X 0,.aB]]))
def jU:Nat×bL:=(2527,(.row Z 7 [[J X 1,.aJ 2411 0 3 3 I,y C,J X 3,J X 0,J X 0,.aJ 2418 0 4 6 I],[J X 0,.aJ 2516 0 9 3 I,y Z,J X 0,J X 0,J X 0,.aJ 2525 0 15 6 I]]))
def kn:Nat×bL:=(2528,(.row Z 5 [[.aJ 1846 0 1 2 I,.aB,.aJ 2527 0 2 7 I,.aJ 2454 0 2 4 I,J X 1]]))
def EI:e_:=⟨58,ER,2,[wz,wA],(.tuple [.aJ 364 0 69 4 I,.agg [J X 0,J X 0]]),365,[wz,wA,zV]⟩
def EJ:e_:=⟨66,[.ptr 366 0 0],644,[wz,wA,zV,EV,(366,(.row Z 5 [[.aJ 364 0 69 4 I,J X 25,J X 0,J X 0,J X 0]])),EW,wD,EX,wE,wF,wG,wB,wC,ES,ET],(.agg [F [109,97,105,110],.aB,y Z,F [],J X 0,.aJ 1815 0 5 9 I,J X 56]),1820,[wz,wA,zV,EV,(366,(.row Z 5 [[.aJ 364 0 69 4 I,J X 68,J X 0,J X 0,J X 0]])),EW,wD,EX,wE,wF,wG,wB,wC,ES,ET,zP,zQ,zR,zS,zT,zU,zW,zY,zZ,z1,z2]⟩
def EH:e_:=⟨33,ER,0,[],(.tuple [.agg [.aJ 413 0 1 3 I,.aB,.aJ 1821 0 2 7 I],.agg [J X 0,J X 0]]),1823,[wD,wE,wF,wG,wB,wC,zP,zQ,zR,zS,zT,zU,zW,zY,zZ,z1,z2,EU]⟩
def EK:e_:=⟨34,[.agg [.aJ 413 0 1 3 I,.aB,.aJ 1821 0 2 7 I]],1825,[wD,wE,wF,wG,wB,wC,zP,zQ,zR,zS,zT,zU,zW,zY,zZ,z1,z2,EU],(.tuple [.agg [.aJ 1846 0 1 2 I,.aB,.aJ 2527 0 2 7 I,.aJ 2454 0 2 4 I,J X 1],.agg [J X 0,J X 0]]),2528,[jM,jN,jO,jP,jQ,jR,jS,jT,jU]⟩
def EL:e_:=⟨11,[.agg [.aJ 1846 0 1 2 I,.aB,.aJ 2527 0 2 7 I,.aJ 2454 0 2 4 I,J X 1]],2530,[jM,jN,jO,jP,jQ,jR,jS,jT,jU,kn],(.agg [J X 2,(.aJ 4695 0 2 1 (D 2)),.aJ 4724 0 14 1 I,.aJ 4777 0 2 1 I]),4780,[jM,jN,jO,jP,jQ,jR,jS,jT,jU,kn,(4695,(.row Z 1 [[J X 0],[J X 1]])),(4724,(.row Z 1 [[J X 0],[J X 1],[(J X (-1))],[J X 0],[J X 1],[J X 0],[J X 1],[J X 1],[(J X (-1))],[(J X (-1))],[(J X (-1))],[(J X (-1))],[J X 1],[(J X (-1))]])),(4749,(.row Z 1 [[J X 1],[(J X (-1))],[(J X (-1))],[(J X (-1))],[(J X (-1))],[(J X (-1))],[(J X (-1))],[(J X (-1))]])),(4775,(.row Z 1 [[(J X (-1))],[(J X (-1))],[(J X (-1))],[(J X (-1))],[(J X (-1))],[(J X (-1))],[(J X (-1))],[(J X (-1))]])),(4777,(.row Z 1 [[.aJ 4749 0 8 1 I],[.aJ 4775 0 8 1 I]]))]⟩
def EM:e_:=⟨22,[.agg [.aJ 1846 0 1 2 I,.aB,.aJ 2527 0 2 7 I,.aJ 2454 0 2 4 I,J X 1],J X 0],4781,[jM,jN,jO,jP,jQ,jR,jS,jT,jU,kn],.aJ 7785 0 2 1 I,8531,[jM,jN,jO,jP,jQ,jR,jS,jT,jU,kn,(7785,(.row Z 1 [[J X 0],[J X 1]]))]⟩
def EN:e_:=⟨20,[.agg [.aJ 1846 0 1 2 I,.aB,.aJ 2527 0 2 7 I,.aJ 2454 0 2 4 I,J X 1]],8532,[jM,jN,jO,jP,jQ,jR,jS,jT,jU,kn],.aJ 13111 0 2 1 I,13112,[jM,jN,jO,jP,jQ,jR,jS,jT,jU,kn,(13109,(.row Z 1 [[J X 0],[J X 1]])),(13111,(.row Z 1 [[.aB],[.aJ 13109 0 2 1 I]]))]⟩
def EO:e_:=⟨18,[.agg [.aJ 1846 0 1 2 I,.aB,.aJ 2527 0 2 7 I,.aJ 2454 0 2 4 I,J X 1]],13115,[jM,jN,jO,jP,jQ,jR,jS,jT,jU,kn],(.aJ 16865 0 2 1 (D 2)),16908,[jM,jN,jO,jP,jQ,jR,jS,jT,jU,kn,(16865,(.row Z 1 [[.aB],[.aB]]))]⟩
def EP:e_:=⟨14,[.agg [.aJ 1846 0 1 2 I,.aB,.aJ 2527 0 2 7 I,.aJ 2454 0 2 4 I,J X 1]],16911,[jM,jN,jO,jP,jQ,jR,jS,jT,jU,kn],.aB,20661,[jM,jN,jO,jP,jQ,jR,jS,jT,jU,kn]⟩
def Pb(a:dT bD P ax):EI.Ok bD P:=e_.la (lZ a p6 100) ag
def Pc(a:dT bD P ax):EJ.Ok bD P:=e_.la (sE (N:=100000) bU a 100) ag
def Pl(a:dT bD P ax):∀s∈[EI,EJ],s.Ok bD P:=by
 intro s b;simp only[List.mem_cons,List.not_mem_nil,or_false]at b;rcases b with rfl|rfl
 ·exact Pb a
 ·exact Pc a
def Pa(a:dT bD P ax):EH.Ok bD P:=e_.la (sE (N:=100000) bU (By a (Pl a)) 100) ag
def Pd(a:dT bD P ax):EK.Ok bD P:=e_.la (sE (N:=100000) bU a 100) ag
def Pe(a:dT bD P ax):EL.Ok bD P:=e_.la (lZ a p6 100) ag
def Pf(a:dT bD P ax):EM.Ok bD P:=e_.la (lZ a p6 100) ag
def Pg(a:dT bD P ax):EN.Ok bD P:=e_.la (lZ a p6 100) ag
def Ph(a:dT bD P ax):EO.Ok bD P:=e_.la (lZ a p6 100) ag
def Pj(a:dT bD P ax):EP.Ok bD P:=e_.la (lZ a p6 100) ag
def Pk(a:dT bD P ax):∀s∈[EH,EK,EL,EM,EN,EO,EP],s.Ok bD P:=by
 intro s b;simp only[List.mem_cons,List.not_mem_nil,or_false]at b;rcases b with rfl|rfl|rfl|rfl|rfl|rfl|rfl
 ·exact Pa a
 ·exact Pd a
 ·exact Pe a
 ·exact Pf a
 ·exact Pg a
 ·exact Ph a
 ·exact Pj a
def Pm(a:dT bD P ax)(H:ad):fO bD P 16 [] H (y C) H:=by
 obtain⟨H0,c⟩:=Lw (b:=true) (m:=5) (f:=16) (args:=[]) (H:=ad.empty) (By a (Pk a)) O_ ag;exact Lg c H

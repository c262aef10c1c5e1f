/-
  Texts of one proof, laid together: Kv.
-/
import Derived.Test.YtmhhnnklfcbgfaaGreatMT
set_option linter.unusedVariables false
set_option linter.unusedSimpArgs false
set_option linter.defProp false
open Option renaming some→D,none→I
open Bool renaming true→C,false→Z
open Go.bz.ae renaming int→J,str→F,bool→A
open Go.IntKind renaming i64→X
namespace Go.Proofs.YtmhhnnklfcbgfaaGreat
open Go.bz
set_option maxRecDepth 1000000
def Il:List ae:=[F [114,101,99,111,114,100,32,82,32,123,32,110,58,32,82,59,32,125,32,102,117,110,99,32,102,40,114,58,32,82,41,58,32,82,32,123,32,114,101,116,117,114,110,32,114,46,110,59,32,125,32,102,117,110,99,32,109,97,105,110,40,41,32,123,32,108,101,116,32,97,58,32,82,32,61,32,110,101,119,32,82,59,32,97,46,110,32,61,32,110,101,119,32,82,59,32,108,101,116,32,98,58,32,82,32,61,32,102,40,97,41,59,32,105,102,32,98,32,61,61,32,110,117,108,108,32,82,32,123,32,112,114,105,110,116,32,49,59,32,125,32,112,114,105,110,116,32,50,59,32,125]]
def vD:Nat×bn:=(0,(.row Z 3 [[.aB,.aB,.aB]]))
def vE:Nat×bn:=(1,(.row Z 2 [[J X 0,J X 0]]))
def AE:Nat×bn:=(364,(.row Z 4 [[J X 3,F [114,101,99,111,114,100],J X 0,J X 0],[J X 1,F [82],J X 0,J X 7],[J X 4,F [123],J X 0,J X 9],[J X 1,F [110],J X 0,J X 11],[J X 4,F [58],J X 0,J X 12],[J X 1,F [82],J X 0,J X 14],[J X 4,F [59],J X 0,J X 15],[J X 4,F [125],J X 0,J X 17],[J X 3,F [102,117,110,99],J X 0,J X 19],[J X 1,F [102],J X 0,J X 24],[J X 4,F [40],J X 0,J X 25],[J X 1,F [114],J X 0,J X 26],[J X 4,F [58],J X 0,J X 27],[J X 1,F [82],J X 0,J X 29],[J X 4,F [41],J X 0,J X 30],[J X 4,F [58],J X 0,J X 31],[J X 1,F [82],J X 0,J X 33],[J X 4,F [123],J X 0,J X 35],[J X 3,F [114,101,116,117,114,110],J X 0,J X 37],[J X 1,F [114],J X 0,J X 44],[J X 4,F [46],J X 0,J X 45],[J X 1,F [110],J X 0,J X 46],[J X 4,F [59],J X 0,J X 47],[J X 4,F [125],J X 0,J X 49],[J X 3,F [102,117,110,99],J X 0,J X 51],[J X 1,F [109,97,105,110],J X 0,J X 56],[J X 4,F [40],J X 0,J X 60],[J X 4,F [41],J X 0,J X 61],[J X 4,F [123],J X 0,J X 63],[J X 3,F [108,101,116],J X 0,J X 65],[J X 1,F [97],J X 0,J X 69],[J X 4,F [58],J X 0,J X 70],[J X 1,F [82],J X 0,J X 72],[J X 4,F [61],J X 0,J X 74],[J X 3,F [110,101,119],J X 0,J X 76],[J X 1,F [82],J X 0,J X 80],[J X 4,F [59],J X 0,J X 81],[J X 1,F [97],J X 0,J X 83],[J X 4,F [46],J X 0,J X 84],[J X 1,F [110],J X 0,J X 85],[J X 4,F [61],J X 0,J X 87],[J X 3,F [110,101,119],J X 0,J X 89],[J X 1,F [82],J X 0,J X 93],[J X 4,F [59],J X 0,J X 94],[J X 3,F [108,101,116],J X 0,J X 96],[J X 1,F [98],J X 0,J X 100],[J X 4,F [58],J X 0,J X 101],[J X 1,F [82],J X 0,J X 103],[J X 4,F [61],J X 0,J X 105],[J X 1,F [102],J X 0,J X 107],[J X 4,F [40],J X 0,J X 108],[J X 1,F [97],J X 0,J X 109],[J X 4,F [41],J X 0,J X 110],[J X 4,F [59],J X 0,J X 111],[J X 3,F [105,102],J X 0,J X 113],[J X 1,F [98],J X 0,J X 116],[J X 4,F [61,61],J X 0,J X 118],[J X 3,F [110,117,108,108],J X 0,J X 121],[J X 1,F [82],J X 0,J X 126],[J X 4,F [123],J X 0,J X 128],[J X 3,F [112,114,105,110,116],J X 0,J X 130],[J X 2,F [],J X 1,J X 136],[J X 4,F [59],J X 0,J X 137],[J X 4,F [125],J X 0,J X 139],[J X 3,F [112,114,105,110,116],J X 0,J X 141],[J X 2,F [],J X 2,J X 147],[J X 4,F [59],J X 0,J X 148],[J X 4,F [125],J X 0,J X 150],[J X 0,F [],J X 0,J X 151]]))
def Iq:Nat×bn:=(365,(.row Z 2 [[J X 0,J X 0]]))
def Ir:Nat×bn:=(367,(.row Z 3 [[.aD 413 0 1 3 I,.aB,.aD 630 0 1 7 I]]))
def vH:Nat×bn:=(405,(.row Z 4 [[F [110],F [82],J X 0,J X 11]]))
def Is:Nat×bn:=(412,(.row Z 3 [[F [82],.aD 405 0 1 4 I,J X 7]]))
def vI:Nat×bn:=(413,(.row Z 3 [[F [82],.aD 405 0 1 4 I,J X 7]]))
def vJ:Nat×bn:=(455,(.row Z 4 [[F [114],F [82],J X 0,J X 26]]))
def vK:Nat×bn:=(540,(.row Z 11 [[J X 4,J X 0,F [114],F [],J X 0,.aB,J X 44,J X 0,J X 0,J X 0,J X 0]]))
def vF:Nat×bn:=(620,(.row Z 11 [[J X 5,J X 0,F [110],F [],J X 0,(.aD 540 0 1 11 (D 1)),J X 45,J X 0,J X 0,J X 0,J X 0]]))
def vG:Nat×bn:=(624,(.row Z 9 [[J X 7,F [],F [],J X 0,(.aD 620 0 1 11 (D 1)),.aB,.aB,J X 37,J X 0]]))
def Im:Nat×bn:=(629,(.row Z 7 [[F [102],.aD 455 0 1 4 I,A C,F [82],J X 0,.aD 624 0 1 9 I,J X 24]]))
def Io:Nat×bn:=(630,(.row Z 7 [[F [102],.aD 455 0 1 4 I,A C,F [82],J X 0,.aD 624 0 1 9 I,J X 24]]))
def Aw:Nat×bn:=(797,(.row Z 11 [[J X 8,J X 0,F [],F [82],J X 0,.aB,J X 76,J X 0,J X 0,J X 0,J X 0]]))
def Ax:Nat×bn:=(866,(.row Z 11 [[J X 4,J X 0,F [97],F [],J X 0,.aB,J X 83,J X 0,J X 0,J X 0,J X 0]]))
def Ay:Nat×bn:=(1064,(.row Z 11 [[J X 5,J X 0,F [110],F [],J X 0,(.aD 866 0 1 11 (D 1)),J X 84,J X 0,J X 0,J X 0,J X 0],[J X 8,J X 0,F [],F [82],J X 0,.aB,J X 89,J X 0,J X 0,J X 0,J X 0]]))
def Az:Nat×bn:=(1249,(.row Z 11 [[J X 4,J X 0,F [97],F [],J X 0,.aB,J X 109,J X 0,J X 0,J X 0,J X 0]]))
def AA:Nat×bn:=(1335,(.row Z 11 [[J X 7,J X 0,F [102],F [],J X 0,.aD 1249 0 1 11 I,J X 107,J X 0,J X 0,J X 0,J X 0]]))
def AD:Nat×bn:=(1518,(.row Z 11 [[J X 4,J X 0,F [98],F [],J X 0,.aB,J X 116,J X 0,J X 0,J X 0,J X 0],[J X 3,J X 0,F [],F [82],J X 0,.aB,J X 121,J X 0,J X 0,J X 0,J X 0]]))
def AF:Nat×bn:=(1563,(.row Z 11 [[J X 21,J X 0,F [],F [],J X 0,(.aD 1518 0 2 11 (D 2)),J X 118,J X 0,J X 0,J X 0,J X 0]]))
def AG:Nat×bn:=(1683,(.row Z 11 [[J X 1,J X 1,F [],F [],J X 0,.aB,J X 136,J X 0,J X 0,J X 0,J X 0]]))
def AH:Nat×bn:=(1687,(.row Z 9 [[J X 8,F [],F [],J X 0,(.aD 1683 0 1 11 (D 1)),.aB,.aB,J X 130,J X 0]]))
def AI:Nat×bn:=(1811,(.row Z 11 [[J X 1,J X 2,F [],F [],J X 0,.aB,J X 147,J X 0,J X 0,J X 0,J X 0]]))
def AJ:Nat×bn:=(1815,(.row Z 9 [[J X 2,F [97],F [82],J X 0,(.aD 797 0 1 11 (D 1)),.aB,.aB,J X 65,J X 0],[J X 4,F [],F [],J X 0,(.aD 1064 0 2 11 (D 2)),.aB,.aB,J X 83,J X 0],[J X 2,F [98],F [82],J X 0,(.aD 1335 0 1 11 (D 1)),.aB,.aB,J X 96,J X 0],[J X 5,F [],F [],J X 0,(.aD 1563 0 1 11 (D 1)),.aD 1687 0 1 9 I,.aB,J X 113,J X 0],[J X 8,F [],F [],J X 0,(.aD 1811 0 1 11 (D 1)),.aB,.aB,J X 141,J X 0]]))
def Ip:Nat×bn:=(1821,(.row Z 7 [[F [102],.aD 455 0 1 4 I,A C,F [82],J X 0,.aD 624 0 1 9 I,J X 24],[F [109,97,105,110],.aB,A Z,F [],J X 0,.aD 1815 0 5 9 I,J X 56]]))
def lj:Nat×bn:=(1843,(.row Z 4 [[F [110],J X 3,J X 0,J X 0]]))
def lk:Nat×bn:=(1846,(.row Z 2 [[F [82],.aD 1843 0 1 4 I]]))
def ll:Nat×bn:=(2411,(.row Z 3 [[J X 3,J X 0,J X 0],[J X 3,J X 0,J X 0],[J X 3,J X 0,J X 0]]))
def ln:Nat×bn:=(2418,(.row Z 6 [[J X 6,J X 1,J X 0,J X 0,J X 0,.aB],[J X 18,J X 1,J X 0,J X 0,J X 0,.aB],[J X 2,J X 2,J X 0,J X 0,J X 0,.aB],[J X 18,J X 2,J X 0,J X 0,J X 0,.aB]]))
def lo:Nat×bn:=(2454,(.row Z 4 [[J X 1,J X 3,J X 0,J X 0],[J X 1,J X 3,J X 0,J X 0]]))
def lp:Nat×bn:=(2465,(.row Z 1 [[J X 0]]))
def lq:Nat×bn:=(2516,(.row Z 3 [[J X 3,J X 0,J X 0],[J X 3,J X 0,J X 0],[J X 3,J X 0,J X 0],[J X 3,J X 0,J X 0],[J X 3,J X 0,J X 0],[J X 3,J X 0,J X 0],[J X 2,J X 0,J X 0],[J X 1,J X 0,J X 0],[J X 1,J X 0,J X 0]]))
def lr:Nat×bn:=(2525,(.row Z 6 [[J X 11,J X 2,J X 0,J X 0,J X 0,.aB],[J X 3,J X 0,J X 2,J X 0,J X 0,.aB],[J X 11,J X 3,J X 0,J X 0,J X 1,.aB],[J X 7,J X 0,J X 3,J X 0,J X 0,.aB],[J X 13,J X 4,J X 0,J X 0,J X 0,.aD 2465 0 1 1 I],[J X 3,J X 1,J X 4,J X 0,J X 0,.aB],[J X 2,J X 5,J X 0,J X 0,J X 0,.aB],[J X 4,J X 6,J X 1,J X 5,J X 21,.aB],[J X 17,J X 6,J X 0,J X 12,J X 9,.aB],[J X 1,J X 7,J X 0,J X 0,J X 1,.aB],[J X 15,J X 7,J X 0,J X 0,J X 0,.aB],[J X 16,J X 0,J X 0,J X 0,J X 12,.aB],[J X 1,J X 8,J X 0,J X 0,J X 2,.aB],[J X 15,J X 8,J X 0,J X 0,J X 0,.aB],[J X 18,(J X (-1)),J X 0,J X 0,J X 0,.aB]]))
def lu:Nat×bn:=(2527,(.row Z 7 [[J X 1,.aD 2411 0 3 3 I,A C,J X 3,J X 0,J X 0,.aD 2418 0 4 6 I],[J X 0,.aD 2516 0 9 3 I,A Z,J X 0,J X 0,J X 0,.aD 2525 0 15 6 I]]))
def l8:Nat×bn:=(2528,(.row Z 5 [[.aD 1846 0 1 2 I,.aB,.aD 2527 0 2 7 I,.aD 2454 0 2 4 I,J X 1]]))
def Ib:fH:=⟨58,Il,2,[vD,vE],(.tuple [.aD 364 0 69 4 I,.agg [J X 0,J X 0]]),365,[vD,vE,AE]⟩
def Ic:fH:=⟨66,[.ptr 366 0 0],644,[vD,vE,AE,Iq,(366,(.row Z 5 [[.aD 364 0 69 4 I,J X 25,J X 0,J X 0,J X 0]])),Ir,vH,Is,vI,vJ,vK,vF,vG,Im,Io],(.agg [F [109,97,105,110],.aB,A Z,F [],J X 0,.aD 1815 0 5 9 I,J X 56]),1820,[vD,vE,AE,Iq,(366,(.row Z 5 [[.aD 364 0 69 4 I,J X 68,J X 0,J X 0,J X 0]])),Ir,vH,Is,vI,vJ,vK,vF,vG,Im,Io,Aw,Ax,Ay,Az,AA,AD,AF,AG,AH,AI,AJ]⟩
def Ia:fH:=⟨33,Il,0,[],(.tuple [.agg [.aD 413 0 1 3 I,.aB,.aD 1821 0 2 7 I],.agg [J X 0,J X 0]]),1823,[vH,vI,vJ,vK,vF,vG,Aw,Ax,Ay,Az,AA,AD,AF,AG,AH,AI,AJ,Ip]⟩
def Ie:fH:=⟨34,[.agg [.aD 413 0 1 3 I,.aB,.aD 1821 0 2 7 I]],1825,[vH,vI,vJ,vK,vF,vG,Aw,Ax,Ay,Az,AA,AD,AF,AG,AH,AI,AJ,Ip],(.tuple [.agg [.aD 1846 0 1 2 I,.aB,.aD 2527 0 2 7 I,.aD 2454 0 2 4 I,J X 1],.agg [J X 0,J X 0]]),2528,[lj,lk,ll,ln,lo,lp,lq,lr,lu]⟩
def Ig:fH:=⟨11,[.agg [.aD 1846 0 1 2 I,.aB,.aD 2527 0 2 7 I,.aD 2454 0 2 4 I,J X 1]],2530,[lj,lk,ll,ln,lo,lp,lq,lr,lu,l8],(.agg [J X 2,(.aD 4695 0 2 1 (D 2)),.aD 4724 0 14 1 I,.aD 4777 0 2 1 I]),4780,[lj,lk,ll,ln,lo,lp,lq,lr,lu,l8,(4695,(.row Z 1 [[J X 0],[J X 1]])),(4724,(.row Z 1 [[J X 0],[J X 1],[(J X (-1))],[J X 0],[J X 1],[J X 0],[J X 1],[J X 1],[(J X (-1))],[(J X (-1))],[(J X (-1))],[(J X (-1))],[J X 1],[(J X (-1))]])),(4749,(.row Z 1 [[J X 1],[(J X (-1))],[(J X (-1))],[(J X (-1))],[(J X (-1))],[(J X (-1))],[(J X (-1))],[(J X (-1))]])),(4775,(.row Z 1 [[(J X (-1))],[(J X (-1))],[(J X (-1))],[(J X (-1))],[(J X (-1))],[(J X (-1))],[(J X (-1))],[(J X (-1))]])),(4777,(.row Z 1 [[.aD 4749 0 8 1 I],[.aD 4775 0 8 1 I]]))]⟩
def Ih:fH:=⟨22,[.agg [.aD 1846 0 1 2 I,.aB,.aD 2527 0 2 7 I,.aD 2454 0 2 4 I,J X 1],J X 0],4781,[lj,lk,ll,ln,lo,lp,lq,lr,lu,l8],.aD 7785 0 2 1 I,8531,[lj,lk,ll,ln,lo,lp,lq,lr,lu,l8,(7785,(.row Z 1 [[J X 0],[J X 1]]))]⟩
def Ii:fH:=⟨20,[.agg [.aD 1846 0 1 2 I,.aB,.aD 2527 0 2 7 I,.aD 2454 0 2 4 I,J X 1]],8532,[lj,lk,ll,ln,lo,lp,lq,lr,lu,l8],.aD 13111 0 2 1 I,13112,[lj,lk,ll,ln,lo,lp,lq,lr,lu,l8,(13109,(.row Z 1 [[J X 0],[J X 1]])),(13111,(.row Z 1 [[.aB],[.aD 13109 0 2 1 I]]))]⟩
def Ij:fH:=⟨18,[.agg [.aD 1846 0 1 2 I,.aB,.aD 2527 0 2 7 I,.aD 2454 0 2 4 I,J X 1]],13115,[lj,lk,ll,ln,lo,lp,lq,lr,lu,l8],(.aD 16865 0 2 1 (D 2)),16908,[lj,lk,ll,ln,lo,lp,lq,lr,lu,l8,(16865,(.row Z 1 [[.aB],[.aB]]))]⟩
def Ik:fH:=⟨14,[.agg [.aD 1846 0 1 2 I,.aB,.aD 2527 0 2 7 I,.aD 2454 0 2 4 I,J X 1]],16911,[lj,lk,ll,ln,lo,lp,lq,lr,lu,l8],.aB,20661,[lj,lk,ll,ln,lo,lp,lq,lr,lu,l8]⟩
def T7(a:ed eL P aK):Ib.Ok eL P:=fH.mS (nC a qi 100) aF
def T8(a:ed eL P aK):Ic.Ok eL P:=fH.mS (rS (N:=100000) ka a 100) aF
def Uf(a:ed eL P aK):∀s∈[Ib,Ic],s.Ok eL P:=by
 intro s b;simp only[List.mem_cons,List.not_mem_nil,or_false]at b;rcases b with rfl|rfl
 ·exact T7 a
 ·exact T8 a
def T6(a:ed eL P aK):Ia.Ok eL P:=fH.mS (rS (N:=100000) ka (D4 a (Uf a)) 100) aF
def T9(a:ed eL P aK):Ie.Ok eL P:=fH.mS (rS (N:=100000) ka a 100) aF
def T_(a:ed eL P aK):Ig.Ok eL P:=fH.mS (nC a qi 100) aF
def Ua(a:ed eL P aK):Ih.Ok eL P:=fH.mS (nC a qi 100) aF
def Ub(a:ed eL P aK):Ii.Ok eL P:=fH.mS (nC a qi 100) aF
def Uc(a:ed eL P aK):Ij.Ok eL P:=fH.mS (nC a qi 100) aF
def Ud(a:ed eL P aK):Ik.Ok eL P:=fH.mS (nC a qi 100) aF
def Ue(a:ed eL P aK):∀s∈[Ia,Ie,Ig,Ih,Ii,Ij,Ik],s.Ok eL P:=by
 intro s b;simp only[List.mem_cons,List.not_mem_nil,or_false]at b;rcases b with rfl|rfl|rfl|rfl|rfl|rfl|rfl
 ·exact T6 a
 ·exact T9 a
 ·exact T_ a
 ·exact Ua a
 ·exact Ub a
 ·exact Uc a
 ·exact Ud a
def Ug(a:ed eL P aK)(H:ad):gL eL P 16 [] H (A C) H:=by
 obtain⟨H0,c⟩:=PI (b:=true) (m:=5) (f:=16) (args:=[]) (H:=ad.empty) (D4 a (Ue a)) T5 aF;exact O6 c H

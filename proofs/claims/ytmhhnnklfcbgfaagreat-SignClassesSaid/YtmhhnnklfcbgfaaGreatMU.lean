/-
  Texts of one proof, laid together: Kv.
-/
import Derived.Test.YtmhhnnklfcbgfaaGreatMT
set_option linter.unusedVariables false
set_option linter.unusedSimpArgs false
set_option linter.defProp false
open Option renaming some→A,none→Z
open Bool renaming true→J,false→I
open Go.cw.af renaming int→D,str→X,bool→C
open Go.IntKind renaming i64→F
namespace Go.Proofs.YtmhhnnklfcbgfaaGreat
open Go.cw
set_option maxRecDepth 1000000
def Ng:List af:=[X [114,101,99,111,114,100,32,82,32,123,32,110,58,32,82,59,32,125,32,102,117,110,99,32,102,40,114,58,32,82,41,58,32,82,32,123,32,114,101,116,117,114,110,32,114,46,110,59,32,125,32,102,117,110,99,32,109,97,105,110,40,41,32,123,32,108,101,116,32,97,58,32,82,32,61,32,110,101,119,32,82,59,32,97,46,110,32,61,32,110,101,119,32,82,59,32,108,101,116,32,98,58,32,82,32,61,32,102,40,97,41,59,32,105,102,32,98,32,61,61,32,110,117,108,108,32,82,32,123,32,112,114,105,110,116,32,49,59,32,125,32,112,114,105,110,116,32,50,59,32,125]]
def zs:Nat×bz:=(0,(.row I 3 [[.ao,.ao,.ao]]))
def zt:Nat×bz:=(1,(.row I 2 [[D F 0,D F 0]]))
def EX:Nat×bz:=(364,(.row I 4 [[D F 3,X [114,101,99,111,114,100],D F 0,D F 0],[D F 1,X [82],D F 0,D F 7],[D F 4,X [123],D F 0,D F 9],[D F 1,X [110],D F 0,D F 11],[D F 4,X [58],D F 0,D F 12],[D F 1,X [82],D F 0,D F 14],[D F 4,X [59],D F 0,D F 15],[D F 4,X [125],D F 0,D F 17],[D F 3,X [102,117,110,99],D F 0,D F 19],[D F 1,X [102],D F 0,D F 24],[D F 4,X [40],D F 0,D F 25],[D F 1,X [114],D F 0,D F 26],[D F 4,X [58],D F 0,D F 27],[D F 1,X [82],D F 0,D F 29],[D F 4,X [41],D F 0,D F 30],[D F 4,X [58],D F 0,D F 31],[D F 1,X [82],D F 0,D F 33],[D F 4,X [123],D F 0,D F 35],[D F 3,X [114,101,116,117,114,110],D F 0,D F 37],[D F 1,X [114],D F 0,D F 44],[D F 4,X [46],D F 0,D F 45],[D F 1,X [110],D F 0,D F 46],[D F 4,X [59],D F 0,D F 47],[D F 4,X [125],D F 0,D F 49],[D F 3,X [102,117,110,99],D F 0,D F 51],[D F 1,X [109,97,105,110],D F 0,D F 56],[D F 4,X [40],D F 0,D F 60],[D F 4,X [41],D F 0,D F 61],[D F 4,X [123],D F 0,D F 63],[D F 3,X [108,101,116],D F 0,D F 65],[D F 1,X [97],D F 0,D F 69],[D F 4,X [58],D F 0,D F 70],[D F 1,X [82],D F 0,D F 72],[D F 4,X [61],D F 0,D F 74],[D F 3,X [110,101,119],D F 0,D F 76],[D F 1,X [82],D F 0,D F 80],[D F 4,X [59],D F 0,D F 81],[D F 1,X [97],D F 0,D F 83],[D F 4,X [46],D F 0,D F 84],[D F 1,X [110],D F 0,D F 85],[D F 4,X [61],D F 0,D F 87],[D F 3,X [110,101,119],D F 0,D F 89],[D F 1,X [82],D F 0,D F 93],[D F 4,X [59],D F 0,D F 94],[D F 3,X [108,101,116],D F 0,D F 96],[D F 1,X [98],D F 0,D F 100],[D F 4,X [58],D F 0,D F 101],[D F 1,X [82],D F 0,D F 103],[D F 4,X [61],D F 0,D F 105],[D F 1,X [102],D F 0,D F 107],[D F 4,X [40],D F 0,D F 108],[D F 1,X [97],D F 0,D F 109],[D F 4,X [41],D F 0,D F 110],[D F 4,X [59],D F 0,D F 111],[D F 3,X [105,102],D F 0,D F 113],[D F 1,X [98],D F 0,D F 116],[D F 4,X [61,61],D F 0,D F 118],[D F 3,X [110,117,108,108],D F 0,D F 121],[D F 1,X [82],D F 0,D F 126],[D F 4,X [123],D F 0,D F 128],[D F 3,X [112,114,105,110,116],D F 0,D F 130],[D F 2,X [],D F 1,D F 136],[D F 4,X [59],D F 0,D F 137],[D F 4,X [125],D F 0,D F 139],[D F 3,X [112,114,105,110,116],D F 0,D F 141],[D F 2,X [],D F 2,D F 147],[D F 4,X [59],D F 0,D F 148],[D F 4,X [125],D F 0,D F 150],[D F 0,X [],D F 0,D F 151]]))
def Nk:Nat×bz:=(365,(.row I 2 [[D F 0,D F 0]]))
def Nl:Nat×bz:=(367,(.row I 3 [[.az 413 0 1 3 Z,.ao,.az 630 0 1 7 Z]]))
def zw:Nat×bz:=(405,(.row I 4 [[X [110],X [82],D F 0,D F 11]]))
def Nm:Nat×bz:=(412,(.row I 3 [[X [82],.az 405 0 1 4 Z,D F 7]]))
def zx:Nat×bz:=(413,(.row I 3 [[X [82],.az 405 0 1 4 Z,D F 7]]))
def zy:Nat×bz:=(455,(.row I 4 [[X [114],X [82],D F 0,D F 26]]))
def zz:Nat×bz:=(540,(.row I 11 [[D F 4,D F 0,X [114],X [],D F 0,.ao,D F 44,D F 0,D F 0,D F 0,D F 0]]))
def zu:Nat×bz:=(620,(.row I 11 [[D F 5,D F 0,X [110],X [],D F 0,(.az 540 0 1 11 (A 1)),D F 45,D F 0,D F 0,D F 0,D F 0]]))
def zv:Nat×bz:=(624,(.row I 9 [[D F 7,X [],X [],D F 0,(.az 620 0 1 11 (A 1)),.ao,.ao,D F 37,D F 0]]))
def Nh:Nat×bz:=(629,(.row I 7 [[X [102],.az 455 0 1 4 Z,C J,X [82],D F 0,.az 624 0 1 9 Z,D F 24]]))
def Ni:Nat×bz:=(630,(.row I 7 [[X [102],.az 455 0 1 4 Z,C J,X [82],D F 0,.az 624 0 1 9 Z,D F 24]]))
def ER:Nat×bz:=(797,(.row I 11 [[D F 8,D F 0,X [],X [82],D F 0,.ao,D F 76,D F 0,D F 0,D F 0,D F 0]]))
def ES:Nat×bz:=(866,(.row I 11 [[D F 4,D F 0,X [97],X [],D F 0,.ao,D F 83,D F 0,D F 0,D F 0,D F 0]]))
def ET:Nat×bz:=(1064,(.row I 11 [[D F 5,D F 0,X [110],X [],D F 0,(.az 866 0 1 11 (A 1)),D F 84,D F 0,D F 0,D F 0,D F 0],[D F 8,D F 0,X [],X [82],D F 0,.ao,D F 89,D F 0,D F 0,D F 0,D F 0]]))
def EU:Nat×bz:=(1249,(.row I 11 [[D F 4,D F 0,X [97],X [],D F 0,.ao,D F 109,D F 0,D F 0,D F 0,D F 0]]))
def EV:Nat×bz:=(1335,(.row I 11 [[D F 7,D F 0,X [102],X [],D F 0,.az 1249 0 1 11 Z,D F 107,D F 0,D F 0,D F 0,D F 0]]))
def EW:Nat×bz:=(1518,(.row I 11 [[D F 4,D F 0,X [98],X [],D F 0,.ao,D F 116,D F 0,D F 0,D F 0,D F 0],[D F 3,D F 0,X [],X [82],D F 0,.ao,D F 121,D F 0,D F 0,D F 0,D F 0]]))
def EY:Nat×bz:=(1563,(.row I 11 [[D F 21,D F 0,X [],X [],D F 0,(.az 1518 0 2 11 (A 2)),D F 118,D F 0,D F 0,D F 0,D F 0]]))
def EZ:Nat×bz:=(1683,(.row I 11 [[D F 1,D F 1,X [],X [],D F 0,.ao,D F 136,D F 0,D F 0,D F 0,D F 0]]))
def E1:Nat×bz:=(1687,(.row I 9 [[D F 8,X [],X [],D F 0,(.az 1683 0 1 11 (A 1)),.ao,.ao,D F 130,D F 0]]))
def E2:Nat×bz:=(1811,(.row I 11 [[D F 1,D F 2,X [],X [],D F 0,.ao,D F 147,D F 0,D F 0,D F 0,D F 0]]))
def E3:Nat×bz:=(1815,(.row I 9 [[D F 2,X [97],X [82],D F 0,(.az 797 0 1 11 (A 1)),.ao,.ao,D F 65,D F 0],[D F 4,X [],X [],D F 0,(.az 1064 0 2 11 (A 2)),.ao,.ao,D F 83,D F 0],[D F 2,X [98],X [82],D F 0,(.az 1335 0 1 11 (A 1)),.ao,.ao,D F 96,D F 0],[D F 5,X [],X [],D F 0,(.az 1563 0 1 11 (A 1)),.az 1687 0 1 9 Z,.ao,D F 113,D F 0],[D F 8,X [],X [],D F 0,(.az 1811 0 1 11 (A 1)),.ao,.ao,D F 141,D F 0]]))
def Nj:Nat×bz:=(1821,(.row I 7 [[X [102],.az 455 0 1 4 Z,C J,X [82],D F 0,.az 624 0 1 9 Z,D F 24],[X [109,97,105,110],.ao,C I,X [],D F 0,.az 1815 0 5 9 Z,D F 56]]))
def mv:Nat×bz:=(1843,(.row I 4 [[X [110],D F 3,D F 0,D F 0]]))
def mw:Nat×bz:=(1846,(.row I 2 [[X [82],.az 1843 0 1 4 Z]]))
def mx:Nat×bz:=(2411,(.row I 3 [[D F 3,D F 0,D F 0],[D F 3,D F 0,D F 0],[D F 3,D F 0,D F 0]]))
def my:Nat×bz:=(2418,(.row I 6 [[D F 6,D F 1,D F 0,D F 0,D F 0,.ao],[D F 18,D F 1,D F 0,D F 0,D F 0,.ao],[D F 2,D F 2,D F 0,D F 0,D F 0,.ao],[D F 18,D F 2,D F 0,D F 0,D F 0,.ao]]))
def mz:Nat×bz:=(2454,(.row I 4 [[D F 1,D F 3,D F 0,D F 0],[D F 1,D F 3,D F 0,D F 0]]))
def mA:Nat×bz:=(2465,(.row I 1 [[D F 0]]))
def mB:Nat×bz:=(2516,(.row I 3 [[D F 3,D F 0,D F 0],[D F 3,D F 0,D F 0],[D F 3,D F 0,D F 0],[D F 3,D F 0,D F 0],[D F 3,D F 0,D F 0],[D F 3,D F 0,D F 0],[D F 2,D F 0,D F 0],[D F 1,D F 0,D F 0],[D F 1,D F 0,D F 0]]))
def mC:Nat×bz:=(2525,(.row I 6 [[D F 11,D F 2,D F 0,D F 0,D F 0,.ao],[D F 3,D F 0,D F 2,D F 0,D F 0,.ao],[D F 11,D F 3,D F 0,D F 0,D F 1,.ao],[D F 7,D F 0,D F 3,D F 0,D F 0,.ao],[D F 13,D F 4,D F 0,D F 0,D F 0,.az 2465 0 1 1 Z],[D F 3,D F 1,D F 4,D F 0,D F 0,.ao],[D F 2,D F 5,D F 0,D F 0,D F 0,.ao],[D F 4,D F 6,D F 1,D F 5,D F 21,.ao],[D F 17,D F 6,D F 0,D F 12,D F 9,.ao],[D F 1,D F 7,D F 0,D F 0,D F 1,.ao],[D F 15,D F 7,D F 0,D F 0,D F 0,.ao],[D F 16,D F 0,D F 0,D F 0,D F 12,.ao],[D F 1,D F 8,D F 0,D F 0,D F 2,.ao],[D F 15,D F 8,D F 0,D F 0,D F 0,.ao],[D F 18,(D F (-1)),D F 0,D F 0,D F 0,.ao]]))
def mD:Nat×bz:=(2527,(.row I 7 [[D F 1,.az 2411 0 3 3 Z,C J,D F 3,D F 0,D F 0,.az 2418 0 4 6 Z],[D F 0,.az 2516 0 9 3 Z,C I,D F 0,D F 0,D F 0,.az 2525 0 15 6 Z]]))
def nm:Nat×bz:=(2528,(.row I 5 [[.az 1846 0 1 2 Z,.ao,.az 2527 0 2 7 Z,.az 2454 0 2 4 Z,D F 1]]))
def M8:gL:=⟨58,Ng,2,[zs,zt],(.tuple [.az 364 0 69 4 Z,.agg [D F 0,D F 0]]),365,[zs,zt,EX]⟩
def M9:gL:=⟨66,[.ptr 366 0 0],644,[zs,zt,EX,Nk,(366,(.row I 5 [[.az 364 0 69 4 Z,D F 25,D F 0,D F 0,D F 0]])),Nl,zw,Nm,zx,zy,zz,zu,zv,Nh,Ni],(.agg [X [109,97,105,110],.ao,C I,X [],D F 0,.az 1815 0 5 9 Z,D F 56]),1820,[zs,zt,EX,Nk,(366,(.row I 5 [[.az 364 0 69 4 Z,D F 68,D F 0,D F 0,D F 0]])),Nl,zw,Nm,zx,zy,zz,zu,zv,Nh,Ni,ER,ES,ET,EU,EV,EW,EY,EZ,E1,E2,E3]⟩
def M7:gL:=⟨33,Ng,0,[],(.tuple [.agg [.az 413 0 1 3 Z,.ao,.az 1821 0 2 7 Z],.agg [D F 0,D F 0]]),1823,[zw,zx,zy,zz,zu,zv,ER,ES,ET,EU,EV,EW,EY,EZ,E1,E2,E3,Nj]⟩
def M_:gL:=⟨34,[.agg [.az 413 0 1 3 Z,.ao,.az 1821 0 2 7 Z]],1825,[zw,zx,zy,zz,zu,zv,ER,ES,ET,EU,EV,EW,EY,EZ,E1,E2,E3,Nj],(.tuple [.agg [.az 1846 0 1 2 Z,.ao,.az 2527 0 2 7 Z,.az 2454 0 2 4 Z,D F 1],.agg [D F 0,D F 0]]),2528,[mv,mw,mx,my,mz,mA,mB,mC,mD]⟩
def Na:gL:=⟨11,[.agg [.az 1846 0 1 2 Z,.ao,.az 2527 0 2 7 Z,.az 2454 0 2 4 Z,D F 1]],2530,[mv,mw,mx,my,mz,mA,mB,mC,mD,nm],(.agg [D F 2,(.az 4695 0 2 1 (A 2)),.az 4724 0 14 1 Z,.az 4777 0 2 1 Z]),4780,[mv,mw,mx,my,mz,mA,mB,mC,mD,nm,(4695,(.row I 1 [[D F 0],[D F 1]])),(4724,(.row I 1 [[D F 0],[D F 1],[(D F (-1))],[D F 0],[D F 1],[D F 0],[D F 1],[D F 1],[(D F (-1))],[(D F (-1))],[(D F (-1))],[(D F (-1))],[D F 1],[(D F (-1))]])),(4749,(.row I 1 [[D F 1],[(D F (-1))],[(D F (-1))],[(D F (-1))],[(D F (-1))],[(D F (-1))],[(D F (-1))],[(D F (-1))]])),(4775,(.row I 1 [[(D F (-1))],[(D F (-1))],[(D F (-1))],[(D F (-1))],[(D F (-1))],[(D F (-1))],[(D F (-1))],[(D F (-1))]])),(4777,(.row I 1 [[.az 4749 0 8 1 Z],[.az 4775 0 8 1 Z]]))]⟩
def Nb:gL:=⟨22,[.agg [.az 1846 0 1 2 Z,.ao,.az 2527 0 2 7 Z,.az 2454 0 2 4 Z,D F 1],D F 0],4781,[mv,mw,mx,my,mz,mA,mB,mC,mD,nm],.az 7785 0 2 1 Z,8531,[mv,mw,mx,my,mz,mA,mB,mC,mD,nm,(7785,(.row I 1 [[D F 0],[D F 1]]))]⟩
def Nc:gL:=⟨20,[.agg [.az 1846 0 1 2 Z,.ao,.az 2527 0 2 7 Z,.az 2454 0 2 4 Z,D F 1]],8532,[mv,mw,mx,my,mz,mA,mB,mC,mD,nm],.az 13111 0 2 1 Z,13112,[mv,mw,mx,my,mz,mA,mB,mC,mD,nm,(13109,(.row I 1 [[D F 0],[D F 1]])),(13111,(.row I 1 [[.ao],[.az 13109 0 2 1 Z]]))]⟩
def Nd:gL:=⟨18,[.agg [.az 1846 0 1 2 Z,.ao,.az 2527 0 2 7 Z,.az 2454 0 2 4 Z,D F 1]],13115,[mv,mw,mx,my,mz,mA,mB,mC,mD,nm],(.az 16865 0 2 1 (A 2)),16908,[mv,mw,mx,my,mz,mA,mB,mC,mD,nm,(16865,(.row I 1 [[.ao],[.ao]]))]⟩
def Nf:gL:=⟨14,[.agg [.az 1846 0 1 2 Z,.ao,.az 2527 0 2 7 Z,.az 2454 0 2 4 Z,D F 1]],16911,[mv,mw,mx,my,mz,mA,mB,mC,mD,nm],.ao,20661,[mv,mw,mx,my,mz,mA,mB,mC,mD,nm]⟩
def aak(a:e1 E0 P aG):M8.Ok E0 P:=gL.oh (o7 a sK 100) aF
def aal(a:e1 E0 P aG):M9.Ok E0 P:=gL.oh (uE (N:=100000) la a 100) aF
def aat(a:e1 E0 P aG):∀s∈[M8,M9],s.Ok E0 P:=by
 intro s b;simp only[List.mem_cons,List.not_mem_nil,or_false]at b;rcases b with rfl|rfl
 ·exact aak a
 ·exact aal a
def aaj(a:e1 E0 P aG):M7.Ok E0 P:=gL.oh (uE (N:=100000) la (Iy a (aat a)) 100) aF
def aam(a:e1 E0 P aG):M_.Ok E0 P:=gL.oh (uE (N:=100000) la a 100) aF
def aan(a:e1 E0 P aG):Na.Ok E0 P:=gL.oh (o7 a sK 100) aF
def aao(a:e1 E0 P aG):Nb.Ok E0 P:=gL.oh (o7 a sK 100) aF
def aap(a:e1 E0 P aG):Nc.Ok E0 P:=gL.oh (o7 a sK 100) aF
def aaq(a:e1 E0 P aG):Nd.Ok E0 P:=gL.oh (o7 a sK 100) aF
def aar(a:e1 E0 P aG):Nf.Ok E0 P:=gL.oh (o7 a sK 100) aF
def aas(a:e1 E0 P aG):∀s∈[M7,M_,Na,Nb,Nc,Nd,Nf],s.Ok E0 P:=by
 intro s b;simp only[List.mem_cons,List.not_mem_nil,or_false]at b;rcases b with rfl|rfl|rfl|rfl|rfl|rfl|rfl
 ·exact aaj a
 ·exact aam a
 ·exact aan a
 ·exact aao a
 ·exact aap a
 ·exact aaq a
 ·exact aar a
def aau(a:e1 E0 P aG)(H:ae):hr E0 P 16 [] H (C J) H:=by
 obtain⟨H0,c⟩:=VI (b:=true) (m:=5) (f:=16) (args:=[]) (H:=ae.empty) (Iy a (aas a)) aai aF;exact U5 c H

/-
  Texts of one proof, laid together: Kt Kt7 Kn K7x0.
-/
import Derived.Test.YtmhhnnklfcbgfaaGreatMF
import Derived.Test.YtmhhnnklfcbgfaaGreatMG
import Derived.Test.YtmhhnnklfcbgfaaGreatMH
import Derived.Test.YtmhhnnklfcbgfaaGreatMI
import Derived.Test.YtmhhnnklfcbgfaaGreatMJ
import Derived.Test.YtmhhnnklfcbgfaaGreatMK
import Derived.Test.YtmhhnnklfcbgfaaGreatML
import Derived.Test.YtmhhnnklfcbgfaaGreatMM
import Derived.Test.YtmhhnnklfcbgfaaGreatMN
import Derived.Test.YtmhhnnklfcbgfaaGreatMO
import Derived.Test.YtmhhnnklfcbgfaaGreatMP
set_option linter.unusedVariables false
set_option linter.unusedSimpArgs false
set_option linter.defProp false
open Option renaming some→D,none→Y
open Bool renaming true→V,false→U
open Go.bN.aa renaming int→I,str→X,bool→Z
open Go.IntKind renaming i64→J
namespace Go.Proofs.YtmhhnnklfcbgfaaGreat
open Go.bN
section
set_option maxRecDepth 100000
noncomputable section
abbrev av:Nat:=1000000
def Gs:aQ aI P 11 (λG l H=>a2 l λa=>nV G a H):=bz (N:=av) aR ⟨Tryz.func11,j,j,j⟩ λG a H=>KR G av a H
def sC:aQ aI P 13 (λG l H=>aY l λa b=>gS G av a b H):=bq (N:=av) aR ⟨Tryz.func13,j,j,j⟩ λG a b H=>LQ G av a b H
def GS:aQ aI P 14 (λG l H=>a2 l λa=>ov G a H):=bz (N:=av) aR ⟨Tryz.func14,j,j,j⟩ λG a H=>L4 G av a H
def x3:aQ aI P 16 (λG l H=>c_ l (jF G H)):=hK (N:=av) aR ⟨Tryz.func16,j,j,j⟩ λG H=>M8 G av H
def sD:aQ aI P 17 (λG l H=>aY l λa b=>gW G av a b H):=bq (N:=av) aR ⟨Tryz.func17,j,j,j⟩ λG a b H=>Np G av a b H
def Hs:aQ aI P 18 (λG l H=>a2 l λa=>o5 G av a H):=bz (N:=av) aR ⟨Tryz.func18,j,j,j⟩ λG a H=>N4 G av a H
def HL:aQ aI P 20 (λG l H=>a2 l λa=>pr G av a H):=bz (N:=av) aR ⟨Tryz.func20,j,j,j⟩ λG a H=>Pj G av a H
def H7:aQ aI P 22 (λG l H=>aY l λa b=>pN G a b H):=bq (N:=av) aR ⟨Tryz.func22,j,j,j⟩ λG a b H=>P7 G av a b H
def I0:aQ aI P 33 (λG l H=>a2 l λa=>qB G av a H):=bz (N:=av) aR ⟨Tryz.func33,j,j,j⟩ λG a H=>Rv G av a H
def I1:aQ aI P 34 (λG l H=>a2 l λa=>qC G av a H):=bz (N:=av) aR ⟨Tryz.func34,j,j,j⟩ λG a H=>RB G av a H
def I2:aQ aI P 35 (λG l H=>a2 l λa=>qD G a H):=bz (N:=av) aR ⟨Tryz.func35,j,j,j⟩ λG a H=>RG G av a H
def I3:aQ aI P 36 (λG l H=>a2 l λa=>qE G av a H):=bz (N:=av) aR ⟨Tryz.func36,j,j,j⟩ λG a H=>RI G av a H
def I4:aQ aI P 38 (λG l H=>a2 l λa=>qF G av a H):=bz (N:=av) aR ⟨Tryz.func38,j,j,j⟩ λG a H=>RL G av a H
def I5:aQ aI P 40 (λG l H=>bK l λa b c=>qH G av a b c H):=cf (N:=av) aR ⟨Tryz.func40,j,j,j⟩ λG a b c H=>RQ G av a b c H
def I6:aQ aI P 41 (λG l H=>a2 l λa=>qI G a H):=bz (N:=av) aR ⟨Tryz.func41,j,j,j⟩ λG a H=>RV G av a H
def I7:aQ aI P 42 (λG l H=>a2 l λa=>qJ G a H):=bz (N:=av) aR ⟨Tryz.func42,j,j,j⟩ λG a H=>RW G av a H
def I8:aQ aI P 43 (λG l H=>a2 l λa=>qK G a H):=bz (N:=av) aR ⟨Tryz.func43,j,j,j⟩ λG a H=>RX G av a H
def I9:aQ aI P 44 (λG l H=>aY l λa b=>qL G a b H):=bq (N:=av) aR ⟨Tryz.func44,j,j,j⟩ λG a b H=>RY G av a b H
def I_:aQ aI P 45 (λG l H=>aY l λa b=>qM G a b H):=bq (N:=av) aR ⟨Tryz.func45,j,j,j⟩ λG a b H=>RZ G av a b H
def Ja:aQ aI P 46 (λG l H=>aY l λa b=>qN G av a b H):=bq (N:=av) aR ⟨Tryz.func46,j,j,j⟩ λG a b H=>R3 G av a b H
def Jb:aQ aI P 47 (λG l H=>aY l λa b=>qO G a b H):=bq (N:=av) aR ⟨Tryz.func47,j,j,j⟩ λG a b H=>R6 G av a b H
def Jc:aQ aI P 50 (λG l H=>a2 l λa=>qP G a H):=bz (N:=av) aR ⟨Tryz.func50,j,j,j⟩ λG a H=>R7 G av a H
def Jd:aQ aI P 58 (λG l H=>a2 l λa=>qQ G av a H):=bz (N:=av) aR ⟨Tryz.func58,j,j,j⟩ λG a H=>R9 G av a H
def Je:aQ aI P 59 (λG l H=>a2 l λa=>qR G a H):=bz (N:=av) aR ⟨Tryz.func59,j,j,j⟩ λG a H=>Sa G av a H
def Jf:aQ aI P 60 (λG l H=>a2 l λa=>qS G a H):=bz (N:=av) aR ⟨Tryz.func60,j,j,j⟩ λG a H=>Sb G av a H
def Jg:aQ aI P 61 (λG l H=>aY l λa b=>qT G a b H):=bq (N:=av) aR ⟨Tryz.func61,j,j,j⟩ λG a b H=>Sc G av a b H
def Jh:aQ aI P 62 (λG l H=>aY l λa b=>qU G a b H):=bq (N:=av) aR ⟨Tryz.func62,j,j,j⟩ λG a b H=>Se G av a b H
def Ji:aQ aI P 63 (λG l H=>a2 l λa=>qV G av a H):=bz (N:=av) aR ⟨Tryz.func63,j,j,j⟩ λG a H=>Sg G av a H
def Jj:aQ aI P 64 (λG l H=>a2 l λa=>qW G a H):=bz (N:=av) aR ⟨Tryz.func64,j,j,j⟩ λG a H=>Si G av a H
def Jk:aQ aI P 65 (λG l H=>aY l λa b=>qX G a b H):=bq (N:=av) aR ⟨Tryz.func65,j,j,j⟩ λG a b H=>Sj G av a b H
def Jl:aQ aI P 66 (λG l H=>a2 l λa=>qY G av a H):=bz (N:=av) aR ⟨Tryz.func66,j,j,j⟩ λG a H=>Sl G av a H
def Jm:aQ aI P 67 (λG l H=>a2 l λa=>qZ G av a H):=bz (N:=av) aR ⟨Tryz.func67,j,j,j⟩ λG a H=>Sq G av a H
def Jn:aQ aI P 68 (λG l H=>a2 l λa=>q0 G av a H):=bz (N:=av) aR ⟨Tryz.func68,j,j,j⟩ λG a H=>Su G av a H
def Jo:aQ aI P 69 (λG l H=>a2 l λa=>q1 G av a H):=bz (N:=av) aR ⟨Tryz.func69,j,j,j⟩ λG a H=>SA G av a H
def Jq:aQ aI P 70 (λG l H=>aY l λa b=>q2 G a b H):=bq (N:=av) aR ⟨Tryz.func70,j,j,j⟩ λG a b H=>SD G av a b H
def Jr:aQ aI P 71 (λG l H=>aY l λa b=>q3 G av a b H):=bq (N:=av) aR ⟨Tryz.func71,j,j,j⟩ λG a b H=>SF G av a b H
def Js:aQ aI P 72 (λG l H=>a2 l λa=>q4 G a H):=bz (N:=av) aR ⟨Tryz.func72,j,j,j⟩ λG a H=>SG G av a H
def Jt:aQ aI P 73 (λG l H=>a2 l λa=>q5 G av a H):=bz (N:=av) aR ⟨Tryz.func73,j,j,j⟩ λG a H=>SK G av a H
def Ju:aQ aI P 74 (λG l H=>aY l λa b=>q6 G av a b H):=bq (N:=av) aR ⟨Tryz.func74,j,j,j⟩ λG a b H=>SO G av a b H
def Jv:aQ aI P 75 (λG l H=>a2 l λa=>q7 G av a H):=bz (N:=av) aR ⟨Tryz.func75,j,j,j⟩ λG a H=>SR G av a H
def Jw:aQ aI P 76 (λG l H=>a2 l λa=>q8 G av a H):=bz (N:=av) aR ⟨Tryz.func76,j,j,j⟩ λG a H=>SV G av a H
def Jx:aQ aI P 77 (λG l H=>a2 l λa=>q9 G av a H):=bz (N:=av) aR ⟨Tryz.func77,j,j,j⟩ λG a H=>SZ G av a H
def Jy:aQ aI P 78 (λG l H=>aY l λa b=>q_ G a b H):=bq (N:=av) aR ⟨Tryz.func78,j,j,j⟩ λG a b H=>S2 G av a b H
def Jz:aQ aI P 79 (λG l H=>a2 l λa=>ra G av a H):=bz (N:=av) aR ⟨Tryz.func79,j,j,j⟩ λG a H=>S5 G av a H
def JA:aQ aI P 80 (λG l H=>a2 l λa=>rb G av a H):=bz (N:=av) aR ⟨Tryz.func80,j,j,j⟩ λG a H=>S_ G av a H
def JB:aQ aI P 81 (λG l H=>aY l λa b=>re G av a b H):=bq (N:=av) aR ⟨Tryz.func81,j,j,j⟩ λG a b H=>Tc G av a b H
def JC:aQ aI P 84 (λG l H=>aY l λa b=>rf G a b H):=bq (N:=av) aR ⟨Tryz.func84,j,j,j⟩ λG a b H=>Te G av a b H
def JD:aQ aI P 85 (λG l H=>aY l λa b=>rh G a b H):=bq (N:=av) aR ⟨Tryz.func85,j,j,j⟩ λG a b H=>Tf G av a b H
def JE:aQ aI P 93 (λG l H=>bK l λa b c=>ri G a b c H):=cf (N:=av) aR ⟨Tryz.func93,j,j,j⟩ λG a b c H=>Tg G av a b c H
def JF:aQ aI P 94 (λG l H=>aY l λa b=>rj G a b H):=bq (N:=av) aR ⟨Tryz.func94,j,j,j⟩ λG a b H=>Tj G av a b H
def JG:aQ aI P 96 (λG l H=>a2 l λa=>rk G a H):=bz (N:=av) aR ⟨Tryz.func96,j,j,j⟩ λG a H=>Tk G av a H
def JH:aQ aI P 97 (λG l H=>aY l λa b=>rl G av a b H):=bq (N:=av) aR ⟨Tryz.func97,j,j,j⟩ λG a b H=>Tm G av a b H
def JI:aQ aI P 98 (λG l H=>bK l λa b c=>rm G a b c H):=cf (N:=av) aR ⟨Tryz.func98,j,j,j⟩ λG a b c H=>Tn G av a b c H
def JJ:aQ aI P 99 (λG l H=>aY l λa b=>rn G a b H):=bq (N:=av) aR ⟨Tryz.func99,j,j,j⟩ λG a b H=>To G av a b H
def Gq:aQ aI P 100 (λG l H=>aY l λa b=>nT G a b H):=bq (N:=av) aR ⟨Tryz.func100,j,j,j⟩ λG a b H=>J_ G av a b H
def Gr:aQ aI P 101 (λG l H=>aY l λa b=>nU G av a b H):=bq (N:=av) aR ⟨Tryz.func101,j,j,j⟩ λG a b H=>Kc G av a b H
def Gt:aQ aI P 112 (λG l H=>aY l λa b=>nW G av a b H):=bq (N:=av) aR ⟨Tryz.func112,j,j,j⟩ λG a b H=>Ki G av a b H
def Gu:aQ aI P 113 (λG l H=>aY l λa b=>nX G a b H):=bq (N:=av) aR ⟨Tryz.func113,j,j,j⟩ λG a b H=>Kk G av a b H
def Gv:aQ aI P 114 (λG l H=>a2 l λa=>nY G a H):=bz (N:=av) aR ⟨Tryz.func114,j,j,j⟩ λG a H=>Kl G av a H
def Gw:aQ aI P 115 (λG l H=>a2 l λa=>nZ G av a H):=bz (N:=av) aR ⟨Tryz.func115,j,j,j⟩ λG a H=>Ko G av a H
def Gx:aQ aI P 116 (λG l H=>a2 l λa=>n0 G av a H):=bz (N:=av) aR ⟨Tryz.func116,j,j,j⟩ λG a H=>Ku G av a H
def Gy:aQ aI P 117 (λG l H=>a2 l λa=>n1 G av a H):=bz (N:=av) aR ⟨Tryz.func117,j,j,j⟩ λG a H=>KB G av a H
def Gz:aQ aI P 118 (λG l H=>a2 l λa=>n2 G av a H):=bz (N:=av) aR ⟨Tryz.func118,j,j,j⟩ λG a H=>KM G av a H
def GA:aQ aI P 119 (λG l H=>aY l λa b=>n3 G av a b H):=bq (N:=av) aR ⟨Tryz.func119,j,j,j⟩ λG a b H=>KP G av a b H
def GB:aQ aI P 120 (λG l H=>a2 l λa=>n4 G a H):=bz (N:=av) aR ⟨Tryz.func120,j,j,j⟩ λG a H=>KS G av a H
def GC:aQ aI P 121 (λG l H=>aY l λa b=>n_ G av a b H):=bq (N:=av) aR ⟨Tryz.func121,j,j,j⟩ λG a b H=>KW G av a b H
def GD:aQ aI P 122 (λG l H=>aY l λa b=>oa G a b H):=bq (N:=av) aR ⟨Tryz.func122,j,j,j⟩ λG a b H=>KZ G av a b H
def GF:aQ aI P 123 (λG l H=>aY l λa b=>ob G a b H):=bq (N:=av) aR ⟨Tryz.func123,j,j,j⟩ λG a b H=>K2 G av a b H
def GG:aQ aI P 124 (λG l H=>aY l λa b=>oc G a b H):=bq (N:=av) aR ⟨Tryz.func124,j,j,j⟩ λG a b H=>K3 G av a b H
def GI:aQ aI P 125 (λG l H=>a2 l λa=>od G a H):=bz (N:=av) aR ⟨Tryz.func125,j,j,j⟩ λG a H=>K6 G av a H
def GJ:aQ aI P 126 (λG l H=>aY l λa b=>oe G av a b H):=bq (N:=av) aR ⟨Tryz.func126,j,j,j⟩ λG a b H=>K8 G av a b H
def GK:aQ aI P 127 (λG l H=>a2 l λa=>og G av a H):=bz (N:=av) aR ⟨Tryz.func127,j,j,j⟩ λG a H=>La G av a H
def GL:aQ aI P 128 (λG l H=>a2 l λa=>oh G a H):=bz (N:=av) aR ⟨Tryz.func128,j,j,j⟩ λG a H=>Lc G av a H
def GM:aQ aI P 129 (λG l H=>aY l λa b=>oi G a b H):=bq (N:=av) aR ⟨Tryz.func129,j,j,j⟩ λG a b H=>Ld G av a b H
def GN:aQ aI P 130 (λG l H=>cw l λa b c d=>oj G av a b c d H):=et (N:=av) aR ⟨Tryz.func130,j,j,j⟩ λG a b c d H=>Lk G av a b c d H
def GO:aQ aI P 131 (λG l H=>a2 l λa=>om G a H):=bz (N:=av) aR ⟨Tryz.func131,j,j,j⟩ λG a H=>Lq G av a H
def GP:aQ aI P 132 (λG l H=>a2 l λa=>oo G av a H):=bz (N:=av) aR ⟨Tryz.func132,j,j,j⟩ λG a H=>Ly G av a H
def GQ:aQ aI P 133 (λG l H=>aY l λa b=>oq G a b H):=bq (N:=av) aR ⟨Tryz.func133,j,j,j⟩ λG a b H=>LI G av a b H
def GR:aQ aI P 134 (λG l H=>aY l λa b=>ou G av a b H):=bq (N:=av) aR ⟨Tryz.func134,j,j,j⟩ λG a b H=>LN G av a b H
def GU:aQ aI P 144 (λG l H=>cw l λa b c d=>ow G av a b c d H):=et (N:=av) aR ⟨Tryz.func144,j,j,j⟩ λG a b c d H=>LU G av a b c d H
def GV:aQ aI P 145 (λG l H=>a2 l λa=>ox G a H):=bz (N:=av) aR ⟨Tryz.func145,j,j,j⟩ λG a H=>LY G av a H
def GW:aQ aI P 146 (λG l H=>aY l λa b=>oy G av a b H):=bq (N:=av) aR ⟨Tryz.func146,j,j,j⟩ λG a b H=>L0 G av a b H
def GX:aQ aI P 147 (λG l H=>aY l λa b=>oz G a b H):=bq (N:=av) aR ⟨Tryz.func147,j,j,j⟩ λG a b H=>L2 G av a b H
def GY:aQ aI P 149 (λG l H=>a2 l λa=>oA G a H):=bz (N:=av) aR ⟨Tryz.func149,j,j,j⟩ λG a H=>L3 G av a H
def GZ:aQ aI P 150 (λG l H=>bK l λa b c=>oB G av a b c H):=cf (N:=av) aR ⟨Tryz.func150,j,j,j⟩ λG a b c H=>L6 G av a b c H
def G0:aQ aI P 151 (λG l H=>a2 l λa=>oC G av a H):=bz (N:=av) aR ⟨Tryz.func151,j,j,j⟩ λG a H=>L9 G av a H
def G1:aQ aI P 152 (λG l H=>a2 l λa=>oD G av a H):=bz (N:=av) aR ⟨Tryz.func152,j,j,j⟩ λG a H=>Mb G av a H
def G2:aQ aI P 153 (λG l H=>a2 l λa=>oE G a H):=bz (N:=av) aR ⟨Tryz.func153,j,j,j⟩ λG a H=>Md G av a H
def G3:aQ aI P 154 (λG l H=>a2 l λa=>oF G av a H):=bz (N:=av) aR ⟨Tryz.func154,j,j,j⟩ λG a H=>Mf G av a H
def G4:aQ aI P 155 (λG l H=>aY l λa b=>oG G av a b H):=bq (N:=av) aR ⟨Tryz.func155,j,j,j⟩ λG a b H=>Mj G av a b H
def G5:aQ aI P 156 (λG l H=>aY l λa b=>oH G a b H):=bq (N:=av) aR ⟨Tryz.func156,j,j,j⟩ λG a b H=>Mm G av a b H
def G6:aQ aI P 157 (λG l H=>a2 l λa=>oI G a H):=bz (N:=av) aR ⟨Tryz.func157,j,j,j⟩ λG a H=>Mn G av a H
def G7:aQ aI P 158 (λG l H=>aY l λa b=>oJ G a b H):=bq (N:=av) aR ⟨Tryz.func158,j,j,j⟩ λG a b H=>Ms G av a b H
def G8:aQ aI P 159 (λG l H=>a2 l λa=>oK G a H):=bz (N:=av) aR ⟨Tryz.func159,j,j,j⟩ λG a H=>Mt G av a H
def G9:aQ aI P 160 (λG l H=>aY l λa b=>oL G av a b H):=bq (N:=av) aR ⟨Tryz.func160,j,j,j⟩ λG a b H=>Mw G av a b H
def G_:aQ aI P 161 (λG l H=>aY l λa b=>oM G av a b H):=bq (N:=av) aR ⟨Tryz.func161,j,j,j⟩ λG a b H=>MB G av a b H
def Ha:aQ aI P 162 (λG l H=>aY l λa b=>oN G av a b H):=bq (N:=av) aR ⟨Tryz.func162,j,j,j⟩ λG a b H=>MF G av a b H
def Hb:aQ aI P 163 (λG l H=>aY l λa b=>oO G av a b H):=bq (N:=av) aR ⟨Tryz.func163,j,j,j⟩ λG a b H=>MT G av a b H
def Hc:aQ aI P 164 (λG l H=>a2 l λa=>oP G av a H):=bz (N:=av) aR ⟨Tryz.func164,j,j,j⟩ λG a H=>MW G av a H
def Hd:aQ aI P 165 (λG l H=>aY l λa b=>oQ G a b H):=bq (N:=av) aR ⟨Tryz.func165,j,j,j⟩ λG a b H=>MX G av a b H
def He:aQ aI P 166 (λG l H=>aY l λa b=>oR G av a b H):=bq (N:=av) aR ⟨Tryz.func166,j,j,j⟩ λG a b H=>M3 G av a b H
def Hf:aQ aI P 167 (λG l H=>c_ l (oS G H)):=hK (N:=av) aR ⟨Tryz.func167,j,j,j⟩ λG H=>M5 G av H
def Hg:aQ aI P 168 (λG l H=>bK l λa b c=>oT G a b c H):=cf (N:=av) aR ⟨Tryz.func168,j,j,j⟩ λG a b c H=>M6 G av a b c H
def Hh:aQ aI P 169 (λG l H=>eJ l λa b c d x=>oU G a b c d x H):=ss (N:=av) aR ⟨Tryz.func169,j,j,j⟩ λG a b c d x H=>M7 G av a b c d x H
def Hi:aQ aI P 170 (λG l H=>aY l λa b=>oV G a b H):=bq (N:=av) aR ⟨Tryz.func170,j,j,j⟩ λG a b H=>M9 G av a b H
def Hj:aQ aI P 171 (λG l H=>aY l λa b=>oW G av a b H):=bq (N:=av) aR ⟨Tryz.func171,j,j,j⟩ λG a b H=>Na G av a b H
def Hk:aQ aI P 172 (λG l H=>aY l λa b=>oX G a b H):=bq (N:=av) aR ⟨Tryz.func172,j,j,j⟩ λG a b H=>Nd G av a b H
def Hl:aQ aI P 173 (λG l H=>aY l λa b=>oY G a b H):=bq (N:=av) aR ⟨Tryz.func173,j,j,j⟩ λG a b H=>Nf G av a b H
def Hm:aQ aI P 174 (λG l H=>aY l λa b=>oZ G a b H):=bq (N:=av) aR ⟨Tryz.func174,j,j,j⟩ λG a b H=>Ng G av a b H
def Hn:aQ aI P 175 (λG l H=>aY l λa b=>o0 G a b H):=bq (N:=av) aR ⟨Tryz.func175,j,j,j⟩ λG a b H=>Nh G av a b H
def Ho:aQ aI P 176 (λG l H=>aY l λa b=>o1 G a b H):=bq (N:=av) aR ⟨Tryz.func176,j,j,j⟩ λG a b H=>Ni G av a b H
def Hp:aQ aI P 177 (λG l H=>aY l λa b=>o2 G a b H):=bq (N:=av) aR ⟨Tryz.func177,j,j,j⟩ λG a b H=>Nj G av a b H
def Hq:aQ aI P 178 (λG l H=>cw l λa b c d=>o3 G a b c d H):=et (N:=av) aR ⟨Tryz.func178,j,j,j⟩ λG a b c d H=>Nk G av a b c d H
def Hr:aQ aI P 179 (λG l H=>cw l λa b c d=>o4 G a b c d H):=et (N:=av) aR ⟨Tryz.func179,j,j,j⟩ λG a b c d H=>Nl G av a b c d H
def Ht:aQ aI P 180 (λG l H=>aY l λa b=>o6 G av a b H):=bq (N:=av) aR ⟨Tryz.func180,j,j,j⟩ λG a b H=>Ns G av a b H
def Hu:aQ aI P 181 (λG l H=>aY l λa b=>o7 G a b H):=bq (N:=av) aR ⟨Tryz.func181,j,j,j⟩ λG a b H=>Nt G av a b H
def Hv:aQ aI P 182 (λG l H=>a2 l λa=>o8 G av a H):=bz (N:=av) aR ⟨Tryz.func182,j,j,j⟩ λG a H=>Nx G av a H
def Hw:aQ aI P 183 (λG l H=>a2 l λa=>o9 G av a H):=bz (N:=av) aR ⟨Tryz.func183,j,j,j⟩ λG a H=>NA G av a H
def Hx:aQ aI P 184 (λG l H=>bK l λa b c=>o_ G a b c H):=cf (N:=av) aR ⟨Tryz.func184,j,j,j⟩ λG a b c H=>ND G av a b c H
def Hy:aQ aI P 185 (λG l H=>a2 l λa=>pa G av a H):=bz (N:=av) aR ⟨Tryz.func185,j,j,j⟩ λG a H=>NG G av a H
def Hz:aQ aI P 186 (λG l H=>a2 l λa=>pb G av a H):=bz (N:=av) aR ⟨Tryz.func186,j,j,j⟩ λG a H=>NJ G av a H
def HA:aQ aI P 187 (λG l H=>aY l λa b=>pc G av a b H):=bq (N:=av) aR ⟨Tryz.func187,j,j,j⟩ λG a b H=>NM G av a b H
def HB:aQ aI P 188 (λG l H=>aY l λa b=>pd G av a b H):=bq (N:=av) aR ⟨Tryz.func188,j,j,j⟩ λG a b H=>NS G av a b H
def HC:aQ aI P 189 (λG l H=>a2 l λa=>pe G av a H):=bz (N:=av) aR ⟨Tryz.func189,j,j,j⟩ λG a H=>NX G av a H
def HD:aQ aI P 190 (λG l H=>aY l λa b=>pf G a b H):=bq (N:=av) aR ⟨Tryz.func190,j,j,j⟩ λG a b H=>N8 G av a b H
def HE:aQ aI P 191 (λG l H=>bK l λa b c=>pg G av a b c H):=cf (N:=av) aR ⟨Tryz.func191,j,j,j⟩ λG a b c H=>N_ G av a b c H
def HF:aQ aI P 195 (λG l H=>bK l λa b c=>ph G av a b c H):=cf (N:=av) aR ⟨Tryz.func195,j,j,j⟩ λG a b c H=>Od G av a b c H
def HG:aQ aI P 196 (λG l H=>bK l λa b c=>pj G av a b c H):=cf (N:=av) aR ⟨Tryz.func196,j,j,j⟩ λG a b c H=>Oh G av a b c H
def HH:aQ aI P 197 (λG l H=>bK l λa b c=>pk G av a b c H):=cf (N:=av) aR ⟨Tryz.func197,j,j,j⟩ λG a b c H=>Ol G av a b c H
def HJ:aQ aI P 198 (λG l H=>bK l λa b c=>pn G a b c H):=cf (N:=av) aR ⟨Tryz.func198,j,j,j⟩ λG a b c H=>Oo G av a b c H
def HK:aQ aI P 199 (λG l H=>bK l λa b c=>po G av a b c H):=cf (N:=av) aR ⟨Tryz.func199,j,j,j⟩ λG a b c H=>Ov G av a b c H
def HM:aQ aI P 200 (λG l H=>bK l λa b c=>ps G av a b c H):=cf (N:=av) aR ⟨Tryz.func200,j,j,j⟩ λG a b c H=>OA G av a b c H
def HN:aQ aI P 201 (λG l H=>aY l λa b=>pt G a b H):=bq (N:=av) aR ⟨Tryz.func201,j,j,j⟩ λG a b H=>OF G av a b H
def HO:aQ aI P 202 (λG l H=>cw l λa b c d=>pv G av a b c d H):=et (N:=av) aR ⟨Tryz.func202,j,j,j⟩ λG a b c d H=>OJ G av a b c d H
def HP:aQ aI P 203 (λG l H=>cw l λa b c d=>pw G av a b c d H):=et (N:=av) aR ⟨Tryz.func203,j,j,j⟩ λG a b c d H=>OT G av a b c d H
def HQ:aQ aI P 204 (λG l H=>a2 l λa=>px G a H):=bz (N:=av) aR ⟨Tryz.func204,j,j,j⟩ λG a H=>OZ G av a H
def HR:aQ aI P 205 (λG l H=>a2 l λa=>py G a H):=bz (N:=av) aR ⟨Tryz.func205,j,j,j⟩ λG a H=>O2 G av a H
def HS:aQ aI P 206 (λG l H=>c_ l (pz G H)):=hK (N:=av) aR ⟨Tryz.func206,j,j,j⟩ λG H=>O6 G av H
def HT:aQ aI P 207 (λG l H=>aY l λa b=>pA G av a b H):=bq (N:=av) aR ⟨Tryz.func207,j,j,j⟩ λG a b H=>O8 G av a b H
def HU:aQ aI P 208 (λG l H=>aY l λa b=>pB G a b H):=bq (N:=av) aR ⟨Tryz.func208,j,j,j⟩ λG a b H=>O_ G av a b H
def HV:aQ aI P 209 (λG l H=>aY l λa b=>pC G a b H):=bq (N:=av) aR ⟨Tryz.func209,j,j,j⟩ λG a b H=>Pd G av a b H
def HW:aQ aI P 210 (λG l H=>aY l λa b=>pD G a b H):=bq (N:=av) aR ⟨Tryz.func210,j,j,j⟩ λG a b H=>Pn G av a b H
def HX:aQ aI P 211 (λG l H=>aY l λa b=>pE G av a b H):=bq (N:=av) aR ⟨Tryz.func211,j,j,j⟩ λG a b H=>Pp G av a b H
def HY:aQ aI P 212 (λG l H=>aY l λa b=>pF G a b H):=bq (N:=av) aR ⟨Tryz.func212,j,j,j⟩ λG a b H=>Ps G av a b H
def HZ:aQ aI P 213 (λG l H=>aY l λa b=>pG G av a b H):=bq (N:=av) aR ⟨Tryz.func213,j,j,j⟩ λG a b H=>Pw G av a b H
def H0:aQ aI P 214 (λG l H=>c_ l (pH G H)):=hK (N:=av) aR ⟨Tryz.func214,j,j,j⟩ λG H=>Pz G av H
def H2:aQ aI P 215 (λG l H=>c_ l (pI G H)):=hK (N:=av) aR ⟨Tryz.func215,j,j,j⟩ λG H=>PA G av H
def H3:aQ aI P 216 (λG l H=>aY l λa b=>pJ G a b H):=bq (N:=av) aR ⟨Tryz.func216,j,j,j⟩ λG a b H=>PB G av a b H
def H4:aQ aI P 217 (λG l H=>a2 l λa=>pK G a H):=bz (N:=av) aR ⟨Tryz.func217,j,j,j⟩ λG a H=>PC G av a H
def H5:aQ aI P 218 (λG l H=>a2 l λa=>pL G a H):=bz (N:=av) aR ⟨Tryz.func218,j,j,j⟩ λG a H=>PJ G av a H
def H6:aQ aI P 219 (λG l H=>aY l λa b=>pM G av a b H):=bq (N:=av) aR ⟨Tryz.func219,j,j,j⟩ λG a b H=>PL G av a b H
def H8:aQ aI P 220 (λG l H=>bK l λa b c=>pO G a b c H):=cf (N:=av) aR ⟨Tryz.func220,j,j,j⟩ λG a b c H=>PN G av a b c H
def H9:aQ aI P 221 (λG l H=>bK l λa b c=>pP G a b c H):=cf (N:=av) aR ⟨Tryz.func221,j,j,j⟩ λG a b c H=>PO G av a b c H
def H_:aQ aI P 222 (λG l H=>aY l λa b=>pQ G a b H):=bq (N:=av) aR ⟨Tryz.func222,j,j,j⟩ λG a b H=>PR G av a b H
def Ia:aQ aI P 223 (λG l H=>a2 l λa=>pR G a H):=bz (N:=av) aR ⟨Tryz.func223,j,j,j⟩ λG a H=>PS G av a H
def Ib:aQ aI P 224 (λG l H=>a2 l λa=>pS G a H):=bz (N:=av) aR ⟨Tryz.func224,j,j,j⟩ λG a H=>PT G av a H
def Ic:aQ aI P 225 (λG l H=>bK l λa b c=>pT G av a b c H):=cf (N:=av) aR ⟨Tryz.func225,j,j,j⟩ λG a b c H=>PV G av a b c H
def Ie:aQ aI P 226 (λG l H=>aY l λa b=>pU G av a b H):=bq (N:=av) aR ⟨Tryz.func226,j,j,j⟩ λG a b H=>PY G av a b H
def Ig:aQ aI P 227 (λG l H=>bK l λa b c=>pV G a b c H):=cf (N:=av) aR ⟨Tryz.func227,j,j,j⟩ λG a b c H=>P0 G av a b c H
def Ih:aQ aI P 228 (λG l H=>aY l λa b=>pW G av a b H):=bq (N:=av) aR ⟨Tryz.func228,j,j,j⟩ λG a b H=>P2 G av a b H
def Ii:aQ aI P 229 (λG l H=>cw l λa b c d=>pX G av a b c d H):=et (N:=av) aR ⟨Tryz.func229,j,j,j⟩ λG a b c d H=>P5 G av a b c d H
def Ij:aQ aI P 230 (λG l H=>a2 l λa=>pY G a H):=bz (N:=av) aR ⟨Tryz.func230,j,j,j⟩ λG a H=>P8 G av a H
def Ik:aQ aI P 231 (λG l H=>a2 l λa=>pZ G a H):=bz (N:=av) aR ⟨Tryz.func231,j,j,j⟩ λG a H=>P9 G av a H
def Il:aQ aI P 232 (λG l H=>bK l λa b c=>p0 G a b c H):=cf (N:=av) aR ⟨Tryz.func232,j,j,j⟩ λG a b c H=>P_ G av a b c H
def Im:aQ aI P 233 (λG l H=>eJ l λa b c d x=>p1 G a b c d x H):=ss (N:=av) aR ⟨Tryz.func233,j,j,j⟩ λG a b c d x H=>Qa G av a b c d x H
def Io:aQ aI P 234 (λG l H=>a2 l λa=>p2 G a H):=bz (N:=av) aR ⟨Tryz.func234,j,j,j⟩ λG a H=>Qb G av a H
def Ip:aQ aI P 235 (λG l H=>a2 l λa=>p3 G a H):=bz (N:=av) aR ⟨Tryz.func235,j,j,j⟩ λG a H=>Qc G av a H
def Iq:aQ aI P 236 (λG l H=>aY l λa b=>p4 G av a b H):=bq (N:=av) aR ⟨Tryz.func236,j,j,j⟩ λG a b H=>Qf G av a b H
def Ir:aQ aI P 237 (λG l H=>a2 l λa=>p5 G a H):=bz (N:=av) aR ⟨Tryz.func237,j,j,j⟩ λG a H=>Qh G av a H
def Is:aQ aI P 238 (λG l H=>aY l λa b=>p6 G a b H):=bq (N:=av) aR ⟨Tryz.func238,j,j,j⟩ λG a b H=>Qm G av a b H
def It:aQ aI P 239 (λG l H=>bK l λa b c=>p7 G av a b c H):=cf (N:=av) aR ⟨Tryz.func239,j,j,j⟩ λG a b c H=>Qt G av a b c H
def Iu:aQ aI P 240 (λG l H=>eJ l λa b c d x=>p8 G a b c d x H):=ss (N:=av) aR ⟨Tryz.func240,j,j,j⟩ λG a b c d x H=>Qx G av a b c d x H
def Iv:aQ aI P 241 (λG l H=>aY l λa b=>p9 G a b H):=bq (N:=av) aR ⟨Tryz.func241,j,j,j⟩ λG a b H=>Qy G av a b H
def Iw:aQ aI P 242 (λG l H=>aY l λa b=>p_ G a b H):=bq (N:=av) aR ⟨Tryz.func242,j,j,j⟩ λG a b H=>Qz G av a b H
def Ix:aQ aI P 243 (λG l H=>aY l λa b=>qa G a b H):=bq (N:=av) aR ⟨Tryz.func243,j,j,j⟩ λG a b H=>QA G av a b H
def Iy:aQ aI P 244 (λG l H=>bK l λa b c=>qb G av a b c H):=cf (N:=av) aR ⟨Tryz.func244,j,j,j⟩ λG a b c H=>QC G av a b c H
def Iz:aQ aI P 245 (λG l H=>a2 l λa=>qc G a H):=bz (N:=av) aR ⟨Tryz.func245,j,j,j⟩ λG a H=>QE G av a H
def IA:aQ aI P 246 (λG l H=>cw l λa b c d=>qd G a b c d H):=et (N:=av) aR ⟨Tryz.func246,j,j,j⟩ λG a b c d H=>QK G av a b c d H
def IB:aQ aI P 247 (λG l H=>bK l λa b c=>qe G a b c H):=cf (N:=av) aR ⟨Tryz.func247,j,j,j⟩ λG a b c H=>QL G av a b c H
def IC:aQ aI P 248 (λG l H=>bK l λa b c=>qf G a b c H):=cf (N:=av) aR ⟨Tryz.func248,j,j,j⟩ λG a b c H=>QM G av a b c H
def ID:aQ aI P 249 (λG l H=>a2 l λa=>qg G a H):=bz (N:=av) aR ⟨Tryz.func249,j,j,j⟩ λG a H=>QN G av a H
def IE:aQ aI P 250 (λG l H=>aY l λa b=>qh G av a b H):=bq (N:=av) aR ⟨Tryz.func250,j,j,j⟩ λG a b H=>QS G av a b H
def IF:aQ aI P 251 (λG l H=>bK l λa b c=>qi G av a b c H):=cf (N:=av) aR ⟨Tryz.func251,j,j,j⟩ λG a b c H=>QU G av a b c H
def IG:aQ aI P 252 (λG l H=>aY l λa b=>qj G a b H):=bq (N:=av) aR ⟨Tryz.func252,j,j,j⟩ λG a b H=>QX G av a b H
def IH:aQ aI P 253 (λG l H=>aY l λa b=>qk G a b H):=bq (N:=av) aR ⟨Tryz.func253,j,j,j⟩ λG a b H=>QY G av a b H
def II:aQ aI P 254 (λG l H=>cw l λa b c d=>ql G a b c d H):=et (N:=av) aR ⟨Tryz.func254,j,j,j⟩ λG a b c d H=>QZ G av a b c d H
def IK:aQ aI P 255 (λG l H=>aY l λa b=>qm G av a b H):=bq (N:=av) aR ⟨Tryz.func255,j,j,j⟩ λG a b H=>Q1 G av a b H
def IL:aQ aI P 256 (λG l H=>a2 l λa=>qn G a H):=bz (N:=av) aR ⟨Tryz.func256,j,j,j⟩ λG a H=>Q3 G av a H
def IM:aQ aI P 257 (λG l H=>bK l λa b c=>qo G av a b c H):=cf (N:=av) aR ⟨Tryz.func257,j,j,j⟩ λG a b c H=>Q9 G av a b c H
def IN:aQ aI P 258 (λG l H=>a2 l λa=>qp G av a H):=bz (N:=av) aR ⟨Tryz.func258,j,j,j⟩ λG a H=>Re G av a H
def IP:aQ aI P 259 (λG l H=>aY l λa b=>qq G a b H):=bq (N:=av) aR ⟨Tryz.func259,j,j,j⟩ λG a b H=>Rg G av a b H
def IQ:aQ aI P 260 (λG l H=>bK l λa b c=>qs G a b c H):=cf (N:=av) aR ⟨Tryz.func260,j,j,j⟩ λG a b c H=>Rh G av a b c H
def IS:aQ aI P 261 (λG l H=>aY l λa b=>qt G av a b H):=bq (N:=av) aR ⟨Tryz.func261,j,j,j⟩ λG a b H=>Rj G av a b H
def IT:aQ aI P 262 (λG l H=>aY l λa b=>qu G a b H):=bq (N:=av) aR ⟨Tryz.func262,j,j,j⟩ λG a b H=>Rl G av a b H
def IU:aQ aI P 263 (λG l H=>a2 l λa=>qv G a H):=bz (N:=av) aR ⟨Tryz.func263,j,j,j⟩ λG a H=>Rm G av a H
def IV:aQ aI P 264 (λG l H=>a2 l λa=>qw G av a H):=bz (N:=av) aR ⟨Tryz.func264,j,j,j⟩ λG a H=>Ro G av a H
def IW:aQ aI P 281 (λG l H=>bK l λa b c=>qx G a b c H):=cf (N:=av) aR ⟨Tryz.func281,j,j,j⟩ λG a b c H=>Rq G av a b c H
def IX:aQ aI P 282 (λG l H=>bK l λa b c=>qy G a b c H):=cf (N:=av) aR ⟨Tryz.func282,j,j,j⟩ λG a b c H=>Rr G av a b c H
def IY:aQ aI P 283 (λG l H=>a2 l λa=>qz G a H):=bz (N:=av) aR ⟨Tryz.func283,j,j,j⟩ λG a H=>Rs G av a H
def IZ:aQ aI P 284 (λG l H=>aY l λa b=>qA G a b H):=bq (N:=av) aR ⟨Tryz.func284,j,j,j⟩ λG a b H=>Rt G av a b H
def Fv:cM:=(.node 165 (.node 94 (.node 60 (.node 36 (.node 18 (.node 14 (.node 11 (.leaf 11 λG l H=>a2 l λa=>nV G a H) (.node 13 (.leaf 13 λG l H=>aY l λa b=>gS G av a b H) (.leaf 14 λG l H=>a2 l λa=>ov G a H))) (.node 16 (.leaf 16 λG l H=>c_ l (jF G H)) (.node 17 (.leaf 17 λG l H=>aY l λa b=>gW G av a b H) (.leaf 18 λG l H=>a2 l λa=>o5 G av a H)))) (.node 33 (.node 20 (.leaf 20 λG l H=>a2 l λa=>pr G av a H) (.node 22 (.leaf 22 λG l H=>aY l λa b=>pN G a b H) (.leaf 33 λG l H=>a2 l λa=>qB G av a H))) (.node 34 (.leaf 34 λG l H=>a2 l λa=>qC G av a H) (.node 35 (.leaf 35 λG l H=>a2 l λa=>qD G a H) (.leaf 36 λG l H=>a2 l λa=>qE G av a H))))) (.node 44 (.node 41 (.node 38 (.leaf 38 λG l H=>a2 l λa=>qF G av a H) (.node 40 (.leaf 40 λG l H=>bK l λa b c=>qH G av a b c H) (.leaf 41 λG l H=>a2 l λa=>qI G a H))) (.node 42 (.leaf 42 λG l H=>a2 l λa=>qJ G a H) (.node 43 (.leaf 43 λG l H=>a2 l λa=>qK G a H) (.leaf 44 λG l H=>aY l λa b=>qL G a b H)))) (.node 47 (.node 45 (.leaf 45 λG l H=>aY l λa b=>qM G a b H) (.node 46 (.leaf 46 λG l H=>aY l λa b=>qN G av a b H) (.leaf 47 λG l H=>aY l λa b=>qO G a b H))) (.node 58 (.node 50 (.leaf 50 λG l H=>a2 l λa=>qP G a H) (.leaf 58 λG l H=>a2 l λa=>qQ G av a H)) (.node 59 (.leaf 59 λG l H=>a2 l λa=>qR G a H) (.leaf 60 λG l H=>a2 l λa=>qS G a H)))))) (.node 72 (.node 66 (.node 63 (.node 61 (.leaf 61 λG l H=>aY l λa b=>qT G a b H) (.node 62 (.leaf 62 λG l H=>aY l λa b=>qU G a b H) (.leaf 63 λG l H=>a2 l λa=>qV G av a H))) (.node 64 (.leaf 64 λG l H=>a2 l λa=>qW G a H) (.node 65 (.leaf 65 λG l H=>aY l λa b=>qX G a b H) (.leaf 66 λG l H=>a2 l λa=>qY G av a H)))) (.node 69 (.node 67 (.leaf 67 λG l H=>a2 l λa=>qZ G av a H) (.node 68 (.leaf 68 λG l H=>a2 l λa=>q0 G av a H) (.leaf 69 λG l H=>a2 l λa=>q1 G av a H))) (.node 70 (.leaf 70 λG l H=>aY l λa b=>q2 G a b H) (.node 71 (.leaf 71 λG l H=>aY l λa b=>q3 G av a b H) (.leaf 72 λG l H=>a2 l λa=>q4 G a H))))) (.node 78 (.node 75 (.node 73 (.leaf 73 λG l H=>a2 l λa=>q5 G av a H) (.node 74 (.leaf 74 λG l H=>aY l λa b=>q6 G av a b H) (.leaf 75 λG l H=>a2 l λa=>q7 G av a H))) (.node 76 (.leaf 76 λG l H=>a2 l λa=>q8 G av a H) (.node 77 (.leaf 77 λG l H=>a2 l λa=>q9 G av a H) (.leaf 78 λG l H=>aY l λa b=>q_ G a b H)))) (.node 81 (.node 79 (.leaf 79 λG l H=>a2 l λa=>ra G av a H) (.node 80 (.leaf 80 λG l H=>a2 l λa=>rb G av a H) (.leaf 81 λG l H=>aY l λa b=>re G av a b H))) (.node 85 (.node 84 (.leaf 84 λG l H=>aY l λa b=>rf G a b H) (.leaf 85 λG l H=>aY l λa b=>rh G a b H)) (.node 93 (.leaf 93 λG l H=>bK l λa b c=>ri G a b c H) (.leaf 94 λG l H=>aY l λa b=>rj G a b H))))))) (.node 130 (.node 117 (.node 101 (.node 98 (.node 96 (.leaf 96 λG l H=>a2 l λa=>rk G a H) (.node 97 (.leaf 97 λG l H=>aY l λa b=>rl G av a b H) (.leaf 98 λG l H=>bK l λa b c=>rm G a b c H))) (.node 99 (.leaf 99 λG l H=>aY l λa b=>rn G a b H) (.node 100 (.leaf 100 λG l H=>aY l λa b=>nT G a b H) (.leaf 101 λG l H=>aY l λa b=>nU G av a b H)))) (.node 114 (.node 112 (.leaf 112 λG l H=>aY l λa b=>nW G av a b H) (.node 113 (.leaf 113 λG l H=>aY l λa b=>nX G a b H) (.leaf 114 λG l H=>a2 l λa=>nY G a H))) (.node 115 (.leaf 115 λG l H=>a2 l λa=>nZ G av a H) (.node 116 (.leaf 116 λG l H=>a2 l λa=>n0 G av a H) (.leaf 117 λG l H=>a2 l λa=>n1 G av a H))))) (.node 123 (.node 120 (.node 118 (.leaf 118 λG l H=>a2 l λa=>n2 G av a H) (.node 119 (.leaf 119 λG l H=>aY l λa b=>n3 G av a b H) (.leaf 120 λG l H=>a2 l λa=>n4 G a H))) (.node 121 (.leaf 121 λG l H=>aY l λa b=>n_ G av a b H) (.node 122 (.leaf 122 λG l H=>aY l λa b=>oa G a b H) (.leaf 123 λG l H=>aY l λa b=>ob G a b H)))) (.node 126 (.node 124 (.leaf 124 λG l H=>aY l λa b=>oc G a b H) (.node 125 (.leaf 125 λG l H=>a2 l λa=>od G a H) (.leaf 126 λG l H=>aY l λa b=>oe G av a b H))) (.node 128 (.node 127 (.leaf 127 λG l H=>a2 l λa=>og G av a H) (.leaf 128 λG l H=>a2 l λa=>oh G a H)) (.node 129 (.leaf 129 λG l H=>aY l λa b=>oi G a b H) (.leaf 130 λG l H=>cw l λa b c d=>oj G av a b c d H)))))) (.node 152 (.node 145 (.node 133 (.node 131 (.leaf 131 λG l H=>a2 l λa=>om G a H) (.node 132 (.leaf 132 λG l H=>a2 l λa=>oo G av a H) (.leaf 133 λG l H=>aY l λa b=>oq G a b H))) (.node 134 (.leaf 134 λG l H=>aY l λa b=>ou G av a b H) (.node 144 (.leaf 144 λG l H=>cw l λa b c d=>ow G av a b c d H) (.leaf 145 λG l H=>a2 l λa=>ox G a H)))) (.node 149 (.node 146 (.leaf 146 λG l H=>aY l λa b=>oy G av a b H) (.node 147 (.leaf 147 λG l H=>aY l λa b=>oz G a b H) (.leaf 149 λG l H=>a2 l λa=>oA G a H))) (.node 150 (.leaf 150 λG l H=>bK l λa b c=>oB G av a b c H) (.node 151 (.leaf 151 λG l H=>a2 l λa=>oC G av a H) (.leaf 152 λG l H=>a2 l λa=>oD G av a H))))) (.node 158 (.node 155 (.node 153 (.leaf 153 λG l H=>a2 l λa=>oE G a H) (.node 154 (.leaf 154 λG l H=>a2 l λa=>oF G av a H) (.leaf 155 λG l H=>aY l λa b=>oG G av a b H))) (.node 156 (.leaf 156 λG l H=>aY l λa b=>oH G a b H) (.node 157 (.leaf 157 λG l H=>a2 l λa=>oI G a H) (.leaf 158 λG l H=>aY l λa b=>oJ G a b H)))) (.node 161 (.node 159 (.leaf 159 λG l H=>a2 l λa=>oK G a H) (.node 160 (.leaf 160 λG l H=>aY l λa b=>oL G av a b H) (.leaf 161 λG l H=>aY l λa b=>oM G av a b H))) (.node 163 (.node 162 (.leaf 162 λG l H=>aY l λa b=>oN G av a b H) (.leaf 163 λG l H=>aY l λa b=>oO G av a b H)) (.node 164 (.leaf 164 λG l H=>a2 l λa=>oP G av a H) (.leaf 165 λG l H=>aY l λa b=>oQ G a b H)))))))) (.node 218 (.node 190 (.node 177 (.node 171 (.node 168 (.node 166 (.leaf 166 λG l H=>aY l λa b=>oR G av a b H) (.node 167 (.leaf 167 λG l H=>c_ l (oS G H)) (.leaf 168 λG l H=>bK l λa b c=>oT G a b c H))) (.node 169 (.leaf 169 λG l H=>eJ l λa b c d x=>oU G a b c d x H) (.node 170 (.leaf 170 λG l H=>aY l λa b=>oV G a b H) (.leaf 171 λG l H=>aY l λa b=>oW G av a b H)))) (.node 174 (.node 172 (.leaf 172 λG l H=>aY l λa b=>oX G a b H) (.node 173 (.leaf 173 λG l H=>aY l λa b=>oY G a b H) (.leaf 174 λG l H=>aY l λa b=>oZ G a b H))) (.node 175 (.leaf 175 λG l H=>aY l λa b=>o0 G a b H) (.node 176 (.leaf 176 λG l H=>aY l λa b=>o1 G a b H) (.leaf 177 λG l H=>aY l λa b=>o2 G a b H))))) (.node 183 (.node 180 (.node 178 (.leaf 178 λG l H=>cw l λa b c d=>o3 G a b c d H) (.node 179 (.leaf 179 λG l H=>cw l λa b c d=>o4 G a b c d H) (.leaf 180 λG l H=>aY l λa b=>o6 G av a b H))) (.node 181 (.leaf 181 λG l H=>aY l λa b=>o7 G a b H) (.node 182 (.leaf 182 λG l H=>a2 l λa=>o8 G av a H) (.leaf 183 λG l H=>a2 l λa=>o9 G av a H)))) (.node 186 (.node 184 (.leaf 184 λG l H=>bK l λa b c=>o_ G a b c H) (.node 185 (.leaf 185 λG l H=>a2 l λa=>pa G av a H) (.leaf 186 λG l H=>a2 l λa=>pb G av a H))) (.node 188 (.node 187 (.leaf 187 λG l H=>aY l λa b=>pc G av a b H) (.leaf 188 λG l H=>aY l λa b=>pd G av a b H)) (.node 189 (.leaf 189 λG l H=>a2 l λa=>pe G av a H) (.leaf 190 λG l H=>aY l λa b=>pf G a b H)))))) (.node 205 (.node 199 (.node 196 (.node 191 (.leaf 191 λG l H=>bK l λa b c=>pg G av a b c H) (.node 195 (.leaf 195 λG l H=>bK l λa b c=>ph G av a b c H) (.leaf 196 λG l H=>bK l λa b c=>pj G av a b c H))) (.node 197 (.leaf 197 λG l H=>bK l λa b c=>pk G av a b c H) (.node 198 (.leaf 198 λG l H=>bK l λa b c=>pn G a b c H) (.leaf 199 λG l H=>bK l λa b c=>po G av a b c H)))) (.node 202 (.node 200 (.leaf 200 λG l H=>bK l λa b c=>ps G av a b c H) (.node 201 (.leaf 201 λG l H=>aY l λa b=>pt G a b H) (.leaf 202 λG l H=>cw l λa b c d=>pv G av a b c d H))) (.node 203 (.leaf 203 λG l H=>cw l λa b c d=>pw G av a b c d H) (.node 204 (.leaf 204 λG l H=>a2 l λa=>px G a H) (.leaf 205 λG l H=>a2 l λa=>py G a H))))) (.node 211 (.node 208 (.node 206 (.leaf 206 λG l H=>c_ l (pz G H)) (.node 207 (.leaf 207 λG l H=>aY l λa b=>pA G av a b H) (.leaf 208 λG l H=>aY l λa b=>pB G a b H))) (.node 209 (.leaf 209 λG l H=>aY l λa b=>pC G a b H) (.node 210 (.leaf 210 λG l H=>aY l λa b=>pD G a b H) (.leaf 211 λG l H=>aY l λa b=>pE G av a b H)))) (.node 214 (.node 212 (.leaf 212 λG l H=>aY l λa b=>pF G a b H) (.node 213 (.leaf 213 λG l H=>aY l λa b=>pG G av a b H) (.leaf 214 λG l H=>c_ l (pH G H)))) (.node 216 (.node 215 (.leaf 215 λG l H=>c_ l (pI G H)) (.leaf 216 λG l H=>aY l λa b=>pJ G a b H)) (.node 217 (.leaf 217 λG l H=>a2 l λa=>pK G a H) (.leaf 218 λG l H=>a2 l λa=>pL G a H))))))) (.node 243 (.node 230 (.node 224 (.node 221 (.node 219 (.leaf 219 λG l H=>aY l λa b=>pM G av a b H) (.node 220 (.leaf 220 λG l H=>bK l λa b c=>pO G a b c H) (.leaf 221 λG l H=>bK l λa b c=>pP G a b c H))) (.node 222 (.leaf 222 λG l H=>aY l λa b=>pQ G a b H) (.node 223 (.leaf 223 λG l H=>a2 l λa=>pR G a H) (.leaf 224 λG l H=>a2 l λa=>pS G a H)))) (.node 227 (.node 225 (.leaf 225 λG l H=>bK l λa b c=>pT G av a b c H) (.node 226 (.leaf 226 λG l H=>aY l λa b=>pU G av a b H) (.leaf 227 λG l H=>bK l λa b c=>pV G a b c H))) (.node 228 (.leaf 228 λG l H=>aY l λa b=>pW G av a b H) (.node 229 (.leaf 229 λG l H=>cw l λa b c d=>pX G av a b c d H) (.leaf 230 λG l H=>a2 l λa=>pY G a H))))) (.node 236 (.node 233 (.node 231 (.leaf 231 λG l H=>a2 l λa=>pZ G a H) (.node 232 (.leaf 232 λG l H=>bK l λa b c=>p0 G a b c H) (.leaf 233 λG l H=>eJ l λa b c d x=>p1 G a b c d x H))) (.node 234 (.leaf 234 λG l H=>a2 l λa=>p2 G a H) (.node 235 (.leaf 235 λG l H=>a2 l λa=>p3 G a H) (.leaf 236 λG l H=>aY l λa b=>p4 G av a b H)))) (.node 239 (.node 237 (.leaf 237 λG l H=>a2 l λa=>p5 G a H) (.node 238 (.leaf 238 λG l H=>aY l λa b=>p6 G a b H) (.leaf 239 λG l H=>bK l λa b c=>p7 G av a b c H))) (.node 241 (.node 240 (.leaf 240 λG l H=>eJ l λa b c d x=>p8 G a b c d x H) (.leaf 241 λG l H=>aY l λa b=>p9 G a b H)) (.node 242 (.leaf 242 λG l H=>aY l λa b=>p_ G a b H) (.leaf 243 λG l H=>aY l λa b=>qa G a b H)))))) (.node 255 (.node 249 (.node 246 (.node 244 (.leaf 244 λG l H=>bK l λa b c=>qb G av a b c H) (.node 245 (.leaf 245 λG l H=>a2 l λa=>qc G a H) (.leaf 246 λG l H=>cw l λa b c d=>qd G a b c d H))) (.node 247 (.leaf 247 λG l H=>bK l λa b c=>qe G a b c H) (.node 248 (.leaf 248 λG l H=>bK l λa b c=>qf G a b c H) (.leaf 249 λG l H=>a2 l λa=>qg G a H)))) (.node 252 (.node 250 (.leaf 250 λG l H=>aY l λa b=>qh G av a b H) (.node 251 (.leaf 251 λG l H=>bK l λa b c=>qi G av a b c H) (.leaf 252 λG l H=>aY l λa b=>qj G a b H))) (.node 253 (.leaf 253 λG l H=>aY l λa b=>qk G a b H) (.node 254 (.leaf 254 λG l H=>cw l λa b c d=>ql G a b c d H) (.leaf 255 λG l H=>aY l λa b=>qm G av a b H))))) (.node 261 (.node 258 (.node 256 (.leaf 256 λG l H=>a2 l λa=>qn G a H) (.node 257 (.leaf 257 λG l H=>bK l λa b c=>qo G av a b c H) (.leaf 258 λG l H=>a2 l λa=>qp G av a H))) (.node 259 (.leaf 259 λG l H=>aY l λa b=>qq G a b H) (.node 260 (.leaf 260 λG l H=>bK l λa b c=>qs G a b c H) (.leaf 261 λG l H=>aY l λa b=>qt G av a b H)))) (.node 264 (.node 262 (.leaf 262 λG l H=>aY l λa b=>qu G a b H) (.node 263 (.leaf 263 λG l H=>a2 l λa=>qv G a H) (.leaf 264 λG l H=>a2 l λa=>qw G av a H))) (.node 282 (.node 281 (.leaf 281 λG l H=>bK l λa b c=>qx G a b c H) (.leaf 282 λG l H=>bK l λa b c=>qy G a b c H)) (.node 283 (.leaf 283 λG l H=>a2 l λa=>qz G a H) (.leaf 284 λG l H=>aY l λa b=>qA G a b H)))))))))
def bQ:Fv.Ok aI P:=⟨⟨⟨⟨⟨⟨⟨Gs,⟨sC,GS⟩⟩,⟨x3,⟨sD,Hs⟩⟩⟩,⟨⟨HL,⟨H7,I0⟩⟩,⟨I1,⟨I2,I3⟩⟩⟩⟩,⟨⟨⟨I4,⟨I5,I6⟩⟩,⟨I7,⟨I8,I9⟩⟩⟩,⟨⟨I_,⟨Ja,Jb⟩⟩,⟨⟨Jc,Jd⟩,⟨Je,Jf⟩⟩⟩⟩⟩,⟨⟨⟨⟨Jg,⟨Jh,Ji⟩⟩,⟨Jj,⟨Jk,Jl⟩⟩⟩,⟨⟨Jm,⟨Jn,Jo⟩⟩,⟨Jq,⟨Jr,Js⟩⟩⟩⟩,⟨⟨⟨Jt,⟨Ju,Jv⟩⟩,⟨Jw,⟨Jx,Jy⟩⟩⟩,⟨⟨Jz,⟨JA,JB⟩⟩,⟨⟨JC,JD⟩,⟨JE,JF⟩⟩⟩⟩⟩⟩,⟨⟨⟨⟨⟨JG,⟨JH,JI⟩⟩,⟨JJ,⟨Gq,Gr⟩⟩⟩,⟨⟨Gt,⟨Gu,Gv⟩⟩,⟨Gw,⟨Gx,Gy⟩⟩⟩⟩,⟨⟨⟨Gz,⟨GA,GB⟩⟩,⟨GC,⟨GD,GF⟩⟩⟩,⟨⟨GG,⟨GI,GJ⟩⟩,⟨⟨GK,GL⟩,⟨GM,GN⟩⟩⟩⟩⟩,⟨⟨⟨⟨GO,⟨GP,GQ⟩⟩,⟨GR,⟨GU,GV⟩⟩⟩,⟨⟨GW,⟨GX,GY⟩⟩,⟨GZ,⟨G0,G1⟩⟩⟩⟩,⟨⟨⟨G2,⟨G3,G4⟩⟩,⟨G5,⟨G6,G7⟩⟩⟩,⟨⟨G8,⟨G9,G_⟩⟩,⟨⟨Ha,Hb⟩,⟨Hc,Hd⟩⟩⟩⟩⟩⟩⟩,⟨⟨⟨⟨⟨⟨He,⟨Hf,Hg⟩⟩,⟨Hh,⟨Hi,Hj⟩⟩⟩,⟨⟨Hk,⟨Hl,Hm⟩⟩,⟨Hn,⟨Ho,Hp⟩⟩⟩⟩,⟨⟨⟨Hq,⟨Hr,Ht⟩⟩,⟨Hu,⟨Hv,Hw⟩⟩⟩,⟨⟨Hx,⟨Hy,Hz⟩⟩,⟨⟨HA,HB⟩,⟨HC,HD⟩⟩⟩⟩⟩,⟨⟨⟨⟨HE,⟨HF,HG⟩⟩,⟨HH,⟨HJ,HK⟩⟩⟩,⟨⟨HM,⟨HN,HO⟩⟩,⟨HP,⟨HQ,HR⟩⟩⟩⟩,⟨⟨⟨HS,⟨HT,HU⟩⟩,⟨HV,⟨HW,HX⟩⟩⟩,⟨⟨HY,⟨HZ,H0⟩⟩,⟨⟨H2,H3⟩,⟨H4,H5⟩⟩⟩⟩⟩⟩,⟨⟨⟨⟨⟨H6,⟨H8,H9⟩⟩,⟨H_,⟨Ia,Ib⟩⟩⟩,⟨⟨Ic,⟨Ie,Ig⟩⟩,⟨Ih,⟨Ii,Ij⟩⟩⟩⟩,⟨⟨⟨Ik,⟨Il,Im⟩⟩,⟨Io,⟨Ip,Iq⟩⟩⟩,⟨⟨Ir,⟨Is,It⟩⟩,⟨⟨Iu,Iv⟩,⟨Iw,Ix⟩⟩⟩⟩⟩,⟨⟨⟨⟨Iy,⟨Iz,IA⟩⟩,⟨IB,⟨IC,ID⟩⟩⟩,⟨⟨IE,⟨IF,IG⟩⟩,⟨IH,⟨II,IK⟩⟩⟩⟩,⟨⟨⟨IL,⟨IM,IN⟩⟩,⟨IP,⟨IQ,IS⟩⟩⟩,⟨⟨IT,⟨IU,IV⟩⟩,⟨⟨IW,IX⟩,⟨IY,IZ⟩⟩⟩⟩⟩⟩⟩⟩
def Fw:cM:=(.node 13 (.leaf 13 λG l H=>aY l λa b=>gS G av a b H) (.node 16 (.leaf 16 λG l H=>c_ l (jF G H)) (.leaf 17 λG l H=>aY l λa b=>gW G av a b H)))
def Fx:Fw.Ok aI P:=⟨sC,⟨x3,sD⟩⟩
end
end
section
set_option maxRecDepth 100000
noncomputable section
def Jp:aQ aI P 7 (λG l H=>a2 l λa=>fe G a H):=bz (N:=av) aR ⟨Tryz.func7,j,j,j⟩ λG a H=>yA G av a H
def eL{g:Nat}{b:Bool}{k:IntKind}{z:Int}{ba:ae}(h:b6 aI P g [.int k z] ae.empty (Z b) ba)(H:ae):b6 aI P g [.int k z] H (Z b) H:=by
 intro ρ w xs j o l p next m
 cases l with|cons _ _ _ _ f i=>
 cases f;cases i;refine h (λ_=>Y) w _ (nP w) ⟨λ_ _ _=>rfl,Env.le_refl _⟩ (.cons _ _ _ _ (.int _ _) .nil) (Nat.zero_le _) next λx e q n a=> ?_
 cases n;have d:∀b,b<w.heap.size->e.heap[b]? =w.heap[b]? :=λb c=>a.frame b c (xX b)
 exact m _ e ρ (a1.bool b) ⟨ρ.le_refl,bM _,λ_ _=>rfl,j.ny d,a.os,a.tape,a.output,a.size,λb c _=>d b c,λ_ h=> .inl h,λ_ _ _ h=>h⟩
def Fy:cM:=(.node 7 (.leaf 7 λG l H=>a2 l λa=>fe G a H) (.node 13 (.leaf 13 λG l H=>aY l λa b=>gS G av a b H) (.leaf 17 λG l H=>aY l λa b=>gW G av a b H)))
def eQ:Fy.Ok aI P:=⟨Jp,⟨sC,sD⟩⟩
end
end
section
set_option maxRecDepth 1000000
def dW:List (Nat×bk):=[(1843,(.row U 4 [[X [110],I J 3,I J 0,I J 0]])),(1846,(.row U 2 [[X [82],.ag 1843 0 1 4 Y]])),(2411,(.row U 3 [[I J 3,I J 0,I J 0],[I J 3,I J 0,I J 0],[I J 3,I J 0,I J 0]])),(2418,(.row U 6 [[I J 6,I J 1,I J 0,I J 0,I J 0,.ar],[I J 18,I J 1,I J 0,I J 0,I J 0,.ar],[I J 2,I J 2,I J 0,I J 0,I J 0,.ar],[I J 18,I J 2,I J 0,I J 0,I J 0,.ar]])),(2454,(.row U 4 [[I J 1,I J 3,I J 0,I J 0],[I J 1,I J 3,I J 0,I J 0]])),(2465,(.row U 1 [[I J 0]])),(2516,(.row U 3 [[I J 3,I J 0,I J 0],[I J 3,I J 0,I J 0],[I J 3,I J 0,I J 0],[I J 3,I J 0,I J 0],[I J 3,I J 0,I J 0],[I J 3,I J 0,I J 0],[I J 2,I J 0,I J 0],[I J 1,I J 0,I J 0],[I J 1,I J 0,I J 0]])),(2525,(.row U 6 [[I J 11,I J 2,I J 0,I J 0,I J 0,.ar],[I J 3,I J 0,I J 2,I J 0,I J 0,.ar],[I J 11,I J 3,I J 0,I J 0,I J 1,.ar],[I J 7,I J 0,I J 3,I J 0,I J 0,.ar],[I J 13,I J 4,I J 0,I J 0,I J 0,.ag 2465 0 1 1 Y],[I J 3,I J 1,I J 4,I J 0,I J 0,.ar],[I J 2,I J 5,I J 0,I J 0,I J 0,.ar],[I J 4,I J 6,I J 1,I J 5,I J 21,.ar],[I J 17,I J 6,I J 0,I J 12,I J 9,.ar],[I J 1,I J 7,I J 0,I J 0,I J 1,.ar],[I J 15,I J 7,I J 0,I J 0,I J 0,.ar],[I J 16,I J 0,I J 0,I J 0,I J 12,.ar],[I J 1,I J 8,I J 0,I J 0,I J 2,.ar],[I J 15,I J 8,I J 0,I J 0,I J 0,.ar],[I J 18,(I J (-1)),I J 0,I J 0,I J 0,.ar]])),(2527,(.row U 7 [[I J 1,.ag 2411 0 3 3 Y,Z V,I J 3,I J 0,I J 0,.ag 2418 0 4 6 Y],[I J 0,.ag 2516 0 9 3 Y,Z U,I J 0,I J 0,I J 0,.ag 2525 0 15 6 Y]])),(2528,(.row U 5 [[.ag 1846 0 1 2 Y,.ar,.ag 2527 0 2 7 Y,.ag 2454 0 2 4 Y,I J 1]]))]
def w1:List (Nat×bk):=[(405,(.row U 4 [[X [110],X [82],I J 0,I J 11]])),(413,(.row U 3 [[X [82],.ag 405 0 1 4 Y,I J 7]])),(455,(.row U 4 [[X [114],X [82],I J 0,I J 26]])),(540,(.row U 11 [[I J 4,I J 0,X [114],X [],I J 0,.ar,I J 44,I J 0,I J 0,I J 0,I J 0]])),(620,(.row U 11 [[I J 5,I J 0,X [110],X [],I J 0,(.ag 540 0 1 11 (D 1)),I J 45,I J 0,I J 0,I J 0,I J 0]])),(624,(.row U 9 [[I J 7,X [],X [],I J 0,(.ag 620 0 1 11 (D 1)),.ar,.ar,I J 37,I J 0]])),(797,(.row U 11 [[I J 8,I J 0,X [],X [82],I J 0,.ar,I J 76,I J 0,I J 0,I J 0,I J 0]])),(866,(.row U 11 [[I J 4,I J 0,X [97],X [],I J 0,.ar,I J 83,I J 0,I J 0,I J 0,I J 0]])),(1064,(.row U 11 [[I J 5,I J 0,X [110],X [],I J 0,(.ag 866 0 1 11 (D 1)),I J 84,I J 0,I J 0,I J 0,I J 0],[I J 8,I J 0,X [],X [82],I J 0,.ar,I J 89,I J 0,I J 0,I J 0,I J 0]])),(1249,(.row U 11 [[I J 4,I J 0,X [97],X [],I J 0,.ar,I J 109,I J 0,I J 0,I J 0,I J 0]])),(1335,(.row U 11 [[I J 7,I J 0,X [102],X [],I J 0,.ag 1249 0 1 11 Y,I J 107,I J 0,I J 0,I J 0,I J 0]])),(1518,(.row U 11 [[I J 4,I J 0,X [98],X [],I J 0,.ar,I J 116,I J 0,I J 0,I J 0,I J 0],[I J 3,I J 0,X [],X [82],I J 0,.ar,I J 121,I J 0,I J 0,I J 0,I J 0]])),(1563,(.row U 11 [[I J 21,I J 0,X [],X [],I J 0,(.ag 1518 0 2 11 (D 2)),I J 118,I J 0,I J 0,I J 0,I J 0]])),(1683,(.row U 11 [[I J 1,I J 1,X [],X [],I J 0,.ar,I J 136,I J 0,I J 0,I J 0,I J 0]])),(1687,(.row U 9 [[I J 8,X [],X [],I J 0,(.ag 1683 0 1 11 (D 1)),.ar,.ar,I J 130,I J 0]])),(1811,(.row U 11 [[I J 1,I J 2,X [],X [],I J 0,.ar,I J 147,I J 0,I J 0,I J 0,I J 0]])),(1815,(.row U 9 [[I J 2,X [97],X [82],I J 0,(.ag 797 0 1 11 (D 1)),.ar,.ar,I J 65,I J 0],[I J 4,X [],X [],I J 0,(.ag 1064 0 2 11 (D 2)),.ar,.ar,I J 83,I J 0],[I J 2,X [98],X [82],I J 0,(.ag 1335 0 1 11 (D 1)),.ar,.ar,I J 96,I J 0],[I J 5,X [],X [],I J 0,(.ag 1563 0 1 11 (D 1)),.ag 1687 0 1 9 Y,.ar,I J 113,I J 0],[I J 8,X [],X [],I J 0,(.ag 1811 0 1 11 (D 1)),.ar,.ar,I J 141,I J 0]])),(1821,(.row U 7 [[X [102],.ag 455 0 1 4 Y,Z V,X [82],I J 0,.ag 624 0 1 9 Y,I J 24],[X [109,97,105,110],.ar,Z U,X [],I J 0,.ag 1815 0 5 9 Y,I J 56]]))]
def wT:bf:=⟨33,[X [114,101,99,111,114,100,32,82,32,123,32,110,58,32,82,59,32,125,32,102,117,110,99,32,102,40,114,58,32,82,41,58,32,82,32,123,32,114,101,116,117,114,110,32,114,46,110,59,32,125,32,102,117,110,99,32,109,97,105,110,40,41,32,123,32,108,101,116,32,97,58,32,82,32,61,32,110,101,119,32,82,59,32,97,46,110,32,61,32,110,101,119,32,82,59,32,108,101,116,32,98,58,32,82,32,61,32,102,40,97,41,59,32,105,102,32,98,32,61,61,32,110,117,108,108,32,82,32,123,32,112,114,105,110,116,32,49,59,32,125,32,112,114,105,110,116,32,50,59,32,125]],0,([]),(.tuple [.agg [.ag 413 0 1 3 Y,.ar,.ag 1821 0 2 7 Y],.agg [I J 0,I J 0]]),1823,(w1)⟩
def Ef(a:bm aI P bd):wT.Ok aI P:=bf.bR (bO a bQ 100) j
def wU:bf:=⟨34,[.agg [.ag 413 0 1 3 Y,.ar,.ag 1821 0 2 7 Y]],1825,(w1),(.tuple [.agg [.ag 1846 0 1 2 Y,.ar,.ag 2527 0 2 7 Y,.ag 2454 0 2 4 Y,I J 1],.agg [I J 0,I J 0]]),2528,([(1843,(.row U 4 [[X [110],I J 3,I J 0,I J 0]])),(1846,(.row U 2 [[X [82],.ag 1843 0 1 4 Y]])),(2411,(.row U 3 [[I J 3,I J 0,I J 0],[I J 3,I J 0,I J 0],[I J 3,I J 0,I J 0]])),(2418,(.row U 6 [[I J 6,I J 1,I J 0,I J 0,I J 0,.ar],[I J 18,I J 1,I J 0,I J 0,I J 0,.ar],[I J 2,I J 2,I J 0,I J 0,I J 0,.ar],[I J 18,I J 2,I J 0,I J 0,I J 0,.ar]])),(2454,(.row U 4 [[I J 1,I J 3,I J 0,I J 0],[I J 1,I J 3,I J 0,I J 0]])),(2465,(.row U 1 [[I J 0]])),(2516,(.row U 3 [[I J 3,I J 0,I J 0],[I J 3,I J 0,I J 0],[I J 3,I J 0,I J 0],[I J 3,I J 0,I J 0],[I J 3,I J 0,I J 0],[I J 3,I J 0,I J 0],[I J 2,I J 0,I J 0],[I J 1,I J 0,I J 0],[I J 1,I J 0,I J 0]])),(2525,(.row U 6 [[I J 11,I J 2,I J 0,I J 0,I J 0,.ar],[I J 3,I J 0,I J 2,I J 0,I J 0,.ar],[I J 11,I J 3,I J 0,I J 0,I J 1,.ar],[I J 7,I J 0,I J 3,I J 0,I J 0,.ar],[I J 13,I J 4,I J 0,I J 0,I J 0,.ag 2465 0 1 1 Y],[I J 3,I J 1,I J 4,I J 0,I J 0,.ar],[I J 2,I J 5,I J 0,I J 0,I J 0,.ar],[I J 4,I J 6,I J 1,I J 5,I J 21,.ar],[I J 17,I J 6,I J 0,I J 12,I J 9,.ar],[I J 1,I J 7,I J 0,I J 0,I J 1,.ar],[I J 15,I J 7,I J 0,I J 0,I J 0,.ar],[I J 16,I J 0,I J 0,I J 0,I J 12,.ar],[I J 1,I J 8,I J 0,I J 0,I J 2,.ar],[I J 15,I J 8,I J 0,I J 0,I J 0,.ar],[I J 18,(I J (-1)),I J 0,I J 0,I J 0,.ar]])),(2527,(.row U 7 [[I J 1,.ag 2411 0 3 3 Y,Z V,I J 3,I J 0,I J 0,.ag 2418 0 4 6 Y],[I J 0,.ag 2516 0 9 3 Y,Z U,I J 0,I J 0,I J 0,.ag 2525 0 15 6 Y]]))])⟩
def Eg(a:bm aI P bd):wU.Ok aI P:=bf.bR (bO a bQ 100) j
def wV:bf:=⟨11,[.agg [.ag 1846 0 1 2 Y,.ar,.ag 2527 0 2 7 Y,.ag 2454 0 2 4 Y,I J 1]],2530,(dW),(.agg [I J 2,(.ag 4695 0 2 1 (D 2)),.ag 4724 0 14 1 Y,.ag 4777 0 2 1 Y]),4780,(dW++[(4695,(.row U 1 [[I J 0],[I J 1]])),(4724,(.row U 1 [[I J 0],[I J 1],[(I J (-1))],[I J 0],[I J 1],[I J 0],[I J 1],[I J 1],[(I J (-1))],[(I J (-1))],[(I J (-1))],[(I J (-1))],[I J 1],[(I J (-1))]])),(4749,(.row U 1 [[I J 1],[(I J (-1))],[(I J (-1))],[(I J (-1))],[(I J (-1))],[(I J (-1))],[(I J (-1))],[(I J (-1))]])),(4775,(.row U 1 [[(I J (-1))],[(I J (-1))],[(I J (-1))],[(I J (-1))],[(I J (-1))],[(I J (-1))],[(I J (-1))],[(I J (-1))]])),(4777,(.row U 1 [[.ag 4749 0 8 1 Y],[.ag 4775 0 8 1 Y]]))])⟩
def Eh(a:bm aI P bd):wV.Ok aI P:=bf.bR (bO a bQ 100) j
def wW:bf:=⟨22,[.agg [.ag 1846 0 1 2 Y,.ar,.ag 2527 0 2 7 Y,.ag 2454 0 2 4 Y,I J 1],I J 0],4781,(dW),.ag 7785 0 2 1 Y,8531,(dW++[(7785,(.row U 1 [[I J 0],[I J 1]]))])⟩
def Ei(a:bm aI P bd):wW.Ok aI P:=bf.bR (bO a bQ 100) j
def wX:bf:=⟨20,[.agg [.ag 1846 0 1 2 Y,.ar,.ag 2527 0 2 7 Y,.ag 2454 0 2 4 Y,I J 1]],8532,(dW),.ag 13111 0 2 1 Y,13112,(dW++[(13109,(.row U 1 [[I J 0],[I J 1]])),(13111,(.row U 1 [[.ar],[.ag 13109 0 2 1 Y]]))])⟩
def Ej(a:bm aI P bd):wX.Ok aI P:=bf.bR (bO a bQ 100) j
def wY:bf:=⟨18,[.agg [.ag 1846 0 1 2 Y,.ar,.ag 2527 0 2 7 Y,.ag 2454 0 2 4 Y,I J 1]],13115,(dW),(.ag 16865 0 2 1 (D 2)),16908,(dW++[(16865,(.row U 1 [[.ar],[.ar]]))])⟩
def Ek(a:bm aI P bd):wY.Ok aI P:=bf.bR (bO a bQ 100) j
def wZ:bf:=⟨14,[.agg [.ag 1846 0 1 2 Y,.ar,.ag 2527 0 2 7 Y,.ag 2454 0 2 4 Y,I J 1]],16911,(dW),.ar,20661,(dW)⟩
def El(a:bm aI P bd):wZ.Ok aI P:=bf.bR (bO a bQ 100) j
def Em(a:bm aI P bd):∀s∈[wT,wU,wV,wW,wX,wY,wZ],s.Ok aI P:=by
 intro s b;simp only[List.mem_cons,List.not_mem_nil,or_false]at b;rcases b with rfl|rfl|rfl|rfl|rfl|rfl|rfl
 ·exact Ef a
 ·exact Eg a
 ·exact Eh a
 ·exact Ei a
 ·exact Ej a
 ·exact Ek a
 ·exact El a
def eP(a:bm aI P bd)(H:ae):b6 aI P 16 [] H (Z V) H:=by
 obtain⟨ba,c⟩:=en (b:=true) (m:=5) (f:=16) (args:=[]) (H:=ae.empty) (eb a (Em a)) Fx j;exact AA c H
end
section
set_option maxRecDepth 1000000
def fw:List (Nat×bk):=[(1,(.row U 1 [[I J 1],[I J 1],[I J 1],[I J 2],[I J 1],[I J 1],[I J 0],[I J 2]])),(2,(.row U 1 [])),(3,(.row U 1 [[I J 0]])),(4,(.row U 1 [])),(5,(.row U 1 [[I J 0]])),(6,(.row U 1 [])),(7,(.row U 1 [])),(8,(.row U 1 [])),(9,(.row U 1 [[I J 0]])),(10,(.row U 1 [[(.ag 2 0 0 1 (D 0))],[(.ag 3 0 1 1 (D 1))],[(.ag 4 0 0 1 (D 0))],[(.ag 5 0 1 1 (D 1))],[(.ag 6 0 0 1 (D 0))],[(.ag 7 0 0 1 (D 0))],[(.ag 8 0 0 1 (D 0))],[(.ag 9 0 1 1 (D 1))]])),(11,(.row U 1 [])),(12,(.row U 1 [])),(13,(.row U 1 [[I J 0]])),(14,(.row U 1 [])),(15,(.row U 1 [])),(16,(.row U 1 [])),(17,(.row U 1 [])),(18,(.row U 1 [])),(19,(.row U 1 [[(.ag 11 0 0 1 (D 0))],[(.ag 12 0 0 1 (D 0))],[(.ag 13 0 1 1 (D 1))],[(.ag 14 0 0 1 (D 0))],[(.ag 15 0 0 1 (D 0))],[(.ag 16 0 0 1 (D 0))],[(.ag 17 0 0 1 (D 0))],[(.ag 18 0 0 1 (D 0))]])),(20,(.row U 1 [[I J 0]])),(21,(.row U 1 [[I J 0]])),(22,(.row U 1 [])),(23,(.row U 1 [[I J 0],[I J 1]])),(24,(.row U 1 [])),(25,(.row U 1 [])),(26,(.row U 1 [])),(27,(.row U 1 [[I J 0],[I J 1]])),(28,(.row U 1 [[(.ag 20 0 1 1 (D 1))],[(.ag 21 0 1 1 (D 1))],[(.ag 22 0 0 1 (D 0))],[(.ag 23 0 2 1 (D 2))],[(.ag 24 0 0 1 (D 0))],[(.ag 25 0 0 1 (D 0))],[(.ag 26 0 0 1 (D 0))],[(.ag 27 0 2 1 (D 2))]])),(680,(.row U 4 [[X [110],I J 3,I J 0,I J 0]])),(683,(.row U 2 [[X [82],.ag 680 0 1 4 Y]])),(855,(.row U 3 [[I J 3,I J 0,I J 0]])),(861,(.row U 3 [[I J 3,I J 0,I J 0]])),(864,(.row U 6 [[I J 18,(I J (-1)),I J 0,I J 0,I J 0,.ar]])),(875,(.row U 3 [[I J 3,I J 0,I J 0]])),(878,(.row U 4 [[I J 1,I J 3,I J 0,I J 0]])),(883,(.row U 1 [[I J 0]])),(889,(.row U 6 [[I J 11,I J 0,I J 0,I J 0,I J 0,.ar],[I J 13,(I J (-1)),I J 0,I J 0,I J 0,.ag 883 0 1 1 Y],[I J 18,(I J (-1)),I J 0,I J 0,I J 0,.ar]])),(891,(.row U 7 [[I J 1,.ag 861 0 1 3 Y,Z U,I J 0,I J 0,I J 0,.ag 864 0 1 6 Y],[I J 0,.ag 875 0 1 3 Y,Z U,I J 0,I J 0,I J 0,.ag 889 0 3 6 Y]])),(892,(.row U 5 [[.ag 683 0 1 2 Y,.ag 855 0 1 3 Y,.ag 891 0 2 7 Y,.ag 878 0 1 4 Y,I J 1]])),(893,(.row U 2 [[I J 0,I J 0]])),(2088,(.row U 1 [[.ar],[.ar]]))]
def w2:bf:=⟨33,[X [114,101,99,111,114,100,32,82,32,123,32,110,58,32,82,59,32,125,32,103,108,111,98,97,108,32,103,58,32,82,59,32,102,117,110,99,32,102,40,114,58,32,82,41,32,123,32,125,32,102,117,110,99,32,109,97,105,110,40,41,32,123,32,102,40,110,101,119,32,82,41,59,32,125]],29,([(1,(.row U 1 [[I J 1],[I J 1],[I J 1],[I J 2],[I J 1],[I J 1],[I J 0],[I J 2]])),(2,(.row U 1 [])),(3,(.row U 1 [[I J 0]])),(4,(.row U 1 [])),(5,(.row U 1 [[I J 0]])),(6,(.row U 1 [])),(7,(.row U 1 [])),(8,(.row U 1 [])),(9,(.row U 1 [[I J 0]])),(10,(.row U 1 [[(.ag 2 0 0 1 (D 0))],[(.ag 3 0 1 1 (D 1))],[(.ag 4 0 0 1 (D 0))],[(.ag 5 0 1 1 (D 1))],[(.ag 6 0 0 1 (D 0))],[(.ag 7 0 0 1 (D 0))],[(.ag 8 0 0 1 (D 0))],[(.ag 9 0 1 1 (D 1))]])),(11,(.row U 1 [])),(12,(.row U 1 [])),(13,(.row U 1 [[I J 0]])),(14,(.row U 1 [])),(15,(.row U 1 [])),(16,(.row U 1 [])),(17,(.row U 1 [])),(18,(.row U 1 [])),(19,(.row U 1 [[(.ag 11 0 0 1 (D 0))],[(.ag 12 0 0 1 (D 0))],[(.ag 13 0 1 1 (D 1))],[(.ag 14 0 0 1 (D 0))],[(.ag 15 0 0 1 (D 0))],[(.ag 16 0 0 1 (D 0))],[(.ag 17 0 0 1 (D 0))],[(.ag 18 0 0 1 (D 0))]])),(20,(.row U 1 [[I J 0]])),(21,(.row U 1 [[I J 0]])),(22,(.row U 1 [])),(23,(.row U 1 [[I J 0],[I J 1]])),(24,(.row U 1 [])),(25,(.row U 1 [])),(26,(.row U 1 [])),(27,(.row U 1 [[I J 0],[I J 1]])),(28,(.row U 1 [[(.ag 20 0 1 1 (D 1))],[(.ag 21 0 1 1 (D 1))],[(.ag 22 0 0 1 (D 0))],[(.ag 23 0 2 1 (D 2))],[(.ag 24 0 0 1 (D 0))],[(.ag 25 0 0 1 (D 0))],[(.ag 26 0 0 1 (D 0))],[(.ag 27 0 2 1 (D 2))]]))]),(.tuple [.agg [.ag 263 0 1 3 Y,.ag 293 0 1 4 Y,.ag 658 0 2 7 Y],.agg [I J 0,I J 0]]),660,([(1,(.row U 1 [[I J 1],[I J 1],[I J 1],[I J 2],[I J 1],[I J 1],[I J 0],[I J 2]])),(2,(.row U 1 [])),(3,(.row U 1 [[I J 0]])),(4,(.row U 1 [])),(5,(.row U 1 [[I J 0]])),(6,(.row U 1 [])),(7,(.row U 1 [])),(8,(.row U 1 [])),(9,(.row U 1 [[I J 0]])),(10,(.row U 1 [[(.ag 2 0 0 1 (D 0))],[(.ag 3 0 1 1 (D 1))],[(.ag 4 0 0 1 (D 0))],[(.ag 5 0 1 1 (D 1))],[(.ag 6 0 0 1 (D 0))],[(.ag 7 0 0 1 (D 0))],[(.ag 8 0 0 1 (D 0))],[(.ag 9 0 1 1 (D 1))]])),(11,(.row U 1 [])),(12,(.row U 1 [])),(13,(.row U 1 [[I J 0]])),(14,(.row U 1 [])),(15,(.row U 1 [])),(16,(.row U 1 [])),(17,(.row U 1 [])),(18,(.row U 1 [])),(19,(.row U 1 [[(.ag 11 0 0 1 (D 0))],[(.ag 12 0 0 1 (D 0))],[(.ag 13 0 1 1 (D 1))],[(.ag 14 0 0 1 (D 0))],[(.ag 15 0 0 1 (D 0))],[(.ag 16 0 0 1 (D 0))],[(.ag 17 0 0 1 (D 0))],[(.ag 18 0 0 1 (D 0))]])),(20,(.row U 1 [[I J 0]])),(21,(.row U 1 [[I J 0]])),(22,(.row U 1 [])),(23,(.row U 1 [[I J 0],[I J 1]])),(24,(.row U 1 [])),(25,(.row U 1 [])),(26,(.row U 1 [])),(27,(.row U 1 [[I J 0],[I J 1]])),(28,(.row U 1 [[(.ag 20 0 1 1 (D 1))],[(.ag 21 0 1 1 (D 1))],[(.ag 22 0 0 1 (D 0))],[(.ag 23 0 2 1 (D 2))],[(.ag 24 0 0 1 (D 0))],[(.ag 25 0 0 1 (D 0))],[(.ag 26 0 0 1 (D 0))],[(.ag 27 0 2 1 (D 2))]])),(255,(.row U 4 [[X [110],X [82],I J 0,I J 11]])),(263,(.row U 3 [[X [82],.ag 255 0 1 4 Y,I J 7]])),(293,(.row U 4 [[X [103],X [82],I J 0,I J 26]])),(337,(.row U 4 [[X [114],X [82],I J 0,I J 39]])),(557,(.row U 11 [[I J 8,I J 0,X [],X [82],I J 0,.ar,I J 65,I J 0,I J 0,I J 0,I J 0]])),(646,(.row U 11 [[I J 7,I J 0,X [102],X [],I J 0,.ag 557 0 1 11 Y,I J 63,I J 0,I J 0,I J 0,I J 0]])),(652,(.row U 9 [[I J 9,X [],X [],I J 0,(.ag 646 0 1 11 (D 1)),.ar,.ar,I J 63,I J 0]])),(658,(.row U 7 [[X [102],.ag 337 0 1 4 Y,Z U,X [],I J 0,.ar,I J 37],[X [109,97,105,110],.ar,Z U,X [],I J 0,.ag 652 0 1 9 Y,I J 54]]))])⟩
def En(a:bm aI P bd):w2.Ok aI P:=bf.bR (bO a bQ 100) j
def w3:bf:=⟨34,[.agg [.ag 263 0 1 3 Y,.ag 293 0 1 4 Y,.ag 658 0 2 7 Y]],662,([(1,(.row U 1 [[I J 1],[I J 1],[I J 1],[I J 2],[I J 1],[I J 1],[I J 0],[I J 2]])),(2,(.row U 1 [])),(3,(.row U 1 [[I J 0]])),(4,(.row U 1 [])),(5,(.row U 1 [[I J 0]])),(6,(.row U 1 [])),(7,(.row U 1 [])),(8,(.row U 1 [])),(9,(.row U 1 [[I J 0]])),(10,(.row U 1 [[(.ag 2 0 0 1 (D 0))],[(.ag 3 0 1 1 (D 1))],[(.ag 4 0 0 1 (D 0))],[(.ag 5 0 1 1 (D 1))],[(.ag 6 0 0 1 (D 0))],[(.ag 7 0 0 1 (D 0))],[(.ag 8 0 0 1 (D 0))],[(.ag 9 0 1 1 (D 1))]])),(11,(.row U 1 [])),(12,(.row U 1 [])),(13,(.row U 1 [[I J 0]])),(14,(.row U 1 [])),(15,(.row U 1 [])),(16,(.row U 1 [])),(17,(.row U 1 [])),(18,(.row U 1 [])),(19,(.row U 1 [[(.ag 11 0 0 1 (D 0))],[(.ag 12 0 0 1 (D 0))],[(.ag 13 0 1 1 (D 1))],[(.ag 14 0 0 1 (D 0))],[(.ag 15 0 0 1 (D 0))],[(.ag 16 0 0 1 (D 0))],[(.ag 17 0 0 1 (D 0))],[(.ag 18 0 0 1 (D 0))]])),(20,(.row U 1 [[I J 0]])),(21,(.row U 1 [[I J 0]])),(22,(.row U 1 [])),(23,(.row U 1 [[I J 0],[I J 1]])),(24,(.row U 1 [])),(25,(.row U 1 [])),(26,(.row U 1 [])),(27,(.row U 1 [[I J 0],[I J 1]])),(28,(.row U 1 [[(.ag 20 0 1 1 (D 1))],[(.ag 21 0 1 1 (D 1))],[(.ag 22 0 0 1 (D 0))],[(.ag 23 0 2 1 (D 2))],[(.ag 24 0 0 1 (D 0))],[(.ag 25 0 0 1 (D 0))],[(.ag 26 0 0 1 (D 0))],[(.ag 27 0 2 1 (D 2))]])),(255,(.row U 4 [[X [110],X [82],I J 0,I J 11]])),(263,(.row U 3 [[X [82],.ag 255 0 1 4 Y,I J 7]])),(293,(.row U 4 [[X [103],X [82],I J 0,I J 26]])),(337,(.row U 4 [[X [114],X [82],I J 0,I J 39]])),(557,(.row U 11 [[I J 8,I J 0,X [],X [82],I J 0,.ar,I J 65,I J 0,I J 0,I J 0,I J 0]])),(646,(.row U 11 [[I J 7,I J 0,X [102],X [],I J 0,.ag 557 0 1 11 Y,I J 63,I J 0,I J 0,I J 0,I J 0]])),(652,(.row U 9 [[I J 9,X [],X [],I J 0,(.ag 646 0 1 11 (D 1)),.ar,.ar,I J 63,I J 0]])),(658,(.row U 7 [[X [102],.ag 337 0 1 4 Y,Z U,X [],I J 0,.ar,I J 37],[X [109,97,105,110],.ar,Z U,X [],I J 0,.ag 652 0 1 9 Y,I J 54]]))]),(.tuple [.agg [.ag 683 0 1 2 Y,.ag 855 0 1 3 Y,.ag 891 0 2 7 Y,.ag 878 0 1 4 Y,I J 1],.agg [I J 0,I J 0]]),892,([(1,(.row U 1 [[I J 1],[I J 1],[I J 1],[I J 2],[I J 1],[I J 1],[I J 0],[I J 2]])),(2,(.row U 1 [])),(3,(.row U 1 [[I J 0]])),(4,(.row U 1 [])),(5,(.row U 1 [[I J 0]])),(6,(.row U 1 [])),(7,(.row U 1 [])),(8,(.row U 1 [])),(9,(.row U 1 [[I J 0]])),(10,(.row U 1 [[(.ag 2 0 0 1 (D 0))],[(.ag 3 0 1 1 (D 1))],[(.ag 4 0 0 1 (D 0))],[(.ag 5 0 1 1 (D 1))],[(.ag 6 0 0 1 (D 0))],[(.ag 7 0 0 1 (D 0))],[(.ag 8 0 0 1 (D 0))],[(.ag 9 0 1 1 (D 1))]])),(11,(.row U 1 [])),(12,(.row U 1 [])),(13,(.row U 1 [[I J 0]])),(14,(.row U 1 [])),(15,(.row U 1 [])),(16,(.row U 1 [])),(17,(.row U 1 [])),(18,(.row U 1 [])),(19,(.row U 1 [[(.ag 11 0 0 1 (D 0))],[(.ag 12 0 0 1 (D 0))],[(.ag 13 0 1 1 (D 1))],[(.ag 14 0 0 1 (D 0))],[(.ag 15 0 0 1 (D 0))],[(.ag 16 0 0 1 (D 0))],[(.ag 17 0 0 1 (D 0))],[(.ag 18 0 0 1 (D 0))]])),(20,(.row U 1 [[I J 0]])),(21,(.row U 1 [[I J 0]])),(22,(.row U 1 [])),(23,(.row U 1 [[I J 0],[I J 1]])),(24,(.row U 1 [])),(25,(.row U 1 [])),(26,(.row U 1 [])),(27,(.row U 1 [[I J 0],[I J 1]])),(28,(.row U 1 [[(.ag 20 0 1 1 (D 1))],[(.ag 21 0 1 1 (D 1))],[(.ag 22 0 0 1 (D 0))],[(.ag 23 0 2 1 (D 2))],[(.ag 24 0 0 1 (D 0))],[(.ag 25 0 0 1 (D 0))],[(.ag 26 0 0 1 (D 0))],[(.ag 27 0 2 1 (D 2))]])),(680,(.row U 4 [[X [110],I J 3,I J 0,I J 0]])),(683,(.row U 2 [[X [82],.ag 680 0 1 4 Y]])),(855,(.row U 3 [[I J 3,I J 0,I J 0]])),(861,(.row U 3 [[I J 3,I J 0,I J 0]])),(864,(.row U 6 [[I J 18,(I J (-1)),I J 0,I J 0,I J 0,.ar]])),(875,(.row U 3 [[I J 3,I J 0,I J 0]])),(878,(.row U 4 [[I J 1,I J 3,I J 0,I J 0]])),(883,(.row U 1 [[I J 0]])),(889,(.row U 6 [[I J 11,I J 0,I J 0,I J 0,I J 0,.ar],[I J 13,(I J (-1)),I J 0,I J 0,I J 0,.ag 883 0 1 1 Y],[I J 18,(I J (-1)),I J 0,I J 0,I J 0,.ar]])),(891,(.row U 7 [[I J 1,.ag 861 0 1 3 Y,Z U,I J 0,I J 0,I J 0,.ag 864 0 1 6 Y],[I J 0,.ag 875 0 1 3 Y,Z U,I J 0,I J 0,I J 0,.ag 889 0 3 6 Y]]))])⟩
def Eo(a:bm aI P bd):w3.Ok aI P:=bf.bR (bO a bQ 100) j
def w4:bf:=⟨18,[.agg [.ag 683 0 1 2 Y,.ag 855 0 1 3 Y,.ag 891 0 2 7 Y,.ag 878 0 1 4 Y,I J 1]],894,([(1,(.row U 1 [[I J 1],[I J 1],[I J 1],[I J 2],[I J 1],[I J 1],[I J 0],[I J 2]])),(2,(.row U 1 [])),(3,(.row U 1 [[I J 0]])),(4,(.row U 1 [])),(5,(.row U 1 [[I J 0]])),(6,(.row U 1 [])),(7,(.row U 1 [])),(8,(.row U 1 [])),(9,(.row U 1 [[I J 0]])),(10,(.row U 1 [[(.ag 2 0 0 1 (D 0))],[(.ag 3 0 1 1 (D 1))],[(.ag 4 0 0 1 (D 0))],[(.ag 5 0 1 1 (D 1))],[(.ag 6 0 0 1 (D 0))],[(.ag 7 0 0 1 (D 0))],[(.ag 8 0 0 1 (D 0))],[(.ag 9 0 1 1 (D 1))]])),(11,(.row U 1 [])),(12,(.row U 1 [])),(13,(.row U 1 [[I J 0]])),(14,(.row U 1 [])),(15,(.row U 1 [])),(16,(.row U 1 [])),(17,(.row U 1 [])),(18,(.row U 1 [])),(19,(.row U 1 [[(.ag 11 0 0 1 (D 0))],[(.ag 12 0 0 1 (D 0))],[(.ag 13 0 1 1 (D 1))],[(.ag 14 0 0 1 (D 0))],[(.ag 15 0 0 1 (D 0))],[(.ag 16 0 0 1 (D 0))],[(.ag 17 0 0 1 (D 0))],[(.ag 18 0 0 1 (D 0))]])),(20,(.row U 1 [[I J 0]])),(21,(.row U 1 [[I J 0]])),(22,(.row U 1 [])),(23,(.row U 1 [[I J 0],[I J 1]])),(24,(.row U 1 [])),(25,(.row U 1 [])),(26,(.row U 1 [])),(27,(.row U 1 [[I J 0],[I J 1]])),(28,(.row U 1 [[(.ag 20 0 1 1 (D 1))],[(.ag 21 0 1 1 (D 1))],[(.ag 22 0 0 1 (D 0))],[(.ag 23 0 2 1 (D 2))],[(.ag 24 0 0 1 (D 0))],[(.ag 25 0 0 1 (D 0))],[(.ag 26 0 0 1 (D 0))],[(.ag 27 0 2 1 (D 2))]])),(680,(.row U 4 [[X [110],I J 3,I J 0,I J 0]])),(683,(.row U 2 [[X [82],.ag 680 0 1 4 Y]])),(855,(.row U 3 [[I J 3,I J 0,I J 0]])),(861,(.row U 3 [[I J 3,I J 0,I J 0]])),(864,(.row U 6 [[I J 18,(I J (-1)),I J 0,I J 0,I J 0,.ar]])),(875,(.row U 3 [[I J 3,I J 0,I J 0]])),(878,(.row U 4 [[I J 1,I J 3,I J 0,I J 0]])),(883,(.row U 1 [[I J 0]])),(889,(.row U 6 [[I J 11,I J 0,I J 0,I J 0,I J 0,.ar],[I J 13,(I J (-1)),I J 0,I J 0,I J 0,.ag 883 0 1 1 Y],[I J 18,(I J (-1)),I J 0,I J 0,I J 0,.ar]])),(891,(.row U 7 [[I J 1,.ag 861 0 1 3 Y,Z U,I J 0,I J 0,I J 0,.ag 864 0 1 6 Y],[I J 0,.ag 875 0 1 3 Y,Z U,I J 0,I J 0,I J 0,.ag 889 0 3 6 Y]])),(892,(.row U 5 [[.ag 683 0 1 2 Y,.ag 855 0 1 3 Y,.ag 891 0 2 7 Y,.ag 878 0 1 4 Y,I J 1]])),(893,(.row U 2 [[I J 0,I J 0]]))]),(.ag 2088 0 2 1 (D 2)),2100,(fw)⟩
def Ep(a:bm aI P bd):w4.Ok aI P:=bf.bR (bO a bQ 100) j
def w5:bf:=⟨20,[.agg [.ag 683 0 1 2 Y,.ag 855 0 1 3 Y,.ag 891 0 2 7 Y,.ag 878 0 1 4 Y,I J 1]],2100,(fw),.ag 3528 0 2 1 Y,3529,(fw++[(3526,(.row U 1 [[I J 0]])),(3528,(.row U 1 [[.ar],[.ag 3526 0 1 1 Y]]))])⟩
def Er(a:bm aI P bd):w5.Ok aI P:=bf.bR (bO a bQ 100) j
def w6:bf:=⟨11,[.agg [.ag 683 0 1 2 Y,.ag 855 0 1 3 Y,.ag 891 0 2 7 Y,.ag 878 0 1 4 Y,I J 1]],3529,(fw++[(3526,(.row U 1 [[I J 0]])),(3528,(.row U 1 [[.ar],[.ag 3526 0 1 1 Y]]))]),(.agg [I J 1,(.ag 4177 0 1 1 (D 1)),.ag 4188 0 5 1 Y,.ag 4214 0 1 1 Y]),4217,(fw++[(3526,(.row U 1 [[I J 0]])),(3528,(.row U 1 [[.ar],[.ag 3526 0 1 1 Y]])),(4177,(.row U 1 [[I J 0]])),(4188,(.row U 1 [[I J 0],[I J 0],[(I J (-1))],[(I J (-1))],[(I J (-1))]])),(4212,(.row U 1 [[(I J (-1))],[(I J (-1))],[(I J (-1))],[(I J (-1))],[(I J (-1))],[(I J (-1))],[(I J (-1))],[(I J (-1))]])),(4214,(.row U 1 [[.ag 4212 0 8 1 Y]]))])⟩
def Es(a:bm aI P bd):w6.Ok aI P:=bf.bR (bO a bQ 100) j
def w7:bf:=⟨16,[],4217,(fw++[(3526,(.row U 1 [[I J 0]])),(3528,(.row U 1 [[.ar],[.ag 3526 0 1 1 Y]]))]),Z V,4217,(fw++[(3526,(.row U 1 [[I J 0]])),(3528,(.row U 1 [[.ar],[.ag 3526 0 1 1 Y]]))])⟩
def Et(a:bm aI P bd):w7.Ok aI P:=eP a _
def Eu(a:bm aI P bd):∀s∈[w2,w3,w4,w5,w6,w7],s.Ok aI P:=by
 intro s b;simp only[List.mem_cons,List.not_mem_nil,or_false]at b;rcases b with rfl|rfl|rfl|rfl|rfl|rfl
 ·exact En a
 ·exact Eo a
 ·exact Ep a
 ·exact Er a
 ·exact Es a
 ·exact Et a
def Ev(a:bm aI P bd)(H:ae):b6 aI P 7 [I J 0] H (Z V) H:=by
 obtain⟨ba,c⟩:=en (b:=true) (m:=5) (f:=7) (args:=[I J 0]) (H:=ae.empty) (eb a (Eu a)) eQ j;exact eL c H

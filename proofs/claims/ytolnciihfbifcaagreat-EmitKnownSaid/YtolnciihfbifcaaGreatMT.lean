/-
  Texts of one proof, laid together: Kt Kn.
-/
import Derived.Test.YtolnciihfbifcaaGreatMF
import Derived.Test.YtolnciihfbifcaaGreatMG
import Derived.Test.YtolnciihfbifcaaGreatMH
import Derived.Test.YtolnciihfbifcaaGreatMI
import Derived.Test.YtolnciihfbifcaaGreatMJ
import Derived.Test.YtolnciihfbifcaaGreatMK
import Derived.Test.YtolnciihfbifcaaGreatML
import Derived.Test.YtolnciihfbifcaaGreatMM
import Derived.Test.YtolnciihfbifcaaGreatMN
import Derived.Test.YtolnciihfbifcaaGreatMO
import Derived.Test.YtolnciihfbifcaaGreatMP
import Derived.Test.YtolnciihfbifcaaGreatMR
import Derived.Test.YtolnciihfbifcaaGreatMS
set_option linter.unusedVariables false
set_option linter.unusedSimpArgs false
set_option linter.defProp false
open Option renaming some→D,none→Y
open Bool renaming true→V,false→U
open Go.cV.aa renaming int→I,str→X,bool→Z
open Go.IntKind renaming i64→J
namespace Go.Proofs.YtolnciihfbifcaaGreat
open Go.cV
section
set_option maxRecDepth 100000
noncomputable section
abbrev av:Nat:=1000000
def qR:aP az P 12 (λG l H=>aW l λa=>jz G a H):=bt (N:=av) aS ⟨Tryz.func12,j,j,j⟩ λG a H=>N7 G av a H
def zm:aP az P 16 (λG l H=>aN l λa b=>m2 G a b H):=bp (N:=av) aS ⟨Tryz.func16,j,j,j⟩ λG a b H=>ain G av a b H
def zn:aP az P 19 (λG l H=>aN l λa b=>m5 G a b H):=bp (N:=av) aS ⟨Tryz.func19,j,j,j⟩ λG a b H=>ajJ G av a b H
def EO:aP az P 32 (λG l H=>aW l λa=>pr G av a H):=bt (N:=av) aS ⟨Tryz.func32,j,j,j⟩ λG a H=>aoV G av a H
def EP:aP az P 33 (λG l H=>aW l λa=>pv G av a H):=bt (N:=av) aS ⟨Tryz.func33,j,j,j⟩ λG a H=>ao3 G av a H
def ER:aP az P 37 (λG l H=>aW l λa=>pw G av a H):=bt (N:=av) aS ⟨Tryz.func37,j,j,j⟩ λG a H=>apf G av a H
def zo:aP az P 39 (λG l H=>hF l (nj G H)):=qL (N:=av) aS ⟨Tryz.func39,j,j,j⟩ λG H=>apk G av H
def qS:aP az P 43 (λG l H=>aN l λa b=>me G av a b H):=bp (N:=av) aS ⟨Tryz.func43,j,j,j⟩ λG a b H=>apm G av a b H
def zp:aP az P 45 (λG l H=>aN l λa b=>nm G av a b H):=bp (N:=av) aS ⟨Tryz.func45,j,j,j⟩ λG a b H=>apv G av a b H
def qT:aP az P 48 (λG l H=>aW l λa=>mh G av a H):=bt (N:=av) aS ⟨Tryz.func48,j,j,j⟩ λG a H=>apB G av a H
def qU:aP az P 50 (λG l H=>aN l λa b=>mi G a b H):=bp (N:=av) aS ⟨Tryz.func50,j,j,j⟩ λG a b H=>apE G av a b H
def qV:aP az P 51 (λG l H=>aN l λa b=>mj G a b H):=bp (N:=av) aS ⟨Tryz.func51,j,j,j⟩ λG a b H=>apF G av a b H
def qW:aP az P 60 (λG l H=>aW l λa=>ml G av a H):=bt (N:=av) aS ⟨Tryz.func60,j,j,j⟩ λG a H=>apH G av a H
def qX:aP az P 61 (λG l H=>aW l λa=>mm G a H):=bt (N:=av) aS ⟨Tryz.func61,j,j,j⟩ λG a H=>apJ G av a H
def qY:aP az P 62 (λG l H=>aW l λa=>mo G a H):=bt (N:=av) aS ⟨Tryz.func62,j,j,j⟩ λG a H=>apK G av a H
def qZ:aP az P 63 (λG l H=>aN l λa b=>mq G a b H):=bp (N:=av) aS ⟨Tryz.func63,j,j,j⟩ λG a b H=>apL G av a b H
def ES:aP az P 64 (λG l H=>aN l λa b=>py G a b H):=bp (N:=av) aS ⟨Tryz.func64,j,j,j⟩ λG a b H=>apN G av a b H
def ET:aP az P 65 (λG l H=>aW l λa=>pz G av a H):=bt (N:=av) aS ⟨Tryz.func65,j,j,j⟩ λG a H=>apP G av a H
def EU:aP az P 66 (λG l H=>aW l λa=>pB G a H):=bt (N:=av) aS ⟨Tryz.func66,j,j,j⟩ λG a H=>apR G av a H
def EV:aP az P 67 (λG l H=>aN l λa b=>pC G a b H):=bp (N:=av) aS ⟨Tryz.func67,j,j,j⟩ λG a b H=>apS G av a b H
def EW:aP az P 68 (λG l H=>aW l λa=>pD G av a H):=bt (N:=av) aS ⟨Tryz.func68,j,j,j⟩ λG a H=>apU G av a H
def EX:aP az P 69 (λG l H=>aW l λa=>pF G av a H):=bt (N:=av) aS ⟨Tryz.func69,j,j,j⟩ λG a H=>apY G av a H
def EY:aP az P 70 (λG l H=>aW l λa=>pG G av a H):=bt (N:=av) aS ⟨Tryz.func70,j,j,j⟩ λG a H=>ap2 G av a H
def EZ:aP az P 71 (λG l H=>aW l λa=>pH G av a H):=bt (N:=av) aS ⟨Tryz.func71,j,j,j⟩ λG a H=>ap8 G av a H
def E0:aP az P 72 (λG l H=>aN l λa b=>pI G a b H):=bp (N:=av) aS ⟨Tryz.func72,j,j,j⟩ λG a b H=>aqa G av a b H
def E1:aP az P 73 (λG l H=>aN l λa b=>pJ G av a b H):=bp (N:=av) aS ⟨Tryz.func73,j,j,j⟩ λG a b H=>aqc G av a b H
def E2:aP az P 74 (λG l H=>aW l λa=>pK G a H):=bt (N:=av) aS ⟨Tryz.func74,j,j,j⟩ λG a H=>aqd G av a H
def E3:aP az P 75 (λG l H=>aW l λa=>pL G a H):=bt (N:=av) aS ⟨Tryz.func75,j,j,j⟩ λG a H=>aqf G av a H
def afC:aP az P 76 (λG l H=>aW l λa=>CT G a H):=bt (N:=av) aS ⟨Tryz.func76,j,j,j⟩ λG a H=>aqg G av a H
def Nw:aP az P 77 (λG l H=>aW l λa=>wZ G av a H):=bt (N:=av) aS ⟨Tryz.func77,j,j,j⟩ λG a H=>aqk G av a H
def afD:aP az P 78 (λG l H=>aW l λa=>CU G av a H):=bt (N:=av) aS ⟨Tryz.func78,j,j,j⟩ λG a H=>aqq G av a H
def E4:aP az P 79 (λG l H=>aN l λa b=>pM G av a b H):=bp (N:=av) aS ⟨Tryz.func79,j,j,j⟩ λG a b H=>aqv G av a b H
def E5:aP az P 80 (λG l H=>bw l λa b c=>pO G a b c H):=dH (N:=av) aS ⟨Tryz.func80,j,j,j⟩ λG a b c H=>aqz G av a b c H
def Nx:aP az P 81 (λG l H=>aN l λa b=>xa G av a b H):=bp (N:=av) aS ⟨Tryz.func81,j,j,j⟩ λG a b H=>aqB G av a b H
def E6:aP az P 90 (λG l H=>aW l λa=>pP G a H):=bt (N:=av) aS ⟨Tryz.func90,j,j,j⟩ λG a H=>aqE G av a H
def E7:aP az P 92 (λG l H=>aN l λa b=>pQ G av a b H):=bp (N:=av) aS ⟨Tryz.func92,j,j,j⟩ λG a b H=>aqG G av a b H
def Ny:aP az P 93 (λG l H=>aW l λa=>xg G av a H):=bt (N:=av) aS ⟨Tryz.func93,j,j,j⟩ λG a H=>aqL G av a H
def E8:aP az P 94 (λG l H=>aN l λa b=>pR G a b H):=bp (N:=av) aS ⟨Tryz.func94,j,j,j⟩ λG a b H=>aqP G av a b H
def E9:aP az P 95 (λG l H=>aN l λa b=>pS G av a b H):=bp (N:=av) aS ⟨Tryz.func95,j,j,j⟩ λG a b H=>aqS G av a b H
def EE:aP az P 101 (λG l H=>bw l λa b c=>oP G a b c H):=dH (N:=av) aS ⟨Tryz.func101,j,j,j⟩ λG a b c H=>af3 G av a b c H
def EG:aP az P 103 (λG l H=>aN l λa b=>oQ G av a b H):=bp (N:=av) aS ⟨Tryz.func103,j,j,j⟩ λG a b H=>af8 G av a b H
def EH:aP az P 104 (λG l H=>aW l λa=>oS G a H):=bt (N:=av) aS ⟨Tryz.func104,j,j,j⟩ λG a H=>aga G av a H
def EI:aP az P 105 (λG l H=>aN l λa b=>oT G a b H):=bp (N:=av) aS ⟨Tryz.func105,j,j,j⟩ λG a b H=>agb G av a b H
def EJ:aP az P 106 (λG l H=>aN l λa b=>oU G a b H):=bp (N:=av) aS ⟨Tryz.func106,j,j,j⟩ λG a b H=>agc G av a b H
def EK:aP az P 107 (λG l H=>aW l λa=>oV G av a H):=bt (N:=av) aS ⟨Tryz.func107,j,j,j⟩ λG a H=>agf G av a H
def EL:aP az P 108 (λG l H=>aW l λa=>oX G a H):=bt (N:=av) aS ⟨Tryz.func108,j,j,j⟩ λG a H=>agl G av a H
def EM:aP az P 109 (λG l H=>aW l λa=>oY G a H):=bt (N:=av) aS ⟨Tryz.func109,j,j,j⟩ λG a H=>agm G av a H
def EN:aP az P 110 (λG l H=>aW l λa=>oZ G av a H):=bt (N:=av) aS ⟨Tryz.func110,j,j,j⟩ λG a H=>agp G av a H
def acw:aP az P 116 (λG l H=>aN l λa b=>zE G av a b H):=bp (N:=av) aS ⟨Tryz.func116,j,j,j⟩ λG a b H=>agv G av a b H
def acx:aP az P 117 (λG l H=>aN l λa b=>zF G a b H):=bp (N:=av) aS ⟨Tryz.func117,j,j,j⟩ λG a b H=>agx G av a b H
def acy:aP az P 118 (λG l H=>aW l λa=>zG G a H):=bt (N:=av) aS ⟨Tryz.func118,j,j,j⟩ λG a H=>agy G av a H
def acz:aP az P 119 (λG l H=>aW l λa=>zH G av a H):=bt (N:=av) aS ⟨Tryz.func119,j,j,j⟩ λG a H=>agB G av a H
def acA:aP az P 120 (λG l H=>aW l λa=>zI G av a H):=bt (N:=av) aS ⟨Tryz.func120,j,j,j⟩ λG a H=>agH G av a H
def acB:aP az P 121 (λG l H=>aW l λa=>zJ G av a H):=bt (N:=av) aS ⟨Tryz.func121,j,j,j⟩ λG a H=>agO G av a H
def acC:aP az P 122 (λG l H=>aW l λa=>zK G av a H):=bt (N:=av) aS ⟨Tryz.func122,j,j,j⟩ λG a H=>agY G av a H
def acD:aP az P 123 (λG l H=>aN l λa b=>zL G av a b H):=bp (N:=av) aS ⟨Tryz.func123,j,j,j⟩ λG a b H=>ag1 G av a b H
def acE:aP az P 124 (λG l H=>aW l λa=>zM G a H):=bt (N:=av) aS ⟨Tryz.func124,j,j,j⟩ λG a H=>ag3 G av a H
def acF:aP az P 125 (λG l H=>aN l λa b=>zN G av a b H):=bp (N:=av) aS ⟨Tryz.func125,j,j,j⟩ λG a b H=>ag7 G av a b H
def acG:aP az P 126 (λG l H=>aN l λa b=>zO G a b H):=bp (N:=av) aS ⟨Tryz.func126,j,j,j⟩ λG a b H=>ag_ G av a b H
def acH:aP az P 127 (λG l H=>aN l λa b=>zP G a b H):=bp (N:=av) aS ⟨Tryz.func127,j,j,j⟩ λG a b H=>ahc G av a b H
def acI:aP az P 128 (λG l H=>aW l λa=>zQ G av a H):=bt (N:=av) aS ⟨Tryz.func128,j,j,j⟩ λG a H=>ahf G av a H
def acJ:aP az P 129 (λG l H=>aN l λa b=>zR G av a b H):=bp (N:=av) aS ⟨Tryz.func129,j,j,j⟩ λG a b H=>ahj G av a b H
def acK:aP az P 130 (λG l H=>aW l λa=>zS G av a H):=bt (N:=av) aS ⟨Tryz.func130,j,j,j⟩ λG a H=>ahm G av a H
def acL:aP az P 131 (λG l H=>aW l λa=>zT G av a H):=bt (N:=av) aS ⟨Tryz.func131,j,j,j⟩ λG a H=>ahp G av a H
def acM:aP az P 132 (λG l H=>aW l λa=>zU G av a H):=bt (N:=av) aS ⟨Tryz.func132,j,j,j⟩ λG a H=>ahs G av a H
def acN:aP az P 133 (λG l H=>aW l λa=>zV G av a H):=bt (N:=av) aS ⟨Tryz.func133,j,j,j⟩ λG a H=>ahv G av a H
def acO:aP az P 134 (λG l H=>bw l λa b c=>zW G av a b c H):=dH (N:=av) aS ⟨Tryz.func134,j,j,j⟩ λG a b c H=>ahA G av a b c H
def acP:aP az P 135 (λG l H=>aN l λa b=>zX G a b H):=bp (N:=av) aS ⟨Tryz.func135,j,j,j⟩ λG a b H=>ahE G av a b H
def acQ:aP az P 136 (λG l H=>aN l λa b=>zY G a b H):=bp (N:=av) aS ⟨Tryz.func136,j,j,j⟩ λG a b H=>ahF G av a b H
def acR:aP az P 137 (λG l H=>aN l λa b=>zZ G av a b H):=bp (N:=av) aS ⟨Tryz.func137,j,j,j⟩ λG a b H=>ahJ G av a b H
def acS:aP az P 138 (λG l H=>aN l λa b=>z1 G a b H):=bp (N:=av) aS ⟨Tryz.func138,j,j,j⟩ λG a b H=>ahM G av a b H
def acT:aP az P 139 (λG l H=>aN l λa b=>z2 G av a b H):=bp (N:=av) aS ⟨Tryz.func139,j,j,j⟩ λG a b H=>ahO G av a b H
def acU:aP az P 140 (λG l H=>aN l λa b=>z6 G av a b H):=bp (N:=av) aS ⟨Tryz.func140,j,j,j⟩ λG a b H=>ahR G av a b H
def acV:aP az P 141 (λG l H=>aW l λa=>z7 G a H):=bt (N:=av) aS ⟨Tryz.func141,j,j,j⟩ λG a H=>ahT G av a H
def acW:aP az P 142 (λG l H=>aW l λa=>z8 G av a H):=bt (N:=av) aS ⟨Tryz.func142,j,j,j⟩ λG a H=>ahW G av a H
def acX:aP az P 155 (λG l H=>bw l λa b c=>z_ G av a b c H):=dH (N:=av) aS ⟨Tryz.func155,j,j,j⟩ λG a b c H=>ah1 G av a b c H
def acY:aP az P 156 (λG l H=>aW l λa=>Aa G av a H):=bt (N:=av) aS ⟨Tryz.func156,j,j,j⟩ λG a H=>ah7 G av a H
def acZ:aP az P 157 (λG l H=>aN l λa b=>Ab G a b H):=bp (N:=av) aS ⟨Tryz.func157,j,j,j⟩ λG a b H=>aia G av a b H
def ac0:aP az P 158 (λG l H=>aN l λa b=>Ac G a b H):=bp (N:=av) aS ⟨Tryz.func158,j,j,j⟩ λG a b H=>aib G av a b H
def ac1:aP az P 161 (λG l H=>aN l λa b=>Ad G a b H):=bp (N:=av) aS ⟨Tryz.func161,j,j,j⟩ λG a b H=>aic G av a b H
def ac2:aP az P 162 (λG l H=>aN l λa b=>Ae G av a b H):=bp (N:=av) aS ⟨Tryz.func162,j,j,j⟩ λG a b H=>aie G av a b H
def ac3:aP az P 164 (λG l H=>aW l λa=>Af G a H):=bt (N:=av) aS ⟨Tryz.func164,j,j,j⟩ λG a H=>aih G av a H
def ac4:aP az P 165 (λG l H=>aN l λa b=>Ag G av a b H):=bp (N:=av) aS ⟨Tryz.func165,j,j,j⟩ λG a b H=>aij G av a b H
def ac5:aP az P 166 (λG l H=>aN l λa b=>Ah G a b H):=bp (N:=av) aS ⟨Tryz.func166,j,j,j⟩ λG a b H=>aik G av a b H
def ac6:aP az P 175 (λG l H=>aW l λa=>Ai G a H):=bt (N:=av) aS ⟨Tryz.func175,j,j,j⟩ λG a H=>aio G av a H
def ac7:aP az P 176 (λG l H=>bw l λa b c=>Aj G av a b c H):=dH (N:=av) aS ⟨Tryz.func176,j,j,j⟩ λG a b c H=>aiq G av a b c H
def ac8:aP az P 177 (λG l H=>aW l λa=>Ak G av a H):=bt (N:=av) aS ⟨Tryz.func177,j,j,j⟩ λG a H=>ait G av a H
def ac9:aP az P 178 (λG l H=>aW l λa=>Al G av a H):=bt (N:=av) aS ⟨Tryz.func178,j,j,j⟩ λG a H=>aiw G av a H
def ac_:aP az P 179 (λG l H=>aW l λa=>Am G a H):=bt (N:=av) aS ⟨Tryz.func179,j,j,j⟩ λG a H=>aiy G av a H
def ada:aP az P 180 (λG l H=>aW l λa=>An G av a H):=bt (N:=av) aS ⟨Tryz.func180,j,j,j⟩ λG a H=>aiA G av a H
def adb:aP az P 181 (λG l H=>aN l λa b=>Ao G av a b H):=bp (N:=av) aS ⟨Tryz.func181,j,j,j⟩ λG a b H=>aiE G av a b H
def ade:aP az P 182 (λG l H=>aN l λa b=>Ap G a b H):=bp (N:=av) aS ⟨Tryz.func182,j,j,j⟩ λG a b H=>aiH G av a b H
def adf:aP az P 183 (λG l H=>aW l λa=>Aq G a H):=bt (N:=av) aS ⟨Tryz.func183,j,j,j⟩ λG a H=>aiI G av a H
def adg:aP az P 184 (λG l H=>aN l λa b=>Ar G a b H):=bp (N:=av) aS ⟨Tryz.func184,j,j,j⟩ λG a b H=>aiN G av a b H
def adh:aP az P 185 (λG l H=>aW l λa=>As G a H):=bt (N:=av) aS ⟨Tryz.func185,j,j,j⟩ λG a H=>aiO G av a H
def adi:aP az P 186 (λG l H=>aN l λa b=>Au G av a b H):=bp (N:=av) aS ⟨Tryz.func186,j,j,j⟩ λG a b H=>aiR G av a b H
def adj:aP az P 187 (λG l H=>aN l λa b=>Av G av a b H):=bp (N:=av) aS ⟨Tryz.func187,j,j,j⟩ λG a b H=>aiW G av a b H
def adk:aP az P 188 (λG l H=>aN l λa b=>Aw G av a b H):=bp (N:=av) aS ⟨Tryz.func188,j,j,j⟩ λG a b H=>ai0 G av a b H
def adl:aP az P 189 (λG l H=>aN l λa b=>Ax G av a b H):=bp (N:=av) aS ⟨Tryz.func189,j,j,j⟩ λG a b H=>ajc G av a b H
def adm:aP az P 190 (λG l H=>aW l λa=>Ay G av a H):=bt (N:=av) aS ⟨Tryz.func190,j,j,j⟩ λG a H=>ajf G av a H
def adn:aP az P 191 (λG l H=>aN l λa b=>Az G a b H):=bp (N:=av) aS ⟨Tryz.func191,j,j,j⟩ λG a b H=>ajg G av a b H
def ado:aP az P 192 (λG l H=>aN l λa b=>AA G av a b H):=bp (N:=av) aS ⟨Tryz.func192,j,j,j⟩ λG a b H=>ajl G av a b H
def adp:aP az P 193 (λG l H=>aN l λa b=>AD G a b H):=bp (N:=av) aS ⟨Tryz.func193,j,j,j⟩ λG a b H=>ajn G av a b H
def adq:aP az P 194 (λG l H=>aW l λa=>AE G a H):=bt (N:=av) aS ⟨Tryz.func194,j,j,j⟩ λG a H=>ajq G av a H
def adr:aP az P 195 (λG l H=>aN l λa b=>AF G av a b H):=bp (N:=av) aS ⟨Tryz.func195,j,j,j⟩ λG a b H=>ajs G av a b H
def ads:aP az P 196 (λG l H=>aW l λa=>AG G av a H):=bt (N:=av) aS ⟨Tryz.func196,j,j,j⟩ λG a H=>ajw G av a H
def adt:aP az P 197 (λG l H=>aN l λa b=>AH G a b H):=bp (N:=av) aS ⟨Tryz.func197,j,j,j⟩ λG a b H=>ajz G av a b H
def adu:aP az P 198 (λG l H=>aW l λa=>AI G av a H):=bt (N:=av) aS ⟨Tryz.func198,j,j,j⟩ λG a H=>ajC G av a H
def adv:aP az P 199 (λG l H=>aW l λa=>AJ G av a H):=bt (N:=av) aS ⟨Tryz.func199,j,j,j⟩ λG a H=>ajH G av a H
def adw:aP az P 200 (λG l H=>aN l λa b=>AK G av a b H):=bp (N:=av) aS ⟨Tryz.func200,j,j,j⟩ λG a b H=>ajL G av a b H
def adx:aP az P 201 (λG l H=>aN l λa b=>AL G a b H):=bp (N:=av) aS ⟨Tryz.func201,j,j,j⟩ λG a b H=>ajN G av a b H
def ady:aP az P 202 (λG l H=>aN l λa b=>AM G a b H):=bp (N:=av) aS ⟨Tryz.func202,j,j,j⟩ λG a b H=>ajO G av a b H
def adz:aP az P 203 (λG l H=>bw l λa b c=>AN G a b c H):=dH (N:=av) aS ⟨Tryz.func203,j,j,j⟩ λG a b c H=>ajP G av a b c H
def adA:aP az P 204 (λG l H=>bw l λa b c=>AO G a b c H):=dH (N:=av) aS ⟨Tryz.func204,j,j,j⟩ λG a b c H=>ajS G av a b c H
def adB:aP az P 205 (λG l H=>aN l λa b=>AP G a b H):=bp (N:=av) aS ⟨Tryz.func205,j,j,j⟩ λG a b H=>ajT G av a b H
def adC:aP az P 206 (λG l H=>aN l λa b=>AQ G a b H):=bp (N:=av) aS ⟨Tryz.func206,j,j,j⟩ λG a b H=>ajU G av a b H
def adD:aP az P 207 (λG l H=>bw l λa b c=>AR G a b c H):=dH (N:=av) aS ⟨Tryz.func207,j,j,j⟩ λG a b c H=>ajV G av a b c H
def adE:aP az P 208 (λG l H=>bw l λa b c=>AS G a b c H):=dH (N:=av) aS ⟨Tryz.func208,j,j,j⟩ λG a b c H=>ajW G av a b c H
def adF:aP az P 209 (λG l H=>aN l λa b=>AT G a b H):=bp (N:=av) aS ⟨Tryz.func209,j,j,j⟩ λG a b H=>ajX G av a b H
def adG:aP az P 210 (λG l H=>aN l λa b=>AU G av a b H):=bp (N:=av) aS ⟨Tryz.func210,j,j,j⟩ λG a b H=>aj0 G av a b H
def adH:aP az P 211 (λG l H=>aW l λa=>AV G a H):=bt (N:=av) aS ⟨Tryz.func211,j,j,j⟩ λG a H=>aj1 G av a H
def adI:aP az P 212 (λG l H=>aN l λa b=>AW G a b H):=bp (N:=av) aS ⟨Tryz.func212,j,j,j⟩ λG a b H=>aj4 G av a b H
def adJ:aP az P 213 (λG l H=>aW l λa=>AX G a H):=bt (N:=av) aS ⟨Tryz.func213,j,j,j⟩ λG a H=>aj5 G av a H
def adK:aP az P 214 (λG l H=>aN l λa b=>AY G a b H):=bp (N:=av) aS ⟨Tryz.func214,j,j,j⟩ λG a b H=>aj6 G av a b H
def adL:aP az P 216 (λG l H=>gl l λa b c d=>AZ G av a b c d H):=kM (N:=av) aS ⟨Tryz.func216,j,j,j⟩ λG a b c d H=>aj8 G av a b c d H
def adM:aP az P 217 (λG l H=>aW l λa=>A0 G a H):=bt (N:=av) aS ⟨Tryz.func217,j,j,j⟩ λG a H=>akb G av a H
def adN:aP az P 221 (λG l H=>hF l (A1 G H)):=qL (N:=av) aS ⟨Tryz.func221,j,j,j⟩ λG H=>akc G av H
def adO:aP az P 222 (λG l H=>aN l λa b=>A2 G av a b H):=bp (N:=av) aS ⟨Tryz.func222,j,j,j⟩ λG a b H=>ake G av a b H
def adP:aP az P 223 (λG l H=>aN l λa b=>A3 G a b H):=bp (N:=av) aS ⟨Tryz.func223,j,j,j⟩ λG a b H=>akg G av a b H
def adQ:aP az P 224 (λG l H=>aN l λa b=>A4 G a b H):=bp (N:=av) aS ⟨Tryz.func224,j,j,j⟩ λG a b H=>akk G av a b H
def adR:aP az P 225 (λG l H=>aN l λa b=>A5 G a b H):=bp (N:=av) aS ⟨Tryz.func225,j,j,j⟩ λG a b H=>akn G av a b H
def adS:aP az P 226 (λG l H=>aN l λa b=>A6 G av a b H):=bp (N:=av) aS ⟨Tryz.func226,j,j,j⟩ λG a b H=>akp G av a b H
def adT:aP az P 227 (λG l H=>aN l λa b=>A7 G a b H):=bp (N:=av) aS ⟨Tryz.func227,j,j,j⟩ λG a b H=>aks G av a b H
def adU:aP az P 228 (λG l H=>aN l λa b=>A8 G av a b H):=bp (N:=av) aS ⟨Tryz.func228,j,j,j⟩ λG a b H=>akw G av a b H
def adV:aP az P 229 (λG l H=>hF l (A9 G H)):=qL (N:=av) aS ⟨Tryz.func229,j,j,j⟩ λG H=>akz G av H
def adW:aP az P 230 (λG l H=>hF l (A_ G H)):=qL (N:=av) aS ⟨Tryz.func230,j,j,j⟩ λG H=>akA G av H
def adX:aP az P 231 (λG l H=>aN l λa b=>Ba G a b H):=bp (N:=av) aS ⟨Tryz.func231,j,j,j⟩ λG a b H=>akB G av a b H
def adY:aP az P 232 (λG l H=>hF l (Bb G H)):=qL (N:=av) aS ⟨Tryz.func232,j,j,j⟩ λG H=>akC G av H
def adZ:aP az P 233 (λG l H=>bw l λa b c=>Bc G a b c H):=dH (N:=av) aS ⟨Tryz.func233,j,j,j⟩ λG a b c H=>akD G av a b c H
def ad0:aP az P 234 (λG l H=>aW l λa=>Bd G av a H):=bt (N:=av) aS ⟨Tryz.func234,j,j,j⟩ λG a H=>akF G av a H
def ad1:aP az P 235 (λG l H=>aW l λa=>Be G a H):=bt (N:=av) aS ⟨Tryz.func235,j,j,j⟩ λG a H=>akH G av a H
def ad2:aP az P 236 (λG l H=>aN l λa b=>Bf G a b H):=bp (N:=av) aS ⟨Tryz.func236,j,j,j⟩ λG a b H=>akI G av a b H
def ad3:aP az P 237 (λG l H=>gl l λa b c d=>Bg G av a b c d H):=kM (N:=av) aS ⟨Tryz.func237,j,j,j⟩ λG a b c d H=>akP G av a b c d H
def ad4:aP az P 238 (λG l H=>aW l λa=>Bh G a H):=bt (N:=av) aS ⟨Tryz.func238,j,j,j⟩ λG a H=>akV G av a H
def ad5:aP az P 239 (λG l H=>aW l λa=>Bi G av a H):=bt (N:=av) aS ⟨Tryz.func239,j,j,j⟩ λG a H=>ak3 G av a H
def ad6:aP az P 240 (λG l H=>aN l λa b=>Bj G a b H):=bp (N:=av) aS ⟨Tryz.func240,j,j,j⟩ λG a b H=>alb G av a b H
def ad7:aP az P 241 (λG l H=>aN l λa b=>Bk G av a b H):=bp (N:=av) aS ⟨Tryz.func241,j,j,j⟩ λG a b H=>alf G av a b H
def ad8:aP az P 242 (λG l H=>bw l λa b c=>Bl G a b c H):=dH (N:=av) aS ⟨Tryz.func242,j,j,j⟩ λG a b c H=>alh G av a b c H
def ad9:aP az P 243 (λG l H=>bw l λa b c=>Bm G a b c H):=dH (N:=av) aS ⟨Tryz.func243,j,j,j⟩ λG a b c H=>ali G av a b c H
def ad_:aP az P 244 (λG l H=>bw l λa b c=>Bn G a b c H):=dH (N:=av) aS ⟨Tryz.func244,j,j,j⟩ λG a b c H=>alj G av a b c H
def aea:aP az P 245 (λG l H=>aN l λa b=>Bo G a b H):=bp (N:=av) aS ⟨Tryz.func245,j,j,j⟩ λG a b H=>alm G av a b H
def aeb:aP az P 246 (λG l H=>aW l λa=>Bp G a H):=bt (N:=av) aS ⟨Tryz.func246,j,j,j⟩ λG a H=>aln G av a H
def aec:aP az P 247 (λG l H=>aW l λa=>Bq G a H):=bt (N:=av) aS ⟨Tryz.func247,j,j,j⟩ λG a H=>alo G av a H
def aed:aP az P 248 (λG l H=>aW l λa=>Br G a H):=bt (N:=av) aS ⟨Tryz.func248,j,j,j⟩ λG a H=>alu G av a H
def aee:aP az P 249 (λG l H=>bw l λa b c=>Bs G av a b c H):=dH (N:=av) aS ⟨Tryz.func249,j,j,j⟩ λG a b c H=>alx G av a b c H
def aef:aP az P 250 (λG l H=>bw l λa b c=>Bt G av a b c H):=dH (N:=av) aS ⟨Tryz.func250,j,j,j⟩ λG a b c H=>alB G av a b c H
def aeg:aP az P 251 (λG l H=>bw l λa b c=>Bu G av a b c H):=dH (N:=av) aS ⟨Tryz.func251,j,j,j⟩ λG a b c H=>alE G av a b c H
def aeh:aP az P 252 (λG l H=>bw l λa b c=>Bv G a b c H):=dH (N:=av) aS ⟨Tryz.func252,j,j,j⟩ λG a b c H=>alH G av a b c H
def aei:aP az P 253 (λG l H=>bw l λa b c=>Bw G av a b c H):=dH (N:=av) aS ⟨Tryz.func253,j,j,j⟩ λG a b c H=>alL G av a b c H
def aej:aP az P 254 (λG l H=>bw l λa b c=>Bx G av a b c H):=dH (N:=av) aS ⟨Tryz.func254,j,j,j⟩ λG a b c H=>alQ G av a b c H
def aek:aP az P 255 (λG l H=>aN l λa b=>By G a b H):=bp (N:=av) aS ⟨Tryz.func255,j,j,j⟩ λG a b H=>alV G av a b H
def ael:aP az P 256 (λG l H=>gl l λa b c d=>Bz G av a b c d H):=kM (N:=av) aS ⟨Tryz.func256,j,j,j⟩ λG a b c d H=>alZ G av a b c d H
def aem:aP az P 257 (λG l H=>gl l λa b c d=>BA G av a b c d H):=kM (N:=av) aS ⟨Tryz.func257,j,j,j⟩ λG a b c d H=>al8 G av a b c d H
def aen:aP az P 258 (λG l H=>aW l λa=>BB G a H):=bt (N:=av) aS ⟨Tryz.func258,j,j,j⟩ λG a H=>amd G av a H
def aeo:aP az P 259 (λG l H=>aW l λa=>BD G a H):=bt (N:=av) aS ⟨Tryz.func259,j,j,j⟩ λG a H=>amg G av a H
def aep:aP az P 260 (λG l H=>aW l λa=>BE G a H):=bt (N:=av) aS ⟨Tryz.func260,j,j,j⟩ λG a H=>amk G av a H
def aeq:aP az P 261 (λG l H=>aN l λa b=>BF G av a b H):=bp (N:=av) aS ⟨Tryz.func261,j,j,j⟩ λG a b H=>amn G av a b H
def aer:aP az P 262 (λG l H=>aW l λa=>BG G a H):=bt (N:=av) aS ⟨Tryz.func262,j,j,j⟩ λG a H=>amp G av a H
def aes:aP az P 263 (λG l H=>aN l λa b=>BH G a b H):=bp (N:=av) aS ⟨Tryz.func263,j,j,j⟩ λG a b H=>amu G av a b H
def aet:aP az P 264 (λG l H=>bw l λa b c=>BI G av a b c H):=dH (N:=av) aS ⟨Tryz.func264,j,j,j⟩ λG a b c H=>amB G av a b c H
def aeu:aP az P 265 (λG l H=>aW l λa=>BJ G a H):=bt (N:=av) aS ⟨Tryz.func265,j,j,j⟩ λG a H=>amF G av a H
def aev:aP az P 266 (λG l H=>aW l λa=>BK G a H):=bt (N:=av) aS ⟨Tryz.func266,j,j,j⟩ λG a H=>amM G av a H
def aew:aP az P 267 (λG l H=>k1 l λa b c d x=>BL G a b c d x H):=Ev (N:=av) aS ⟨Tryz.func267,j,j,j⟩ λG a b c d x H=>amN G av a b c d x H
def aex:aP az P 268 (λG l H=>aN l λa b=>BM G a b H):=bp (N:=av) aS ⟨Tryz.func268,j,j,j⟩ λG a b H=>amO G av a b H
def aey:aP az P 269 (λG l H=>aN l λa b=>BN G av a b H):=bp (N:=av) aS ⟨Tryz.func269,j,j,j⟩ λG a b H=>amQ G av a b H
def aez:aP az P 270 (λG l H=>aN l λa b=>BO G a b H):=bp (N:=av) aS ⟨Tryz.func270,j,j,j⟩ λG a b H=>amT G av a b H
def aeA:aP az P 271 (λG l H=>aN l λa b=>BP G a b H):=bp (N:=av) aS ⟨Tryz.func271,j,j,j⟩ λG a b H=>amU G av a b H
def aeB:aP az P 272 (λG l H=>aN l λa b=>BQ G a b H):=bp (N:=av) aS ⟨Tryz.func272,j,j,j⟩ λG a b H=>amV G av a b H
def aeC:aP az P 273 (λG l H=>aN l λa b=>BR G a b H):=bp (N:=av) aS ⟨Tryz.func273,j,j,j⟩ λG a b H=>amW G av a b H
def aeD:aP az P 274 (λG l H=>aN l λa b=>BS G a b H):=bp (N:=av) aS ⟨Tryz.func274,j,j,j⟩ λG a b H=>amX G av a b H
def aeE:aP az P 275 (λG l H=>aN l λa b=>BT G a b H):=bp (N:=av) aS ⟨Tryz.func275,j,j,j⟩ λG a b H=>amY G av a b H
def aeF:aP az P 276 (λG l H=>gl l λa b c d=>BU G a b c d H):=kM (N:=av) aS ⟨Tryz.func276,j,j,j⟩ λG a b c d H=>amZ G av a b c d H
def aeG:aP az P 277 (λG l H=>gl l λa b c d=>BV G a b c d H):=kM (N:=av) aS ⟨Tryz.func277,j,j,j⟩ λG a b c d H=>am0 G av a b c d H
def aeH:aP az P 278 (λG l H=>aN l λa b=>BW G av a b H):=bp (N:=av) aS ⟨Tryz.func278,j,j,j⟩ λG a b H=>am4 G av a b H
def aeI:aP az P 279 (λG l H=>aN l λa b=>BX G a b H):=bp (N:=av) aS ⟨Tryz.func279,j,j,j⟩ λG a b H=>am5 G av a b H
def aeJ:aP az P 280 (λG l H=>aW l λa=>BY G av a H):=bt (N:=av) aS ⟨Tryz.func280,j,j,j⟩ λG a H=>am9 G av a H
def aeK:aP az P 281 (λG l H=>aW l λa=>BZ G av a H):=bt (N:=av) aS ⟨Tryz.func281,j,j,j⟩ λG a H=>anb G av a H
def aeL:aP az P 282 (λG l H=>bw l λa b c=>B0 G a b c H):=dH (N:=av) aS ⟨Tryz.func282,j,j,j⟩ λG a b c H=>anf G av a b c H
def aeM:aP az P 283 (λG l H=>aW l λa=>B1 G av a H):=bt (N:=av) aS ⟨Tryz.func283,j,j,j⟩ λG a H=>anh G av a H
def aeN:aP az P 284 (λG l H=>aW l λa=>B2 G av a H):=bt (N:=av) aS ⟨Tryz.func284,j,j,j⟩ λG a H=>ank G av a H
def aeO:aP az P 285 (λG l H=>aN l λa b=>B3 G av a b H):=bp (N:=av) aS ⟨Tryz.func285,j,j,j⟩ λG a b H=>ann G av a b H
def aeP:aP az P 286 (λG l H=>aN l λa b=>B4 G av a b H):=bp (N:=av) aS ⟨Tryz.func286,j,j,j⟩ λG a b H=>ans G av a b H
def aeQ:aP az P 287 (λG l H=>aW l λa=>B5 G av a H):=bt (N:=av) aS ⟨Tryz.func287,j,j,j⟩ λG a H=>anx G av a H
def aeR:aP az P 288 (λG l H=>aN l λa b=>B6 G a b H):=bp (N:=av) aS ⟨Tryz.func288,j,j,j⟩ λG a b H=>anC G av a b H
def aeS:aP az P 289 (λG l H=>bw l λa b c=>B7 G av a b c H):=dH (N:=av) aS ⟨Tryz.func289,j,j,j⟩ λG a b c H=>anE G av a b c H
def aeT:aP az P 290 (λG l H=>bw l λa b c=>B8 G a b c H):=dH (N:=av) aS ⟨Tryz.func290,j,j,j⟩ λG a b c H=>anG G av a b c H
def aeU:aP az P 291 (λG l H=>gl l λa b c d=>B9 G av a b c d H):=kM (N:=av) aS ⟨Tryz.func291,j,j,j⟩ λG a b c d H=>anI G av a b c d H
def aeV:aP az P 292 (λG l H=>aW l λa=>B_ G a H):=bt (N:=av) aS ⟨Tryz.func292,j,j,j⟩ λG a H=>anK G av a H
def aeW:aP az P 293 (λG l H=>aW l λa=>Ca G a H):=bt (N:=av) aS ⟨Tryz.func293,j,j,j⟩ λG a H=>anL G av a H
def aeX:aP az P 294 (λG l H=>bw l λa b c=>Cb G a b c H):=dH (N:=av) aS ⟨Tryz.func294,j,j,j⟩ λG a b c H=>anM G av a b c H
def aeY:aP az P 295 (λG l H=>k1 l λa b c d x=>Cc G a b c d x H):=Ev (N:=av) aS ⟨Tryz.func295,j,j,j⟩ λG a b c d x H=>anN G av a b c d x H
def aeZ:aP az P 296 (λG l H=>aW l λa=>Cd G a H):=bt (N:=av) aS ⟨Tryz.func296,j,j,j⟩ λG a H=>anO G av a H
def ae0:aP az P 297 (λG l H=>aN l λa b=>Ce G av a b H):=bp (N:=av) aS ⟨Tryz.func297,j,j,j⟩ λG a b H=>anQ G av a b H
def ae1:aP az P 298 (λG l H=>aW l λa=>Cf G a H):=bt (N:=av) aS ⟨Tryz.func298,j,j,j⟩ λG a H=>anS G av a H
def ae2:aP az P 299 (λG l H=>bw l λa b c=>Cg G av a b c H):=dH (N:=av) aS ⟨Tryz.func299,j,j,j⟩ λG a b c H=>anY G av a b c H
def ae3:aP az P 300 (λG l H=>k1 l λa b c d x=>Ch G a b c d x H):=Ev (N:=av) aS ⟨Tryz.func300,j,j,j⟩ λG a b c d x H=>an2 G av a b c d x H
def ae4:aP az P 301 (λG l H=>aN l λa b=>Ci G a b H):=bp (N:=av) aS ⟨Tryz.func301,j,j,j⟩ λG a b H=>an3 G av a b H
def ae5:aP az P 302 (λG l H=>aN l λa b=>Cj G a b H):=bp (N:=av) aS ⟨Tryz.func302,j,j,j⟩ λG a b H=>an4 G av a b H
def ae6:aP az P 303 (λG l H=>aN l λa b=>Ck G a b H):=bp (N:=av) aS ⟨Tryz.func303,j,j,j⟩ λG a b H=>an5 G av a b H
def ae7:aP az P 304 (λG l H=>bw l λa b c=>Cl G av a b c H):=dH (N:=av) aS ⟨Tryz.func304,j,j,j⟩ λG a b c H=>an7 G av a b c H
def ae8:aP az P 305 (λG l H=>aW l λa=>Cm G a H):=bt (N:=av) aS ⟨Tryz.func305,j,j,j⟩ λG a H=>an9 G av a H
def ae9:aP az P 306 (λG l H=>gl l λa b c d=>Cn G a b c d H):=kM (N:=av) aS ⟨Tryz.func306,j,j,j⟩ λG a b c d H=>aoe G av a b c d H
def ae_:aP az P 307 (λG l H=>bw l λa b c=>Co G a b c H):=dH (N:=av) aS ⟨Tryz.func307,j,j,j⟩ λG a b c H=>aof G av a b c H
def afa:aP az P 308 (λG l H=>bw l λa b c=>Cp G a b c H):=dH (N:=av) aS ⟨Tryz.func308,j,j,j⟩ λG a b c H=>aog G av a b c H
def afb:aP az P 309 (λG l H=>aW l λa=>Cq G a H):=bt (N:=av) aS ⟨Tryz.func309,j,j,j⟩ λG a H=>aoh G av a H
def afc:aP az P 310 (λG l H=>aN l λa b=>Cr G av a b H):=bp (N:=av) aS ⟨Tryz.func310,j,j,j⟩ λG a b H=>aol G av a b H
def afd:aP az P 311 (λG l H=>bw l λa b c=>Cs G a b c H):=dH (N:=av) aS ⟨Tryz.func311,j,j,j⟩ λG a b c H=>aon G av a b c H
def afe:aP az P 312 (λG l H=>bw l λa b c=>Ct G a b c H):=dH (N:=av) aS ⟨Tryz.func312,j,j,j⟩ λG a b c H=>aoo G av a b c H
def aff:aP az P 313 (λG l H=>aN l λa b=>Cu G a b H):=bp (N:=av) aS ⟨Tryz.func313,j,j,j⟩ λG a b H=>aop G av a b H
def afg:aP az P 314 (λG l H=>aW l λa=>Cv G a H):=bt (N:=av) aS ⟨Tryz.func314,j,j,j⟩ λG a H=>aoq G av a H
def afh:aP az P 315 (λG l H=>aW l λa=>Cw G a H):=bt (N:=av) aS ⟨Tryz.func315,j,j,j⟩ λG a H=>aor G av a H
def afi:aP az P 316 (λG l H=>bw l λa b c=>Cx G av a b c H):=dH (N:=av) aS ⟨Tryz.func316,j,j,j⟩ λG a b c H=>aot G av a b c H
def afj:aP az P 317 (λG l H=>aN l λa b=>Cy G av a b H):=bp (N:=av) aS ⟨Tryz.func317,j,j,j⟩ λG a b H=>aow G av a b H
def afk:aP az P 318 (λG l H=>bw l λa b c=>Cz G a b c H):=dH (N:=av) aS ⟨Tryz.func318,j,j,j⟩ λG a b c H=>aoy G av a b c H
def afl:aP az P 319 (λG l H=>aN l λa b=>CA G av a b H):=bp (N:=av) aS ⟨Tryz.func319,j,j,j⟩ λG a b H=>aoA G av a b H
def afm:aP az P 320 (λG l H=>bw l λa b c=>CB G a b c H):=dH (N:=av) aS ⟨Tryz.func320,j,j,j⟩ λG a b c H=>aoC G av a b c H
def afn:aP az P 321 (λG l H=>gl l λa b c d=>CC G a b c d H):=kM (N:=av) aS ⟨Tryz.func321,j,j,j⟩ λG a b c d H=>aoD G av a b c d H
def afo:aP az P 322 (λG l H=>aN l λa b=>CE G a b H):=bp (N:=av) aS ⟨Tryz.func322,j,j,j⟩ λG a b H=>aoE G av a b H
def afp:aP az P 323 (λG l H=>aW l λa=>CF G a H):=bt (N:=av) aS ⟨Tryz.func323,j,j,j⟩ λG a H=>aoF G av a H
def afq:aP az P 324 (λG l H=>aW l λa=>CG G av a H):=bt (N:=av) aS ⟨Tryz.func324,j,j,j⟩ λG a H=>aoH G av a H
def afr:aP az P 325 (λG l H=>aW l λa=>CH G av a H):=bt (N:=av) aS ⟨Tryz.func325,j,j,j⟩ λG a H=>aoK G av a H
def afs:aP az P 326 (λG l H=>aN l λa b=>CI G a b H):=bp (N:=av) aS ⟨Tryz.func326,j,j,j⟩ λG a b H=>aoM G av a b H
def aft:aP az P 327 (λG l H=>bw l λa b c=>CJ G a b c H):=dH (N:=av) aS ⟨Tryz.func327,j,j,j⟩ λG a b c H=>aoN G av a b c H
def afu:aP az P 328 (λG l H=>aN l λa b=>CK G av a b H):=bp (N:=av) aS ⟨Tryz.func328,j,j,j⟩ λG a b H=>aoP G av a b H
def afv:aP az P 329 (λG l H=>bw l λa b c=>CL G av a b c H):=dH (N:=av) aS ⟨Tryz.func329,j,j,j⟩ λG a b c H=>aoR G av a b c H
def afw:aP az P 330 (λG l H=>aN l λa b=>CM G a b H):=bp (N:=av) aS ⟨Tryz.func330,j,j,j⟩ λG a b H=>aoY G av a b H
def afx:aP az P 331 (λG l H=>aN l λa b=>CN G a b H):=bp (N:=av) aS ⟨Tryz.func331,j,j,j⟩ λG a b H=>aoZ G av a b H
def afy:aP az P 348 (λG l H=>bw l λa b c=>CO G a b c H):=dH (N:=av) aS ⟨Tryz.func348,j,j,j⟩ λG a b c H=>ao8 G av a b c H
def afz:aP az P 349 (λG l H=>bw l λa b c=>CP G a b c H):=dH (N:=av) aS ⟨Tryz.func349,j,j,j⟩ λG a b c H=>ao9 G av a b c H
def afA:aP az P 350 (λG l H=>aW l λa=>CQ G a H):=bt (N:=av) aS ⟨Tryz.func350,j,j,j⟩ λG a H=>ao_ G av a H
def afB:aP az P 351 (λG l H=>aN l λa b=>CR G a b H):=bp (N:=av) aS ⟨Tryz.func351,j,j,j⟩ λG a b H=>apa G av a b H
def nI{g:Nat}{b:Bool}{k:IntKind}{z:Int}{bh:af}(h:eM az P g [.int k z] af.empty (Z b) bh)(H:af):eM az P g [.int k z] H (Z b) H:=by
 intro ρ w xs j o l p next m
 cases l with|cons _ _ _ _ f i=>
 cases f;cases i;refine h (λ_=>Y) w _ (zx w) ⟨λ_ _ _=>rfl,Env.le_refl _⟩ (.cons _ _ _ _ (.int _ _) .nil) (Nat.zero_le _) next λx e q n a=> ?_
 cases n;have d:∀b,b<w.heap.size->e.heap[b]? =w.heap[b]? :=λb c=>a.frame b c (Nq b)
 exact m _ e ρ (bb.bool b) ⟨ρ.le_refl,cW _,λ_ _=>rfl,j.zb d,a.os,a.tape,a.output,a.size,λb c _=>d b c,λ_ h=> .inl h,λ_ _ _ h=>h⟩
def zd:dq:=(.node 43 (.node 32 (.node 16 (.node 12 (.leaf 12 λG l H=>aW l λa=>jz G a H) (.leaf 16 λG l H=>aN l λa b=>m2 G a b H)) (.node 19 (.leaf 19 λG l H=>aN l λa b=>m5 G a b H) (.leaf 32 λG l H=>aW l λa=>pr G av a H))) (.node 37 (.node 33 (.leaf 33 λG l H=>aW l λa=>pv G av a H) (.leaf 37 λG l H=>aW l λa=>pw G av a H)) (.node 39 (.leaf 39 λG l H=>hF l (nj G H)) (.leaf 43 λG l H=>aN l λa b=>me G av a b H)))) (.node 51 (.node 48 (.node 45 (.leaf 45 λG l H=>aN l λa b=>nm G av a b H) (.leaf 48 λG l H=>aW l λa=>mh G av a H)) (.node 50 (.leaf 50 λG l H=>aN l λa b=>mi G a b H) (.leaf 51 λG l H=>aN l λa b=>mj G a b H))) (.node 61 (.node 60 (.leaf 60 λG l H=>aW l λa=>ml G av a H) (.leaf 61 λG l H=>aW l λa=>mm G a H)) (.node 62 (.leaf 62 λG l H=>aW l λa=>mo G a H) (.leaf 63 λG l H=>aN l λa b=>mq G a b H)))))
def Et:zd.Ok az P:=⟨⟨⟨⟨qR,zm⟩,⟨zn,EO⟩⟩,⟨⟨EP,ER⟩,⟨zo,qS⟩⟩⟩,⟨⟨⟨zp,qT⟩,⟨qU,qV⟩⟩,⟨⟨qW,qX⟩,⟨qY,qZ⟩⟩⟩⟩
def mR:dq:=(.node 71 (.node 67 (.node 65 (.node 64 (.leaf 64 λG l H=>aN l λa b=>py G a b H) (.leaf 65 λG l H=>aW l λa=>pz G av a H)) (.node 66 (.leaf 66 λG l H=>aW l λa=>pB G a H) (.leaf 67 λG l H=>aN l λa b=>pC G a b H))) (.node 69 (.node 68 (.leaf 68 λG l H=>aW l λa=>pD G av a H) (.leaf 69 λG l H=>aW l λa=>pF G av a H)) (.node 70 (.leaf 70 λG l H=>aW l λa=>pG G av a H) (.leaf 71 λG l H=>aW l λa=>pH G av a H)))) (.node 75 (.node 73 (.node 72 (.leaf 72 λG l H=>aN l λa b=>pI G a b H) (.leaf 73 λG l H=>aN l λa b=>pJ G av a b H)) (.node 74 (.leaf 74 λG l H=>aW l λa=>pK G a H) (.leaf 75 λG l H=>aW l λa=>pL G a H))) (.node 77 (.node 76 (.leaf 76 λG l H=>aW l λa=>CT G a H) (.leaf 77 λG l H=>aW l λa=>wZ G av a H)) (.node 78 (.leaf 78 λG l H=>aW l λa=>CU G av a H) (.leaf 79 λG l H=>aN l λa b=>pM G av a b H)))))
def oD:mR.Ok az P:=⟨⟨⟨⟨ES,ET⟩,⟨EU,EV⟩⟩,⟨⟨EW,EX⟩,⟨EY,EZ⟩⟩⟩,⟨⟨⟨E0,E1⟩,⟨E2,E3⟩⟩,⟨⟨afC,Nw⟩,⟨afD,E4⟩⟩⟩⟩
def mS:dq:=(.node 101 (.node 92 (.node 81 (.node 80 (.leaf 80 λG l H=>bw l λa b c=>pO G a b c H) (.leaf 81 λG l H=>aN l λa b=>xa G av a b H)) (.node 90 (.leaf 90 λG l H=>aW l λa=>pP G a H) (.leaf 92 λG l H=>aN l λa b=>pQ G av a b H))) (.node 94 (.node 93 (.leaf 93 λG l H=>aW l λa=>xg G av a H) (.leaf 94 λG l H=>aN l λa b=>pR G a b H)) (.node 95 (.leaf 95 λG l H=>aN l λa b=>pS G av a b H) (.leaf 101 λG l H=>bw l λa b c=>oP G a b c H)))) (.node 106 (.node 104 (.node 103 (.leaf 103 λG l H=>aN l λa b=>oQ G av a b H) (.leaf 104 λG l H=>aW l λa=>oS G a H)) (.node 105 (.leaf 105 λG l H=>aN l λa b=>oT G a b H) (.leaf 106 λG l H=>aN l λa b=>oU G a b H))) (.node 108 (.node 107 (.leaf 107 λG l H=>aW l λa=>oV G av a H) (.leaf 108 λG l H=>aW l λa=>oX G a H)) (.node 109 (.leaf 109 λG l H=>aW l λa=>oY G a H) (.leaf 110 λG l H=>aW l λa=>oZ G av a H)))))
def oE:mS.Ok az P:=⟨⟨⟨⟨E5,Nx⟩,⟨E6,E7⟩⟩,⟨⟨Ny,E8⟩,⟨E9,EE⟩⟩⟩,⟨⟨⟨EG,EH⟩,⟨EI,EJ⟩⟩,⟨⟨EK,EL⟩,⟨EM,EN⟩⟩⟩⟩
def kF:dq:=(.node 123 (.node 119 (.node 117 (.node 116 (.leaf 116 λG l H=>aN l λa b=>zE G av a b H) (.leaf 117 λG l H=>aN l λa b=>zF G a b H)) (.node 118 (.leaf 118 λG l H=>aW l λa=>zG G a H) (.leaf 119 λG l H=>aW l λa=>zH G av a H))) (.node 121 (.node 120 (.leaf 120 λG l H=>aW l λa=>zI G av a H) (.leaf 121 λG l H=>aW l λa=>zJ G av a H)) (.node 122 (.leaf 122 λG l H=>aW l λa=>zK G av a H) (.leaf 123 λG l H=>aN l λa b=>zL G av a b H)))) (.node 127 (.node 125 (.node 124 (.leaf 124 λG l H=>aW l λa=>zM G a H) (.leaf 125 λG l H=>aN l λa b=>zN G av a b H)) (.node 126 (.leaf 126 λG l H=>aN l λa b=>zO G a b H) (.leaf 127 λG l H=>aN l λa b=>zP G a b H))) (.node 129 (.node 128 (.leaf 128 λG l H=>aW l λa=>zQ G av a H) (.leaf 129 λG l H=>aN l λa b=>zR G av a b H)) (.node 130 (.leaf 130 λG l H=>aW l λa=>zS G av a H) (.leaf 131 λG l H=>aW l λa=>zT G av a H)))))
def lH:kF.Ok az P:=⟨⟨⟨⟨acw,acx⟩,⟨acy,acz⟩⟩,⟨⟨acA,acB⟩,⟨acC,acD⟩⟩⟩,⟨⟨⟨acE,acF⟩,⟨acG,acH⟩⟩,⟨⟨acI,acJ⟩,⟨acK,acL⟩⟩⟩⟩
def kG:dq:=(.node 139 (.node 135 (.node 133 (.node 132 (.leaf 132 λG l H=>aW l λa=>zU G av a H) (.leaf 133 λG l H=>aW l λa=>zV G av a H)) (.node 134 (.leaf 134 λG l H=>bw l λa b c=>zW G av a b c H) (.leaf 135 λG l H=>aN l λa b=>zX G a b H))) (.node 137 (.node 136 (.leaf 136 λG l H=>aN l λa b=>zY G a b H) (.leaf 137 λG l H=>aN l λa b=>zZ G av a b H)) (.node 138 (.leaf 138 λG l H=>aN l λa b=>z1 G a b H) (.leaf 139 λG l H=>aN l λa b=>z2 G av a b H)))) (.node 155 (.node 141 (.node 140 (.leaf 140 λG l H=>aN l λa b=>z6 G av a b H) (.leaf 141 λG l H=>aW l λa=>z7 G a H)) (.node 142 (.leaf 142 λG l H=>aW l λa=>z8 G av a H) (.leaf 155 λG l H=>bw l λa b c=>z_ G av a b c H))) (.node 157 (.node 156 (.leaf 156 λG l H=>aW l λa=>Aa G av a H) (.leaf 157 λG l H=>aN l λa b=>Ab G a b H)) (.node 158 (.leaf 158 λG l H=>aN l λa b=>Ac G a b H) (.leaf 161 λG l H=>aN l λa b=>Ad G a b H)))))
def lI:kG.Ok az P:=⟨⟨⟨⟨acM,acN⟩,⟨acO,acP⟩⟩,⟨⟨acQ,acR⟩,⟨acS,acT⟩⟩⟩,⟨⟨⟨acU,acV⟩,⟨acW,acX⟩⟩,⟨⟨acY,acZ⟩,⟨ac0,ac1⟩⟩⟩⟩
def kH:dq:=(.node 178 (.node 166 (.node 164 (.node 162 (.leaf 162 λG l H=>aN l λa b=>Ae G av a b H) (.leaf 164 λG l H=>aW l λa=>Af G a H)) (.node 165 (.leaf 165 λG l H=>aN l λa b=>Ag G av a b H) (.leaf 166 λG l H=>aN l λa b=>Ah G a b H))) (.node 176 (.node 175 (.leaf 175 λG l H=>aW l λa=>Ai G a H) (.leaf 176 λG l H=>bw l λa b c=>Aj G av a b c H)) (.node 177 (.leaf 177 λG l H=>aW l λa=>Ak G av a H) (.leaf 178 λG l H=>aW l λa=>Al G av a H)))) (.node 182 (.node 180 (.node 179 (.leaf 179 λG l H=>aW l λa=>Am G a H) (.leaf 180 λG l H=>aW l λa=>An G av a H)) (.node 181 (.leaf 181 λG l H=>aN l λa b=>Ao G av a b H) (.leaf 182 λG l H=>aN l λa b=>Ap G a b H))) (.node 184 (.node 183 (.leaf 183 λG l H=>aW l λa=>Aq G a H) (.leaf 184 λG l H=>aN l λa b=>Ar G a b H)) (.node 185 (.leaf 185 λG l H=>aW l λa=>As G a H) (.leaf 186 λG l H=>aN l λa b=>Au G av a b H)))))
def lJ:kH.Ok az P:=⟨⟨⟨⟨ac2,ac3⟩,⟨ac4,ac5⟩⟩,⟨⟨ac6,ac7⟩,⟨ac8,ac9⟩⟩⟩,⟨⟨⟨ac_,ada⟩,⟨adb,ade⟩⟩,⟨⟨adf,adg⟩,⟨adh,adi⟩⟩⟩⟩
def kI:dq:=(.node 194 (.node 190 (.node 188 (.node 187 (.leaf 187 λG l H=>aN l λa b=>Av G av a b H) (.leaf 188 λG l H=>aN l λa b=>Aw G av a b H)) (.node 189 (.leaf 189 λG l H=>aN l λa b=>Ax G av a b H) (.leaf 190 λG l H=>aW l λa=>Ay G av a H))) (.node 192 (.node 191 (.leaf 191 λG l H=>aN l λa b=>Az G a b H) (.leaf 192 λG l H=>aN l λa b=>AA G av a b H)) (.node 193 (.leaf 193 λG l H=>aN l λa b=>AD G a b H) (.leaf 194 λG l H=>aW l λa=>AE G a H)))) (.node 198 (.node 196 (.node 195 (.leaf 195 λG l H=>aN l λa b=>AF G av a b H) (.leaf 196 λG l H=>aW l λa=>AG G av a H)) (.node 197 (.leaf 197 λG l H=>aN l λa b=>AH G a b H) (.leaf 198 λG l H=>aW l λa=>AI G av a H))) (.node 200 (.node 199 (.leaf 199 λG l H=>aW l λa=>AJ G av a H) (.leaf 200 λG l H=>aN l λa b=>AK G av a b H)) (.node 201 (.leaf 201 λG l H=>aN l λa b=>AL G a b H) (.leaf 202 λG l H=>aN l λa b=>AM G a b H)))))
def lK:kI.Ok az P:=⟨⟨⟨⟨adj,adk⟩,⟨adl,adm⟩⟩,⟨⟨adn,ado⟩,⟨adp,adq⟩⟩⟩,⟨⟨⟨adr,ads⟩,⟨adt,adu⟩⟩,⟨⟨adv,adw⟩,⟨adx,ady⟩⟩⟩⟩
def kJ:dq:=(.node 210 (.node 206 (.node 204 (.node 203 (.leaf 203 λG l H=>bw l λa b c=>AN G a b c H) (.leaf 204 λG l H=>bw l λa b c=>AO G a b c H)) (.node 205 (.leaf 205 λG l H=>aN l λa b=>AP G a b H) (.leaf 206 λG l H=>aN l λa b=>AQ G a b H))) (.node 208 (.node 207 (.leaf 207 λG l H=>bw l λa b c=>AR G a b c H) (.leaf 208 λG l H=>bw l λa b c=>AS G a b c H)) (.node 209 (.leaf 209 λG l H=>aN l λa b=>AT G a b H) (.leaf 210 λG l H=>aN l λa b=>AU G av a b H)))) (.node 214 (.node 212 (.node 211 (.leaf 211 λG l H=>aW l λa=>AV G a H) (.leaf 212 λG l H=>aN l λa b=>AW G a b H)) (.node 213 (.leaf 213 λG l H=>aW l λa=>AX G a H) (.leaf 214 λG l H=>aN l λa b=>AY G a b H))) (.node 217 (.node 216 (.leaf 216 λG l H=>gl l λa b c d=>AZ G av a b c d H) (.leaf 217 λG l H=>aW l λa=>A0 G a H)) (.node 221 (.leaf 221 λG l H=>hF l (A1 G H)) (.leaf 222 λG l H=>aN l λa b=>A2 G av a b H)))))
def lL:kJ.Ok az P:=⟨⟨⟨⟨adz,adA⟩,⟨adB,adC⟩⟩,⟨⟨adD,adE⟩,⟨adF,adG⟩⟩⟩,⟨⟨⟨adH,adI⟩,⟨adJ,adK⟩⟩,⟨⟨adL,adM⟩,⟨adN,adO⟩⟩⟩⟩
def kK:dq:=(.node 230 (.node 226 (.node 224 (.node 223 (.leaf 223 λG l H=>aN l λa b=>A3 G a b H) (.leaf 224 λG l H=>aN l λa b=>A4 G a b H)) (.node 225 (.leaf 225 λG l H=>aN l λa b=>A5 G a b H) (.leaf 226 λG l H=>aN l λa b=>A6 G av a b H))) (.node 228 (.node 227 (.leaf 227 λG l H=>aN l λa b=>A7 G a b H) (.leaf 228 λG l H=>aN l λa b=>A8 G av a b H)) (.node 229 (.leaf 229 λG l H=>hF l (A9 G H)) (.leaf 230 λG l H=>hF l (A_ G H))))) (.node 234 (.node 232 (.node 231 (.leaf 231 λG l H=>aN l λa b=>Ba G a b H) (.leaf 232 λG l H=>hF l (Bb G H))) (.node 233 (.leaf 233 λG l H=>bw l λa b c=>Bc G a b c H) (.leaf 234 λG l H=>aW l λa=>Bd G av a H))) (.node 236 (.node 235 (.leaf 235 λG l H=>aW l λa=>Be G a H) (.leaf 236 λG l H=>aN l λa b=>Bf G a b H)) (.node 237 (.leaf 237 λG l H=>gl l λa b c d=>Bg G av a b c d H) (.leaf 238 λG l H=>aW l λa=>Bh G a H)))))
def lM:kK.Ok az P:=⟨⟨⟨⟨adP,adQ⟩,⟨adR,adS⟩⟩,⟨⟨adT,adU⟩,⟨adV,adW⟩⟩⟩,⟨⟨⟨adX,adY⟩,⟨adZ,ad0⟩⟩,⟨⟨ad1,ad2⟩,⟨ad3,ad4⟩⟩⟩⟩
def kL:dq:=(.node 246 (.node 242 (.node 240 (.node 239 (.leaf 239 λG l H=>aW l λa=>Bi G av a H) (.leaf 240 λG l H=>aN l λa b=>Bj G a b H)) (.node 241 (.leaf 241 λG l H=>aN l λa b=>Bk G av a b H) (.leaf 242 λG l H=>bw l λa b c=>Bl G a b c H))) (.node 244 (.node 243 (.leaf 243 λG l H=>bw l λa b c=>Bm G a b c H) (.leaf 244 λG l H=>bw l λa b c=>Bn G a b c H)) (.node 245 (.leaf 245 λG l H=>aN l λa b=>Bo G a b H) (.leaf 246 λG l H=>aW l λa=>Bp G a H)))) (.node 250 (.node 248 (.node 247 (.leaf 247 λG l H=>aW l λa=>Bq G a H) (.leaf 248 λG l H=>aW l λa=>Br G a H)) (.node 249 (.leaf 249 λG l H=>bw l λa b c=>Bs G av a b c H) (.leaf 250 λG l H=>bw l λa b c=>Bt G av a b c H))) (.node 252 (.node 251 (.leaf 251 λG l H=>bw l λa b c=>Bu G av a b c H) (.leaf 252 λG l H=>bw l λa b c=>Bv G a b c H)) (.node 253 (.leaf 253 λG l H=>bw l λa b c=>Bw G av a b c H) (.leaf 254 λG l H=>bw l λa b c=>Bx G av a b c H)))))
def lN:kL.Ok az P:=⟨⟨⟨⟨ad5,ad6⟩,⟨ad7,ad8⟩⟩,⟨⟨ad9,ad_⟩,⟨aea,aeb⟩⟩⟩,⟨⟨⟨aec,aed⟩,⟨aee,aef⟩⟩,⟨⟨aeg,aeh⟩,⟨aei,aej⟩⟩⟩⟩
def kz:dq:=(.node 262 (.node 258 (.node 256 (.node 255 (.leaf 255 λG l H=>aN l λa b=>By G a b H) (.leaf 256 λG l H=>gl l λa b c d=>Bz G av a b c d H)) (.node 257 (.leaf 257 λG l H=>gl l λa b c d=>BA G av a b c d H) (.leaf 258 λG l H=>aW l λa=>BB G a H))) (.node 260 (.node 259 (.leaf 259 λG l H=>aW l λa=>BD G a H) (.leaf 260 λG l H=>aW l λa=>BE G a H)) (.node 261 (.leaf 261 λG l H=>aN l λa b=>BF G av a b H) (.leaf 262 λG l H=>aW l λa=>BG G a H)))) (.node 266 (.node 264 (.node 263 (.leaf 263 λG l H=>aN l λa b=>BH G a b H) (.leaf 264 λG l H=>bw l λa b c=>BI G av a b c H)) (.node 265 (.leaf 265 λG l H=>aW l λa=>BJ G a H) (.leaf 266 λG l H=>aW l λa=>BK G a H))) (.node 268 (.node 267 (.leaf 267 λG l H=>k1 l λa b c d x=>BL G a b c d x H) (.leaf 268 λG l H=>aN l λa b=>BM G a b H)) (.node 269 (.leaf 269 λG l H=>aN l λa b=>BN G av a b H) (.leaf 270 λG l H=>aN l λa b=>BO G a b H)))))
def lB:kz.Ok az P:=⟨⟨⟨⟨aek,ael⟩,⟨aem,aen⟩⟩,⟨⟨aeo,aep⟩,⟨aeq,aer⟩⟩⟩,⟨⟨⟨aes,aet⟩,⟨aeu,aev⟩⟩,⟨⟨aew,aex⟩,⟨aey,aez⟩⟩⟩⟩
def kA:dq:=(.node 278 (.node 274 (.node 272 (.node 271 (.leaf 271 λG l H=>aN l λa b=>BP G a b H) (.leaf 272 λG l H=>aN l λa b=>BQ G a b H)) (.node 273 (.leaf 273 λG l H=>aN l λa b=>BR G a b H) (.leaf 274 λG l H=>aN l λa b=>BS G a b H))) (.node 276 (.node 275 (.leaf 275 λG l H=>aN l λa b=>BT G a b H) (.leaf 276 λG l H=>gl l λa b c d=>BU G a b c d H)) (.node 277 (.leaf 277 λG l H=>gl l λa b c d=>BV G a b c d H) (.leaf 278 λG l H=>aN l λa b=>BW G av a b H)))) (.node 282 (.node 280 (.node 279 (.leaf 279 λG l H=>aN l λa b=>BX G a b H) (.leaf 280 λG l H=>aW l λa=>BY G av a H)) (.node 281 (.leaf 281 λG l H=>aW l λa=>BZ G av a H) (.leaf 282 λG l H=>bw l λa b c=>B0 G a b c H))) (.node 284 (.node 283 (.leaf 283 λG l H=>aW l λa=>B1 G av a H) (.leaf 284 λG l H=>aW l λa=>B2 G av a H)) (.node 285 (.leaf 285 λG l H=>aN l λa b=>B3 G av a b H) (.leaf 286 λG l H=>aN l λa b=>B4 G av a b H)))))
def lC:kA.Ok az P:=⟨⟨⟨⟨aeA,aeB⟩,⟨aeC,aeD⟩⟩,⟨⟨aeE,aeF⟩,⟨aeG,aeH⟩⟩⟩,⟨⟨⟨aeI,aeJ⟩,⟨aeK,aeL⟩⟩,⟨⟨aeM,aeN⟩,⟨aeO,aeP⟩⟩⟩⟩
def kB:dq:=(.node 294 (.node 290 (.node 288 (.node 287 (.leaf 287 λG l H=>aW l λa=>B5 G av a H) (.leaf 288 λG l H=>aN l λa b=>B6 G a b H)) (.node 289 (.leaf 289 λG l H=>bw l λa b c=>B7 G av a b c H) (.leaf 290 λG l H=>bw l λa b c=>B8 G a b c H))) (.node 292 (.node 291 (.leaf 291 λG l H=>gl l λa b c d=>B9 G av a b c d H) (.leaf 292 λG l H=>aW l λa=>B_ G a H)) (.node 293 (.leaf 293 λG l H=>aW l λa=>Ca G a H) (.leaf 294 λG l H=>bw l λa b c=>Cb G a b c H)))) (.node 298 (.node 296 (.node 295 (.leaf 295 λG l H=>k1 l λa b c d x=>Cc G a b c d x H) (.leaf 296 λG l H=>aW l λa=>Cd G a H)) (.node 297 (.leaf 297 λG l H=>aN l λa b=>Ce G av a b H) (.leaf 298 λG l H=>aW l λa=>Cf G a H))) (.node 300 (.node 299 (.leaf 299 λG l H=>bw l λa b c=>Cg G av a b c H) (.leaf 300 λG l H=>k1 l λa b c d x=>Ch G a b c d x H)) (.node 301 (.leaf 301 λG l H=>aN l λa b=>Ci G a b H) (.leaf 302 λG l H=>aN l λa b=>Cj G a b H)))))
def lD:kB.Ok az P:=⟨⟨⟨⟨aeQ,aeR⟩,⟨aeS,aeT⟩⟩,⟨⟨aeU,aeV⟩,⟨aeW,aeX⟩⟩⟩,⟨⟨⟨aeY,aeZ⟩,⟨ae0,ae1⟩⟩,⟨⟨ae2,ae3⟩,⟨ae4,ae5⟩⟩⟩⟩
def kC:dq:=(.node 310 (.node 306 (.node 304 (.node 303 (.leaf 303 λG l H=>aN l λa b=>Ck G a b H) (.leaf 304 λG l H=>bw l λa b c=>Cl G av a b c H)) (.node 305 (.leaf 305 λG l H=>aW l λa=>Cm G a H) (.leaf 306 λG l H=>gl l λa b c d=>Cn G a b c d H))) (.node 308 (.node 307 (.leaf 307 λG l H=>bw l λa b c=>Co G a b c H) (.leaf 308 λG l H=>bw l λa b c=>Cp G a b c H)) (.node 309 (.leaf 309 λG l H=>aW l λa=>Cq G a H) (.leaf 310 λG l H=>aN l λa b=>Cr G av a b H)))) (.node 314 (.node 312 (.node 311 (.leaf 311 λG l H=>bw l λa b c=>Cs G a b c H) (.leaf 312 λG l H=>bw l λa b c=>Ct G a b c H)) (.node 313 (.leaf 313 λG l H=>aN l λa b=>Cu G a b H) (.leaf 314 λG l H=>aW l λa=>Cv G a H))) (.node 316 (.node 315 (.leaf 315 λG l H=>aW l λa=>Cw G a H) (.leaf 316 λG l H=>bw l λa b c=>Cx G av a b c H)) (.node 317 (.leaf 317 λG l H=>aN l λa b=>Cy G av a b H) (.leaf 318 λG l H=>bw l λa b c=>Cz G a b c H)))))
def lE:kC.Ok az P:=⟨⟨⟨⟨ae6,ae7⟩,⟨ae8,ae9⟩⟩,⟨⟨ae_,afa⟩,⟨afb,afc⟩⟩⟩,⟨⟨⟨afd,afe⟩,⟨aff,afg⟩⟩,⟨⟨afh,afi⟩,⟨afj,afk⟩⟩⟩⟩
def kD:dq:=(.node 326 (.node 322 (.node 320 (.node 319 (.leaf 319 λG l H=>aN l λa b=>CA G av a b H) (.leaf 320 λG l H=>bw l λa b c=>CB G a b c H)) (.node 321 (.leaf 321 λG l H=>gl l λa b c d=>CC G a b c d H) (.leaf 322 λG l H=>aN l λa b=>CE G a b H))) (.node 324 (.node 323 (.leaf 323 λG l H=>aW l λa=>CF G a H) (.leaf 324 λG l H=>aW l λa=>CG G av a H)) (.node 325 (.leaf 325 λG l H=>aW l λa=>CH G av a H) (.leaf 326 λG l H=>aN l λa b=>CI G a b H)))) (.node 330 (.node 328 (.node 327 (.leaf 327 λG l H=>bw l λa b c=>CJ G a b c H) (.leaf 328 λG l H=>aN l λa b=>CK G av a b H)) (.node 329 (.leaf 329 λG l H=>bw l λa b c=>CL G av a b c H) (.leaf 330 λG l H=>aN l λa b=>CM G a b H))) (.node 348 (.node 331 (.leaf 331 λG l H=>aN l λa b=>CN G a b H) (.leaf 348 λG l H=>bw l λa b c=>CO G a b c H)) (.node 349 (.leaf 349 λG l H=>bw l λa b c=>CP G a b c H) (.leaf 350 λG l H=>aW l λa=>CQ G a H)))))
def lF:kD.Ok az P:=⟨⟨⟨⟨afl,afm⟩,⟨afn,afo⟩⟩,⟨⟨afp,afq⟩,⟨afr,afs⟩⟩⟩,⟨⟨⟨aft,afu⟩,⟨afv,afw⟩⟩,⟨⟨afx,afy⟩,⟨afz,afA⟩⟩⟩⟩
def kE:dq:=(.leaf 351 λG l H=>aN l λa b=>CR G a b H)
def lG:kE.Ok az P:=afB
def abO:dq:=(.node 222 (.node 131 (.node 79 (.node 63 zd mR) (.node 110 mS kF)) (.node 186 (.node 161 kG kH) (.node 202 kI kJ))) (.node 286 (.node 254 (.node 238 kK kL) (.node 270 kz kA)) (.node 318 (.node 302 kB kC) (.node 350 kD kE))))
def bB:abO.Ok az P:=⟨⟨⟨⟨Et,oD⟩,⟨oE,lH⟩⟩,⟨⟨lI,lJ⟩,⟨lK,lL⟩⟩⟩,⟨⟨⟨lM,lN⟩,⟨lB,lC⟩⟩,⟨⟨lD,lE⟩,⟨lF,lG⟩⟩⟩⟩
def Nb:dq:=(.node 48 (.node 19 (.node 12 (.leaf 12 λG l H=>aW l λa=>jz G a H) (.node 16 (.leaf 16 λG l H=>aN l λa b=>m2 G a b H) (.leaf 19 λG l H=>aN l λa b=>m5 G a b H))) (.node 43 (.leaf 43 λG l H=>aN l λa b=>me G av a b H) (.node 45 (.leaf 45 λG l H=>aN l λa b=>nm G av a b H) (.leaf 48 λG l H=>aW l λa=>mh G av a H)))) (.node 60 (.node 50 (.leaf 50 λG l H=>aN l λa b=>mi G a b H) (.node 51 (.leaf 51 λG l H=>aN l λa b=>mj G a b H) (.leaf 60 λG l H=>aW l λa=>ml G av a H))) (.node 61 (.leaf 61 λG l H=>aW l λa=>mm G a H) (.node 62 (.leaf 62 λG l H=>aW l λa=>mo G a H) (.leaf 63 λG l H=>aN l λa b=>mq G a b H)))))
def abH:Nb.Ok az P:=⟨⟨⟨qR,⟨zm,zn⟩⟩,⟨qS,⟨zp,qT⟩⟩⟩,⟨⟨qU,⟨qV,qW⟩⟩,⟨qX,⟨qY,qZ⟩⟩⟩⟩
def abP:dq:=(.node 222 (.node 131 (.node 79 (.node 63 Nb mR) (.node 110 mS kF)) (.node 186 (.node 161 kG kH) (.node 202 kI kJ))) (.node 286 (.node 254 (.node 238 kK kL) (.node 270 kz kA)) (.node 318 (.node 302 kB kC) (.node 350 kD kE))))
def oF:abP.Ok az P:=⟨⟨⟨⟨abH,oD⟩,⟨oE,lH⟩⟩,⟨⟨lI,lJ⟩,⟨lK,lL⟩⟩⟩,⟨⟨⟨lM,lN⟩,⟨lB,lC⟩⟩,⟨⟨lD,lE⟩,⟨lF,lG⟩⟩⟩⟩
def Eu:dq:=(.node 39 (.node 19 (.node 12 (.leaf 12 λG l H=>aW l λa=>jz G a H) (.node 16 (.leaf 16 λG l H=>aN l λa b=>m2 G a b H) (.leaf 19 λG l H=>aN l λa b=>m5 G a b H))) (.node 33 (.node 32 (.leaf 32 λG l H=>aW l λa=>pr G av a H) (.leaf 33 λG l H=>aW l λa=>pv G av a H)) (.node 37 (.leaf 37 λG l H=>aW l λa=>pw G av a H) (.leaf 39 λG l H=>hF l (nj G H))))) (.node 51 (.node 48 (.node 43 (.leaf 43 λG l H=>aN l λa b=>me G av a b H) (.leaf 48 λG l H=>aW l λa=>mh G av a H)) (.node 50 (.leaf 50 λG l H=>aN l λa b=>mi G a b H) (.leaf 51 λG l H=>aN l λa b=>mj G a b H))) (.node 61 (.node 60 (.leaf 60 λG l H=>aW l λa=>ml G av a H) (.leaf 61 λG l H=>aW l λa=>mm G a H)) (.node 62 (.leaf 62 λG l H=>aW l λa=>mo G a H) (.leaf 63 λG l H=>aN l λa b=>mq G a b H)))))
def Nc:Eu.Ok az P:=⟨⟨⟨qR,⟨zm,zn⟩⟩,⟨⟨EO,EP⟩,⟨ER,zo⟩⟩⟩,⟨⟨⟨qS,qT⟩,⟨qU,qV⟩⟩,⟨⟨qW,qX⟩,⟨qY,qZ⟩⟩⟩⟩
def abQ:dq:=(.node 222 (.node 131 (.node 79 (.node 63 Eu mR) (.node 110 mS kF)) (.node 186 (.node 161 kG kH) (.node 202 kI kJ))) (.node 286 (.node 254 (.node 238 kK kL) (.node 270 kz kA)) (.node 318 (.node 302 kB kC) (.node 350 kD kE))))
def oG:abQ.Ok az P:=⟨⟨⟨⟨Nc,oD⟩,⟨oE,lH⟩⟩,⟨⟨lI,lJ⟩,⟨lK,lL⟩⟩⟩,⟨⟨⟨lM,lN⟩,⟨lB,lC⟩⟩,⟨⟨lD,lE⟩,⟨lF,lG⟩⟩⟩⟩
def abR:dq:=(.node 222 (.node 131 (.node 79 (.node 63 Eu mR) (.node 110 mS kF)) (.node 186 (.node 161 kG kH) (.node 202 kI kJ))) (.node 286 (.node 254 (.node 238 kK kL) (.node 270 kz kA)) (.node 318 (.node 302 kB kC) (.node 350 kD kE))))
def oH:abR.Ok az P:=⟨⟨⟨⟨Nc,oD⟩,⟨oE,lH⟩⟩,⟨⟨lI,lJ⟩,⟨lK,lL⟩⟩⟩,⟨⟨⟨lM,lN⟩,⟨lB,lC⟩⟩,⟨⟨lD,lE⟩,⟨lF,lG⟩⟩⟩⟩
def Nd:dq:=(.node 69 (.node 66 (.node 64 (.leaf 64 λG l H=>aN l λa b=>py G a b H) (.node 65 (.leaf 65 λG l H=>aW l λa=>pz G av a H) (.leaf 66 λG l H=>aW l λa=>pB G a H))) (.node 67 (.leaf 67 λG l H=>aN l λa b=>pC G a b H) (.node 68 (.leaf 68 λG l H=>aW l λa=>pD G av a H) (.leaf 69 λG l H=>aW l λa=>pF G av a H)))) (.node 72 (.node 70 (.leaf 70 λG l H=>aW l λa=>pG G av a H) (.node 71 (.leaf 71 λG l H=>aW l λa=>pH G av a H) (.leaf 72 λG l H=>aN l λa b=>pI G a b H))) (.node 74 (.node 73 (.leaf 73 λG l H=>aN l λa b=>pJ G av a b H) (.leaf 74 λG l H=>aW l λa=>pK G a H)) (.node 75 (.leaf 75 λG l H=>aW l λa=>pL G a H) (.leaf 79 λG l H=>aN l λa b=>pM G av a b H)))))
def abI:Nd.Ok az P:=⟨⟨⟨ES,⟨ET,EU⟩⟩,⟨EV,⟨EW,EX⟩⟩⟩,⟨⟨EY,⟨EZ,E0⟩⟩,⟨⟨E1,E2⟩,⟨E3,E4⟩⟩⟩⟩
def Nf:dq:=(.node 101 (.node 92 (.node 80 (.leaf 80 λG l H=>bw l λa b c=>pO G a b c H) (.node 90 (.leaf 90 λG l H=>aW l λa=>pP G a H) (.leaf 92 λG l H=>aN l λa b=>pQ G av a b H))) (.node 94 (.node 93 (.leaf 93 λG l H=>aW l λa=>xg G av a H) (.leaf 94 λG l H=>aN l λa b=>pR G a b H)) (.node 95 (.leaf 95 λG l H=>aN l λa b=>pS G av a b H) (.leaf 101 λG l H=>bw l λa b c=>oP G a b c H)))) (.node 106 (.node 104 (.node 103 (.leaf 103 λG l H=>aN l λa b=>oQ G av a b H) (.leaf 104 λG l H=>aW l λa=>oS G a H)) (.node 105 (.leaf 105 λG l H=>aN l λa b=>oT G a b H) (.leaf 106 λG l H=>aN l λa b=>oU G a b H))) (.node 108 (.node 107 (.leaf 107 λG l H=>aW l λa=>oV G av a H) (.leaf 108 λG l H=>aW l λa=>oX G a H)) (.node 109 (.leaf 109 λG l H=>aW l λa=>oY G a H) (.leaf 110 λG l H=>aW l λa=>oZ G av a H)))))
def abJ:Nf.Ok az P:=⟨⟨⟨E5,⟨E6,E7⟩⟩,⟨⟨Ny,E8⟩,⟨E9,EE⟩⟩⟩,⟨⟨⟨EG,EH⟩,⟨EI,EJ⟩⟩,⟨⟨EK,EL⟩,⟨EM,EN⟩⟩⟩⟩
def abS:dq:=(.node 222 (.node 131 (.node 79 (.node 63 zd Nd) (.node 110 Nf kF)) (.node 186 (.node 161 kG kH) (.node 202 kI kJ))) (.node 286 (.node 254 (.node 238 kK kL) (.node 270 kz kA)) (.node 318 (.node 302 kB kC) (.node 350 kD kE))))
def mT:abS.Ok az P:=⟨⟨⟨⟨Et,abI⟩,⟨abJ,lH⟩⟩,⟨⟨lI,lJ⟩,⟨lK,lL⟩⟩⟩,⟨⟨⟨lM,lN⟩,⟨lB,lC⟩⟩,⟨⟨lD,lE⟩,⟨lF,lG⟩⟩⟩⟩
def Ng:dq:=(.node 45 (.node 19 (.node 12 (.leaf 12 λG l H=>aW l λa=>jz G a H) (.node 16 (.leaf 16 λG l H=>aN l λa b=>m2 G a b H) (.leaf 19 λG l H=>aN l λa b=>m5 G a b H))) (.node 39 (.leaf 39 λG l H=>hF l (nj G H)) (.node 43 (.leaf 43 λG l H=>aN l λa b=>me G av a b H) (.leaf 45 λG l H=>aN l λa b=>nm G av a b H)))) (.node 51 (.node 48 (.leaf 48 λG l H=>aW l λa=>mh G av a H) (.node 50 (.leaf 50 λG l H=>aN l λa b=>mi G a b H) (.leaf 51 λG l H=>aN l λa b=>mj G a b H))) (.node 61 (.node 60 (.leaf 60 λG l H=>aW l λa=>ml G av a H) (.leaf 61 λG l H=>aW l λa=>mm G a H)) (.node 62 (.leaf 62 λG l H=>aW l λa=>mo G a H) (.leaf 63 λG l H=>aN l λa b=>mq G a b H)))))
def abK:Ng.Ok az P:=⟨⟨⟨qR,⟨zm,zn⟩⟩,⟨zo,⟨qS,zp⟩⟩⟩,⟨⟨qT,⟨qU,qV⟩⟩,⟨⟨qW,qX⟩,⟨qY,qZ⟩⟩⟩⟩
def abT:dq:=(.node 222 (.node 131 (.node 79 (.node 63 Ng mR) (.node 110 mS kF)) (.node 186 (.node 161 kG kH) (.node 202 kI kJ))) (.node 286 (.node 254 (.node 238 kK kL) (.node 270 kz kA)) (.node 318 (.node 302 kB kC) (.node 350 kD kE))))
def abU:abT.Ok az P:=⟨⟨⟨⟨abK,oD⟩,⟨oE,lH⟩⟩,⟨⟨lI,lJ⟩,⟨lK,lL⟩⟩⟩,⟨⟨⟨lM,lN⟩,⟨lB,lC⟩⟩,⟨⟨lD,lE⟩,⟨lF,lG⟩⟩⟩⟩
def Nh:dq:=(.node 70 (.node 66 (.node 64 (.leaf 64 λG l H=>aN l λa b=>py G a b H) (.node 65 (.leaf 65 λG l H=>aW l λa=>pz G av a H) (.leaf 66 λG l H=>aW l λa=>pB G a H))) (.node 68 (.node 67 (.leaf 67 λG l H=>aN l λa b=>pC G a b H) (.leaf 68 λG l H=>aW l λa=>pD G av a H)) (.node 69 (.leaf 69 λG l H=>aW l λa=>pF G av a H) (.leaf 70 λG l H=>aW l λa=>pG G av a H)))) (.node 73 (.node 71 (.leaf 71 λG l H=>aW l λa=>pH G av a H) (.node 72 (.leaf 72 λG l H=>aN l λa b=>pI G a b H) (.leaf 73 λG l H=>aN l λa b=>pJ G av a b H))) (.node 75 (.node 74 (.leaf 74 λG l H=>aW l λa=>pK G a H) (.leaf 75 λG l H=>aW l λa=>pL G a H)) (.node 77 (.leaf 77 λG l H=>aW l λa=>wZ G av a H) (.leaf 79 λG l H=>aN l λa b=>pM G av a b H)))))
def abL:Nh.Ok az P:=⟨⟨⟨ES,⟨ET,EU⟩⟩,⟨⟨EV,EW⟩,⟨EX,EY⟩⟩⟩,⟨⟨EZ,⟨E0,E1⟩⟩,⟨⟨E2,E3⟩,⟨Nw,E4⟩⟩⟩⟩
def Ni:dq:=(.node 101 (.node 90 (.node 80 (.leaf 80 λG l H=>bw l λa b c=>pO G a b c H) (.node 81 (.leaf 81 λG l H=>aN l λa b=>xa G av a b H) (.leaf 90 λG l H=>aW l λa=>pP G a H))) (.node 94 (.node 92 (.leaf 92 λG l H=>aN l λa b=>pQ G av a b H) (.leaf 94 λG l H=>aN l λa b=>pR G a b H)) (.node 95 (.leaf 95 λG l H=>aN l λa b=>pS G av a b H) (.leaf 101 λG l H=>bw l λa b c=>oP G a b c H)))) (.node 106 (.node 104 (.node 103 (.leaf 103 λG l H=>aN l λa b=>oQ G av a b H) (.leaf 104 λG l H=>aW l λa=>oS G a H)) (.node 105 (.leaf 105 λG l H=>aN l λa b=>oT G a b H) (.leaf 106 λG l H=>aN l λa b=>oU G a b H))) (.node 108 (.node 107 (.leaf 107 λG l H=>aW l λa=>oV G av a H) (.leaf 108 λG l H=>aW l λa=>oX G a H)) (.node 109 (.leaf 109 λG l H=>aW l λa=>oY G a H) (.leaf 110 λG l H=>aW l λa=>oZ G av a H)))))
def abM:Ni.Ok az P:=⟨⟨⟨E5,⟨Nx,E6⟩⟩,⟨⟨E7,E8⟩,⟨E9,EE⟩⟩⟩,⟨⟨⟨EG,EH⟩,⟨EI,EJ⟩⟩,⟨⟨EK,EL⟩,⟨EM,EN⟩⟩⟩⟩
def abV:dq:=(.node 222 (.node 131 (.node 79 (.node 63 zd Nh) (.node 110 Ni kF)) (.node 186 (.node 161 kG kH) (.node 202 kI kJ))) (.node 286 (.node 254 (.node 238 kK kL) (.node 270 kz kA)) (.node 318 (.node 302 kB kC) (.node 350 kD kE))))
def jx:abV.Ok az P:=⟨⟨⟨⟨Et,abL⟩,⟨abM,lH⟩⟩,⟨⟨lI,lJ⟩,⟨lK,lL⟩⟩⟩,⟨⟨⟨lM,lN⟩,⟨lB,lC⟩⟩,⟨⟨lD,lE⟩,⟨lF,lG⟩⟩⟩⟩
def Nj:dq:=(.node 45 (.node 33 (.node 12 (.leaf 12 λG l H=>aW l λa=>jz G a H) (.node 32 (.leaf 32 λG l H=>aW l λa=>pr G av a H) (.leaf 33 λG l H=>aW l λa=>pv G av a H))) (.node 39 (.node 37 (.leaf 37 λG l H=>aW l λa=>pw G av a H) (.leaf 39 λG l H=>hF l (nj G H))) (.node 43 (.leaf 43 λG l H=>aN l λa b=>me G av a b H) (.leaf 45 λG l H=>aN l λa b=>nm G av a b H)))) (.node 51 (.node 48 (.leaf 48 λG l H=>aW l λa=>mh G av a H) (.node 50 (.leaf 50 λG l H=>aN l λa b=>mi G a b H) (.leaf 51 λG l H=>aN l λa b=>mj G a b H))) (.node 61 (.node 60 (.leaf 60 λG l H=>aW l λa=>ml G av a H) (.leaf 61 λG l H=>aW l λa=>mm G a H)) (.node 62 (.leaf 62 λG l H=>aW l λa=>mo G a H) (.leaf 63 λG l H=>aN l λa b=>mq G a b H)))))
def abN:Nj.Ok az P:=⟨⟨⟨qR,⟨EO,EP⟩⟩,⟨⟨ER,zo⟩,⟨qS,zp⟩⟩⟩,⟨⟨qT,⟨qU,qV⟩⟩,⟨⟨qW,qX⟩,⟨qY,qZ⟩⟩⟩⟩
def abW:dq:=(.node 222 (.node 131 (.node 79 (.node 63 Nj mR) (.node 110 mS kF)) (.node 186 (.node 161 kG kH) (.node 202 kI kJ))) (.node 286 (.node 254 (.node 238 kK kL) (.node 270 kz kA)) (.node 318 (.node 302 kB kC) (.node 350 kD kE))))
def lO:abW.Ok az P:=⟨⟨⟨⟨abN,oD⟩,⟨oE,lH⟩⟩,⟨⟨lI,lJ⟩,⟨lK,lL⟩⟩⟩,⟨⟨⟨lM,lN⟩,⟨lB,lC⟩⟩,⟨⟨lD,lE⟩,⟨lF,lG⟩⟩⟩⟩
end
end
section
set_option maxRecDepth 1000000
abbrev qi:=List (Nat×an)
def Jx:Nat×an:=(171,(.row U 4 [[X [97],X [105,110,116],I J 0,I J 11]]))
def Jy:Nat×an:=(179,(.row U 3 [[X [82],.ag 171 0 1 4 Y,I J 7]]))
def Jz:Nat×an:=(386,(.row U 11 [[I J 8,I J 0,X [],X [82],I J 0,.ao,I J 42,I J 0,I J 0,I J 0,I J 0]]))
def JB:Nat×an:=(466,(.row U 11 [[I J 5,I J 0,X [97],X [],I J 0,(.ag 386 0 1 11 (D 1)),I J 48,I J 0,I J 0,I J 0,I J 0]]))
def JF:Nat×an:=(586,(.row U 11 [[I J 1,I J 2,X [],X [],I J 0,.ao,I J 58,I J 0,I J 0,I J 0,I J 0]]))
def JG:Nat×an:=(590,(.row U 9 [[I J 8,X [],X [],I J 0,(.ag 466 0 1 11 (D 1)),.ao,.ao,I J 35,I J 0],[I J 8,X [],X [],I J 0,(.ag 586 0 1 11 (D 1)),.ao,.ao,I J 52,I J 0]]))
def JH:Nat×an:=(596,(.row U 7 [[X [109,97,105,110],.ao,Z U,X [],I J 0,.ag 590 0 2 9 Y,I J 26]]))
def qm:Nat×an:=(618,(.row U 4 [[X [97],I J 1,I J 0,I J 0]]))
def qn:Nat×an:=(621,(.row U 2 [[X [82],.ag 618 0 1 4 Y]]))
def qo:Nat×an:=(799,(.row U 4 [[I J 0,I J 3,I J 0,I J 0]]))
def qj:Nat×an:=(818,(.row U 3 [[I J 3,I J 0,I J 0],[I J 1,I J 0,I J 0],[I J 1,I J 0,I J 0]]))
def qk:Nat×an:=(827,(.row U 6 [[I J 11,I J 0,I J 0,I J 0,I J 0,.ao],[I J 6,I J 1,I J 0,I J 0,I J 0,.ao],[I J 15,I J 1,I J 0,I J 0,I J 0,.ao],[I J 1,I J 2,I J 0,I J 0,I J 2,.ao],[I J 15,I J 2,I J 0,I J 0,I J 0,.ao],[I J 18,(I J (-1)),I J 0,I J 0,I J 0,.ao]]))
def nX:Nat×an:=(829,(.row U 7 [[I J 0,.ag 818 0 3 3 Y,Z U,I J 0,I J 0,I J 0,.ag 827 0 6 6 Y]]))
def xU:Nat×an:=(832,(.row U 5 [[.ag 621 0 1 2 Y,.ao,.ag 829 0 1 7 Y,.ag 799 0 1 4 Y,I J 0]]))
def xV:Nat×an:=(833,(.row U 4 [[.ao,.ao,.ao,I J 0]]))
def DT:Nat×an:=(1687,(.row U 1 [[I J 0]]))
def DU:Nat×an:=(1696,(.row U 1 [[I J 0],[(I J (-1))],[(I J (-1))],[(I J (-1))]]))
def DV:Nat×an:=(1720,(.row U 1 [[(I J (-1))],[(I J (-1))],[(I J (-1))],[(I J (-1))],[(I J (-1))],[(I J (-1))],[(I J (-1))],[(I J (-1))]]))
def DW:Nat×an:=(1722,(.row U 1 [[.ag 1720 0 8 1 Y]]))
def nY:Nat×an:=(2756,(.row U 1 [[.ao]]))
def ql:Nat×an:=(3957,(.row U 1 [[I J 0]]))
def xW:Nat×an:=(3959,(.row U 1 [[.ag 3957 0 1 1 Y]]))
def JA:Nat×an:=(3960,(.row U 13 [[.ag 621 0 1 2 Y,.ao,.ag 829 0 1 7 Y,.ag 799 0 1 4 Y,I J 0,I J 1,(.ag 1687 0 1 1 (D 1)),.ag 1696 0 4 1 Y,.ag 1722 0 1 1 Y,(.ag 2756 0 1 1 (D 1)),.ag 3959 0 1 1 Y,I J 3,I J 3]]))
def DX:Nat×an:=(3961,(.row U 7 [[I J 0,.ag 818 0 3 3 Y,Z U,I J 0,I J 0,I J 0,.ag 827 0 6 6 Y]]))
def DY:Nat×an:=(3962,(.row U 4 [[.ag 4092 0 1 2 Y,.ao,.ao,I J 0]]))
def xX:Nat×an:=(4090,(.row U 1 [[(I J (-2))]]))
def DZ:Nat×an:=(4091,(.row U 2 [[Z U,.ag 4090 0 1 1 Y]]))
def xY:Nat×an:=(4092,(.row U 2 [[Z U,.ag 4090 0 1 1 Y]]))
def SS:Nat×an:=(4093,(.row U 6 [[I J 0,.ao,I J 0,.ao,.ao,.ao]]))
def SU:Nat×an:=(4094,(.row U 7 [[I J 0,.ag 818 0 3 3 Y,Z U,I J 0,I J 0,I J 0,.ag 827 0 6 6 Y]]))
def SV:Nat×an:=(4095,(.row U 6 [[I J 0,.ag 4110 0 3 1 Y,(I J (-3)),.ao,.ag 3957 0 1 1 Y,.ao]]))
def xZ:Nat×an:=(4106,(.row U 3 [[I J 1,I J 0,I J 0]]))
def x0:Nat×an:=(4109,(.row U 1 [[(I J (-2))]]))
def nZ:Nat×an:=(4110,(.row U 1 [[I J 0],[(I J (-2))],[(I J (-2))]]))
def D0:Nat×an:=(6228,(.row U 1 [[I J 0]]))
def D1:Nat×an:=(6254,(.row U 1 [[.ao],[.ag 6228 0 1 1 Y],[.ao],[.ao],[.ao],[.ao]]))
def JC:Nat×an:=(8450,(.row U 1 [[I J 0]]))
def JD:Nat×an:=(8477,(.row U 1 [[I J 0]]))
def JE:Nat×an:=(8518,(.row U 6 [[I J 21,I J 0,I J 0,I J 0,I J 0,.ag 8450 0 1 1 Y],[I J 11,I J 0,I J 0,I J 0,I J 0,.ao],[I J 6,I J 1,I J 0,I J 0,I J 0,.ao],[I J 22,I J 0,I J 0,I J 0,I J 0,.ag 8477 0 1 1 Y],[I J 15,I J 1,I J 0,I J 0,I J 0,.ao],[I J 1,I J 2,I J 0,I J 0,I J 2,.ao],[I J 15,I J 2,I J 0,I J 0,I J 0,.ao],[I J 18,(I J (-1)),I J 0,I J 0,I J 0,.ao]]))
def x1:qi:=[qm,qn,qo,qj,qk,nX,xU,xV,DT,DU,DV,DW,nY,ql,xW,JA,DX,DY,xX,DZ,xY,SS,SU,SV]
def SW:qi:=[qm,qn,qo,qj,qk,nX,xU,xV,DT,DU,DV,DW,nY,ql,xW,JA]
def n0:qi:=[qm,qn,qo,qj,qk,nX,xU,xV,DT,DU,DV,DW]
def SX:qi:=[qm,qn,qo,qj,qk,nX,xU,xV]
def JI:qi:=[qm,qn,qo,qj,qk]
def Jo:aR:=⟨32,[X [114,101,99,111,114,100,32,82,32,123,32,97,58,32,105,110,116,59,32,125,32,102,117,110,99,32,109,97,105,110,40,41,32,123,32,112,114,105,110,116,32,40,110,101,119,32,82,41,46,97,59,32,112,114,105,110,116,32,50,59,32,125]],0,[],(.tuple [.agg [.ag 179 0 1 3 Y,.ao,.ag 596 0 1 7 Y],.agg [I J 0,I J 0]]),598,[Jx,Jy,Jz,JB,JF,JG,JH]⟩
def SG(a:aZ az P aY):Jo.Ok az P:=aR.bm (bk a bB 100) j
def Jp:aR:=⟨33,[.agg [.ag 179 0 1 3 Y,.ao,.ag 596 0 1 7 Y]],600,[Jx,Jy,Jz,JB,JF,JG,JH],(.tuple [.agg [.ag 621 0 1 2 Y,.ao,.ag 829 0 1 7 Y,.ag 799 0 1 4 Y,I J 0],.agg [I J 0,I J 0]]),830,(JI++[nX])⟩
def SI(a:aZ az P aY):Jp.Ok az P:=aR.bm (bk a bB 100) j
def Jt:aR:=⟨76,[.agg [.ag 621 0 1 2 Y,.ao,.ag 829 0 1 7 Y,.ag 799 0 1 4 Y,I J 0]],951,SX,(.agg [I J 1,(.ag 1687 0 1 1 (D 1)),.ag 1696 0 4 1 Y,.ag 1722 0 1 1 Y]),1725,n0⟩
def SM(a:aZ az P aY):Jt.Ok az P:=aR.bm (bk a bB 100) j
def Ju:aR:=⟨77,[.agg [.ag 621 0 1 2 Y,.ao,.ag 829 0 1 7 Y,.ag 799 0 1 4 Y,I J 0]],1725,n0,(.ag 2756 0 1 1 (D 1)),2771,(n0++[nY])⟩
def SN(a:aZ az P aY):Ju.Ok az P:=aR.bm (bk a bB 100) j
def Jv:aR:=⟨78,[.agg [.ag 621 0 1 2 Y,.ao,.ag 829 0 1 7 Y,.ag 799 0 1 4 Y,I J 0]],2771,(n0++[nY]),.ag 3959 0 1 1 Y,3960,(n0++[nY,ql,xW])⟩
def SO(a:aZ az P aY):Jv.Ok az P:=aR.bm (bk a bB 100) j
def Jq:aR:=⟨16,[.agg [.ag 621 0 1 2 Y,.ao,.ag 829 0 1 7 Y,.ag 799 0 1 4 Y,I J 0],I J 0],4111,(x1++[xZ,x0,nZ]),.ag 6254 0 6 1 Y,6255,(x1++[xZ,x0,nZ,D0,D1])⟩
def SH(a:aZ az P aY):Jq.Ok az P:=aR.bm (bk a bB 100) j
def Js:aR:=⟨19,[.agg [.ag 621 0 1 2 Y,.ao,.ag 829 0 1 7 Y,.ag 799 0 1 4 Y,I J 0],I J 0],6255,(x1++[xZ,x0,nZ,D0,D1]),(.ag 8399 0 6 1 (D 6)),8443,(x1++[xZ,x0,nZ,D0,D1,(8399,(.row U 1 [[.ag 8421 0 1 1 Y],[.ao],[.ao],[.ao],[.ao],[.ao]])),(8421,(.row U 1 [[I J 0]]))])⟩
def SJ(a:aZ az P aY):Js.Ok az P:=aR.bm (bk a bB 100) j
def Jw:aR:=⟨81,[.ptr 3960 0 0,I J 0],4093,(n0++[nY,ql,xW,(3960,(.row U 13 [[.ag 621 0 1 2 Y,.ao,.ag 829 0 1 7 Y,.ag 799 0 1 4 Y,I J 0,I J 1,(.ag 1687 0 1 1 (D 1)),.ag 1696 0 4 1 Y,.ag 1722 0 1 1 Y,(.ag 2756 0 1 1 (D 1)),.ag 3959 0 1 1 Y,I J 0,I J 3]])),DX,DY,xX,DZ,xY]),(.agg [I J 0,.ag 4110 0 3 1 Y,(I J (-3)),.ao,.ag 3957 0 1 1 Y,.ag 8518 0 8 6 Y]),8519,(SW++[DX,DY,xX,DZ,xY,nZ,JC,JD,JE])⟩
def SP(a:aZ az P aY):∀s∈[Jq,Js],s.Ok az P:=by
 intro s b;simp only[List.mem_cons,List.not_mem_nil,or_false]at b;rcases b with rfl|rfl
 ·exact SH a
 ·exact SJ a
def SQ(a:aZ az P aY):Jw.Ok az P:=aR.bm (bk (dn a (SP a)) lO 100) j
def Jr:aR:=⟨37,[.agg [.ag 621 0 1 2 Y,.ao,.ag 829 0 1 7 Y,.ag 799 0 1 4 Y,I J 0]],832,(JI++[nX]),.agg [.ag 4092 0 1 2 Y,.ao,.ag 8520 0 1 6 Y,I J 0],8521,[ql,xX,xY,nZ,JC,JD,JE,(8520,(.row U 6 [[I J 0,.ag 4110 0 3 1 Y,(I J (-3)),.ao,.ag 3957 0 1 1 Y,.ag 8518 0 8 6 Y]]))]⟩
def SK(a:aZ az P aY):∀s∈[Jt,Ju,Jv,Jw],s.Ok az P:=by
 intro s b;simp only[List.mem_cons,List.not_mem_nil,or_false]at b;rcases b with rfl|rfl|rfl|rfl
 ·exact SM a
 ·exact SN a
 ·exact SO a
 ·exact SQ a
def SL(a:aZ az P aY):Jr.Ok az P:=aR.bm (bk (dn a (SK a)) mT 100) j
def SR(a:aZ az P aY):∀s∈[Jo,Jp,Jr],s.Ok az P:=by
 intro s b;simp only[List.mem_cons,List.not_mem_nil,or_false]at b;rcases b with rfl|rfl|rfl
 ·exact SG a
 ·exact SI a
 ·exact SL a
def nW(a:aZ az P aY)(H:af):eM az P 39 [] H (Z V) H:=by
 obtain⟨bh,c⟩:=mE (b:=true) (m:=9) (f:=39) (args:=[]) (H:=af.empty) (dn a (SR a)) abU j;exact PY c H

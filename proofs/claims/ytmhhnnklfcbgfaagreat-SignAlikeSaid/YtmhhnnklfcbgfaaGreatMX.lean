/-
  Texts of one proof, laid together: Ku.
-/
import Derived.Test.YtmhhnnklfcbgfaaGreatMW
set_option linter.unusedVariables false
set_option linter.unusedSimpArgs false
set_option linter.defProp false
namespace Go.Proofs.YtmhhnnklfcbgfaaGreat
open Go.bo
set_option maxRecDepth 100000
noncomputable section
abbrev R:Nat:=1000000
def QJ:bT bD P 11 (λG l H=>cm l λa=>qj G a H):=dS (N:=R) bU ⟨Tryz.func11,ag,ag,ag⟩ λG a H=>GP G R a H
def FO:bT bD P 13 (λG l H=>b2 l λa b=>tA G R a b H):=dm (N:=R) bU ⟨Tryz.func13,ag,ag,ag⟩ λG a b H=>Wg G R a b H
def QY:bT bD P 14 (λG l H=>cm l λa=>xt G a H):=dS (N:=R) bU ⟨Tryz.func14,ag,ag,ag⟩ λG a H=>Wn G R a H
def FP:bT bD P 16 (λG l H=>kg l (uc G H)):=z8 (N:=R) bU ⟨Tryz.func16,ag,ag,ag⟩ λG H=>WH G R H
def FQ:bT bD P 17 (λG l H=>b2 l λa b=>ud G R a b H):=dm (N:=R) bU ⟨Tryz.func17,ag,ag,ag⟩ λG a b H=>WO G R a b H
def Rl:bT bD P 18 (λG l H=>cm l λa=>xG G R a H):=dS (N:=R) bU ⟨Tryz.func18,ag,ag,ag⟩ λG a H=>Xj G R a H
def Ry:bT bD P 20 (λG l H=>cm l λa=>xI G R a H):=dS (N:=R) bU ⟨Tryz.func20,ag,ag,ag⟩ λG a H=>Xs G R a H
def RD:bT bD P 22 (λG l H=>b2 l λa b=>xK G a b H):=dm (N:=R) bU ⟨Tryz.func22,ag,ag,ag⟩ λG a b H=>XK G R a b H
def R_:bT bD P 35 (λG l H=>cm l λa=>hR G a H):=dS (N:=R) bU ⟨Tryz.func35,ag,ag,ag⟩ λG a H=>HZ G R a H
def Sa:bT bD P 36 (λG l H=>cm l λa=>rD G R a H):=dS (N:=R) bU ⟨Tryz.func36,ag,ag,ag⟩ λG a H=>H2 G R a H
def Sb:bT bD P 38 (λG l H=>cm l λa=>xO G R a H):=dS (N:=R) bU ⟨Tryz.func38,ag,ag,ag⟩ λG a H=>Yi G R a H
def Sc:bT bD P 40 (λG l H=>dU l λa b c=>xP G R a b c H):=gQ (N:=R) bU ⟨Tryz.func40,ag,ag,ag⟩ λG a b c H=>Yn G R a b c H
def Sd:bT bD P 41 (λG l H=>cm l λa=>xQ G a H):=dS (N:=R) bU ⟨Tryz.func41,ag,ag,ag⟩ λG a H=>Yr G R a H
def Se:bT bD P 42 (λG l H=>cm l λa=>xR G a H):=dS (N:=R) bU ⟨Tryz.func42,ag,ag,ag⟩ λG a H=>Ys G R a H
def Sf:bT bD P 43 (λG l H=>cm l λa=>xS G a H):=dS (N:=R) bU ⟨Tryz.func43,ag,ag,ag⟩ λG a H=>Yt G R a H
def Sg:bT bD P 44 (λG l H=>b2 l λa b=>xT G a b H):=dm (N:=R) bU ⟨Tryz.func44,ag,ag,ag⟩ λG a b H=>Yu G R a b H
def Sh:bT bD P 45 (λG l H=>b2 l λa b=>xU G a b H):=dm (N:=R) bU ⟨Tryz.func45,ag,ag,ag⟩ λG a b H=>Yv G R a b H
def Si:bT bD P 46 (λG l H=>b2 l λa b=>xV G R a b H):=dm (N:=R) bU ⟨Tryz.func46,ag,ag,ag⟩ λG a b H=>Yz G R a b H
def Sj:bT bD P 47 (λG l H=>b2 l λa b=>xW G a b H):=dm (N:=R) bU ⟨Tryz.func47,ag,ag,ag⟩ λG a b H=>YC G R a b H
def Sk:bT bD P 58 (λG l H=>cm l λa=>x_ G R a H):=dS (N:=R) bU ⟨Tryz.func58,ag,ag,ag⟩ λG a H=>YR G R a H
def Sl:bT bD P 73 (λG l H=>cm l λa=>rI G R a H):=dS (N:=R) bU ⟨Tryz.func73,ag,ag,ag⟩ λG a H=>H3 G R a H
def Sm:bT bD P 74 (λG l H=>b2 l λa b=>rK G R a b H):=dm (N:=R) bU ⟨Tryz.func74,ag,ag,ag⟩ λG a b H=>H4 G R a b H
def Sn:bT bD P 75 (λG l H=>cm l λa=>rM G R a H):=dS (N:=R) bU ⟨Tryz.func75,ag,ag,ag⟩ λG a H=>H5 G R a H
def Sp:bT bD P 76 (λG l H=>cm l λa=>rO G R a H):=dS (N:=R) bU ⟨Tryz.func76,ag,ag,ag⟩ λG a H=>H6 G R a H
def Sq:bT bD P 77 (λG l H=>cm l λa=>rR G R a H):=dS (N:=R) bU ⟨Tryz.func77,ag,ag,ag⟩ λG a H=>H7 G R a H
def Sr:bT bD P 78 (λG l H=>b2 l λa b=>rS G a b H):=dm (N:=R) bU ⟨Tryz.func78,ag,ag,ag⟩ λG a b H=>H8 G R a b H
def Ss:bT bD P 79 (λG l H=>cm l λa=>rT G R a H):=dS (N:=R) bU ⟨Tryz.func79,ag,ag,ag⟩ λG a H=>H9 G R a H
def St:bT bD P 80 (λG l H=>cm l λa=>rY G R a H):=dS (N:=R) bU ⟨Tryz.func80,ag,ag,ag⟩ λG a H=>H_ G R a H
def Su:bT bD P 81 (λG l H=>b2 l λa b=>pa G R a b H):=dm (N:=R) bU ⟨Tryz.func81,ag,ag,ag⟩ λG a b H=>Ia G R a b H
def Sv:bT bD P 84 (λG l H=>b2 l λa b=>yc G a b H):=dm (N:=R) bU ⟨Tryz.func84,ag,ag,ag⟩ λG a b H=>Zn G R a b H
def Sw:bT bD P 85 (λG l H=>b2 l λa b=>yd G a b H):=dm (N:=R) bU ⟨Tryz.func85,ag,ag,ag⟩ λG a b H=>Zo G R a b H
def Sx:bT bD P 93 (λG l H=>dU l λa b c=>yg G a b c H):=gQ (N:=R) bU ⟨Tryz.func93,ag,ag,ag⟩ λG a b c H=>Zp G R a b c H
def Sy:bT bD P 94 (λG l H=>b2 l λa b=>yh G a b H):=dm (N:=R) bU ⟨Tryz.func94,ag,ag,ag⟩ λG a b H=>Zs G R a b H
def Sz:bT bD P 97 (λG l H=>b2 l λa b=>yi G R a b H):=dm (N:=R) bU ⟨Tryz.func97,ag,ag,ag⟩ λG a b H=>Zu G R a b H
def SA:bT bD P 98 (λG l H=>dU l λa b c=>yj G a b c H):=gQ (N:=R) bU ⟨Tryz.func98,ag,ag,ag⟩ λG a b c H=>Zv G R a b c H
def SB:bT bD P 99 (λG l H=>b2 l λa b=>yk G a b H):=dm (N:=R) bU ⟨Tryz.func99,ag,ag,ag⟩ λG a b H=>Zw G R a b H
def QH:bT bD P 100 (λG l H=>b2 l λa b=>xi G a b H):=dm (N:=R) bU ⟨Tryz.func100,ag,ag,ag⟩ λG a b H=>Vc G R a b H
def QI:bT bD P 101 (λG l H=>b2 l λa b=>xj G R a b H):=dm (N:=R) bU ⟨Tryz.func101,ag,ag,ag⟩ λG a b H=>Vf G R a b H
def QK:bT bD P 112 (λG l H=>b2 l λa b=>xp G R a b H):=dm (N:=R) bU ⟨Tryz.func112,ag,ag,ag⟩ λG a b H=>VC G R a b H
def QL:bT bD P 113 (λG l H=>b2 l λa b=>xq G a b H):=dm (N:=R) bU ⟨Tryz.func113,ag,ag,ag⟩ λG a b H=>VE G R a b H
def QM:bT bD P 124 (λG l H=>b2 l λa b=>jg G a b H):=dm (N:=R) bU ⟨Tryz.func124,ag,ag,ag⟩ λG a b H=>GQ G R a b H
def QN:bT bD P 125 (λG l H=>cm l λa=>ql G a H):=dS (N:=R) bU ⟨Tryz.func125,ag,ag,ag⟩ λG a H=>GR G R a H
def QO:bT bD P 126 (λG l H=>b2 l λa b=>qm G R a b H):=dm (N:=R) bU ⟨Tryz.func126,ag,ag,ag⟩ λG a b H=>GS G R a b H
def QP:bT bD P 127 (λG l H=>cm l λa=>qn G R a H):=dS (N:=R) bU ⟨Tryz.func127,ag,ag,ag⟩ λG a H=>GU G R a H
def QQ:bT bD P 128 (λG l H=>cm l λa=>qp G a H):=dS (N:=R) bU ⟨Tryz.func128,ag,ag,ag⟩ λG a H=>GV G R a H
def QS:bT bD P 129 (λG l H=>b2 l λa b=>qq G a b H):=dm (N:=R) bU ⟨Tryz.func129,ag,ag,ag⟩ λG a b H=>GW G R a b H
def QT:bT bD P 130 (λG l H=>jA l λa b c d=>qt G R a b c d H):=wK (N:=R) bU ⟨Tryz.func130,ag,ag,ag⟩ λG a b c d H=>GX G R a b c d H
def QU:bT bD P 131 (λG l H=>cm l λa=>qu G a H):=dS (N:=R) bU ⟨Tryz.func131,ag,ag,ag⟩ λG a H=>GY G R a H
def QV:bT bD P 132 (λG l H=>cm l λa=>qv G R a H):=dS (N:=R) bU ⟨Tryz.func132,ag,ag,ag⟩ λG a H=>GZ G R a H
def QW:bT bD P 133 (λG l H=>b2 l λa b=>oI G a b H):=dm (N:=R) bU ⟨Tryz.func133,ag,ag,ag⟩ λG a b H=>G0 G R a b H
def QX:bT bD P 134 (λG l H=>b2 l λa b=>qw G R a b H):=dm (N:=R) bU ⟨Tryz.func134,ag,ag,ag⟩ λG a b H=>G1 G R a b H
def QZ:bT bD P 146 (λG l H=>b2 l λa b=>xu G R a b H):=dm (N:=R) bU ⟨Tryz.func146,ag,ag,ag⟩ λG a b H=>Wj G R a b H
def Q0:bT bD P 147 (λG l H=>b2 l λa b=>xw G a b H):=dm (N:=R) bU ⟨Tryz.func147,ag,ag,ag⟩ λG a b H=>Wl G R a b H
def Q1:bT bD P 149 (λG l H=>cm l λa=>xz G a H):=dS (N:=R) bU ⟨Tryz.func149,ag,ag,ag⟩ λG a H=>Wm G R a H
def Q2:bT bD P 150 (λG l H=>dU l λa b c=>xA G R a b c H):=gQ (N:=R) bU ⟨Tryz.func150,ag,ag,ag⟩ λG a b c H=>Wp G R a b c H
def Q3:bT bD P 151 (λG l H=>cm l λa=>xB G R a H):=dS (N:=R) bU ⟨Tryz.func151,ag,ag,ag⟩ λG a H=>Ws G R a H
def Q4:bT bD P 152 (λG l H=>cm l λa=>xC G R a H):=dS (N:=R) bU ⟨Tryz.func152,ag,ag,ag⟩ λG a H=>Wv G R a H
def Q5:bT bD P 153 (λG l H=>cm l λa=>xD G a H):=dS (N:=R) bU ⟨Tryz.func153,ag,ag,ag⟩ λG a H=>Wx G R a H
def Q6:bT bD P 154 (λG l H=>cm l λa=>xE G R a H):=dS (N:=R) bU ⟨Tryz.func154,ag,ag,ag⟩ λG a H=>Wz G R a H
def Q7:bT bD P 155 (λG l H=>b2 l λa b=>xF G R a b H):=dm (N:=R) bU ⟨Tryz.func155,ag,ag,ag⟩ λG a b H=>WD G R a b H
def Q8:bT bD P 167 (λG l H=>kg l (qy G H)):=z8 (N:=R) bU ⟨Tryz.func167,ag,ag,ag⟩ λG H=>G2 G R H
def Q9:bT bD P 168 (λG l H=>dU l λa b c=>qz G a b c H):=gQ (N:=R) bU ⟨Tryz.func168,ag,ag,ag⟩ λG a b c H=>G3 G R a b c H
def Q_:bT bD P 169 (λG l H=>pE l λa b c d x=>qA G a b c d x H):=E2 (N:=R) bU ⟨Tryz.func169,ag,ag,ag⟩ λG a b c d x H=>G4 G R a b c d x H
def Ra:bT bD P 170 (λG l H=>b2 l λa b=>qB G a b H):=dm (N:=R) bU ⟨Tryz.func170,ag,ag,ag⟩ λG a b H=>G5 G R a b H
def Rb:bT bD P 171 (λG l H=>b2 l λa b=>qC G R a b H):=dm (N:=R) bU ⟨Tryz.func171,ag,ag,ag⟩ λG a b H=>G6 G R a b H
def Rc:bT bD P 172 (λG l H=>b2 l λa b=>oM G a b H):=dm (N:=R) bU ⟨Tryz.func172,ag,ag,ag⟩ λG a b H=>G7 G R a b H
def Re:bT bD P 173 (λG l H=>b2 l λa b=>qD G a b H):=dm (N:=R) bU ⟨Tryz.func173,ag,ag,ag⟩ λG a b H=>G8 G R a b H
def Rf:bT bD P 174 (λG l H=>b2 l λa b=>qE G a b H):=dm (N:=R) bU ⟨Tryz.func174,ag,ag,ag⟩ λG a b H=>G9 G R a b H
def Rg:bT bD P 175 (λG l H=>b2 l λa b=>qF G a b H):=dm (N:=R) bU ⟨Tryz.func175,ag,ag,ag⟩ λG a b H=>G_ G R a b H
def Rh:bT bD P 176 (λG l H=>b2 l λa b=>oN G a b H):=dm (N:=R) bU ⟨Tryz.func176,ag,ag,ag⟩ λG a b H=>Ha G R a b H
def Ri:bT bD P 177 (λG l H=>b2 l λa b=>qG G a b H):=dm (N:=R) bU ⟨Tryz.func177,ag,ag,ag⟩ λG a b H=>Hb G R a b H
def Rj:bT bD P 178 (λG l H=>jA l λa b c d=>qH G a b c d H):=wK (N:=R) bU ⟨Tryz.func178,ag,ag,ag⟩ λG a b c d H=>Hc G R a b c d H
def Rk:bT bD P 179 (λG l H=>jA l λa b c d=>kz G a b c d H):=wK (N:=R) bU ⟨Tryz.func179,ag,ag,ag⟩ λG a b c d H=>Hd G R a b c d H
def Rm:bT bD P 180 (λG l H=>b2 l λa b=>kA G R a b H):=dm (N:=R) bU ⟨Tryz.func180,ag,ag,ag⟩ λG a b H=>He G R a b H
def Rn:bT bD P 181 (λG l H=>b2 l λa b=>oO G a b H):=dm (N:=R) bU ⟨Tryz.func181,ag,ag,ag⟩ λG a b H=>Hf G R a b H
def Ro:bT bD P 182 (λG l H=>cm l λa=>qJ G R a H):=dS (N:=R) bU ⟨Tryz.func182,ag,ag,ag⟩ λG a H=>Hg G R a H
def Rp:bT bD P 183 (λG l H=>cm l λa=>qK G R a H):=dS (N:=R) bU ⟨Tryz.func183,ag,ag,ag⟩ λG a H=>Hh G R a H
def Rq:bT bD P 184 (λG l H=>dU l λa b c=>qL G a b c H):=gQ (N:=R) bU ⟨Tryz.func184,ag,ag,ag⟩ λG a b c H=>Hi G R a b c H
def Rr:bT bD P 185 (λG l H=>cm l λa=>qM G R a H):=dS (N:=R) bU ⟨Tryz.func185,ag,ag,ag⟩ λG a H=>Hj G R a H
def Rs:bT bD P 186 (λG l H=>cm l λa=>qO G R a H):=dS (N:=R) bU ⟨Tryz.func186,ag,ag,ag⟩ λG a H=>Hk G R a H
def Rt:bT bD P 187 (λG l H=>b2 l λa b=>qQ G R a b H):=dm (N:=R) bU ⟨Tryz.func187,ag,ag,ag⟩ λG a b H=>Hl G R a b H
def Ru:bT bD P 188 (λG l H=>b2 l λa b=>qS G R a b H):=dm (N:=R) bU ⟨Tryz.func188,ag,ag,ag⟩ λG a b H=>Hm G R a b H
def Rv:bT bD P 189 (λG l H=>cm l λa=>qT G R a H):=dS (N:=R) bU ⟨Tryz.func189,ag,ag,ag⟩ λG a H=>Hn G R a H
def Rw:bT bD P 190 (λG l H=>b2 l λa b=>oY G a b H):=dm (N:=R) bU ⟨Tryz.func190,ag,ag,ag⟩ λG a b H=>Ho G R a b H
def Rx:bT bD P 191 (λG l H=>dU l λa b c=>qU G R a b c H):=gQ (N:=R) bU ⟨Tryz.func191,ag,ag,ag⟩ λG a b c H=>Hp G R a b c H
def Rz:bT bD P 206 (λG l H=>kg l (xJ G H)):=z8 (N:=R) bU ⟨Tryz.func206,ag,ag,ag⟩ λG H=>Xp G R H
def RA:bT bD P 217 (λG l H=>cm l λa=>fq G a H):=dS (N:=R) bU ⟨Tryz.func217,ag,ag,ag⟩ λG a H=>Hq G R a H
def RB:bT bD P 218 (λG l H=>cm l λa=>qW G a H):=dS (N:=R) bU ⟨Tryz.func218,ag,ag,ag⟩ λG a H=>Hr G R a H
def RC:bT bD P 219 (λG l H=>b2 l λa b=>qX G R a b H):=dm (N:=R) bU ⟨Tryz.func219,ag,ag,ag⟩ λG a b H=>Hs G R a b H
def RE:bT bD P 220 (λG l H=>dU l λa b c=>o0 G a b c H):=gQ (N:=R) bU ⟨Tryz.func220,ag,ag,ag⟩ λG a b c H=>Ht G R a b c H
def RF:bT bD P 221 (λG l H=>dU l λa b c=>mY G a b c H):=gQ (N:=R) bU ⟨Tryz.func221,ag,ag,ag⟩ λG a b c H=>Hu G R a b c H
def RG:bT bD P 222 (λG l H=>b2 l λa b=>qZ G a b H):=dm (N:=R) bU ⟨Tryz.func222,ag,ag,ag⟩ λG a b H=>Hv G R a b H
def RH:bT bD P 223 (λG l H=>cm l λa=>mZ G a H):=dS (N:=R) bU ⟨Tryz.func223,ag,ag,ag⟩ λG a H=>Hw G R a H
def RI:bT bD P 224 (λG l H=>cm l λa=>q0 G a H):=dS (N:=R) bU ⟨Tryz.func224,ag,ag,ag⟩ λG a H=>Hx G R a H
def RJ:bT bD P 225 (λG l H=>dU l λa b c=>q1 G R a b c H):=gQ (N:=R) bU ⟨Tryz.func225,ag,ag,ag⟩ λG a b c H=>Hy G R a b c H
def RK:bT bD P 226 (λG l H=>b2 l λa b=>q3 G R a b H):=dm (N:=R) bU ⟨Tryz.func226,ag,ag,ag⟩ λG a b H=>Hz G R a b H
def RL:bT bD P 227 (λG l H=>dU l λa b c=>q5 G a b c H):=gQ (N:=R) bU ⟨Tryz.func227,ag,ag,ag⟩ λG a b c H=>HA G R a b c H
def RM:bT bD P 228 (λG l H=>b2 l λa b=>q6 G R a b H):=dm (N:=R) bU ⟨Tryz.func228,ag,ag,ag⟩ λG a b H=>HB G R a b H
def RN:bT bD P 240 (λG l H=>pE l λa b c d x=>ed G a b c d x H):=E2 (N:=R) bU ⟨Tryz.func240,ag,ag,ag⟩ λG a b c d x H=>HC G R a b c d x H
def RO:bT bD P 241 (λG l H=>b2 l λa b=>q8 G a b H):=dm (N:=R) bU ⟨Tryz.func241,ag,ag,ag⟩ λG a b H=>HD G R a b H
def RP:bT bD P 242 (λG l H=>b2 l λa b=>q9 G a b H):=dm (N:=R) bU ⟨Tryz.func242,ag,ag,ag⟩ λG a b H=>HE G R a b H
def RQ:bT bD P 243 (λG l H=>b2 l λa b=>m2 G a b H):=dm (N:=R) bU ⟨Tryz.func243,ag,ag,ag⟩ λG a b H=>HF G R a b H
def RR:bT bD P 244 (λG l H=>dU l λa b c=>q_ G R a b c H):=gQ (N:=R) bU ⟨Tryz.func244,ag,ag,ag⟩ λG a b c H=>HG G R a b c H
def RT:bT bD P 245 (λG l H=>cm l λa=>rb G a H):=dS (N:=R) bU ⟨Tryz.func245,ag,ag,ag⟩ λG a H=>HH G R a H
def RU:bT bD P 246 (λG l H=>jA l λa b c d=>re G a b c d H):=wK (N:=R) bU ⟨Tryz.func246,ag,ag,ag⟩ λG a b c d H=>HJ G R a b c d H
def RV:bT bD P 247 (λG l H=>dU l λa b c=>rf G a b c H):=gQ (N:=R) bU ⟨Tryz.func247,ag,ag,ag⟩ λG a b c H=>HK G R a b c H
def RW:bT bD P 248 (λG l H=>dU l λa b c=>ly G a b c H):=gQ (N:=R) bU ⟨Tryz.func248,ag,ag,ag⟩ λG a b c H=>HL G R a b c H
def RX:bT bD P 249 (λG l H=>cm l λa=>rh G a H):=dS (N:=R) bU ⟨Tryz.func249,ag,ag,ag⟩ λG a H=>HM G R a H
def RY:bT bD P 250 (λG l H=>b2 l λa b=>rl G R a b H):=dm (N:=R) bU ⟨Tryz.func250,ag,ag,ag⟩ λG a b H=>HN G R a b H
def RZ:bT bD P 251 (λG l H=>dU l λa b c=>rm G R a b c H):=gQ (N:=R) bU ⟨Tryz.func251,ag,ag,ag⟩ λG a b c H=>HO G R a b c H
def R0:bT bD P 252 (λG l H=>b2 l λa b=>rp G a b H):=dm (N:=R) bU ⟨Tryz.func252,ag,ag,ag⟩ λG a b H=>HP G R a b H
def R1:bT bD P 253 (λG l H=>b2 l λa b=>rq G a b H):=dm (N:=R) bU ⟨Tryz.func253,ag,ag,ag⟩ λG a b H=>HQ G R a b H
def R2:bT bD P 258 (λG l H=>cm l λa=>rr G R a H):=dS (N:=R) bU ⟨Tryz.func258,ag,ag,ag⟩ λG a H=>HR G R a H
def R3:bT bD P 259 (λG l H=>b2 l λa b=>o5 G a b H):=dm (N:=R) bU ⟨Tryz.func259,ag,ag,ag⟩ λG a b H=>HS G R a b H
def R4:bT bD P 260 (λG l H=>dU l λa b c=>nc G a b c H):=gQ (N:=R) bU ⟨Tryz.func260,ag,ag,ag⟩ λG a b c H=>HT G R a b c H
def R5:bT bD P 261 (λG l H=>b2 l λa b=>ru G R a b H):=dm (N:=R) bU ⟨Tryz.func261,ag,ag,ag⟩ λG a b H=>HU G R a b H
def R6:bT bD P 281 (λG l H=>dU l λa b c=>rz G a b c H):=gQ (N:=R) bU ⟨Tryz.func281,ag,ag,ag⟩ λG a b c H=>HV G R a b c H
def R7:bT bD P 282 (λG l H=>dU l λa b c=>rA G a b c H):=gQ (N:=R) bU ⟨Tryz.func282,ag,ag,ag⟩ λG a b c H=>HW G R a b c H
def R8:bT bD P 283 (λG l H=>cm l λa=>rB G a H):=dS (N:=R) bU ⟨Tryz.func283,ag,ag,ag⟩ λG a H=>HX G R a H
def R9:bT bD P 284 (λG l H=>b2 l λa b=>rC G a b H):=dm (N:=R) bU ⟨Tryz.func284,ag,ag,ag⟩ λG a b H=>HY G R a b H
def O8:hd:=(.node 155 (.node 84 (.node 43 (.node 20 (.node 14 (.node 11 (.leaf 11 λG l H=>cm l λa=>qj G a H) (.node 13 (.leaf 13 λG l H=>b2 l λa b=>tA G R a b H) (.leaf 14 λG l H=>cm l λa=>xt G a H))) (.node 17 (.node 16 (.leaf 16 λG l H=>kg l (uc G H)) (.leaf 17 λG l H=>b2 l λa b=>ud G R a b H)) (.node 18 (.leaf 18 λG l H=>cm l λa=>xG G R a H) (.leaf 20 λG l H=>cm l λa=>xI G R a H)))) (.node 38 (.node 35 (.node 22 (.leaf 22 λG l H=>b2 l λa b=>xK G a b H) (.leaf 35 λG l H=>cm l λa=>hR G a H)) (.node 36 (.leaf 36 λG l H=>cm l λa=>rD G R a H) (.leaf 38 λG l H=>cm l λa=>xO G R a H))) (.node 41 (.node 40 (.leaf 40 λG l H=>dU l λa b c=>xP G R a b c H) (.leaf 41 λG l H=>cm l λa=>xQ G a H)) (.node 42 (.leaf 42 λG l H=>cm l λa=>xR G a H) (.leaf 43 λG l H=>cm l λa=>xS G a H))))) (.node 74 (.node 46 (.node 44 (.leaf 44 λG l H=>b2 l λa b=>xT G a b H) (.node 45 (.leaf 45 λG l H=>b2 l λa b=>xU G a b H) (.leaf 46 λG l H=>b2 l λa b=>xV G R a b H))) (.node 58 (.node 47 (.leaf 47 λG l H=>b2 l λa b=>xW G a b H) (.leaf 58 λG l H=>cm l λa=>x_ G R a H)) (.node 73 (.leaf 73 λG l H=>cm l λa=>rI G R a H) (.leaf 74 λG l H=>b2 l λa b=>rK G R a b H)))) (.node 78 (.node 76 (.node 75 (.leaf 75 λG l H=>cm l λa=>rM G R a H) (.leaf 76 λG l H=>cm l λa=>rO G R a H)) (.node 77 (.leaf 77 λG l H=>cm l λa=>rR G R a H) (.leaf 78 λG l H=>b2 l λa b=>rS G a b H))) (.node 80 (.node 79 (.leaf 79 λG l H=>cm l λa=>rT G R a H) (.leaf 80 λG l H=>cm l λa=>rY G R a H)) (.node 81 (.leaf 81 λG l H=>b2 l λa b=>pa G R a b H) (.leaf 84 λG l H=>b2 l λa b=>yc G a b H)))))) (.node 128 (.node 100 (.node 94 (.node 85 (.leaf 85 λG l H=>b2 l λa b=>yd G a b H) (.node 93 (.leaf 93 λG l H=>dU l λa b c=>yg G a b c H) (.leaf 94 λG l H=>b2 l λa b=>yh G a b H))) (.node 98 (.node 97 (.leaf 97 λG l H=>b2 l λa b=>yi G R a b H) (.leaf 98 λG l H=>dU l λa b c=>yj G a b c H)) (.node 99 (.leaf 99 λG l H=>b2 l λa b=>yk G a b H) (.leaf 100 λG l H=>b2 l λa b=>xi G a b H)))) (.node 124 (.node 112 (.node 101 (.leaf 101 λG l H=>b2 l λa b=>xj G R a b H) (.leaf 112 λG l H=>b2 l λa b=>xp G R a b H)) (.node 113 (.leaf 113 λG l H=>b2 l λa b=>xq G a b H) (.leaf 124 λG l H=>b2 l λa b=>jg G a b H))) (.node 126 (.node 125 (.leaf 125 λG l H=>cm l λa=>ql G a H) (.leaf 126 λG l H=>b2 l λa b=>qm G R a b H)) (.node 127 (.leaf 127 λG l H=>cm l λa=>qn G R a H) (.leaf 128 λG l H=>cm l λa=>qp G a H))))) (.node 146 (.node 131 (.node 129 (.leaf 129 λG l H=>b2 l λa b=>qq G a b H) (.node 130 (.leaf 130 λG l H=>jA l λa b c d=>qt G R a b c d H) (.leaf 131 λG l H=>cm l λa=>qu G a H))) (.node 133 (.node 132 (.leaf 132 λG l H=>cm l λa=>qv G R a H) (.leaf 133 λG l H=>b2 l λa b=>oI G a b H)) (.node 134 (.leaf 134 λG l H=>b2 l λa b=>qw G R a b H) (.leaf 146 λG l H=>b2 l λa b=>xu G R a b H)))) (.node 151 (.node 149 (.node 147 (.leaf 147 λG l H=>b2 l λa b=>xw G a b H) (.leaf 149 λG l H=>cm l λa=>xz G a H)) (.node 150 (.leaf 150 λG l H=>dU l λa b c=>xA G R a b c H) (.leaf 151 λG l H=>cm l λa=>xB G R a H))) (.node 153 (.node 152 (.leaf 152 λG l H=>cm l λa=>xC G R a H) (.leaf 153 λG l H=>cm l λa=>xD G a H)) (.node 154 (.leaf 154 λG l H=>cm l λa=>xE G R a H) (.leaf 155 λG l H=>b2 l λa b=>xF G R a b H))))))) (.node 220 (.node 181 (.node 173 (.node 169 (.node 167 (.leaf 167 λG l H=>kg l (qy G H)) (.node 168 (.leaf 168 λG l H=>dU l λa b c=>qz G a b c H) (.leaf 169 λG l H=>pE l λa b c d x=>qA G a b c d x H))) (.node 171 (.node 170 (.leaf 170 λG l H=>b2 l λa b=>qB G a b H) (.leaf 171 λG l H=>b2 l λa b=>qC G R a b H)) (.node 172 (.leaf 172 λG l H=>b2 l λa b=>oM G a b H) (.leaf 173 λG l H=>b2 l λa b=>qD G a b H)))) (.node 177 (.node 175 (.node 174 (.leaf 174 λG l H=>b2 l λa b=>qE G a b H) (.leaf 175 λG l H=>b2 l λa b=>qF G a b H)) (.node 176 (.leaf 176 λG l H=>b2 l λa b=>oN G a b H) (.leaf 177 λG l H=>b2 l λa b=>qG G a b H))) (.node 179 (.node 178 (.leaf 178 λG l H=>jA l λa b c d=>qH G a b c d H) (.leaf 179 λG l H=>jA l λa b c d=>kz G a b c d H)) (.node 180 (.leaf 180 λG l H=>b2 l λa b=>kA G R a b H) (.leaf 181 λG l H=>b2 l λa b=>oO G a b H))))) (.node 188 (.node 184 (.node 182 (.leaf 182 λG l H=>cm l λa=>qJ G R a H) (.node 183 (.leaf 183 λG l H=>cm l λa=>qK G R a H) (.leaf 184 λG l H=>dU l λa b c=>qL G a b c H))) (.node 186 (.node 185 (.leaf 185 λG l H=>cm l λa=>qM G R a H) (.leaf 186 λG l H=>cm l λa=>qO G R a H)) (.node 187 (.leaf 187 λG l H=>b2 l λa b=>qQ G R a b H) (.leaf 188 λG l H=>b2 l λa b=>qS G R a b H)))) (.node 206 (.node 190 (.node 189 (.leaf 189 λG l H=>cm l λa=>qT G R a H) (.leaf 190 λG l H=>b2 l λa b=>oY G a b H)) (.node 191 (.leaf 191 λG l H=>dU l λa b c=>qU G R a b c H) (.leaf 206 λG l H=>kg l (xJ G H)))) (.node 218 (.node 217 (.leaf 217 λG l H=>cm l λa=>fq G a H) (.leaf 218 λG l H=>cm l λa=>qW G a H)) (.node 219 (.leaf 219 λG l H=>b2 l λa b=>qX G R a b H) (.leaf 220 λG l H=>dU l λa b c=>o0 G a b c H)))))) (.node 246 (.node 227 (.node 223 (.node 221 (.leaf 221 λG l H=>dU l λa b c=>mY G a b c H) (.node 222 (.leaf 222 λG l H=>b2 l λa b=>qZ G a b H) (.leaf 223 λG l H=>cm l λa=>mZ G a H))) (.node 225 (.node 224 (.leaf 224 λG l H=>cm l λa=>q0 G a H) (.leaf 225 λG l H=>dU l λa b c=>q1 G R a b c H)) (.node 226 (.leaf 226 λG l H=>b2 l λa b=>q3 G R a b H) (.leaf 227 λG l H=>dU l λa b c=>q5 G a b c H)))) (.node 242 (.node 240 (.node 228 (.leaf 228 λG l H=>b2 l λa b=>q6 G R a b H) (.leaf 240 λG l H=>pE l λa b c d x=>ed G a b c d x H)) (.node 241 (.leaf 241 λG l H=>b2 l λa b=>q8 G a b H) (.leaf 242 λG l H=>b2 l λa b=>q9 G a b H))) (.node 244 (.node 243 (.leaf 243 λG l H=>b2 l λa b=>m2 G a b H) (.leaf 244 λG l H=>dU l λa b c=>q_ G R a b c H)) (.node 245 (.leaf 245 λG l H=>cm l λa=>rb G a H) (.leaf 246 λG l H=>jA l λa b c d=>re G a b c d H))))) (.node 253 (.node 249 (.node 247 (.leaf 247 λG l H=>dU l λa b c=>rf G a b c H) (.node 248 (.leaf 248 λG l H=>dU l λa b c=>ly G a b c H) (.leaf 249 λG l H=>cm l λa=>rh G a H))) (.node 251 (.node 250 (.leaf 250 λG l H=>b2 l λa b=>rl G R a b H) (.leaf 251 λG l H=>dU l λa b c=>rm G R a b c H)) (.node 252 (.leaf 252 λG l H=>b2 l λa b=>rp G a b H) (.leaf 253 λG l H=>b2 l λa b=>rq G a b H)))) (.node 261 (.node 259 (.node 258 (.leaf 258 λG l H=>cm l λa=>rr G R a H) (.leaf 259 λG l H=>b2 l λa b=>o5 G a b H)) (.node 260 (.leaf 260 λG l H=>dU l λa b c=>nc G a b c H) (.leaf 261 λG l H=>b2 l λa b=>ru G R a b H))) (.node 282 (.node 281 (.leaf 281 λG l H=>dU l λa b c=>rz G a b c H) (.leaf 282 λG l H=>dU l λa b c=>rA G a b c H)) (.node 283 (.leaf 283 λG l H=>cm l λa=>rB G a H) (.leaf 284 λG l H=>b2 l λa b=>rC G a b H))))))))
def p6:O8.Ok bD P:=⟨⟨⟨⟨⟨⟨QJ,⟨FO,QY⟩⟩,⟨⟨FP,FQ⟩,⟨Rl,Ry⟩⟩⟩,⟨⟨⟨RD,R_⟩,⟨Sa,Sb⟩⟩,⟨⟨Sc,Sd⟩,⟨Se,Sf⟩⟩⟩⟩,⟨⟨⟨Sg,⟨Sh,Si⟩⟩,⟨⟨Sj,Sk⟩,⟨Sl,Sm⟩⟩⟩,⟨⟨⟨Sn,Sp⟩,⟨Sq,Sr⟩⟩,⟨⟨Ss,St⟩,⟨Su,Sv⟩⟩⟩⟩⟩,⟨⟨⟨⟨Sw,⟨Sx,Sy⟩⟩,⟨⟨Sz,SA⟩,⟨SB,QH⟩⟩⟩,⟨⟨⟨QI,QK⟩,⟨QL,QM⟩⟩,⟨⟨QN,QO⟩,⟨QP,QQ⟩⟩⟩⟩,⟨⟨⟨QS,⟨QT,QU⟩⟩,⟨⟨QV,QW⟩,⟨QX,QZ⟩⟩⟩,⟨⟨⟨Q0,Q1⟩,⟨Q2,Q3⟩⟩,⟨⟨Q4,Q5⟩,⟨Q6,Q7⟩⟩⟩⟩⟩⟩,⟨⟨⟨⟨⟨Q8,⟨Q9,Q_⟩⟩,⟨⟨Ra,Rb⟩,⟨Rc,Re⟩⟩⟩,⟨⟨⟨Rf,Rg⟩,⟨Rh,Ri⟩⟩,⟨⟨Rj,Rk⟩,⟨Rm,Rn⟩⟩⟩⟩,⟨⟨⟨Ro,⟨Rp,Rq⟩⟩,⟨⟨Rr,Rs⟩,⟨Rt,Ru⟩⟩⟩,⟨⟨⟨Rv,Rw⟩,⟨Rx,Rz⟩⟩,⟨⟨RA,RB⟩,⟨RC,RE⟩⟩⟩⟩⟩,⟨⟨⟨⟨RF,⟨RG,RH⟩⟩,⟨⟨RI,RJ⟩,⟨RK,RL⟩⟩⟩,⟨⟨⟨RM,RN⟩,⟨RO,RP⟩⟩,⟨⟨RQ,RR⟩,⟨RT,RU⟩⟩⟩⟩,⟨⟨⟨RV,⟨RW,RX⟩⟩,⟨⟨RY,RZ⟩,⟨R0,R1⟩⟩⟩,⟨⟨⟨R2,R3⟩,⟨R4,R5⟩⟩,⟨⟨R6,R7⟩,⟨R8,R9⟩⟩⟩⟩⟩⟩⟩
def O9:hd:=(.node 13 (.leaf 13 λG l H=>b2 l λa b=>tA G R a b H) (.node 16 (.leaf 16 λG l H=>kg l (uc G H)) (.leaf 17 λG l H=>b2 l λa b=>ud G R a b H)))
def O_:O9.Ok bD P:=⟨FO,⟨FP,FQ⟩⟩

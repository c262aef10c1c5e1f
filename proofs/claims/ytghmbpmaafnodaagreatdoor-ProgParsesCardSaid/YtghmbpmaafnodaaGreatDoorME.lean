/-
  Texts of one proof, laid together: Tab Fv26 Sp Sr Z1 Z2 Z3 Z4 Z5 Z6 Z7 Z8.
-/
import Derived.Test.YtghmbpmaafnodaaGreatDoorMD
import Derived.WalkKit
import Derived.ProofKit
import Derived.OpenShut
import Derived.ShutString
import Derived.ChangeOld
import Derived.Below
import Derived.Carry
set_option linter.unusedVariables false
set_option linter.unusedSimpArgs false
namespace Go.Proofs.YtghmbpmaafnodaaGreatDoor
open Go.gd
section
theorem Y9:h3 P 3=some false:=ad
theorem Zd:fs P 3=some 1:=ad
theorem Y_:h3 P 4=some false:=ad
theorem Ze:fs P 4=some 1:=ad
theorem X6{c:Bool}(a b:Bool):aW P .eql 4 c (.bool a) (.bool b)=some (.bool (a==b)):=ad
theorem YW{c:Bool}(a b:Bool):aW P .neq 4 c (.bool a) (.bool b)=some (.bool (!(a==b))):=ad
theorem Za:h3 P 5=some false:=ad
theorem Zf:fs P 5=some 1:=ad
theorem Zb:h3 P 9=some false:=ad
theorem Zg:fs P 9=some 1:=ad
theorem YS{H:J}{s:List UInt8}:dF P H .len [9] [.str s]=some (.int .i64 s.length):=ad
theorem Xd:h3 P 22=some false:=ad
theorem Xr:fs P 22=some 1:=ad
theorem ako(l i n:Nat)(cap:Option Nat)(k:Int):dS P 22 (.aN l i n 3 cap) (.int .i64 k)=if 3=3/\0<=k/\k<n then some (.ptr l (i+k.toNat) 0) else none:=ad
theorem Mk{l i n:Nat}{cap:Option Nat}{k:Int}(aY:0<=k)(U:k<n):dS P 22 (.aN l i n 3 cap) (.int .i64 k)=some (.ptr l (i+k.toNat) 0):=by rw[ako,if_pos ⟨rfl,aY,U⟩]
theorem Ez{H:J}{l i n e:Nat}{cap:Option Nat}:dF P H .len [22] [.aN l i n e cap]=some (.int .i64 n):=ad
theorem Hk{H:J}:dF P H .len [22] [.ap]=some (.int .i64 0):=ad
theorem Xe:h3 P 23=some false:=ad
theorem Xs:fs P 23=some 1:=ad
theorem akp(l i n:Nat)(cap:Option Nat)(k:Int):dS P 23 (.aN l i n 4 cap) (.int .i64 k)=if 4=4/\0<=k/\k<n then some (.ptr l (i+k.toNat) 0) else none:=ad
theorem Ml{l i n:Nat}{cap:Option Nat}{k:Int}(aY:0<=k)(U:k<n):dS P 23 (.aN l i n 4 cap) (.int .i64 k)=some (.ptr l (i+k.toNat) 0):=by rw[akp,if_pos ⟨rfl,aY,U⟩]
theorem EA{H:J}{l i n e:Nat}{cap:Option Nat}:dF P H .len [23] [.aN l i n e cap]=some (.int .i64 n):=ad
theorem Hl{H:J}:dF P H .len [23] [.ap]=some (.int .i64 0):=ad
theorem Xf:h3 P 24=some false:=ad
theorem Xt:fs P 24=some 1:=ad
theorem akq(l i n:Nat)(cap:Option Nat)(k:Int):dS P 24 (.aN l i n 7 cap) (.int .i64 k)=if 7=7/\0<=k/\k<n then some (.ptr l (i+k.toNat) 0) else none:=ad
theorem W4{l i n:Nat}{cap:Option Nat}{k:Int}(aY:0<=k)(U:k<n):dS P 24 (.aN l i n 7 cap) (.int .i64 k)=some (.ptr l (i+k.toNat) 0):=by rw[akq,if_pos ⟨rfl,aY,U⟩]
theorem EB{H:J}{l i n e:Nat}{cap:Option Nat}:dF P H .len [24] [.aN l i n e cap]=some (.int .i64 n):=ad
theorem Hm{H:J}:dF P H .len [24] [.ap]=some (.int .i64 0):=ad
theorem Xg:h3 P 26=some true:=ad
theorem Xu:fs P 26=some 3:=ad
theorem TN(l i c:Nat):aE P 26 (.ptr l i c) 0=some (.ptr l i (c+0)):=ad
theorem Un(a0 bf a2:I):d8 P 26 (.agg [a0,bf,a2]) 0=some a0:=ad
theorem TO(l i c:Nat):aE P 26 (.ptr l i c) 1=some (.ptr l i (c+1)):=ad
theorem Uo(a0 bf a2:I):d8 P 26 (.agg [a0,bf,a2]) 1=some bf:=ad
theorem TP(l i c:Nat):aE P 26 (.ptr l i c) 2=some (.ptr l i (c+2)):=ad
theorem Up(a0 bf a2:I):d8 P 26 (.agg [a0,bf,a2]) 2=some a2:=ad
theorem Xh:h3 P 27=some false:=ad
theorem Xv:fs P 27=some 1:=ad
theorem Xi:h3 P 29=some true:=ad
theorem Xw:fs P 29=some 2:=ad
theorem Lc(l i c:Nat):aE P 29 (.ptr l i c) 0=some (.ptr l i (c+0)):=ad
theorem Uq(a0 bf:I):d8 P 29 (.agg [a0,bf]) 0=some a0:=ad
theorem TQ(l i c:Nat):aE P 29 (.ptr l i c) 1=some (.ptr l i (c+1)):=ad
theorem Ur(a0 bf:I):d8 P 29 (.agg [a0,bf]) 1=some bf:=ad
theorem EM:h3 P 35=some false:=ad
theorem Xx:fs P 35=some 1:=ad
theorem akr(l i n:Nat)(cap:Option Nat)(k:Int):dS P 35 (.aN l i n 1 cap) (.int .i64 k)=if 1=1/\0<=k/\k<n then some (.ptr l (i+k.toNat) 0) else none:=ad
theorem Mm{l i n:Nat}{cap:Option Nat}{k:Int}(aY:0<=k)(U:k<n):dS P 35 (.aN l i n 1 cap) (.int .i64 k)=some (.ptr l (i+k.toNat) 0):=by rw[akr,if_pos ⟨rfl,aY,U⟩]
theorem W8{H:J}{l i n e:Nat}{cap:Option Nat}:dF P H .len [35] [.aN l i n e cap]=some (.int .i64 n):=ad
theorem V6{H:J}:dF P H .len [35] [.ap]=some (.int .i64 0):=ad
theorem Xj:h3 P 41=some true:=ad
theorem Mv:fs P 41=some 3:=ad
theorem TR(l i c:Nat):aE P 41 (.ptr l i c) 0=some (.ptr l i (c+0)):=ad
theorem Us(a0 bf a2:I):d8 P 41 (.agg [a0,bf,a2]) 0=some a0:=ad
theorem TS(l i c:Nat):aE P 41 (.ptr l i c) 1=some (.ptr l i (c+1)):=ad
theorem Ut(a0 bf a2:I):d8 P 41 (.agg [a0,bf,a2]) 1=some bf:=ad
theorem TT(l i c:Nat):aE P 41 (.ptr l i c) 2=some (.ptr l i (c+2)):=ad
theorem Uu(a0 bf a2:I):d8 P 41 (.agg [a0,bf,a2]) 2=some a2:=ad
theorem Xk:h3 P 43=some true:=ad
theorem Xy:fs P 43=some 2:=ad
theorem TU(l i c:Nat):aE P 43 (.ptr l i c) 0=some (.ptr l i (c+0)):=ad
theorem Uv(a0 bf:I):d8 P 43 (.agg [a0,bf]) 0=some a0:=ad
theorem TV(l i c:Nat):aE P 43 (.ptr l i c) 1=some (.ptr l i (c+1)):=ad
theorem Uw(a0 bf:I):d8 P 43 (.agg [a0,bf]) 1=some bf:=ad
theorem Mt:h3 P 44=some false:=ad
theorem CJ:fs P 44=some 1:=ad
theorem aks(l i n:Nat)(cap:Option Nat)(k:Int):dS P 44 (.aN l i n 9 cap) (.int .i64 k)=if 9=9/\0<=k/\k<n then some (.ptr l (i+k.toNat) 0) else none:=ad
theorem W5{l i n:Nat}{cap:Option Nat}{k:Int}(aY:0<=k)(U:k<n):dS P 44 (.aN l i n 9 cap) (.int .i64 k)=some (.ptr l (i+k.toNat) 0):=by rw[aks,if_pos ⟨rfl,aY,U⟩]
theorem HJ{H:J}{l i n e:Nat}{cap:Option Nat}:dF P H .len [44] [.aN l i n e cap]=some (.int .i64 n):=ad
theorem LS{H:J}:dF P H .len [44] [.ap]=some (.int .i64 0):=ad
theorem Xl:h3 P 46=some true:=ad
theorem Mw:fs P 46=some 7:=ad
theorem TW(l i c:Nat):aE P 46 (.ptr l i c) 0=some (.ptr l i (c+0)):=ad
theorem Ux(a0 bf a2 a3 a4 a5 fl:I):d8 P 46 (.agg [a0,bf,a2,a3,a4,a5,fl]) 0=some a0:=ad
theorem TX(l i c:Nat):aE P 46 (.ptr l i c) 1=some (.ptr l i (c+1)):=ad
theorem Uy(a0 bf a2 a3 a4 a5 fl:I):d8 P 46 (.agg [a0,bf,a2,a3,a4,a5,fl]) 1=some bf:=ad
theorem TY(l i c:Nat):aE P 46 (.ptr l i c) 2=some (.ptr l i (c+2)):=ad
theorem Uz(a0 bf a2 a3 a4 a5 fl:I):d8 P 46 (.agg [a0,bf,a2,a3,a4,a5,fl]) 2=some a2:=ad
theorem TZ(l i c:Nat):aE P 46 (.ptr l i c) 3=some (.ptr l i (c+3)):=ad
theorem UA(a0 bf a2 a3 a4 a5 fl:I):d8 P 46 (.agg [a0,bf,a2,a3,a4,a5,fl]) 3=some (.agg [a3,a4]):=ad
theorem T0(l i c:Nat):aE P 46 (.ptr l i c) 4=some (.ptr l i (c+5)):=ad
theorem UB(a0 bf a2 a3 a4 a5 fl:I):d8 P 46 (.agg [a0,bf,a2,a3,a4,a5,fl]) 4=some a5:=ad
theorem T3(l i c:Nat):aE P 46 (.ptr l i c) 5=some (.ptr l i (c+6)):=ad
theorem UC(a0 bf a2 a3 a4 a5 fl:I):d8 P 46 (.agg [a0,bf,a2,a3,a4,a5,fl]) 5=some fl:=ad
theorem EN:h3 P 48=some false:=ad
theorem Xz:fs P 48=some 1:=ad
theorem akt(l i n:Nat)(cap:Option Nat)(k:Int):dS P 48 (.aN l i n 1 cap) (.int .i64 k)=if 1=1/\0<=k/\k<n then some (.ptr l (i+k.toNat) 0) else none:=ad
theorem Mn{l i n:Nat}{cap:Option Nat}{k:Int}(aY:0<=k)(U:k<n):dS P 48 (.aN l i n 1 cap) (.int .i64 k)=some (.ptr l (i+k.toNat) 0):=by rw[akt,if_pos ⟨rfl,aY,U⟩]
theorem W9{H:J}{l i n e:Nat}{cap:Option Nat}:dF P H .len [48] [.aN l i n e cap]=some (.int .i64 n):=ad
theorem V7{H:J}:dF P H .len [48] [.ap]=some (.int .i64 0):=ad
theorem Xm:h3 P 50=some false:=ad
theorem XA:fs P 50=some 1:=ad
theorem aku(l i n:Nat)(cap:Option Nat)(k:Int):dS P 50 (.aN l i n 4 cap) (.int .i64 k)=if 4=4/\0<=k/\k<n then some (.ptr l (i+k.toNat) 0) else none:=ad
theorem Ey{l i n:Nat}{cap:Option Nat}{k:Int}(aY:0<=k)(U:k<n):dS P 50 (.aN l i n 4 cap) (.int .i64 k)=some (.ptr l (i+k.toNat) 0):=by rw[aku,if_pos ⟨rfl,aY,U⟩]
theorem xT{H:J}{l i n e:Nat}{cap:Option Nat}:dF P H .len [50] [.aN l i n e cap]=some (.int .i64 n):=ad
theorem Eh{H:J}:dF P H .len [50] [.ap]=some (.int .i64 0):=ad
theorem Xn:h3 P 55=some true:=ad
theorem XB:fs P 55=some 7:=ad
theorem T4(l i c:Nat):aE P 55 (.ptr l i c) 0=some (.ptr l i (c+0)):=ad
theorem UD(a0 bf a2 a3 a4 a5 fl:I):d8 P 55 (.agg [a0,bf,a2,a3,a4,a5,fl]) 0=some a0:=ad
theorem T5(l i c:Nat):aE P 55 (.ptr l i c) 1=some (.ptr l i (c+1)):=ad
theorem UE(a0 bf a2 a3 a4 a5 fl:I):d8 P 55 (.agg [a0,bf,a2,a3,a4,a5,fl]) 1=some bf:=ad
theorem T6(l i c:Nat):aE P 55 (.ptr l i c) 2=some (.ptr l i (c+2)):=ad
theorem UF(a0 bf a2 a3 a4 a5 fl:I):d8 P 55 (.agg [a0,bf,a2,a3,a4,a5,fl]) 2=some (.agg [a2,a3,a4]):=ad
theorem T7(l i c:Nat):aE P 55 (.ptr l i c) 3=some (.ptr l i (c+5)):=ad
theorem UG(a0 bf a2 a3 a4 a5 fl:I):d8 P 55 (.agg [a0,bf,a2,a3,a4,a5,fl]) 3=some (.agg [a5,fl]):=ad
theorem Xo:h3 P 57=some true:=ad
theorem HW:fs P 57=some 4:=ad
theorem D2(l i c:Nat):aE P 57 (.ptr l i c) 0=some (.ptr l i (c+0)):=ad
theorem UH(a0 bf a2 a3:I):d8 P 57 (.agg [a0,bf,a2,a3]) 0=some a0:=ad
theorem D3(l i c:Nat):aE P 57 (.ptr l i c) 1=some (.ptr l i (c+1)):=ad
theorem UI(a0 bf a2 a3:I):d8 P 57 (.agg [a0,bf,a2,a3]) 1=some bf:=ad
theorem T8(l i c:Nat):aE P 57 (.ptr l i c) 2=some (.ptr l i (c+2)):=ad
theorem UJ(a0 bf a2 a3:I):d8 P 57 (.agg [a0,bf,a2,a3]) 2=some a2:=ad
theorem T9(l i c:Nat):aE P 57 (.ptr l i c) 3=some (.ptr l i (c+3)):=ad
theorem Ld(a0 bf a2 a3:I):d8 P 57 (.agg [a0,bf,a2,a3]) 3=some a3:=ad
theorem BO(l i c:Nat):aE P 63 (.ptr l i c) 0=some (.ptr l i (c+0)):=ad
theorem UK(a0 bf a2 a3 a4:I):d8 P 63 (.agg [a0,bf,a2,a3,a4]) 0=some a0:=ad
theorem BP(l i c:Nat):aE P 63 (.ptr l i c) 1=some (.ptr l i (c+1)):=ad
theorem UL(a0 bf a2 a3 a4:I):d8 P 63 (.agg [a0,bf,a2,a3,a4]) 1=some bf:=ad
theorem T_(l i c:Nat):aE P 63 (.ptr l i c) 2=some (.ptr l i (c+2)):=ad
theorem UM(a0 bf a2 a3 a4:I):d8 P 63 (.agg [a0,bf,a2,a3,a4]) 2=some a2:=ad
theorem Ua(l i c:Nat):aE P 63 (.ptr l i c) 3=some (.ptr l i (c+3)):=ad
theorem UN(a0 bf a2 a3 a4:I):d8 P 63 (.agg [a0,bf,a2,a3,a4]) 3=some (.agg [a3,a4]):=ad
theorem Xp:h3 P 66=some true:=ad
theorem Mx:fs P 66=some 4:=ad
theorem Ub(l i c:Nat):aE P 66 (.ptr l i c) 0=some (.ptr l i (c+0)):=ad
theorem UO(a0 bf a2 a3:I):d8 P 66 (.agg [a0,bf,a2,a3]) 0=some a0:=ad
theorem Uc(l i c:Nat):aE P 66 (.ptr l i c) 1=some (.ptr l i (c+1)):=ad
theorem UP(a0 bf a2 a3:I):d8 P 66 (.agg [a0,bf,a2,a3]) 1=some (.agg [bf,a2]):=ad
theorem Ud(l i c:Nat):aE P 66 (.ptr l i c) 2=some (.ptr l i (c+3)):=ad
theorem UQ(a0 bf a2 a3:I):d8 P 66 (.agg [a0,bf,a2,a3]) 2=some a3:=ad
theorem Xq:h3 P 96=some false:=ad
theorem XC:fs P 96=some 1:=ad
theorem akv(l i n:Nat)(cap:Option Nat)(k:Int):dS P 96 (.aN l i n 11 cap) (.int .i64 k)=if 11=11/\0<=k/\k<n then some (.ptr l (i+k.toNat) 0) else none:=ad
theorem W6{l i n:Nat}{cap:Option Nat}{k:Int}(aY:0<=k)(U:k<n):dS P 96 (.aN l i n 11 cap) (.int .i64 k)=some (.ptr l (i+k.toNat) 0):=by rw[akv,if_pos ⟨rfl,aY,U⟩]
theorem HK{H:J}{l i n e:Nat}{cap:Option Nat}:dF P H .len [96] [.aN l i n e cap]=some (.int .i64 n):=ad
theorem LU{H:J}:dF P H .len [96] [.ap]=some (.int .i64 0):=ad
theorem Mu:h3 P 98=some true:=ad
theorem CK:fs P 98=some 9:=ad
theorem Ue(l i c:Nat):aE P 98 (.ptr l i c) 0=some (.ptr l i (c+0)):=ad
theorem UR(a0 bf a2 a3 a4 a5 fl h0 ic:I):d8 P 98 (.agg [a0,bf,a2,a3,a4,a5,fl,h0,ic]) 0=some a0:=ad
theorem Uf(l i c:Nat):aE P 98 (.ptr l i c) 1=some (.ptr l i (c+1)):=ad
theorem US(a0 bf a2 a3 a4 a5 fl h0 ic:I):d8 P 98 (.agg [a0,bf,a2,a3,a4,a5,fl,h0,ic]) 1=some bf:=ad
theorem Ug(l i c:Nat):aE P 98 (.ptr l i c) 2=some (.ptr l i (c+2)):=ad
theorem UT(a0 bf a2 a3 a4 a5 fl h0 ic:I):d8 P 98 (.agg [a0,bf,a2,a3,a4,a5,fl,h0,ic]) 2=some (.agg [a2,a3]):=ad
theorem Uh(l i c:Nat):aE P 98 (.ptr l i c) 3=some (.ptr l i (c+4)):=ad
theorem UU(a0 bf a2 a3 a4 a5 fl h0 ic:I):d8 P 98 (.agg [a0,bf,a2,a3,a4,a5,fl,h0,ic]) 3=some a4:=ad
theorem Ui(l i c:Nat):aE P 98 (.ptr l i c) 4=some (.ptr l i (c+5)):=ad
theorem UV(a0 bf a2 a3 a4 a5 fl h0 ic:I):d8 P 98 (.agg [a0,bf,a2,a3,a4,a5,fl,h0,ic]) 4=some a5:=ad
theorem Uj(l i c:Nat):aE P 98 (.ptr l i c) 5=some (.ptr l i (c+6)):=ad
theorem UW(a0 bf a2 a3 a4 a5 fl h0 ic:I):d8 P 98 (.agg [a0,bf,a2,a3,a4,a5,fl,h0,ic]) 5=some fl:=ad
theorem Uk(l i c:Nat):aE P 98 (.ptr l i c) 6=some (.ptr l i (c+7)):=ad
theorem UX(a0 bf a2 a3 a4 a5 fl h0 ic:I):d8 P 98 (.agg [a0,bf,a2,a3,a4,a5,fl,h0,ic]) 6=some h0:=ad
theorem Ul(l i c:Nat):aE P 98 (.ptr l i c) 7=some (.ptr l i (c+8)):=ad
theorem UY(a0 bf a2 a3 a4 a5 fl h0 ic:I):d8 P 98 (.agg [a0,bf,a2,a3,a4,a5,fl,h0,ic]) 7=some ic:=ad
theorem We:h3 P 101=some true:=ad
theorem Wm:fs P 101=some 3:=ad
theorem Su(l i c:Nat):aE P 101 (.ptr l i c) 0=some (.ptr l i (c+0)):=ad
theorem SM(a0 bf a2:I):d8 P 101 (.agg [a0,bf,a2]) 0=some a0:=ad
theorem Sv(l i c:Nat):aE P 101 (.ptr l i c) 1=some (.ptr l i (c+1)):=ad
theorem SN(a0 bf a2:I):d8 P 101 (.agg [a0,bf,a2]) 1=some bf:=ad
theorem Sw(l i c:Nat):aE P 101 (.ptr l i c) 2=some (.ptr l i (c+2)):=ad
theorem SO(a0 bf a2:I):d8 P 101 (.agg [a0,bf,a2]) 2=some a2:=ad
theorem Wf:h3 P 103=some true:=ad
theorem Hu:fs P 103=some 11:=ad
theorem Sx(l i c:Nat):aE P 103 (.ptr l i c) 0=some (.ptr l i (c+0)):=ad
theorem SP(a0 bf a2 a3 a4 a5 fl h0 ic a9 oz:I):d8 P 103 (.agg [a0,bf,a2,a3,a4,a5,fl,h0,ic,a9,oz]) 0=some a0:=ad
theorem Sy(l i c:Nat):aE P 103 (.ptr l i c) 1=some (.ptr l i (c+1)):=ad
theorem SQ(a0 bf a2 a3 a4 a5 fl h0 ic a9 oz:I):d8 P 103 (.agg [a0,bf,a2,a3,a4,a5,fl,h0,ic,a9,oz]) 1=some bf:=ad
theorem Sz(l i c:Nat):aE P 103 (.ptr l i c) 2=some (.ptr l i (c+2)):=ad
theorem SR(a0 bf a2 a3 a4 a5 fl h0 ic a9 oz:I):d8 P 103 (.agg [a0,bf,a2,a3,a4,a5,fl,h0,ic,a9,oz]) 2=some a2:=ad
theorem SA(l i c:Nat):aE P 103 (.ptr l i c) 3=some (.ptr l i (c+3)):=ad
theorem SS(a0 bf a2 a3 a4 a5 fl h0 ic a9 oz:I):d8 P 103 (.agg [a0,bf,a2,a3,a4,a5,fl,h0,ic,a9,oz]) 3=some (.agg [a3,a4]):=ad
theorem SB(l i c:Nat):aE P 103 (.ptr l i c) 4=some (.ptr l i (c+5)):=ad
theorem SU(a0 bf a2 a3 a4 a5 fl h0 ic a9 oz:I):d8 P 103 (.agg [a0,bf,a2,a3,a4,a5,fl,h0,ic,a9,oz]) 4=some a5:=ad
theorem SC(l i c:Nat):aE P 103 (.ptr l i c) 5=some (.ptr l i (c+6)):=ad
theorem SV(a0 bf a2 a3 a4 a5 fl h0 ic a9 oz:I):d8 P 103 (.agg [a0,bf,a2,a3,a4,a5,fl,h0,ic,a9,oz]) 5=some fl:=ad
theorem SD(l i c:Nat):aE P 103 (.ptr l i c) 6=some (.ptr l i (c+7)):=ad
theorem SW(a0 bf a2 a3 a4 a5 fl h0 ic a9 oz:I):d8 P 103 (.agg [a0,bf,a2,a3,a4,a5,fl,h0,ic,a9,oz]) 6=some (.agg [h0,ic,a9]):=ad
theorem SE(l i c:Nat):aE P 103 (.ptr l i c) 7=some (.ptr l i (c+10)):=ad
theorem SX(a0 bf a2 a3 a4 a5 fl h0 ic a9 oz:I):d8 P 103 (.agg [a0,bf,a2,a3,a4,a5,fl,h0,ic,a9,oz]) 7=some oz:=ad
theorem SF(l i c:Nat):aE P 112 (.ptr l i c) 0=some (.ptr l i (c+0)):=ad
theorem SY(a0 bf a2 a3 a4:I):d8 P 112 (.agg [a0,bf,a2,a3,a4]) 0=some a0:=ad
theorem SG(l i c:Nat):aE P 112 (.ptr l i c) 1=some (.ptr l i (c+1)):=ad
theorem SZ(a0 bf a2 a3 a4:I):d8 P 112 (.agg [a0,bf,a2,a3,a4]) 1=some bf:=ad
theorem SH(l i c:Nat):aE P 112 (.ptr l i c) 2=some (.ptr l i (c+2)):=ad
theorem S0(a0 bf a2 a3 a4:I):d8 P 112 (.agg [a0,bf,a2,a3,a4]) 2=some a2:=ad
theorem SI(l i c:Nat):aE P 112 (.ptr l i c) 3=some (.ptr l i (c+3)):=ad
theorem S1(a0 bf a2 a3 a4:I):d8 P 112 (.agg [a0,bf,a2,a3,a4]) 3=some (.agg [a3,a4]):=ad
theorem Wg:h3 P 131=some false:=ad
theorem Wn:fs P 131=some 1:=ad
theorem ahv(l i n:Nat)(cap:Option Nat)(k:Int):dS P 131 (.aN l i n 1 cap) (.int .i64 k)=if 1=1/\0<=k/\k<n then some (.ptr l (i+k.toNat) 0) else none:=ad
theorem V0{l i n:Nat}{cap:Option Nat}{k:Int}(aY:0<=k)(U:k<n):dS P 131 (.aN l i n 1 cap) (.int .i64 k)=some (.ptr l (i+k.toNat) 0):=by rw[ahv,if_pos ⟨rfl,aY,U⟩]
theorem LR{H:J}{l i n e:Nat}{cap:Option Nat}:dF P H .len [131] [.aN l i n e cap]=some (.int .i64 n):=ad
theorem U6{H:J}:dF P H .len [131] [.ap]=some (.int .i64 0):=ad
theorem Wh:h3 P 133=some true:=ad
theorem Wo:fs P 133=some 6:=ad
theorem BH(l i c:Nat):aE P 133 (.ptr l i c) 0=some (.ptr l i (c+0)):=ad
theorem S2(a0 bf a2 a3 a4 a5:I):d8 P 133 (.agg [a0,bf,a2,a3,a4,a5]) 0=some a0:=ad
theorem wT(l i c:Nat):aE P 133 (.ptr l i c) 1=some (.ptr l i (c+1)):=ad
theorem S3(a0 bf a2 a3 a4 a5:I):d8 P 133 (.agg [a0,bf,a2,a3,a4,a5]) 1=some bf:=ad
theorem DP(l i c:Nat):aE P 133 (.ptr l i c) 2=some (.ptr l i (c+2)):=ad
theorem S4(a0 bf a2 a3 a4 a5:I):d8 P 133 (.agg [a0,bf,a2,a3,a4,a5]) 2=some a2:=ad
theorem SJ(l i c:Nat):aE P 133 (.ptr l i c) 3=some (.ptr l i (c+3)):=ad
theorem S5(a0 bf a2 a3 a4 a5:I):d8 P 133 (.agg [a0,bf,a2,a3,a4,a5]) 3=some a3:=ad
theorem GK(l i c:Nat):aE P 133 (.ptr l i c) 4=some (.ptr l i (c+4)):=ad
theorem S6(a0 bf a2 a3 a4 a5:I):d8 P 133 (.agg [a0,bf,a2,a3,a4,a5]) 4=some (.agg [a4,a5]):=ad
theorem Wi:h3 P 163=some false:=ad
theorem Wp:fs P 163=some 1:=ad
theorem ahw(l i n:Nat)(cap:Option Nat)(k:Int):dS P 163 (.aN l i n 1 cap) (.int .i64 k)=if 1=1/\0<=k/\k<n then some (.ptr l (i+k.toNat) 0) else none:=ad
theorem LK{l i n:Nat}{cap:Option Nat}{k:Int}(aY:0<=k)(U:k<n):dS P 163 (.aN l i n 1 cap) (.int .i64 k)=some (.ptr l (i+k.toNat) 0):=by rw[ahw,if_pos ⟨rfl,aY,U⟩]
theorem V3{H:J}{l i n e:Nat}{cap:Option Nat}:dF P H .len [163] [.aN l i n e cap]=some (.int .i64 n):=ad
theorem U7{H:J}:dF P H .len [163] [.ap]=some (.int .i64 0):=ad
theorem Wj:h3 P 164=some false:=ad
theorem Wq:fs P 164=some 1:=ad
theorem ahx(l i n:Nat)(cap:Option Nat)(k:Int):dS P 164 (.aN l i n 1 cap) (.int .i64 k)=if 1=1/\0<=k/\k<n then some (.ptr l (i+k.toNat) 0) else none:=ad
theorem LL{l i n:Nat}{cap:Option Nat}{k:Int}(aY:0<=k)(U:k<n):dS P 164 (.aN l i n 1 cap) (.int .i64 k)=some (.ptr l (i+k.toNat) 0):=by rw[ahx,if_pos ⟨rfl,aY,U⟩]
theorem V4{H:J}{l i n e:Nat}{cap:Option Nat}:dF P H .len [164] [.aN l i n e cap]=some (.int .i64 n):=ad
theorem U8{H:J}:dF P H .len [164] [.ap]=some (.int .i64 0):=ad
theorem Wk:h3 P 199=some true:=ad
theorem Wr:fs P 199=some 2:=ad
theorem SK(l i c:Nat):aE P 199 (.ptr l i c) 0=some (.ptr l i (c+0)):=ad
theorem S7(a0 bf:I):d8 P 199 (.agg [a0,bf]) 0=some a0:=ad
theorem SL(l i c:Nat):aE P 199 (.ptr l i c) 1=some (.ptr l i (c+1)):=ad
theorem S8(a0 bf:I):d8 P 199 (.agg [a0,bf]) 1=some bf:=ad
theorem Wl:h3 P 200=some false:=ad
theorem Ws:fs P 200=some 1:=ad
theorem ahy(l i n:Nat)(cap:Option Nat)(k:Int):dS P 200 (.aN l i n 2 cap) (.int .i64 k)=if 2=2/\0<=k/\k<n then some (.ptr l (i+k.toNat) 0) else none:=ad
theorem LM{l i n:Nat}{cap:Option Nat}{k:Int}(aY:0<=k)(U:k<n):dS P 200 (.aN l i n 2 cap) (.int .i64 k)=some (.ptr l (i+k.toNat) 0):=by rw[ahy,if_pos ⟨rfl,aY,U⟩]
theorem V5{H:J}{l i n e:Nat}{cap:Option Nat}:dF P H .len [200] [.aN l i n e cap]=some (.int .i64 n):=ad
theorem U9{H:J}:dF P H .len [200] [.ap]=some (.int .i64 0):=ad
theorem Rg:cO P 26 [(0,I.ap)]=some (.agg [I.ap,I.ap,I.ap]):=ad
theorem Rh(lQ:Nat)(lP:Nat)(lR:Nat)(lO:Nat)(lN:Option Nat):cO P 26 [(0,(.aN lQ lP lR lO lN))]=some (.agg [(.aN lQ lP lR lO lN),I.ap,I.ap]):=ad
theorem Ri:cO P 26 [(1,I.ap)]=some (.agg [I.ap,I.ap,I.ap]):=ad
theorem Rj(XP:Nat)(XO:Nat)(XQ:Nat)(XN:Nat)(XM:Option Nat):cO P 26 [(1,(.aN XP XO XQ XN XM))]=some (.agg [I.ap,(.aN XP XO XQ XN XM),I.ap]):=ad
theorem Rk:cO P 26 [(2,I.ap)]=some (.agg [I.ap,I.ap,I.ap]):=ad
theorem Rl(XU:Nat)(XT:Nat)(XV:Nat)(XS:Nat)(XR:Option Nat):cO P 26 [(2,(.aN XU XT XV XS XR))]=some (.agg [I.ap,I.ap,(.aN XU XT XV XS XR)]):=ad
theorem Ku(a0:Int)(bf:Int):cO P 29 [(0,(.int .i64 a0)),(1,(.int .i64 bf))]=some (.agg [(.int .i64 a0),(.int .i64 bf)]):=ad
theorem Rp:cO P 55 [(0,I.ap)]=some (.agg [I.ap,(.int .i64 0),I.ap,I.ap,I.ap,(.int .i64 0),(.int .i64 0)]):=ad
theorem Rq(lQ:Nat)(lP:Nat)(lR:Nat)(lO:Nat)(lN:Option Nat):cO P 55 [(0,(.aN lQ lP lR lO lN))]=some (.agg [(.aN lQ lP lR lO lN),(.int .i64 0),I.ap,I.ap,I.ap,(.int .i64 0),(.int .i64 0)]):=ad
theorem Ru:cO P 63 [(0,I.ap)]=some (.agg [I.ap,(.int .i64 0),(.int .i64 0),(.int .i64 0),(.int .i64 0)]):=ad
theorem Rv(lQ:Nat)(lP:Nat)(lR:Nat)(lO:Nat)(lN:Option Nat):cO P 63 [(0,(.aN lQ lP lR lO lN))]=some (.agg [(.aN lQ lP lR lO lN),(.int .i64 0),(.int .i64 0),(.int .i64 0),(.int .i64 0)]):=ad
theorem TD(a0:Int):cO P 29 [(0,(.int .i64 a0))]=some (.agg [(.int .i64 a0),(.int .i64 0)]):=ad
theorem Rt(a0:Int)(a3:Int):cO P 57 [(0,(.int .i64 a0)),(3,(.int .i64 a3))]=some (.agg [(.int .i64 a0),(.str []),(.int .i64 0),(.int .i64 a3)]):=ad
theorem Rm(a0:List UInt8)(a2:Int):cO P 41 [(0,(.str a0)),(2,(.int .i64 a2))]=some (.agg [(.str a0),I.ap,(.int .i64 a2)]):=ad
theorem Ro(a0:List UInt8)(a5:Int):cO P 46 [(0,(.str a0)),(5,(.int .i64 a5))]=some (.agg [(.str a0),I.ap,(.bool false),(.str []),(.int .i64 0),I.ap,(.int .i64 a5)]):=ad
theorem TI(a0:Int):cO P 57 [(0,(.int .i64 a0))]=some (.agg [(.int .i64 a0),(.str []),(.int .i64 0),(.int .i64 0)]):=ad
theorem TE(a2:Int):cO P 41 [(2,(.int .i64 a2))]=some (.agg [(.str []),I.ap,(.int .i64 a2)]):=ad
theorem TJ(a2:Int):cO P 66 [(2,(.int .i64 a2))]=some (.agg [(.str []),(.str []),(.int .i64 0),(.int .i64 a2)]):=ad
theorem TH(a5:Int):cO P 46 [(5,(.int .i64 a5))]=some (.agg [(.str []),I.ap,(.bool false),(.str []),(.int .i64 0),I.ap,(.int .i64 a5)]):=ad
theorem Rr(a0:Int)(bf:List UInt8):cO P 57 [(0,(.int .i64 a0)),(1,(.str bf))]=some (.agg [(.int .i64 a0),(.str bf),(.int .i64 0),(.int .i64 0)]):=ad
theorem PF(a0:List UInt8)(WC:List UInt8)(WD:Int)(a2:Int):cO P 66 [(0,(.str a0)),(1,(.agg [(.str WC),(.int .i64 WD)])),(2,(.int .i64 a2))]=some (.agg [(.str a0),(.str WC),(.int .i64 WD),(.int .i64 a2)]):=ad
theorem OB(bf:Int)(a2:Int):cO P 112 [(0,I.ap),(1,(.int .i64 bf)),(2,(.int .i64 a2))]=some (.agg [I.ap,(.int .i64 bf),(.int .i64 a2),(.int .i64 0),(.int .i64 0)]):=ad
theorem OC(lQ:Nat)(lP:Nat)(lR:Nat)(lO:Nat)(lN:Option Nat)(bf:Int)(a2:Int):cO P 112 [(0,(.aN lQ lP lR lO lN)),(1,(.int .i64 bf)),(2,(.int .i64 a2))]=some (.agg [(.aN lQ lP lR lO lN),(.int .i64 bf),(.int .i64 a2),(.int .i64 0),(.int .i64 0)]):=ad
theorem PD(a0:Int)(bf:List UInt8)(a3:Int):cO P 57 [(0,(.int .i64 a0)),(1,(.str bf)),(3,(.int .i64 a3))]=some (.agg [(.int .i64 a0),(.str bf),(.int .i64 0),(.int .i64 a3)]):=ad
theorem PE(a0:Int)(a2:Int)(a3:Int):cO P 57 [(0,(.int .i64 a0)),(2,(.int .i64 a2)),(3,(.int .i64 a3))]=some (.agg [(.int .i64 a0),(.str []),(.int .i64 a2),(.int .i64 a3)]):=ad
theorem TG(bf:Int):cO P 43 [(1,(.int .i64 bf))]=some (.agg [(.str []),(.int .i64 bf)]):=ad
theorem Rs(a0:Int)(a2:Int):cO P 57 [(0,(.int .i64 a0)),(2,(.int .i64 a2))]=some (.agg [(.int .i64 a0),(.str []),(.int .i64 a2),(.int .i64 0)]):=ad
theorem O4(bf:Int):cO P 133 [(0,I.ap),(1,(.int .i64 bf))]=some (.agg [I.ap,(.int .i64 bf),(.int .i64 0),I.ap,(.int .i64 0),(.int .i64 0)]):=ad
theorem O5(lQ:Nat)(lP:Nat)(lR:Nat)(lO:Nat)(lN:Option Nat)(bf:Int):cO P 133 [(0,(.aN lQ lP lR lO lN)),(1,(.int .i64 bf))]=some (.agg [(.aN lQ lP lR lO lN),(.int .i64 bf),(.int .i64 0),I.ap,(.int .i64 0),(.int .i64 0)]):=ad
theorem TL(fl:Int):cO P 98 [(6,(.int .i64 fl))]=some (.agg [(.int .i64 0),(.str []),(.str []),(.int .i64 0),I.ap,I.ap,I.ap,(.int .i64 fl),(.int .i64 0)]):=ad
theorem Rn(a0:List UInt8)(bf:Int):cO P 43 [(0,(.str a0)),(1,(.int .i64 bf))]=some (.agg [(.str a0),(.int .i64 bf)]):=ad
theorem Oz(a0:Int)(a5:Int):cO P 103 [(0,(.int .i64 a0)),(4,I.ap),(5,(.int .i64 a5))]=some (.agg [(.int .i64 a0),(.int .i64 0),(.str []),(.str []),(.int .i64 0),I.ap,(.int .i64 a5),(.int .i64 0),(.int .i64 0),(.int .i64 0),(.int .i64 0)]):=ad
theorem OA(a0:Int)(p4:Nat)(p3:Nat)(p5:Nat)(p2:Nat)(p1:Option Nat)(a5:Int):cO P 103 [(0,(.int .i64 a0)),(4,(.aN p4 p3 p5 p2 p1)),(5,(.int .i64 a5))]=some (.agg [(.int .i64 a0),(.int .i64 0),(.str []),(.str []),(.int .i64 0),(.aN p4 p3 p5 p2 p1),(.int .i64 a5),(.int .i64 0),(.int .i64 0),(.int .i64 0),(.int .i64 0)]):=ad
theorem PH(a0:Int):cO P 98 [(0,(.int .i64 a0)),(3,I.ap)]=some (.agg [(.int .i64 a0),(.str []),(.str []),(.int .i64 0),I.ap,I.ap,I.ap,(.int .i64 0),(.int .i64 0)]):=ad
theorem PI(a0:Int)(lV:Nat)(lU:Nat)(lW:Nat)(lT:Nat)(lS:Option Nat):cO P 98 [(0,(.int .i64 a0)),(3,(.aN lV lU lW lT lS))]=some (.agg [(.int .i64 a0),(.str []),(.str []),(.int .i64 0),(.aN lV lU lW lT lS),I.ap,I.ap,(.int .i64 0),(.int .i64 0)]):=ad
theorem OK(a0:Int)(bf:List UInt8):cO P 98 [(0,(.int .i64 a0)),(1,(.str bf)),(3,I.ap)]=some (.agg [(.int .i64 a0),(.str bf),(.str []),(.int .i64 0),I.ap,I.ap,I.ap,(.int .i64 0),(.int .i64 0)]):=ad
theorem OL(a0:Int)(bf:List UInt8)(lV:Nat)(lU:Nat)(lW:Nat)(lT:Nat)(lS:Option Nat):cO P 98 [(0,(.int .i64 a0)),(1,(.str bf)),(3,(.aN lV lU lW lT lS))]=some (.agg [(.int .i64 a0),(.str bf),(.str []),(.int .i64 0),(.aN lV lU lW lT lS),I.ap,I.ap,(.int .i64 0),(.int .i64 0)]):=ad
theorem PG(a0:Int)(bf:List UInt8)(xJ:List UInt8)(xK:Int):cO P 98 [(0,(.int .i64 a0)),(1,(.str bf)),(2,(.agg [(.str xJ),(.int .i64 xK)]))]=some (.agg [(.int .i64 a0),(.str bf),(.str xJ),(.int .i64 xK),I.ap,I.ap,I.ap,(.int .i64 0),(.int .i64 0)]):=ad
theorem Oq(a0:Int)(bf:List UInt8)(xJ:List UInt8)(xK:Int):cO P 98 [(0,(.int .i64 a0)),(1,(.str bf)),(2,(.agg [(.str xJ),(.int .i64 xK)])),(3,I.ap)]=some (.agg [(.int .i64 a0),(.str bf),(.str xJ),(.int .i64 xK),I.ap,I.ap,I.ap,(.int .i64 0),(.int .i64 0)]):=ad
theorem Ot(a0:Int)(bf:List UInt8)(xJ:List UInt8)(xK:Int)(lV:Nat)(lU:Nat)(lW:Nat)(lT:Nat)(lS:Option Nat):cO P 98 [(0,(.int .i64 a0)),(1,(.str bf)),(2,(.agg [(.str xJ),(.int .i64 xK)])),(3,(.aN lV lU lW lT lS))]=some (.agg [(.int .i64 a0),(.str bf),(.str xJ),(.int .i64 xK),(.aN lV lU lW lT lS),I.ap,I.ap,(.int .i64 0),(.int .i64 0)]):=ad
theorem OM(a0:Int):cO P 98 [(0,(.int .i64 a0)),(3,I.ap),(4,I.ap)]=some (.agg [(.int .i64 a0),(.str []),(.str []),(.int .i64 0),I.ap,I.ap,I.ap,(.int .i64 0),(.int .i64 0)]):=ad
theorem ON(a0:Int)(p4:Nat)(p3:Nat)(p5:Nat)(p2:Nat)(p1:Option Nat):cO P 98 [(0,(.int .i64 a0)),(3,I.ap),(4,(.aN p4 p3 p5 p2 p1))]=some (.agg [(.int .i64 a0),(.str []),(.str []),(.int .i64 0),I.ap,(.aN p4 p3 p5 p2 p1),I.ap,(.int .i64 0),(.int .i64 0)]):=ad
theorem OO(a0:Int)(lV:Nat)(lU:Nat)(lW:Nat)(lT:Nat)(lS:Option Nat):cO P 98 [(0,(.int .i64 a0)),(3,(.aN lV lU lW lT lS)),(4,I.ap)]=some (.agg [(.int .i64 a0),(.str []),(.str []),(.int .i64 0),(.aN lV lU lW lT lS),I.ap,I.ap,(.int .i64 0),(.int .i64 0)]):=ad
theorem OP(a0:Int)(lV:Nat)(lU:Nat)(lW:Nat)(lT:Nat)(lS:Option Nat)(p4:Nat)(p3:Nat)(p5:Nat)(p2:Nat)(p1:Option Nat):cO P 98 [(0,(.int .i64 a0)),(3,(.aN lV lU lW lT lS)),(4,(.aN p4 p3 p5 p2 p1))]=some (.agg [(.int .i64 a0),(.str []),(.str []),(.int .i64 0),(.aN lV lU lW lT lS),(.aN p4 p3 p5 p2 p1),I.ap,(.int .i64 0),(.int .i64 0)]):=ad
theorem TK(a0:Int):cO P 98 [(0,(.int .i64 a0))]=some (.agg [(.int .i64 a0),(.str []),(.str []),(.int .i64 0),I.ap,I.ap,I.ap,(.int .i64 0),(.int .i64 0)]):=ad
theorem Oe(a0:Int)(a2:List UInt8)(a5:Int):cO P 103 [(0,(.int .i64 a0)),(2,(.str a2)),(4,I.ap),(5,(.int .i64 a5))]=some (.agg [(.int .i64 a0),(.int .i64 0),(.str a2),(.str []),(.int .i64 0),I.ap,(.int .i64 a5),(.int .i64 0),(.int .i64 0),(.int .i64 0),(.int .i64 0)]):=ad
theorem Of(a0:Int)(a2:List UInt8)(p4:Nat)(p3:Nat)(p5:Nat)(p2:Nat)(p1:Option Nat)(a5:Int):cO P 103 [(0,(.int .i64 a0)),(2,(.str a2)),(4,(.aN p4 p3 p5 p2 p1)),(5,(.int .i64 a5))]=some (.agg [(.int .i64 a0),(.int .i64 0),(.str a2),(.str []),(.int .i64 0),(.aN p4 p3 p5 p2 p1),(.int .i64 a5),(.int .i64 0),(.int .i64 0),(.int .i64 0),(.int .i64 0)]):=ad
theorem O1(a0:Int)(bf:Int)(a5:Int):cO P 103 [(0,(.int .i64 a0)),(1,(.int .i64 bf)),(5,(.int .i64 a5))]=some (.agg [(.int .i64 a0),(.int .i64 bf),(.str []),(.str []),(.int .i64 0),I.ap,(.int .i64 a5),(.int .i64 0),(.int .i64 0),(.int .i64 0),(.int .i64 0)]):=ad
theorem O3(a0:Int)(xL:List UInt8)(xM:Int)(a5:Int):cO P 103 [(0,(.int .i64 a0)),(3,(.agg [(.str xL),(.int .i64 xM)])),(5,(.int .i64 a5))]=some (.agg [(.int .i64 a0),(.int .i64 0),(.str []),(.str xL),(.int .i64 xM),I.ap,(.int .i64 a5),(.int .i64 0),(.int .i64 0),(.int .i64 0),(.int .i64 0)]):=ad
theorem Qp(a0:Int)(a5:Int):cO P 103 [(0,(.int .i64 a0)),(5,(.int .i64 a5))]=some (.agg [(.int .i64 a0),(.int .i64 0),(.str []),(.str []),(.int .i64 0),I.ap,(.int .i64 a5),(.int .i64 0),(.int .i64 0),(.int .i64 0),(.int .i64 0)]):=ad
theorem O2(a0:Int)(a2:List UInt8)(a5:Int):cO P 103 [(0,(.int .i64 a0)),(2,(.str a2)),(5,(.int .i64 a5))]=some (.agg [(.int .i64 a0),(.int .i64 0),(.str a2),(.str []),(.int .i64 0),I.ap,(.int .i64 a5),(.int .i64 0),(.int .i64 0),(.int .i64 0),(.int .i64 0)]):=ad
theorem Oi(bf:Int)(a2:Int):cO P 133 [(0,I.ap),(1,(.int .i64 bf)),(2,(.int .i64 a2)),(3,I.ap)]=some (.agg [I.ap,(.int .i64 bf),(.int .i64 a2),I.ap,(.int .i64 0),(.int .i64 0)]):=ad
theorem Oj(bf:Int)(a2:Int)(lV:Nat)(lU:Nat)(lW:Nat)(lT:Nat)(lS:Option Nat):cO P 133 [(0,I.ap),(1,(.int .i64 bf)),(2,(.int .i64 a2)),(3,(.aN lV lU lW lT lS))]=some (.agg [I.ap,(.int .i64 bf),(.int .i64 a2),(.aN lV lU lW lT lS),(.int .i64 0),(.int .i64 0)]):=ad
theorem Ok(lQ:Nat)(lP:Nat)(lR:Nat)(lO:Nat)(lN:Option Nat)(bf:Int)(a2:Int):cO P 133 [(0,(.aN lQ lP lR lO lN)),(1,(.int .i64 bf)),(2,(.int .i64 a2)),(3,I.ap)]=some (.agg [(.aN lQ lP lR lO lN),(.int .i64 bf),(.int .i64 a2),I.ap,(.int .i64 0),(.int .i64 0)]):=ad
theorem Ol(lQ:Nat)(lP:Nat)(lR:Nat)(lO:Nat)(lN:Option Nat)(bf:Int)(a2:Int)(lV:Nat)(lU:Nat)(lW:Nat)(lT:Nat)(lS:Option Nat):cO P 133 [(0,(.aN lQ lP lR lO lN)),(1,(.int .i64 bf)),(2,(.int .i64 a2)),(3,(.aN lV lU lW lT lS))]=some (.agg [(.aN lQ lP lR lO lN),(.int .i64 bf),(.int .i64 a2),(.aN lV lU lW lT lS),(.int .i64 0),(.int .i64 0)]):=ad
theorem TF(a0:List UInt8):cO P 43 [(0,(.str a0))]=some (.agg [(.str a0),(.int .i64 0)]):=ad
theorem Og(a0:Int)(xL:List UInt8)(xM:Int)(a5:Int):cO P 103 [(0,(.int .i64 a0)),(3,(.agg [(.str xL),(.int .i64 xM)])),(4,I.ap),(5,(.int .i64 a5))]=some (.agg [(.int .i64 a0),(.int .i64 0),(.str []),(.str xL),(.int .i64 xM),I.ap,(.int .i64 a5),(.int .i64 0),(.int .i64 0),(.int .i64 0),(.int .i64 0)]):=ad
theorem Oh(a0:Int)(xL:List UInt8)(xM:Int)(p4:Nat)(p3:Nat)(p5:Nat)(p2:Nat)(p1:Option Nat)(a5:Int):cO P 103 [(0,(.int .i64 a0)),(3,(.agg [(.str xL),(.int .i64 xM)])),(4,(.aN p4 p3 p5 p2 p1)),(5,(.int .i64 a5))]=some (.agg [(.int .i64 a0),(.int .i64 0),(.str []),(.str xL),(.int .i64 xM),(.aN p4 p3 p5 p2 p1),(.int .i64 a5),(.int .i64 0),(.int .i64 0),(.int .i64 0),(.int .i64 0)]):=ad
theorem Qq(a0:List UInt8)(bf:Int):cO P 199 [(0,(.str a0)),(1,(.int .i64 bf))]=some (.agg [(.str a0),(.int .i64 bf)]):=ad
end
end Go.Proofs.YtghmbpmaafnodaaGreatDoor
namespace Go.gd
open Go.ChangeShapes Go.WideShapes Go.ChangeAt Go.RowKit
def VA(E:Env)(P:Program)(f:Nat)(args:List Value)(W:World):Prop:=
 ∃(ρ:Env) (H:J) (MG:List I) (H':J),Rel ρ H W/\(∀l,¬H.rw l)/\(∀l,H.next<=l->ρ l=none)/\E.le ρ/\H.next<=H'.next/\dI ρ MG args/\wP E P f MG H (.bool true) H'
theorem ae_{E:Env}{P:Program}{f:Nat}{fn:Func}{c:Code}{args:List Value}{W:World}(po:zb P)(jr:P.funcs[f]? =some fn)(aS:fn.body=some c)(h:VA E P f args W):
  Calls P f args.toArray W λe b4=>e= .returned (.bool true)/\Below W.heap.size W b4:=by
 obtain⟨ρ,H,MG,H',U,aa,ae,pn,am,aB,aG⟩:=h;have jf: ∀b,¬pN ρ H b:=by rintro b ⟨l,loc,az,_⟩;exact aa l az
 have uI:=aG ρ W args U ⟨λl az _=>ae l az,pn⟩ aB am (λx b4=>x= .bool true/\Below W.heap.size W b4) (λx b4 cY ag aM=>by
  cases ag;exact⟨rfl,aM.os,aM.tape,aM.output,aM.size,λk ah=>aM.frame k ah (jf k)⟩)
 have zJ:(fn.name== "runtime.NumGoroutine")=false:=po.names fn (Array.mem_of_getElem? jr);have oy:(callFunc f args.toArray).run P W= .ok (.enter f args.toArray) W:=by
  unfold callFunc;simp[jr,aS];intro b0;simp[b0] at zJ
 unfold zT at uI;rw[oy] at uI;simp only at uI;refine uI.mono λe b4 a8=> ?_
 split at a8
 ·exact⟨by rw[a8.1],a8.2⟩
 ·exact a8.elim
theorem OJ{H:Type}{enc:TypeId×Value->H}{P:Program}{W FO:World}(az:laidOutB P=true)(ax:Below W.heap.size W FO): ∀{ts:List TypeId} {cl:List Value} {bU:List (DataW H)} {ew:List MemPlace},(∀t∈ts,P.readableRec t=true/\t<P.types.size)->
  DataW.TrodAll enc P W 0 (λ_=>true) true ts cl bU ew-> ∃Y2,DataW.TrodAll enc P FO 0 (λb=>decide (b<W.heap.size)) true ts cl bU Y2
 |[],cl,bU,ew,_,h=>by
  obtain⟨rfl,rfl,rfl⟩:=trodAll_nil h;exact⟨[],trodAll_mk0⟩
 |t::ts,cl,bU,ew,bz,h=>by
  obtain⟨v,FJ,d,aqm,p,q,rfl,rfl,rfl,U,aa⟩:=trodAll_cons h;obtain⟨Y2,ae⟩:=OJ az ax (λt aoA=>bz t (List.mem_cons_of_mem _ aoA)) aa;have et: ∀x∈p,x.block<W.heap.size:=by obtain⟨m,hm⟩:=U;exact DataW.trod_lt m _ _ _ hm
  exact⟨_,trodAll_cons_mk (Below.trod az (bz t (List.mem_cons_self ..)).1 (bz t (List.mem_cons_self ..)).2 U ax et) ae⟩
structure Seen(ρ:Env)(H:J)(W:World):Prop where
 rel:Rel ρ H W
 ro: ∀l,¬H.rw l
 top: ∀l,H.next<=l->ρ l=none
theorem Seen.empty(W:World):Seen (λ_=>none) J.empty W:=
 have jf: ∀l,¬J.empty.rw l:=λl az=>by
  rcases az with⟨e,s,h⟩|⟨es,h⟩<;>rw[J.Gk] at h<;>cases h
 ⟨adl W,jf,λ_ _=>rfl⟩
theorem Seen.BS{ρ:Env}{H:J}{W:World}(h:Seen ρ H W)(loc:Go.gd.Loc):ρ.le (ρ.iL H.next loc):=λl dz e=>by
 have:l≠H.next:=by rintro rfl;rw[h.top _ (bN _)] at e;cases e
 simp only[Env.iL,if_neg this];exact e
theorem mN.mono{ρ cY:Env}(hle:ρ.le cY){w:World}{loc:Go.gd.Loc}{ro:Bool}{esz:Nat}{els:List (List I)}(h:mN ρ w loc ro esz els):mN cY w loc ro esz els:=by
 obtain⟨U,c,t,ie,aa,ae,am⟩:=h;refine⟨U,c,t,ie,aa,ae,λi e he=>⟨(am i e he).1,λj v bA=> ?_⟩⟩;obtain⟨cD,x,cu,eH⟩:=(am i e he).2 j v bA;exact⟨cD,x,cu,eH.mono hle⟩
theorem Seen.push{ρ:Env}{H:J}{W:World}(h:Seen ρ H W){loc:Go.gd.Loc}{esz:Nat}{els:List (List I)}(a8:mN ρ W loc true esz els):Seen (ρ.iL H.next loc) (H.push (.row true esz els)) W:=by
 have hle:=h.BS loc;have j8: ∀l,¬(H.push (.row true esz els)).rw l:=by
  rintro l (⟨e,s,aZ⟩|⟨es,aZ⟩)
  ·rw[J.yP] at aZ;split at aZ
   ·cases aZ
   ·exact h.ro l (.inl ⟨e,s,aZ⟩)
  ·rw[J.yP] at aZ;split at aZ
   ·cases aZ
   ·exact h.ro l (.inr ⟨es,aZ⟩)
 refine⟨⟨λl ro e s aZ=> ?_,λl es aZ=> ?_,λl l' _ _ az=>absurd az (j8 l)⟩,j8,λl az=> ?_⟩
 ·rw[J.yP] at aZ;split at aZ
  ·rename_i az;cases aZ;exact⟨loc,by simp[Env.iL,az],a8.mono hle⟩
  ·obtain⟨dz,U,aa⟩:=h.rel.row l ro e s aZ;exact⟨dz,hle _ _ U,aa.mono hle⟩
 ·exact absurd (.inr ⟨es,aZ⟩) (j8 l)
 ·simp only[J.b2] at az;have:l≠H.next:=Z
  simp only[Env.iL,if_neg this];exact h.top l Z
end Go.gd
namespace Go.Proofs.YtghmbpmaafnodaaGreatDoor
open Go.gd
section
abbrev bl:=List UInt8
structure Tok where
 kind:Int
 text:bl
 n:Int
 pos:Int
def Tok.none:Tok:=⟨0,[],0,0⟩
def ar(T:List Tok)(at_:Int):Tok:=if at_<0\/(T.length:Int)<=at_ then .none else T[at_.toNat]?.getD .none
structure aA where
 at_:Int
 bR:Int
 aC:Int
 cv:Int
abbrev hP(n:Int):Int:=IntKind.i64.wrap n
structure f6 where
 kind:Int
 n:Int:=0
 name:bl:=[]
 eV:bl:=[]
 fT:Int:=0
 pos:Int:=0
 wE:Int:=0
 Bc:Int:=0
 tv:Int:=0
 ref:Int:=0
inductive bp where
 |mk (a:f6) (kids:List bp)
def bp.zero:bp:= .mk {kind:=0} []
def b7(T:List Tok)(s:aA)(k:Int)(x:bl):Bool:=s.aC==0&&((ar T s.at_).kind==k&&(ar T s.at_).text==x)
def cS(T:List Tok)(e:Int)(s:aA):aA:=if s.aC=0 then {s with aC:=e,cv:=(ar T s.at_).pos} else s
def aF(s:aA):aA:={s with at_:=hP (s.at_+1)}
def fj(T:List Tok)(k:Int)(x:bl)(s:aA):Bool×aA:=bif b7 T s k x then(true,aF s) else(false,s)
def cZ(T:List Tok)(x:bl)(s:aA):Bool×aA:=bif b7 T s 4 x then(true,aF s) else(false,cS T 2 s)
def eI(T:List Tok)(x:bl)(s:aA):Bool×aA:=bif b7 T s 4 x then(if 50<=s.bR then(false,cS T 4 s) else(true,{s with at_:=hP (s.at_+1),bR:=hP (s.bR+1)})) else(false,cS T 2 s)
def ga(s:aA):aA:={s with bR:=hP (s.bR-1)}
def j1(T:List Tok)(x:bl)(s:aA):Bool×aA:=cZ T x (ga s)
def jx(T:List Tok):Nat->Int->aA->(Int×aA) ⊕ aA
 |0,d,s=>bif b7 T s 4 [91] then .inr (cS T 4 s) else .inl (d,s)
 |n+1,d,s=>bif b7 T s 4 [91] then jx T n (d+1) (aF s) else .inl (d,s)
def ov(T:List Tok)(x:bl):Nat->aA->aA
 |0,s=>s
 |n+1,s=>ov T x n (cZ T x s).2
def jw(T:List Tok)(d:Int)(s:aA):(bl×Int)×aA:=
 bif ((ar T s.at_).kind != 1&&(!b7 T s 3 [105,110,116]&& !b7 T s 3 [98,111,111,108])) then(([],0),cS T 2 s)
 else(((ar T s.at_).text,d),ov T [93] d.toNat (aF s))
def eL(T:List Tok)(s:aA):(bl×Int)×aA:=match jx T 3 0 s with
 | .inr s'=>(([],0),s')
 | .inl (d,s')=>jw T d s'
def mS:List (List (bl×Int)):=[[([124,124],24)],[([38,38],23)],[([60],19),([60,61],20),([61,61],21),([33,61],22)],[([43],14),([45],15)],[([42],16),([47],17),([37],18)]]
def sQ(T:List Tok)(s:aA):List (bl×Int)->Int
 |[]=>0
 |(x,k)::r=>bif b7 T s 4 x then k else sQ T s r
def ml(T:List Tok)(lev:Nat)(s:aA):Int:=sQ T s (mS[lev]?.getD [])
def vH(T:List Tok)(s:aA):bp×aA:=(.mk {kind:=2,n:=bif (ar T s.at_).text==[116,114,117,101] then 1 else 0,pos:=(ar T s.at_).pos} [],aF s)
def Cl(T:List Tok)(s:aA):bp×aA:=(.mk {kind:=3,eV:=(eL T (aF s)).1.1,fT:=(eL T (aF s)).1.2,pos:=(ar T s.at_).pos} [],(eL T (aF s)).2)
def pU(T:List Tok)(s:aA):bp×aA:=(.mk {kind:=11,pos:=(ar T s.at_).pos} [],bif (eI T [40] (aF s)).1 then(j1 T [41] (eI T [40] (aF s)).2).2 else(eI T [40] (aF s)).2)
def kI(T:List Tok)(e:bp)(s:aA):bp×aA:=
 (.mk {kind:=5,name:=(ar T (aF s).at_).text,pos:=(ar T s.at_).pos} [e],aF (bif (ar T (aF s).at_).kind != 1 then cS T 2 (aF s) else aF s))
abbrev R(α:Type):=Option (α×aA)
mutual
def i_(T:List Tok):Nat->Nat->aA->R bp
 |0,_,_=>none
 |n+1,lev,s=>if lev=5 then pL T n s else(i_ T n (lev+1) s).bind λp=>lM T n lev p.1 p.2
def lM(T:List Tok):Nat->Nat->bp->aA->R bp
 |0,_,_,_=>none
 |n+1,lev,e,s=>if ml T lev s=0 then some (e,s) else
  (i_ T n (lev+1) (aF s)).bind λp=>lM T n lev (.mk {kind:=ml T lev s,pos:=(ar T s.at_).pos} [e,p.1]) p.2
def pL(T:List Tok):Nat->aA->R bp
 |0,_=>none
 |n+1,s=>bif b7 T s 4 [45] then rS T n [45] 12 s else bif b7 T s 4 [33] then rS T n [33] 13 s else rB T n s
def rS(T:List Tok):Nat->bl->Int->aA->R bp
 |0,_,_,_=>none
 |n+1,x,k,s=>bif (eI T x s).1 then(pL T n (eI T x s).2).bind λp=>some (.mk {kind:=k,pos:=(ar T s.at_).pos} [p.1],ga p.2) else some (.zero,(eI T x s).2)
def rB(T:List Tok):Nat->aA->R bp
 |0,_=>none
 |n+1,s=>(og T n s).bind λp=>jl T n p.1 p.2
def jl(T:List Tok):Nat->bp->aA->R bp
 |0,_,_=>none
 |n+1,e,s=>bif s.aC==0&&(ar T s.at_).kind==4 then
  (bif (ar T s.at_).text==[46] then jl T n (kI T e s).1 (kI T e s).2
  else bif (ar T s.at_).text==[91] then(ki T n [91] [93] s).bind λp=>jl T n (.mk {kind:=6,pos:=(ar T s.at_).pos} [e,p.1]) p.2
  else some (e,s)) else some (e,s)
def ki(T:List Tok):Nat->bl->bl->aA->R bp
 |0,_,_,_=>none
 |n+1,b,c,s=>bif (eI T b s).1 then(i_ T n 0 (eI T b s).2).bind λp=>some (p.1,(j1 T c p.2).2) else some (.zero,(eI T b s).2)
def og(T:List Tok):Nat->aA->R bp
 |0,_=>none
 |n+1,s=>if s.aC≠0 then some (.zero,s) else
  if(ar T s.at_).kind=2 then some (.mk {kind:=1,n:=(ar T s.at_).n,pos:=(ar T s.at_).pos} [],aF s) else
  if(ar T s.at_).kind=1 then ul T n s else
  if(ar T s.at_).kind=3\/(ar T s.at_).kind=4 then
   (bif (ar T s.at_).kind==4 then(bif (ar T s.at_).text==[40] then ki T n [40] [41] s else some (.zero,cS T 2 s))
   else bif (ar T s.at_).text==[116,114,117,101]||(ar T s.at_).text==[102,97,108,115,101] then some (vH T s)
   else bif (ar T s.at_).text==[110,117,108,108] then some (Cl T s)
   else bif (ar T s.at_).text==[110,101,119] then sH T n s
   else bif (ar T s.at_).text==[108,101,110] then(ki T n [40] [41] (aF s)).bind λp=>some (.mk {kind:=10,pos:=(ar T s.at_).pos} [p.1],p.2)
   else bif (ar T s.at_).text==[114,101,97,100] then some (pU T s)
   else some (.zero,cS T 2 s))
  else some (.zero,cS T 2 s)
def ul(T:List Tok):Nat->aA->R bp
 |0,_=>none
 |n+1,s=>bif b7 T (aF s) 4 [40] then(rQ T n (aF s)).bind λp=>some (.mk {kind:=7,name:=(ar T s.at_).text,pos:=(ar T s.at_).pos} p.1,p.2)
  else some (.mk {kind:=4,name:=(ar T s.at_).text,pos:=(ar T s.at_).pos} [],aF s)
def sH(T:List Tok):Nat->aA->R bp
 |0,_=>none
 |n+1,s=>bif b7 T (aF s) 4 [91] then
  (ki T n [40] [41] (cZ T [93] (eL T (aF (aF s))).2).2).bind λp=>
   some (.mk {kind:=9,eV:=(eL T (aF (aF s))).1.1,fT:=(eL T (aF (aF s))).1.2,pos:=(ar T s.at_).pos} [p.1],p.2)
  else some (.mk {kind:=8,eV:=(ar T (aF s).at_).text,pos:=(ar T s.at_).pos} [],aF (bif (ar T (aF s).at_).kind != 1 then cS T 2 (aF s) else aF s))
def rQ(T:List Tok):Nat->aA->R (List bp)
 |0,_=>none
 |n+1,s=>bif (eI T [40] s).1 then
  (bif b7 T (eI T [40] s).2 4 [41] then some ([],(j1 T [41] (eI T [40] s).2).2)
  else(i_ T n 0 (eI T [40] s).2).bind λp=>mm T n [p.1] p.2)
  else some ([],(eI T [40] s).2)
def mm(T:List Tok):Nat->List bp->aA->R (List bp)
 |0,_,_=>none
 |n+1,l,s=>bif (fj T 4 [44] s).1 then(i_ T n 0 (fj T 4 [44] s).2).bind λp=>mm T n (l++[p.1]) p.2
  else some (l,(j1 T [41] (fj T 4 [44] s).2).2)
end
end
section
def kw(x:bl):Int:=match x with
 |c::_=>if 97<=c.toNat/\c.toNat<=122 then 3 else 4
 |[]=>4
def cd(T:List Tok)(s:aA)(x:bl):Bool:=b7 T s (kw x) x
def cr(T:List Tok)(x:bl)(s:aA):aA:=bif cd T s x then aF s else cS T 2 s
def iK(s:aA):aA:={s with bR:=hP (s.bR+1)}
def eT(T:List Tok)(x:bl)(s:aA):aA:=bif cd T s x&&decide (50<=s.bR) then cS T 4 s else iK (cr T x s)
def gp(T:List Tok)(x:bl)(s:aA):aA:=ga (cr T x s)
def dk(T:List Tok)(s:aA):bl×aA:=bif s.aC==0&&(ar T s.at_).kind==1 then((ar T s.at_).text,aF s) else([],cS T 2 s)
def takeN(T:List Tok)(x:bl):Nat->aA->aA
 |0,s=>s
 |n+1,s=>takeN T x n (cr T x s)
def lL(T:List Tok):Nat->Int->aA->(Int×aA) ⊕ aA
 |0,d,s=>bif cd T s [91] then .inr (cS T 4 s) else .inl (d,s)
 |n+1,d,s=>bif cd T s [91] then lL T n (d+1) (aF s) else .inl (d,s)
def km(T:List Tok)(d:Int)(s:aA):(bl×Int)×aA:=
 bif cd T s [105,110,116]||cd T s [98,111,111,108] then(((ar T s.at_).text,d),takeN T [93] d.toNat (aF s))
 else(((dk T s).1,d),takeN T [93] d.toNat (dk T s).2)
def fm(T:List Tok)(s:aA):(bl×Int)×aA:=match lL T 3 0 s with
 | .inr s'=>(([],0),s')
 | .inl (d,s')=>km T d s'
def uv(x:bl):List (bl×Int)->Int
 |[]=>0
 |(y,k)::r=>bif y==x then k else uv x r
def jQ(lev:Nat)(t:Tok):Int:=bif t.kind != 4 then 0 else uv t.text (mS[lev]?.getD [])
mutual
def jF(T:List Tok):Nat->Nat->aA->R bp
 |0,_,_=>none
 |n+1,lev,s=>if lev=5 then ue T n s else(jF T n (lev+1) s).bind λp=>rD T n lev p.1 p.2
def rD(T:List Tok):Nat->Nat->bp->aA->R bp
 |0,_,_,_=>none
 |n+1,lev,e,s=>bif s.aC==0&&jQ lev (ar T s.at_) != 0 then
  (jF T n (lev+1) (aF s)).bind λp=>rD T n lev (.mk {kind:=jQ lev (ar T s.at_),pos:=(ar T s.at_).pos} [e,p.1]) p.2
  else some (e,s)
def ue(T:List Tok):Nat->aA->R bp
 |0,_=>none
 |n+1,s=>bif cd T s [45] then uq T n 12 s else bif cd T s [33] then uq T n 13 s else(oP T n s).bind λp=>lC T n p.1 p.2
def uq(T:List Tok):Nat->Int->aA->R bp
 |0,_,_=>none
 |n+1,k,s=>(jF T n 5 (eT T (ar T s.at_).text s)).bind λp=>some (.mk {kind:=k,pos:=(ar T s.at_).pos} [p.1],ga p.2)
def lC(T:List Tok):Nat->bp->aA->R bp
 |0,_,_=>none
 |n+1,e,s=>bif cd T s [46] then lC T n (.mk {kind:=5,name:=(dk T (aF s)).1,pos:=(ar T s.at_).pos} [e]) (dk T (aF s)).2
  else bif cd T s [91] then(jF T n 0 (eT T [91] s)).bind λp=>lC T n (.mk {kind:=6,pos:=(ar T s.at_).pos} [e,p.1]) (gp T [93] p.2)
  else some (e,s)
def ns(T:List Tok):Nat->aA->R bp
 |0,_=>none
 |n+1,s=>(jF T n 0 (eT T [40] s)).bind λp=>some (p.1,gp T [41] p.2)
def oP(T:List Tok):Nat->aA->R bp
 |0,_=>none
 |n+1,s=>bif s.aC==0&&(ar T s.at_).kind==2 then some (.mk {kind:=1,n:=(ar T s.at_).n,pos:=(ar T s.at_).pos} [],aF s)
  else bif cd T s [116,114,117,101]||cd T s [102,97,108,115,101] then some (.mk {kind:=2,n:=bif (ar T s.at_).text==[116,114,117,101] then 1 else 0,pos:=(ar T s.at_).pos} [],aF s)
  else bif cd T s [110,117,108,108] then some (.mk {kind:=3,eV:=(fm T (aF s)).1.1,fT:=(fm T (aF s)).1.2,pos:=(ar T s.at_).pos} [],(fm T (aF s)).2)
  else bif cd T s [110,101,119] then tN T n (ar T s.at_).pos (aF s)
  else bif cd T s [108,101,110] then(ns T n (aF s)).bind λp=>some (.mk {kind:=10,pos:=(ar T s.at_).pos} [p.1],p.2)
  else bif cd T s [114,101,97,100] then some (.mk {kind:=11,pos:=(ar T s.at_).pos} [],gp T [41] (eT T [40] (aF s)))
  else bif cd T s [40] then ns T n s
  else bif cd T (dk T s).2 [40] then(pP T n (dk T s).2).bind λp=>some (.mk {kind:=7,name:=(dk T s).1,pos:=(ar T s.at_).pos} p.1,p.2)
  else some (.mk {kind:=4,name:=(dk T s).1,pos:=(ar T s.at_).pos} [],(dk T s).2)
def tN(T:List Tok):Nat->Int->aA->R bp
 |0,_,_=>none
 |n+1,pos,s=>bif cd T s [91] then
  (ns T n (cr T [93] (fm T (aF s)).2)).bind λp=>some (.mk {kind:=9,eV:=(fm T (aF s)).1.1,fT:=(fm T (aF s)).1.2,pos:=pos} [p.1],p.2)
  else some (.mk {kind:=8,eV:=(dk T s).1,pos:=pos} [],(dk T s).2)
def pP(T:List Tok):Nat->aA->R (List bp)
 |0,_=>none
 |n+1,s=>bif cd T (eT T [40] s) [41] then some ([],gp T [41] (eT T [40] s))
  else(jF T n 0 (eT T [40] s)).bind λp=>nr T n [p.1] p.2
def nr(T:List Tok):Nat->List bp->aA->R (List bp)
 |0,_,_=>none
 |n+1,l,s=>bif cd T s [44] then(jF T n 0 (aF s)).bind λp=>nr T n (l++[p.1]) p.2 else some (l,gp T [41] s)
end
end
section
def left(T:List Tok)(s:aA):Nat:=if s.aC=0/\0<=s.at_/\s.at_<T.length then T.length-s.at_.toNat else 0
def e8{α:Type}(p q:α×aA):Prop:=(p.2.aC=0/\q=p)\/(p.2.aC≠0/\q.2.aC=p.2.aC/\q.2.cv=p.2.cv)
theorem ma{T:List Tok}{s:aA}(h:s.aC≠0)(k:Int)(x:bl):b7 T s k x=false:=by simp[b7,h]
theorem hv{T:List Tok}{s:aA}(h:s.aC≠0)(x:bl):cd T s x=false:=ma h _ _
theorem iP{T:List Tok}{s:aA}(h:s.aC≠0)(e:Int):cS T e s=s:=by simp[cS,h]
theorem OR{T:List Tok}{s:aA}(h:s.aC≠0): ∀l,sQ T s l=0
 |[]=>rfl
 |(x,k)::r=>by simp[sQ,ma h,OR h r]
theorem aaf{T:List Tok}{s:aA}(h:s.aC≠0)(lev:Nat):ml T lev s=0:=OR h _
theorem ZY{T:List Tok}{s:aA}(h:s.aC≠0)(n:Nat)(aU:2<=n):rB T n s=some (.zero,s):=by
 obtain⟨n,rfl⟩: ∃m,n=m+2:=⟨n-2,Z⟩;have ax:(s.aC==0)=false:=by simpa using h
 simp[rB,og,h,jl,ax]
theorem Z2{T:List Tok}{s:aA}(h:s.aC≠0)(n:Nat)(aU:3<=n):pL T n s=some (.zero,s):=by
 obtain⟨n,rfl⟩: ∃m,n=m+1:=⟨n-1,Z⟩;simp[pL,ma h,ZY h n Z]
theorem Pm{T:List Tok}{s:aA}(h:s.aC≠0)(n:Nat)(aU:1<=n)(lev:Nat)(e:bp):lM T n lev e s=some (e,s):=by
 obtain⟨n,rfl⟩: ∃m,n=m+1:=⟨n-1,Z⟩;simp[lM,aaf h]
theorem Pl{T:List Tok}{s:aA}(h:s.aC≠0): ∀(n lev:Nat),lev<=5->9<=n+lev->i_ T n lev s=some (.zero,s)
 |0,lev,aB,aU=>Z
 |n+1,lev,aB,aU=>by
  by_cases az:lev=5
  ·simp[i_,az,Z2 h n Z]
  ·simp[i_,az,Pl h n (lev+1) Z Z,Pm h n Z]
theorem sA{T:List Tok}{s:aA}{k:Int}{x:bl}(h:b7 T s k x=true):s.aC=0/\(ar T s.at_).kind=k/\(ar T s.at_).text=x:=by
 simpa [b7] using h
def xw(T:List Tok)(s:aA):bp:= .mk {kind:=4,pos:=(ar T s.at_).pos} []
theorem F5{T:List Tok}{s:aA}(h:s.aC≠0):dk T s=([],s):=by
 have ax:(s.aC==0)=false:=by simpa using h
 simp[dk,ax,iP h]
theorem Z1{T:List Tok}{s:aA}(h:s.aC≠0)(n:Nat)(aU:1<=n):oP T n s=some (xw T s,s):=by
 obtain⟨n,rfl⟩: ∃m,n=m+1:=⟨n-1,Z⟩;have ax:(s.aC==0)=false:=by simpa using h
 simp[oP,ax,hv h,F5 h,xw]
theorem Jm{T:List Tok}{s:aA}(h:s.aC≠0)(n:Nat)(aU:1<=n)(e:bp):lC T n e s=some (e,s):=by
 obtain⟨n,rfl⟩: ∃m,n=m+1:=⟨n-1,Z⟩;simp[lC,hv h]
theorem Z3{T:List Tok}{s:aA}(h:s.aC≠0)(n:Nat)(aU:2<=n):ue T n s=some (xw T s,s):=by
 obtain⟨n,rfl⟩: ∃m,n=m+1:=⟨n-1,Z⟩;simp[ue,hv h,Z1 h n Z,Jm h n Z]
theorem OE{T:List Tok}{s:aA}(h:s.aC≠0)(n:Nat)(aU:1<=n)(lev:Nat)(e:bp):rD T n lev e s=some (e,s):=by
 obtain⟨n,rfl⟩: ∃m,n=m+1:=⟨n-1,Z⟩;have ax:(s.aC==0)=false:=by simpa using h
 simp[rD,ax]
theorem Be{T:List Tok}{s:aA}(h:s.aC≠0): ∀(n lev:Nat),lev<=5->9<=n+lev->jF T n lev s=some (xw T s,s)
 |0,lev,aB,aU=>Z
 |n+1,lev,aB,aU=>by
  by_cases az:lev=5
  ·simp[jF,az,Z3 h n Z]
  ·simp[jF,az,Be h n (lev+1) Z Z,OE h n Z]
theorem QG{x:bl}: ∀l:List (bl×Int),(∀p∈l,p.2≠0)-> ∀T s,s.aC=0->(ar T s.at_).kind=4->sQ T s l=uv (ar T s.at_).text l
 |[],_,_,_,_,_=>rfl
 |(y,k)::r,h,T,s,al,ah=>by
  have aT:=QG (x:=x) r (λp bw=>h p (by simp[bw])) T s al ah;have aS:b7 T s 4 y=(y==(ar T s.at_).text):=by
   simp only[b7,al,ah,beq_self_eq_true,Bool.true_and];exact BEq.comm
  simp[sQ,uv,aT,aS]
theorem JM{T:List Tok}{s:aA}(ah:(ar T s.at_).kind≠4): ∀l,sQ T s l=0
 |[]=>rfl
 |(y,k)::r=>by
  have aS:b7 T s 4 y=false:=by simp[b7,ah]
  simp[sQ,aS,JM ah r]
theorem abz{T:List Tok}{s:aA}(al:s.aC=0){lev:Nat}(az:lev<5):ml T lev s=jQ lev (ar T s.at_):=by
 by_cases ah:(ar T s.at_).kind=4
 ·have:((ar T s.at_).kind != 4)=false:=by simp[ah]
  simp only[ml,jQ,this,bj];refine QG (x:=[]) _ ?_ T s al ah;have:lev=0\/lev=1\/lev=2\/lev=3\/lev=4:=Z;rcases this with rfl|rfl|rfl|rfl|rfl<;>simp[mS]
 ·have:((ar T s.at_).kind != 4)=true:=by simp[ah]
  simp[ml,jQ,this,JM ah]
end
section
def ho(s s':aA):Prop:=(s.aC=0/\s'=s)\/(s.aC≠0/\s'.aC=s.aC/\s'.cv=s.cv)
theorem ho.refl(s:aA):ho s s:=by
 by_cases h:s.aC=0
 ·exact .inl ⟨h,rfl⟩
 ·exact .inr ⟨h,rfl,rfl⟩
theorem ho.out{s s':aA}(h:ho s s'):ho (ga s) (ga s'):=by
 rcases h with⟨h,rfl⟩|⟨h,U,aa⟩
 ·exact .inl ⟨h,rfl⟩
 ·exact .inr ⟨h,U,aa⟩
theorem qt{T:List Tok}{s:aA}(h:s.aC=0)(e:Int):(cS T e s).aC=e/\(cS T e s).cv=(ar T s.at_).pos:=by simp[cS,h]
theorem Bt{T:List Tok}{s s':aA}(h:ho s s'){x:bl}(ag:kw x=4):ho (cZ T x s).2 (cr T x s'):=by
 rcases h with⟨h,rfl⟩|⟨h,U,aa⟩
 ·cases ax:b7 T s' 4 x with
  |true=>simp only[cZ,cr,cd,ag,ax,bC];exact .refl _
  |false=>simp only[cZ,cr,cd,ag,ax,bj];exact .refl _
 ·have bZ:s'.aC≠0:=by rw[U];exact h
  simp only[cZ,cr,ma h,hv bZ,bj,iP h,iP bZ];exact .inr ⟨h,U,aa⟩
theorem u1{T:List Tok}{s s':aA}(h:ho s s'){x:bl}(ag:kw x=4):ho (j1 T x s).2 (gp T x s'):=by
 have U:=Bt (T:=T) h.out ag;have aa:ho (cr T x (ga s')) (gp T x s'):=by
  by_cases al:s'.aC=0
  ·have ax:cd T (ga s') x=cd T s' x:=rfl;cases be:cd T s' x with
   |true=>simp only[gp,cr,ax,be,bC];exact .inl ⟨al,rfl⟩
   |false=>
    simp only[gp,cr,ax,be,bj];have bt:(ga s').aC=0:=al;refine .inr ⟨by rw[(qt bt 2).1];decide,?_,?_⟩
    ·rw[(qt bt 2).1];exact(qt al 2).1
    ·rw[(qt bt 2).2];exact(qt al 2).2
  ·have bt:(ga s').aC≠0:=al;simp only[gp,cr,hv al,hv bt,bj,iP al,iP bt];exact .refl _
 rcases U with⟨a,b⟩|⟨a,b,c⟩
 ·rcases aa with⟨d,e⟩|⟨d,e,f⟩
  ·exact .inl ⟨a,by rw[e,b];rfl⟩
  ·exact absurd (by rw[b];exact a) d
 ·rcases aa with⟨d,e⟩|⟨d,e,f⟩
  ·exact absurd (b.symm.trans d) a
  ·exact .inr ⟨a,e.trans b,f.trans c⟩
theorem J6{T:List Tok}{s:aA}(h:s.aC=0){x:bl}(ag:kw x=4):
  ((eI T x s).1=true/\b7 T s 4 x=true/\(eI T x s).2=iK (aF s)/\eT T x s=iK (aF s))\/
  ((eI T x s).1=false/\(eI T x s).2.aC≠0/\ho (eI T x s).2 (eT T x s)):=by
 cases ax:b7 T s 4 x with
 |true=>
  by_cases bt:50<=s.bR
  ·refine .inr ?_;simp only[eI,eT,cd,ag,ax,bC,Bool.true_and,decide_eq_true bt,if_pos bt];exact⟨trivial,by rw[(qt h 4).1];decide,.refl _⟩
  ·refine .inl ?_;simp only[eI,eT,cr,cd,ag,ax,bC,Bool.true_and,decide_eq_false bt,if_neg bt,bj];exact⟨trivial,trivial,rfl,trivial⟩
 |false=>
  refine .inr ?_;simp only[eI,eT,cr,cd,ag,ax,bj,Bool.false_and];exact⟨trivial,by rw[(qt h 2).1];decide,.inr ⟨by rw[(qt h 2).1];decide,rfl,rfl⟩⟩
end
section
theorem e8.of{α:Type}{a b:α}{s s':aA}(h:ho s s')(an2:s.aC=0->b=a):e8 (a,s) (b,s'):=by
 rcases h with⟨h,rfl⟩|⟨h,U,aa⟩
 ·exact .inl ⟨h,by rw[an2 h]⟩
 ·exact .inr ⟨h,U,aa⟩
theorem e8.st{α:Type}{p q:α×aA}(h:e8 p q):ho p.2 q.2:=by
 rcases h with⟨h,rfl⟩|⟨h,U,aa⟩
 ·exact .inl ⟨h,rfl⟩
 ·exact .inr ⟨h,U,aa⟩
theorem Gi{T:List Tok}{x:bl}(ag:kw x=4): ∀(n:Nat) {s s':aA},ho s s'->ho (ov T x n s) (takeN T x n s')
 |0,_,_,h=>h
 |n+1,_,_,h=>Gi ag n (Bt h ag)
theorem JE{T:List Tok}{x:bl}: ∀(n:Nat) {s:aA},s.aC≠0->takeN T x n s=s
 |0,_,_=>rfl
 |n+1,s,h=>by simp[takeN,cr,hv h,iP h,JE n h]
theorem JF{T:List Tok}{x:bl}: ∀(n:Nat) {s:aA},s.aC≠0->ov T x n s=s
 |0,_,_=>rfl
 |n+1,s,h=>by simp[ov,cZ,ma h,iP h,JF n h]
theorem RU{T:List Tok}: ∀(n:Nat) (d:Int) (s:aA),lL T n d s=jx T n d s
 |0,d,s=>rfl
 |n+1,d,s=>by
  have:cd T s [91]=b7 T s 4 [91]:=rfl;simp[lL,jx,this,RU n]
theorem afe{T:List Tok}(d:Int)(s:aA):e8 (jw T d s) (km T d s):=by
 have aI:cd T s [105,110,116]=b7 T s 3 [105,110,116]:=rfl;have bc:cd T s [98,111,111,108]=b7 T s 3 [98,111,111,108]:=rfl;by_cases al:s.aC=0
 ·cases U:b7 T s 3 [105,110,116] with
  |true=>
   simp only[jw,km,aI,bc,U,Bool.not_true,Bool.false_and,Bool.and_false,bj,Bool.true_or,bC];exact e8.of (Gi rfl _ (.refl _)) λ_=>rfl
  |false=>
   cases aa:b7 T s 3 [98,111,111,108] with
   |true=>
    simp only[jw,km,aI,bc,U,aa,Bool.not_true,Bool.and_false,bj,Bool.false_or,bC];exact e8.of (Gi rfl _ (.refl _)) λ_=>rfl
   |false=>
    by_cases ah:(ar T s.at_).kind=1
    ·simp only[jw,km,aI,bc,U,aa,dk,al,ah,Bool.not_false,Bool.and_self,Bool.and_true,bne_self_eq_false,bj,Bool.or_self,beq_self_eq_true,bC];exact e8.of (Gi rfl _ (.refl _)) λ_=>rfl
    ·have ax:((ar T s.at_).kind==1)=false:=by simpa using ah
     have ia:((ar T s.at_).kind != 1)=true:=by simpa using ah
     have we:(cS T 2 s).aC≠0:=by rw[(qt al 2).1];decide
     simp only[jw,km,aI,bc,U,aa,dk,al,ax,ia,Bool.not_false,Bool.and_self,Bool.and_false,bC,Bool.or_self,bj,JE _ we];exact e8.of (.refl _) λh=>absurd h we
 ·have ax:(s.aC==0)=false:=by simpa using al
  have aZ:(aF s).aC≠0:=al;simp only[jw,km,aI,bc,ma al,dk,ax,Bool.false_and,Bool.or_self,bj,iP al,JE _ al,JF _ aZ,Bool.not_false,Bool.and_self,Bool.and_true];cases(ar T s.at_).kind != 1 with
  |true=>exact .inr ⟨al,rfl,rfl⟩
  |false=>exact .inr ⟨al,rfl,rfl⟩
theorem of_same(T:List Tok)(s:aA):e8 (eL T s) (fm T s):=by
 simp only[eL,fm,RU];cases jx T 3 0 s with
 |inr s'=>exact e8.of (.refl _) λ_=>rfl
 |inl p=>exact afe p.1 p.2
end
section
theorem rf{T:List Tok}{s:aA}(h:s.aC≠0):left T s=0:=by simp[left,h]
theorem Te{T:List Tok}(s:aA):left T (iK s)=left T s:=rfl
theorem Ky{T:List Tok}(s:aA):left T (ga s)=left T s:=rfl
theorem yK{T:List Tok}(s:aA)(e:Int):left T (cS T e s)<=left T s:=by
 by_cases h:s.aC=0
 ·unfold left;simp only[cS,h,if_true,true_and];split
  ·rename_i b0;rw[if_pos b0.2];omega
  ·omega
 ·rw[iP h];omega
theorem aeJ{T:List Tok}{a:Int}(h:(ar T a).kind≠0):0<=a/\a<T.length:=by
 unfold ar at h;split at h
 ·exact absurd rfl h
 ·omega
theorem rn{T:List Tok}(aH:T.length<=40000000){s:aA}(al:s.aC=0)(ah:(ar T s.at_).kind≠0):left T (aF s)+1<=left T s:=by
 obtain⟨aY,U⟩:=aeJ ah;have hw:hP (s.at_+1)=s.at_+1:=wrap_i64 Z Z;have aI:left T s=T.length-s.at_.toNat:=by
  unfold left;rw[if_pos ⟨al,aY,U⟩]
 have bc:left T (aF s)<=T.length-(s.at_+1).toNat:=by
  unfold left;simp only[aF,hw];split<;>omega
 omega
theorem rp{T:List Tok}(aH:T.length<=40000000){s:aA}{k:Int}{x:bl}(M9:k≠0)(h:b7 T s k x=true):left T (aF s)+1<=left T s:=by
 obtain⟨U,aa,_⟩:=sA h;exact rn aH U (by rw[aa];exact M9)
theorem Bq{T:List Tok}(aH:T.length<=40000000)(s:aA)(x:bl):left T (cZ T x s).2<=left T s:=by
 cases h:b7 T s 4 x with
 |true=>simp only[cZ,h,bC];have:=rp aH cm h;omega
 |false=>simp only[cZ,h,bj];exact yK s 2
theorem Bm{T:List Tok}(aH:T.length<=40000000)(s:aA)(x:bl):left T (j1 T x s).2<=left T s:=Bq aH (ga s) x
theorem PX{T:List Tok}(aH:T.length<=40000000)(x:bl): ∀(n:Nat) (s:aA),left T (ov T x n s)<=left T s
 |0,s=>bN _
 |n+1,s=>Nat.le_trans (PX aH x n _) (Bq aH s x)
theorem RO{T:List Tok}(aH:T.length<=40000000): ∀(n:Nat) (d:Int) (s:aA),(∀ep s',jx T n d s= .inl (ep,s')->left T s'<=left T s)/\(∀s',jx T n d s= .inr s'->left T s'<=left T s)
 |0,d,s=>by
  cases h:b7 T s 4 [91] with
  |true=>simp only[jx,h,bC];exact⟨by simp,by rintro _ ⟨⟩;exact yK s 4⟩
  |false=>simp only[jx,h,bj];exact⟨by rintro _ _ ⟨⟩;exact bN _,by simp⟩
 |n+1,d,s=>by
  cases h:b7 T s 4 [91] with
  |true=>
   simp only[jx,h,bC];obtain⟨i1,i2⟩:=RO aH n (d+1) (aF s);have aZ:=rp aH cm h;exact⟨λep s' bZ=>by have:=i1 ep s' bZ;omega,λs' bZ=>by have:=i2 s' bZ;omega⟩
  |false=>simp only[jx,h,bj];exact⟨by rintro _ _ ⟨⟩;exact bN _,by simp⟩
theorem RN{T:List Tok}(aH:T.length<=40000000)(d:Int)(s:aA):left T (jw T d s).2<=left T s:=by
 by_cases al:s.aC=0
 ·cases aS:((ar T s.at_).kind != 1&&(!b7 T s 3 [105,110,116]&& !b7 T s 3 [98,111,111,108])) with
  |true=>simp only[jw,aS,bC];exact yK s 2
  |false=>
   simp only[jw,aS,bj];have ah:(ar T s.at_).kind≠0:=by
    intro ah;have U: ∀x,b7 T s 3 x=false:=λx=>by simp[b7,ah]
    simp[ah,U] at aS
   have:=PX aH [93] d.toNat (aF s);have:=rn aH al ah;omega
 ·have aZ:(aF s).aC≠0:=al;simp only[jw];cases((ar T s.at_).kind != 1&&(!b7 T s 3 [105,110,116]&& !b7 T s 3 [98,111,111,108])) with
  |true=>exact yK s 2
  |false=>simp only[bj,JF _ aZ,rf aZ];omega
theorem KQ{T:List Tok}(aH:T.length<=40000000)(s:aA):left T (eL T s).2<=left T s:=by
 obtain⟨i1,i2⟩:=RO aH 3 0 s;simp only[eL];cases h:jx T 3 0 s with
 |inr s'=>exact i2 s' h
 |inl p=>
  have:=i1 p.1 p.2 h;have:=RN aH p.1 p.2;exact Nat.le_trans (RN aH p.1 p.2) (i1 p.1 p.2 h)
def h4{α:Type}(T:List Tok)(s:aA)(a b:Option (α×aA)):Prop:= ∃p q,a=some p/\b=some q/\e8 p q/\left T p.2<=left T s
def qR(T:List Tok)(k:Nat):Prop:= ∀(s:aA),left T s<=k-> ∀(lev n cg:Nat),lev<=5->30*k+20<=n+lev->30*k+20<=cg+lev->h4 T s (i_ T n lev s) (jF T cg lev s)
theorem abQ{T:List Tok}{s:aA}(h:s.aC≠0)(lev n cg:Nat)(az:lev<=5)(aU:9<=n+lev)(hz:9<=cg+lev):h4 T s (i_ T n lev s) (jF T cg lev s):=
 ⟨_,_,Pl h n lev az aU,Be h cg lev az hz,.inr ⟨h,rfl,rfl⟩,bN _⟩
end
section
theorem KD{T:List Tok}(aH:T.length<=40000000){k:Nat}(aT: ∀j,j<k->qR T j){s:aA}(al:s.aC=0)(aM:left T s<=k){x:bl}(ag:kw x=4)(lev n cg:Nat)(az:lev<=5)(aU:30*k+9<=n)(hz:30*k+9<=cg):
  ((eI T x s).1=true/\left T (eI T x s).2+1<=left T s/\h4 T (eI T x s).2 (i_ T n lev (eI T x s).2) (jF T cg lev (eT T x s)))\/
  ((eI T x s).1=false/\(eI T x s).2.aC≠0/\(eT T x s).aC=(eI T x s).2.aC/\(eT T x s).cv=(eI T x s).2.cv/\jF T cg lev (eT T x s)=some (xw T (eT T x s),eT T x s)):=by
 rcases J6 (T:=T) al ag with⟨U,aa,ae,am⟩|⟨U,aa,ae⟩
 ·refine .inl ⟨U,?_,?_⟩
  ·rw[ae,Te];exact rp aH cm aa
  ·have aZ:=rp aH cm aa;rw[ae,am];exact aT (k-1) Z _ (by rw[Te];omega) lev n cg az Z Z
 ·rcases ae with⟨ae,_⟩|⟨_,am,aB⟩
  ·exact absurd ae aa
  ·exact .inr ⟨U,aa,am,aB,Be (by rw[am];exact aa) cg lev az Z⟩
theorem JV{T:List Tok}(aH:T.length<=40000000){k:Nat}(aT: ∀j,j<k->qR T j){s:aA}(al:s.aC=0)(aM:left T s<=k)(n cg:Nat)(aU:30*k+9<=n)(hz:30*k+9<=cg):h4 T s (ki T (n+1) [40] [41] s) (ns T (cg+1) s):=by
 rcases KD aH aT al aM (x:=[40]) rfl 0 n cg Z aU hz with⟨U,aa,p,q,ae,am,aB,aG⟩|⟨U,aa,ae,am,aB⟩
 ·refine⟨(p.1,(j1 T [41] p.2).2),(q.1,gp T [41] q.2),?_,?_,?_,?_⟩
  ·simp[ki,U,ae]
  ·simp[ns,am]
  ·rcases aB with⟨h,rfl⟩|⟨h,bV,ax⟩
   ·exact e8.of (u1 (.inl ⟨h,rfl⟩) rfl) λ_=>rfl
   ·refine e8.of (u1 (.inr ⟨h,bV,ax⟩) rfl) λaS=>absurd aS ?_
    have:(ga p.2).aC≠0:=h;simp only[j1,cZ,ma this,bj,iP this];exact h
  ·have:=Bm aH p.2 [41];simp only
   omega
 ·refine⟨(.zero,(eI T [40] s).2),_,by simp[ki,U],by simp only[ns,aB];rfl,?_,?_⟩
  ·have ce:(eT T [40] s).aC≠0:=by rw[ae];exact aa
   have aS:=u1 (T:=T) (x:=[41]) (ho.refl (eT T [40] s)) rfl;refine .inr ⟨aa,?_,?_⟩<;>simp[gp,cr,hv ce,iP ce,ga,ae,am]
  ·simp only[rf aa];omega
end
section
theorem h4.le{α:Type}{T:List Tok}{s s0:aA}{a b:Option (α×aA)}(h:h4 T s a b)(az:left T s<=left T s0):h4 T s0 a b:=by
 obtain⟨p,q,U,aa,ae,am⟩:=h;exact⟨p,q,U,aa,ae,Nat.le_trans am az⟩
theorem OD{T:List Tok}{s:aA}(h:s.aC≠0)(x:bl):(j1 T x s).2.aC≠0:=by
 have bt:(ga s).aC≠0:=h;simp only[j1,cZ,ma bt,bj,iP bt];exact h
theorem QI{T:List Tok}(aH:T.length<=40000000){k:Nat}(aT: ∀j,j<k->qR T j): ∀(c n cg:Nat) (s s':aA) (l l':List bp),left T s<=c->c<=k->30*c+10<=n->30*c+10<=cg->ho s s'->(s.aC=0->l'=l)->h4 T s (mm T n l s) (nr T cg l' s')
 |c,0,cg,s,s',l,l',U,aa,ae,h_,am,aB=>Z
 |c,n+1,0,s,s',l,l',U,aa,ae,h_,am,aB=>Z
 |c,n+1,cg+1,s,s',l,l',U,aa,ae,h_,am,aB=>by
  by_cases al:s.aC=0
  ·obtain⟨_,rfl⟩:s.aC=0/\s'=s:=am.resolve_right (by rintro⟨h,_⟩;exact h al);cases aB al;have aI:cd T s' [44]=b7 T s' 4 [44]:=rfl;cases ax:b7 T s' 4 [44] with
   |true=>
    have aZ:=rp aH cm ax;obtain⟨p,q,g1,g2,g3,g4⟩:=aT (c-1) Z (aF s') Z 0 n cg Z Z Z;have:=QI aH aT (c-1) n cg p.2 q.2 (l++[p.1]) (l++[q.1]) Z Z Z Z g3.st (λbw=>by
     rcases g3 with⟨_,rfl⟩|⟨h,_⟩
     ·rfl
     ·exact absurd bw h)
    have:=this.le (s0:=s') Z;simpa [mm,fj,ax,nr,aI,g1,g2] using this
   |false=>
    refine⟨(l,(j1 T [41] s').2),(l,gp T [41] s'),by simp[mm,fj,ax],by simp[nr,aI,ax],e8.of (u1 (.refl _) rfl) λ_=>rfl,Bm aH s' [41]⟩
  ·have e1:s'.aC≠0:=by
    rcases am with⟨h,_⟩|⟨_,h,_⟩
    ·exact absurd h al
    ·rw[h];exact al
   refine⟨(l,(j1 T [41] s).2),(l',gp T [41] s'),by simp[mm,fj,ma al],by simp[nr,hv e1],e8.of (u1 am rfl) λh=>absurd h (OD al _),Bm aH s [41]⟩
end
section
theorem acQ{T:List Tok}(aH:T.length<=40000000){k:Nat}(aT: ∀j,j<k->qR T j){s:aA}(al:s.aC=0)(aM:left T s<=k)(n cg:Nat)(aU:30*k+10<=n)(hz:30*k+10<=cg):h4 T s (rQ T (n+1) s) (pP T (cg+1) s):=by
 rcases J6 (T:=T) al (x:=[40]) rfl with⟨U,aa,ae,am⟩|⟨U,aa,ae⟩
 ·have aZ:=rp aH cm aa;have az:left T (iK (aF s))=left T (aF s):=rfl;have aqw:(iK (aF s)).aC=0:=al;have aI:cd T (iK (aF s)) [41]=b7 T (iK (aF s)) 4 [41]:=rfl;cases ax:b7 T (iK (aF s)) 4 [41] with
  |true=>
   refine⟨([],(j1 T [41] (iK (aF s))).2),([],gp T [41] (iK (aF s))),by simp[rQ,U,ae,ax],by simp[pP,am,aI,ax],e8.of (u1 (.refl _) rfl) λ_=>rfl,?_⟩;have:=Bm aH (iK (aF s)) [41];simp only
   omega
  |false=>
   obtain⟨p,q,g1,g2,g3,g4⟩:=aT (k-1) Z (iK (aF s)) Z 0 n cg Z Z Z;have:=QI aH aT k n cg p.2 q.2 [p.1] [q.1] Z Z Z Z g3.st (λbw=>by
    rcases g3 with⟨_,rfl⟩|⟨h,_⟩
    ·rfl
    ·exact absurd bw h)
   have:=this.le (s0:=s) Z;simpa [rQ,U,ae,ax,pP,am,aI,g1,g2] using this
 ·have h_:=ae.resolve_left (by rintro⟨h,_⟩;exact aa h);have ce:(eT T [40] s).aC≠0:=by rw[h_.2.1];exact aa
  have ag:=Be (T:=T) ce cg 0 Z Z;have gH: ∀l,nr T cg l (eT T [40] s)=some (l,gp T [41] (eT T [40] s)):=λl=>by
   obtain⟨cg,rfl⟩: ∃m,cg=m+1:=⟨cg-1,Z⟩;simp[nr,hv ce]
  refine⟨([],(eI T [40] s).2),_,by simp[rQ,U],by simp only[pP,hv ce,bj,ag,Option.bind_some,gH];rfl,?_,?_⟩
  ·refine .inr ⟨aa,?_,?_⟩<;>simp[gp,cr,hv ce,iP ce,ga,h_.2.1,h_.2.2]
  ·simp only[rf aa];omega
end
section
theorem QX{T:List Tok}(aH:T.length<=40000000){k:Nat}(aT: ∀j,j<k->qR T j){lev:Nat}(oX:lev<5): ∀(c n cg:Nat) (s s':aA) (e cN:bp),left T s<=c->c<=k->30*c+10<=n->30*c+10<=cg->ho s s'->(s.aC=0->cN=e)->h4 T s (lM T n lev e s) (rD T cg lev cN s')
 |c,0,cg,s,s',e,cN,U,aa,ae,h_,am,aB=>Z
 |c,n+1,0,s,s',e,cN,U,aa,ae,h_,am,aB=>Z
 |c,n+1,cg+1,s,s',e,cN,U,aa,ae,h_,am,aB=>by
  by_cases al:s.aC=0
  ·obtain⟨_,rfl⟩:s.aC=0/\s'=s:=am.resolve_right (by rintro⟨h,_⟩;exact h al);cases aB al;have ah:=abz (T:=T) al oX;have ax:(s'.aC==0)=true:=by simpa using al
   by_cases cn:ml T lev s'=0
   ·have wl:(jQ lev (ar T s'.at_) != 0)=false:=by rw[<-ah];simpa using cn
    exact⟨(e,s'),(e,s'),by simp[lM,cn],by simp[rD,ax,wl],.inl ⟨al,rfl⟩,bN _⟩
   ·have wl:(jQ lev (ar T s'.at_) != 0)=true:=by rw[<-ah];simpa using cn
    have bz:(ar T s'.at_).kind≠0:=by
     intro aY;exact cn (JM (by rw[aY];decide) _)
    have aZ:=rn aH al bz;obtain⟨p,q,g1,g2,g3,g4⟩:=aT (c-1) Z (aF s') Z (lev+1) n cg Z Z Z;have:=QX aH aT oX (c-1) n cg p.2 q.2 (.mk {kind:=ml T lev s',pos:=(ar T s'.at_).pos} [e,p.1]) (.mk {kind:=jQ lev (ar T s'.at_),pos:=(ar T s'.at_).pos} [e,q.1]) Z Z Z Z g3.st (λbw=>by
     rcases g3 with⟨_,rfl⟩|⟨h,_⟩
     ·rw[ah]
     ·exact absurd bw h)
    have:=this.le (s0:=s') Z;simpa [lM,cn,rD,ax,wl,g1,g2] using this
  ·have e1:s'.aC≠0:=by
    rcases am with⟨h,_⟩|⟨_,h,_⟩
    ·exact absurd h al
    ·rw[h];exact al
   exact⟨(e,s),(cN,s'),Pm al (n+1) Z lev e,OE e1 (cg+1) Z lev cN,e8.of am λh=>absurd h al,bN _⟩
end
end Go.Proofs.YtghmbpmaafnodaaGreatDoor

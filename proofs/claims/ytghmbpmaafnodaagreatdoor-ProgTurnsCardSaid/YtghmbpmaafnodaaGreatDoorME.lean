/- Part. -/
import Derived.Test.YtghmbpmaafnodaaGreatDoorMD
import Derived.ProofKit
import Derived.OpenShut
import Derived.ShutString
import Derived.ChangeOld
import Derived.Below
import Derived.Carry
set_option linter.defProp false
open Option renaming some→I,none→u,bind_some→ef
open Bool renaming true→Y,false→X,and_false→bc,true_and→cd,false_and→de,or_self→fg,and_self→gh,not_false→hi,not_true→ij,and_true→jk
namespace Go.Proofs.YtghmbpmaafnodaaGreatDoor
open Go.bk
def Nu:x P 3=I false:=M
def N_:cS P 3=I 1:=M
def Nw:x P 4=I false:=M
def Ob:cS P 4=I 1:=M
def F9{c:Bool}(a b:Bool):w P .eql 4 c (.bool a) (.bool b)=I (.bool (a==b)):=M
def KG{c:Bool}(a b:Bool):w P .neq 4 c (.bool a) (.bool b)=I (.bool (!(a==b))):=M
def NB:x P 5=I false:=M
def Oe:cS P 5=I 1:=M
def NG:x P 9=I false:=M
def Oh:cS P 9=I 1:=M
def J8{H:ad}{s:List UInt8}:bK P H .len [9] [.str s]=I (.int .i64 s.length):=M
def No:x P 22=I false:=M
def N4:cS P 22=I 1:=M
def Sh(l i n:Nat)(cap:Option Nat)(k:Int):bX P 22 (.ax l i n 3 cap) (.int .i64 k)=if 3=3/\0<=k/\k<n then I (.ptr l (i+k.toNat) 0)else none:=M
def A2{l i n:Nat}{cap:Option Nat}{k:Int}(a:0<=k)(c:k<n):bX P 22 (.ax l i n 3 cap) (.int .i64 k)=I (.ptr l (i+k.toNat) 0):=by rw[Sh,if_pos ⟨rfl,a,c⟩]
def tj{H:ad}{l i n e:Nat}{cap:Option Nat}:bK P H .len [22] [.ax l i n e cap]=I (.int .i64 n):=M
def vN{H:ad}:bK P H .len [22] [.ag]=I (.int .i64 0):=M
def Np:x P 23=I false:=M
def N5:cS P 23=I 1:=M
def Si(l i n:Nat)(cap:Option Nat)(k:Int):bX P 23 (.ax l i n 4 cap) (.int .i64 k)=if 4=4/\0<=k/\k<n then I (.ptr l (i+k.toNat) 0)else none:=M
def A3{l i n:Nat}{cap:Option Nat}{k:Int}(a:0<=k)(c:k<n):bX P 23 (.ax l i n 4 cap) (.int .i64 k)=I (.ptr l (i+k.toNat) 0):=by rw[Si,if_pos ⟨rfl,a,c⟩]
def tk{H:ad}{l i n e:Nat}{cap:Option Nat}:bK P H .len [23] [.ax l i n e cap]=I (.int .i64 n):=M
def vO{H:ad}:bK P H .len [23] [.ag]=I (.int .i64 0):=M
def Nq:x P 24=I false:=M
def N6:cS P 24=I 1:=M
def Sj(l i n:Nat)(cap:Option Nat)(k:Int):bX P 24 (.ax l i n 7 cap) (.int .i64 k)=if 7=7/\0<=k/\k<n then I (.ptr l (i+k.toNat) 0)else none:=M
def I1{l i n:Nat}{cap:Option Nat}{k:Int}(a:0<=k)(c:k<n):bX P 24 (.ax l i n 7 cap) (.int .i64 k)=I (.ptr l (i+k.toNat) 0):=by rw[Sj,if_pos ⟨rfl,a,c⟩]
def tl{H:ad}{l i n e:Nat}{cap:Option Nat}:bK P H .len [24] [.ax l i n e cap]=I (.int .i64 n):=M
def vP{H:ad}:bK P H .len [24] [.ag]=I (.int .i64 0):=M
def Nr:x P 26=I true:=M
def N7:cS P 26=I 3:=M
def GG(l i c:Nat):j P 26 (.ptr l i c) 0=I (.ptr l i (c+0)):=M
def H7(a0 aI a2:aa):ca P 26 (.agg [a0,aI,a2]) 0=I a0:=M
def GI(l i c:Nat):j P 26 (.ptr l i c) 1=I (.ptr l i (c+1)):=M
def H8(a0 aI a2:aa):ca P 26 (.agg [a0,aI,a2]) 1=I aI:=M
def GJ(l i c:Nat):j P 26 (.ptr l i c) 2=I (.ptr l i (c+2)):=M
def H9(a0 aI a2:aa):ca P 26 (.agg [a0,aI,a2]) 2=I a2:=M
def Ns:x P 27=I false:=M
def N8:cS P 27=I 1:=M
def Nt:x P 29=I true:=M
def N9:cS P 29=I 2:=M
def Ax(l i c:Nat):j P 29 (.ptr l i c) 0=I (.ptr l i (c+0)):=M
def H_(a0 aI:aa):ca P 29 (.agg [a0,aI]) 0=I a0:=M
def GK(l i c:Nat):j P 29 (.ptr l i c) 1=I (.ptr l i (c+1)):=M
def Ia(a0 aI:aa):ca P 29 (.agg [a0,aI]) 1=I aI:=M
def Nv:x P 35=I false:=M
def Oa:cS P 35=I 1:=M
def Sk(l i n:Nat)(cap:Option Nat)(k:Int):bX P 35 (.ax l i n 1 cap) (.int .i64 k)=if 1=1/\0<=k/\k<n then I (.ptr l (i+k.toNat) 0)else none:=M
def A4{l i n:Nat}{cap:Option Nat}{k:Int}(a:0<=k)(c:k<n):bX P 35 (.ax l i n 1 cap) (.int .i64 k)=I (.ptr l (i+k.toNat) 0):=by rw[Sk,if_pos ⟨rfl,a,c⟩]
def J4{H:ad}{l i n e:Nat}{cap:Option Nat}:bK P H .len [35] [.ax l i n e cap]=I (.int .i64 n):=M
def J5{H:ad}:bK P H .len [35] [.ag]=I (.int .i64 0):=M
def Nx:x P 41=I true:=M
def Dz:cS P 41=I 3:=M
def GL(l i c:Nat):j P 41 (.ptr l i c) 0=I (.ptr l i (c+0)):=M
def Ib(a0 aI a2:aa):ca P 41 (.agg [a0,aI,a2]) 0=I a0:=M
def GM(l i c:Nat):j P 41 (.ptr l i c) 1=I (.ptr l i (c+1)):=M
def Ic(a0 aI a2:aa):ca P 41 (.agg [a0,aI,a2]) 1=I aI:=M
def GN(l i c:Nat):j P 41 (.ptr l i c) 2=I (.ptr l i (c+2)):=M
def Ie(a0 aI a2:aa):ca P 41 (.agg [a0,aI,a2]) 2=I a2:=M
def Ny:x P 43=I true:=M
def Oc:cS P 43=I 2:=M
def GO(l i c:Nat):j P 43 (.ptr l i c) 0=I (.ptr l i (c+0)):=M
def If(a0 aI:aa):ca P 43 (.agg [a0,aI]) 0=I a0:=M
def GP(l i c:Nat):j P 43 (.ptr l i c) 1=I (.ptr l i (c+1)):=M
def Ig(a0 aI:aa):ca P 43 (.agg [a0,aI]) 1=I aI:=M
def Dj:x P 44=I false:=M
def sy:cS P 44=I 1:=M
def Sl(l i n:Nat)(cap:Option Nat)(k:Int):bX P 44 (.ax l i n 9 cap) (.int .i64 k)=if 9=9/\0<=k/\k<n then I (.ptr l (i+k.toNat) 0)else none:=M
def I2{l i n:Nat}{cap:Option Nat}{k:Int}(a:0<=k)(c:k<n):bX P 44 (.ax l i n 9 cap) (.int .i64 k)=I (.ptr l (i+k.toNat) 0):=by rw[Sl,if_pos ⟨rfl,a,c⟩]
def vQ{H:ad}{l i n e:Nat}{cap:Option Nat}:bK P H .len [44] [.ax l i n e cap]=I (.int .i64 n):=M
def Bt{H:ad}:bK P H .len [44] [.ag]=I (.int .i64 0):=M
def Nz:x P 46=I true:=M
def DA:cS P 46=I 7:=M
def GQ(l i c:Nat):j P 46 (.ptr l i c) 0=I (.ptr l i (c+0)):=M
def Ih(a0 aI a2 a3 a4 a5 a:aa):ca P 46 (.agg [a0,aI,a2,a3,a4,a5,a]) 0=I a0:=M
def GR(l i c:Nat):j P 46 (.ptr l i c) 1=I (.ptr l i (c+1)):=M
def Ii(a0 aI a2 a3 a4 a5 a:aa):ca P 46 (.agg [a0,aI,a2,a3,a4,a5,a]) 1=I aI:=M
def GS(l i c:Nat):j P 46 (.ptr l i c) 2=I (.ptr l i (c+2)):=M
def Ij(a0 aI a2 a3 a4 a5 a:aa):ca P 46 (.agg [a0,aI,a2,a3,a4,a5,a]) 2=I a2:=M
def GU(l i c:Nat):j P 46 (.ptr l i c) 3=I (.ptr l i (c+3)):=M
def Ik(a0 aI a2 a3 a4 a5 a:aa):ca P 46 (.agg [a0,aI,a2,a3,a4,a5,a]) 3=I (.agg [a3,a4]):=M
def GV(l i c:Nat):j P 46 (.ptr l i c) 4=I (.ptr l i (c+5)):=M
def Il(a0 aI a2 a3 a4 a5 a:aa):ca P 46 (.agg [a0,aI,a2,a3,a4,a5,a]) 4=I a5:=M
def GW(l i c:Nat):j P 46 (.ptr l i c) 5=I (.ptr l i (c+6)):=M
def Im(a0 aI a2 a3 a4 a5 a:aa):ca P 46 (.agg [a0,aI,a2,a3,a4,a5,a]) 5=I a:=M
def NA:x P 48=I false:=M
def Od:cS P 48=I 1:=M
def Sm(l i n:Nat)(cap:Option Nat)(k:Int):bX P 48 (.ax l i n 1 cap) (.int .i64 k)=if 1=1/\0<=k/\k<n then I (.ptr l (i+k.toNat) 0)else none:=M
def A5{l i n:Nat}{cap:Option Nat}{k:Int}(a:0<=k)(c:k<n):bX P 48 (.ax l i n 1 cap) (.int .i64 k)=I (.ptr l (i+k.toNat) 0):=by rw[Sm,if_pos ⟨rfl,a,c⟩]
def J6{H:ad}{l i n e:Nat}{cap:Option Nat}:bK P H .len [48] [.ax l i n e cap]=I (.int .i64 n):=M
def J7{H:ad}:bK P H .len [48] [.ag]=I (.int .i64 0):=M
def NC:x P 50=I false:=M
def Of:cS P 50=I 1:=M
def Sn(l i n:Nat)(cap:Option Nat)(k:Int):bX P 50 (.ax l i n 4 cap) (.int .i64 k)=if 4=4/\0<=k/\k<n then I (.ptr l (i+k.toNat) 0)else none:=M
def vC{l i n:Nat}{cap:Option Nat}{k:Int}(a:0<=k)(c:k<n):bX P 50 (.ax l i n 4 cap) (.int .i64 k)=I (.ptr l (i+k.toNat) 0):=by rw[Sn,if_pos ⟨rfl,a,c⟩]
def qY{H:ad}{l i n e:Nat}{cap:Option Nat}:bK P H .len [50] [.ax l i n e cap]=I (.int .i64 n):=M
def vR{H:ad}:bK P H .len [50] [.ag]=I (.int .i64 0):=M
def ND:x P 55=I true:=M
def Og:cS P 55=I 7:=M
def GX(l i c:Nat):j P 55 (.ptr l i c) 0=I (.ptr l i (c+0)):=M
def Io(a0 aI a2 a3 a4 a5 a:aa):ca P 55 (.agg [a0,aI,a2,a3,a4,a5,a]) 0=I a0:=M
def GY(l i c:Nat):j P 55 (.ptr l i c) 1=I (.ptr l i (c+1)):=M
def Ip(a0 aI a2 a3 a4 a5 a:aa):ca P 55 (.agg [a0,aI,a2,a3,a4,a5,a]) 1=I aI:=M
def GZ(l i c:Nat):j P 55 (.ptr l i c) 2=I (.ptr l i (c+2)):=M
def Iq(a0 aI a2 a3 a4 a5 a:aa):ca P 55 (.agg [a0,aI,a2,a3,a4,a5,a]) 2=I (.agg [a2,a3,a4]):=M
def G0(l i c:Nat):j P 55 (.ptr l i c) 3=I (.ptr l i (c+5)):=M
def Ir(a0 aI a2 a3 a4 a5 a:aa):ca P 55 (.agg [a0,aI,a2,a3,a4,a5,a]) 3=I (.agg [a5,a]):=M
def NE:x P 57=I true:=M
def zf:cS P 57=I 4:=M
def vs(l i c:Nat):j P 57 (.ptr l i c) 0=I (.ptr l i (c+0)):=M
def Is(a0 aI a2 a3:aa):ca P 57 (.agg [a0,aI,a2,a3]) 0=I a0:=M
def Ay(l i c:Nat):j P 57 (.ptr l i c) 1=I (.ptr l i (c+1)):=M
def It(a0 aI a2 a3:aa):ca P 57 (.agg [a0,aI,a2,a3]) 1=I aI:=M
def G1(l i c:Nat):j P 57 (.ptr l i c) 2=I (.ptr l i (c+2)):=M
def Iu(a0 aI a2 a3:aa):ca P 57 (.agg [a0,aI,a2,a3]) 2=I a2:=M
def G2(l i c:Nat):j P 57 (.ptr l i c) 3=I (.ptr l i (c+3)):=M
def AE(a0 aI a2 a3:aa):ca P 57 (.agg [a0,aI,a2,a3]) 3=I a3:=M
def s6(l i c:Nat):j P 63 (.ptr l i c) 0=I (.ptr l i (c+0)):=M
def Iv(a0 aI a2 a3 a4:aa):ca P 63 (.agg [a0,aI,a2,a3,a4]) 0=I a0:=M
def qF(l i c:Nat):j P 63 (.ptr l i c) 1=I (.ptr l i (c+1)):=M
def Iw(a0 aI a2 a3 a4:aa):ca P 63 (.agg [a0,aI,a2,a3,a4]) 1=I aI:=M
def G3(l i c:Nat):j P 63 (.ptr l i c) 2=I (.ptr l i (c+2)):=M
def Ix(a0 aI a2 a3 a4:aa):ca P 63 (.agg [a0,aI,a2,a3,a4]) 2=I a2:=M
def G4(l i c:Nat):j P 63 (.ptr l i c) 3=I (.ptr l i (c+3)):=M
def Iy(a0 aI a2 a3 a4:aa):ca P 63 (.agg [a0,aI,a2,a3,a4]) 3=I (.agg [a3,a4]):=M
def NF:x P 66=I true:=M
def DB:cS P 66=I 4:=M
def G5(l i c:Nat):j P 66 (.ptr l i c) 0=I (.ptr l i (c+0)):=M
def Iz(a0 aI a2 a3:aa):ca P 66 (.agg [a0,aI,a2,a3]) 0=I a0:=M
def G6(l i c:Nat):j P 66 (.ptr l i c) 1=I (.ptr l i (c+1)):=M
def IA(a0 aI a2 a3:aa):ca P 66 (.agg [a0,aI,a2,a3]) 1=I (.agg [aI,a2]):=M
def G7(l i c:Nat):j P 66 (.ptr l i c) 2=I (.ptr l i (c+3)):=M
def IB(a0 aI a2 a3:aa):ca P 66 (.agg [a0,aI,a2,a3]) 2=I a3:=M
def NH:x P 96=I false:=M
def Oi:cS P 96=I 1:=M
def So(l i n:Nat)(cap:Option Nat)(k:Int):bX P 96 (.ax l i n 11 cap) (.int .i64 k)=if 11=11/\0<=k/\k<n then I (.ptr l (i+k.toNat) 0)else none:=M
def I3{l i n:Nat}{cap:Option Nat}{k:Int}(a:0<=k)(c:k<n):bX P 96 (.ax l i n 11 cap) (.int .i64 k)=I (.ptr l (i+k.toNat) 0):=by rw[So,if_pos ⟨rfl,a,c⟩]
def m9{H:ad}{l i n e:Nat}{cap:Option Nat}:bK P H .len [96] [.ax l i n e cap]=I (.int .i64 n):=M
def tm{H:ad}:bK P H .len [96] [.ag]=I (.int .i64 0):=M
def Dk:x P 98=I true:=M
def sz:cS P 98=I 9:=M
def G8(l i c:Nat):j P 98 (.ptr l i c) 0=I (.ptr l i (c+0)):=M
def IC(a0 aI a2 a3 a4 a5 a c d:aa):ca P 98 (.agg [a0,aI,a2,a3,a4,a5,a,c,d]) 0=I a0:=M
def G9(l i c:Nat):j P 98 (.ptr l i c) 1=I (.ptr l i (c+1)):=M
def ID(a0 aI a2 a3 a4 a5 a c d:aa):ca P 98 (.agg [a0,aI,a2,a3,a4,a5,a,c,d]) 1=I aI:=M
def G_(l i c:Nat):j P 98 (.ptr l i c) 2=I (.ptr l i (c+2)):=M
def IE(a0 aI a2 a3 a4 a5 a c d:aa):ca P 98 (.agg [a0,aI,a2,a3,a4,a5,a,c,d]) 2=I (.agg [a2,a3]):=M
def Ha(l i c:Nat):j P 98 (.ptr l i c) 3=I (.ptr l i (c+4)):=M
def IF(a0 aI a2 a3 a4 a5 a c d:aa):ca P 98 (.agg [a0,aI,a2,a3,a4,a5,a,c,d]) 3=I a4:=M
def Hb(l i c:Nat):j P 98 (.ptr l i c) 4=I (.ptr l i (c+5)):=M
def IG(a0 aI a2 a3 a4 a5 a c d:aa):ca P 98 (.agg [a0,aI,a2,a3,a4,a5,a,c,d]) 4=I a5:=M
def Hc(l i c:Nat):j P 98 (.ptr l i c) 5=I (.ptr l i (c+6)):=M
def IH(a0 aI a2 a3 a4 a5 a c d:aa):ca P 98 (.agg [a0,aI,a2,a3,a4,a5,a,c,d]) 5=I a:=M
def Hd(l i c:Nat):j P 98 (.ptr l i c) 6=I (.ptr l i (c+7)):=M
def II(a0 aI a2 a3 a4 a5 c a d:aa):ca P 98 (.agg [a0,aI,a2,a3,a4,a5,c,a,d]) 6=I a:=M
def He(l i c:Nat):j P 98 (.ptr l i c) 7=I (.ptr l i (c+8)):=M
def IK(a0 aI a2 a3 a4 a5 c d a:aa):ca P 98 (.agg [a0,aI,a2,a3,a4,a5,c,d,a]) 7=I a:=M
def Nf:x P 101=I true:=M
def NX:cS P 101=I 3:=M
def Gm(l i c:Nat):j P 101 (.ptr l i c) 0=I (.ptr l i (c+0)):=M
def HJ(a0 aI a2:aa):ca P 101 (.agg [a0,aI,a2]) 0=I a0:=M
def Gn(l i c:Nat):j P 101 (.ptr l i c) 1=I (.ptr l i (c+1)):=M
def HK(a0 aI a2:aa):ca P 101 (.agg [a0,aI,a2]) 1=I aI:=M
def Gp(l i c:Nat):j P 101 (.ptr l i c) 2=I (.ptr l i (c+2)):=M
def HL(a0 aI a2:aa):ca P 101 (.agg [a0,aI,a2]) 2=I a2:=M
def Ng:x P 103=I true:=M
def ze:cS P 103=I 11:=M
def Gq(l i c:Nat):j P 103 (.ptr l i c) 0=I (.ptr l i (c+0)):=M
def HM(a0 aI a2 a3 a4 a5 c d e a9 a:aa):ca P 103 (.agg [a0,aI,a2,a3,a4,a5,c,d,e,a9,a]) 0=I a0:=M
def Gr(l i c:Nat):j P 103 (.ptr l i c) 1=I (.ptr l i (c+1)):=M
def HN(a0 aI a2 a3 a4 a5 c d e a9 a:aa):ca P 103 (.agg [a0,aI,a2,a3,a4,a5,c,d,e,a9,a]) 1=I aI:=M
def Gs(l i c:Nat):j P 103 (.ptr l i c) 2=I (.ptr l i (c+2)):=M
def HO(a0 aI a2 a3 a4 a5 c d e a9 a:aa):ca P 103 (.agg [a0,aI,a2,a3,a4,a5,c,d,e,a9,a]) 2=I a2:=M
def Gt(l i c:Nat):j P 103 (.ptr l i c) 3=I (.ptr l i (c+3)):=M
def HP(a0 aI a2 a3 a4 a5 c d e a9 a:aa):ca P 103 (.agg [a0,aI,a2,a3,a4,a5,c,d,e,a9,a]) 3=I (.agg [a3,a4]):=M
def Gu(l i c:Nat):j P 103 (.ptr l i c) 4=I (.ptr l i (c+5)):=M
def HQ(a0 aI a2 a3 a4 a5 c d e a9 a:aa):ca P 103 (.agg [a0,aI,a2,a3,a4,a5,c,d,e,a9,a]) 4=I a5:=M
def Gv(l i c:Nat):j P 103 (.ptr l i c) 5=I (.ptr l i (c+6)):=M
def HR(a0 aI a2 a3 a4 a5 a d e a9 c:aa):ca P 103 (.agg [a0,aI,a2,a3,a4,a5,a,d,e,a9,c]) 5=I a:=M
def Gw(l i c:Nat):j P 103 (.ptr l i c) 6=I (.ptr l i (c+7)):=M
def HS(a0 aI a2 a3 a4 a5 e a c a9 d:aa):ca P 103 (.agg [a0,aI,a2,a3,a4,a5,e,a,c,a9,d]) 6=I (.agg [a,c,a9]):=M
def Gx(l i c:Nat):j P 103 (.ptr l i c) 7=I (.ptr l i (c+10)):=M
def HT(a0 aI a2 a3 a4 a5 c d e a9 a:aa):ca P 103 (.agg [a0,aI,a2,a3,a4,a5,c,d,e,a9,a]) 7=I a:=M
def Gy(l i c:Nat):j P 112 (.ptr l i c) 0=I (.ptr l i (c+0)):=M
def HU(a0 aI a2 a3 a4:aa):ca P 112 (.agg [a0,aI,a2,a3,a4]) 0=I a0:=M
def Gz(l i c:Nat):j P 112 (.ptr l i c) 1=I (.ptr l i (c+1)):=M
def HV(a0 aI a2 a3 a4:aa):ca P 112 (.agg [a0,aI,a2,a3,a4]) 1=I aI:=M
def GA(l i c:Nat):j P 112 (.ptr l i c) 2=I (.ptr l i (c+2)):=M
def HW(a0 aI a2 a3 a4:aa):ca P 112 (.agg [a0,aI,a2,a3,a4]) 2=I a2:=M
def GB(l i c:Nat):j P 112 (.ptr l i c) 3=I (.ptr l i (c+3)):=M
def HX(a0 aI a2 a3 a4:aa):ca P 112 (.agg [a0,aI,a2,a3,a4]) 3=I (.agg [a3,a4]):=M
def Nh:x P 131=I false:=M
def NY:cS P 131=I 1:=M
def Sd(l i n:Nat)(cap:Option Nat)(k:Int):bX P 131 (.ax l i n 1 cap) (.int .i64 k)=if 1=1/\0<=k/\k<n then I (.ptr l (i+k.toNat) 0)else none:=M
def I0{l i n:Nat}{cap:Option Nat}{k:Int}(a:0<=k)(c:k<n):bX P 131 (.ax l i n 1 cap) (.int .i64 k)=I (.ptr l (i+k.toNat) 0):=by rw[Sd,if_pos ⟨rfl,a,c⟩]
def Bs{H:ad}{l i n e:Nat}{cap:Option Nat}:bK P H .len [131] [.ax l i n e cap]=I (.int .i64 n):=M
def JX{H:ad}:bK P H .len [131] [.ag]=I (.int .i64 0):=M
def Ni:x P 133=I true:=M
def NZ:cS P 133=I 6:=M
def s4(l i c:Nat):j P 133 (.ptr l i c) 0=I (.ptr l i (c+0)):=M
def HY(a0 aI a2 a3 a4 a5:aa):ca P 133 (.agg [a0,aI,a2,a3,a4,a5]) 0=I a0:=M
def m2(l i c:Nat):j P 133 (.ptr l i c) 1=I (.ptr l i (c+1)):=M
def HZ(a0 aI a2 a3 a4 a5:aa):ca P 133 (.agg [a0,aI,a2,a3,a4,a5]) 1=I aI:=M
def s5(l i c:Nat):j P 133 (.ptr l i c) 2=I (.ptr l i (c+2)):=M
def H2(a0 aI a2 a3 a4 a5:aa):ca P 133 (.agg [a0,aI,a2,a3,a4,a5]) 2=I a2:=M
def GC(l i c:Nat):j P 133 (.ptr l i c) 3=I (.ptr l i (c+3)):=M
def H3(a0 aI a2 a3 a4 a5:aa):ca P 133 (.agg [a0,aI,a2,a3,a4,a5]) 3=I a3:=M
def vr(l i c:Nat):j P 133 (.ptr l i c) 4=I (.ptr l i (c+4)):=M
def H4(a0 aI a2 a3 a4 a5:aa):ca P 133 (.agg [a0,aI,a2,a3,a4,a5]) 4=I (.agg [a4,a5]):=M
def Nj:x P 163=I false:=M
def N0:cS P 163=I 1:=M
def Se(l i n:Nat)(cap:Option Nat)(k:Int):bX P 163 (.ax l i n 1 cap) (.int .i64 k)=if 1=1/\0<=k/\k<n then I (.ptr l (i+k.toNat) 0)else none:=M
def AZ{l i n:Nat}{cap:Option Nat}{k:Int}(a:0<=k)(c:k<n):bX P 163 (.ax l i n 1 cap) (.int .i64 k)=I (.ptr l (i+k.toNat) 0):=by rw[Se,if_pos ⟨rfl,a,c⟩]
def JY{H:ad}{l i n e:Nat}{cap:Option Nat}:bK P H .len [163] [.ax l i n e cap]=I (.int .i64 n):=M
def JZ{H:ad}:bK P H .len [163] [.ag]=I (.int .i64 0):=M
def Nk:x P 164=I false:=M
def N1:cS P 164=I 1:=M
def Sf(l i n:Nat)(cap:Option Nat)(k:Int):bX P 164 (.ax l i n 1 cap) (.int .i64 k)=if 1=1/\0<=k/\k<n then I (.ptr l (i+k.toNat) 0)else none:=M
def A0{l i n:Nat}{cap:Option Nat}{k:Int}(a:0<=k)(c:k<n):bX P 164 (.ax l i n 1 cap) (.int .i64 k)=I (.ptr l (i+k.toNat) 0):=by rw[Sf,if_pos ⟨rfl,a,c⟩]
def J0{H:ad}{l i n e:Nat}{cap:Option Nat}:bK P H .len [164] [.ax l i n e cap]=I (.int .i64 n):=M
def J1{H:ad}:bK P H .len [164] [.ag]=I (.int .i64 0):=M
def Nl:x P 199=I true:=M
def N2:cS P 199=I 2:=M
def GD(l i c:Nat):j P 199 (.ptr l i c) 0=I (.ptr l i (c+0)):=M
def H5(a0 aI:aa):ca P 199 (.agg [a0,aI]) 0=I a0:=M
def GF(l i c:Nat):j P 199 (.ptr l i c) 1=I (.ptr l i (c+1)):=M
def H6(a0 aI:aa):ca P 199 (.agg [a0,aI]) 1=I aI:=M
def Nn:x P 200=I false:=M
def N3:cS P 200=I 1:=M
def Sg(l i n:Nat)(cap:Option Nat)(k:Int):bX P 200 (.ax l i n 2 cap) (.int .i64 k)=if 2=2/\0<=k/\k<n then I (.ptr l (i+k.toNat) 0)else none:=M
def A1{l i n:Nat}{cap:Option Nat}{k:Int}(a:0<=k)(c:k<n):bX P 200 (.ax l i n 2 cap) (.int .i64 k)=I (.ptr l (i+k.toNat) 0):=by rw[Sg,if_pos ⟨rfl,a,c⟩]
def J2{H:ad}{l i n e:Nat}{cap:Option Nat}:bK P H .len [200] [.ax l i n e cap]=I (.int .i64 n):=M
def J3{H:ad}:bK P H .len [200] [.ag]=I (.int .i64 0):=M
def E4:bA P 26 [(0,aa.ag)]=I (.agg [aa.ag,aa.ag,aa.ag]):=M
def z7(e:Nat)(d:Nat)(h:Nat)(c:Nat)(a:Option Nat):bA P 26 [(0,(.ax e d h c a))]=I (.agg [.ax e d h c a,aa.ag,aa.ag]):=M
def E5:bA P 26 [(1,aa.ag)]=I (.agg [aa.ag,aa.ag,aa.ag]):=M
def z8(e:Nat)(d:Nat)(h:Nat)(c:Nat)(a:Option Nat):bA P 26 [(1,(.ax e d h c a))]=I (.agg [aa.ag,.ax e d h c a,aa.ag]):=M
def E6:bA P 26 [(2,aa.ag)]=I (.agg [aa.ag,aa.ag,aa.ag]):=M
def z_(e:Nat)(d:Nat)(h:Nat)(c:Nat)(a:Option Nat):bA P 26 [(2,(.ax e d h c a))]=I (.agg [aa.ag,aa.ag,.ax e d h c a]):=M
def Aa(a0:Int)(aI:Int):bA P 29 [(0,(.int .i64 a0)),(1,(.int .i64 aI))]=I (.agg [.int .i64 a0,.int .i64 aI]):=M
def Ff:bA P 55 [(0,aa.ag)]=I (.agg [aa.ag,.int .i64 0,aa.ag,aa.ag,aa.ag,.int .i64 0,.int .i64 0]):=M
def Fg(e:Nat)(d:Nat)(h:Nat)(c:Nat)(a:Option Nat):bA P 55 [(0,(.ax e d h c a))]=I (.agg [.ax e d h c a,.int .i64 0,aa.ag,aa.ag,aa.ag,.int .i64 0,.int .i64 0]):=M
def Fo:bA P 63 [(0,aa.ag)]=I (.agg [aa.ag,.int .i64 0,.int .i64 0,.int .i64 0,.int .i64 0]):=M
def Fp(e:Nat)(d:Nat)(h:Nat)(c:Nat)(a:Option Nat):bA P 63 [(0,(.ax e d h c a))]=I (.agg [.ax e d h c a,.int .i64 0,.int .i64 0,.int .i64 0,.int .i64 0]):=M
def E7(a0:Int):bA P 29 [(0,(.int .i64 a0))]=I (.agg [.int .i64 a0,.int .i64 0]):=M
def Fm(a0:Int)(a3:Int):bA P 57 [(0,(.int .i64 a0)),(3,(.int .i64 a3))]=I (.agg [.int .i64 a0,.str [],.int .i64 0,.int .i64 a3]):=M
def E8(a0:List UInt8)(a2:Int):bA P 41 [(0,(.str a0)),(2,(.int .i64 a2))]=I (.agg [.str a0,aa.ag,.int .i64 a2]):=M
def Fc(a0:List UInt8)(a5:Int):bA P 46 [(0,(.str a0)),(5,(.int .i64 a5))]=I (.agg [.str a0,aa.ag,.bool X,.str [],.int .i64 0,aa.ag,.int .i64 a5]):=M
def Fh(a0:Int):bA P 57 [(0,(.int .i64 a0))]=I (.agg [.int .i64 a0,.str [],.int .i64 0,.int .i64 0]):=M
def E9(a2:Int):bA P 41 [(2,(.int .i64 a2))]=I (.agg [.str [],aa.ag,.int .i64 a2]):=M
def Fr(a2:Int):bA P 66 [(2,(.int .i64 a2))]=I (.agg [.str [],.str [],.int .i64 0,.int .i64 a2]):=M
def Fe(a5:Int):bA P 46 [(5,(.int .i64 a5))]=I (.agg [.str [],aa.ag,.bool X,.str [],.int .i64 0,aa.ag,.int .i64 a5]):=M
def Fi(a0:Int)(aI:List UInt8):bA P 57 [(0,(.int .i64 a0)),(1,(.str aI))]=I (.agg [.int .i64 a0,.str aI,.int .i64 0,.int .i64 0]):=M
def Fq(a0:List UInt8)(a:List UInt8)(c:Int)(a2:Int):bA P 66 [(0,(.str a0)),(1,(.agg [.str a,.int .i64 c])),(2,(.int .i64 a2))]=I (.agg [.str a0,.str a,.int .i64 c,.int .i64 a2]):=M
def EV(aI:Int)(a2:Int):bA P 112 [(0,aa.ag),(1,(.int .i64 aI)),(2,(.int .i64 a2))]=I (.agg [aa.ag,.int .i64 aI,.int .i64 a2,.int .i64 0,.int .i64 0]):=M
def EW(e:Nat)(d:Nat)(h:Nat)(c:Nat)(a:Option Nat)(aI:Int)(a2:Int):bA P 112 [(0,(.ax e d h c a)),(1,(.int .i64 aI)),(2,(.int .i64 a2))]=I (.agg [.ax e d h c a,.int .i64 aI,.int .i64 a2,.int .i64 0,.int .i64 0]):=M
def Fj(a0:Int)(aI:List UInt8)(a3:Int):bA P 57 [(0,(.int .i64 a0)),(1,(.str aI)),(3,(.int .i64 a3))]=I (.agg [.int .i64 a0,.str aI,.int .i64 0,.int .i64 a3]):=M
def Fl(a0:Int)(a2:Int)(a3:Int):bA P 57 [(0,(.int .i64 a0)),(2,(.int .i64 a2)),(3,(.int .i64 a3))]=I (.agg [.int .i64 a0,.str [],.int .i64 a2,.int .i64 a3]):=M
def Fb(aI:Int):bA P 43 [(1,(.int .i64 aI))]=I (.agg [.str [],.int .i64 aI]):=M
def Fk(a0:Int)(a2:Int):bA P 57 [(0,(.int .i64 a0)),(2,(.int .i64 a2))]=I (.agg [.int .i64 a0,.str [],.int .i64 a2,.int .i64 0]):=M
def E1(aI:Int):bA P 133 [(0,aa.ag),(1,(.int .i64 aI))]=I (.agg [aa.ag,.int .i64 aI,.int .i64 0,aa.ag,.int .i64 0,.int .i64 0]):=M
def E2(e:Nat)(d:Nat)(h:Nat)(c:Nat)(a:Option Nat)(aI:Int):bA P 133 [(0,(.ax e d h c a)),(1,(.int .i64 aI))]=I (.agg [.ax e d h c a,.int .i64 aI,.int .i64 0,aa.ag,.int .i64 0,.int .i64 0]):=M
def FE(a:Int):bA P 98 [(6,(.int .i64 a))]=I (.agg [.int .i64 0,.str [],.str [],.int .i64 0,aa.ag,aa.ag,aa.ag,.int .i64 a,.int .i64 0]):=M
def Fa(a0:List UInt8)(aI:Int):bA P 43 [(0,(.str a0)),(1,(.int .i64 aI))]=I (.agg [.str a0,.int .i64 aI]):=M
def ES(a0:Int)(a5:Int):bA P 103 [(0,(.int .i64 a0)),(4,aa.ag),(5,(.int .i64 a5))]=I (.agg [.int .i64 a0,.int .i64 0,.str [],.str [],.int .i64 0,aa.ag,.int .i64 a5,.int .i64 0,.int .i64 0,.int .i64 0,.int .i64 0]):=M
def ET(a0:Int)(e:Nat)(d:Nat)(h:Nat)(c:Nat)(a:Option Nat)(a5:Int):bA P 103 [(0,(.int .i64 a0)),(4,(.ax e d h c a)),(5,(.int .i64 a5))]=I (.agg [.int .i64 a0,.int .i64 0,.str [],.str [],.int .i64 0,.ax e d h c a,.int .i64 a5,.int .i64 0,.int .i64 0,.int .i64 0,.int .i64 0]):=M
def FC(a0:Int):bA P 98 [(0,(.int .i64 a0)),(3,aa.ag)]=I (.agg [.int .i64 a0,.str [],.str [],.int .i64 0,aa.ag,aa.ag,aa.ag,.int .i64 0,.int .i64 0]):=M
def FD(a0:Int)(e:Nat)(d:Nat)(h:Nat)(c:Nat)(a:Option Nat):bA P 98 [(0,(.int .i64 a0)),(3,(.ax e d h c a))]=I (.agg [.int .i64 a0,.str [],.str [],.int .i64 0,.ax e d h c a,aa.ag,aa.ag,.int .i64 0,.int .i64 0]):=M
def Fw(a0:Int)(aI:List UInt8):bA P 98 [(0,(.int .i64 a0)),(1,(.str aI)),(3,aa.ag)]=I (.agg [.int .i64 a0,.str aI,.str [],.int .i64 0,aa.ag,aa.ag,aa.ag,.int .i64 0,.int .i64 0]):=M
def Fx(a0:Int)(aI:List UInt8)(e:Nat)(d:Nat)(h:Nat)(c:Nat)(a:Option Nat):bA P 98 [(0,(.int .i64 a0)),(1,(.str aI)),(3,(.ax e d h c a))]=I (.agg [.int .i64 a0,.str aI,.str [],.int .i64 0,.ax e d h c a,aa.ag,aa.ag,.int .i64 0,.int .i64 0]):=M
def Ft(a0:Int)(aI:List UInt8)(a:List UInt8)(c:Int):bA P 98 [(0,(.int .i64 a0)),(1,(.str aI)),(2,(.agg [.str a,.int .i64 c]))]=I (.agg [.int .i64 a0,.str aI,.str a,.int .i64 c,aa.ag,aa.ag,aa.ag,.int .i64 0,.int .i64 0]):=M
def Fu(a0:Int)(aI:List UInt8)(a:List UInt8)(c:Int):bA P 98 [(0,(.int .i64 a0)),(1,(.str aI)),(2,(.agg [.str a,.int .i64 c])),(3,aa.ag)]=I (.agg [.int .i64 a0,.str aI,.str a,.int .i64 c,aa.ag,aa.ag,aa.ag,.int .i64 0,.int .i64 0]):=M
def Fv(a0:Int)(aI:List UInt8)(a:List UInt8)(c:Int)(i:Nat)(h:Nat)(j:Nat)(e:Nat)(d:Option Nat):bA P 98 [(0,(.int .i64 a0)),(1,(.str aI)),(2,(.agg [.str a,.int .i64 c])),(3,(.ax i h j e d))]=I (.agg [.int .i64 a0,.str aI,.str a,.int .i64 c,.ax i h j e d,aa.ag,aa.ag,.int .i64 0,.int .i64 0]):=M
def Fy(a0:Int):bA P 98 [(0,(.int .i64 a0)),(3,aa.ag),(4,aa.ag)]=I (.agg [.int .i64 a0,.str [],.str [],.int .i64 0,aa.ag,aa.ag,aa.ag,.int .i64 0,.int .i64 0]):=M
def Fz(a0:Int)(e:Nat)(d:Nat)(h:Nat)(c:Nat)(a:Option Nat):bA P 98 [(0,(.int .i64 a0)),(3,aa.ag),(4,(.ax e d h c a))]=I (.agg [.int .i64 a0,.str [],.str [],.int .i64 0,aa.ag,.ax e d h c a,aa.ag,.int .i64 0,.int .i64 0]):=M
def FA(a0:Int)(e:Nat)(d:Nat)(h:Nat)(c:Nat)(a:Option Nat):bA P 98 [(0,(.int .i64 a0)),(3,(.ax e d h c a)),(4,aa.ag)]=I (.agg [.int .i64 a0,.str [],.str [],.int .i64 0,.ax e d h c a,aa.ag,aa.ag,.int .i64 0,.int .i64 0]):=M
def FB(a0:Int)(e:Nat)(d:Nat)(h:Nat)(c:Nat)(a:Option Nat)(l:Nat)(k:Nat)(m:Nat)(j:Nat)(i:Option Nat):bA P 98 [(0,(.int .i64 a0)),(3,(.ax e d h c a)),(4,(.ax l k m j i))]=I (.agg [.int .i64 a0,.str [],.str [],.int .i64 0,.ax e d h c a,.ax l k m j i,aa.ag,.int .i64 0,.int .i64 0]):=M
def Fs(a0:Int):bA P 98 [(0,(.int .i64 a0))]=I (.agg [.int .i64 a0,.str [],.str [],.int .i64 0,aa.ag,aa.ag,aa.ag,.int .i64 0,.int .i64 0]):=M
def EM(a0:Int)(a2:List UInt8)(a5:Int):bA P 103 [(0,(.int .i64 a0)),(2,(.str a2)),(4,aa.ag),(5,(.int .i64 a5))]=I (.agg [.int .i64 a0,.int .i64 0,.str a2,.str [],.int .i64 0,aa.ag,.int .i64 a5,.int .i64 0,.int .i64 0,.int .i64 0,.int .i64 0]):=M
def EN(a0:Int)(a2:List UInt8)(e:Nat)(d:Nat)(h:Nat)(c:Nat)(a:Option Nat)(a5:Int):bA P 103 [(0,(.int .i64 a0)),(2,(.str a2)),(4,(.ax e d h c a)),(5,(.int .i64 a5))]=I (.agg [.int .i64 a0,.int .i64 0,.str a2,.str [],.int .i64 0,.ax e d h c a,.int .i64 a5,.int .i64 0,.int .i64 0,.int .i64 0,.int .i64 0]):=M
def EL(a0:Int)(aI:Int)(a5:Int):bA P 103 [(0,(.int .i64 a0)),(1,(.int .i64 aI)),(5,(.int .i64 a5))]=I (.agg [.int .i64 a0,.int .i64 aI,.str [],.str [],.int .i64 0,aa.ag,.int .i64 a5,.int .i64 0,.int .i64 0,.int .i64 0,.int .i64 0]):=M
def ER(a0:Int)(a:List UInt8)(c:Int)(a5:Int):bA P 103 [(0,(.int .i64 a0)),(3,(.agg [.str a,.int .i64 c])),(5,(.int .i64 a5))]=I (.agg [.int .i64 a0,.int .i64 0,.str [],.str a,.int .i64 c,aa.ag,.int .i64 a5,.int .i64 0,.int .i64 0,.int .i64 0,.int .i64 0]):=M
def EU(a0:Int)(a5:Int):bA P 103 [(0,(.int .i64 a0)),(5,(.int .i64 a5))]=I (.agg [.int .i64 a0,.int .i64 0,.str [],.str [],.int .i64 0,aa.ag,.int .i64 a5,.int .i64 0,.int .i64 0,.int .i64 0,.int .i64 0]):=M
def EO(a0:Int)(a2:List UInt8)(a5:Int):bA P 103 [(0,(.int .i64 a0)),(2,(.str a2)),(5,(.int .i64 a5))]=I (.agg [.int .i64 a0,.int .i64 0,.str a2,.str [],.int .i64 0,aa.ag,.int .i64 a5,.int .i64 0,.int .i64 0,.int .i64 0,.int .i64 0]):=M
def EX(aI:Int)(a2:Int):bA P 133 [(0,aa.ag),(1,(.int .i64 aI)),(2,(.int .i64 a2)),(3,aa.ag)]=I (.agg [aa.ag,.int .i64 aI,.int .i64 a2,aa.ag,.int .i64 0,.int .i64 0]):=M
def EY(aI:Int)(a2:Int)(e:Nat)(d:Nat)(h:Nat)(c:Nat)(a:Option Nat):bA P 133 [(0,aa.ag),(1,(.int .i64 aI)),(2,(.int .i64 a2)),(3,(.ax e d h c a))]=I (.agg [aa.ag,.int .i64 aI,.int .i64 a2,.ax e d h c a,.int .i64 0,.int .i64 0]):=M
def EZ(e:Nat)(d:Nat)(h:Nat)(c:Nat)(a:Option Nat)(aI:Int)(a2:Int):bA P 133 [(0,(.ax e d h c a)),(1,(.int .i64 aI)),(2,(.int .i64 a2)),(3,aa.ag)]=I (.agg [.ax e d h c a,.int .i64 aI,.int .i64 a2,aa.ag,.int .i64 0,.int .i64 0]):=M
def E0(e:Nat)(d:Nat)(h:Nat)(c:Nat)(a:Option Nat)(aI:Int)(a2:Int)(l:Nat)(k:Nat)(m:Nat)(j:Nat)(i:Option Nat):bA P 133 [(0,(.ax e d h c a)),(1,(.int .i64 aI)),(2,(.int .i64 a2)),(3,(.ax l k m j i))]=I (.agg [.ax e d h c a,.int .i64 aI,.int .i64 a2,.ax l k m j i,.int .i64 0,.int .i64 0]):=M
def E_(a0:List UInt8):bA P 43 [(0,(.str a0))]=I (.agg [.str a0,.int .i64 0]):=M
def EP(a0:Int)(a:List UInt8)(c:Int)(a5:Int):bA P 103 [(0,(.int .i64 a0)),(3,(.agg [.str a,.int .i64 c])),(4,aa.ag),(5,(.int .i64 a5))]=I (.agg [.int .i64 a0,.int .i64 0,.str [],.str a,.int .i64 c,aa.ag,.int .i64 a5,.int .i64 0,.int .i64 0,.int .i64 0,.int .i64 0]):=M
def EQ(a0:Int)(a:List UInt8)(c:Int)(i:Nat)(h:Nat)(j:Nat)(e:Nat)(d:Option Nat)(a5:Int):bA P 103 [(0,(.int .i64 a0)),(3,(.agg [.str a,.int .i64 c])),(4,(.ax i h j e d)),(5,(.int .i64 a5))]=I (.agg [.int .i64 a0,.int .i64 0,.str [],.str a,.int .i64 c,.ax i h j e d,.int .i64 a5,.int .i64 0,.int .i64 0,.int .i64 0,.int .i64 0]):=M
def E3(a0:List UInt8)(aI:Int):bA P 199 [(0,(.str a0)),(1,(.int .i64 aI))]=I (.agg [.str a0,.int .i64 aI]):=M
end Go.Proofs.YtghmbpmaafnodaaGreatDoor
namespace Go.bk
open Go.ChangeShapes Go.WideShapes Go.ChangeAt Go.RowKit
def D4(a:Env)(P:Program)(f:Nat)(args:List Value)(W:World):Prop:=∃(ρ:Env) (H:ad) (c:List aa) (H':ad),Rel ρ H W/\(∀l,¬H.rw l)/\(∀l,H.next<=l->ρ l=u)/\a.le ρ/\H.next<=H'.next/\b1 ρ c args/\mK a P f c H (.bool Y) H'
def SV{m:Env}{P:Program}{f:Nat}{fn:Func}{c:Code}{args:List Value}{W:World}(y:og P)(j:P.funcs[f]? =I fn)(z:fn.body=I c)(h:D4 m P f args W):
  Calls P f args.toArray W λe a=>e= .returned (.bool Y)/\Below W.heap.size W a:=by
 obtain⟨ρ,H,K,H',n,o,p,w,q,s,v⟩:=h;have E:∀b,¬iM ρ H b:=by rintro b ⟨l,L,ak,_⟩;exact o l ak
 have i:=v ρ W args n ⟨λl ak _=>p l ak,w⟩ s q (λx a=>x= .bool Y/\Below W.heap.size W a) (λx a M G au=>by
  cases G;exact⟨rfl,au.os,au.tape,au.output,au.size,λk B=>au.frame k B (E k)⟩)
 have C:(fn.name== "runtime.NumGoroutine")=false:=y.names fn (Array.mem_of_getElem? j);have F:(callFunc f args.toArray).run P W= .ok (.enter f args.toArray) W:=by
  unfold callFunc;simp[j,z];intro A;simp[A]at C
 unfold oi at i;rw[F]at i;simp only at i;refine i.mono λe a d=> ?_
 split at d
 ·exact⟨by rw[d.1],d.2⟩
 ·exact d.elim
def NV{H:Type}{enc:TypeId×Value->H}{P:Program}{W i:World}(ak:laidOutB P=Y)(k:Below W.heap.size W i):∀{ts:List TypeId} {c:List Value} {a:List (DataW H)} {e:List MemPlace},(∀t∈ts,P.readableRec t=Y/\t<P.types.size)->
  DataW.TrodAll enc P W 0 (λ_=>Y) Y ts c a e->∃l,DataW.TrodAll enc P i 0 (λb=>decide (b<W.heap.size)) Y ts c a l
 |[],c,a,e,_,h=>by
  obtain⟨rfl,rfl,rfl⟩:=trodAll_nil h;exact⟨[],trodAll_mk0⟩
 |t::ts,c,a,e,aq,h=>by
  obtain⟨v,A,d,z,p,q,rfl,rfl,rfl,j,n⟩:=trodAll_cons h;obtain⟨l,o⟩:=NV ak k (λt y=>aq t (List.mem_cons_of_mem _ y)) n;have s:∀x∈p,x.block<W.heap.size:=by obtain⟨m,w⟩:=j;exact DataW.trod_lt m _ _ _ w
  exact⟨_,trodAll_cons_mk (Below.trod ak (aq t (List.mem_cons_self ..)).1 (aq t (List.mem_cons_self ..)).2 j k s) o⟩
def Ed{a:Addr}(h:a.spot=u)(j:Nat):a.add j=⟨a.block,a.off+j,u⟩:=by
 obtain⟨b,o,s⟩:=a;cases h;exact addr_add b o j
structure Seen(ρ:Env)(H:ad)(W:World):Prop where
 rel:Rel ρ H W
 ro:∀l,¬H.rw l
 top:∀l,H.next<=l->ρ l=none
def Seen.lT{ρ:Env}{H:ad}{W:World}(h:Seen ρ H W)(a:Go.bk.Loc):ρ.le (ρ.eM H.next a):=λl c e=>by
 have:l≠H.next:=by rintro rfl;rw[h.top _ (aV _)]at e;cases e
 simp only[Env.eM,if_neg this];exact e
def hc.mono{ρ l:Env}(q:ρ.le l){w:World}{k:Go.bk.Loc}{ro:Bool}{esz:Nat}{els:List (List aa)}(h:hc ρ w k ro esz els):hc l w k ro esz els:=by
 obtain⟨n,c,t,m,o,p,a⟩:=h;refine⟨n,c,t,m,o,p,λi e d=>⟨(a i e d).1,λj v s=> ?_⟩⟩;obtain⟨aX,x,y,z⟩:=(a i e d).2 j v s;exact⟨aX,x,y,z.mono q⟩
def Seen.push{ρ:Env}{H:ad}{W:World}(h:Seen ρ H W){c:Go.bk.Loc}{esz:Nat}{els:List (List aa)}(m:hc ρ W c Y esz els):Seen (ρ.eM H.next c) (H.push (.row Y esz els)) W:=by
 have d:=h.lT c;have i:∀l,¬(H.push (.row Y esz els)).rw l:=by
  rintro l (⟨e,s,a⟩|⟨es,a⟩)
  ·rw[ad.k4]at a;split at a
   ·cases a
   ·exact h.ro l (.inl ⟨e,s,a⟩)
  ·rw[ad.k4]at a;split at a
   ·cases a
   ·exact h.ro l (.inr ⟨es,a⟩)
 refine⟨⟨λl ro e s a=> ?_,λl es a=> ?_,λl l' _ _ ak=>absurd ak (i l)⟩,i,λl ak=> ?_⟩
 ·rw[ad.k4]at a;split at a
  ·rename_i ak;cases a;exact⟨c,by simp[Env.eM,ak],m.mono d⟩
  ·obtain⟨n,j,k⟩:=h.rel.row l ro e s a;exact⟨n,d _ _ j,k.mono d⟩
 ·exact absurd (.inr ⟨es,a⟩) (i l)
 ·simp only[ad.bb]at ak;have:l≠H.next:=ae
  simp only[Env.eM,if_neg this];exact h.top l ae
def Seen.blank{ρ:Env}{H:ad}{W:World}(h:Seen ρ H W)(i:Go.bk.Loc):Seen (ρ.eM H.next i) (H.push .dead) W:=by
 have d:=h.lT i;have c:∀l,¬(H.push .dead).rw l:=by
  rintro l (⟨e,s,a⟩|⟨es,a⟩)
  ·rw[ad.k4]at a;split at a
   ·cases a
   ·exact h.ro l (.inl ⟨e,s,a⟩)
  ·rw[ad.k4]at a;split at a
   ·cases a
   ·exact h.ro l (.inr ⟨es,a⟩)
 refine⟨⟨λl ro e s a=> ?_,λl es a=> ?_,λl l' _ _ ak=>absurd ak (c l)⟩,c,λl ak=> ?_⟩
 ·rw[ad.k4]at a;split at a
  ·cases a
  ·obtain⟨m,j,k⟩:=h.rel.row l ro e s a;exact⟨m,d _ _ j,k.mono d⟩
 ·exact absurd (.inr ⟨es,a⟩) (c l)
 ·simp only[ad.bb]at ak;have:l≠H.next:=ae
  simp only[Env.eM,if_neg this];exact h.top l ae
end Go.bk
namespace Go.Proofs.YtghmbpmaafnodaaGreatDoor
open Go.bk
abbrev ay:=List UInt8
structure Tok where
 kind:Int
 text:ay
 n:Int
 pos:Int
def Tok.none:Tok:=⟨0,[],0,0⟩
def G(T:List Tok)(at_:Int):Tok:=if at_<0\/(T.length:Int)<=at_ then .none else T[at_.toNat]?.getD .none
structure am where
 at_:Int
 aY:Int
 an:Int
 bl:Int
abbrev dY(n:Int):Int:=IntKind.i64.wrap n
structure bY where
 kind:Int
 n:Int:=0
 name:ay:=[]
 b5:ay:=[]
 ci:Int:=0
 pos:Int:=0
 hJ:Int:=0
 p_:Int:=0
 kJ:Int:=0
 ref:Int:=0
inductive az where
 |mk (a:bY) (kids:List az)
def az.zero:az:= .mk {kind:=0} []
def a8(T:List Tok)(s:am)(k:Int)(x:ay):Bool:=s.an==0&&((G T s.at_).kind==k&&(G T s.at_).text==x)
def bx(T:List Tok)(e:Int)(s:am):am:=if s.an=0 then {s with an:=e,bl:=(G T s.at_).pos}else s
def ao(s:am):am:={s with at_:=dY (s.at_+1)}
def cK(T:List Tok)(k:Int)(x:ay)(s:am):Bool×am:=bif a8 T s k x then(Y,ao s)else(X,s)
def bD(T:List Tok)(x:ay)(s:am):Bool×am:=bif a8 T s 4 x then(Y,ao s)else(X,bx T 2 s)
def cp(T:List Tok)(x:ay)(s:am):Bool×am:=bif a8 T s 4 x then(if 50<=s.aY then(X,bx T 4 s)else(Y,{s with at_:=dY (s.at_+1),aY:=dY (s.aY+1)}))else(X,bx T 2 s)
def dA(s:am):am:={s with aY:=dY (s.aY-1)}
def fW(T:List Tok)(x:ay)(s:am):Bool×am:=bD T x (dA s)
def fz(T:List Tok):Nat->Int->am->(Int×am) ⊕ am
 |0,d,s=>bif a8 T s 4 [91]then .inr (bx T 4 s)else .inl (d,s)
 |n+1,d,s=>bif a8 T s 4 [91]then fz T n (d+1) (ao s)else .inl (d,s)
def is(T:List Tok)(x:ay):Nat->am->am
 |0,s=>s
 |n+1,s=>is T x n (bD T x s).2
def fy(T:List Tok)(d:Int)(s:am):(ay×Int)×am:=bif ((G T s.at_).kind != 1&&(!a8 T s 3 [105,110,116]&& !a8 T s 3 [98,111,111,108]))then(([],0),bx T 2 s) else(((G T s.at_).text,d),is T [93] d.toNat (ao s))
def cq(T:List Tok)(s:am):(ay×Int)×am:=match fz T 3 0 s with
 | .inr s'=>(([],0),s')
 | .inl (d,s')=>fy T d s'
def hE:List (List (ay×Int)):=[[([124,124],24)],[([38,38],23)],[([60],19),([60,61],20),([61,61],21),([33,61],22)],[([43],14),([45],15)],[([42],16),([47],17),([37],18)]]
def ko(T:List Tok)(s:am):List (ay×Int)->Int
 |[]=>0
 |(x,k)::r=>bif a8 T s 4 x then k else ko T s r
def hf(T:List Tok)(lev:Nat)(s:am):Int:=ko T s (hE[lev]?.getD [])
def mC(T:List Tok)(s:am):az×am:=(.mk {kind:=2,n:=bif (G T s.at_).text==[116,114,117,101]then 1 else 0,pos:=(G T s.at_).pos} [],ao s)
def q2(T:List Tok)(s:am):az×am:=(.mk {kind:=3,b5:=(cq T (ao s)).1.1,ci:=(cq T (ao s)).1.2,pos:=(G T s.at_).pos} [],(cq T (ao s)).2)
def iW(T:List Tok)(s:am):az×am:=(.mk {kind:=11,pos:=(G T s.at_).pos} [],bif (cp T [40] (ao s)).1 then(fW T [41] (cp T [40] (ao s)).2).2 else(cp T [40] (ao s)).2)
def gu(T:List Tok)(e:az)(s:am):az×am:=(.mk {kind:=5,name:=(G T (ao s).at_).text,pos:=(G T s.at_).pos} [e],ao (bif (G T (ao s).at_).kind != 1 then bx T 2 (ao s)else ao s))
abbrev V(a:Type):=Option (a×am)
mutual
def fl(T:List Tok):Nat->Nat->am->V az
 |0,_,_=>u
 |n+1,lev,s=>if lev=5 then i1 T n s else(fl T n (lev+1) s).bind λp=>gW T n lev p.1 p.2
def gW(T:List Tok):Nat->Nat->az->am->V az
 |0,_,_,_=>u
 |n+1,lev,e,s=>if hf T lev s=0 then I (e,s)else
  (fl T n (lev+1) (ao s)).bind λp=>gW T n lev (.mk {kind:=hf T lev s,pos:=(G T s.at_).pos} [e,p.1]) p.2
def i1(T:List Tok):Nat->am->V az
 |0,_=>u
 |n+1,s=>bif a8 T s 4 [45]then j4 T n [45] 12 s else bif a8 T s 4 [33]then j4 T n [33] 13 s else jL T n s
def j4(T:List Tok):Nat->ay->Int->am->V az
 |0,_,_,_=>u
 |n+1,x,k,s=>bif (cp T x s).1 then(i1 T n (cp T x s).2).bind λp=>I (.mk {kind:=k,pos:=(G T s.at_).pos} [p.1],dA p.2)else I (.zero,(cp T x s).2)
def jL(T:List Tok):Nat->am->V az
 |0,_=>u
 |n+1,s=>(ic T n s).bind λp=>fs T n p.1 p.2
def fs(T:List Tok):Nat->az->am->V az
 |0,_,_=>u
 |n+1,e,s=>bif s.an==0&&(G T s.at_).kind==4 then
  (bif (G T s.at_).text==[46]then fs T n (gu T e s).1 (gu T e s).2
  else bif (G T s.at_).text==[91]then(gm T n [91] [93] s).bind λp=>fs T n (.mk {kind:=6,pos:=(G T s.at_).pos} [e,p.1]) p.2
  else I (e,s))else I (e,s)
def gm(T:List Tok):Nat->ay->ay->am->V az
 |0,_,_,_=>u
 |n+1,b,c,s=>bif (cp T b s).1 then(fl T n 0 (cp T b s).2).bind λp=>I (p.1,(fW T c p.2).2)else I (.zero,(cp T b s).2)
def ic(T:List Tok):Nat->am->V az
 |0,_=>u
 |n+1,s=>if s.an≠0 then I (.zero,s)else
  if(G T s.at_).kind=2 then I (.mk {kind:=1,n:=(G T s.at_).n,pos:=(G T s.at_).pos} [],ao s)else
  if(G T s.at_).kind=1 then k_ T n s else
  if(G T s.at_).kind=3\/(G T s.at_).kind=4 then
   (bif (G T s.at_).kind==4 then(bif (G T s.at_).text==[40]then gm T n [40] [41] s else I (.zero,bx T 2 s))
   else bif (G T s.at_).text==[116,114,117,101]||(G T s.at_).text==[102,97,108,115,101]then I (mC T s)
   else bif (G T s.at_).text==[110,117,108,108]then I (q2 T s)
   else bif (G T s.at_).text==[110,101,119]then kh T n s
   else bif (G T s.at_).text==[108,101,110]then(gm T n [40] [41] (ao s)).bind λp=>I (.mk {kind:=10,pos:=(G T s.at_).pos} [p.1],p.2)
   else bif (G T s.at_).text==[114,101,97,100]then I (iW T s)
   else I (.zero,bx T 2 s))
  else I (.zero,bx T 2 s)
def k_(T:List Tok):Nat->am->V az
 |0,_=>u
 |n+1,s=>bif a8 T (ao s) 4 [40]then(jZ T n (ao s)).bind λp=>I (.mk {kind:=7,name:=(G T s.at_).text,pos:=(G T s.at_).pos} p.1,p.2)
  else I (.mk {kind:=4,name:=(G T s.at_).text,pos:=(G T s.at_).pos} [],ao s)
def kh(T:List Tok):Nat->am->V az
 |0,_=>u
 |n+1,s=>bif a8 T (ao s) 4 [91]then
  (gm T n [40] [41] (bD T [93] (cq T (ao (ao s))).2).2).bind λp=>
   I (.mk {kind:=9,b5:=(cq T (ao (ao s))).1.1,ci:=(cq T (ao (ao s))).1.2,pos:=(G T s.at_).pos} [p.1],p.2)
  else I (.mk {kind:=8,b5:=(G T (ao s).at_).text,pos:=(G T s.at_).pos} [],ao (bif (G T (ao s).at_).kind != 1 then bx T 2 (ao s)else ao s))
def jZ(T:List Tok):Nat->am->V (List az)
 |0,_=>u
 |n+1,s=>bif (cp T [40] s).1 then
  (bif a8 T (cp T [40] s).2 4 [41]then I ([],(fW T [41] (cp T [40] s).2).2)
  else(fl T n 0 (cp T [40] s).2).bind λp=>hg T n [p.1] p.2)
  else I ([],(cp T [40] s).2)
def hg(T:List Tok):Nat->List az->am->V (List az)
 |0,_,_=>u
 |n+1,l,s=>bif (cK T 4 [44] s).1 then(fl T n 0 (cK T 4 [44] s).2).bind λp=>hg T n (l++[p.1]) p.2
  else I (l,(fW T [41] (cK T 4 [44] s).2).2)
end
def kw(x:ay):Int:=match x with
 |c::_=>if 97<=c.toNat/\c.toNat<=122 then 3 else 4
 |[]=>4
def aS(T:List Tok)(s:am)(x:ay):Bool:=a8 T s (kw x) x
def bg(T:List Tok)(x:ay)(s:am):am:=bif aS T s x then ao s else bx T 2 s
def e4(s:am):am:={s with aY:=dY (s.aY+1)}
def cl(T:List Tok)(x:ay)(s:am):am:=bif aS T s x&&decide (50<=s.aY)then bx T 4 s else e4 (bg T x s)
def cV(T:List Tok)(x:ay)(s:am):am:=dA (bg T x s)
def bv(T:List Tok)(s:am):ay×am:=bif s.an==0&&(G T s.at_).kind==1 then((G T s.at_).text,ao s)else([],bx T 2 s)
def takeN(T:List Tok)(x:ay):Nat->am->am
 |0,s=>s
 |n+1,s=>takeN T x n (bg T x s)
def eZ(T:List Tok):Nat->Int->am->(Int×am) ⊕ am
 |0,d,s=>bif aS T s [91]then .inr (bx T 4 s)else .inl (d,s)
 |n+1,d,s=>bif aS T s [91]then eZ T n (d+1) (ao s)else .inl (d,s)
def fj(T:List Tok)(d:Int)(s:am):(ay×Int)×am:=bif aS T s [105,110,116]||aS T s [98,111,111,108]then(((G T s.at_).text,d),takeN T [93] d.toNat (ao s)) else(((bv T s).1,d),takeN T [93] d.toNat (bv T s).2)
def cz(T:List Tok)(s:am):(ay×Int)×am:=match eZ T 3 0 s with
 | .inr s'=>(([],0),s')
 | .inl (d,s')=>fj T d s'
def k8(x:ay):List (ay×Int)->Int
 |[]=>0
 |(y,k)::r=>bif y==x then k else k8 x r
def ey(lev:Nat)(t:Tok):Int:=bif t.kind != 4 then 0 else k8 t.text (hE[lev]?.getD [])
mutual
def dm(T:List Tok):Nat->Nat->am->V az
 |0,_,_=>u
 |n+1,lev,s=>if lev=5 then gb T n s else(dm T n (lev+1) s).bind λp=>fL T n lev p.1 p.2
def fL(T:List Tok):Nat->Nat->az->am->V az
 |0,_,_,_=>u
 |n+1,lev,e,s=>bif s.an==0&&ey lev (G T s.at_) != 0 then
  (dm T n (lev+1) (ao s)).bind λp=>fL T n lev (.mk {kind:=ey lev (G T s.at_),pos:=(G T s.at_).pos} [e,p.1]) p.2
  else I (e,s)
def gb(T:List Tok):Nat->am->V az
 |0,_=>u
 |n+1,s=>bif aS T s [45]then gZ T n 12 s else bif aS T s [33]then gZ T n 13 s else(dL T n s).bind λp=>eG T n p.1 p.2
def gZ(T:List Tok):Nat->Int->am->V az
 |0,_,_=>u
 |n+1,k,s=>(dm T n 5 (cl T (G T s.at_).text s)).bind λp=>I (.mk {kind:=k,pos:=(G T s.at_).pos} [p.1],dA p.2)
def eG(T:List Tok):Nat->az->am->V az
 |0,_,_=>u
 |n+1,e,s=>bif aS T s [46]then eG T n (.mk {kind:=5,name:=(bv T (ao s)).1,pos:=(G T s.at_).pos} [e]) (bv T (ao s)).2
  else bif aS T s [91]then(dm T n 0 (cl T [91] s)).bind λp=>eG T n (.mk {kind:=6,pos:=(G T s.at_).pos} [e,p.1]) (cV T [93] p.2)
  else I (e,s)
def eT(T:List Tok):Nat->am->V az
 |0,_=>u
 |n+1,s=>(dm T n 0 (cl T [40] s)).bind λp=>I (p.1,cV T [41] p.2)
def dL(T:List Tok):Nat->am->V az
 |0,_=>u
 |n+1,s=>bif s.an==0&&(G T s.at_).kind==2 then I (.mk {kind:=1,n:=(G T s.at_).n,pos:=(G T s.at_).pos} [],ao s)
  else bif aS T s [116,114,117,101]||aS T s [102,97,108,115,101]then I (.mk {kind:=2,n:=bif (G T s.at_).text==[116,114,117,101]then 1 else 0,pos:=(G T s.at_).pos} [],ao s)
  else bif aS T s [110,117,108,108]then I (.mk {kind:=3,b5:=(cz T (ao s)).1.1,ci:=(cz T (ao s)).1.2,pos:=(G T s.at_).pos} [],(cz T (ao s)).2)
  else bif aS T s [110,101,119]then fY T n (G T s.at_).pos (ao s)
  else bif aS T s [108,101,110]then(eT T n (ao s)).bind λp=>I (.mk {kind:=10,pos:=(G T s.at_).pos} [p.1],p.2)
  else bif aS T s [114,101,97,100]then I (.mk {kind:=11,pos:=(G T s.at_).pos} [],cV T [41] (cl T [40] (ao s)))
  else bif aS T s [40]then eT T n s
  else bif aS T (bv T s).2 [40]then(fD T n (bv T s).2).bind λp=>I (.mk {kind:=7,name:=(bv T s).1,pos:=(G T s.at_).pos} p.1,p.2)
  else I (.mk {kind:=4,name:=(bv T s).1,pos:=(G T s.at_).pos} [],(bv T s).2)
def fY(T:List Tok):Nat->Int->am->V az
 |0,_,_=>u
 |n+1,pos,s=>bif aS T s [91]then
  (eT T n (bg T [93] (cz T (ao s)).2)).bind λp=>I (.mk {kind:=9,b5:=(cz T (ao s)).1.1,ci:=(cz T (ao s)).1.2,pos:=pos} [p.1],p.2)
  else I (.mk {kind:=8,b5:=(bv T s).1,pos:=pos} [],(bv T s).2)
def fD(T:List Tok):Nat->am->V (List az)
 |0,_=>u
 |n+1,s=>bif aS T (cl T [40] s) [41]then I ([],cV T [41] (cl T [40] s))
  else(dm T n 0 (cl T [40] s)).bind λp=>e2 T n [p.1] p.2
def e2(T:List Tok):Nat->List az->am->V (List az)
 |0,_,_=>u
 |n+1,l,s=>bif aS T s [44]then(dm T n 0 (ao s)).bind λp=>e2 T n (l++[p.1]) p.2 else I (l,cV T [41] s)
end
def left(T:List Tok)(s:am):Nat:=if s.an=0/\0<=s.at_/\s.at_<T.length then T.length-s.at_.toNat else 0
def cE{a:Type}(p q:a×am):Prop:=(p.2.an=0/\q=p)\/(p.2.an≠0/\q.2.an=p.2.an/\q.2.bl=p.2.bl)
def hd{T:List Tok}{s:am}(h:s.an≠0)(k:Int)(x:ay):a8 T s k x=false:=by simp[a8,h]
def ed{T:List Tok}{s:am}(h:s.an≠0)(x:ay):aS T s x=false:=hd h _ _
def e9{T:List Tok}{s:am}(h:s.an≠0)(e:Int):bx T e s=s:=by simp[bx,h]
def Ji{T:List Tok}{s:am}(h:s.an≠0):∀l,ko T s l=0
 |[]=>rfl
 |(x,k)::r=>by simp[ko,hd h,Ji h r]
def SL{T:List Tok}{s:am}(h:s.an≠0)(lev:Nat):hf T lev s=0:=Ji h _
def QG{T:List Tok}{s:am}(h:s.an≠0)(n:Nat)(c:2<=n):jL T n s=I (.zero,s):=by
 obtain⟨n,rfl⟩:∃m,n=m+2:=⟨n-2,ae⟩;have a:(s.an==0)=false:=by simpa using h
 simp[jL,ic,h,fs,a]
def abH{T:List Tok}{s:am}(h:s.an≠0)(n:Nat)(a:3<=n):i1 T n s=I (.zero,s):=by
 obtain⟨n,rfl⟩:∃m,n=m+1:=⟨n-1,ae⟩;simp[i1,hd h,QG h n ae]
def Mo{T:List Tok}{s:am}(h:s.an≠0)(n:Nat)(a:1<=n)(lev:Nat)(e:az):gW T n lev e s=I (e,s):=by
 obtain⟨n,rfl⟩:∃m,n=m+1:=⟨n-1,ae⟩;simp[gW,SL h]
def Mm{T:List Tok}{s:am}(h:s.an≠0):∀(n lev:Nat),lev<=5->9<=n+lev->fl T n lev s=I (.zero,s)
 |0,lev,a,c=>ae
 |n+1,lev,a,c=>by
  by_cases ak:lev=5
  ·simp[fl,ak,abH h n ae]
  ·simp[fl,ak,Mm h n (lev+1) ae ae,Mo h n ae]
def km{T:List Tok}{s:am}{k:Int}{x:ay}(h:a8 T s k x=Y):s.an=0/\(G T s.at_).kind=k/\(G T s.at_).text=x:=by
 simpa [a8]using h
def mZ(T:List Tok)(s:am):az:= .mk {kind:=4,pos:=(G T s.at_).pos} []
def vU{T:List Tok}{s:am}(h:s.an≠0):bv T s=([],s):=by
 have a:(s.an==0)=false:=by simpa using h
 simp[bv,a,e9 h]
def Ro{T:List Tok}{s:am}(h:s.an≠0)(n:Nat)(c:1<=n):dL T n s=I (mZ T s,s):=by
 obtain⟨n,rfl⟩:∃m,n=m+1:=⟨n-1,ae⟩;have a:(s.an==0)=false:=by simpa using h
 simp[dL,a,ed h,vU h,mZ]
def Ab{T:List Tok}{s:am}(h:s.an≠0)(n:Nat)(a:1<=n)(e:az):eG T n e s=I (e,s):=by
 obtain⟨n,rfl⟩:∃m,n=m+1:=⟨n-1,ae⟩;simp[eG,ed h]
def abI{T:List Tok}{s:am}(h:s.an≠0)(n:Nat)(a:2<=n):gb T n s=I (mZ T s,s):=by
 obtain⟨n,rfl⟩:∃m,n=m+1:=⟨n-1,ae⟩;simp[gb,ed h,Ro h n ae,Ab h n ae]
def Gj{T:List Tok}{s:am}(h:s.an≠0)(n:Nat)(c:1<=n)(lev:Nat)(e:az):fL T n lev e s=I (e,s):=by
 obtain⟨n,rfl⟩:∃m,n=m+1:=⟨n-1,ae⟩;have a:(s.an==0)=false:=by simpa using h
 simp[fL,a]
def qE{T:List Tok}{s:am}(h:s.an≠0):∀(n lev:Nat),lev<=5->9<=n+lev->dm T n lev s=I (mZ T s,s)
 |0,lev,a,c=>ae
 |n+1,lev,a,c=>by
  by_cases ak:lev=5
  ·simp[dm,ak,abI h n ae]
  ·simp[dm,ak,qE h n (lev+1) ae ae,Gj h n ae]
def JJ{x:ay}:∀l:List (ay×Int),(∀p∈l,p.2≠0)->∀T s,s.an=0->(G T s.at_).kind=4->ko T s l=k8 (G T s.at_).text l
 |[],_,_,_,_,_=>rfl
 |(y,k)::r,h,T,s,a,c=>by
  have i:=JJ (x:=x) r (λp e=>h p (by simp[e])) T s a c;have d:a8 T s 4 y=(y==(G T s.at_).text):=by
   simp only[a8,a,c,beq_self_eq_true,cd];exact BEq.comm
  simp[ko,k8,i,d]
def Bb{T:List Tok}{s:am}(a:(G T s.at_).kind≠4):∀l,ko T s l=0
 |[]=>rfl
 |(y,k)::r=>by
  have c:a8 T s 4 y=false:=by simp[a8,a]
  simp[ko,c,Bb a r]
def SM{T:List Tok}{s:am}(c:s.an=0){lev:Nat}(ak:lev<5):hf T lev s=ey lev (G T s.at_):=by
 by_cases a:(G T s.at_).kind=4
 ·have:((G T s.at_).kind != 4)=false:=by simp[a]
  simp only[hf,ey,this,aH];refine JJ (x:=[]) _ ?_ T s c a;have:lev=0\/lev=1\/lev=2\/lev=3\/lev=4:=ae;rcases this with rfl|rfl|rfl|rfl|rfl<;>simp[hE]
 ·have:((G T s.at_).kind != 4)=true:=by simp[a]
  simp[hf,ey,this,Bb a]
def dT(s s':am):Prop:=(s.an=0/\s'=s)\/(s.an≠0/\s'.an=s.an/\s'.bl=s.bl)
def dT.refl(s:am):dT s s:=by
 by_cases h:s.an=0
 ·exact .inl ⟨h,rfl⟩
 ·exact .inr ⟨h,rfl,rfl⟩
def dT.out{s s':am}(h:dT s s'):dT (dA s) (dA s'):=by
 rcases h with⟨h,rfl⟩|⟨h,a,c⟩
 ·exact .inl ⟨h,rfl⟩
 ·exact .inr ⟨h,a,c⟩
def jp{T:List Tok}{s:am}(h:s.an=0)(e:Int):(bx T e s).an=e/\(bx T e s).bl=(G T s.at_).pos:=by simp[bx,h]
def sF{T:List Tok}{s s':am}(h:dT s s'){x:ay}(d:kw x=4):dT (bD T x s).2 (bg T x s'):=by
 rcases h with⟨h,rfl⟩|⟨h,a,e⟩
 ·cases c:a8 T s' 4 x with
  |true=>simp only[bD,bg,aS,d,c,aK];exact .refl _
  |false=>simp only[bD,bg,aS,d,c,aH];exact .refl _
 ·have aU:s'.an≠0:=by rw[a];exact h
  simp only[bD,bg,hd h,ed aU,aH,e9 h,e9 aU];exact .inr ⟨h,a,e⟩
def lO{T:List Tok}{s s':am}(h:dT s s'){x:ay}(o:kw x=4):dT (fW T x s).2 (cV T x s'):=by
 have n:=sF (T:=T) h.out o;have k:dT (bg T x (dA s')) (cV T x s'):=by
  by_cases i:s'.an=0
  ·have l:aS T (dA s') x=aS T s' x:=rfl;cases m:aS T s' x with
   |true=>simp only[cV,bg,l,m,aK];exact .inl ⟨i,rfl⟩
   |false=>
    simp only[cV,bg,l,m,aH];have j:(dA s').an=0:=i;refine .inr ⟨by rw[(jp j 2).1];decide,?_,?_⟩
    ·rw[(jp j 2).1];exact(jp i 2).1
    ·rw[(jp j 2).2];exact(jp i 2).2
  ·have j:(dA s').an≠0:=i;simp only[cV,bg,ed i,ed j,aH,e9 i,e9 j];exact .refl _
 rcases n with⟨a,b⟩|⟨a,b,c⟩
 ·rcases k with⟨d,e⟩|⟨d,e,f⟩
  ·exact .inl ⟨a,by rw[e,b];rfl⟩
  ·exact absurd (by rw[b];exact a) d
 ·rcases k with⟨d,e⟩|⟨d,e,f⟩
  ·exact absurd (b.symm.trans d) a
  ·exact .inr ⟨a,e.trans b,f.trans c⟩
def BM{T:List Tok}{s:am}(h:s.an=0){x:ay}(d:kw x=4):
  ((cp T x s).1=Y/\a8 T s 4 x=Y/\(cp T x s).2=e4 (ao s)/\cl T x s=e4 (ao s))\/
  ((cp T x s).1=X/\(cp T x s).2.an≠0/\dT (cp T x s).2 (cl T x s)):=by
 cases c:a8 T s 4 x with
 |true=>
  by_cases a:50<=s.aY
  ·refine .inr ?_;simp only[cp,cl,aS,d,c,aK,cd,decide_eq_true a,if_pos a];exact⟨trivial,by rw[(jp h 4).1];decide,.refl _⟩
  ·refine .inl ?_;simp only[cp,cl,bg,aS,d,c,aK,cd,decide_eq_false a,if_neg a,aH];exact⟨trivial,trivial,rfl,trivial⟩
 |false=>
  refine .inr ?_;simp only[cp,cl,bg,aS,d,c,aH,de];exact⟨trivial,by rw[(jp h 2).1];decide,.inr ⟨by rw[(jp h 2).1];decide,rfl,rfl⟩⟩
def cE.of{i:Type}{a b:i}{s s':am}(h:dT s s')(e:s.an=0->b=a):cE (a,s) (b,s'):=by
 rcases h with⟨h,rfl⟩|⟨h,c,d⟩
 ·exact .inl ⟨h,by rw[e h]⟩
 ·exact .inr ⟨h,c,d⟩
def cE.st{d:Type}{p q:d×am}(h:cE p q):dT p.2 q.2:=by
 rcases h with⟨h,rfl⟩|⟨h,a,c⟩
 ·exact .inl ⟨h,rfl⟩
 ·exact .inr ⟨h,a,c⟩
def zm{T:List Tok}{x:ay}(a:kw x=4):∀(n:Nat) {s s':am},dT s s'->dT (is T x n s) (takeN T x n s')
 |0,_,_,h=>h
 |n+1,_,_,h=>zm a n (sF h a)
def Dn{T:List Tok}{x:ay}:∀(n:Nat) {s:am},s.an≠0->takeN T x n s=s
 |0,_,_=>rfl
 |n+1,s,h=>by simp[takeN,bg,ed h,e9 h,Dn n h]
def DN{T:List Tok}{x:ay}:∀(n:Nat) {s:am},s.an≠0->is T x n s=s
 |0,_,_=>rfl
 |n+1,s,h=>by simp[is,bD,hd h,e9 h,DN n h]
def KV{T:List Tok}:∀(n:Nat) (d:Int) (s:am),eZ T n d s=fz T n d s
 |0,d,s=>rfl
 |n+1,d,s=>by
  have:aS T s [91]=a8 T s 4 [91]:=rfl;simp[eZ,fz,this,KV n]
def TS{T:List Tok}(d:Int)(s:am):cE (fy T d s) (fj T d s):=by
 have ap:aS T s [105,110,116]=a8 T s 3 [105,110,116]:=rfl;have aE:aS T s [98,111,111,108]=a8 T s 3 [98,111,111,108]:=rfl;by_cases a:s.an=0
 ·cases c:a8 T s 3 [105,110,116]with
  |true=>
   simp only[fy,fj,ap,aE,c,ij,de,bc,aH,Bool.true_or,aK];exact cE.of (zm rfl _ (.refl _)) λ_=>rfl
  |false=>
   cases e:a8 T s 3 [98,111,111,108]with
   |true=>
    simp only[fy,fj,ap,aE,c,e,ij,bc,aH,Bool.false_or,aK];exact cE.of (zm rfl _ (.refl _)) λ_=>rfl
   |false=>
    by_cases j:(G T s.at_).kind=1
    ·simp only[fy,fj,ap,aE,c,e,bv,a,j,hi,gh,jk,bne_self_eq_false,aH,fg,beq_self_eq_true,aK];exact cE.of (zm rfl _ (.refl _)) λ_=>rfl
    ·have i:((G T s.at_).kind==1)=false:=by simpa using j
     have l:((G T s.at_).kind != 1)=true:=by simpa using j
     have k:(bx T 2 s).an≠0:=by rw[(jp a 2).1];decide
     simp only[fy,fj,ap,aE,c,e,bv,a,i,l,hi,gh,bc,aK,fg,aH,Dn _ k];exact cE.of (.refl _) λh=>absurd h k
 ·have i:(s.an==0)=false:=by simpa using a
  have m:(ao s).an≠0:=a;simp only[fy,fj,ap,aE,hd a,bv,i,de,fg,aH,e9 a,Dn _ a,DN _ m,hi,gh,jk];cases(G T s.at_).kind != 1 with
  |true=>exact .inr ⟨a,rfl,rfl⟩
  |false=>exact .inr ⟨a,rfl,rfl⟩
def of_same(T:List Tok)(s:am):cE (cq T s) (cz T s):=by
 simp only[cq,cz,KV];cases fz T 3 0 s with
 |inr s'=>exact cE.of (.refl _) λ_=>rfl
 |inl p=>exact TS p.1 p.2
def jS{T:List Tok}{s:am}(h:s.an≠0):left T s=0:=by simp[left,h]
def Jt{T:List Tok}(s:am):left T (e4 s)=left T s:=rfl
def Bg{T:List Tok}(s:am):left T (dA s)=left T s:=rfl
def oK{T:List Tok}(s:am)(e:Int):left T (bx T e s)<=left T s:=by
 by_cases h:s.an=0
 ·unfold left;simp only[bx,h,if_true,true_and];split
  ·rename_i a;rw[if_pos a.2];omega
  ·omega
 ·rw[e9 h];omega
def abs{T:List Tok}{a:Int}(h:(G T a).kind≠0):0<=a/\a<T.length:=by
 unfold G at h;split at h
 ·exact absurd rfl h
 ·omega
def jT{T:List Tok}(ar:T.length<=40000000){s:am}(d:s.an=0)(e:(G T s.at_).kind≠0):left T (ao s)+1<=left T s:=by
 obtain⟨a,c⟩:=abs e;have h:dY (s.at_+1)=s.at_+1:=wrap_i64 ae ae;have ap:left T s=T.length-s.at_.toNat:=by
  unfold left;rw[if_pos ⟨d,a,c⟩]
 have aE:left T (ao s)<=T.length-(s.at_+1).toNat:=by
  unfold left;simp only[ao,h];split<;>omega
 omega
def jU{T:List Tok}(ar:T.length<=40000000){s:am}{k:Int}{x:ay}(d:k≠0)(h:a8 T s k x=Y):left T (ao s)+1<=left T s:=by
 obtain⟨a,c,_⟩:=km h;exact jT ar a (by rw[c];exact d)
def qV{T:List Tok}(ar:T.length<=40000000)(s:am)(x:ay):left T (bD T x s).2<=left T s:=by
 cases h:a8 T s 4 x with
 |true=>simp only[bD,h,aK];have:=jU ar aC h;omega
 |false=>simp only[bD,h,aH];exact oK s 2
def qU{T:List Tok}(ar:T.length<=40000000)(s:am)(x:ay):left T (fW T x s).2<=left T s:=qV ar (dA s) x
def Jw{T:List Tok}(ar:T.length<=40000000)(x:ay):∀(n:Nat) (s:am),left T (is T x n s)<=left T s
 |0,s=>aV _
 |n+1,s=>Nat.le_trans (Jw ar x n _) (qV ar s x)
def Jv{T:List Tok}(ar:T.length<=40000000):∀(n:Nat) (d:Int) (s:am),(∀a s',fz T n d s= .inl (a,s')->left T s'<=left T s)/\(∀s',fz T n d s= .inr s'->left T s'<=left T s)
 |0,d,s=>by
  cases h:a8 T s 4 [91]with
  |true=>simp only[fz,h,aK];exact⟨by simp,by rintro _ ⟨⟩;exact oK s 4⟩
  |false=>simp only[fz,h,aH];exact⟨by rintro _ _ ⟨⟩;exact aV _,by simp⟩
 |n+1,d,s=>by
  cases h:a8 T s 4 [91]with
  |true=>
   simp only[fz,h,aK];obtain⟨c,i2⟩:=Jv ar n (d+1) (ao s);have e:=jU ar aC h;exact⟨λa s' aU=>by have:=c a s' aU;omega,λs' aU=>by have:=i2 s' aU;omega⟩
  |false=>simp only[fz,h,aH];exact⟨by rintro _ _ ⟨⟩;exact aV _,by simp⟩
def Ju{T:List Tok}(ar:T.length<=40000000)(d:Int)(s:am):left T (fy T d s).2<=left T s:=by
 by_cases e:s.an=0
 ·cases c:((G T s.at_).kind != 1&&(!a8 T s 3 [105,110,116]&& !a8 T s 3 [98,111,111,108]))with
  |true=>simp only[fy,c,aK];exact oK s 2
  |false=>
   simp only[fy,c,aH];have a:(G T s.at_).kind≠0:=by
    intro a;have i:∀x,a8 T s 3 x=false:=λx=>by simp[a8,a]
    simp[a,i]at c
   have:=Jw ar [93] d.toNat (ao s);have:=jT ar e a;omega
 ·have h:(ao s).an≠0:=e;simp only[fy];cases((G T s.at_).kind != 1&&(!a8 T s 3 [105,110,116]&& !a8 T s 3 [98,111,111,108]))with
  |true=>exact oK s 2
  |false=>simp only[aH,DN _ h,jS h];omega
def Bf{T:List Tok}(ar:T.length<=40000000)(s:am):left T (cq T s).2<=left T s:=by
 obtain⟨a,i2⟩:=Jv ar 3 0 s;simp only[cq];cases h:fz T 3 0 s with
 |inr s'=>exact i2 s' h
 |inl p=>
  have:=a p.1 p.2 h;have:=Ju ar p.1 p.2;exact Nat.le_trans (Ju ar p.1 p.2) (a p.1 p.2 h)
def eD{c:Type}(T:List Tok)(s:am)(a b:Option (c×am)):Prop:=∃p q,a=I p/\b=I q/\cE p q/\left T p.2<=left T s
def jc(T:List Tok)(k:Nat):Prop:=∀(s:am),left T s<=k->∀(lev n a:Nat),lev<=5->30*k+20<=n+lev->30*k+20<=a+lev->eD T s (fl T n lev s) (dm T a lev s)
def U_{T:List Tok}{s:am}(h:s.an≠0)(lev n a:Nat)(ak:lev<=5)(c:9<=n+lev)(d:9<=a+lev):eD T s (fl T n lev s) (dm T a lev s):=
 ⟨_,_,Mm h n lev ak c,qE h a lev ak d,.inr ⟨h,rfl,rfl⟩,aV _⟩
def Ce{T:List Tok}(ar:T.length<=40000000){k:Nat}(o:∀j,j<k->jc T j){s:am}(l:s.an=0)(au:left T s<=k){x:ay}(m:kw x=4)(lev n d:Nat)(ak:lev<=5)(q:30*k+9<=n)(v:30*k+9<=d):
  ((cp T x s).1=Y/\left T (cp T x s).2+1<=left T s/\eD T (cp T x s).2 (fl T n lev (cp T x s).2) (dm T d lev (cl T x s)))\/
  ((cp T x s).1=X/\(cp T x s).2.an≠0/\(cl T x s).an=(cp T x s).2.an/\(cl T x s).bl=(cp T x s).2.bl/\dm T d lev (cl T x s)=I (mZ T (cl T x s),cl T x s)):=by
 rcases BM (T:=T) l m with⟨h,a,c,e⟩|⟨h,a,c⟩
 ·refine .inl ⟨h,?_,?_⟩
  ·rw[c,Jt];exact jU ar aC a
  ·have p:=jU ar aC a;rw[c,e];exact o (k-1) ae _ (by rw[Jt];omega) lev n d ak ae ae
 ·rcases c with⟨c,_⟩|⟨_,e,i⟩
  ·exact absurd c a
  ·exact .inr ⟨h,a,e,i,qE (by rw[e];exact a) d lev ak ae⟩
def Db{T:List Tok}(ar:T.length<=40000000){k:Nat}(B:∀j,j<k->jc T j){s:am}(y:s.an=0)(au:left T s<=k)(n l:Nat)(z:30*k+9<=n)(A:30*k+9<=l):eD T s (gm T (n+1) [40] [41] s) (eT T (l+1) s):=by
 rcases Ce ar B y au (x:=[40]) rfl 0 n l ae z A with⟨d,a,p,q,c,e,i,C⟩|⟨d,a,c,e,i⟩
 ·refine⟨(p.1,(fW T [41] p.2).2),(q.1,cV T [41] q.2),?_,?_,?_,?_⟩
  ·simp[gm,d,c]
  ·simp[eT,e]
  ·rcases i with⟨h,rfl⟩|⟨h,v,w⟩
   ·exact cE.of (lO (.inl ⟨h,rfl⟩) rfl) λ_=>rfl
   ·refine cE.of (lO (.inr ⟨h,v,w⟩) rfl) λo=>absurd o ?_
    have:(dA p.2).an≠0:=h;simp only[fW,bD,hd this,aH,e9 this];exact h
  ·have:=qU ar p.2 [41];simp only
   omega
 ·refine⟨(.zero,(cp T [40] s).2),_,by simp[gm,d],by simp only[eT,i];rfl,?_,?_⟩
  ·have m:(cl T [40] s).an≠0:=by rw[c];exact a
   have o:=lO (T:=T) (x:=[41]) (dT.refl (cl T [40] s)) rfl;refine .inr ⟨a,?_,?_⟩<;>simp[cV,bg,ed m,e9 m,dA,c,e]
  ·simp only[jS a];omega
def eD.le{j:Type}{T:List Tok}{s s0:am}{a b:Option (j×am)}(h:eD T s a b)(ak:left T s<=left T s0):eD T s0 a b:=by
 obtain⟨p,q,c,d,e,i⟩:=h;exact⟨p,q,c,d,e,Nat.le_trans i ak⟩
def FV{T:List Tok}{s:am}(h:s.an≠0)(x:ay):(fW T x s).2.an≠0:=by
 have a:(dA s).an≠0:=h;simp only[fW,bD,hd a,aH,e9 a];exact h
def JS{T:List Tok}(ar:T.length<=40000000){k:Nat}(z:∀j,j<k->jc T j):∀(c n d:Nat) (s s':am) (l l':List az),left T s<=c->c<=k->30*c+10<=n->30*c+10<=d->dT s s'->(s.an=0->l'=l)->eD T s (hg T n l s) (e2 T d l' s')
 |c,0,d,s,s',l,l',v,w,x,y,e,m=>ae
 |c,n+1,0,s,s',l,l',v,w,x,y,e,m=>ae
 |c,n+1,d+1,s,s',l,l',v,w,x,y,e,m=>by
  by_cases a:s.an=0
  ·obtain⟨_,rfl⟩:s.an=0/\s'=s:=e.resolve_right (by rintro⟨h,_⟩;exact h a);cases m a;have ap:aS T s' [44]=a8 T s' 4 [44]:=rfl;cases i:a8 T s' 4 [44]with
   |true=>
    have G:=jU ar aC i;obtain⟨p,q,A,B,o,F⟩:=z (c-1) ae (ao s') ae 0 n d ae ae ae;have:=JS ar z (c-1) n d p.2 q.2 (l++[p.1]) (l++[q.1]) ae ae ae ae o.st (λE=>by
     rcases o with⟨_,rfl⟩|⟨h,_⟩
     ·rfl
     ·exact absurd E h)
    have:=this.le (s0:=s') ae;simpa [hg,cK,i,e2,ap,A,B]using this
   |false=>
    refine⟨(l,(fW T [41] s').2),(l,cV T [41] s'),by simp[hg,cK,i],by simp[e2,ap,i],cE.of (lO (.refl _) rfl) λ_=>rfl,qU ar s' [41]⟩
  ·have C:s'.an≠0:=by
    rcases e with⟨h,_⟩|⟨_,h,_⟩
    ·exact absurd h a
    ·rw[h];exact a
   refine⟨(l,(fW T [41] s).2),(l',cV T [41] s'),by simp[hg,cK,hd a],by simp[e2,ed C],cE.of (lO e rfl) λh=>absurd h (FV a _),qU ar s [41]⟩
def P1{T:List Tok}(ar:T.length<=40000000){k:Nat}(A:∀j,j<k->jc T j){s:am}(z:s.an=0)(au:left T s<=k)(n a:Nat)(M:30*k+10<=n)(N:30*k+10<=a):eD T s (jZ T (n+1) s) (fD T (a+1) s):=by
 rcases BM (T:=T) z (x:=[40]) rfl with⟨e,c,i,y⟩|⟨e,c,i⟩
 ·have L:=jU ar aC c;have ak:left T (e4 (ao s))=left T (ao s):=rfl;have K:(e4 (ao s)).an=0:=z;have ap:aS T (e4 (ao s)) [41]=a8 T (e4 (ao s)) 4 [41]:=rfl;cases v:a8 T (e4 (ao s)) 4 [41]with
  |true=>
   refine⟨([],(fW T [41] (e4 (ao s))).2),([],cV T [41] (e4 (ao s))),by simp[jZ,e,i,v],by simp[fD,y,ap,v],cE.of (lO (.refl _) rfl) λ_=>rfl,?_⟩;have:=qU ar (e4 (ao s)) [41];simp only
   omega
  |false=>
   obtain⟨p,q,B,C,w,H⟩:=A (k-1) ae (e4 (ao s)) ae 0 n a ae ae ae;have:=JS ar A k n a p.2 q.2 [p.1] [q.1] ae ae ae ae w.st (λF=>by
    rcases w with⟨_,rfl⟩|⟨h,_⟩
    ·rfl
    ·exact absurd F h)
   have:=this.le (s0:=s) ae;simpa [jZ,e,i,v,fD,y,ap,B,C]using this
 ·have o:=i.resolve_left (by rintro⟨h,_⟩;exact c h);have d:(cl T [40] s).an≠0:=by rw[o.2.1];exact c
  have G:=qE (T:=T) d a 0 ae ae;have E:∀l,e2 T a l (cl T [40] s)=I (l,cV T [41] (cl T [40] s)):=λl=>by
   obtain⟨a,rfl⟩:∃m,a=m+1:=⟨a-1,ae⟩;simp[e2,ed d]
  refine⟨([],(cp T [40] s).2),_,by simp[jZ,e],by simp only[fD,ed d,aH,G,ef,E];rfl,?_,?_⟩
  ·refine .inr ⟨c,?_,?_⟩<;>simp[cV,bg,ed d,e9 d,dA,o.2.1,o.2.2]
  ·simp only[jS c];omega
def Mn{T:List Tok}(ar:T.length<=40000000){k:Nat}(F:∀j,j<k->jc T j){lev:Nat}(E:lev<5):∀(c n i:Nat) (s s':am) (e d:az),left T s<=c->c<=k->30*c+10<=n->30*c+10<=i->dT s s'->(s.an=0->d=e)->eD T s (gW T n lev e s) (fL T i lev d s')
 |c,0,i,s,s',e,d,y,z,A,B,l,o=>ae
 |c,n+1,0,s,s',e,d,y,z,A,B,l,o=>ae
 |c,n+1,i+1,s,s',e,d,y,z,A,B,l,o=>by
  by_cases a:s.an=0
  ·obtain⟨_,rfl⟩:s.an=0/\s'=s:=l.resolve_right (by rintro⟨h,_⟩;exact h a);cases o a;have v:=SM (T:=T) a E;have C:(s'.an==0)=true:=by simpa using a
   by_cases m:hf T lev s'=0
   ·have w:(ey lev (G T s'.at_) != 0)=false:=by rw[<-v];simpa using m
    exact⟨(e,s'),(e,s'),by simp[gW,m],by simp[fL,C,w],.inl ⟨a,rfl⟩,aV _⟩
   ·have w:(ey lev (G T s'.at_) != 0)=true:=by rw[<-v];simpa using m
    have aq:(G T s'.at_).kind≠0:=by
     intro L;exact m (Bb (by rw[L];decide) _)
    have P:=jT ar a aq;obtain⟨p,q,H,K,x,O⟩:=F (c-1) ae (ao s') ae (lev+1) n i ae ae ae;have:=Mn ar F E (c-1) n i p.2 q.2 (.mk {kind:=hf T lev s',pos:=(G T s'.at_).pos} [e,p.1]) (.mk {kind:=ey lev (G T s'.at_),pos:=(G T s'.at_).pos} [e,q.1]) ae ae ae ae x.st (λN=>by
     rcases x with⟨_,rfl⟩|⟨h,_⟩
     ·rw[v]
     ·exact absurd N h)
    have:=this.le (s0:=s') ae;simpa [gW,m,fL,C,w,H,K]using this
  ·have M:s'.an≠0:=by
    rcases l with⟨h,_⟩|⟨_,h,_⟩
    ·exact absurd h a
    ·rw[h];exact a
   exact⟨(e,s),(d,s'),Mo a (n+1) ae lev e,Gj M (i+1) ae lev d,cE.of l λh=>absurd h a,aV _⟩
def Ri{T:List Tok}{s:am}(h:s.an=0)(e:az):cE (gu T e s) (az.mk {kind:=5,name:=(bv T (ao s)).1,pos:=(G T s.at_).pos} [e],(bv T (ao s)).2):=by
 have i:(ao s).an=0:=h;by_cases c:(G T (ao s).at_).kind=1
 ·refine Or.inl ⟨?_,?_⟩
  ·have a:((G T (ao s).at_).kind != 1)=false:=by simp[c]
   simp only[gu,a,aH];exact h
  ·simp[gu,bv,c,i]
 ·have a:((G T (ao s).at_).kind==1)=false:=by simpa using c
  have d:((G T (ao s).at_).kind != 1)=true:=by simpa using c
  have j:=jp (T:=T) i 2;refine Or.inr ⟨?_,?_,?_⟩
  ·simp only[gu,d,aK];show(bx T 2 (ao s)).an≠0;rw[j.1];decide
  ·simp only[gu,bv,a,d,aK,bc,aH];rfl
  ·simp only[gu,bv,a,d,aK,bc,aH];rfl
def S0{T:List Tok}(ar:T.length<=40000000){s:am}(d:s.an=0)(j:(G T s.at_).kind≠0)(e:az):left T (gu T e s).2+1<=left T s:=by
 have k:=jT ar d j;have h:(ao s).an=0:=d;by_cases c:(G T (ao s).at_).kind=1
 ·have a:((G T (ao s).at_).kind != 1)=false:=by simp[c]
  have:=jT ar h (by rw[c];decide);simp only[gu,a,aH];omega
 ·have a:((G T (ao s).at_).kind != 1)=true:=by simpa using c
  have i:(ao (bx T 2 (ao s))).an≠0:=by show(bx T 2 (ao s)).an≠0;rw[(jp h 2).1];decide
  simp only[gu,a,aK,jS i];omega
def Ai{T:List Tok}(ar:T.length<=40000000){k:Nat}(F:∀j,j<k->jc T j):∀(c n l:Nat) (s s':am) (e o:az),left T s<=c->c<=k->30*c+12<=n->30*c+12<=l->dT s s'->(s.an=0->o=e)->eD T s (fs T n e s) (eG T l o s')
 |c,0,l,s,s',e,o,A,H,K,L,w,B=>ae
 |c,n+1,0,s,s',e,o,A,H,K,L,w,B=>ae
 |c,n+1,l+1,s,s',e,o,A,H,K,L,w,B=>by
  by_cases a:s.an=0
  ·obtain⟨_,rfl⟩:s.an=0/\s'=s:=w.resolve_right (by rintro⟨h,_⟩;exact h a);cases B a;have d:(s'.an==0)=true:=by simpa using a
   have ap:aS T s' [46]=((G T s'.at_).kind==4&&(G T s'.at_).text==[46]):=by show a8 T s' 4 [46]=_;simp only[a8,d,cd]
   have aE:aS T s' [91]=((G T s'.at_).kind==4&&(G T s'.at_).text==[91]):=by show a8 T s' 4 [91]=_;simp only[a8,d,cd]
   cases i:(G T s'.at_).kind==4 with
   |false=>exact⟨(e,s'),(e,s'),by simp[fs,d,i],by simp[eG,ap,aE,i],.inl ⟨a,rfl⟩,aV _⟩
   |true=>
    have R:(G T s'.at_).kind=4:=by simpa using i
    cases v:(G T s'.at_).text==[46]with
    |true=>
     have ak:=S0 ar a (by rw[R];decide) e;have au:=Ri (T:=T) a e;have:=(Ai ar F (c-1) n l _ _ (gu T e s').1 _ ae ae ae ae au.st (λE=>by
      rcases au with⟨_,h⟩|⟨h,_⟩
      ·exact congrArg Prod.fst h
      ·exact absurd E h)).le (s0:=s') ae
     simpa [fs,d,i,v,eG,ap]using this
    |false=>
     cases y:(G T s'.at_).text==[91]with
     |false=>exact⟨(e,s'),(e,s'),by simp[fs,d,i,v,y],by simp[eG,ap,aE,i,v,y],.inl ⟨a,rfl⟩,aV _⟩
     |true=>
      obtain⟨n,rfl⟩:∃m,n=m+1:=⟨n-1,ae⟩;have S:∀j,j<c->jc T j:=λj V=>F j ae
      rcases Ce ar S a A (x:=[91]) rfl 0 n l ae ae ae with⟨br,bI,p,q,b2,cM,z,aa⟩|⟨br,bI,b2,cM,z⟩
      ·have P:=lO (T:=T) (x:=[93]) z.st rfl;have W:=qU ar p.2 [93];have:=(Ai ar F (c-1) (n+1) l (fW T [93] p.2).2 (cV T [93] q.2) (.mk {kind:=6,pos:=(G T s'.at_).pos} [e,p.1]) (.mk {kind:=6,pos:=(G T s'.at_).pos} [e,q.1]) ae ae ae ae P (λE=>by
        rcases z with⟨_,rfl⟩|⟨h,_⟩
        ·rfl
        ·exact absurd E (FV h _))).le (s0:=s') ae
       simpa [fs,d,i,v,y,gm,br,b2,eG,ap,aE,cM]using this
      ·have C:(cl T [91] s').an≠0:=by rw[b2];exact bI
       have M:((cp T [91] s').2.an==0)=false:=by simpa using bI
       have N:(cV T [93] (cl T [91] s'))=dA (cl T [91] s'):=by simp[cV,bg,ed C,e9 C]
       have O:(dA (cl T [91] s')).an≠0:=C;refine⟨(.mk {kind:=6,pos:=(G T s'.at_).pos} [e,.zero],(cp T [91] s').2),(.mk {kind:=6,pos:=(G T s'.at_).pos} [e,mZ T (cl T [91] s')],dA (cl T [91] s')),?_,?_,.inr ⟨bI,b2,cM⟩,?_⟩
       ·simp[fs,d,i,v,y,gm,br,M]
       ·simp[eG,ap,aE,i,v,y,z,N,Ab O l ae]
       ·simp only[jS bI];omega
  ·have Q:s'.an≠0:=by
    rcases w with⟨h,_⟩|⟨_,h,_⟩
    ·exact absurd h a
    ·rw[h];exact a
   have d:(s.an==0)=false:=by simpa using a
   exact⟨(e,s),(o,s'),by simp[fs,d],Ab Q (l+1) ae o,cE.of w λh=>absurd h a,aV _⟩
def eD.pure{a:Type}{T:List Tok}{s:am}{p q:a×am}(h:cE p q)(ak:left T p.2<=left T s):eD T s (I p) (I q):=⟨p,q,rfl,rfl,h,ak⟩
def eD.map{c k:Type}{T:List Tok}{s:am}{a b:Option (c×am)}(h:eD T s a b)(f:c->k):eD T s (a.bind λp=>I (f p.1,p.2)) (b.bind λp=>I (f p.1,p.2)):=by
 obtain⟨p,q,rfl,rfl,i,j⟩:=h;refine⟨(f p.1,p.2),(f q.1,q.2),rfl,rfl,?_,j⟩;rcases i with⟨h,rfl⟩|⟨h,d,e⟩
 ·exact .inl ⟨h,rfl⟩
 ·exact .inr ⟨h,d,e⟩
def Tz{T:List Tok}(ar:T.length<=40000000){k:Nat}(h:∀j,j<k->jc T j){s:am}(a:s.an=0)(d:(G T s.at_).kind=1)(au:left T s<=k)(n c:Nat)(q:30*k+9<=n)(v:30*k+9<=c):
  eD T s (k_ T (n+1) s) (bif aS T (bv T s).2 [40]then(fD T (c+1) (bv T s).2).bind λp=>I (.mk {kind:=7,name:=(bv T s).1,pos:=(G T s.at_).pos} p.1,p.2)else I (.mk {kind:=4,name:=(bv T s).1,pos:=(G T s.at_).pos} [],(bv T s).2)):=by
 have e:bv T s=((G T s.at_).text,ao s):=by simp[bv,a,d]
 have i:=jT ar a (by rw[d];decide);have ap:aS T (ao s) [40]=a8 T (ao s) 4 [40]:=rfl;rw[e];simp only[k_,ap];cases a8 T (ao s) 4 [40]with
 |true=>
  obtain⟨n,rfl⟩:∃m,n=m+1:=⟨n-1,ae⟩;have:=P1 ar (k:=k-1) (λj o=>h j ae) (s:=ao s) a ae n c ae ae;exact(this.map λl=>az.mk {kind:=7,name:=(G T s.at_).text,pos:=(G T s.at_).pos} l).le ae
 |false=>exact eD.pure (.inl ⟨a,rfl⟩) (by simp only;omega)
def RO{T:List Tok}(ar:T.length<=40000000){k:Nat}(Q:∀j,j<k->jc T j){s:am}(p:s.an=0)(N:(G T s.at_).kind=3)(au:left T s<=k)(n c:Nat)(ab:30*k+9<=n)(ad:30*k+9<=c):
  eD T s (kh T (n+1) s) (fY T (c+1) (G T s.at_).pos (ao s)):=by
 have R:=jT ar p (by rw[N];decide);have q:(ao s).an=0:=p;have ap:aS T (ao s) [91]=a8 T (ao s) 4 [91]:=rfl;simp only[kh,fY,ap];cases d:a8 T (ao s) 4 [91]with
 |true=>
  have S:=jU ar aC d;have y:=of_same T (ao (ao s));have A:=sF (T:=T) (x:=[93]) y.st rfl;have W:=Bf ar (ao (ao s));have aa:=qV ar (cq T (ao (ao s))).2 [93];simp only[aK];obtain⟨n,rfl⟩:∃m,n=m+1:=⟨n-1,ae⟩;obtain⟨c,rfl⟩:∃m,c=m+1:=⟨c-1,ae⟩;by_cases a:(bD T [93] (cq T (ao (ao s))).2).2.an=0
  ·have O:(cq T (ao (ao s))).2.an=0:=by
    by_cases h:(cq T (ao (ao s))).2.an=0
    ·exact h
    ·exact absurd a (by simp only[bD,hd h,aH,e9 h];exact h)
   have z:=(y.resolve_right (by rintro⟨h,_⟩;exact h O)).2;have B:=(A.resolve_right (by rintro⟨h,_⟩;exact h a)).2;rw[z]at B;rw[z,B];have:=Db ar (k:=k-1) (λj V=>Q j ae) (s:=(bD T [93] (cq T (ao (ao s))).2).2) a ae n c ae ae;exact(this.map λe=>az.mk {kind:=9,b5:=(cq T (ao (ao s))).1.1,ci:=(cq T (ao (ao s))).1.2,pos:=(G T s.at_).pos} [e]).le ae
  ·have v:=A.resolve_left (by rintro⟨h,_⟩;exact a h);have l:(bg T [93] (cz T (ao (ao s))).2).an≠0:=by rw[v.2.1];exact a
   have H:(cp T [40] (bD T [93] (cq T (ao (ao s))).2).2)=(X,(bD T [93] (cq T (ao (ao s))).2).2):=by simp[cp,hd a,e9 a]
   have K:cl T [40] (bg T [93] (cz T (ao (ao s))).2)=e4 (bg T [93] (cz T (ao (ao s))).2):=by
    simp only[cl,ed l,de,aH];rw[bg,ed l,aH,e9 l]
   have o:(e4 (bg T [93] (cz T (ao (ao s))).2)).an≠0:=l;have L:cV T [41] (e4 (bg T [93] (cz T (ao (ao s))).2))=dA (e4 (bg T [93] (cz T (ao (ao s))).2)):=by
    unfold cV;rw[bg,ed o,aH,e9 o]
   have P:gm T (n+1) [40] [41] (bD T [93] (cq T (ao (ao s))).2).2=I (.zero,(bD T [93] (cq T (ao (ao s))).2).2):=by simp[gm,H]
   have M:eT T (c+1) (bg T [93] (cz T (ao (ao s))).2)=I (mZ T (e4 (bg T [93] (cz T (ao (ao s))).2)),dA (e4 (bg T [93] (cz T (ao (ao s))).2))):=by
    simp only[eT,K,qE o c 0 ae ae,ef,L]
   simp only[P,M,ef];exact eD.pure (.inr ⟨a,v.2.1,v.2.2⟩) (by simp only[jS a];omega)
 |false=>
  simp only[aH];by_cases i:(G T (ao s).at_).kind=1
  ·have d:((G T (ao s).at_).kind != 1)=false:=by simp[i]
   have:=jT ar q (by rw[i];decide);have C:bv T (ao s)=((G T (ao s).at_).text,ao (ao s)):=by simp[bv,q,i]
   simp only[d,aH,C];exact eD.pure (.inl ⟨p,rfl⟩) (by simp only;omega)
  ·have d:((G T (ao s).at_).kind==1)=false:=by simpa using i
   have F:((G T (ao s).at_).kind != 1)=true:=by simpa using i
   have E:=jp (T:=T) q 2;have w:(ao (bx T 2 (ao s))).an≠0:=by show(bx T 2 (ao s)).an≠0;rw[E.1];decide
   simp only[F,aK,bv,d,bc,aH];exact eD.pure (.inr ⟨w,rfl,rfl⟩) (by simp only[jS w];omega)
def te{T:List Tok}{s:am}(a:s.an=0)(x:ay):aS T s x=((G T s.at_).kind==kw x&&(G T s.at_).text==x):=by simp[aS,a8,a]
def S1{T:List Tok}(ar:T.length<=40000000)(s:am)(x:ay):left T (cp T x s).2<=left T s:=by
 cases h:a8 T s 4 x with
 |true=>
  simp only[cp,h,aK];split
  ·exact oK s 4
  ·have:=jU ar aC h;have e:left T {s with at_:=dY (s.at_+1),aY:=dY (s.aY+1)}=left T (ao s):=rfl;simp only[e];omega
 |false=>simp only[cp,h,aH];exact oK s 2
def UK{T:List Tok}{s:am}(k:s.an=0):cE (iW T s) (az.mk {kind:=11,pos:=(G T s.at_).pos} [],cV T [41] (cl T [40] (ao s))):=by
 have l:(ao s).an=0:=k;simp only[iW];rcases BM (T:=T) l (x:=[40]) rfl with⟨c,a,d,j⟩|⟨c,a,d⟩
 ·simp only[c,d,j,aK];exact cE.of (lO (.refl _) rfl) λ_=>rfl
 ·simp only[c,aH];have e:=d.resolve_left (by rintro⟨h,_⟩;exact a h);have i:(cl T [40] (ao s)).an≠0:=by rw[e.2.1];exact a
  refine .inr ⟨a,?_,?_⟩<;>simp[cV,bg,ed i,e9 i,dA,e.2.1,e.2.2]
def S2{T:List Tok}(ar:T.length<=40000000)(s:am):left T (iW T s).2<=left T (ao s):=by
 have a:=S1 ar (ao s) [40];simp only[iW];cases(cp T [40] (ao s)).1 with
 |true=>simp only[aK];have:=qU ar (cp T [40] (ao s)).2 [41];omega
 |false=>simp only[aH];omega
def Rp{T:List Tok}{s:am}(d:s.an=0)(a:(G T s.at_).kind≠1):bv T s=([],bx T 2 s)/\(bx T 2 s).an≠0:=by
 have c:((G T s.at_).kind==1)=false:=by simpa using a
 exact⟨by simp[bv,c],by rw[(jp d 2).1];decide⟩
def Rq{T:List Tok}(ar:T.length<=40000000){k:Nat}(B:∀j,j<k->jc T j){s:am}(a:s.an=0)(au:left T s<=k)(n c:Nat)(aj:30*k+10<=n)(ak:30*k+10<=c):
  eD T s (ic T (n+1) s) (dL T (c+1) s):=by
 obtain⟨n,rfl⟩:∃m,n=m+1:=⟨n-1,ae⟩;obtain⟨c,rfl⟩:∃m,c=m+1:=⟨c-1,ae⟩;have af:(s.an==0)=true:=by simpa using a
 have l:kw [116,114,117,101]=3:=rfl;have o:kw [102,97,108,115,101]=3:=rfl;have q:kw [110,117,108,108]=3:=rfl;have v:kw [110,101,119]=3:=rfl;have w:kw [108,101,110]=3:=rfl;have x:kw [114,101,97,100]=3:=rfl;have y:kw [40]=4:=rfl;have C:(G T s.at_).kind≠1->eD T s (I (az.zero,bx T 2 s)) (bif aS T (bv T s).2 [40]then(fD T (c+1) (bv T s).2).bind λp=>I (.mk {kind:=7,name:=(bv T s).1,pos:=(G T s.at_).pos} p.1,p.2)else I (.mk {kind:=4,name:=(bv T s).1,pos:=(G T s.at_).pos} [],(bv T s).2)):=by
  intro d;obtain⟨ap,aE⟩:=Rp (T:=T) a d;rw[ap];simp only[ed aE,aH];exact eD.pure (.inr ⟨aE,rfl,rfl⟩) (oK s 2)
 by_cases z:(G T s.at_).kind=2
 ·have:=jT ar a (by rw[z];decide);simp only[ic,dL,a,z,ne_eq,not_true,if_false,if_true,beq_self_eq_true,gh,aK];exact eD.pure (.inl ⟨a,rfl⟩) (by simp only;omega)
 have bo:((G T s.at_).kind==2)=false:=by simpa using z
 by_cases d:(G T s.at_).kind=1
 ·have:=Tz ar B a d au n c ae ae;have R:((1:Int)==3)=false:=rfl;have W:((1:Int)==4)=false:=rfl;have P:((1:Int)==2)=false:=rfl;have O:¬((1:Int)=2):=aC;simpa only[ic,dL,a,d,O,ne_eq,not_true,if_false,if_true,beq_self_eq_true,bc,cd,R,W,P,aH,te a,l,o,q,v,w,x,y,de,fg,or_true,true_or]using this
 by_cases A:(G T s.at_).kind=4
 ·have F:((4:Int)==3)=false:=rfl;have E:((4:Int)==2)=false:=rfl;have H:¬((4:Int)=2):=aC;have K:¬((4:Int)=1):=aC;have L:((4:Int)=3\/(4:Int)=4):= .inr rfl;cases aq:(G T s.at_).text==[40]with
  |true=>
   have:=Db ar B a au n c ae ae;simpa only[ic,dL,a,A,H,K,L,F,E,aq,ne_eq,not_true,if_false,if_true,beq_self_eq_true,bc,cd,aH,aK,te a,l,o,q,v,w,x,y,de,fg,or_true,true_or]using this
  |false=>
   have:=C d;simpa only[ic,dL,a,A,H,K,L,F,E,aq,ne_eq,not_true,if_false,if_true,beq_self_eq_true,bc,cd,aH,aK,te a,l,o,q,v,w,x,y,de,fg,or_true,true_or]using this
 by_cases i:(G T s.at_).kind=3
 ·have ah:=jT ar a (by rw[i];decide);have ab:(ao s).an=0:=a;have aa:((3:Int)==4)=false:=rfl;have Q:((3:Int)==2)=false:=rfl;have S:¬((3:Int)=2):=aC;have V:¬((3:Int)=1):=aC;have ad:((3:Int)=3\/(3:Int)=4):= .inl rfl;simp only[ic,dL,a,i,S,V,aa,Q,ne_eq,not_true,if_false,beq_self_eq_true,bc,cd,aH,te a,l,o,q,v,w,x,y,de];cases t1:(G T s.at_).text==[116,114,117,101]||(G T s.at_).text==[102,97,108,115,101]with
  |true=>simp only[aK];exact eD.pure (.inl ⟨a,rfl⟩) (by simp only[mC];omega)
  |false=>
   cases t2:(G T s.at_).text==[110,117,108,108]with
   |true=>
    simp only[aK,aH];have M:=of_same T (ao s);refine eD.pure ?_ (by have:=Bf ar (ao s);simp only[q2];omega);refine cE.of M.st λh=> ?_
    rw[(M.resolve_right (by rintro⟨aU,_⟩;exact aU h)).2]
   |false=>
    cases t3:(G T s.at_).text==[110,101,119]with
    |true=>simp only[aK,aH];exact RO ar B a i au n c ae ae
    |false=>
     cases t4:(G T s.at_).text==[108,101,110]with
     |true=>
      simp only[aK,aH];have:=Db ar (k:=k-1) (λj ai=>B j ae) (s:=ao s) ab ae n c ae ae;exact(this.map λe=>az.mk {kind:=10,pos:=(G T s.at_).pos} [e]).le ae
     |false=>
      cases t5:(G T s.at_).text==[114,101,97,100]with
      |true=>
       simp only[aK,aH];exact eD.pure (UK a) (by have:=S2 ar s;omega)
      |false=>simp only[aH];exact C d
 ·have b3:((G T s.at_).kind==3)=false:=by simpa using i
  have N:((G T s.at_).kind==4)=false:=by simpa using A
  have:=C d;simpa only[ic,dL,a,d,z,i,A,bo,b3,N,ne_eq,not_true,if_false,if_true,beq_self_eq_true,bc,cd,aH,aK,te a,l,o,q,v,w,x,y,de,fg,or_self]using this
def abJ{T:List Tok}(ar:T.length<=40000000){k:Nat}(o:∀j,j<k->jc T j){s:am}(y:s.an=0)(au:left T s<=k)(n a:Nat)(F:30*k+14<=n)(H:30*k+14<=a):
  eD T s (i1 T n s) (gb T a s):=by
 obtain⟨n,rfl⟩:∃m,n=m+1:=⟨n-1,ae⟩;obtain⟨a,rfl⟩:∃m,a=m+1:=⟨a-1,ae⟩;have ap:aS T s [45]=a8 T s 4 [45]:=rfl;have aE:aS T s [33]=a8 T s 4 [33]:=rfl;have z:∀(x:ay) (v:Int),kw x=4->a8 T s 4 x=Y->eD T s (j4 T n x v s) (gZ T a v s):=by
  intro x v C B;obtain⟨n,rfl⟩:∃m,n=m+1:=⟨n-1,ae⟩;obtain⟨a,rfl⟩:∃m,a=m+1:=⟨a-1,ae⟩;have aq:(G T s.at_).text=x:=(km B).2.2;simp only[j4,gZ,aq];rcases Ce ar o y au C 5 (n+1) a ae ae ae with⟨i,l,p,q,d,e,c,w⟩|⟨i,l,d,e,c⟩
  ·have A:i1 T n (cp T x s).2=I p:=by rw[fl]at d;exact d
   simp only[i,A,e,ef,aK];refine eD.pure ?_ (by rw[Bg];omega);refine cE.of c.st.out λh=> ?_
   rw[(c.resolve_right (by rintro⟨aU,_⟩;exact aU h)).2]
  ·simp only[i,c,ef,aH];exact eD.pure (.inr ⟨l,d,e⟩) (by simp only[jS l];omega)
 simp only[i1,gb,ap,aE];cases E:a8 T s 4 [45]with
 |true=>simp only[aK];exact z [45] 12 rfl E
 |false=>
  cases i2:a8 T s 4 [33]with
  |true=>simp only[aK,aH];exact z [33] 13 rfl i2
  |false=>
   simp only[aH];obtain⟨n,rfl⟩:∃m,n=m+2:=⟨n-2,ae⟩;obtain⟨a,rfl⟩:∃m,a=m+1:=⟨a-1,ae⟩;obtain⟨p,q,d,e,c,w⟩:=Rq ar o y au n a ae ae;have:=(Ai ar o k (n+1) (a+1) p.2 q.2 p.1 q.1 ae ae ae ae c.st (λh=>by
    rw[(c.resolve_right (by rintro⟨aU,_⟩;exact aU h)).2])).le w
   rw[jL];simpa only[d,e,ef]using this
def Mp{T:List Tok}(ar:T.length<=40000000){k:Nat}(c:∀j,j<k->jc T j){s:am}(e:s.an=0)(au:left T s<=k):∀(j lev n a:Nat),lev+j=5->30*k+20<=n+lev->30*k+20<=a+lev->eD T s (fl T n lev s) (dm T a lev s)
 |0,lev,n,a,ak,w,x=>by
  obtain rfl:lev=5:=ae;obtain⟨n,rfl⟩:∃m,n=m+1:=⟨n-1,ae⟩;obtain⟨a,rfl⟩:∃m,a=m+1:=⟨a-1,ae⟩;simp only[fl,dm,if_true];exact abJ ar c e au n a ae ae
 |j+1,lev,n,a,ak,w,x=>by
  have v:¬lev=5:=ae;obtain⟨n,rfl⟩:∃m,n=m+1:=⟨n-1,ae⟩;obtain⟨a,rfl⟩:∃m,a=m+1:=⟨a-1,ae⟩;obtain⟨p,q,i,l,d,o⟩:=Mp ar c e au j (lev+1) n a ae ae ae;have:=(Mn ar c (lev:=lev) ae k n a p.2 q.2 p.1 q.1 ae ae ae ae d.st (λh=>by
   rw[(d.resolve_right (by rintro⟨aU,_⟩;exact aU h)).2])).le o
  simpa only[fl,dm,v,if_false,i,l,ef]using this
def wz{T:List Tok}(ar:T.length<=40000000):∀k,jc T k:=by
 intro k
 induction k using Nat.strongRecOn with
 |_ k h=>
  intro s au lev n c ak d e;by_cases a:s.an=0
  ·exact Mp ar h a au (5-lev) lev n c ae d e
  ·exact U_ a lev n c ak ae ae
section
set_option maxRecDepth 100000
noncomputable section
def wM(i:e)(F:aa)(H:ad):O:=C (bd F) λa=>C (j P 133 a 4) λc=>C (j P 29 c 0) λaJ=>C (A P H 27 aJ) λd=>C (w P .neq 27 Y d (.int .i64 0)) λh=>I (h,H)
def Vk(N:Nat){F:aa}{H:ad}{r:aa×ad}(h:wM (al P aj) F H=I r):al P aj 102 [F] H=I r:=bu N (S:=λa=>wM a F H) Tryz.func102 (λ_=>by delta wM;kernel_rfl) h
def wY(h:e)(F y Q:aa)(H:ad):O:=i H (h 121 [F] H) λae p=>bn p [.int .i64 0,.str [],.int .i64 0,.int .i64 0] λd l=>aG l (aB P l 57 d ae) λm=>i m (h 102 [F] m) λG x=>C (cI .not G) λa=>S a Y x (k (j P 57 d 0)) λK n=>S a Y n (qr (A P n 3 K)) λL z=>S a Y z (bP y) λM B=>S a Y B (k (w P .eql 3 X L M)) λN E=>C (bC a (I N) (I (.bool X))) λc=>S c Y E (k (j P 57 d 1)) λR o=>S c Y o (qr (A P o 9 R)) λT q=>S c Y q (bP Q) λV s=>S c Y s (k (w P .eql 9 X T V)) λW v=>C (bC c (I W) (I (.bool X))) λab=>I (ab,v)
def Vw(N:Nat){F y a:aa}{H:ad}{r:aa×ad}(h:wY (al P aj) F y a H=I r):al P aj 119 [F,y,a] H=I r:=bu N (S:=λc=>wY c F y a H) Tryz.func119 (λ_=>by delta wY;kernel_rfl) h
def pc(a:e)(H:ad):O:=some ((.bool X),H)
def X3(a:e)(N:Nat):∀V H,a7 P a N (L (L (n Tryz.f120))) (p Tryz.f120) [] (p Tryz.f120) V H=pc a H:=by
 refine bm (q _) λV H=> ?_
 delta pc;kernel_rfl
def w1(a:e)(F y:aa)(H:ad):O:=i H (a 102 [F] H) λaJ c=>C (cI .not aJ) λp=>aO (I p) (i c (a 121 [F] c) λk d=>C (ca P 57 k 3) λl=>C (bA P 29 [(0,y),(1,l)]) λm=>C (bd F) λn=>C (j P 133 n 4) λo=>aG d (aB P d 29 o m) λh=>pc a h) (pc a c)
def Vy(N:Nat){F y:aa}{H:ad}{r:aa×ad}(h:w1 (al P aj) F y H=I r):al P aj 120 [F,y] H=I r:=bu N (S:=λa=>w1 a F y H) Tryz.func120 (λa=>cG ((Q M ((Q M (X3 a N) (q _))) (q _))) (by delta w1;generalize pc a=c;revert c;refine id ?_;intro c;kernel_rfl)) h
def pd(am:e)(F:aa)(H:ad):O:=bn H [.int .i64 0,.str [],.int .i64 0,.int .i64 0] λh i=>C (bd F) λaj=>C (j P 133 aj 1) λak=>C (A P i 3 ak) λaJ=>C (w P .lss 3 Y aJ (.int .i64 0)) λa=>S a X i (bP F) λal s=>S a X s (k (bd al)) λB v=>S a X v (k (j P 133 B 1)) λE l=>S a X l (qr (A P l 3 E)) λG x=>S a X x (bP F) λK y=>S a X y (k (bd K)) λL z=>S a X z (k (j P 133 L 0)) λM m=>S a X m (qr (A P m 50 M)) λo n=>S a X n (λq=>et (bK P .empty .len [50] [o]) (bK P n .len [50] [o]) q) λN p=>S a X p (k (w P .geq 3 X G N)) λQ c=>C (bC a (I (.bool Y)) (I Q)) λR=>aO (I R) (aG c (aB P c 57 h (.agg [.int .i64 0,.str [],.int .i64 0,.int .i64 0])) λd=>C (A P d 57 h) λr=>I (r,d)) (C (bd F) λT=>C (j P 133 T 0) λV=>C (A P c 50 V) λW=>C (bd F) λab=>C (j P 133 ab 1) λae=>C (A P c 3 ae) λaf=>C (bX P 50 W af) λah=>C (A P c 57 ah) λai=>aG c (aB P c 57 h ai) λd=>C (A P d 57 h) λr=>I (r,d))
def Vz(N:Nat){F:aa}{H:ad}{r:aa×ad}(h:pd (al P aj) F H=I r):al P aj 121 [F] H=I r:=bu N (S:=λa=>pd a F H) Tryz.func121 (λ_=>by delta pd;kernel_rfl) h
def w2(d:e)(F y:aa)(H:ad):O:=i H (d 136 [F,.int .i64 4,y] H) λc h=>S c X h (bP F) λm a=>S c X a (λq=>cZ a (d 120 [m,.int .i64 2] a) q) λk j=>C (bC c (I (.bool Y)) (I k)) λl=>I (l,j)
def VA(N:Nat){F y:aa}{H:ad}{r:aa×ad}(h:w2 (al P aj) F y H=I r):al P aj 122 [F,y] H=I r:=bu N (S:=λa=>w2 a F y H) Tryz.func122 (λ_=>by delta w2;kernel_rfl) h
def w9(c:e)(F y s:aa)(H:ad):O:=i H (c 119 [F,y,s] H) λh a=>C (cI .not h) λk=>aO (I k) (I ((.bool X),a)) (C (bd F) λl=>C (j P 133 l 1) λm=>C (A P a 3 m) λn=>C (w P .add 3 Y n (.int .i64 1)) λo=>C (bd F) λp=>C (j P 133 p 1) λq=>aG a (aB P a 3 q o) λd=>I ((.bool Y),d))
def VJ(N:Nat){F y a:aa}{H:ad}{r:aa×ad}(h:w9 (al P aj) F y a H=I r):al P aj 136 [F,y,a] H=I r:=bu N (S:=λc=>w9 c F y a H) Tryz.func136 (λ_=>by delta w9;kernel_rfl) h
def rO(d:e)(F y:aa)(H:ad):O:=i H (d 119 [F,.int .i64 4,y] H) λQ a=>C (cI .not Q) λR=>aO (I R) (i a (d 120 [F,.int .i64 2] a) λk c=>I (k,c)) (C (bd F) λl=>C (j P 133 l 2) λm=>C (A P a 3 m) λn=>C (w P .geq 3 Y n (.int .i64 50)) λo=>aO (I o) (i a (d 120 [F,.int .i64 4] a) λp c=>I (p,c)) (C (bd F) λq=>C (j P 133 q 1) λs=>C (A P a 3 s) λv=>C (w P .add 3 Y v (.int .i64 1)) λx=>C (bd F) λz=>C (j P 133 z 1) λB=>aG a (aB P a 3 B x) λc=>C (bd F) λE=>C (j P 133 E 2) λG=>C (A P c 3 G) λK=>C (w P .add 3 Y K (.int .i64 1)) λL=>C (bd F) λM=>C (j P 133 M 2) λN=>aG c (aB P c 3 N L) λh=>I ((.bool Y),h)))
def V9(N:Nat){F y:aa}{H:ad}{r:aa×ad}(h:rO (al P aj) F y H=I r):al P aj 177 [F,y] H=I r:=bu N (S:=λa=>rO a F y H) Tryz.func177 (λ_=>by delta rO;kernel_rfl) h
def CU(c:aa)(a:ad):O:=some (c,a)
def x2(c:e)(F y:aa)(H:ad):O:=C (bd F) λaJ=>C (j P 133 aJ 2) λk=>C (A P H 3 k) λl=>C (w P .sub 3 Y l (.int .i64 1)) λm=>C (bd F) λd=>C (j P 133 d 2) λh=>aG H (aB P H 3 h m) λa=>i a (c 122 [F,y] a) (CU)
def Wq(N:Nat){F y:aa}{H:ad}{r:aa×ad}(h:x2 (al P aj) F y H=I r):al P aj 195 [F,y] H=I r:=bu N (S:=λa=>x2 a F y H) Tryz.func195 (λ_=>by delta x2 CU;kernel_rfl) h
def rx(m:e)(N:Nat)(c d h:aa)(H:ad):O:=C (j P 57 h 1) λi=>C (A P H 9 i) λk=>C (bA P 43 [(0,k),(1,d)]) λl=>aG H (aB P H 43 c l) λa=>C (A P a 43 c) λr=>I (r,a)
def XP(a:e)(N:Nat):∀V H,a7 P a N (L (L (L (L (L (L (L (n Tryz.f101)))))))) (p Tryz.f101) [] (p Tryz.f101) V H=rx a N (V 2) (V 3) (V 4) H:=by
 refine bm (q _) λV H=> ?_
 delta rx;kernel_rfl
def tX(a:e)(N:Nat)(l:aa->aa->aa->aa->aa->aa->ad->O)(F c:aa)(d h:aa)(j k:aa)(H:ad):O:=C (w P .lss 3 X k j) λn=>aO (I n) (i H (a 122 [F,.str [93]] H) λp m=>C (w P .add 3 Y k (.int .i64 1)) λo=>l F c d h j o m) (rx a N c d h H)
def nr(a:e)(N:Nat):Nat->aa->aa->aa->aa->aa->aa->ad->O
 |0,_,_,_,_,_,_,_=>u
 |n+1,F,c,d,h,i,j,H=>tX a N (nr a N n) F c d h i j H
def XM(a:e)(N:Nat)(h:aa->aa->aa->aa->aa->aa->ad->O):∀V H,a7 P a N (d (d (L (d (L (L (L (L (L (L (n Tryz.f101))))))))))) (λV H=>h (V 0) (V 2) (V 3) (V 4) (V 46) (V 47) H) [(2,(λV H=>rx a N (V 2) (V 3) (V 4) H))] (p Tryz.f101) V H=tX a N h (V 0) (V 2) (V 3) (V 4) (V 46) (V 47) H:=by
 refine bm (q _) λV H=> ?_
 delta tX;generalize rx a N=c;revert c;refine id ?_;intro c;kernel_rfl
def tQ(h:e)(N:Nat)(a:ad)(F d:aa)(l n m:aa):O:=aO (I m) (i a (h 120 [F,.int .i64 2] a) λy c=>aG c (aB P c 43 d (.agg [.str [],.int .i64 0])) λk=>C (A P k 43 d) λr=>I (r,k)) (C (bd F) λo=>C (j P 133 o 1) λp=>C (A P a 3 p) λq=>C (w P .add 3 Y q (.int .i64 1)) λs=>C (bd F) λv=>C (j P 133 v 1) λx=>aG a (aB P a 3 x s) λc=>nr h N N F d l n l (.int .i64 0) c)
def tR(a:e)(N:Nat)(i F:aa)(d h:aa)(k j:aa)(c:ad):O:=C (bC i (I j) (I (.bool X))) (tQ a N c F d h k)
def tS(c:e)(N:Nat)(a F:aa)(h i:aa)(l j:aa)(d:ad):O:=S a Y d (k (cI .not j)) (tR c N a F h i l)
def tT(c:e)(N:Nat)(d F:aa)(h i:aa)(k j:aa)(a:ad):O:=S d Y a (λq=>cZ a (c 119 [j,.int .i64 3,.str [98,111,111,108]] a) q) (tS c N d F h i k)
def tU(c:e)(N:Nat)(d:ad)(F h:aa)(i j a:aa):O:=S a Y d (bP F) (tT c N a F h i j)
def tV(a:e)(N:Nat)(h F:aa)(d j:aa)(k i:aa)(c:ad):O:=C (bC h (I i) (I (.bool X))) (tU a N c F d j k)
def tW(c:e)(N:Nat)(a F:aa)(h j:aa)(l i:aa)(d:ad):O:=S a Y d (k (cI .not i)) (tV c N a F h j l)
def wE(c:e)(N:Nat)(d F:aa)(h j:aa)(k i:aa)(a:ad):O:=S d Y a (λq=>cZ a (c 119 [i,.int .i64 3,.str [105,110,116]] a) q) (tW c N d F h j k)
def wF(c:e)(N:Nat)(d:ad)(F h:aa)(i j a:aa):O:=S a Y d (bP F) (wE c N a F h i j)
def wG(a:e)(N:Nat)(c:ad)(F d:aa)(i j h:aa):O:=C (w P .neq 3 Y h (.int .i64 1)) (wF a N c F d i j)
def wH(c:e)(N:Nat)(a:ad)(F d:aa)(i j h:aa):O:=C (A P a 3 h) (wG c N a F d i j)
def wI(c:e)(N:Nat)(a F:aa)(h i:aa)(d:ad):O:=C (j P 57 a 0) (wH c N d F h i a)
def wJ(d:e)(N:Nat)(i F:aa)(h j c:aa)(a:ad):O:=aG a (aB P a 57 c i) (wI d N c F h j)
def wK(a:e)(N:Nat)(F d:aa)(i h:aa)(c:ad):O:=bn c [.int .i64 0,.str [],.int .i64 0,.int .i64 0] (wJ a N h F d i)
def o7(a:e)(N:Nat)(F c d:aa)(H:ad):O:=i H (a 121 [F] H) (wK a N F c d)
def XO(a:e)(N:Nat):∀V H,a7 P a N (L (L (L (n Tryz.f101)))) (p Tryz.f101) [] (p Tryz.f101) V H=o7 a N (V 0) (V 2) (V 3) H:=by
 refine bm ((Q M ((Q M ((Q M ((Q M (XP a N) ((Q M ((cn M ((cY (k:=λm V H=>nr a N m (V 0) (V 2) (V 3) (V 4) (V 46) (V 47) H) M (λV H=>M) (λm=>XM a N (nr a N m)))))) (q _))))) (q _))) (q _))) (q _))) λV H=> ?_
 delta o7 wK wJ wI wH wG wF wE tW tV tU tT tS tR tQ;generalize nr a N N=c;revert c;refine id ?_;intro c;kernel_rfl
def wL(a:e)(N:Nat)(F d h:aa)(c:ad):O:=o7 a N F d h c
def ru(k:e)(N:Nat)(m:aa->aa->aa->ad->O)(h F:aa)(d aJ:aa)(a:ad):O:=aO (I aJ) (C (w P .eql 3 Y h (.int .i64 3)) λy=>aO (I y) (i a (k 120 [F,.int .i64 4] a) λz c=>aG c (aB P c 43 d (.agg [.str [],.int .i64 0])) λl=>C (A P l 43 d) λr=>I (r,l)) (C (w P .add 3 Y h (.int .i64 1)) λn=>C (bd F) λo=>C (j P 133 o 1) λp=>C (A P a 3 p) λq=>C (w P .add 3 Y q (.int .i64 1)) λs=>C (bd F) λv=>C (j P 133 v 1) λx=>aG a (aB P a 3 x s) λc=>m F d n c)) (wL k N F d h a)
def tY(a:e)(N:Nat)(c:aa->aa->aa->ad->O)(F d h:aa)(H:ad):O:=i H (a 119 [F,.int .i64 4,.str [91]] H) (ru a N c h F d)
def ns(a:e)(N:Nat):Nat->aa->aa->aa->ad->O
 |0,_,_,_,_=>u
 |n+1,F,c,d,H=>tY a N (ns a N n) F c d H
def XN(a:e)(N:Nat)(h:aa->aa->aa->ad->O):∀V H,a7 P a N (d (d (d (L (L (n Tryz.f101)))))) (λV H=>h (V 0) (V 2) (V 3) H) [(0,(λV H=>o7 a N (V 0) (V 2) (V 3) H))] (p Tryz.f101) V H=tY a N h (V 0) (V 2) (V 3) H:=by
 refine bm (q _) λV H=> ?_
 delta tY ru wL;generalize o7 a N=c;revert c;refine id ?_;intro c;kernel_rfl
def Cp(a:e)(N:Nat)(F d:aa)(c:ad):O:=ns a N N F d (.int .i64 0) c
def wD(a:e)(N:Nat)(F:aa)(H:ad):O:=bn H [.str [],.int .i64 0] (Cp a N F)
def Vj(N:Nat){F:aa}{H:ad}{r:aa×ad}(h:wD (al P aj) N F H=I r):al P aj 101 [F] H=I r:=bu N (S:=λa=>wD a N F H) Tryz.func101 (λa=>cG ((Q M ((Q M ((Q M (XO a N) ((cn M ((cY (k:=λm V H=>ns a N m (V 0) (V 2) (V 3) H) M (λV H=>M) (λm=>XN a N (ns a N m)))))))) (q _))) (q _))) (by delta wD Cp;generalize ns a N N=c;revert c;refine id ?_;intro c;kernel_rfl)) h
def rN(a:e)(N:Nat)(H:ad):O:=some ((.int .i64 0),H)
def YG(a:e)(N:Nat):∀V H,a7 P a N (L (L (n Tryz.f171))) (p Tryz.f171) [] (p Tryz.f171) V H=rN a N H:=by
 refine bm (q _) λV H=> ?_
 delta rN;kernel_rfl
def uo(h:e)(N:Nat)(n:aa->aa->aa->aa->ad->O)(F l:aa)(m d:aa)(H:ad):O:=C (w P .lss 3 X d m) λo=>aO (I o) (C (bX P 200 l d) λp=>C (A P H 199 p) λq=>bn H [.str [],.int .i64 0] λaJ k=>aG k (aB P k 199 aJ q) λa=>C (j P 199 aJ 0) λs=>C (A P a 9 s) λv=>i a (h 119 [F,.int .i64 4,v] a) λx c=>aO (I x) (C (j P 199 aJ 1) λy=>C (A P c 3 y) λz=>I (z,c)) (C (w P .add 3 Y d (.int .i64 1)) λB=>n F l m B c)) (rN h N H)
def nG(a:e)(N:Nat):Nat->aa->aa->aa->aa->ad->O
 |0,_,_,_,_,_=>u
 |n+1,F,c,d,h,H=>uo a N (nG a N n) F c d h H
def YF(a:e)(N:Nat)(h:aa->aa->aa->aa->ad->O):∀V H,a7 P a N (d (d (L (d (L (n Tryz.f171)))))) (λV H=>h (V 0) (V 13) (V 14) (V 15) H) [(0,(λV H=>rN a N H))] (p Tryz.f171) V H=uo a N h (V 0) (V 13) (V 14) (V 15) H:=by
 refine bm (q _) λV H=> ?_
 delta uo;generalize rN a N=c;revert c;refine id ?_;intro c;kernel_rfl
def xN(c:e)(N:Nat)(F y:aa)(H:ad):O:=C (bd F) λk=>C (j P 133 k 3) λl=>C (A P H 131 l) λd=>C (bX P 131 d y) λh=>C (A P H 200 h) λa=>bU P .len [200] [a] H λi=>nG c N N F a i (.int .i64 0) H
def V8(N:Nat){F y:aa}{H:ad}{r:aa×ad}(h:xN (al P aj) N F y H=I r):al P aj 171 [F,y] H=I r:=bu N (S:=λa=>xN a N F y H) Tryz.func171 (λa=>cG ((Q M ((Q M (YG a N) ((Q M ((cn M ((cY (k:=λm V H=>nG a N m (V 0) (V 13) (V 14) (V 15) H) M (λV H=>M) (λm=>YF a N (nG a N m)))))) (q _))))) (q _))) (by delta xN;generalize nG a N N=c;revert c;refine id ?_;intro c;kernel_rfl)) h
def pt(i:e)(N:Nat)(c h:aa)(H:ad):O:=C (A P H 103 h) λd=>aG H (aB P H 103 c d) λa=>C (A P a 103 c) λr=>I (r,a)
def YA(a:e)(N:Nat):∀V H,a7 P a N (L (L (L (L (n Tryz.f165))))) (p Tryz.f165) [] (p Tryz.f165) V H=pt a N (V 4) (V 5) H:=by
 refine bm (q _) λV H=> ?_
 delta pt;kernel_rfl
def CR(a:aa->aa->aa->aa->aa->ad->O)(F y:aa)(e h d:aa)(c:ad):O:=a F y e h d c
def CS(c:e)(d:aa->aa->aa->aa->aa->ad->O)(a:ad)(F y:aa)(h j:aa):O:=i a (c 171 [F,y] a) (CR d F y h j)
def CP(a:e)(N:Nat)(c d:aa)(H:ad):O:=pt a N c d H
def xI(c:e)(N:Nat)(o:aa->aa->aa->aa->aa->ad->O)(H:ad)(F y:aa)(a aJ:aa)(n q:aa):O:=aO (I q) (i H (c 121 [F] H) λs h=>C (ca P 57 s 3) λv=>C (bd F) λx=>C (j P 133 x 1) λz=>C (A P h 3 z) λB=>C (w P .add 3 Y B (.int .i64 1)) λE=>C (bd F) λG=>C (j P 133 G 1) λK=>aG h (aB P h 3 K E) λk=>C (w P .add 3 Y y (.int .i64 1)) λL=>i k (c 165 [F,L] k) λM d=>C (A P d 103 a) λl=>bO d (b0 P (d).next 96 2 [(0,l),(1,M)]) λQ m=>C (bA P 103 [(0,aJ),(4,Q),(5,v)]) λR=>aG m (aB P m 103 a R) λp=>bif ((aZ (A P k 103 a) l&&(aZ (A P d 103 a) l&&Y))&&Y)then(CS c o p F y n a)else u) (CP c N n a H)
def ul(a:e)(N:Nat)(c:aa->aa->aa->aa->aa->ad->O)(F y:aa)(d h aJ:aa)(H:ad):O:=C (w P .neq 3 Y aJ (.int .i64 0)) (xI a N c H F y h aJ d)
def pu(a:e)(N:Nat):Nat->aa->aa->aa->aa->aa->ad->O
 |0,_,_,_,_,_,_=>u
 |n+1,F,y,c,d,aJ,H=>ul a N (pu a N n) F y c d aJ H
def Yz(a:e)(N:Nat)(h:aa->aa->aa->aa->aa->ad->O):∀V H,a7 P a N (d (d (L (d (L (L (L (n Tryz.f165)))))))) (λV H=>h (V 0) (V 1) (V 4) (V 5) (V 6) H) [(0,(λV H=>pt a N (V 4) (V 5) H))] (p Tryz.f165) V H=ul a N h (V 0) (V 1) (V 4) (V 5) (V 6) H:=by
 refine bm (q _) λV H=> ?_
 delta ul xI CP CS CR;generalize pt a N=c;revert c;refine id ?_;intro c;kernel_rfl
def CQ(a:e)(N:Nat)(F y:aa)(h i d:aa)(c:ad):O:=pu a N N F y h i d c
def uk(d:e)(N:Nat)(F y:aa)(H:ad):O:=bn H [.int .i64 0,.int .i64 0,.str [],.str [],.int .i64 0,aa.ag,.int .i64 0,.int .i64 0,.int .i64 0,.int .i64 0,.int .i64 0] λk a=>C (bd F) λn=>C (j P 133 n 3) λo=>C (A P a 131 o) λp=>bU P .len [131] [p] a λq=>C (w P .eql 3 X y q) λs=>aO (I s) (i a (d 170 [F] a) λv h=>aG h (aB P h 103 k v) λc=>C (A P c 103 k) λr=>I (r,c)) (C (w P .add 3 Y y (.int .i64 1)) λx=>i a (d 165 [F,x] a) λz h=>bn h [.int .i64 0,.int .i64 0,.str [],.str [],.int .i64 0,aa.ag,.int .i64 0,.int .i64 0,.int .i64 0,.int .i64 0,.int .i64 0] λm c=>aG c (aB P c 103 m z) λl=>i l (d 171 [F,y] l) (CQ d N F y k m))
def V5(N:Nat){F y:aa}{H:ad}{r:aa×ad}(h:uk (al P aj) N F y H=I r):al P aj 165 [F,y] H=I r:=bu N (S:=λa=>uk a N F y H) Tryz.func165 (λa=>cG ((Q M ((Q M ((Q M ((Q M (YA a N) ((Q M ((cn M ((cY (k:=λm V H=>pu a N m (V 0) (V 1) (V 4) (V 5) (V 6) H) M (λV H=>M) (λm=>Yz a N (pu a N m)))))) (q _))))) (q _))) (q _))) (q _))) (by delta uk CQ;generalize pu a N N=c;revert c;refine id ?_;intro c;kernel_rfl)) h
def xH(j:e)(F:aa)(H:ad):O:=bn H [.int .i64 0,.int .i64 0,.str [],.str [],.int .i64 0,aa.ag,.int .i64 0,.int .i64 0,.int .i64 0,.int .i64 0,.int .i64 0] λh a=>i a (j 165 [F,.int .i64 0] a) λk c=>aG c (aB P c 103 h k) λd=>C (A P d 103 h) λr=>I (r,d)
def V4(N:Nat){F:aa}{H:ad}{r:aa×ad}(h:xH (al P aj) F H=I r):al P aj 163 [F] H=I r:=bu N (S:=λa=>xH a F H) Tryz.func163 (λ_=>by delta xH;kernel_rfl) h
def rL(h:e)(N:Nat)(F d:aa)(H:ad):O:=i H (h 178 [F] H) λj a=>aG a (aB P a 103 d j) λc=>C (A P c 103 d) λr=>I (r,c)
def YE(a:e)(N:Nat):∀V H,a7 P a N (L (L (n Tryz.f170))) (p Tryz.f170) [] (p Tryz.f170) V H=rL a N (V 0) (V 2) H:=by
 refine bm (q _) λV H=> ?_
 delta rL;kernel_rfl
def xL(m:e)(q:aa)(k:ad)(F h s:aa):O:=C (j P 199 q 0) λv=>C (A P k 9 v) λx=>i k (m 177 [F,x] k) λy a=>C (cI .not y) λz=>aO (I z) (aG a (aB P a 103 h (.agg [.int .i64 0,.int .i64 0,.str [],.str [],.int .i64 0,aa.ag,.int .i64 0,.int .i64 0,.int .i64 0,.int .i64 0,.int .i64 0])) λc=>C (A P c 103 h) λr=>I (r,c)) (i a (m 170 [F] a) λB c=>bn c [.int .i64 0,.int .i64 0,.str [],.str [],.int .i64 0,aa.ag,.int .i64 0,.int .i64 0,.int .i64 0,.int .i64 0,.int .i64 0] λaJ p=>aG p (aB P p 103 aJ B) λl=>C (bd F) λE=>C (j P 133 E 2) λG=>C (A P l 3 G) λH=>C (w P .sub 3 Y H (.int .i64 1)) λK=>C (bd F) λL=>C (j P 133 L 2) λM=>aG l (aB P l 3 M K) λd=>C (j P 199 q 1) λN=>C (A P d 3 N) λQ=>C (A P d 103 aJ) λR=>bO d (b0 P (d).next 96 1 [(0,R)]) λS n=>C (bA P 103 [(0,Q),(4,S),(5,s)]) λT=>aG n (aB P n 103 h T) λo=>C (A P o 103 h) λr=>I (r,o))
def CT(a:e)(N:Nat)(F c:aa)(H:ad):O:=rL a N F c H
def xM(a:e)(N:Nat)(p:aa->aa->aa->aa->aa->ad->O)(o n:aa)(H:ad)(F d:aa)(q s:aa):O:=aO (I s) (C (bX P 200 o n) λv=>C (A P H 199 v) λx=>bn H [.str [],.int .i64 0] λh k=>aG k (aB P k 199 h x) λl=>i l (a 121 [F] l) λy c=>C (ca P 57 y 3) λz=>C (j P 199 h 0) λB=>C (A P c 9 B) λE=>i c (a 119 [F,.int .i64 4,E] c) λG m=>aO (I G) (xL a h m F d z) (C (w P .add 3 Y n (.int .i64 1)) λK=>p F d o q K m)) (CT a N F d H)
def rK(d:e)(N:Nat)(h:aa->aa->aa->aa->aa->ad->O)(F i:aa)(j a c:aa)(H:ad):O:=C (w P .lss 3 X c a) (xM d N h j c H F i a)
def rM(a:e)(N:Nat):Nat->aa->aa->aa->aa->aa->ad->O
 |0,_,_,_,_,_,_=>u
 |n+1,F,h,i,c,d,H=>rK a N (rM a N n) F h i c d H
def YD(a:e)(N:Nat)(h:aa->aa->aa->aa->aa->ad->O):∀V H,a7 P a N (d (d (L (d (L (n Tryz.f170)))))) (λV H=>h (V 0) (V 2) (V 9) (V 10) (V 11) H) [(0,(λV H=>rL a N (V 0) (V 2) H))] (p Tryz.f170) V H=rK a N h (V 0) (V 2) (V 9) (V 10) (V 11) H:=by
 refine bm (q _) λV H=> ?_
 delta rK xM CT xL;generalize rL a N=c;revert c;refine id ?_;intro c;kernel_rfl
def xK(c:e)(N:Nat)(F:aa)(H:ad):O:=bn H [.int .i64 0,.int .i64 0,.str [],.str [],.int .i64 0,aa.ag,.int .i64 0,.int .i64 0,.int .i64 0,.int .i64 0,.int .i64 0] λh a=>bO a (I (.ax (a).next 0 2 2 (I 2),.row X 2 [[.str [45],.int .i64 12],[.str [33],.int .i64 13]])) λi d=>rM c N N F h i (.int .i64 2) (.int .i64 0) d
def V7(N:Nat){F:aa}{H:ad}{r:aa×ad}(h:xK (al P aj) N F H=I r):al P aj 170 [F] H=I r:=bu N (S:=λa=>xK a N F H) Tryz.func170 (λa=>cG ((Q M ((Q M (YE a N) ((Q M ((cn M ((cY (k:=λm V H=>rM a N m (V 0) (V 2) (V 9) (V 10) (V 11) H) M (λV H=>M) (λm=>YD a N (rM a N m)))))) (q _))))) (q _))) (by delta xK;generalize rM a N N=c;revert c;refine id ?_;intro c;kernel_rfl)) h
def nH(i:e)(N:Nat)(c h:aa)(H:ad):O:=C (A P H 103 h) λd=>aG H (aB P H 103 c d) λa=>C (A P a 103 c) λr=>I (r,a)
def YI(a:e)(N:Nat):∀V H,a7 P a N (L (L (L (L (n Tryz.f178))))) (p Tryz.f178) [] (p Tryz.f178) V H=nH a N (V 2) (V 3) H:=by
 refine bm (q _) λV H=> ?_
 delta nH;kernel_rfl
def xP(d:aa->aa->aa->aa->ad->O)(c F:aa)(h j i:aa)(a:ad):O:=aG a (aB P a 103 c i) λe=>d F h c j e
def xQ(a:e)(N:Nat)(p:aa->aa->aa->aa->ad->O)(F m:aa)(h o:aa)(H:ad):O:=i H (a 102 [F] H) λy s=>C (cI .not y) λc=>S c Y s (bP F) λz j=>S c Y j (λq=>cZ j (a 121 [z] j) q) λB v=>S c Y v (k (ca P 57 B 0)) λE x=>S c Y x (k (w P .eql 3 Y E (.int .i64 4))) λG l=>C (bC c (I G) (I (.bool X))) λK=>aO (I K) (i l (a 121 [F] l) λL d=>C (ca P 57 L 1) λM=>C (h_ P d 212 o M X) λn=>C (w P .eql 214 Y n aa.nilFunc) λQ=>aO (I Q) (nH a N m h d) (C (A P d 103 h) λR=>jG a d n [F,R] (xP p h F m o))) (nH a N m h l)
def nI(a:e)(N:Nat):Nat->aa->aa->aa->aa->ad->O
 |0,_,_,_,_,_=>u
 |n+1,F,c,d,h,H=>xQ a N (nI a N n) F c d h H
def YH(a:e)(N:Nat)(h:aa->aa->aa->aa->ad->O):∀V H,a7 P a N (d (d (d (L (L (L (n Tryz.f178))))))) (λV H=>h (V 0) (V 2) (V 3) (V 4) H) [(0,(λV H=>nH a N (V 2) (V 3) H))] (p Tryz.f178) V H=xQ a N h (V 0) (V 2) (V 3) (V 4) H:=by
 refine bm (q _) λV H=> ?_
 delta xQ xP;generalize nH a N=c;revert c;refine id ?_;intro c;kernel_rfl
def xO(a:e)(N:Nat)(F:aa)(H:ad):O:=bn H [.int .i64 0,.int .i64 0,.str [],.str [],.int .i64 0,aa.ag,.int .i64 0,.int .i64 0,.int .i64 0,.int .i64 0,.int .i64 0] λm c=>i c (a 181 [F] c) λn k=>bn k [.int .i64 0,.int .i64 0,.str [],.str [],.int .i64 0,aa.ag,.int .i64 0,.int .i64 0,.int .i64 0,.int .i64 0,.int .i64 0] λj d=>aG d (aB P d 103 j n) λh=>i h (a 182 [] h) λo l=>nI a N N F m j o l
def V_(N:Nat){F:aa}{H:ad}{r:aa×ad}(h:xO (al P aj) N F H=I r):al P aj 178 [F] H=I r:=bu N (S:=λa=>xO a N F H) Tryz.func178 (λa=>cG ((Q M ((Q M ((Q M ((Q M (YI a N) ((cn M ((cY (k:=λm V H=>nI a N m (V 0) (V 2) (V 3) (V 4) H) M (λV H=>M) (λm=>YH a N (nI a N m)))))))) (q _))) (q _))) (q _))) (by delta xO;generalize nI a N N=c;revert c;refine id ?_;intro c;kernel_rfl)) h
def l9(h:e)(F d:aa)(H:ad):O:=i H (h 120 [F,.int .i64 2] H) λj a=>aG a (aB P a 103 d (.agg [.int .i64 0,.int .i64 0,.str [],.str [],.int .i64 0,aa.ag,.int .i64 0,.int .i64 0,.int .i64 0,.int .i64 0,.int .i64 0])) λc=>C (A P c 103 d) λr=>I (r,c)
def YJ(a:e)(N:Nat):∀V H,a7 P a N (L (L (L (n Tryz.f181)))) (p Tryz.f181) [] (p Tryz.f181) V H=l9 a (V 0) (V 2) H:=by
 refine bm (q _) λV H=> ?_
 delta l9;kernel_rfl
def kD(c:e)(F h:aa)(l G:aa)(H:ad):O:=aO (I G) (i H (c 184 [] H) λK d=>C (j P 57 l 1) λm=>C (A P d 9 m) λn=>C (h_ P d 218 K n X) λx=>bif ((aZ (A P H 9 m) n&&aZ (A P d 9 m) n)&&Y)then(C (w P .neq 217 Y x aa.nilFunc) λa=>S a Y d (k (j P 57 l 0)) λL p=>S a Y p (qr (A P p 3 L)) λM y=>S a Y y (k (w P .eql 3 Y M (.int .i64 4))) λN z=>S a Y z (k (j P 57 l 1)) λQ q=>S a Y q (qr (A P q 9 Q)) λR B=>S a Y B (k (w P .eql 9 Y R (.str [40]))) λT E=>S a Y E (k (w P .eql 4 X N T)) λV s=>C (bC a (I V) (I (.bool X))) λW=>aO (I W) (jG c s x [F] λab v=>aG v (aB P v 103 h ab) λo=>C (A P o 103 h) λr=>I (r,o)) (l9 c F h s))else u) (l9 c F h H)
def YK(a:e)(N:Nat):∀V H,a7 P a N (L (L (L (L (L (d (L (L (d (L (L (n Tryz.f181)))))))))))) (λV H=>l9 a (V 0) (V 2) H) [(0,(λV H=>l9 a (V 0) (V 2) H))] (p Tryz.f181) V H=kD a (V 0) (V 2) (V 3) (V 30) H:=by
 refine bm (q _) λV H=> ?_
 delta kD;generalize l9 a=c;revert c;refine id ?_;intro c;kernel_rfl
def xS(k:e)(F:aa)(H:ad):O:=bn H [.int .i64 0,.int .i64 0,.str [],.str [],.int .i64 0,aa.ag,.int .i64 0,.int .i64 0,.int .i64 0,.int .i64 0,.int .i64 0] λc p=>i p (k 102 [F] p) λaJ m=>aO (I aJ) (aG m (aB P m 103 c (.agg [.int .i64 0,.int .i64 0,.str [],.str [],.int .i64 0,aa.ag,.int .i64 0,.int .i64 0,.int .i64 0,.int .i64 0,.int .i64 0])) λn=>C (A P n 103 c) λr=>I (r,n)) (i m (k 121 [F] m) λW n=>bn n [.int .i64 0,.str [],.int .i64 0,.int .i64 0] λh q=>aG q (aB P q 57 h W) λa=>C (j P 57 h 0) λv=>C (A P a 3 v) λo=>C (w P .eql 3 Y o (.int .i64 2)) λx=>aO (I x) (C (bd F) λy=>C (j P 133 y 1) λz=>C (A P a 3 z) λB=>C (w P .add 3 Y B (.int .i64 1)) λE=>C (bd F) λG=>C (j P 133 G 1) λK=>aG a (aB P a 3 K E) λd=>C (j P 57 h 2) λL=>C (A P d 3 L) λM=>C (j P 57 h 3) λN=>C (A P d 3 N) λQ=>C (bA P 103 [(0,(.int .i64 1)),(1,M),(5,Q)]) λR=>aG d (aB P d 103 c R) λl=>C (A P l 103 c) λr=>I (r,l)) (C (w P .eql 3 Y o (.int .i64 1)) λS=>aO (I S) (i a (k 183 [F] a) λT d=>aG d (aB P d 103 c T) λl=>C (A P l 103 c) λr=>I (r,l)) (C (w P .eql 3 Y o (.int .i64 3)) λs=>aO (I s) (kD k F c h s a) (C (w P .eql 3 Y o (.int .i64 4)) λV=>kD k F c h V a))))
def Wb(N:Nat){F:aa}{H:ad}{r:aa×ad}(h:xS (al P aj) F H=I r):al P aj 181 [F] H=I r:=bu N (S:=λa=>xS a F H) Tryz.func181 (λa=>cG ((Q M ((Q M ((Q M (YJ a N) ((Q M ((Q M ((cn M ((Q M ((e6 M (q _) ((Q M ((e6 M (q _) ((Q M (YK a N) (q _))))) (q _))))) (q _))))) (q _))) (q _))))) (q _))) (q _))) (by delta xS;generalize kD a=c;revert c;refine id ?_;intro c;kernel_rfl)) h
def pv(h:e)(H:ad):O:=bO H (I (.map (H).next,.map [])) λy a=>aG a (fr P a 212 y (.str [46]) (.func (.func 185) [] [])) λc=>aG c (fr P c 212 y (.str [91]) (.func (.func 186) [] [])) λd=>I (y,d)
def Wc(N:Nat){H:ad}{r:aa×ad}(h:pv (al P aj) H=I r):al P aj 182 [] H=I r:=bu N (S:=λa=>pv a H) Tryz.func182 (λ_=>by delta pv;kernel_rfl) h
def xT(k:e)(F:aa)(H:ad):O:=bn H [.int .i64 0,.int .i64 0,.str [],.str [],.int .i64 0,aa.ag,.int .i64 0,.int .i64 0,.int .i64 0,.int .i64 0,.int .i64 0] λh q=>i q (k 121 [F] q) λV y=>bn y [.int .i64 0,.str [],.int .i64 0,.int .i64 0] λd s=>aG s (aB P s 57 d V) λl=>C (bd F) λW=>C (j P 133 W 1) λab=>C (A P l 3 ab) λae=>C (w P .add 3 Y ae (.int .i64 1)) λz=>C (bd F) λB=>C (j P 133 B 1) λE=>aG l (aB P l 3 E z) λv=>i v (k 119 [F,.int .i64 4,.str [40]] v) λG c=>C (cI .not G) λK=>aO (I K) (C (j P 57 d 1) λL=>C (A P c 9 L) λM=>C (j P 57 d 3) λN=>C (A P c 3 N) λQ=>C (bA P 103 [(0,(.int .i64 4)),(2,M),(5,Q)]) λR=>aG c (aB P c 103 h R) λa=>C (A P a 103 h) λr=>I (r,a)) (i c (k 187 [F,(.func (.func 163) [F] [])] c) λS a=>C (j P 57 d 1) λm=>C (A P a 9 m) λn=>C (j P 57 d 3) λo=>C (A P a 3 o) λp=>C (bA P 103 [(0,(.int .i64 7)),(2,n),(4,S),(5,p)]) λT=>aG a (aB P a 103 h T) λx=>bif ((aZ (A P c 9 m) n&&(aZ (A P a 9 m) n&&Y))&&((aZ (A P c 3 o) p&&(aZ (A P a 3 o) p&&Y))&&Y))then(C (A P x 103 h) λr=>I (r,x))else u)
def Wd(N:Nat){F:aa}{H:ad}{r:aa×ad}(h:xT (al P aj) F H=I r):al P aj 183 [F] H=I r:=bu N (S:=λa=>xT a F H) Tryz.func183 (λ_=>by delta xT;kernel_rfl) h
def j2(m:e)(H:ad):O:=bO H (I (.map (H).next,.map [])) λy a=>aG a (fr P a 218 y (.str [116,114,117,101]) (.func (.func 188) [] [])) λc=>aG c (fr P c 218 y (.str [102,97,108,115,101]) (.func (.func 188) [] [])) λd=>aG d (fr P d 218 y (.str [110,117,108,108]) (.func (.func 189) [] [])) λh=>aG h (fr P h 218 y (.str [110,101,119]) (.func (.func 190) [] [])) λi=>aG i (fr P i 218 y (.str [108,101,110]) (.func (.func 191) [] [])) λj=>aG j (fr P j 218 y (.str [114,101,97,100]) (.func (.func 192) [] [])) λk=>aG k (fr P k 218 y (.str [40]) (.func (.func 193) [] [])) λl=>I (y,l)
def We(N:Nat){H:ad}{r:aa×ad}(h:j2 (al P aj) H=I r):al P aj 184 [] H=I r:=bu N (S:=λa=>j2 a H) Tryz.func184 (λ_=>by delta j2;kernel_rfl) h
def pw(B:e)(F o:aa)(h z aJ:aa)(H:ad):O:=C (bd F) λi=>C (j P 133 i 1) λk=>C (A P H 3 k) λl=>C (w P .add 3 Y l (.int .i64 1)) λm=>C (bd F) λn=>C (j P 133 n 1) λp=>aG H (aB P H 3 p m) λa=>C (j P 57 aJ 1) λq=>C (A P a 9 q) λs=>C (A P a 103 o) λv=>bO a (b0 P (a).next 96 1 [(0,v)]) λx c=>C (bA P 103 [(0,(.int .i64 5)),(2,s),(4,x),(5,z)]) λy=>aG c (aB P c 103 h y) λd=>C (A P d 103 h) λr=>I (r,d)
def YL(a:e)(N:Nat):∀V H,a7 P a N (L (L (L (L (L (n Tryz.f185)))))) (p Tryz.f185) [] (p Tryz.f185) V H=pw a (V 0) (V 3) (V 4) (V 5) (V 6) H:=by
 refine bm (q _) λV H=> ?_
 delta pw;kernel_rfl
def uq(a:e)(F y:aa)(H:ad):O:=bO H (cg (H).next y) λm p=>bn p [.int .i64 0,.int .i64 0,.str [],.str [],.int .i64 0,aa.ag,.int .i64 0,.int .i64 0,.int .i64 0,.int .i64 0,.int .i64 0] λn h=>i h (a 121 [F] h) λQ d=>C (ca P 57 Q 3) λo=>C (bd F) λv=>C (j P 133 v 1) λx=>C (A P d 3 x) λz=>C (w P .add 3 Y z (.int .i64 1)) λB=>C (bd F) λE=>C (j P 133 E 1) λG=>aG d (aB P d 3 G B) λk=>i k (a 121 [F] k) λK q=>bn q [.int .i64 0,.str [],.int .i64 0,.int .i64 0] λaJ l=>aG l (aB P l 57 aJ K) λc=>C (j P 57 aJ 0) λL=>C (A P c 3 L) λM=>C (w P .neq 3 Y M (.int .i64 1)) λN=>aO (I N) (i c (a 120 [F,.int .i64 2] c) λR s=>pw a F m n o aJ s) (pw a F m n o aJ c)
def Wf(N:Nat){F y:aa}{H:ad}{r:aa×ad}(h:uq (al P aj) F y H=I r):al P aj 185 [F,y] H=I r:=bu N (S:=λa=>uq a F y H) Tryz.func185 (λa=>cG ((Q M ((Q M ((Q M ((Q M ((Q M (YL a N) (q _))) (q _))) (q _))) (q _))) (q _))) (by delta uq;generalize pw a=c;revert c;refine id ?_;intro c;kernel_rfl)) h
def xU(j:e)(F y:aa)(H:ad):O:=bO H (cg (H).next y) λd o=>bn o [.int .i64 0,.int .i64 0,.str [],.str [],.int .i64 0,aa.ag,.int .i64 0,.int .i64 0,.int .i64 0,.int .i64 0,.int .i64 0] λn k=>i k (j 121 [F] k) λv c=>C (ca P 57 v 3) λw=>i c (j 194 [F,.str [91],.str [93]] c) λp a=>C (A P a 103 d) λh=>bO a (b0 P (a).next 96 2 [(0,h),(1,p)]) λq l=>C (bA P 103 [(0,(.int .i64 6)),(4,q),(5,w)]) λs=>aG l (aB P l 103 n s) λm=>bif ((aZ (A P c 103 d) h&&(aZ (A P a 103 d) h&&Y))&&Y)then(C (A P m 103 n) λr=>I (r,m))else u
def Wg(N:Nat){F y:aa}{H:ad}{r:aa×ad}(h:xU (al P aj) F y H=I r):al P aj 186 [F,y] H=I r:=bu N (S:=λa=>xU a F y H) Tryz.func186 (λ_=>by delta xU;kernel_rfl) h
def l_(a:e)(N:Nat)(F d:aa)(H:ad):O:=i H (a 195 [F,.str [41]] H) λh c=>I (d,c)
def YN(a:e)(N:Nat):∀V H,a7 P a N (L (L (L (L (n Tryz.f187))))) (p Tryz.f187) [] (p Tryz.f187) V H=l_ a N (V 0) (V 5) H:=by
 refine bm (q _) λV H=> ?_
 delta l_;kernel_rfl
def us(a:e)(N:Nat)(k:aa->aa->aa->ad->O)(F y j:aa)(H:ad):O:=i H (a 136 [F,.int .i64 4,.str [44]] H) λm c=>aO (I m) (jG a c y [] λn d=>bO d (b0 P (d).next 96 1 [(0,n)]) λo h=>i h (c_ P h [96,96] j o) λp l=>k F y p l) (l_ a N F j c)
def px(a:e)(N:Nat):Nat->aa->aa->aa->ad->O
 |0,_,_,_,_=>u
 |n+1,F,y,c,H=>us a N (px a N n) F y c H
def YM(a:e)(N:Nat)(h:aa->aa->aa->ad->O):∀V H,a7 P a N (d (d (L (d (L (d (L (L (L (n Tryz.f187)))))))))) (λV H=>h (V 0) (V 1) (V 5) H) [(0,(λV H=>l_ a N (V 0) (V 5) H))] (p Tryz.f187) V H=us a N h (V 0) (V 1) (V 5) H:=by
 refine bm (q _) λV H=> ?_
 delta us;generalize l_ a N=c;revert c;refine id ?_;intro c;kernel_rfl
def ur(a:e)(N:Nat)(F y:aa)(H:ad):O:=i H (a 177 [F,.str [40]] H) λq c=>C (cI .not q) λs=>aO (I s) (I (aa.ag,c)) (i c (a 119 [F,.int .i64 4,.str [41]] c) λl d=>C (cI .not l) λm=>aO (I m) (jG a d y [] λn h=>bO h (b0 P (h).next 96 1 [(0,n)]) λo j=>i j (c_ P j [96,96] aa.ag o) λp k=>px a N N F y p k) (l_ a N F aa.ag d))
def Wh(N:Nat){F y:aa}{H:ad}{r:aa×ad}(h:ur (al P aj) N F y H=I r):al P aj 187 [F,y] H=I r:=bu N (S:=λa=>ur a N F y H) Tryz.func187 (λa=>cG ((Q M ((Q M ((Q M ((Q M (YN a N) ((Q M ((e6 M ((Q M ((cn M ((cY (k:=λm V H=>px a N m (V 0) (V 1) (V 5) H) M (λV H=>M) (λm=>YM a N (px a N m)))))) (q _))) (q _))) (q _))))) (q _))) (q _))) (q _))) (by delta ur;generalize l_ a N=c;generalize px a N N=d;revert c d;refine id ?_;intro c d;kernel_rfl)) h
def py(i:e)(c h:aa)(H:ad):O:=C (A P H 103 h) λd=>aG H (aB P H 103 c d) λa=>C (A P a 103 c) λr=>I (r,a)
def YO(a:e)(N:Nat):∀V H,a7 P a N (L (L (L (L (L (n Tryz.f188)))))) (p Tryz.f188) [] (p Tryz.f188) V H=py a (V 2) (V 4) H:=by
 refine bm (q _) λV H=> ?_
 delta py;kernel_rfl
def xV(d:e)(F:aa)(H:ad):O:=bn H [.int .i64 0,.int .i64 0,.str [],.str [],.int .i64 0,aa.ag,.int .i64 0,.int .i64 0,.int .i64 0,.int .i64 0,.int .i64 0] λp l=>i l (d 121 [F] l) λaJ q=>bn q [.int .i64 0,.str [],.int .i64 0,.int .i64 0] λk m=>aG m (aB P m 57 k aJ) λh=>C (bd F) λQ=>C (j P 133 Q 1) λR=>C (A P h 3 R) λv=>C (w P .add 3 Y v (.int .i64 1)) λx=>C (bd F) λy=>C (j P 133 y 1) λz=>aG h (aB P h 3 z x) λn=>C (j P 57 k 3) λB=>C (A P n 3 B) λE=>C (bA P 103 [(0,(.int .i64 2)),(5,E)]) λG=>bn n [.int .i64 0,.int .i64 0,.str [],.str [],.int .i64 0,aa.ag,.int .i64 0,.int .i64 0,.int .i64 0,.int .i64 0,.int .i64 0] λc o=>aG o (aB P o 103 c G) λa=>C (j P 57 k 1) λK=>C (A P a 9 K) λL=>C (w P .eql 9 Y L (.str [116,114,117,101])) λM=>aO (I M) (C (j P 103 c 1) λN=>aG a (aB P a 3 N (.int .i64 1)) λs=>py d p c s) (py d p c a)
def Wi(N:Nat){F:aa}{H:ad}{r:aa×ad}(h:xV (al P aj) F H=I r):al P aj 188 [F] H=I r:=bu N (S:=λa=>xV a F H) Tryz.func188 (λa=>cG ((Q M ((Q M ((Q M ((Q M ((Q M (YO a N) (q _))) (q _))) (q _))) (q _))) (q _))) (by delta xV;generalize py a=c;revert c;refine id ?_;intro c;kernel_rfl)) h
def xW(c:e)(F:aa)(H:ad):O:=bn H [.int .i64 0,.int .i64 0,.str [],.str [],.int .i64 0,aa.ag,.int .i64 0,.int .i64 0,.int .i64 0,.int .i64 0,.int .i64 0] λm d=>i d (c 121 [F] d) λx a=>C (ca P 57 x 3) λaJ=>C (bd F) λy=>C (j P 133 y 1) λz=>C (A P a 3 z) λn=>C (w P .add 3 Y n (.int .i64 1)) λo=>C (bd F) λp=>C (j P 133 p 1) λq=>aG a (aB P a 3 q o) λh=>i h (c 101 [F] h) λs k=>C (bA P 103 [(0,(.int .i64 3)),(3,s),(5,aJ)]) λv=>aG k (aB P k 103 m v) λl=>C (A P l 103 m) λr=>I (r,l)
def Wj(N:Nat){F:aa}{H:ad}{r:aa×ad}(h:xW (al P aj) F H=I r):al P aj 189 [F] H=I r:=bu N (S:=λa=>xW a F H) Tryz.func189 (λ_=>by delta xW;kernel_rfl) h
def pz(y:e)(F d:aa)(h x:aa)(H:ad):O:=C (bd F) λi=>C (j P 133 i 1) λk=>C (A P H 3 k) λl=>C (w P .add 3 Y l (.int .i64 1)) λm=>C (bd F) λn=>C (j P 133 n 1) λo=>aG H (aB P H 3 o m) λa=>C (j P 57 x 1) λp=>C (A P a 9 p) λq=>C (bA P 43 [(0,q)]) λs=>C (bA P 103 [(0,(.int .i64 8)),(3,s),(5,h)]) λv=>aG a (aB P a 103 d v) λc=>C (A P c 103 d) λr=>I (r,c)
def YP(a:e)(N:Nat):∀V H,a7 P a N (L (L (L (L (L (L (n Tryz.f190))))))) (p Tryz.f190) [] (p Tryz.f190) V H=pz a (V 0) (V 2) (V 3) (V 5) H:=by
 refine bm (q _) λV H=> ?_
 delta pz;kernel_rfl
def ut(a:e)(F:aa)(H:ad):O:=bn H [.int .i64 0,.int .i64 0,.str [],.str [],.int .i64 0,aa.ag,.int .i64 0,.int .i64 0,.int .i64 0,.int .i64 0,.int .i64 0] λn y=>i y (a 121 [F] y) λah s=>C (ca P 57 ah 3) λx=>C (bd F) λE=>C (j P 133 E 1) λG=>C (A P s 3 G) λK=>C (w P .add 3 Y K (.int .i64 1)) λL=>C (bd F) λM=>C (j P 133 M 1) λN=>aG s (aB P s 3 N L) λB=>i B (a 136 [F,.int .i64 4,.str [91]] B) λQ l=>aO (I Q) (i l (a 101 [F] l) λR v=>bn v [.str [],.int .i64 0] λk d=>aG d (aB P d 43 k R) λc=>i c (a 122 [F,.str [93]] c) λai h=>i h (a 194 [F,.str [40],.str [41]] h) λS m=>C (A P m 43 k) λo=>bO m (b0 P (m).next 96 1 [(0,S)]) λT q=>C (bA P 103 [(0,(.int .i64 9)),(3,o),(4,T),(5,x)]) λV=>aG q (aB P q 103 n V) λz=>bif ((aZ (A P h 43 k) o&&(aZ (A P m 43 k) o&&(aZ (A P q 43 k) o&&Y)))&&Y)then(C (A P z 103 n) λr=>I (r,z))else u) (i l (a 121 [F] l) λW v=>bn v [.int .i64 0,.str [],.int .i64 0,.int .i64 0] λp d=>aG d (aB P d 57 p W) λc=>C (j P 57 p 0) λab=>C (A P c 3 ab) λae=>C (w P .neq 3 Y ae (.int .i64 1)) λaf=>aO (I af) (i c (a 120 [F,.int .i64 2] c) λaj h=>pz a F n x p h) (pz a F n x p c))
def Wl(N:Nat){F:aa}{H:ad}{r:aa×ad}(h:ut (al P aj) F H=I r):al P aj 190 [F] H=I r:=bu N (S:=λa=>ut a F H) Tryz.func190 (λa=>cG ((Q M ((Q M ((Q M ((Q M ((Q M ((Q M (YP a N) (q _))) (q _))) (q _))) (q _))) (q _))) (q _))) (by delta ut;generalize pz a=c;revert c;refine id ?_;intro c;kernel_rfl)) h
def xY(c:e)(F:aa)(H:ad):O:=bn H [.int .i64 0,.int .i64 0,.str [],.str [],.int .i64 0,aa.ag,.int .i64 0,.int .i64 0,.int .i64 0,.int .i64 0,.int .i64 0] λn d=>i d (c 121 [F] d) λz a=>C (ca P 57 z 3) λaJ=>C (bd F) λB=>C (j P 133 B 1) λE=>C (A P a 3 E) λo=>C (w P .add 3 Y o (.int .i64 1)) λp=>C (bd F) λq=>C (j P 133 q 1) λs=>aG a (aB P a 3 s p) λh=>i h (c 194 [F,.str [40],.str [41]] h) λv k=>bO k (b0 P (k).next 96 1 [(0,v)]) λx l=>C (bA P 103 [(0,(.int .i64 10)),(4,x),(5,aJ)]) λy=>aG l (aB P l 103 n y) λm=>C (A P m 103 n) λr=>I (r,m)
def Wm(N:Nat){F:aa}{H:ad}{r:aa×ad}(h:xY (al P aj) F H=I r):al P aj 191 [F] H=I r:=bu N (S:=λa=>xY a F H) Tryz.func191 (λ_=>by delta xY;kernel_rfl) h
def pA(i:e)(c h:aa)(H:ad):O:=C (bA P 103 [(0,(.int .i64 11)),(5,h)]) λd=>aG H (aB P H 103 c d) λa=>C (A P a 103 c) λr=>I (r,a)
def YQ(a:e)(N:Nat):∀V H,a7 P a N (L (L (L (L (n Tryz.f192))))) (p Tryz.f192) [] (p Tryz.f192) V H=pA a (V 2) (V 3) H:=by
 refine bm (q _) λV H=> ?_
 delta pA;kernel_rfl
def xZ(a:e)(F:aa)(H:ad):O:=bn H [.int .i64 0,.int .i64 0,.str [],.str [],.int .i64 0,aa.ag,.int .i64 0,.int .i64 0,.int .i64 0,.int .i64 0,.int .i64 0] λl h=>i h (a 121 [F] h) λv c=>C (ca P 57 v 3) λaJ=>C (bd F) λx=>C (j P 133 x 1) λy=>C (A P c 3 y) λn=>C (w P .add 3 Y n (.int .i64 1)) λo=>C (bd F) λp=>C (j P 133 p 1) λq=>aG c (aB P c 3 q o) λk=>i k (a 177 [F,.str [40]] k) λs d=>aO (I s) (i d (a 195 [F,.str [41]] d) λz m=>pA a l aJ m) (pA a l aJ d)
def Wn(N:Nat){F:aa}{H:ad}{r:aa×ad}(h:xZ (al P aj) F H=I r):al P aj 192 [F] H=I r:=bu N (S:=λa=>xZ a F H) Tryz.func192 (λa=>cG ((Q M ((Q M ((Q M ((Q M (YQ a N) (q _))) (q _))) (q _))) (q _))) (by delta xZ;generalize pA a=c;revert c;refine id ?_;intro c;kernel_rfl)) h
def x0(j:e)(F:aa)(H:ad):O:=bn H [.int .i64 0,.int .i64 0,.str [],.str [],.int .i64 0,aa.ag,.int .i64 0,.int .i64 0,.int .i64 0,.int .i64 0,.int .i64 0] λh a=>i a (j 194 [F,.str [40],.str [41]] a) λk c=>aG c (aB P c 103 h k) λd=>C (A P d 103 h) λr=>I (r,d)
def Wo(N:Nat){F:aa}{H:ad}{r:aa×ad}(h:x0 (al P aj) F H=I r):al P aj 193 [F] H=I r:=bu N (S:=λa=>x0 a F H) Tryz.func193 (λ_=>by delta x0;kernel_rfl) h
def x1(d:e)(F y v:aa)(H:ad):O:=bn H [.int .i64 0,.int .i64 0,.str [],.str [],.int .i64 0,aa.ag,.int .i64 0,.int .i64 0,.int .i64 0,.int .i64 0,.int .i64 0] λaJ j=>i j (d 177 [F,y] j) λo a=>C (cI .not o) λp=>aO (I p) (aG a (aB P a 103 aJ (.agg [.int .i64 0,.int .i64 0,.str [],.str [],.int .i64 0,aa.ag,.int .i64 0,.int .i64 0,.int .i64 0,.int .i64 0,.int .i64 0])) λc=>C (A P c 103 aJ) λr=>I (r,c)) (i a (d 163 [F] a) λq c=>bn c [.int .i64 0,.int .i64 0,.str [],.str [],.int .i64 0,aa.ag,.int .i64 0,.int .i64 0,.int .i64 0,.int .i64 0,.int .i64 0] λn k=>aG k (aB P k 103 n q) λl=>i l (d 195 [F,v] l) λw h=>C (A P h 103 n) λs=>aG h (aB P h 103 aJ s) λm=>C (A P m 103 aJ) λr=>I (r,m))
def Wp(N:Nat){F y a:aa}{H:ad}{r:aa×ad}(h:x1 (al P aj) F y a H=I r):al P aj 194 [F,y,a] H=I r:=bu N (S:=λc=>x1 c F y a H) Tryz.func194 (λ_=>by delta x1;kernel_rfl) h
def xG(q:e)(H:ad):O:=bO H (I (.ax (H).next 0 1 2 (I 1),.row X 2 [[.str [124,124],.int .i64 24]])) λn a=>bO a (I (.ax (a).next 0 1 2 (I 1),.row X 2 [[.str [38,38],.int .i64 23]])) λo c=>bO c (I (.ax (c).next 0 4 2 (I 4),.row X 2 [[.str [60],.int .i64 19],[.str [60,61],.int .i64 20],[.str [61,61],.int .i64 21],[.str [33,61],.int .i64 22]])) λp d=>bO d (I (.ax (d).next 0 2 2 (I 2),.row X 2 [[.str [43],.int .i64 14],[.str [45],.int .i64 15]])) λk h=>bO h (I (.ax (h).next 0 3 2 (I 3),.row X 2 [[.str [42],.int .i64 16],[.str [47],.int .i64 17],[.str [37],.int .i64 18]])) λl i=>bO i (b0 P (i).next 131 5 [(0,n),(1,o),(2,p),(3,k),(4,l)]) λm j=>I (m,j)
def V3(N:Nat){H:ad}{r:aa×ad}(h:xG (al P aj) H=I r):al P aj 162 [] H=I r:=bu N (S:=λa=>xG a H) Tryz.func162 (λ_=>by delta xG;kernel_rfl) h
def yH(q:e)(F y:aa)(H:ad):O:=bn H [.str [],.int .i64 0] λk B=>bn B [.int .i64 0,.int .i64 0] λaJ s=>C (bA P 133 [(0,F),(1,y)]) λG=>bO s (cg (s).next G) λh v=>i v (q 101 [h] v) λK E=>bn E [.str [],.int .i64 0] λz w=>aG w (aB P w 43 z K) λx=>i x (q 102 [h] x) λL c=>aO (I L) (aG c (aB P c 43 k (.agg [.str [],.int .i64 0])) λa=>C (bd h) λM=>C (j P 133 M 4) λm=>C (A P a 29 m) λn=>aG a (aB P a 29 aJ n) λd=>bif ((aZ (A P c 29 m) n&&(aZ (A P a 29 m) n&&Y))&&Y)then(C (A P d 43 k) λr=>C (A P d 29 aJ) λl=>I (.tuple [r,.int .i64 0,l],d))else u) (C (A P c 43 z) λN=>aG c (aB P c 43 k N) λa=>C (bd h) λQ=>C (j P 133 Q 1) λo=>C (A P a 3 o) λp=>aG a (aB P a 29 aJ (.agg [.int .i64 0,.int .i64 0])) λd=>bif ((aZ (A P c 3 o) p&&(aZ (A P a 3 o) p&&Y))&&Y)then(C (A P d 43 k) λr=>C (A P d 29 aJ) λl=>I (.tuple [r,p,l],d))else u)
def Xf(N:Nat){F y:aa}{H:ad}{r:aa×ad}(h:yH (al P aj) F y H=I r):al P aj 73 [F,y] H=I r:=bu N (S:=λa=>yH a F y H) Tryz.func73 (λ_=>by delta yH;kernel_rfl) h
def xC(l:e)(F y Q:aa)(H:ad):O:=bn H [.int .i64 0,.int .i64 0,.str [],.str [],.int .i64 0,aa.ag,.int .i64 0,.int .i64 0,.int .i64 0,.int .i64 0,.int .i64 0] λaJ E=>bn E [.int .i64 0,.int .i64 0] λk m=>bU P .max [3,3] [Q,.int .i64 0] m λK=>i m (l 162 [] m) λL v=>C (bA P 133 [(0,F),(1,y),(2,K),(3,L)]) λM=>bO v (cg (v).next M) λh w=>i w (l 163 [h] w) λN G=>bn G [.int .i64 0,.int .i64 0,.str [],.str [],.int .i64 0,aa.ag,.int .i64 0,.int .i64 0,.int .i64 0,.int .i64 0,.int .i64 0] λB x=>aG x (aB P x 103 B N) λz=>i z (l 102 [h] z) λR d=>aO (I R) (aG d (aB P d 103 aJ (.agg [.int .i64 0,.int .i64 0,.str [],.str [],.int .i64 0,aa.ag,.int .i64 0,.int .i64 0,.int .i64 0,.int .i64 0,.int .i64 0])) λa=>C (bd h) λS=>C (j P 133 S 4) λo=>C (A P a 29 o) λp=>aG a (aB P a 29 k p) λc=>bif ((aZ (A P d 29 o) p&&(aZ (A P a 29 o) p&&Y))&&Y)then(C (A P c 103 aJ) λr=>C (A P c 29 k) λn=>I (.tuple [r,.int .i64 0,n],c))else u) (C (A P d 103 B) λT=>aG d (aB P d 103 aJ T) λa=>C (bd h) λV=>C (j P 133 V 1) λq=>C (A P a 3 q) λs=>aG a (aB P a 29 k (.agg [.int .i64 0,.int .i64 0])) λc=>bif ((aZ (A P d 3 q) s&&(aZ (A P a 3 q) s&&Y))&&Y)then(C (A P c 103 aJ) λr=>C (A P c 29 k) λn=>I (.tuple [r,s,n],c))else u)
def VV(N:Nat){F y a:aa}{H:ad}{r:aa×ad}(h:xC (al P aj) F y a H=I r):al P aj 153 [F,y,a] H=I r:=bu N (S:=λc=>xC c F y a H) Tryz.func153 (λ_=>by delta xC;kernel_rfl) h

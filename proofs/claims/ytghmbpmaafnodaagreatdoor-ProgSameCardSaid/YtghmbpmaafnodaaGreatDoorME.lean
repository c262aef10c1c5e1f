/-
  Texts of one proof, laid together: Tab Fv26 Sp Sr Z1 Z2 Z3 Z4 Z5 Z6 Z7 Z8.
-/
import Derived.Test.YtghmbpmaafnodaaGreatDoorMD
import Derived.WalkKit
import Derived.ProofKit
import Derived.OpenShut
import Derived.ShutString
import Derived.ChangeOld
import Derived.Below
import Derived.Carry
set_option linter.unusedVariables false
set_option linter.unusedSimpArgs false
namespace Go.Proofs.YtghmbpmaafnodaaGreatDoor
open Go.f7
section
theorem ZE:hR P 3=some false:=ad
theorem ZJ:fq P 3=some 1:=ad
theorem ZF:hR P 4=some false:=ad
theorem ZK:fq P 4=some 1:=ad
theorem Yw{c:Bool}(a b:Bool):aZ P .eql 4 c (.bool a) (.bool b)=some (.bool (a==b)):=ad
theorem Zr{c:Bool}(a b:Bool):aZ P .neq 4 c (.bool a) (.bool b)=some (.bool (!(a==b))):=ad
theorem ZG:hR P 5=some false:=ad
theorem ZL:fq P 5=some 1:=ad
theorem ZH:hR P 9=some false:=ad
theorem ZM:fq P 9=some 1:=ad
theorem Zn{H:J}{s:List UInt8}:dC P H .len [9] [.str s]=some (.int .i64 s.length):=ad
theorem XC:hR P 22=some false:=ad
theorem XQ:fq P 22=some 1:=ad
theorem alo(l i n:Nat)(cap:Option Nat)(k:Int):en P 22 (.aM l i n 3 cap) (.int .i64 k)=if 3=3/\0<=k/\k<n then some (.ptr l (i+k.toNat) 0) else none:=ad
theorem My{l i n:Nat}{cap:Option Nat}{k:Int}(a6:0<=k)(U:k<n):en P 22 (.aM l i n 3 cap) (.int .i64 k)=some (.ptr l (i+k.toNat) 0):=by rw[alo,if_pos ⟨rfl,a6,U⟩]
theorem EG{H:J}{l i n e:Nat}{cap:Option Nat}:dC P H .len [22] [.aM l i n e cap]=some (.int .i64 n):=ad
theorem Hs{H:J}:dC P H .len [22] [.an]=some (.int .i64 0):=ad
theorem XD:hR P 23=some false:=ad
theorem XR:fq P 23=some 1:=ad
theorem alp(l i n:Nat)(cap:Option Nat)(k:Int):en P 23 (.aM l i n 4 cap) (.int .i64 k)=if 4=4/\0<=k/\k<n then some (.ptr l (i+k.toNat) 0) else none:=ad
theorem Mz{l i n:Nat}{cap:Option Nat}{k:Int}(a6:0<=k)(U:k<n):en P 23 (.aM l i n 4 cap) (.int .i64 k)=some (.ptr l (i+k.toNat) 0):=by rw[alp,if_pos ⟨rfl,a6,U⟩]
theorem EH{H:J}{l i n e:Nat}{cap:Option Nat}:dC P H .len [23] [.aM l i n e cap]=some (.int .i64 n):=ad
theorem Ht{H:J}:dC P H .len [23] [.an]=some (.int .i64 0):=ad
theorem XE:hR P 24=some false:=ad
theorem XS:fq P 24=some 1:=ad
theorem alq(l i n:Nat)(cap:Option Nat)(k:Int):en P 24 (.aM l i n 7 cap) (.int .i64 k)=if 7=7/\0<=k/\k<n then some (.ptr l (i+k.toNat) 0) else none:=ad
theorem Xs{l i n:Nat}{cap:Option Nat}{k:Int}(a6:0<=k)(U:k<n):en P 24 (.aM l i n 7 cap) (.int .i64 k)=some (.ptr l (i+k.toNat) 0):=by rw[alq,if_pos ⟨rfl,a6,U⟩]
theorem EI{H:J}{l i n e:Nat}{cap:Option Nat}:dC P H .len [24] [.aM l i n e cap]=some (.int .i64 n):=ad
theorem Hu{H:J}:dC P H .len [24] [.an]=some (.int .i64 0):=ad
theorem XF:hR P 26=some true:=ad
theorem XT:fq P 26=some 3:=ad
theorem Uf(l i c:Nat):aF P 26 (.ptr l i c) 0=some (.ptr l i (c+0)):=ad
theorem UO(a0 bd a2:I):d8 P 26 (.agg [a0,bd,a2]) 0=some a0:=ad
theorem Ug(l i c:Nat):aF P 26 (.ptr l i c) 1=some (.ptr l i (c+1)):=ad
theorem UP(a0 bd a2:I):d8 P 26 (.agg [a0,bd,a2]) 1=some bd:=ad
theorem Uh(l i c:Nat):aF P 26 (.ptr l i c) 2=some (.ptr l i (c+2)):=ad
theorem UQ(a0 bd a2:I):d8 P 26 (.agg [a0,bd,a2]) 2=some a2:=ad
theorem XG:hR P 27=some false:=ad
theorem XU:fq P 27=some 1:=ad
theorem XH:hR P 29=some true:=ad
theorem XV:fq P 29=some 2:=ad
theorem Lr(l i c:Nat):aF P 29 (.ptr l i c) 0=some (.ptr l i (c+0)):=ad
theorem UR(a0 bd:I):d8 P 29 (.agg [a0,bd]) 0=some a0:=ad
theorem Ui(l i c:Nat):aF P 29 (.ptr l i c) 1=some (.ptr l i (c+1)):=ad
theorem US(a0 bd:I):d8 P 29 (.agg [a0,bd]) 1=some bd:=ad
theorem ET:hR P 35=some false:=ad
theorem XW:fq P 35=some 1:=ad
theorem alr(l i n:Nat)(cap:Option Nat)(k:Int):en P 35 (.aM l i n 1 cap) (.int .i64 k)=if 1=1/\0<=k/\k<n then some (.ptr l (i+k.toNat) 0) else none:=ad
theorem MA{l i n:Nat}{cap:Option Nat}{k:Int}(a6:0<=k)(U:k<n):en P 35 (.aM l i n 1 cap) (.int .i64 k)=some (.ptr l (i+k.toNat) 0):=by rw[alr,if_pos ⟨rfl,a6,U⟩]
theorem Xw{H:J}{l i n e:Nat}{cap:Option Nat}:dC P H .len [35] [.aM l i n e cap]=some (.int .i64 n):=ad
theorem Wu{H:J}:dC P H .len [35] [.an]=some (.int .i64 0):=ad
theorem XI:hR P 41=some true:=ad
theorem MI:fq P 41=some 3:=ad
theorem Uj(l i c:Nat):aF P 41 (.ptr l i c) 0=some (.ptr l i (c+0)):=ad
theorem UT(a0 bd a2:I):d8 P 41 (.agg [a0,bd,a2]) 0=some a0:=ad
theorem Uk(l i c:Nat):aF P 41 (.ptr l i c) 1=some (.ptr l i (c+1)):=ad
theorem UU(a0 bd a2:I):d8 P 41 (.agg [a0,bd,a2]) 1=some bd:=ad
theorem Ul(l i c:Nat):aF P 41 (.ptr l i c) 2=some (.ptr l i (c+2)):=ad
theorem UV(a0 bd a2:I):d8 P 41 (.agg [a0,bd,a2]) 2=some a2:=ad
theorem XJ:hR P 43=some true:=ad
theorem XX:fq P 43=some 2:=ad
theorem Um(l i c:Nat):aF P 43 (.ptr l i c) 0=some (.ptr l i (c+0)):=ad
theorem UW(a0 bd:I):d8 P 43 (.agg [a0,bd]) 0=some a0:=ad
theorem Un(l i c:Nat):aF P 43 (.ptr l i c) 1=some (.ptr l i (c+1)):=ad
theorem UX(a0 bd:I):d8 P 43 (.agg [a0,bd]) 1=some bd:=ad
theorem MG:hR P 44=some false:=ad
theorem CI:fq P 44=some 1:=ad
theorem als(l i n:Nat)(cap:Option Nat)(k:Int):en P 44 (.aM l i n 9 cap) (.int .i64 k)=if 9=9/\0<=k/\k<n then some (.ptr l (i+k.toNat) 0) else none:=ad
theorem Xt{l i n:Nat}{cap:Option Nat}{k:Int}(a6:0<=k)(U:k<n):en P 44 (.aM l i n 9 cap) (.int .i64 k)=some (.ptr l (i+k.toNat) 0):=by rw[als,if_pos ⟨rfl,a6,U⟩]
theorem HP{H:J}{l i n e:Nat}{cap:Option Nat}:dC P H .len [44] [.aM l i n e cap]=some (.int .i64 n):=ad
theorem L7{H:J}:dC P H .len [44] [.an]=some (.int .i64 0):=ad
theorem XK:hR P 46=some true:=ad
theorem MJ:fq P 46=some 7:=ad
theorem Uo(l i c:Nat):aF P 46 (.ptr l i c) 0=some (.ptr l i (c+0)):=ad
theorem UY(a0 bd a2 a3 a4 a5 fi:I):d8 P 46 (.agg [a0,bd,a2,a3,a4,a5,fi]) 0=some a0:=ad
theorem Up(l i c:Nat):aF P 46 (.ptr l i c) 1=some (.ptr l i (c+1)):=ad
theorem UZ(a0 bd a2 a3 a4 a5 fi:I):d8 P 46 (.agg [a0,bd,a2,a3,a4,a5,fi]) 1=some bd:=ad
theorem Uq(l i c:Nat):aF P 46 (.ptr l i c) 2=some (.ptr l i (c+2)):=ad
theorem U0(a0 bd a2 a3 a4 a5 fi:I):d8 P 46 (.agg [a0,bd,a2,a3,a4,a5,fi]) 2=some a2:=ad
theorem Ur(l i c:Nat):aF P 46 (.ptr l i c) 3=some (.ptr l i (c+3)):=ad
theorem U1(a0 bd a2 a3 a4 a5 fi:I):d8 P 46 (.agg [a0,bd,a2,a3,a4,a5,fi]) 3=some (.agg [a3,a4]):=ad
theorem Us(l i c:Nat):aF P 46 (.ptr l i c) 4=some (.ptr l i (c+5)):=ad
theorem U2(a0 bd a2 a3 a4 a5 fi:I):d8 P 46 (.agg [a0,bd,a2,a3,a4,a5,fi]) 4=some a5:=ad
theorem Ut(l i c:Nat):aF P 46 (.ptr l i c) 5=some (.ptr l i (c+6)):=ad
theorem U3(a0 bd a2 a3 a4 a5 fi:I):d8 P 46 (.agg [a0,bd,a2,a3,a4,a5,fi]) 5=some fi:=ad
theorem EU:hR P 48=some false:=ad
theorem XY:fq P 48=some 1:=ad
theorem alt(l i n:Nat)(cap:Option Nat)(k:Int):en P 48 (.aM l i n 1 cap) (.int .i64 k)=if 1=1/\0<=k/\k<n then some (.ptr l (i+k.toNat) 0) else none:=ad
theorem MB{l i n:Nat}{cap:Option Nat}{k:Int}(a6:0<=k)(U:k<n):en P 48 (.aM l i n 1 cap) (.int .i64 k)=some (.ptr l (i+k.toNat) 0):=by rw[alt,if_pos ⟨rfl,a6,U⟩]
theorem Xx{H:J}{l i n e:Nat}{cap:Option Nat}:dC P H .len [48] [.aM l i n e cap]=some (.int .i64 n):=ad
theorem Wv{H:J}:dC P H .len [48] [.an]=some (.int .i64 0):=ad
theorem XL:hR P 50=some false:=ad
theorem XZ:fq P 50=some 1:=ad
theorem alu(l i n:Nat)(cap:Option Nat)(k:Int):en P 50 (.aM l i n 4 cap) (.int .i64 k)=if 4=4/\0<=k/\k<n then some (.ptr l (i+k.toNat) 0) else none:=ad
theorem EF{l i n:Nat}{cap:Option Nat}{k:Int}(a6:0<=k)(U:k<n):en P 50 (.aM l i n 4 cap) (.int .i64 k)=some (.ptr l (i+k.toNat) 0):=by rw[alu,if_pos ⟨rfl,a6,U⟩]
theorem xP{H:J}{l i n e:Nat}{cap:Option Nat}:dC P H .len [50] [.aM l i n e cap]=some (.int .i64 n):=ad
theorem En{H:J}:dC P H .len [50] [.an]=some (.int .i64 0):=ad
theorem XM:hR P 55=some true:=ad
theorem X0:fq P 55=some 7:=ad
theorem Uu(l i c:Nat):aF P 55 (.ptr l i c) 0=some (.ptr l i (c+0)):=ad
theorem U4(a0 bd a2 a3 a4 a5 fi:I):d8 P 55 (.agg [a0,bd,a2,a3,a4,a5,fi]) 0=some a0:=ad
theorem Uv(l i c:Nat):aF P 55 (.ptr l i c) 1=some (.ptr l i (c+1)):=ad
theorem U5(a0 bd a2 a3 a4 a5 fi:I):d8 P 55 (.agg [a0,bd,a2,a3,a4,a5,fi]) 1=some bd:=ad
theorem Uw(l i c:Nat):aF P 55 (.ptr l i c) 2=some (.ptr l i (c+2)):=ad
theorem U6(a0 bd a2 a3 a4 a5 fi:I):d8 P 55 (.agg [a0,bd,a2,a3,a4,a5,fi]) 2=some (.agg [a2,a3,a4]):=ad
theorem Ux(l i c:Nat):aF P 55 (.ptr l i c) 3=some (.ptr l i (c+5)):=ad
theorem U7(a0 bd a2 a3 a4 a5 fi:I):d8 P 55 (.agg [a0,bd,a2,a3,a4,a5,fi]) 3=some (.agg [a5,fi]):=ad
theorem XN:hR P 57=some true:=ad
theorem H4:fq P 57=some 4:=ad
theorem D7(l i c:Nat):aF P 57 (.ptr l i c) 0=some (.ptr l i (c+0)):=ad
theorem U8(a0 bd a2 a3:I):d8 P 57 (.agg [a0,bd,a2,a3]) 0=some a0:=ad
theorem D8(l i c:Nat):aF P 57 (.ptr l i c) 1=some (.ptr l i (c+1)):=ad
theorem U9(a0 bd a2 a3:I):d8 P 57 (.agg [a0,bd,a2,a3]) 1=some bd:=ad
theorem Uy(l i c:Nat):aF P 57 (.ptr l i c) 2=some (.ptr l i (c+2)):=ad
theorem U_(a0 bd a2 a3:I):d8 P 57 (.agg [a0,bd,a2,a3]) 2=some a2:=ad
theorem Uz(l i c:Nat):aF P 57 (.ptr l i c) 3=some (.ptr l i (c+3)):=ad
theorem Ls(a0 bd a2 a3:I):d8 P 57 (.agg [a0,bd,a2,a3]) 3=some a3:=ad
theorem BU(l i c:Nat):aF P 63 (.ptr l i c) 0=some (.ptr l i (c+0)):=ad
theorem Va(a0 bd a2 a3 a4:I):d8 P 63 (.agg [a0,bd,a2,a3,a4]) 0=some a0:=ad
theorem BV(l i c:Nat):aF P 63 (.ptr l i c) 1=some (.ptr l i (c+1)):=ad
theorem Vb(a0 bd a2 a3 a4:I):d8 P 63 (.agg [a0,bd,a2,a3,a4]) 1=some bd:=ad
theorem UA(l i c:Nat):aF P 63 (.ptr l i c) 2=some (.ptr l i (c+2)):=ad
theorem Vc(a0 bd a2 a3 a4:I):d8 P 63 (.agg [a0,bd,a2,a3,a4]) 2=some a2:=ad
theorem UB(l i c:Nat):aF P 63 (.ptr l i c) 3=some (.ptr l i (c+3)):=ad
theorem Vd(a0 bd a2 a3 a4:I):d8 P 63 (.agg [a0,bd,a2,a3,a4]) 3=some (.agg [a3,a4]):=ad
theorem XO:hR P 66=some true:=ad
theorem MK:fq P 66=some 4:=ad
theorem UC(l i c:Nat):aF P 66 (.ptr l i c) 0=some (.ptr l i (c+0)):=ad
theorem Ve(a0 bd a2 a3:I):d8 P 66 (.agg [a0,bd,a2,a3]) 0=some a0:=ad
theorem UD(l i c:Nat):aF P 66 (.ptr l i c) 1=some (.ptr l i (c+1)):=ad
theorem Vf(a0 bd a2 a3:I):d8 P 66 (.agg [a0,bd,a2,a3]) 1=some (.agg [bd,a2]):=ad
theorem UE(l i c:Nat):aF P 66 (.ptr l i c) 2=some (.ptr l i (c+3)):=ad
theorem Vg(a0 bd a2 a3:I):d8 P 66 (.agg [a0,bd,a2,a3]) 2=some a3:=ad
theorem XP:hR P 96=some false:=ad
theorem X1:fq P 96=some 1:=ad
theorem alv(l i n:Nat)(cap:Option Nat)(k:Int):en P 96 (.aM l i n 11 cap) (.int .i64 k)=if 11=11/\0<=k/\k<n then some (.ptr l (i+k.toNat) 0) else none:=ad
theorem Xu{l i n:Nat}{cap:Option Nat}{k:Int}(a6:0<=k)(U:k<n):en P 96 (.aM l i n 11 cap) (.int .i64 k)=some (.ptr l (i+k.toNat) 0):=by rw[alv,if_pos ⟨rfl,a6,U⟩]
theorem HQ{H:J}{l i n e:Nat}{cap:Option Nat}:dC P H .len [96] [.aM l i n e cap]=some (.int .i64 n):=ad
theorem L8{H:J}:dC P H .len [96] [.an]=some (.int .i64 0):=ad
theorem MH:hR P 98=some true:=ad
theorem CJ:fq P 98=some 9:=ad
theorem UF(l i c:Nat):aF P 98 (.ptr l i c) 0=some (.ptr l i (c+0)):=ad
theorem Vh(a0 bd a2 a3 a4 a5 fi hN h3:I):d8 P 98 (.agg [a0,bd,a2,a3,a4,a5,fi,hN,h3]) 0=some a0:=ad
theorem UG(l i c:Nat):aF P 98 (.ptr l i c) 1=some (.ptr l i (c+1)):=ad
theorem Vi(a0 bd a2 a3 a4 a5 fi hN h3:I):d8 P 98 (.agg [a0,bd,a2,a3,a4,a5,fi,hN,h3]) 1=some bd:=ad
theorem UH(l i c:Nat):aF P 98 (.ptr l i c) 2=some (.ptr l i (c+2)):=ad
theorem Vj(a0 bd a2 a3 a4 a5 fi hN h3:I):d8 P 98 (.agg [a0,bd,a2,a3,a4,a5,fi,hN,h3]) 2=some (.agg [a2,a3]):=ad
theorem UI(l i c:Nat):aF P 98 (.ptr l i c) 3=some (.ptr l i (c+4)):=ad
theorem Vk(a0 bd a2 a3 a4 a5 fi hN h3:I):d8 P 98 (.agg [a0,bd,a2,a3,a4,a5,fi,hN,h3]) 3=some a4:=ad
theorem UJ(l i c:Nat):aF P 98 (.ptr l i c) 4=some (.ptr l i (c+5)):=ad
theorem Vl(a0 bd a2 a3 a4 a5 fi hN h3:I):d8 P 98 (.agg [a0,bd,a2,a3,a4,a5,fi,hN,h3]) 4=some a5:=ad
theorem UK(l i c:Nat):aF P 98 (.ptr l i c) 5=some (.ptr l i (c+6)):=ad
theorem Vm(a0 bd a2 a3 a4 a5 fi hN h3:I):d8 P 98 (.agg [a0,bd,a2,a3,a4,a5,fi,hN,h3]) 5=some fi:=ad
theorem UL(l i c:Nat):aF P 98 (.ptr l i c) 6=some (.ptr l i (c+7)):=ad
theorem Vn(a0 bd a2 a3 a4 a5 fi hN h3:I):d8 P 98 (.agg [a0,bd,a2,a3,a4,a5,fi,hN,h3]) 6=some hN:=ad
theorem UM(l i c:Nat):aF P 98 (.ptr l i c) 7=some (.ptr l i (c+8)):=ad
theorem Vo(a0 bd a2 a3 a4 a5 fi hN h3:I):d8 P 98 (.agg [a0,bd,a2,a3,a4,a5,fi,hN,h3]) 7=some h3:=ad
theorem WD:hR P 101=some true:=ad
theorem WL:fq P 101=some 3:=ad
theorem SS(l i c:Nat):aF P 101 (.ptr l i c) 0=some (.ptr l i (c+0)):=ad
theorem Ta(a0 bd a2:I):d8 P 101 (.agg [a0,bd,a2]) 0=some a0:=ad
theorem SU(l i c:Nat):aF P 101 (.ptr l i c) 1=some (.ptr l i (c+1)):=ad
theorem Tb(a0 bd a2:I):d8 P 101 (.agg [a0,bd,a2]) 1=some bd:=ad
theorem SV(l i c:Nat):aF P 101 (.ptr l i c) 2=some (.ptr l i (c+2)):=ad
theorem Tc(a0 bd a2:I):d8 P 101 (.agg [a0,bd,a2]) 2=some a2:=ad
theorem WE:hR P 103=some true:=ad
theorem HB:fq P 103=some 11:=ad
theorem SW(l i c:Nat):aF P 103 (.ptr l i c) 0=some (.ptr l i (c+0)):=ad
theorem Td(a0 bd a2 a3 a4 a5 fi hN h3 a9 oF:I):d8 P 103 (.agg [a0,bd,a2,a3,a4,a5,fi,hN,h3,a9,oF]) 0=some a0:=ad
theorem SX(l i c:Nat):aF P 103 (.ptr l i c) 1=some (.ptr l i (c+1)):=ad
theorem Te(a0 bd a2 a3 a4 a5 fi hN h3 a9 oF:I):d8 P 103 (.agg [a0,bd,a2,a3,a4,a5,fi,hN,h3,a9,oF]) 1=some bd:=ad
theorem SY(l i c:Nat):aF P 103 (.ptr l i c) 2=some (.ptr l i (c+2)):=ad
theorem Tf(a0 bd a2 a3 a4 a5 fi hN h3 a9 oF:I):d8 P 103 (.agg [a0,bd,a2,a3,a4,a5,fi,hN,h3,a9,oF]) 2=some a2:=ad
theorem SZ(l i c:Nat):aF P 103 (.ptr l i c) 3=some (.ptr l i (c+3)):=ad
theorem Tg(a0 bd a2 a3 a4 a5 fi hN h3 a9 oF:I):d8 P 103 (.agg [a0,bd,a2,a3,a4,a5,fi,hN,h3,a9,oF]) 3=some (.agg [a3,a4]):=ad
theorem S0(l i c:Nat):aF P 103 (.ptr l i c) 4=some (.ptr l i (c+5)):=ad
theorem Th(a0 bd a2 a3 a4 a5 fi hN h3 a9 oF:I):d8 P 103 (.agg [a0,bd,a2,a3,a4,a5,fi,hN,h3,a9,oF]) 4=some a5:=ad
theorem S1(l i c:Nat):aF P 103 (.ptr l i c) 5=some (.ptr l i (c+6)):=ad
theorem Ti(a0 bd a2 a3 a4 a5 fi hN h3 a9 oF:I):d8 P 103 (.agg [a0,bd,a2,a3,a4,a5,fi,hN,h3,a9,oF]) 5=some fi:=ad
theorem S2(l i c:Nat):aF P 103 (.ptr l i c) 6=some (.ptr l i (c+7)):=ad
theorem Tj(a0 bd a2 a3 a4 a5 fi hN h3 a9 oF:I):d8 P 103 (.agg [a0,bd,a2,a3,a4,a5,fi,hN,h3,a9,oF]) 6=some (.agg [hN,h3,a9]):=ad
theorem S3(l i c:Nat):aF P 103 (.ptr l i c) 7=some (.ptr l i (c+10)):=ad
theorem Tk(a0 bd a2 a3 a4 a5 fi hN h3 a9 oF:I):d8 P 103 (.agg [a0,bd,a2,a3,a4,a5,fi,hN,h3,a9,oF]) 7=some oF:=ad
theorem S4(l i c:Nat):aF P 112 (.ptr l i c) 0=some (.ptr l i (c+0)):=ad
theorem Tl(a0 bd a2 a3 a4:I):d8 P 112 (.agg [a0,bd,a2,a3,a4]) 0=some a0:=ad
theorem S5(l i c:Nat):aF P 112 (.ptr l i c) 1=some (.ptr l i (c+1)):=ad
theorem Tm(a0 bd a2 a3 a4:I):d8 P 112 (.agg [a0,bd,a2,a3,a4]) 1=some bd:=ad
theorem S6(l i c:Nat):aF P 112 (.ptr l i c) 2=some (.ptr l i (c+2)):=ad
theorem Tn(a0 bd a2 a3 a4:I):d8 P 112 (.agg [a0,bd,a2,a3,a4]) 2=some a2:=ad
theorem S7(l i c:Nat):aF P 112 (.ptr l i c) 3=some (.ptr l i (c+3)):=ad
theorem To(a0 bd a2 a3 a4:I):d8 P 112 (.agg [a0,bd,a2,a3,a4]) 3=some (.agg [a3,a4]):=ad
theorem WF:hR P 131=some false:=ad
theorem WM:fq P 131=some 1:=ad
theorem aiu(l i n:Nat)(cap:Option Nat)(k:Int):en P 131 (.aM l i n 1 cap) (.int .i64 k)=if 1=1/\0<=k/\k<n then some (.ptr l (i+k.toNat) 0) else none:=ad
theorem Wo{l i n:Nat}{cap:Option Nat}{k:Int}(a6:0<=k)(U:k<n):en P 131 (.aM l i n 1 cap) (.int .i64 k)=some (.ptr l (i+k.toNat) 0):=by rw[aiu,if_pos ⟨rfl,a6,U⟩]
theorem L6{H:J}{l i n e:Nat}{cap:Option Nat}:dC P H .len [131] [.aM l i n e cap]=some (.int .i64 n):=ad
theorem Vw{H:J}:dC P H .len [131] [.an]=some (.int .i64 0):=ad
theorem WG:hR P 133=some true:=ad
theorem WN:fq P 133=some 6:=ad
theorem BN(l i c:Nat):aF P 133 (.ptr l i c) 0=some (.ptr l i (c+0)):=ad
theorem Tp(a0 bd a2 a3 a4 a5:I):d8 P 133 (.agg [a0,bd,a2,a3,a4,a5]) 0=some a0:=ad
theorem wT(l i c:Nat):aF P 133 (.ptr l i c) 1=some (.ptr l i (c+1)):=ad
theorem Tq(a0 bd a2 a3 a4 a5:I):d8 P 133 (.agg [a0,bd,a2,a3,a4,a5]) 1=some bd:=ad
theorem DU(l i c:Nat):aF P 133 (.ptr l i c) 2=some (.ptr l i (c+2)):=ad
theorem Tr(a0 bd a2 a3 a4 a5:I):d8 P 133 (.agg [a0,bd,a2,a3,a4,a5]) 2=some a2:=ad
theorem S8(l i c:Nat):aF P 133 (.ptr l i c) 3=some (.ptr l i (c+3)):=ad
theorem Ts(a0 bd a2 a3 a4 a5:I):d8 P 133 (.agg [a0,bd,a2,a3,a4,a5]) 3=some a3:=ad
theorem GU(l i c:Nat):aF P 133 (.ptr l i c) 4=some (.ptr l i (c+4)):=ad
theorem Tt(a0 bd a2 a3 a4 a5:I):d8 P 133 (.agg [a0,bd,a2,a3,a4,a5]) 4=some (.agg [a4,a5]):=ad
theorem WH:hR P 163=some false:=ad
theorem WO:fq P 163=some 1:=ad
theorem aiv(l i n:Nat)(cap:Option Nat)(k:Int):en P 163 (.aM l i n 1 cap) (.int .i64 k)=if 1=1/\0<=k/\k<n then some (.ptr l (i+k.toNat) 0) else none:=ad
theorem LZ{l i n:Nat}{cap:Option Nat}{k:Int}(a6:0<=k)(U:k<n):en P 163 (.aM l i n 1 cap) (.int .i64 k)=some (.ptr l (i+k.toNat) 0):=by rw[aiv,if_pos ⟨rfl,a6,U⟩]
theorem Wr{H:J}{l i n e:Nat}{cap:Option Nat}:dC P H .len [163] [.aM l i n e cap]=some (.int .i64 n):=ad
theorem Vx{H:J}:dC P H .len [163] [.an]=some (.int .i64 0):=ad
theorem WI:hR P 164=some false:=ad
theorem WP:fq P 164=some 1:=ad
theorem aiw(l i n:Nat)(cap:Option Nat)(k:Int):en P 164 (.aM l i n 1 cap) (.int .i64 k)=if 1=1/\0<=k/\k<n then some (.ptr l (i+k.toNat) 0) else none:=ad
theorem L0{l i n:Nat}{cap:Option Nat}{k:Int}(a6:0<=k)(U:k<n):en P 164 (.aM l i n 1 cap) (.int .i64 k)=some (.ptr l (i+k.toNat) 0):=by rw[aiw,if_pos ⟨rfl,a6,U⟩]
theorem Ws{H:J}{l i n e:Nat}{cap:Option Nat}:dC P H .len [164] [.aM l i n e cap]=some (.int .i64 n):=ad
theorem Vy{H:J}:dC P H .len [164] [.an]=some (.int .i64 0):=ad
theorem WJ:hR P 199=some true:=ad
theorem WQ:fq P 199=some 2:=ad
theorem S9(l i c:Nat):aF P 199 (.ptr l i c) 0=some (.ptr l i (c+0)):=ad
theorem Tu(a0 bd:I):d8 P 199 (.agg [a0,bd]) 0=some a0:=ad
theorem S_(l i c:Nat):aF P 199 (.ptr l i c) 1=some (.ptr l i (c+1)):=ad
theorem Tv(a0 bd:I):d8 P 199 (.agg [a0,bd]) 1=some bd:=ad
theorem WK:hR P 200=some false:=ad
theorem WR:fq P 200=some 1:=ad
theorem aix(l i n:Nat)(cap:Option Nat)(k:Int):en P 200 (.aM l i n 2 cap) (.int .i64 k)=if 2=2/\0<=k/\k<n then some (.ptr l (i+k.toNat) 0) else none:=ad
theorem L1{l i n:Nat}{cap:Option Nat}{k:Int}(a6:0<=k)(U:k<n):en P 200 (.aM l i n 2 cap) (.int .i64 k)=some (.ptr l (i+k.toNat) 0):=by rw[aix,if_pos ⟨rfl,a6,U⟩]
theorem Wt{H:J}{l i n e:Nat}{cap:Option Nat}:dC P H .len [200] [.aM l i n e cap]=some (.int .i64 n):=ad
theorem Vz{H:J}:dC P H .len [200] [.an]=some (.int .i64 0):=ad
theorem RE:cM P 26 [(0,I.an)]=some (.agg [I.an,I.an,I.an]):=ad
theorem RF(lK:Nat)(lJ:Nat)(lL:Nat)(lI:Nat)(lH:Option Nat):cM P 26 [(0,(.aM lK lJ lL lI lH))]=some (.agg [(.aM lK lJ lL lI lH),I.an,I.an]):=ad
theorem RG:cM P 26 [(1,I.an)]=some (.agg [I.an,I.an,I.an]):=ad
theorem RH(Yf:Nat)(Ye:Nat)(Yg:Nat)(Yd:Nat)(Yc:Option Nat):cM P 26 [(1,(.aM Yf Ye Yg Yd Yc))]=some (.agg [I.an,(.aM Yf Ye Yg Yd Yc),I.an]):=ad
theorem RI:cM P 26 [(2,I.an)]=some (.agg [I.an,I.an,I.an]):=ad
theorem RJ(Yk:Nat)(Yj:Nat)(Yl:Nat)(Yi:Nat)(Yh:Option Nat):cM P 26 [(2,(.aM Yk Yj Yl Yi Yh))]=some (.agg [I.an,I.an,(.aM Yk Yj Yl Yi Yh)]):=ad
theorem KF(a0:Int)(bd:Int):cM P 29 [(0,(.int .i64 a0)),(1,(.int .i64 bd))]=some (.agg [(.int .i64 a0),(.int .i64 bd)]):=ad
theorem RO:cM P 55 [(0,I.an)]=some (.agg [I.an,(.int .i64 0),I.an,I.an,I.an,(.int .i64 0),(.int .i64 0)]):=ad
theorem RP(lK:Nat)(lJ:Nat)(lL:Nat)(lI:Nat)(lH:Option Nat):cM P 55 [(0,(.aM lK lJ lL lI lH))]=some (.agg [(.aM lK lJ lL lI lH),(.int .i64 0),I.an,I.an,I.an,(.int .i64 0),(.int .i64 0)]):=ad
theorem RT:cM P 63 [(0,I.an)]=some (.agg [I.an,(.int .i64 0),(.int .i64 0),(.int .i64 0),(.int .i64 0)]):=ad
theorem RU(lK:Nat)(lJ:Nat)(lL:Nat)(lI:Nat)(lH:Option Nat):cM P 63 [(0,(.aM lK lJ lL lI lH))]=some (.agg [(.aM lK lJ lL lI lH),(.int .i64 0),(.int .i64 0),(.int .i64 0),(.int .i64 0)]):=ad
theorem T6(a0:Int):cM P 29 [(0,(.int .i64 a0))]=some (.agg [(.int .i64 a0),(.int .i64 0)]):=ad
theorem RS(a0:Int)(a3:Int):cM P 57 [(0,(.int .i64 a0)),(3,(.int .i64 a3))]=some (.agg [(.int .i64 a0),(.str []),(.int .i64 0),(.int .i64 a3)]):=ad
theorem RL(a0:List UInt8)(a2:Int):cM P 41 [(0,(.str a0)),(2,(.int .i64 a2))]=some (.agg [(.str a0),I.an,(.int .i64 a2)]):=ad
theorem RN(a0:List UInt8)(a5:Int):cM P 46 [(0,(.str a0)),(5,(.int .i64 a5))]=some (.agg [(.str a0),I.an,(.bool false),(.str []),(.int .i64 0),I.an,(.int .i64 a5)]):=ad
theorem Ua(a0:Int):cM P 57 [(0,(.int .i64 a0))]=some (.agg [(.int .i64 a0),(.str []),(.int .i64 0),(.int .i64 0)]):=ad
theorem T7(a2:Int):cM P 41 [(2,(.int .i64 a2))]=some (.agg [(.str []),I.an,(.int .i64 a2)]):=ad
theorem Ub(a2:Int):cM P 66 [(2,(.int .i64 a2))]=some (.agg [(.str []),(.str []),(.int .i64 0),(.int .i64 a2)]):=ad
theorem T_(a5:Int):cM P 46 [(5,(.int .i64 a5))]=some (.agg [(.str []),I.an,(.bool false),(.str []),(.int .i64 0),I.an,(.int .i64 a5)]):=ad
theorem RQ(a0:Int)(bd:List UInt8):cM P 57 [(0,(.int .i64 a0)),(1,(.str bd))]=some (.agg [(.int .i64 a0),(.str bd),(.int .i64 0),(.int .i64 0)]):=ad
theorem P3(a0:List UInt8)(W1:List UInt8)(W2:Int)(a2:Int):cM P 66 [(0,(.str a0)),(1,(.agg [(.str W1),(.int .i64 W2)])),(2,(.int .i64 a2))]=some (.agg [(.str a0),(.str W1),(.int .i64 W2),(.int .i64 a2)]):=ad
theorem OZ(bd:Int)(a2:Int):cM P 112 [(0,I.an),(1,(.int .i64 bd)),(2,(.int .i64 a2))]=some (.agg [I.an,(.int .i64 bd),(.int .i64 a2),(.int .i64 0),(.int .i64 0)]):=ad
theorem O0(lK:Nat)(lJ:Nat)(lL:Nat)(lI:Nat)(lH:Option Nat)(bd:Int)(a2:Int):cM P 112 [(0,(.aM lK lJ lL lI lH)),(1,(.int .i64 bd)),(2,(.int .i64 a2))]=some (.agg [(.aM lK lJ lL lI lH),(.int .i64 bd),(.int .i64 a2),(.int .i64 0),(.int .i64 0)]):=ad
theorem P1(a0:Int)(bd:List UInt8)(a3:Int):cM P 57 [(0,(.int .i64 a0)),(1,(.str bd)),(3,(.int .i64 a3))]=some (.agg [(.int .i64 a0),(.str bd),(.int .i64 0),(.int .i64 a3)]):=ad
theorem P2(a0:Int)(a2:Int)(a3:Int):cM P 57 [(0,(.int .i64 a0)),(2,(.int .i64 a2)),(3,(.int .i64 a3))]=some (.agg [(.int .i64 a0),(.str []),(.int .i64 a2),(.int .i64 a3)]):=ad
theorem T9(bd:Int):cM P 43 [(1,(.int .i64 bd))]=some (.agg [(.str []),(.int .i64 bd)]):=ad
theorem RR(a0:Int)(a2:Int):cM P 57 [(0,(.int .i64 a0)),(2,(.int .i64 a2))]=some (.agg [(.int .i64 a0),(.str []),(.int .i64 a2),(.int .i64 0)]):=ad
theorem Ps(bd:Int):cM P 133 [(0,I.an),(1,(.int .i64 bd))]=some (.agg [I.an,(.int .i64 bd),(.int .i64 0),I.an,(.int .i64 0),(.int .i64 0)]):=ad
theorem Pt(lK:Nat)(lJ:Nat)(lL:Nat)(lI:Nat)(lH:Option Nat)(bd:Int):cM P 133 [(0,(.aM lK lJ lL lI lH)),(1,(.int .i64 bd))]=some (.agg [(.aM lK lJ lL lI lH),(.int .i64 bd),(.int .i64 0),I.an,(.int .i64 0),(.int .i64 0)]):=ad
theorem Ud(fi:Int):cM P 98 [(6,(.int .i64 fi))]=some (.agg [(.int .i64 0),(.str []),(.str []),(.int .i64 0),I.an,I.an,I.an,(.int .i64 fi),(.int .i64 0)]):=ad
theorem RM(a0:List UInt8)(bd:Int):cM P 43 [(0,(.str a0)),(1,(.int .i64 bd))]=some (.agg [(.str a0),(.int .i64 bd)]):=ad
theorem OX(a0:Int)(a5:Int):cM P 103 [(0,(.int .i64 a0)),(4,I.an),(5,(.int .i64 a5))]=some (.agg [(.int .i64 a0),(.int .i64 0),(.str []),(.str []),(.int .i64 0),I.an,(.int .i64 a5),(.int .i64 0),(.int .i64 0),(.int .i64 0),(.int .i64 0)]):=ad
theorem OY(a0:Int)(qd:Nat)(qc:Nat)(qe:Nat)(qb:Nat)(qa:Option Nat)(a5:Int):cM P 103 [(0,(.int .i64 a0)),(4,(.aM qd qc qe qb qa)),(5,(.int .i64 a5))]=some (.agg [(.int .i64 a0),(.int .i64 0),(.str []),(.str []),(.int .i64 0),(.aM qd qc qe qb qa),(.int .i64 a5),(.int .i64 0),(.int .i64 0),(.int .i64 0),(.int .i64 0)]):=ad
theorem P5(a0:Int):cM P 98 [(0,(.int .i64 a0)),(3,I.an)]=some (.agg [(.int .i64 a0),(.str []),(.str []),(.int .i64 0),I.an,I.an,I.an,(.int .i64 0),(.int .i64 0)]):=ad
theorem P6(a0:Int)(lP:Nat)(lO:Nat)(lQ:Nat)(lN:Nat)(lM:Option Nat):cM P 98 [(0,(.int .i64 a0)),(3,(.aM lP lO lQ lN lM))]=some (.agg [(.int .i64 a0),(.str []),(.str []),(.int .i64 0),(.aM lP lO lQ lN lM),I.an,I.an,(.int .i64 0),(.int .i64 0)]):=ad
theorem O8(a0:Int)(bd:List UInt8):cM P 98 [(0,(.int .i64 a0)),(1,(.str bd)),(3,I.an)]=some (.agg [(.int .i64 a0),(.str bd),(.str []),(.int .i64 0),I.an,I.an,I.an,(.int .i64 0),(.int .i64 0)]):=ad
theorem O9(a0:Int)(bd:List UInt8)(lP:Nat)(lO:Nat)(lQ:Nat)(lN:Nat)(lM:Option Nat):cM P 98 [(0,(.int .i64 a0)),(1,(.str bd)),(3,(.aM lP lO lQ lN lM))]=some (.agg [(.int .i64 a0),(.str bd),(.str []),(.int .i64 0),(.aM lP lO lQ lN lM),I.an,I.an,(.int .i64 0),(.int .i64 0)]):=ad
theorem P4(a0:Int)(bd:List UInt8)(xF:List UInt8)(xG:Int):cM P 98 [(0,(.int .i64 a0)),(1,(.str bd)),(2,(.agg [(.str xF),(.int .i64 xG)]))]=some (.agg [(.int .i64 a0),(.str bd),(.str xF),(.int .i64 xG),I.an,I.an,I.an,(.int .i64 0),(.int .i64 0)]):=ad
theorem OQ(a0:Int)(bd:List UInt8)(xF:List UInt8)(xG:Int):cM P 98 [(0,(.int .i64 a0)),(1,(.str bd)),(2,(.agg [(.str xF),(.int .i64 xG)])),(3,I.an)]=some (.agg [(.int .i64 a0),(.str bd),(.str xF),(.int .i64 xG),I.an,I.an,I.an,(.int .i64 0),(.int .i64 0)]):=ad
theorem OR(a0:Int)(bd:List UInt8)(xF:List UInt8)(xG:Int)(lP:Nat)(lO:Nat)(lQ:Nat)(lN:Nat)(lM:Option Nat):cM P 98 [(0,(.int .i64 a0)),(1,(.str bd)),(2,(.agg [(.str xF),(.int .i64 xG)])),(3,(.aM lP lO lQ lN lM))]=some (.agg [(.int .i64 a0),(.str bd),(.str xF),(.int .i64 xG),(.aM lP lO lQ lN lM),I.an,I.an,(.int .i64 0),(.int .i64 0)]):=ad
theorem O_(a0:Int):cM P 98 [(0,(.int .i64 a0)),(3,I.an),(4,I.an)]=some (.agg [(.int .i64 a0),(.str []),(.str []),(.int .i64 0),I.an,I.an,I.an,(.int .i64 0),(.int .i64 0)]):=ad
theorem Pa(a0:Int)(qd:Nat)(qc:Nat)(qe:Nat)(qb:Nat)(qa:Option Nat):cM P 98 [(0,(.int .i64 a0)),(3,I.an),(4,(.aM qd qc qe qb qa))]=some (.agg [(.int .i64 a0),(.str []),(.str []),(.int .i64 0),I.an,(.aM qd qc qe qb qa),I.an,(.int .i64 0),(.int .i64 0)]):=ad
theorem Pb(a0:Int)(lP:Nat)(lO:Nat)(lQ:Nat)(lN:Nat)(lM:Option Nat):cM P 98 [(0,(.int .i64 a0)),(3,(.aM lP lO lQ lN lM)),(4,I.an)]=some (.agg [(.int .i64 a0),(.str []),(.str []),(.int .i64 0),(.aM lP lO lQ lN lM),I.an,I.an,(.int .i64 0),(.int .i64 0)]):=ad
theorem Pc(a0:Int)(lP:Nat)(lO:Nat)(lQ:Nat)(lN:Nat)(lM:Option Nat)(qd:Nat)(qc:Nat)(qe:Nat)(qb:Nat)(qa:Option Nat):cM P 98 [(0,(.int .i64 a0)),(3,(.aM lP lO lQ lN lM)),(4,(.aM qd qc qe qb qa))]=some (.agg [(.int .i64 a0),(.str []),(.str []),(.int .i64 0),(.aM lP lO lQ lN lM),(.aM qd qc qe qb qa),I.an,(.int .i64 0),(.int .i64 0)]):=ad
theorem Uc(a0:Int):cM P 98 [(0,(.int .i64 a0))]=some (.agg [(.int .i64 a0),(.str []),(.str []),(.int .i64 0),I.an,I.an,I.an,(.int .i64 0),(.int .i64 0)]):=ad
theorem OF(a0:Int)(a2:List UInt8)(a5:Int):cM P 103 [(0,(.int .i64 a0)),(2,(.str a2)),(4,I.an),(5,(.int .i64 a5))]=some (.agg [(.int .i64 a0),(.int .i64 0),(.str a2),(.str []),(.int .i64 0),I.an,(.int .i64 a5),(.int .i64 0),(.int .i64 0),(.int .i64 0),(.int .i64 0)]):=ad
theorem OG(a0:Int)(a2:List UInt8)(qd:Nat)(qc:Nat)(qe:Nat)(qb:Nat)(qa:Option Nat)(a5:Int):cM P 103 [(0,(.int .i64 a0)),(2,(.str a2)),(4,(.aM qd qc qe qb qa)),(5,(.int .i64 a5))]=some (.agg [(.int .i64 a0),(.int .i64 0),(.str a2),(.str []),(.int .i64 0),(.aM qd qc qe qb qa),(.int .i64 a5),(.int .i64 0),(.int .i64 0),(.int .i64 0),(.int .i64 0)]):=ad
theorem Pp(a0:Int)(bd:Int)(a5:Int):cM P 103 [(0,(.int .i64 a0)),(1,(.int .i64 bd)),(5,(.int .i64 a5))]=some (.agg [(.int .i64 a0),(.int .i64 bd),(.str []),(.str []),(.int .i64 0),I.an,(.int .i64 a5),(.int .i64 0),(.int .i64 0),(.int .i64 0),(.int .i64 0)]):=ad
theorem Pr(a0:Int)(xH:List UInt8)(xI:Int)(a5:Int):cM P 103 [(0,(.int .i64 a0)),(3,(.agg [(.str xH),(.int .i64 xI)])),(5,(.int .i64 a5))]=some (.agg [(.int .i64 a0),(.int .i64 0),(.str []),(.str xH),(.int .i64 xI),I.an,(.int .i64 a5),(.int .i64 0),(.int .i64 0),(.int .i64 0),(.int .i64 0)]):=ad
theorem QN(a0:Int)(a5:Int):cM P 103 [(0,(.int .i64 a0)),(5,(.int .i64 a5))]=some (.agg [(.int .i64 a0),(.int .i64 0),(.str []),(.str []),(.int .i64 0),I.an,(.int .i64 a5),(.int .i64 0),(.int .i64 0),(.int .i64 0),(.int .i64 0)]):=ad
theorem Pq(a0:Int)(a2:List UInt8)(a5:Int):cM P 103 [(0,(.int .i64 a0)),(2,(.str a2)),(5,(.int .i64 a5))]=some (.agg [(.int .i64 a0),(.int .i64 0),(.str a2),(.str []),(.int .i64 0),I.an,(.int .i64 a5),(.int .i64 0),(.int .i64 0),(.int .i64 0),(.int .i64 0)]):=ad
theorem OJ(bd:Int)(a2:Int):cM P 133 [(0,I.an),(1,(.int .i64 bd)),(2,(.int .i64 a2)),(3,I.an)]=some (.agg [I.an,(.int .i64 bd),(.int .i64 a2),I.an,(.int .i64 0),(.int .i64 0)]):=ad
theorem OK(bd:Int)(a2:Int)(lP:Nat)(lO:Nat)(lQ:Nat)(lN:Nat)(lM:Option Nat):cM P 133 [(0,I.an),(1,(.int .i64 bd)),(2,(.int .i64 a2)),(3,(.aM lP lO lQ lN lM))]=some (.agg [I.an,(.int .i64 bd),(.int .i64 a2),(.aM lP lO lQ lN lM),(.int .i64 0),(.int .i64 0)]):=ad
theorem OL(lK:Nat)(lJ:Nat)(lL:Nat)(lI:Nat)(lH:Option Nat)(bd:Int)(a2:Int):cM P 133 [(0,(.aM lK lJ lL lI lH)),(1,(.int .i64 bd)),(2,(.int .i64 a2)),(3,I.an)]=some (.agg [(.aM lK lJ lL lI lH),(.int .i64 bd),(.int .i64 a2),I.an,(.int .i64 0),(.int .i64 0)]):=ad
theorem OM(lK:Nat)(lJ:Nat)(lL:Nat)(lI:Nat)(lH:Option Nat)(bd:Int)(a2:Int)(lP:Nat)(lO:Nat)(lQ:Nat)(lN:Nat)(lM:Option Nat):cM P 133 [(0,(.aM lK lJ lL lI lH)),(1,(.int .i64 bd)),(2,(.int .i64 a2)),(3,(.aM lP lO lQ lN lM))]=some (.agg [(.aM lK lJ lL lI lH),(.int .i64 bd),(.int .i64 a2),(.aM lP lO lQ lN lM),(.int .i64 0),(.int .i64 0)]):=ad
theorem T8(a0:List UInt8):cM P 43 [(0,(.str a0))]=some (.agg [(.str a0),(.int .i64 0)]):=ad
theorem OH(a0:Int)(xH:List UInt8)(xI:Int)(a5:Int):cM P 103 [(0,(.int .i64 a0)),(3,(.agg [(.str xH),(.int .i64 xI)])),(4,I.an),(5,(.int .i64 a5))]=some (.agg [(.int .i64 a0),(.int .i64 0),(.str []),(.str xH),(.int .i64 xI),I.an,(.int .i64 a5),(.int .i64 0),(.int .i64 0),(.int .i64 0),(.int .i64 0)]):=ad
theorem OI(a0:Int)(xH:List UInt8)(xI:Int)(qd:Nat)(qc:Nat)(qe:Nat)(qb:Nat)(qa:Option Nat)(a5:Int):cM P 103 [(0,(.int .i64 a0)),(3,(.agg [(.str xH),(.int .i64 xI)])),(4,(.aM qd qc qe qb qa)),(5,(.int .i64 a5))]=some (.agg [(.int .i64 a0),(.int .i64 0),(.str []),(.str xH),(.int .i64 xI),(.aM qd qc qe qb qa),(.int .i64 a5),(.int .i64 0),(.int .i64 0),(.int .i64 0),(.int .i64 0)]):=ad
theorem QO(a0:List UInt8)(bd:Int):cM P 199 [(0,(.str a0)),(1,(.int .i64 bd))]=some (.agg [(.str a0),(.int .i64 bd)]):=ad
end
end Go.Proofs.YtghmbpmaafnodaaGreatDoor
namespace Go.f7
open Go.ChangeShapes Go.WideShapes Go.ChangeAt Go.RowKit
def VZ(E:Env)(P:Program)(f:Nat)(args:List Value)(W:World):Prop:=
 ∃(ρ:Env) (H:J) (MS:List I) (H':J),Rel ρ H W/\(∀l,¬H.rw l)/\(∀l,H.next<=l->ρ l=none)/\E.le ρ/\H.next<=H'.next/\dG ρ MS args/\wP E P f MS H (.bool true) H'
theorem afR{E:Env}{P:Program}{f:Nat}{fn:Func}{c:Code}{args:List Value}{W:World}(px:y_ P)(jp:P.funcs[f]? =some fn)(aS:fn.body=some c)(h:VZ E P f args W):
  Calls P f args.toArray W λe b5=>e= .returned (.bool true)/\Below W.heap.size W b5:=by
 obtain⟨ρ,H,MS,H',U,aa,ae,nd,al,aB,aG⟩:=h;have ja: ∀b,¬pW ρ H b:=by rintro b ⟨l,loc,ax,_⟩;exact aa l ax
 have uG:=aG ρ W args U ⟨λl ax _=>ae l ax,nd⟩ aB al (λx b5=>x= .bool true/\Below W.heap.size W b5) (λx b5 cX af aO=>by
  cases af;exact⟨rfl,aO.os,aO.tape,aO.output,aO.size,λk ah=>aO.frame k ah (ja k)⟩)
 have zE:(fn.name== "runtime.NumGoroutine")=false:=px.names fn (Array.mem_of_getElem? jp);have oD:(callFunc f args.toArray).run P W= .ok (.enter f args.toArray) W:=by
  unfold callFunc;simp[jp,aS];intro bW;simp[bW] at zE
 unfold zN at uG;rw[oD] at uG;simp only at uG;refine uG.mono λe b5 a7=> ?_
 split at a7
 ·exact⟨by rw[a7.1],a7.2⟩
 ·exact a7.elim
theorem O7{H:Type}{enc:TypeId×Value->H}{P:Program}{W FW:World}(ax:laidOutB P=true)(ay:Below W.heap.size W FW): ∀{ts:List TypeId} {cm:List Value} {bU:List (DataW H)} {et:List MemPlace},(∀t∈ts,P.readableRec t=true/\t<P.types.size)->
  DataW.TrodAll enc P W 0 (λ_=>true) true ts cm bU et-> ∃Zx,DataW.TrodAll enc P FW 0 (λb=>decide (b<W.heap.size)) true ts cm bU Zx
 |[],cm,bU,et,_,h=>by
  obtain⟨rfl,rfl,rfl⟩:=trodAll_nil h;exact⟨[],trodAll_mk0⟩
 |t::ts,cm,bU,et,bC,h=>by
  obtain⟨v,FR,d,aro,p,q,rfl,rfl,rfl,U,aa⟩:=trodAll_cons h;obtain⟨Zx,ae⟩:=O7 ax ay (λt apC=>bC t (List.mem_cons_of_mem _ apC)) aa;have eo: ∀x∈p,x.block<W.heap.size:=by obtain⟨m,hm⟩:=U;exact DataW.trod_lt m _ _ _ hm
  exact⟨_,trodAll_cons_mk (Below.trod ax (bC t (List.mem_cons_self ..)).1 (bC t (List.mem_cons_self ..)).2 U ay eo) ae⟩
structure Seen(ρ:Env)(H:J)(W:World):Prop where
 rel:Rel ρ H W
 ro: ∀l,¬H.rw l
 top: ∀l,H.next<=l->ρ l=none
theorem Seen.empty(W:World):Seen (λ_=>none) J.empty W:=
 have ja: ∀l,¬J.empty.rw l:=λl ax=>by
  rcases ax with⟨e,s,h⟩|⟨es,h⟩<;>rw[J.Gs] at h<;>cases h
 ⟨ad2 W,ja,λ_ _=>rfl⟩
theorem Seen.BY{ρ:Env}{H:J}{W:World}(h:Seen ρ H W)(loc:Go.f7.Loc):ρ.le (ρ.iF H.next loc):=λl dB e=>by
 have:l≠H.next:=by rintro rfl;rw[h.top _ (bL _)] at e;cases e
 simp only[Env.iF,if_neg this];exact e
theorem mH.mono{ρ cX:Env}(hle:ρ.le cX){w:World}{loc:Go.f7.Loc}{ro:Bool}{esz:Nat}{els:List (List I)}(h:mH ρ w loc ro esz els):mH cX w loc ro esz els:=by
 obtain⟨U,c,t,h4,aa,ae,al⟩:=h;refine⟨U,c,t,h4,aa,ae,λi e he=>⟨(al i e he).1,λj v bw=> ?_⟩⟩;obtain⟨cE,x,cx,eM⟩:=(al i e he).2 j v bw;exact⟨cE,x,cx,eM.mono hle⟩
theorem Seen.push{ρ:Env}{H:J}{W:World}(h:Seen ρ H W){loc:Go.f7.Loc}{esz:Nat}{els:List (List I)}(a7:mH ρ W loc true esz els):Seen (ρ.iF H.next loc) (H.push (.row true esz els)) W:=by
 have hle:=h.BY loc;have j5: ∀l,¬(H.push (.row true esz els)).rw l:=by
  rintro l (⟨e,s,aX⟩|⟨es,aX⟩)
  ·rw[J.yL] at aX;split at aX
   ·cases aX
   ·exact h.ro l (.inl ⟨e,s,aX⟩)
  ·rw[J.yL] at aX;split at aX
   ·cases aX
   ·exact h.ro l (.inr ⟨es,aX⟩)
 refine⟨⟨λl ro e s aX=> ?_,λl es aX=> ?_,λl l' _ _ ax=>absurd ax (j5 l)⟩,j5,λl ax=> ?_⟩
 ·rw[J.yL] at aX;split at aX
  ·rename_i ax;cases aX;exact⟨loc,by simp[Env.iF,ax],a7.mono hle⟩
  ·obtain⟨dB,U,aa⟩:=h.rel.row l ro e s aX;exact⟨dB,hle _ _ U,aa.mono hle⟩
 ·exact absurd (.inr ⟨es,aX⟩) (j5 l)
 ·simp only[J.b6] at ax;have:l≠H.next:=Z
  simp only[Env.iF,if_neg this];exact h.top l Z
end Go.f7
namespace Go.Proofs.YtghmbpmaafnodaaGreatDoor
open Go.f7
section
abbrev bk:=List UInt8
structure Tok where
 kind:Int
 text:bk
 n:Int
 pos:Int
def Tok.none:Tok:=⟨0,[],0,0⟩
def aq(T:List Tok)(at_:Int):Tok:=if at_<0\/(T.length:Int)<=at_ then .none else T[at_.toNat]?.getD .none
structure aw where
 at_:Int
 bN:Int
 aA:Int
 cw:Int
abbrev hD(n:Int):Int:=IntKind.i64.wrap n
structure fm where
 kind:Int
 n:Int:=0
 name:bk:=[]
 eQ:bk:=[]
 fS:Int:=0
 pos:Int:=0
 wF:Int:=0
 A8:Int:=0
 tt:Int:=0
 ref:Int:=0
inductive bh where
 |mk (a:fm) (kids:List bh)
def bh.zero:bh:= .mk {kind:=0} []
def b4(T:List Tok)(s:aw)(k:Int)(x:bk):Bool:=s.aA==0&&((aq T s.at_).kind==k&&(aq T s.at_).text==x)
def cL(T:List Tok)(e:Int)(s:aw):aw:=if s.aA=0 then {s with aA:=e,cw:=(aq T s.at_).pos} else s
def aE(s:aw):aw:={s with at_:=hD (s.at_+1)}
def fg(T:List Tok)(k:Int)(x:bk)(s:aw):Bool×aw:=bif b4 T s k x then(true,aE s) else(false,s)
def cY(T:List Tok)(x:bk)(s:aw):Bool×aw:=bif b4 T s 4 x then(true,aE s) else(false,cL T 2 s)
def eG(T:List Tok)(x:bk)(s:aw):Bool×aw:=bif b4 T s 4 x then(if 50<=s.bN then(false,cL T 4 s) else(true,{s with at_:=hD (s.at_+1),bN:=hD (s.bN+1)})) else(false,cL T 2 s)
def fU(s:aw):aw:={s with bN:=hD (s.bN-1)}
def jW(T:List Tok)(x:bk)(s:aw):Bool×aw:=cY T x (fU s)
def jt(T:List Tok):Nat->Int->aw->(Int×aw) ⊕ aw
 |0,d,s=>bif b4 T s 4 [91] then .inr (cL T 4 s) else .inl (d,s)
 |n+1,d,s=>bif b4 T s 4 [91] then jt T n (d+1) (aE s) else .inl (d,s)
def oA(T:List Tok)(x:bk):Nat->aw->aw
 |0,s=>s
 |n+1,s=>oA T x n (cY T x s).2
def js(T:List Tok)(d:Int)(s:aw):(bk×Int)×aw:=
 bif ((aq T s.at_).kind != 1&&(!b4 T s 3 [105,110,116]&& !b4 T s 3 [98,111,111,108])) then(([],0),cL T 2 s)
 else(((aq T s.at_).text,d),oA T [93] d.toNat (aE s))
def eJ(T:List Tok)(s:aw):(bk×Int)×aw:=match jt T 3 0 s with
 | .inr s'=>(([],0),s')
 | .inl (d,s')=>js T d s'
def mO:List (List (bk×Int)):=[[([124,124],24)],[([38,38],23)],[([60],19),([60,61],20),([61,61],21),([33,61],22)],[([43],14),([45],15)],[([42],16),([47],17),([37],18)]]
def sP(T:List Tok)(s:aw):List (bk×Int)->Int
 |[]=>0
 |(x,k)::r=>bif b4 T s 4 x then k else sP T s r
def ma(T:List Tok)(lev:Nat)(s:aw):Int:=sP T s (mO[lev]?.getD [])
def vD(T:List Tok)(s:aw):bh×aw:=(.mk {kind:=2,n:=bif (aq T s.at_).text==[116,114,117,101] then 1 else 0,pos:=(aq T s.at_).pos} [],aE s)
def Cl(T:List Tok)(s:aw):bh×aw:=(.mk {kind:=3,eQ:=(eJ T (aE s)).1.1,fS:=(eJ T (aE s)).1.2,pos:=(aq T s.at_).pos} [],(eJ T (aE s)).2)
def p0(T:List Tok)(s:aw):bh×aw:=(.mk {kind:=11,pos:=(aq T s.at_).pos} [],bif (eG T [40] (aE s)).1 then(jW T [41] (eG T [40] (aE s)).2).2 else(eG T [40] (aE s)).2)
def kF(T:List Tok)(e:bh)(s:aw):bh×aw:=
 (.mk {kind:=5,name:=(aq T (aE s).at_).text,pos:=(aq T s.at_).pos} [e],aE (bif (aq T (aE s).at_).kind != 1 then cL T 2 (aE s) else aE s))
abbrev R(α:Type):=Option (α×aw)
mutual
def iY(T:List Tok):Nat->Nat->aw->R bh
 |0,_,_=>none
 |n+1,lev,s=>if lev=5 then pT T n s else(iY T n (lev+1) s).bind λp=>lG T n lev p.1 p.2
def lG(T:List Tok):Nat->Nat->bh->aw->R bh
 |0,_,_,_=>none
 |n+1,lev,e,s=>if ma T lev s=0 then some (e,s) else
  (iY T n (lev+1) (aE s)).bind λp=>lG T n lev (.mk {kind:=ma T lev s,pos:=(aq T s.at_).pos} [e,p.1]) p.2
def pT(T:List Tok):Nat->aw->R bh
 |0,_=>none
 |n+1,s=>bif b4 T s 4 [45] then rT T n [45] 12 s else bif b4 T s 4 [33] then rT T n [33] 13 s else rD T n s
def rT(T:List Tok):Nat->bk->Int->aw->R bh
 |0,_,_,_=>none
 |n+1,x,k,s=>bif (eG T x s).1 then(pT T n (eG T x s).2).bind λp=>some (.mk {kind:=k,pos:=(aq T s.at_).pos} [p.1],fU p.2) else some (.zero,(eG T x s).2)
def rD(T:List Tok):Nat->aw->R bh
 |0,_=>none
 |n+1,s=>(oo T n s).bind λp=>jh T n p.1 p.2
def jh(T:List Tok):Nat->bh->aw->R bh
 |0,_,_=>none
 |n+1,e,s=>bif s.aA==0&&(aq T s.at_).kind==4 then
  (bif (aq T s.at_).text==[46] then jh T n (kF T e s).1 (kF T e s).2
  else bif (aq T s.at_).text==[91] then(kg T n [91] [93] s).bind λp=>jh T n (.mk {kind:=6,pos:=(aq T s.at_).pos} [e,p.1]) p.2
  else some (e,s)) else some (e,s)
def kg(T:List Tok):Nat->bk->bk->aw->R bh
 |0,_,_,_=>none
 |n+1,b,c,s=>bif (eG T b s).1 then(iY T n 0 (eG T b s).2).bind λp=>some (p.1,(jW T c p.2).2) else some (.zero,(eG T b s).2)
def oo(T:List Tok):Nat->aw->R bh
 |0,_=>none
 |n+1,s=>if s.aA≠0 then some (.zero,s) else
  if(aq T s.at_).kind=2 then some (.mk {kind:=1,n:=(aq T s.at_).n,pos:=(aq T s.at_).pos} [],aE s) else
  if(aq T s.at_).kind=1 then um T n s else
  if(aq T s.at_).kind=3\/(aq T s.at_).kind=4 then
   (bif (aq T s.at_).kind==4 then(bif (aq T s.at_).text==[40] then kg T n [40] [41] s else some (.zero,cL T 2 s))
   else bif (aq T s.at_).text==[116,114,117,101]||(aq T s.at_).text==[102,97,108,115,101] then some (vD T s)
   else bif (aq T s.at_).text==[110,117,108,108] then some (Cl T s)
   else bif (aq T s.at_).text==[110,101,119] then sG T n s
   else bif (aq T s.at_).text==[108,101,110] then(kg T n [40] [41] (aE s)).bind λp=>some (.mk {kind:=10,pos:=(aq T s.at_).pos} [p.1],p.2)
   else bif (aq T s.at_).text==[114,101,97,100] then some (p0 T s)
   else some (.zero,cL T 2 s))
  else some (.zero,cL T 2 s)
def um(T:List Tok):Nat->aw->R bh
 |0,_=>none
 |n+1,s=>bif b4 T (aE s) 4 [40] then(rR T n (aE s)).bind λp=>some (.mk {kind:=7,name:=(aq T s.at_).text,pos:=(aq T s.at_).pos} p.1,p.2)
  else some (.mk {kind:=4,name:=(aq T s.at_).text,pos:=(aq T s.at_).pos} [],aE s)
def sG(T:List Tok):Nat->aw->R bh
 |0,_=>none
 |n+1,s=>bif b4 T (aE s) 4 [91] then
  (kg T n [40] [41] (cY T [93] (eJ T (aE (aE s))).2).2).bind λp=>
   some (.mk {kind:=9,eQ:=(eJ T (aE (aE s))).1.1,fS:=(eJ T (aE (aE s))).1.2,pos:=(aq T s.at_).pos} [p.1],p.2)
  else some (.mk {kind:=8,eQ:=(aq T (aE s).at_).text,pos:=(aq T s.at_).pos} [],aE (bif (aq T (aE s).at_).kind != 1 then cL T 2 (aE s) else aE s))
def rR(T:List Tok):Nat->aw->R (List bh)
 |0,_=>none
 |n+1,s=>bif (eG T [40] s).1 then
  (bif b4 T (eG T [40] s).2 4 [41] then some ([],(jW T [41] (eG T [40] s).2).2)
  else(iY T n 0 (eG T [40] s).2).bind λp=>mb T n [p.1] p.2)
  else some ([],(eG T [40] s).2)
def mb(T:List Tok):Nat->List bh->aw->R (List bh)
 |0,_,_=>none
 |n+1,l,s=>bif (fg T 4 [44] s).1 then(iY T n 0 (fg T 4 [44] s).2).bind λp=>mb T n (l++[p.1]) p.2
  else some (l,(jW T [41] (fg T 4 [44] s).2).2)
end
end
section
def kw(x:bk):Int:=match x with
 |c::_=>if 97<=c.toNat/\c.toNat<=122 then 3 else 4
 |[]=>4
def b2(T:List Tok)(s:aw)(x:bk):Bool:=b4 T s (kw x) x
def cq(T:List Tok)(x:bk)(s:aw):aw:=bif b2 T s x then aE s else cL T 2 s
def ig(s:aw):aw:={s with bN:=hD (s.bN+1)}
def eE(T:List Tok)(x:bk)(s:aw):aw:=bif b2 T s x&&decide (50<=s.bN) then cL T 4 s else ig (cq T x s)
def f0(T:List Tok)(x:bk)(s:aw):aw:=fU (cq T x s)
def da(T:List Tok)(s:aw):bk×aw:=bif s.aA==0&&(aq T s.at_).kind==1 then((aq T s.at_).text,aE s) else([],cL T 2 s)
def takeN(T:List Tok)(x:bk):Nat->aw->aw
 |0,s=>s
 |n+1,s=>takeN T x n (cq T x s)
def jm(T:List Tok):Nat->Int->aw->(Int×aw) ⊕ aw
 |0,d,s=>bif b2 T s [91] then .inr (cL T 4 s) else .inl (d,s)
 |n+1,d,s=>bif b2 T s [91] then jm T n (d+1) (aE s) else .inl (d,s)
def jl(T:List Tok)(d:Int)(s:aw):(bk×Int)×aw:=
 bif b2 T s [105,110,116]||b2 T s [98,111,111,108] then(((aq T s.at_).text,d),takeN T [93] d.toNat (aE s))
 else(((da T s).1,d),takeN T [93] d.toNat (da T s).2)
def e5(T:List Tok)(s:aw):(bk×Int)×aw:=match jm T 3 0 s with
 | .inr s'=>(([],0),s')
 | .inl (d,s')=>jl T d s'
def uv(x:bk):List (bk×Int)->Int
 |[]=>0
 |(y,k)::r=>bif y==x then k else uv x r
def jk(lev:Nat)(t:Tok):Int:=bif t.kind != 4 then 0 else uv t.text (mO[lev]?.getD [])
mutual
def im(T:List Tok):Nat->Nat->aw->R bh
 |0,_,_=>none
 |n+1,lev,s=>if lev=5 then pU T n s else(im T n (lev+1) s).bind λp=>om T n lev p.1 p.2
def om(T:List Tok):Nat->Nat->bh->aw->R bh
 |0,_,_,_=>none
 |n+1,lev,e,s=>bif s.aA==0&&jk lev (aq T s.at_) != 0 then
  (im T n (lev+1) (aE s)).bind λp=>om T n lev (.mk {kind:=jk lev (aq T s.at_),pos:=(aq T s.at_).pos} [e,p.1]) p.2
  else some (e,s)
def pU(T:List Tok):Nat->aw->R bh
 |0,_=>none
 |n+1,s=>bif b2 T s [45] then p3 T n 12 s else bif b2 T s [33] then p3 T n 13 s else(l5 T n s).bind λp=>jV T n p.1 p.2
def p3(T:List Tok):Nat->Int->aw->R bh
 |0,_,_=>none
 |n+1,k,s=>(im T n 5 (eE T (aq T s.at_).text s)).bind λp=>some (.mk {kind:=k,pos:=(aq T s.at_).pos} [p.1],fU p.2)
def jV(T:List Tok):Nat->bh->aw->R bh
 |0,_,_=>none
 |n+1,e,s=>bif b2 T s [46] then jV T n (.mk {kind:=5,name:=(da T (aE s)).1,pos:=(aq T s.at_).pos} [e]) (da T (aE s)).2
  else bif b2 T s [91] then(im T n 0 (eE T [91] s)).bind λp=>jV T n (.mk {kind:=6,pos:=(aq T s.at_).pos} [e,p.1]) (f0 T [93] p.2)
  else some (e,s)
def ld(T:List Tok):Nat->aw->R bh
 |0,_=>none
 |n+1,s=>(im T n 0 (eE T [40] s)).bind λp=>some (p.1,f0 T [41] p.2)
def l5(T:List Tok):Nat->aw->R bh
 |0,_=>none
 |n+1,s=>bif s.aA==0&&(aq T s.at_).kind==2 then some (.mk {kind:=1,n:=(aq T s.at_).n,pos:=(aq T s.at_).pos} [],aE s)
  else bif b2 T s [116,114,117,101]||b2 T s [102,97,108,115,101] then some (.mk {kind:=2,n:=bif (aq T s.at_).text==[116,114,117,101] then 1 else 0,pos:=(aq T s.at_).pos} [],aE s)
  else bif b2 T s [110,117,108,108] then some (.mk {kind:=3,eQ:=(e5 T (aE s)).1.1,fS:=(e5 T (aE s)).1.2,pos:=(aq T s.at_).pos} [],(e5 T (aE s)).2)
  else bif b2 T s [110,101,119] then pP T n (aq T s.at_).pos (aE s)
  else bif b2 T s [108,101,110] then(ld T n (aE s)).bind λp=>some (.mk {kind:=10,pos:=(aq T s.at_).pos} [p.1],p.2)
  else bif b2 T s [114,101,97,100] then some (.mk {kind:=11,pos:=(aq T s.at_).pos} [],f0 T [41] (eE T [40] (aE s)))
  else bif b2 T s [40] then ld T n s
  else bif b2 T (da T s).2 [40] then(mJ T n (da T s).2).bind λp=>some (.mk {kind:=7,name:=(da T s).1,pos:=(aq T s.at_).pos} p.1,p.2)
  else some (.mk {kind:=4,name:=(da T s).1,pos:=(aq T s.at_).pos} [],(da T s).2)
def pP(T:List Tok):Nat->Int->aw->R bh
 |0,_,_=>none
 |n+1,pos,s=>bif b2 T s [91] then
  (ld T n (cq T [93] (e5 T (aE s)).2)).bind λp=>some (.mk {kind:=9,eQ:=(e5 T (aE s)).1.1,fS:=(e5 T (aE s)).1.2,pos:=pos} [p.1],p.2)
  else some (.mk {kind:=8,eQ:=(da T s).1,pos:=pos} [],(da T s).2)
def mJ(T:List Tok):Nat->aw->R (List bh)
 |0,_=>none
 |n+1,s=>bif b2 T (eE T [40] s) [41] then some ([],f0 T [41] (eE T [40] s))
  else(im T n 0 (eE T [40] s)).bind λp=>lb T n [p.1] p.2
def lb(T:List Tok):Nat->List bh->aw->R (List bh)
 |0,_,_=>none
 |n+1,l,s=>bif b2 T s [44] then(im T n 0 (aE s)).bind λp=>lb T n (l++[p.1]) p.2 else some (l,f0 T [41] s)
end
end
section
def left(T:List Tok)(s:aw):Nat:=if s.aA=0/\0<=s.at_/\s.at_<T.length then T.length-s.at_.toNat else 0
def e4{α:Type}(p q:α×aw):Prop:=(p.2.aA=0/\q=p)\/(p.2.aA≠0/\q.2.aA=p.2.aA/\q.2.cw=p.2.cw)
theorem l2{T:List Tok}{s:aw}(h:s.aA≠0)(k:Int)(x:bk):b4 T s k x=false:=by simp[b4,h]
theorem hg{T:List Tok}{s:aw}(h:s.aA≠0)(x:bk):b2 T s x=false:=l2 h _ _
theorem iK{T:List Tok}{s:aw}(h:s.aA≠0)(e:Int):cL T e s=s:=by simp[cL,h]
theorem Pe{T:List Tok}{s:aw}(h:s.aA≠0): ∀l,sP T s l=0
 |[]=>rfl
 |(x,k)::r=>by simp[sP,l2 h,Pe h r]
theorem aaS{T:List Tok}{s:aw}(h:s.aA≠0)(lev:Nat):ma T lev s=0:=Pe h _
theorem aay{T:List Tok}{s:aw}(h:s.aA≠0)(n:Nat)(aV:2<=n):rD T n s=some (.zero,s):=by
 obtain⟨n,rfl⟩: ∃m,n=m+2:=⟨n-2,Z⟩;have ay:(s.aA==0)=false:=by simpa using h
 simp[rD,oo,h,jh,ay]
theorem aaD{T:List Tok}{s:aw}(h:s.aA≠0)(n:Nat)(aV:3<=n):pT T n s=some (.zero,s):=by
 obtain⟨n,rfl⟩: ∃m,n=m+1:=⟨n-1,Z⟩;simp[pT,l2 h,aay h n Z]
theorem PK{T:List Tok}{s:aw}(h:s.aA≠0)(n:Nat)(aV:1<=n)(lev:Nat)(e:bh):lG T n lev e s=some (e,s):=by
 obtain⟨n,rfl⟩: ∃m,n=m+1:=⟨n-1,Z⟩;simp[lG,aaS h]
theorem PJ{T:List Tok}{s:aw}(h:s.aA≠0): ∀(n lev:Nat),lev<=5->9<=n+lev->iY T n lev s=some (.zero,s)
 |0,lev,aB,aV=>Z
 |n+1,lev,aB,aV=>by
  by_cases ax:lev=5
  ·simp[iY,ax,aaD h n Z]
  ·simp[iY,ax,PJ h n (lev+1) Z Z,PK h n Z]
theorem sz{T:List Tok}{s:aw}{k:Int}{x:bk}(h:b4 T s k x=true):s.aA=0/\(aq T s.at_).kind=k/\(aq T s.at_).text=x:=by
 simpa [b4] using h
def xu(T:List Tok)(s:aw):bh:= .mk {kind:=4,pos:=(aq T s.at_).pos} []
theorem Gd{T:List Tok}{s:aw}(h:s.aA≠0):da T s=([],s):=by
 have ay:(s.aA==0)=false:=by simpa using h
 simp[da,ay,iK h]
theorem aaB{T:List Tok}{s:aw}(h:s.aA≠0)(n:Nat)(aV:1<=n):l5 T n s=some (xu T s,s):=by
 obtain⟨n,rfl⟩: ∃m,n=m+1:=⟨n-1,Z⟩;have ay:(s.aA==0)=false:=by simpa using h
 simp[l5,ay,hg h,Gd h,xu]
theorem Ju{T:List Tok}{s:aw}(h:s.aA≠0)(n:Nat)(aV:1<=n)(e:bh):jV T n e s=some (e,s):=by
 obtain⟨n,rfl⟩: ∃m,n=m+1:=⟨n-1,Z⟩;simp[jV,hg h]
theorem aaE{T:List Tok}{s:aw}(h:s.aA≠0)(n:Nat)(aV:2<=n):pU T n s=some (xu T s,s):=by
 obtain⟨n,rfl⟩: ∃m,n=m+1:=⟨n-1,Z⟩;simp[pU,hg h,aaB h n Z,Ju h n Z]
theorem O2{T:List Tok}{s:aw}(h:s.aA≠0)(n:Nat)(aV:1<=n)(lev:Nat)(e:bh):om T n lev e s=some (e,s):=by
 obtain⟨n,rfl⟩: ∃m,n=m+1:=⟨n-1,Z⟩;have ay:(s.aA==0)=false:=by simpa using h
 simp[om,ay]
theorem Ba{T:List Tok}{s:aw}(h:s.aA≠0): ∀(n lev:Nat),lev<=5->9<=n+lev->im T n lev s=some (xu T s,s)
 |0,lev,aB,aV=>Z
 |n+1,lev,aB,aV=>by
  by_cases ax:lev=5
  ·simp[im,ax,aaE h n Z]
  ·simp[im,ax,Ba h n (lev+1) Z Z,O2 h n Z]
theorem Q4{x:bk}: ∀l:List (bk×Int),(∀p∈l,p.2≠0)-> ∀T s,s.aA=0->(aq T s.at_).kind=4->sP T s l=uv (aq T s.at_).text l
 |[],_,_,_,_,_=>rfl
 |(y,k)::r,h,T,s,ak,ah=>by
  have aT:=Q4 (x:=x) r (λp bA=>h p (by simp[bA])) T s ak ah;have aS:b4 T s 4 y=(y==(aq T s.at_).text):=by
   simp only[b4,ak,ah,beq_self_eq_true,Bool.true_and];exact BEq.comm
  simp[sP,uv,aT,aS]
theorem JT{T:List Tok}{s:aw}(ah:(aq T s.at_).kind≠4): ∀l,sP T s l=0
 |[]=>rfl
 |(y,k)::r=>by
  have aS:b4 T s 4 y=false:=by simp[b4,ah]
  simp[sP,aS,JT ah r]
theorem ace{T:List Tok}{s:aw}(ak:s.aA=0){lev:Nat}(ax:lev<5):ma T lev s=jk lev (aq T s.at_):=by
 by_cases ah:(aq T s.at_).kind=4
 ·have:((aq T s.at_).kind != 4)=false:=by simp[ah]
  simp only[ma,jk,this,bi];refine Q4 (x:=[]) _ ?_ T s ak ah;have:lev=0\/lev=1\/lev=2\/lev=3\/lev=4:=Z;rcases this with rfl|rfl|rfl|rfl|rfl<;>simp[mO]
 ·have:((aq T s.at_).kind != 4)=true:=by simp[ah]
  simp[ma,jk,this,JT ah]
end
section
def g_(s s':aw):Prop:=(s.aA=0/\s'=s)\/(s.aA≠0/\s'.aA=s.aA/\s'.cw=s.cw)
theorem g_.refl(s:aw):g_ s s:=by
 by_cases h:s.aA=0
 ·exact .inl ⟨h,rfl⟩
 ·exact .inr ⟨h,rfl,rfl⟩
theorem g_.out{s s':aw}(h:g_ s s'):g_ (fU s) (fU s'):=by
 rcases h with⟨h,rfl⟩|⟨h,U,aa⟩
 ·exact .inl ⟨h,rfl⟩
 ·exact .inr ⟨h,U,aa⟩
theorem qC{T:List Tok}{s:aw}(h:s.aA=0)(e:Int):(cL T e s).aA=e/\(cL T e s).cw=(aq T s.at_).pos:=by simp[cL,h]
theorem Bq{T:List Tok}{s s':aw}(h:g_ s s'){x:bk}(af:kw x=4):g_ (cY T x s).2 (cq T x s'):=by
 rcases h with⟨h,rfl⟩|⟨h,U,aa⟩
 ·cases ay:b4 T s' 4 x with
  |true=>simp only[cY,cq,b2,af,ay,bx];exact .refl _
  |false=>simp only[cY,cq,b2,af,ay,bi];exact .refl _
 ·have bZ:s'.aA≠0:=by rw[U];exact h
  simp only[cY,cq,l2 h,hg bZ,bi,iK h,iK bZ];exact .inr ⟨h,U,aa⟩
theorem u1{T:List Tok}{s s':aw}(h:g_ s s'){x:bk}(af:kw x=4):g_ (jW T x s).2 (f0 T x s'):=by
 have U:=Bq (T:=T) h.out af;have aa:g_ (cq T x (fU s')) (f0 T x s'):=by
  by_cases ak:s'.aA=0
  ·have ay:b2 T (fU s') x=b2 T s' x:=rfl;cases be:b2 T s' x with
   |true=>simp only[f0,cq,ay,be,bx];exact .inl ⟨ak,rfl⟩
   |false=>
    simp only[f0,cq,ay,be,bi];have bs:(fU s').aA=0:=ak;refine .inr ⟨by rw[(qC bs 2).1];decide,?_,?_⟩
    ·rw[(qC bs 2).1];exact(qC ak 2).1
    ·rw[(qC bs 2).2];exact(qC ak 2).2
  ·have bs:(fU s').aA≠0:=ak;simp only[f0,cq,hg ak,hg bs,bi,iK ak,iK bs];exact .refl _
 rcases U with⟨a,b⟩|⟨a,b,c⟩
 ·rcases aa with⟨d,e⟩|⟨d,e,f⟩
  ·exact .inl ⟨a,by rw[e,b];rfl⟩
  ·exact absurd (by rw[b];exact a) d
 ·rcases aa with⟨d,e⟩|⟨d,e,f⟩
  ·exact absurd (b.symm.trans d) a
  ·exact .inr ⟨a,e.trans b,f.trans c⟩
theorem Kd{T:List Tok}{s:aw}(h:s.aA=0){x:bk}(af:kw x=4):
  ((eG T x s).1=true/\b4 T s 4 x=true/\(eG T x s).2=ig (aE s)/\eE T x s=ig (aE s))\/
  ((eG T x s).1=false/\(eG T x s).2.aA≠0/\g_ (eG T x s).2 (eE T x s)):=by
 cases ay:b4 T s 4 x with
 |true=>
  by_cases bs:50<=s.bN
  ·refine .inr ?_;simp only[eG,eE,b2,af,ay,bx,Bool.true_and,decide_eq_true bs,if_pos bs];exact⟨trivial,by rw[(qC h 4).1];decide,.refl _⟩
  ·refine .inl ?_;simp only[eG,eE,cq,b2,af,ay,bx,Bool.true_and,decide_eq_false bs,if_neg bs,bi];exact⟨trivial,trivial,rfl,trivial⟩
 |false=>
  refine .inr ?_;simp only[eG,eE,cq,b2,af,ay,bi,Bool.false_and];exact⟨trivial,by rw[(qC h 2).1];decide,.inr ⟨by rw[(qC h 2).1];decide,rfl,rfl⟩⟩
end
section
theorem e4.of{α:Type}{a b:α}{s s':aw}(h:g_ s s')(ao1:s.aA=0->b=a):e4 (a,s) (b,s'):=by
 rcases h with⟨h,rfl⟩|⟨h,U,aa⟩
 ·exact .inl ⟨h,by rw[ao1 h]⟩
 ·exact .inr ⟨h,U,aa⟩
theorem e4.st{α:Type}{p q:α×aw}(h:e4 p q):g_ p.2 q.2:=by
 rcases h with⟨h,rfl⟩|⟨h,U,aa⟩
 ·exact .inl ⟨h,rfl⟩
 ·exact .inr ⟨h,U,aa⟩
theorem Gq{T:List Tok}{x:bk}(af:kw x=4): ∀(n:Nat) {s s':aw},g_ s s'->g_ (oA T x n s) (takeN T x n s')
 |0,_,_,h=>h
 |n+1,_,_,h=>Gq af n (Bq h af)
theorem JL{T:List Tok}{x:bk}: ∀(n:Nat) {s:aw},s.aA≠0->takeN T x n s=s
 |0,_,_=>rfl
 |n+1,s,h=>by simp[takeN,cq,hg h,iK h,JL n h]
theorem JM{T:List Tok}{x:bk}: ∀(n:Nat) {s:aw},s.aA≠0->oA T x n s=s
 |0,_,_=>rfl
 |n+1,s,h=>by simp[oA,cY,l2 h,iK h,JM n h]
theorem Sg{T:List Tok}: ∀(n:Nat) (d:Int) (s:aw),jm T n d s=jt T n d s
 |0,d,s=>rfl
 |n+1,d,s=>by
  have:b2 T s [91]=b4 T s 4 [91]:=rfl;simp[jm,jt,this,Sg n]
theorem afY{T:List Tok}(d:Int)(s:aw):e4 (js T d s) (jl T d s):=by
 have aI:b2 T s [105,110,116]=b4 T s 3 [105,110,116]:=rfl;have bc:b2 T s [98,111,111,108]=b4 T s 3 [98,111,111,108]:=rfl;by_cases ak:s.aA=0
 ·cases U:b4 T s 3 [105,110,116] with
  |true=>
   simp only[js,jl,aI,bc,U,Bool.not_true,Bool.false_and,Bool.and_false,bi,Bool.true_or,bx];exact e4.of (Gq rfl _ (.refl _)) λ_=>rfl
  |false=>
   cases aa:b4 T s 3 [98,111,111,108] with
   |true=>
    simp only[js,jl,aI,bc,U,aa,Bool.not_true,Bool.and_false,bi,Bool.false_or,bx];exact e4.of (Gq rfl _ (.refl _)) λ_=>rfl
   |false=>
    by_cases ah:(aq T s.at_).kind=1
    ·simp only[js,jl,aI,bc,U,aa,da,ak,ah,Bool.not_false,Bool.and_self,Bool.and_true,bne_self_eq_false,bi,Bool.or_self,beq_self_eq_true,bx];exact e4.of (Gq rfl _ (.refl _)) λ_=>rfl
    ·have ay:((aq T s.at_).kind==1)=false:=by simpa using ah
     have hZ:((aq T s.at_).kind != 1)=true:=by simpa using ah
     have wg:(cL T 2 s).aA≠0:=by rw[(qC ak 2).1];decide
     simp only[js,jl,aI,bc,U,aa,da,ak,ay,hZ,Bool.not_false,Bool.and_self,Bool.and_false,bx,Bool.or_self,bi,JL _ wg];exact e4.of (.refl _) λh=>absurd h wg
 ·have ay:(s.aA==0)=false:=by simpa using ak
  have aX:(aE s).aA≠0:=ak;simp only[js,jl,aI,bc,l2 ak,da,ay,Bool.false_and,Bool.or_self,bi,iK ak,JL _ ak,JM _ aX,Bool.not_false,Bool.and_self,Bool.and_true];cases(aq T s.at_).kind != 1 with
  |true=>exact .inr ⟨ak,rfl,rfl⟩
  |false=>exact .inr ⟨ak,rfl,rfl⟩
theorem of_same(T:List Tok)(s:aw):e4 (eJ T s) (e5 T s):=by
 simp only[eJ,e5,Sg];cases jt T 3 0 s with
 |inr s'=>exact e4.of (.refl _) λ_=>rfl
 |inl p=>exact afY p.1 p.2
end
section
theorem rm{T:List Tok}{s:aw}(h:s.aA≠0):left T s=0:=by simp[left,h]
theorem TC{T:List Tok}(s:aw):left T (ig s)=left T s:=rfl
theorem KJ{T:List Tok}(s:aw):left T (fU s)=left T s:=rfl
theorem yG{T:List Tok}(s:aw)(e:Int):left T (cL T e s)<=left T s:=by
 by_cases h:s.aA=0
 ·unfold left;simp only[cL,h,if_true,true_and];split
  ·rename_i bW;rw[if_pos bW.2];omega
  ·omega
 ·rw[iK h];omega
theorem afl{T:List Tok}{a:Int}(h:(aq T a).kind≠0):0<=a/\a<T.length:=by
 unfold aq at h;split at h
 ·exact absurd rfl h
 ·omega
theorem rr{T:List Tok}(aH:T.length<=40000000){s:aw}(ak:s.aA=0)(ah:(aq T s.at_).kind≠0):left T (aE s)+1<=left T s:=by
 obtain⟨a6,U⟩:=afl ah;have hw:hD (s.at_+1)=s.at_+1:=wrap_i64 Z Z;have aI:left T s=T.length-s.at_.toNat:=by
  unfold left;rw[if_pos ⟨ak,a6,U⟩]
 have bc:left T (aE s)<=T.length-(s.at_+1).toNat:=by
  unfold left;simp only[aE,hw];split<;>omega
 omega
theorem ru{T:List Tok}(aH:T.length<=40000000){s:aw}{k:Int}{x:bk}(Nq:k≠0)(h:b4 T s k x=true):left T (aE s)+1<=left T s:=by
 obtain⟨U,aa,_⟩:=sz h;exact rr aH U (by rw[aa];exact Nq)
theorem Bn{T:List Tok}(aH:T.length<=40000000)(s:aw)(x:bk):left T (cY T x s).2<=left T s:=by
 cases h:b4 T s 4 x with
 |true=>simp only[cY,h,bx];have:=ru aH cl h;omega
 |false=>simp only[cY,h,bi];exact yG s 2
theorem Bi{T:List Tok}(aH:T.length<=40000000)(s:aw)(x:bk):left T (jW T x s).2<=left T s:=Bn aH (fU s) x
theorem Ql{T:List Tok}(aH:T.length<=40000000)(x:bk): ∀(n:Nat) (s:aw),left T (oA T x n s)<=left T s
 |0,s=>bL _
 |n+1,s=>Nat.le_trans (Ql aH x n _) (Bn aH s x)
theorem Sb{T:List Tok}(aH:T.length<=40000000): ∀(n:Nat) (d:Int) (s:aw),(∀ek s',jt T n d s= .inl (ek,s')->left T s'<=left T s)/\(∀s',jt T n d s= .inr s'->left T s'<=left T s)
 |0,d,s=>by
  cases h:b4 T s 4 [91] with
  |true=>simp only[jt,h,bx];exact⟨by simp,by rintro _ ⟨⟩;exact yG s 4⟩
  |false=>simp only[jt,h,bi];exact⟨by rintro _ _ ⟨⟩;exact bL _,by simp⟩
 |n+1,d,s=>by
  cases h:b4 T s 4 [91] with
  |true=>
   simp only[jt,h,bx];obtain⟨i1,i2⟩:=Sb aH n (d+1) (aE s);have aX:=ru aH cl h;exact⟨λek s' bZ=>by have:=i1 ek s' bZ;omega,λs' bZ=>by have:=i2 s' bZ;omega⟩
  |false=>simp only[jt,h,bi];exact⟨by rintro _ _ ⟨⟩;exact bL _,by simp⟩
theorem Sa{T:List Tok}(aH:T.length<=40000000)(d:Int)(s:aw):left T (js T d s).2<=left T s:=by
 by_cases ak:s.aA=0
 ·cases aS:((aq T s.at_).kind != 1&&(!b4 T s 3 [105,110,116]&& !b4 T s 3 [98,111,111,108])) with
  |true=>simp only[js,aS,bx];exact yG s 2
  |false=>
   simp only[js,aS,bi];have ah:(aq T s.at_).kind≠0:=by
    intro ah;have U: ∀x,b4 T s 3 x=false:=λx=>by simp[b4,ah]
    simp[ah,U] at aS
   have:=Ql aH [93] d.toNat (aE s);have:=rr aH ak ah;omega
 ·have aX:(aE s).aA≠0:=ak;simp only[js];cases((aq T s.at_).kind != 1&&(!b4 T s 3 [105,110,116]&& !b4 T s 3 [98,111,111,108])) with
  |true=>exact yG s 2
  |false=>simp only[bi,JM _ aX,rm aX];omega
theorem K5{T:List Tok}(aH:T.length<=40000000)(s:aw):left T (eJ T s).2<=left T s:=by
 obtain⟨i1,i2⟩:=Sb aH 3 0 s;simp only[eJ];cases h:jt T 3 0 s with
 |inr s'=>exact i2 s' h
 |inl p=>
  have:=i1 p.1 p.2 h;have:=Sa aH p.1 p.2;exact Nat.le_trans (Sa aH p.1 p.2) (i1 p.1 p.2 h)
def hS{α:Type}(T:List Tok)(s:aw)(a b:Option (α×aw)):Prop:= ∃p q,a=some p/\b=some q/\e4 p q/\left T p.2<=left T s
def qX(T:List Tok)(k:Nat):Prop:= ∀(s:aw),left T s<=k-> ∀(lev n cg:Nat),lev<=5->30*k+20<=n+lev->30*k+20<=cg+lev->hS T s (iY T n lev s) (im T cg lev s)
theorem acu{T:List Tok}{s:aw}(h:s.aA≠0)(lev n cg:Nat)(ax:lev<=5)(aV:9<=n+lev)(hk:9<=cg+lev):hS T s (iY T n lev s) (im T cg lev s):=
 ⟨_,_,PJ h n lev ax aV,Ba h cg lev ax hk,.inr ⟨h,rfl,rfl⟩,bL _⟩
end
section
theorem KP{T:List Tok}(aH:T.length<=40000000){k:Nat}(aT: ∀j,j<k->qX T j){s:aw}(ak:s.aA=0)(aO:left T s<=k){x:bk}(af:kw x=4)(lev n cg:Nat)(ax:lev<=5)(aV:30*k+9<=n)(hk:30*k+9<=cg):
  ((eG T x s).1=true/\left T (eG T x s).2+1<=left T s/\hS T (eG T x s).2 (iY T n lev (eG T x s).2) (im T cg lev (eE T x s)))\/
  ((eG T x s).1=false/\(eG T x s).2.aA≠0/\(eE T x s).aA=(eG T x s).2.aA/\(eE T x s).cw=(eG T x s).2.cw/\im T cg lev (eE T x s)=some (xu T (eE T x s),eE T x s)):=by
 rcases Kd (T:=T) ak af with⟨U,aa,ae,al⟩|⟨U,aa,ae⟩
 ·refine .inl ⟨U,?_,?_⟩
  ·rw[ae,TC];exact ru aH cl aa
  ·have aX:=ru aH cl aa;rw[ae,al];exact aT (k-1) Z _ (by rw[TC];omega) lev n cg ax Z Z
 ·rcases ae with⟨ae,_⟩|⟨_,al,aB⟩
  ·exact absurd ae aa
  ·exact .inr ⟨U,aa,al,aB,Ba (by rw[al];exact aa) cg lev ax Z⟩
theorem J2{T:List Tok}(aH:T.length<=40000000){k:Nat}(aT: ∀j,j<k->qX T j){s:aw}(ak:s.aA=0)(aO:left T s<=k)(n cg:Nat)(aV:30*k+9<=n)(hk:30*k+9<=cg):hS T s (kg T (n+1) [40] [41] s) (ld T (cg+1) s):=by
 rcases KP aH aT ak aO (x:=[40]) rfl 0 n cg Z aV hk with⟨U,aa,p,q,ae,al,aB,aG⟩|⟨U,aa,ae,al,aB⟩
 ·refine⟨(p.1,(jW T [41] p.2).2),(q.1,f0 T [41] q.2),?_,?_,?_,?_⟩
  ·simp[kg,U,ae]
  ·simp[ld,al]
  ·rcases aB with⟨h,rfl⟩|⟨h,b1,ay⟩
   ·exact e4.of (u1 (.inl ⟨h,rfl⟩) rfl) λ_=>rfl
   ·refine e4.of (u1 (.inr ⟨h,b1,ay⟩) rfl) λaS=>absurd aS ?_
    have:(fU p.2).aA≠0:=h;simp only[jW,cY,l2 this,bi,iK this];exact h
  ·have:=Bi aH p.2 [41];simp only
   omega
 ·refine⟨(.zero,(eG T [40] s).2),_,by simp[kg,U],by simp only[ld,aB];rfl,?_,?_⟩
  ·have ce:(eE T [40] s).aA≠0:=by rw[ae];exact aa
   have aS:=u1 (T:=T) (x:=[41]) (g_.refl (eE T [40] s)) rfl;refine .inr ⟨aa,?_,?_⟩<;>simp[f0,cq,hg ce,iK ce,fU,ae,al]
  ·simp only[rm aa];omega
end
section
theorem hS.le{α:Type}{T:List Tok}{s s0:aw}{a b:Option (α×aw)}(h:hS T s a b)(ax:left T s<=left T s0):hS T s0 a b:=by
 obtain⟨p,q,U,aa,ae,al⟩:=h;exact⟨p,q,U,aa,ae,Nat.le_trans al ax⟩
theorem O1{T:List Tok}{s:aw}(h:s.aA≠0)(x:bk):(jW T x s).2.aA≠0:=by
 have bs:(fU s).aA≠0:=h;simp only[jW,cY,l2 bs,bi,iK bs];exact h
theorem Q6{T:List Tok}(aH:T.length<=40000000){k:Nat}(aT: ∀j,j<k->qX T j): ∀(c n cg:Nat) (s s':aw) (l l':List bh),left T s<=c->c<=k->30*c+10<=n->30*c+10<=cg->g_ s s'->(s.aA=0->l'=l)->hS T s (mb T n l s) (lb T cg l' s')
 |c,0,cg,s,s',l,l',U,aa,ae,hY,al,aB=>Z
 |c,n+1,0,s,s',l,l',U,aa,ae,hY,al,aB=>Z
 |c,n+1,cg+1,s,s',l,l',U,aa,ae,hY,al,aB=>by
  by_cases ak:s.aA=0
  ·obtain⟨_,rfl⟩:s.aA=0/\s'=s:=al.resolve_right (by rintro⟨h,_⟩;exact h ak);cases aB ak;have aI:b2 T s' [44]=b4 T s' 4 [44]:=rfl;cases ay:b4 T s' 4 [44] with
   |true=>
    have aX:=ru aH cl ay;obtain⟨p,q,g1,g2,g3,g4⟩:=aT (c-1) Z (aE s') Z 0 n cg Z Z Z;have:=Q6 aH aT (c-1) n cg p.2 q.2 (l++[p.1]) (l++[q.1]) Z Z Z Z g3.st (λbA=>by
     rcases g3 with⟨_,rfl⟩|⟨h,_⟩
     ·rfl
     ·exact absurd bA h)
    have:=this.le (s0:=s') Z;simpa [mb,fg,ay,lb,aI,g1,g2] using this
   |false=>
    refine⟨(l,(jW T [41] s').2),(l,f0 T [41] s'),by simp[mb,fg,ay],by simp[lb,aI,ay],e4.of (u1 (.refl _) rfl) λ_=>rfl,Bi aH s' [41]⟩
  ·have eX:s'.aA≠0:=by
    rcases al with⟨h,_⟩|⟨_,h,_⟩
    ·exact absurd h ak
    ·rw[h];exact ak
   refine⟨(l,(jW T [41] s).2),(l',f0 T [41] s'),by simp[mb,fg,l2 ak],by simp[lb,hg eX],e4.of (u1 al rfl) λh=>absurd h (O1 ak _),Bi aH s [41]⟩
end
section
theorem adu{T:List Tok}(aH:T.length<=40000000){k:Nat}(aT: ∀j,j<k->qX T j){s:aw}(ak:s.aA=0)(aO:left T s<=k)(n cg:Nat)(aV:30*k+10<=n)(hk:30*k+10<=cg):hS T s (rR T (n+1) s) (mJ T (cg+1) s):=by
 rcases Kd (T:=T) ak (x:=[40]) rfl with⟨U,aa,ae,al⟩|⟨U,aa,ae⟩
 ·have aX:=ru aH cl aa;have ax:left T (ig (aE s))=left T (aE s):=rfl;have arA:(ig (aE s)).aA=0:=ak;have aI:b2 T (ig (aE s)) [41]=b4 T (ig (aE s)) 4 [41]:=rfl;cases ay:b4 T (ig (aE s)) 4 [41] with
  |true=>
   refine⟨([],(jW T [41] (ig (aE s))).2),([],f0 T [41] (ig (aE s))),by simp[rR,U,ae,ay],by simp[mJ,al,aI,ay],e4.of (u1 (.refl _) rfl) λ_=>rfl,?_⟩;have:=Bi aH (ig (aE s)) [41];simp only
   omega
  |false=>
   obtain⟨p,q,g1,g2,g3,g4⟩:=aT (k-1) Z (ig (aE s)) Z 0 n cg Z Z Z;have:=Q6 aH aT k n cg p.2 q.2 [p.1] [q.1] Z Z Z Z g3.st (λbA=>by
    rcases g3 with⟨_,rfl⟩|⟨h,_⟩
    ·rfl
    ·exact absurd bA h)
   have:=this.le (s0:=s) Z;simpa [rR,U,ae,ay,mJ,al,aI,g1,g2] using this
 ·have hY:=ae.resolve_left (by rintro⟨h,_⟩;exact aa h);have ce:(eE T [40] s).aA≠0:=by rw[hY.2.1];exact aa
  have af:=Ba (T:=T) ce cg 0 Z Z;have gA: ∀l,lb T cg l (eE T [40] s)=some (l,f0 T [41] (eE T [40] s)):=λl=>by
   obtain⟨cg,rfl⟩: ∃m,cg=m+1:=⟨cg-1,Z⟩;simp[lb,hg ce]
  refine⟨([],(eG T [40] s).2),_,by simp[rR,U],by simp only[mJ,hg ce,bi,af,Option.bind_some,gA];rfl,?_,?_⟩
  ·refine .inr ⟨aa,?_,?_⟩<;>simp[f0,cq,hg ce,iK ce,fU,hY.2.1,hY.2.2]
  ·simp only[rm aa];omega
end
section
theorem Rk{T:List Tok}(aH:T.length<=40000000){k:Nat}(aT: ∀j,j<k->qX T j){lev:Nat}(o3:lev<5): ∀(c n cg:Nat) (s s':aw) (e cC:bh),left T s<=c->c<=k->30*c+10<=n->30*c+10<=cg->g_ s s'->(s.aA=0->cC=e)->hS T s (lG T n lev e s) (om T cg lev cC s')
 |c,0,cg,s,s',e,cC,U,aa,ae,hY,al,aB=>Z
 |c,n+1,0,s,s',e,cC,U,aa,ae,hY,al,aB=>Z
 |c,n+1,cg+1,s,s',e,cC,U,aa,ae,hY,al,aB=>by
  by_cases ak:s.aA=0
  ·obtain⟨_,rfl⟩:s.aA=0/\s'=s:=al.resolve_right (by rintro⟨h,_⟩;exact h ak);cases aB ak;have ah:=ace (T:=T) ak o3;have ay:(s'.aA==0)=true:=by simpa using ak
   by_cases ct:ma T lev s'=0
   ·have wm:(jk lev (aq T s'.at_) != 0)=false:=by rw[<-ah];simpa using ct
    exact⟨(e,s'),(e,s'),by simp[lG,ct],by simp[om,ay,wm],.inl ⟨ak,rfl⟩,bL _⟩
   ·have wm:(jk lev (aq T s'.at_) != 0)=true:=by rw[<-ah];simpa using ct
    have bC:(aq T s'.at_).kind≠0:=by
     intro a6;exact ct (JT (by rw[a6];decide) _)
    have aX:=rr aH ak bC;obtain⟨p,q,g1,g2,g3,g4⟩:=aT (c-1) Z (aE s') Z (lev+1) n cg Z Z Z;have:=Rk aH aT o3 (c-1) n cg p.2 q.2 (.mk {kind:=ma T lev s',pos:=(aq T s'.at_).pos} [e,p.1]) (.mk {kind:=jk lev (aq T s'.at_),pos:=(aq T s'.at_).pos} [e,q.1]) Z Z Z Z g3.st (λbA=>by
     rcases g3 with⟨_,rfl⟩|⟨h,_⟩
     ·rw[ah]
     ·exact absurd bA h)
    have:=this.le (s0:=s') Z;simpa [lG,ct,om,ay,wm,g1,g2] using this
  ·have eX:s'.aA≠0:=by
    rcases al with⟨h,_⟩|⟨_,h,_⟩
    ·exact absurd h ak
    ·rw[h];exact ak
   exact⟨(e,s),(cC,s'),PK ak (n+1) Z lev e,O2 eX (cg+1) Z lev cC,e4.of al λh=>absurd h ak,bL _⟩
end
end Go.Proofs.YtghmbpmaafnodaaGreatDoor

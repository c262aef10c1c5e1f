/-
  Texts of one proof, laid together: Tab Ls.
-/
import Derived.Test.YtmhhnnklfcbgfaaGreatME
set_option linter.unusedVariables false
set_option linter.unusedSimpArgs false
set_option linter.defProp false
open Option renaming some→D,none→Y
open Bool renaming true→V,false→U
open Go.bN.aa renaming int→I,str→X,bool→Z
open Go.IntKind renaming i64→J
namespace Go.Proofs.YtmhhnnklfcbgfaaGreat
open Go.bN
def hx(place:Nat->Option (Nat×Nat))(cells:List aa):List (Nat×List aa)->Option (List aa)
 |[]=>D cells
 |(i,v)::rest=>match place i with
  |none=>Y
  |some (off,size)=>if v.length=size/\off+v.length<=cells.length then hx place (ck cells off v) rest else Y
def rH(P:Program)(t:TypeId)(parts:List (Nat×List aa)):Option aa:=
 match cy P t,P.underlying t with
 |some z,D (.struct a)=>(match gn P a.toList with|some pl=>(hx (pl[·]?) z.cells parts).map .agg|none=>Y)
 |some z,D (.array _ e)=>(match bu P e with|some n=>(hx (λi=>D (i*n,n)) z.cells parts).map .agg|none=>Y)
 |_,_=>Y
def vS(place:Nat->Option (Nat×Nat)):∀(parts:List (Nat×aa)) (cells:List aa),eG place cells parts=hx place cells (parts.map λp=>(p.1,p.2.cells))
 |[],_=>rfl
 |(i,v)::rest,cells=>by
  show(match place i with
   |none=>Y
   |some (off,size)=>if v.cells.length=size/\off+v.cells.length<=cells.length then eG place (ck cells off v.cells) rest else Y)=(match place i with
   |none=>Y
   |some (off,size)=>if v.cells.length=size/\off+v.cells.length<=cells.length then hx place (ck cells off v.cells) (rest.map λp=>(p.1,p.2.cells))else Y)
  cases place i with
  |none=>rfl
  |some p=>simp only[vS place rest]
def zj(Q:Program)(t:TypeId)(parts:List (Nat×aa)):bh Q t parts=rH Q t (parts.map λp=>(p.1,p.2.cells)):=by
 unfold bh rH;simp only[vS];generalize cy Q t=z;generalize Q.underlying t=u;cases z with
 |none=>rfl
 |some z=>cases u with
  |none=>rfl
  |some d=>cases d<;>rfl
def cT(t:TypeId)(parts:List (Nat×aa)):bh P t parts=rH P t (parts.map λp=>(p.1,p.2.cells)):=zj P t parts
def T7:bT P 3=D false:=j
def UM:bu P 3=D 1:=j
def Ua:bT P 4=D false:=j
def UQ:bu P 4=D 1:=j
def AK{c:Bool}(a b:Bool):al P .eql 4 c (Z a) (Z b)=D (Z (a==b)):=j
def Gn{c:Bool}(a b:Bool):al P .neq 4 c (Z a) (Z b)=D (Z (!(a==b))):=j
def Uj:bT P 9=D false:=j
def U0:bu P 9=D 1:=j
def Gb{H:ae}{s:List UInt8}:aW P H .len [9] [X s]=D (I J s.length):=j
def TP:bT P 22=D false:=j
def Ux:bu P 22=D 1:=j
def DI(l i n:Nat)(cap:Option Nat)(k:Int):aF P 22 (.ag l i n 2 cap) (I J k)=if 2=2/\0<=k/\k<n then D (.ptr l (i+k.toNat) 0)else none:=j
def DH{l i n:Nat}{cap:Option Nat}{k:Int}(a:0<=k)(b:k<n):aF P 22 (.ag l i n 2 cap) (I J k)=D (.ptr l (i+k.toNat) 0):=by rw[DI,if_pos ⟨rfl,a,b⟩]
def FM{H:ae}{l i n e:Nat}{cap:Option Nat}:aW P H .len [22] [.ag l i n e cap]=D (I J n):=j
def FN{H:ae}:aW P H .len [22] [.ar]=D (I J 0):=j
def TQ:bT P 23=D false:=j
def Uy:bu P 23=D 1:=j
def DK(l i n:Nat)(cap:Option Nat)(k:Int):aF P 23 (.ag l i n 3 cap) (I J k)=if 3=3/\0<=k/\k<n then D (.ptr l (i+k.toNat) 0)else none:=j
def DJ{l i n:Nat}{cap:Option Nat}{k:Int}(a:0<=k)(b:k<n):aF P 23 (.ag l i n 3 cap) (I J k)=D (.ptr l (i+k.toNat) 0):=by rw[DK,if_pos ⟨rfl,a,b⟩]
def FO{H:ae}{l i n e:Nat}{cap:Option Nat}:aW P H .len [23] [.ag l i n e cap]=D (I J n):=j
def FP{H:ae}:aW P H .len [23] [.ar]=D (I J 0):=j
def TR:bT P 24=D false:=j
def Uz:bu P 24=D 1:=j
def DM(l i n:Nat)(cap:Option Nat)(k:Int):aF P 24 (.ag l i n 7 cap) (I J k)=if 7=7/\0<=k/\k<n then D (.ptr l (i+k.toNat) 0)else none:=j
def DL{l i n:Nat}{cap:Option Nat}{k:Int}(a:0<=k)(b:k<n):aF P 24 (.ag l i n 7 cap) (I J k)=D (.ptr l (i+k.toNat) 0):=by rw[DM,if_pos ⟨rfl,a,b⟩]
def FQ{H:ae}{l i n e:Nat}{cap:Option Nat}:aW P H .len [24] [.ag l i n e cap]=D (I J n):=j
def FY{H:ae}:aW P H .len [24] [.ar]=D (I J 0):=j
def TX:bT P 25=D false:=j
def UE:bu P 25=D 1:=j
def DU(l i n:Nat)(cap:Option Nat)(k:Int):aF P 25 (.ag l i n 4 cap) (I J k)=if 4=4/\0<=k/\k<n then D (.ptr l (i+k.toNat) 0)else none:=j
def DT{l i n:Nat}{cap:Option Nat}{k:Int}(a:0<=k)(b:k<n):aF P 25 (.ag l i n 4 cap) (I J k)=D (.ptr l (i+k.toNat) 0):=by rw[DU,if_pos ⟨rfl,a,b⟩]
def FZ{H:ae}{l i n e:Nat}{cap:Option Nat}:aW P H .len [25] [.ag l i n e cap]=D (I J n):=j
def F0{H:ae}:aW P H .len [25] [.ar]=D (I J 0):=j
def T0:bT P 27=D true:=j
def UH:bu P 27=D 5:=j
def Bc(l i c:Nat):ak P 27 (.ptr l i c) 0=D (.ptr l i (c+0)):=j
def CA(a0 a b a3 a4:aa):bp P 27 (.agg [a0,a,b,a3,a4]) 0=D a0:=j
def Bd(l i c:Nat):ak P 27 (.ptr l i c) 1=D (.ptr l i (c+1)):=j
def CB(a0 a b a3 a4:aa):bp P 27 (.agg [a0,a,b,a3,a4]) 1=D a:=j
def Be(l i c:Nat):ak P 27 (.ptr l i c) 2=D (.ptr l i (c+2)):=j
def CC(a0 b a a3 a4:aa):bp P 27 (.agg [a0,b,a,a3,a4]) 2=D a:=j
def Bf(l i c:Nat):ak P 27 (.ptr l i c) 3=D (.ptr l i (c+3)):=j
def CE(a0 a b a3 a4:aa):bp P 27 (.agg [a0,a,b,a3,a4]) 3=D a3:=j
def Bg(l i c:Nat):ak P 27 (.ptr l i c) 4=D (.ptr l i (c+4)):=j
def CF(a0 a b a3 a4:aa):bp P 27 (.agg [a0,a,b,a3,a4]) 4=D a4:=j
def T8:bT P 30=D false:=j
def UN:bu P 30=D 1:=j
def DY(l i n:Nat)(cap:Option Nat)(k:Int):aF P 30 (.ag l i n 1 cap) (I J k)=if 1=1/\0<=k/\k<n then D (.ptr l (i+k.toNat) 0)else none:=j
def DX{l i n:Nat}{cap:Option Nat}{k:Int}(a:0<=k)(b:k<n):aF P 30 (.ag l i n 1 cap) (I J k)=D (.ptr l (i+k.toNat) 0):=by rw[DY,if_pos ⟨rfl,a,b⟩]
def F3{H:ae}{l i n e:Nat}{cap:Option Nat}:aW P H .len [30] [.ag l i n e cap]=D (I J n):=j
def F4{H:ae}:aW P H .len [30] [.ar]=D (I J 0):=j
def T9:bT P 31=D false:=j
def UO:bu P 31=D 1:=j
def D0(l i n:Nat)(cap:Option Nat)(k:Int):aF P 31 (.ag l i n 1 cap) (I J k)=if 1=1/\0<=k/\k<n then D (.ptr l (i+k.toNat) 0)else none:=j
def DZ{l i n:Nat}{cap:Option Nat}{k:Int}(a:0<=k)(b:k<n):aF P 31 (.ag l i n 1 cap) (I J k)=D (.ptr l (i+k.toNat) 0):=by rw[D0,if_pos ⟨rfl,a,b⟩]
def F5{H:ae}{l i n e:Nat}{cap:Option Nat}:aW P H .len [31] [.ag l i n e cap]=D (I J n):=j
def F6{H:ae}:aW P H .len [31] [.ar]=D (I J 0):=j
def T_:bT P 33=D true:=j
def UP:bu P 33=D 4:=j
def Bp(l i c:Nat):ak P 33 (.ptr l i c) 0=D (.ptr l i (c+0)):=j
def CO(a0 a b a3:aa):bp P 33 (.agg [a0,a,b,a3]) 0=D a0:=j
def Bq(l i c:Nat):ak P 33 (.ptr l i c) 1=D (.ptr l i (c+1)):=j
def CP(a0 a b a3:aa):bp P 33 (.agg [a0,a,b,a3]) 1=D a:=j
def Br(l i c:Nat):ak P 33 (.ptr l i c) 2=D (.ptr l i (c+2)):=j
def CQ(a0 b a a3:aa):bp P 33 (.agg [a0,b,a,a3]) 2=D a:=j
def Bs(l i c:Nat):ak P 33 (.ptr l i c) 3=D (.ptr l i (c+3)):=j
def CR(a0 a b a3:aa):bp P 33 (.agg [a0,a,b,a3]) 3=D a3:=j
def Ub:bT P 46=D true:=j
def UR:bu P 46=D 3:=j
def Bt(l i c:Nat):ak P 46 (.ptr l i c) 0=D (.ptr l i (c+0)):=j
def CS(a0 a b:aa):bp P 46 (.agg [a0,a,b]) 0=D a0:=j
def Bu(l i c:Nat):ak P 46 (.ptr l i c) 1=D (.ptr l i (c+1)):=j
def CT(a0 a b:aa):bp P 46 (.agg [a0,a,b]) 1=D a:=j
def Bv(l i c:Nat):ak P 46 (.ptr l i c) 2=D (.ptr l i (c+2)):=j
def CU(a0 b a:aa):bp P 46 (.agg [a0,b,a]) 2=D a:=j
def Uc:bT P 47=D false:=j
def US:bu P 47=D 1:=j
def D2(l i n:Nat)(cap:Option Nat)(k:Int):aF P 47 (.ag l i n 6 cap) (I J k)=if 6=6/\0<=k/\k<n then D (.ptr l (i+k.toNat) 0)else none:=j
def D1{l i n:Nat}{cap:Option Nat}{k:Int}(a:0<=k)(b:k<n):aF P 47 (.ag l i n 6 cap) (I J k)=D (.ptr l (i+k.toNat) 0):=by rw[D2,if_pos ⟨rfl,a,b⟩]
def F7{H:ae}{l i n e:Nat}{cap:Option Nat}:aW P H .len [47] [.ag l i n e cap]=D (I J n):=j
def F8{H:ae}:aW P H .len [47] [.ar]=D (I J 0):=j
def Ud:bT P 49=D true:=j
def UT:bu P 49=D 7:=j
def Bw(l i c:Nat):ak P 49 (.ptr l i c) 0=D (.ptr l i (c+0)):=j
def CV(a0 a b a3 a4 a5 c:aa):bp P 49 (.agg [a0,a,b,a3,a4,a5,c]) 0=D a0:=j
def Bx(l i c:Nat):ak P 49 (.ptr l i c) 1=D (.ptr l i (c+1)):=j
def CW(a0 a b a3 a4 a5 c:aa):bp P 49 (.agg [a0,a,b,a3,a4,a5,c]) 1=D a:=j
def By(l i c:Nat):ak P 49 (.ptr l i c) 2=D (.ptr l i (c+2)):=j
def CX(a0 b a a3 a4 a5 c:aa):bp P 49 (.agg [a0,b,a,a3,a4,a5,c]) 2=D a:=j
def Bz(l i c:Nat):ak P 49 (.ptr l i c) 3=D (.ptr l i (c+3)):=j
def CY(a0 a b a3 a4 a5 c:aa):bp P 49 (.agg [a0,a,b,a3,a4,a5,c]) 3=D (.agg [a3,a4,a5]):=j
def BA(l i c:Nat):ak P 49 (.ptr l i c) 4=D (.ptr l i (c+6)):=j
def CZ(a0 b c a3 a4 a5 a:aa):bp P 49 (.agg [a0,b,c,a3,a4,a5,a]) 4=D a:=j
def Ue:bT P 53=D false:=j
def UU:bu P 53=D 1:=j
def D4(l i n:Nat)(cap:Option Nat)(k:Int):aF P 53 (.ag l i n 4 cap) (I J k)=if 4=4/\0<=k/\k<n then D (.ptr l (i+k.toNat) 0)else none:=j
def D3{l i n:Nat}{cap:Option Nat}{k:Int}(a:0<=k)(b:k<n):aF P 53 (.ag l i n 4 cap) (I J k)=D (.ptr l (i+k.toNat) 0):=by rw[D4,if_pos ⟨rfl,a,b⟩]
def F9{H:ae}{l i n e:Nat}{cap:Option Nat}:aW P H .len [53] [.ag l i n e cap]=D (I J n):=j
def F_{H:ae}:aW P H .len [53] [.ar]=D (I J 0):=j
def Uf:bT P 56=D true:=j
def UW:bu P 56=D 4:=j
def BB(l i c:Nat):ak P 56 (.ptr l i c) 0=D (.ptr l i (c+0)):=j
def C0(a0 a b a3:aa):bp P 56 (.agg [a0,a,b,a3]) 0=D a0:=j
def BD(l i c:Nat):ak P 56 (.ptr l i c) 1=D (.ptr l i (c+1)):=j
def C1(a0 a b a3:aa):bp P 56 (.agg [a0,a,b,a3]) 1=D a:=j
def BE(l i c:Nat):ak P 56 (.ptr l i c) 2=D (.ptr l i (c+2)):=j
def C2(a0 b a a3:aa):bp P 56 (.agg [a0,b,a,a3]) 2=D a:=j
def BF(l i c:Nat):ak P 56 (.ptr l i c) 3=D (.ptr l i (c+3)):=j
def C3(a0 a b a3:aa):bp P 56 (.agg [a0,a,b,a3]) 3=D a3:=j
def Ug:bT P 76=D true:=j
def UX:bu P 76=D 11:=j
def BG(l i c:Nat):ak P 76 (.ptr l i c) 0=D (.ptr l i (c+0)):=j
def C4(a0 a b a3 a4 a5 d e f a9 c:aa):bp P 76 (.agg [a0,a,b,a3,a4,a5,d,e,f,a9,c]) 0=D (.agg [a0,a,b,a3,a4]):=j
def BH(l i c:Nat):ak P 76 (.ptr l i c) 1=D (.ptr l i (c+5)):=j
def C5(a0 d f a3 a4 a5 a b c a9 e:aa):bp P 76 (.agg [a0,d,f,a3,a4,a5,a,b,c,a9,e]) 1=D (.agg [a5,a,b,c]):=j
def BI(l i c:Nat):ak P 76 (.ptr l i c) 2=D (.ptr l i (c+9)):=j
def C6(a0 a c a3 a4 a5 d e f a9 b:aa):bp P 76 (.agg [a0,a,c,a3,a4,a5,d,e,f,a9,b]) 2=D a9:=j
def BJ(l i c:Nat):ak P 76 (.ptr l i c) 3=D (.ptr l i (c+10)):=j
def C7(a0 b c a3 a4 a5 d e f a9 a:aa):bp P 76 (.agg [a0,b,c,a3,a4,a5,d,e,f,a9,a]) 3=D a:=j
def Uh:bT P 78=D true:=j
def UY:bu P 78=D 13:=j
def BK(l i c:Nat):ak P 78 (.ptr l i c) 0=D (.ptr l i (c+0)):=j
def C8(a0 a b a3 a4 a5 f g h a9 c d e:aa):bp P 78 (.agg [a0,a,b,a3,a4,a5,f,g,h,a9,c,d,e]) 0=D (.agg [a0,a,b,a3,a4]):=j
def BL(l i c:Nat):ak P 78 (.ptr l i c) 1=D (.ptr l i (c+5)):=j
def C9(a0 d h a3 a4 a5 a b c a9 e f g:aa):bp P 78 (.agg [a0,d,h,a3,a4,a5,a,b,c,a9,e,f,g]) 1=D (.agg [a5,a,b,c]):=j
def BM(l i c:Nat):ak P 78 (.ptr l i c) 2=D (.ptr l i (c+9)):=j
def C_(a0 a e a3 a4 a5 f g h a9 b c d:aa):bp P 78 (.agg [a0,a,e,a3,a4,a5,f,g,h,a9,b,c,d]) 2=D a9:=j
def BN(l i c:Nat):ak P 78 (.ptr l i c) 3=D (.ptr l i (c+10)):=j
def Da(a0 b e a3 a4 a5 f g h a9 a c d:aa):bp P 78 (.agg [a0,b,e,a3,a4,a5,f,g,h,a9,a,c,d]) 3=D a:=j
def BO(l i c:Nat):ak P 78 (.ptr l i c) 4=D (.ptr l i (c+11)):=j
def Db(a0 b e a3 a4 a5 f g h a9 c a d:aa):bp P 78 (.agg [a0,b,e,a3,a4,a5,f,g,h,a9,c,a,d]) 4=D a:=j
def BP(l i c:Nat):ak P 78 (.ptr l i c) 5=D (.ptr l i (c+12)):=j
def Dc(a0 b e a3 a4 a5 f g h a9 c d a:aa):bp P 78 (.agg [a0,b,e,a3,a4,a5,f,g,h,a9,c,d,a]) 5=D a:=j
def Ui:bT P 89=D true:=j
def UZ:bu P 89=D 6:=j
def BQ(l i c:Nat):ak P 89 (.ptr l i c) 0=D (.ptr l i (c+0)):=j
def Dd(a0 a b a3 a4 a5:aa):bp P 89 (.agg [a0,a,b,a3,a4,a5]) 0=D a0:=j
def BR(l i c:Nat):ak P 89 (.ptr l i c) 1=D (.ptr l i (c+1)):=j
def De(a0 a b a3 a4 a5:aa):bp P 89 (.agg [a0,a,b,a3,a4,a5]) 1=D a:=j
def BS(l i c:Nat):ak P 89 (.ptr l i c) 2=D (.ptr l i (c+2)):=j
def Df(a0 b a a3 a4 a5:aa):bp P 89 (.agg [a0,b,a,a3,a4,a5]) 2=D a:=j
def BT(l i c:Nat):ak P 89 (.ptr l i c) 3=D (.ptr l i (c+3)):=j
def Dg(a0 a b a3 a4 a5:aa):bp P 89 (.agg [a0,a,b,a3,a4,a5]) 3=D a3:=j
def BU(l i c:Nat):ak P 89 (.ptr l i c) 4=D (.ptr l i (c+4)):=j
def Dh(a0 a b a3 a4 a5:aa):bp P 89 (.agg [a0,a,b,a3,a4,a5]) 4=D a4:=j
def BV(l i c:Nat):ak P 89 (.ptr l i c) 5=D (.ptr l i (c+5)):=j
def Di(a0 a b a3 a4 a5:aa):bp P 89 (.agg [a0,a,b,a3,a4,a5]) 5=D a5:=j
def Uk:bT P 93=D false:=j
def U1:bu P 93=D 1:=j
def D6(l i n:Nat)(cap:Option Nat)(k:Int):aF P 93 (.ag l i n 4 cap) (I J k)=if 4=4/\0<=k/\k<n then D (.ptr l (i+k.toNat) 0)else none:=j
def D5{l i n:Nat}{cap:Option Nat}{k:Int}(a:0<=k)(b:k<n):aF P 93 (.ag l i n 4 cap) (I J k)=D (.ptr l (i+k.toNat) 0):=by rw[D6,if_pos ⟨rfl,a,b⟩]
def Gc{H:ae}{l i n e:Nat}{cap:Option Nat}:aW P H .len [93] [.ag l i n e cap]=D (I J n):=j
def Gd{H:ae}:aW P H .len [93] [.ar]=D (I J 0):=j
def Ul:bT P 95=D true:=j
def U2:bu P 95=D 2:=j
def BW(l i c:Nat):ak P 95 (.ptr l i c) 0=D (.ptr l i (c+0)):=j
def Dj(a0 a:aa):bp P 95 (.agg [a0,a]) 0=D a0:=j
def BX(l i c:Nat):ak P 95 (.ptr l i c) 1=D (.ptr l i (c+1)):=j
def Dk(a0 a:aa):bp P 95 (.agg [a0,a]) 1=D a:=j
def Um:bT P 98=D true:=j
def U3:bu P 98=D 4:=j
def BY(l i c:Nat):ak P 98 (.ptr l i c) 0=D (.ptr l i (c+0)):=j
def Dl(a0 a b a3:aa):bp P 98 (.agg [a0,a,b,a3]) 0=D a0:=j
def BZ(l i c:Nat):ak P 98 (.ptr l i c) 1=D (.ptr l i (c+1)):=j
def Dm(a0 a b a3:aa):bp P 98 (.agg [a0,a,b,a3]) 1=D (.agg [a,b,a3]):=j
def TG:bT P 100=D true:=j
def Uo:bu P 100=D 4:=j
def AQ(l i c:Nat):ak P 100 (.ptr l i c) 0=D (.ptr l i (c+0)):=j
def Cd(a0 a b a3:aa):bp P 100 (.agg [a0,a,b,a3]) 0=D a0:=j
def AR(l i c:Nat):ak P 100 (.ptr l i c) 1=D (.ptr l i (c+1)):=j
def Ce(a0 a b a3:aa):bp P 100 (.agg [a0,a,b,a3]) 1=D (.agg [a,b,a3]):=j
def TH:bT P 104=D false:=j
def Up:bu P 104=D 1:=j
def Dx(l i n:Nat)(cap:Option Nat)(k:Int):aF P 104 (.ag l i n 1 cap) (I J k)=if 1=1/\0<=k/\k<n then D (.ptr l (i+k.toNat) 0)else none:=j
def Dw{l i n:Nat}{cap:Option Nat}{k:Int}(a:0<=k)(b:k<n):aF P 104 (.ag l i n 1 cap) (I J k)=D (.ptr l (i+k.toNat) 0):=by rw[Dx,if_pos ⟨rfl,a,b⟩]
def FB{H:ae}{l i n e:Nat}{cap:Option Nat}:aW P H .len [104] [.ag l i n e cap]=D (I J n):=j
def FC{H:ae}:aW P H .len [104] [.ar]=D (I J 0):=j
def TI:bT P 152=D false:=j
def Uq:bu P 152=D 1:=j
def Dz(l i n:Nat)(cap:Option Nat)(k:Int):aF P 152 (.ag l i n 1 cap) (I J k)=if 1=1/\0<=k/\k<n then D (.ptr l (i+k.toNat) 0)else none:=j
def Dy{l i n:Nat}{cap:Option Nat}{k:Int}(a:0<=k)(b:k<n):aF P 152 (.ag l i n 1 cap) (I J k)=D (.ptr l (i+k.toNat) 0):=by rw[Dz,if_pos ⟨rfl,a,b⟩]
def FD{H:ae}{l i n e:Nat}{cap:Option Nat}:aW P H .len [152] [.ag l i n e cap]=D (I J n):=j
def FE{H:ae}:aW P H .len [152] [.ar]=D (I J 0):=j
def TJ:bT P 154=D true:=j
def Ur:bu P 154=D 2:=j
def AS(l i c:Nat):ak P 154 (.ptr l i c) 0=D (.ptr l i (c+0)):=j
def Cf(a0 a:aa):bp P 154 (.agg [a0,a]) 0=D a0:=j
def AT(l i c:Nat):ak P 154 (.ptr l i c) 1=D (.ptr l i (c+1)):=j
def Cg(a0 a:aa):bp P 154 (.agg [a0,a]) 1=D a:=j
def TK:bT P 196=D true:=j
def Us:bu P 196=D 12:=j
def AU(l i c:Nat):ak P 196 (.ptr l i c) 0=D (.ptr l i (c+0)):=j
def Ch(a0 a b a3 a4 a5 c f g a9 d e:aa):bp P 196 (.agg [a0,a,b,a3,a4,a5,c,f,g,a9,d,e]) 0=D (.agg [a0,a,b,a3,a4,a5,c]):=j
def AV(l i c:Nat):ak P 196 (.ptr l i c) 1=D (.ptr l i (c+7)):=j
def Ci(a0 b e a3 a4 a5 f a g a9 c d:aa):bp P 196 (.agg [a0,b,e,a3,a4,a5,f,a,g,a9,c,d]) 1=D a:=j
def AW(l i c:Nat):ak P 196 (.ptr l i c) 2=D (.ptr l i (c+8)):=j
def Cj(a0 b e a3 a4 a5 f g a a9 c d:aa):bp P 196 (.agg [a0,b,e,a3,a4,a5,f,g,a,a9,c,d]) 2=D a:=j
def AX(l i c:Nat):ak P 196 (.ptr l i c) 3=D (.ptr l i (c+9)):=j
def Ck(a0 a d a3 a4 a5 e f g a9 b c:aa):bp P 196 (.agg [a0,a,d,a3,a4,a5,e,f,g,a9,b,c]) 3=D a9:=j
def AY(l i c:Nat):ak P 196 (.ptr l i c) 4=D (.ptr l i (c+10)):=j
def Cl(a0 b d a3 a4 a5 e f g a9 a c:aa):bp P 196 (.agg [a0,b,d,a3,a4,a5,e,f,g,a9,a,c]) 4=D a:=j
def AZ(l i c:Nat):ak P 196 (.ptr l i c) 5=D (.ptr l i (c+11)):=j
def Cm(a0 b d a3 a4 a5 e f g a9 c a:aa):bp P 196 (.agg [a0,b,d,a3,a4,a5,e,f,g,a9,c,a]) 5=D a:=j
def TL:bT P 198=D false:=j
def Ut:bu P 198=D 1:=j
def DB(l i n:Nat)(cap:Option Nat)(k:Int):aF P 198 (.ag l i n 1 cap) (I J k)=if 1=1/\0<=k/\k<n then D (.ptr l (i+k.toNat) 0)else none:=j
def DA{l i n:Nat}{cap:Option Nat}{k:Int}(a:0<=k)(b:k<n):aF P 198 (.ag l i n 1 cap) (I J k)=D (.ptr l (i+k.toNat) 0):=by rw[DB,if_pos ⟨rfl,a,b⟩]
def FF{H:ae}{l i n e:Nat}{cap:Option Nat}:aW P H .len [198] [.ag l i n e cap]=D (I J n):=j
def FH{H:ae}:aW P H .len [198] [.ar]=D (I J 0):=j
def TM:bT P 203=D false:=j
def Uu:bu P 203=D 1:=j
def DD(l i n:Nat)(cap:Option Nat)(k:Int):aF P 203 (.ag l i n 1 cap) (I J k)=if 1=1/\0<=k/\k<n then D (.ptr l (i+k.toNat) 0)else none:=j
def DC{l i n:Nat}{cap:Option Nat}{k:Int}(a:0<=k)(b:k<n):aF P 203 (.ag l i n 1 cap) (I J k)=D (.ptr l (i+k.toNat) 0):=by rw[DD,if_pos ⟨rfl,a,b⟩]
def FI{H:ae}{l i n e:Nat}{cap:Option Nat}:aW P H .len [203] [.ag l i n e cap]=D (I J n):=j
def FJ{H:ae}:aW P H .len [203] [.ar]=D (I J 0):=j
def TN:bT P 204=D false:=j
def Uv:bu P 204=D 1:=j
def DG(l i n:Nat)(cap:Option Nat)(k:Int):aF P 204 (.ag l i n 1 cap) (I J k)=if 1=1/\0<=k/\k<n then D (.ptr l (i+k.toNat) 0)else none:=j
def DF{l i n:Nat}{cap:Option Nat}{k:Int}(a:0<=k)(b:k<n):aF P 204 (.ag l i n 1 cap) (I J k)=D (.ptr l (i+k.toNat) 0):=by rw[DG,if_pos ⟨rfl,a,b⟩]
def FK{H:ae}{l i n e:Nat}{cap:Option Nat}:aW P H .len [204] [.ag l i n e cap]=D (I J n):=j
def FL{H:ae}:aW P H .len [204] [.ar]=D (I J 0):=j
def TO:bT P 206=D true:=j
def Uw:bu P 206=D 3:=j
def A0(l i c:Nat):ak P 206 (.ptr l i c) 0=D (.ptr l i (c+0)):=j
def Cn(a0 a b:aa):bp P 206 (.agg [a0,a,b]) 0=D a0:=j
def A1(l i c:Nat):ak P 206 (.ptr l i c) 1=D (.ptr l i (c+1)):=j
def Co(a0 a b:aa):bp P 206 (.agg [a0,a,b]) 1=D a:=j
def A2(l i c:Nat):ak P 206 (.ptr l i c) 2=D (.ptr l i (c+2)):=j
def Cp(a0 b a:aa):bp P 206 (.agg [a0,b,a]) 2=D a:=j
def TS:bT P 243=D false:=j
def UA:bu P 243=D 1:=j
def DO(l i n:Nat)(cap:Option Nat)(k:Int):aF P 243 (.ag l i n 1 cap) (I J k)=if 1=1/\0<=k/\k<n then D (.ptr l (i+k.toNat) 0)else none:=j
def DN{l i n:Nat}{cap:Option Nat}{k:Int}(a:0<=k)(b:k<n):aF P 243 (.ag l i n 1 cap) (I J k)=D (.ptr l (i+k.toNat) 0):=by rw[DO,if_pos ⟨rfl,a,b⟩]
def FR{H:ae}{l i n e:Nat}{cap:Option Nat}:aW P H .len [243] [.ag l i n e cap]=D (I J n):=j
def FT{H:ae}:aW P H .len [243] [.ar]=D (I J 0):=j
def TT:bT P 244=D false:=j
def UB:bu P 244=D 1:=j
def DQ(l i n:Nat)(cap:Option Nat)(k:Int):aF P 244 (.ag l i n 1 cap) (I J k)=if 1=1/\0<=k/\k<n then D (.ptr l (i+k.toNat) 0)else none:=j
def DP{l i n:Nat}{cap:Option Nat}{k:Int}(a:0<=k)(b:k<n):aF P 244 (.ag l i n 1 cap) (I J k)=D (.ptr l (i+k.toNat) 0):=by rw[DQ,if_pos ⟨rfl,a,b⟩]
def FU{H:ae}{l i n e:Nat}{cap:Option Nat}:aW P H .len [244] [.ag l i n e cap]=D (I J n):=j
def FV{H:ae}:aW P H .len [244] [.ar]=D (I J 0):=j
def TV:bT P 246=D false:=j
def UC:bu P 246=D 1:=j
def DS(l i n:Nat)(cap:Option Nat)(k:Int):aF P 246 (.ag l i n 1 cap) (I J k)=if 1=1/\0<=k/\k<n then D (.ptr l (i+k.toNat) 0)else none:=j
def DR{l i n:Nat}{cap:Option Nat}{k:Int}(a:0<=k)(b:k<n):aF P 246 (.ag l i n 1 cap) (I J k)=D (.ptr l (i+k.toNat) 0):=by rw[DS,if_pos ⟨rfl,a,b⟩]
def FW{H:ae}{l i n e:Nat}{cap:Option Nat}:aW P H .len [246] [.ag l i n e cap]=D (I J n):=j
def FX{H:ae}:aW P H .len [246] [.ar]=D (I J 0):=j
def TW:bT P 248=D true:=j
def UD:bu P 248=D 9:=j
def A3(l i c:Nat):ak P 248 (.ptr l i c) 0=D (.ptr l i (c+0)):=j
def Cq(a0 a b a3 a4 a5 c d e:aa):bp P 248 (.agg [a0,a,b,a3,a4,a5,c,d,e]) 0=D a0:=j
def A4(l i c:Nat):ak P 248 (.ptr l i c) 1=D (.ptr l i (c+1)):=j
def Cr(a0 a b a3 a4 a5 c d e:aa):bp P 248 (.agg [a0,a,b,a3,a4,a5,c,d,e]) 1=D a:=j
def A5(l i c:Nat):ak P 248 (.ptr l i c) 2=D (.ptr l i (c+2)):=j
def Cs(a0 b a a3 a4 a5 c d e:aa):bp P 248 (.agg [a0,b,a,a3,a4,a5,c,d,e]) 2=D a:=j
def A6(l i c:Nat):ak P 248 (.ptr l i c) 3=D (.ptr l i (c+3)):=j
def Ct(a0 a b a3 a4 a5 c d e:aa):bp P 248 (.agg [a0,a,b,a3,a4,a5,c,d,e]) 3=D a3:=j
def A7(l i c:Nat):ak P 248 (.ptr l i c) 4=D (.ptr l i (c+4)):=j
def Cu(a0 a b a3 a4 a5 c d e:aa):bp P 248 (.agg [a0,a,b,a3,a4,a5,c,d,e]) 4=D a4:=j
def A8(l i c:Nat):ak P 248 (.ptr l i c) 5=D (.ptr l i (c+5)):=j
def Cv(a0 a b a3 a4 a5 c d e:aa):bp P 248 (.agg [a0,a,b,a3,a4,a5,c,d,e]) 5=D a5:=j
def A9(l i c:Nat):ak P 248 (.ptr l i c) 6=D (.ptr l i (c+6)):=j
def Cw(a0 b c a3 a4 a5 a d e:aa):bp P 248 (.agg [a0,b,c,a3,a4,a5,a,d,e]) 6=D a:=j
def A_(l i c:Nat):ak P 248 (.ptr l i c) 7=D (.ptr l i (c+7)):=j
def Cx(a0 b c a3 a4 a5 d a e:aa):bp P 248 (.agg [a0,b,c,a3,a4,a5,d,a,e]) 7=D a:=j
def Ba(l i c:Nat):ak P 248 (.ptr l i c) 8=D (.ptr l i (c+8)):=j
def Cy(a0 b c a3 a4 a5 d e a:aa):bp P 248 (.agg [a0,b,c,a3,a4,a5,d,e,a]) 8=D a:=j
def TY:bT P 251=D false:=j
def UF:bu P 251=D 1:=j
def TZ:bT P 262=D true:=j
def UG:bu P 262=D 1:=j
def Bb(l i c:Nat):ak P 262 (.ptr l i c) 0=D (.ptr l i (c+0)):=j
def Cz(a0:aa):bp P 262 (.agg [a0]) 0=D a0:=j
def T3:bT P 280=D true:=j
def UI:bu P 280=D 19:=j
def Bh(l i c:Nat):ak P 280 (.ptr l i c) 0=D (.ptr l i (c+0)):=j
def CG(a0 a b a3 a4 a5 m n o a9 c d e f g h i k l:aa):bp P 280 (.agg [a0,a,b,a3,a4,a5,m,n,o,a9,c,d,e,f,g,h,i,k,l]) 0=D (.agg [a0,a,b,a3,a4]):=j
def Bi(l i c:Nat):ak P 280 (.ptr l i c) 1=D (.ptr l i (c+5)):=j
def CH(a0 a l a3 a4 a5 m n o a9 b c d e f g h i k:aa):bp P 280 (.agg [a0,a,l,a3,a4,a5,m,n,o,a9,b,c,d,e,f,g,h,i,k]) 1=D a5:=j
def Bj(l i c:Nat):ak P 280 (.ptr l i c) 2=D (.ptr l i (c+6)):=j
def CI(a0 g o a3 a4 a5 d e f a9 a b c h i k l m n:aa):bp P 280 (.agg [a0,g,o,a3,a4,a5,d,e,f,a9,a,b,c,h,i,k,l,m,n]) 2=D (.agg [d,e,f,a9,a,b,c]):=j
def Bk(l i c:Nat):ak P 280 (.ptr l i c) 3=D (.ptr l i (c+13)):=j
def CJ(a0 g l a3 a4 a5 m n o a9 h i k a b c d e f:aa):bp P 280 (.agg [a0,g,l,a3,a4,a5,m,n,o,a9,h,i,k,a,b,c,d,e,f]) 3=D (.agg [a,b,c,d,e,f]):=j
def T4:bT P 284=D false:=j
def UJ:bu P 284=D 1:=j
def DW(l i n:Nat)(cap:Option Nat)(k:Int):aF P 284 (.ag l i n 3 cap) (I J k)=if 3=3/\0<=k/\k<n then D (.ptr l (i+k.toNat) 0)else none:=j
def DV{l i n:Nat}{cap:Option Nat}{k:Int}(a:0<=k)(b:k<n):aF P 284 (.ag l i n 3 cap) (I J k)=D (.ptr l (i+k.toNat) 0):=by rw[DW,if_pos ⟨rfl,a,b⟩]
def F1{H:ae}{l i n e:Nat}{cap:Option Nat}:aW P H .len [284] [.ag l i n e cap]=D (I J n):=j
def F2{H:ae}:aW P H .len [284] [.ar]=D (I J 0):=j
def T5:bT P 286=D true:=j
def UK:bu P 286=D 3:=j
def Bl(l i c:Nat):ak P 286 (.ptr l i c) 0=D (.ptr l i (c+0)):=j
def CK(a0 a b:aa):bp P 286 (.agg [a0,a,b]) 0=D a0:=j
def Bm(l i c:Nat):ak P 286 (.ptr l i c) 1=D (.ptr l i (c+1)):=j
def CL(a0 a b:aa):bp P 286 (.agg [a0,a,b]) 1=D a:=j
def Bn(l i c:Nat):ak P 286 (.ptr l i c) 2=D (.ptr l i (c+2)):=j
def CM(a0 b a:aa):bp P 286 (.agg [a0,b,a]) 2=D a:=j
def T6:bT P 292=D true:=j
def UL:bu P 292=D 1:=j
def Bo(l i c:Nat):ak P 292 (.ptr l i c) 0=D (.ptr l i (c+0)):=j
def CN(a0:aa):bp P 292 (.agg [a0]) 0=D a0:=j
def Ap{a0:aa}{a:aa}{b:aa}(c:a0.one=V)(d:a.one=V)(e:b.one=V):bh P 56 [(0,a0),(1,a),(2,b)]=D (.agg [a0,a,b,I J 0]):=by
 rw[cT];simp only[List.map_cons,List.map_nil,b1 c,b1 d,b1 e];kernel_rfl
def Ar{a:aa}{b:aa}{c:aa}{d:aa}{e:aa}{f:aa}{g:aa}{h:aa}{i:aa}:bh P 76 [(0,.agg [a,b,c,d,e]),(1,.agg [f,g,h,i])]=D (.agg [a,b,c,d,e,f,g,h,i,aa.ar,aa.ar]):=by
 rw[cT];simp only[List.map_cons,List.map_nil];kernel_rfl
def As{a:aa}{b:aa}{c:aa}{d:aa}{e:aa}{f:aa}{g:aa}{h:aa}{i:aa}:bh P 78 [(0,.agg [a,b,c,d,e]),(1,.agg [f,g,h,i])]=D (.agg [a,b,c,d,e,f,g,h,i,aa.ar,aa.ar,aa.ar,aa.ar]):=by
 rw[cT];simp only[List.map_cons,List.map_nil];kernel_rfl
def Ae{a:aa}{a3:aa}{a4:aa}(b:a.one=V)(c:a3.one=V)(d:a4.one=V):bh P 196 [(1,a),(3,a3),(4,a4)]=D (.agg [I J 0,aa.ar,Z U,I J 0,I J 0,I J 0,aa.ar,a,I J 0,a3,a4,aa.ar]):=by
 rw[cT];simp only[List.map_cons,List.map_nil,b1 b,b1 c,b1 d];kernel_rfl
def Af{a:aa}(b:a.one=V):bh P 206 [(2,a)]=D (.agg [aa.ar,aa.ar,a]):=by
 rw[cT];simp only[List.map_cons,List.map_nil,b1 b];kernel_rfl
def Am{a:aa}(b:a.one=V):bh P 33 [(1,a)]=D (.agg [I J 0,a,aa.ar,aa.ar]):=by
 rw[cT];simp only[List.map_cons,List.map_nil,b1 b];kernel_rfl
def An{a0:aa}(a:a0.one=V):bh P 46 [(0,a0)]=D (.agg [a0,I J 0,I J 0]):=by
 rw[cT];simp only[List.map_cons,List.map_nil,b1 a];kernel_rfl
def Ao{a0:aa}{a:aa}{b:aa}(c:a0.one=V)(d:a.one=V)(e:b.one=V):bh P 46 [(0,a0),(1,a),(2,b)]=D (.agg [a0,a,b]):=by
 rw[cT];simp only[List.map_cons,List.map_nil,b1 c,b1 d,b1 e];kernel_rfl
def Aq{a0:aa}{a:aa}{b:aa}{a3:aa}(c:a0.one=V)(d:a.one=V)(e:b.one=V)(f:a3.one=V):bh P 56 [(0,a0),(1,a),(2,b),(3,a3)]=D (.agg [a0,a,b,a3]):=by
 rw[cT];simp only[List.map_cons,List.map_nil,b1 c,b1 d,b1 e,b1 f];kernel_rfl
def Ag{a0:aa}{a:aa}{b:aa}{a3:aa}{a4:aa}{a5:aa}{c:aa}{d:aa}(e:a0.one=V)(f:a.one=V)(g:b.one=V)(h:a3.one=V)(i:a4.one=V)(j:a5.one=V)(k:c.one=V)(l:d.one=V):bh P 248 [(0,a0),(1,a),(2,b),(3,a3),(4,a4),(5,a5),(6,c),(8,d)]=D (.agg [a0,a,b,a3,a4,a5,c,aa.ar,d]):=by
 rw[cT];simp only[List.map_cons,List.map_nil,b1 e,b1 f,b1 g,b1 h,b1 i,b1 j,b1 k,b1 l];kernel_rfl
def Ad{a0:aa}{a:aa}(b:a0.one=V)(c:a.one=V):bh P 154 [(0,a0),(1,a)]=D (.agg [a0,a]):=by
 rw[cT];simp only[List.map_cons,List.map_nil,b1 b,b1 c];kernel_rfl
def Al{a0:aa}{a:aa}(b:a0.one=V)(c:a.one=V):bh P 33 [(0,a0),(1,a)]=D (.agg [a0,a,aa.ar,aa.ar]):=by
 rw[cT];simp only[List.map_cons,List.map_nil,b1 b,b1 c];kernel_rfl
def Ah{b:aa}{c:aa}{d:aa}{e:aa}{f:aa}{a:aa}{g:aa}{h:aa}{i:aa}{j:aa}{k:aa}{l:aa}{m:aa}{n:aa}{o:aa}{p:aa}{q:aa}{r:aa}{s:aa}(t:a.one=V):bh P 280 [(0,.agg [b,c,d,e,f]),(1,a),(2,.agg [g,h,i,j,k,l,m]),(3,.agg [n,o,p,q,r,s])]=D (.agg [b,c,d,e,f,a,g,h,i,j,k,l,m,n,o,p,q,r,s]):=by
 rw[cT];simp only[List.map_cons,List.map_nil,b1 t];kernel_rfl
def Ai{a0:aa}{a:aa}{b:aa}(c:a0.one=V)(d:a.one=V)(e:b.one=V):bh P 286 [(0,a0),(1,a),(2,b)]=D (.agg [a0,a,b]):=by
 rw[cT];simp only[List.map_cons,List.map_nil,b1 c,b1 d,b1 e];kernel_rfl
def Aj{a0:aa}(a:a0.one=V):bh P 292 [(0,a0)]=D (.agg [a0]):=by
 rw[cT];simp only[List.map_cons,List.map_nil,b1 a];kernel_rfl
def Ak{a0:aa}{a:aa}(b:a0.one=V)(c:a.one=V):bh P 312 [(0,a0),(1,a)]=D (.agg [a0,a]):=by
 rw[cT];simp only[List.map_cons,List.map_nil,b1 b,b1 c];kernel_rfl
section
set_option linter.defProp false
def xZ:=aC @ae.dO @ae.nF
def AM:=aC (aC (aC (aC (aC @Vv @Vo) (aC @vJ (aC @JY @JZ))) (aC (aC @J0 @Vf) (aC @Vs (aC @Vr @Vq)))) (aC (aC (aC @Vg @zR) (aC @Vn (aC @Vp @Vm))) (aC (aC @Vi (aC @Vl @Vj)) (aC @Vk (aC @Vh @JT))))) (aC (aC (aC (aC @JS @z6) (aC @zc (aC @zd @ze))) (aC (aC @y8 @y9) (aC @y_ (aC @za @y6)))) (aC (aC (aC @zb @y7) (aC @Option.bind_some.{0,0} (aC @eo @gw))) (aC (aC @zw (aC @J2 @J5)) (aC @J1 (aC @J4 @J3)))))
def Gf:=aC (aC (aC (aC (aC @List.getElem?_cons_zero.{0} @List.getElem?_cons_succ.{0}) (aC @List.drop_zero.{0} @List.drop_succ_cons.{0})) (aC (aC @List.take_succ_cons.{0} @List.take_zero.{0}) (aC @List.set_cons_zero.{0} @List.set_cons_succ.{0}))) (aC (aC (aC @List.cons_append.{0} @List.nil_append.{0}) (aC @List.length_cons.{0} @List.length_nil.{0})) (aC (aC @List.all_cons.{0} @List.all_nil.{0}) (aC @Bool.and_true @Bool.and_self)))) (aC (aC (aC (aC @Nat.zero_add @Nat.add_zero) (aC @bM @and_self)) (aC (aC @and_true @true_and) (aC @if_true.{1} @aV))) (aC (aC (aC @x7 @yc) (aC @x5 @yb)) (aC (aC @x_ @ya) (aC @x6 (aC @x8 @x9)))))
def U4:=aC (aC (aC (aC (aC (aC @T7 @Ua) (aC @Uj (aC @TP @TQ))) (aC (aC @TR @TX) (aC @T0 (aC @T8 @T9)))) (aC (aC (aC @T_ @Ub) (aC @Uc (aC @Ud @Ue))) (aC (aC @Uf @Ug) (aC @Uh (aC @Ui @Uk))))) (aC (aC (aC (aC @Ul @Um) (aC @TG (aC @TH @TI))) (aC (aC @TJ @TK) (aC @TL (aC @TM @TN)))) (aC (aC (aC @TO @TS) (aC @TT (aC @TV @TW))) (aC (aC @TY (aC @TZ @T3)) (aC @T4 (aC @T5 @T6)))))) (aC (aC (aC (aC (aC @UM @UQ) (aC @U0 (aC @Ux @Uy))) (aC (aC @Uz @UE) (aC @UH (aC @UN @UO)))) (aC (aC (aC @UP @UR) (aC @US (aC @UT @UU))) (aC (aC @UW @UX) (aC @UY (aC @UZ @U1))))) (aC (aC (aC (aC @U2 @U3) (aC @Uo (aC @Up @Uq))) (aC (aC @Ur @Us) (aC @Ut (aC @Uu @Uv)))) (aC (aC (aC @Uw @UA) (aC @UB (aC @UC @UD))) (aC (aC @UF (aC @UG @UI)) (aC @UJ (aC @UK @UL))))))
def r0:=aC (aC (aC @B1 (aC @Ca @B3)) (aC @B8 (aC @B7 @B6))) (aC (aC @B5 (aC @B4 @B9)) (aC @B_ (aC @AK @Gn)))
def Dt:=aC (aC (aC @ae.Ds @ae.cp) (aC @ae.dn @ae.cx)) (aC (aC @ae.dO @ae.nF) (aC @ae.JX @ae.set_set))
def Au:=aC (aC (aC (aC @Ap @Ar) (aC @As @Ae)) (aC (aC @Af @Am) (aC @An @Ao))) (aC (aC (aC @Aq @Ag) (aC @Ad @Al)) (aC (aC @Ah @Ai) (aC @Aj @Ak)))
def B0:=aC (aC (aC (aC (aC (aC @Bc @Bd) (aC @Be @Bf)) (aC (aC @Bg @Bp) (aC @Bq (aC @Br @Bs)))) (aC (aC (aC @Bt @Bu) (aC @Bv @Bw)) (aC (aC @Bx @By) (aC @Bz (aC @BA @BB))))) (aC (aC (aC (aC @BD @BE) (aC @BF @BG)) (aC (aC @BH @BI) (aC @BJ (aC @BK @BL)))) (aC (aC (aC @BM @BN) (aC @BO @BP)) (aC (aC @BQ @BR) (aC @BS (aC @BT @BU)))))) (aC (aC (aC (aC (aC @BV @BW) (aC @BX @BY)) (aC (aC @BZ @AQ) (aC @AR (aC @AS @AT)))) (aC (aC (aC @AU @AV) (aC @AW @AX)) (aC (aC @AY @AZ) (aC @A0 (aC @A1 @A2))))) (aC (aC (aC (aC @A3 @A4) (aC @A5 @A6)) (aC (aC @A7 @A8) (aC @A9 (aC @A_ @Ba)))) (aC (aC (aC @Bb @Bh) (aC @Bi @Bj)) (aC (aC @Bk @Bl) (aC @Bm (aC @Bn @Bo))))))
def Dn:=aC (aC (aC (aC (aC (aC @CA @CB) (aC @CC @CE)) (aC (aC @CF @CO) (aC @CP (aC @CQ @CR)))) (aC (aC (aC @CS @CT) (aC @CU @CV)) (aC (aC @CW @CX) (aC @CY (aC @CZ @C0))))) (aC (aC (aC (aC @C1 @C2) (aC @C3 @C4)) (aC (aC @C5 @C6) (aC @C7 (aC @C8 @C9)))) (aC (aC (aC @C_ @Da) (aC @Db @Dc)) (aC (aC @Dd @De) (aC @Df (aC @Dg @Dh)))))) (aC (aC (aC (aC (aC @Di @Dj) (aC @Dk @Dl)) (aC (aC @Dm @Cd) (aC @Ce (aC @Cf @Cg)))) (aC (aC (aC @Ch @Ci) (aC @Cj @Ck)) (aC (aC @Cl @Cm) (aC @Cn (aC @Co @Cp))))) (aC (aC (aC (aC @Cq @Cr) (aC @Cs @Ct)) (aC (aC @Cu @Cv) (aC @Cw (aC @Cx @Cy)))) (aC (aC (aC @Cz @CG) (aC @CH @CI)) (aC (aC @CJ @CK) (aC @CL (aC @CM @CN))))))
def Ge:=aC (aC (aC (aC (aC @Gb @FM) (aC @FN @FO)) (aC (aC @FP @FQ) (aC @FY (aC @FZ @F0)))) (aC (aC (aC @F3 @F4) (aC @F5 @F6)) (aC (aC @F7 @F8) (aC @F9 (aC @F_ @Gc))))) (aC (aC (aC (aC @Gd @FB) (aC @FC @FD)) (aC (aC @FE @FF) (aC @FH (aC @FI @FJ)))) (aC (aC (aC @FK @FL) (aC @FR (aC @FT @FU))) (aC (aC @FV @FW) (aC @FX (aC @F1 @F2)))))
def D7:=aC (aC (aC (aC @DH @DJ) (aC @DL @DT)) (aC (aC @DX @DZ) (aC @D1 (aC @D3 @D5)))) (aC (aC (aC @Dw @Dy) (aC @DA @DC)) (aC (aC @DF @DN) (aC @DP (aC @DR @DV))))
def rM:=aC AM (aC Gf (aC U4 (aC r0 (aC Dt (aC Au (aC B0 (aC Dn (aC Ge D7))))))))
def x4:=aC (aC (aC @x7 @yc) (aC @x5 @yb)) (aC (aC @x_ @ya) (aC @x6 (aC @x8 @x9)))
def wB{p:Prop}(h:p:=by first|assumption|omega|(simp only[xZ];omega)|(simp only[x4];done)|fail):p:=h
def Vz{p:Prop}(h:p:=by first|assumption|omega|(simp only[xZ];omega)|(simp only[x4];done)|(simp only[List.length_append,List.length_cons,List.length_nil];omega)|fail):p:=h
def AF:(∀cs,(aa.agg cs).cells=cs)/\(∀b,(aa.bool b).cells=[Z b])/\(∀k n,(aa.int k n).cells=[.int k n])/\(∀s,(aa.str s).cells=[X s])/\(∀l i c,(aa.ptr l i c).cells=[.ptr l i c])/\aa.cr.cells=[.cr]/\(∀l i n e c,(aa.ag l i n e c).cells=[.ag l i n e c])/\aa.ar.cells=[.ar]/\(∀f a b,(aa.func f a b).cells=[.func f a b])/\aa.nilFunc.cells=[.nilFunc]/\aa.nilIface.cells=[.nilIface]:=
 ⟨λ_=>rfl,λ_=>rfl,λ_ _=>rfl,λ_=>rfl,λ_ _ _=>rfl,rfl,λ_ _ _ _ _=>rfl,rfl,λ_ _ _=>rfl,rfl,rfl⟩
def Vw:=aC @aZ.eq_1 (aC @ck.eq_1 (aC @ah.eq_1 (aC @aA.eq_1 (aC AF rM))))

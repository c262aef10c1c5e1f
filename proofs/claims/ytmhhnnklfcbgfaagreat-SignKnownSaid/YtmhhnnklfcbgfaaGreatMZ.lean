/-
  Texts of one proof, laid together: Tab Ls.
-/
import Derived.Test.YtmhhnnklfcbgfaaGreatME
set_option linter.unusedVariables false
set_option linter.unusedSimpArgs false
set_option linter.defProp false
open Option renaming some→D,none→Y
open Bool renaming true→V,false→U
open Go.bN.aa renaming int→I,str→X,bool→Z
open Go.IntKind renaming i64→J
namespace Go.Proofs.YtmhhnnklfcbgfaaGreat
open Go.bN
def hx(place:Nat->Option (Nat×Nat))(cells:List aa):List (Nat×List aa)->Option (List aa)
 |[]=>D cells
 |(i,v)::rest=>match place i with
  |none=>Y
  |some (off,size)=>if v.length=size/\off+v.length<=cells.length then hx place (cr cells off v) rest else Y
def rH(P:Program)(t:TypeId)(parts:List (Nat×List aa)):Option aa:=
 match cy P t,P.underlying t with
 |some z,D (.struct a)=>(match gn P a.toList with|some pl=>(hx (pl[·]?) z.cells parts).map .agg|none=>Y)
 |some z,D (.array _ e)=>(match bu P e with|some n=>(hx (λi=>D (i*n,n)) z.cells parts).map .agg|none=>Y)
 |_,_=>Y
def vR(place:Nat->Option (Nat×Nat)):∀(parts:List (Nat×aa)) (cells:List aa),eG place cells parts=hx place cells (parts.map λp=>(p.1,p.2.cells))
 |[],_=>rfl
 |(i,v)::rest,cells=>by
  show(match place i with
   |none=>Y
   |some (off,size)=>if v.cells.length=size/\off+v.cells.length<=cells.length then eG place (cr cells off v.cells) rest else Y)=(match place i with
   |none=>Y
   |some (off,size)=>if v.cells.length=size/\off+v.cells.length<=cells.length then hx place (cr cells off v.cells) (rest.map λp=>(p.1,p.2.cells))else Y)
  cases place i with
  |none=>rfl
  |some p=>simp only[vR place rest]
def zj(Q:Program)(t:TypeId)(parts:List (Nat×aa)):bh Q t parts=rH Q t (parts.map λp=>(p.1,p.2.cells)):=by
 unfold bh rH;simp only[vR];generalize cy Q t=z;generalize Q.underlying t=u;cases z with
 |none=>rfl
 |some z=>cases u with
  |none=>rfl
  |some d=>cases d<;>rfl
def cT(t:TypeId)(parts:List (Nat×aa)):bh P t parts=rH P t (parts.map λp=>(p.1,p.2.cells)):=zj P t parts
def T9:bT P 3=D false:=j
def UO:bu P 3=D 1:=j
def Uc:bT P 4=D false:=j
def US:bu P 4=D 1:=j
def AL{c:Bool}(a b:Bool):al P .eql 4 c (Z a) (Z b)=D (Z (a==b)):=j
def Gp{c:Bool}(a b:Bool):al P .neq 4 c (Z a) (Z b)=D (Z (!(a==b))):=j
def Ul:bT P 9=D false:=j
def U2:bu P 9=D 1:=j
def Gc{H:ae}{s:List UInt8}:aW P H .len [9] [X s]=D (I J s.length):=j
def TR:bT P 22=D false:=j
def Uz:bu P 22=D 1:=j
def DJ(l i n:Nat)(cap:Option Nat)(k:Int):aF P 22 (.ag l i n 2 cap) (I J k)=if 2=2/\0<=k/\k<n then D (.ptr l (i+k.toNat) 0)else none:=j
def DI{l i n:Nat}{cap:Option Nat}{k:Int}(a:0<=k)(b:k<n):aF P 22 (.ag l i n 2 cap) (I J k)=D (.ptr l (i+k.toNat) 0):=by rw[DJ,if_pos ⟨rfl,a,b⟩]
def FN{H:ae}{l i n e:Nat}{cap:Option Nat}:aW P H .len [22] [.ag l i n e cap]=D (I J n):=j
def FO{H:ae}:aW P H .len [22] [.ar]=D (I J 0):=j
def TS:bT P 23=D false:=j
def UA:bu P 23=D 1:=j
def DL(l i n:Nat)(cap:Option Nat)(k:Int):aF P 23 (.ag l i n 3 cap) (I J k)=if 3=3/\0<=k/\k<n then D (.ptr l (i+k.toNat) 0)else none:=j
def DK{l i n:Nat}{cap:Option Nat}{k:Int}(a:0<=k)(b:k<n):aF P 23 (.ag l i n 3 cap) (I J k)=D (.ptr l (i+k.toNat) 0):=by rw[DL,if_pos ⟨rfl,a,b⟩]
def FP{H:ae}{l i n e:Nat}{cap:Option Nat}:aW P H .len [23] [.ag l i n e cap]=D (I J n):=j
def FQ{H:ae}:aW P H .len [23] [.ar]=D (I J 0):=j
def TT:bT P 24=D false:=j
def UB:bu P 24=D 1:=j
def DN(l i n:Nat)(cap:Option Nat)(k:Int):aF P 24 (.ag l i n 7 cap) (I J k)=if 7=7/\0<=k/\k<n then D (.ptr l (i+k.toNat) 0)else none:=j
def DM{l i n:Nat}{cap:Option Nat}{k:Int}(a:0<=k)(b:k<n):aF P 24 (.ag l i n 7 cap) (I J k)=D (.ptr l (i+k.toNat) 0):=by rw[DN,if_pos ⟨rfl,a,b⟩]
def FR{H:ae}{l i n e:Nat}{cap:Option Nat}:aW P H .len [24] [.ag l i n e cap]=D (I J n):=j
def FZ{H:ae}:aW P H .len [24] [.ar]=D (I J 0):=j
def TZ:bT P 25=D false:=j
def UG:bu P 25=D 1:=j
def DV(l i n:Nat)(cap:Option Nat)(k:Int):aF P 25 (.ag l i n 4 cap) (I J k)=if 4=4/\0<=k/\k<n then D (.ptr l (i+k.toNat) 0)else none:=j
def DU{l i n:Nat}{cap:Option Nat}{k:Int}(a:0<=k)(b:k<n):aF P 25 (.ag l i n 4 cap) (I J k)=D (.ptr l (i+k.toNat) 0):=by rw[DV,if_pos ⟨rfl,a,b⟩]
def F0{H:ae}{l i n e:Nat}{cap:Option Nat}:aW P H .len [25] [.ag l i n e cap]=D (I J n):=j
def F1{H:ae}:aW P H .len [25] [.ar]=D (I J 0):=j
def T4:bT P 27=D true:=j
def UJ:bu P 27=D 5:=j
def Bd(l i c:Nat):ak P 27 (.ptr l i c) 0=D (.ptr l i (c+0)):=j
def CB(a0 a b a3 a4:aa):bp P 27 (.agg [a0,a,b,a3,a4]) 0=D a0:=j
def Be(l i c:Nat):ak P 27 (.ptr l i c) 1=D (.ptr l i (c+1)):=j
def CC(a0 a b a3 a4:aa):bp P 27 (.agg [a0,a,b,a3,a4]) 1=D a:=j
def Bf(l i c:Nat):ak P 27 (.ptr l i c) 2=D (.ptr l i (c+2)):=j
def CE(a0 b a a3 a4:aa):bp P 27 (.agg [a0,b,a,a3,a4]) 2=D a:=j
def Bg(l i c:Nat):ak P 27 (.ptr l i c) 3=D (.ptr l i (c+3)):=j
def CF(a0 a b a3 a4:aa):bp P 27 (.agg [a0,a,b,a3,a4]) 3=D a3:=j
def Bh(l i c:Nat):ak P 27 (.ptr l i c) 4=D (.ptr l i (c+4)):=j
def CG(a0 a b a3 a4:aa):bp P 27 (.agg [a0,a,b,a3,a4]) 4=D a4:=j
def T_:bT P 30=D false:=j
def UP:bu P 30=D 1:=j
def DZ(l i n:Nat)(cap:Option Nat)(k:Int):aF P 30 (.ag l i n 1 cap) (I J k)=if 1=1/\0<=k/\k<n then D (.ptr l (i+k.toNat) 0)else none:=j
def DY{l i n:Nat}{cap:Option Nat}{k:Int}(a:0<=k)(b:k<n):aF P 30 (.ag l i n 1 cap) (I J k)=D (.ptr l (i+k.toNat) 0):=by rw[DZ,if_pos ⟨rfl,a,b⟩]
def F4{H:ae}{l i n e:Nat}{cap:Option Nat}:aW P H .len [30] [.ag l i n e cap]=D (I J n):=j
def F5{H:ae}:aW P H .len [30] [.ar]=D (I J 0):=j
def Ua:bT P 31=D false:=j
def UQ:bu P 31=D 1:=j
def D1(l i n:Nat)(cap:Option Nat)(k:Int):aF P 31 (.ag l i n 1 cap) (I J k)=if 1=1/\0<=k/\k<n then D (.ptr l (i+k.toNat) 0)else none:=j
def D0{l i n:Nat}{cap:Option Nat}{k:Int}(a:0<=k)(b:k<n):aF P 31 (.ag l i n 1 cap) (I J k)=D (.ptr l (i+k.toNat) 0):=by rw[D1,if_pos ⟨rfl,a,b⟩]
def F6{H:ae}{l i n e:Nat}{cap:Option Nat}:aW P H .len [31] [.ag l i n e cap]=D (I J n):=j
def F7{H:ae}:aW P H .len [31] [.ar]=D (I J 0):=j
def Ub:bT P 33=D true:=j
def UR:bu P 33=D 4:=j
def Bq(l i c:Nat):ak P 33 (.ptr l i c) 0=D (.ptr l i (c+0)):=j
def CP(a0 a b a3:aa):bp P 33 (.agg [a0,a,b,a3]) 0=D a0:=j
def Br(l i c:Nat):ak P 33 (.ptr l i c) 1=D (.ptr l i (c+1)):=j
def CQ(a0 a b a3:aa):bp P 33 (.agg [a0,a,b,a3]) 1=D a:=j
def Bs(l i c:Nat):ak P 33 (.ptr l i c) 2=D (.ptr l i (c+2)):=j
def CR(a0 b a a3:aa):bp P 33 (.agg [a0,b,a,a3]) 2=D a:=j
def Bt(l i c:Nat):ak P 33 (.ptr l i c) 3=D (.ptr l i (c+3)):=j
def CS(a0 a b a3:aa):bp P 33 (.agg [a0,a,b,a3]) 3=D a3:=j
def Ud:bT P 46=D true:=j
def UT:bu P 46=D 3:=j
def Bu(l i c:Nat):ak P 46 (.ptr l i c) 0=D (.ptr l i (c+0)):=j
def CT(a0 a b:aa):bp P 46 (.agg [a0,a,b]) 0=D a0:=j
def Bv(l i c:Nat):ak P 46 (.ptr l i c) 1=D (.ptr l i (c+1)):=j
def CU(a0 a b:aa):bp P 46 (.agg [a0,a,b]) 1=D a:=j
def Bw(l i c:Nat):ak P 46 (.ptr l i c) 2=D (.ptr l i (c+2)):=j
def CV(a0 b a:aa):bp P 46 (.agg [a0,b,a]) 2=D a:=j
def Ue:bT P 47=D false:=j
def UU:bu P 47=D 1:=j
def D3(l i n:Nat)(cap:Option Nat)(k:Int):aF P 47 (.ag l i n 6 cap) (I J k)=if 6=6/\0<=k/\k<n then D (.ptr l (i+k.toNat) 0)else none:=j
def D2{l i n:Nat}{cap:Option Nat}{k:Int}(a:0<=k)(b:k<n):aF P 47 (.ag l i n 6 cap) (I J k)=D (.ptr l (i+k.toNat) 0):=by rw[D3,if_pos ⟨rfl,a,b⟩]
def F8{H:ae}{l i n e:Nat}{cap:Option Nat}:aW P H .len [47] [.ag l i n e cap]=D (I J n):=j
def F9{H:ae}:aW P H .len [47] [.ar]=D (I J 0):=j
def Uf:bT P 49=D true:=j
def UW:bu P 49=D 7:=j
def Bx(l i c:Nat):ak P 49 (.ptr l i c) 0=D (.ptr l i (c+0)):=j
def CW(a0 a b a3 a4 a5 c:aa):bp P 49 (.agg [a0,a,b,a3,a4,a5,c]) 0=D a0:=j
def By(l i c:Nat):ak P 49 (.ptr l i c) 1=D (.ptr l i (c+1)):=j
def CX(a0 a b a3 a4 a5 c:aa):bp P 49 (.agg [a0,a,b,a3,a4,a5,c]) 1=D a:=j
def Bz(l i c:Nat):ak P 49 (.ptr l i c) 2=D (.ptr l i (c+2)):=j
def CY(a0 b a a3 a4 a5 c:aa):bp P 49 (.agg [a0,b,a,a3,a4,a5,c]) 2=D a:=j
def BA(l i c:Nat):ak P 49 (.ptr l i c) 3=D (.ptr l i (c+3)):=j
def CZ(a0 a b a3 a4 a5 c:aa):bp P 49 (.agg [a0,a,b,a3,a4,a5,c]) 3=D (.agg [a3,a4,a5]):=j
def BB(l i c:Nat):ak P 49 (.ptr l i c) 4=D (.ptr l i (c+6)):=j
def C0(a0 b c a3 a4 a5 a:aa):bp P 49 (.agg [a0,b,c,a3,a4,a5,a]) 4=D a:=j
def Ug:bT P 53=D false:=j
def UX:bu P 53=D 1:=j
def D5(l i n:Nat)(cap:Option Nat)(k:Int):aF P 53 (.ag l i n 4 cap) (I J k)=if 4=4/\0<=k/\k<n then D (.ptr l (i+k.toNat) 0)else none:=j
def D4{l i n:Nat}{cap:Option Nat}{k:Int}(a:0<=k)(b:k<n):aF P 53 (.ag l i n 4 cap) (I J k)=D (.ptr l (i+k.toNat) 0):=by rw[D5,if_pos ⟨rfl,a,b⟩]
def F_{H:ae}{l i n e:Nat}{cap:Option Nat}:aW P H .len [53] [.ag l i n e cap]=D (I J n):=j
def Ga{H:ae}:aW P H .len [53] [.ar]=D (I J 0):=j
def Uh:bT P 56=D true:=j
def UY:bu P 56=D 4:=j
def BD(l i c:Nat):ak P 56 (.ptr l i c) 0=D (.ptr l i (c+0)):=j
def C1(a0 a b a3:aa):bp P 56 (.agg [a0,a,b,a3]) 0=D a0:=j
def BE(l i c:Nat):ak P 56 (.ptr l i c) 1=D (.ptr l i (c+1)):=j
def C2(a0 a b a3:aa):bp P 56 (.agg [a0,a,b,a3]) 1=D a:=j
def BF(l i c:Nat):ak P 56 (.ptr l i c) 2=D (.ptr l i (c+2)):=j
def C3(a0 b a a3:aa):bp P 56 (.agg [a0,b,a,a3]) 2=D a:=j
def BG(l i c:Nat):ak P 56 (.ptr l i c) 3=D (.ptr l i (c+3)):=j
def C4(a0 a b a3:aa):bp P 56 (.agg [a0,a,b,a3]) 3=D a3:=j
def Ui:bT P 76=D true:=j
def UZ:bu P 76=D 11:=j
def BH(l i c:Nat):ak P 76 (.ptr l i c) 0=D (.ptr l i (c+0)):=j
def C5(a0 a b a3 a4 a5 d e f a9 c:aa):bp P 76 (.agg [a0,a,b,a3,a4,a5,d,e,f,a9,c]) 0=D (.agg [a0,a,b,a3,a4]):=j
def BI(l i c:Nat):ak P 76 (.ptr l i c) 1=D (.ptr l i (c+5)):=j
def C6(a0 d f a3 a4 a5 a b c a9 e:aa):bp P 76 (.agg [a0,d,f,a3,a4,a5,a,b,c,a9,e]) 1=D (.agg [a5,a,b,c]):=j
def BJ(l i c:Nat):ak P 76 (.ptr l i c) 2=D (.ptr l i (c+9)):=j
def C7(a0 a c a3 a4 a5 d e f a9 b:aa):bp P 76 (.agg [a0,a,c,a3,a4,a5,d,e,f,a9,b]) 2=D a9:=j
def BK(l i c:Nat):ak P 76 (.ptr l i c) 3=D (.ptr l i (c+10)):=j
def C8(a0 b c a3 a4 a5 d e f a9 a:aa):bp P 76 (.agg [a0,b,c,a3,a4,a5,d,e,f,a9,a]) 3=D a:=j
def Uj:bT P 78=D true:=j
def U0:bu P 78=D 13:=j
def BL(l i c:Nat):ak P 78 (.ptr l i c) 0=D (.ptr l i (c+0)):=j
def C9(a0 a b a3 a4 a5 f g h a9 c d e:aa):bp P 78 (.agg [a0,a,b,a3,a4,a5,f,g,h,a9,c,d,e]) 0=D (.agg [a0,a,b,a3,a4]):=j
def BM(l i c:Nat):ak P 78 (.ptr l i c) 1=D (.ptr l i (c+5)):=j
def C_(a0 d h a3 a4 a5 a b c a9 e f g:aa):bp P 78 (.agg [a0,d,h,a3,a4,a5,a,b,c,a9,e,f,g]) 1=D (.agg [a5,a,b,c]):=j
def BN(l i c:Nat):ak P 78 (.ptr l i c) 2=D (.ptr l i (c+9)):=j
def Da(a0 a e a3 a4 a5 f g h a9 b c d:aa):bp P 78 (.agg [a0,a,e,a3,a4,a5,f,g,h,a9,b,c,d]) 2=D a9:=j
def BO(l i c:Nat):ak P 78 (.ptr l i c) 3=D (.ptr l i (c+10)):=j
def Db(a0 b e a3 a4 a5 f g h a9 a c d:aa):bp P 78 (.agg [a0,b,e,a3,a4,a5,f,g,h,a9,a,c,d]) 3=D a:=j
def BP(l i c:Nat):ak P 78 (.ptr l i c) 4=D (.ptr l i (c+11)):=j
def Dc(a0 b e a3 a4 a5 f g h a9 c a d:aa):bp P 78 (.agg [a0,b,e,a3,a4,a5,f,g,h,a9,c,a,d]) 4=D a:=j
def BQ(l i c:Nat):ak P 78 (.ptr l i c) 5=D (.ptr l i (c+12)):=j
def Dd(a0 b e a3 a4 a5 f g h a9 c d a:aa):bp P 78 (.agg [a0,b,e,a3,a4,a5,f,g,h,a9,c,d,a]) 5=D a:=j
def Uk:bT P 89=D true:=j
def U1:bu P 89=D 6:=j
def BR(l i c:Nat):ak P 89 (.ptr l i c) 0=D (.ptr l i (c+0)):=j
def De(a0 a b a3 a4 a5:aa):bp P 89 (.agg [a0,a,b,a3,a4,a5]) 0=D a0:=j
def BS(l i c:Nat):ak P 89 (.ptr l i c) 1=D (.ptr l i (c+1)):=j
def Df(a0 a b a3 a4 a5:aa):bp P 89 (.agg [a0,a,b,a3,a4,a5]) 1=D a:=j
def BT(l i c:Nat):ak P 89 (.ptr l i c) 2=D (.ptr l i (c+2)):=j
def Dg(a0 b a a3 a4 a5:aa):bp P 89 (.agg [a0,b,a,a3,a4,a5]) 2=D a:=j
def BU(l i c:Nat):ak P 89 (.ptr l i c) 3=D (.ptr l i (c+3)):=j
def Dh(a0 a b a3 a4 a5:aa):bp P 89 (.agg [a0,a,b,a3,a4,a5]) 3=D a3:=j
def BV(l i c:Nat):ak P 89 (.ptr l i c) 4=D (.ptr l i (c+4)):=j
def Di(a0 a b a3 a4 a5:aa):bp P 89 (.agg [a0,a,b,a3,a4,a5]) 4=D a4:=j
def BW(l i c:Nat):ak P 89 (.ptr l i c) 5=D (.ptr l i (c+5)):=j
def Dj(a0 a b a3 a4 a5:aa):bp P 89 (.agg [a0,a,b,a3,a4,a5]) 5=D a5:=j
def Um:bT P 93=D false:=j
def U3:bu P 93=D 1:=j
def D7(l i n:Nat)(cap:Option Nat)(k:Int):aF P 93 (.ag l i n 4 cap) (I J k)=if 4=4/\0<=k/\k<n then D (.ptr l (i+k.toNat) 0)else none:=j
def D6{l i n:Nat}{cap:Option Nat}{k:Int}(a:0<=k)(b:k<n):aF P 93 (.ag l i n 4 cap) (I J k)=D (.ptr l (i+k.toNat) 0):=by rw[D7,if_pos ⟨rfl,a,b⟩]
def Gd{H:ae}{l i n e:Nat}{cap:Option Nat}:aW P H .len [93] [.ag l i n e cap]=D (I J n):=j
def Ge{H:ae}:aW P H .len [93] [.ar]=D (I J 0):=j
def Un:bT P 95=D true:=j
def U4:bu P 95=D 2:=j
def BX(l i c:Nat):ak P 95 (.ptr l i c) 0=D (.ptr l i (c+0)):=j
def Dk(a0 a:aa):bp P 95 (.agg [a0,a]) 0=D a0:=j
def BY(l i c:Nat):ak P 95 (.ptr l i c) 1=D (.ptr l i (c+1)):=j
def Dl(a0 a:aa):bp P 95 (.agg [a0,a]) 1=D a:=j
def Uo:bT P 98=D true:=j
def U5:bu P 98=D 4:=j
def BZ(l i c:Nat):ak P 98 (.ptr l i c) 0=D (.ptr l i (c+0)):=j
def Dm(a0 a b a3:aa):bp P 98 (.agg [a0,a,b,a3]) 0=D a0:=j
def B0(l i c:Nat):ak P 98 (.ptr l i c) 1=D (.ptr l i (c+1)):=j
def Dn(a0 a b a3:aa):bp P 98 (.agg [a0,a,b,a3]) 1=D (.agg [a,b,a3]):=j
def TI:bT P 100=D true:=j
def Uq:bu P 100=D 4:=j
def AR(l i c:Nat):ak P 100 (.ptr l i c) 0=D (.ptr l i (c+0)):=j
def Ce(a0 a b a3:aa):bp P 100 (.agg [a0,a,b,a3]) 0=D a0:=j
def AS(l i c:Nat):ak P 100 (.ptr l i c) 1=D (.ptr l i (c+1)):=j
def Cf(a0 a b a3:aa):bp P 100 (.agg [a0,a,b,a3]) 1=D (.agg [a,b,a3]):=j
def TJ:bT P 104=D false:=j
def Ur:bu P 104=D 1:=j
def Dy(l i n:Nat)(cap:Option Nat)(k:Int):aF P 104 (.ag l i n 1 cap) (I J k)=if 1=1/\0<=k/\k<n then D (.ptr l (i+k.toNat) 0)else none:=j
def Dx{l i n:Nat}{cap:Option Nat}{k:Int}(a:0<=k)(b:k<n):aF P 104 (.ag l i n 1 cap) (I J k)=D (.ptr l (i+k.toNat) 0):=by rw[Dy,if_pos ⟨rfl,a,b⟩]
def FC{H:ae}{l i n e:Nat}{cap:Option Nat}:aW P H .len [104] [.ag l i n e cap]=D (I J n):=j
def FD{H:ae}:aW P H .len [104] [.ar]=D (I J 0):=j
def TK:bT P 152=D false:=j
def Us:bu P 152=D 1:=j
def DA(l i n:Nat)(cap:Option Nat)(k:Int):aF P 152 (.ag l i n 1 cap) (I J k)=if 1=1/\0<=k/\k<n then D (.ptr l (i+k.toNat) 0)else none:=j
def Dz{l i n:Nat}{cap:Option Nat}{k:Int}(a:0<=k)(b:k<n):aF P 152 (.ag l i n 1 cap) (I J k)=D (.ptr l (i+k.toNat) 0):=by rw[DA,if_pos ⟨rfl,a,b⟩]
def FE{H:ae}{l i n e:Nat}{cap:Option Nat}:aW P H .len [152] [.ag l i n e cap]=D (I J n):=j
def FF{H:ae}:aW P H .len [152] [.ar]=D (I J 0):=j
def TL:bT P 154=D true:=j
def Ut:bu P 154=D 2:=j
def AT(l i c:Nat):ak P 154 (.ptr l i c) 0=D (.ptr l i (c+0)):=j
def Cg(a0 a:aa):bp P 154 (.agg [a0,a]) 0=D a0:=j
def AU(l i c:Nat):ak P 154 (.ptr l i c) 1=D (.ptr l i (c+1)):=j
def Ch(a0 a:aa):bp P 154 (.agg [a0,a]) 1=D a:=j
def TM:bT P 196=D true:=j
def Uu:bu P 196=D 12:=j
def AV(l i c:Nat):ak P 196 (.ptr l i c) 0=D (.ptr l i (c+0)):=j
def Ci(a0 a b a3 a4 a5 c f g a9 d e:aa):bp P 196 (.agg [a0,a,b,a3,a4,a5,c,f,g,a9,d,e]) 0=D (.agg [a0,a,b,a3,a4,a5,c]):=j
def AW(l i c:Nat):ak P 196 (.ptr l i c) 1=D (.ptr l i (c+7)):=j
def Cj(a0 b e a3 a4 a5 f a g a9 c d:aa):bp P 196 (.agg [a0,b,e,a3,a4,a5,f,a,g,a9,c,d]) 1=D a:=j
def AX(l i c:Nat):ak P 196 (.ptr l i c) 2=D (.ptr l i (c+8)):=j
def Ck(a0 b e a3 a4 a5 f g a a9 c d:aa):bp P 196 (.agg [a0,b,e,a3,a4,a5,f,g,a,a9,c,d]) 2=D a:=j
def AY(l i c:Nat):ak P 196 (.ptr l i c) 3=D (.ptr l i (c+9)):=j
def Cl(a0 a d a3 a4 a5 e f g a9 b c:aa):bp P 196 (.agg [a0,a,d,a3,a4,a5,e,f,g,a9,b,c]) 3=D a9:=j
def AZ(l i c:Nat):ak P 196 (.ptr l i c) 4=D (.ptr l i (c+10)):=j
def Cm(a0 b d a3 a4 a5 e f g a9 a c:aa):bp P 196 (.agg [a0,b,d,a3,a4,a5,e,f,g,a9,a,c]) 4=D a:=j
def A0(l i c:Nat):ak P 196 (.ptr l i c) 5=D (.ptr l i (c+11)):=j
def Cn(a0 b d a3 a4 a5 e f g a9 c a:aa):bp P 196 (.agg [a0,b,d,a3,a4,a5,e,f,g,a9,c,a]) 5=D a:=j
def TN:bT P 198=D false:=j
def Uv:bu P 198=D 1:=j
def DC(l i n:Nat)(cap:Option Nat)(k:Int):aF P 198 (.ag l i n 1 cap) (I J k)=if 1=1/\0<=k/\k<n then D (.ptr l (i+k.toNat) 0)else none:=j
def DB{l i n:Nat}{cap:Option Nat}{k:Int}(a:0<=k)(b:k<n):aF P 198 (.ag l i n 1 cap) (I J k)=D (.ptr l (i+k.toNat) 0):=by rw[DC,if_pos ⟨rfl,a,b⟩]
def FH{H:ae}{l i n e:Nat}{cap:Option Nat}:aW P H .len [198] [.ag l i n e cap]=D (I J n):=j
def FI{H:ae}:aW P H .len [198] [.ar]=D (I J 0):=j
def TO:bT P 203=D false:=j
def Uw:bu P 203=D 1:=j
def DF(l i n:Nat)(cap:Option Nat)(k:Int):aF P 203 (.ag l i n 1 cap) (I J k)=if 1=1/\0<=k/\k<n then D (.ptr l (i+k.toNat) 0)else none:=j
def DD{l i n:Nat}{cap:Option Nat}{k:Int}(a:0<=k)(b:k<n):aF P 203 (.ag l i n 1 cap) (I J k)=D (.ptr l (i+k.toNat) 0):=by rw[DF,if_pos ⟨rfl,a,b⟩]
def FJ{H:ae}{l i n e:Nat}{cap:Option Nat}:aW P H .len [203] [.ag l i n e cap]=D (I J n):=j
def FK{H:ae}:aW P H .len [203] [.ar]=D (I J 0):=j
def TP:bT P 204=D false:=j
def Ux:bu P 204=D 1:=j
def DH(l i n:Nat)(cap:Option Nat)(k:Int):aF P 204 (.ag l i n 1 cap) (I J k)=if 1=1/\0<=k/\k<n then D (.ptr l (i+k.toNat) 0)else none:=j
def DG{l i n:Nat}{cap:Option Nat}{k:Int}(a:0<=k)(b:k<n):aF P 204 (.ag l i n 1 cap) (I J k)=D (.ptr l (i+k.toNat) 0):=by rw[DH,if_pos ⟨rfl,a,b⟩]
def FL{H:ae}{l i n e:Nat}{cap:Option Nat}:aW P H .len [204] [.ag l i n e cap]=D (I J n):=j
def FM{H:ae}:aW P H .len [204] [.ar]=D (I J 0):=j
def TQ:bT P 206=D true:=j
def Uy:bu P 206=D 3:=j
def A1(l i c:Nat):ak P 206 (.ptr l i c) 0=D (.ptr l i (c+0)):=j
def Co(a0 a b:aa):bp P 206 (.agg [a0,a,b]) 0=D a0:=j
def A2(l i c:Nat):ak P 206 (.ptr l i c) 1=D (.ptr l i (c+1)):=j
def Cp(a0 a b:aa):bp P 206 (.agg [a0,a,b]) 1=D a:=j
def A3(l i c:Nat):ak P 206 (.ptr l i c) 2=D (.ptr l i (c+2)):=j
def Cq(a0 b a:aa):bp P 206 (.agg [a0,b,a]) 2=D a:=j
def TV:bT P 243=D false:=j
def UC:bu P 243=D 1:=j
def DP(l i n:Nat)(cap:Option Nat)(k:Int):aF P 243 (.ag l i n 1 cap) (I J k)=if 1=1/\0<=k/\k<n then D (.ptr l (i+k.toNat) 0)else none:=j
def DO{l i n:Nat}{cap:Option Nat}{k:Int}(a:0<=k)(b:k<n):aF P 243 (.ag l i n 1 cap) (I J k)=D (.ptr l (i+k.toNat) 0):=by rw[DP,if_pos ⟨rfl,a,b⟩]
def FT{H:ae}{l i n e:Nat}{cap:Option Nat}:aW P H .len [243] [.ag l i n e cap]=D (I J n):=j
def FU{H:ae}:aW P H .len [243] [.ar]=D (I J 0):=j
def TW:bT P 244=D false:=j
def UD:bu P 244=D 1:=j
def DR(l i n:Nat)(cap:Option Nat)(k:Int):aF P 244 (.ag l i n 1 cap) (I J k)=if 1=1/\0<=k/\k<n then D (.ptr l (i+k.toNat) 0)else none:=j
def DQ{l i n:Nat}{cap:Option Nat}{k:Int}(a:0<=k)(b:k<n):aF P 244 (.ag l i n 1 cap) (I J k)=D (.ptr l (i+k.toNat) 0):=by rw[DR,if_pos ⟨rfl,a,b⟩]
def FV{H:ae}{l i n e:Nat}{cap:Option Nat}:aW P H .len [244] [.ag l i n e cap]=D (I J n):=j
def FW{H:ae}:aW P H .len [244] [.ar]=D (I J 0):=j
def TX:bT P 246=D false:=j
def UE:bu P 246=D 1:=j
def DT(l i n:Nat)(cap:Option Nat)(k:Int):aF P 246 (.ag l i n 1 cap) (I J k)=if 1=1/\0<=k/\k<n then D (.ptr l (i+k.toNat) 0)else none:=j
def DS{l i n:Nat}{cap:Option Nat}{k:Int}(a:0<=k)(b:k<n):aF P 246 (.ag l i n 1 cap) (I J k)=D (.ptr l (i+k.toNat) 0):=by rw[DT,if_pos ⟨rfl,a,b⟩]
def FX{H:ae}{l i n e:Nat}{cap:Option Nat}:aW P H .len [246] [.ag l i n e cap]=D (I J n):=j
def FY{H:ae}:aW P H .len [246] [.ar]=D (I J 0):=j
def TY:bT P 248=D true:=j
def UF:bu P 248=D 9:=j
def A4(l i c:Nat):ak P 248 (.ptr l i c) 0=D (.ptr l i (c+0)):=j
def Cr(a0 a b a3 a4 a5 c d e:aa):bp P 248 (.agg [a0,a,b,a3,a4,a5,c,d,e]) 0=D a0:=j
def A5(l i c:Nat):ak P 248 (.ptr l i c) 1=D (.ptr l i (c+1)):=j
def Cs(a0 a b a3 a4 a5 c d e:aa):bp P 248 (.agg [a0,a,b,a3,a4,a5,c,d,e]) 1=D a:=j
def A6(l i c:Nat):ak P 248 (.ptr l i c) 2=D (.ptr l i (c+2)):=j
def Ct(a0 b a a3 a4 a5 c d e:aa):bp P 248 (.agg [a0,b,a,a3,a4,a5,c,d,e]) 2=D a:=j
def A7(l i c:Nat):ak P 248 (.ptr l i c) 3=D (.ptr l i (c+3)):=j
def Cu(a0 a b a3 a4 a5 c d e:aa):bp P 248 (.agg [a0,a,b,a3,a4,a5,c,d,e]) 3=D a3:=j
def A8(l i c:Nat):ak P 248 (.ptr l i c) 4=D (.ptr l i (c+4)):=j
def Cv(a0 a b a3 a4 a5 c d e:aa):bp P 248 (.agg [a0,a,b,a3,a4,a5,c,d,e]) 4=D a4:=j
def A9(l i c:Nat):ak P 248 (.ptr l i c) 5=D (.ptr l i (c+5)):=j
def Cw(a0 a b a3 a4 a5 c d e:aa):bp P 248 (.agg [a0,a,b,a3,a4,a5,c,d,e]) 5=D a5:=j
def A_(l i c:Nat):ak P 248 (.ptr l i c) 6=D (.ptr l i (c+6)):=j
def Cx(a0 b c a3 a4 a5 a d e:aa):bp P 248 (.agg [a0,b,c,a3,a4,a5,a,d,e]) 6=D a:=j
def Ba(l i c:Nat):ak P 248 (.ptr l i c) 7=D (.ptr l i (c+7)):=j
def Cy(a0 b c a3 a4 a5 d a e:aa):bp P 248 (.agg [a0,b,c,a3,a4,a5,d,a,e]) 7=D a:=j
def Bb(l i c:Nat):ak P 248 (.ptr l i c) 8=D (.ptr l i (c+8)):=j
def Cz(a0 b c a3 a4 a5 d e a:aa):bp P 248 (.agg [a0,b,c,a3,a4,a5,d,e,a]) 8=D a:=j
def T0:bT P 251=D false:=j
def UH:bu P 251=D 1:=j
def T3:bT P 262=D true:=j
def UI:bu P 262=D 1:=j
def Bc(l i c:Nat):ak P 262 (.ptr l i c) 0=D (.ptr l i (c+0)):=j
def CA(a0:aa):bp P 262 (.agg [a0]) 0=D a0:=j
def T5:bT P 280=D true:=j
def UK:bu P 280=D 19:=j
def Bi(l i c:Nat):ak P 280 (.ptr l i c) 0=D (.ptr l i (c+0)):=j
def CH(a0 a b a3 a4 a5 m n o a9 c d e f g h i k l:aa):bp P 280 (.agg [a0,a,b,a3,a4,a5,m,n,o,a9,c,d,e,f,g,h,i,k,l]) 0=D (.agg [a0,a,b,a3,a4]):=j
def Bj(l i c:Nat):ak P 280 (.ptr l i c) 1=D (.ptr l i (c+5)):=j
def CI(a0 a l a3 a4 a5 m n o a9 b c d e f g h i k:aa):bp P 280 (.agg [a0,a,l,a3,a4,a5,m,n,o,a9,b,c,d,e,f,g,h,i,k]) 1=D a5:=j
def Bk(l i c:Nat):ak P 280 (.ptr l i c) 2=D (.ptr l i (c+6)):=j
def CJ(a0 g o a3 a4 a5 d e f a9 a b c h i k l m n:aa):bp P 280 (.agg [a0,g,o,a3,a4,a5,d,e,f,a9,a,b,c,h,i,k,l,m,n]) 2=D (.agg [d,e,f,a9,a,b,c]):=j
def Bl(l i c:Nat):ak P 280 (.ptr l i c) 3=D (.ptr l i (c+13)):=j
def CK(a0 g l a3 a4 a5 m n o a9 h i k a b c d e f:aa):bp P 280 (.agg [a0,g,l,a3,a4,a5,m,n,o,a9,h,i,k,a,b,c,d,e,f]) 3=D (.agg [a,b,c,d,e,f]):=j
def T6:bT P 284=D false:=j
def UL:bu P 284=D 1:=j
def DX(l i n:Nat)(cap:Option Nat)(k:Int):aF P 284 (.ag l i n 3 cap) (I J k)=if 3=3/\0<=k/\k<n then D (.ptr l (i+k.toNat) 0)else none:=j
def DW{l i n:Nat}{cap:Option Nat}{k:Int}(a:0<=k)(b:k<n):aF P 284 (.ag l i n 3 cap) (I J k)=D (.ptr l (i+k.toNat) 0):=by rw[DX,if_pos ⟨rfl,a,b⟩]
def F2{H:ae}{l i n e:Nat}{cap:Option Nat}:aW P H .len [284] [.ag l i n e cap]=D (I J n):=j
def F3{H:ae}:aW P H .len [284] [.ar]=D (I J 0):=j
def T7:bT P 286=D true:=j
def UM:bu P 286=D 3:=j
def Bm(l i c:Nat):ak P 286 (.ptr l i c) 0=D (.ptr l i (c+0)):=j
def CL(a0 a b:aa):bp P 286 (.agg [a0,a,b]) 0=D a0:=j
def Bn(l i c:Nat):ak P 286 (.ptr l i c) 1=D (.ptr l i (c+1)):=j
def CM(a0 a b:aa):bp P 286 (.agg [a0,a,b]) 1=D a:=j
def Bo(l i c:Nat):ak P 286 (.ptr l i c) 2=D (.ptr l i (c+2)):=j
def CN(a0 b a:aa):bp P 286 (.agg [a0,b,a]) 2=D a:=j
def T8:bT P 292=D true:=j
def UN:bu P 292=D 1:=j
def Bp(l i c:Nat):ak P 292 (.ptr l i c) 0=D (.ptr l i (c+0)):=j
def CO(a0:aa):bp P 292 (.agg [a0]) 0=D a0:=j
def Aq{a0:aa}{a:aa}{b:aa}(c:a0.one=V)(d:a.one=V)(e:b.one=V):bh P 56 [(0,a0),(1,a),(2,b)]=D (.agg [a0,a,b,I J 0]):=by
 rw[cT];simp only[List.map_cons,List.map_nil,b1 c,b1 d,b1 e];kernel_rfl
def As{a:aa}{b:aa}{c:aa}{d:aa}{e:aa}{f:aa}{g:aa}{h:aa}{i:aa}:bh P 76 [(0,.agg [a,b,c,d,e]),(1,.agg [f,g,h,i])]=D (.agg [a,b,c,d,e,f,g,h,i,aa.ar,aa.ar]):=by
 rw[cT];simp only[List.map_cons,List.map_nil];kernel_rfl
def Au{a:aa}{b:aa}{c:aa}{d:aa}{e:aa}{f:aa}{g:aa}{h:aa}{i:aa}:bh P 78 [(0,.agg [a,b,c,d,e]),(1,.agg [f,g,h,i])]=D (.agg [a,b,c,d,e,f,g,h,i,aa.ar,aa.ar,aa.ar,aa.ar]):=by
 rw[cT];simp only[List.map_cons,List.map_nil];kernel_rfl
def Af{a:aa}{a3:aa}{a4:aa}(b:a.one=V)(c:a3.one=V)(d:a4.one=V):bh P 196 [(1,a),(3,a3),(4,a4)]=D (.agg [I J 0,aa.ar,Z U,I J 0,I J 0,I J 0,aa.ar,a,I J 0,a3,a4,aa.ar]):=by
 rw[cT];simp only[List.map_cons,List.map_nil,b1 b,b1 c,b1 d];kernel_rfl
def Ag{a:aa}(b:a.one=V):bh P 206 [(2,a)]=D (.agg [aa.ar,aa.ar,a]):=by
 rw[cT];simp only[List.map_cons,List.map_nil,b1 b];kernel_rfl
def An{a:aa}(b:a.one=V):bh P 33 [(1,a)]=D (.agg [I J 0,a,aa.ar,aa.ar]):=by
 rw[cT];simp only[List.map_cons,List.map_nil,b1 b];kernel_rfl
def Ao{a0:aa}(a:a0.one=V):bh P 46 [(0,a0)]=D (.agg [a0,I J 0,I J 0]):=by
 rw[cT];simp only[List.map_cons,List.map_nil,b1 a];kernel_rfl
def Ap{a0:aa}{a:aa}{b:aa}(c:a0.one=V)(d:a.one=V)(e:b.one=V):bh P 46 [(0,a0),(1,a),(2,b)]=D (.agg [a0,a,b]):=by
 rw[cT];simp only[List.map_cons,List.map_nil,b1 c,b1 d,b1 e];kernel_rfl
def Ar{a0:aa}{a:aa}{b:aa}{a3:aa}(c:a0.one=V)(d:a.one=V)(e:b.one=V)(f:a3.one=V):bh P 56 [(0,a0),(1,a),(2,b),(3,a3)]=D (.agg [a0,a,b,a3]):=by
 rw[cT];simp only[List.map_cons,List.map_nil,b1 c,b1 d,b1 e,b1 f];kernel_rfl
def Ah{a0:aa}{a:aa}{b:aa}{a3:aa}{a4:aa}{a5:aa}{c:aa}{d:aa}(e:a0.one=V)(f:a.one=V)(g:b.one=V)(h:a3.one=V)(i:a4.one=V)(j:a5.one=V)(k:c.one=V)(l:d.one=V):bh P 248 [(0,a0),(1,a),(2,b),(3,a3),(4,a4),(5,a5),(6,c),(8,d)]=D (.agg [a0,a,b,a3,a4,a5,c,aa.ar,d]):=by
 rw[cT];simp only[List.map_cons,List.map_nil,b1 e,b1 f,b1 g,b1 h,b1 i,b1 j,b1 k,b1 l];kernel_rfl
def Ae{a0:aa}{a:aa}(b:a0.one=V)(c:a.one=V):bh P 154 [(0,a0),(1,a)]=D (.agg [a0,a]):=by
 rw[cT];simp only[List.map_cons,List.map_nil,b1 b,b1 c];kernel_rfl
def Am{a0:aa}{a:aa}(b:a0.one=V)(c:a.one=V):bh P 33 [(0,a0),(1,a)]=D (.agg [a0,a,aa.ar,aa.ar]):=by
 rw[cT];simp only[List.map_cons,List.map_nil,b1 b,b1 c];kernel_rfl
def Ai{b:aa}{c:aa}{d:aa}{e:aa}{f:aa}{a:aa}{g:aa}{h:aa}{i:aa}{j:aa}{k:aa}{l:aa}{m:aa}{n:aa}{o:aa}{p:aa}{q:aa}{r:aa}{s:aa}(t:a.one=V):bh P 280 [(0,.agg [b,c,d,e,f]),(1,a),(2,.agg [g,h,i,j,k,l,m]),(3,.agg [n,o,p,q,r,s])]=D (.agg [b,c,d,e,f,a,g,h,i,j,k,l,m,n,o,p,q,r,s]):=by
 rw[cT];simp only[List.map_cons,List.map_nil,b1 t];kernel_rfl
def Aj{a0:aa}{a:aa}{b:aa}(c:a0.one=V)(d:a.one=V)(e:b.one=V):bh P 286 [(0,a0),(1,a),(2,b)]=D (.agg [a0,a,b]):=by
 rw[cT];simp only[List.map_cons,List.map_nil,b1 c,b1 d,b1 e];kernel_rfl
def Ak{a0:aa}(a:a0.one=V):bh P 292 [(0,a0)]=D (.agg [a0]):=by
 rw[cT];simp only[List.map_cons,List.map_nil,b1 a];kernel_rfl
def Al{a0:aa}{a:aa}(b:a0.one=V)(c:a.one=V):bh P 312 [(0,a0),(1,a)]=D (.agg [a0,a]):=by
 rw[cT];simp only[List.map_cons,List.map_nil,b1 b,b1 c];kernel_rfl
section
set_option linter.defProp false
def xZ:=aC @ae.dO @ae.nF
def AN:=aC (aC (aC (aC (aC @Vx @Vq) (aC @vI (aC @J0 @J1))) (aC (aC @J2 @Vh) (aC @Vu (aC @Vt @Vs)))) (aC (aC (aC @Vi @zS) (aC @Vp (aC @Vr @Vo))) (aC (aC @Vk (aC @Vn @Vl)) (aC @Vm (aC @Vj @JV))))) (aC (aC (aC (aC @JU @z7) (aC @zc (aC @zd @ze))) (aC (aC @y8 @y9) (aC @y_ (aC @za @y6)))) (aC (aC (aC @zb @y7) (aC @Option.bind_some.{0,0} (aC @eo @gw))) (aC (aC @zw (aC @J4 @J7)) (aC @J3 (aC @J6 @J5)))))
def Gg:=aC (aC (aC (aC (aC @List.getElem?_cons_zero.{0} @List.getElem?_cons_succ.{0}) (aC @List.drop_zero.{0} @List.drop_succ_cons.{0})) (aC (aC @List.take_succ_cons.{0} @List.take_zero.{0}) (aC @List.set_cons_zero.{0} @List.set_cons_succ.{0}))) (aC (aC (aC @List.cons_append.{0} @List.nil_append.{0}) (aC @List.length_cons.{0} @List.length_nil.{0})) (aC (aC @List.all_cons.{0} @List.all_nil.{0}) (aC @Bool.and_true @Bool.and_self)))) (aC (aC (aC (aC @Nat.zero_add @Nat.add_zero) (aC @bM @and_self)) (aC (aC @and_true @true_and) (aC @if_true.{1} @aV))) (aC (aC (aC @x7 @yc) (aC @x5 @yb)) (aC (aC @x_ @ya) (aC @x6 (aC @x8 @x9)))))
def U6:=aC (aC (aC (aC (aC (aC @T9 @Uc) (aC @Ul (aC @TR @TS))) (aC (aC @TT @TZ) (aC @T4 (aC @T_ @Ua)))) (aC (aC (aC @Ub @Ud) (aC @Ue (aC @Uf @Ug))) (aC (aC @Uh @Ui) (aC @Uj (aC @Uk @Um))))) (aC (aC (aC (aC @Un @Uo) (aC @TI (aC @TJ @TK))) (aC (aC @TL @TM) (aC @TN (aC @TO @TP)))) (aC (aC (aC @TQ @TV) (aC @TW (aC @TX @TY))) (aC (aC @T0 (aC @T3 @T5)) (aC @T6 (aC @T7 @T8)))))) (aC (aC (aC (aC (aC @UO @US) (aC @U2 (aC @Uz @UA))) (aC (aC @UB @UG) (aC @UJ (aC @UP @UQ)))) (aC (aC (aC @UR @UT) (aC @UU (aC @UW @UX))) (aC (aC @UY @UZ) (aC @U0 (aC @U1 @U3))))) (aC (aC (aC (aC @U4 @U5) (aC @Uq (aC @Ur @Us))) (aC (aC @Ut @Uu) (aC @Uv (aC @Uw @Ux)))) (aC (aC (aC @Uy @UC) (aC @UD (aC @UE @UF))) (aC (aC @UH (aC @UI @UK)) (aC @UL (aC @UM @UN))))))
def rZ:=aC (aC (aC @B2 (aC @Cb @B4)) (aC @B9 (aC @B8 @B7))) (aC (aC @B6 (aC @B5 @B_)) (aC @Ca (aC @AL @Gp)))
def Du:=aC (aC (aC @ae.Dt @ae.cn) (aC @ae.dn @ae.cx)) (aC (aC @ae.dO @ae.nF) (aC @ae.JZ @ae.set_set))
def Av:=aC (aC (aC (aC @Aq @As) (aC @Au @Af)) (aC (aC @Ag @An) (aC @Ao @Ap))) (aC (aC (aC @Ar @Ah) (aC @Ae @Am)) (aC (aC @Ai @Aj) (aC @Ak @Al)))
def B1:=aC (aC (aC (aC (aC (aC @Bd @Be) (aC @Bf @Bg)) (aC (aC @Bh @Bq) (aC @Br (aC @Bs @Bt)))) (aC (aC (aC @Bu @Bv) (aC @Bw @Bx)) (aC (aC @By @Bz) (aC @BA (aC @BB @BD))))) (aC (aC (aC (aC @BE @BF) (aC @BG @BH)) (aC (aC @BI @BJ) (aC @BK (aC @BL @BM)))) (aC (aC (aC @BN @BO) (aC @BP @BQ)) (aC (aC @BR @BS) (aC @BT (aC @BU @BV)))))) (aC (aC (aC (aC (aC @BW @BX) (aC @BY @BZ)) (aC (aC @B0 @AR) (aC @AS (aC @AT @AU)))) (aC (aC (aC @AV @AW) (aC @AX @AY)) (aC (aC @AZ @A0) (aC @A1 (aC @A2 @A3))))) (aC (aC (aC (aC @A4 @A5) (aC @A6 @A7)) (aC (aC @A8 @A9) (aC @A_ (aC @Ba @Bb)))) (aC (aC (aC @Bc @Bi) (aC @Bj @Bk)) (aC (aC @Bl @Bm) (aC @Bn (aC @Bo @Bp))))))
def Dp:=aC (aC (aC (aC (aC (aC @CB @CC) (aC @CE @CF)) (aC (aC @CG @CP) (aC @CQ (aC @CR @CS)))) (aC (aC (aC @CT @CU) (aC @CV @CW)) (aC (aC @CX @CY) (aC @CZ (aC @C0 @C1))))) (aC (aC (aC (aC @C2 @C3) (aC @C4 @C5)) (aC (aC @C6 @C7) (aC @C8 (aC @C9 @C_)))) (aC (aC (aC @Da @Db) (aC @Dc @Dd)) (aC (aC @De @Df) (aC @Dg (aC @Dh @Di)))))) (aC (aC (aC (aC (aC @Dj @Dk) (aC @Dl @Dm)) (aC (aC @Dn @Ce) (aC @Cf (aC @Cg @Ch)))) (aC (aC (aC @Ci @Cj) (aC @Ck @Cl)) (aC (aC @Cm @Cn) (aC @Co (aC @Cp @Cq))))) (aC (aC (aC (aC @Cr @Cs) (aC @Ct @Cu)) (aC (aC @Cv @Cw) (aC @Cx (aC @Cy @Cz)))) (aC (aC (aC @CA @CH) (aC @CI @CJ)) (aC (aC @CK @CL) (aC @CM (aC @CN @CO))))))
def Gf:=aC (aC (aC (aC (aC @Gc @FN) (aC @FO @FP)) (aC (aC @FQ @FR) (aC @FZ (aC @F0 @F1)))) (aC (aC (aC @F4 @F5) (aC @F6 @F7)) (aC (aC @F8 @F9) (aC @F_ (aC @Ga @Gd))))) (aC (aC (aC (aC @Ge @FC) (aC @FD @FE)) (aC (aC @FF @FH) (aC @FI (aC @FJ @FK)))) (aC (aC (aC @FL @FM) (aC @FT (aC @FU @FV))) (aC (aC @FW @FX) (aC @FY (aC @F2 @F3)))))
def D8:=aC (aC (aC (aC @DI @DK) (aC @DM @DU)) (aC (aC @DY @D0) (aC @D2 (aC @D4 @D6)))) (aC (aC (aC @Dx @Dz) (aC @DB @DD)) (aC (aC @DG @DO) (aC @DQ (aC @DS @DW))))
def zF:=aC AN (aC Gg (aC U6 (aC rZ (aC Du (aC Av (aC B1 (aC Dp (aC Gf D8))))))))
def x4:=aC (aC (aC @x7 @yc) (aC @x5 @yb)) (aC (aC @x_ @ya) (aC @x6 (aC @x8 @x9)))
def wB{p:Prop}(h:p:=by first|assumption|omega|(simp only[xZ];omega)|(simp only[x4];done)|fail):p:=h
def VA{p:Prop}(h:p:=by first|assumption|omega|(simp only[xZ];omega)|(simp only[x4];done)|(simp only[List.length_append,List.length_cons,List.length_nil];omega)|fail):p:=h
def AG:(∀cs,(aa.agg cs).cells=cs)/\(∀b,(aa.bool b).cells=[Z b])/\(∀k n,(aa.int k n).cells=[.int k n])/\(∀s,(aa.str s).cells=[X s])/\(∀l i c,(aa.ptr l i c).cells=[.ptr l i c])/\aa.cq.cells=[.cq]/\(∀l i n e c,(aa.ag l i n e c).cells=[.ag l i n e c])/\aa.ar.cells=[.ar]/\(∀f a b,(aa.func f a b).cells=[.func f a b])/\aa.nilFunc.cells=[.nilFunc]/\aa.nilIface.cells=[.nilIface]:=
 ⟨λ_=>rfl,λ_=>rfl,λ_ _=>rfl,λ_=>rfl,λ_ _ _=>rfl,rfl,λ_ _ _ _ _=>rfl,rfl,λ_ _ _=>rfl,rfl,rfl⟩
def vT:=aC @aZ.eq_1 (aC @cr.eq_1 (aC @ah.eq_1 (aC @aA.eq_1 (aC AG zF))))

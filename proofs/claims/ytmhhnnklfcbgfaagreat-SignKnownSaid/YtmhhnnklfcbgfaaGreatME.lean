/-
  Texts of one proof, laid together: Hv22 Hv23 Hv24 Base Hv25 Pk Hv26 Hk2 Hk3.
-/
import Derived.Test.YtmhhnnklfcbgfaaGreatMD
import Derived.Test.YtmhhnnklfcbgfaaGreatProg
import Derived.KernelRfl
import Derived.ProofKit
import Derived.OpenShut
import Derived.ShutString
import Derived.ChangeOld
import Derived.Below
import Derived.Carry
set_option linter.unusedVariables false
set_option linter.unusedSimpArgs false
set_option linter.defProp false
open Option renaming some→D,none→Y
open Bool renaming true→V,false→U
namespace Go.bN
abbrev O:=Option (aa×ae)
abbrev bw:=Nat->aa
def b2(C:bw)(dst:Option Nat)(v:aa):bw:=match dst with
 |none=>C
 |some d=>λe=>bif Nat.beq e d then v else C e
def bP(C:bw):Operand->Option aa
 | .tmp t=>D (C t)
 | .const v=>hP v
 | .global _=>Y
 | .func f=>D (.func (.func f) [] [])
def ep(C:bw):List Operand->Option (List aa)
 |[]=>D []
 |x::xs=>(bP C x).bind λv=>(ep C xs).bind λa=>D (v::a)
def hE(C:bw):List (Nat×Operand)->Option (List (Nat×aa))
 |[]=>D []
 |(i,x)::xs=>(bP C x).bind λv=>(hE C xs).bind λa=>D ((i,v)::a)
def hF(C:bw):Option Operand->Option (Option aa)
 |none=>D Y
 |some x=>(bP C x).bind λv=>D (D v)
def aN(c:aa)(a b:Option aa):Option aa:=match c with
 | .bool t=>bif t then a else b
 |_=>Y
def nj(P:Program)(t:TypeId)(c:Bool)(a b:aa):Bool:=
 match a,b with
 | .nilIface,.nilIface=>c
 | .agg _,.agg _=> !P.eqGuardType P.depth t
 |_,_=>V
def al(P:Program)(op:BinOp)(t:TypeId)(c:Bool)(x y:aa):Option aa:=
 match x,y with
 | .int k a,.int d b=>
  (match op with
  | .shl=>gE .shl k a b
  | .shr=>gE .shr k a b
  |op=>if k=d then dB op k a b else Y)
 | .str a,.str b=>rq op a b
 |x,y=>
  (match op with
  | .eql=>if nj P t c x y then(dI P 10000 t x y).map .bool else Y
  | .neq=>if nj P t c x y then(dI P 10000 t x y).map λb=> .bool (!b)else Y
  |_=>Y)
def AL(P:Program)(t:TypeId)(x y:Operand)(u v:aa):nj P t (isConst x||isConst y) u v=fs P t x y u v:=by
 unfold nj fs;cases u<;>cases v<;>rfl
def B2(P:Program)(op:BinOp)(t:TypeId)(x y:Operand)(u v:aa):al P op t (isConst x||isConst y) u v=hq P op t x y u v:=by
 unfold al hq;simp only[AL];cases u<;>cases v<;>cases op<;>rfl
def np(P:Program)(aw:Op)(C:bw):Option aa:=
 match aw with
 | .move x=>bP C x
 | .assign x=>bP C x
 | .pick c a b=>(bP C c).bind λu=>aN u (bP C a) (bP C b)
 | .build t n=>(hE C n.toList).bind (bh P t)
 | .nilCheck x=>(bP C x).bind aL
 | .binOp op t x y _=>(bP C x).bind λu=>(bP C y).bind λv=>al P op t (isConst x||isConst y) u v
 | .unOp op _ x=>(bP C x).bind (bt op)
 | .convert s d x=>(bP C x).bind (ht P s d)
 | .makeInterface t x=>(bP C x).bind (ej P t)
 | .makeFunc fn f c=>(ep C f.toList).bind λe=>(ep C c.toList).bind λcs=>D (.func fn e cs)
 | .slice t x j g k=>(bP C x).bind λv=>(hF C j).bind λl=>(hF C g).bind λh=>(hF C k).bind λm=>c1 P t v l h m
 | .fieldAddr t x f=>(bP C x).bind λv=>ak P t v f
 | .field t x f=>(bP C x).bind λv=>bp P t v f
 | .indexAddr t x i=>(bP C x).bind λu=>(bP C i).bind λv=>aF P t u v
 | .index t x i=>(bP C x).bind λu=>(bP C i).bind λv=>cj P t u v
 | .extract x i=>(bP C x).bind λv=>bG v i
 | .typeAssert x _ t ok=>(bP C x).bind (hp P t ok)
 | .call c=>match c.callee with
  | .builtin b=>(ep C c.args.toList).bind (aW P .empty b c.argTypes.toList)
  |_=>Y
 |_=>Y
def gA(P:Program)(aw:Op)(C:bw)(H:ae):Option aa:=
 match aw with
 | .load t x=>(bP C x).bind (ah P H t)
 | .lookup t x k ok=>(bP C x).bind λu=>(bP C k).bind λv=>dv P H t u v ok
 | .convert s d x=>(bP C x).bind (hs P H s d)
 | .call c=>match c.callee with
  | .builtin b=>(ep C c.args.toList).bind (aW P H b c.argTypes.toList)
  |_=>Y
 |_=>Y
def bo(l:Nat)(v:aa):Option (aa×bk):=bif v.cells.all aa.one then D (.ptr l 0 0,.row U v.cells.length [v.cells])else Y
def na(ot:Option TypeId)(l:Nat)(v:aa):Option (aa×bk):=bif v.cells.all aa.one then D (.ptr l 0 0,b8 ot v.cells.length [v.cells])else Y
def bl(P:Program)(l:Nat)(t:TypeId)(len:Nat)(parts:List (Nat×aa)):Option (aa×bk):=
 match P.underlying t with
 |some (.slice e)=>
  (match bu P e,cy P e with
  |some a,D z=>
   bif decide (len*a<=16777216/\z.cells.length=a/\z.cells.all aa.one=V)then
    (fl a (List.replicate len z.cells) parts).bind λels=>D (.ag l 0 len a (D len),.row U a els)
   else Y
  |_,_=>Y)
 |_=>Y
def se(P:Program)(aw:Op)(C:bw)(l:Nat):Option (aa×bk):=
 match aw with
 | .alloc t=>(cy P t).bind (na (gI P t) l)
 | .box t x=>(bP C x).bind (na (gI P t) l)
 | .buildSlice t n a=>(hE C a.toList).bind (bl P l t n)
 | .makeMap _ Y=>D (.map l,.map [])
 | .makeSlice t x c=>(bP C x).bind λu=>(bP C c).bind λv=>cz (cO P ⟨.leaf,l⟩ t u v) l
 |_=>Y
def sh(P:Program)(aw:Op)(C:bw)(H:ae):Option (aa×ae):=
 match aw with
 | .store t x y=>(bP C x).bind λu=>(bP C y).bind λv=>(aA P H t u v).bind λH'=>D (.tuple [],H')
 | .mapUpdate t m k x=>(bP C m).bind λu=>(bP C k).bind λv=>(bP C x).bind λz=>(eH P H t u v z).bind λH'=>D (.tuple [],H')
 | .insert t m k x=>(bP C m).bind λu=>(bP C k).bind λv=>(bP C x).bind λz=>(eH P H t u v z).bind λH'=>D (.tuple [],H')
 | .call c=>match c.callee,c.args.toList with
  | .builtin .append,[s,x]=>(bP C s).bind λu=>(bP C x).bind λv=>bJ P H c.argTypes.toList u v
  | .builtin .clear,[x]=>(bP C x).bind λu=>(m9 P H c.argTypes.toList u).bind λH'=>D (.tuple [],H')
  |_,_=>Y
 |_=>Y
def r3(f:aa)(a:List aa):Option (Nat×List aa):=match f with
 | .func (.func g) first captured=>D (g,first++a++captured)
 |_=>Y
def hM(P:Program)(H:ae)(r:aa)(name:String)(a:List aa):Option (Nat×List aa):=(gl P H r name).bind λp=>D (p.1,p.2::a)
def sa(P:Program)(H:ae)(C:bw)(c:Call):Option (Nat×List aa):=
 match c.callee with
 | .value f=>(bP C f).bind λu=>(ep C c.args.toList).bind λa=>r3 u a
 | .invoke r name=>(bP C r).bind λu=>(ep C c.args.toList).bind λa=>hM P H u name a
 |_=>Y
def bH(a b:Option aa)(k:K->O):O:=match a with
 |some v=>k (.pure v)
 |none=>b.bind λv=>k (.read v)
def cn(r:Option (aa×bk))(k:K->O):O:=match r with
 |some (v,b)=>k (.new v b)
 |none=>Y
def bg(H:ae)(r:O)(k:K->O):O:=match r with
 |some (v,H')=>bif decide (H.next<=H'.next)then k (.br v H')else Y
 |none=>Y
def nm(P:Program)(call:ai)(aw:Op)(C:bw)(H:ae)(k:K->O):O:=
 match cls aw with
 | .pure=>(np P aw C).bind λv=>k (.pure v)
 | .read=>(gA P aw C H).bind λv=>k (.read v)
 | .both=>bH (np P aw C) (gA P aw C H) k
 | .new=>cn (se P aw C H.next) k
 | .write=>bg H (sh P aw C H) k
 | .call=>match aw with
  | .call c=>(sa P H C c).bind λp=>bg H (call p.1 p.2 H) k
  |_=>Y
def aK(b:aa)(want:Bool)(m:(K->O)->O)(k:K->O):O:=match b with
 | .bool t=>bif t==want then m k else k .skip
 |_=>k .skip
def nn(P:Program)(call:ai)(ops:Array Oper)(aw:Oper)(C:bw)(H:ae)(k:K->O):O:=
 match aw.guard with
 |none=>nm P call aw.op C H k
 |some (j,want)=>match ops[j]? with
  |some q=>(match q.dst with
   |some d=>aK (C d) want (nm P call aw.op C H) k
   |none=>k .skip)
  |none=>k .skip
def rp(P:Program)(call:ai)(ops:Array Oper):List Oper->bw->ae->(bw->ae->O)->O
 |[],C,H,k=>k C H
 |aw::os,C,H,k=>nn P call ops aw C H λx=>rp P call ops os (b2 C aw.dst x.val) (x.heap H) k
structure di where
 i:Nat
 k:K
 rd:ae->Option aa
def gx(ms:List Nat):List di->List Nat->Bool
 |[],_=>V
 |t::ts,ids=>match t.k with
  | .br _ _=>ids.all (λj=>bD ms j t.i)&&gx ms ts (t.i::ids)
  | .new _ _=>gx ms ts (t.i::ids)
  |_=>gx ms ts ids
def aJ(r:Option aa)(v:aa):Bool:=match r with
 |some u=>aa.beq u v
 |none=>U
def gb(ms:List Nat)(rd:ae->Bool)(i:Nat):List di->ae->Bool
 |[],H=>rd H
 |t::ts,H=>bif t.k.b7 then(bD ms t.i i||rd H)&&(bD ms i t.i||gb ms rd i ts (t.k.heap H))else gb ms rd i ts H
def gv(ms:List Nat)(i:Nat):List di->Bool->Bool
 |[],_=>U
 |t::ts,s=>match t.k with
  | .new _ _=>(s&&bD ms t.i i&&ts.all λu=>eW u.k)||gv ms i ts (s|| !bD ms t.i i)
  | .br _ _=>gv ms i ts (s|| !bD ms t.i i)
  |_=>gv ms i ts s
def fF(ms:List Nat)(rd:ae->Bool)(i:Nat):List di->ae->Bool->Bool
 |[],_,_=>U
 |t::ts,H,s=>match t.k with
  | .new _ b=>bif s&&bD ms t.i i&&ts.all (λu=>eW u.k)then rd (H.push b).only||fF ms rd i ts (H.push b) (s|| !bD ms t.i i)else fF ms rd i ts (H.push b) (s|| !bD ms t.i i)
  | .br _ H'=>fF ms rd i ts H' (s|| !bD ms t.i i)
  |_=>fF ms rd i ts H s
def vu(ms:List Nat)(rd:ae->Bool)(i:Nat)(T:List di)(H:ae):Bool:=bif gv ms i T U then gb ms rd i T H||fF ms rd i T H U else gb ms rd i T H
def rA(ms:List Nat)(a:List Nat)(T:List di)(H:ae):List di->Bool
 |[]=>V
 |t::ts=>(match t.k with
  | .read v=>a.contains t.i||vu ms (λH=>aJ (t.rd H) v) t.i T H
  |_=>V)&&rA ms a T H ts
def b3(ms:List Nat)(a:List Nat)(T:List di)(H:ae):Bool:=gx ms T []&&rA ms a T H T
def gr(P:Program)(call:ai)(ops:Array Oper):List Nat->bw->ae->(List di->bw->ae->O)->O
 |[],C,H,k=>k [] C H
 |i::is,C,H,k=>match ops[i]? with
  |none=>Y
  |some aw=>nn P call ops aw C H λx=>gr P call ops is (b2 C aw.dst x.val) (x.heap H) λT aU H'=>k (⟨i,x,gA P aw.op C⟩::T) aU H'
def ru(ops:Array Oper):List Nat:=(order ops).filter (cR ops (bA ops) (order ops))
def quiet(ops:Array Oper):Bool:=ops.toList.all λaw=> !ft aw.op
def m6(ms:List Nat)(a:List Nat)(T:List di)(H:ae):List di->Bool
 |[]=>V
 |t::ts=>(match t.k with
  | .read v=>a.contains t.i||gb ms (λH=>aJ (t.rd H) v) t.i T H
  |_=>V)&&m6 ms a T H ts
def xR(u v:aa):Bool:=match u,v with
 | .ptr l _ _,.ptr m _ _=> !Nat.beq l m
 |_,_=>U
def vD(ops:Array Oper)(a b:Nat)(C:bw):Bool:=match c8 ops a,c8 ops b with
 |some (_,c,_),D (_,ad,_)=>(match bP C c,bP C ad with
  |some u,D v=>xR u v
  |_,_=>U)
 |_,_=>U
def TD(ops:Array Oper)(a b:Nat)(C:aX):vD ops a b C.get=hg ops a b C:=by
 have c:∀x,bP C.get x=bn C x:=λx=>by cases x<;>rfl
 unfold vD hg;cases c8 ops a with
 |none=>rfl
 |some d=>
  obtain⟨ta,f,g⟩:=d;cases c8 ops b with
  |none=>rfl
  |some e=>
   obtain⟨tb,ad,h⟩:=e;simp only[c,nA];cases bn C f with
   |none=>rfl
   |some u=>
    cases bn C ad with
    |none=>cases u<;>rfl
    |some v=>cases u<;>cases v<;>rfl
def sO(P:Program)(call:ai)(ops:Array Oper)(draw:Bool)(C:bw)(H:ae)(k:bw->ae->O):O:=
 match draw with
 |false=>rp P call ops ops.toList C H k
 |true=>match hh ops (order ops)with
  |some (a,b)=>gr P call ops (order ops) C H λT aU H'=>bif vD ops a b aU&&m6 (bA ops) (ru ops) T H T then k aU H' else Y
  |none=>bif quiet ops then gr P call ops (order ops) C H λ_ aU H'=>k aU H' else
   gr P call ops (order ops) C H λT aU H'=>bif b3 (bA ops) (ru ops) T H then k aU H' else Y
def ax(c:Option aa)(a b:O):O:=match c with
 |some (.bool t)=>bif t then a else b
 |_=>Y
abbrev b4:=bw->ae->O
def look(i:Nat):List (Nat×b4)->b4
 |[],_,_=>Y
 |(j,k)::a,C,H=>bif Nat.beq i j then k C H else look i a C H
def fv(b:b4->b4):Nat->b4
 |0,_,_=>Y
 |n+1,C,H=>b (λC H=>fv b n C H) C H
def aE(P:Program)(call:ai)(N:Nat):Code->b4->List (Nat×b4)->b4->b4
 | .skip,e,_,_,C,H=>e C H
 | .region _ ops d,e,_,_,C,H=>sO P call ops d C H e
 | .seq a b,e,g,f,C,H=>aE P call N a (λC H=>aE P call N b e g f C H) g f C H
 | .cond c a b,e,g,f,C,H=>ax (bP C c) (aE P call N a e g f C H) (aE P call N b e g f C H)
 | .block id b,e,g,f,C,H=>aE P call N b e ((id,e)::g) f C H
 | .loop b,_,g,f,C,H=>fv (λe C H=>aE P call N b e g f C H) N C H
 | .exit id,_,g,_,C,H=>look id g C H
 | .ret,_,_,f,C,H=>f C H
 | .label _,e,_,_,C,H=>e C H
 |_,_,_,_,_,_=>Y
def gN(P:Program)(H:ae)(C:bw):List ResultVar->(List aa->O)->O
 |[],k=>k []
 | .tmp t::rs,k=>gN P H C rs λb=>k (C t::b)
 | .cell a t::rs,k=>(ah P H t (C a)).bind λv=>gN P H C rs λb=>k (v::b)
def fH(P:Program)(rs:List ResultVar):b4:=λC H=>gN P H C rs λa=>D (gm a,H)
def aP:List aa->bw
 |[],_=> .tuple []
 |v::_,0=>v
 |_::a,n+1=>aP a n
section
variable {P:Program}{bd:ai}{call:ai}{C aU:aX}{H:ae}
def dV(x:Operand):bP C.get x=bn C x:=by cases x<;>rfl
def hG:∀xs:List Operand,ep C.get xs=cI C xs
 |[]=>rfl
 |x::xs=>by
  simp only[ep,cI,dV,hG xs];cases bn C x<;>cases cI C xs<;>rfl
def sg:∀xs:List (Nat×Operand),hE C.get xs=dk C xs
 |[]=>rfl
 |(i,x)::xs=>by
  simp only[hE,dk,dV,sg xs];cases bn C x<;>cases dk C xs<;>rfl
def Dq(x:Option Operand):hF C.get x=dJ C x:=by
 cases x with
 |none=>rfl
 |some x=>simp only[hF,dJ,dV];cases bn C x<;>rfl
def wO(aw:Op):np P aw C.get=c0 P aw C:=by
 cases aw<;>simp only[np,c0,dV,hG,sg,Dq,B2]
 ·rename_i c a b;cases d:bn C c with
  |none=>rfl
  |some v=>cases v<;>first|rfl|(rename_i t;cases t<;>rfl)
 ·rename_i c;cases c.callee<;>rfl
def nq(aw:Op):gA P aw C.get H=cC P aw C H:=by
 cases aw<;>simp only[gA,cC,dV,hG]
 ·rename_i c;cases c.callee<;>rfl
def sA(v:aa)(l:Nat)(b:bk)(a:b.dM=V):cz (D (v,ae.push ⟨.leaf,l⟩ b)) l=D (v,b):=by
 unfold cz;simp only[ae.dO,if_true];have:(ae.push ⟨.leaf,l⟩ b).get l=D b:=ae.cJ ⟨.leaf,l⟩ b;rw[this];simp[a]
def Gk(ot:Option TypeId)(esz:Nat)(els:List (List aa)):(b8 ot esz els).dM=true:=by cases ot<;>rfl
def wh(ot:Option TypeId)(l:Nat)(v:aa):na ot l v=cz (gi ot ⟨.leaf,l⟩ v) l:=by
 unfold na gi;by_cases h:v.cells.all aa.one=V
 ·rw[h,if_pos rfl];exact(sA _ _ _ (Gk _ _ _)).symm
 ·rw[if_neg h];simp only[Bool.not_eq_true]at h;rw[h];rfl
def Tt(l:Nat)(t:TypeId)(n:Nat)(a:List (Nat×aa)):bl P l t n a=cz (hr P ⟨.leaf,l⟩ t n a) l:=by
 unfold bl hr;cases hu:P.underlying t with
 |none=>rfl
 |some d=>
  cases d<;>try rfl
  rename_i e;simp only
  cases c:bu P e with
  |none=>rfl
  |some b=>
  cases f:cy P e with
  |none=>rfl
  |some z=>
   simp only
   by_cases h:n*b<=16777216/\z.cells.length=b/\z.cells.all aa.one=V
   ·rw[if_pos h,decide_eq_true h];simp only[eo];cases fl b (List.replicate n z.cells) a with
    |none=>rfl
    |some els=>exact(sA _ _ _ rfl).symm
   ·rw[if_neg h,decide_eq_false h];rfl
def Dp(aw:Op)(l:Nat):se P aw C.get l=dw P aw C l:=by
 unfold dw;cases aw<;>simp only[se,fk,dV,sg]<;>try rfl
 ·rename_i t;unfold m8;cases cy P t with
  |none=>rfl
  |some v=>exact wh _ l v
 ·rename_i t x;cases bn C x with
  |none=>rfl
  |some v=>exact wh _ l v
 ·rename_i t n a;cases dk C a.toList with
  |none=>rfl
  |some v=>exact Tt l t n v
 ·rename_i t r;cases r with
  |none=>exact(sA _ _ _ rfl).symm
  |some r=>rfl
 ·rename_i t x c;cases bn C x with
  |none=>rfl
  |some u=>cases bn C c<;>rfl
def map_bind{α β:Type}(x:Option α)(f:α->β):x.bind (λa=>D (f a))=x.map f:=by cases x<;>rfl
def Dr(aw:Op):sh P aw C.get H=dx P aw C H:=by
 cases aw<;>simp only[sh,dx,dV,map_bind]
 ·rename_i c;cases d:c.callee with
  |builtin b=>
   cases a:c.args.toList with
   |nil=>cases b<;>rfl
   |cons s r=>
    cases r with
    |nil=>cases b<;>rfl
    |cons x r=>cases r<;>cases b<;>rfl
  |value f=>rfl
  |invoke r m=>rfl
def Cb(c:Call):sa P H C.get c=eh P H C c:=by
 unfold sa eh;cases h:c.callee with
 |value f=>
  simp only[dV,hG];cases bn C f with
  |none=>rfl
  |some v=>
   cases d:cI C c.args.toList with
   |none=>
    simp only[Option.bind_some,Option.bind_none];split<;>first|rfl|(simp_all;done)
   |some e=>
    simp only[Option.bind_some];unfold r3;split
    ·rename_i g first captured;rfl
    ·rename_i a;split
     ·rename_i g first captured he
      simp only[aV]at he;exact absurd he (a _ _ _)
     ·rfl
 |invoke r m=>
  simp only[dV,hG];cases bn C r with
  |none=>rfl
  |some v=>
   simp only[Option.bind_some];cases d:cI C c.args.toList with
   |none=>cases gl P H v m<;>rfl
   |some e=>
    simp only[Option.bind_some,hM];cases gl P H v m<;>rfl
 |builtin b=>rfl
def wL(aw:Op)(k:K->O):nm P call aw C.get H k=(cW P call aw C H).bind k:=by
 unfold nm cW;cases d:cls aw with
 |pure=>simp only[wO];cases c0 P aw C<;>rfl
 |read=>simp only[nq];cases cC P aw C H<;>rfl
 |both=>
  simp only[wO,nq];unfold bH;cases c0 P aw C with
  |some v=>rfl
  |none=>cases cC P aw C H<;>rfl
 |new=>
  simp only[Dp];unfold cn;cases dw P aw C H.next<;>rfl
 |write=>
  simp only[Dr];unfold bg;cases h:dx P aw C H with
  |none=>rfl
  |some r=>
   obtain⟨v,H'⟩:=r;simp only[dC];by_cases a:H.next<=H'.next
   ·rw[if_pos a,decide_eq_true a];rfl
   ·rw[if_neg a,decide_eq_false a];rfl
 |call=>
  cases aw<;>try rfl
  rename_i c;simp only[Cb];cases eh P H C c with
  |none=>rfl
  |some p=>
   obtain⟨g,b⟩:=p;simp only[Option.bind_some];unfold bg;cases h:call g b H with
   |none=>rfl
   |some r=>
    obtain⟨v,H'⟩:=r;simp only[dC];by_cases a:H.next<=H'.next
    ·rw[if_pos a,decide_eq_true a];rfl
    ·rw[if_neg a,decide_eq_false a];rfl
def wM(ops:Array Oper)(aw:Oper)(k:K->O):nn P call ops aw C.get H k=(cm P call ops aw C H).bind k:=by
 unfold nn cm c2;cases b:aw.guard with
 |none=>exact wL aw.op k
 |some p=>
  obtain⟨j,want⟩:=p;simp only
  cases e:ops[j]? with
  |none=>rfl
  |some q=>
   simp only
   cases a:q.dst with
   |none=>rfl
   |some d=>
    simp only
    cases f:C.get d<;>try rfl
    rename_i t;simp only[aK];cases c:(t==want)with
    |true=>simp only[eo];exact wL aw.op k
    |false=>rfl
def yV{dst:Option Nat}{v:aa}(h:C.put dst v=D aU):b2 C.get dst v=aU.get:=by
 funext e
 rw[aX.gC h];cases dst with
 |none=>simp[b2]
 |some d=>
  simp only[b2];by_cases he:e=d
  ·subst he;simp[Nat.beq_refl]
  ·have a:Nat.beq e d=false:=by rw[<-Bool.not_eq_true,Nat.beq_eq];exact he
   rw[a];simp[Ne.symm he]
def fr(n:Nat)(aw:Oper):Bool:=match aw.dst with
 |none=>V
 |some d=>decide (d<n)
def ym{aw:Oper}(h:fr C.size aw=V)(v:aa):∃aU,C.put aw.dst v=D aU/\aU.size=C.size:=by
 unfold fr at h;cases a:aw.dst with
 |none=>exact⟨C,rfl,rfl⟩
 |some d=>
  rw[a]at h;exact⟨{C with t:=a6.put v (d+1) C.t d},by simp only[aX.put];rw[if_pos (of_decide_eq_true h)],rfl⟩
def yB(ops:Array Oper)(k:bw->ae->O):∀(os:List Oper) (C:aX) (H:ae),os.all (fr C.size)=V->
  rp P call ops os C.get H k=(ds P call ops os C H).bind λp=>k p.1.get p.2
 |[],C,H,_=>rfl
 |aw::os,C,H,h=>by
  simp only[List.all_cons,Bool.and_eq_true]at h;simp only[rp,ds,wM];cases c:cm P call ops aw C H with
  |none=>rfl
  |some x=>
   obtain⟨aU,a,b⟩:=ym h.1 x.val;simp only[Option.bind_some,a,yV a];exact yB ops k os aU _ (by rw[b];exact h.2)
def a_.c(P:Program)(t:a_):di:=⟨t.i,t.k,gA P t.aw.op t.C.get⟩
def wD(ms:List Nat):∀(T:List a_) (ids:List Nat),gx ms (T.map (a_.c P)) ids=c3 ms T ids
 |[],_=>rfl
 |t::T,ids=>by
  simp only[List.map_cons,gx,c3,a_.c];cases t.k<;>simp only[wD ms T]
def ry(ms:List Nat)(rd:ae->Bool)(i:Nat):∀(T:List a_) (H:ae),gb ms rd i (T.map (a_.c P)) H=cg ms rd i T H
 |[],_=>rfl
 |t::T,H=>by
  simp only[List.map_cons,gb,cg,a_.c];cases t.k.b7
  ·simp only[gw];exact ry ms rd i T H
  ·simp only[eo,if_true];rw[ry ms rd i T]
def wk(ms:List Nat)(i:Nat):∀(T:List a_) (s:Bool),gv ms i (T.map (a_.c P)) s=eM ms i T s
 |[],_=>rfl
 |t::T,s=>by
  simp only[List.map_cons,gv,eM,a_.c];cases t.k<;>simp only[wk ms i T,List.all_map]<;>rfl
def xU(ms:List Nat)(rd:ae->Bool)(i:Nat):∀(T:List a_) (H:ae) (s:Bool),fF ms rd i (T.map (a_.c P)) H s=dN ms rd i T H s
 |[],_,_=>rfl
 |t::T,H,s=>by
  simp only[List.map_cons,fF,dN,a_.c];cases t.k<;>simp only[xU ms rd i T,List.all_map]<;>rfl
def Tq(ms:List Nat)(rd:ae->Bool)(i:Nat)(T:List a_)(H:ae):vu ms rd i (T.map (a_.c P)) H=ga ms rd i T H:=by
 simp only[vu,ga,wk,xU,ry]
def yX(ms:List Nat)(b:List Nat)(a:Nat->Bool)(T:List a_)(H:ae):∀(S:List a_),(∀t∈S,b.contains t.i=a t.i)->rA ms b (T.map (a_.c P)) H (S.map (a_.c P))=dF P ms a T H S
 |[],_=>rfl
 |t::S,h=>by
  simp only[List.map_cons,rA,dF,yX ms b a T H S λt d=>h t (by simp[d])]
  congr 1
  simp only[a_.c,h t (by simp)];cases t.k<;>try rfl
  simp only[Tq]
  congr 2
  funext H
  simp only[aJ,dq,nq];cases cC P t.aw.op t.C H<;>rfl
def y0(ms:List Nat)(b:List Nat)(a:Nat->Bool)(T:List a_)(H:ae):∀(S:List a_),(∀t∈S,b.contains t.i=a t.i)->m6 ms b (T.map (a_.c P)) H (S.map (a_.c P))=fh P ms a T H S
 |[],_=>rfl
 |t::S,h=>by
  simp only[List.map_cons,m6,fh,y0 ms b a T H S λt d=>h t (by simp[d])]
  congr 1
  simp only[a_.c,h t (by simp)];cases t.k<;>try rfl
  simp only[ry]
  congr 2
  funext H
  simp only[aJ,dq,nq];cases cC P t.aw.op t.C H<;>rfl
def yn(ms:List Nat):∀(T:List a_) (ids:List Nat),(∀t∈T,t.k.b7=U)->c3 ms T ids=V
 |[],_,_=>rfl
 |t::T,ids,h=>by
  have a:=h t (by simp);simp only[c3];have c:=yn ms T ids λu hu=>h u (by simp[hu])
  cases b:t.k<;>rw[b]at a<;>first|exact c|(cases a;done)
def yo(ms:List Nat)(a:Nat->Bool)(T:List a_)(H:ae):∀(S:List a_),(∀t∈S,a t.i=V)->dF P ms a T H S=V
 |[],_=>rfl
 |t::S,h=>by
  simp only[dF,h t (by simp),yo ms a T H S λt b=>h t (by simp[b]),Bool.true_or,Bool.and_true];cases t.k<;>rfl
def hz(ops:Array Oper):∀(is:List Nat) (C:aX) (H:ae) (k:List di->bw->ae->O),ops.toList.all (fr C.size)=V->
  gr P call ops is C.get H k=(canRun P call ops is C H).bind λp=>k (p.1.map (a_.c P)) p.2.1.get p.2.2
 |[],C,H,k,_=>rfl
 |i::is,C,H,k,h=>by
  simp only[gr,canRun];cases d:ops[i]? with
  |none=>rfl
  |some aw=>
   simp only[wM];cases f:cm P call ops aw C H with
   |none=>rfl
   |some x=>
    have hm:fr C.size aw=true:=by
     rw[List.all_eq_true]at h;exact h aw (by have:=Array.mem_of_getElem? d;simpa using this)
    obtain⟨aU,a,b⟩:=ym hm x.val;simp only[Option.bind_some,a,yV a];rw[hz ops is aU _ _ (by rw[b];exact h)];cases canRun P call ops is aU (x.heap H)with
    |none=>rfl
    |some p=>obtain⟨T,e,H1⟩:=p;rfl
def J7(ops:Array Oper)(d:Bool)(k:bw->ae->O)(h:ops.toList.all (fr C.size)=V):sO P call ops d C.get H k=(c5 P call ops d C H).bind λp=>k p.1.get p.2:=by
 unfold sO c5;cases d with
 |false=>exact yB ops k _ C H h
 |true=>
  simp only
  rw[hz ops _ C H _ h,hz ops _ C H _ h];cases e:canRun P call ops (order ops) C H with
  |none=>
   cases hh ops (order ops)with
   |none=>cases quiet ops<;>rfl
   |some q=>exact hz ops _ C H _ h|>.trans (by rw[e];rfl)
  |some p=>
   obtain⟨T,n,H1⟩:=p;have u:=(dy e).1;have w:∀t∈T,t.i∈order ops:=λt c=>by rw[<-u];exact List.mem_map.2 ⟨t,c,rfl⟩
   have m:∀t∈T,(ru ops).contains t.i=cR ops (bA ops) (order ops) t.i:=λt c=>by
    unfold ru;rw[Bool.eq_iff_iff,List.contains_iff_mem,List.mem_filter];exact⟨λh=>h.2,λh=>⟨w t c,h⟩⟩
   cases y:hh ops (order ops)with
   |some q=>
    obtain⟨a,b⟩:=q;refine(hz ops _ C H _ h).trans ?_;rw[e];simp only[Option.bind_some,TD,y0 _ _ _ T H T m];cases hg ops a b n&&fh P (bA ops) (cR ops (bA ops) (order ops)) T H T<;>rfl
   |none=>
   simp only
   simp only[Option.bind_some];cases f:quiet ops with
   |true=>
    have l:∀aw∈ops.toList,ft aw.op=false:=λaw x=>by
     unfold quiet at f;rw[List.all_eq_true]at f;simpa using f aw x
    have cq:∀t∈T,t.k.b7=false:=λt c=>by
     obtain⟨A,B,o⟩:=List.append_of_mem c;have g:=nb (P:=P) (call:=call) (by rw[<-o];exact e);cases s:t.k.b7 with
     |false=>rfl
     |true=>
      have:=xQ g.2.2.1 s;rw[l t.aw (by have:=Array.mem_of_getElem? g.1;simpa using this)]at this;cases this
    have r:∀t∈T,cR ops (bA ops) (order ops) t.i=true:=λt _=>by
     unfold cR;rw[List.all_eq_true];intro j _;cases v:ops[j]? with
     |none=>simp
     |some aw=>simp[l aw (by have:=Array.mem_of_getElem? v;simpa using this)]
    simp only[eo,yn (bA ops) T [] cq,yo (bA ops) _ T H T r];rfl
   |false=>
    simp only[gw,b3,wD,yX _ _ _ T H T m];cases c3 (bA ops) T []with
    |false=>rfl
    |true=>
     cases dF P (bA ops) (cR ops (bA ops) (order ops)) T H T<;>rfl
def dK(n:Nat):Code->Bool
 | .region _ ops _=>ops.toList.all (fr n)
 | .seq a b=>dK n a&&dK n b
 | .cond _ a b=>dK n a&&dK n b
 | .block _ b=>dK n b
 | .loop b=>dK n b
 |_=>V
def hC(r:Option (cB×aX×ae))(a:b4)(c:List (Nat×b4))(b:b4):O:=match r with
 |some (.normal,C,H)=>a C.get H
 |some (.exit id,C,H)=>look id c C.get H
 |some (.ret,C,H)=>b C.get H
 |none=>Y
def yI{ops:Array Oper}:∀{os:List Oper} {C aU:aX} {H H':ae},ds P call ops os C H=D (aU,H')->aU.size=C.size
 |[],C,aU,H,H',h=>by
  simp only[ds,aV,bE]at h;rw[h.1]
 |aw::os,C,aU,H,H',h=>by
  simp only[ds]at h;split at h
  ·cases h
  ·split at h
   ·cases h
   ·rename_i b a;rw[yI h,aX.size_put a]
def vz{ops:Array Oper}:∀{is:List Nat} {C aU:aX} {H H':ae} {T:List a_},canRun P call ops is C H=D (T,aU,H')->aU.size=C.size
 |[],C,aU,H,H',T,h=>by
  simp only[canRun,aV,bE]at h;rw[h.2.1]
 |i::is,C,aU,H,H',T,h=>by
  simp only[canRun]at h;split at h
  ·cases h
  ·split at h
   ·cases h
   ·split at h
    ·cases h
    ·rename_i c a;split at h
     ·cases h
     ·rename_i b;simp only[aV,bE]at h;obtain⟨_,rfl,_⟩:=h;rw[vz b,aX.size_put a]
def Ts{ops:Array Oper}{d:Bool}{C aU:aX}{H H':ae}(h:c5 P call ops d C H=D (aU,H')):aU.size=C.size:=by
 unfold c5 at h;split at h
 ·exact yI h
 ·split at h
  ·cases h
  ·rename_i a;split at h
   ·split at h
    ·cases h
    ·simp only[aV,bE]at h;obtain⟨rfl,_⟩:=h;exact vz a
   ·split at h
    ·cases h
    ·split at h
     ·cases h
     ·simp only[aV,bE]at h;obtain⟨rfl,_⟩:=h;exact vz a
def yH{f:aX->ae->Option (cB×aX×ae)}(a:∀C H ex aU H',f C H=D (ex,aU,H')->aU.size=C.size):
  ∀{n:Nat} {C:aX} {H:ae} {ex:cB} {aU:aX} {H':ae},iter f n C H=D (ex,aU,H')->aU.size=C.size
 |0,_,_,_,_,_,h=>by cases h
 |n+1,C,H,ex,aU,H',h=>by
  simp only[iter]at h;split at h
  ·rename_i c H1 b;rw[yH a h,a _ _ _ _ _ b]
  ·exact a _ _ _ _ _ h
def yG{N:Nat}:∀(c:Code) {C:aX} {H:ae} {ex:cB} {aU:aX} {H':ae},bU (c5 P call) N c C H=D (ex,aU,H')->aU.size=C.size:=by
 intro c
 induction c with
 |skip=>intro C H ex aU H' h;simp only[bU,aV,bE]at h;rw[h.2.1]
 |region id ops d=>
  intro C H ex aU H' h;simp only[bU]at h;split at h
  ·rename_i k H1 e;simp only[aV,bE]at h;obtain⟨_,rfl,_⟩:=h;exact Ts e
  ·cases h
 |seq a b i j=>
  intro C H ex aU H' h;simp only[bU]at h;split at h
  ·rename_i k H1 e;rw[j h,i e]
  ·exact i h
 |cond c a b i j=>
  intro C H ex aU H' h;simp only[bU]at h;split at h
  ·exact i h
  ·exact j h
  ·cases h
 |block id b g=>
  intro C H ex aU H' h;simp only[bU]at h;split at h
  ·rename_i m k H1 e;split at h<;>(simp only[aV,bE]at h;obtain⟨_,rfl,_⟩:=h;exact g e)
  ·exact g h
 |loop b g=>
  intro C H ex aU H' h;simp only[bU]at h;exact yH (λ_ _ _ _ _ h=>g h) h
 |exit id=>intro C H ex aU H' h;simp only[bU,aV,bE]at h;rw[h.2.1]
 |ret=>intro C H ex aU H' h;simp only[bU,aV,bE]at h;rw[h.2.1]
 |label l=>intro C H ex aU H' h;simp only[bU,aV,bE]at h;rw[h.2.1]
 |goto l=>intro C H ex aU H' h;cases h
 |scope b g=>intro C H ex aU H' h;cases h
 |rangeFunc f n a b i j=>intro C H ex aU H' h;cases h
 |refuse y=>intro C H ex aU H' h;cases h
def wS{f:aX->ae->Option (cB×aX×ae)}{b:b4->b4}{i:List (Nat×b4)}{g:b4}(m:Nat)(e:∀C H ex aU H',f C H=D (ex,aU,H')->aU.size=C.size)
  (d:∀(C:aX) (H:ae) (a:b4),C.size=m->b a C.get H=hC (f C H) a i g) (a:b4):∀(n:Nat) (C:aX) (H:ae),C.size=m->fv b n C.get H=hC (iter f n C H) a i g
 |0,C,H,_=>rfl
 |n+1,C,H,c=>by
  simp only[fv,iter];rw[d C H _ c];cases h:f C H with
  |none=>rfl
  |some x=>
   obtain⟨ex,j,H1⟩:=x;cases ex with
   |normal=>exact wS m e d a n j H1 (by rw[e _ _ _ _ _ h];exact c)
   |exit id=>rfl
   |ret=>rfl
def AG{N:Nat}:∀(c:Code) (C:aX) (H:ae) (e:b4) (i:List (Nat×b4)) (g:b4),dK C.size c=V->aE P call N c e i g C.get H=hC (bU (c5 P call) N c C H) e i g:=by
 intro c
 induction c with
 |skip=>intro C H e i g _;rfl
 |region id ops d=>
  intro C H e i g h;simp only[aE,bU];rw[J7 ops d e h];cases c5 P call ops d C H<;>rfl
 |seq a b m n=>
  intro C H e i g h;simp only[dK,Bool.and_eq_true]at h;simp only[aE,bU];rw[m C H _ i g h.1];cases he:bU (c5 P call) N a C H with
  |none=>rfl
  |some x=>
   obtain⟨ex,j,H1⟩:=x;cases ex with
   |normal=>exact n j H1 e i g (by rw[yG a he];exact h.2)
   |exit id=>rfl
   |ret=>rfl
 |cond c a b m n=>
  intro C H e i g h;simp only[dK,Bool.and_eq_true]at h;simp only[aE,bU,dV];unfold ax;cases bn C c with
  |none=>rfl
  |some v=>
   cases v<;>try rfl
   rename_i t;cases t
   ·exact n C H e i g h.2
   ·exact m C H e i g h.1
 |block id b k=>
  intro C H e i g h;simp only[aE,bU];rw[k C H e _ g h];cases he:bU (c5 P call) N b C H with
  |none=>rfl
  |some x=>
   obtain⟨ex,j,H1⟩:=x;cases ex with
   |normal=>rfl
   |ret=>rfl
   |exit p=>
    simp only[hC,look];by_cases o:p=id
    ·subst o;simp[Nat.beq_refl]
    ·have q:Nat.beq p id=false:=by rw[<-Bool.not_eq_true,Nat.beq_eq];exact o
     rw[q,if_neg o];rfl
 |loop b k=>
  intro C H e i g h;simp only[aE,bU];exact wS C.size (λ_ _ _ _ _ h=>yG b h) (λj H1 e r=>k j H1 e i g (by rw[r];exact h)) e N C H rfl
 |exit id=>intro C H e i g _;rfl
 |ret=>intro C H e i g _;rfl
 |label l=>intro C H e i g _;rfl
 |goto l=>intro C H e i g _;rfl
 |scope b k=>intro C H e i g _;rfl
 |rangeFunc f s a b m n=>intro C H e i g _;rfl
 |refuse y=>intro C H e i g _;rfl
def sP{C:aX}{H:ae}:∀(rs:List ResultVar) (k:List aa->O),gN P H C.get rs k=(da P C H rs).bind k
 |[],k=>rfl
 | .tmp t::rs,k=>by
  simp only[gN,da,gp];rw[sP rs];cases da P C H rs<;>rfl
 | .cell a t::rs,k=>by
  simp only[gN,da,gp];cases ah P H t (C.get a)with
  |none=>rfl
  |some v=>
   simp only[Option.bind_some];rw[sP rs];cases da P C H rs<;>rfl
def zZ(n:Nat)(args:List aa):(aX.enter n args).get=aP args:=by
 have h:∀(args:List aa) (d:Nat),aP args d=(args[d]?).getD (.tuple []):=by
  intro args
  induction args with
  |nil=>intro d;cases d<;>rfl
  |cons v c b=>
   intro d;cases d with
   |zero=>rfl
   |succ d=>simpa [aP]using b d
 funext d
 rw[h];unfold aX.get aX.enter;simp only[sB];by_cases a:d<args.length
 ·rw[if_pos bj];simp[a]
 ·rw[if_neg bj,a6.gB];simp[a]
end
end Go.bN
namespace Go
def an:Code->Code
 | .seq a _=>a
 | .cond _ a _=>a
 | .block _ b=>b
 | .loop b=>b
 |c=>c
def af:Code->Code
 | .seq _ b=>b
 | .cond _ _ b=>b
 |c=>c
def Code.test:Code->Operand
 | .cond c _ _=>c
 |_=> .tmp 0
def Code.num:Code->Nat
 | .block id _=>id
 | .exit id=>id
 |_=>0
def Code.Ed:Code->Bool| .seq _ _=>V|_=>U
def Code.Ea:Code->Bool| .cond _ _ _=>V|_=>U
def Code.D_:Code->Bool| .block _ _=>V|_=>U
def Code.Ec:Code->Bool| .loop _=>V|_=>U
end Go
namespace Go.bN
section
variable {P:Program}{call:ai}{N:Nat}{df cG:b4}{cH:List (Nat×b4)}
def aq{c:Code}{k T:b4}(d:c.Ed=V)(f:∀C H,aE P call N (af c) df cH cG C H=k C H)(e:∀C H,aE P call N (an c) k cH cG C H=T C H):
  ∀C H,aE P call N c df cH cG C H=T C H:=by
 cases c<;>first|cases d|skip
 rename_i a b;intro C H;rw[<-e];show aE P call N a (λC H=>aE P call N b df cH cG C H) cH cG C H=_;rw[show(λC H=>aE P call N b df cH cG C H)=k from funext λC=>funext λH=>f C H];rfl
def bB{c:Code}{A B:b4}(d:c.Ea=V)(a:∀C H,aE P call N (an c) df cH cG C H=A C H)(b:∀C H,aE P call N (af c) df cH cG C H=B C H):
  ∀C H,aE P call N c df cH cG C H=ax (bP C c.test) (A C H) (B C H):=by
 cases c<;>first|cases d|skip
 intro C H;rw[<-a,<-b];rfl
def aT{c:Code}{T:b4}(b:c.D_=V)(a:∀C H,aE P call N (an c) df ((c.num,df)::cH) cG C H=T C H):∀C H,aE P call N c df cH cG C H=T C H:=by
 cases c<;>first|cases b|skip
 intro C H;rw[<-a];rfl
def a8{c:Code}{k:Nat->b4}(e:c.Ec=V)(d:∀C H,k 0 C H=Y)(f:∀n C H,aE P call N (an c) (k n) cH cG C H=k (n+1) C H):∀C H,aE P call N c df cH cG C H=k N C H:=by
 cases c<;>first|cases e|skip
 rename_i b;have key:∀n C H,fv (λa C H=>aE P call N b a cH cG C H) n C H=k n C H:=by
  intro n
  induction n with
  |zero=>intro C H;exact(d C H).symm
  |succ n g=>
   intro C H;rw[<-f n C H];show aE P call N b (λC H=>fv _ n C H) cH cG C H=_;rw[show(λC H=>fv (λa C H=>aE P call N b a cH cG C H) n C H)=k n from funext λC=>funext λH=>g C H];rfl
 intro C H;exact key N C H
def aj(c:Code):∀C H,aE P call N c df cH cG C H=aE P call N c df cH cG C H:=λ_ _=>rfl
def ad(r:Option aa)(k:aa->O):O:=match r with
 |some v=>k v
 |none=>Y
def au(H:ae)(r:O)(k:aa->ae->O):O:=match r with
 |some (v,H')=>bif decide (H.next<=H'.next)then k v H' else Y
 |none=>Y
def aB(H:ae)(r:Option ae)(k:ae->O):O:=au H (r.bind λH'=>D (.tuple [],H')) λ_ H'=>k H'
def aO(H:ae)(r:Option (aa×bk))(k:aa->ae->O):O:=match r with
 |some (v,b)=>k v (H.push b)
 |none=>Y
def a7(H:ae)(cs:List aa)(k:aa->ae->O):O:=k (.ptr H.next 0 0) (H.push (.row U cs.length [cs]))
def aG(fn:Func):Code:=match fn.body with
 |some c=>c
 |none=> .skip
def aZ(P:Program)(b:Builtin)(ts:List TypeId)(a:List aa)(H:ae)(k:aa->O):O:=match aW P .empty b ts a with
 |some v=>k v
 |none=>(aW P H b ts a).bind k
def ec(P:Program)(s d:TypeId)(v:aa)(H:ae)(k:aa->O):O:=match ht P s d v with
 |some v=>k v
 |none=>(hs P H s d v).bind k
def rB(call:ai)(H:ae)(f:aa)(a:List aa)(k:aa->ae->O):O:=(r3 f a).bind λp=>au H (call p.1 p.2 H) k
def aM(v:aa)(q:K->O):O:=q (.pure v)
def az(r:Option aa)(q:K->O):O:=r.bind λv=>q (.pure v)
def qr(r:Option aa)(q:K->O):O:=r.bind λv=>q (.read v)
def ao(b:aa)(want:Bool)(H:ae)(m:(K->O)->O)(k:aa->ae->O):O:=aK b want m λx=>k x.val (x.heap H)
end
end Go.bN
namespace Go.bN
def W(m:O)(Q:aa->ae->Prop):Prop:=∃v H,m=D (v,H)/\Q v H
def W.mono{m:O}{Q a:aa->ae->Prop}(h:W m Q)(b:∀v H,Q v H->a v H):W m a:=by
 obtain⟨v,H,e,q⟩:=h;exact⟨v,H,e,b v H q⟩
def cL:Nat:=0
def Vu:Nat:=0
def Vv:cL=Vu:=rfl
def hj(v:aa)(H:ae)(k:aa->ae->O):O:=k v H
section
variable {r bL:Option aa}{aw gJ:O}{m cE:Option (aa×bk)}{h bs:Option ae}{H H':ae}{a bX:aa}{b b5:Bool}{z:Nat}
 @[congr] theorem VL {k:aa->ae->O} (e:a=bX) (d:H=H') (y:cL=z):hj a H k=hj bX H' k:=by rw[e,d]
def Vf(H:ae)(cs:List aa)(k:aa->ae->O):a7 H cs k=hj (.ptr H.next 0 0) (H.push (.row U cs.length [cs])) k:=rfl
def Vo(v:aa)(H:ae)(k:aa->ae->O):hj v H k=k v H:=rfl
 @[congr] theorem VE {k:aa->O} (e:r=bL) (y:cL=z):ad r k=ad bL k:=by rw[e]
 @[congr] theorem VG {k:aa->ae->O} (d:H=H') (e:aw=gJ) (y:cL=z):au H aw k=au H' gJ k:=by rw[d,e]
 @[congr] theorem VH {k:K->O} (d:H=H') (e:aw=gJ) (y:cL=z):bg H aw k=bg H' gJ k:=by rw[d,e]
 @[congr] theorem VQ {k:ae->O} (d:H=H') (e:h=bs) (y:cL=z):aB H h k=aB H' bs k:=by rw[d,e]
 @[congr] theorem VM {k:aa->ae->O} (d:H=H') (e:m=cE) (y:cL=z):aO H m k=aO H' cE k:=by rw[d,e]
 @[congr] theorem VO {k:K->O} (e:m=cE) (y:cL=z):cn m k=cn cE k:=by rw[e]
 @[congr] theorem VK {p q:O} (e:r=bL) (y:cL=z):ax r p q=ax bL p q:=by rw[e]
 @[congr] theorem Vx {p q:O} (e:b=b5) (y:cL=z):cond b p q=cond b5 p q:=by rw[e]
 @[congr] theorem VI {w:Bool} {f:(K->O)->O} {k:aa->ae->O} (e:a=bX) (y:cL=z):ao a w H f k=ao bX w H f k:=by rw[e]
 @[congr] theorem VJ {w:Bool} {f:(K->O)->O} {k:K->O} (e:a=bX) (y:cL=z):aK a w f k=aK bX w f k:=by rw[e]
 @[congr] theorem VF {s a:Option aa} {k:K->O} (e:r=bL) (d:s=a) (y:cL=z):bH r s k=bH bL a k:=by rw[d,e]
 @[congr] theorem VA {q:K->O} (e:r=bL) (y:cL=z):az r q=az bL q:=by rw[e]
 @[congr] theorem VB {q:K->O} (e:r=bL) (y:cL=z):qr r q=qr bL q:=by rw[e]
 @[congr] theorem VC {q:K->O} (e:a=bX) (y:cL=z):aM a q=aM bX q:=by rw[e]
def JY(v:aa)(q:K->O):az (D v) q=q (.pure v):=rfl
def JZ(v:aa)(q:K->O):qr (D v) q=q (.read v):=rfl
def J0(v:aa)(q:K->O):aM v q=q (.pure v):=rfl
end
def J2(k:IntKind)(n:Int):aJ (D (.int k n)) (.int k n)=true:=by simp[aJ,aa.beq]
def J5(x:List UInt8):aJ (D (.str x)) (.str x)=true:=by simp[aJ,aa.beq]
def J1(x:Bool):aJ (D (.bool x)) (.bool x)=true:=by simp[aJ,aa.beq]
def J4(l i n e:Nat)(c:Option Nat):aJ (D (.ag l i n e c)) (.ag l i n e c)=true:=by simp[aJ,aa.beq]
def J3:aJ (D .ar) .ar=true:=rfl
def ae.nt(H:ae)(b:bk)(l:Nat):(H.push b).get l=if l=H.next then D b else H.get l:=by
 split
 ·rename_i h;subst h;exact ae.cJ H b
 ·rename_i h;exact ae.cp h
def a6.nN{α:Type}(x y:α):∀(p:List dT) (t:a6 α),a6.b0 y p (a6.b0 x p t)=a6.b0 y p t
 |[],.leaf=>rfl
 |[],.node .. =>rfl
 |d::p,.leaf=>by cases d<;>simp[a6.b0,a6.nN x y p]
 |d::p,.node .. =>by cases d<;>simp[a6.b0,a6.nN x y p]
def ae.JW(H:ae)(b c:bk):(H.push b).set H.next c=H.push c:=by
 simp only[ae.push,ae.set,a6.put,a6.nN]
def ae.set_set(H:ae)(l:Nat)(b c:bk):(H.set l b).set l c=H.set l c:=by
 simp only[ae.set,a6.put,a6.nN]
def ae.Ds{H:ae}{b:bk}{l:Nat}(h:l<=H.next)(bs:H.next<=l):(H.push b).get l=D b:=by
 obtain rfl:l=H.next:=bj
 exact ae.cJ H b
def ae.JX{H:ae}{b c:bk}{l:Nat}(h:l<=H.next)(bs:H.next<=l):(H.push b).set l c=H.push c:=by
 obtain rfl:l=H.next:=bj
 exact ae.JW H b c
def eg(S:Nat->Prop)(H H':ae):Prop:=H.next<=H'.next/\∀l,l<H.next->¬S l->H'.get l=H.get l
def dh(H H':ae):Prop:=H.next<=H'.next/\∀l,l<H.next->H'.get l=H.get l
def dh.refl(H:ae):dh H H:=⟨bM _,λ_ _=>rfl⟩
def dh.trans{H H1 a:ae}(h:dh H H1)(k:dh H1 a):dh H a:=⟨Nat.le_trans h.1 k.1,λl b=>(k.2 l (Nat.lt_of_lt_of_le b h.1)).trans (h.2 l b)⟩
def dh.push(H:ae)(b:bk):dh H (H.push b):=⟨by simp,λl a=>ae.cp bj⟩
def dh.get{H H':ae}(h:dh H H'){l:Nat}{b:bk}(a:H.get l=D b):H'.get l=D b:=by rw[h.2 l (ae.dz a)];exact a
def dh.mut{H H':ae}(h:dh H H')(S:Nat->Prop):eg S H H':=⟨h.1,λl a _=>h.2 l a⟩
def eg.refl(S:Nat->Prop)(H:ae):eg S H H:=(dh.refl H).mut S
def eg.trans{S:Nat->Prop}{H H1 a:ae}(h:eg S H H1)(k:eg S H1 a):eg S H a:=⟨Nat.le_trans h.1 k.1,λl b c=>(k.2 l (Nat.lt_of_lt_of_le b h.1) c).trans (h.2 l b c)⟩
def eg.get{S:Nat->Prop}{H H':ae}(h:eg S H H'){l:Nat}{b:bk}(a:H.get l=D b)(c:¬S l):H'.get l=D b:=by rw[h.2 l (ae.dz a) c];exact a
section
variable {P:Program}{H:ae}
def Vg(v:aa)(k:aa->O):ad (D v) k=k v:=rfl
def Vn(b:Bool)(x y:O):ax (D (.bool b)) x y=bif b then x else y:=rfl
def vJ{v:aa}{H':ae}{k:aa->ae->O}(h:H.next<=H'.next):au H (D (v,H')) k=k v H':=by
 simp only[au,decide_eq_true h,eo]
def Vs{H':ae}{k:ae->O}(h:H.next<=H'.next):aB H (D H') k=k H':=by
 simp only[aB,Option.bind_some];exact vJ h
def Vp(v:aa)(b:bk)(k:aa->ae->O):aO H (D (v,b)) k=k v (H.push b):=rfl
def Vm(m:(K->O)->O)(k:aa->ae->O):ao (.bool V) V H m k=m (λx=>hj x.val (x.heap H) k):=rfl
def Vi(m:(K->O)->O)(k:aa->ae->O):ao (.bool U) U H m k=m (λx=>hj x.val (x.heap H) k):=rfl
def Vl(m:(K->O)->O)(k:aa->ae->O):ao (.bool V) U H m k=k (.tuple []) H:=rfl
def Vj(m:(K->O)->O)(k:aa->ae->O):ao (.bool U) V H m k=k (.tuple []) H:=rfl
def Vk(w:Bool)(m:(K->O)->O)(k:aa->ae->O):ao (.tuple []) w H m k=k (.tuple []) H:=rfl
def Vh(v:aa)(b:Option aa)(k:K->O):bH (D v) b k=k (.pure v):=rfl
def JT(a b:Option aa):aN (.bool V) a b=a:=rfl
def JS(a b:Option aa):aN (.bool U) a b=b:=rfl
def z6(b:Bool):bt .not (.bool b)=D (.bool (!b)):=rfl
def zR(l i c:Nat):aL (.ptr l i c)=D (.ptr l i c):=rfl
def zc(v:aa):(K.pure v).val=v:=rfl
def zd(v:aa):(K.read v).val=v:=rfl
def zb(v:aa)(b:bk):(K.new v b).val=v:=rfl
def za(v:aa)(H':ae):(K.br v H').val=v:=rfl
def ze:K.skip.val= .tuple []:=rfl
def y8(v:aa):(K.pure v).heap H=H:=rfl
def y9(v:aa):(K.read v).heap H=H:=rfl
def y7(v:aa)(b:bk):(K.new v b).heap H=H.push b:=rfl
def y6(v:aa)(H':ae):(K.br v H').heap H=H':=rfl
def y_:K.skip.heap H=H:=rfl
def zw(a:List aa)(i:Nat):bG (.tuple a) i=a[i]? :=rfl
def B1(t:TypeId)(c:Bool)(k:IntKind)(a b:Int):al P .add t c (.int k a) (.int k b)=D (.int k (k.wrap (a+b))):=by simp[al,dB]
def Ca(t:TypeId)(c:Bool)(k:IntKind)(a b:Int):al P .sub t c (.int k a) (.int k b)=D (.int k (k.wrap (a-b))):=by simp[al,dB]
def B3(t:TypeId)(c:Bool)(k:IntKind)(a b:Int):al P .eql t c (.int k a) (.int k b)=D (.bool (a==b)):=by simp[al,dB]
def B8(t:TypeId)(c:Bool)(k:IntKind)(a b:Int):al P .neq t c (.int k a) (.int k b)=D (.bool (a != b)):=by simp[al,dB]
def B7(t:TypeId)(c:Bool)(k:IntKind)(a b:Int):al P .lss t c (.int k a) (.int k b)=D (.bool (decide (a<b))):=by simp[al,dB]
def B6(t:TypeId)(c:Bool)(k:IntKind)(a b:Int):al P .leq t c (.int k a) (.int k b)=D (.bool (decide (a<=b))):=by simp[al,dB]
def B5(t:TypeId)(c:Bool)(k:IntKind)(a b:Int):al P .gtr t c (.int k a) (.int k b)=D (.bool (decide (b<a))):=by simp[al,dB]
def B4(t:TypeId)(c:Bool)(k:IntKind)(a b:Int):al P .geq t c (.int k a) (.int k b)=D (.bool (decide (b<=a))):=by simp[al,dB]
def B9(t:TypeId)(c:Bool)(a b:List UInt8):al P .eql t c (.str a) (.str b)=D (.bool (a==b)):=rfl
def B_(t:TypeId)(c:Bool)(a b:List UInt8):al P .neq t c (.str a) (.str b)=D (.bool (!(a==b))):=rfl
def x7(k:IntKind)(n:Int):(aa.int k n).one=true:=rfl
def yc(x:List UInt8):(aa.str x).one=true:=rfl
def x5(x:Bool):(aa.bool x).one=true:=rfl
def ya(l i c:Nat):(aa.ptr l i c).one=true:=rfl
def yb(l i n e:Nat)(c:Option Nat):(aa.ag l i n e c).one=true:=rfl
def x_:aa.ar.one=true:=rfl
def x9:aa.cr.one=true:=rfl
def x8(l:Nat):(aa.map l).one=true:=rfl
def x6(f:Fn)(a c:List aa):(aa.func f a c).one=true:=rfl
def b1{v:aa}(h:v.one=V):v.cells=[v]:=by cases v<;>first|rfl|cases h
end
end Go.bN
namespace Go.Proofs.YtmhhnnklfcbgfaaGreat
open Go.bN
noncomputable def P:Program:=Tryz.prog
noncomputable abbrev ay(f:Func):b4:=fH P f.results.toList
noncomputable abbrev aD(f:Func)(G:ai)(N:Nat):b4:=aE P G N (aG f) (ay f) [] (ay f)
def aH{A B zC:b4}(h:∀C H,A C H=B C H)(a:∀C H,B C H=zC C H):∀C H,A C H=zC C H:=λC H=>(h C H).trans (a C H)
def aS{A B:b4}{C:bw}{H:ae}{t:O}(h:∀C H,A C H=B C H)(a:B C H=t):A C H=t:=(h C H).trans a
def ed(H:ae)(r:Option ae)(k:aa->ae->O):O:=au H (r.bind λH'=>D (.tuple [],H')) k
def Vr{H H':ae}{k:aa->ae->O}(h:H.next<=H'.next):ed H (D H') k=k (.tuple []) H':=by
 simp only[ed,Option.bind_some];exact vJ h
 @[congr] theorem VP {H a:ae} {h bs:Option ae} {z:Nat} {k:aa->ae->O} (d:H=a) (e:h=bs) (b:cL=z):ed H h k=ed a bs k:=by rw[d,e]
def hk(H:ae)(r:Option (aa×bk))(k:aa->bk->ae->O):O:=match r with
 |some (v,b)=>k v b (H.push b)
 |none=>Y
def Vq{H:ae}(v:aa)(b:bk)(k:aa->bk->ae->O):hk H (D (v,b)) k=k v b (H.push b):=rfl
 @[congr] theorem VN {H a:ae} {m cE:Option (aa×bk)} {z:Nat} {k:aa->bk->ae->O} (d:H=a) (e:m=cE) (b:cL=z):hk H m k=hk a cE k:=by rw[d,e]
noncomputable def fi(call:ai)(H:ae)(r:aa)(name:String)(a:List aa)(k:aa->ae->O):O:=(hM P H r name a).bind λp=>au H (call p.1 p.2 H) k
def aI:Env:=λ_=>Y
def fu:List (List aa)->Option (List Int)
 |[]=>D []
 |[.int .i64 n]::es=>(fu es).map (n:: ·)
 |_=>Y
def ek(n:Int):List aa:=[.int .i64 n]
def bd:ai:=λf args H=>match f,args with
 |95,[.func (.func 97) [] [.ptr l 0 0]]=>(match H.get l with
  |some (.row _ 1 [[.ar]])=>D (.ar,H)
  |some (.row _ 1 [[.ag m i n 1 _]])=>(match du H m i n 1 with
   |some es=>(match fu es with
    |some xs=>if n<=1000000 then(match xs with
     |[]=>D (.ar,H)
     |_=>D (.ag H.next 0 n 1 Y,H.push (.row U 1 (xs.map ek))))else Y
    |none=>Y)
   |none=>Y)
  |_=>Y)
 |96,[.ar]=>D (.tuple [],H)
 |96,[.ag l 0 n 1 _]=>(match H.get l with
  |some (.row U 1 es)=>(match fu es with
   |some xs=>if es.length=n/\n<=1000000 then D (.tuple [],H.set l (.row U 1 ((xs.mergeSort λx y=>decide (x<=y)).map ek)))else Y
   |none=>Y)
  |_=>Y)
 |_,_=>Y
end Go.Proofs.YtmhhnnklfcbgfaaGreat
namespace Go.bN
section
variable {E:Env}{P:Program}{bd:ai}
def wH(d:dg P){G:ai}(l:bm E P G){N f:Nat}{args:List aa}{H H1:ae}{fn:Func}{c:Code}{ex:cB}{C:aX}{j:List aa}
  (a:P.funcs[f]? =D fn) (e:fn.body=D c) (p:bU (c5 P G) N c (aX.enter fn.ntmps args) H=D (ex,C,H1)) (t:∀id,ex≠ .exit id) (y:da P C H1 fn.results.toList=D j):b6 E P f args H (gm j) H1:=by
 intro ρ w xs m q n B next u
 have o:=wI (N:=N) ys (yt d.mixed l) c (d.yi _ _ _ a e);have s:(fn.name== "runtime.NumGoroutine")=false:=d.names fn (Array.mem_of_getElem? a);have v:(callFunc f xs.toArray).run P w= .ok (.enter f xs.toArray) w:=by
  unfold callFunc;simp[a,e];intro r;simp[r]at s
 unfold eF;rw[v];simp only
 refine calls_of_wp a e (o _ _ _ _ _ p ρ w _ _ m q (wF n fn.ntmps) λA bX z b h=> ?_);obtain⟨x,g,k⟩:=yu h.rel b y;have i:=u x z A k h;cases ex with
 |normal=>exact⟨b.none,x,g,i⟩
 |ret=>exact⟨b.none,x,g,i⟩
 |exit id=>exact absurd rfl (t id)
def fq(g:dg P){G:ai}(e:bm E P G){f:Nat}{args:List aa}{H:ae}{fn:Func}{c:Code}{M:Nat}{r:aa×ae}(k:P.funcs[f]? =D fn)(j:fn.body=D c)(l:dK fn.ntmps c=V)(m:Nat.ble args.length fn.ntmps=V)
  (h:aE P G M c (fH P fn.results.toList) [] (fH P fn.results.toList) (aP args) H=D r):b6 E P f args H r.1 r.2:=by
 have n:(aX.enter fn.ntmps args).size=fn.ntmps:=by have:=Nat.le_of_ble_eq_true m;simp only[aX.enter];omega
 rw[<-zZ fn.ntmps,AG c _ _ _ _ _ (by rw[n];exact l)]at h;unfold hC at h;have fin:∀(C:aX) (H':ae),fH P fn.results.toList C.get H'=D r->∃b,da P C H' fn.results.toList=D b/\r=(gm b,H'):=by
  intro C H' a;unfold fH at a;rw[sP]at a;cases i:da P C H' fn.results.toList with
  |none=>rw[i]at a;cases a
  |some b=>rw[i]at a;exact⟨b,rfl,(Option.some.inj a).symm⟩
 split at h
 ·rename_i C H' he;obtain⟨b,d,rfl⟩:=fin C H' h;exact wH g e k j he (λid=>by intro a;cases a) d
 ·cases h
 ·rename_i C H' he;obtain⟨b,d,rfl⟩:=fin C H' h;exact wH g e k j he (λid=>by intro a;cases a) d
 ·cases h
def Rel.ny{ρ:Env}{H:ae}{w i:World}(h:Rel ρ H w)(j:∀b,b<w.heap.size->i.heap[b]? =w.heap[b]?):Rel ρ H i:=by
 have key:∀b x,w.heap[b]? =D x->i.heap[b]? =D x:=λb x e=>by
  rw[j b ?_];exact e;exact(Array.getElem?_eq_some_iff.1 e).1
 refine⟨λl ro esz els e=> ?_,λl es e=> ?_,λl t esz els e=> ?_,h.apart⟩
 ·obtain⟨loc,a,d,c,t,k,f,g⟩:=h.row l ro esz els e;exact⟨loc,a,d,c,t,k,key _ _ f,g⟩
 ·obtain⟨loc,a,ents,clock,f,g⟩:=h.map l es e;exact⟨loc,a,ents,clock,key _ _ f,g⟩
 ·obtain⟨loc,a,d⟩:=h.bS l t esz els e;exact⟨loc,a,d.frame ρ.le_refl (j _ d.1.lt)⟩
def ae.hB(l:Nat):ae.empty.get l=none:=by
 cases h:ae.empty.get l with
 |none=>rfl
 |some b=>exact absurd (ae.dz h) (Nat.not_lt_zero l)
def nP(w:World):Rel (λ_=>Y) ae.empty w:=by
 refine⟨λl ro esz els e=> ?_,λl es e=> ?_,λl t esz els e=> ?_,λl a loc b _ _ _ h=> ?_⟩
 ·rw[ae.hB]at e;cases e
 ·rw[ae.hB]at e;cases e
 ·rw[ae.hB]at e;cases e
 ·cases h
def xX(b:Nat):¬cN (λ_=>Y) ae.empty b:=by
 rintro⟨l,loc,_,h,_⟩;cases h
def AA{g:Nat}{b:Bool}{ba:ae}(h:b6 (λ_=>Y) P g [] ae.empty (.bool b) ba)(H:ae):b6 E P g [] H (.bool b) H:=by
 intro ρ w xs f l i m next j
 cases i;refine h (λ_=>Y) w [] (nP w) ⟨λ_ _ _=>rfl,Env.le_refl _⟩ .nil (Nat.zero_le _) next λx e n k a=> ?_
 cases k;have d:∀b,b<w.heap.size->e.heap[b]? =w.heap[b]? :=λb c=>a.frame b c (xX b)
 exact j _ e ρ (.bool b) ⟨ρ.le_refl,bM _,λ_ _=>rfl,f.ny d,a.os,a.tape,a.output,a.size,λb c _=>d b c,λ_ h=> .inl h,λ_ _ _ h=>h⟩
end
end Go.bN
namespace Go.Proofs.YtmhhnnklfcbgfaaGreat
open Go.bN
def Gm(a:List Func):Bool:=a.all λfn=> !(fn.name== "runtime.NumGoroutine")
def Ax(a:List Func):Bool:=a.all λfn=>match fn.body with
 |some c=>dP c
 |none=>V
def JV{P:Program}(a:P.follows .mixedOrders=V)(b:Gm P.funcs.toList=V)(d:Ax P.funcs.toList=V):dg P:=by
 refine⟨a,λfn h=> ?_,λf fn c g e=> ?_⟩
 ·have:=List.all_eq_true.1 b fn (Array.mem_toList_iff.2 h);simpa using this
 ·have:=List.all_eq_true.1 d fn (Array.mem_toList_iff.2 (Array.mem_of_getElem? g));simpa [e]using this
set_option maxRecDepth 1000000
def aR:dg P:=JV j j j
end Go.Proofs.YtmhhnnklfcbgfaaGreat
namespace Go.bN
section
open Go.ChangeShapes Go.WideShapes Go.ChangeAt Go.RowKit
def rD(E:Env)(P:Program)(f:Nat)(args:List Value)(W:World):Prop:=∃(ρ:Env) (H:ae) (a:List aa) (H':ae),Rel ρ H W/\(∀l,¬H.rw l)/\(∀l,H.next<=l->ρ l=Y)/\E.le ρ/\H.next<=H'.next/\bb ρ a args/\b6 E P f a H (.bool V) H'
def FA{E:Env}{P:Program}{f:Nat}{fn:Func}{c:Code}{args:List Value}{W:World}(u:dg P)(m:P.funcs[f]? =D fn)(v:fn.body=D c)(h:rD E P f args W):
  Calls P f args.toArray W λe d=>e= .returned (.bool V)/\Below W.heap.size W d:=by
 obtain⟨ρ,H,F,H',n,o,p,t,q,r,s⟩:=h;have A:∀b,¬cN ρ H b:=by rintro b ⟨l,loc,j,_⟩;exact o l j
 have i:=s ρ W args n ⟨λl j _=>p l j,t⟩ r q (λx d=>x= .bool V/\Below W.heap.size W d) (λx d G C a=>by
  cases C;exact⟨rfl,a.os,a.tape,a.output,a.size,λk y=>a.frame k y (A k)⟩)
 have z:(fn.name== "runtime.NumGoroutine")=false:=u.names fn (Array.mem_of_getElem? m);have B:(callFunc f args.toArray).run P W= .ok (.enter f args.toArray) W:=by
  unfold callFunc;simp[m,v];intro w;simp[w]at z
 unfold eF at i;rw[B]at i;simp only at i;refine i.mono λe d g=> ?_
 split at g
 ·exact⟨by rw[g.1],g.2⟩
 ·exact g.elim
def yT{H:Type}{enc:TypeId×Value->H}{P:Program}{W g:World}(k:laidOutB P=V)(j:Below W.heap.size W g):∀{ts:List TypeId} {c:List Value} {a:List (DataW H)} {f:List MemPlace},(∀t∈ts,P.readableRec t=V/\t<P.types.size)->
  DataW.TrodAll enc P W 0 (λ_=>V) V ts c a f->∃l,DataW.TrodAll enc P g 0 (λb=>decide (b<W.heap.size)) V ts c a l
 |[],c,a,f,_,h=>by
  obtain⟨rfl,rfl,rfl⟩:=trodAll_nil h;exact⟨[],trodAll_mk0⟩
 |t::ts,c,a,f,e,h=>by
  obtain⟨v,w,d,u,p,q,rfl,rfl,rfl,i,n⟩:=trodAll_cons h;obtain⟨l,o⟩:=yT k j (λt s=>e t (List.mem_cons_of_mem _ s)) n;have r:∀x∈p,x.block<W.heap.size:=by obtain⟨m,hm⟩:=i;exact DataW.trod_lt m _ _ _ hm
  exact⟨_,trodAll_cons_mk (Below.trod k (e t (List.mem_cons_self ..)).1 (e t (List.mem_cons_self ..)).2 i j r) o⟩
def Fz{P:Program}{f:Nat}{args:List Value}{W:World}{a:List aa}{H':ae}(h:bb (λ_=>Y) a args)(b:b6 (λ_=>Y) P f a ae.empty (.bool V) H'):rD (λ_=>Y) P f args W:=
 have d:∀l,¬ae.empty.rw l:=λl c=>by
  rcases c with⟨e,s,h⟩|⟨es,h⟩|⟨t,e,s,h⟩<;>rw[ae.hB]at h<;>cases h
 ⟨λ_=>Y,ae.empty,a,H',nP W,d,λ_ _=>rfl,Env.le_refl _,Nat.zero_le _,h,b⟩
structure Seen(ρ:Env)(H:ae)(W:World):Prop where
 rel:Rel ρ H W
 ro:∀l,¬H.rw l
 top:∀l,H.next<=l->ρ l=none
def Seen.empty(W:World):Seen (λ_=>Y) ae.empty W:=
 have b:∀l,¬ae.empty.rw l:=λl a=>by
  rcases a with⟨e,s,h⟩|⟨es,h⟩|⟨t,e,s,h⟩<;>rw[ae.hB]at h<;>cases h
 ⟨nP W,b,λ_ _=>rfl⟩
def Seen.gH{ρ:Env}{H:ae}{W:World}(h:Seen ρ H W)(loc:Go.bN.Loc):ρ.le (ρ.b2 H.next loc):=λl a e=>by
 have:l≠H.next:=by rintro rfl;rw[h.top _ (bM _)]at e;cases e
 simp only[Env.b2,if_neg this];exact e
def cl.mono{ρ b:Env}(hle:ρ.le b){w:World}{loc:Go.bN.Loc}{ro:Bool}{esz:Nat}{els:List (List aa)}(h:cl ρ w loc ro esz els):cl b w loc ro esz els:=by
 obtain⟨f,c,t,d,g,k,a⟩:=h;refine⟨f,c,t,d,g,k,λi e he=>⟨(a i e he).1,λj v l=> ?_⟩⟩;obtain⟨m,x,n,o⟩:=(a i e he).2 j v l;exact⟨m,x,n,o.mono hle⟩
def Seen.push{ρ:Env}{H:ae}{W:World}(h:Seen ρ H W){loc:Go.bN.Loc}{esz:Nat}{els:List (List aa)}(g:cl ρ W loc V esz els):Seen (ρ.b2 H.next loc) (H.push (.row V esz els)) W:=by
 have hle:=h.gH loc;have c:∀l,¬(H.push (.row V esz els)).rw l:=by
  rintro l (⟨e,s,a⟩|⟨es,a⟩|⟨t,e,s,a⟩)
  ·rw[ae.nt]at a;split at a
   ·cases a
   ·exact h.ro l (.inl ⟨e,s,a⟩)
  ·rw[ae.nt]at a;split at a
   ·cases a
   ·exact h.ro l (.inr (.inl ⟨es,a⟩))
  ·rw[ae.nt]at a;split at a
   ·cases a
   ·exact h.ro l (.inr (.inr ⟨t,e,s,a⟩))
 refine⟨⟨λl ro e s a=> ?_,λl es a=> ?_,λl t e s a=>absurd (.inr (.inr ⟨t,e,s,a⟩)) (c l),λl j _ _ b=>absurd b (c l)⟩,c,λl b=> ?_⟩
 ·rw[ae.nt]at a;split at a
  ·rename_i b;cases a;exact⟨loc,by simp[Env.b2,b],g.mono hle⟩
  ·obtain⟨i,d,f⟩:=h.rel.row l ro e s a;exact⟨i,hle _ _ d,f.mono hle⟩
 ·exact absurd (.inr (.inl ⟨es,a⟩)) (c l)
 ·simp only[ae.dO]at b;have:l≠H.next:=bj
  simp only[Env.b2,if_neg this];exact h.top l bj
end
abbrev vL:=ai->List aa->ae->O
inductive cM where
 |leaf (n:Nat) (b:vL)
 |node (m:Nat) (a b:cM)
noncomputable section
def cM.run(bd:ai)(t:cM)(G:ai)(f:Nat)(args:List aa)(H:ae):O:=@cM.rec (λ_=>O) (λn b=> @Bool.rec (λ_=>O) (bd f args H) (b G args H) (Nat.beq f n)) (λm _ _ x y=> @Bool.rec (λ_=>O) y x (Nat.ble f m)) t
def wK(bd:ai)(t:cM)(n:Nat):ai:= @Nat.rec (λ_=>ai) (λ_ _ _=>Y) (λ_ a f args H=>t.run bd a f args H) n
def c_(l:List aa)(k:O):O:= @List.rec aa (λ_=>O) k (λ_ _ _=>Y) l
def a2(l:List aa)(k:aa->O):O:= @List.rec aa (λ_=>O) Y (λa r _=>c_ r (k a)) l
def aY(l:List aa)(k:aa->aa->O):O:= @List.rec aa (λ_=>O) Y (λa r _=>a2 r (k a)) l
def bK(l:List aa)(k:aa->aa->aa->O):O:= @List.rec aa (λ_=>O) Y (λa r _=>aY r (k a)) l
def cw(l:List aa)(k:aa->aa->aa->aa->O):O:= @List.rec aa (λ_=>O) Y (λa r _=>bK r (k a)) l
def eJ(l:List aa)(k:aa->aa->aa->aa->aa->O):O:= @List.rec aa (λ_=>O) Y (λa r _=>cw r (k a)) l
def vY{l:List aa}{k:O}{r}(h:c_ l k=D r):l=[]/\k=D r:=by
 cases l with
 |nil=>exact⟨rfl,h⟩
 |cons a l=>cases h
def vZ{l:List aa}{k:aa->O}{r}(h:a2 l k=D r):∃a,l=[a]/\k a=D r:=by
 cases l with
 |nil=>cases h
 |cons a l=>obtain⟨rfl,h⟩:=vY h;exact⟨a,rfl,h⟩
def v7{l:List aa}{k:aa->aa->O}{r}(h:aY l k=D r):∃a b,l=[a,b]/\k a b=D r:=by
 cases l with
 |nil=>cases h
 |cons a l=>obtain⟨b,rfl,h⟩:=vZ h;exact⟨a,b,rfl,h⟩
def v8{l:List aa}{k:aa->aa->aa->O}{r}(h:bK l k=D r):∃a b c,l=[a,b,c]/\k a b c=D r:=by
 cases l with
 |nil=>cases h
 |cons a l=>obtain⟨b,c,rfl,h⟩:=v7 h;exact⟨a,b,c,rfl,h⟩
def v_{l:List aa}{k:aa->aa->aa->aa->O}{r}(h:cw l k=D r):∃a b c d,l=[a,b,c,d]/\k a b c d=D r:=by
 cases l with
 |nil=>cases h
 |cons a l=>obtain⟨b,c,d,rfl,h⟩:=v8 h;exact⟨a,b,c,d,rfl,h⟩
def zW{l:List aa}{k:aa->aa->aa->aa->aa->O}{r}(h:eJ l k=D r):∃a b c d e,l=[a,b,c,d,e]/\k a b c d e=D r:=by
 cases l with
 |nil=>cases h
 |cons a l=>obtain⟨b,c,d,e,rfl,h⟩:=v_ h;exact⟨a,b,c,d,e,rfl,h⟩
def aQ(E:Env)(P:Program)(n:Nat)(b:vL):Prop:=∀G,bm E P G->∀args H v H',b G args H=D (v,H')->b6 E P n args H v H'
def cM.Ok(E:Env)(P:Program):cM->Prop
 | .leaf n b=>aQ E P n b
 | .node _ a b=>a.Ok E P/\b.Ok E P
section
variable {E:Env}{P:Program}{bd G:ai}
def cM.sT(i:bm E P bd)(g:bm E P G):∀{t:cM},t.Ok E P->∀{f:Nat} {args:List aa} {H:ae} {v:aa} {H':ae},t.run bd G f args H=D (v,H')->b6 E P f args H v H'
 | .leaf n b,e,f,args,H,v,H',h=>by
  have c: @Bool.rec (λ_=>O) (bd f args H) (b G args H) (Nat.beq f n)=D (v,H'):=h;cases d:Nat.beq f n with
  |false=>rw[d]at c;exact i _ _ _ _ _ c
  |true=>
   rw[d]at c;obtain rfl:=Nat.eq_of_beq_eq_true d;exact e G g _ _ _ _ c
 | .node m a b,e,f,args,H,v,H',h=>by
  have c: @Bool.rec (λ_=>O) (b.run bd G f args H) (a.run bd G f args H) (Nat.ble f m)=D (v,H'):=h;cases d:Nat.ble f m with
  |false=>rw[d]at c;exact cM.sT i g e.2 c
  |true=>rw[d]at c;exact cM.sT i g e.1 c
def bO(a:bm E P bd){t:cM}(b:t.Ok E P):∀n,bm E P (wK bd t n)
 |0=>λ_ _ _ _ _ h=>by cases h
 |n+1=>λ_ _ _ _ _ h=>cM.sT a (bO a b n) b h
abbrev gq(P:Program)(fn:Func)(G:ai)(N:Nat):b4:=aE P G N (aG fn) (fH P fn.results.toList) [] (fH P fn.results.toList)
structure gd(P:Program)(n:Nat)(fn:Func)(k:Nat):Prop where
 f:P.funcs[n]? =some fn
 b:fn.body=some (aG fn)
 d:dK fn.ntmps (aG fn)=true
 n:Nat.ble k fn.ntmps=true
variable {n N:Nat}{fn:Func}
def hK(c:dg P)(w:gd P n fn 0){s:ai->ae->O}(h:∀G H,gq P fn G N (aP []) H=s G H):aQ E P n λG l H=>c_ l (s G H):=by
 intro G a l H v H' e;obtain⟨rfl,e⟩:=vY e;exact fq (args:=[]) c a w.f w.b w.d w.n ((h G H).trans e)
def bz(g:dg P)(w:gd P n fn 1){s:ai->aa->ae->O}(h:∀G a H,gq P fn G N (aP [a]) H=s G a H):aQ E P n λG l H=>a2 l λa=>s G a H:=by
 intro G c l H v H' e;obtain⟨a,rfl,e⟩:=vZ e;exact fq (args:=[a]) g c w.f w.b w.d w.n ((h G a H).trans e)
def bq(g:dg P)(w:gd P n fn 2){s:ai->aa->aa->ae->O}(h:∀G a b H,gq P fn G N (aP [a,b]) H=s G a b H):aQ E P n λG l H=>aY l λa b=>s G a b H:=by
 intro G c l H v H' e;obtain⟨a,b,rfl,e⟩:=v7 e;exact fq (args:=[a,b]) g c w.f w.b w.d w.n ((h G a b H).trans e)
def cf(i:dg P)(w:gd P n fn 3){s:ai->aa->aa->aa->ae->O}(h:∀G a b c H,gq P fn G N (aP [a,b,c]) H=s G a b c H):aQ E P n λG l H=>bK l λa b c=>s G a b c H:=by
 intro G g l H v H' e;obtain⟨a,b,c,rfl,e⟩:=v8 e;exact fq (args:=[a,b,c]) i g w.f w.b w.d w.n ((h G a b c H).trans e)
def et(i:dg P)(w:gd P n fn 4){s:ai->aa->aa->aa->aa->ae->O}(h:∀G a b c d H,gq P fn G N (aP [a,b,c,d]) H=s G a b c d H):aQ E P n λG l H=>cw l λa b c d=>s G a b c d H:=by
 intro G g l H v H' e;obtain⟨a,b,c,d,rfl,e⟩:=v_ e;exact fq (args:=[a,b,c,d]) i g w.f w.b w.d w.n ((h G a b c d H).trans e)
def ss(i:dg P)(w:gd P n fn 5){s:ai->aa->aa->aa->aa->aa->ae->O}(h:∀G a b c d x H,gq P fn G N (aP [a,b,c,d,x]) H=s G a b c d x H):aQ E P n λG l H=>eJ l λa b c d x=>s G a b c d x H:=by
 intro G g l H v H' e;obtain⟨a,b,c,d,x,rfl,e⟩:=zW e;exact fq (args:=[a,b,c,d,x]) i g w.f w.b w.d w.n ((h G a b c d x H).trans e)
def sn(b:Bool)(aw:O):Bool:= @Option.rec _ (λ_=>Bool) U (λp=> @Prod.rec _ _ (λ_=>Bool) (λv _=>match v with
 | .bool c=>c==b
 |_=>U) p) aw
def D9{b:Bool}{aw:O}(h:sn b aw=V):∃H,aw=D (.bool b,H):=by
 match aw,h with
 |some (.bool c,H),h=>
  have:c=b:=by simpa [sn]using h
  exact⟨H,by rw[this]⟩
def en(a:bm E P bd){t:cM}(c:t.Ok E P){m f:Nat}{args:List aa}{H:ae}{b:Bool}(h:sn b (wK bd t m f args H)=V):∃H',b6 E P f args H (.bool b) H':=by
 obtain⟨H',e⟩:=D9 h;exact⟨H',bO a c m _ _ _ _ _ e⟩
end
end
def nd:List (List aa)->List (List aa)->Bool
 |[],[]=>V
 |a::us,b::c=>cZ.beq a b&&nd us c
 |_,_=>U
def wm:∀{a b:List (List aa)},nd a b=V->a=b
 |[],[],_=>rfl
 |[],_::_,h=>by cases h
 |_::_,[],h=>by cases h
 |a::us,b::c,h=>by
  simp only[nd,Bool.and_eq_true]at h;rw[cZ.beq_eq h.1,wm h.2]
def r1(aw:Option bk)(b:bk):Bool:=match aw,b with
 |some (.row r e els),.row bL a c=>(r==bL)&&(Nat.beq e a&&nd els c)
 |_,_=>U
def Aw{aw:Option bk}{b:bk}(h:r1 aw b=V):aw=D b:=by
 unfold r1 at h;split at h
 ·simp only[Bool.and_eq_true,beq_iff_eq]at h;obtain⟨rfl,a,c⟩:=h;rw[Nat.eq_of_beq_eq_true a,wm c]
 ·cases h
def eU:List (Nat×bk)->a6 bk
 |[]=> .leaf
 |p::a=>a6.put p.2 0 (eU a) p.1
def eT(ls:List (Nat×bk))(n:Nat):ae:=⟨eU ls,n⟩
def xT{l:Nat}{b:bk}:∀{ls:List (Nat×bk)},(eU ls).get l=D b->(l,b)∈ls
 |[],h=>by rw[eU,a6.gB]at h;cases h
 |p::a,h=>by
  by_cases e:p.1=l
  ·subst e;rw[eU,a6.put,a6.get,a6.ns]at h;cases h;simp
  ·have:(a6.put p.2 0 (eU a) p.1).get l=(eU a).get l:=a6.gD _ _ _ _ _ e;rw[eU,this]at h;exact List.mem_cons_of_mem _ (xT h)
def Gj{ls:List (Nat×bk)}{n l:Nat}{b:bk}(h:(eT ls n).get l=D b):(l,b)∈ls:=by
 unfold ae.get at h;split at h
 ·exact xT h
 ·cases h
def nu(H:ae)(ls:List (Nat×bk)):Bool:=ls.all λp=>r1 (H.get p.1) p.2
structure Sub(A B:ae):Prop where
 next:A.next=B.next
 get:∀l b,A.get l=some b->B.get l=some b
def yR{H:ae}{ls:List (Nat×bk)}{n:Nat}(h:nu H ls=V)(c:Nat.beq H.next n=V):Sub (eT ls n) H:=by
 refine⟨(Nat.eq_of_beq_eq_true c).symm,λl b a=> ?_⟩;unfold nu at h;rw[List.all_eq_true]at h;exact Aw (h _ (Gj a))
def Sub.rw{A B:ae}(h:Sub A B){l:Nat}(a:A.rw l):B.rw l:=by
 rcases a with⟨e,s,g⟩|⟨es,g⟩|⟨t,e,s,g⟩
 ·exact .inl ⟨e,s,h.get _ _ g⟩
 ·exact .inr (.inl ⟨es,h.get _ _ g⟩)
 ·exact .inr (.inr ⟨t,e,s,h.get _ _ g⟩)
def Sub.live{A B:ae}(h:Sub A B){l:Nat}(a:A.live l):B.live l:=by
 rcases a with⟨r,e,s,g⟩|⟨es,g⟩|⟨t,e,s,g⟩
 ·exact .inl ⟨r,e,s,h.get _ _ g⟩
 ·exact .inr (.inl ⟨es,h.get _ _ g⟩)
 ·exact .inr (.inr ⟨t,e,s,h.get _ _ g⟩)
def Sub.rel{ρ:Env}{A B:ae}{w:World}(h:Sub A B)(r:Rel ρ B w):Rel ρ A w:=
 ⟨λl ro esz els g=>r.row l ro esz els (h.get _ _ g),λl es g=>r.map l es (h.get _ _ g),λl t esz els g=>r.bS l t esz els (h.get _ _ g),λl e a b c d=>r.apart l e a b (h.rw c) (h.live d)⟩
def Sub.owned{ρ:Env}{A B:ae}{b:Nat}(h:Sub A B):cN ρ A b->cN ρ B b:=λ⟨l,loc,a,c,d⟩=>⟨l,loc,h.rw a,c,d⟩
def b6.narrow{E:Env}{P:Program}{g:Nat}{args:List aa}{v:aa}{H ba H1 e:ae}(h:b6 E P g args ba v H1)(a:Sub ba H)(c:Sub e H1):b6 E P g args H v e:=by
 intro ρ w xs f j i m next n
 refine h ρ w xs (a.rel f) (by rw[a.next,<-c.next];exact j) i (by rw[a.next,<-c.next];exact m) next λx q r p s=>n x q r p ⟨s.le,by have:=s.next;rw[a.next,<-c.next]at this;exact this,λl k=>s.cD l (by rw[a.next,<-c.next];exact k),c.rel s.rel,s.os,s.tape,s.output,s.size,λb d o=>s.frame b d λbs=>o (a.owned bs),λb d=>(s.own b (c.owned d)).imp a.owned id,λl esz els g=>a.get _ _ (s.ro l esz els (c.get _ _ g))⟩
structure bf where
 f:Nat
 args:List aa
 eV:Nat
 sv:List (Nat×bk)
 v:aa
 cF:Nat
 nC:List (Nat×bk)
def r6(aw:O)(v:aa)(n:Nat)(ls:List (Nat×bk)):Bool:=match aw with
 |some (w,H)=>aa.beq w v&&(Nat.beq H.next n&&nu H ls)
 |none=>U
def AD{aw:O}{v:aa}{n:Nat}{ls:List (Nat×bk)}(h:r6 aw v n ls=V):∃H,aw=D (v,H)/\Sub (eT ls n) H:=by
 unfold r6 at h;split at h
 ·rename_i w H;simp only[Bool.and_eq_true]at h;exact⟨H,by rw[aa.beq_eq h.1],yR h.2.2 h.2.1⟩
 ·cases h
def bf.Ok(E:Env)(P:Program)(s:bf):Prop:=b6 E P s.f s.args (eT s.sv s.eV) s.v (eT s.nC s.cF)
def bf.bR{E:Env}{P:Program}{s:bf}{G:ai}(a:bm E P G)(h:r6 (G s.f s.args (eT s.sv s.eV)) s.v s.cF s.nC=V):s.Ok E P:=by
 obtain⟨H,e,b⟩:=AD h;exact b6.narrow (a _ _ _ _ _ e) ⟨rfl,λ_ _ g=>g⟩ b
def bf.fits(s:bf)(f:Nat)(args:List aa)(H:ae):Bool:=Nat.beq s.f f&&(Nat.beq H.next s.eV&&(cZ.beq args s.args&&nu H s.sv))
def vB(bd:ai):List bf->ai
 |[],f,args,H=>bd f args H
 |s::a,f,args,H=>bif s.fits f args H then D (s.v,eT s.nC s.cF)else vB bd a f args H
def eb{E:Env}{P:Program}{bd:ai}(d:bm E P bd):∀{c:List bf},(∀s∈c,s.Ok E P)->bm E P (vB bd c)
 |[],_=>d
 |s::c,h=>by
  intro f args H v H' e;have b:(bif s.fits f args H then D (s.v,eT s.nC s.cF)else vB bd c f args H)=D (v,H'):=e;cases a:s.fits f args H with
  |true=>
   rw[a]at b;cases b;unfold bf.fits at a;simp only[Bool.and_eq_true]at a;obtain⟨i,j,k,l⟩:=a;obtain rfl:=Nat.eq_of_beq_eq_true i;rw[cZ.beq_eq k];exact b6.narrow (h s (by simp)) (yR l j) ⟨rfl,λ_ _ g=>g⟩
  |false=>
   rw[a]at b;exact eb d (λt m=>h t (by simp[m])) _ _ _ _ _ b

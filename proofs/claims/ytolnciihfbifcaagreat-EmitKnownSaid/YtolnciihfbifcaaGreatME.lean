/-
  Texts of one proof, laid together: Hv22 Hv23 Hv24 Base Hv25 Pk Hv26 Hk2 Hk3.
-/
import Derived.Test.YtolnciihfbifcaaGreatMD
import Derived.Test.YtolnciihfbifcaaGreatProg
import Derived.KernelRfl
import Derived.ProofKit
import Derived.OpenShut
import Derived.ShutString
import Derived.ChangeOld
import Derived.Below
import Derived.Carry
set_option linter.unusedVariables false
set_option linter.unusedSimpArgs false
set_option linter.defProp false
open Option renaming some→D,none→Y
open Bool renaming true→V,false→U
namespace Go.cV
abbrev O:=Option (aa×af)
abbrev bC:=Nat->aa
def eC(C:bC)(dst:Option Nat)(v:aa):bC:=match dst with
 |none=>C
 |some d=>λe=>bif Nat.beq e d then v else C e
def c3(C:bC):Operand->Option aa
 | .tmp t=>D (C t)
 | .const v=>qQ v
 | .global _=>Y
 | .func f=>D (.func (.func f) [] [])
def ki(C:bC):List Operand->Option (List aa)
 |[]=>D []
 |x::xs=>(c3 C x).bind λv=>(ki C xs).bind λa=>D (v::a)
def qc(C:bC):List (Nat×Operand)->Option (List (Nat×aa))
 |[]=>D []
 |(i,x)::xs=>(c3 C x).bind λv=>(qc C xs).bind λa=>D ((i,v)::a)
def qd(C:bC):Option Operand->Option (Option aa)
 |none=>D Y
 |some x=>(c3 C x).bind λv=>D (D v)
def aU(c:aa)(a b:Option aa):Option aa:=match c with
 | .bool t=>bif t then a else b
 |_=>Y
def xH(P:Program)(t:TypeId)(c:Bool)(a b:aa):Bool:=
 match a,b with
 | .nilIface,.nilIface=>c
 | .agg _,.agg _=> !P.eqGuardType P.depth t
 |_,_=>V
def al(P:Program)(op:BinOp)(t:TypeId)(c:Bool)(x y:aa):Option aa:=
 match x,y with
 | .int k a,.int d b=>
  (match op with
  | .shl=>nV .shl k a b
  | .shr=>nV .shr k a b
  |op=>if k=d then iV op k a b else Y)
 | .str a,.str b=>CW op a b
 |x,y=>
  (match op with
  | .eql=>if xH P t c x y then(jE P 10000 t x y).map .bool else Y
  | .neq=>if xH P t c x y then(jE P 10000 t x y).map λb=> .bool (!b)else Y
  |_=>Y)
def P7(P:Program)(t:TypeId)(x y:Operand)(u v:aa):xH P t (isConst x||isConst y) u v=mH P t x y u v:=by
 unfold xH mH;cases u<;>cases v<;>rfl
def QL(P:Program)(op:BinOp)(t:TypeId)(x y:Operand)(u v:aa):al P op t (isConst x||isConst y) u v=p1 P op t x y u v:=by
 unfold al p1;simp only[P7];cases u<;>cases v<;>cases op<;>rfl
def xL(P:Program)(aA:Op)(C:bC):Option aa:=
 match aA with
 | .move x=>c3 C x
 | .assign x=>c3 C x
 | .pick c a b=>(c3 C c).bind λu=>aU u (c3 C a) (c3 C b)
 | .build t n=>(qc C n.toList).bind (bo P t)
 | .nilCheck x=>(c3 C x).bind aL
 | .binOp op t x y _=>(c3 C x).bind λu=>(c3 C y).bind λv=>al P op t (isConst x||isConst y) u v
 | .unOp op _ x=>(c3 C x).bind (bu op)
 | .convert s d x=>(c3 C x).bind (p4 P s d)
 | .makeInterface t x=>(c3 C x).bind (jF P t)
 | .makeFunc fn f c=>(ki C f.toList).bind λe=>(ki C c.toList).bind λcs=>D (.func fn e cs)
 | .slice t x j g k=>(c3 C x).bind λv=>(qd C j).bind λl=>(qd C g).bind λh=>(qd C k).bind λm=>fK P t v l h m
 | .fieldAddr t x f=>(c3 C x).bind λv=>ak P t v f
 | .field t x f=>(c3 C x).bind λv=>dc P t v f
 | .indexAddr t x i=>(c3 C x).bind λu=>(c3 C i).bind λv=>aH P t u v
 | .index t x i=>(c3 C x).bind λu=>(c3 C i).bind λv=>fv P t u v
 | .extract x i=>(c3 C x).bind λv=>bJ v i
 | .typeAssert x _ t ok=>(c3 C x).bind (p0 P t ok)
 | .call c=>match c.callee with
  | .builtin b=>(ki C c.args.toList).bind (a6 P .empty b c.argTypes.toList)
  |_=>Y
 |_=>Y
def nR(P:Program)(aA:Op)(C:bC)(H:af):Option aa:=
 match aA with
 | .load t x=>(c3 C x).bind (ah P H t)
 | .lookup t x k ok=>(c3 C x).bind λu=>(c3 C k).bind λv=>iG P H t u v ok
 | .convert s d x=>(c3 C x).bind (p3 P H s d)
 | .call c=>match c.callee with
  | .builtin b=>(ki C c.args.toList).bind (a6 P H b c.argTypes.toList)
  |_=>Y
 |_=>Y
def bl(l:Nat)(v:aa):Option (aa×an):=bif v.cells.all aa.one then D (.ptr l 0 0,.row U v.cells.length [v.cells])else Y
def xz(ot:Option TypeId)(l:Nat)(v:aa):Option (aa×an):=bif v.cells.all aa.one then D (.ptr l 0 0,eL ot v.cells.length [v.cells])else Y
def bd(P:Program)(l:Nat)(t:TypeId)(len:Nat)(parts:List (Nat×aa)):Option (aa×an):=
 match P.underlying t with
 |some (.slice e)=>
  (match cT P e,gv P e with
  |some a,D z=>
   bif decide (len*a<=16777216/\z.cells.length=a/\z.cells.all aa.one=V)then
    (mA a (List.replicate len z.cells) parts).bind λels=>D (.ag l 0 len a (D len),.row U a els)
   else Y
  |_,_=>Y)
 |_=>Y
def DI(P:Program)(aA:Op)(C:bC)(l:Nat):Option (aa×an):=
 match aA with
 | .alloc t=>(gv P t).bind (xz (oJ P t) l)
 | .box t x=>(c3 C x).bind (xz (oJ P t) l)
 | .buildSlice t n a=>(qc C a.toList).bind (bd P l t n)
 | .makeMap _ Y=>D (.map l,.map [])
 | .makeSlice t x c=>(c3 C x).bind λu=>(c3 C c).bind λv=>fP (gu P ⟨.leaf,l⟩ t u v) l
 |_=>Y
def DL(P:Program)(aA:Op)(C:bC)(H:af):Option (aa×af):=
 match aA with
 | .store t x y=>(c3 C x).bind λu=>(c3 C y).bind λv=>(aC P H t u v).bind λH'=>D (.tuple [],H')
 | .mapUpdate t m k x=>(c3 C m).bind λu=>(c3 C k).bind λv=>(c3 C x).bind λz=>(kf P H t u v z).bind λH'=>D (.tuple [],H')
 | .insert t m k x=>(c3 C m).bind λu=>(c3 C k).bind λv=>(c3 C x).bind λz=>(kf P H t u v z).bind λH'=>D (.tuple [],H')
 | .call c=>match c.callee,c.args.toList with
  | .builtin .append,[s,x]=>(c3 C s).bind λu=>(c3 C x).bind λv=>bx P H c.argTypes.toList u v
  | .builtin .clear,[x]=>(c3 C x).bind λu=>(nA P H c.argTypes.toList u).bind λH'=>D (.tuple [],H')
  |_,_=>Y
 |_=>Y
def Du(f:aa)(a:List aa):Option (Nat×List aa):=match f with
 | .func (.func g) first captured=>D (g,first++a++captured)
 |_=>Y
def qN(P:Program)(H:af)(r:aa)(name:String)(a:List aa):Option (Nat×List aa):=(nD P H r name).bind λp=>D (p.1,p.2::a)
def DD(P:Program)(H:af)(C:bC)(c:Call):Option (Nat×List aa):=
 match c.callee with
 | .value f=>(c3 C f).bind λu=>(ki C c.args.toList).bind λa=>Du u a
 | .invoke r name=>(c3 C r).bind λu=>(ki C c.args.toList).bind λa=>qN P H u name a
 |_=>Y
def bE(a b:Option aa)(k:K->O):O:=match a with
 |some v=>k (.pure v)
 |none=>b.bind λv=>k (.read v)
def fu(r:Option (aa×an))(k:K->O):O:=match r with
 |some (v,b)=>k (.new v b)
 |none=>Y
def bq(H:af)(r:O)(k:K->O):O:=match r with
 |some (v,H')=>bif decide (H.next<=H'.next)then k (.bs v H')else Y
 |none=>Y
def xJ(P:Program)(call:ai)(aA:Op)(C:bC)(H:af)(k:K->O):O:=
 match cls aA with
 | .pure=>(xL P aA C).bind λv=>k (.pure v)
 | .read=>(nR P aA C H).bind λv=>k (.read v)
 | .both=>bE (xL P aA C) (nR P aA C H) k
 | .new=>fu (DI P aA C H.next) k
 | .write=>bq H (DL P aA C H) k
 | .call=>match aA with
  | .call c=>(DD P H C c).bind λp=>bq H (call p.1 p.2 H) k
  |_=>Y
def aM(b:aa)(want:Bool)(m:(K->O)->O)(k:K->O):O:=match b with
 | .bool t=>bif t==want then m k else k .skip
 |_=>k .skip
def xK(P:Program)(call:ai)(ops:Array Oper)(aA:Oper)(C:bC)(H:af)(k:K->O):O:=
 match aA.guard with
 |none=>xJ P call aA.op C H k
 |some (j,want)=>match ops[j]? with
  |some q=>(match q.dst with
   |some d=>aM (C d) want (xJ P call aA.op C H) k
   |none=>k .skip)
  |none=>k .skip
def CV(P:Program)(call:ai)(ops:Array Oper):List Oper->bC->af->(bC->af->O)->O
 |[],C,H,k=>k C H
 |aA::os,C,H,k=>xK P call ops aA C H λx=>CV P call ops os (eC C aA.dst x.val) (x.heap H) k
structure iE where
 i:Nat
 k:K
 rd:af->Option aa
def nN(ms:List Nat):List iE->List Nat->Bool
 |[],_=>V
 |t::ts,ids=>match t.k with
  | .bs _ _=>ids.all (λj=>bH ms j t.i)&&nN ms ts (t.i::ids)
  | .new _ _=>nN ms ts (t.i::ids)
  |_=>nN ms ts ids
def aJ(r:Option aa)(v:aa):Bool:=match r with
 |some u=>aa.beq u v
 |none=>U
def nv(ms:List Nat)(rd:af->Bool)(i:Nat):List iE->af->Bool
 |[],H=>rd H
 |t::ts,H=>bif t.k.eH then(bH ms t.i i||rd H)&&(bH ms i t.i||nv ms rd i ts (t.k.heap H))else nv ms rd i ts H
def nL(ms:List Nat)(i:Nat):List iE->Bool->Bool
 |[],_=>U
 |t::ts,s=>match t.k with
  | .new _ _=>(s&&bH ms t.i i&&ts.all λu=>lT u.k)||nL ms i ts (s|| !bH ms t.i i)
  | .bs _ _=>nL ms i ts (s|| !bH ms t.i i)
  |_=>nL ms i ts s
def mV(ms:List Nat)(rd:af->Bool)(i:Nat):List iE->af->Bool->Bool
 |[],_,_=>U
 |t::ts,H,s=>match t.k with
  | .new _ b=>bif s&&bH ms t.i i&&ts.all (λu=>lT u.k)then rd (H.push b).only||mV ms rd i ts (H.push b) (s|| !bH ms t.i i)else mV ms rd i ts (H.push b) (s|| !bH ms t.i i)
  | .bs _ H'=>mV ms rd i ts H' (s|| !bH ms t.i i)
  |_=>mV ms rd i ts H s
def Ib(ms:List Nat)(rd:af->Bool)(i:Nat)(T:List iE)(H:af):Bool:=bif nL ms i T U then nv ms rd i T H||mV ms rd i T H U else nv ms rd i T H
def C2(ms:List Nat)(a:List Nat)(T:List iE)(H:af):List iE->Bool
 |[]=>V
 |t::ts=>(match t.k with
  | .read v=>a.contains t.i||Ib ms (λH=>aJ (t.rd H) v) t.i T H
  |_=>V)&&C2 ms a T H ts
def dF(ms:List Nat)(a:List Nat)(T:List iE)(H:af):Bool:=nN ms T []&&C2 ms a T H T
def nJ(P:Program)(call:ai)(ops:Array Oper):List Nat->bC->af->(List iE->bC->af->O)->O
 |[],C,H,k=>k [] C H
 |i::is,C,H,k=>match ops[i]? with
  |none=>Y
  |some aA=>xK P call ops aA C H λx=>nJ P call ops is (eC C aA.dst x.val) (x.heap H) λT a2 H'=>k (⟨i,x,nR P aA.op C⟩::T) a2 H'
def CY(ops:Array Oper):List Nat:=(order ops).filter (hD ops (bF ops) (order ops))
def quiet(ops:Array Oper):Bool:=ops.toList.all λaA=> !mI aA.op
def xt(ms:List Nat)(a:List Nat)(T:List iE)(H:af):List iE->Bool
 |[]=>V
 |t::ts=>(match t.k with
  | .read v=>a.contains t.i||nv ms (λH=>aJ (t.rd H) v) t.i T H
  |_=>V)&&xt ms a T H ts
def Nk(u v:aa):Bool:=match u,v with
 | .ptr l _ _,.ptr m _ _=> !Nat.beq l m
 |_,_=>U
def Il(ops:Array Oper)(a b:Nat)(C:bC):Bool:=match ih ops a,ih ops b with
 |some (_,c,_),D (_,ad,_)=>(match c3 C c,c3 C ad with
  |some u,D v=>Nk u v
  |_,_=>U)
 |_,_=>U
def aq_(ops:Array Oper)(a b:Nat)(C:a8):Il ops a b C.get=pU ops a b C:=by
 have c:∀x,c3 C.get x=br C x:=λx=>by cases x<;>rfl
 unfold Il pU;cases ih ops a with
 |none=>rfl
 |some d=>
  obtain⟨ta,f,g⟩:=d;cases ih ops b with
  |none=>rfl
  |some e=>
   obtain⟨tb,ad,h⟩:=e;simp only[c,ze];cases br C f with
   |none=>rfl
   |some u=>
    cases br C ad with
    |none=>cases u<;>rfl
    |some v=>cases u<;>cases v<;>rfl
def Fk(P:Program)(call:ai)(ops:Array Oper)(draw:Bool)(C:bC)(H:af)(k:bC->af->O):O:=
 match draw with
 |false=>CV P call ops ops.toList C H k
 |true=>match pV ops (order ops)with
  |some (a,b)=>nJ P call ops (order ops) C H λT a2 H'=>bif Il ops a b a2&&xt (bF ops) (CY ops) T H T then k a2 H' else Y
  |none=>bif quiet ops then nJ P call ops (order ops) C H λ_ a2 H'=>k a2 H' else
   nJ P call ops (order ops) C H λT a2 H'=>bif dF (bF ops) (CY ops) T H then k a2 H' else Y
def ay(c:Option aa)(a b:O):O:=match c with
 |some (.bool t)=>bif t then a else b
 |_=>Y
abbrev eF:=bC->af->O
def look(i:Nat):List (Nat×eF)->eF
 |[],_,_=>Y
 |(j,k)::a,C,H=>bif Nat.beq i j then k C H else look i a C H
def mK(b:eF->eF):Nat->eF
 |0,_,_=>Y
 |n+1,C,H=>b (λC H=>mK b n C H) C H
def aD(P:Program)(call:ai)(N:Nat):Code->eF->List (Nat×eF)->eF->eF
 | .skip,e,_,_,C,H=>e C H
 | .region _ ops d,e,_,_,C,H=>Fk P call ops d C H e
 | .seq a b,e,g,f,C,H=>aD P call N a (λC H=>aD P call N b e g f C H) g f C H
 | .cond c a b,e,g,f,C,H=>ay (c3 C c) (aD P call N a e g f C H) (aD P call N b e g f C H)
 | .block id b,e,g,f,C,H=>aD P call N b e ((id,e)::g) f C H
 | .loop b,_,g,f,C,H=>mK (λe C H=>aD P call N b e g f C H) N C H
 | .exit id,_,g,_,C,H=>look id g C H
 | .ret,_,_,f,C,H=>f C H
 | .label _,e,_,_,C,H=>e C H
 |_,_,_,_,_,_=>Y
def oO(P:Program)(H:af)(C:bC):List ResultVar->(List aa->O)->O
 |[],k=>k []
 | .tmp t::rs,k=>oO P H C rs λb=>k (C t::b)
 | .cell a t::rs,k=>(ah P H t (C a)).bind λv=>oO P H C rs λb=>k (v::b)
def mY(P:Program)(rs:List ResultVar):eF:=λC H=>oO P H C rs λa=>D (nE a,H)
def aO:List aa->bC
 |[],_=> .tuple []
 |v::_,0=>v
 |_::a,n+1=>aO a n
section
variable {P:Program}{aY:ai}{call:ai}{C a2:a8}{H:af}
def jW(x:Operand):c3 C.get x=br C x:=by cases x<;>rfl
def qe:∀xs:List Operand,ki C.get xs=ht C xs
 |[]=>rfl
 |x::xs=>by
  simp only[ki,ht,jW,qe xs];cases br C x<;>cases ht C xs<;>rfl
def DK:∀xs:List (Nat×Operand),qc C.get xs=iH C xs
 |[]=>rfl
 |(i,x)::xs=>by
  simp only[qc,iH,jW,DK xs];cases br C x<;>cases iH C xs<;>rfl
def Ry(x:Option Operand):qd C.get x=jG C x:=by
 cases x with
 |none=>rfl
 |some x=>simp only[qd,jG,jW];cases br C x<;>rfl
def Jj(aA:Op):xL P aA C.get=h9 P aA C:=by
 cases aA<;>simp only[xL,h9,jW,qe,DK,Ry,QL]
 ·rename_i c a b;cases d:br C c with
  |none=>rfl
  |some v=>cases v<;>first|rfl|(rename_i t;cases t<;>rfl)
 ·rename_i c;cases c.callee<;>rfl
def xM(aA:Op):nR P aA C.get H=ho P aA C H:=by
 cases aA<;>simp only[nR,ho,jW,qe]
 ·rename_i c;cases c.callee<;>rfl
def EC(v:aa)(l:Nat)(b:an)(a:b.jJ=V):fP (D (v,af.push ⟨.leaf,l⟩ b)) l=D (v,b):=by
 unfold fP;simp only[af.jP,if_true];have:(af.push ⟨.leaf,l⟩ b).get l=D b:=af.hv ⟨.leaf,l⟩ b;rw[this];simp[a]
def acq(ot:Option TypeId)(esz:Nat)(els:List (List aa)):(eL ot esz els).jJ=true:=by cases ot<;>rfl
def IV(ot:Option TypeId)(l:Nat)(v:aa):xz ot l v=fP (nz ot ⟨.leaf,l⟩ v) l:=by
 unfold xz nz;by_cases h:v.cells.all aa.one=V
 ·rw[h,if_pos rfl];exact(EC _ _ _ (acq _ _ _)).symm
 ·rw[if_neg h];simp only[Bool.not_eq_true]at h;rw[h];rfl
def aq0(l:Nat)(t:TypeId)(n:Nat)(a:List (Nat×aa)):bd P l t n a=fP (p2 P ⟨.leaf,l⟩ t n a) l:=by
 unfold bd p2;cases hu:P.underlying t with
 |none=>rfl
 |some d=>
  cases d<;>try rfl
  rename_i e;simp only
  cases c:cT P e with
  |none=>rfl
  |some b=>
  cases f:gv P e with
  |none=>rfl
  |some z=>
   simp only
   by_cases h:n*b<=16777216/\z.cells.length=b/\z.cells.all aa.one=V
   ·rw[if_pos h,decide_eq_true h];simp only[kh];cases mA b (List.replicate n z.cells) a with
    |none=>rfl
    |some els=>exact(EC _ _ _ rfl).symm
   ·rw[if_neg h,decide_eq_false h];rfl
def Rx(aA:Op)(l:Nat):DI P aA C.get l=iQ P aA C l:=by
 unfold iQ;cases aA<;>simp only[DI,mz,jW,DK]<;>try rfl
 ·rename_i t;unfold xw;cases gv P t with
  |none=>rfl
  |some v=>exact IV _ l v
 ·rename_i t x;cases br C x with
  |none=>rfl
  |some v=>exact IV _ l v
 ·rename_i t n a;cases iH C a.toList with
  |none=>rfl
  |some v=>exact aq0 l t n v
 ·rename_i t r;cases r with
  |none=>exact(EC _ _ _ rfl).symm
  |some r=>rfl
 ·rename_i t x c;cases br C x with
  |none=>rfl
  |some u=>cases br C c<;>rfl
def map_bind{α β:Type}(x:Option α)(f:α->β):x.bind (λa=>D (f a))=x.map f:=by cases x<;>rfl
def Rz(aA:Op):DL P aA C.get H=iR P aA C H:=by
 cases aA<;>simp only[DL,iR,jW,map_bind]
 ·rename_i c;cases d:c.callee with
  |builtin b=>
   cases a:c.args.toList with
   |nil=>cases b<;>rfl
   |cons s r=>
    cases r with
    |nil=>cases b<;>rfl
    |cons x r=>cases r<;>cases b<;>rfl
  |value f=>rfl
  |invoke r m=>rfl
def QW(c:Call):DD P H C.get c=kd P H C c:=by
 unfold DD kd;cases h:c.callee with
 |value f=>
  simp only[jW,qe];cases br C f with
  |none=>rfl
  |some v=>
   cases d:ht C c.args.toList with
   |none=>
    simp only[Option.bind_some,Option.bind_none];split<;>first|rfl|(simp_all;done)
   |some e=>
    simp only[Option.bind_some];unfold Du;split
    ·rename_i g first captured;rfl
    ·rename_i a;split
     ·rename_i g first captured he
      simp only[a7]at he;exact absurd he (a _ _ _)
     ·rfl
 |invoke r m=>
  simp only[jW,qe];cases br C r with
  |none=>rfl
  |some v=>
   simp only[Option.bind_some];cases d:ht C c.args.toList with
   |none=>cases nD P H v m<;>rfl
   |some e=>
    simp only[Option.bind_some,qN];cases nD P H v m<;>rfl
 |builtin b=>rfl
def Jg(aA:Op)(k:K->O):xJ P call aA C.get H k=(h4 P call aA C H).bind k:=by
 unfold xJ h4;cases d:cls aA with
 |pure=>simp only[Jj];cases h9 P aA C<;>rfl
 |read=>simp only[xM];cases ho P aA C H<;>rfl
 |both=>
  simp only[Jj,xM];unfold bE;cases h9 P aA C with
  |some v=>rfl
  |none=>cases ho P aA C H<;>rfl
 |new=>
  simp only[Rx];unfold fu;cases iQ P aA C H.next<;>rfl
 |write=>
  simp only[Rz];unfold bq;cases h:iR P aA C H with
  |none=>rfl
  |some r=>
   obtain⟨v,H'⟩:=r;simp only[jw];by_cases a:H.next<=H'.next
   ·rw[if_pos a,decide_eq_true a];rfl
   ·rw[if_neg a,decide_eq_false a];rfl
 |call=>
  cases aA<;>try rfl
  rename_i c;simp only[QW];cases kd P H C c with
  |none=>rfl
  |some p=>
   obtain⟨g,b⟩:=p;simp only[Option.bind_some];unfold bq;cases h:call g b H with
   |none=>rfl
   |some r=>
    obtain⟨v,H'⟩:=r;simp only[jw];by_cases a:H.next<=H'.next
    ·rw[if_pos a,decide_eq_true a];rfl
    ·rw[if_neg a,decide_eq_false a];rfl
def Jh(ops:Array Oper)(aA:Oper)(k:K->O):xK P call ops aA C.get H k=(fJ P call ops aA C H).bind k:=by
 unfold xK fJ h_;cases b:aA.guard with
 |none=>exact Jg aA.op k
 |some p=>
  obtain⟨j,want⟩:=p;simp only
  cases e:ops[j]? with
  |none=>rfl
  |some q=>
   simp only
   cases a:q.dst with
   |none=>rfl
   |some d=>
    simp only
    cases f:C.get d<;>try rfl
    rename_i t;simp only[aM];cases c:(t==want)with
    |true=>simp only[kh];exact Jg aA.op k
    |false=>rfl
def OB{dst:Option Nat}{v:aa}(h:C.put dst v=D a2):eC C.get dst v=a2.get:=by
 funext e
 rw[a8.nT h];cases dst with
 |none=>simp[eC]
 |some d=>
  simp only[eC];by_cases he:e=d
  ·subst he;simp[Nat.beq_refl]
  ·have a:Nat.beq e d=false:=by rw[<-Bool.not_eq_true,Nat.beq_eq];exact he
   rw[a];simp[Ne.symm he]
def mG(n:Nat)(aA:Oper):Bool:=match aA.dst with
 |none=>V
 |some d=>decide (d<n)
def NU{aA:Oper}(h:mG C.size aA=V)(v:aa):∃a2,C.put aA.dst v=D a2/\a2.size=C.size:=by
 unfold mG at h;cases a:aA.dst with
 |none=>exact⟨C,rfl,rfl⟩
 |some d=>
  rw[a]at h;exact⟨{C with t:=bf.put v (d+1) C.t d},by simp only[a8.put];rw[if_pos (of_decide_eq_true h)],rfl⟩
def N8(ops:Array Oper)(k:bC->af->O):∀(os:List Oper) (C:a8) (H:af),os.all (mG C.size)=V->
  CV P call ops os C.get H k=(iN P call ops os C H).bind λp=>k p.1.get p.2
 |[],C,H,_=>rfl
 |aA::os,C,H,h=>by
  simp only[List.all_cons,Bool.and_eq_true]at h;simp only[CV,iN,Jh];cases c:fJ P call ops aA C H with
  |none=>rfl
  |some x=>
   obtain⟨a2,a,b⟩:=NU h.1 x.val;simp only[Option.bind_some,a,OB a];exact N8 ops k os a2 _ (by rw[b];exact h.2)
def bg.c(P:Program)(t:bg):iE:=⟨t.i,t.k,nR P t.aA.op t.C.get⟩
def I9(ms:List Nat):∀(T:List bg) (ids:List Nat),nN ms (T.map (bg.c P)) ids=ia ms T ids
 |[],_=>rfl
 |t::T,ids=>by
  simp only[List.map_cons,nN,ia,bg.c];cases t.k<;>simp only[I9 ms T]
def C0(ms:List Nat)(rd:af->Bool)(i:Nat):∀(T:List bg) (H:af),nv ms rd i (T.map (bg.c P)) H=fh ms rd i T H
 |[],_=>rfl
 |t::T,H=>by
  simp only[List.map_cons,nv,fh,bg.c];cases t.k.eH
  ·simp only[nM];exact C0 ms rd i T H
  ·simp only[kh,if_true];rw[C0 ms rd i T]
def IY(ms:List Nat)(i:Nat):∀(T:List bg) (s:Bool),nL ms i (T.map (bg.c P)) s=k3 ms i T s
 |[],_=>rfl
 |t::T,s=>by
  simp only[List.map_cons,nL,k3,bg.c];cases t.k<;>simp only[IY ms i T,List.all_map]<;>rfl
def Nn(ms:List Nat)(rd:af->Bool)(i:Nat):∀(T:List bg) (H:af) (s:Bool),mV ms rd i (T.map (bg.c P)) H s=jO ms rd i T H s
 |[],_,_=>rfl
 |t::T,H,s=>by
  simp only[List.map_cons,mV,jO,bg.c];cases t.k<;>simp only[Nn ms rd i T,List.all_map]<;>rfl
def aqX(ms:List Nat)(rd:af->Bool)(i:Nat)(T:List bg)(H:af):Ib ms rd i (T.map (bg.c P)) H=nu ms rd i T H:=by
 simp only[Ib,nu,IY,Nn,C0]
def OD(ms:List Nat)(b:List Nat)(a:Nat->Bool)(T:List bg)(H:af):∀(S:List bg),(∀t∈S,b.contains t.i=a t.i)->C2 ms b (T.map (bg.c P)) H (S.map (bg.c P))=jB P ms a T H S
 |[],_=>rfl
 |t::S,h=>by
  simp only[List.map_cons,C2,jB,OD ms b a T H S λt d=>h t (by simp[d])]
  congr 1
  simp only[bg.c,h t (by simp)];cases t.k<;>try rfl
  simp only[aqX]
  congr 2
  funext H
  simp only[aJ,iL,xM];cases ho P t.aA.op t.C H<;>rfl
def OG(ms:List Nat)(b:List Nat)(a:Nat->Bool)(T:List bg)(H:af):∀(S:List bg),(∀t∈S,b.contains t.i=a t.i)->xt ms b (T.map (bg.c P)) H (S.map (bg.c P))=mw P ms a T H S
 |[],_=>rfl
 |t::S,h=>by
  simp only[List.map_cons,xt,mw,OG ms b a T H S λt d=>h t (by simp[d])]
  congr 1
  simp only[bg.c,h t (by simp)];cases t.k<;>try rfl
  simp only[C0]
  congr 2
  funext H
  simp only[aJ,iL,xM];cases ho P t.aA.op t.C H<;>rfl
def NV(ms:List Nat):∀(T:List bg) (ids:List Nat),(∀t∈T,t.k.eH=U)->ia ms T ids=V
 |[],_,_=>rfl
 |t::T,ids,h=>by
  have a:=h t (by simp);simp only[ia];have c:=NV ms T ids λu hu=>h u (by simp[hu])
  cases b:t.k<;>rw[b]at a<;>first|exact c|(cases a;done)
def NW(ms:List Nat)(a:Nat->Bool)(T:List bg)(H:af):∀(S:List bg),(∀t∈S,a t.i=V)->jB P ms a T H S=V
 |[],_=>rfl
 |t::S,h=>by
  simp only[jB,h t (by simp),NW ms a T H S λt b=>h t (by simp[b]),Bool.true_or,Bool.and_true];cases t.k<;>rfl
def p8(ops:Array Oper):∀(is:List Nat) (C:a8) (H:af) (k:List iE->bC->af->O),ops.toList.all (mG C.size)=V->
  nJ P call ops is C.get H k=(canRun P call ops is C H).bind λp=>k (p.1.map (bg.c P)) p.2.1.get p.2.2
 |[],C,H,k,_=>rfl
 |i::is,C,H,k,h=>by
  simp only[nJ,canRun];cases d:ops[i]? with
  |none=>rfl
  |some aA=>
   simp only[Jh];cases f:fJ P call ops aA C H with
   |none=>rfl
   |some x=>
    have hm:mG C.size aA=true:=by
     rw[List.all_eq_true]at h;exact h aA (by have:=Array.mem_of_getElem? d;simpa using this)
    obtain⟨a2,a,b⟩:=NU hm x.val;simp only[Option.bind_some,a,OB a];rw[p8 ops is a2 _ _ (by rw[b];exact h)];cases canRun P call ops is a2 (x.heap H)with
    |none=>rfl
    |some p=>obtain⟨T,e,H1⟩:=p;rfl
def af0(ops:Array Oper)(d:Bool)(k:bC->af->O)(h:ops.toList.all (mG C.size)=V):Fk P call ops d C.get H k=(ic P call ops d C H).bind λp=>k p.1.get p.2:=by
 unfold Fk ic;cases d with
 |false=>exact N8 ops k _ C H h
 |true=>
  simp only
  rw[p8 ops _ C H _ h,p8 ops _ C H _ h];cases e:canRun P call ops (order ops) C H with
  |none=>
   cases pV ops (order ops)with
   |none=>cases quiet ops<;>rfl
   |some q=>exact p8 ops _ C H _ h|>.trans (by rw[e];rfl)
  |some p=>
   obtain⟨T,n,H1⟩:=p;have u:=(iS e).1;have w:∀t∈T,t.i∈order ops:=λt c=>by rw[<-u];exact List.mem_map.2 ⟨t,c,rfl⟩
   have m:∀t∈T,(CY ops).contains t.i=hD ops (bF ops) (order ops) t.i:=λt c=>by
    unfold CY;rw[Bool.eq_iff_iff,List.contains_iff_mem,List.mem_filter];exact⟨λh=>h.2,λh=>⟨w t c,h⟩⟩
   cases y:pV ops (order ops)with
   |some q=>
    obtain⟨a,b⟩:=q;refine(p8 ops _ C H _ h).trans ?_;rw[e];simp only[Option.bind_some,aq_,OG _ _ _ T H T m];cases pU ops a b n&&mw P (bF ops) (hD ops (bF ops) (order ops)) T H T<;>rfl
   |none=>
   simp only
   simp only[Option.bind_some];cases f:quiet ops with
   |true=>
    have l:∀aA∈ops.toList,mI aA.op=false:=λaA x=>by
     unfold quiet at f;rw[List.all_eq_true]at f;simpa using f aA x
    have fM:∀t∈T,t.k.eH=false:=λt c=>by
     obtain⟨A,B,o⟩:=List.append_of_mem c;have g:=xA (P:=P) (call:=call) (by rw[<-o];exact e);cases s:t.k.eH with
     |false=>rfl
     |true=>
      have:=Na g.2.2.1 s;rw[l t.aA (by have:=Array.mem_of_getElem? g.1;simpa using this)]at this;cases this
    have r:∀t∈T,hD ops (bF ops) (order ops) t.i=true:=λt _=>by
     unfold hD;rw[List.all_eq_true];intro j _;cases v:ops[j]? with
     |none=>simp
     |some aA=>simp[l aA (by have:=Array.mem_of_getElem? v;simpa using this)]
    simp only[kh,NV (bF ops) T [] fM,NW (bF ops) _ T H T r];rfl
   |false=>
    simp only[nM,dF,I9,OD _ _ _ T H T m];cases ia (bF ops) T []with
    |false=>rfl
    |true=>
     cases jB P (bF ops) (hD ops (bF ops) (order ops)) T H T<;>rfl
def jH(n:Nat):Code->Bool
 | .region _ ops _=>ops.toList.all (mG n)
 | .seq a b=>jH n a&&jH n b
 | .cond _ a b=>jH n a&&jH n b
 | .block _ b=>jH n b
 | .loop b=>jH n b
 |_=>V
def qa(r:Option (hn×a8×af))(a:eF)(c:List (Nat×eF))(b:eF):O:=match r with
 |some (.normal,C,H)=>a C.get H
 |some (.exit id,C,H)=>look id c C.get H
 |some (.ret,C,H)=>b C.get H
 |none=>Y
def Od{ops:Array Oper}:∀{os:List Oper} {C a2:a8} {H H':af},iN P call ops os C H=D (a2,H')->a2.size=C.size
 |[],C,a2,H,H',h=>by
  simp only[iN,a7,bI]at h;rw[h.1]
 |aA::os,C,a2,H,H',h=>by
  simp only[iN]at h;split at h
  ·cases h
  ·split at h
   ·cases h
   ·rename_i b a;rw[Od h,a8.size_put a]
def Ih{ops:Array Oper}:∀{is:List Nat} {C a2:a8} {H H':af} {T:List bg},canRun P call ops is C H=D (T,a2,H')->a2.size=C.size
 |[],C,a2,H,H',T,h=>by
  simp only[canRun,a7,bI]at h;rw[h.2.1]
 |i::is,C,a2,H,H',T,h=>by
  simp only[canRun]at h;split at h
  ·cases h
  ·split at h
   ·cases h
   ·split at h
    ·cases h
    ·rename_i c a;split at h
     ·cases h
     ·rename_i b;simp only[a7,bI]at h;obtain⟨_,rfl,_⟩:=h;rw[Ih b,a8.size_put a]
def aqZ{ops:Array Oper}{d:Bool}{C a2:a8}{H H':af}(h:ic P call ops d C H=D (a2,H')):a2.size=C.size:=by
 unfold ic at h;split at h
 ·exact Od h
 ·split at h
  ·cases h
  ·rename_i a;split at h
   ·split at h
    ·cases h
    ·simp only[a7,bI]at h;obtain⟨rfl,_⟩:=h;exact Ih a
   ·split at h
    ·cases h
    ·split at h
     ·cases h
     ·simp only[a7,bI]at h;obtain⟨rfl,_⟩:=h;exact Ih a
def Oc{f:a8->af->Option (hn×a8×af)}(a:∀C H ex a2 H',f C H=D (ex,a2,H')->a2.size=C.size):
  ∀{n:Nat} {C:a8} {H:af} {ex:hn} {a2:a8} {H':af},iter f n C H=D (ex,a2,H')->a2.size=C.size
 |0,_,_,_,_,_,h=>by cases h
 |n+1,C,H,ex,a2,H',h=>by
  simp only[iter]at h;split at h
  ·rename_i c H1 b;rw[Oc a h,a _ _ _ _ _ b]
  ·exact a _ _ _ _ _ h
def Ob{N:Nat}:∀(c:Code) {C:a8} {H:af} {ex:hn} {a2:a8} {H':af},dr (ic P call) N c C H=D (ex,a2,H')->a2.size=C.size:=by
 intro c
 induction c with
 |skip=>intro C H ex a2 H' h;simp only[dr,a7,bI]at h;rw[h.2.1]
 |region id ops d=>
  intro C H ex a2 H' h;simp only[dr]at h;split at h
  ·rename_i k H1 e;simp only[a7,bI]at h;obtain⟨_,rfl,_⟩:=h;exact aqZ e
  ·cases h
 |seq a b i j=>
  intro C H ex a2 H' h;simp only[dr]at h;split at h
  ·rename_i k H1 e;rw[j h,i e]
  ·exact i h
 |cond c a b i j=>
  intro C H ex a2 H' h;simp only[dr]at h;split at h
  ·exact i h
  ·exact j h
  ·cases h
 |block id b g=>
  intro C H ex a2 H' h;simp only[dr]at h;split at h
  ·rename_i m k H1 e;split at h<;>(simp only[a7,bI]at h;obtain⟨_,rfl,_⟩:=h;exact g e)
  ·exact g h
 |loop b g=>
  intro C H ex a2 H' h;simp only[dr]at h;exact Oc (λ_ _ _ _ _ h=>g h) h
 |exit id=>intro C H ex a2 H' h;simp only[dr,a7,bI]at h;rw[h.2.1]
 |ret=>intro C H ex a2 H' h;simp only[dr,a7,bI]at h;rw[h.2.1]
 |label l=>intro C H ex a2 H' h;simp only[dr,a7,bI]at h;rw[h.2.1]
 |goto l=>intro C H ex a2 H' h;cases h
 |scope b g=>intro C H ex a2 H' h;cases h
 |rangeFunc f n a b i j=>intro C H ex a2 H' h;cases h
 |refuse y=>intro C H ex a2 H' h;cases h
def Jn{f:a8->af->Option (hn×a8×af)}{b:eF->eF}{i:List (Nat×eF)}{g:eF}(m:Nat)(e:∀C H ex a2 H',f C H=D (ex,a2,H')->a2.size=C.size)
  (d:∀(C:a8) (H:af) (a:eF),C.size=m->b a C.get H=qa (f C H) a i g) (a:eF):∀(n:Nat) (C:a8) (H:af),C.size=m->mK b n C.get H=qa (iter f n C H) a i g
 |0,C,H,_=>rfl
 |n+1,C,H,c=>by
  simp only[mK,iter];rw[d C H _ c];cases h:f C H with
  |none=>rfl
  |some x=>
   obtain⟨ex,j,H1⟩:=x;cases ex with
   |normal=>exact Jn m e d a n j H1 (by rw[e _ _ _ _ _ h];exact c)
   |exit id=>rfl
   |ret=>rfl
def P2{N:Nat}:∀(c:Code) (C:a8) (H:af) (e:eF) (i:List (Nat×eF)) (g:eF),jH C.size c=V->aD P call N c e i g C.get H=qa (dr (ic P call) N c C H) e i g:=by
 intro c
 induction c with
 |skip=>intro C H e i g _;rfl
 |region id ops d=>
  intro C H e i g h;simp only[aD,dr];rw[af0 ops d e h];cases ic P call ops d C H<;>rfl
 |seq a b m n=>
  intro C H e i g h;simp only[jH,Bool.and_eq_true]at h;simp only[aD,dr];rw[m C H _ i g h.1];cases he:dr (ic P call) N a C H with
  |none=>rfl
  |some x=>
   obtain⟨ex,j,H1⟩:=x;cases ex with
   |normal=>exact n j H1 e i g (by rw[Ob a he];exact h.2)
   |exit id=>rfl
   |ret=>rfl
 |cond c a b m n=>
  intro C H e i g h;simp only[jH,Bool.and_eq_true]at h;simp only[aD,dr,jW];unfold ay;cases br C c with
  |none=>rfl
  |some v=>
   cases v<;>try rfl
   rename_i t;cases t
   ·exact n C H e i g h.2
   ·exact m C H e i g h.1
 |block id b k=>
  intro C H e i g h;simp only[aD,dr];rw[k C H e _ g h];cases he:dr (ic P call) N b C H with
  |none=>rfl
  |some x=>
   obtain⟨ex,j,H1⟩:=x;cases ex with
   |normal=>rfl
   |ret=>rfl
   |exit p=>
    simp only[qa,look];by_cases o:p=id
    ·subst o;simp[Nat.beq_refl]
    ·have q:Nat.beq p id=false:=by rw[<-Bool.not_eq_true,Nat.beq_eq];exact o
     rw[q,if_neg o];rfl
 |loop b k=>
  intro C H e i g h;simp only[aD,dr];exact Jn C.size (λ_ _ _ _ _ h=>Ob b h) (λj H1 e r=>k j H1 e i g (by rw[r];exact h)) e N C H rfl
 |exit id=>intro C H e i g _;rfl
 |ret=>intro C H e i g _;rfl
 |label l=>intro C H e i g _;rfl
 |goto l=>intro C H e i g _;rfl
 |scope b k=>intro C H e i g _;rfl
 |rangeFunc f s a b m n=>intro C H e i g _;rfl
 |refuse y=>intro C H e i g _;rfl
def Fl{C:a8}{H:af}:∀(rs:List ResultVar) (k:List aa->O),oO P H C.get rs k=(il P C H rs).bind k
 |[],k=>rfl
 | .tmp t::rs,k=>by
  simp only[oO,il,nG];rw[Fl rs];cases il P C H rs<;>rfl
 | .cell a t::rs,k=>by
  simp only[oO,il,nG];cases ah P H t (C.get a)with
  |none=>rfl
  |some v=>
   simp only[Option.bind_some];rw[Fl rs];cases il P C H rs<;>rfl
def PE(n:Nat)(args:List aa):(a8.enter n args).get=aO args:=by
 have h:∀(args:List aa) (d:Nat),aO args d=(args[d]?).getD (.tuple []):=by
  intro args
  induction args with
  |nil=>intro d;cases d<;>rfl
  |cons v c b=>
   intro d;cases d with
   |zero=>rfl
   |succ d=>simpa [aO]using b d
 funext d
 rw[h];unfold a8.get a8.enter;simp only[ED];by_cases a:d<args.length
 ·rw[if_pos bn];simp[a]
 ·rw[if_neg bn,bf.nS];simp[a]
end
end Go.cV
namespace Go
def aq:Code->Code
 | .seq a _=>a
 | .cond _ a _=>a
 | .block _ b=>b
 | .loop b=>b
 |c=>c
def ae:Code->Code
 | .seq _ b=>b
 | .cond _ _ b=>b
 |c=>c
def Code.test:Code->Operand
 | .cond c _ _=>c
 |_=> .tmp 0
def Code.num:Code->Nat
 | .block id _=>id
 | .exit id=>id
 |_=>0
def Code.R4:Code->Bool| .seq _ _=>V|_=>U
def Code.R1:Code->Bool| .cond _ _ _=>V|_=>U
def Code.R0:Code->Bool| .block _ _=>V|_=>U
def Code.R3:Code->Bool| .loop _=>V|_=>U
end Go
namespace Go.cV
section
variable {P:Program}{call:ai}{N:Nat}{iB hr:eF}{hs:List (Nat×eF)}
def ar{c:Code}{k T:eF}(d:c.R4=V)(f:∀C H,aD P call N (ae c) iB hs hr C H=k C H)(e:∀C H,aD P call N (aq c) k hs hr C H=T C H):
  ∀C H,aD P call N c iB hs hr C H=T C H:=by
 cases c<;>first|cases d|skip
 rename_i a b;intro C H;rw[<-e];show aD P call N a (λC H=>aD P call N b iB hs hr C H) hs hr C H=_;rw[show(λC H=>aD P call N b iB hs hr C H)=k from funext λC=>funext λH=>f C H];rfl
def bz{c:Code}{A B:eF}(d:c.R1=V)(a:∀C H,aD P call N (aq c) iB hs hr C H=A C H)(b:∀C H,aD P call N (ae c) iB hs hr C H=B C H):
  ∀C H,aD P call N c iB hs hr C H=ay (c3 C c.test) (A C H) (B C H):=by
 cases c<;>first|cases d|skip
 intro C H;rw[<-a,<-b];rfl
def aX{c:Code}{T:eF}(b:c.R0=V)(a:∀C H,aD P call N (aq c) iB ((c.num,iB)::hs) hr C H=T C H):∀C H,aD P call N c iB hs hr C H=T C H:=by
 cases c<;>first|cases b|skip
 intro C H;rw[<-a];rfl
def a_{c:Code}{k:Nat->eF}(e:c.R3=V)(d:∀C H,k 0 C H=Y)(f:∀n C H,aD P call N (aq c) (k n) hs hr C H=k (n+1) C H):∀C H,aD P call N c iB hs hr C H=k N C H:=by
 cases c<;>first|cases e|skip
 rename_i b;have key:∀n C H,mK (λa C H=>aD P call N b a hs hr C H) n C H=k n C H:=by
  intro n
  induction n with
  |zero=>intro C H;exact(d C H).symm
  |succ n g=>
   intro C H;rw[<-f n C H];show aD P call N b (λC H=>mK _ n C H) hs hr C H=_;rw[show(λC H=>mK (λa C H=>aD P call N b a hs hr C H) n C H)=k n from funext λC=>funext λH=>g C H];rfl
 intro C H;exact key N C H
def aj(c:Code):∀C H,aD P call N c iB hs hr C H=aD P call N c iB hs hr C H:=λ_ _=>rfl
def ad(r:Option aa)(k:aa->O):O:=match r with
 |some v=>k v
 |none=>Y
def aw(H:af)(r:O)(k:aa->af->O):O:=match r with
 |some (v,H')=>bif decide (H.next<=H'.next)then k v H' else Y
 |none=>Y
def aF(H:af)(r:Option af)(k:af->O):O:=aw H (r.bind λH'=>D (.tuple [],H')) λ_ H'=>k H'
def aK(H:af)(r:Option (aa×an))(k:aa->af->O):O:=match r with
 |some (v,b)=>k v (H.push b)
 |none=>Y
def ba(H:af)(cs:List aa)(k:aa->af->O):O:=k (.ptr H.next 0 0) (H.push (.row U cs.length [cs]))
def aG(fn:Func):Code:=match fn.body with
 |some c=>c
 |none=> .skip
def a1(P:Program)(b:Builtin)(ts:List TypeId)(a:List aa)(H:af)(k:aa->O):O:=match a6 P .empty b ts a with
 |some v=>k v
 |none=>(a6 P H b ts a).bind k
def ka(P:Program)(s d:TypeId)(v:aa)(H:af)(k:aa->O):O:=match p4 P s d v with
 |some v=>k v
 |none=>(p3 P H s d v).bind k
def xu(call:ai)(H:af)(f:aa)(a:List aa)(k:aa->af->O):O:=(Du f a).bind λp=>aw H (call p.1 p.2 H) k
def aV(v:aa)(q:K->O):O:=q (.pure v)
def aE(r:Option aa)(q:K->O):O:=r.bind λv=>q (.pure v)
def qr(r:Option aa)(q:K->O):O:=r.bind λv=>q (.read v)
def au(b:aa)(want:Bool)(H:af)(m:(K->O)->O)(k:aa->af->O):O:=aM b want m λx=>k x.val (x.heap H)
end
end Go.cV
namespace Go.cV
def W(m:O)(Q:aa->af->Prop):Prop:=∃v H,m=D (v,H)/\Q v H
def W.mono{m:O}{Q a:aa->af->Prop}(h:W m Q)(b:∀v H,Q v H->a v H):W m a:=by
 obtain⟨v,H,e,q⟩:=h;exact⟨v,H,e,b v H q⟩
def hz:Nat:=0
def asl:Nat:=0
def asm:hz=asl:=rfl
def pW(v:aa)(H:af)(k:aa->af->O):O:=k v H
section
variable {r cS:Option aa}{aA oK:O}{m hq:Option (aa×an)}{h bA:Option af}{H H':af}{a dD:aa}{b eG:Bool}{z:Nat}
 @[congr] theorem asC {k:aa->af->O} (e:a=dD) (d:H=H') (y:hz=z):pW a H k=pW dD H' k:=by rw[e,d]
def ar6(H:af)(cs:List aa)(k:aa->af->O):ba H cs k=pW (.ptr H.next 0 0) (H.push (.row U cs.length [cs])) k:=rfl
def ase(v:aa)(H:af)(k:aa->af->O):pW v H k=k v H:=rfl
 @[congr] theorem asv {k:aa->O} (e:r=cS) (y:hz=z):ad r k=ad cS k:=by rw[e]
 @[congr] theorem asx {k:aa->af->O} (d:H=H') (e:aA=oK) (y:hz=z):aw H aA k=aw H' oK k:=by rw[d,e]
 @[congr] theorem asy {k:K->O} (d:H=H') (e:aA=oK) (y:hz=z):bq H aA k=bq H' oK k:=by rw[d,e]
 @[congr] theorem asH {k:af->O} (d:H=H') (e:h=bA) (y:hz=z):aF H h k=aF H' bA k:=by rw[d,e]
 @[congr] theorem asD {k:aa->af->O} (d:H=H') (e:m=hq) (y:hz=z):aK H m k=aK H' hq k:=by rw[d,e]
 @[congr] theorem asF {k:K->O} (e:m=hq) (y:hz=z):fu m k=fu hq k:=by rw[e]
 @[congr] theorem asB {p q:O} (e:r=cS) (y:hz=z):ay r p q=ay cS p q:=by rw[e]
 @[congr] theorem aso {p q:O} (e:b=eG) (y:hz=z):cond b p q=cond eG p q:=by rw[e]
 @[congr] theorem asz {w:Bool} {f:(K->O)->O} {k:aa->af->O} (e:a=dD) (y:hz=z):au a w H f k=au dD w H f k:=by rw[e]
 @[congr] theorem asA {w:Bool} {f:(K->O)->O} {k:K->O} (e:a=dD) (y:hz=z):aM a w f k=aM dD w f k:=by rw[e]
 @[congr] theorem asw {s a:Option aa} {k:K->O} (e:r=cS) (d:s=a) (y:hz=z):bE r s k=bE cS a k:=by rw[d,e]
 @[congr] theorem asr {q:K->O} (e:r=cS) (y:hz=z):aE r q=aE cS q:=by rw[e]
 @[congr] theorem ass {q:K->O} (e:r=cS) (y:hz=z):qr r q=qr cS q:=by rw[e]
 @[congr] theorem ast {q:K->O} (e:a=dD) (y:hz=z):aV a q=aV dD q:=by rw[e]
def afR(v:aa)(q:K->O):aE (D v) q=q (.pure v):=rfl
def afS(v:aa)(q:K->O):qr (D v) q=q (.read v):=rfl
def afT(v:aa)(q:K->O):aV v q=q (.pure v):=rfl
end
def afV(k:IntKind)(n:Int):aJ (D (.int k n)) (.int k n)=true:=by simp[aJ,aa.beq]
def afY(x:List UInt8):aJ (D (.str x)) (.str x)=true:=by simp[aJ,aa.beq]
def afU(x:Bool):aJ (D (.bool x)) (.bool x)=true:=by simp[aJ,aa.beq]
def afX(l i n e:Nat)(c:Option Nat):aJ (D (.ag l i n e c)) (.ag l i n e c)=true:=by simp[aJ,aa.beq]
def afW:aJ (D .ao) .ao=true:=rfl
def af.xP(H:af)(b:an)(l:Nat):(H.push b).get l=if l=H.next then D b else H.get l:=by
 split
 ·rename_i h;subst h;exact af.hv H b
 ·rename_i h;exact af.fL h
def bf.zv{α:Type}(x y:α):∀(p:List jU) (t:bf α),bf.dI y p (bf.dI x p t)=bf.dI y p t
 |[],.leaf=>rfl
 |[],.node .. =>rfl
 |d::p,.leaf=>by cases d<;>simp[bf.dI,bf.zv x y p]
 |d::p,.node .. =>by cases d<;>simp[bf.dI,bf.zv x y p]
def af.afP(H:af)(b c:an):(H.push b).set H.next c=H.push c:=by
 simp only[af.push,af.set,bf.put,bf.zv]
def af.set_set(H:af)(l:Nat)(b c:an):(H.set l b).set l c=H.set l c:=by
 simp only[af.set,bf.put,bf.zv]
def af.RA{H:af}{b:an}{l:Nat}(h:l<=H.next)(bA:H.next<=l):(H.push b).get l=D b:=by
 obtain rfl:l=H.next:=bn
 exact af.hv H b
def af.afQ{H:af}{b c:an}{l:Nat}(h:l<=H.next)(bA:H.next<=l):(H.push b).set l c=H.push c:=by
 obtain rfl:l=H.next:=bn
 exact af.afP H b c
def kc(S:Nat->Prop)(H H':af):Prop:=H.next<=H'.next/\∀l,l<H.next->¬S l->H'.get l=H.get l
def iD(H H':af):Prop:=H.next<=H'.next/\∀l,l<H.next->H'.get l=H.get l
def iD.refl(H:af):iD H H:=⟨cW _,λ_ _=>rfl⟩
def iD.trans{H H1 a:af}(h:iD H H1)(k:iD H1 a):iD H a:=⟨Nat.le_trans h.1 k.1,λl b=>(k.2 l (Nat.lt_of_lt_of_le b h.1)).trans (h.2 l b)⟩
def iD.push(H:af)(b:an):iD H (H.push b):=⟨by simp,λl a=>af.fL bn⟩
def iD.get{H H':af}(h:iD H H'){l:Nat}{b:an}(a:H.get l=D b):H'.get l=D b:=by rw[h.2 l (af.iT a)];exact a
def iD.mut{H H':af}(h:iD H H')(S:Nat->Prop):kc S H H':=⟨h.1,λl a _=>h.2 l a⟩
def kc.refl(S:Nat->Prop)(H:af):kc S H H:=(iD.refl H).mut S
def kc.trans{S:Nat->Prop}{H H1 a:af}(h:kc S H H1)(k:kc S H1 a):kc S H a:=⟨Nat.le_trans h.1 k.1,λl b c=>(k.2 l (Nat.lt_of_lt_of_le b h.1) c).trans (h.2 l b c)⟩
def kc.get{S:Nat->Prop}{H H':af}(h:kc S H H'){l:Nat}{b:an}(a:H.get l=D b)(c:¬S l):H'.get l=D b:=by rw[h.2 l (af.iT a) c];exact a
section
variable {P:Program}{H:af}
def ar7(v:aa)(k:aa->O):ad (D v) k=k v:=rfl
def asd(b:Bool)(x y:O):ay (D (.bool b)) x y=bif b then x else y:=rfl
def Is{v:aa}{H':af}{k:aa->af->O}(h:H.next<=H'.next):aw H (D (v,H')) k=k v H':=by
 simp only[aw,decide_eq_true h,kh]
def asi{H':af}{k:af->O}(h:H.next<=H'.next):aF H (D H') k=k H':=by
 simp only[aF,Option.bind_some];exact Is h
def asf(v:aa)(b:an)(k:aa->af->O):aK H (D (v,b)) k=k v (H.push b):=rfl
def asc(m:(K->O)->O)(k:aa->af->O):au (.bool V) V H m k=m (λx=>pW x.val (x.heap H) k):=rfl
def ar9(m:(K->O)->O)(k:aa->af->O):au (.bool U) U H m k=m (λx=>pW x.val (x.heap H) k):=rfl
def asb(m:(K->O)->O)(k:aa->af->O):au (.bool V) U H m k=k (.tuple []) H:=rfl
def ar_(m:(K->O)->O)(k:aa->af->O):au (.bool U) V H m k=k (.tuple []) H:=rfl
def asa(w:Bool)(m:(K->O)->O)(k:aa->af->O):au (.tuple []) w H m k=k (.tuple []) H:=rfl
def ar8(v:aa)(b:Option aa)(k:K->O):bE (D v) b k=k (.pure v):=rfl
def afM(a b:Option aa):aU (.bool V) a b=a:=rfl
def afL(a b:Option aa):aU (.bool U) a b=b:=rfl
def PH(b:Bool):bu .not (.bool b)=D (.bool (!b)):=rfl
def Pw(l i c:Nat):aL (.ptr l i c)=D (.ptr l i c):=rfl
def OU(v:aa):(K.pure v).val=v:=rfl
def OV(v:aa):(K.read v).val=v:=rfl
def OT(v:aa)(b:an):(K.new v b).val=v:=rfl
def OS(v:aa)(H':af):(K.bs v H').val=v:=rfl
def OW:K.skip.val= .tuple []:=rfl
def OO(v:aa):(K.pure v).heap H=H:=rfl
def OQ(v:aa):(K.read v).heap H=H:=rfl
def ON(v:aa)(b:an):(K.new v b).heap H=H.push b:=rfl
def OM(v:aa)(H':af):(K.bs v H').heap H=H':=rfl
def OR:K.skip.heap H=H:=rfl
def Pd(a:List aa)(i:Nat):bJ (.tuple a) i=a[i]? :=rfl
def QK(t:TypeId)(c:Bool)(k:IntKind)(a b:Int):al P .add t c (.int k a) (.int k b)=D (.int k (k.wrap (a+b))):=by simp[al,iV]
def QV(t:TypeId)(c:Bool)(k:IntKind)(a b:Int):al P .sub t c (.int k a) (.int k b)=D (.int k (k.wrap (a-b))):=by simp[al,iV]
def QM(t:TypeId)(c:Bool)(k:IntKind)(a b:Int):al P .eql t c (.int k a) (.int k b)=D (.bool (a==b)):=by simp[al,iV]
def QS(t:TypeId)(c:Bool)(k:IntKind)(a b:Int):al P .neq t c (.int k a) (.int k b)=D (.bool (a != b)):=by simp[al,iV]
def QQ(t:TypeId)(c:Bool)(k:IntKind)(a b:Int):al P .lss t c (.int k a) (.int k b)=D (.bool (decide (a<b))):=by simp[al,iV]
def QP(t:TypeId)(c:Bool)(k:IntKind)(a b:Int):al P .leq t c (.int k a) (.int k b)=D (.bool (decide (a<=b))):=by simp[al,iV]
def QO(t:TypeId)(c:Bool)(k:IntKind)(a b:Int):al P .gtr t c (.int k a) (.int k b)=D (.bool (decide (b<a))):=by simp[al,iV]
def QN(t:TypeId)(c:Bool)(k:IntKind)(a b:Int):al P .geq t c (.int k a) (.int k b)=D (.bool (decide (b<=a))):=by simp[al,iV]
def QT(t:TypeId)(c:Bool)(a b:List UInt8):al P .eql t c (.str a) (.str b)=D (.bool (a==b)):=rfl
def QU(t:TypeId)(c:Bool)(a b:List UInt8):al P .neq t c (.str a) (.str b)=D (.bool (!(a==b))):=rfl
def NC(k:IntKind)(n:Int):(aa.int k n).one=true:=rfl
def NJ(x:List UInt8):(aa.str x).one=true:=rfl
def NA(x:Bool):(aa.bool x).one=true:=rfl
def NH(l i c:Nat):(aa.ptr l i c).one=true:=rfl
def NI(l i n e:Nat)(c:Option Nat):(aa.ag l i n e c).one=true:=rfl
def NG:aa.ao.one=true:=rfl
def NF:aa.fC.one=true:=rfl
def ND(l:Nat):(aa.map l).one=true:=rfl
def NB(f:Fn)(a c:List aa):(aa.func f a c).one=true:=rfl
def Dw{v:aa}(h:v.one=V):v.cells=[v]:=by cases v<;>first|rfl|cases h
end
end Go.cV
namespace Go.Proofs.YtolnciihfbifcaaGreat
open Go.cV
noncomputable def P:Program:=Tryz.prog
noncomputable abbrev ax(f:Func):eF:=mY P f.results.toList
noncomputable abbrev aB(f:Func)(G:ai)(N:Nat):eF:=aD P G N (aG f) (ax f) [] (ax f)
def aI{A B zC:eF}(h:∀C H,A C H=B C H)(a:∀C H,B C H=zC C H):∀C H,A C H=zC C H:=λC H=>(h C H).trans (a C H)
def aT{A B:eF}{C:bC}{H:af}{t:O}(h:∀C H,A C H=B C H)(a:B C H=t):A C H=t:=(h C H).trans a
def h7(H:af)(r:Option af)(k:aa->af->O):O:=aw H (r.bind λH'=>D (.tuple [],H')) k
def ash{H H':af}{k:aa->af->O}(h:H.next<=H'.next):h7 H (D H') k=k (.tuple []) H':=by
 simp only[h7,Option.bind_some];exact Is h
 @[congr] theorem asG {H a:af} {h bA:Option af} {z:Nat} {k:aa->af->O} (d:H=a) (e:h=bA) (b:hz=z):h7 H h k=h7 a bA k:=by rw[d,e]
def kW(H:af)(r:Option (aa×an))(k:aa->an->af->O):O:=match r with
 |some (v,b)=>k v b (H.push b)
 |none=>Y
def asg{H:af}(v:aa)(b:an)(k:aa->an->af->O):kW H (D (v,b)) k=k v b (H.push b):=rfl
 @[congr] theorem asE {H a:af} {m hq:Option (aa×an)} {z:Nat} {k:aa->an->af->O} (d:H=a) (e:m=hq) (b:hz=z):kW H m k=kW a hq k:=by rw[d,e]
noncomputable def mx(call:ai)(H:af)(r:aa)(name:String)(a:List aa)(k:aa->af->O):O:=(qN P H r name a).bind λp=>aw H (call p.1 p.2 H) k
def az:Env:=λ_=>Y
def mJ:List (List aa)->Option (List Int)
 |[]=>D []
 |[.int .i64 n]::es=>(mJ es).map (n:: ·)
 |_=>Y
def kg(n:Int):List aa:=[.int .i64 n]
def aY:ai:=λf args H=>match f,args with
 |163,[.func (.func 165) [] [.ptr l 0 0]]=>(match H.get l with
  |some (.row _ 1 [[.ao]])=>D (.ao,H)
  |some (.row _ 1 [[.ag m i n 1 _]])=>(match iP H m i n 1 with
   |some es=>(match mJ es with
    |some xs=>if n<=1000000 then(match xs with
     |[]=>D (.ao,H)
     |_=>D (.ag H.next 0 n 1 Y,H.push (.row U 1 (xs.map kg))))else Y
    |none=>Y)
   |none=>Y)
  |_=>Y)
 |164,[.ao]=>D (.tuple [],H)
 |164,[.ag l 0 n 1 _]=>(match H.get l with
  |some (.row U 1 es)=>(match mJ es with
   |some xs=>if es.length=n/\n<=1000000 then D (.tuple [],H.set l (.row U 1 ((xs.mergeSort λx y=>decide (x<=y)).map kg)))else Y
   |none=>Y)
  |_=>Y)
 |_,_=>Y
end Go.Proofs.YtolnciihfbifcaaGreat
namespace Go.cV
section
variable {E:Env}{P:Program}{aY:ai}
def Jc(d:iC P){G:ai}(l:aZ E P G){N f:Nat}{args:List aa}{H H1:af}{fn:Func}{c:Code}{ex:hn}{C:a8}{j:List aa}
  (a:P.funcs[f]? =D fn) (e:fn.body=D c) (p:dr (ic P G) N c (a8.enter fn.ntmps args) H=D (ex,C,H1)) (t:∀id,ex≠ .exit id) (y:il P C H1 fn.results.toList=D j):eM E P f args H (nE j) H1:=by
 intro ρ w xs m q n B next u
 have o:=Jd (N:=N) N0 (N1 d.mixed l) c (d.NQ _ _ _ a e);have s:(fn.name== "runtime.NumGoroutine")=false:=d.names fn (Array.mem_of_getElem? a);have v:(callFunc f xs.toArray).run P w= .ok (.enter f xs.toArray) w:=by
  unfold callFunc;simp[a,e];intro r;simp[r]at s
 unfold kY;rw[v];simp only
 refine calls_of_wp a e (o _ _ _ _ _ p ρ w _ _ m q (Ja n fn.ntmps) λA dD z b h=> ?_);obtain⟨x,g,k⟩:=N2 h.rel b y;have i:=u x z A k h;cases ex with
 |normal=>exact⟨b.none,x,g,i⟩
 |ret=>exact⟨b.none,x,g,i⟩
 |exit id=>exact absurd rfl (t id)
def mF(g:iC P){G:ai}(e:aZ E P G){f:Nat}{args:List aa}{H:af}{fn:Func}{c:Code}{M:Nat}{r:aa×af}(k:P.funcs[f]? =D fn)(j:fn.body=D c)(l:jH fn.ntmps c=V)(m:Nat.ble args.length fn.ntmps=V)
  (h:aD P G M c (mY P fn.results.toList) [] (mY P fn.results.toList) (aO args) H=D r):eM E P f args H r.1 r.2:=by
 have n:(a8.enter fn.ntmps args).size=fn.ntmps:=by have:=Nat.le_of_ble_eq_true m;simp only[a8.enter];omega
 rw[<-PE fn.ntmps,P2 c _ _ _ _ _ (by rw[n];exact l)]at h;unfold qa at h;have fin:∀(C:a8) (H':af),mY P fn.results.toList C.get H'=D r->∃b,il P C H' fn.results.toList=D b/\r=(nE b,H'):=by
  intro C H' a;unfold mY at a;rw[Fl]at a;cases i:il P C H' fn.results.toList with
  |none=>rw[i]at a;cases a
  |some b=>rw[i]at a;exact⟨b,rfl,(Option.some.inj a).symm⟩
 split at h
 ·rename_i C H' he;obtain⟨b,d,rfl⟩:=fin C H' h;exact Jc g e k j he (λid=>by intro a;cases a) d
 ·cases h
 ·rename_i C H' he;obtain⟨b,d,rfl⟩:=fin C H' h;exact Jc g e k j he (λid=>by intro a;cases a) d
 ·cases h
def Rel.zb{ρ:Env}{H:af}{w i:World}(h:Rel ρ H w)(j:∀b,b<w.heap.size->i.heap[b]? =w.heap[b]?):Rel ρ H i:=by
 have key:∀b x,w.heap[b]? =D x->i.heap[b]? =D x:=λb x e=>by
  rw[j b ?_];exact e;exact(Array.getElem?_eq_some_iff.1 e).1
 refine⟨λl ro esz els e=> ?_,λl es e=> ?_,λl t esz els e=> ?_,h.apart⟩
 ·obtain⟨loc,a,d,c,t,k,f,g⟩:=h.row l ro esz els e;exact⟨loc,a,d,c,t,k,key _ _ f,g⟩
 ·obtain⟨loc,a,ents,clock,f,g⟩:=h.map l es e;exact⟨loc,a,ents,clock,key _ _ f,g⟩
 ·obtain⟨loc,a,d⟩:=h.dp l t esz els e;exact⟨loc,a,d.frame ρ.le_refl (j _ d.1.lt)⟩
def af.p_(l:Nat):af.empty.get l=none:=by
 cases h:af.empty.get l with
 |none=>rfl
 |some b=>exact absurd (af.iT h) (Nat.not_lt_zero l)
def zx(w:World):Rel (λ_=>Y) af.empty w:=by
 refine⟨λl ro esz els e=> ?_,λl es e=> ?_,λl t esz els e=> ?_,λl a loc b _ _ _ h=> ?_⟩
 ·rw[af.p_]at e;cases e
 ·rw[af.p_]at e;cases e
 ·rw[af.p_]at e;cases e
 ·cases h
def Nq(b:Nat):¬hA (λ_=>Y) af.empty b:=by
 rintro⟨l,loc,_,h,_⟩;cases h
def PY{g:Nat}{b:Bool}{bh:af}(h:eM (λ_=>Y) P g [] af.empty (.bool b) bh)(H:af):eM E P g [] H (.bool b) H:=by
 intro ρ w xs f l i m next j
 cases i;refine h (λ_=>Y) w [] (zx w) ⟨λ_ _ _=>rfl,Env.le_refl _⟩ .nil (Nat.zero_le _) next λx e n k a=> ?_
 cases k;have d:∀b,b<w.heap.size->e.heap[b]? =w.heap[b]? :=λb c=>a.frame b c (Nq b)
 exact j _ e ρ (.bool b) ⟨ρ.le_refl,cW _,λ_ _=>rfl,f.zb d,a.os,a.tape,a.output,a.size,λb c _=>d b c,λ_ h=> .inl h,λ_ _ _ h=>h⟩
end
end Go.cV
namespace Go.Proofs.YtolnciihfbifcaaGreat
open Go.cV
def acs(a:List Func):Bool:=a.all λfn=> !(fn.name== "runtime.NumGoroutine")
def PV(a:List Func):Bool:=a.all λfn=>match fn.body with
 |some c=>jQ c
 |none=>V
def afO{P:Program}(a:P.follows .mixedOrders=V)(b:acs P.funcs.toList=V)(d:PV P.funcs.toList=V):iC P:=by
 refine⟨a,λfn h=> ?_,λf fn c g e=> ?_⟩
 ·have:=List.all_eq_true.1 b fn (Array.mem_toList_iff.2 h);simpa using this
 ·have:=List.all_eq_true.1 d fn (Array.mem_toList_iff.2 (Array.mem_of_getElem? g));simpa [e]using this
set_option maxRecDepth 1000000
def aS:iC P:=afO j j j
end Go.Proofs.YtolnciihfbifcaaGreat
namespace Go.cV
section
open Go.ChangeShapes Go.WideShapes Go.ChangeAt Go.RowKit
def C4(E:Env)(P:Program)(f:Nat)(args:List Value)(W:World):Prop:=∃(ρ:Env) (H:af) (a:List aa) (H':af),Rel ρ H W/\(∀l,¬H.rw l)/\(∀l,H.next<=l->ρ l=Y)/\E.le ρ/\H.next<=H'.next/\bj ρ a args/\eM E P f a H (.bool V) H'
def abY{E:Env}{P:Program}{f:Nat}{fn:Func}{c:Code}{args:List Value}{W:World}(u:iC P)(m:P.funcs[f]? =D fn)(v:fn.body=D c)(h:C4 E P f args W):
  Calls P f args.toArray W λe d=>e= .returned (.bool V)/\Below W.heap.size W d:=by
 obtain⟨ρ,H,F,H',n,o,p,t,q,r,s⟩:=h;have A:∀b,¬hA ρ H b:=by rintro b ⟨l,loc,j,_⟩;exact o l j
 have i:=s ρ W args n ⟨λl j _=>p l j,t⟩ r q (λx d=>x= .bool V/\Below W.heap.size W d) (λx d G C a=>by
  cases C;exact⟨rfl,a.os,a.tape,a.output,a.size,λk y=>a.frame k y (A k)⟩)
 have z:(fn.name== "runtime.NumGoroutine")=false:=u.names fn (Array.mem_of_getElem? m);have B:(callFunc f args.toArray).run P W= .ok (.enter f args.toArray) W:=by
  unfold callFunc;simp[m,v];intro w;simp[w]at z
 unfold kY at i;rw[B]at i;simp only at i;refine i.mono λe d g=> ?_
 split at g
 ·exact⟨by rw[g.1],g.2⟩
 ·exact g.elim
def Oz{H:Type}{enc:TypeId×Value->H}{P:Program}{W g:World}(k:laidOutB P=V)(j:Below W.heap.size W g):∀{ts:List TypeId} {c:List Value} {a:List (DataW H)} {f:List MemPlace},(∀t∈ts,P.readableRec t=V/\t<P.types.size)->
  DataW.TrodAll enc P W 0 (λ_=>V) V ts c a f->∃l,DataW.TrodAll enc P g 0 (λb=>decide (b<W.heap.size)) V ts c a l
 |[],c,a,f,_,h=>by
  obtain⟨rfl,rfl,rfl⟩:=trodAll_nil h;exact⟨[],trodAll_mk0⟩
 |t::ts,c,a,f,e,h=>by
  obtain⟨v,w,d,u,p,q,rfl,rfl,rfl,i,n⟩:=trodAll_cons h;obtain⟨l,o⟩:=Oz k j (λt s=>e t (List.mem_cons_of_mem _ s)) n;have r:∀x∈p,x.block<W.heap.size:=by obtain⟨m,hm⟩:=i;exact DataW.trod_lt m _ _ _ hm
  exact⟨_,trodAll_cons_mk (Below.trod k (e t (List.mem_cons_self ..)).1 (e t (List.mem_cons_self ..)).2 i j r) o⟩
def abX{P:Program}{f:Nat}{args:List Value}{W:World}{a:List aa}{H':af}(h:bj (λ_=>Y) a args)(b:eM (λ_=>Y) P f a af.empty (.bool V) H'):C4 (λ_=>Y) P f args W:=
 have d:∀l,¬af.empty.rw l:=λl c=>by
  rcases c with⟨e,s,h⟩|⟨es,h⟩|⟨t,e,s,h⟩<;>rw[af.p_]at h<;>cases h
 ⟨λ_=>Y,af.empty,a,H',zx W,d,λ_ _=>rfl,Env.le_refl _,Nat.zero_le _,h,b⟩
structure Seen(ρ:Env)(H:af)(W:World):Prop where
 rel:Rel ρ H W
 ro:∀l,¬H.rw l
 top:∀l,H.next<=l->ρ l=none
def Seen.empty(W:World):Seen (λ_=>Y) af.empty W:=
 have b:∀l,¬af.empty.rw l:=λl a=>by
  rcases a with⟨e,s,h⟩|⟨es,h⟩|⟨t,e,s,h⟩<;>rw[af.p_]at h<;>cases h
 ⟨zx W,b,λ_ _=>rfl⟩
def Seen.oI{ρ:Env}{H:af}{W:World}(h:Seen ρ H W)(loc:Go.cV.Loc):ρ.le (ρ.eC H.next loc):=λl a e=>by
 have:l≠H.next:=by rintro rfl;rw[h.top _ (cW _)]at e;cases e
 simp only[Env.eC,if_neg this];exact e
def fE.mono{ρ b:Env}(hle:ρ.le b){w:World}{loc:Go.cV.Loc}{ro:Bool}{esz:Nat}{els:List (List aa)}(h:fE ρ w loc ro esz els):fE b w loc ro esz els:=by
 obtain⟨f,c,t,d,g,k,a⟩:=h;refine⟨f,c,t,d,g,k,λi e he=>⟨(a i e he).1,λj v l=> ?_⟩⟩;obtain⟨m,x,n,o⟩:=(a i e he).2 j v l;exact⟨m,x,n,o.mono hle⟩
def Seen.push{ρ:Env}{H:af}{W:World}(h:Seen ρ H W){loc:Go.cV.Loc}{esz:Nat}{els:List (List aa)}(g:fE ρ W loc V esz els):Seen (ρ.eC H.next loc) (H.push (.row V esz els)) W:=by
 have hle:=h.oI loc;have c:∀l,¬(H.push (.row V esz els)).rw l:=by
  rintro l (⟨e,s,a⟩|⟨es,a⟩|⟨t,e,s,a⟩)
  ·rw[af.xP]at a;split at a
   ·cases a
   ·exact h.ro l (.inl ⟨e,s,a⟩)
  ·rw[af.xP]at a;split at a
   ·cases a
   ·exact h.ro l (.inr (.inl ⟨es,a⟩))
  ·rw[af.xP]at a;split at a
   ·cases a
   ·exact h.ro l (.inr (.inr ⟨t,e,s,a⟩))
 refine⟨⟨λl ro e s a=> ?_,λl es a=> ?_,λl t e s a=>absurd (.inr (.inr ⟨t,e,s,a⟩)) (c l),λl j _ _ b=>absurd b (c l)⟩,c,λl b=> ?_⟩
 ·rw[af.xP]at a;split at a
  ·rename_i b;cases a;exact⟨loc,by simp[Env.eC,b],g.mono hle⟩
  ·obtain⟨i,d,f⟩:=h.rel.row l ro e s a;exact⟨i,hle _ _ d,f.mono hle⟩
 ·exact absurd (.inr (.inl ⟨es,a⟩)) (c l)
 ·simp only[af.jP]at b;have:l≠H.next:=bn
  simp only[Env.eC,if_neg this];exact h.top l bn
end
abbrev Iu:=ai->List aa->af->O
inductive dq where
 |leaf (n:Nat) (b:Iu)
 |node (m:Nat) (a b:dq)
noncomputable section
def dq.run(aY:ai)(t:dq)(G:ai)(f:Nat)(args:List aa)(H:af):O:=@dq.rec (λ_=>O) (λn b=> @Bool.rec (λ_=>O) (aY f args H) (b G args H) (Nat.beq f n)) (λm _ _ x y=> @Bool.rec (λ_=>O) y x (Nat.ble f m)) t
def Jf(aY:ai)(t:dq)(n:Nat):ai:= @Nat.rec (λ_=>ai) (λ_ _ _=>Y) (λ_ a f args H=>t.run aY a f args H) n
def hF(l:List aa)(k:O):O:= @List.rec aa (λ_=>O) k (λ_ _ _=>Y) l
def aW(l:List aa)(k:aa->O):O:= @List.rec aa (λ_=>O) Y (λa r _=>hF r (k a)) l
def aN(l:List aa)(k:aa->aa->O):O:= @List.rec aa (λ_=>O) Y (λa r _=>aW r (k a)) l
def bw(l:List aa)(k:aa->aa->aa->O):O:= @List.rec aa (λ_=>O) Y (λa r _=>aN r (k a)) l
def gl(l:List aa)(k:aa->aa->aa->aa->O):O:= @List.rec aa (λ_=>O) Y (λa r _=>bw r (k a)) l
def k1(l:List aa)(k:aa->aa->aa->aa->aa->O):O:= @List.rec aa (λ_=>O) Y (λa r _=>gl r (k a)) l
def II{l:List aa}{k:O}{r}(h:hF l k=D r):l=[]/\k=D r:=by
 cases l with
 |nil=>exact⟨rfl,h⟩
 |cons a l=>cases h
def IK{l:List aa}{k:aa->O}{r}(h:aW l k=D r):∃a,l=[a]/\k a=D r:=by
 cases l with
 |nil=>cases h
 |cons a l=>obtain⟨rfl,h⟩:=II h;exact⟨a,rfl,h⟩
def IL{l:List aa}{k:aa->aa->O}{r}(h:aN l k=D r):∃a b,l=[a,b]/\k a b=D r:=by
 cases l with
 |nil=>cases h
 |cons a l=>obtain⟨b,rfl,h⟩:=IK h;exact⟨a,b,rfl,h⟩
def IM{l:List aa}{k:aa->aa->aa->O}{r}(h:bw l k=D r):∃a b c,l=[a,b,c]/\k a b c=D r:=by
 cases l with
 |nil=>cases h
 |cons a l=>obtain⟨b,c,rfl,h⟩:=IL h;exact⟨a,b,c,rfl,h⟩
def IN{l:List aa}{k:aa->aa->aa->aa->O}{r}(h:gl l k=D r):∃a b c d,l=[a,b,c,d]/\k a b c d=D r:=by
 cases l with
 |nil=>cases h
 |cons a l=>obtain⟨b,c,d,rfl,h⟩:=IM h;exact⟨a,b,c,d,rfl,h⟩
def PB{l:List aa}{k:aa->aa->aa->aa->aa->O}{r}(h:k1 l k=D r):∃a b c d e,l=[a,b,c,d,e]/\k a b c d e=D r:=by
 cases l with
 |nil=>cases h
 |cons a l=>obtain⟨b,c,d,e,rfl,h⟩:=IN h;exact⟨a,b,c,d,e,rfl,h⟩
def aP(E:Env)(P:Program)(n:Nat)(b:Iu):Prop:=∀G,aZ E P G->∀args H v H',b G args H=D (v,H')->eM E P n args H v H'
def dq.Ok(E:Env)(P:Program):dq->Prop
 | .leaf n b=>aP E P n b
 | .node _ a b=>a.Ok E P/\b.Ok E P
section
variable {E:Env}{P:Program}{aY G:ai}
def dq.Fq(i:aZ E P aY)(g:aZ E P G):∀{t:dq},t.Ok E P->∀{f:Nat} {args:List aa} {H:af} {v:aa} {H':af},t.run aY G f args H=D (v,H')->eM E P f args H v H'
 | .leaf n b,e,f,args,H,v,H',h=>by
  have c: @Bool.rec (λ_=>O) (aY f args H) (b G args H) (Nat.beq f n)=D (v,H'):=h;cases d:Nat.beq f n with
  |false=>rw[d]at c;exact i _ _ _ _ _ c
  |true=>
   rw[d]at c;obtain rfl:=Nat.eq_of_beq_eq_true d;exact e G g _ _ _ _ c
 | .node m a b,e,f,args,H,v,H',h=>by
  have c: @Bool.rec (λ_=>O) (b.run aY G f args H) (a.run aY G f args H) (Nat.ble f m)=D (v,H'):=h;cases d:Nat.ble f m with
  |false=>rw[d]at c;exact dq.Fq i g e.2 c
  |true=>rw[d]at c;exact dq.Fq i g e.1 c
def bk(a:aZ E P aY){t:dq}(b:t.Ok E P):∀n,aZ E P (Jf aY t n)
 |0=>λ_ _ _ _ _ h=>by cases h
 |n+1=>λ_ _ _ _ _ h=>dq.Fq a (bk a b n) b h
abbrev nH(P:Program)(fn:Func)(G:ai)(N:Nat):eF:=aD P G N (aG fn) (mY P fn.results.toList) [] (mY P fn.results.toList)
structure nw(P:Program)(n:Nat)(fn:Func)(k:Nat):Prop where
 f:P.funcs[n]? =some fn
 b:fn.body=some (aG fn)
 d:jH fn.ntmps (aG fn)=true
 n:Nat.ble k fn.ntmps=true
variable {n N:Nat}{fn:Func}
def qL(c:iC P)(w:nw P n fn 0){s:ai->af->O}(h:∀G H,nH P fn G N (aO []) H=s G H):aP E P n λG l H=>hF l (s G H):=by
 intro G a l H v H' e;obtain⟨rfl,e⟩:=II e;exact mF (args:=[]) c a w.f w.b w.d w.n ((h G H).trans e)
def bt(g:iC P)(w:nw P n fn 1){s:ai->aa->af->O}(h:∀G a H,nH P fn G N (aO [a]) H=s G a H):aP E P n λG l H=>aW l λa=>s G a H:=by
 intro G c l H v H' e;obtain⟨a,rfl,e⟩:=IK e;exact mF (args:=[a]) g c w.f w.b w.d w.n ((h G a H).trans e)
def bp(g:iC P)(w:nw P n fn 2){s:ai->aa->aa->af->O}(h:∀G a b H,nH P fn G N (aO [a,b]) H=s G a b H):aP E P n λG l H=>aN l λa b=>s G a b H:=by
 intro G c l H v H' e;obtain⟨a,b,rfl,e⟩:=IL e;exact mF (args:=[a,b]) g c w.f w.b w.d w.n ((h G a b H).trans e)
def dH(i:iC P)(w:nw P n fn 3){s:ai->aa->aa->aa->af->O}(h:∀G a b c H,nH P fn G N (aO [a,b,c]) H=s G a b c H):aP E P n λG l H=>bw l λa b c=>s G a b c H:=by
 intro G g l H v H' e;obtain⟨a,b,c,rfl,e⟩:=IM e;exact mF (args:=[a,b,c]) i g w.f w.b w.d w.n ((h G a b c H).trans e)
def kM(i:iC P)(w:nw P n fn 4){s:ai->aa->aa->aa->aa->af->O}(h:∀G a b c d H,nH P fn G N (aO [a,b,c,d]) H=s G a b c d H):aP E P n λG l H=>gl l λa b c d=>s G a b c d H:=by
 intro G g l H v H' e;obtain⟨a,b,c,d,rfl,e⟩:=IN e;exact mF (args:=[a,b,c,d]) i g w.f w.b w.d w.n ((h G a b c d H).trans e)
def Ev(i:iC P)(w:nw P n fn 5){s:ai->aa->aa->aa->aa->aa->af->O}(h:∀G a b c d x H,nH P fn G N (aO [a,b,c,d,x]) H=s G a b c d x H):aP E P n λG l H=>k1 l λa b c d x=>s G a b c d x H:=by
 intro G g l H v H' e;obtain⟨a,b,c,d,x,rfl,e⟩:=PB e;exact mF (args:=[a,b,c,d,x]) i g w.f w.b w.d w.n ((h G a b c d x H).trans e)
def DR(b:Bool)(aA:O):Bool:= @Option.rec _ (λ_=>Bool) U (λp=> @Prod.rec _ _ (λ_=>Bool) (λv _=>match v with
 | .bool c=>c==b
 |_=>U) p) aA
def RZ{b:Bool}{aA:O}(h:DR b aA=V):∃H,aA=D (.bool b,H):=by
 match aA,h with
 |some (.bool c,H),h=>
  have:c=b:=by simpa [DR]using h
  exact⟨H,by rw[this]⟩
def mE(a:aZ E P aY){t:dq}(c:t.Ok E P){m f:Nat}{args:List aa}{H:af}{b:Bool}(h:DR b (Jf aY t m f args H)=V):∃H',eM E P f args H (.bool b) H':=by
 obtain⟨H',e⟩:=RZ h;exact⟨H',bk a c m _ _ _ _ _ e⟩
end
end
def xC:List (List aa)->List (List aa)->Bool
 |[],[]=>V
 |a::us,b::c=>h8.beq a b&&xC us c
 |_,_=>U
def IZ:∀{a b:List (List aa)},xC a b=V->a=b
 |[],[],_=>rfl
 |[],_::_,h=>by cases h
 |_::_,[],h=>by cases h
 |a::us,b::c,h=>by
  simp only[xC,Bool.and_eq_true]at h;rw[h8.beq_eq h.1,IZ h.2]
def Ds(aA:Option an)(b:an):Bool:=match aA,b with
 |some (.row r e els),.row cS a c=>(r==cS)&&(Nat.beq e a&&xC els c)
 |_,_=>U
def PU{aA:Option an}{b:an}(h:Ds aA b=V):aA=D b:=by
 unfold Ds at h;split at h
 ·simp only[Bool.and_eq_true,beq_iff_eq]at h;obtain⟨rfl,a,c⟩:=h;rw[Nat.eq_of_beq_eq_true a,IZ c]
 ·cases h
def lS:List (Nat×an)->bf an
 |[]=> .leaf
 |p::a=>bf.put p.2 0 (lS a) p.1
def lR(ls:List (Nat×an))(n:Nat):af:=⟨lS ls,n⟩
def Nm{l:Nat}{b:an}:∀{ls:List (Nat×an)},(lS ls).get l=D b->(l,b)∈ls
 |[],h=>by rw[lS,bf.nS]at h;cases h
 |p::a,h=>by
  by_cases e:p.1=l
  ·subst e;rw[lS,bf.put,bf.get,bf.xO]at h;cases h;simp
  ·have:(bf.put p.2 0 (lS a) p.1).get l=(lS a).get l:=bf.nU _ _ _ _ _ e;rw[lS,this]at h;exact List.mem_cons_of_mem _ (Nm h)
def acp{ls:List (Nat×an)}{n l:Nat}{b:an}(h:(lR ls n).get l=D b):(l,b)∈ls:=by
 unfold af.get at h;split at h
 ·exact Nm h
 ·cases h
def xQ(H:af)(ls:List (Nat×an)):Bool:=ls.all λp=>Ds (H.get p.1) p.2
structure Sub(A B:af):Prop where
 next:A.next=B.next
 get:∀l b,A.get l=some b->B.get l=some b
def Ox{H:af}{ls:List (Nat×an)}{n:Nat}(h:xQ H ls=V)(c:Nat.beq H.next n=V):Sub (lR ls n) H:=by
 refine⟨(Nat.eq_of_beq_eq_true c).symm,λl b a=> ?_⟩;unfold xQ at h;rw[List.all_eq_true]at h;exact PU (h _ (acp a))
def Sub.rw{A B:af}(h:Sub A B){l:Nat}(a:A.rw l):B.rw l:=by
 rcases a with⟨e,s,g⟩|⟨es,g⟩|⟨t,e,s,g⟩
 ·exact .inl ⟨e,s,h.get _ _ g⟩
 ·exact .inr (.inl ⟨es,h.get _ _ g⟩)
 ·exact .inr (.inr ⟨t,e,s,h.get _ _ g⟩)
def Sub.live{A B:af}(h:Sub A B){l:Nat}(a:A.live l):B.live l:=by
 rcases a with⟨r,e,s,g⟩|⟨es,g⟩|⟨t,e,s,g⟩
 ·exact .inl ⟨r,e,s,h.get _ _ g⟩
 ·exact .inr (.inl ⟨es,h.get _ _ g⟩)
 ·exact .inr (.inr ⟨t,e,s,h.get _ _ g⟩)
def Sub.rel{ρ:Env}{A B:af}{w:World}(h:Sub A B)(r:Rel ρ B w):Rel ρ A w:=
 ⟨λl ro esz els g=>r.row l ro esz els (h.get _ _ g),λl es g=>r.map l es (h.get _ _ g),λl t esz els g=>r.dp l t esz els (h.get _ _ g),λl e a b c d=>r.apart l e a b (h.rw c) (h.live d)⟩
def Sub.owned{ρ:Env}{A B:af}{b:Nat}(h:Sub A B):hA ρ A b->hA ρ B b:=λ⟨l,loc,a,c,d⟩=>⟨l,loc,h.rw a,c,d⟩
def eM.narrow{E:Env}{P:Program}{g:Nat}{args:List aa}{v:aa}{H bh H1 e:af}(h:eM E P g args bh v H1)(a:Sub bh H)(c:Sub e H1):eM E P g args H v e:=by
 intro ρ w xs f j i m next n
 refine h ρ w xs (a.rel f) (by rw[a.next,<-c.next];exact j) i (by rw[a.next,<-c.next];exact m) next λx q r p s=>n x q r p ⟨s.le,by have:=s.next;rw[a.next,<-c.next]at this;exact this,λl k=>s.hp l (by rw[a.next,<-c.next];exact k),c.rel s.rel,s.os,s.tape,s.output,s.size,λb d o=>s.frame b d λbA=>o (a.owned bA),λb d=>(s.own b (c.owned d)).imp a.owned id,λl esz els g=>a.get _ _ (s.ro l esz els (c.get _ _ g))⟩
structure aR where
 f:Nat
 args:List aa
 dC:Nat
 Ex:List (Nat×an)
 v:aa
 cU:Nat
 zg:List (Nat×an)
def Dy(aA:O)(v:aa)(n:Nat)(ls:List (Nat×an)):Bool:=match aA with
 |some (w,H)=>aa.beq w v&&(Nat.beq H.next n&&xQ H ls)
 |none=>U
def PZ{aA:O}{v:aa}{n:Nat}{ls:List (Nat×an)}(h:Dy aA v n ls=V):∃H,aA=D (v,H)/\Sub (lR ls n) H:=by
 unfold Dy at h;split at h
 ·rename_i w H;simp only[Bool.and_eq_true]at h;exact⟨H,by rw[aa.beq_eq h.1],Ox h.2.2 h.2.1⟩
 ·cases h
def aR.Ok(E:Env)(P:Program)(s:aR):Prop:=eM E P s.f s.args (lR s.Ex s.dC) s.v (lR s.zg s.cU)
def aR.bm{E:Env}{P:Program}{s:aR}{G:ai}(a:aZ E P G)(h:Dy (G s.f s.args (lR s.Ex s.dC)) s.v s.cU s.zg=V):s.Ok E P:=by
 obtain⟨H,e,b⟩:=PZ h;exact eM.narrow (a _ _ _ _ _ e) ⟨rfl,λ_ _ g=>g⟩ b
def aR.fits(s:aR)(f:Nat)(args:List aa)(H:af):Bool:=Nat.beq s.f f&&(Nat.beq H.next s.dC&&(h8.beq args s.args&&xQ H s.Ex))
def Ij(aY:ai):List aR->ai
 |[],f,args,H=>aY f args H
 |s::a,f,args,H=>bif s.fits f args H then D (s.v,lR s.zg s.cU)else Ij aY a f args H
def dn{E:Env}{P:Program}{aY:ai}(d:aZ E P aY):∀{c:List aR},(∀s∈c,s.Ok E P)->aZ E P (Ij aY c)
 |[],_=>d
 |s::c,h=>by
  intro f args H v H' e;have b:(bif s.fits f args H then D (s.v,lR s.zg s.cU)else Ij aY c f args H)=D (v,H'):=e;cases a:s.fits f args H with
  |true=>
   rw[a]at b;cases b;unfold aR.fits at a;simp only[Bool.and_eq_true]at a;obtain⟨i,j,k,l⟩:=a;obtain rfl:=Nat.eq_of_beq_eq_true i;rw[h8.beq_eq k];exact eM.narrow (h s (by simp)) (Ox l j) ⟨rfl,λ_ _ g=>g⟩
  |false=>
   rw[a]at b;exact dn d (λt m=>h t (by simp[m])) _ _ _ _ _ b

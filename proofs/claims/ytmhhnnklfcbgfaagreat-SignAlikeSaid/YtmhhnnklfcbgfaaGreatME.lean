/-
  Texts of one proof, laid together: Hv22 Hv23 Hv24 Base Hv25 Pk Hv26 Tab.
-/
import Derived.Test.YtmhhnnklfcbgfaaGreatMD
import Derived.Test.YtmhhnnklfcbgfaaGreatProg
import Derived.KernelRfl
import Derived.ProofKit
import Derived.OpenShut
import Derived.ShutString
import Derived.ChangeOld
import Derived.Below
import Derived.Carry
set_option linter.unusedVariables false
set_option linter.unusedSimpArgs false
set_option linter.defProp false
open Option renaming some→D,none→I
open Bool renaming true→C,false→Z
namespace Go.bo
abbrev O:=Option (aa×ad)
abbrev cy:=Nat->aa
def dV(R:cy)(dst:Option Nat)(v:aa):cy:=match dst with
 |none=>R
 |some d=>λe=>bif Nat.beq e d then v else R e
def du(R:cy):Operand->Option aa
 | .tmp t=>D (R t)
 | .const v=>s4 v
 | .global _=>I
 | .func f=>D (.func (.func f) [] [])
def k4(R:cy):List Operand->Option (List aa)
 |[]=>D []
 |x::xs=>(du R x).bind λv=>(k4 R xs).bind λa=>D (v::a)
def sG(R:cy):List (Nat×Operand)->Option (List (Nat×aa))
 |[]=>D []
 |(i,x)::xs=>(du R x).bind λv=>(sG R xs).bind λa=>D ((i,v)::a)
def sH(R:cy):Option Operand->Option (Option aa)
 |none=>D I
 |some x=>(du R x).bind λv=>D (D v)
def ba(c:aa)(a b:Option aa):Option aa:=match c with
 | .bool t=>bif t then a else b
 |_=>I
def lX(P:Program)(t:TypeId)(c:Bool)(a b:aa):Bool:=
 match a,b with
 | .nilIface,.nilIface=>c
 | .agg _,.agg _=> !P.eqGuardType P.depth t
 |_,_=>C
def ar(P:Program)(op:BinOp)(t:TypeId)(c:Bool)(x y:aa):Option aa:=
 match x,y with
 | .int k a,.int d b=>
  (match op with
  | .shl=>p2 .shl k a b
  | .shr=>p2 .shr k a b
  |op=>if k=d then iY op k a b else I)
 | .str a,.str b=>ys op a b
 |x,y=>
  (match op with
  | .eql=>if lX P t c x y then(gY P 10000 t x y).map .bool else I
  | .neq=>if lX P t c x y then(gY P 10000 t x y).map λb=> .bool (!b)else I
  |_=>I)
def LS(P:Program)(t:TypeId)(x y:Operand)(u v:aa):lX P t (isConst x||isConst y) u v=n2 P t x y u v:=by
 unfold lX n2;cases u<;>cases v<;>rfl
def No(P:Program)(op:BinOp)(t:TypeId)(x y:Operand)(u v:aa):ar P op t (isConst x||isConst y) u v=sk P op t x y u v:=by
 unfold ar sk;simp only[LS];cases u<;>cases v<;>cases op<;>rfl
def vX(P:Program)(o:Op)(R:cy):Option aa:=
 match o with
 | .move x=>du R x
 | .assign x=>du R x
 | .pick c a b=>(du R c).bind λu=>ba u (du R a) (du R b)
 | .build t j=>(sG R j.toList).bind (c7 P t)
 | .nilCheck x=>(du R x).bind cr
 | .binOp op t x y _=>(du R x).bind λu=>(du R y).bind λv=>ar P op t (isConst x||isConst y) u v
 | .unOp op _ x=>(du R x).bind (dg op)
 | .convert s d x=>(du R x).bind (sn P s d)
 | .makeInterface t x=>(du R x).bind (ih P t)
 | .makeFunc fn f c=>(k4 R f.toList).bind λfs=>(k4 R c.toList).bind λcs=>D (.func fn fs cs)
 | .slice t x fZ e g=>(du R x).bind λv=>(sH R fZ).bind λl=>(sH R e).bind λh=>(sH R g).bind λm=>fX P t v l h m
 | .fieldAddr t x f=>(du R x).bind λv=>av P t v f
 | .field t x f=>(du R x).bind λv=>lP P t v f
 | .indexAddr t x i=>(du R x).bind λu=>(du R i).bind λv=>a6 P t u v
 | .index t x i=>(du R x).bind λu=>(du R i).bind λv=>gf P t u v
 | .extract x i=>(du R x).bind λv=>gC v i
 | .typeAssert x _ t ok=>(du R x).bind (nR P t ok)
 | .call c=>match c.callee with
  | .builtin b=>(k4 R c.args.toList).bind (a2 P .empty b c.argTypes.toList)
  |_=>I
 |_=>I
def pX(P:Program)(o:Op)(R:cy)(H:ad):Option aa:=
 match o with
 | .load t x=>(du R x).bind (aj P H t)
 | .lookup t x k ok=>(du R x).bind λu=>(du R k).bind λv=>hh P H t u v ok
 | .convert s d x=>(du R x).bind (sm P H s d)
 | .call c=>match c.callee with
  | .builtin b=>(k4 R c.args.toList).bind (a2 P H b c.argTypes.toList)
  |_=>I
 |_=>I
def b0(l:Nat)(v:aa):Option (aa×bL):=bif v.cells.all aa.one then D (.ptr l 0 0,.row Z v.cells.length [v.cells])else I
def vF(ot:Option TypeId)(l:Nat)(v:aa):Option (aa×bL):=bif v.cells.all aa.one then D (.ptr l 0 0,eD ot v.cells.length [v.cells])else I
def cv(P:Program)(l:Nat)(t:TypeId)(len:Nat)(parts:List (Nat×aa)):Option (aa×bL):=
 match P.underlying t with
 |some (.slice e)=>
  (match cD P e,e1 P e with
  |some a,D z=>
   bif decide (len*a<=16777216/\z.cells.length=a/\z.cells.all aa.one=C)then
    (jB a (List.replicate len z.cells) parts).bind λels=>D (.aJ l 0 len a (D len),.row Z a els)
   else I
  |_,_=>I)
 |_=>I
def zu(P:Program)(o:Op)(R:cy)(l:Nat):Option (aa×bL):=
 match o with
 | .alloc t=>(e1 P t).bind (vF (p_ P t) l)
 | .box t x=>(du R x).bind (vF (p_ P t) l)
 | .buildSlice t n a=>(sG R a.toList).bind (cv P l t n)
 | .makeMap _ I=>D (.map l,.map [])
 | .makeSlice t x c=>(du R x).bind λu=>(du R c).bind λv=>e5 (fw P ⟨.leaf,l⟩ t u v) l
 |_=>I
def zx(P:Program)(o:Op)(R:cy)(H:ad):Option (aa×ad):=
 match o with
 | .store t x y=>(du R x).bind λu=>(du R y).bind λv=>(bA P H t u v).bind λH'=>D (.tuple [],H')
 | .mapUpdate t m k x=>(du R m).bind λu=>(du R k).bind λv=>(du R x).bind λz=>(iN P H t u v z).bind λH'=>D (.tuple [],H')
 | .insert t m k x=>(du R m).bind λu=>(du R k).bind λv=>(du R x).bind λz=>(iN P H t u v z).bind λH'=>D (.tuple [],H')
 | .call c=>match c.callee,c.args.toList with
  | .builtin .append,[s,x]=>(du R s).bind λu=>(du R x).bind λv=>cS P H c.argTypes.toList u v
  | .builtin .clear,[x]=>(du R x).bind λu=>(vx P H c.argTypes.toList u).bind λH'=>D (.tuple [],H')
  |_,_=>I
 |_=>I
def sx(f:aa)(a:List aa):Option (Nat×List aa):=match f with
 | .func (.func g) first captured=>D (g,first++a++captured)
 |_=>I
def hN(P:Program)(H:ad)(r:aa)(name:String)(a:List aa):Option (Nat×List aa):=(jz P H r name).bind λp=>D (p.1,p.2::a)
def zq(P:Program)(H:ad)(R:cy)(c:Call):Option (Nat×List aa):=
 match c.callee with
 | .value f=>(du R f).bind λu=>(k4 R c.args.toList).bind λa=>sx u a
 | .invoke r name=>(du R r).bind λu=>(k4 R c.args.toList).bind λa=>hN P H u name a
 |_=>I
def cx(a b:Option aa)(k:K->O):O:=match a with
 |some v=>k (.pure v)
 |none=>b.bind λv=>k (.read v)
def fG(r:Option (aa×bL))(k:K->O):O:=match r with
 |some (v,b)=>k (.new v b)
 |none=>I
def b9(H:ad)(r:O)(k:K->O):O:=match r with
 |some (v,H')=>bif decide (H.next<=H'.next)then k (.cF v H')else I
 |none=>I
def vU(P:Program)(call:an)(o:Op)(R:cy)(H:ad)(k:K->O):O:=
 match cls o with
 | .pure=>(vX P o R).bind λv=>k (.pure v)
 | .read=>(pX P o R H).bind λv=>k (.read v)
 | .both=>cx (vX P o R) (pX P o R H) k
 | .new=>fG (zu P o R H.next) k
 | .write=>b9 H (zx P o R H) k
 | .call=>match o with
  | .call c=>(zq P H R c).bind λp=>b9 H (call p.1 p.2 H) k
  |_=>I
def bh(b:aa)(want:Bool)(m:(K->O)->O)(k:K->O):O:=match b with
 | .bool t=>bif t==want then m k else k .skip
 |_=>k .skip
def vV(P:Program)(call:an)(ops:Array Oper)(o:Oper)(R:cy)(H:ad)(k:K->O):O:=
 match o.guard with
 |none=>vU P call o.op R H k
 |some (j,want)=>match ops[j]? with
  |some q=>(match q.dst with
   |some d=>bh (R d) want (vU P call o.op R H) k
   |none=>k .skip)
  |none=>k .skip
def yl(P:Program)(call:an)(ops:Array Oper):List Oper->cy->ad->(cy->ad->O)->O
 |[],R,H,k=>k R H
 |o::os,R,H,k=>vV P call ops o R H λx=>yl P call ops os (dV R o.dst x.val) (x.heap H) k
structure fa where
 i:Nat
 k:K
 rd:ad->Option aa
def n1(ms:List Nat):List fa->List Nat->Bool
 |[],_=>C
 |t::ts,ids=>match t.k with
  | .cF _ _=>ids.all (λj=>cV ms j t.i)&&n1 ms ts (t.i::ids)
  | .new _ _=>n1 ms ts (t.i::ids)
  |_=>n1 ms ts ids
def aV(r:Option aa)(v:aa):Bool:=match r with
 |some u=>aa.beq u v
 |none=>Z
def lI(ms:List Nat)(rd:ad->Bool)(i:Nat):List fa->ad->Bool
 |[],H=>rd H
 |t::ts,H=>bif t.k.eu then(cV ms t.i i||rd H)&&(cV ms i t.i||lI ms rd i ts (t.k.heap H))else lI ms rd i ts H
def nW(ms:List Nat)(i:Nat):List fa->Bool->Bool
 |[],_=>Z
 |t::ts,s=>match t.k with
  | .new _ _=>(s&&cV ms t.i i&&ts.all λu=>l9 u.k)||nW ms i ts (s|| !cV ms t.i i)
  | .cF _ _=>nW ms i ts (s|| !cV ms t.i i)
  |_=>nW ms i ts s
def oq(ms:List Nat)(rd:ad->Bool)(i:Nat):List fa->ad->Bool->Bool
 |[],_,_=>Z
 |t::ts,H,s=>match t.k with
  | .new _ b=>bif s&&cV ms t.i i&&ts.all (λu=>l9 u.k)then rd (H.push b).only||oq ms rd i ts (H.push b) (s|| !cV ms t.i i)else oq ms rd i ts (H.push b) (s|| !cV ms t.i i)
  | .cF _ H'=>oq ms rd i ts H' (s|| !cV ms t.i i)
  |_=>oq ms rd i ts H s
def ve(ms:List Nat)(rd:ad->Bool)(i:Nat)(T:List fa)(H:ad):Bool:=bif nW ms i T Z then lI ms rd i T H||oq ms rd i T H Z else lI ms rd i T H
def sc(ms:List Nat)(a:List Nat)(T:List fa)(H:ad):List fa->Bool
 |[]=>C
 |t::ts=>(match t.k with
  | .read v=>a.contains t.i||ve ms (λH=>aV (t.rd H) v) t.i T H
  |_=>C)&&sc ms a T H ts
def eH(ms:List Nat)(a:List Nat)(T:List fa)(H:ad):Bool:=n1 ms T []&&sc ms a T H T
def pK(P:Program)(call:an)(ops:Array Oper):List Nat->cy->ad->(List fa->cy->ad->O)->O
 |[],R,H,k=>k [] R H
 |i::is,R,H,k=>match ops[i]? with
  |none=>I
  |some o=>vV P call ops o R H λx=>pK P call ops is (dV R o.dst x.val) (x.heap H) λT bm H'=>k (⟨i,x,pX P o.op R⟩::T) bm H'
def yx(ops:Array Oper):List Nat:=(order ops).filter (g9 ops (cO ops) (order ops))
def quiet(ops:Array Oper):Bool:=ops.toList.all λo=> !n_ o.op
def yF(ms:List Nat)(a:List Nat)(T:List fa)(H:ad):List fa->Bool
 |[]=>C
 |t::ts=>(match t.k with
  | .read v=>a.contains t.i||lI ms (λH=>aV (t.rd H) v) t.i T H
  |_=>C)&&yF ms a T H ts
def z6(u v:aa):Bool:=match u,v with
 | .ptr l _ _,.ptr m _ _=> !Nat.beq l m
 |_,_=>Z
def BA(ops:Array Oper)(a b:Nat)(R:cy):Bool:=match hS ops a,hS ops b with
 |some (_,c,_),D (_,af,_)=>(match du R c,du R af with
  |some u,D v=>z6 u v
  |_,_=>Z)
 |_,_=>Z
def aae(ops:Array Oper)(a b:Nat)(R:bl):BA ops a b R.get=r8 ops a b R:=by
 have c:∀x,du R.get x=cb R x:=λx=>by cases x<;>rfl
 unfold BA r8;cases hS ops a with
 |none=>rfl
 |some d=>
  obtain⟨ta,f,g⟩:=d;cases hS ops b with
  |none=>rfl
  |some e=>
   obtain⟨tb,af,h⟩:=e;simp only[c,wH];cases cb R f with
   |none=>rfl
   |some u=>
    cases cb R af with
    |none=>cases u<;>rfl
    |some v=>cases u<;>cases v<;>rfl
def AP(P:Program)(call:an)(ops:Array Oper)(draw:Bool)(R:cy)(H:ad)(k:cy->ad->O):O:=
 match draw with
 |false=>yl P call ops ops.toList R H k
 |true=>match r9 ops (order ops)with
  |some (a,b)=>pK P call ops (order ops) R H λT bm H'=>bif BA ops a b bm&&yF (cO ops) (yx ops) T H T then k bm H' else I
  |none=>bif quiet ops then pK P call ops (order ops) R H λ_ bm H'=>k bm H' else
   pK P call ops (order ops) R H λT bm H'=>bif eH (cO ops) (yx ops) T H then k bm H' else I
def aP(c:Option aa)(a b:O):O:=match c with
 |some (.bool t)=>bif t then a else b
 |_=>I
abbrev ew:=cy->ad->O
def look(i:Nat):List (Nat×ew)->ew
 |[],_,_=>I
 |(j,k)::a,R,H=>bif Nat.beq i j then k R H else look i a R H
def ob(b:ew->ew):Nat->ew
 |0,_,_=>I
 |n+1,R,H=>b (λR H=>ob b n R H) R H
def aX(P:Program)(call:an)(N:Nat):Code->ew->List (Nat×ew)->ew->ew
 | .skip,e,_,_,R,H=>e R H
 | .region _ ops d,e,_,_,R,H=>AP P call ops d R H e
 | .seq a b,e,g,f,R,H=>aX P call N a (λR H=>aX P call N b e g f R H) g f R H
 | .cond c a b,e,g,f,R,H=>aP (du R c) (aX P call N a e g f R H) (aX P call N b e g f R H)
 | .block id b,e,g,f,R,H=>aX P call N b e ((id,e)::g) f R H
 | .loop b,_,g,f,R,H=>ob (λe R H=>aX P call N b e g f R H) N R H
 | .exit id,_,g,_,R,H=>look id g R H
 | .ret,_,_,f,R,H=>f R H
 | .label _,e,_,_,R,H=>e R H
 |_,_,_,_,_,_=>I
def qe(P:Program)(H:ad)(R:cy):List ResultVar->(List aa->O)->O
 |[],k=>k []
 | .tmp t::rs,k=>qe P H R rs λb=>k (R t::b)
 | .cell a t::rs,k=>(aj P H t (R a)).bind λv=>qe P H R rs λb=>k (v::b)
def j2(P:Program)(rs:List ResultVar):ew:=λR H=>qe P H R rs λa=>D (lR a,H)
def bO:List aa->cy
 |[],_=> .tuple []
 |v::_,0=>v
 |_::a,n+1=>bO a n
section
variable {P:Program}{ax:an}{call:an}{R bm:bl}{H:ad}
def ki(x:Operand):du R.get x=cb R x:=by cases x<;>rfl
def sI:∀xs:List Operand,k4 R.get xs=gP R xs
 |[]=>rfl
 |x::xs=>by
  simp only[k4,gP,ki,sI xs];cases cb R x<;>cases gP R xs<;>rfl
def zw:∀xs:List (Nat×Operand),sG R.get xs=ik R xs
 |[]=>rfl
 |(i,x)::xs=>by
  simp only[sG,ik,ki,zw xs];cases cb R x<;>cases ik R xs<;>rfl
def NL(x:Option Operand):sH R.get x=jC R x:=by
 cases x with
 |none=>rfl
 |some x=>simp only[sH,jC,ki];cases cb R x<;>rfl
def D4(o:Op):vX P o R.get=hF P o R:=by
 cases o<;>simp only[vX,hF,ki,sI,zw,NL,No]
 ·rename_i c a b;cases aA:cb R c with
  |none=>rfl
  |some v=>cases v<;>first|rfl|(rename_i t;cases t<;>rfl)
 ·rename_i c;cases c.callee<;>rfl
def vZ(o:Op):pX P o R.get H=gD P o R H:=by
 cases o<;>simp only[pX,gD,ki,sI]
 ·rename_i c;cases c.callee<;>rfl
def As(v:aa)(l:Nat)(b:bL)(a:b.iZ=C):e5 (D (v,ad.push ⟨.leaf,l⟩ b)) l=D (v,b):=by
 unfold e5;simp only[ad.ds,if_true];have:(ad.push ⟨.leaf,l⟩ b).get l=D b:=ad.bq ⟨.leaf,l⟩ b;rw[this];simp[a]
def Qf(ot:Option TypeId)(esz:Nat)(els:List (List aa)):(eD ot esz els).iZ=true:=by cases ot<;>rfl
def CQ(ot:Option TypeId)(l:Nat)(v:aa):vF ot l v=e5 (py ot ⟨.leaf,l⟩ v) l:=by
 unfold vF py;by_cases h:v.cells.all aa.one=C
 ·rw[h,if_pos rfl];exact(As _ _ _ (Qf _ _ _)).symm
 ·rw[if_neg h];simp only[Bool.not_eq_true]at h;rw[h];rfl
def ZV(l:Nat)(t:TypeId)(n:Nat)(a:List (Nat×aa)):cv P l t n a=e5 (sl P ⟨.leaf,l⟩ t n a) l:=by
 unfold cv sl;cases hu:P.underlying t with
 |none=>rfl
 |some d=>
  cases d<;>try rfl
  rename_i e;simp only
  cases c:cD P e with
  |none=>rfl
  |some b=>
  cases f:e1 P e with
  |none=>rfl
  |some z=>
   simp only
   by_cases h:n*b<=16777216/\z.cells.length=b/\z.cells.all aa.one=C
   ·rw[if_pos h,decide_eq_true h];simp only[gG];cases jB b (List.replicate n z.cells) a with
    |none=>rfl
    |some els=>exact(As _ _ _ rfl).symm
   ·rw[if_neg h,decide_eq_false h];rfl
def NK(o:Op)(l:Nat):zu P o R.get l=iO P o R l:=by
 unfold iO;cases o<;>simp only[zu,nS,ki,zw]<;>try rfl
 ·rename_i t;unfold vv;cases e1 P t with
  |none=>rfl
  |some v=>exact CQ _ l v
 ·rename_i t x;cases cb R x with
  |none=>rfl
  |some v=>exact CQ _ l v
 ·rename_i t n a;cases ik R a.toList with
  |none=>rfl
  |some v=>exact ZV l t n v
 ·rename_i t r;cases r with
  |none=>exact(As _ _ _ rfl).symm
  |some r=>rfl
 ·rename_i t x c;cases cb R x with
  |none=>rfl
  |some u=>cases cb R c<;>rfl
def map_bind{α β:Type}(x:Option α)(f:α->β):x.bind (λa=>D (f a))=x.map f:=by cases x<;>rfl
def NM(o:Op):zx P o R.get H=iS P o R H:=by
 cases o<;>simp only[zx,iS,ki,map_bind]
 ·rename_i c;cases aA:c.callee with
  |builtin b=>
   cases a:c.args.toList with
   |nil=>cases b<;>rfl
   |cons s r=>
    cases r with
    |nil=>cases b<;>rfl
    |cons x r=>cases r<;>cases b<;>rfl
  |value f=>rfl
  |invoke r m=>rfl
def Nx(c:Call):zq P H R.get c=kW P H R c:=by
 unfold zq kW;cases aA:c.callee with
 |value f=>
  simp only[ki,sI];cases cb R f with
  |none=>rfl
  |some v=>
   cases d:gP R c.args.toList with
   |none=>
    simp only[Option.bind_some,Option.bind_none];split<;>first|rfl|(simp_all;done)
   |some e=>
    simp only[Option.bind_some];unfold sx;split
    ·rename_i g first captured;rfl
    ·rename_i a;split
     ·rename_i g first captured he
      simp only[bn]at he;exact absurd he (a _ _ _)
     ·rfl
 |invoke r m=>
  simp only[ki,sI];cases cb R r with
  |none=>rfl
  |some v=>
   simp only[Option.bind_some];cases d:gP R c.args.toList with
   |none=>cases jz P H v m<;>rfl
   |some e=>
    simp only[Option.bind_some,hN];cases jz P H v m<;>rfl
 |builtin b=>rfl
def DT(o:Op)(k:K->O):vU P call o R.get H k=(gz P call o R H).bind k:=by
 unfold vU gz;cases b:cls o with
 |pure=>simp only[D4];cases hF P o R<;>rfl
 |read=>simp only[vZ];cases gD P o R H<;>rfl
 |both=>
  simp only[D4,vZ];unfold cx;cases hF P o R with
  |some v=>rfl
  |none=>cases gD P o R H<;>rfl
 |new=>
  simp only[NK];unfold fG;cases iO P o R H.next<;>rfl
 |write=>
  simp only[NM];unfold b9;cases h:iS P o R H with
  |none=>rfl
  |some r=>
   obtain⟨v,H'⟩:=r;simp only[i_];by_cases aS:H.next<=H'.next
   ·rw[if_pos aS,decide_eq_true aS];rfl
   ·rw[if_neg aS,decide_eq_false aS];rfl
 |call=>
  cases o<;>try rfl
  rename_i c;simp only[Nx];cases kW P H R c with
  |none=>rfl
  |some p=>
   obtain⟨g,a⟩:=p;simp only[Option.bind_some];unfold b9;cases h:call g a H with
   |none=>rfl
   |some r=>
    obtain⟨v,H'⟩:=r;simp only[i_];by_cases aS:H.next<=H'.next
    ·rw[if_pos aS,decide_eq_true aS];rfl
    ·rw[if_neg aS,decide_eq_false aS];rfl
def DU(ops:Array Oper)(o:Oper)(k:K->O):vV P call ops o R.get H k=(e2 P call ops o R H).bind k:=by
 unfold vV e2 hG;cases b:o.guard with
 |none=>exact DT o.op k
 |some p=>
  obtain⟨j,want⟩:=p;simp only
  cases a8:ops[j]? with
  |none=>rfl
  |some q=>
   simp only
   cases a:q.dst with
   |none=>rfl
   |some d=>
    simp only
    cases e:R.get d<;>try rfl
    rename_i t;simp only[bh];cases c:(t==want)with
    |true=>simp only[gG];exact DT o.op k
    |false=>rfl
def I_{dst:Option Nat}{v:aa}(h:R.put dst v=D bm):dV R.get dst v=bm.get:=by
 funext e
 rw[bl.p0 h];cases dst with
 |none=>simp[dV]
 |some d=>
  simp only[dV];by_cases he:e=d
  ·subst he;simp[Nat.beq_refl]
  ·have ae:Nat.beq e d=false:=by rw[<-Bool.not_eq_true,Nat.beq_eq];exact he
   rw[ae];simp[Ne.symm he]
def nZ(n:Nat)(o:Oper):Bool:=match o.dst with
 |none=>C
 |some d=>decide (d<n)
def Gk{o:Oper}(h:nZ R.size o=C)(v:aa):∃bm,R.put o.dst v=D bm/\bm.size=R.size:=by
 unfold nZ at h;cases a:o.dst with
 |none=>exact⟨R,rfl,rfl⟩
 |some d=>
  rw[a]at h;exact⟨{R with t:=bJ.put v (d+1) R.t d},by simp only[bl.put];rw[if_pos (of_decide_eq_true h)],rfl⟩
def Ig(ops:Array Oper)(k:cy->ad->O):∀(os:List Oper) (R:bl) (H:ad),os.all (nZ R.size)=C->
  yl P call ops os R.get H k=(g8 P call ops os R H).bind λp=>k p.1.get p.2
 |[],R,H,_=>rfl
 |o::os,R,H,h=>by
  simp only[List.all_cons,Bool.and_eq_true]at h;simp only[yl,g8,DU];cases a:e2 P call ops o R H with
  |none=>rfl
  |some x=>
   obtain⟨bm,ae,ah⟩:=Gk h.1 x.val;simp only[Option.bind_some,ae,I_ ae];exact Ig ops k os bm _ (by rw[ah];exact h.2)
def bN.c(P:Program)(t:bN):fa:=⟨t.i,t.k,pX P t.o.op t.R.get⟩
def Dt(ms:List Nat):∀(T:List bN) (ids:List Nat),n1 ms (T.map (bN.c P)) ids=hI ms T ids
 |[],_=>rfl
 |t::T,ids=>by
  simp only[List.map_cons,n1,hI,bN.c];cases t.k<;>simp only[Dt ms T]
def yD(ms:List Nat)(rd:ad->Bool)(i:Nat):∀(T:List bN) (H:ad),lI ms rd i (T.map (bN.c P)) H=fk ms rd i T H
 |[],_=>rfl
 |t::T,H=>by
  simp only[List.map_cons,lI,fk,bN.c];cases t.k.eu
  ·simp only[jF];exact yD ms rd i T H
  ·simp only[gG,if_true];rw[yD ms rd i T]
def CW(ms:List Nat)(i:Nat):∀(T:List bN) (s:Bool),nW ms i (T.map (bN.c P)) s=lV ms i T s
 |[],_=>rfl
 |t::T,s=>by
  simp only[List.map_cons,nW,lV,bN.c];cases t.k<;>simp only[CW ms i T,List.all_map]<;>rfl
def Fw(ms:List Nat)(rd:ad->Bool)(i:Nat):∀(T:List bN) (H:ad) (s:Bool),oq ms rd i (T.map (bN.c P)) H s=jX ms rd i T H s
 |[],_,_=>rfl
 |t::T,H,s=>by
  simp only[List.map_cons,oq,jX,bN.c];cases t.k<;>simp only[Fw ms rd i T,List.all_map]<;>rfl
def ZC(ms:List Nat)(rd:ad->Bool)(i:Nat)(T:List bN)(H:ad):ve ms rd i (T.map (bN.c P)) H=pc ms rd i T H:=by
 simp only[ve,pc,CW,Fw,yD]
def Jm(ms:List Nat)(b:List Nat)(a:Nat->Bool)(T:List bN)(H:ad):∀(S:List bN),(∀t∈S,b.contains t.i=a t.i)->sc ms b (T.map (bN.c P)) H (S.map (bN.c P))=jq P ms a T H S
 |[],_=>rfl
 |t::S,h=>by
  simp only[List.map_cons,sc,jq,Jm ms b a T H S λt d=>h t (by simp[d])]
  congr 1
  simp only[bN.c,h t (by simp)];cases t.k<;>try rfl
  simp only[ZC]
  congr 2
  funext H
  simp only[aV,iB,vZ];cases gD P t.o.op t.R H<;>rfl
def Jq(ms:List Nat)(b:List Nat)(a:Nat->Bool)(T:List bN)(H:ad):∀(S:List bN),(∀t∈S,b.contains t.i=a t.i)->yF ms b (T.map (bN.c P)) H (S.map (bN.c P))=nN P ms a T H S
 |[],_=>rfl
 |t::S,h=>by
  simp only[List.map_cons,yF,nN,Jq ms b a T H S λt d=>h t (by simp[d])]
  congr 1
  simp only[bN.c,h t (by simp)];cases t.k<;>try rfl
  simp only[yD]
  congr 2
  funext H
  simp only[aV,iB,vZ];cases gD P t.o.op t.R H<;>rfl
def Gn(ms:List Nat):∀(T:List bN) (ids:List Nat),(∀t∈T,t.k.eu=Z)->hI ms T ids=C
 |[],_,_=>rfl
 |t::T,ids,h=>by
  have a:=h t (by simp);simp only[hI];have c:=Gn ms T ids λu hu=>h u (by simp[hu])
  cases b:t.k<;>rw[b]at a<;>first|exact c|(cases a;done)
def Gp(ms:List Nat)(a:Nat->Bool)(T:List bN)(H:ad):∀(S:List bN),(∀t∈S,a t.i=C)->jq P ms a T H S=C
 |[],_=>rfl
 |t::S,h=>by
  simp only[jq,h t (by simp),Gp ms a T H S λt b=>h t (by simp[b]),Bool.true_or,Bool.and_true];cases t.k<;>rfl
def sy(ops:Array Oper):∀(is:List Nat) (R:bl) (H:ad) (k:List fa->cy->ad->O),ops.toList.all (nZ R.size)=C->
  pK P call ops is R.get H k=(canRun P call ops is R H).bind λp=>k (p.1.map (bN.c P)) p.2.1.get p.2.2
 |[],R,H,k,_=>rfl
 |i::is,R,H,k,h=>by
  simp only[pK,canRun];cases a7:ops[i]? with
  |none=>rfl
  |some o=>
   simp only[DU];cases b:e2 P call ops o R H with
   |none=>rfl
   |some x=>
    have hm:nZ R.size o=true:=by
     rw[List.all_eq_true]at h;exact h o (by have:=Array.mem_of_getElem? a7;simpa using this)
    obtain⟨bm,ae,ah⟩:=Gk hm x.val;simp only[Option.bind_some,ae,I_ ae];rw[sy ops is bm _ _ (by rw[ah];exact h)];cases canRun P call ops is bm (x.heap H)with
    |none=>rfl
    |some p=>obtain⟨T,a,H1⟩:=p;rfl
def Tf(ops:Array Oper)(d:Bool)(k:cy->ad->O)(h:ops.toList.all (nZ R.size)=C):AP P call ops d R.get H k=(fR P call ops d R H).bind λp=>k p.1.get p.2:=by
 unfold AP fR;cases d with
 |false=>exact Ig ops k _ R H h
 |true=>
  simp only
  rw[sy ops _ R H _ h,sy ops _ R H _ h];cases aA:canRun P call ops (order ops) R H with
  |none=>
   cases r9 ops (order ops)with
   |none=>cases quiet ops<;>rfl
   |some q=>exact sy ops _ R H _ h|>.trans (by rw[aA];rfl)
  |some p=>
   obtain⟨T,l,H1⟩:=p;have s:=(iT aA).1;have v:∀t∈T,t.i∈order ops:=λt c=>by rw[<-s];exact List.mem_map.2 ⟨t,c,rfl⟩
   have g:∀t∈T,(yx ops).contains t.i=g9 ops (cO ops) (order ops) t.i:=λt c=>by
    unfold yx;rw[Bool.eq_iff_iff,List.contains_iff_mem,List.mem_filter];exact⟨λh=>h.2,λh=>⟨v t c,h⟩⟩
   cases w:r9 ops (order ops)with
   |some q=>
    obtain⟨a,b⟩:=q;refine(sy ops _ R H _ h).trans ?_;rw[aA];simp only[Option.bind_some,aae,Jq _ _ _ T H T g];cases r8 ops a b l&&nN P (cO ops) (g9 ops (cO ops) (order ops)) T H T<;>rfl
   |none=>
   simp only
   simp only[Option.bind_some];cases a8:quiet ops with
   |true=>
    have f:∀o∈ops.toList,n_ o.op=false:=λo a7=>by
     unfold quiet at a8;rw[List.all_eq_true]at a8;simpa using a8 o a7
    have dp:∀t∈T,t.k.eu=false:=λt c=>by
     obtain⟨A,B,m⟩:=List.append_of_mem c;have e:=vI (P:=P) (call:=call) (by rw[<-m];exact aA);cases r:t.k.eu with
     |false=>rfl
     |true=>
      have:=EG e.2.2.1 r;rw[f t.o (by have:=Array.mem_of_getElem? e.1;simpa using this)]at this;cases this
    have n:∀t∈T,g9 ops (cO ops) (order ops) t.i=true:=λt _=>by
     unfold g9;rw[List.all_eq_true];intro j _;cases u:ops[j]? with
     |none=>simp
     |some o=>simp[f o (by have:=Array.mem_of_getElem? u;simpa using this)]
    simp only[gG,Gn (cO ops) T [] dp,Gp (cO ops) _ T H T n];rfl
   |false=>
    simp only[jF,eH,Dt,Jm _ _ _ T H T g];cases hI (cO ops) T []with
    |false=>rfl
    |true=>
     cases jq P (cO ops) (g9 ops (cO ops) (order ops)) T H T<;>rfl
def h3(n:Nat):Code->Bool
 | .region _ ops _=>ops.toList.all (nZ n)
 | .seq a b=>h3 n a&&h3 n b
 | .cond _ a b=>h3 n a&&h3 n b
 | .block _ b=>h3 n b
 | .loop b=>h3 n b
 |_=>C
def pT(r:Option (fm×bl×ad))(a:ew)(c:List (Nat×ew))(b:ew):O:=match r with
 |some (.normal,R,H)=>a R.get H
 |some (.exit id,R,H)=>look id c R.get H
 |some (.ret,R,H)=>b R.get H
 |none=>I
def Iv{ops:Array Oper}:∀{os:List Oper} {R bm:bl} {H H':ad},g8 P call ops os R H=D (bm,H')->bm.size=R.size
 |[],R,bm,H,H',h=>by
  simp only[g8,bn,cM]at h;rw[h.1]
 |o::os,R,bm,H,H',h=>by
  simp only[g8]at h;split at h
  ·cases h
  ·split at h
   ·cases h
   ·rename_i a ae;rw[Iv h,bl.size_put ae]
def Bq{ops:Array Oper}:∀{is:List Nat} {R bm:bl} {H H':ad} {T:List bN},canRun P call ops is R H=D (T,bm,H')->bm.size=R.size
 |[],R,bm,H,H',T,h=>by
  simp only[canRun,bn,cM]at h;rw[h.2.1]
 |i::is,R,bm,H,H',T,h=>by
  simp only[canRun]at h;split at h
  ·cases h
  ·split at h
   ·cases h
   ·split at h
    ·cases h
    ·rename_i a ae;split at h
     ·cases h
     ·rename_i ah;simp only[bn,cM]at h;obtain⟨_,rfl,_⟩:=h;rw[Bq ah,bl.size_put ae]
def ZQ{ops:Array Oper}{d:Bool}{R bm:bl}{H H':ad}(h:fR P call ops d R H=D (bm,H')):bm.size=R.size:=by
 unfold fR at h;split at h
 ·exact Iv h
 ·split at h
  ·cases h
  ·rename_i ae;split at h
   ·split at h
    ·cases h
    ·simp only[bn,cM]at h;obtain⟨rfl,_⟩:=h;exact Bq ae
   ·split at h
    ·cases h
    ·split at h
     ·cases h
     ·simp only[bn,cM]at h;obtain⟨rfl,_⟩:=h;exact Bq ae
def Iu{f:bl->ad->Option (fm×bl×ad)}(aN:∀R H ex bm H',f R H=D (ex,bm,H')->bm.size=R.size):
  ∀{n:Nat} {R:bl} {H:ad} {ex:fm} {bm:bl} {H':ad},iter f n R H=D (ex,bm,H')->bm.size=R.size
 |0,_,_,_,_,_,h=>by cases h
 |n+1,R,H,ex,bm,H',h=>by
  simp only[iter]at h;split at h
  ·rename_i a H1 ae;rw[Iu aN h,aN _ _ _ _ _ ae]
  ·exact aN _ _ _ _ _ h
def It{N:Nat}:∀(c:Code) {R:bl} {H:ad} {ex:fm} {bm:bl} {H':ad},c4 (fR P call) N c R H=D (ex,bm,H')->bm.size=R.size:=by
 intro c
 induction c with
 |skip=>intro R H ex bm H' h;simp only[c4,bn,cM]at h;rw[h.2.1]
 |region id ops d=>
  intro R H ex bm H' h;simp only[c4]at h;split at h
  ·rename_i j H1 ae;simp only[bn,cM]at h;obtain⟨_,rfl,_⟩:=h;exact ZQ ae
  ·cases h
 |seq a b g i=>
  intro R H ex bm H' h;simp only[c4]at h;split at h
  ·rename_i j H1 ae;rw[i h,g ae]
  ·exact g h
 |cond c a b g i=>
  intro R H ex bm H' h;simp only[c4]at h;split at h
  ·exact g h
  ·exact i h
  ·cases h
 |block id b e=>
  intro R H ex bm H' h;simp only[c4]at h;split at h
  ·rename_i k j H1 ae;split at h<;>(simp only[bn,cM]at h;obtain⟨_,rfl,_⟩:=h;exact e ae)
  ·exact e h
 |loop b e=>
  intro R H ex bm H' h;simp only[c4]at h;exact Iu (λ_ _ _ _ _ h=>e h) h
 |exit id=>intro R H ex bm H' h;simp only[c4,bn,cM]at h;rw[h.2.1]
 |ret=>intro R H ex bm H' h;simp only[c4,bn,cM]at h;rw[h.2.1]
 |label l=>intro R H ex bm H' h;simp only[c4,bn,cM]at h;rw[h.2.1]
 |goto l=>intro R H ex bm H' h;cases h
 |scope b e=>intro R H ex bm H' h;cases h
 |rangeFunc f m a b g i=>intro R H ex bm H' h;cases h
 |refuse y=>intro R H ex bm H' h;cases h
def Et{f:bl->ad->Option (fm×bl×ad)}{b:ew->ew}{i:List (Nat×ew)}{g:ew}(m:Nat)(e:∀R H ex bm H',f R H=D (ex,bm,H')->bm.size=R.size)
  (d:∀(R:bl) (H:ad) (a:ew),R.size=m->b a R.get H=pT (f R H) a i g) (a:ew):∀(n:Nat) (R:bl) (H:ad),R.size=m->ob b n R.get H=pT (iter f n R H) a i g
 |0,R,H,_=>rfl
 |n+1,R,H,c=>by
  simp only[ob,iter];rw[d R H _ c];cases h:f R H with
  |none=>rfl
  |some x=>
   obtain⟨ex,j,H1⟩:=x;cases ex with
   |normal=>exact Et m e d a n j H1 (by rw[e _ _ _ _ _ h];exact c)
   |exit id=>rfl
   |ret=>rfl
def De{N:Nat}:∀(c:Code) (R:bl) (H:ad) (e:ew) (i:List (Nat×ew)) (g:ew),h3 R.size c=C->aX P call N c e i g R.get H=pT (c4 (fR P call) N c R H) e i g:=by
 intro c
 induction c with
 |skip=>intro R H e i g _;rfl
 |region id ops d=>
  intro R H e i g h;simp only[aX,c4];rw[Tf ops d e h];cases fR P call ops d R H<;>rfl
 |seq a b m n=>
  intro R H e i g h;simp only[h3,Bool.and_eq_true]at h;simp only[aX,c4];rw[m R H _ i g h.1];cases he:c4 (fR P call) N a R H with
  |none=>rfl
  |some x=>
   obtain⟨ex,j,H1⟩:=x;cases ex with
   |normal=>exact n j H1 e i g (by rw[It a he];exact h.2)
   |exit id=>rfl
   |ret=>rfl
 |cond c a b m n=>
  intro R H e i g h;simp only[h3,Bool.and_eq_true]at h;simp only[aX,c4,ki];unfold aP;cases cb R c with
  |none=>rfl
  |some v=>
   cases v<;>try rfl
   rename_i t;cases t
   ·exact n R H e i g h.2
   ·exact m R H e i g h.1
 |block id b k=>
  intro R H e i g h;simp only[aX,c4];rw[k R H e _ g h];cases he:c4 (fR P call) N b R H with
  |none=>rfl
  |some x=>
   obtain⟨ex,j,H1⟩:=x;cases ex with
   |normal=>rfl
   |ret=>rfl
   |exit p=>
    simp only[pT,look];by_cases o:p=id
    ·subst o;simp[Nat.beq_refl]
    ·have ae:Nat.beq p id=false:=by rw[<-Bool.not_eq_true,Nat.beq_eq];exact o
     rw[ae,if_neg o];rfl
 |loop b k=>
  intro R H e i g h;simp only[aX,c4];exact Et R.size (λ_ _ _ _ _ h=>It b h) (λj H1 e q=>k j H1 e i g (by rw[q];exact h)) e N R H rfl
 |exit id=>intro R H e i g _;rfl
 |ret=>intro R H e i g _;rfl
 |label l=>intro R H e i g _;rfl
 |goto l=>intro R H e i g _;rfl
 |scope b k=>intro R H e i g _;rfl
 |rangeFunc f r a b m n=>intro R H e i g _;rfl
 |refuse y=>intro R H e i g _;rfl
def xc{R:bl}{H:ad}:∀(rs:List ResultVar) (k:List aa->O),qe P H R.get rs k=(gZ P R H rs).bind k
 |[],k=>rfl
 | .tmp t::rs,k=>by
  simp only[qe,gZ,pF];rw[xc rs];cases gZ P R H rs<;>rfl
 | .cell a t::rs,k=>by
  simp only[qe,gZ,pF];cases aj P H t (R.get a)with
  |none=>rfl
  |some v=>
   simp only[Option.bind_some];rw[xc rs];cases gZ P R H rs<;>rfl
def Cr(n:Nat)(args:List aa):(bl.enter n args).get=bO args:=by
 have h:∀(args:List aa) (d:Nat),bO args d=(args[d]?).getD (.tuple []):=by
  intro args
  induction args with
  |nil=>intro d;cases d<;>rfl
  |cons v c b=>
   intro d;cases d with
   |zero=>rfl
   |succ d=>simpa [bO]using b d
 funext d
 rw[h];unfold bl.get bl.enter;simp only[Aw];by_cases a:d<args.length
 ·rw[if_pos ai];simp[a]
 ·rw[if_neg ai,bJ.pZ];simp[a]
def LZ{f:Nat}{args:List aa}{H:ad}{fn:Func}{c:Code}{M:Nat}{r:aa×ad}(d:ax f args H=I)(aN:P.funcs[f]? =D fn)(g:fn.body=D c)(i:h3 fn.ntmps c=C)(aS:Nat.ble args.length fn.ntmps=C)
  (h:aX P (aC P ax) M c (j2 P fn.results.toList) [] (j2 P fn.results.toList) (bO args) H=D r):aC P ax f args H=D r:=by
 have j:(bl.enter fn.ntmps args).size=fn.ntmps:=by have:=Nat.le_of_ble_eq_true aS;simp only[bl.enter];omega
 rw[<-Cr fn.ntmps,De c _ _ _ _ _ (by rw[j];exact i)]at h;unfold pT at h;have fin:∀(R:bl) (H':ad),j2 P fn.results.toList R.get H'=D r->∃b,gZ P R H' fn.results.toList=D b/\r=(lR b,H'):=by
  intro R H' a;unfold j2 at a;rw[xc]at a;cases e:gZ P R H' fn.results.toList with
  |none=>rw[e]at a;cases a
  |some b=>rw[e]at a;exact⟨b,rfl,(Option.some.inj a).symm⟩
 split at h
 ·rename_i R H' he;obtain⟨b,ae,rfl⟩:=fin R H' h;exact DB d aN g he (λid=>by intro a;cases a) ae
 ·cases h
 ·rename_i R H' he;obtain⟨b,ae,rfl⟩:=fin R H' h;exact DB d aN g he (λid=>by intro a;cases a) ae
 ·cases h
end
end Go.bo
namespace Go
def aE:Code->Code
 | .seq a _=>a
 | .cond _ a _=>a
 | .block _ b=>b
 | .loop b=>b
 |c=>c
def j:Code->Code
 | .seq _ b=>b
 | .cond _ _ b=>b
 |c=>c
def Code.test:Code->Operand
 | .cond c _ _=>c
 |_=> .tmp 0
def Code.num:Code->Nat
 | .block id _=>id
 | .exit id=>id
 |_=>0
def Code.OL:Code->Bool| .seq _ _=>C|_=>Z
def Code.OI:Code->Bool| .cond _ _ _=>C|_=>Z
def Code.OH:Code->Bool| .block _ _=>C|_=>Z
def Code.OK:Code->Bool| .loop _=>C|_=>Z
end Go
namespace Go.bo
section
variable {P:Program}{call:an}{N:Nat}{ic gL:ew}{gM:List (Nat×ew)}
def aF{c:Code}{k T:ew}(aA:c.OL=C)(d:∀R H,aX P call N (j c) ic gM gL R H=k R H)(aD:∀R H,aX P call N (aE c) k gM gL R H=T R H):
  ∀R H,aX P call N c ic gM gL R H=T R H:=by
 cases c<;>first|cases aA|skip
 rename_i a b;intro R H;rw[<-aD];show aX P call N a (λR H=>aX P call N b ic gM gL R H) gM gL R H=_;rw[show(λR H=>aX P call N b ic gM gL R H)=k from funext λR=>funext λH=>d R H];rfl
def dx{c:Code}{A B:ew}(aA:c.OI=C)(a:∀R H,aX P call N (aE c) ic gM gL R H=A R H)(b:∀R H,aX P call N (j c) ic gM gL R H=B R H):
  ∀R H,aX P call N c ic gM gL R H=aP (du R c.test) (A R H) (B R H):=by
 cases c<;>first|cases aA|skip
 intro R H;rw[<-a,<-b];rfl
def bX{c:Code}{T:ew}(aA:c.OH=C)(a:∀R H,aX P call N (aE c) ic ((c.num,ic)::gM) gL R H=T R H):∀R H,aX P call N c ic gM gL R H=T R H:=by
 cases c<;>first|cases aA|skip
 intro R H;rw[<-a];rfl
def cj{c:Code}{k:Nat->ew}(aA:c.OK=C)(d:∀R H,k 0 R H=I)(e:∀n R H,aX P call N (aE c) (k n) gM gL R H=k (n+1) R H):∀R H,aX P call N c ic gM gL R H=k N R H:=by
 cases c<;>first|cases aA|skip
 rename_i b;have key:∀n R H,ob (λa R H=>aX P call N b a gM gL R H) n R H=k n R H:=by
  intro n
  induction n with
  |zero=>intro R H;exact(d R H).symm
  |succ n f=>
   intro R H;rw[<-e n R H];show aX P call N b (λR H=>ob _ n R H) gM gL R H=_;rw[show(λR H=>ob (λa R H=>aX P call N b a gM gL R H) n R H)=k n from funext λR=>funext λH=>f R H];rfl
 intro R H;exact key N R H
def aw(c:Code):∀R H,aX P call N c ic gM gL R H=aX P call N c ic gM gL R H:=λ_ _=>rfl
def af(r:Option aa)(k:aa->O):O:=match r with
 |some v=>k v
 |none=>I
def aU(H:ad)(r:O)(k:aa->ad->O):O:=match r with
 |some (v,H')=>bif decide (H.next<=H'.next)then k v H' else I
 |none=>I
def bY(H:ad)(r:Option ad)(k:ad->O):O:=aU H (r.bind λH'=>D (.tuple [],H')) λ_ H'=>k H'
def bx(H:ad)(r:Option (aa×bL))(k:aa->ad->O):O:=match r with
 |some (v,b)=>k v (H.push b)
 |none=>I
def cA(H:ad)(cs:List aa)(k:aa->ad->O):O:=k (.ptr H.next 0 0) (H.push (.row Z cs.length [cs]))
def bb(fn:Func):Code:=match fn.body with
 |some c=>c
 |none=> .skip
def bf(P:Program)(b:Builtin)(ts:List TypeId)(a:List aa)(H:ad)(k:aa->O):O:=match a2 P .empty b ts a with
 |some v=>k v
 |none=>(a2 P H b ts a).bind k
def aby(P:Program)(s d:TypeId)(v:aa)(H:ad)(k:aa->O):O:=match sn P s d v with
 |some v=>k v
 |none=>(sm P H s d v).bind k
def se(call:an)(H:ad)(f:aa)(a:List aa)(k:aa->ad->O):O:=(sx f a).bind λp=>aU H (call p.1 p.2 H) k
def bw(v:aa)(q:K->O):O:=q (.pure v)
def aH(r:Option aa)(q:K->O):O:=r.bind λv=>q (.pure v)
def qr(r:Option aa)(q:K->O):O:=r.bind λv=>q (.read v)
def ao(b:aa)(want:Bool)(H:ad)(m:(K->O)->O)(k:aa->ad->O):O:=bh b want m λx=>k x.val (x.heap H)
end
end Go.bo
namespace Go.bo
def W(m:O)(Q:aa->ad->Prop):Prop:=∃v H,m=D (v,H)/\Q v H
def aK{v:aa}{H:ad}{Q:aa->ad->Prop}:W (D (v,H)) Q↔Q v H:=by
 constructor
 ·rintro⟨a,H',h,q⟩;simp only[bn,cM]at h;obtain⟨rfl,rfl⟩:=h;exact q
 ·exactλq=>⟨v,H,rfl,q⟩
def W.mono{m:O}{Q a:aa->ad->Prop}(h:W m Q)(a8:∀v H,Q v H->a v H):W m a:=by
 obtain⟨v,H,e,q⟩:=h;exact⟨v,H,e,a8 v H q⟩
def bk{r:O}{H:ad}{k:aa->ad->O}{Q a:aa->ad->Prop}(h:W r a)(b:∀v H',a v H'->H.next<=H'.next/\W (k v H') Q):W (aU H r k) Q:=by
 obtain⟨v,H',e,q⟩:=h;obtain⟨ae,ah⟩:=b v H' q;rw[e];simp only[aU,decide_eq_true ae,gG];exact ah
def cE{r:O}{H:ad}{q:K->O}{Q a:aa->ad->Prop}(h:W r a)(b:∀v H',a v H'->H.next<=H'.next/\W (q (.cF v H')) Q):W (b9 H r q) Q:=by
 obtain⟨v,H',e,c⟩:=h;obtain⟨ae,ah⟩:=b v H' c;rw[e];simp only[b9,decide_eq_true ae,gG];exact ah
def fu{r:O}{H:ad}{x:aa}{k:aa->ad->O}{Q:aa->ad->Prop}(h:W r λv H'=>v=x/\H'=H)(a:W (k x H) Q):W (aU H r k) Q:=by
 refine bk h ?_;rintro _ H' ⟨rfl,e⟩;rw[e];exact⟨b4 _,a⟩
def jv{r:O}{H:ad}{x:aa}{q:K->O}{Q:aa->ad->Prop}(h:W r λv H'=>v=x/\H'=H)(a:W (q (.cF x H)) Q):W (b9 H r q) Q:=by
 refine cE h ?_;rintro _ H' ⟨rfl,e⟩;rw[e];exact⟨b4 _,a⟩
def bZ{m eU:O}{Q:aa->ad->Prop}(a:∀r,m=D r->eU=D r)(h:W m Q):W eU Q:=by
 obtain⟨v,H,e,q⟩:=h;exact⟨v,H,a _ e,q⟩
def gW:Nat:=0
def abH:Nat:=0
def Jz:gW=abH:=rfl
def sf(v:aa)(H:ad)(k:aa->ad->O):O:=k v H
section
variable {r dj:Option aa}{o fj:O}{m eU:Option (aa×bL)}{h ca:Option ad}{H H':ad}{a ck:aa}{b b':Bool}{z:Nat}
 @[congr] theorem abV {k:aa->ad->O} (e:a=ck) (d:H=H') (y:gW=z):sf a H k=sf ck H' k:=by rw[e,d]
def kQ(H:ad)(cs:List aa)(k:aa->ad->O):cA H cs k=sf (.ptr H.next 0 0) (H.push (.row Z cs.length [cs])) k:=rfl
def kR(v:aa)(H:ad)(k:aa->ad->O):sf v H k=k v H:=rfl
 @[congr] theorem abO {k:aa->O} (e:r=dj) (y:gW=z):af r k=af dj k:=by rw[e]
 @[congr] theorem abQ {k:aa->ad->O} (d:H=H') (e:o=fj) (y:gW=z):aU H o k=aU H' fj k:=by rw[d,e]
 @[congr] theorem abR {k:K->O} (d:H=H') (e:o=fj) (y:gW=z):b9 H o k=b9 H' fj k:=by rw[d,e]
 @[congr] theorem ab0 {k:ad->O} (d:H=H') (e:h=ca) (y:gW=z):bY H h k=bY H' ca k:=by rw[d,e]
 @[congr] theorem abW {k:aa->ad->O} (d:H=H') (e:m=eU) (y:gW=z):bx H m k=bx H' eU k:=by rw[d,e]
 @[congr] theorem abY {k:K->O} (e:m=eU) (y:gW=z):fG m k=fG eU k:=by rw[e]
 @[congr] theorem abU {p q:O} (e:r=dj) (y:gW=z):aP r p q=aP dj p q:=by rw[e]
 @[congr] theorem abI {p q:O} (e:b=b') (y:gW=z):cond b p q=cond b' p q:=by rw[e]
 @[congr] theorem abS {w:Bool} {f:(K->O)->O} {k:aa->ad->O} (e:a=ck) (y:gW=z):ao a w H f k=ao ck w H f k:=by rw[e]
 @[congr] theorem abT {w:Bool} {f:(K->O)->O} {k:K->O} (e:a=ck) (y:gW=z):bh a w f k=bh ck w f k:=by rw[e]
 @[congr] theorem abP {s a:Option aa} {k:K->O} (e:r=dj) (d:s=a) (y:gW=z):cx r s k=cx dj a k:=by rw[d,e]
 @[congr] theorem abL {q:K->O} (e:r=dj) (y:gW=z):aH r q=aH dj q:=by rw[e]
 @[congr] theorem abM {q:K->O} (e:r=dj) (y:gW=z):qr r q=qr dj q:=by rw[e]
 @[congr] theorem abN {q:K->O} (e:a=ck) (y:gW=z):bw a q=bw ck q:=by rw[e]
def S4(v:aa)(q:K->O):aH (D v) q=q (.pure v):=rfl
def S7(v:aa)(q:K->O):qr (D v) q=q (.read v):=rfl
def S8(v:aa)(q:K->O):bw v q=q (.pure v):=rfl
end
def bK(k:IntKind)(n:Int):aV (D (.int k n)) (.int k n)=true:=by simp[aV,aa.beq]
def Tb(x:List UInt8):aV (D (.str x)) (.str x)=true:=by simp[aV,aa.beq]
def td(x:Bool):aV (D (.bool x)) (.bool x)=true:=by simp[aV,aa.beq]
def Ta(l i n e:Nat)(c:Option Nat):aV (D (.aJ l i n e c)) (.aJ l i n e c)=true:=by simp[aV,aa.beq]
def S_:aV (D .aB) .aB=true:=rfl
def ad.ho(H:ad)(b:bL)(l:Nat):(H.push b).get l=if l=H.next then D b else H.get l:=by
 split
 ·rename_i h;subst h;exact ad.bq H b
 ·rename_i h;exact ad.eN h
def bJ.w8{α:Type}(x y:α):∀(p:List j_) (t:bJ α),bJ.ec y p (bJ.ec x p t)=bJ.ec y p t
 |[],.leaf=>rfl
 |[],.node .. =>rfl
 |d::p,.leaf=>by cases d<;>simp[bJ.ec,bJ.w8 x y p]
 |d::p,.node .. =>by cases d<;>simp[bJ.ec,bJ.w8 x y p]
def ad.jd(H:ad)(b c:bL):(H.push b).set H.next c=H.push c:=by
 simp only[ad.push,ad.set,bJ.put,bJ.w8]
def ad.set_set(H:ad)(l:Nat)(b c:bL):(H.set l b).set l c=H.set l c:=by
 simp only[ad.set,bJ.put,bJ.w8]
def ad.NQ{H:ad}{b:bL}{l:Nat}(h:l<=H.next)(ca:H.next<=l):(H.push b).get l=D b:=by
 obtain rfl:l=H.next:=ai
 exact ad.bq H b
def ad.fE{H:ad}{b c:bL}{l:Nat}(h:l<=H.next)(ca:H.next<=l):(H.push b).set l c=H.push c:=by
 obtain rfl:l=H.next:=ai
 exact ad.jd H b c
def eF(S:Nat->Prop)(H H':ad):Prop:=H.next<=H'.next/\∀l,l<H.next->¬S l->H'.get l=H.get l
def ay(H H':ad):Prop:=H.next<=H'.next/\∀l,l<H.next->H'.get l=H.get l
def ay.refl(H:ad):ay H H:=⟨b4 _,λ_ _=>rfl⟩
def ay.trans{H H1 a:ad}(h:ay H H1)(k:ay H1 a):ay H a:=⟨Nat.le_trans h.1 k.1,λl az=>(k.2 l (Nat.lt_of_lt_of_le az h.1)).trans (h.2 l az)⟩
def ay.push(H:ad)(b:bL):ay H (H.push b):=⟨by simp,λl az=>ad.eN ai⟩
def ay.dK{H H1:ad}(h:ay H H1)(b:bL):ay H (H1.push b):=h.trans (ay.push H1 b)
def ay.lF{H H1:ad}(h:ay H H1){l:Nat}(az:H.next<=l)(b:bL):ay H (H1.set l b):=
 ⟨h.1,λj a=>by rw[ad.cW ai];exact h.2 j a⟩
def ay.get{H H':ad}(h:ay H H'){l:Nat}{b:bL}(a:H.get l=D b):H'.get l=D b:=by rw[h.2 l (ad.b6 a)];exact a
def ay.mut{H H':ad}(h:ay H H')(S:Nat->Prop):eF S H H':=⟨h.1,λl az _=>h.2 l az⟩
def eF.refl(S:Nat->Prop)(H:ad):eF S H H:=(ay.refl H).mut S
def eF.trans{S:Nat->Prop}{H H1 a:ad}(h:eF S H H1)(k:eF S H1 a):eF S H a:=⟨Nat.le_trans h.1 k.1,λl az b=>(k.2 l (Nat.lt_of_lt_of_le az h.1) b).trans (h.2 l az b)⟩
def eF.lF{S:Nat->Prop}{H H1:ad}(h:eF S H H1){l:Nat}(az:S l\/H.next<=l)(b:bL):eF S H (H1.set l b):=
 ⟨h.1,λj c a=>by rw[ad.cW (by rintro rfl;exact az.elim a ai)];exact h.2 j c a⟩
def eF.get{S:Nat->Prop}{H H':ad}(h:eF S H H'){l:Nat}{b:bL}(a:H.get l=D b)(c:¬S l):H'.get l=D b:=by rw[h.2 l (ad.b6 a) c];exact a
section
variable {P:Program}{H:ad}
def lJ(v:aa)(k:aa->O):af (D v) k=k v:=rfl
def Jv(b:Bool)(x y:O):aP (D (.bool b)) x y=bif b then x else y:=rfl
def yG{v:aa}{H':ad}{k:aa->ad->O}(h:H.next<=H'.next):aU H (D (v,H')) k=k v H':=by
 simp only[aU,decide_eq_true h,gG]
def pk{H':ad}{k:ad->O}(h:H.next<=H'.next):bY H (D H') k=k H':=by
 simp only[bY,Option.bind_some];exact yG h
def lK(v:aa)(b:bL)(k:aa->ad->O):bx H (D (v,b)) k=k v (H.push b):=rfl
def abD(m:(K->O)->O)(k:aa->ad->O):ao (.bool C) C H m k=m (λx=>sf x.val (x.heap H) k):=rfl
def abz(m:(K->O)->O)(k:aa->ad->O):ao (.bool Z) Z H m k=m (λx=>sf x.val (x.heap H) k):=rfl
def abC(m:(K->O)->O)(k:aa->ad->O):ao (.bool C) Z H m k=k (.tuple []) H:=rfl
def abA(m:(K->O)->O)(k:aa->ad->O):ao (.bool Z) C H m k=k (.tuple []) H:=rfl
def abB(w:Bool)(m:(K->O)->O)(k:aa->ad->O):ao (.tuple []) w H m k=k (.tuple []) H:=rfl
def abx(v:aa)(b:Option aa)(k:K->O):cx (D v) b k=k (.pure v):=rfl
def SX(a b:Option aa):ba (.bool C) a b=a:=rfl
def SW(a b:Option aa):ba (.bool Z) a b=b:=rfl
def KQ(b:Bool):dg .not (.bool b)=D (.bool (!b)):=rfl
def Kx(l i c:Nat):cr (.ptr l i c)=D (.ptr l i c):=rfl
def JJ(v:aa):(K.pure v).val=v:=rfl
def JL(v:aa):(K.read v).val=v:=rfl
def JI(v:aa)(b:bL):(K.new v b).val=v:=rfl
def JH(v:aa)(H':ad):(K.cF v H').val=v:=rfl
def JM:K.skip.val= .tuple []:=rfl
def JE(v:aa):(K.pure v).heap H=H:=rfl
def JF(v:aa):(K.read v).heap H=H:=rfl
def JD(v:aa)(b:bL):(K.new v b).heap H=H.push b:=rfl
def JC(v:aa)(H':ad):(K.cF v H').heap H=H':=rfl
def JG:K.skip.heap H=H:=rfl
def B4(a:List aa)(i:Nat):gC (.tuple a) i=a[i]? :=rfl
def Nn(t:TypeId)(c:Bool)(k:IntKind)(a b:Int):ar P .add t c (.int k a) (.int k b)=D (.int k (k.wrap (a+b))):=by simp[ar,iY]
def Nw(t:TypeId)(c:Bool)(k:IntKind)(a b:Int):ar P .sub t c (.int k a) (.int k b)=D (.int k (k.wrap (a-b))):=by simp[ar,iY]
def DK(t:TypeId)(c:Bool)(k:IntKind)(a b:Int):ar P .eql t c (.int k a) (.int k b)=D (.bool (a==b)):=by simp[ar,iY]
def Nt(t:TypeId)(c:Bool)(k:IntKind)(a b:Int):ar P .neq t c (.int k a) (.int k b)=D (.bool (a != b)):=by simp[ar,iY]
def Ns(t:TypeId)(c:Bool)(k:IntKind)(a b:Int):ar P .lss t c (.int k a) (.int k b)=D (.bool (decide (a<b))):=by simp[ar,iY]
def Nr(t:TypeId)(c:Bool)(k:IntKind)(a b:Int):ar P .leq t c (.int k a) (.int k b)=D (.bool (decide (a<=b))):=by simp[ar,iY]
def Nq(t:TypeId)(c:Bool)(k:IntKind)(a b:Int):ar P .gtr t c (.int k a) (.int k b)=D (.bool (decide (b<a))):=by simp[ar,iY]
def Np(t:TypeId)(c:Bool)(k:IntKind)(a b:Int):ar P .geq t c (.int k a) (.int k b)=D (.bool (decide (b<=a))):=by simp[ar,iY]
def Nu(t:TypeId)(c:Bool)(a b:List UInt8):ar P .eql t c (.str a) (.str b)=D (.bool (a==b)):=rfl
def Nv(t:TypeId)(c:Bool)(a b:List UInt8):ar P .neq t c (.str a) (.str b)=D (.bool (!(a==b))):=rfl
def fB{t:TypeId}(a:dN P t=D Z){l i c esz:Nat}{ro:Bool}{els:List (List aa)}{e:List aa}(h:H.get l=D (.row ro esz els))(he:els[i]? =D e):aj P H t (.ptr l i c)=e[c]? :=by
 simp only[aj,h,he,a]
def fY{t:TypeId}{n:Nat}(a:dN P t=D C)(aS:cD P t=D n){l i c esz:Nat}{ro:Bool}{els:List (List aa)}{e:List aa}(h:H.get l=D (.row ro esz els))(he:els[i]? =D e)(aA:c+n<=esz):aj P H t (.ptr l i c)=D (.agg ((e.drop c).take n)):=by
 simp only[aj,h,he,a,aS,if_pos aA]
def fN{t:TypeId}{n:Nat}(aS:cD P t=D n){l i c esz:Nat}{els:List (List aa)}{e:List aa}{v:aa}(h:H.get l=D (.row Z esz els))(he:els[i]? =D e)(a:v.cells.length=n)(a7:v.cells.all aa.one=C)(aA:c+n<=esz):
  bA P H t (.ptr l i c) v=D (H.set l (.row Z esz (els.set i (eI e c v.cells)))):=by
 simp only[bA,h,he];rw[if_pos ⟨by rw[aS,a],by rw[a];exact aA,a7⟩]
def FV(k:IntKind)(n:Int):(aa.int k n).one=true:=rfl
def F1(x:List UInt8):(aa.str x).one=true:=rfl
def FT(x:Bool):(aa.bool x).one=true:=rfl
def FZ(l i c:Nat):(aa.ptr l i c).one=true:=rfl
def F0(l i n e:Nat)(c:Option Nat):(aa.aJ l i n e c).one=true:=rfl
def FY:aa.aB.one=true:=rfl
def FX:aa.fD.one=true:=rfl
def FW(l:Nat):(aa.map l).one=true:=rfl
def FU(f:Fn)(a c:List aa):(aa.func f a c).one=true:=rfl
def dG{v:aa}(h:v.one=C):v.cells=[v]:=by cases v<;>first|rfl|cases h
def nV(l:Nat)(cs:List aa)(h:cs.all aa.one=C):b0 l (.agg cs)=D (.ptr l 0 0,.row Z cs.length [cs]):=by
 simp only[b0,aa.cells,h,gG]
end
end Go.bo
namespace Go.Proofs.YtmhhnnklfcbgfaaGreat
open Go.bo
noncomputable def P:Program:=Tryz.prog
noncomputable abbrev aR(f:Func):ew:=j2 P f.results.toList
noncomputable abbrev bd(f:Func)(G:an)(N:Nat):ew:=aX P G N (bb f) (aR f) [] (aR f)
def bj{A B zC:ew}(h:∀R H,A R H=B R H)(ah:∀R H,B R H=zC R H):∀R H,A R H=zC R H:=λR H=>(h R H).trans (ah R H)
def bR{A B:ew}{R:cy}{H:ad}{t:O}(h:∀R H,A R H=B R H)(ah:B R H=t):A R H=t:=(h R H).trans ah
def vq(H:ad)(r:Option ad)(k:aa->ad->O):O:=aU H (r.bind λH'=>D (.tuple [],H')) k
def abF{H H':ad}{k:aa->ad->O}(h:H.next<=H'.next):vq H (D H') k=k (.tuple []) H':=by
 simp only[vq,Option.bind_some];exact yG h
 @[congr] theorem abZ {H a:ad} {h ca:Option ad} {z:Nat} {k:aa->ad->O} (d:H=a) (e:h=ca) (b:gW=z):vq H h k=vq a ca k:=by rw[d,e]
def vp(H:ad)(r:Option (aa×bL))(k:aa->bL->ad->O):O:=match r with
 |some (v,b)=>k v b (H.push b)
 |none=>I
def abE{H:ad}(v:aa)(b:bL)(k:aa->bL->ad->O):vp H (D (v,b)) k=k v b (H.push b):=rfl
 @[congr] theorem abX {H a:ad} {m eU:Option (aa×bL)} {z:Nat} {k:aa->bL->ad->O} (d:H=a) (e:m=eU) (b:gW=z):vp H m k=vp a eU k:=by rw[d,e]
noncomputable def hE(call:an)(H:ad)(r:aa)(name:String)(a:List aa)(k:aa->ad->O):O:=(hN P H r name a).bind λp=>aU H (call p.1 p.2 H) k
def bD:Env:=λ_=>I
def oa:List (List aa)->Option (List Int)
 |[]=>D []
 |[.int .i64 n]::es=>(oa es).map (n:: ·)
 |_=>I
def k1(n:Int):List aa:=[.int .i64 n]
def ax:an:=λf args H=>match f,args with
 |95,[.func (.func 97) [] [.ptr l 0 0]]=>(match H.get l with
  |some (.row _ 1 [[.aB]])=>D (.aB,H)
  |some (.row _ 1 [[.aJ m i n 1 _]])=>(match hg H m i n 1 with
   |some es=>(match oa es with
    |some xs=>if n<=1000000 then(match xs with
     |[]=>D (.aB,H)
     |_=>D (.aJ H.next 0 n 1 I,H.push (.row Z 1 (xs.map k1))))else I
    |none=>I)
   |none=>I)
  |_=>I)
 |96,[.aB]=>D (.tuple [],H)
 |96,[.aJ l 0 n 1 _]=>(match H.get l with
  |some (.row Z 1 es)=>(match oa es with
   |some xs=>if es.length=n/\n<=1000000 then D (.tuple [],H.set l (.row Z 1 ((xs.mergeSort λx y=>decide (x<=y)).map k1)))else I
   |none=>I)
  |_=>I)
 |_,_=>I
def cp{f:Nat}{fn:Func}{N:Nat}{args:List aa}{H:ad}{r:aa×ad}(a:ax f args H=I)(aN:P.funcs[f]? =D fn)(b:fn.body=D (bb fn))(c:h3 fn.ntmps (bb fn)=C)(aS:Nat.ble args.length fn.ntmps=C)(h:bd fn (aC P ax) N (bO args) H=D r):aC P ax f args H=D r:=LZ a aN b c aS h
def fT{f:Nat}{fn:Func}(N:Nat){args:List aa}{H:ad}{r:aa×ad}{S:an->O}(aN:P.funcs[f]? =D fn)(he:∀G,bd fn G N (bO args) H=S G)(h:S (aC P ax)=D r)(a:ax f args H=none:=by first|kernel_rfl)(b:fn.body=D (bb fn):=by first|kernel_rfl)(c:h3 fn.ntmps (bb fn)=true:=by first|kernel_rfl)(aS:Nat.ble args.length fn.ntmps=true:=by first|kernel_rfl):aC P ax f args H=D r:=cp a aN b c aS ((he _).trans h)
end Go.Proofs.YtmhhnnklfcbgfaaGreat
namespace Go.bo
def c1(m:(K->O)->O)(k:K->O):bh (.bool C) C m k=m k:=rfl
def hU(m:(K->O)->O)(k:K->O):bh (.bool Z) Z m k=m k:=rfl
def yI(m:(K->O)->O)(k:K->O):bh (.bool C) Z m k=k .skip:=rfl
def dQ(m:(K->O)->O)(k:K->O):bh (.bool Z) C m k=k .skip:=rfl
def yH(w:Bool)(m:(K->O)->O)(k:K->O):bh (.tuple []) w m k=k .skip:=rfl
def cI{c:Bool}{a b:O}{Q:aa->ad->Prop}(aA:c=C)(h:W a Q):W (bif c then a else b) Q:=by rw[aA];exact h
def cw:List fa->ad->List ad
 |[],H=>[H]
 |t::ts,H=>H::cw ts (t.k.heap H)
def Jl{ms:List Nat}{rd:ad->Bool}{i:Nat}:∀(T:List fa) (H:ad),(∀H'∈cw T H,rd H'=C)->lI ms rd i T H=C
 |[],H,h=>h H (by simp[cw])
 |t::ts,H,h=>by
  have b:=h H (by simp[cw]);have a:=Jl (ms:=ms) (rd:=rd) (i:=i) ts (t.k.heap H) (λH' hm=>h H' (by simp[cw,hm]));rw[lI];cases d:t.k.eu with
  |true=>simp[b,a]
  |false=>
   have:t.k.heap H=H:=by cases c:t.k<;>simp[c,K.eu,K.heap]at d ⊢
   rw[this]at a;simp[a]
def ZD{ms:List Nat}{rd:ad->Bool}{i:Nat}{T:List fa}{H:ad}(h:∀H'∈cw T H,rd H'=C):ve ms rd i T H=true:=by
 rw[ve,Jl T H h];cases nW ms i T Z<;>rfl
def pj(a:List Nat)(T:List fa)(H:ad):List fa->Prop
 |[]=>True
 |t::ts=>(∀v,t.k= .read v->a.contains t.i=C\/∀H'∈cw T H,aV (t.rd H') v=C)/\pj a T H ts
def Jn{ms a:List Nat}{T:List fa}{H:ad}:∀S:List fa,pj a T H S->sc ms a T H S=C
 |[],_=>rfl
 |t::ts,h=>by
  rw[pj]at h;rw[sc,Jn ts h.2,Bool.and_true];split
  ·rename_i v b;rcases h.1 v b with ae|ae
   ·rw[ae,Bool.true_or]
   ·rw[ZD ae,Bool.or_true]
  ·rfl
def cJ{ms a:List Nat}{T:List fa}{H:ad}(ae:n1 ms T []=C)(ah:pj a T H T):eH ms a T H=true:=by
 rw[eH,ae,Jn T ah];rfl
section
variable {E:Env}{P:Program}{ax:an}
def Lh{G:an}(h:∀g args H v H',G g args H=D (v,H')->fO E P g args H v H'):dT E P G:=λg args H v H' e=>h g args H v H' e
def Dy(b:hZ P){G:an}(i:dT E P G){N f:Nat}{args:List aa}{H H1:ad}{fn:Func}{c:Code}{ex:fm}{R:bl}{g:List aa}
  (a:P.funcs[f]? =D fn) (aA:fn.body=D c) (m:c4 (fR P G) N c (bl.enter fn.ntmps args) H=D (ex,R,H1)) (p:∀id,ex≠ .exit id) (s:gZ P R H1 fn.results.toList=D g):fO E P f args H (lR g) H1:=by
 intro ρ w xs j aN k aS next q
 have l:=Dz (N:=N) Gv (Gw b.mixed i) c (b.Gg _ _ _ a aA);have o:(fn.name== "runtime.NumGoroutine")=false:=b.names fn (Array.mem_of_getElem? a);have r:(callFunc f xs.toArray).run P w= .ok (.enter f xs.toArray) w:=by
  unfold callFunc;simp[a,aA];intro n;simp[n]at o
 unfold lO;rw[r];simp only
 refine calls_of_wp a aA (l _ _ _ _ _ m ρ w _ _ j aN (Dv k fn.ntmps) λu ck t ae ah=> ?_);obtain⟨x,d,h⟩:=GA ah.rel ae s;have e:=q x t u h ah;cases ex with
 |normal=>exact⟨ae.none,x,d,e⟩
 |ret=>exact⟨ae.none,x,d,e⟩
 |exit id=>exact absurd rfl (p id)
def nY(e:hZ P){G:an}(d:dT E P G){f:Nat}{args:List aa}{H:ad}{fn:Func}{c:Code}{M:Nat}{r:aa×ad}(aN:P.funcs[f]? =D fn)(i:fn.body=D c)(j:h3 fn.ntmps c=C)(aS:Nat.ble args.length fn.ntmps=C)
  (h:aX P G M c (j2 P fn.results.toList) [] (j2 P fn.results.toList) (bO args) H=D r):fO E P f args H r.1 r.2:=by
 have k:(bl.enter fn.ntmps args).size=fn.ntmps:=by have:=Nat.le_of_ble_eq_true aS;simp only[bl.enter];omega
 rw[<-Cr fn.ntmps,De c _ _ _ _ _ (by rw[k];exact j)]at h;unfold pT at h;have fin:∀(R:bl) (H':ad),j2 P fn.results.toList R.get H'=D r->∃b,gZ P R H' fn.results.toList=D b/\r=(lR b,H'):=by
  intro R H' a;unfold j2 at a;rw[xc]at a;cases g:gZ P R H' fn.results.toList with
  |none=>rw[g]at a;cases a
  |some b=>rw[g]at a;exact⟨b,rfl,(Option.some.inj a).symm⟩
 split at h
 ·rename_i R H' he;obtain⟨b,ae,rfl⟩:=fin R H' h;exact Dy e d aN i he (λid=>by intro a;cases a) ae
 ·cases h
 ·rename_i R H' he;obtain⟨b,ae,rfl⟩:=fin R H' h;exact Dy e d aN i he (λid=>by intro a;cases a) ae
 ·cases h
def Rel.zM{ρ:Env}{H:ad}{w a:World}(h:Rel ρ H w)(d:∀b,b<w.heap.size->a.heap[b]? =w.heap[b]?):Rel ρ H a:=by
 have key:∀b x,w.heap[b]? =D x->a.heap[b]? =D x:=λb x e=>by
  rw[d b ?_];exact e;exact(Array.getElem?_eq_some_iff.1 e).1
 refine⟨λl ro esz els e=> ?_,λl es e=> ?_,λl t esz els e=> ?_,h.apart⟩
 ·obtain⟨loc,ae,ah,c,t,f,ak,au⟩:=h.row l ro esz els e;exact⟨loc,ae,ah,c,t,f,key _ _ ak,au⟩
 ·obtain⟨loc,ae,ents,clock,ak,au⟩:=h.map l es e;exact⟨loc,ae,ents,clock,key _ _ ak,au⟩
 ·obtain⟨loc,ae,ah⟩:=h.dz l t esz els e;exact⟨loc,ae,ah.frame ρ.le_refl (d _ ah.1.lt)⟩
def ad.vS(l:Nat):ad.empty.get l=none:=by
 cases h:ad.empty.get l with
 |none=>rfl
 |some b=>exact absurd (ad.b6 h) (Nat.not_lt_zero l)
def Gx(w:World):Rel (λ_=>I) ad.empty w:=by
 refine⟨λl ro esz els e=> ?_,λl es e=> ?_,λl t esz els e=> ?_,λl a loc b _ _ _ h=> ?_⟩
 ·rw[ad.vS]at e;cases e
 ·rw[ad.vS]at e;cases e
 ·rw[ad.vS]at e;cases e
 ·cases h
def QC(b:Nat):¬gX (λ_=>I) ad.empty b:=by
 rintro⟨l,loc,_,h,_⟩;cases h
def Lg{g:Nat}{b:Bool}{H0:ad}(h:fO (λ_=>I) P g [] ad.empty (.bool b) H0)(H:ad):fO E P g [] H (.bool b) H:=by
 intro ρ w xs f aN i aS next j
 cases i;refine h (λ_=>I) w [] (Gx w) ⟨λ_ _ _=>rfl,Env.le_refl _⟩ .nil (Nat.zero_le _) next λx e k aD a=> ?_
 cases aD;have d:∀b,b<w.heap.size->e.heap[b]? =w.heap[b]? :=λb c=>a.frame b c (QC b)
 exact j _ e ρ (.bool b) ⟨ρ.le_refl,b4 _,λ_ _=>rfl,f.zM d,a.os,a.tape,a.output,a.size,λb c _=>d b c,λ_ h=> .inl h,λ_ _ _ h=>h⟩
noncomputable def lY(P:Program)(ax:an)(g:Nat)(b:Bool):an:=λf args H=>if f=g/\args=[]then D (.bool b,H)else aC P ax f args H
def LX(c:hZ P)(a:dT E P ax){g:Nat}{b:Bool}(h:∀H,fO E P g [] H (.bool b) H):dT E P (lY P ax g b):=by
 refine Lh λf args H v H' e=> ?_
 unfold lY at e;split at e
 ·rename_i aA;obtain⟨rfl,rfl⟩:=aA;simp only[bn,cM]at e;obtain⟨rfl,rfl⟩:=e;exact h H
 ·exactλρ w xs=>L2 c a f args H v H' e ρ w xs
def LY{g:Nat}{b:Bool}(H:ad):lY P ax g b g [] H=D (.bool b,H):=by simp[lY]
def sF{f g:Nat}{b:Bool}{args:List aa}{H:ad}(h:f≠g):lY P ax g b f args H=aC P ax f args H:=by simp[lY,h]
end
end Go.bo
namespace Go.Proofs.YtmhhnnklfcbgfaaGreat
open Go.bo
def Qr(fs:List Func):Bool:=fs.all λfn=> !(fn.name== "runtime.NumGoroutine")
def Lc(fs:List Func):Bool:=fs.all λfn=>match fn.body with
 |some c=>jY c
 |none=>C
def S3{P:Program}(ae:P.follows .mixedOrders=C)(ah:Qr P.funcs.toList=C)(ak:Lc P.funcs.toList=C):hZ P:=by
 refine⟨ae,λfn a=> ?_,λf fn c aN aA=> ?_⟩
 ·have:=List.all_eq_true.1 ah fn (Array.mem_toList_iff.2 a);simpa using this
 ·have:=List.all_eq_true.1 ak fn (Array.mem_toList_iff.2 (Array.mem_of_getElem? aN));simpa [aA]using this
set_option maxRecDepth 1000000
def bU:hZ P:=S3 ag ag ag
end Go.Proofs.YtmhhnnklfcbgfaaGreat
namespace Go.bo
open Go.ChangeShapes Go.WideShapes Go.ChangeAt Go.RowKit
def yL(E:Env)(P:Program)(f:Nat)(args:List Value)(W:World):Prop:=∃(ρ:Env) (H:ad) (a:List aa) (H':ad),Rel ρ H W/\(∀l,¬H.rw l)/\(∀l,H.next<=l->ρ l=I)/\E.le ρ/\H.next<=H'.next/\bV ρ a args/\fO E P f a H (.bool C) H'
def Pp{E:Env}{P:Program}{f:Nat}{fn:Func}{c:Code}{args:List Value}{W:World}(p:hZ P)(j:P.funcs[f]? =D fn)(aA:fn.body=D c)(h:yL E P f args W):
  Calls P f args.toArray W λe d=>e= .returned (.bool C)/\Below W.heap.size W d:=by
 obtain⟨ρ,H,v,H',ae,ah,ak,o,au,m,n⟩:=h;have t:∀b,¬gX ρ H b:=by rintro b ⟨l,loc,az,_⟩;exact ah l az
 have i:=n ρ W args ae ⟨λl az _=>ak l az,o⟩ m au (λx d=>x= .bool C/\Below W.heap.size W d) (λx d w aD a=>by
  cases aD;exact⟨rfl,a.os,a.tape,a.output,a.size,λk r=>a.frame k r (t k)⟩)
 have s:(fn.name== "runtime.NumGoroutine")=false:=p.names fn (Array.mem_of_getElem? j);have u:(callFunc f args.toArray).run P W= .ok (.enter f args.toArray) W:=by
  unfold callFunc;simp[j,aA];intro q;simp[q]at s
 unfold lO at i;rw[u]at i;simp only at i;refine i.mono λe d g=> ?_
 split at g
 ·exact⟨by rw[g.1],g.2⟩
 ·exact g.elim
def IW{H:Type}{enc:TypeId×Value->H}{P:Program}{W g:World}(az:laidOutB P=C)(i:Below W.heap.size W g):∀{ts:List TypeId} {c:List Value} {a:List (DataW H)} {f:List MemPlace},(∀t∈ts,P.readableRec t=C/\t<P.types.size)->
  DataW.TrodAll enc P W 0 (λ_=>C) C ts c a f->∃j,DataW.TrodAll enc P g 0 (λb=>decide (b<W.heap.size)) C ts c a j
 |[],c,a,f,_,h=>by
  obtain⟨rfl,rfl,rfl⟩:=trodAll_nil h;exact⟨[],trodAll_mk0⟩
 |t::ts,c,a,f,e,h=>by
  obtain⟨v,o,d,n,p,q,rfl,rfl,rfl,ae,ah⟩:=trodAll_cons h;obtain⟨j,ak⟩:=IW az i (λt l=>e t (List.mem_cons_of_mem _ l)) ah;have k:∀x∈p,x.block<W.heap.size:=by obtain⟨m,hm⟩:=ae;exact DataW.trod_lt m _ _ _ hm
  exact⟨_,trodAll_cons_mk (Below.trod az (e t (List.mem_cons_self ..)).1 (e t (List.mem_cons_self ..)).2 ae i k) ak⟩
def pz{a:Addr}(h:a.spot=I)(j:Nat):a.add j=⟨a.block,a.off+j,I⟩:=by
 obtain⟨b,o,s⟩:=a;cases h;exact kd b o j
structure Seen(ρ:Env)(H:ad)(W:World):Prop where
 rel:Rel ρ H W
 ro:∀l,¬H.rw l
 top:∀l,H.next<=l->ρ l=none
def Seen.empty(W:World):Seen (λ_=>I) ad.empty W:=
 have a:∀l,¬ad.empty.rw l:=λl az=>by
  rcases az with⟨e,s,h⟩|⟨es,h⟩|⟨t,e,s,h⟩<;>rw[ad.vS]at h<;>cases h
 ⟨Gx W,a,λ_ _=>rfl⟩
def Seen.k8{ρ:Env}{H:ad}{W:World}(h:Seen ρ H W)(loc:Go.bo.Loc):ρ.le (ρ.dV H.next loc):=λl a e=>by
 have:l≠H.next:=by rintro rfl;rw[h.top _ (b4 _)]at e;cases e
 simp only[Env.dV,if_neg this];exact e
def ft.mono{ρ a:Env}(hle:ρ.le a){w:World}{loc:Go.bo.Loc}{ro:Bool}{esz:Nat}{els:List (List aa)}(h:ft ρ w loc ro esz els):ft a w loc ro esz els:=by
 obtain⟨ae,c,t,b,ah,ak,au⟩:=h;refine⟨ae,c,t,b,ah,ak,λi e he=>⟨(au i e he).1,λj v d=> ?_⟩⟩;obtain⟨f,x,g,k⟩:=(au i e he).2 j v d;exact⟨f,x,g,k.mono hle⟩
def Seen.push{ρ:Env}{H:ad}{W:World}(h:Seen ρ H W){loc:Go.bo.Loc}{esz:Nat}{els:List (List aa)}(c:ft ρ W loc C esz els):Seen (ρ.dV H.next loc) (H.push (.row C esz els)) W:=by
 have hle:=h.k8 loc;have b:∀l,¬(H.push (.row C esz els)).rw l:=by
  rintro l (⟨e,s,a⟩|⟨es,a⟩|⟨t,e,s,a⟩)
  ·rw[ad.ho]at a;split at a
   ·cases a
   ·exact h.ro l (.inl ⟨e,s,a⟩)
  ·rw[ad.ho]at a;split at a
   ·cases a
   ·exact h.ro l (.inr (.inl ⟨es,a⟩))
  ·rw[ad.ho]at a;split at a
   ·cases a
   ·exact h.ro l (.inr (.inr ⟨t,e,s,a⟩))
 refine⟨⟨λl ro e s a=> ?_,λl es a=> ?_,λl t e s a=>absurd (.inr (.inr ⟨t,e,s,a⟩)) (b l),λl f _ _ az=>absurd az (b l)⟩,b,λl az=> ?_⟩
 ·rw[ad.ho]at a;split at a
  ·rename_i az;cases a;exact⟨loc,by simp[Env.dV,az],c.mono hle⟩
  ·obtain⟨d,ae,ah⟩:=h.rel.row l ro e s a;exact⟨d,hle _ _ ae,ah.mono hle⟩
 ·exact absurd (.inr (.inl ⟨es,a⟩)) (b l)
 ·simp only[ad.ds]at az;have:l≠H.next:=ai
  simp only[Env.dV,if_neg this];exact h.top l ai
def Seen.blank{ρ:Env}{H:ad}{W:World}(h:Seen ρ H W)(loc:Go.bo.Loc):Seen (ρ.dV H.next loc) (H.push .dead) W:=by
 have hle:=h.k8 loc;have b:∀l,¬(H.push .dead).rw l:=by
  rintro l (⟨e,s,a⟩|⟨es,a⟩|⟨t,e,s,a⟩)
  ·rw[ad.ho]at a;split at a
   ·cases a
   ·exact h.ro l (.inl ⟨e,s,a⟩)
  ·rw[ad.ho]at a;split at a
   ·cases a
   ·exact h.ro l (.inr (.inl ⟨es,a⟩))
  ·rw[ad.ho]at a;split at a
   ·cases a
   ·exact h.ro l (.inr (.inr ⟨t,e,s,a⟩))
 refine⟨⟨λl ro e s a=> ?_,λl es a=> ?_,λl t e s a=>absurd (.inr (.inr ⟨t,e,s,a⟩)) (b l),λl d _ _ az=>absurd az (b l)⟩,b,λl az=> ?_⟩
 ·rw[ad.ho]at a;split at a
  ·cases a
  ·obtain⟨c,ae,ah⟩:=h.rel.row l ro e s a;exact⟨c,hle _ _ ae,ah.mono hle⟩
 ·exact absurd (.inr (.inl ⟨es,a⟩)) (b l)
 ·simp only[ad.ds]at az;have:l≠H.next:=ai
  simp only[Env.dV,if_neg this];exact h.top l ai
def eM(P:Program)(t i:Nat):Option (Nat×Nat):=match P.underlying t with
 |some (.struct fs)=>(fs[i]?).map λf=>(f.type,f.offset)
 |_=>I
def fF{H:Type}{enc:TypeId×Value->H}{P:Program}{w:World}{base:Nat}{sp:Nat->Bool}{held:Bool}{n t:Nat}{cs:List Value}{x:DataW H×List MemPlace}{i ty off:Nat}
  (aN:eM P t i=D (ty,off)) (h:DataW.trod enc P w base sp held n t cs=D x):∃m y,DataW.trod enc P w base sp held m ty ((cs.drop off).take (P.cellsOf ty))=D y:=by
 unfold eM at aN;split at aN
 ·rename_i fs b;obtain⟨f,ae,ah⟩:=Option.map_eq_some_iff.1 aN;simp only[cM]at ah;obtain⟨rfl,rfl⟩:=ah;obtain⟨xs,m,_,_,_,az,aD⟩:=DataW.trod_struct b h;have a:i<xs.length:=by rw[az];exact(Array.getElem?_eq_some_iff.1 ae).1
  exact⟨m,xs[i],by rw[aD i f ae];simp[a]⟩
 ·cases aN
def ph{H:Type}{enc:TypeId×Value->H}{P:Program}{w:World}{base:Nat}{sp:Nat->Bool}{held:Bool}{n t:Nat}{cs:List Value}{x:DataW H×List MemPlace}{i ty off:Nat}
  (aN:eM P t i=D (ty,off)) (h:DataW.trod enc P w base sp held n t cs=D x):cs.length=P.cellsOf t:=by
 unfold eM at aN;split at aN
 ·rename_i fs a;obtain⟨xs,m,_,_,az,_⟩:=DataW.trod_struct a h;exact az
 ·cases aN
def j6{H:Type}{enc:TypeId×Value->H}{P:Program}{w:World}{base:Nat}{sp:Nat->Bool}{held:Bool}{n t:Nat}{v:Value}{x:DataW H×List MemPlace}{k:IntKind}
  (a:P.underlying t=D (.int k)) (h:DataW.trod enc P w base sp held n t [v]=D x):∃z,v= .int k z:=by
 obtain⟨z,ae,_⟩:=DataW.trod_int a h;simp only[List.cons.injEq,and_true]at ae;exact⟨z,ae⟩
def IX{H:Type}{enc:TypeId×Value->H}{P:Program}{w:World}{base:Nat}{sp:Nat->Bool}{held:Bool}{n t:Nat}{v:Value}{x:DataW H×List MemPlace}
  (a:P.underlying t=D .string) (h:DataW.trod enc P w base sp held n t [v]=D x):∃s:List UInt8,v= .string ⟨s.toArray⟩:=by
 obtain⟨s,ae,_⟩:=DataW.trod_string a h;simp only[List.cons.injEq,and_true]at ae;exact⟨s.data.toList,by rw[ae]⟩
def SN{H:Type}{enc:TypeId×Value->H}{P:Program}{w:World}{fuel t e:Nat}{cs:List Value}{x:DataW H×List MemPlace}(l:P.underlying t=D (.slice e))(h:DataW.trod enc P w 0 (λ_=>C) C fuel t cs=D x):
  cs=[.slice I 0 0]\/∃a len cap q,fuel=q+1/\cs=[.slice (D a) len cap]/\len<=cap/\∀i,i<cap->∃b,w.cells? 0 (a.add (i*P.cellsOf e)) (P.cellsOf e)=D b/\∃z,DataW.trod enc P w 0 (λ_=>C) C q e b=D z:=by
 rcases DataW.trod_slice l h with⟨c,_⟩|⟨a,len,cap,elems,rest,n,aN,rfl,_,_,az,_,hlen,d,k,_⟩
 ·exact .inl c
 ·refine .inr ⟨a,len,cap,n,aN,rfl,az,λi o=> ?_⟩;obtain⟨p,j⟩:=k rfl;have key:∃z,(w.cells? 0 (a.add (i*P.cellsOf e)) (P.cellsOf e)).bind (DataW.trod enc P w 0 (λ_=>C) C n e)=D z:=by
   by_cases f:i<len
   ·exact⟨elems[i]'ai,by rw[d i f];simp⟩
   ·have g:i-len<cap-len:=ai;have:=j (i-len) g;rw[show len+(i-len)=i by omega]at this;exact⟨rest[i-len]'ai,by rw[this];simp⟩
  obtain⟨z,m⟩:=key;obtain⟨b,ae,ah⟩:=dP.1 m;exact⟨b,ae,z,ah⟩
end Go.bo
namespace Go.Proofs.YtmhhnnklfcbgfaaGreat
open Go.bo
def sr(place:Nat->Option (Nat×Nat))(cells:List aa):List (Nat×List aa)->Option (List aa)
 |[]=>D cells
 |(i,v)::rest=>match place i with
  |none=>I
  |some (off,size)=>if v.length=size/\off+v.length<=cells.length then sr place (eI cells off v) rest else I
def yP(P:Program)(t:TypeId)(parts:List (Nat×List aa)):Option aa:=
 match e1 P t,P.underlying t with
 |some z,D (.struct fs)=>(match pC P fs.toList with|some pl=>(sr (pl[·]?) z.cells parts).map .agg|none=>I)
 |some z,D (.array _ e)=>(match cD P e with|some n=>(sr (λi=>D (i*n,n)) z.cells parts).map .agg|none=>I)
 |_,_=>I
def B6(place:Nat->Option (Nat×Nat)):∀(parts:List (Nat×aa)) (cells:List aa),lQ place cells parts=sr place cells (parts.map λp=>(p.1,p.2.cells))
 |[],_=>rfl
 |(i,v)::rest,cells=>by
  show(match place i with
   |none=>I
   |some (off,size)=>if v.cells.length=size/\off+v.cells.length<=cells.length then lQ place (eI cells off v.cells) rest else I)=(match place i with
   |none=>I
   |some (off,size)=>if v.cells.length=size/\off+v.cells.length<=cells.length then sr place (eI cells off v.cells) (rest.map λp=>(p.1,p.2.cells))else I)
  cases place i with
  |none=>rfl
  |some p=>simp only[B6 place rest]
def JT(Q:Program)(t:TypeId)(parts:List (Nat×aa)):c7 Q t parts=yP Q t (parts.map λp=>(p.1,p.2.cells)):=by
 unfold c7 yP;simp only[B6];generalize e1 Q t=z;generalize Q.underlying t=u;cases z with
 |none=>rfl
 |some z=>cases u with
  |none=>rfl
  |some d=>cases d<;>rfl
def h0(t:TypeId)(parts:List (Nat×aa)):c7 P t parts=yP P t (parts.map λp=>(p.1,p.2.cells)):=JT P t parts
def yw:dN P 3=D false:=ag
def IY:cD P 3=D 1:=ag
def aay:dN P 4=D false:=ag
def IZ:cD P 4=D 1:=ag
def LR{c:Bool}(a b:Bool):ar P .eql 4 c (.bool a) (.bool b)=D (.bool (a==b)):=ag
def Qs{c:Bool}(a b:Bool):ar P .neq 4 c (.bool a) (.bool b)=D (.bool (!(a==b))):=ag
def aaB:dN P 9=D false:=ag
def aa8:cD P 9=D 1:=ag
def PX{H:ad}{s:List UInt8}:a2 P H .len [9] [.str s]=D (.int .i64 s.length):=ag
def aal:dN P 22=D false:=ag
def aaN:cD P 22=D 1:=ag
def N_(l i n:Nat)(cap:Option Nat)(k:Int):a6 P 22 (.aJ l i n 2 cap) (.int .i64 k)=if 2=2/\0<=k/\k<n then D (.ptr l (i+k.toNat) 0)else none:=ag
def N9{l i n:Nat}{cap:Option Nat}{k:Int}(a:0<=k)(ae:k<n):a6 P 22 (.aJ l i n 2 cap) (.int .i64 k)=D (.ptr l (i+k.toNat) 0):=by rw[N_,if_pos ⟨rfl,a,ae⟩]
def PB{H:ad}{l i n e:Nat}{cap:Option Nat}:a2 P H .len [22] [.aJ l i n e cap]=D (.int .i64 n):=ag
def PC{H:ad}:a2 P H .len [22] [.aB]=D (.int .i64 0):=ag
def aam:dN P 23=D false:=ag
def aaO:cD P 23=D 1:=ag
def Ob(l i n:Nat)(cap:Option Nat)(k:Int):a6 P 23 (.aJ l i n 3 cap) (.int .i64 k)=if 3=3/\0<=k/\k<n then D (.ptr l (i+k.toNat) 0)else none:=ag
def Oa{l i n:Nat}{cap:Option Nat}{k:Int}(a:0<=k)(ae:k<n):a6 P 23 (.aJ l i n 3 cap) (.int .i64 k)=D (.ptr l (i+k.toNat) 0):=by rw[Ob,if_pos ⟨rfl,a,ae⟩]
def PD{H:ad}{l i n e:Nat}{cap:Option Nat}:a2 P H .len [23] [.aJ l i n e cap]=D (.int .i64 n):=ag
def PE{H:ad}:a2 P H .len [23] [.aB]=D (.int .i64 0):=ag
def aan:dN P 24=D false:=ag
def aaP:cD P 24=D 1:=ag
def Od(l i n:Nat)(cap:Option Nat)(k:Int):a6 P 24 (.aJ l i n 7 cap) (.int .i64 k)=if 7=7/\0<=k/\k<n then D (.ptr l (i+k.toNat) 0)else none:=ag
def Oc{l i n:Nat}{cap:Option Nat}{k:Int}(a:0<=k)(ae:k<n):a6 P 24 (.aJ l i n 7 cap) (.int .i64 k)=D (.ptr l (i+k.toNat) 0):=by rw[Od,if_pos ⟨rfl,a,ae⟩]
def PF{H:ad}{l i n e:Nat}{cap:Option Nat}:a2 P H .len [24] [.aJ l i n e cap]=D (.int .i64 n):=ag
def PI{H:ad}:a2 P H .len [24] [.aB]=D (.int .i64 0):=ag
def aar:dN P 25=D false:=ag
def aaT:cD P 25=D 1:=ag
def Om(l i n:Nat)(cap:Option Nat)(k:Int):a6 P 25 (.aJ l i n 4 cap) (.int .i64 k)=if 4=4/\0<=k/\k<n then D (.ptr l (i+k.toNat) 0)else none:=ag
def Ol{l i n:Nat}{cap:Option Nat}{k:Int}(a:0<=k)(ae:k<n):a6 P 25 (.aJ l i n 4 cap) (.int .i64 k)=D (.ptr l (i+k.toNat) 0):=by rw[Om,if_pos ⟨rfl,a,ae⟩]
def PJ{H:ad}{l i n e:Nat}{cap:Option Nat}:a2 P H .len [25] [.aJ l i n e cap]=D (.int .i64 n):=ag
def PK{H:ad}:a2 P H .len [25] [.aB]=D (.int .i64 0):=ag
def aat:dN P 27=D true:=ag
def aaV:cD P 27=D 5:=ag
def MG(l i c:Nat):av P 27 (.ptr l i c) 0=D (.ptr l i (c+0)):=ag
def MH(l i c:Nat):av P 27 (.ptr l i c) 1=D (.ptr l i (c+1)):=ag
def MI(l i c:Nat):av P 27 (.ptr l i c) 2=D (.ptr l i (c+2)):=ag
def MJ(l i c:Nat):av P 27 (.ptr l i c) 3=D (.ptr l i (c+3)):=ag
def MK(l i c:Nat):av P 27 (.ptr l i c) 4=D (.ptr l i (c+4)):=ag
def IK:dN P 30=D false:=ag
def aaZ:cD P 30=D 1:=ag
def Ot(l i n:Nat)(cap:Option Nat)(k:Int):a6 P 30 (.aJ l i n 1 cap) (.int .i64 k)=if 1=1/\0<=k/\k<n then D (.ptr l (i+k.toNat) 0)else none:=ag
def Oq{l i n:Nat}{cap:Option Nat}{k:Int}(a:0<=k)(ae:k<n):a6 P 30 (.aJ l i n 1 cap) (.int .i64 k)=D (.ptr l (i+k.toNat) 0):=by rw[Ot,if_pos ⟨rfl,a,ae⟩]
def PN{H:ad}{l i n e:Nat}{cap:Option Nat}:a2 P H .len [30] [.aJ l i n e cap]=D (.int .i64 n):=ag
def PO{H:ad}:a2 P H .len [30] [.aB]=D (.int .i64 0):=ag
def aaw:dN P 31=D false:=ag
def aa0:cD P 31=D 1:=ag
def Ov(l i n:Nat)(cap:Option Nat)(k:Int):a6 P 31 (.aJ l i n 1 cap) (.int .i64 k)=if 1=1/\0<=k/\k<n then D (.ptr l (i+k.toNat) 0)else none:=ag
def Ou{l i n:Nat}{cap:Option Nat}{k:Int}(a:0<=k)(ae:k<n):a6 P 31 (.aJ l i n 1 cap) (.int .i64 k)=D (.ptr l (i+k.toNat) 0):=by rw[Ov,if_pos ⟨rfl,a,ae⟩]
def PR{H:ad}{l i n e:Nat}{cap:Option Nat}:a2 P H .len [31] [.aJ l i n e cap]=D (.int .i64 n):=ag
def PS{H:ad}:a2 P H .len [31] [.aB]=D (.int .i64 0):=ag
def aax:dN P 33=D true:=ag
def aa1:cD P 33=D 4:=ag
def MU(l i c:Nat):av P 33 (.ptr l i c) 0=D (.ptr l i (c+0)):=ag
def MV(l i c:Nat):av P 33 (.ptr l i c) 1=D (.ptr l i (c+1)):=ag
def MW(l i c:Nat):av P 33 (.ptr l i c) 2=D (.ptr l i (c+2)):=ag
def MX(l i c:Nat):av P 33 (.ptr l i c) 3=D (.ptr l i (c+3)):=ag
def r_:dN P 46=D true:=ag
def aa2:cD P 46=D 3:=ag
def MY(l i c:Nat):av P 46 (.ptr l i c) 0=D (.ptr l i (c+0)):=ag
def MZ(l i c:Nat):av P 46 (.ptr l i c) 1=D (.ptr l i (c+1)):=ag
def M0(l i c:Nat):av P 46 (.ptr l i c) 2=D (.ptr l i (c+2)):=ag
def NH(a0 b a:aa):lP P 46 (.agg [a0,b,a]) 2=D a:=ag
def aaz:dN P 47=D false:=ag
def aa3:cD P 47=D 1:=ag
def Ox(l i n:Nat)(cap:Option Nat)(k:Int):a6 P 47 (.aJ l i n 6 cap) (.int .i64 k)=if 6=6/\0<=k/\k<n then D (.ptr l (i+k.toNat) 0)else none:=ag
def Ow{l i n:Nat}{cap:Option Nat}{k:Int}(a:0<=k)(ae:k<n):a6 P 47 (.aJ l i n 6 cap) (.int .i64 k)=D (.ptr l (i+k.toNat) 0):=by rw[Ox,if_pos ⟨rfl,a,ae⟩]
def PT{H:ad}{l i n e:Nat}{cap:Option Nat}:a2 P H .len [47] [.aJ l i n e cap]=D (.int .i64 n):=ag
def PU{H:ad}:a2 P H .len [47] [.aB]=D (.int .i64 0):=ag
def IL:dN P 49=D true:=ag
def aa4:cD P 49=D 7:=ag
def M1(l i c:Nat):av P 49 (.ptr l i c) 0=D (.ptr l i (c+0)):=ag
def M3(l i c:Nat):av P 49 (.ptr l i c) 1=D (.ptr l i (c+1)):=ag
def M4(l i c:Nat):av P 49 (.ptr l i c) 2=D (.ptr l i (c+2)):=ag
def M5(l i c:Nat):av P 49 (.ptr l i c) 3=D (.ptr l i (c+3)):=ag
def M6(l i c:Nat):av P 49 (.ptr l i c) 4=D (.ptr l i (c+6)):=ag
def aaA:dN P 53=D false:=ag
def aa5:cD P 53=D 1:=ag
def Oz(l i n:Nat)(cap:Option Nat)(k:Int):a6 P 53 (.aJ l i n 4 cap) (.int .i64 k)=if 4=4/\0<=k/\k<n then D (.ptr l (i+k.toNat) 0)else none:=ag
def Oy{l i n:Nat}{cap:Option Nat}{k:Int}(a:0<=k)(ae:k<n):a6 P 53 (.aJ l i n 4 cap) (.int .i64 k)=D (.ptr l (i+k.toNat) 0):=by rw[Oz,if_pos ⟨rfl,a,ae⟩]
def PV{H:ad}{l i n e:Nat}{cap:Option Nat}:a2 P H .len [53] [.aJ l i n e cap]=D (.int .i64 n):=ag
def PW{H:ad}:a2 P H .len [53] [.aB]=D (.int .i64 0):=ag
def IM:dN P 56=D true:=ag
def aa6:cD P 56=D 4:=ag
def M7(l i c:Nat):av P 56 (.ptr l i c) 0=D (.ptr l i (c+0)):=ag
def M8(l i c:Nat):av P 56 (.ptr l i c) 1=D (.ptr l i (c+1)):=ag
def M9(l i c:Nat):av P 56 (.ptr l i c) 2=D (.ptr l i (c+2)):=ag
def M_(l i c:Nat):av P 56 (.ptr l i c) 3=D (.ptr l i (c+3)):=ag
def Na(l i c:Nat):av P 76 (.ptr l i c) 0=D (.ptr l i (c+0)):=ag
def Nb(l i c:Nat):av P 76 (.ptr l i c) 1=D (.ptr l i (c+5)):=ag
def Nc(l i c:Nat):av P 76 (.ptr l i c) 2=D (.ptr l i (c+9)):=ag
def Nd(l i c:Nat):av P 76 (.ptr l i c) 3=D (.ptr l i (c+10)):=ag
def IN:dN P 89=D true:=ag
def aa7:cD P 89=D 6:=ag
def Nf(l i c:Nat):av P 89 (.ptr l i c) 0=D (.ptr l i (c+0)):=ag
def Ng(l i c:Nat):av P 89 (.ptr l i c) 1=D (.ptr l i (c+1)):=ag
def Nh(l i c:Nat):av P 89 (.ptr l i c) 2=D (.ptr l i (c+2)):=ag
def Ni(l i c:Nat):av P 89 (.ptr l i c) 3=D (.ptr l i (c+3)):=ag
def Nj(l i c:Nat):av P 89 (.ptr l i c) 4=D (.ptr l i (c+4)):=ag
def Nk(l i c:Nat):av P 89 (.ptr l i c) 5=D (.ptr l i (c+5)):=ag
def aaC:dN P 93=D false:=ag
def aa9:cD P 93=D 1:=ag
def OB(l i n:Nat)(cap:Option Nat)(k:Int):a6 P 93 (.aJ l i n 4 cap) (.int .i64 k)=if 4=4/\0<=k/\k<n then D (.ptr l (i+k.toNat) 0)else none:=ag
def OA{l i n:Nat}{cap:Option Nat}{k:Int}(a:0<=k)(ae:k<n):a6 P 93 (.aJ l i n 4 cap) (.int .i64 k)=D (.ptr l (i+k.toNat) 0):=by rw[OB,if_pos ⟨rfl,a,ae⟩]
def PY{H:ad}{l i n e:Nat}{cap:Option Nat}:a2 P H .len [93] [.aJ l i n e cap]=D (.int .i64 n):=ag
def PZ{H:ad}:a2 P H .len [93] [.aB]=D (.int .i64 0):=ag
def aaD:dN P 95=D true:=ag
def aa_:cD P 95=D 2:=ag
def Nl(l i c:Nat):av P 95 (.ptr l i c) 1=D (.ptr l i (c+1)):=ag
def aaE:dN P 98=D true:=ag
def aba:cD P 98=D 4:=ag
def Nm(l i c:Nat):av P 98 (.ptr l i c) 1=D (.ptr l i (c+1)):=ag
def aah:dN P 100=D true:=ag
def aaJ:cD P 100=D 4:=ag
def Mn(l i c:Nat):av P 100 (.ptr l i c) 0=D (.ptr l i (c+0)):=ag
def Mo(l i c:Nat):av P 100 (.ptr l i c) 1=D (.ptr l i (c+1)):=ag
def aai:dN P 104=D false:=ag
def aaK:cD P 104=D 1:=ag
def N0(l i n:Nat)(cap:Option Nat)(k:Int):a6 P 104 (.aJ l i n 1 cap) (.int .i64 k)=if 1=1/\0<=k/\k<n then D (.ptr l (i+k.toNat) 0)else none:=ag
def NZ{l i n:Nat}{cap:Option Nat}{k:Int}(a:0<=k)(ae:k<n):a6 P 104 (.aJ l i n 1 cap) (.int .i64 k)=D (.ptr l (i+k.toNat) 0):=by rw[N0,if_pos ⟨rfl,a,ae⟩]
def Pv{H:ad}{l i n e:Nat}{cap:Option Nat}:a2 P H .len [104] [.aJ l i n e cap]=D (.int .i64 n):=ag
def Pw{H:ad}:a2 P H .len [104] [.aB]=D (.int .i64 0):=ag
def aaj:dN P 152=D false:=ag
def aaL:cD P 152=D 1:=ag
def N2(l i n:Nat)(cap:Option Nat)(k:Int):a6 P 152 (.aJ l i n 1 cap) (.int .i64 k)=if 1=1/\0<=k/\k<n then D (.ptr l (i+k.toNat) 0)else none:=ag
def N1{l i n:Nat}{cap:Option Nat}{k:Int}(a:0<=k)(ae:k<n):a6 P 152 (.aJ l i n 1 cap) (.int .i64 k)=D (.ptr l (i+k.toNat) 0):=by rw[N2,if_pos ⟨rfl,a,ae⟩]
def Px{H:ad}{l i n e:Nat}{cap:Option Nat}:a2 P H .len [152] [.aJ l i n e cap]=D (.int .i64 n):=ag
def Py{H:ad}:a2 P H .len [152] [.aB]=D (.int .i64 0):=ag
def aak:dN P 154=D true:=ag
def aaM:cD P 154=D 2:=ag
def Mp(l i c:Nat):av P 154 (.ptr l i c) 0=D (.ptr l i (c+0)):=ag
def Mq(l i c:Nat):av P 154 (.ptr l i c) 1=D (.ptr l i (c+1)):=ag
def Mr(l i c:Nat):av P 196 (.ptr l i c) 0=D (.ptr l i (c+0)):=ag
def Ms(l i c:Nat):av P 196 (.ptr l i c) 1=D (.ptr l i (c+7)):=ag
def Mt(l i c:Nat):av P 196 (.ptr l i c) 2=D (.ptr l i (c+8)):=ag
def Mu(l i c:Nat):av P 196 (.ptr l i c) 3=D (.ptr l i (c+9)):=ag
def Mv(l i c:Nat):av P 196 (.ptr l i c) 4=D (.ptr l i (c+10)):=ag
def Mw(l i c:Nat):av P 196 (.ptr l i c) 5=D (.ptr l i (c+11)):=ag
def N4(l i n:Nat)(cap:Option Nat)(k:Int):a6 P 198 (.aJ l i n 1 cap) (.int .i64 k)=if 1=1/\0<=k/\k<n then D (.ptr l (i+k.toNat) 0)else none:=ag
def N3{l i n:Nat}{cap:Option Nat}{k:Int}(a:0<=k)(ae:k<n):a6 P 198 (.aJ l i n 1 cap) (.int .i64 k)=D (.ptr l (i+k.toNat) 0):=by rw[N4,if_pos ⟨rfl,a,ae⟩]
def Pz{H:ad}{l i n e:Nat}{cap:Option Nat}:a2 P H .len [198] [.aJ l i n e cap]=D (.int .i64 n):=ag
def PA{H:ad}:a2 P H .len [198] [.aB]=D (.int .i64 0):=ag
def N6(l i n:Nat)(cap:Option Nat)(k:Int):a6 P 203 (.aJ l i n 1 cap) (.int .i64 k)=if 1=1/\0<=k/\k<n then D (.ptr l (i+k.toNat) 0)else none:=ag
def N5{l i n:Nat}{cap:Option Nat}{k:Int}(a:0<=k)(ae:k<n):a6 P 203 (.aJ l i n 1 cap) (.int .i64 k)=D (.ptr l (i+k.toNat) 0):=by rw[N6,if_pos ⟨rfl,a,ae⟩]
def N8(l i n:Nat)(cap:Option Nat)(k:Int):a6 P 204 (.aJ l i n 1 cap) (.int .i64 k)=if 1=1/\0<=k/\k<n then D (.ptr l (i+k.toNat) 0)else none:=ag
def N7{l i n:Nat}{cap:Option Nat}{k:Int}(a:0<=k)(ae:k<n):a6 P 204 (.aJ l i n 1 cap) (.int .i64 k)=D (.ptr l (i+k.toNat) 0):=by rw[N8,if_pos ⟨rfl,a,ae⟩]
def aao:dN P 243=D false:=ag
def aaQ:cD P 243=D 1:=ag
def Of(l i n:Nat)(cap:Option Nat)(k:Int):a6 P 243 (.aJ l i n 1 cap) (.int .i64 k)=if 1=1/\0<=k/\k<n then D (.ptr l (i+k.toNat) 0)else none:=ag
def Oe{l i n:Nat}{cap:Option Nat}{k:Int}(a:0<=k)(ae:k<n):a6 P 243 (.aJ l i n 1 cap) (.int .i64 k)=D (.ptr l (i+k.toNat) 0):=by rw[Of,if_pos ⟨rfl,a,ae⟩]
def aap:dN P 244=D false:=ag
def aaR:cD P 244=D 1:=ag
def Oh(l i n:Nat)(cap:Option Nat)(k:Int):a6 P 244 (.aJ l i n 1 cap) (.int .i64 k)=if 1=1/\0<=k/\k<n then D (.ptr l (i+k.toNat) 0)else none:=ag
def Og{l i n:Nat}{cap:Option Nat}{k:Int}(a:0<=k)(ae:k<n):a6 P 244 (.aJ l i n 1 cap) (.int .i64 k)=D (.ptr l (i+k.toNat) 0):=by rw[Oh,if_pos ⟨rfl,a,ae⟩]
def aaq:dN P 246=D false:=ag
def aaS:cD P 246=D 1:=ag
def Oj(l i n:Nat)(cap:Option Nat)(k:Int):a6 P 246 (.aJ l i n 1 cap) (.int .i64 k)=if 1=1/\0<=k/\k<n then D (.ptr l (i+k.toNat) 0)else none:=ag
def Oi{l i n:Nat}{cap:Option Nat}{k:Int}(a:0<=k)(ae:k<n):a6 P 246 (.aJ l i n 1 cap) (.int .i64 k)=D (.ptr l (i+k.toNat) 0):=by rw[Oj,if_pos ⟨rfl,a,ae⟩]
def PG{H:ad}{l i n e:Nat}{cap:Option Nat}:a2 P H .len [246] [.aJ l i n e cap]=D (.int .i64 n):=ag
def PH{H:ad}:a2 P H .len [246] [.aB]=D (.int .i64 0):=ag
def Mx(l i c:Nat):av P 248 (.ptr l i c) 0=D (.ptr l i (c+0)):=ag
def My(l i c:Nat):av P 248 (.ptr l i c) 1=D (.ptr l i (c+1)):=ag
def Mz(l i c:Nat):av P 248 (.ptr l i c) 2=D (.ptr l i (c+2)):=ag
def MA(l i c:Nat):av P 248 (.ptr l i c) 3=D (.ptr l i (c+3)):=ag
def MB(l i c:Nat):av P 248 (.ptr l i c) 4=D (.ptr l i (c+4)):=ag
def MC(l i c:Nat):av P 248 (.ptr l i c) 5=D (.ptr l i (c+5)):=ag
def MD(l i c:Nat):av P 248 (.ptr l i c) 6=D (.ptr l i (c+6)):=ag
def ME(l i c:Nat):av P 248 (.ptr l i c) 7=D (.ptr l i (c+7)):=ag
def MF(l i c:Nat):av P 248 (.ptr l i c) 8=D (.ptr l i (c+8)):=ag
def aas:dN P 251=D false:=ag
def aaU:cD P 251=D 1:=ag
def aau:dN P 280=D true:=ag
def aaW:cD P 280=D 19:=ag
def ML(l i c:Nat):av P 280 (.ptr l i c) 0=D (.ptr l i (c+0)):=ag
def MM(l i c:Nat):av P 280 (.ptr l i c) 1=D (.ptr l i (c+5)):=ag
def MO(l i c:Nat):av P 280 (.ptr l i c) 2=D (.ptr l i (c+6)):=ag
def MP(l i c:Nat):av P 280 (.ptr l i c) 3=D (.ptr l i (c+13)):=ag
def aav:dN P 284=D false:=ag
def aaX:cD P 284=D 1:=ag
def Oo(l i n:Nat)(cap:Option Nat)(k:Int):a6 P 284 (.aJ l i n 3 cap) (.int .i64 k)=if 3=3/\0<=k/\k<n then D (.ptr l (i+k.toNat) 0)else none:=ag
def On{l i n:Nat}{cap:Option Nat}{k:Int}(a:0<=k)(ae:k<n):a6 P 284 (.aJ l i n 3 cap) (.int .i64 k)=D (.ptr l (i+k.toNat) 0):=by rw[Oo,if_pos ⟨rfl,a,ae⟩]
def PL{H:ad}{l i n e:Nat}{cap:Option Nat}:a2 P H .len [284] [.aJ l i n e cap]=D (.int .i64 n):=ag
def PM{H:ad}:a2 P H .len [284] [.aB]=D (.int .i64 0):=ag
def II:dN P 286=D true:=ag
def aaY:cD P 286=D 3:=ag
def MQ(l i c:Nat):av P 286 (.ptr l i c) 0=D (.ptr l i (c+0)):=ag
def MR(l i c:Nat):av P 286 (.ptr l i c) 1=D (.ptr l i (c+1)):=ag
def MS(l i c:Nat):av P 286 (.ptr l i c) 2=D (.ptr l i (c+2)):=ag
def MT(l i c:Nat):av P 292 (.ptr l i c) 0=D (.ptr l i (c+0)):=ag
def CI{a0:aa}{a:aa}{b:aa}(c:a0.one=C)(ae:a.one=C)(ah:b.one=C):c7 P 56 [(0,a0),(1,a),(2,b)]=D (.agg [a0,a,b,.int .i64 0]):=by
 rw[h0];simp only[List.map_cons,List.map_nil,dG c,dG ae,dG ah];kernel_rfl
def K2{a:aa}{b:aa}{c:aa}{d:aa}{e:aa}{f:aa}{g:aa}{h:aa}{i:aa}:c7 P 76 [(0,.agg [a,b,c,d,e]),(1,.agg [f,g,h,i])]=D (.agg [a,b,c,d,e,f,g,h,i,aa.aB,aa.aB]):=by
 rw[h0];simp only[List.map_cons,List.map_nil];kernel_rfl
def CC{a:aa}{a3:aa}{a4:aa}(ae:a.one=C)(ak:a3.one=C)(au:a4.one=C):c7 P 196 [(1,a),(3,a3),(4,a4)]=D (.agg [.int .i64 0,aa.aB,.bool Z,.int .i64 0,.int .i64 0,.int .i64 0,aa.aB,a,.int .i64 0,a3,a4,aa.aB]):=by
 rw[h0];simp only[List.map_cons,List.map_nil,dG ae,dG ak,dG au];kernel_rfl
def KZ{a:aa}(ae:a.one=C):c7 P 33 [(1,a)]=D (.agg [.int .i64 0,a,aa.aB,aa.aB]):=by
 rw[h0];simp only[List.map_cons,List.map_nil,dG ae];kernel_rfl
def K0{a0:aa}(a:a0.one=C):c7 P 46 [(0,a0)]=D (.agg [a0,.int .i64 0,.int .i64 0]):=by
 rw[h0];simp only[List.map_cons,List.map_nil,dG a];kernel_rfl
def K1{a0:aa}{a:aa}{b:aa}(c:a0.one=C)(ae:a.one=C)(ah:b.one=C):c7 P 46 [(0,a0),(1,a),(2,b)]=D (.agg [a0,a,b]):=by
 rw[h0];simp only[List.map_cons,List.map_nil,dG c,dG ae,dG ah];kernel_rfl
def CJ{a0:aa}{a:aa}{b:aa}{a3:aa}(c:a0.one=C)(ae:a.one=C)(ah:b.one=C)(ak:a3.one=C):c7 P 56 [(0,a0),(1,a),(2,b),(3,a3)]=D (.agg [a0,a,b,a3]):=by
 rw[h0];simp only[List.map_cons,List.map_nil,dG c,dG ae,dG ah,dG ak];kernel_rfl
def CE{a0:aa}{a:aa}{b:aa}{a3:aa}{a4:aa}{a5:aa}{c:aa}{d:aa}(e:a0.one=C)(ae:a.one=C)(ah:b.one=C)(ak:a3.one=C)(au:a4.one=C)(f:a5.one=C)(g:c.one=C)(h:d.one=C):c7 P 248 [(0,a0),(1,a),(2,b),(3,a3),(4,a4),(5,a5),(6,c),(8,d)]=D (.agg [a0,a,b,a3,a4,a5,c,aa.aB,d]):=by
 rw[h0];simp only[List.map_cons,List.map_nil,dG e,dG ae,dG ah,dG ak,dG au,dG f,dG g,dG h];kernel_rfl
def CB{a0:aa}{a:aa}(b:a0.one=C)(ae:a.one=C):c7 P 154 [(0,a0),(1,a)]=D (.agg [a0,a]):=by
 rw[h0];simp only[List.map_cons,List.map_nil,dG b,dG ae];kernel_rfl
def CH{a0:aa}{a:aa}(b:a0.one=C)(ae:a.one=C):c7 P 33 [(0,a0),(1,a)]=D (.agg [a0,a,aa.aB,aa.aB]):=by
 rw[h0];simp only[List.map_cons,List.map_nil,dG b,dG ae];kernel_rfl
def CF{b:aa}{c:aa}{d:aa}{e:aa}{f:aa}{a:aa}{g:aa}{h:aa}{i:aa}{j:aa}{k:aa}{l:aa}{m:aa}{n:aa}{o:aa}{p:aa}{q:aa}{r:aa}{s:aa}(ae:a.one=C):c7 P 280 [(0,.agg [b,c,d,e,f]),(1,a),(2,.agg [g,h,i,j,k,l,m]),(3,.agg [n,o,p,q,r,s])]=D (.agg [b,c,d,e,f,a,g,h,i,j,k,l,m,n,o,p,q,r,s]):=by
 rw[h0];simp only[List.map_cons,List.map_nil,dG ae];kernel_rfl
def y8{a0:aa}{a:aa}{b:aa}(c:a0.one=C)(ae:a.one=C)(ah:b.one=C):c7 P 286 [(0,a0),(1,a),(2,b)]=D (.agg [a0,a,b]):=by
 rw[h0];simp only[List.map_cons,List.map_nil,dG c,dG ae,dG ah];kernel_rfl
def KY{a0:aa}(a:a0.one=C):c7 P 292 [(0,a0)]=D (.agg [a0]):=by
 rw[h0];simp only[List.map_cons,List.map_nil,dG a];kernel_rfl
def CG{a0:aa}{a:aa}(b:a0.one=C)(ae:a.one=C):c7 P 312 [(0,a0),(1,a)]=D (.agg [a0,a]):=by
 rw[h0];simp only[List.map_cons,List.map_nil,dG b,dG ae];kernel_rfl

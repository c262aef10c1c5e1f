/-
  Texts of one proof, laid together: Hv11 Hv12 Hv13 Hv14 Hv15.
-/
import Derived.Test.YtolnciihfbifcaaGreatMB
import Derived.Orders
set_option linter.unusedVariables false
set_option linter.unusedSimpArgs false
set_option linter.defProp false
open Option renaming some→D,none→Y
open Bool renaming true→V,false→U
namespace Go.cV
structure a8 where
 t:bf aa
 size:Nat
def a8.get(C:a8)(d:Nat):aa:=match C.t.get d with
 |some v=>v
 |none=> .tuple []
def a8.put(C:a8)(dst:Option Nat)(v:aa):Option a8:=match dst with
 |none=>D C
 |some d=>if d<C.size then D {C with t:=bf.put v (d+1) C.t d}else Y
structure dE(ρ:Env)(C:a8)(a:Act):Prop where
 size:C.size=a.tmps.size
 get:∀d,bb ρ (C.get d) (a.tmps.getD d undef)
 none:a.defers=[]
def dE.mono{ρ b:Env}{C:a8}{a:Act}(h:dE ρ C a)(hle:ρ.le b):dE b C a:=⟨h.size,λd=>(h.get d).mono hle,h.none⟩
def a8.nT{C a2:a8}{dst:Option Nat}{v:aa}(h:C.put dst v=D a2)(d:Nat):a2.get d=if dst=D d then v else C.get d:=by
 cases dst with
 |none=>simp only[a8.put,a7]at h;subst h;simp
 |some e=>
  simp only[a8.put]at h;split at h
  ·simp only[a7]at h;subst h;by_cases he:e=d
   ·subst he;simp[a8.get,bf.qg v (e+1) C.t e bn]
   ·have:(D e=D d)=False:=by simp[he]
    simp[a8.get,bf.nU v (e+1) C.t e d he,he]
  ·cases h
def a8.size_put{C a2:a8}{dst:Option Nat}{v:aa}(h:C.put dst v=D a2):a2.size=C.size:=by
 cases dst with
 |none=>simp only[a8.put,a7]at h;subst h;rfl
 |some e=>
  simp only[a8.put]at h;split at h
  ·simp only[a7]at h;subst h;rfl
  ·cases h
def a8.NT{C a2:a8}{d:Nat}{v:aa}(h:C.put (D d) v=D a2):d<C.size:=by
 simp only[a8.put]at h;split at h
 ·assumption
 ·cases h
def dE.put{ρ:Env}{C a2:a8}{a:Act}{dst:Option Nat}{v:aa}{x:Value}(h:dE ρ C a)(b:C.put dst v=D a2)(f:bb ρ v x):dE ρ a2 (a.put dst x):=by
 refine⟨?_,λd=> ?_,?_⟩
 ·rw[a8.size_put b,h.size];cases dst<;>simp[Act.put]
 ·rw[a8.nT b];cases dst with
  |none=>simpa [Act.put]using h.get d
  |some e=>
   have c:=a8.NT b;rw[h.size]at c;by_cases he:e=d
   ·subst he;simpa [Act.put,c]using f
   ·have:=h.get d;simp only[a7,he,if_false,Act.put,Array.getD_eq_getD_getElem?,Array.getElem?_setIfInBounds];simpa using this
 ·cases dst<;>simpa [Act.put]using h.none
def br(C:a8):Operand->Option aa
 | .tmp t=>D (C.get t)
 | .const v=>qQ v
 | .global _=>Y
 | .func f=>D (.func (.func f) [] [])
section
variable {P:Program}{ρ:Env}{H:af}{w:World}{C:a8}{a:Act}
def du(b:dE ρ C a){x:Operand}{v:aa}(h:br C x=D v):bb ρ v (a.eval x):=by
 cases x with
 |tmp t=>simp only[br,a7]at h;subst h;exact b.get t
 |const c=>exact zl h ρ
 |global g=>cases h
 |func f=>simp only[br,a7]at h;subst h;exact .func (.func f) [] [] [] [] .nil .nil
def ht(C:a8):List Operand->Option (List aa)
 |[]=>D []
 |x::xs=>match br C x,ht C xs with
  |some v,D a=>D (v::a)
  |_,_=>Y
def mC(c:dE ρ C a):∀{xs:List Operand} {b:List aa},ht C xs=D b->bj ρ b (xs.map a.eval)
 |[],b,h=>by simp only[ht,a7]at h;subst h;exact .nil
 |x::xs,b,h=>by
  simp only[ht]at h;split at h
  ·rename_i v f d e;simp only[a7]at h;subst h;exact .cons _ _ _ _ (du c d) (mC c e)
  ·cases h
def iH(C:a8):List (Nat×Operand)->Option (List (Nat×aa))
 |[]=>D []
 |(i,x)::xs=>match br C x,iH C xs with
  |some v,D a=>D ((i,v)::a)
  |_,_=>Y
def Dm(c:dE ρ C a):∀{xs:List (Nat×Operand)} {b:List (Nat×aa)},iH C xs=D b->ny ρ b (xs.map λ(i,x)=>(i,a.eval x))
 |[],b,h=>by simp only[iH,a7]at h;subst h;exact trivial
 |(i,x)::xs,b,h=>by
  simp only[iH]at h;split at h
  ·rename_i v f d e;simp only[a7]at h;subst h;exact⟨rfl,du c d,Dm c e⟩
  ·cases h
def jG(C:a8):Option Operand->Option (Option aa)
 |none=>D Y
 |some x=>match br C x with
  |some v=>D (D v)
  |none=>Y
def Dq(b:dE ρ C a){x:Option Operand}{v:Option aa}(h:jG C x=D v):nx ρ v (x.map a.eval):=by
 cases x with
 |none=>simp only[jG,a7]at h;subst h;exact .none
 |some x=>
  simp only[jG]at h;split at h
  ·rename_i u hu;simp only[a7]at h;subst h;exact .some _ _ (du b hu)
  ·cases h
def aL:aa->Option aa
 | .ptr l i c=>D (.ptr l i c)
 | .iface t v=>D (.iface t v)
 | .func (.func f) x y=>D (.func (.func f) x y)
 |_=>Y
def jF(P:Program)(t:TypeId)(v:aa):Option aa:=
 match P.underlying t with
 |some (.interface _)=>Y
 |some _=>D (.iface t v)
 |none=>Y
def a6(P:Program)(H:af)(b:Builtin)(ts:List TypeId)(a:List aa):Option aa:=
 match b,ts,a with
 | .len,[t],[x]=>Db P H t x
 | .max,_,[x,y]=>Dg x y
 | .min,_,[x,y]=>Dh x y
 | .cap,[t],[x]=>C9 P t x
 |_,_,_=>Y
def p0(P:Program)(t:TypeId)(ok:Bool)(v:aa):Option aa:=
 match v with
 | .iface d u=>if d=t/\ok=U then(match P.underlying t with|some (.interface _)=>Y|some _=>D u|none=>Y)else Y
 |_=>Y
def h9(P:Program)(aA:Op)(C:a8):Option aa:=
 match aA with
 | .move x=>br C x
 | .assign x=>br C x
 | .pick c a b=>match br C c with
  |some (.bool t)=>if t then br C a else br C b
  |_=>Y
 | .build t n=>(iH C n.toList).bind (bo P t)
 | .nilCheck x=>(br C x).bind aL
 | .binOp op t x y _=>(br C x).bind λu=>(br C y).bind λv=>p1 P op t x y u v
 | .unOp op _ x=>(br C x).bind (bu op)
 | .convert s d x=>(br C x).bind (p4 P s d)
 | .makeInterface t x=>(br C x).bind (jF P t)
 | .makeFunc fn f c=>(ht C f.toList).bind λe=>(ht C c.toList).bind λcs=>D (.func fn e cs)
 | .slice t x j g k=>(br C x).bind λv=>(jG C j).bind λl=>(jG C g).bind λh=>(jG C k).bind λm=>fK P t v l h m
 | .fieldAddr t x f=>(br C x).bind λv=>ak P t v f
 | .field t x f=>(br C x).bind λv=>dc P t v f
 | .indexAddr t x i=>(br C x).bind λu=>(br C i).bind λv=>aH P t u v
 | .index t x i=>(br C x).bind λu=>(br C i).bind λv=>fv P t u v
 | .extract x i=>(br C x).bind λv=>bJ v i
 | .typeAssert x _ t ok=>(br C x).bind (p0 P t ok)
 | .call c=>match c.callee with
  | .builtin b=>(ht C c.args.toList).bind (a6 P .empty b c.argTypes.toList)
  |_=>Y
 |_=>Y
def fs{s:Sem Value}{x:Value}{w a:World}(h:s.run P w= .ok x a):(do pure (.value (<-s)):Sem Next).run P w= .ok (.value x) a:=by
 simp[h]
def Fs{s:Sem Unit}{w a:World}(h:s.run P w= .ok () a):(do s;pure .skip:Sem Next).run P w= .ok .skip a:=by
 simp[h]
def Rel.empty(ρ:Env)(w:World)(n:Nat):Rel ρ ⟨.leaf,n⟩ w:=by
 have:∀l,(⟨.leaf,n⟩:af).get l=none:=λl=>by unfold af.get;split<;>first|exact bf.nS _|rfl
 refine⟨λl _ _ _ h=> ?_,λl _ h=> ?_,λl _ _ _ h=> ?_,λl a _ _ h=> ?_⟩
 ·rw[this]at h;cases h
 ·rw[this]at h;cases h
 ·rw[this]at h;cases h
 ·rcases h with⟨_,_,h⟩|⟨_,h⟩|⟨_,_,_,h⟩<;>(rw[this]at h;cases h)
def IA(k:Rel ρ H w){b:Builtin}{ts:List TypeId}{j:List aa}{v:aa}{xs:List Value}(h:a6 P H b ts j=D v)(f:bj ρ j xs)(ty:TypeId)(cs:Array Bool):
  ∃x,(builtin b ts.toArray ty cs xs.toArray).run P w= .ok (.value x) w/\bb ρ v x:=by
 unfold a6 at h;split at h
 ·cases f with|cons _ x _ _ d e=>
  cases e;obtain⟨r,a,c⟩:=Pj k ty h d;exact⟨r,fs a,c⟩
 ·cases f with|cons _ x _ _ d e=>
  cases e with|cons _ y _ _ g i=>
  cases i;obtain⟨r,a,c⟩:=Po (P:=P) ts.toArray ty h d g w;exact⟨r,fs a,c⟩
 ·cases f with|cons _ x _ _ d e=>
  cases e with|cons _ y _ _ g i=>
  cases i;obtain⟨r,a,c⟩:=Pq (P:=P) ts.toArray ty h d g w;exact⟨r,fs a,c⟩
 ·cases f with|cons _ x _ _ d e=>
  cases e;obtain⟨r,a,c⟩:=O5 (P:=P) ty h d w;exact⟨r,fs a,c⟩
 ·cases h
def map_toArray{α β:Type}(f:α->β)(xs:Array α):xs.map f=(xs.toList.map f).toArray:=by cases xs;simp
def zy{aA:Oper}{c:Call}{b:Builtin}(e:aA.op= .call c)(d:c.callee= .builtin b)(w:World):
  (execOp a.eval aA).run P w=(builtin b c.argTypes aA.type (c.args.map λ | .const _=>V|_=>U) (c.args.map a.eval)).run P w:=by
 unfold execOp;rw[e];simp only[resolve,d];rfl
def PA{aA:Oper}{v:aa}(h:h9 P aA.op C=D v)(n:dE ρ C a)(w:World):∃x,(execOp a.eval aA).run P w= .ok (.value x) w/\bb ρ v x:=by
 unfold h9 at h;split at h
 ·rename_i x g;exact⟨_,by unfold execOp;rw[g];rfl,du n h⟩
 ·rename_i x g;exact⟨_,by unfold execOp;rw[g];rfl,du n h⟩
 ·rename_i c x y g;split at h
  ·rename_i t H;have j:=du n H;have o:a.eval c= .bool t:=by
    generalize a.eval c=z at j;cases j;rfl
   cases t
   ·exact⟨_,by unfold execOp;rw[g];simp only[o];rfl,du n h⟩
   ·exact⟨_,by unfold execOp;rw[g];simp only[o];rfl,du n h⟩
  ·cases h
 ·rename_i t R g;simp only[dG]at h;obtain⟨L,j,o⟩:=h;obtain⟨x,p,q⟩:=O2 o (Dm n j) w;refine⟨x,?_,q⟩;unfold execOp;rw[g];rw[<-map_toArray]at p;exact fs p
 ·rename_i x g;simp only[dG]at h;obtain⟨u,j,o⟩:=h;have e:=du n j;refine⟨a.eval x,?_,?_⟩
  ·unfold execOp;rw[g];simp only
   generalize a.eval x=z at e;unfold aL at o;split at o
   ·cases e;rfl
   ·cases e;rfl
   ·cases e;rfl
   ·cases o
  ·unfold aL at o;split at o<;>first|(simp only[a7]at o;subst o;exact e)|cases o
 ·rename_i op t x y W g;simp only[dG]at h;obtain⟨u,j,z,o,e⟩:=h;obtain⟨r,p,q⟩:=OZ e (du n j) (du n o) w;exact⟨r,by unfold execOp;rw[g];exact fs p,q⟩
 ·rename_i op t x g;simp only[dG]at h;obtain⟨u,j,e⟩:=h;obtain⟨r,p,q⟩:=PI e (du n j) w;exact⟨r,by unfold execOp;rw[g];exact fs p,q⟩
 ·rename_i s d x g;simp only[dG]at h;obtain⟨u,j,e⟩:=h;obtain⟨r,p,q⟩:=O7 e (du n j) w;exact⟨r,by unfold execOp;rw[g];exact fs p,q⟩
 ·rename_i t x g;simp only[dG]at h;obtain⟨u,j,e⟩:=h;have A:=du n j;unfold jF at e;split at e
  ·cases e
  ·rename_i d F hu;simp only[a7]at e;subst e;refine⟨.iface t (a.eval x),?_,.iface _ _ _ A⟩;unfold execOp;rw[g];refine fs ?_;unfold Instr.makeInterface;simp only[Sem.run_bind,run_underlying hu,Result.andThen_ok];cases d<;>first|rfl|exact absurd rfl (F _)
  ·cases e
 ·rename_i fn f c g;simp only[dG,a7]at h;obtain⟨G,j,cs,o,rfl⟩:=h;refine⟨_,?_,.func fn G cs _ _ (mC n j) (mC n o)⟩;unfold execOp;rw[g];rw[<-map_toArray,<-map_toArray];rfl
 ·rename_i t x O N Q g;simp only[dG]at h;obtain⟨u,j,l,o,k,e,m,A,B⟩:=h;obtain⟨r,p,q⟩:=PF B (du n j) (Dq n o) (Dq n e) (Dq n A) w;exact⟨r,by unfold execOp;rw[g];exact fs p,q⟩
 ·rename_i t x f g;simp only[dG]at h;obtain⟨u,j,e⟩:=h;obtain⟨r,p,q⟩:=Pe e (du n j) w;exact⟨r,by unfold execOp;rw[g];exact fs p,q⟩
 ·rename_i t x f g;simp only[dG]at h;obtain⟨u,j,e⟩:=h;obtain⟨r,p,q⟩:=Pf e (du n j) w;exact⟨r,by unfold execOp;rw[g];exact fs p,q⟩
 ·rename_i t x i g;simp only[dG]at h;obtain⟨u,j,z,o,e⟩:=h;obtain⟨r,p,q⟩:=Pg e (du n j) (du n o) w;exact⟨r,by unfold execOp;rw[g];exact fs p,q⟩
 ·rename_i t x i g;simp only[dG]at h;obtain⟨u,j,z,o,e⟩:=h;obtain⟨r,p,q⟩:=Ph e (du n j) (du n o) w;exact⟨r,by unfold execOp;rw[g];exact fs p,q⟩
 ·rename_i x i g;simp only[dG]at h;obtain⟨u,j,e⟩:=h;obtain⟨r,p,q⟩:=Pc e (du n j) w;exact⟨r,by unfold execOp;rw[g];exact fs p,q⟩
 ·rename_i x T t ok g;simp only[dG]at h;obtain⟨u,j,e⟩:=h;have A:=du n j;unfold p0 at e;split at e
  ·rename_i d S;split at e
   ·rename_i E;obtain⟨rfl,rfl⟩:=E;generalize he:a.eval x=z at A;cases A with|iface _ _ M B=>
    split at e
    ·cases e
    ·rename_i K F hu;simp only[a7]at e;subst e;refine⟨M,?_,B⟩;unfold execOp;rw[g];refine fs ?_;rw[he];unfold Instr.typeAssert;simp only[Sem.run_bind,run_underlying hu,Result.andThen_ok];cases K<;>first|exact absurd rfl (F _)|simp
    ·cases e
   ·cases e
  ·cases e
 ·rename_i c g;split at h
  ·rename_i b E;simp only[dG]at h;obtain⟨L,j,o⟩:=h;obtain⟨x,p,q⟩:=IA (Rel.empty ρ w 0) o (mC n j) aA.type (c.args.map λ | .const _=>V|_=>U);refine⟨x,?_,q⟩;rw[zy g E,map_toArray a.eval];simpa using p
  ·cases h
 ·cases h
def ho(P:Program)(aA:Op)(C:a8)(H:af):Option aa:=
 match aA with
 | .load t x=>(br C x).bind (ah P H t)
 | .lookup t x k ok=>(br C x).bind λu=>(br C k).bind λv=>iG P H t u v ok
 | .convert s d x=>(br C x).bind (p3 P H s d)
 | .call c=>match c.callee with
  | .builtin b=>(ht C c.args.toList).bind (a6 P H b c.argTypes.toList)
  |_=>Y
 |_=>Y
def PC(m:Rel ρ H w){aA:Oper}{v:aa}(h:ho P aA.op C H=D v)(l:dE ρ C a):∃x,(execOp a.eval aA).run P w= .ok (.value x) w/\bb ρ v x:=by
 unfold ho at h;split at h
 ·rename_i t x i;simp only[dG]at h;obtain⟨u,g,j⟩:=h;obtain⟨r,e,f⟩:=Dd m j (du l g);exact⟨r,by unfold execOp;rw[i];exact fs e,f⟩
 ·rename_i t x k ok i;simp only[dG]at h;obtain⟨u,g,z,n,j⟩:=h;obtain⟨r,e,f⟩:=Pk m j (du l g) (du l n);exact⟨r,by unfold execOp;rw[i];exact fs e,f⟩
 ·rename_i s d x i;simp only[dG]at h;obtain⟨u,g,j⟩:=h;obtain⟨r,e,f⟩:=O3 m j (du l g);exact⟨r,by unfold execOp;rw[i];exact fs e,f⟩
 ·rename_i c i;split at h
  ·rename_i b o;simp only[dG]at h;obtain⟨p,g,n⟩:=h;obtain⟨x,e,f⟩:=IA m n (mC l g) aA.type (c.args.map λ | .const _=>V|_=>U);refine⟨x,?_,f⟩;rw[zy i o,map_toArray a.eval];simpa using e
  ·cases h
 ·cases h
def mz(P:Program)(aA:Op)(C:a8)(H:af):Option (aa×af):=
 match aA with
 | .alloc t=>xw P H t
 | .box t x=>(br C x).bind (nz (oJ P t) H)
 | .buildSlice t n a=>(iH C a.toList).bind (p2 P H t n)
 | .makeMap _ Y=>D (De H)
 | .makeSlice t l c=>(br C l).bind λu=>(br C c).bind λv=>gu P H t u v
 |_=>Y
def Ps(m:Rel ρ H w)(o:ρ H.next=Y){aA:Oper}{v:aa}{H':af}(h:mz P aA.op C H=D (v,H'))(p:dE ρ C a):
  ∃x b d,(execOp a.eval aA).run P w= .ok (.value x) b/\bb d v x/\Step ρ H w d H' b:=by
 unfold mz at h;split at h
 ·rename_i t i;obtain⟨r,b,d,e,f,g⟩:=OX m o h;exact⟨r,b,d,by unfold execOp;rw[i];exact fs e,f,g⟩
 ·rename_i t x i;simp only[dG]at h;obtain⟨u,j,k⟩:=h;obtain⟨r,b,d,e,f,g⟩:=Iy (P:=P) m o k (du p j) t (λy h=>Nr h);exact⟨r,b,d,by unfold execOp;rw[i];exact fs e,f,g⟩
 ·rename_i t n s i;simp only[dG]at h;obtain⟨u,j,k⟩:=h;obtain⟨r,b,d,e,f,g⟩:=O0 m o k (Dm p j);refine⟨r,b,d,?_,f,g⟩;unfold execOp;rw[i];rw[<-map_toArray]at e;exact fs e
 ·rename_i t i;simp only[a7]at h;obtain⟨r,b,d,e,f,g⟩:=Pl (P:=P) m o t;rw[h]at f g;exact⟨r,b,d,by unfold execOp;rw[i];exact fs e,f,g⟩
 ·rename_i t l c i;simp only[dG]at h;obtain⟨u,j,z,q,k⟩:=h;obtain⟨r,b,d,e,f,g⟩:=Pn m o k (du p j) (du p q);exact⟨r,b,d,by unfold execOp;rw[i];exact fs e,f,g⟩
 ·cases h
def an.jJ:an->Bool
 | .row U _ _=>V
 | .map _=>V
 | .dp _ _ _=>V
 |_=>U
def an.jJ.ro{b:an}(h:b.jJ=V):b.qh=false:=by
 cases b with
 |row ro e s=>cases ro<;>first|rfl|cases h
 |map es=>rfl
 |dp t e s=>rfl
 |dead=>rfl
def fP(r:Option (aa×af))(l:Nat):Option (aa×an):=
 match r with
 |some (v,H')=>if H'.next=l+1 then(match H'.get l with
  |some b=>if b.jJ then D (v,b)else Y
  |none=>Y)else Y
 |none=>Y
def iQ(P:Program)(aA:Op)(C:a8)(l:Nat):Option (aa×an):=fP (mz P aA C ⟨.leaf,l⟩) l
def iR(P:Program)(aA:Op)(C:a8)(H:af):Option (aa×af):=
 match aA with
 | .store t x y=>(br C x).bind λu=>(br C y).bind λv=>(aC P H t u v).map λH'=>(.tuple [],H')
 | .mapUpdate t m k x=>(br C m).bind λu=>(br C k).bind λv=>(br C x).bind λz=>(kf P H t u v z).map λH'=>(.tuple [],H')
 | .insert t m k x=>(br C m).bind λu=>(br C k).bind λv=>(br C x).bind λz=>(kf P H t u v z).map λH'=>(.tuple [],H')
 | .call c=>match c.callee,c.args.toList with
  | .builtin .append,[s,x]=>(br C s).bind λu=>(br C x).bind λv=>bx P H c.argTypes.toList u v
  | .builtin .clear,[x]=>(br C x).bind λu=>(nA P H c.argTypes.toList u).map λH'=>(.tuple [],H')
  |_,_=>Y
 |_=>Y
def Iv(x:Value):Next->Prop
 | .value y=>y=x
 | .skip=>x=undef
 |_=>False
def PN(o:Rel ρ H w){aA:Oper}{v:aa}{H':af}(h:iR P aA.op C H=D (v,H'))(F:H.next<H'.next->ρ H.next=Y)(d:dE ρ C a):
  ∃n x b p,(execOp a.eval aA).run P w= .ok n b/\Iv x n/\bb p v x/\Step ρ H w p H' b:=by
 unfold iR at h;split at h
 ·rename_i t x y j;simp only[dG,Option.map_eq_some_iff,bI]at h;obtain⟨u,g,z,l,H1,i,rfl,rfl⟩:=h;obtain⟨b,e,f⟩:=PG o i (du d g) (du d l);exact⟨.skip,undef,b,ρ,by unfold execOp;rw[j];exact Fs e,rfl,.tuple [] [] .nil,f⟩
 ·rename_i t m k x j;simp only[dG,Option.map_eq_some_iff,bI]at h;obtain⟨u,g,z,l,y,q,H1,i,rfl,rfl⟩:=h;obtain⟨b,e,f⟩:=IG o i (du d g) (du d l) (du d q);exact⟨.skip,undef,b,ρ,by unfold execOp;rw[j];exact Fs e,rfl,.tuple [] [] .nil,f⟩
 ·rename_i t m k x j;simp only[dG,Option.map_eq_some_iff,bI]at h;obtain⟨u,g,z,l,y,q,H1,i,rfl,rfl⟩:=h;obtain⟨b,e,f⟩:=IG o i (du d g) (du d l) (du d q);exact⟨.skip,undef,b,ρ,by unfold execOp;rw[j];exact Fs e,rfl,.tuple [] [] .nil,f⟩
 ·rename_i c j;split at h
  ·rename_i s x B A;simp only[dG]at h;obtain⟨u,g,z,l,i⟩:=h;obtain⟨r,b,p,e,f,E⟩:=OY o aA.type i F (du d g) (du d l);refine⟨.value r,r,b,p,?_,rfl,f,E⟩;rw[zy j B,map_toArray a.eval,A];refine fs (s:=Builtin.append_ c.argTypes aA.type _) ?_;simpa using e
  ·rename_i x B A;simp only[dG,Option.map_eq_some_iff,bI]at h;obtain⟨u,g,H1,i,rfl,rfl⟩:=h;obtain⟨b,e,f⟩:=O6 o aA.type i (du d g);refine⟨.value (.tuple #[]),.tuple #[],b,ρ,?_,rfl,.tuple [] [] .nil,f⟩;rw[zy j B,map_toArray a.eval,A];refine fs (s:=Builtin.clear_ c.argTypes aA.type _) ?_;simpa using e
  ·cases h
 ·cases h
end
section
variable {P:Program}{ρ:Env}{H:af}{w:World}{C:a8}{a:Act}
def iA(ρ:Env)(w:World)(loc:Loc):an->Prop
 | .row ro esz els=>fE ρ w loc ro esz els
 | .map es=>C5 ρ w loc es
 | .dp t esz els=>kX ρ w loc t esz els
 | .dead=>True
def iA.frame{l:Env}{k:World}{loc:Loc}{b:an}(h:iA ρ w loc b)(hle:ρ.le l)(a:k.heap[loc.block]? =w.heap[loc.block]?):iA l k loc b:=by
 cases b with
 |row ro esz els=>
  obtain⟨d,c,t,m,f,g,o⟩:=h;refine⟨d,c,t,m,by rw[a];exact f,g,λi e he=> ?_⟩;obtain⟨p,q⟩:=o i e he;refine⟨p,λj v n=> ?_⟩;obtain⟨r,x,s,u⟩:=q j v n;exact⟨r,x,s,u.mono hle⟩
 |map es=>
  obtain⟨ents,clock,d,f,g⟩:=h;exact⟨ents,clock,by rw[a];exact d,f.mono hle,g.mono hle⟩
 |dp t esz els=>exact kX.frame h hle a
 |dead=>trivial
def iA.lt{loc:Loc}{b:an}(h:iA ρ w loc b)(a:b.jJ=V):loc.block<w.heap.size:=by
 cases b with
 |row ro esz els=>obtain⟨_,c,t,f,e,_⟩:=h;exact iU e
 |map es=>obtain⟨ents,clock,d,_⟩:=h;exact iU d
 |dp t esz els=>exact h.1.lt
 |dead=>cases a
def Rel.grow{m:Env}{q:World}(h:Rel ρ H w)(hle:ρ.le m)(i:∀b,b<w.heap.size->q.heap[b]? =w.heap[b]?):Rel m H q:=by
 refine⟨λl ro esz els e=> ?_,λl es e=> ?_,λl t esz els e=> ?_,λl v loc g n o u r s=> ?_⟩
 ·obtain⟨loc,a,d⟩:=h.row l ro esz els e;refine⟨loc,hle _ _ a,?_⟩;have:=d;obtain⟨_,c,t,x,j,_⟩:=this;exact iA.frame (b:= .row ro esz els) d hle (i _ (iU j))
 ·obtain⟨loc,a,d⟩:=h.map l es e;refine⟨loc,hle _ _ a,?_⟩;have:=d;obtain⟨_,_,j,_⟩:=this;exact iA.frame (b:= .map es) d hle (i _ (iU j))
 ·obtain⟨loc,a,d⟩:=h.dp l t esz els e;exact⟨loc,hle _ _ a,d.frame hle (i _ d.1.lt)⟩
 ·have p:∀k loc,H.live k->m k=D loc->ρ k=D loc:=λk loc f e=>by
   rcases f with⟨ro,esz,els,f⟩|⟨es,f⟩|⟨t,esz,els,f⟩
   ·obtain⟨g,a,_⟩:=h.row _ _ _ _ f;rw[hle _ _ a]at e;rw[a];exact e
   ·obtain⟨g,a,_⟩:=h.map _ _ f;rw[hle _ _ a]at e;rw[a];exact e
   ·obtain⟨g,a,_⟩:=h.dp _ _ _ _ f;rw[hle _ _ a]at e;rw[a];exact e
  exact h.apart l v loc g n o u (p _ _ n.live r) (p _ _ o s)
def Rel.Ew(h:Rel ρ H w){l:Nat}(e:H.live l):∃loc,ρ l=D loc/\loc.block<w.heap.size:=by
 rcases e with⟨ro,esz,els,a⟩|⟨es,a⟩|⟨t,esz,els,a⟩
 ·obtain⟨loc,b,_,c,t,g,d,_⟩:=h.row _ _ _ _ a;exact⟨loc,b,iU d⟩
 ·obtain⟨loc,b,_,_,d,_⟩:=h.map _ _ a;exact⟨loc,b,iU d⟩
 ·obtain⟨loc,b,f⟩:=h.dp _ _ _ _ a;exact⟨loc,b,f.1.lt⟩
def Pu{aA:Oper}{l:Nat}{v:aa}{b:an}(h:iQ P aA.op C l=D (v,b))(A:dE ρ C a)(s:ρ l=Y)(w:World):
  ∃x d e loc,(execOp a.eval aA).run P w= .ok (.value x) d/\bb e v x/\ρ.le e/\(∀k,k≠l->e k=ρ k)/\e l=D loc/\w.heap.size<=loc.block/\b.jJ=V/\iA e d loc b/\
   d.os=w.os/\d.tape=w.tape/\d.output=w.output/\w.heap.size<=d.heap.size/\∀k,k<w.heap.size->d.heap[k]? =w.heap[k]? :=by
 unfold iQ fP at h;split at h
 ·rename_i F H' q;split at h
  ·rename_i z;split at h
   ·rename_i eG f;split at h
    ·rename_i g;simp only[a7,bI]at h;obtain⟨rfl,rfl⟩:=h;obtain⟨x,d,e,n,o,c⟩:=Ps (Rel.empty ρ w l) s q A;have j:∀k,¬hA ρ ⟨.leaf,l⟩ k:=by
      rintro k ⟨B,loc,p,_,_⟩;have u:(⟨.leaf,l⟩:af).get B=none:=by unfold af.get;split<;>first|exact bf.nS _|rfl
      rcases p with⟨_,_,h⟩|⟨_,h⟩|⟨_,_,_,h⟩<;>(rw[u]at h;cases h)
     have y:H'.rw l:=by
      cases eG with
      |row ro esz els=>cases ro with
       |true=>cases g
       |false=>exact .inl ⟨_,_,f⟩
      |map es=>exact .inr (.inl ⟨_,f⟩)
      |dp t esz els=>exact .inr (.inr ⟨_,_,_,f⟩)
      |dead=>cases g
     have r:∃loc,e l=D loc/\iA e d loc eG:=by
      cases eG with
      |row ro esz els=>exact c.rel.row _ _ _ _ f
      |map es=>exact c.rel.map _ _ f
      |dp t esz els=>exact c.rel.dp _ _ _ _ f
      |dead=>cases g
     obtain⟨loc,m,E⟩:=r;refine⟨x,d,e,loc,n,o,c.le,λk i=>c.hp k ?_,m,?_,g,E,c.os,c.tape,c.output,c.size,λk i=>c.frame k i (j k)⟩
     ·rw[z];show k<l\/_;omega
     ·exact(c.own loc.block ⟨l,loc,y,m,rfl⟩).resolve_left (j _)
    ·cases h
   ·cases h
  ·cases h
 ·cases h
structure e1(ρ0:Env)(bh:af)(w0:World)(N:Nat)(ib:Nat->Option an)(ρ:Env)(H:af)(w:World):Prop where
 q8:Rel ρ0 bh w0
 le:ρ0.le ρ
 next:bh.next<=H.next
 hp:∀l,l<bh.next\/N<=l->ρ l=ρ0 l
 rel:Rel ρ H w
 os:w.os=w0.os
 tape:w.tape=w0.tape
 output:w.output=w0.output
 size:w0.heap.size<=w.heap.size
 frame:∀b,b<w0.heap.size->¬hA ρ0 bh b->w.heap[b]? =w0.heap[b]?
 own:∀b,hA ρ H b->hA ρ0 bh b\/w0.heap.size<=b
 ro:∀l esz els,H.get l=some (.row true esz els)->bh.get l=some (.row true esz els)
 fresh:∀l,H.next<=l->l<N->ib l=none->ρ l=none
 iK:∀l b,ib l=some b->H.next<=l/\l<N/\b.jJ=true/\∃loc,ρ l=some loc/\iA ρ w loc b/\w0.heap.size<=loc.block/\¬hA ρ H loc.block
 sep:∀l a b eG loc c,ib l=some b->ib a=some eG->l≠a->ρ l=some loc->ρ a=some c->loc.block≠c.block
variable {ρ0:Env}{bh:af}{w0:World}{N:Nat}{ib:Nat->Option an}
def e1.start(h:Rel ρ0 bh w0)(c:Iw ρ0 bh.next N):e1 ρ0 bh w0 N (λ_=>Y) ρ0 bh w0:=
 ⟨h,ρ0.le_refl,cW _,λ_ _=>rfl,h,rfl,rfl,rfl,cW _,λ_ _ _=>rfl,λ_ h=> .inl h,λ_ _ _ h=>h,λl a b _=>c l a b,λ_ _ h=>by simp at h,λ_ _ _ _ _ _ h=>by simp at h⟩
def e1.done(m:e1 ρ0 bh w0 N ib ρ H w)(a:H.next=N):Step ρ0 bh w0 ρ H w:=
 ⟨m.le,m.next,λl b=>m.hp l (by rw[<-a];exact b),m.rel,m.os,m.tape,m.output,m.size,m.frame,m.own,m.ro⟩
def e1.step{v:Env}{H':af}{u:World}(m:e1 ρ0 bh w0 N ib ρ H w)(s:Step ρ H w v H' u)(y:H'.next<=N)(B:∀l b,ib l=D b->H'.next<=l):e1 ρ0 bh w0 N ib v H' u where
 q8:=m.q8
 le:=Env.le_trans m.le s.le
 next:=Nat.le_trans m.next s.next
 hp:=λl k=>(s.hp l (k.imp (λh=>Nat.lt_of_lt_of_le h m.next) (λh=>Nat.le_trans y h))).trans (m.hp l k)
 rel:=s.rel
 os:=s.os.trans m.os
 tape:=s.tape.trans m.tape
 output:=s.output.trans m.output
 size:=Nat.le_trans m.size s.size
 frame:=λb f n=>by
  rw[s.frame b (Nat.lt_of_lt_of_le f m.size) (λd=>(m.own b d).elim n (λhle=>bn)),m.frame b f n]
 own:=λb f=>(s.own b f).elim (λd=>m.own b d) (λhle=> .inr (Nat.le_trans m.size hle))
 ro:=λl esz els e=>m.ro l esz els (s.ro l esz els e)
 fresh:=λl a b c=>by rw[s.hp l (.inr a)];exact m.fresh l (Nat.le_trans s.next a) b c
 iK:=λl b h=>by
  obtain⟨L,C,p,loc,g,q,E,r⟩:=m.iK l b h;have z:=q.lt p;refine⟨B l b h,C,p,loc,s.le _ _ g,q.frame s.le (s.frame _ z r),E,λd=> ?_⟩;rcases s.own _ d with h|h
  ·exact r h
  ·omega
 sep:=λl o b eG loc F h bA A e x=>by
  obtain⟨_,_,_,G,g,_⟩:=m.iK l b h;obtain⟨_,_,_,K,t,_⟩:=m.iK o eG bA;have i:=s.le _ _ g;rw[e]at i;cases i;have j:=s.le _ _ t;rw[x]at j;cases j;exact m.sep l o b eG _ _ h bA A g t
def e1.early{o:Env}{n:World}{l:Nat}{b:an}{loc:Loc}(m:e1 ρ0 bh w0 N ib ρ H w)(O:H.next<=l)(K:l<N)(ae:ib l=Y)
  (hle:ρ.le o) (t:∀k,k≠l->o k=ρ k) (z:o l=D loc) (M:w.heap.size<=loc.block) (T:b.jJ=V) (L:iA o n loc b) (Q:n.os=w.os) (aa:n.tape=w.tape) (R:n.output=w.output)
  (W:w.heap.size<=n.heap.size) (y:∀k,k<w.heap.size->n.heap[k]? =w.heap[k]?):e1 ρ0 bh w0 N (λk=>if k=l then D b else ib k) o H n:=by
 have hold:∀k f,H.live k->o k=D f->ρ k=D f:=λk f t e=>by
  obtain⟨F,j,_⟩:=m.rel.Ew t;have:=hle _ _ j;rw[e]at this;cases this;exact j
 have B:∀k,hA o H k->hA ρ H k:=by
  rintro k ⟨E,f,a,c,i⟩;exact⟨E,f,a,hold _ _ a.live c,i⟩
 have S:∀k,hA ρ H k->k<w.heap.size:=by
  rintro k ⟨E,f,a,c,i⟩;obtain⟨F,j,C⟩:=m.rel.Ew a.live;rw[c]at j;cases j;rw[<-i];exact C
 refine⟨m.q8,Env.le_trans m.le hle,m.next,λk h=> ?_,m.rel.grow hle y,Q.trans m.os,aa.trans m.tape,R.trans m.output,Nat.le_trans m.size W,λk a c=> ?_,
  λk h=>m.own k (B k h),m.ro,λk a c i=> ?_,λk eG h=> ?_,λk r v x F af h bA P e s=> ?_⟩
 ·rw[t k (by have:=m.next;omega)];exact m.hp k h
 ·rw[y k (Nat.lt_of_lt_of_le a m.size)];exact m.frame k a c
 ·by_cases d:k=l
  ·subst d;simp at i
  ·simp only[d,if_false]at i;rw[t k d];exact m.fresh k a c i
 ·by_cases d:k=l
  ·subst d;simp only[if_true,a7]at h;subst h;exact⟨O,K,T,loc,z,L,Nat.le_trans m.size M,λA=>by have:=S _ (B _ A);omega⟩
  ·simp only[d,if_false]at h;obtain⟨j,C,p,f,g,q,ab,ad⟩:=m.iK k eG h;exact⟨j,C,p,f,hle _ _ g,q.frame hle (y _ (q.lt p)),ab,λA=>ad (B _ A)⟩
 ·by_cases d:k=l
  ·by_cases u:r=l
   ·omega
   ·subst d;simp only[u,if_false]at bA;obtain⟨_,_,p,f,g,q,_,_⟩:=m.iK r x bA;have:=hle _ _ g;rw[s]at this;cases this;rw[z]at e;cases e;have:=q.lt p;omega
  ·by_cases u:r=l
   ·subst u;simp only[d,if_false]at h;obtain⟨_,_,p,f,g,q,_,_⟩:=m.iK k v h;have:=hle _ _ g;rw[e]at this;cases this;rw[z]at s;cases s;have:=q.lt p;omega
   ·simp only[d,if_false]at h;simp only[u,if_false]at bA;obtain⟨_,_,_,ah,g,_⟩:=m.iK k v h;obtain⟨_,_,_,ai,G,_⟩:=m.iK r x bA;have a:=hle _ _ g;rw[e]at a;cases a;have c:=hle _ _ G;rw[s]at c;cases c;exact m.sep k r v x _ _ h bA P g G
def e1.OA{b:an}(m:e1 ρ0 bh w0 N ib ρ H w)(A:ib H.next=D b):e1 ρ0 bh w0 N (λk=>if k=H.next then Y else ib k) ρ (H.push b) w:=by
 obtain⟨_,aa,O,loc,i,v,P,Q⟩:=m.iK _ _ A;have x:∀k,(H.push b).rw k->k≠H.next->H.rw k:=λk h c=>by simpa [af.rw,af.fL c]using h
 have B:∀k,(H.push b).live k->k≠H.next->H.live k:=λk h c=>by simpa [af.live,af.fL c]using h
 have y:∀k f,H.live k->ρ k=D f->f.block≠loc.block:=by
  intro k f c e heq;by_cases u:H.rw k
  ·exact Q ⟨k,f,u,e,heq⟩
  ·rcases c with⟨ro,esz,els,c⟩|c
   ·cases ro with
    |false=>exact u (.inl ⟨_,_,c⟩)
    |true=>
     have L:=m.ro _ _ _ c;obtain⟨ab,C,E⟩:=m.q8.Ew (.inl ⟨_,_,_,L⟩);have:=m.le _ _ C;rw[e]at this;cases this;omega
   ·exact u (.inr c)
 have z:∀k,hA ρ (H.push b) k->hA ρ H k\/k=loc.block:=by
  rintro k ⟨d,f,r,n,o⟩;by_cases a:d=H.next
  ·subst a;rw[i]at n;cases n;exact .inr o.symm
  ·exact .inl ⟨d,f,x _ r a,n,o⟩
 refine⟨m.q8,m.le,by have:=m.next;simp;omega,m.hp,⟨λl ro esz els h=> ?_,λl es h=> ?_,λl t esz els h=> ?_,λl d p q h bA s e j=> ?_⟩,m.os,m.tape,m.output,m.size,m.frame,
  λk h=> ?_,λl esz els h=>m.ro l esz els (af.Fm (an.jJ.ro O) l esz els h),λl r n o=> ?_,λl eG h=> ?_,λl d G K p q h bA s e j=> ?_⟩
 ·by_cases a:l=H.next
  ·subst a;rw[af.hv]at h;simp only[a7]at h;subst h;exact⟨loc,i,v⟩
  ·rw[af.fL a]at h;exact m.rel.row _ _ _ _ h
 ·by_cases a:l=H.next
  ·subst a;rw[af.hv]at h;simp only[a7]at h;subst h;exact⟨loc,i,v⟩
  ·rw[af.fL a]at h;exact m.rel.map _ _ h
 ·by_cases a:l=H.next
  ·subst a;rw[af.hv]at h;simp only[a7]at h;subst h;exact⟨loc,i,v⟩
  ·rw[af.fL a]at h;exact m.rel.dp _ _ _ _ h
 ·by_cases a:l=H.next
  ·by_cases g:d=H.next
   ·omega
   ·subst a;rw[i]at e;cases e;exactλheq=>y d q (B _ bA g) j heq.symm
  ·by_cases g:d=H.next
   ·subst g;rw[i]at j;cases j;exact y l p (x _ h a).live e
   ·exact m.rel.apart l d p q (x _ h a) (B _ bA g) s e j
 ·rcases z k h with h|rfl
  ·exact m.own k h
  ·exact .inr P
 ·simp only[af.jP]at r;have a:l≠H.next:=bn
  simp only[a,if_false]at o;exact m.fresh l bn n o
 ·by_cases a:l=H.next
  ·simp[a]at h
  ·simp only[a,if_false]at h;obtain⟨C,E,R,f,F,S,T,W⟩:=m.iK l eG h;refine⟨by simp;omega,E,R,f,F,S,T,λM=> ?_⟩;rcases z _ M with bA|bA
   ·exact W bA
   ·exact m.sep l H.next eG b f loc h A a F i bA
 ·by_cases a:l=H.next
  ·simp[a]at h
  ·by_cases g:d=H.next
   ·simp[g]at bA
   ·simp only[a,if_false]at h;simp only[g,if_false]at bA;exact m.sep l d G K p q h bA s e j
end
def nD(P:Program)(H:af)(r:aa)(name:String):Option (Nat×aa):=
 match r with
 | .iface t v=>(match P.info? t with
  |some i=>(match i.methods.find? (·.name==name)with
   |some m=>(match m.path.toList,m.func,P.underlying t with
    |[],D (f,V),D (.pointer _)=>D (f,v)
    |[],D (f,U),D (.pointer e)=>(match v with
     | .ptr .. =>(ah P H e v).bind λu=>D (f,u)
     |_=>Y)
    |_,_,_=>Y)
   |none=>Y)
  |none=>Y)
 |_=>Y
def N5{P:Program}{w:World}{n:Nat}{t:TypeId}{v:Value}{name:String}{i:TypeInfo}{m:Method}{f:FuncId}{b:Bool}(d:P.info? t=D i)(hm:i.methods.find? (·.name==name)=D m)(a:m.path.toList=[])(c:m.func=D (f,b)){x:Value}
  (h:(receiverAt t (.val v) b (D ((name.splitOn ".").getLastD name))).run P w= .ok x w):(method (n+1) t v name).run P w= .ok (f,x) w:=by
 have e:m.path.isEmpty=true:=by simpa using a
 have g:(typeInfo t).run P w= .ok i w:=by simp[typeInfo,d]
 unfold method;simp only[Sem.run_bind,g,Result.andThen_ok,hm,a,follow,Sem.run_pure,c,e,if_true,h]
def Pp{P:Program}{ρ:Env}{H:af}{w:World}(A:Rel ρ H w){r u:aa}{cS:Value}{name:String}{f:Nat}(h:nD P H r name=D (f,u))(B:bb ρ r cS)(args:Array Value):
  ∃o,bb ρ u o/\(callMethod cS name args).run P w=(callFunc f (#[o]++args)).run P w:=by
 unfold nD at h;split at h
 ·rename_i t v;cases B with|iface _ _ p d=>
  split at h
  ·rename_i i k;split at h
   ·rename_i m hm;have g:P.types.size+Made.depth=(P.types.size+99)+1:=rfl;split at h
    ·rename_i b a hu;simp only[a7,bI]at h;obtain⟨rfl,rfl⟩:=h;refine⟨p,d,?_⟩;simp only[callMethod,Sem.run_bind,run_program,Result.andThen_ok,g];rw[N5 (x:=p) k hm b a (by simp only[receiverAt,Sem.run_bind,run_underlying hu,Result.andThen_ok,Place.get,Sem.run_pure])];rfl
    ·rename_i e b a hu;split at h
     ·rename_i l j c;simp only[dG,a7,bI]at h;obtain⟨F,z,rfl,rfl⟩:=h;obtain⟨x,q,s⟩:=Dd A z d;cases d with|ptr _ _ _ loc E=>
      refine⟨x,s,?_⟩;have y:(loadVar e ⟨loc.block,loc.off+j*loc.esz+c,Y⟩).run P w= .ok x w:=by simpa [Instr.loadAt,Instr.sureAddr]using q
      have C:∀n:String,(Builtin.ssaWrapNilChk_ #[t] t #[.pointer (D ⟨loc.block,loc.off+j*loc.esz+c,Y⟩),strVal "",strVal n]).run P w= .ok (.pointer (D ⟨loc.block,loc.off+j*loc.esz+c,Y⟩)) w:=λn=>rfl
      simp only[callMethod,Sem.run_bind,run_program,Result.andThen_ok,g];rw[N5 (x:=x) k hm b a (by simp only[receiverAt,Sem.run_bind,run_underlying hu,Result.andThen_ok,Place.get,Sem.run_pure,C,asAddr,y])];rfl
     ·cases h
    ·cases h
   ·cases h
  ·cases h
 ·cases h
def kd(P:Program)(H:af)(C:a8)(c:Call):Option (Nat×List aa):=
 match c.callee with
 | .value f=>match br C f with
  |some (.func (.func g) first captured)=>match ht C c.args.toList with
   |some a=>D (g,first++a++captured)
   |none=>Y
  |_=>Y
 | .invoke r name=>match br C r with
  |some v=>match nD P H v name,ht C c.args.toList with
   |some (g,u),D a=>D (g,u::a)
   |_,_=>Y
  |none=>Y
 |_=>Y
inductive K where
 |skip
 |pure (v:aa)
 |read (v:aa)
 |new (v:aa) (b:an)
 |bs (v:aa) (H:af)
def K.val:K->aa
 | .skip=> .tuple []
 | .pure v=>v
 | .read v=>v
 | .new v _=>v
 | .bs v _=>v
def K.heap(H:af):K->af
 | .new _ b=>H.push b
 | .bs _ H'=>H'
 |_=>H
def K.eH:K->Bool
 | .new _ _=>V
 | .bs _ _=>V
 |_=>U
abbrev ai:=Nat->List aa->af->Option (aa×af)
def ky:Option aa->Option K
 |some v=>D (.pure v)
 |none=>Y
def j4:Option aa->Option K
 |some v=>D (.read v)
 |none=>Y
def zc:Option (aa×an)->Option K
 |some (v,b)=>D (.new v b)
 |none=>Y
def jw(H:af):Option (aa×af)->Option K
 |some (v,H')=>if H.next<=H'.next then D (.bs v H')else Y
 |none=>Y
inductive OL where
 |pure|read|both|new|write|call
def cls:Op->OL
 | .load .. => .read
 | .lookup .. => .read
 | .alloc _=> .new
 | .box .. => .new
 | .buildSlice .. => .new
 | .makeMap .. => .new
 | .makeSlice .. => .new
 | .store .. => .write
 | .mapUpdate .. => .write
 | .insert .. => .write
 | .convert .. => .both
 | .call c=>match c.callee with
  | .builtin .append=> .write
  | .builtin .clear=> .write
  | .builtin _=> .both
  |_=> .call
 |_=> .pure
def h4(P:Program)(call:ai)(aA:Op)(C:a8)(H:af):Option K:=
 match cls aA with
 | .pure=>ky (h9 P aA C)
 | .read=>j4 (ho P aA C H)
 | .both=>match h9 P aA C with
  |some v=>D (.pure v)
  |none=>j4 (ho P aA C H)
 | .new=>zc (iQ P aA C H.next)
 | .write=>jw H (iR P aA C H)
 | .call=>match aA with
  | .call c=>match kd P H C c with
   |some (g,a)=>jw H (call g a H)
   |none=>Y
  |_=>Y
def mI(aA:Op):Bool:=match cls aA with
 | .new=>V
 | .write=>V
 | .call=>V
 |_=>U
def aq4{P:Program}{call:ai}{aA:Op}{C:a8}{H:af}{k:K}(h:h4 P call aA C H=D k)(b:k.eH=V):mI aA=true:=by
 unfold h4 at h;unfold mI;split at h
 ·unfold ky at h;split at h
  ·simp only[a7]at h;subst h;cases b
  ·cases h
 ·unfold j4 at h;split at h
  ·simp only[a7]at h;subst h;cases b
  ·cases h
 ·split at h
  ·simp only[a7]at h;subst h;cases b
  ·unfold j4 at h;split at h
   ·simp only[a7]at h;subst h;cases b
   ·cases h
 ·rename_i a;rw[a]
 ·rename_i a;rw[a]
 ·rename_i a;rw[a]
def kb(P:Program)(call:ai)(aA:Op)(C:a8)(H:af):K->Prop
 | .skip=>False
 | .pure v=>h9 P aA C=D v
 | .read v=>ho P aA C H=D v
 | .new v b=>iQ P aA C H.next=D (v,b)
 | .bs v H'=>H.next<=H'.next/\(iR P aA C H=D (v,H')\/∃c g a,aA= .call c/\kd P H C c=D (g,a)/\call g a H=D (v,H'))
def aq6{P:Program}{call:ai}{aA:Op}{C:a8}{H:af}{k:K}(h:h4 P call aA C H=D k):kb P call aA C H k:=by
 unfold h4 at h;split at h
 ·unfold ky at h;split at h
  ·rename_i v a;simp only[a7]at h;subst h;exact a
  ·cases h
 ·unfold j4 at h;split at h
  ·rename_i v a;simp only[a7]at h;subst h;exact a
  ·cases h
 ·split at h
  ·rename_i v a;simp only[a7]at h;subst h;exact a
  ·unfold j4 at h;split at h
   ·rename_i v a;simp only[a7]at h;subst h;exact a
   ·cases h
 ·unfold zc at h;split at h
  ·rename_i v b a;simp only[a7]at h;subst h;exact a
  ·cases h
 ·unfold jw at h;split at h
  ·rename_i v H' a;split at h
   ·rename_i d;simp only[a7]at h;subst h;exact⟨d,.inl a⟩
   ·cases h
  ·cases h
 ·split at h
  ·rename_i c _;split at h
   ·rename_i g f e;unfold jw at h;split at h
    ·rename_i v H' a;split at h
     ·rename_i d;simp only[a7]at h;subst h;exact⟨d,.inr ⟨c,g,f,rfl,e,a⟩⟩
     ·cases h
    ·cases h
   ·cases h
  ·cases h
section congr
variable {P:Program}{C a2:a8}
def mB:∀{xs:List Operand},(∀x∈xs,br C x=br a2 x)->ht C xs=ht a2 xs
 |[],_=>rfl
 |x::xs,h=>by
  simp only[ht,h x (by simp),mB (xs:=xs) λy a=>h y (by simp[a])]
def Dl:∀{xs:List (Nat×Operand)},(∀x∈xs.map (·.2),br C x=br a2 x)->iH C xs=iH a2 xs
 |[],_=>rfl
 |(i,x)::xs,h=>by
  simp only[iH,h x (by simp),Dl (xs:=xs) λy a=>h y (by simp at a ⊢;exact .inr a)]
def Dp{x:Option Operand}(h:∀y,x=D y->br C y=br a2 y):jG C x=jG a2 x:=by
 cases x with
 |none=>rfl
 |some x=>simp only[jG,h x rfl]
def Pz{aA:Op}(h:∀x∈aA.operands,br C x=br a2 x):h9 P aA C=h9 P aA a2:=by
 cases aA<;>simp only[h9,Op.operands]at h ⊢ <;>first
  |rfl
  |(simp at h;simp[h];done)
  |skip
 ·rename_i t k;rw[Dl λx a=>h x (by simpa using a)]
 ·rename_i fn f c;rw[mB λx a=>h x (by simp at a ⊢;exact .inl a),mB (xs:=c.toList) λx a=>h x (by simp at a ⊢;exact .inr a)]
 ·rename_i t x i g j;rw[h x (by simp),Dp (x:=i) λy d=>h y (by simp[d]),Dp (x:=g) λy d=>h y (by simp[d]),Dp (x:=j) λy d=>h y (by simp[d])]
 ·rename_i c;cases e:c.callee with
  |builtin b=>
   simp only[Call.operands,e]at h ⊢;rw[mB λx a=>h x (by simpa using a)]
  |value f=>rfl
  |invoke r m=>rfl
def IP{aA:Op}{H:af}(h:∀x∈aA.operands,br C x=br a2 x):ho P aA C H=ho P aA a2 H:=by
 cases aA<;>simp only[ho,Op.operands]at h ⊢ <;>first
  |rfl
  |(simp at h;simp[h];done)
  |skip
 ·rename_i c;cases a:c.callee with
  |builtin b=>
   simp only[Call.operands,a]at h ⊢;rw[mB λx d=>h x (by simpa using d)]
  |value f=>rfl
  |invoke r m=>rfl
def Pr{aA:Op}{H:af}(h:∀x∈aA.operands,br C x=br a2 x):mz P aA C H=mz P aA a2 H:=by
 cases aA<;>simp only[mz,Op.operands]at h ⊢ <;>first
  |rfl
  |(simp at h;simp[h];done)
  |skip
 ·rename_i t n b;rw[Dl λx a=>h x (by simpa using a)]
 ·rename_i t r;cases r<;>rfl
def Pt{aA:Op}{l:Nat}(h:∀x∈aA.operands,br C x=br a2 x):iQ P aA C l=iQ P aA a2 l:=by
 unfold iQ;rw[Pr h]
def PM{aA:Op}{H:af}(h:∀x∈aA.operands,br C x=br a2 x):iR P aA C H=iR P aA a2 H:=by
 cases aA<;>simp only[iR,Op.operands]at h ⊢ <;>first
  |rfl
  |(simp at h;simp[h];done)
  |skip
 ·rename_i c;cases g:c.callee with
  |builtin b=>
   simp only[Call.operands,g]at h ⊢;cases d:c.args.toList with
   |nil=>cases b<;>rfl
   |cons s r=>
    cases r with
    |nil=>
     have a:s∈c.args.toList:=by simp[d]
     cases b<;>first
      |rfl
      |(simp only;rw[h s (by simpa using a)])
    |cons x r=>
     cases r with
     |nil=>
      have a:s∈c.args.toList:=by simp[d]
      have e:x∈c.args.toList:=by simp[d]
      cases b<;>first
       |rfl
       |(simp only;rw[h s (by simpa using a),h x (by simpa using e)])
     |cons y r=>cases b<;>rfl
  |value f=>rfl
  |invoke r m=>rfl
def O4{c:Call}{H:af}(h:∀x∈c.operands,br C x=br a2 x):kd P H C c=kd P H a2 c:=by
 unfold kd;cases d:c.callee with
 |builtin b=>rfl
 |value f=>
  simp only[Call.operands,d]at h ⊢;rw[h f (by simp),mB λx a=>h x (by simp at a ⊢;exact .inr a)]
 |invoke r m=>
  simp only[Call.operands,d]at h ⊢;rw[h r (by simp),mB λx a=>h x (by simp at a ⊢;exact .inr a)]
def kb.congr{call:ai}{aA:Op}{H:af}{k:K}(h:∀x∈aA.operands,br C x=br a2 x)(a:kb P call aA C H k):kb P call aA a2 H k:=by
 cases k with
 |skip=>exact a
 |pure v=>exact(Pz h).symm.trans a
 |read v=>exact(IP h).symm.trans a
 |new v b=>exact(Pt h).symm.trans a
 |bs v H'=>
  obtain⟨e,d|⟨c,g,i,rfl,d,f⟩⟩:=a
  ·exact⟨e,.inl ((PM h).symm.trans d)⟩
  ·exact⟨e,.inr ⟨c,g,i,rfl,(O4 h).symm.trans d,f⟩⟩
end congr
def kY(P:Program)(m:Sem Next)(w:World)(next:Value->World->Prop):Prop:=
 match m.run P w with
 | .ok (.value x) a=>next x a
 | .ok (.enter f args) a=>Calls P f args a λ
  | .returned x,b=>next x b
  |_,_=>False
 |_=>False
def eM(E:Env)(P:Program)(g:Nat)(args:List aa)(H:af)(v:aa)(H':af):Prop:=∀(ρ:Env) (w:World) (xs:List Value),Rel ρ H w->hE E ρ H.next H'.next->bj ρ args xs->H.next<=H'.next->∀next:Value->World->Prop,(∀x a b,bb b v x->Step ρ H w b H' a->next x a)->kY P (callFunc g xs.toArray) w next
def aZ(E:Env)(P:Program)(call:ai):Prop:=∀g args H v H',call g args H=D (v,H')->eM E P g args H v H'
section
variable {E:Env}{P:Program}{call:ai}{ρ:Env}{H H':af}{w:World}{C:a8}{a:Act}{aA:Oper}{v:aa}{ik:Act->World->Prop}{Q:Exit->Act->World->Prop}
def NR(h:h9 P aA.op C=D v)(e:dE ρ C a)(d:∀x,bb ρ v x->ik (a.put aA.dst x) w):aA.wp P a w ik Q:=by
 obtain⟨x,b,c⟩:=PA h e w;unfold Oper.wp;rw[b];exact d x c
def NZ(d:Rel ρ H w)(h:ho P aA.op C H=D v)(f:dE ρ C a)(e:∀x,bb ρ v x->ik (a.put aA.dst x) w):aA.wp P a w ik Q:=by
 obtain⟨x,b,c⟩:=PC d h f;unfold Oper.wp;rw[b];exact e x c
def Np{l:Nat}{b:an}(h:iQ P aA.op C l=D (v,b))(z:dE ρ C a)(u:ρ l=Y)
  (y:∀x c d loc,bb d v x->ρ.le d->(∀k,k≠l->d k=ρ k)->d l=D loc->w.heap.size<=loc.block->b.jJ=V->iA d c loc b->
   c.os=w.os->c.tape=w.tape->c.output=w.output->w.heap.size<=c.heap.size->(∀k,k<w.heap.size->c.heap[k]? =w.heap[k]?)->ik (a.put aA.dst x) c):aA.wp P a w ik Q:=by
 obtain⟨x,c,d,loc,e,m,n,o,p,q,r,s,t,f,g,i,j⟩:=Pu h z u w;unfold Oper.wp;rw[e];exact y x c d loc m n o p q r s t f g i j
def I_(T:aZ E P call)(p:Rel ρ H w)(F:hE E ρ H.next H'.next)(h:kb P call aA.op C H (.bs v H'))(m:dE ρ C a)
  (q:∀x d j,bb j v x->Step ρ H w j H' d->ik (a.put aA.dst x) d):aA.wp P a w ik Q:=by
 obtain⟨W,y|⟨c,g,al,S,b,R⟩⟩:=h
 ·obtain⟨n,x,d,j,ab,k,N,O⟩:=PN p y (F.new _ (cW _)) m;unfold Oper.wp;rw[ab];unfold Iv at k;split at k
  ·subst k;exact q _ d j N O
  ·subst k;exact q _ d j N O
  ·exact k.elim
 ·unfold kd at b;split at b
  ·rename_i f B;split at b
   ·rename_i t first captured af
    split at b
    ·rename_i aj K;simp only[a7,bI]at b;obtain⟨rfl,rfl⟩:=b;have o:=du m af;have A:=mC m K;generalize he:a.eval f=z at o;cases o with|func _ _ _ ad aa L M=>
     have i:=T _ _ _ _ _ R ρ w _ p F ((L.append A).append M) W (λx d=>ik (a.put aA.dst x) d) (λx d j=>q x d j);have G:(execOp a.eval aA).run P w=(callFunc t ((ad++c.args.toList.map a.eval++aa).toArray)).run P w:=by
      unfold execOp;rw[S];simp only[resolve,B,he,Deferred.ofValue,pure_bind,invoke]
      congr 2
      rw[map_toArray a.eval];simp
     unfold Oper.wp;rw[G];unfold kY at i;split at i
     ·rename_i e;rw[e];exact i
     ·rename_i e;rw[e];refine Calls.mono i λs ak l=> ?_
      cases s<;>first|exact l|exact l.elim
     ·exact i.elim
    ·cases b
   ·cases b
  ·rename_i r name B;split at b
   ·rename_i v0 ah;split at b
    ·rename_i t u aj hm K;simp only[a7,bI]at b;obtain⟨rfl,rfl⟩:=b;have o:=du m ah;have A:=mC m K;obtain⟨ai,L,M⟩:=Pp p hm o (c.args.toList.map a.eval).toArray;have i:=T _ _ _ _ _ R ρ w _ p F (.cons _ _ _ _ L A) W (λx d=>ik (a.put aA.dst x) d) (λx d j=>q x d j);have G:(execOp a.eval aA).run P w=(callFunc t ((ai::c.args.toList.map a.eval).toArray)).run P w:=by
      unfold execOp;rw[S];simp only[resolve,B,pure_bind,invoke];rw[map_toArray a.eval];have ae:(#[a.eval r]++(c.args.toList.map a.eval).toArray)[0]? =D (a.eval r):=by simp
      have y:(#[a.eval r]++(c.args.toList.map a.eval).toArray).extract 1 (#[a.eval r]++(c.args.toList.map a.eval).toArray).size=(c.args.toList.map a.eval).toArray:=by
       apply Array.ext';simp;exact List.take_of_length_le (by simp)
      rw[ae,y];simp only
      rw[M];simp
     unfold Oper.wp;rw[G];unfold kY at i;split at i
     ·rename_i e;rw[e];exact i
     ·rename_i e;rw[e];refine Calls.mono i λs ak l=> ?_
      cases s<;>first|exact l|exact l.elim
     ·exact i.elim
    ·cases b
   ·cases b
  ·cases b
end
def iI(acc:List Nat):List Edge->Nat
 |[]=>0
 |e::es=>if Region.binds .any e then 2^e.on|||(acc[e.on]?.getD 0|||iI acc es)else iI acc es
def jy:List Oper->List Nat->List Nat
 |[],acc=>acc
 |aA::os,acc=>jy os (acc++[iI acc aA.after.toList])
def bF(ops:Array Oper):List Nat:=jy ops.toList []
def bH(ms:List Nat)(j i:Nat):Bool:=(ms[i]?.getD 0).testBit j
def Nl:∀(os pre:List Oper) (acc:List Nat),acc.length=pre.length->(∀i aA,pre[i]? =D aA->acc[i]? =D (iI (acc.take i) aA.after.toList))->
  ∀i aA,(pre++os)[i]? =D aA->(jy os acc)[i]? =D (iI ((jy os acc).take i) aA.after.toList)
 |[],pre,acc,b,h,i,aA,c=>by simpa [jy]using h i aA (by simpa using c)
 |p::os,pre,acc,b,h,i,aA,c=>by
  unfold jy;refine Nl os (pre++[p]) _ (by simp[b]) (λj q a=> ?_) i aA (by simpa using c);rcases Nat.lt_or_ge j pre.length with e|d
  ·rw[List.getElem?_append_left e]at a;rw[List.getElem?_append_left bn,h j q a,List.take_append_of_le_length bn]
  ·rw[List.getElem?_append_right d]at a;have:j=pre.length:=by
    have:=(List.getElem?_eq_some_iff.1 a).1;simp at this;omega
   subst this;simp at a;subst a;rw[List.getElem?_append_right bn,<-b];simp
def zh{ops:Array Oper}{i:Nat}{aA:Oper}(h:ops[i]? =D aA):(bF ops)[i]? =D (iI ((bF ops).take i) aA.after.toList):=
 Nl ops.toList [] [] rfl (by simp) i aA (by simpa using h)
def xF{acc:List Nat}{e:Edge}:∀{es:List Edge},e∈es->Region.binds .any e=V->(iI acc es).testBit e.on=V
 |[],h,_=>by simp at h
 |d::es,h,a=>by
  unfold iI;rcases List.mem_cons.1 h with rfl|h
  ·rw[if_pos a];simp[Nat.testBit_two_pow_self]
  ·split
   ·simp[xF h a]
   ·exact xF h a
def xE{acc:List Nat}{j:Nat}:∀{es:List Edge},(iI acc es).testBit j=V->∃e∈es,Region.binds .any e=V/\(j=e.on\/(acc[e.on]?.getD 0).testBit j=V)
 |[],h=>by simp[iI]at h
 |d::es,h=>by
  unfold iI at h;split at h
  ·rename_i f;simp only[Nat.testBit_or,Bool.or_eq_true]at h;rcases h with h|h|h
   ·refine⟨d,by simp,f,.inl ?_⟩;rw[Nat.testBit_two_pow]at h;simpa using(of_decide_eq_true h).symm
   ·exact⟨d,by simp,f,.inr h⟩
   ·obtain⟨e,a,b,c⟩:=xE h;exact⟨e,by simp[a],b,c⟩
  ·obtain⟨e,a,b,c⟩:=xE h;exact⟨e,by simp[a],b,c⟩
def jC(L:Nat->Bool)(aA:Oper):Prop:=∀e∈aA.after,Region.binds .any e=V->L e.on=V
def pX(ops:Array Oper)(L:Nat->Bool):Prop:=∀i aA,ops[i]? =D aA->L i=V->jC L aA
def jV{ops:Array Oper}{L:Nat->Bool}(l:pX ops L):∀(i:Nat) (aA:Oper),ops[i]? =D aA->jC L aA->∀j,bH (bF ops) j i=V->L j=true:=by
 intro i
 induction i using Nat.strongRecOn with
 |_ i d=>
  intro aA n hw j b;unfold bH at b;rw[zh n]at b;simp only[Option.getD_some]at b;obtain⟨e,h,k,a⟩:=xE b;have f:=hw e (by simpa using h) k;rcases a with rfl|a
  ·exact f
  ·rcases Nat.lt_or_ge e.on i with g|r
   ·rw[List.getElem?_take_of_lt g]at a;cases c:ops[e.on]? with
    |none=>
     cases hm:(bF ops)[e.on]? with
     |none=>rw[hm]at a;simp at a
     |some m=>
      exfalso;have hlen:∀(os:List Oper) (acc:List Nat),(jy os acc).length=acc.length+os.length:=by
       intro os
       induction os with
       |nil=>intro acc;simp[jy]
       |cons aA os d=>intro acc;simp[jy,d];omega
      have o:=(List.getElem?_eq_some_iff.1 hm).1;have p:(bF ops).length=ops.size:=by unfold bF;rw[hlen];simp
      have q:ops.size<=e.on:=by simpa using c
      omega
    |some oK=>exact d e.on g oK c (l _ _ c f) j a
   ·rw[List.getElem?_eq_none (by simp;omega)]at a;simp at a
def PT{ops:Array Oper}{i:Nat}{aA:Oper}(b:ops[i]? =D aA){e:Edge}(he:e∈aA.after)(a:Region.binds .any e=V):bH (bF ops) e.on i=true:=by
 unfold bH;rw[zh b];exact xF (by simpa using he) a
def h_(ops:Array Oper)(C:a8)(aA:Oper):Bool:=
 match aA.guard with
 |none=>V
 |some (j,want)=>match ops[j]? with
  |some q=>(match q.dst with
   |some d=>(match C.get d with
    | .bool b=>b==want
    |_=>U)
   |none=>U)
  |none=>U
def IU{ρ:Env}{ops:Array Oper}{C:a8}{a:Act}(f:dE ρ C a)(aA:Oper):Region.wanted aA (yielded ops a.tmps)=h_ ops C aA:=by
 unfold Region.wanted h_;cases h:aA.guard with
 |none=>rfl
 |some p=>
  obtain⟨j,want⟩:=p;simp only
  unfold yielded;cases i:ops[j]? with
  |none=>simp
  |some q=>
   cases c:q.dst with
   |none=>simp[c]
   |some d=>
    simp only[Option.bind_some,c];have b:=f.get d;rw[Array.getD_eq_getD_getElem?]at b;cases e:a.tmps[d]? with
    |none=>
     rw[e]at b;simp only[Option.getD_none]at b;generalize g:C.get d=v at b;cases v<;>first|rfl|(exfalso;cases b)
    |some x=>
     rw[e]at b;simp only[Option.getD_some]at b;generalize g:C.get d=v at b;cases b<;>first|rfl|(simp;done)
def PL{ops:Array Oper}{C a2:a8}{aA:Oper}(h:∀d∈aA.looksAt ops,C.get d=a2.get d):h_ ops C aA=h_ ops a2 aA:=by
 unfold h_;cases b:aA.guard with
 |none=>rfl
 |some p=>
  obtain⟨j,want⟩:=p;simp only
  cases c:ops[j]? with
  |none=>rfl
  |some q=>
   cases a:q.dst with
   |none=>simp[a]
   |some d=>
    simp only[a];rw[h d (by simp[Oper.looksAt,b,c,a])]
def PJ{ops:Array Oper}{C a2:a8}{aA:Oper}(h:∀d∈aA.looksAt ops,C.get d=a2.get d):∀x∈aA.op.operands,br C x=br a2 x:=by
 intro x a;cases x with
 |tmp t=>
  simp only[br];rw[h t ?_];unfold Oper.looksAt;refine List.mem_append.2 (.inl ?_);rw[List.mem_filterMap];exact⟨.tmp t,by simpa using a,rfl⟩
 |const v=>rfl
 |global g=>rfl
 |func f=>rfl
structure bg where
 i:Nat
 aA:Oper
 C:a8
 k:K
def fJ(P:Program)(call:ai)(ops:Array Oper)(aA:Oper)(C:a8)(H:af):Option K:=
 match h_ ops C aA with
 |true=>h4 P call aA.op C H
 |false=>D .skip
def canRun(P:Program)(call:ai)(ops:Array Oper):List Nat->a8->af->Option (List bg×a8×af)
 |[],C,H=>D ([],C,H)
 |i::is,C,H=>match ops[i]? with
  |none=>Y
  |some aA=>match fJ P call ops aA C H with
   |none=>Y
   |some k=>match C.put aA.dst k.val with
    |none=>Y
    |some a2=>match canRun P call ops is a2 (k.heap H)with
     |none=>Y
     |some (T,bC,bK)=>D (⟨i,aA,C,k⟩::T,bC,bK)
def bD:List bg->af->af
 |[],H=>H
 |t::ts,H=>bD ts (t.k.heap H)
def jI(A B:List bg)(H:af):bD (A++B) H=bD B (bD A H):=by
 induction A generalizing H with
 |nil=>rfl
 |cons t A a=>simp[bD,a]
def e0(L:Nat->Bool)(d:Nat):List bg->aa->aa
 |[],v=>v
 |t::ts,v=>e0 L d ts (if L t.i=V/\t.aA.dst=D d then t.k.val else v)
def kN(L:Nat->Bool)(d:Nat)(A B:List bg)(v:aa):e0 L d (A++B) v=e0 L d B (e0 L d A v):=by
 induction A generalizing v with
 |nil=>rfl
 |cons t A a=>simp[e0,a]
def q6{L L':Nat->Bool}{d:Nat}:∀{A:List bg} {v:aa},(∀t∈A,t.aA.dst=D d->L t.i=L' t.i)->e0 L d A v=e0 L' d A v
 |[],_,_=>rfl
 |t::A,v,h=>by
  simp only[e0];have:(L t.i=V/\t.aA.dst=D d)↔(L' t.i=V/\t.aA.dst=D d):=by
   constructor
   ·rintro⟨b,a⟩;exact⟨by rw[<-h t (by simp) a];exact b,a⟩
   ·rintro⟨b,a⟩;exact⟨by rw[h t (by simp) a];exact b,a⟩
  simp only[this];exact q6 λu hu=>h u (by simp[hu])
def q7{L:Nat->Bool}{d:Nat}:∀{A:List bg} {v:aa},(∀t∈A,t.aA.dst=D d->L t.i=U)->e0 L d A v=v
 |[],_,_=>rfl
 |t::A,v,h=>by
  simp only[e0];rw[if_neg (by rintro⟨a,b⟩;rw[h t (by simp) b]at a;cases a)];exact q7 λu hu=>h u (by simp[hu])
def iS{P:Program}{call:ai}{ops:Array Oper}:∀{is:List Nat} {C:a8} {H:af} {T:List bg} {bC:a8} {bK:af},canRun P call ops is C H=D (T,bC,bK)->
  T.map (·.i)=is/\bK=bD T H/\bC.size=C.size/\∀d,bC.get d=e0 (λ_=>V) d T (C.get d)
 |[],C,H,T,bC,bK,h=>by
  simp only[canRun,a7,bI]at h;obtain⟨rfl,rfl,rfl⟩:=h;exact⟨rfl,rfl,rfl,λ_=>rfl⟩
 |i::is,C,H,T,bC,bK,h=>by
  simp only[canRun]at h;split at h
  ·cases h
  ·rename_i aA n;split at h
   ·cases h
   ·rename_i k m;split at h
    ·cases h
    ·rename_i a2 a;split at h
     ·cases h
     ·rename_i l j g bA;simp only[a7,bI]at h;obtain⟨rfl,rfl,rfl⟩:=h;obtain⟨b,c,e,f⟩:=iS bA;refine⟨by simp[b],c,by rw[e,a8.size_put a],λd=> ?_⟩;rw[f d,a8.nT a d];simp[e0]
def xA{P:Program}{call:ai}{ops:Array Oper}:∀{A:List bg} {is:List Nat} {C:a8} {H:af} {t:bg} {B:List bg} {bC:a8} {bK:af},canRun P call ops is C H=D (A++t::B,bC,bK)->
  ops[t.i]? =D t.aA/\(∀d,t.C.get d=e0 (λ_=>V) d A (C.get d))/\fJ P call ops t.aA t.C (bD A H)=D t.k/\(∀d,t.aA.dst=D d->d<C.size)
 |A,[],C,H,t,B,bC,bK,h=>by
  simp only[canRun,a7,bI]at h;have:=h.1;simp at this
 |A,i::is,C,H,t,B,bC,bK,h=>by
  simp only[canRun]at h;split at h
  ·cases h
  ·rename_i aA m;split at h
   ·cases h
   ·rename_i k l;split at h
    ·cases h
    ·rename_i a2 b;split at h
     ·cases h
     ·rename_i p o n bA;simp only[a7,bI]at h;obtain⟨a,rfl,rfl⟩:=h;cases A with
      |nil=>
       simp only[List.nil_append,List.cons.injEq]at a;obtain⟨rfl,rfl⟩:=a;refine⟨m,λ_=>rfl,l,λd c=> ?_⟩;simp only at c;rw[c]at b;exact a8.NT b
      |cons u A=>
       simp only[List.cons_append,List.cons.injEq]at a;obtain⟨rfl,rfl⟩:=a;obtain⟨e,f,g,j⟩:=xA bA;refine⟨e,λd=> ?_,g,λd c=>by rw[<-a8.size_put b];exact j d c⟩;rw[f d,a8.nT b d];simp[e0]
def eN:af->List bg->Prop
 |_,[]=>True
 |H,t::ts=>H.next<=(t.k.heap H).next/\eN (t.k.heap H) ts
def eN.append:∀{A B:List bg} {H:af},eN H (A++B)->eN H A/\eN (bD A H) B
 |[],_,_,h=>⟨trivial,h⟩
 |_::A,_,_,h=>by
  obtain⟨a,b⟩:=h;obtain⟨c,d⟩:=eN.append (A:=A) b;exact⟨⟨a,c⟩,d⟩
def eN.le:∀{A:List bg} {H:af},eN H A->H.next<=(bD A H).next
 |[],_,_=>cW _
 |_::A,_,h=>Nat.le_trans h.1 (eN.le (A:=A) h.2)
def oC{P:Program}{call:ai}{ops:Array Oper}{aA:Oper}{C:a8}{H:af}{k:K}(h:fJ P call ops aA C H=D k):
  (h_ ops C aA=V/\kb P call aA.op C H k)\/(h_ ops C aA=U/\k= .skip):=by
 unfold fJ at h;split at h
 ·rename_i hw;exact .inl ⟨hw,aq6 h⟩
 ·rename_i hw;simp only[a7]at h;exact .inr ⟨hw,h.symm⟩
def Na{P:Program}{call:ai}{ops:Array Oper}{aA:Oper}{C:a8}{H:af}{k:K}(h:fJ P call ops aA C H=D k)(a:k.eH=V):mI aA.op=true:=by
 unfold fJ at h;split at h
 ·exact aq4 h a
 ·simp only[a7]at h;subst h;cases a
def Er{P:Program}{call:ai}{ops:Array Oper}{aA:Oper}{C:a8}{H:af}{k:K}(h:fJ P call ops aA C H=D k):H.next<=(k.heap H).next:=by
 rcases oC h with⟨_,h⟩|⟨_,rfl⟩
 ·cases k with
  |bs v H'=>exact h.1
  |new v b=>simp[K.heap]
  |_=>exact cW _
 ·exact cW _
def nK{P:Program}{call:ai}{ops:Array Oper}:∀{is:List Nat} {C:a8} {H:af} {T:List bg} {bC:a8} {bK:af},canRun P call ops is C H=D (T,bC,bK)->eN H T
 |[],C,H,T,bC,bK,h=>by
  simp only[canRun,a7,bI]at h;obtain⟨rfl,rfl,rfl⟩:=h;trivial
 |i::is,C,H,T,bC,bK,h=>by
  simp only[canRun]at h;split at h
  ·cases h
  ·rename_i aA e;split at h
   ·cases h
   ·rename_i k a;split at h
    ·cases h
    ·split at h
     ·cases h
     ·rename_i d c b bA;simp only[a7,bI]at h;obtain⟨rfl,rfl,rfl⟩:=h;exact⟨Er a,nK bA⟩
def dx(L:Nat->Bool):List bg->af->Nat->Option an
 |[],_,_=>Y
 |t::ts,H,l=>match t.k with
  | .new _ b=>if l=H.next then(if L t.i=V then D b else Y)else dx L ts (H.push b) l
  |k=>dx L ts (k.heap H) l
def q3{L:Nat->Bool}:∀{T:List bg} {H:af} {l:Nat} {b:an},eN H T->dx L T H l=D b->H.next<=l
 |[],_,_,_,_,h=>by cases h
 |t::ts,H,l,b,hm,h=>by
  unfold dx at h;split at h
  ·rename_i v eG a;split at h
   ·omega
   ·have:=q3 (by have:=hm.2;rwa[a]at this) h;simp at this;omega
  ·have c:=hm.1;have:=q3 hm.2 h;omega
def q2{L L':Nat->Bool}:∀{T:List bg} {H:af},(∀t∈T,∀v b,t.k= .new v b->L t.i=L' t.i)->dx L T H=dx L' T H
 |[],_,_=>rfl
 |t::ts,H,h=>by
  funext l
  unfold dx;split
  ·rename_i v b a;rw[h t (by simp) v b a,q2 (T:=ts) (λu hu=>h u (by simp[hu]))]
  ·rw[q2 (T:=ts) (λu hu=>h u (by simp[hu]))]
def oM{L:Nat->Bool}{t:bg}{ts:List bg}{H:af}(h:∀v b,t.k≠ .new v b):dx L (t::ts) H=dx L ts (t.k.heap H):=by
 funext l
 show(match t.k with
  | .new _ b=>if l=H.next then(if L t.i=V then D b else Y)else dx L ts (H.push b) l
  |k=>dx L ts (k.heap H) l)=_
 split
 ·rename_i v b a;exact absurd a (h v b)
 ·rfl
def NP{L L':Nat->Bool}{t:bg}{v:aa}{b:an}(m:t.k= .new v b)(l:L t.i=U)(o:L' t.i=V):∀{zC zD:List bg} {H:af},eN H (zC++t::zD)->
  (∀u∈zC,L u.i=L' u.i)->(∀u∈zD,L u.i=L' u.i)->
  dx L' (zC++t::zD) H=(λk=>if k=(bD zC H).next then D b else dx L (zC++t::zD) H k)/\dx L (zC++t::zD) H (bD zC H).next=Y
 |[],zD,H,hm,g,j=>by
  constructor
  ·funext k
   simp only[List.nil_append,bD,dx,m,l,o,if_true,Bool.false_eq_true,if_false];rw[q2 (T:=zD) λu hu _ _ _=>j u hu];split<;>rfl
  ·simp[dx,m,l,bD]
 |c::zC,zD,H,hm,g,j=>by
  obtain⟨s,n⟩:=hm;obtain⟨d,e⟩:=NP m l o (zC:=zC) (zD:=zD) n (λu hu=>g u (by simp[hu])) j;by_cases a:∃r eG,c.k= .new r eG
  ·obtain⟨r,eG,a⟩:=a;have hle:(c.k.heap H).next<=(bD zC (c.k.heap H)).next:=(eN.append n).1.le
   rw[a]at d e hle;simp only[K.heap,af.jP]at hle d e;constructor
   ·funext k
    simp only[List.cons_append,dx,a,bD,K.heap];rw[<-g c (by simp),d];by_cases p:k=H.next
    ·subst p;simp only[if_true];by_cases f:H.next=(bD zC (H.push eG)).next
     ·omega
     ·simp only[f,if_false]
    ·simp only[p,if_false];by_cases f:k=(bD zC (H.push eG)).next
     ·simp only[f,if_true]
     ·simp only[f,if_false]
   ·simp only[List.cons_append,dx,a,bD,K.heap];rw[if_neg bn];exact e
  ·have q:∀v b,c.k≠ .new v b:=λv b h=>a ⟨v,b,h⟩
   rw[List.cons_append,oM q,oM q,bD];exact⟨d,e⟩
section
mutual
def aa.beq:aa->aa->Bool
 | .bool a,.bool b=>a==b
 | .int k n,.int o m=>decide (k=o)&&decide (n=m)
 | .str s,.str t=>decide (s=t)
 | .ptr l i c,.ptr d g f=>decide (l=d)&&decide (i=g)&&decide (c=f)
 | .fC,.fC=>V
 | .ag l i n e c,.ag d g p j f=>decide (l=d)&&decide (i=g)&&decide (n=p)&&decide (e=j)&&decide (c=f)
 | .ao,.ao=>V
 | .map l,.map d=>decide (l=d)
 | .h1,.h1=>V
 | .nilFunc,.nilFunc=>V
 | .iface t v,.iface q r=>decide (t=q)&&aa.beq v r
 | .nilIface,.nilIface=>V
 | .agg xs,.agg h=>h8.beq xs h
 | .tuple xs,.tuple h=>h8.beq xs h
 |_,_=>U
def h8.beq:List aa->List aa->Bool
  |[],[]=>V
  |x::xs,y::a=>aa.beq x y&&h8.beq xs a
  |_,_=>U
 end
mutual
def aa.beq_eq:∀{a b:aa},aa.beq a b=V->a=b:=by
 intro a b h;cases a<;>cases b<;>simp only[aa.beq]at h<;>first
  |(cases h;done)
  |rfl
  |(simp at h;simp[h];done)
  |skip
 ·simp only[Bool.and_eq_true,decide_eq_true_eq]at h;obtain⟨rfl,h⟩:=h;rw[aa.beq_eq h]
 ·rw[h8.beq_eq h]
 ·rw[h8.beq_eq h]
def h8.beq_eq:∀{a b:List aa},h8.beq a b=V->a=b:=by
  intro a b h;cases a with
  |nil=>cases b with
   |nil=>rfl
   |cons y c=>simp[h8.beq]at h
  |cons x xs=>cases b with
   |nil=>simp[h8.beq]at h
   |cons y c=>
    simp only[h8.beq,Bool.and_eq_true]at h;rw[aa.beq_eq h.1,h8.beq_eq h.2]
 end
def q1(ops:Array Oper)(ms:List Nat)(i j:Nat):Bool:=
 match ops[i]?,ops[j]? with
 |some aA,D q=>(i != j)&&(!bH ms j i)&&(bH ms i j||aA.apart ops q)
 |_,_=>U
def zr(ops:Array Oper)(ms:List Nat):List Nat->Bool
 |[]=>V
 |i::is=>is.all (q1 ops ms i)&&zr ops ms is
def NM{ops:Array Oper}{ms:List Nat}:∀{is:List Nat},zr ops ms is=V->is.Pairwise λi j=>q1 ops ms i j=V
 |[],_=> .nil
 |i::is,h=>by
  simp only[zr,Bool.and_eq_true,List.all_eq_true]at h;exact .cons h.1 (NM h.2)
def I8(n:Nat)(aA:Oper):Bool:=aA.after.toList.all λe=> !Region.binds .any e||decide (e.on<n)
def mX(ops:Array Oper)(ms ord:List Nat):Bool:=(List.range ops.size).all (λi=>ord.contains i)&&(ord.all (λi=> !bH ms i i)&&(ops.toList.all (I8 ops.size)&&zr ops ms ord))
def ia(ms:List Nat):List bg->List Nat->Bool
 |[],_=>V
 |t::ts,ids=>match t.k with
  | .bs _ _=>ids.all (λj=>bH ms j t.i)&&ia ms ts (t.i::ids)
  | .new _ _=>ia ms ts (t.i::ids)
  |_=>ia ms ts ids
def xG{ms:List Nat}:∀{A:List bg} {t:bg} {B:List bg} {ids:List Nat} {v:aa} {H:af},ia ms (A++t::B) ids=V->t.k= .bs v H->
  (∀j∈ids,bH ms j t.i=V)/\∀u∈A,u.k.eH=V->bH ms u.i t.i=V
 |[],t,B,ids,v,H,h,f=>by
  simp only[List.nil_append,ia,f,Bool.and_eq_true,List.all_eq_true]at h;exact⟨h.1,λu hu=>by simp at hu⟩
 |c::A,t,B,ids,v,H,h,f=>by
  simp only[List.cons_append,ia]at h;split at h
  ·simp only[Bool.and_eq_true]at h;obtain⟨a,e⟩:=xG h.2 f;refine⟨λj g=>a j (by simp[g]),λu hu d=> ?_⟩;rcases List.mem_cons.1 hu with rfl|hu
   ·exact a _ (by simp)
   ·exact e u hu d
  ·obtain⟨a,e⟩:=xG h f;refine⟨λj g=>a j (by simp[g]),λu hu d=> ?_⟩;rcases List.mem_cons.1 hu with rfl|hu
   ·exact a _ (by simp)
   ·exact e u hu d
  ·rename_i m n;obtain⟨a,e⟩:=xG h f;refine⟨a,λu hu d=> ?_⟩;rcases List.mem_cons.1 hu with rfl|hu
   ·exfalso;cases l:u.k with
    |new v b=>exact n v b l
    |bs v H=>exact m v H l
    |_=>rw[l]at d;cases d
   ·exact e u hu d
def fh(ms:List Nat)(rd:af->Bool)(i:Nat):List bg->af->Bool
 |[],H=>rd H
 |t::ts,H=>if t.k.eH then(bH ms t.i i||rd H)&&(bH ms i t.i||fh ms rd i ts (t.k.heap H))else fh ms rd i ts H
def xR{k:K}(h:k.eH=U)(H:af):k.heap H=H:=by
 cases k<;>first|rfl|cases h
def Io{ms:List Nat}{rd:af->Bool}{i:Nat}:∀{A B:List bg} {H:af},fh ms rd i (A++B) H=V->(∀u∈A,u.k.eH=V->bH ms i u.i=U)->
  (∀u d,B=u::d->u.k.eH=V/\bH ms u.i i=U)->rd (bD A H)=V
 |[],[],H,h,_,_=>h
 |[],u::B,H,h,_,a=>by
  obtain⟨e,f⟩:=a u B rfl;simp only[List.nil_append,fh,e,if_true,Bool.and_eq_true,Bool.or_eq_true,f]at h;simpa [bD]using h.1
 |t::A,B,H,h,b,a=>by
  simp only[List.cons_append,fh]at h;split at h
  ·rename_i c;simp only[Bool.and_eq_true,Bool.or_eq_true,b t (by simp) c]at h;rw[bD];exact Io (h.2.resolve_left (by simp)) (λu hu=>b u (by simp[hu])) a
  ·rename_i c;rw[bD,xR (by simpa using c)];exact Io h (λu hu=>b u (by simp[hu])) a
def iL(P:Program)(aA:Op)(C:a8)(v:aa)(H:af):Bool:=
 match ho P aA C H with
 |some u=>aa.beq u v
 |none=>U
def NY{P:Program}{aA:Op}{C:a8}{v:aa}{H:af}(h:iL P aA C v H=V):ho P aA C H=D v:=by
 unfold iL at h;split at h
 ·rename_i u hu;rw[hu,aa.beq_eq h]
 ·cases h
def af.only(H:af):af:=match H.get (H.next-1)with
 |some b=>⟨bf.put b H.next .leaf (H.next-1),H.next⟩
 |none=>⟨.leaf,H.next⟩
def af.q0{H:af}{b:an}{l:Nat}{x:an}(h:(H.push b).only.get l=D x):l=H.next/\x=b:=by
 have e:(H.push b).get ((H.push b).next-1)=D b:=af.hv H b;unfold af.only at h;rw[e]at h;simp only[af.get,af.jP,Nat.add_sub_cancel]at h;split at h
 ·by_cases a:H.next=l
  ·subst a;rw[bf.qg _ _ _ _ bn]at h;exact⟨rfl,by simpa using h.symm⟩
  ·rw[bf.nU _ _ _ _ _ a]at h;rw[bf.nS]at h;cases h
 ·cases h
def lT(k:K):Bool:=match k with
 | .bs _ _=>U
 |_=>V
def k3(ms:List Nat)(i:Nat):List bg->Bool->Bool
 |[],_=>U
 |t::ts,s=>match t.k with
  | .new _ _=>(s&&bH ms t.i i&&ts.all λu=>lT u.k)||k3 ms i ts (s|| !bH ms t.i i)
  | .bs _ _=>k3 ms i ts (s|| !bH ms t.i i)
  |_=>k3 ms i ts s
def jO(ms:List Nat)(rd:af->Bool)(i:Nat):List bg->af->Bool->Bool
 |[],_,_=>U
 |t::ts,H,s=>match t.k with
  | .new _ b=>bif s&&bH ms t.i i&&ts.all (λu=>lT u.k)then rd (H.push b).only||jO ms rd i ts (H.push b) (s|| !bH ms t.i i)else jO ms rd i ts (H.push b) (s|| !bH ms t.i i)
  | .bs _ H'=>jO ms rd i ts H' (s|| !bH ms t.i i)
  |_=>jO ms rd i ts H s
def No{ms:List Nat}{rd:af->Bool}{i:Nat}:∀{T:List bg} {H:af} {s:Bool},jO ms rd i T H s=V->
  ∃A u B v b,T=A++u::B/\u.k= .new v b/\bH ms u.i i=V/\(∀x∈B,lT x.k=V)/\rd ((bD A H).push b).only=V
 |[],H,s,h=>by cases h
 |t::ts,H,s,h=>by
  have d:∀{H':af} {g:Bool},t.k.heap H=H'->jO ms rd i ts H' g=V->∃A u B v b,t::ts=A++u::B/\u.k= .new v b/\bH ms u.i i=V/\(∀x∈B,lT x.k=V)/\rd ((bD A H).push b).only=true:=by
   intro H' g e bA;obtain⟨A,u,B,v,b,j,l,m,n,o⟩:=No bA;exact⟨t::A,u,B,v,b,by rw[j];rfl,l,m,n,by rw[bD,e];exact o⟩
  unfold jO at h;split at h
  ·rename_i v b a;have f:t.k.heap H=H.push b:=by rw[a];rfl
   cases c:(s&&bH ms t.i i&&ts.all λu=>lT u.k)with
   |true=>
    rw[c,kh,Bool.or_eq_true]at h;simp only[Bool.and_eq_true,List.all_eq_true]at c;rcases h with h|h
    ·exact⟨[],t,ts,v,b,rfl,a,c.1.2,c.2,h⟩
    ·exact d f h
   |false=>rw[c,nM]at h;exact d f h
  ·rename_i v H' a;exact d (by rw[a];rfl) h
  ·rename_i p q;refine d (xR ?_ H) h;cases a:t.k with
   |new v b=>exact absurd a (p v b)
   |bs v H'=>exact absurd a (q v H')
   |_=>rfl
def nu(ms:List Nat)(rd:af->Bool)(i:Nat)(T:List bg)(H:af):Bool:=bif k3 ms i T U then fh ms rd i T H||jO ms rd i T H U else fh ms rd i T H
def aqY{ms:List Nat}{rd:af->Bool}{i:Nat}{T:List bg}{H:af}(h:nu ms rd i T H=V):fh ms rd i T H=V\/jO ms rd i T H U=true:=by
 unfold nu at h;cases a:k3 ms i T U with
 |true=>rw[a,kh,Bool.or_eq_true]at h;exact h
 |false=>rw[a,nM]at h;exact .inl h
def jB(P:Program)(ms:List Nat)(a:Nat->Bool)(T:List bg)(H:af):List bg->Bool
 |[]=>V
 |t::ts=>(match t.k with
  | .read v=>a t.i||nu ms (iL P t.aA.op t.C v) t.i T H
  |_=>V)&&jB P ms a T H ts
def OE{P:Program}{ms:List Nat}{a:Nat->Bool}{T:List bg}{H:af}{t:bg}{v:aa}(b:t.k= .read v):∀{ts:List bg},jB P ms a T H ts=V->t∈ts->a t.i=V\/nu ms (iL P t.aA.op t.C v) t.i T H=V
 |[],_,hm=>by simp at hm
 |u::ts,h,hm=>by
  simp only[jB,Bool.and_eq_true]at h;rcases List.mem_cons.1 hm with rfl|hm
  ·have:=h.1;rw[b]at this;simpa using this
  ·exact OE b h.2 hm
section
variable {P:Program}{call:ai}{ops:Array Oper}{ord:List Nat}{bL bC:a8}{bh bK:af}{T:List bg}{ρ0:Env}{w0:World}{Q:Exit->Act->World->Prop}
def bG(a:Array Bool)(i:Nat):Bool:=a.getD i U
def NK{i j:Nat}{aA q:Oper}(a:ops[i]? =D aA)(b:ops[j]? =D q)(h:q1 ops (bF ops) i j=V):
  i≠j/\bH (bF ops) j i=U/\(bH (bF ops) i j=V\/aA.apart ops q=V):=by
 unfold q1 at h;rw[a,b]at h;simp only[Bool.and_eq_true,bne_iff_ne,ne_eq,Bool.not_eq_true',Bool.or_eq_true]at h;exact⟨h.1.1,h.1.2,h.2⟩
def hD(ops:Array Oper)(ms ord:List Nat)(i:Nat):Bool:=
 ord.all λj=>(j==i)||(match ops[j]? with|some aA=> !mI aA.op|none=>V)||bH ms j i||bH ms i j
def arz{ms ord:List Nat}{i j:Nat}{aA:Oper}(h:hD ops ms ord i=V)(b:j∈ord)(c:j≠i)(d:ops[j]? =D aA)(a:mI aA.op=V):bH ms j i=V\/bH ms i j=true:=by
 unfold hD at h;rw[List.all_eq_true]at h;have:=h j b;rw[d]at this;simpa [c,a]using this
structure Ctx(P:Program)(call:ai)(ops:Array Oper)(ord:List Nat)(bL:a8)(bh:af)(T:List bg)(bC:a8)(bK:af):Prop where
 fM:canRun P call ops ord bL bh=some (T,bC,bK)
 Ff:mX ops (bF ops) ord=true
 bs:ia (bF ops) T []=true
 ar2:jB P (bF ops) (hD ops (bF ops) ord) T bh T=true
def Ctx.NL(c:Ctx P call ops ord bL bh T bC bK):T.Pairwise λt u=>q1 ops (bF ops) t.i u.i=true:=by
 have h:=c.Ff;simp only[mX,Bool.and_eq_true]at h;have a:=NM h.2.2.2;rw[<-(iS c.fM).1]at a;exact(List.pairwise_map.1 a)
def Ctx.at(c:Ctx P call ops ord bL bh T bC bK){A B:List bg}{t:bg}(h:T=A++t::B):
  ops[t.i]? =D t.aA/\(∀d,t.C.get d=e0 (λ_=>V) d A (bL.get d))/\fJ P call ops t.aA t.C (bD A bh)=D t.k/\(∀d,t.aA.dst=D d->d<bL.size):=
 xA (by rw[<-h];exact c.fM)
def Ctx.mem(c:Ctx P call ops ord bL bh T bC bK){t:bg}(h:t∈T):ops[t.i]? =D t.aA:=by
 obtain⟨A,B,h⟩:=List.append_of_mem h;exact(c.at h).1
def Ctx.before(c:Ctx P call ops ord bL bh T bC bK){A B:List bg}{t:bg}(h:T=A++t::B){u:bg}(hu:u∈A):
  u.i≠t.i/\bH (bF ops) t.i u.i=U/\(bH (bF ops) u.i t.i=V\/u.aA.apart ops t.aA=V):=by
 have a:=c.NL;rw[h,List.pairwise_append]at a;exact NK (c.mem (by rw[h];simp[hu])) (c.mem (by rw[h];simp)) (a.2.2 u hu t (by simp))
def Ctx.after(c:Ctx P call ops ord bL bh T bC bK){A B:List bg}{t:bg}(h:T=A++t::B){u:bg}(hu:u∈B):
  t.i≠u.i/\bH (bF ops) u.i t.i=U/\(bH (bF ops) t.i u.i=V\/t.aA.apart ops u.aA=V):=by
 have a:=c.NL;rw[h,List.pairwise_append,List.pairwise_cons]at a;exact NK (c.mem (by rw[h];simp)) (c.mem (by rw[h];simp[hu])) (a.2.1.1 u hu)
def Ctx.looks(c:Ctx P call ops ord bL bh T bC bK){A B:List bg}{t:bg}(h:T=A++t::B){L:Nat->Bool}(b:pX ops L)(hw:jC L t.aA)(g:L t.i=U):
  ∀d∈t.aA.looksAt ops,e0 L d T (bL.get d)=t.C.get d:=by
 intro d j;obtain⟨l,m,_,_⟩:=c.at h;rw[m d,h,kN,e0];rw[if_neg (by rintro⟨f,_⟩;rw[g]at f;cases f)];rw[q7 (A:=B),q6 (L':=λ_=>V)]
 ·intro u hu e;obtain⟨_,_,a⟩:=c.before h hu;rcases a with a|a
  ·exact jV b _ _ l hw _ a
  ·exact absurd j ((Oper.apart_spec a).1 d e)
 ·intro u hu e;obtain⟨_,_,a⟩:=c.after h hu;rcases a with a|a
  ·cases n:L u.i with
   |false=>rfl
   |true=>
    have k:=c.mem (t:=u) (by rw[h];simp[hu]);have:=jV b _ _ k (b _ _ k n) _ a;rw[g]at this;cases this
  ·exact absurd j ((Oper.apart_spec a).2.2 d e)
def Ctx.O9(c:Ctx P call ops ord bL bh T bC bK){A B:List bg}{t:bg}(h:T=A++t::B){L L':Nat->Bool}(e:pX ops L)(n:L t.i=U)(o:L' t.i=V)(g:∀j,j≠t.i->L' j=L j)(d:Nat)(v:aa):
  e0 L' d T v=if t.aA.dst=D d then t.k.val else e0 L d T v:=by
 have l:∀u∈A,u.aA.dst=D d->L' u.i=L u.i:=λu hu _=>g _ (c.before h hu).1
 have m:∀u∈B,u.aA.dst=D d->L' u.i=L u.i:=λu hu _=>g _ (Ne.symm (c.after h hu).1)
 rw[h,kN,kN,q6 l];simp only[e0];rw[q6 m];by_cases a:t.aA.dst=D d
 ·rw[if_pos ⟨o,a⟩,if_pos a];refine q7 λu hu q=> ?_
  obtain⟨_,_,b⟩:=c.after h hu;rcases b with b|b
  ·cases p:L u.i with
   |false=>rfl
   |true=>
    have f:=c.mem (t:=u) (by rw[h];simp[hu]);have:=jV e _ _ f (e _ _ f p) _ b;rw[n]at this;cases this
  ·exact absurd q ((Oper.apart_spec b).2.1 d a)
 ·rw[if_neg (λx=>a x.2),if_neg a,if_neg (λx=>a x.2)]
def e1.turns{N:Nat}{ρ:Env}{w:World}{L:Nat->Bool}:∀{zC zD:List bg} {H:af},eN H (zC++zD)->(∀u∈zC,u.k.eH=V->L u.i=V/\∃v b,u.k= .new v b)->
  e1 ρ0 bh w0 N (dx L (zC++zD) H) ρ H w->e1 ρ0 bh w0 N (dx L zD (bD zC H)) ρ (bD zC H) w
 |[],zD,H,_,_,m=>m
 |c::zC,zD,H,hm,e,m=>by
  by_cases a:c.k.eH=V
  ·obtain⟨n,v,b,d⟩:=e c (by simp) a;have p:dx L (c::zC++zD) H H.next=D b:=by simp[dx,d,n]
   have l:=m.OA p;have g:eN (H.push b) (zC++zD):=by have:=hm.2;rw[d]at this;exact this
   have heq:(λk=>if k=H.next then Y else dx L (c::zC++zD) H k)=dx L (zC++zD) (H.push b):=by
    funext k
    by_cases f:k=H.next
    ·rw[if_pos f];cases q:dx L (zC++zD) (H.push b) k with
     |none=>rfl
     |some eG=>have:=q3 g q;simp at this;omega
    ·rw[if_neg f];simp[dx,d,f]
   rw[heq]at l;have:=e1.turns g (λu hu=>e u (by simp[hu])) l;rw[bD,d];exact this
  ·have o:∀v b,c.k≠ .new v b:=λv b h=>by rw[h]at a;exact a rfl
   rw[List.cons_append,oM o]at m;have j:=xR (by simpa using a) H;rw[bD];rw[j]at m ⊢;refine e1.turns ?_ (λu hu=>e u (by simp[hu])) m;have:=hm.2;rwa[j]at this
structure Inv(ops:Array Oper)(bL:a8)(bh:af)(T:List bg)(N:Nat)(ρ0:Env)(w0:World)(b:Array Bool)(a:Act)(w:World):Prop where
 size:b.size=ops.size
 closed:pX ops (bG b)
 mid:∃ρ T1 T2,T=T1++T2/\(∀t∈T1,t.k.eH=true->bG b t.i=true)/\(∀t∈T2,(∃v H,t.k= .bs v H)->bG b t.i=false)/\
  e1 ρ0 bh w0 N (dx (bG b) T2 (bD T1 bh)) ρ (bD T1 bh) w/\∃c:a8,dE ρ c a/\c.size=bL.size/\∀d,c.get d=e0 (bG b) d T (bL.get d)
def Ctx.final(c:Ctx P call ops ord bL bh T bC bK){f:Array Bool}{a:Act}{w:World}(s:Inv ops bL bh T bK.next ρ0 w0 f a w)(h:∀t∈T,bG f t.i=V):
  ∃ρ,dE ρ bC a/\Step ρ0 bh w0 ρ bK w:=by
 obtain⟨ρ,T1,T2,fM,E,r,m,B,g,z,A⟩:=s.mid;obtain⟨C,o,p,q⟩:=iS c.fM;have n:=nK c.fM;rw[fM]at n;have x:=(eN.append n).2;have hq:=e1.turns (zC:=T2) (zD:=[]) (L:=bG f) (by simpa using x) (λu hu j=>by
  have e:=h u (by rw[fM];simp[hu]);refine⟨e,?_⟩;cases l:u.k with
  |new v b=>exact⟨v,b,rfl⟩
  |bs v H=>rw[r u hu ⟨v,H,l⟩]at e;cases e
  |_=>rw[l]at j;cases j) (by simpa using m)
 rw[<-jI,<-fM,<-o]at hq;refine⟨ρ,⟨by rw[p,<-z];exact g.size,λd=> ?_,g.none⟩,hq.done rfl⟩;have:=g.get d;rw[A d,q6 (L':=λ_=>V) (λt y _=>h t y),<-q d]at this;exact this
def lV{a:Array Bool}{i:Nat}(h:i∈Region.ready .any ops a)(j:a.size=ops.size):
  ∃aA,ops[i]? =D aA/\bG a i=U/\jC (bG a) aA/\i<ops.size:=by
 unfold Region.ready at h;simp only[List.mem_filter,List.mem_range,Bool.and_eq_true,Bool.not_eq_true']at h;obtain⟨d,b,c⟩:=h;have f:ops[i]? =D ops[i]:=by simp[d]
 refine⟨ops[i],f,?_,?_,d⟩
 ·unfold bG;rw[Array.getD_eq_getD_getElem?]at b ⊢;have:i<a.size:=bn;simp[this]at b ⊢;exact b
 ·rw[f]at c;simp only[Option.map_some,Option.getD_some,Array.all_eq_true']at c;intro e he g;have:=c e he;simpa [g,bG]using this
def zw{a:Array Bool}{i:Nat}{aA:Oper}(d:ops[i]? =D aA)(b:bG a i=U)(hw:jC (bG a) aA)(g:a.size=ops.size):i∈Region.ready .any ops a:=by
 unfold Region.ready;have f:i<ops.size:=(Array.getElem?_eq_some_iff.1 d).1;simp only[List.mem_filter,List.mem_range,Bool.and_eq_true,Bool.not_eq_true'];refine⟨f,?_,?_⟩
 ·unfold bG at b;rw[Array.getD_eq_getD_getElem?]at b ⊢;have:i<a.size:=bn;simp[this]at b ⊢;exact b
 ·rw[d];simp only[Option.map_some,Option.getD_some,Array.all_eq_true'];intro e he;by_cases c:Region.binds .any e=V
  ·have:=hw e he c;unfold bG at this;rw[this];simp
  ·simp[c]
def Ctx.IE(c:Ctx P call ops ord bL bh T bC bK){b:Array Bool}(E:b.size=ops.size)(C:Region.ready .any ops b=[]):∀t∈T,bG b t.i=true:=by
 have q:=c.Ff;simp only[mX,Bool.and_eq_true,List.all_eq_true,List.mem_range]at q;obtain⟨v,x,w,_⟩:=q;have o:=(iS c.fM).1;have key:∀(n:Nat) (A:List bg) (t:bg) (B:List bg),A.length=n->T=A++t::B->bG b t.i=true:=by
  intro n
  induction n using Nat.strongRecOn with
  |_ n G=>
   intro A t B hlen h;have f:=(c.at h).1;cases y:bG b t.i with
   |true=>rfl
   |false=>
    have:t.i∈Region.ready .any ops b:=by
     refine zw f y (λe he m=> ?_) E;have d:=PT f he m;have z:e.on<ops.size:=by
      have a:=w t.aA (by
       have:=(Array.getElem?_eq_some_iff.1 f);obtain⟨k,s⟩:=this;rw[<-s];simp)
      unfold I8 at a;rw[List.all_eq_true]at a;have k:=a e (by simpa using he);simpa [m]using k
     have p:=v e.on z;rw[List.contains_iff_mem,<-o,List.mem_map]at p;obtain⟨u,hu,g⟩:=p;rw[h]at hu;rcases List.mem_append.1 hu with hu|hu
     ·obtain⟨j,r,l⟩:=List.append_of_mem hu;rw[<-g];refine G j.length ?_ j u (r++t::B) rfl (by rw[h,l];simp);rw[<-hlen,l];simp
     ·rcases List.mem_cons.1 hu with rfl|hu
      ·exfalso;have a:=x u.i (by rw[<-o,List.mem_map];exact⟨u,by rw[h];simp,rfl⟩);rw[<-g]at d;rw[d]at a;cases a
      ·exfalso;have a:=(c.after h hu).2.1;rw[g,d]at a;cases a
    rw[C]at this;simp at this
 intro t F;obtain⟨A,B,h⟩:=List.append_of_mem F;exact key _ A t B rfl h
def I5{p q:Nat->Bool}{i:Nat}:∀{l:List Nat},i∈l->(∀j,q j=V->p j=V)->p i=V->q i=U->l.countP q<l.countP p
 |[],h,_,_,_=>by simp at h
 |j::l,h,himp,a,b=>by
  have hle:∀l:List Nat,l.countP q<=l.countP p:=λl=>List.countP_mono_left λx _ d=>himp x d
  simp only[List.countP_cons];rcases List.mem_cons.1 h with rfl|h
  ·rw[a,b];have:=hle l;simp;omega
  ·have:=I5 h himp a b;cases c:q j with
   |true=>rw[himp j c];simp;omega
   |false=>cases p j<;>simp<;>omega
def lQ{a:Array Bool}{i:Nat}(b:i<a.size)(j:Nat):bG (a.setIfInBounds i V) j=if j=i then V else bG a j:=by
 unfold bG;rw[Array.getD_eq_getD_getElem?,Array.getD_eq_getD_getElem?,Array.getElem?_setIfInBounds];by_cases h:i=j
 ·subst h;simp[b]
 ·have bA:¬j=i:=λe=>h e.symm
  simp[h,bA]

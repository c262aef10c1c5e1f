/-
  Texts of one proof, laid together: Hv11 Hv12 Hv13 Hv14 Hv15.
-/
import Derived.Test.YtmhhnnklfcbgfaaGreatMB
import Derived.Orders
set_option linter.unusedVariables false
set_option linter.unusedSimpArgs false
set_option linter.defProp false
open Option renaming some→D,none→Y
open Bool renaming true→V,false→U
namespace Go.bN
structure aX where
 t:a6 aa
 size:Nat
def aX.get(C:aX)(d:Nat):aa:=match C.t.get d with
 |some v=>v
 |none=> .tuple []
def aX.put(C:aX)(dst:Option Nat)(v:aa):Option aX:=match dst with
 |none=>D C
 |some d=>if d<C.size then D {C with t:=a6.put v (d+1) C.t d}else Y
structure bY(ρ:Env)(C:aX)(a:Act):Prop where
 size:C.size=a.tmps.size
 get:∀d,a1 ρ (C.get d) (a.tmps.getD d undef)
 none:a.defers=[]
def bY.mono{ρ b:Env}{C:aX}{a:Act}(h:bY ρ C a)(hle:ρ.le b):bY b C a:=⟨h.size,λd=>(h.get d).mono hle,h.none⟩
def aX.gC{C aU:aX}{dst:Option Nat}{v:aa}(h:C.put dst v=D aU)(d:Nat):aU.get d=if dst=D d then v else C.get d:=by
 cases dst with
 |none=>simp only[aX.put,aV]at h;subst h;simp
 |some e=>
  simp only[aX.put]at h;split at h
  ·simp only[aV]at h;subst h;by_cases he:e=d
   ·subst he;simp[aX.get,a6.hI v (e+1) C.t e bj]
   ·have:(D e=D d)=False:=by simp[he]
    simp[aX.get,a6.gD v (e+1) C.t e d he,he]
  ·cases h
def aX.size_put{C aU:aX}{dst:Option Nat}{v:aa}(h:C.put dst v=D aU):aU.size=C.size:=by
 cases dst with
 |none=>simp only[aX.put,aV]at h;subst h;rfl
 |some e=>
  simp only[aX.put]at h;split at h
  ·simp only[aV]at h;subst h;rfl
  ·cases h
def aX.yl{C aU:aX}{d:Nat}{v:aa}(h:C.put (D d) v=D aU):d<C.size:=by
 simp only[aX.put]at h;split at h
 ·assumption
 ·cases h
def bY.put{ρ:Env}{C aU:aX}{a:Act}{dst:Option Nat}{v:aa}{x:Value}(h:bY ρ C a)(b:C.put dst v=D aU)(f:a1 ρ v x):bY ρ aU (a.put dst x):=by
 refine⟨?_,λd=> ?_,?_⟩
 ·rw[aX.size_put b,h.size];cases dst<;>simp[Act.put]
 ·rw[aX.gC b];cases dst with
  |none=>simpa [Act.put]using h.get d
  |some e=>
   have c:=aX.yl b;rw[h.size]at c;by_cases he:e=d
   ·subst he;simpa [Act.put,c]using f
   ·have:=h.get d;simp only[aV,he,if_false,Act.put,Array.getD_eq_getD_getElem?,Array.getElem?_setIfInBounds];simpa using this
 ·cases dst<;>simpa [Act.put]using h.none
def bn(C:aX):Operand->Option aa
 | .tmp t=>D (C.get t)
 | .const v=>hP v
 | .global _=>Y
 | .func f=>D (.func (.func f) [] [])
section
variable {P:Program}{ρ:Env}{H:ae}{w:World}{C:aX}{a:Act}
def bV(b:bY ρ C a){x:Operand}{v:aa}(h:bn C x=D v):a1 ρ v (a.eval x):=by
 cases x with
 |tmp t=>simp only[bn,aV]at h;subst h;exact b.get t
 |const c=>exact nH h ρ
 |global g=>cases h
 |func f=>simp only[bn,aV]at h;subst h;exact .func (.func f) [] [] [] [] .nil .nil
def cI(C:aX):List Operand->Option (List aa)
 |[]=>D []
 |x::xs=>match bn C x,cI C xs with
  |some v,D a=>D (v::a)
  |_,_=>Y
def fo(c:bY ρ C a):∀{xs:List Operand} {b:List aa},cI C xs=D b->bb ρ b (xs.map a.eval)
 |[],b,h=>by simp only[cI,aV]at h;subst h;exact .nil
 |x::xs,b,h=>by
  simp only[cI]at h;split at h
  ·rename_i v f d e;simp only[aV]at h;subst h;exact .cons _ _ _ _ (bV c d) (fo c e)
  ·cases h
def dk(C:aX):List (Nat×Operand)->Option (List (Nat×aa))
 |[]=>D []
 |(i,x)::xs=>match bn C x,dk C xs with
  |some v,D a=>D ((i,v)::a)
  |_,_=>Y
def rW(c:bY ρ C a):∀{xs:List (Nat×Operand)} {b:List (Nat×aa)},dk C xs=D b->gg ρ b (xs.map λ(i,x)=>(i,a.eval x))
 |[],b,h=>by simp only[dk,aV]at h;subst h;exact trivial
 |(i,x)::xs,b,h=>by
  simp only[dk]at h;split at h
  ·rename_i v f d e;simp only[aV]at h;subst h;exact⟨rfl,bV c d,rW c e⟩
  ·cases h
def dJ(C:aX):Option Operand->Option (Option aa)
 |none=>D Y
 |some x=>match bn C x with
  |some v=>D (D v)
  |none=>Y
def rZ(b:bY ρ C a){x:Option Operand}{v:Option aa}(h:dJ C x=D v):gf ρ v (x.map a.eval):=by
 cases x with
 |none=>simp only[dJ,aV]at h;subst h;exact .none
 |some x=>
  simp only[dJ]at h;split at h
  ·rename_i u hu;simp only[aV]at h;subst h;exact .some _ _ (bV b hu)
  ·cases h
def aL:aa->Option aa
 | .ptr l i c=>D (.ptr l i c)
 | .iface t v=>D (.iface t v)
 | .func (.func f) x y=>D (.func (.func f) x y)
 |_=>Y
def ej(P:Program)(t:TypeId)(v:aa):Option aa:=
 match P.underlying t with
 |some (.interface _)=>Y
 |some _=>D (.iface t v)
 |none=>Y
def aW(P:Program)(H:ae)(b:Builtin)(ts:List TypeId)(a:List aa):Option aa:=
 match b,ts,a with
 | .len,[t],[x]=>rL P H t x
 | .max,_,[x,y]=>rQ x y
 | .min,_,[x,y]=>rR x y
 | .cap,[t],[x]=>rI P t x
 |_,_,_=>Y
def hp(P:Program)(t:TypeId)(ok:Bool)(v:aa):Option aa:=
 match v with
 | .iface d u=>if d=t/\ok=U then(match P.underlying t with|some (.interface _)=>Y|some _=>D u|none=>Y)else Y
 |_=>Y
def c0(P:Program)(aw:Op)(C:aX):Option aa:=
 match aw with
 | .move x=>bn C x
 | .assign x=>bn C x
 | .pick c a b=>match bn C c with
  |some (.bool t)=>if t then bn C a else bn C b
  |_=>Y
 | .build t n=>(dk C n.toList).bind (bh P t)
 | .nilCheck x=>(bn C x).bind aL
 | .binOp op t x y _=>(bn C x).bind λu=>(bn C y).bind λv=>hq P op t x y u v
 | .unOp op _ x=>(bn C x).bind (bt op)
 | .convert s d x=>(bn C x).bind (ht P s d)
 | .makeInterface t x=>(bn C x).bind (ej P t)
 | .makeFunc fn f c=>(cI C f.toList).bind λe=>(cI C c.toList).bind λcs=>D (.func fn e cs)
 | .slice t x j g k=>(bn C x).bind λv=>(dJ C j).bind λl=>(dJ C g).bind λh=>(dJ C k).bind λm=>c1 P t v l h m
 | .fieldAddr t x f=>(bn C x).bind λv=>ak P t v f
 | .field t x f=>(bn C x).bind λv=>bp P t v f
 | .indexAddr t x i=>(bn C x).bind λu=>(bn C i).bind λv=>aF P t u v
 | .index t x i=>(bn C x).bind λu=>(bn C i).bind λv=>cj P t u v
 | .extract x i=>(bn C x).bind λv=>bG v i
 | .typeAssert x _ t ok=>(bn C x).bind (hp P t ok)
 | .call c=>match c.callee with
  | .builtin b=>(cI C c.args.toList).bind (aW P .empty b c.argTypes.toList)
  |_=>Y
 |_=>Y
def ch{s:Sem Value}{x:Value}{w a:World}(h:s.run P w= .ok x a):(do pure (.value (<-s)):Sem Next).run P w= .ok (.value x) a:=by
 simp[h]
def sU{s:Sem Unit}{w a:World}(h:s.run P w= .ok () a):(do s;pure .skip:Sem Next).run P w= .ok .skip a:=by
 simp[h]
def Rel.empty(ρ:Env)(w:World)(n:Nat):Rel ρ ⟨.leaf,n⟩ w:=by
 have:∀l,(⟨.leaf,n⟩:ae).get l=none:=λl=>by unfold ae.get;split<;>first|exact a6.gB _|rfl
 refine⟨λl _ _ _ h=> ?_,λl _ h=> ?_,λl _ _ _ h=> ?_,λl a _ _ h=> ?_⟩
 ·rw[this]at h;cases h
 ·rw[this]at h;cases h
 ·rw[this]at h;cases h
 ·rcases h with⟨_,_,h⟩|⟨_,h⟩|⟨_,_,_,h⟩<;>(rw[this]at h;cases h)
def vQ(k:Rel ρ H w){b:Builtin}{ts:List TypeId}{j:List aa}{v:aa}{xs:List Value}(h:aW P H b ts j=D v)(f:bb ρ j xs)(ty:TypeId)(cs:Array Bool):
  ∃x,(builtin b ts.toArray ty cs xs.toArray).run P w= .ok (.value x) w/\a1 ρ v x:=by
 unfold aW at h;split at h
 ·cases f with|cons _ x _ _ d e=>
  cases e;obtain⟨r,a,c⟩:=zE k ty h d;exact⟨r,ch a,c⟩
 ·cases f with|cons _ x _ _ d e=>
  cases e with|cons _ y _ _ g i=>
  cases i;obtain⟨r,a,c⟩:=zJ (P:=P) ts.toArray ty h d g w;exact⟨r,ch a,c⟩
 ·cases f with|cons _ x _ _ d e=>
  cases e with|cons _ y _ _ g i=>
  cases i;obtain⟨r,a,c⟩:=zL (P:=P) ts.toArray ty h d g w;exact⟨r,ch a,c⟩
 ·cases f with|cons _ x _ _ d e=>
  cases e;obtain⟨r,a,c⟩:=zn (P:=P) ty h d w;exact⟨r,ch a,c⟩
 ·cases h
def map_toArray{α β:Type}(f:α->β)(xs:Array α):xs.map f=(xs.toList.map f).toArray:=by cases xs;simp
def nQ{aw:Oper}{c:Call}{b:Builtin}(e:aw.op= .call c)(d:c.callee= .builtin b)(w:World):
  (execOp a.eval aw).run P w=(builtin b c.argTypes aw.type (c.args.map λ | .const _=>V|_=>U) (c.args.map a.eval)).run P w:=by
 unfold execOp;rw[e];simp only[resolve,d];rfl
def zV{aw:Oper}{v:aa}(h:c0 P aw.op C=D v)(n:bY ρ C a)(w:World):∃x,(execOp a.eval aw).run P w= .ok (.value x) w/\a1 ρ v x:=by
 unfold c0 at h;split at h
 ·rename_i x g;exact⟨_,by unfold execOp;rw[g];rfl,bV n h⟩
 ·rename_i x g;exact⟨_,by unfold execOp;rw[g];rfl,bV n h⟩
 ·rename_i c x y g;split at h
  ·rename_i t H;have j:=bV n H;have o:a.eval c= .bool t:=by
    generalize a.eval c=z at j;cases j;rfl
   cases t
   ·exact⟨_,by unfold execOp;rw[g];simp only[o];rfl,bV n h⟩
   ·exact⟨_,by unfold execOp;rw[g];simp only[o];rfl,bV n h⟩
  ·cases h
 ·rename_i t R g;simp only[bZ]at h;obtain⟨L,j,o⟩:=h;obtain⟨x,p,q⟩:=zk o (rW n j) w;refine⟨x,?_,q⟩;unfold execOp;rw[g];rw[<-map_toArray]at p;exact ch p
 ·rename_i x g;simp only[bZ]at h;obtain⟨u,j,o⟩:=h;have e:=bV n j;refine⟨a.eval x,?_,?_⟩
  ·unfold execOp;rw[g];simp only
   generalize a.eval x=z at e;unfold aL at o;split at o
   ·cases e;rfl
   ·cases e;rfl
   ·cases e;rfl
   ·cases o
  ·unfold aL at o;split at o<;>first|(simp only[aV]at o;subst o;exact e)|cases o
 ·rename_i op t x y W g;simp only[bZ]at h;obtain⟨u,j,z,o,e⟩:=h;obtain⟨r,p,q⟩:=zh e (bV n j) (bV n o) w;exact⟨r,by unfold execOp;rw[g];exact ch p,q⟩
 ·rename_i op t x g;simp only[bZ]at h;obtain⟨u,j,e⟩:=h;obtain⟨r,p,q⟩:=z7 e (bV n j) w;exact⟨r,by unfold execOp;rw[g];exact ch p,q⟩
 ·rename_i s d x g;simp only[bZ]at h;obtain⟨u,j,e⟩:=h;obtain⟨r,p,q⟩:=zp e (bV n j) w;exact⟨r,by unfold execOp;rw[g];exact ch p,q⟩
 ·rename_i t x g;simp only[bZ]at h;obtain⟨u,j,e⟩:=h;have A:=bV n j;unfold ej at e;split at e
  ·cases e
  ·rename_i d F hu;simp only[aV]at e;subst e;refine⟨.iface t (a.eval x),?_,.iface _ _ _ A⟩;unfold execOp;rw[g];refine ch ?_;unfold Instr.makeInterface;simp only[Sem.run_bind,run_underlying hu,Result.andThen_ok];cases d<;>first|rfl|exact absurd rfl (F _)
  ·cases e
 ·rename_i fn f c g;simp only[bZ,aV]at h;obtain⟨G,j,cs,o,rfl⟩:=h;refine⟨_,?_,.func fn G cs _ _ (fo n j) (fo n o)⟩;unfold execOp;rw[g];rw[<-map_toArray,<-map_toArray];rfl
 ·rename_i t x O N Q g;simp only[bZ]at h;obtain⟨u,j,l,o,k,e,m,A,B⟩:=h;obtain⟨r,p,q⟩:=z1 B (bV n j) (rZ n o) (rZ n e) (rZ n A) w;exact⟨r,by unfold execOp;rw[g];exact ch p,q⟩
 ·rename_i t x f g;simp only[bZ]at h;obtain⟨u,j,e⟩:=h;obtain⟨r,p,q⟩:=zx e (bV n j) w;exact⟨r,by unfold execOp;rw[g];exact ch p,q⟩
 ·rename_i t x f g;simp only[bZ]at h;obtain⟨u,j,e⟩:=h;obtain⟨r,p,q⟩:=zy e (bV n j) w;exact⟨r,by unfold execOp;rw[g];exact ch p,q⟩
 ·rename_i t x i g;simp only[bZ]at h;obtain⟨u,j,z,o,e⟩:=h;obtain⟨r,p,q⟩:=zz e (bV n j) (bV n o) w;exact⟨r,by unfold execOp;rw[g];exact ch p,q⟩
 ·rename_i t x i g;simp only[bZ]at h;obtain⟨u,j,z,o,e⟩:=h;obtain⟨r,p,q⟩:=zB e (bV n j) (bV n o) w;exact⟨r,by unfold execOp;rw[g];exact ch p,q⟩
 ·rename_i x i g;simp only[bZ]at h;obtain⟨u,j,e⟩:=h;obtain⟨r,p,q⟩:=zv e (bV n j) w;exact⟨r,by unfold execOp;rw[g];exact ch p,q⟩
 ·rename_i x T t ok g;simp only[bZ]at h;obtain⟨u,j,e⟩:=h;have A:=bV n j;unfold hp at e;split at e
  ·rename_i d S;split at e
   ·rename_i E;obtain⟨rfl,rfl⟩:=E;generalize he:a.eval x=z at A;cases A with|iface _ _ M B=>
    split at e
    ·cases e
    ·rename_i K F hu;simp only[aV]at e;subst e;refine⟨M,?_,B⟩;unfold execOp;rw[g];refine ch ?_;rw[he];unfold Instr.typeAssert;simp only[Sem.run_bind,run_underlying hu,Result.andThen_ok];cases K<;>first|exact absurd rfl (F _)|simp
    ·cases e
   ·cases e
  ·cases e
 ·rename_i c g;split at h
  ·rename_i b E;simp only[bZ]at h;obtain⟨L,j,o⟩:=h;obtain⟨x,p,q⟩:=vQ (Rel.empty ρ w 0) o (fo n j) aw.type (c.args.map λ | .const _=>V|_=>U);refine⟨x,?_,q⟩;rw[nQ g E,map_toArray a.eval];simpa using p
  ·cases h
 ·cases h
def cC(P:Program)(aw:Op)(C:aX)(H:ae):Option aa:=
 match aw with
 | .load t x=>(bn C x).bind (ah P H t)
 | .lookup t x k ok=>(bn C x).bind λu=>(bn C k).bind λv=>dv P H t u v ok
 | .convert s d x=>(bn C x).bind (hs P H s d)
 | .call c=>match c.callee with
  | .builtin b=>(cI C c.args.toList).bind (aW P H b c.argTypes.toList)
  |_=>Y
 |_=>Y
def zX(m:Rel ρ H w){aw:Oper}{v:aa}(h:cC P aw.op C H=D v)(l:bY ρ C a):∃x,(execOp a.eval aw).run P w= .ok (.value x) w/\a1 ρ v x:=by
 unfold cC at h;split at h
 ·rename_i t x i;simp only[bZ]at h;obtain⟨u,g,j⟩:=h;obtain⟨r,e,f⟩:=rN m j (bV l g);exact⟨r,by unfold execOp;rw[i];exact ch e,f⟩
 ·rename_i t x k ok i;simp only[bZ]at h;obtain⟨u,g,z,n,j⟩:=h;obtain⟨r,e,f⟩:=zF m j (bV l g) (bV l n);exact⟨r,by unfold execOp;rw[i];exact ch e,f⟩
 ·rename_i s d x i;simp only[bZ]at h;obtain⟨u,g,j⟩:=h;obtain⟨r,e,f⟩:=zl m j (bV l g);exact⟨r,by unfold execOp;rw[i];exact ch e,f⟩
 ·rename_i c i;split at h
  ·rename_i b o;simp only[bZ]at h;obtain⟨p,g,n⟩:=h;obtain⟨x,e,f⟩:=vQ m n (fo l g) aw.type (c.args.map λ | .const _=>V|_=>U);refine⟨x,?_,f⟩;rw[nQ i o,map_toArray a.eval];simpa using e
  ·cases h
 ·cases h
def fk(P:Program)(aw:Op)(C:aX)(H:ae):Option (aa×ae):=
 match aw with
 | .alloc t=>m8 P H t
 | .box t x=>(bn C x).bind (gi (gI P t) H)
 | .buildSlice t n a=>(dk C a.toList).bind (hr P H t n)
 | .makeMap _ Y=>D (rO H)
 | .makeSlice t l c=>(bn C l).bind λu=>(bn C c).bind λv=>cO P H t u v
 |_=>Y
def zN(m:Rel ρ H w)(o:ρ H.next=Y){aw:Oper}{v:aa}{H':ae}(h:fk P aw.op C H=D (v,H'))(p:bY ρ C a):
  ∃x b d,(execOp a.eval aw).run P w= .ok (.value x) b/\a1 d v x/\Step ρ H w d H' b:=by
 unfold fk at h;split at h
 ·rename_i t i;obtain⟨r,b,d,e,f,g⟩:=zf m o h;exact⟨r,b,d,by unfold execOp;rw[i];exact ch e,f,g⟩
 ·rename_i t x i;simp only[bZ]at h;obtain⟨u,j,k⟩:=h;obtain⟨r,b,d,e,f,g⟩:=vP (P:=P) m o k (bV p j) t (λy h=>xY h);exact⟨r,b,d,by unfold execOp;rw[i];exact ch e,f,g⟩
 ·rename_i t n s i;simp only[bZ]at h;obtain⟨u,j,k⟩:=h;obtain⟨r,b,d,e,f,g⟩:=zi m o k (rW p j);refine⟨r,b,d,?_,f,g⟩;unfold execOp;rw[i];rw[<-map_toArray]at e;exact ch e
 ·rename_i t i;simp only[aV]at h;obtain⟨r,b,d,e,f,g⟩:=zG (P:=P) m o t;rw[h]at f g;exact⟨r,b,d,by unfold execOp;rw[i];exact ch e,f,g⟩
 ·rename_i t l c i;simp only[bZ]at h;obtain⟨u,j,z,q,k⟩:=h;obtain⟨r,b,d,e,f,g⟩:=zI m o k (bV p j) (bV p q);exact⟨r,b,d,by unfold execOp;rw[i];exact ch e,f,g⟩
 ·cases h
def bk.dM:bk->Bool
 | .row U _ _=>V
 | .map _=>V
 | .bS _ _ _=>V
 |_=>U
def bk.dM.ro{b:bk}(h:b.dM=V):b.hJ=false:=by
 cases b with
 |row ro e s=>cases ro<;>first|rfl|cases h
 |map es=>rfl
 |bS t e s=>rfl
 |dead=>rfl
def cz(r:Option (aa×ae))(l:Nat):Option (aa×bk):=
 match r with
 |some (v,H')=>if H'.next=l+1 then(match H'.get l with
  |some b=>if b.dM then D (v,b)else Y
  |none=>Y)else Y
 |none=>Y
def dw(P:Program)(aw:Op)(C:aX)(l:Nat):Option (aa×bk):=cz (fk P aw C ⟨.leaf,l⟩) l
def dx(P:Program)(aw:Op)(C:aX)(H:ae):Option (aa×ae):=
 match aw with
 | .store t x y=>(bn C x).bind λu=>(bn C y).bind λv=>(aA P H t u v).map λH'=>(.tuple [],H')
 | .mapUpdate t m k x=>(bn C m).bind λu=>(bn C k).bind λv=>(bn C x).bind λz=>(eH P H t u v z).map λH'=>(.tuple [],H')
 | .insert t m k x=>(bn C m).bind λu=>(bn C k).bind λv=>(bn C x).bind λz=>(eH P H t u v z).map λH'=>(.tuple [],H')
 | .call c=>match c.callee,c.args.toList with
  | .builtin .append,[s,x]=>(bn C s).bind λu=>(bn C x).bind λv=>bJ P H c.argTypes.toList u v
  | .builtin .clear,[x]=>(bn C x).bind λu=>(m9 P H c.argTypes.toList u).map λH'=>(.tuple [],H')
  |_,_=>Y
 |_=>Y
def vM(x:Value):Next->Prop
 | .value y=>y=x
 | .skip=>x=undef
 |_=>False
def Ac(o:Rel ρ H w){aw:Oper}{v:aa}{H':ae}(h:dx P aw.op C H=D (v,H'))(F:H.next<H'.next->ρ H.next=Y)(d:bY ρ C a):
  ∃n x b p,(execOp a.eval aw).run P w= .ok n b/\vM x n/\a1 p v x/\Step ρ H w p H' b:=by
 unfold dx at h;split at h
 ·rename_i t x y j;simp only[bZ,Option.map_eq_some_iff,bE]at h;obtain⟨u,g,z,l,H1,i,rfl,rfl⟩:=h;obtain⟨b,e,f⟩:=z2 o i (bV d g) (bV d l);exact⟨.skip,undef,b,ρ,by unfold execOp;rw[j];exact sU e,rfl,.tuple [] [] .nil,f⟩
 ·rename_i t m k x j;simp only[bZ,Option.map_eq_some_iff,bE]at h;obtain⟨u,g,z,l,y,q,H1,i,rfl,rfl⟩:=h;obtain⟨b,e,f⟩:=vW o i (bV d g) (bV d l) (bV d q);exact⟨.skip,undef,b,ρ,by unfold execOp;rw[j];exact sU e,rfl,.tuple [] [] .nil,f⟩
 ·rename_i t m k x j;simp only[bZ,Option.map_eq_some_iff,bE]at h;obtain⟨u,g,z,l,y,q,H1,i,rfl,rfl⟩:=h;obtain⟨b,e,f⟩:=vW o i (bV d g) (bV d l) (bV d q);exact⟨.skip,undef,b,ρ,by unfold execOp;rw[j];exact sU e,rfl,.tuple [] [] .nil,f⟩
 ·rename_i c j;split at h
  ·rename_i s x B A;simp only[bZ]at h;obtain⟨u,g,z,l,i⟩:=h;obtain⟨r,b,p,e,f,E⟩:=zg o aw.type i F (bV d g) (bV d l);refine⟨.value r,r,b,p,?_,rfl,f,E⟩;rw[nQ j B,map_toArray a.eval,A];refine ch (s:=Builtin.append_ c.argTypes aw.type _) ?_;simpa using e
  ·rename_i x B A;simp only[bZ,Option.map_eq_some_iff,bE]at h;obtain⟨u,g,H1,i,rfl,rfl⟩:=h;obtain⟨b,e,f⟩:=zo o aw.type i (bV d g);refine⟨.value (.tuple #[]),.tuple #[],b,ρ,?_,rfl,.tuple [] [] .nil,f⟩;rw[nQ j B,map_toArray a.eval,A];refine ch (s:=Builtin.clear_ c.argTypes aw.type _) ?_;simpa using e
  ·cases h
 ·cases h
end
section
variable {P:Program}{ρ:Env}{H:ae}{w:World}{C:aX}{a:Act}
def dd(ρ:Env)(w:World)(loc:Loc):bk->Prop
 | .row ro esz els=>cl ρ w loc ro esz els
 | .map es=>rE ρ w loc es
 | .bS t esz els=>eE ρ w loc t esz els
 | .dead=>True
def dd.frame{l:Env}{k:World}{loc:Loc}{b:bk}(h:dd ρ w loc b)(hle:ρ.le l)(a:k.heap[loc.block]? =w.heap[loc.block]?):dd l k loc b:=by
 cases b with
 |row ro esz els=>
  obtain⟨d,c,t,m,f,g,o⟩:=h;refine⟨d,c,t,m,by rw[a];exact f,g,λi e he=> ?_⟩;obtain⟨p,q⟩:=o i e he;refine⟨p,λj v n=> ?_⟩;obtain⟨r,x,s,u⟩:=q j v n;exact⟨r,x,s,u.mono hle⟩
 |map es=>
  obtain⟨ents,clock,d,f,g⟩:=h;exact⟨ents,clock,by rw[a];exact d,f.mono hle,g.mono hle⟩
 |bS t esz els=>exact eE.frame h hle a
 |dead=>trivial
def dd.lt{loc:Loc}{b:bk}(h:dd ρ w loc b)(a:b.dM=V):loc.block<w.heap.size:=by
 cases b with
 |row ro esz els=>obtain⟨_,c,t,f,e,_⟩:=h;exact dA e
 |map es=>obtain⟨ents,clock,d,_⟩:=h;exact dA d
 |bS t esz els=>exact h.1.lt
 |dead=>cases a
def Rel.grow{m:Env}{q:World}(h:Rel ρ H w)(hle:ρ.le m)(i:∀b,b<w.heap.size->q.heap[b]? =w.heap[b]?):Rel m H q:=by
 refine⟨λl ro esz els e=> ?_,λl es e=> ?_,λl t esz els e=> ?_,λl v loc g n o u r s=> ?_⟩
 ·obtain⟨loc,a,d⟩:=h.row l ro esz els e;refine⟨loc,hle _ _ a,?_⟩;have:=d;obtain⟨_,c,t,x,j,_⟩:=this;exact dd.frame (b:= .row ro esz els) d hle (i _ (dA j))
 ·obtain⟨loc,a,d⟩:=h.map l es e;refine⟨loc,hle _ _ a,?_⟩;have:=d;obtain⟨_,_,j,_⟩:=this;exact dd.frame (b:= .map es) d hle (i _ (dA j))
 ·obtain⟨loc,a,d⟩:=h.bS l t esz els e;exact⟨loc,hle _ _ a,d.frame hle (i _ d.1.lt)⟩
 ·have p:∀k loc,H.live k->m k=D loc->ρ k=D loc:=λk loc f e=>by
   rcases f with⟨ro,esz,els,f⟩|⟨es,f⟩|⟨t,esz,els,f⟩
   ·obtain⟨g,a,_⟩:=h.row _ _ _ _ f;rw[hle _ _ a]at e;rw[a];exact e
   ·obtain⟨g,a,_⟩:=h.map _ _ f;rw[hle _ _ a]at e;rw[a];exact e
   ·obtain⟨g,a,_⟩:=h.bS _ _ _ _ f;rw[hle _ _ a]at e;rw[a];exact e
  exact h.apart l v loc g n o u (p _ _ n.live r) (p _ _ o s)
def Rel.su(h:Rel ρ H w){l:Nat}(e:H.live l):∃loc,ρ l=D loc/\loc.block<w.heap.size:=by
 rcases e with⟨ro,esz,els,a⟩|⟨es,a⟩|⟨t,esz,els,a⟩
 ·obtain⟨loc,b,_,c,t,g,d,_⟩:=h.row _ _ _ _ a;exact⟨loc,b,dA d⟩
 ·obtain⟨loc,b,_,_,d,_⟩:=h.map _ _ a;exact⟨loc,b,dA d⟩
 ·obtain⟨loc,b,f⟩:=h.bS _ _ _ _ a;exact⟨loc,b,f.1.lt⟩
def zP{aw:Oper}{l:Nat}{v:aa}{b:bk}(h:dw P aw.op C l=D (v,b))(A:bY ρ C a)(s:ρ l=Y)(w:World):
  ∃x d e loc,(execOp a.eval aw).run P w= .ok (.value x) d/\a1 e v x/\ρ.le e/\(∀k,k≠l->e k=ρ k)/\e l=D loc/\w.heap.size<=loc.block/\b.dM=V/\dd e d loc b/\
   d.os=w.os/\d.tape=w.tape/\d.output=w.output/\w.heap.size<=d.heap.size/\∀k,k<w.heap.size->d.heap[k]? =w.heap[k]? :=by
 unfold dw cz at h;split at h
 ·rename_i F H' q;split at h
  ·rename_i z;split at h
   ·rename_i b5 f;split at h
    ·rename_i g;simp only[aV,bE]at h;obtain⟨rfl,rfl⟩:=h;obtain⟨x,d,e,n,o,c⟩:=zN (Rel.empty ρ w l) s q A;have j:∀k,¬cN ρ ⟨.leaf,l⟩ k:=by
      rintro k ⟨B,loc,p,_,_⟩;have u:(⟨.leaf,l⟩:ae).get B=none:=by unfold ae.get;split<;>first|exact a6.gB _|rfl
      rcases p with⟨_,_,h⟩|⟨_,h⟩|⟨_,_,_,h⟩<;>(rw[u]at h;cases h)
     have y:H'.rw l:=by
      cases b5 with
      |row ro esz els=>cases ro with
       |true=>cases g
       |false=>exact .inl ⟨_,_,f⟩
      |map es=>exact .inr (.inl ⟨_,f⟩)
      |bS t esz els=>exact .inr (.inr ⟨_,_,_,f⟩)
      |dead=>cases g
     have r:∃loc,e l=D loc/\dd e d loc b5:=by
      cases b5 with
      |row ro esz els=>exact c.rel.row _ _ _ _ f
      |map es=>exact c.rel.map _ _ f
      |bS t esz els=>exact c.rel.bS _ _ _ _ f
      |dead=>cases g
     obtain⟨loc,m,E⟩:=r;refine⟨x,d,e,loc,n,o,c.le,λk i=>c.cD k ?_,m,?_,g,E,c.os,c.tape,c.output,c.size,λk i=>c.frame k i (j k)⟩
     ·rw[z];show k<l\/_;omega
     ·exact(c.own loc.block ⟨l,loc,y,m,rfl⟩).resolve_left (j _)
    ·cases h
   ·cases h
  ·cases h
 ·cases h
structure ca(ρ0:Env)(ba:ae)(w0:World)(N:Nat)(c4:Nat->Option bk)(ρ:Env)(H:ae)(w:World):Prop where
 hY:Rel ρ0 ba w0
 le:ρ0.le ρ
 next:ba.next<=H.next
 cD:∀l,l<ba.next\/N<=l->ρ l=ρ0 l
 rel:Rel ρ H w
 os:w.os=w0.os
 tape:w.tape=w0.tape
 output:w.output=w0.output
 size:w0.heap.size<=w.heap.size
 frame:∀b,b<w0.heap.size->¬cN ρ0 ba b->w.heap[b]? =w0.heap[b]?
 own:∀b,cN ρ H b->cN ρ0 ba b\/w0.heap.size<=b
 ro:∀l esz els,H.get l=some (.row true esz els)->ba.get l=some (.row true esz els)
 fresh:∀l,H.next<=l->l<N->c4 l=none->ρ l=none
 dp:∀l b,c4 l=some b->H.next<=l/\l<N/\b.dM=true/\∃loc,ρ l=some loc/\dd ρ w loc b/\w0.heap.size<=loc.block/\¬cN ρ H loc.block
 sep:∀l a b b5 loc c,c4 l=some b->c4 a=some b5->l≠a->ρ l=some loc->ρ a=some c->loc.block≠c.block
variable {ρ0:Env}{ba:ae}{w0:World}{N:Nat}{c4:Nat->Option bk}
def ca.start(h:Rel ρ0 ba w0)(c:vN ρ0 ba.next N):ca ρ0 ba w0 N (λ_=>Y) ρ0 ba w0:=
 ⟨h,ρ0.le_refl,bM _,λ_ _=>rfl,h,rfl,rfl,rfl,bM _,λ_ _ _=>rfl,λ_ h=> .inl h,λ_ _ _ h=>h,λl a b _=>c l a b,λ_ _ h=>by simp at h,λ_ _ _ _ _ _ h=>by simp at h⟩
def ca.done(m:ca ρ0 ba w0 N c4 ρ H w)(a:H.next=N):Step ρ0 ba w0 ρ H w:=
 ⟨m.le,m.next,λl b=>m.cD l (by rw[<-a];exact b),m.rel,m.os,m.tape,m.output,m.size,m.frame,m.own,m.ro⟩
def ca.step{v:Env}{H':ae}{u:World}(m:ca ρ0 ba w0 N c4 ρ H w)(s:Step ρ H w v H' u)(y:H'.next<=N)(B:∀l b,c4 l=D b->H'.next<=l):ca ρ0 ba w0 N c4 v H' u where
 hY:=m.hY
 le:=Env.le_trans m.le s.le
 next:=Nat.le_trans m.next s.next
 cD:=λl k=>(s.cD l (k.imp (λh=>Nat.lt_of_lt_of_le h m.next) (λh=>Nat.le_trans y h))).trans (m.cD l k)
 rel:=s.rel
 os:=s.os.trans m.os
 tape:=s.tape.trans m.tape
 output:=s.output.trans m.output
 size:=Nat.le_trans m.size s.size
 frame:=λb f n=>by
  rw[s.frame b (Nat.lt_of_lt_of_le f m.size) (λd=>(m.own b d).elim n (λhle=>bj)),m.frame b f n]
 own:=λb f=>(s.own b f).elim (λd=>m.own b d) (λhle=> .inr (Nat.le_trans m.size hle))
 ro:=λl esz els e=>m.ro l esz els (s.ro l esz els e)
 fresh:=λl a b c=>by rw[s.cD l (.inr a)];exact m.fresh l (Nat.le_trans s.next a) b c
 dp:=λl b h=>by
  obtain⟨L,C,p,loc,g,q,E,r⟩:=m.dp l b h;have z:=q.lt p;refine⟨B l b h,C,p,loc,s.le _ _ g,q.frame s.le (s.frame _ z r),E,λd=> ?_⟩;rcases s.own _ d with h|h
  ·exact r h
  ·omega
 sep:=λl o b b5 loc F h bs A e x=>by
  obtain⟨_,_,_,G,g,_⟩:=m.dp l b h;obtain⟨_,_,_,K,t,_⟩:=m.dp o b5 bs;have i:=s.le _ _ g;rw[e]at i;cases i;have j:=s.le _ _ t;rw[x]at j;cases j;exact m.sep l o b b5 _ _ h bs A g t
def ca.early{o:Env}{n:World}{l:Nat}{b:bk}{loc:Loc}(m:ca ρ0 ba w0 N c4 ρ H w)(O:H.next<=l)(K:l<N)(ae:c4 l=Y)
  (hle:ρ.le o) (t:∀k,k≠l->o k=ρ k) (z:o l=D loc) (M:w.heap.size<=loc.block) (T:b.dM=V) (L:dd o n loc b) (Q:n.os=w.os) (aa:n.tape=w.tape) (R:n.output=w.output)
  (W:w.heap.size<=n.heap.size) (y:∀k,k<w.heap.size->n.heap[k]? =w.heap[k]?):ca ρ0 ba w0 N (λk=>if k=l then D b else c4 k) o H n:=by
 have hold:∀k f,H.live k->o k=D f->ρ k=D f:=λk f t e=>by
  obtain⟨F,j,_⟩:=m.rel.su t;have:=hle _ _ j;rw[e]at this;cases this;exact j
 have B:∀k,cN o H k->cN ρ H k:=by
  rintro k ⟨E,f,a,c,i⟩;exact⟨E,f,a,hold _ _ a.live c,i⟩
 have S:∀k,cN ρ H k->k<w.heap.size:=by
  rintro k ⟨E,f,a,c,i⟩;obtain⟨F,j,C⟩:=m.rel.su a.live;rw[c]at j;cases j;rw[<-i];exact C
 refine⟨m.hY,Env.le_trans m.le hle,m.next,λk h=> ?_,m.rel.grow hle y,Q.trans m.os,aa.trans m.tape,R.trans m.output,Nat.le_trans m.size W,λk a c=> ?_,
  λk h=>m.own k (B k h),m.ro,λk a c i=> ?_,λk b5 h=> ?_,λk r v x F af h bs P e s=> ?_⟩
 ·rw[t k (by have:=m.next;omega)];exact m.cD k h
 ·rw[y k (Nat.lt_of_lt_of_le a m.size)];exact m.frame k a c
 ·by_cases d:k=l
  ·subst d;simp at i
  ·simp only[d,if_false]at i;rw[t k d];exact m.fresh k a c i
 ·by_cases d:k=l
  ·subst d;simp only[if_true,aV]at h;subst h;exact⟨O,K,T,loc,z,L,Nat.le_trans m.size M,λA=>by have:=S _ (B _ A);omega⟩
  ·simp only[d,if_false]at h;obtain⟨j,C,p,f,g,q,ab,ad⟩:=m.dp k b5 h;exact⟨j,C,p,f,hle _ _ g,q.frame hle (y _ (q.lt p)),ab,λA=>ad (B _ A)⟩
 ·by_cases d:k=l
  ·by_cases u:r=l
   ·omega
   ·subst d;simp only[u,if_false]at bs;obtain⟨_,_,p,f,g,q,_,_⟩:=m.dp r x bs;have:=hle _ _ g;rw[s]at this;cases this;rw[z]at e;cases e;have:=q.lt p;omega
  ·by_cases u:r=l
   ·subst u;simp only[d,if_false]at h;obtain⟨_,_,p,f,g,q,_,_⟩:=m.dp k v h;have:=hle _ _ g;rw[e]at this;cases this;rw[z]at s;cases s;have:=q.lt p;omega
   ·simp only[d,if_false]at h;simp only[u,if_false]at bs;obtain⟨_,_,_,ah,g,_⟩:=m.dp k v h;obtain⟨_,_,_,ai,G,_⟩:=m.dp r x bs;have a:=hle _ _ g;rw[e]at a;cases a;have c:=hle _ _ G;rw[s]at c;cases c;exact m.sep k r v x _ _ h bs P g G
def ca.yU{b:bk}(m:ca ρ0 ba w0 N c4 ρ H w)(A:c4 H.next=D b):ca ρ0 ba w0 N (λk=>if k=H.next then Y else c4 k) ρ (H.push b) w:=by
 obtain⟨_,aa,O,loc,i,v,P,Q⟩:=m.dp _ _ A;have x:∀k,(H.push b).rw k->k≠H.next->H.rw k:=λk h c=>by simpa [ae.rw,ae.cp c]using h
 have B:∀k,(H.push b).live k->k≠H.next->H.live k:=λk h c=>by simpa [ae.live,ae.cp c]using h
 have y:∀k f,H.live k->ρ k=D f->f.block≠loc.block:=by
  intro k f c e heq;by_cases u:H.rw k
  ·exact Q ⟨k,f,u,e,heq⟩
  ·rcases c with⟨ro,esz,els,c⟩|c
   ·cases ro with
    |false=>exact u (.inl ⟨_,_,c⟩)
    |true=>
     have L:=m.ro _ _ _ c;obtain⟨ab,C,E⟩:=m.hY.su (.inl ⟨_,_,_,L⟩);have:=m.le _ _ C;rw[e]at this;cases this;omega
   ·exact u (.inr c)
 have z:∀k,cN ρ (H.push b) k->cN ρ H k\/k=loc.block:=by
  rintro k ⟨d,f,r,n,o⟩;by_cases a:d=H.next
  ·subst a;rw[i]at n;cases n;exact .inr o.symm
  ·exact .inl ⟨d,f,x _ r a,n,o⟩
 refine⟨m.hY,m.le,by have:=m.next;simp;omega,m.cD,⟨λl ro esz els h=> ?_,λl es h=> ?_,λl t esz els h=> ?_,λl d p q h bs s e j=> ?_⟩,m.os,m.tape,m.output,m.size,m.frame,
  λk h=> ?_,λl esz els h=>m.ro l esz els (ae.sQ (bk.dM.ro O) l esz els h),λl r n o=> ?_,λl b5 h=> ?_,λl d G K p q h bs s e j=> ?_⟩
 ·by_cases a:l=H.next
  ·subst a;rw[ae.cJ]at h;simp only[aV]at h;subst h;exact⟨loc,i,v⟩
  ·rw[ae.cp a]at h;exact m.rel.row _ _ _ _ h
 ·by_cases a:l=H.next
  ·subst a;rw[ae.cJ]at h;simp only[aV]at h;subst h;exact⟨loc,i,v⟩
  ·rw[ae.cp a]at h;exact m.rel.map _ _ h
 ·by_cases a:l=H.next
  ·subst a;rw[ae.cJ]at h;simp only[aV]at h;subst h;exact⟨loc,i,v⟩
  ·rw[ae.cp a]at h;exact m.rel.bS _ _ _ _ h
 ·by_cases a:l=H.next
  ·by_cases g:d=H.next
   ·omega
   ·subst a;rw[i]at e;cases e;exactλheq=>y d q (B _ bs g) j heq.symm
  ·by_cases g:d=H.next
   ·subst g;rw[i]at j;cases j;exact y l p (x _ h a).live e
   ·exact m.rel.apart l d p q (x _ h a) (B _ bs g) s e j
 ·rcases z k h with h|rfl
  ·exact m.own k h
  ·exact .inr P
 ·simp only[ae.dO]at r;have a:l≠H.next:=bj
  simp only[a,if_false]at o;exact m.fresh l bj n o
 ·by_cases a:l=H.next
  ·simp[a]at h
  ·simp only[a,if_false]at h;obtain⟨C,E,R,f,F,S,T,W⟩:=m.dp l b5 h;refine⟨by simp;omega,E,R,f,F,S,T,λM=> ?_⟩;rcases z _ M with bs|bs
   ·exact W bs
   ·exact m.sep l H.next b5 b f loc h A a F i bs
 ·by_cases a:l=H.next
  ·simp[a]at h
  ·by_cases g:d=H.next
   ·simp[g]at bs
   ·simp only[a,if_false]at h;simp only[g,if_false]at bs;exact m.sep l d G K p q h bs s e j
end
def gl(P:Program)(H:ae)(r:aa)(name:String):Option (Nat×aa):=
 match r with
 | .iface t v=>(match P.info? t with
  |some i=>(match i.methods.find? (·.name==name)with
   |some m=>(match m.path.toList,m.func,P.underlying t with
    |[],D (f,V),D (.pointer _)=>D (f,v)
    |[],D (f,U),D (.pointer e)=>(match v with
     | .ptr .. =>(ah P H e v).bind λu=>D (f,u)
     |_=>Y)
    |_,_,_=>Y)
   |none=>Y)
  |none=>Y)
 |_=>Y
def yx{P:Program}{w:World}{n:Nat}{t:TypeId}{v:Value}{name:String}{i:TypeInfo}{m:Method}{f:FuncId}{b:Bool}(d:P.info? t=D i)(hm:i.methods.find? (·.name==name)=D m)(a:m.path.toList=[])(c:m.func=D (f,b)){x:Value}
  (h:(receiverAt t (.val v) b (D ((name.splitOn ".").getLastD name))).run P w= .ok x w):(method (n+1) t v name).run P w= .ok (f,x) w:=by
 have e:m.path.isEmpty=true:=by simpa using a
 have g:(typeInfo t).run P w= .ok i w:=by simp[typeInfo,d]
 unfold method;simp only[Sem.run_bind,g,Result.andThen_ok,hm,a,follow,Sem.run_pure,c,e,if_true,h]
def zK{P:Program}{ρ:Env}{H:ae}{w:World}(A:Rel ρ H w){r u:aa}{bL:Value}{name:String}{f:Nat}(h:gl P H r name=D (f,u))(B:a1 ρ r bL)(args:Array Value):
  ∃o,a1 ρ u o/\(callMethod bL name args).run P w=(callFunc f (#[o]++args)).run P w:=by
 unfold gl at h;split at h
 ·rename_i t v;cases B with|iface _ _ p d=>
  split at h
  ·rename_i i k;split at h
   ·rename_i m hm;have g:P.types.size+Made.depth=(P.types.size+99)+1:=rfl;split at h
    ·rename_i b a hu;simp only[aV,bE]at h;obtain⟨rfl,rfl⟩:=h;refine⟨p,d,?_⟩;simp only[callMethod,Sem.run_bind,run_program,Result.andThen_ok,g];rw[yx (x:=p) k hm b a (by simp only[receiverAt,Sem.run_bind,run_underlying hu,Result.andThen_ok,Place.get,Sem.run_pure])];rfl
    ·rename_i e b a hu;split at h
     ·rename_i l j c;simp only[bZ,aV,bE]at h;obtain⟨F,z,rfl,rfl⟩:=h;obtain⟨x,q,s⟩:=rN A z d;cases d with|ptr _ _ _ loc E=>
      refine⟨x,s,?_⟩;have y:(loadVar e ⟨loc.block,loc.off+j*loc.esz+c,Y⟩).run P w= .ok x w:=by simpa [Instr.loadAt,Instr.sureAddr]using q
      have C:∀n:String,(Builtin.ssaWrapNilChk_ #[t] t #[.pointer (D ⟨loc.block,loc.off+j*loc.esz+c,Y⟩),strVal "",strVal n]).run P w= .ok (.pointer (D ⟨loc.block,loc.off+j*loc.esz+c,Y⟩)) w:=λn=>rfl
      simp only[callMethod,Sem.run_bind,run_program,Result.andThen_ok,g];rw[yx (x:=x) k hm b a (by simp only[receiverAt,Sem.run_bind,run_underlying hu,Result.andThen_ok,Place.get,Sem.run_pure,C,asAddr,y])];rfl
     ·cases h
    ·cases h
   ·cases h
  ·cases h
 ·cases h
def eh(P:Program)(H:ae)(C:aX)(c:Call):Option (Nat×List aa):=
 match c.callee with
 | .value f=>match bn C f with
  |some (.func (.func g) first captured)=>match cI C c.args.toList with
   |some a=>D (g,first++a++captured)
   |none=>Y
  |_=>Y
 | .invoke r name=>match bn C r with
  |some v=>match gl P H v name,cI C c.args.toList with
   |some (g,u),D a=>D (g,u::a)
   |_,_=>Y
  |none=>Y
 |_=>Y
inductive K where
 |skip
 |pure (v:aa)
 |read (v:aa)
 |new (v:aa) (b:bk)
 |br (v:aa) (H:ae)
def K.val:K->aa
 | .skip=> .tuple []
 | .pure v=>v
 | .read v=>v
 | .new v _=>v
 | .br v _=>v
def K.heap(H:ae):K->ae
 | .new _ b=>H.push b
 | .br _ H'=>H'
 |_=>H
def K.b7:K->Bool
 | .new _ _=>V
 | .br _ _=>V
 |_=>U
abbrev ai:=Nat->List aa->ae->Option (aa×ae)
def er:Option aa->Option K
 |some v=>D (.pure v)
 |none=>Y
def dX:Option aa->Option K
 |some v=>D (.read v)
 |none=>Y
def nz:Option (aa×bk)->Option K
 |some (v,b)=>D (.new v b)
 |none=>Y
def dC(H:ae):Option (aa×ae)->Option K
 |some (v,H')=>if H.next<=H'.next then D (.br v H')else Y
 |none=>Y
inductive y5 where
 |pure|read|both|new|write|call
def cls:Op->y5
 | .load .. => .read
 | .lookup .. => .read
 | .alloc _=> .new
 | .box .. => .new
 | .buildSlice .. => .new
 | .makeMap .. => .new
 | .makeSlice .. => .new
 | .store .. => .write
 | .mapUpdate .. => .write
 | .insert .. => .write
 | .convert .. => .both
 | .call c=>match c.callee with
  | .builtin .append=> .write
  | .builtin .clear=> .write
  | .builtin _=> .both
  |_=> .call
 |_=> .pure
def cW(P:Program)(call:ai)(aw:Op)(C:aX)(H:ae):Option K:=
 match cls aw with
 | .pure=>er (c0 P aw C)
 | .read=>dX (cC P aw C H)
 | .both=>match c0 P aw C with
  |some v=>D (.pure v)
  |none=>dX (cC P aw C H)
 | .new=>nz (dw P aw C H.next)
 | .write=>dC H (dx P aw C H)
 | .call=>match aw with
  | .call c=>match eh P H C c with
   |some (g,a)=>dC H (call g a H)
   |none=>Y
  |_=>Y
def ft(aw:Op):Bool:=match cls aw with
 | .new=>V
 | .write=>V
 | .call=>V
 |_=>U
def Tx{P:Program}{call:ai}{aw:Op}{C:aX}{H:ae}{k:K}(h:cW P call aw C H=D k)(b:k.b7=V):ft aw=true:=by
 unfold cW at h;unfold ft;split at h
 ·unfold er at h;split at h
  ·simp only[aV]at h;subst h;cases b
  ·cases h
 ·unfold dX at h;split at h
  ·simp only[aV]at h;subst h;cases b
  ·cases h
 ·split at h
  ·simp only[aV]at h;subst h;cases b
  ·unfold dX at h;split at h
   ·simp only[aV]at h;subst h;cases b
   ·cases h
 ·rename_i a;rw[a]
 ·rename_i a;rw[a]
 ·rename_i a;rw[a]
def ee(P:Program)(call:ai)(aw:Op)(C:aX)(H:ae):K->Prop
 | .skip=>False
 | .pure v=>c0 P aw C=D v
 | .read v=>cC P aw C H=D v
 | .new v b=>dw P aw C H.next=D (v,b)
 | .br v H'=>H.next<=H'.next/\(dx P aw C H=D (v,H')\/∃c g a,aw= .call c/\eh P H C c=D (g,a)/\call g a H=D (v,H'))
def Tz{P:Program}{call:ai}{aw:Op}{C:aX}{H:ae}{k:K}(h:cW P call aw C H=D k):ee P call aw C H k:=by
 unfold cW at h;split at h
 ·unfold er at h;split at h
  ·rename_i v a;simp only[aV]at h;subst h;exact a
  ·cases h
 ·unfold dX at h;split at h
  ·rename_i v a;simp only[aV]at h;subst h;exact a
  ·cases h
 ·split at h
  ·rename_i v a;simp only[aV]at h;subst h;exact a
  ·unfold dX at h;split at h
   ·rename_i v a;simp only[aV]at h;subst h;exact a
   ·cases h
 ·unfold nz at h;split at h
  ·rename_i v b a;simp only[aV]at h;subst h;exact a
  ·cases h
 ·unfold dC at h;split at h
  ·rename_i v H' a;split at h
   ·rename_i d;simp only[aV]at h;subst h;exact⟨d,.inl a⟩
   ·cases h
  ·cases h
 ·split at h
  ·rename_i c _;split at h
   ·rename_i g f e;unfold dC at h;split at h
    ·rename_i v H' a;split at h
     ·rename_i d;simp only[aV]at h;subst h;exact⟨d,.inr ⟨c,g,f,rfl,e,a⟩⟩
     ·cases h
    ·cases h
   ·cases h
  ·cases h
section congr
variable {P:Program}{C aU:aX}
def fm:∀{xs:List Operand},(∀x∈xs,bn C x=bn aU x)->cI C xs=cI aU xs
 |[],_=>rfl
 |x::xs,h=>by
  simp only[cI,h x (by simp),fm (xs:=xs) λy a=>h y (by simp[a])]
def rV:∀{xs:List (Nat×Operand)},(∀x∈xs.map (·.2),bn C x=bn aU x)->dk C xs=dk aU xs
 |[],_=>rfl
 |(i,x)::xs,h=>by
  simp only[dk,h x (by simp),rV (xs:=xs) λy a=>h y (by simp at a ⊢;exact .inr a)]
def rY{x:Option Operand}(h:∀y,x=D y->bn C y=bn aU y):dJ C x=dJ aU x:=by
 cases x with
 |none=>rfl
 |some x=>simp only[dJ,h x rfl]
def zU{aw:Op}(h:∀x∈aw.operands,bn C x=bn aU x):c0 P aw C=c0 P aw aU:=by
 cases aw<;>simp only[c0,Op.operands]at h ⊢ <;>first
  |rfl
  |(simp at h;simp[h];done)
  |skip
 ·rename_i t k;rw[rV λx a=>h x (by simpa using a)]
 ·rename_i fn f c;rw[fm λx a=>h x (by simp at a ⊢;exact .inl a),fm (xs:=c.toList) λx a=>h x (by simp at a ⊢;exact .inr a)]
 ·rename_i t x i g j;rw[h x (by simp),rY (x:=i) λy d=>h y (by simp[d]),rY (x:=g) λy d=>h y (by simp[d]),rY (x:=j) λy d=>h y (by simp[d])]
 ·rename_i c;cases e:c.callee with
  |builtin b=>
   simp only[Call.operands,e]at h ⊢;rw[fm λx a=>h x (by simpa using a)]
  |value f=>rfl
  |invoke r m=>rfl
def wa{aw:Op}{H:ae}(h:∀x∈aw.operands,bn C x=bn aU x):cC P aw C H=cC P aw aU H:=by
 cases aw<;>simp only[cC,Op.operands]at h ⊢ <;>first
  |rfl
  |(simp at h;simp[h];done)
  |skip
 ·rename_i c;cases a:c.callee with
  |builtin b=>
   simp only[Call.operands,a]at h ⊢;rw[fm λx d=>h x (by simpa using d)]
  |value f=>rfl
  |invoke r m=>rfl
def zM{aw:Op}{H:ae}(h:∀x∈aw.operands,bn C x=bn aU x):fk P aw C H=fk P aw aU H:=by
 cases aw<;>simp only[fk,Op.operands]at h ⊢ <;>first
  |rfl
  |(simp at h;simp[h];done)
  |skip
 ·rename_i t n b;rw[rV λx a=>h x (by simpa using a)]
 ·rename_i t r;cases r<;>rfl
def zO{aw:Op}{l:Nat}(h:∀x∈aw.operands,bn C x=bn aU x):dw P aw C l=dw P aw aU l:=by
 unfold dw;rw[zM h]
def Ab{aw:Op}{H:ae}(h:∀x∈aw.operands,bn C x=bn aU x):dx P aw C H=dx P aw aU H:=by
 cases aw<;>simp only[dx,Op.operands]at h ⊢ <;>first
  |rfl
  |(simp at h;simp[h];done)
  |skip
 ·rename_i c;cases g:c.callee with
  |builtin b=>
   simp only[Call.operands,g]at h ⊢;cases d:c.args.toList with
   |nil=>cases b<;>rfl
   |cons s r=>
    cases r with
    |nil=>
     have a:s∈c.args.toList:=by simp[d]
     cases b<;>first
      |rfl
      |(simp only;rw[h s (by simpa using a)])
    |cons x r=>
     cases r with
     |nil=>
      have a:s∈c.args.toList:=by simp[d]
      have e:x∈c.args.toList:=by simp[d]
      cases b<;>first
       |rfl
       |(simp only;rw[h s (by simpa using a),h x (by simpa using e)])
     |cons y r=>cases b<;>rfl
  |value f=>rfl
  |invoke r m=>rfl
def zm{c:Call}{H:ae}(h:∀x∈c.operands,bn C x=bn aU x):eh P H C c=eh P H aU c:=by
 unfold eh;cases d:c.callee with
 |builtin b=>rfl
 |value f=>
  simp only[Call.operands,d]at h ⊢;rw[h f (by simp),fm λx a=>h x (by simp at a ⊢;exact .inr a)]
 |invoke r m=>
  simp only[Call.operands,d]at h ⊢;rw[h r (by simp),fm λx a=>h x (by simp at a ⊢;exact .inr a)]
def ee.congr{call:ai}{aw:Op}{H:ae}{k:K}(h:∀x∈aw.operands,bn C x=bn aU x)(a:ee P call aw C H k):ee P call aw aU H k:=by
 cases k with
 |skip=>exact a
 |pure v=>exact(zU h).symm.trans a
 |read v=>exact(wa h).symm.trans a
 |new v b=>exact(zO h).symm.trans a
 |br v H'=>
  obtain⟨e,d|⟨c,g,i,rfl,d,f⟩⟩:=a
  ·exact⟨e,.inl ((Ab h).symm.trans d)⟩
  ·exact⟨e,.inr ⟨c,g,i,rfl,(zm h).symm.trans d,f⟩⟩
end congr
def eF(P:Program)(m:Sem Next)(w:World)(next:Value->World->Prop):Prop:=
 match m.run P w with
 | .ok (.value x) a=>next x a
 | .ok (.enter f args) a=>Calls P f args a λ
  | .returned x,b=>next x b
  |_,_=>False
 |_=>False
def b6(E:Env)(P:Program)(g:Nat)(args:List aa)(H:ae)(v:aa)(H':ae):Prop:=∀(ρ:Env) (w:World) (xs:List Value),Rel ρ H w->cS E ρ H.next H'.next->bb ρ args xs->H.next<=H'.next->∀next:Value->World->Prop,(∀x a b,a1 b v x->Step ρ H w b H' a->next x a)->eF P (callFunc g xs.toArray) w next
def bm(E:Env)(P:Program)(call:ai):Prop:=∀g args H v H',call g args H=D (v,H')->b6 E P g args H v H'
section
variable {E:Env}{P:Program}{call:ai}{ρ:Env}{H H':ae}{w:World}{C:aX}{a:Act}{aw:Oper}{v:aa}{c9:Act->World->Prop}{Q:Exit->Act->World->Prop}
def yj(h:c0 P aw.op C=D v)(e:bY ρ C a)(d:∀x,a1 ρ v x->c9 (a.put aw.dst x) w):aw.wp P a w c9 Q:=by
 obtain⟨x,b,c⟩:=zV h e w;unfold Oper.wp;rw[b];exact d x c
def yr(d:Rel ρ H w)(h:cC P aw.op C H=D v)(f:bY ρ C a)(e:∀x,a1 ρ v x->c9 (a.put aw.dst x) w):aw.wp P a w c9 Q:=by
 obtain⟨x,b,c⟩:=zX d h f;unfold Oper.wp;rw[b];exact e x c
def xW{l:Nat}{b:bk}(h:dw P aw.op C l=D (v,b))(z:bY ρ C a)(u:ρ l=Y)
  (y:∀x c d loc,a1 d v x->ρ.le d->(∀k,k≠l->d k=ρ k)->d l=D loc->w.heap.size<=loc.block->b.dM=V->dd d c loc b->
   c.os=w.os->c.tape=w.tape->c.output=w.output->w.heap.size<=c.heap.size->(∀k,k<w.heap.size->c.heap[k]? =w.heap[k]?)->c9 (a.put aw.dst x) c):aw.wp P a w c9 Q:=by
 obtain⟨x,c,d,loc,e,m,n,o,p,q,r,s,t,f,g,i,j⟩:=zP h z u w;unfold Oper.wp;rw[e];exact y x c d loc m n o p q r s t f g i j
def wE(T:bm E P call)(p:Rel ρ H w)(F:cS E ρ H.next H'.next)(h:ee P call aw.op C H (.br v H'))(m:bY ρ C a)
  (q:∀x d j,a1 j v x->Step ρ H w j H' d->c9 (a.put aw.dst x) d):aw.wp P a w c9 Q:=by
 obtain⟨W,y|⟨c,g,al,S,b,R⟩⟩:=h
 ·obtain⟨n,x,d,j,ab,k,N,O⟩:=Ac p y (F.new _ (bM _)) m;unfold Oper.wp;rw[ab];unfold vM at k;split at k
  ·subst k;exact q _ d j N O
  ·subst k;exact q _ d j N O
  ·exact k.elim
 ·unfold eh at b;split at b
  ·rename_i f B;split at b
   ·rename_i t first captured af
    split at b
    ·rename_i aj K;simp only[aV,bE]at b;obtain⟨rfl,rfl⟩:=b;have o:=bV m af;have A:=fo m K;generalize he:a.eval f=z at o;cases o with|func _ _ _ ad aa L M=>
     have i:=T _ _ _ _ _ R ρ w _ p F ((L.append A).append M) W (λx d=>c9 (a.put aw.dst x) d) (λx d j=>q x d j);have G:(execOp a.eval aw).run P w=(callFunc t ((ad++c.args.toList.map a.eval++aa).toArray)).run P w:=by
      unfold execOp;rw[S];simp only[resolve,B,he,Deferred.ofValue,pure_bind,invoke]
      congr 2
      rw[map_toArray a.eval];simp
     unfold Oper.wp;rw[G];unfold eF at i;split at i
     ·rename_i e;rw[e];exact i
     ·rename_i e;rw[e];refine Calls.mono i λs ak l=> ?_
      cases s<;>first|exact l|exact l.elim
     ·exact i.elim
    ·cases b
   ·cases b
  ·rename_i r name B;split at b
   ·rename_i v0 ah;split at b
    ·rename_i t u aj hm K;simp only[aV,bE]at b;obtain⟨rfl,rfl⟩:=b;have o:=bV m ah;have A:=fo m K;obtain⟨ai,L,M⟩:=zK p hm o (c.args.toList.map a.eval).toArray;have i:=T _ _ _ _ _ R ρ w _ p F (.cons _ _ _ _ L A) W (λx d=>c9 (a.put aw.dst x) d) (λx d j=>q x d j);have G:(execOp a.eval aw).run P w=(callFunc t ((ai::c.args.toList.map a.eval).toArray)).run P w:=by
      unfold execOp;rw[S];simp only[resolve,B,pure_bind,invoke];rw[map_toArray a.eval];have ae:(#[a.eval r]++(c.args.toList.map a.eval).toArray)[0]? =D (a.eval r):=by simp
      have y:(#[a.eval r]++(c.args.toList.map a.eval).toArray).extract 1 (#[a.eval r]++(c.args.toList.map a.eval).toArray).size=(c.args.toList.map a.eval).toArray:=by
       apply Array.ext';simp;exact List.take_of_length_le (by simp)
      rw[ae,y];simp only
      rw[M];simp
     unfold Oper.wp;rw[G];unfold eF at i;split at i
     ·rename_i e;rw[e];exact i
     ·rename_i e;rw[e];refine Calls.mono i λs ak l=> ?_
      cases s<;>first|exact l|exact l.elim
     ·exact i.elim
    ·cases b
   ·cases b
  ·cases b
end
def dm(acc:List Nat):List Edge->Nat
 |[]=>0
 |e::es=>if Region.binds .any e then 2^e.on|||(acc[e.on]?.getD 0|||dm acc es)else dm acc es
def dD:List Oper->List Nat->List Nat
 |[],acc=>acc
 |aw::os,acc=>dD os (acc++[dm acc aw.after.toList])
def bA(ops:Array Oper):List Nat:=dD ops.toList []
def bD(ms:List Nat)(j i:Nat):Bool:=(ms[i]?.getD 0).testBit j
def xS:∀(os pre:List Oper) (acc:List Nat),acc.length=pre.length->(∀i aw,pre[i]? =D aw->acc[i]? =D (dm (acc.take i) aw.after.toList))->
  ∀i aw,(pre++os)[i]? =D aw->(dD os acc)[i]? =D (dm ((dD os acc).take i) aw.after.toList)
 |[],pre,acc,b,h,i,aw,c=>by simpa [dD]using h i aw (by simpa using c)
 |p::os,pre,acc,b,h,i,aw,c=>by
  unfold dD;refine xS os (pre++[p]) _ (by simp[b]) (λj q a=> ?_) i aw (by simpa using c);rcases Nat.lt_or_ge j pre.length with e|d
  ·rw[List.getElem?_append_left e]at a;rw[List.getElem?_append_left bj,h j q a,List.take_append_of_le_length bj]
  ·rw[List.getElem?_append_right d]at a;have:j=pre.length:=by
    have:=(List.getElem?_eq_some_iff.1 a).1;simp at this;omega
   subst this;simp at a;subst a;rw[List.getElem?_append_right bj,<-b];simp
def nD{ops:Array Oper}{i:Nat}{aw:Oper}(h:ops[i]? =D aw):(bA ops)[i]? =D (dm ((bA ops).take i) aw.after.toList):=
 xS ops.toList [] [] rfl (by simp) i aw (by simpa using h)
def nh{acc:List Nat}{e:Edge}:∀{es:List Edge},e∈es->Region.binds .any e=V->(dm acc es).testBit e.on=V
 |[],h,_=>by simp at h
 |d::es,h,a=>by
  unfold dm;rcases List.mem_cons.1 h with rfl|h
  ·rw[if_pos a];simp[Nat.testBit_two_pow_self]
  ·split
   ·simp[nh h a]
   ·exact nh h a
def ng{acc:List Nat}{j:Nat}:∀{es:List Edge},(dm acc es).testBit j=V->∃e∈es,Region.binds .any e=V/\(j=e.on\/(acc[e.on]?.getD 0).testBit j=V)
 |[],h=>by simp[dm]at h
 |d::es,h=>by
  unfold dm at h;split at h
  ·rename_i f;simp only[Nat.testBit_or,Bool.or_eq_true]at h;rcases h with h|h|h
   ·refine⟨d,by simp,f,.inl ?_⟩;rw[Nat.testBit_two_pow]at h;simpa using(of_decide_eq_true h).symm
   ·exact⟨d,by simp,f,.inr h⟩
   ·obtain⟨e,a,b,c⟩:=ng h;exact⟨e,by simp[a],b,c⟩
  ·obtain⟨e,a,b,c⟩:=ng h;exact⟨e,by simp[a],b,c⟩
def dG(L:Nat->Bool)(aw:Oper):Prop:=∀e∈aw.after,Region.binds .any e=V->L e.on=V
def hl(ops:Array Oper)(L:Nat->Bool):Prop:=∀i aw,ops[i]? =D aw->L i=V->dG L aw
def dU{ops:Array Oper}{L:Nat->Bool}(l:hl ops L):∀(i:Nat) (aw:Oper),ops[i]? =D aw->dG L aw->∀j,bD (bA ops) j i=V->L j=true:=by
 intro i
 induction i using Nat.strongRecOn with
 |_ i d=>
  intro aw n hw j b;unfold bD at b;rw[nD n]at b;simp only[Option.getD_some]at b;obtain⟨e,h,k,a⟩:=ng b;have f:=hw e (by simpa using h) k;rcases a with rfl|a
  ·exact f
  ·rcases Nat.lt_or_ge e.on i with g|r
   ·rw[List.getElem?_take_of_lt g]at a;cases c:ops[e.on]? with
    |none=>
     cases hm:(bA ops)[e.on]? with
     |none=>rw[hm]at a;simp at a
     |some m=>
      exfalso;have hlen:∀(os:List Oper) (acc:List Nat),(dD os acc).length=acc.length+os.length:=by
       intro os
       induction os with
       |nil=>intro acc;simp[dD]
       |cons aw os d=>intro acc;simp[dD,d];omega
      have o:=(List.getElem?_eq_some_iff.1 hm).1;have p:(bA ops).length=ops.size:=by unfold bA;rw[hlen];simp
      have q:ops.size<=e.on:=by simpa using c
      omega
    |some gJ=>exact d e.on g gJ c (l _ _ c f) j a
   ·rw[List.getElem?_eq_none (by simp;omega)]at a;simp at a
def Av{ops:Array Oper}{i:Nat}{aw:Oper}(b:ops[i]? =D aw){e:Edge}(he:e∈aw.after)(a:Region.binds .any e=V):bD (bA ops) e.on i=true:=by
 unfold bD;rw[nD b];exact nh (by simpa using he) a
def c2(ops:Array Oper)(C:aX)(aw:Oper):Bool:=
 match aw.guard with
 |none=>V
 |some (j,want)=>match ops[j]? with
  |some q=>(match q.dst with
   |some d=>(match C.get d with
    | .bool b=>b==want
    |_=>U)
   |none=>U)
  |none=>U
def wg{ρ:Env}{ops:Array Oper}{C:aX}{a:Act}(f:bY ρ C a)(aw:Oper):Region.wanted aw (yielded ops a.tmps)=c2 ops C aw:=by
 unfold Region.wanted c2;cases h:aw.guard with
 |none=>rfl
 |some p=>
  obtain⟨j,want⟩:=p;simp only
  unfold yielded;cases i:ops[j]? with
  |none=>simp
  |some q=>
   cases c:q.dst with
   |none=>simp[c]
   |some d=>
    simp only[Option.bind_some,c];have b:=f.get d;rw[Array.getD_eq_getD_getElem?]at b;cases e:a.tmps[d]? with
    |none=>
     rw[e]at b;simp only[Option.getD_none]at b;generalize g:C.get d=v at b;cases v<;>first|rfl|(exfalso;cases b)
    |some x=>
     rw[e]at b;simp only[Option.getD_some]at b;generalize g:C.get d=v at b;cases b<;>first|rfl|(simp;done)
def Aa{ops:Array Oper}{C aU:aX}{aw:Oper}(h:∀d∈aw.looksAt ops,C.get d=aU.get d):c2 ops C aw=c2 ops aU aw:=by
 unfold c2;cases b:aw.guard with
 |none=>rfl
 |some p=>
  obtain⟨j,want⟩:=p;simp only
  cases c:ops[j]? with
  |none=>rfl
  |some q=>
   cases a:q.dst with
   |none=>simp[a]
   |some d=>
    simp only[a];rw[h d (by simp[Oper.looksAt,b,c,a])]
def z8{ops:Array Oper}{C aU:aX}{aw:Oper}(h:∀d∈aw.looksAt ops,C.get d=aU.get d):∀x∈aw.op.operands,bn C x=bn aU x:=by
 intro x a;cases x with
 |tmp t=>
  simp only[bn];rw[h t ?_];unfold Oper.looksAt;refine List.mem_append.2 (.inl ?_);rw[List.mem_filterMap];exact⟨.tmp t,by simpa using a,rfl⟩
 |const v=>rfl
 |global g=>rfl
 |func f=>rfl
structure a_ where
 i:Nat
 aw:Oper
 C:aX
 k:K
def cm(P:Program)(call:ai)(ops:Array Oper)(aw:Oper)(C:aX)(H:ae):Option K:=
 match c2 ops C aw with
 |true=>cW P call aw.op C H
 |false=>D .skip
def canRun(P:Program)(call:ai)(ops:Array Oper):List Nat->aX->ae->Option (List a_×aX×ae)
 |[],C,H=>D ([],C,H)
 |i::is,C,H=>match ops[i]? with
  |none=>Y
  |some aw=>match cm P call ops aw C H with
   |none=>Y
   |some k=>match C.put aw.dst k.val with
    |none=>Y
    |some aU=>match canRun P call ops is aU (k.heap H)with
     |none=>Y
     |some (T,bw,bF)=>D (⟨i,aw,C,k⟩::T,bw,bF)
def bx:List a_->ae->ae
 |[],H=>H
 |t::ts,H=>bx ts (t.k.heap H)
def dL(A B:List a_)(H:ae):bx (A++B) H=bx B (bx A H):=by
 induction A generalizing H with
 |nil=>rfl
 |cons t A a=>simp[bx,a]
def b_(L:Nat->Bool)(d:Nat):List a_->aa->aa
 |[],v=>v
 |t::ts,v=>b_ L d ts (if L t.i=V/\t.aw.dst=D d then t.k.val else v)
def ev(L:Nat->Bool)(d:Nat)(A B:List a_)(v:aa):b_ L d (A++B) v=b_ L d B (b_ L d A v):=by
 induction A generalizing v with
 |nil=>rfl
 |cons t A a=>simp[b_,a]
def hW{L L':Nat->Bool}{d:Nat}:∀{A:List a_} {v:aa},(∀t∈A,t.aw.dst=D d->L t.i=L' t.i)->b_ L d A v=b_ L' d A v
 |[],_,_=>rfl
 |t::A,v,h=>by
  simp only[b_];have:(L t.i=V/\t.aw.dst=D d)↔(L' t.i=V/\t.aw.dst=D d):=by
   constructor
   ·rintro⟨b,a⟩;exact⟨by rw[<-h t (by simp) a];exact b,a⟩
   ·rintro⟨b,a⟩;exact⟨by rw[h t (by simp) a];exact b,a⟩
  simp only[this];exact hW λu hu=>h u (by simp[hu])
def hX{L:Nat->Bool}{d:Nat}:∀{A:List a_} {v:aa},(∀t∈A,t.aw.dst=D d->L t.i=U)->b_ L d A v=v
 |[],_,_=>rfl
 |t::A,v,h=>by
  simp only[b_];rw[if_neg (by rintro⟨a,b⟩;rw[h t (by simp) b]at a;cases a)];exact hX λu hu=>h u (by simp[hu])
def dy{P:Program}{call:ai}{ops:Array Oper}:∀{is:List Nat} {C:aX} {H:ae} {T:List a_} {bw:aX} {bF:ae},canRun P call ops is C H=D (T,bw,bF)->
  T.map (·.i)=is/\bF=bx T H/\bw.size=C.size/\∀d,bw.get d=b_ (λ_=>V) d T (C.get d)
 |[],C,H,T,bw,bF,h=>by
  simp only[canRun,aV,bE]at h;obtain⟨rfl,rfl,rfl⟩:=h;exact⟨rfl,rfl,rfl,λ_=>rfl⟩
 |i::is,C,H,T,bw,bF,h=>by
  simp only[canRun]at h;split at h
  ·cases h
  ·rename_i aw n;split at h
   ·cases h
   ·rename_i k m;split at h
    ·cases h
    ·rename_i aU a;split at h
     ·cases h
     ·rename_i l j g bs;simp only[aV,bE]at h;obtain⟨rfl,rfl,rfl⟩:=h;obtain⟨b,c,e,f⟩:=dy bs;refine⟨by simp[b],c,by rw[e,aX.size_put a],λd=> ?_⟩;rw[f d,aX.gC a d];simp[b_]
def nb{P:Program}{call:ai}{ops:Array Oper}:∀{A:List a_} {is:List Nat} {C:aX} {H:ae} {t:a_} {B:List a_} {bw:aX} {bF:ae},canRun P call ops is C H=D (A++t::B,bw,bF)->
  ops[t.i]? =D t.aw/\(∀d,t.C.get d=b_ (λ_=>V) d A (C.get d))/\cm P call ops t.aw t.C (bx A H)=D t.k/\(∀d,t.aw.dst=D d->d<C.size)
 |A,[],C,H,t,B,bw,bF,h=>by
  simp only[canRun,aV,bE]at h;have:=h.1;simp at this
 |A,i::is,C,H,t,B,bw,bF,h=>by
  simp only[canRun]at h;split at h
  ·cases h
  ·rename_i aw m;split at h
   ·cases h
   ·rename_i k l;split at h
    ·cases h
    ·rename_i aU b;split at h
     ·cases h
     ·rename_i p o n bs;simp only[aV,bE]at h;obtain⟨a,rfl,rfl⟩:=h;cases A with
      |nil=>
       simp only[List.nil_append,List.cons.injEq]at a;obtain⟨rfl,rfl⟩:=a;refine⟨m,λ_=>rfl,l,λd c=> ?_⟩;simp only at c;rw[c]at b;exact aX.yl b
      |cons u A=>
       simp only[List.cons_append,List.cons.injEq]at a;obtain⟨rfl,rfl⟩:=a;obtain⟨e,f,g,j⟩:=nb bs;refine⟨e,λd=> ?_,g,λd c=>by rw[<-aX.size_put b];exact j d c⟩;rw[f d,aX.gC b d];simp[b_]
def b9:ae->List a_->Prop
 |_,[]=>True
 |H,t::ts=>H.next<=(t.k.heap H).next/\b9 (t.k.heap H) ts
def b9.append:∀{A B:List a_} {H:ae},b9 H (A++B)->b9 H A/\b9 (bx A H) B
 |[],_,_,h=>⟨trivial,h⟩
 |_::A,_,_,h=>by
  obtain⟨a,b⟩:=h;obtain⟨c,d⟩:=b9.append (A:=A) b;exact⟨⟨a,c⟩,d⟩
def b9.le:∀{A:List a_} {H:ae},b9 H A->H.next<=(bx A H).next
 |[],_,_=>bM _
 |_::A,_,h=>Nat.le_trans h.1 (b9.le (A:=A) h.2)
def gG{P:Program}{call:ai}{ops:Array Oper}{aw:Oper}{C:aX}{H:ae}{k:K}(h:cm P call ops aw C H=D k):
  (c2 ops C aw=V/\ee P call aw.op C H k)\/(c2 ops C aw=U/\k= .skip):=by
 unfold cm at h;split at h
 ·rename_i hw;exact .inl ⟨hw,Tz h⟩
 ·rename_i hw;simp only[aV]at h;exact .inr ⟨hw,h.symm⟩
def xQ{P:Program}{call:ai}{ops:Array Oper}{aw:Oper}{C:aX}{H:ae}{k:K}(h:cm P call ops aw C H=D k)(a:k.b7=V):ft aw.op=true:=by
 unfold cm at h;split at h
 ·exact Tx h a
 ·simp only[aV]at h;subst h;cases a
def sq{P:Program}{call:ai}{ops:Array Oper}{aw:Oper}{C:aX}{H:ae}{k:K}(h:cm P call ops aw C H=D k):H.next<=(k.heap H).next:=by
 rcases gG h with⟨_,h⟩|⟨_,rfl⟩
 ·cases k with
  |br v H'=>exact h.1
  |new v b=>simp[K.heap]
  |_=>exact bM _
 ·exact bM _
def gu{P:Program}{call:ai}{ops:Array Oper}:∀{is:List Nat} {C:aX} {H:ae} {T:List a_} {bw:aX} {bF:ae},canRun P call ops is C H=D (T,bw,bF)->b9 H T
 |[],C,H,T,bw,bF,h=>by
  simp only[canRun,aV,bE]at h;obtain⟨rfl,rfl,rfl⟩:=h;trivial
 |i::is,C,H,T,bw,bF,h=>by
  simp only[canRun]at h;split at h
  ·cases h
  ·rename_i aw e;split at h
   ·cases h
   ·rename_i k a;split at h
    ·cases h
    ·split at h
     ·cases h
     ·rename_i d c b bs;simp only[aV,bE]at h;obtain⟨rfl,rfl,rfl⟩:=h;exact⟨sq a,gu bs⟩
def bW(L:Nat->Bool):List a_->ae->Nat->Option bk
 |[],_,_=>Y
 |t::ts,H,l=>match t.k with
  | .new _ b=>if l=H.next then(if L t.i=V then D b else Y)else bW L ts (H.push b) l
  |k=>bW L ts (k.heap H) l
def hT{L:Nat->Bool}:∀{T:List a_} {H:ae} {l:Nat} {b:bk},b9 H T->bW L T H l=D b->H.next<=l
 |[],_,_,_,_,h=>by cases h
 |t::ts,H,l,b,hm,h=>by
  unfold bW at h;split at h
  ·rename_i v b5 a;split at h
   ·omega
   ·have:=hT (by have:=hm.2;rwa[a]at this) h;simp at this;omega
  ·have c:=hm.1;have:=hT hm.2 h;omega
def hS{L L':Nat->Bool}:∀{T:List a_} {H:ae},(∀t∈T,∀v b,t.k= .new v b->L t.i=L' t.i)->bW L T H=bW L' T H
 |[],_,_=>rfl
 |t::ts,H,h=>by
  funext l
  unfold bW;split
  ·rename_i v b a;rw[h t (by simp) v b a,hS (T:=ts) (λu hu=>h u (by simp[hu]))]
  ·rw[hS (T:=ts) (λu hu=>h u (by simp[hu]))]
def gL{L:Nat->Bool}{t:a_}{ts:List a_}{H:ae}(h:∀v b,t.k≠ .new v b):bW L (t::ts) H=bW L ts (t.k.heap H):=by
 funext l
 show(match t.k with
  | .new _ b=>if l=H.next then(if L t.i=V then D b else Y)else bW L ts (H.push b) l
  |k=>bW L ts (k.heap H) l)=_
 split
 ·rename_i v b a;exact absurd a (h v b)
 ·rfl
def yh{L L':Nat->Bool}{t:a_}{v:aa}{b:bk}(m:t.k= .new v b)(l:L t.i=U)(o:L' t.i=V):∀{zC zD:List a_} {H:ae},b9 H (zC++t::zD)->
  (∀u∈zC,L u.i=L' u.i)->(∀u∈zD,L u.i=L' u.i)->
  bW L' (zC++t::zD) H=(λk=>if k=(bx zC H).next then D b else bW L (zC++t::zD) H k)/\bW L (zC++t::zD) H (bx zC H).next=Y
 |[],zD,H,hm,g,j=>by
  constructor
  ·funext k
   simp only[List.nil_append,bx,bW,m,l,o,if_true,Bool.false_eq_true,if_false];rw[hS (T:=zD) λu hu _ _ _=>j u hu];split<;>rfl
  ·simp[bW,m,l,bx]
 |c::zC,zD,H,hm,g,j=>by
  obtain⟨s,n⟩:=hm;obtain⟨d,e⟩:=yh m l o (zC:=zC) (zD:=zD) n (λu hu=>g u (by simp[hu])) j;by_cases a:∃r b5,c.k= .new r b5
  ·obtain⟨r,b5,a⟩:=a;have hle:(c.k.heap H).next<=(bx zC (c.k.heap H)).next:=(b9.append n).1.le
   rw[a]at d e hle;simp only[K.heap,ae.dO]at hle d e;constructor
   ·funext k
    simp only[List.cons_append,bW,a,bx,K.heap];rw[<-g c (by simp),d];by_cases p:k=H.next
    ·subst p;simp only[if_true];by_cases f:H.next=(bx zC (H.push b5)).next
     ·omega
     ·simp only[f,if_false]
    ·simp only[p,if_false];by_cases f:k=(bx zC (H.push b5)).next
     ·simp only[f,if_true]
     ·simp only[f,if_false]
   ·simp only[List.cons_append,bW,a,bx,K.heap];rw[if_neg bj];exact e
  ·have q:∀v b,c.k≠ .new v b:=λv b h=>a ⟨v,b,h⟩
   rw[List.cons_append,gL q,gL q,bx];exact⟨d,e⟩
section
mutual
def aa.beq:aa->aa->Bool
 | .bool a,.bool b=>a==b
 | .int k n,.int o m=>decide (k=o)&&decide (n=m)
 | .str s,.str t=>decide (s=t)
 | .ptr l i c,.ptr d g f=>decide (l=d)&&decide (i=g)&&decide (c=f)
 | .cr,.cr=>V
 | .ag l i n e c,.ag d g p j f=>decide (l=d)&&decide (i=g)&&decide (n=p)&&decide (e=j)&&decide (c=f)
 | .ar,.ar=>V
 | .map l,.map d=>decide (l=d)
 | .cU,.cU=>V
 | .nilFunc,.nilFunc=>V
 | .iface t v,.iface q r=>decide (t=q)&&aa.beq v r
 | .nilIface,.nilIface=>V
 | .agg xs,.agg h=>cZ.beq xs h
 | .tuple xs,.tuple h=>cZ.beq xs h
 |_,_=>U
def cZ.beq:List aa->List aa->Bool
  |[],[]=>V
  |x::xs,y::a=>aa.beq x y&&cZ.beq xs a
  |_,_=>U
 end
mutual
def aa.beq_eq:∀{a b:aa},aa.beq a b=V->a=b:=by
 intro a b h;cases a<;>cases b<;>simp only[aa.beq]at h<;>first
  |(cases h;done)
  |rfl
  |(simp at h;simp[h];done)
  |skip
 ·simp only[Bool.and_eq_true,decide_eq_true_eq]at h;obtain⟨rfl,h⟩:=h;rw[aa.beq_eq h]
 ·rw[cZ.beq_eq h]
 ·rw[cZ.beq_eq h]
def cZ.beq_eq:∀{a b:List aa},cZ.beq a b=V->a=b:=by
  intro a b h;cases a with
  |nil=>cases b with
   |nil=>rfl
   |cons y c=>simp[cZ.beq]at h
  |cons x xs=>cases b with
   |nil=>simp[cZ.beq]at h
   |cons y c=>
    simp only[cZ.beq,Bool.and_eq_true]at h;rw[aa.beq_eq h.1,cZ.beq_eq h.2]
 end
def hR(ops:Array Oper)(ms:List Nat)(i j:Nat):Bool:=
 match ops[i]?,ops[j]? with
 |some aw,D q=>(i != j)&&(!bD ms j i)&&(bD ms i j||aw.apart ops q)
 |_,_=>U
def nJ(ops:Array Oper)(ms:List Nat):List Nat->Bool
 |[]=>V
 |i::is=>is.all (hR ops ms i)&&nJ ops ms is
def yf{ops:Array Oper}{ms:List Nat}:∀{is:List Nat},nJ ops ms is=V->is.Pairwise λi j=>hR ops ms i j=V
 |[],_=> .nil
 |i::is,h=>by
  simp only[nJ,Bool.and_eq_true,List.all_eq_true]at h;exact .cons h.1 (yf h.2)
def wC(n:Nat)(aw:Oper):Bool:=aw.after.toList.all λe=> !Region.binds .any e||decide (e.on<n)
def fG(ops:Array Oper)(ms ord:List Nat):Bool:=(List.range ops.size).all (λi=>ord.contains i)&&(ord.all (λi=> !bD ms i i)&&(ops.toList.all (wC ops.size)&&nJ ops ms ord))
def c3(ms:List Nat):List a_->List Nat->Bool
 |[],_=>V
 |t::ts,ids=>match t.k with
  | .br _ _=>ids.all (λj=>bD ms j t.i)&&c3 ms ts (t.i::ids)
  | .new _ _=>c3 ms ts (t.i::ids)
  |_=>c3 ms ts ids
def ni{ms:List Nat}:∀{A:List a_} {t:a_} {B:List a_} {ids:List Nat} {v:aa} {H:ae},c3 ms (A++t::B) ids=V->t.k= .br v H->
  (∀j∈ids,bD ms j t.i=V)/\∀u∈A,u.k.b7=V->bD ms u.i t.i=V
 |[],t,B,ids,v,H,h,f=>by
  simp only[List.nil_append,c3,f,Bool.and_eq_true,List.all_eq_true]at h;exact⟨h.1,λu hu=>by simp at hu⟩
 |c::A,t,B,ids,v,H,h,f=>by
  simp only[List.cons_append,c3]at h;split at h
  ·simp only[Bool.and_eq_true]at h;obtain⟨a,e⟩:=ni h.2 f;refine⟨λj g=>a j (by simp[g]),λu hu d=> ?_⟩;rcases List.mem_cons.1 hu with rfl|hu
   ·exact a _ (by simp)
   ·exact e u hu d
  ·obtain⟨a,e⟩:=ni h f;refine⟨λj g=>a j (by simp[g]),λu hu d=> ?_⟩;rcases List.mem_cons.1 hu with rfl|hu
   ·exact a _ (by simp)
   ·exact e u hu d
  ·rename_i m n;obtain⟨a,e⟩:=ni h f;refine⟨a,λu hu d=> ?_⟩;rcases List.mem_cons.1 hu with rfl|hu
   ·exfalso;cases l:u.k with
    |new v b=>exact n v b l
    |br v H=>exact m v H l
    |_=>rw[l]at d;cases d
   ·exact e u hu d
def cg(ms:List Nat)(rd:ae->Bool)(i:Nat):List a_->ae->Bool
 |[],H=>rd H
 |t::ts,H=>if t.k.b7 then(bD ms t.i i||rd H)&&(bD ms i t.i||cg ms rd i ts (t.k.heap H))else cg ms rd i ts H
def nv{k:K}(h:k.b7=U)(H:ae):k.heap H=H:=by
 cases k<;>first|rfl|cases h
def vF{ms:List Nat}{rd:ae->Bool}{i:Nat}:∀{A B:List a_} {H:ae},cg ms rd i (A++B) H=V->(∀u∈A,u.k.b7=V->bD ms i u.i=U)->
  (∀u d,B=u::d->u.k.b7=V/\bD ms u.i i=U)->rd (bx A H)=V
 |[],[],H,h,_,_=>h
 |[],u::B,H,h,_,a=>by
  obtain⟨e,f⟩:=a u B rfl;simp only[List.nil_append,cg,e,if_true,Bool.and_eq_true,Bool.or_eq_true,f]at h;simpa [bx]using h.1
 |t::A,B,H,h,b,a=>by
  simp only[List.cons_append,cg]at h;split at h
  ·rename_i c;simp only[Bool.and_eq_true,Bool.or_eq_true,b t (by simp) c]at h;rw[bx];exact vF (h.2.resolve_left (by simp)) (λu hu=>b u (by simp[hu])) a
  ·rename_i c;rw[bx,nv (by simpa using c)];exact vF h (λu hu=>b u (by simp[hu])) a
def dq(P:Program)(aw:Op)(C:aX)(v:aa)(H:ae):Bool:=
 match cC P aw C H with
 |some u=>aa.beq u v
 |none=>U
def yq{P:Program}{aw:Op}{C:aX}{v:aa}{H:ae}(h:dq P aw C v H=V):cC P aw C H=D v:=by
 unfold dq at h;split at h
 ·rename_i u hu;rw[hu,aa.beq_eq h]
 ·cases h
def ae.only(H:ae):ae:=match H.get (H.next-1)with
 |some b=>⟨a6.put b H.next .leaf (H.next-1),H.next⟩
 |none=>⟨.leaf,H.next⟩
def ae.hQ{H:ae}{b:bk}{l:Nat}{x:bk}(h:(H.push b).only.get l=D x):l=H.next/\x=b:=by
 have e:(H.push b).get ((H.push b).next-1)=D b:=ae.cJ H b;unfold ae.only at h;rw[e]at h;simp only[ae.get,ae.dO,Nat.add_sub_cancel]at h;split at h
 ·by_cases a:H.next=l
  ·subst a;rw[a6.hI _ _ _ _ bj]at h;exact⟨rfl,by simpa using h.symm⟩
  ·rw[a6.gD _ _ _ _ _ a]at h;rw[a6.gB]at h;cases h
 ·cases h
def eW(k:K):Bool:=match k with
 | .br _ _=>U
 |_=>V
def eM(ms:List Nat)(i:Nat):List a_->Bool->Bool
 |[],_=>U
 |t::ts,s=>match t.k with
  | .new _ _=>(s&&bD ms t.i i&&ts.all λu=>eW u.k)||eM ms i ts (s|| !bD ms t.i i)
  | .br _ _=>eM ms i ts (s|| !bD ms t.i i)
  |_=>eM ms i ts s
def dN(ms:List Nat)(rd:ae->Bool)(i:Nat):List a_->ae->Bool->Bool
 |[],_,_=>U
 |t::ts,H,s=>match t.k with
  | .new _ b=>bif s&&bD ms t.i i&&ts.all (λu=>eW u.k)then rd (H.push b).only||dN ms rd i ts (H.push b) (s|| !bD ms t.i i)else dN ms rd i ts (H.push b) (s|| !bD ms t.i i)
  | .br _ H'=>dN ms rd i ts H' (s|| !bD ms t.i i)
  |_=>dN ms rd i ts H s
def xV{ms:List Nat}{rd:ae->Bool}{i:Nat}:∀{T:List a_} {H:ae} {s:Bool},dN ms rd i T H s=V->
  ∃A u B v b,T=A++u::B/\u.k= .new v b/\bD ms u.i i=V/\(∀x∈B,eW x.k=V)/\rd ((bx A H).push b).only=V
 |[],H,s,h=>by cases h
 |t::ts,H,s,h=>by
  have d:∀{H':ae} {g:Bool},t.k.heap H=H'->dN ms rd i ts H' g=V->∃A u B v b,t::ts=A++u::B/\u.k= .new v b/\bD ms u.i i=V/\(∀x∈B,eW x.k=V)/\rd ((bx A H).push b).only=true:=by
   intro H' g e bs;obtain⟨A,u,B,v,b,j,l,m,n,o⟩:=xV bs;exact⟨t::A,u,B,v,b,by rw[j];rfl,l,m,n,by rw[bx,e];exact o⟩
  unfold dN at h;split at h
  ·rename_i v b a;have f:t.k.heap H=H.push b:=by rw[a];rfl
   cases c:(s&&bD ms t.i i&&ts.all λu=>eW u.k)with
   |true=>
    rw[c,eo,Bool.or_eq_true]at h;simp only[Bool.and_eq_true,List.all_eq_true]at c;rcases h with h|h
    ·exact⟨[],t,ts,v,b,rfl,a,c.1.2,c.2,h⟩
    ·exact d f h
   |false=>rw[c,gw]at h;exact d f h
  ·rename_i v H' a;exact d (by rw[a];rfl) h
  ·rename_i p q;refine d (nv ?_ H) h;cases a:t.k with
   |new v b=>exact absurd a (p v b)
   |br v H'=>exact absurd a (q v H')
   |_=>rfl
def ga(ms:List Nat)(rd:ae->Bool)(i:Nat)(T:List a_)(H:ae):Bool:=bif eM ms i T U then cg ms rd i T H||dN ms rd i T H U else cg ms rd i T H
def Tr{ms:List Nat}{rd:ae->Bool}{i:Nat}{T:List a_}{H:ae}(h:ga ms rd i T H=V):cg ms rd i T H=V\/dN ms rd i T H U=true:=by
 unfold ga at h;cases a:eM ms i T U with
 |true=>rw[a,eo,Bool.or_eq_true]at h;exact h
 |false=>rw[a,gw]at h;exact .inl h
def dF(P:Program)(ms:List Nat)(a:Nat->Bool)(T:List a_)(H:ae):List a_->Bool
 |[]=>V
 |t::ts=>(match t.k with
  | .read v=>a t.i||ga ms (dq P t.aw.op t.C v) t.i T H
  |_=>V)&&dF P ms a T H ts
def yY{P:Program}{ms:List Nat}{a:Nat->Bool}{T:List a_}{H:ae}{t:a_}{v:aa}(b:t.k= .read v):∀{ts:List a_},dF P ms a T H ts=V->t∈ts->a t.i=V\/ga ms (dq P t.aw.op t.C v) t.i T H=V
 |[],_,hm=>by simp at hm
 |u::ts,h,hm=>by
  simp only[dF,Bool.and_eq_true]at h;rcases List.mem_cons.1 hm with rfl|hm
  ·have:=h.1;rw[b]at this;simpa using this
  ·exact yY b h.2 hm
section
variable {P:Program}{call:ai}{ops:Array Oper}{ord:List Nat}{bI bw:aX}{ba bF:ae}{T:List a_}{ρ0:Env}{w0:World}{Q:Exit->Act->World->Prop}
def bC(a:Array Bool)(i:Nat):Bool:=a.getD i U
def yd{i j:Nat}{aw q:Oper}(a:ops[i]? =D aw)(b:ops[j]? =D q)(h:hR ops (bA ops) i j=V):
  i≠j/\bD (bA ops) j i=U/\(bD (bA ops) i j=V\/aw.apart ops q=V):=by
 unfold hR at h;rw[a,b]at h;simp only[Bool.and_eq_true,bne_iff_ne,ne_eq,Bool.not_eq_true',Bool.or_eq_true]at h;exact⟨h.1.1,h.1.2,h.2⟩
def cR(ops:Array Oper)(ms ord:List Nat)(i:Nat):Bool:=
 ord.all λj=>(j==i)||(match ops[j]? with|some aw=> !ft aw.op|none=>V)||bD ms j i||bD ms i j
def Un{ms ord:List Nat}{i j:Nat}{aw:Oper}(h:cR ops ms ord i=V)(b:j∈ord)(c:j≠i)(d:ops[j]? =D aw)(a:ft aw.op=V):bD ms j i=V\/bD ms i j=true:=by
 unfold cR at h;rw[List.all_eq_true]at h;have:=h j b;rw[d]at this;simpa [c,a]using this
structure Ctx(P:Program)(call:ai)(ops:Array Oper)(ord:List Nat)(bI:aX)(ba:ae)(T:List a_)(bw:aX)(bF:ae):Prop where
 cq:canRun P call ops ord bI ba=some (T,bw,bF)
 sJ:fG ops (bA ops) ord=true
 br:c3 (bA ops) T []=true
 Vb:dF P (bA ops) (cR ops (bA ops) ord) T ba T=true
def Ctx.ye(c:Ctx P call ops ord bI ba T bw bF):T.Pairwise λt u=>hR ops (bA ops) t.i u.i=true:=by
 have h:=c.sJ;simp only[fG,Bool.and_eq_true]at h;have a:=yf h.2.2.2;rw[<-(dy c.cq).1]at a;exact(List.pairwise_map.1 a)
def Ctx.at(c:Ctx P call ops ord bI ba T bw bF){A B:List a_}{t:a_}(h:T=A++t::B):
  ops[t.i]? =D t.aw/\(∀d,t.C.get d=b_ (λ_=>V) d A (bI.get d))/\cm P call ops t.aw t.C (bx A ba)=D t.k/\(∀d,t.aw.dst=D d->d<bI.size):=
 nb (by rw[<-h];exact c.cq)
def Ctx.mem(c:Ctx P call ops ord bI ba T bw bF){t:a_}(h:t∈T):ops[t.i]? =D t.aw:=by
 obtain⟨A,B,h⟩:=List.append_of_mem h;exact(c.at h).1
def Ctx.before(c:Ctx P call ops ord bI ba T bw bF){A B:List a_}{t:a_}(h:T=A++t::B){u:a_}(hu:u∈A):
  u.i≠t.i/\bD (bA ops) t.i u.i=U/\(bD (bA ops) u.i t.i=V\/u.aw.apart ops t.aw=V):=by
 have a:=c.ye;rw[h,List.pairwise_append]at a;exact yd (c.mem (by rw[h];simp[hu])) (c.mem (by rw[h];simp)) (a.2.2 u hu t (by simp))
def Ctx.after(c:Ctx P call ops ord bI ba T bw bF){A B:List a_}{t:a_}(h:T=A++t::B){u:a_}(hu:u∈B):
  t.i≠u.i/\bD (bA ops) u.i t.i=U/\(bD (bA ops) t.i u.i=V\/t.aw.apart ops u.aw=V):=by
 have a:=c.ye;rw[h,List.pairwise_append,List.pairwise_cons]at a;exact yd (c.mem (by rw[h];simp)) (c.mem (by rw[h];simp[hu])) (a.2.1.1 u hu)
def Ctx.looks(c:Ctx P call ops ord bI ba T bw bF){A B:List a_}{t:a_}(h:T=A++t::B){L:Nat->Bool}(b:hl ops L)(hw:dG L t.aw)(g:L t.i=U):
  ∀d∈t.aw.looksAt ops,b_ L d T (bI.get d)=t.C.get d:=by
 intro d j;obtain⟨l,m,_,_⟩:=c.at h;rw[m d,h,ev,b_];rw[if_neg (by rintro⟨f,_⟩;rw[g]at f;cases f)];rw[hX (A:=B),hW (L':=λ_=>V)]
 ·intro u hu e;obtain⟨_,_,a⟩:=c.before h hu;rcases a with a|a
  ·exact dU b _ _ l hw _ a
  ·exact absurd j ((Oper.apart_spec a).1 d e)
 ·intro u hu e;obtain⟨_,_,a⟩:=c.after h hu;rcases a with a|a
  ·cases n:L u.i with
   |false=>rfl
   |true=>
    have k:=c.mem (t:=u) (by rw[h];simp[hu]);have:=dU b _ _ k (b _ _ k n) _ a;rw[g]at this;cases this
  ·exact absurd j ((Oper.apart_spec a).2.2 d e)
def Ctx.zr(c:Ctx P call ops ord bI ba T bw bF){A B:List a_}{t:a_}(h:T=A++t::B){L L':Nat->Bool}(e:hl ops L)(n:L t.i=U)(o:L' t.i=V)(g:∀j,j≠t.i->L' j=L j)(d:Nat)(v:aa):
  b_ L' d T v=if t.aw.dst=D d then t.k.val else b_ L d T v:=by
 have l:∀u∈A,u.aw.dst=D d->L' u.i=L u.i:=λu hu _=>g _ (c.before h hu).1
 have m:∀u∈B,u.aw.dst=D d->L' u.i=L u.i:=λu hu _=>g _ (Ne.symm (c.after h hu).1)
 rw[h,ev,ev,hW l];simp only[b_];rw[hW m];by_cases a:t.aw.dst=D d
 ·rw[if_pos ⟨o,a⟩,if_pos a];refine hX λu hu q=> ?_
  obtain⟨_,_,b⟩:=c.after h hu;rcases b with b|b
  ·cases p:L u.i with
   |false=>rfl
   |true=>
    have f:=c.mem (t:=u) (by rw[h];simp[hu]);have:=dU e _ _ f (e _ _ f p) _ b;rw[n]at this;cases this
  ·exact absurd q ((Oper.apart_spec b).2.1 d a)
 ·rw[if_neg (λx=>a x.2),if_neg a,if_neg (λx=>a x.2)]
def ca.turns{N:Nat}{ρ:Env}{w:World}{L:Nat->Bool}:∀{zC zD:List a_} {H:ae},b9 H (zC++zD)->(∀u∈zC,u.k.b7=V->L u.i=V/\∃v b,u.k= .new v b)->
  ca ρ0 ba w0 N (bW L (zC++zD) H) ρ H w->ca ρ0 ba w0 N (bW L zD (bx zC H)) ρ (bx zC H) w
 |[],zD,H,_,_,m=>m
 |c::zC,zD,H,hm,e,m=>by
  by_cases a:c.k.b7=V
  ·obtain⟨n,v,b,d⟩:=e c (by simp) a;have p:bW L (c::zC++zD) H H.next=D b:=by simp[bW,d,n]
   have l:=m.yU p;have g:b9 (H.push b) (zC++zD):=by have:=hm.2;rw[d]at this;exact this
   have heq:(λk=>if k=H.next then Y else bW L (c::zC++zD) H k)=bW L (zC++zD) (H.push b):=by
    funext k
    by_cases f:k=H.next
    ·rw[if_pos f];cases q:bW L (zC++zD) (H.push b) k with
     |none=>rfl
     |some b5=>have:=hT g q;simp at this;omega
    ·rw[if_neg f];simp[bW,d,f]
   rw[heq]at l;have:=ca.turns g (λu hu=>e u (by simp[hu])) l;rw[bx,d];exact this
  ·have o:∀v b,c.k≠ .new v b:=λv b h=>by rw[h]at a;exact a rfl
   rw[List.cons_append,gL o]at m;have j:=nv (by simpa using a) H;rw[bx];rw[j]at m ⊢;refine ca.turns ?_ (λu hu=>e u (by simp[hu])) m;have:=hm.2;rwa[j]at this
structure Inv(ops:Array Oper)(bI:aX)(ba:ae)(T:List a_)(N:Nat)(ρ0:Env)(w0:World)(b:Array Bool)(a:Act)(w:World):Prop where
 size:b.size=ops.size
 closed:hl ops (bC b)
 mid:∃ρ T1 T2,T=T1++T2/\(∀t∈T1,t.k.b7=true->bC b t.i=true)/\(∀t∈T2,(∃v H,t.k= .br v H)->bC b t.i=false)/\
  ca ρ0 ba w0 N (bW (bC b) T2 (bx T1 ba)) ρ (bx T1 ba) w/\∃c:aX,bY ρ c a/\c.size=bI.size/\∀d,c.get d=b_ (bC b) d T (bI.get d)
def Ctx.final(c:Ctx P call ops ord bI ba T bw bF){f:Array Bool}{a:Act}{w:World}(s:Inv ops bI ba T bF.next ρ0 w0 f a w)(h:∀t∈T,bC f t.i=V):
  ∃ρ,bY ρ bw a/\Step ρ0 ba w0 ρ bF w:=by
 obtain⟨ρ,T1,T2,cq,E,r,m,B,g,z,A⟩:=s.mid;obtain⟨C,o,p,q⟩:=dy c.cq;have n:=gu c.cq;rw[cq]at n;have x:=(b9.append n).2;have cE:=ca.turns (zC:=T2) (zD:=[]) (L:=bC f) (by simpa using x) (λu hu j=>by
  have e:=h u (by rw[cq];simp[hu]);refine⟨e,?_⟩;cases l:u.k with
  |new v b=>exact⟨v,b,rfl⟩
  |br v H=>rw[r u hu ⟨v,H,l⟩]at e;cases e
  |_=>rw[l]at j;cases j) (by simpa using m)
 rw[<-dL,<-cq,<-o]at cE;refine⟨ρ,⟨by rw[p,<-z];exact g.size,λd=> ?_,g.none⟩,cE.done rfl⟩;have:=g.get d;rw[A d,hW (L':=λ_=>V) (λt y _=>h t y),<-q d]at this;exact this
def eY{a:Array Bool}{i:Nat}(h:i∈Region.ready .any ops a)(j:a.size=ops.size):
  ∃aw,ops[i]? =D aw/\bC a i=U/\dG (bC a) aw/\i<ops.size:=by
 unfold Region.ready at h;simp only[List.mem_filter,List.mem_range,Bool.and_eq_true,Bool.not_eq_true']at h;obtain⟨d,b,c⟩:=h;have f:ops[i]? =D ops[i]:=by simp[d]
 refine⟨ops[i],f,?_,?_,d⟩
 ·unfold bC;rw[Array.getD_eq_getD_getElem?]at b ⊢;have:i<a.size:=bj;simp[this]at b ⊢;exact b
 ·rw[f]at c;simp only[Option.map_some,Option.getD_some,Array.all_eq_true']at c;intro e he g;have:=c e he;simpa [g,bC]using this
def nO{a:Array Bool}{i:Nat}{aw:Oper}(d:ops[i]? =D aw)(b:bC a i=U)(hw:dG (bC a) aw)(g:a.size=ops.size):i∈Region.ready .any ops a:=by
 unfold Region.ready;have f:i<ops.size:=(Array.getElem?_eq_some_iff.1 d).1;simp only[List.mem_filter,List.mem_range,Bool.and_eq_true,Bool.not_eq_true'];refine⟨f,?_,?_⟩
 ·unfold bC at b;rw[Array.getD_eq_getD_getElem?]at b ⊢;have:i<a.size:=bj;simp[this]at b ⊢;exact b
 ·rw[d];simp only[Option.map_some,Option.getD_some,Array.all_eq_true'];intro e he;by_cases c:Region.binds .any e=V
  ·have:=hw e he c;unfold bC at this;rw[this];simp
  ·simp[c]
def Ctx.vU(c:Ctx P call ops ord bI ba T bw bF){b:Array Bool}(E:b.size=ops.size)(C:Region.ready .any ops b=[]):∀t∈T,bC b t.i=true:=by
 have q:=c.sJ;simp only[fG,Bool.and_eq_true,List.all_eq_true,List.mem_range]at q;obtain⟨v,x,w,_⟩:=q;have o:=(dy c.cq).1;have key:∀(n:Nat) (A:List a_) (t:a_) (B:List a_),A.length=n->T=A++t::B->bC b t.i=true:=by
  intro n
  induction n using Nat.strongRecOn with
  |_ n G=>
   intro A t B hlen h;have f:=(c.at h).1;cases y:bC b t.i with
   |true=>rfl
   |false=>
    have:t.i∈Region.ready .any ops b:=by
     refine nO f y (λe he m=> ?_) E;have d:=Av f he m;have z:e.on<ops.size:=by
      have a:=w t.aw (by
       have:=(Array.getElem?_eq_some_iff.1 f);obtain⟨k,s⟩:=this;rw[<-s];simp)
      unfold wC at a;rw[List.all_eq_true]at a;have k:=a e (by simpa using he);simpa [m]using k
     have p:=v e.on z;rw[List.contains_iff_mem,<-o,List.mem_map]at p;obtain⟨u,hu,g⟩:=p;rw[h]at hu;rcases List.mem_append.1 hu with hu|hu
     ·obtain⟨j,r,l⟩:=List.append_of_mem hu;rw[<-g];refine G j.length ?_ j u (r++t::B) rfl (by rw[h,l];simp);rw[<-hlen,l];simp
     ·rcases List.mem_cons.1 hu with rfl|hu
      ·exfalso;have a:=x u.i (by rw[<-o,List.mem_map];exact⟨u,by rw[h];simp,rfl⟩);rw[<-g]at d;rw[d]at a;cases a
      ·exfalso;have a:=(c.after h hu).2.1;rw[g,d]at a;cases a
    rw[C]at this;simp at this
 intro t F;obtain⟨A,B,h⟩:=List.append_of_mem F;exact key _ A t B rfl h
def wz{p q:Nat->Bool}{i:Nat}:∀{l:List Nat},i∈l->(∀j,q j=V->p j=V)->p i=V->q i=U->l.countP q<l.countP p
 |[],h,_,_,_=>by simp at h
 |j::l,h,himp,a,b=>by
  have hle:∀l:List Nat,l.countP q<=l.countP p:=λl=>List.countP_mono_left λx _ d=>himp x d
  simp only[List.countP_cons];rcases List.mem_cons.1 h with rfl|h
  ·rw[a,b];have:=hle l;simp;omega
  ·have:=wz h himp a b;cases c:q j with
   |true=>rw[himp j c];simp;omega
   |false=>cases p j<;>simp<;>omega
def eS{a:Array Bool}{i:Nat}(b:i<a.size)(j:Nat):bC (a.setIfInBounds i V) j=if j=i then V else bC a j:=by
 unfold bC;rw[Array.getD_eq_getD_getElem?,Array.getD_eq_getD_getElem?,Array.getElem?_setIfInBounds];by_cases h:i=j
 ·subst h;simp[b]
 ·have bs:¬j=i:=λe=>h e.symm
  simp[h,bs]

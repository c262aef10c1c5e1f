/-
  Texts of one proof, laid together: Hv0 Hv1 Hv2 Hv3 Hv4 Hv5 Hv6.
-/
import GoSem.Dispatch
import Derived.WalkKit
import Derived.Laws.IdiomCopy
set_option linter.unusedVariables false
set_option linter.unusedSimpArgs false
set_option linter.defProp false
open Option renaming some→D,none→Z
open Bool renaming true→X,false→U
namespace Go.b9
def af{p:Prop}(h:p:=by omega):p:=h
def ah{p:Prop}(h:p:=by kernel_rfl):p:=h
def cp{p:Prop}(h:p:=by decide):p:=h
def aj{a b:Prop}(x:a)(y:b):a/\b:=⟨x,y⟩
def aU{α:Type}(a b:α):(D a=D b)=(a=b):=Option.some.injEq a b
def aY{α:Type}(a b:α):(bif X then a else b)=a:=rfl
def aT{α:Type}(a b:α):(bif U then a else b)=b:=rfl
def cR{α β:Type}{ai:Option α}{f:α->Option β}{b:β}:ai.bind f=D b↔∃a,ai=D a/\f a=D b:=Option.bind_eq_some_iff
def bY{α β:Type}(a:α)(b:β)(c:α)(d:β):((a,b)=(c,d))=(a=c/\b=d):=Prod.mk.injEq a b c d
def bk(n:Nat):n<=n:=Nat.le_refl n
inductive aa where
 |bool (b:Bool)
 |int (k:IntKind) (n:Int)
 |str (s:List UInt8)
 |ptr (l i c:Nat)
 |nilPtr
 |aA (l i n esz:Nat) (cap:Option Nat)
 |ar
 |map (l:Nat)
 |ho
 |func (fn:Fn) (first captured:List aa)
 |nilFunc
 |iface (t:TypeId) (v:aa)
 |nilIface
 |agg (cs:List aa)
 |tuple (a:List aa)
instance:Inhabited aa:=⟨.tuple []⟩
inductive bO where
 |row (ro:Bool) (esz:Nat) (els:List (List aa))
 |bU (t:TypeId) (esz:Nat) (els:List (List aa))
 |map (es:List (aa×aa))
 |dead
inductive jT where
 |d0|d1|d2|d3|d4|d5|d6|d7
inductive bn(α:Type) where
 |leaf
 |node (v:Option α) (a c d e h i j k:bn α)
def tT(n:Nat):jT:=match n with
 |0=> .d0|1=> .d1|2=> .d2|3=> .d3|4=> .d4|5=> .d5|6=> .d6|_=> .d7
def GL{n m:Nat}(d:n<8)(hm:m<8)(h:tT n=tT m):n=m:=by
 have a:n=0\/n=1\/n=2\/n=3\/n=4\/n=5\/n=6\/n=7:=af;have c:m=0\/m=1\/m=2\/m=3\/m=4\/m=5\/m=6\/m=7:=af;rcases a with rfl|rfl|rfl|rfl|rfl|rfl|rfl|rfl<;>rcases c with rfl|rfl|rfl|rfl|rfl|rfl|rfl|rfl<;>first|rfl|cases h
def lL:Nat->Nat->List jT
 |0,_=>[]
 |_+1,0=>[]
 |f+1,k+1=>tT (k%8)::lL f (k/8)
def path(k:Nat):List jT:=lL k k
def IU:∀(f g k j:Nat),k<=f->j<=g->lL f k=lL g j->k=j:=by
 intro f
 induction f with
 |zero=>
  intro g k j c a h;have:k=0:=af;subst this;cases j with
  |zero=>rfl
  |succ j=>
   cases g with
   |zero=>omega
   |succ g=>simp[lL]at h
 |succ f d=>
  intro g k j c a h;cases k with
  |zero=>
   cases j with
   |zero=>rfl
   |succ j=>
    cases g with
    |zero=>omega
    |succ g=>simp[lL]at h
  |succ k=>
   cases j with
   |zero=>cases g<;>simp[lL]at h
   |succ j=>
    cases g with
    |zero=>omega
    |succ g=>
     simp only[lL,List.cons.injEq]at h;have e:=GL (Nat.mod_lt _ af) (Nat.mod_lt _ af) h.1;have i:=d g (k/8) (j/8) af af h.2;omega
def Cf{k j:Nat}(h:path k=path j):k=j:=IU k j k j (bk _) (bk _) h
def bn.h5{α:Type}:List jT->bn α->Option α
 |[],.leaf=>Z
 |[],.node v _ _ _ _ _ _ _ _=>v
 |_::_,.leaf=>Z
 |d::p,.node _ a c e h i j k l=>match d with
  | .d0=>bn.h5 p a| .d1=>bn.h5 p c| .d2=>bn.h5 p e| .d3=>bn.h5 p h
  | .d4=>bn.h5 p i| .d5=>bn.h5 p j| .d6=>bn.h5 p k| .d7=>bn.h5 p l
def bn.dE{α:Type}(x:α):List jT->bn α->bn α
 |[],.leaf=> .node (D x) .leaf .leaf .leaf .leaf .leaf .leaf .leaf .leaf
 |[],.node _ a c e h i j k l=> .node (D x) a c e h i j k l
 |d::p,.leaf=>match d with
  | .d0=> .node Z (bn.dE x p .leaf) .leaf .leaf .leaf .leaf .leaf .leaf .leaf
  | .d1=> .node Z .leaf (bn.dE x p .leaf) .leaf .leaf .leaf .leaf .leaf .leaf
  | .d2=> .node Z .leaf .leaf (bn.dE x p .leaf) .leaf .leaf .leaf .leaf .leaf
  | .d3=> .node Z .leaf .leaf .leaf (bn.dE x p .leaf) .leaf .leaf .leaf .leaf
  | .d4=> .node Z .leaf .leaf .leaf .leaf (bn.dE x p .leaf) .leaf .leaf .leaf
  | .d5=> .node Z .leaf .leaf .leaf .leaf .leaf (bn.dE x p .leaf) .leaf .leaf
  | .d6=> .node Z .leaf .leaf .leaf .leaf .leaf .leaf (bn.dE x p .leaf) .leaf
  | .d7=> .node Z .leaf .leaf .leaf .leaf .leaf .leaf .leaf (bn.dE x p .leaf)
 |d::p,.node v a c e h i j k l=>match d with
  | .d0=> .node v (bn.dE x p a) c e h i j k l
  | .d1=> .node v a (bn.dE x p c) e h i j k l
  | .d2=> .node v a c (bn.dE x p e) h i j k l
  | .d3=> .node v a c e (bn.dE x p h) i j k l
  | .d4=> .node v a c e h (bn.dE x p i) j k l
  | .d5=> .node v a c e h i (bn.dE x p j) k l
  | .d6=> .node v a c e h i j (bn.dE x p k) l
  | .d7=> .node v a c e h i j k (bn.dE x p l)
def bn.rB{α:Type}(p:List jT):bn.h5 p (.leaf:bn α)=none:=by cases p<;>rfl
def bn.ur{α:Type}(x:α):∀(p:List jT) (t:bn α),bn.h5 p (bn.dE x p t)=D x
 |[],.leaf=>rfl
 |[],.node .. =>rfl
 |d::p,.leaf=>by cases d<;>exact bn.ur x p _
 |d::p,.node .. =>by cases d<;>exact bn.ur x p _
def bn.uq{α:Type}(x:α):∀(p q:List jT) (t:bn α),p≠q->bn.h5 q (bn.dE x p t)=bn.h5 q t
 |[],[],_,h=>absurd rfl h
 |[],e::q,.leaf,_=>by cases e<;>exact bn.rB q
 |[],e::q,.node ..,_=>rfl
 |d::p,[],.leaf,_=>by cases d<;>rfl
 |d::p,[],.node ..,_=>by cases d<;>rfl
 |d::p,e::q,.leaf,h=>by
  cases d<;>cases e<;>first
   |exact bn.rB q
   |(show bn.h5 q (bn.dE x p .leaf)=Z
     rw[bn.uq x p q .leaf (λa=>h (by rw[a]))];exact bn.rB q)
 |d::p,e::q,.node ..,h=>by
  cases d<;>cases e<;>first
   |rfl
   |exact bn.uq x p q _ (λa=>h (by rw[a]))
def bn.get{α:Type}(t:bn α)(k:Nat):Option α:=bn.h5 (path k) t
def bn.put{α:Type}(x:α)(_:Nat)(t:bn α)(k:Nat):bn α:=bn.dE x (path k) t
def bn.pZ{α:Type}(k:Nat):(bn.leaf:bn α).get k=none:=bn.rB _
def bn.p3{α:Type}(x:α):∀(f:Nat) (t:bn α) (k:Nat),k<f->(bn.put x f t k).get k=D x:=λ_ t k _=>bn.ur x (path k) t
def bn.p2{α:Type}(x:α):∀(f:Nat) (t:bn α) (k j:Nat),k≠j->(bn.put x f t k).get j=t.get j:=λ_ t _ _ h=>bn.uq x _ _ t (λe=>h (Cf e))
structure ae where
 t:bn bO
 next:Nat
def ae.get(H:ae)(l:Nat):Option bO:=if l<H.next then H.t.get l else Z
def ae.set(H:ae)(l:Nat)(b:bO):ae:={H with t:=bn.put b (l+1) H.t l}
def ae.push(H:ae)(b:bO):ae:={t:=bn.put b (H.next+1) H.t H.next,next:=H.next+1}
def ae.empty:ae:=⟨.leaf,0⟩
@[simp] theorem ae.dj(H:ae)(l:Nat)(b:bO):(H.set l b).next=H.next:=rfl
@[simp] theorem ae.bT(H:ae)(b:bO):(H.push b).next=H.next+1:=rfl
def ae.aS{H:ae}{l:Nat}{b:bO}(h:H.get l=D b):l<H.next:=by
 unfold ae.get at h;split at h
 ·assumption
 ·cases h
def ae.get_set_same{H:ae}{l:Nat}{b:bO}(h:l<H.next):(H.set l b).get l=D b:=by
 show(if l<H.next then(bn.put b (l+1) H.t l).get l else Z)=D b;rw[if_pos h];exact bn.p3 b _ _ _ af
def ae.get_set_other{H:ae}{l j:Nat}{b:bO}(h:l≠j):(H.set l b).get j=H.get j:=by
 show(if j<H.next then(bn.put b (l+1) H.t l).get j else Z)=(if j<H.next then H.t.get j else Z);rw[bn.p2 b _ _ _ _ h]
def ae.bC(H:ae)(b:bO):(H.push b).get H.next=D b:=by
 show(if H.next<H.next+1 then(bn.put b (H.next+1) H.t H.next).get H.next else Z)=D b;rw[if_pos af];exact bn.p3 b _ _ _ af
def ae.dp{H:ae}{j:Nat}{b:bO}(h:j≠H.next):(H.push b).get j=H.get j:=by
 show(if j<H.next+1 then(bn.put b (H.next+1) H.t H.next).get j else Z)=(if j<H.next then H.t.get j else Z);by_cases a:j<H.next
 ·rw[if_pos af,if_pos a,bn.p2 b _ _ _ _ af]
 ·rw[if_neg af,if_neg a]
section
structure Loc where
 block:Nat
 off:Nat
 esz:Nat
 size:Nat
def Env:Type:=Nat->Option Loc
def Env.le(ρ a:Env):Prop:=∀l loc,ρ l=D loc->a l=D loc
def Env.le_refl(ρ:Env):ρ.le ρ:=λ_ _ h=>h
def Env.le_trans{ρ a c:Env}(h:ρ.le a)(ba:a.le c):ρ.le c:=λl loc e=>ba l loc (h l loc e)
mutual
inductive bd(ρ:Env):aa->Value->Prop where
 |bool (b:Bool):bd ρ (.bool b) (.bool b)
 |int (k:IntKind) (n:Int):bd ρ (.int k n) (.int k n)
 |str (s:List UInt8):bd ρ (.str s) (.string ⟨s.toArray⟩)
 |ptr (l i c:Nat) (loc:Loc) (h:ρ l=some loc):bd ρ (.ptr l i c) (.pointer (some ⟨loc.block,loc.off+i*loc.esz+c,none⟩))
 |nilPtr:bd ρ .nilPtr (.pointer none)
 |aA (l i n:Nat) (cap:Option Nat) (loc:Loc) (a:Addr) (c:Nat) (h:ρ l=some loc) (m:n<=c) (d:∀k,cap=some k->c=k)
  (e:0<c->a=⟨loc.block,loc.off+i*loc.esz,none⟩/\loc.off+(i+c)*loc.esz<=loc.size):bd ρ (.aA l i n loc.esz cap) (.slice (some a) n c)
 |ar:bd ρ .ar (.slice none 0 0)
 |map (l:Nat) (loc:Loc) (h:ρ l=some loc):bd ρ (.map l) (.map (some loc.block))
 |ho:bd ρ .ho (.map none)
 |func (fn:Fn) (f c:List aa) (iy c':List Value) (j:bq ρ f iy) (d:bq ρ c c'):bd ρ (.func fn f c) (.func fn iy.toArray c'.toArray)
 |nilFunc:bd ρ .nilFunc .nilFunc
 |iface (t:TypeId) (v:aa) (x:Value) (h:bd ρ v x):bd ρ (.iface t v) (.iface t x)
 |nilIface:bd ρ .nilIface .nilIface
 |agg (cs:List aa) (xs:List Value) (h:bq ρ cs xs):bd ρ (.agg cs) (.agg xs.toArray)
 |tuple (cs:List aa) (xs:List Value) (h:bq ρ cs xs):bd ρ (.tuple cs) (.tuple xs.toArray)
inductive bq(ρ:Env):List aa->List Value->Prop where
  |nil:bq ρ [] []
  |cons (v:aa) (x:Value) (a:List aa) (xs:List Value) (h:bd ρ v x) (aB:bq ρ a xs):bq ρ (v::a) (x::xs)
 end
mutual
def bd.mono{ρ e:Env}(hle:ρ.le e){v:aa}{x:Value}(h:bd ρ v x):bd e v x:=by
 cases h with
 |bool b=>exact .bool b
 |int k n=>exact .int k n
 |str s=>exact .str s
 |ptr l i c loc h=>exact .ptr l i c loc (hle _ _ h)
 |nilPtr=>exact .nilPtr
 |aA l i n cap loc a c h o d j=>exact .aA l i n cap loc a c (hle _ _ h) o d j
 |ar=>exact .ar
 |map l loc h=>exact .map l loc (hle _ _ h)
 |ho=>exact .ho
 |func fn f c iy c' m d=>exact .func fn f c iy c' (bq.mono hle m) (bq.mono hle d)
 |nilFunc=>exact .nilFunc
 |iface t v x h=>exact .iface t v x (bd.mono hle h)
 |nilIface=>exact .nilIface
 |agg cs xs h=>exact .agg cs xs (bq.mono hle h)
 |tuple cs xs h=>exact .tuple cs xs (bq.mono hle h)
def bq.mono{ρ a:Env}(hle:ρ.le a){v:List aa}{x:List Value}(h:bq ρ v x):bq a v x:=by
  cases h with
  |nil=>exact .nil
  |cons v x c xs h aB=>exact .cons v x c xs (bd.mono hle h) (bq.mono hle aB)
 end
def bq.length{ρ:Env}:∀{a:List aa} {xs:List Value},bq ρ a xs->a.length=xs.length
 |[],_,h=>by cases h;rfl
 |_::_,_,h=>by cases h with|cons _ _ _ _ _ aB=>simp[bq.length aB]
def bq.get{ρ:Env}:∀{c:List aa} {xs:List Value},bq ρ c xs->∀(j:Nat) (v:aa),c[j]? =D v->∃x,xs[j]? =D x/\bd ρ v x
 |[],_,h,j,v,a=>by simp at a
 |w::c,_,h,j,v,a=>by
  cases h with
  |cons _ x _ xs d aB=>
   cases j with
   |zero=>simp at a;subst a;exact⟨x,rfl,d⟩
   |succ j=>simpa using bq.get aB j v (by simpa using a)
def bq.append{ρ:Env}:∀{c us:List aa} {xs d:List Value},bq ρ c xs->bq ρ us d->bq ρ (c++us) (xs++d)
 |[],_,_,_,h,ba=>by cases h;exact ba
 |_::_,_,_,_,h,ba=>by cases h with|cons _ _ _ _ a as=>exact .cons _ _ _ _ a (bq.append as ba)
def bq.B3{ρ:Env}:∀{c:List aa} {xs:List Value},c.length=xs.length->(∀(j:Nat) (v:aa) (x:Value),c[j]? =D v->xs[j]? =D x->bd ρ v x)->bq ρ c xs
 |[],[],_,_=> .nil
 |[],_::_,h,_=>by simp at h
 |_::_,[],h,_=>by simp at h
 |v::c,x::xs,h,d=> .cons _ _ _ _ (d 0 v x rfl rfl) (bq.B3 (by simpa using h) λj a b e i=>d (j+1) a b (by simpa using e) (by simpa using i))
def bq.set{ρ:Env}{v:aa}{x:Value}(h:bd ρ v x):∀{c:List aa} {xs:List Value} (j:Nat),bq ρ c xs->bq ρ (c.set j v) (xs.set j x)
 |[],_,_,aB=>by cases aB;exact .nil
 |_::_,_,0,aB=>by cases aB with|cons _ _ _ _ a as=>exact .cons _ _ _ _ h as
 |_::_,_,j+1,aB=>by cases aB with|cons _ _ _ _ a as=>exact .cons _ _ _ _ a (bq.set h j as)
def aa.one:aa->Bool
 | .agg _| .tuple _=>U
 |_=>X
def aa.cells:aa->List aa
 | .agg cs=>cs
 |v=>[v]
def bd.vb{ρ:Env}{v:aa}{x:Value}(h:bd ρ v x)(a:v.one=X):x.oneCell'=true:=by
 cases h<;>first|rfl|cases a
def bd.cells{ρ:Env}{v:aa}{x:Value}(h:bd ρ v x):bq ρ v.cells x.cells.toList:=by
 cases h with
 |agg cs xs h=>simpa [aa.cells,Value.cells]using h
 |bool b=>exact .cons _ _ _ _ (.bool b) .nil
 |int k n=>exact .cons _ _ _ _ (.int k n) .nil
 |str s=>exact .cons _ _ _ _ (.str s) .nil
 |ptr l i c loc h=>exact .cons _ _ _ _ (.ptr l i c loc h) .nil
 |nilPtr=>exact .cons _ _ _ _ .nilPtr .nil
 |aA l i n cap loc a c h m d e=>exact .cons _ _ _ _ (.aA l i n cap loc a c h m d e) .nil
 |ar=>exact .cons _ _ _ _ .ar .nil
 |map l loc h=>exact .cons _ _ _ _ (.map l loc h) .nil
 |ho=>exact .cons _ _ _ _ .ho .nil
 |func fn f c iy c' j d=>exact .cons _ _ _ _ (.func fn f c iy c' j d) .nil
 |nilFunc=>exact .cons _ _ _ _ .nilFunc .nil
 |iface t v x h=>exact .cons _ _ _ _ (.iface t v x h) .nil
 |nilIface=>exact .cons _ _ _ _ .nilIface .nil
 |tuple cs xs h=>exact .cons _ _ _ _ (.tuple cs xs h) .nil
def fc(ρ:Env)(w:World)(loc:Loc)(ro:Bool)(esz:Nat)(els:List (List aa)):Prop:=loc.esz=esz/\∃c t a,w.heap[loc.block]? =D (.cells c t a)/\(loc.size=c.size/\(ro=U->∀ai,ai<c.size->¬(a.1<=ai/\ai<a.2)))/\ ∀(i:Nat) (e:List aa),els[i]? =D e->e.length=esz/\∀(j:Nat) (v:aa),e[j]? =D v->v.one=X/\∃x,c[loc.off+i*esz+j]? =D x/\bd ρ v x
def lp(ρ:Env)(w:World)(loc:Loc)(t:TypeId)(esz:Nat)(els:List (List aa)):Prop:=fc ρ w loc U esz els/\∃c a,w.heap[loc.block]? =D (.cells c t a)/\loc.off=0
def td(ρ:Env)(w:World)(loc:Loc)(es:List (aa×aa)):Prop:=∃ents clock,w.heap[loc.block]? =D (.map ents clock)/\bq ρ (es.map (·.1)) (ents.toList.map (·.key))/\bq ρ (es.map (·.2)) (ents.toList.map (·.val))
def ae.rw(H:ae)(l:Nat):Prop:=(∃esz els,H.get l=D (.row U esz els))\/(∃es,H.get l=D (.map es))\/∃t esz els,H.get l=D (.bU t esz els)
def ae.live(H:ae)(l:Nat):Prop:=(∃ro esz els,H.get l=D (.row ro esz els))\/(∃es,H.get l=D (.map es))\/∃t esz els,H.get l=D (.bU t esz els)
def ae.rw.live{H:ae}{l:Nat}(h:H.rw l):H.live l:=by
 rcases h with⟨e,s,h⟩|h
 ·exact .inl ⟨_,e,s,h⟩
 ·exact .inr h
def bO.p5:bO->Bool
 | .row X _ _=>X
 |_=>U
def ae.CS{H:ae}{l:Nat}{b:bO}(c:b.p5=U):∀k esz els,(H.set l b).get k=D (.row X esz els)->H.get k=D (.row X esz els):=by
 intro k esz els h;by_cases a:l=k
 ·subst a;have d:l<H.next:=by have:=ae.aS h;simpa using this
  rw[ae.get_set_same d]at h;simp only[aU]at h;subst h;cases c
 ·rwa[ae.get_set_other a]at h
def ae.CR{H:ae}{b:bO}(c:b.p5=U):∀k esz els,(H.push b).get k=D (.row X esz els)->H.get k=D (.row X esz els):=by
 intro k esz els h;by_cases a:k=H.next
 ·subst a;rw[ae.bC]at h;simp only[aU]at h;subst h;cases c
 ·rwa[ae.dp a]at h
structure Rel(ρ:Env)(H:ae)(w:World):Prop where
 row:∀l ro esz els,H.get l=some (.row ro esz els)->∃loc,ρ l=some loc/\fc ρ w loc ro esz els
 map:∀l es,H.get l=some (.map es)->∃loc,ρ l=some loc/\td ρ w loc es
 bU:∀l t esz els,H.get l=some (.bU t esz els)->∃loc,ρ l=some loc/\lp ρ w loc t esz els
 apart:∀l l' loc a,H.rw l->H.live l'->l≠l'->ρ l=some loc->ρ l'=some a->loc.block≠a.block
def hY(ρ:Env)(H:ae)(b:Nat):Prop:=∃l loc,H.rw l/\ρ l=D loc/\loc.block=b
structure Step(ρ:Env)(H:ae)(w:World)(c:Env)(H':ae)(a:World):Prop where
 le:ρ.le c
 next:H.next<=H'.next
 aX:∀l,l<H.next\/H'.next<=l->c l=ρ l
 rel:Rel c H' a
 os:a.os=w.os
 tape:a.tape=w.tape
 output:a.output=w.output
 size:w.heap.size<=a.heap.size
 frame:∀b,b<w.heap.size->¬hY ρ H b->a.heap[b]? =w.heap[b]?
 own:∀b,hY c H' b->hY ρ H b\/w.heap.size<=b
 ro:∀l esz els,H'.get l=some (.row true esz els)->H.get l=some (.row true esz els)
def Step.refl{ρ:Env}{H:ae}{w:World}(h:Rel ρ H w):Step ρ H w ρ H w:=
 ⟨ρ.le_refl,bk _,λ_ _=>rfl,h,rfl,rfl,rfl,bk _,λ_ _ _=>rfl,λ_ h=> .inl h,λ_ _ _ h=>h⟩
def Step.trans{ρ p q:Env}{H d i:ae}{w n o:World}(h:Step ρ H w p d n)(k:Step p d n q i o):Step ρ H w q i o where
 le:=Env.le_trans h.le k.le
 next:=Nat.le_trans h.next k.next
 aX:=λl j=>(k.aX l (j.imp (λx=>Nat.lt_of_lt_of_le x h.next) id)).trans (h.aX l (j.imp id (λx=>Nat.le_trans k.next x)))
 ro:=λl esz els e=>h.ro l esz els (k.ro l esz els e)
 rel:=k.rel
 os:=k.os.trans h.os
 tape:=k.tape.trans h.tape
 output:=k.output.trans h.output
 size:=Nat.le_trans h.size k.size
 frame:=λb a m=>by
  rw[k.frame b (Nat.lt_of_lt_of_le a h.size) (λc=>(h.own b c).elim m (λhle=>af)),h.frame b a m]
 own:=λb a=>(k.own b a).elim (λc=>h.own b c) (λhle=> .inr (Nat.le_trans h.size hle))
def wG(ρ:Env)(n m:Nat):Prop:=∀l,n<=l->l<m->ρ l=Z
structure hB(E ρ:Env)(n m:Nat):Prop where
 new:wG ρ n m
 le:E.le ρ
def hB.left{E ρ:Env}{n m k:Nat}(h:hB E ρ n k)(hm:m<=k):hB E ρ n m:=⟨λl a b=>h.new l a af,h.le⟩
def hB.after{E ρ d:Env}{H c:ae}{w e:World}{k:Nat}(h:hB E ρ H.next k)(s:Step ρ H w d c e):hB E d c.next k:=⟨λl a b=>by
 rw[s.aX l (.inr a)];exact h.new l (Nat.le_trans s.next a) b,Env.le_trans h.le s.le⟩
def Rel.drew{ρ:Env}{H:ae}{w:World}(h:Rel ρ H w):Rel ρ H w.drew:=⟨h.row,h.map,h.bU,h.apart⟩
end
def dJ(P:Program)(t:TypeId):Option Bool:=
 match P.underlying t with
 |some (.struct _)|some (.array _ _)=>D X
 |some _=>D U
 |none=>Z
def cn(P:Program)(t:TypeId):Option Nat:=(P.info? t).map (·.size)
def sf{P:Program}{t:TypeId}{b:Bool}(h:dJ P t=D b)(w:World):(isAgg t).run P w= .ok b w:=by
 unfold dJ at h;unfold isAgg;cases hu:P.underlying t with
 |none=>rw[hu]at h;cases h
 |some d=>
  rw[hu]at h;simp only[Sem.run_bind,run_underlying hu,Result.andThen_ok];cases d<;>simp_all
def run_sizeOf{P:Program}{t:TypeId}{n:Nat}(h:cn P t=D n)(w:World):(sizeOf t).run P w= .ok n w:=by
 unfold cn at h;cases a:P.info? t with
 |none=>rw[a]at h;cases h
 |some i=>rw[a]at h;simp at h;simp[sizeOf,typeInfo,a,h]
def apart(P:Program)(t:TypeId)(cs:List aa)(off:Nat):Option aa:=
 match dJ P t with
 |some X=>(match cn P t with|some n=>D (.agg ((cs.drop off).take n))|none=>Z)
 |some U=>cs[off]?
 |none=>Z
def bq.drop{ρ:Env}:∀{c:List aa} {xs:List Value} (n:Nat),bq ρ c xs->bq ρ (c.drop n) (xs.drop n)
 |_,_,0,h=>by simpa using h
 |[],_,n+1,h=>by cases h;simpa using bq.nil
 |_::_,_,n+1,h=>by cases h with|cons _ _ _ _ a as=>simpa using bq.drop n as
def bq.take{ρ:Env}:∀{c:List aa} {xs:List Value} (n:Nat),bq ρ c xs->bq ρ (c.take n) (xs.take n)
 |_,_,0,h=>by simpa using bq.nil
 |[],_,n+1,h=>by cases h;simpa using bq.nil
 |_::_,_,n+1,h=>by cases h with|cons _ _ _ _ a as=>simpa using bq.cons _ _ _ _ a (bq.take n as)
def lx{P:Program}{t:TypeId}{cs:List aa}{off:Nat}{v:aa}{ρ:Env}{xs:List Value}(h:apart P t cs off=D v)(aB:bq ρ cs xs)(w:World):
  ∃x,(part t xs.toArray off).run P w= .ok x w/\bd ρ v x:=by
 unfold apart at h;split at h
 ·rename_i a;split at h
  ·rename_i n c;simp at h;subst h;refine⟨.agg (((xs.drop off).take n).toArray),?_,.agg _ _ ((aB.drop off).take n)⟩;unfold part;simp only[Sem.run_bind,sf a,Result.andThen_ok,if_true,run_sizeOf c];simp[List.extract_toArray,List.extract_eq_take_drop]
  ·cases h
 ·rename_i a;obtain⟨x,e,d⟩:=aB.get off v h;refine⟨x,?_,d⟩;unfold part;simp[sf a,e]
 ·cases h
def hj(op:BinOp)(k:IntKind)(a b:Int):Option aa:=
 match op with
 | .add=>D (.int k (k.wrap (a+b)))
 | .sub=>D (.int k (k.wrap (a-b)))
 | .mul=>D (.int k (k.wrap (a*b)))
 | .quo=>if b=0 then Z else D (.int k (k.wrap (a.tdiv b)))
 | .rem=>if b=0 then Z else D (.int k (a.tmod b))
 | .and=>D (.int k (k.wrap ((BitVec.ofInt k.bits a&&&BitVec.ofInt k.bits b).toNat:Int)))
 | .or=>D (.int k (k.wrap ((BitVec.ofInt k.bits a|||BitVec.ofInt k.bits b).toNat:Int)))
 | .xor=>D (.int k (k.wrap ((BitVec.ofInt k.bits a^^^BitVec.ofInt k.bits b).toNat:Int)))
 | .andNot=>D (.int k (k.wrap ((BitVec.ofInt k.bits a&&& ~~~BitVec.ofInt k.bits b).toNat:Int)))
 | .eql=>D (.bool (a==b))
 | .neq=>D (.bool (a != b))
 | .lss=>D (.bool (decide (a<b)))
 | .leq=>D (.bool (decide (a<=b)))
 | .gtr=>D (.bool (decide (b<a)))
 | .geq=>D (.bool (decide (b<=a)))
 | .shl| .shr=>Z
def oc(op:BinOp)(k:IntKind)(a b:Int):Option aa:=
 if b<0 then Z else
 match op with
 | .shl=>D (.int k (k.wrap (a*2^(min b.toNat k.bits))))
 | .shr=>D (.int k (a.fdiv (2^(min b.toNat k.bits))))
 |_=>Z
def qW(op:BinOp)(a b:List UInt8):Option aa:=
 match op with
 | .add=>if a.length+b.length<=9223372036854775807 then D (.str (a++b))else Z
 | .eql=>D (.bool (a==b))
 | .neq=>D (.bool (!(a==b)))
 | .lss=>D (.bool (Op.bytesLess a b))
 | .leq=>D (.bool (Op.bytesLess a b||a==b))
 | .gtr=>D (.bool (!(Op.bytesLess a b||a==b)))
 | .geq=>D (.bool (!Op.bytesLess a b))
 |_=>Z
def nW(P:Program)(eq:TypeId->aa->aa->Option Bool):List Field->List aa->List aa->Option Bool
 |[],_,_=>D X
 |f::d,xs,c=>
  if f.name≠ "_" then
   match apart P f.type xs f.offset,apart P f.type c f.offset with
   |some a,D b=>(match eq f.type a b with|some X=>nW P eq d xs c|some U=>D U|none=>Z)
   |_,_=>Z
  else nW P eq d xs c
def pE(P:Program)(eq:TypeId->aa->aa->Option Bool)(e:TypeId)(n:Nat):Nat->Nat->List aa->List aa->Option Bool
 |0,_,_,_=>D X
 |k+1,i,xs,c=>
  match apart P e xs (i*n),apart P e c (i*n)with
  |some a,D b=>(match eq e a b with|some X=>pE P eq e n k (i+1) xs c|some U=>D U|none=>Z)
  |_,_=>Z
def jt(P:Program):Nat->TypeId->aa->aa->Option Bool
 |0,_,_,_=>Z
 |d+1,t,x,y=>
  match P.underlying t,x,y with
  |some .bool,.bool a,.bool b=>D (a==b)
  |some (.int _),.int k a,.int i b=>if k=i then D (a==b)else Z
  |some .string,.str a,.str b=>D (a==b)
  |some (.pointer _),.nilPtr,.nilPtr=>D X
  |some (.pointer _),.nilPtr,.ptr .. =>D U
  |some (.pointer _),.ptr ..,.nilPtr=>D U
  |some (.interface _),.nilIface,.nilIface=>D X
  |some (.interface _),.nilIface,.iface .. =>D U
  |some (.interface _),.iface ..,.nilIface=>D U
  |some (.struct h),.agg xs,.agg c=>if P.stoodInHeld t then Z else nW P (jt P d) h.toList xs c
  |some (.array len e),.agg xs,.agg c=>(match cn P e with|some n=>pE P (jt P d) e n len 0 xs c|none=>Z)
  |some (.slice _),.ar,.ar=>D X
  |some (.slice _),.ar,.aA .. =>D U
  |some (.slice _),.aA ..,.ar=>D U
  |some (.map _ _),.ho,.ho=>D X
  |some (.map _ _),.ho,.map _=>D U
  |some (.map _ _),.map _,.ho=>D U
  |some (.func _ _ _),.nilFunc,.nilFunc=>D X
  |some (.func _ _ _),.nilFunc,.func .. =>D U
  |some (.func _ _ _),.func ..,.nilFunc=>D U
  |_,_,_=>Z
def isConst:Operand->Bool
 | .const _=>X
 |_=>U
def mA(P:Program)(t:TypeId)(x y:Operand)(a b:aa):Bool:=
 match a,b with
 | .nilIface,.nilIface=>isConst x||isConst y
 | .agg _,.agg _=> !P.eqGuardType P.depth t
 |_,_=>X
def pC(P:Program)(op:BinOp)(t:TypeId)(c d:Operand)(x y:aa):Option aa:=
 match x,y with
 | .int k a,.int e b=>
  (match op with
  | .shl=>oc .shl k a b
  | .shr=>oc .shr k a b
  |op=>if k=e then hj op k a b else Z)
 | .str a,.str b=>qW op a b
 |x,y=>
  (match op with
  | .eql=>if mA P t c d x y then(jt P 10000 t x y).map .bool else Z
  | .neq=>if mA P t c d x y then(jt P 10000 t x y).map λb=> .bool (!b)else Z
  |_=>Z)
def e2(op:UnOp)(x:aa):Option aa:=
 match op,x with
 | .neg,.int k n=>D (.int k (k.wrap (0-n)))
 | .not,.bool b=>D (.bool (!b))
 |_,_=>Z
end Go.b9
namespace Go
def Operand.rE:Operand->Bool
 | .const _=>X
 |_=>U
end Go
namespace Go.b9
section
variable {P:Program}{ρ:Env}
def vK(w:World)(eq:TypeId->aa->aa->Option Bool)(kK:TypeId->Value->Value->Sem Bool)
  (heq:∀t a b x y c,eq t a b=D c->bd ρ a x->bd ρ b y->(kK t x y).run P w= .ok c w) {xs s:List aa} {q u:List Value} (j:bq ρ xs q) (k:bq ρ s u):
  ∀(d:List Field) (b:Bool),nW P eq d xs s=D b->
   (forIn d ((Z:Option Bool),()) (λf _=>
    (if f.name≠ "_" then do
     let a<-part f.type q.toArray f.offset
     let b<-part f.type u.toArray f.offset
     let c<-kK f.type a b
     if(!c)=X then pure (ForInStep.done (D U,()))else pure (ForInStep.yield (Z,()))
    else pure (ForInStep.yield (Z,())):Sem (ForInStep (Option Bool×Unit))))).run P w= .ok (if b then(Z,())else(D U,())) w
 |[],b,h=>by
  simp[nW]at h;subst h;simp[Sem.run_pure]
 |f::d,b,h=>by
  unfold nW at h;rw[List.forIn_cons];by_cases e:f.name≠ "_"
  ·rw[if_pos e]at h;split at h
   ·rename_i a cx v z;obtain⟨x,o,m⟩:=lx v j w;obtain⟨y,p,n⟩:=lx z k w;split at h
    ·rename_i he;have i:=heq _ _ _ _ _ _ he m n;have l:=vK w eq kK heq j k d b h;simp only[if_pos e,Sem.run_bind,o,p,i,Result.andThen_ok,Bool.not_true,Bool.false_eq_true,if_false,Sem.run_pure];exact l
    ·rename_i he;have i:=heq _ _ _ _ _ _ he m n;simp at h;subst h;simp only[if_pos e,Sem.run_bind,o,p,i,Result.andThen_ok,Bool.not_false,if_true,Sem.run_pure];rfl
    ·cases h
   ·cases h
  ·rw[if_neg e]at h;have l:=vK w eq kK heq j k d b h;simp only[if_neg e,Sem.run_bind,Sem.run_pure,Result.andThen_ok];exact l
def C5(w:World)(e:TypeId)(n:Nat)(eq:TypeId->aa->aa->Option Bool)(kK:TypeId->Value->Value->Sem Bool)
  (heq:∀t a b x y c,eq t a b=D c->bd ρ a x->bd ρ b y->(kK t x y).run P w= .ok c w) {xs u:List aa} {s v:List Value} (m:bq ρ xs s) (p:bq ρ u v):
  ∀(k i:Nat) (b:Bool),pE P eq e n k i xs u=D b->
   (forIn (List.range' i k) ((Z:Option Bool),()) (λi _=>
    (do
     let a<-part e s.toArray (i*n)
     let b<-part e v.toArray (i*n)
     let c<-kK e a b
     if(!c)=X then pure (ForInStep.done (D U,()))else pure (ForInStep.yield (Z,())):Sem (ForInStep (Option Bool×Unit))))).run P w= .ok (if b then(Z,())else(D U,())) w
 |0,i,b,h=>by
  simp[pE]at h;subst h;simp[Sem.run_pure]
 |k+1,i,b,h=>by
  unfold pE at h;rw[List.range'_succ,List.forIn_cons];split at h
  ·rename_i a cx z A;obtain⟨x,o,j⟩:=lx z m w;obtain⟨y,q,l⟩:=lx A p w;split at h
   ·rename_i he;have d:=heq _ _ _ _ _ _ he j l;have B:=C5 w e n eq kK heq m p k (i+1) b h;simp only[Sem.run_bind,o,q,d,Result.andThen_ok,Bool.not_true,Bool.false_eq_true,if_false,Sem.run_pure];exact B
   ·rename_i he;have d:=heq _ _ _ _ _ _ he j l;simp at h;subst h;simp only[Sem.run_bind,o,q,d,Result.andThen_ok,Bool.not_false,if_true,Sem.run_pure];rfl
   ·cases h
  ·cases h
def vX(a b:List UInt8):((⟨a.toArray⟩:ByteArray)==⟨b.toArray⟩)=(a==b):=by
 have:((⟨a.toArray⟩:ByteArray)==⟨b.toArray⟩)=(a.toArray==b.toArray):=rfl;rw[this];simp
def pS(w:World):∀(d:Nat) (t:TypeId) (x y:aa) (j k:Value) (b:Bool),jt P d t x y=D b->bd ρ x j->bd ρ y k->
  (Op.equalIn d t j k).run P w= .ok b w
 |0,t,x,y,j,k,b,h,_,_=>by cases h
 |d+1,t,x,y,j,k,b,h,e,i=>by
  have n:=pS w d;unfold jt at h;unfold Op.equalIn;cases hu:P.underlying t with
  |none=>rw[hu]at h;cases h
  |some u=>
   rw[hu]at h;simp only[Sem.run_bind,run_underlying hu,Result.andThen_ok];split at h<;>(try (cases h;done))<;>(try simp only[aU]at*)<;>(try subst_vars)<;>(try (cases e;cases i;simp;done))
   ·cases e;cases i;split at h
    ·rename_i o;subst o;simp at h;subst h;simp
    ·cases h
   ·cases e;cases i;simp[vX]
   ·cases e with|agg _ z e=>cases i with|agg _ A i=>
    split at h
    ·cases h
    ·rename_i q;have s:P.stoodInHeld t=false:=by simpa using q
     have:=vK w (jt P d) (Op.equalIn d) (λt a b x y c he l m=>n t a b x y c he l m) e i _ b h;simp only[Sem.run_bind,run_program,Result.andThen_ok,s,Bool.false_eq_true,if_false];rw[<-Array.forIn_toList,this];cases b<;>simp
   ·cases e with|agg _ z e=>cases i with|agg _ A i=>
    split at h
    ·rename_i v p;have:=C5 w _ v (jt P d) (Op.equalIn d) (λt a b x y c he l m=>n t a b x y c he l m) e i _ _ b h;simp only[Sem.run_bind,run_sizeOf p,Result.andThen_ok];rw[Std.Legacy.Range.forIn_eq_forIn_range'];simp only[Std.Legacy.Range.size,Nat.sub_zero,Nat.add_sub_cancel,Nat.div_one]at this ⊢;rw[this];cases b<;>simp
    ·cases h
def HE{op:BinOp}{k:IntKind}{a b:Int}{v:aa}(h:hj op k a b=D v)(t:TypeId)(w:World):
  ∃r,(binOp op t (.int k a) (.int k b)).run P w= .ok r w/\bd ρ v r:=by
 unfold hj at h;cases op<;>simp only at h<;>(try (cases h;done))<;>(try (simp only[aU]at h;subst h))<;>
  (try (exact⟨_,by simp only[binOp,ne_eq,not_true_eq_false,if_false,Op.intArith,Op.intBits,Op.intCmp];exact Sem.run_pure ..,by first|exact .int _ _|exact .bool _⟩))
 ·split at h
  ·cases h
  ·rename_i c;simp only[aU]at h;subst h;exact⟨_,by simp only[binOp,ne_eq,not_true_eq_false,if_false,Op.intDiv,c];exact Sem.run_pure ..,.int _ _⟩
 ·split at h
  ·cases h
  ·rename_i c;simp only[aU]at h;subst h;exact⟨_,by simp only[binOp,ne_eq,not_true_eq_false,if_false,Op.intDiv,c];exact Sem.run_pure ..,.int _ _⟩
def AI{op:BinOp}{k d:IntKind}{a b:Int}{v:aa}(h:oc op k a b=D v)(t:TypeId)(w:World):
  ∃r,(binOp op t (.int k a) (.int d b)).run P w= .ok r w/\bd ρ v r:=by
 unfold oc at h;split at h
 ·cases h
 ·rename_i c;cases op<;>simp only at h<;>(try (cases h;done))<;>simp only[aU]at h<;>subst h
  ·exact⟨_,by simp only[binOp,Op.shift,if_neg c];exact Sem.run_pure ..,.int _ _⟩
  ·exact⟨_,by simp only[binOp,Op.shift,if_neg c];exact Sem.run_pure ..,.int _ _⟩
def toList_mk(a:List UInt8):(⟨a.toArray⟩:ByteArray).toList=a:=by rw[ByteArray.toList_eq]
def Ip(a b:List UInt8):(⟨a.toArray⟩++⟨b.toArray⟩:ByteArray)=⟨(a++b).toArray⟩:=by
 apply ByteArray.ext;simp
def Mt{op:BinOp}{a b:List UInt8}{v:aa}(h:qW op a b=D v)(t:TypeId)(w:World):
  ∃r,(binOp op t (.string ⟨a.toArray⟩) (.string ⟨b.toArray⟩)).run P w= .ok r w/\bd ρ v r:=by
 unfold qW at h;unfold binOp;cases op<;>simp only at h<;>(try (cases h;done))<;>(try (simp only[aU]at h;subst h))<;>
  (try (exact⟨_,by simp only[Op.stringOp,toList_mk];exact Sem.run_pure ..,.bool _⟩))
 split at h
 ·rename_i i;simp only[aU]at h;subst h;refine⟨.string ⟨(a++b).toArray⟩,?_,.str _⟩;simp only[Op.stringOp];rw[if_neg,Ip]
  ·exact Sem.run_pure ..
  ·have e:IntKind.i64.max=9223372036854775807:=rfl;have c:(⟨a.toArray⟩:ByteArray).size=a.length:=by show a.toArray.size=_;simp
   have d:(⟨b.toArray⟩:ByteArray).size=b.length:=by show b.toArray.size=_;simp
   rw[e,c,d];omega
 ·cases h
def tX{op:BinOp}{t:TypeId}{a c:Operand}{x y:aa}{e i:Value}(h:mA P t a c x y=X)(k:bd ρ x e)(d:bd ρ y i)(w:World):
  (eqGuard op t a c e i).run P w= .ok () w:=by
 have j:a.rE||c.rE=X->(eqGuard op t a c .nilIface .nilIface).run P w= .ok () w:=by
  intro h;cases op<;>first
   |rfl
   |(cases a<;>cases c<;>first|rfl|(simp[Operand.rE]at h;done))
 cases k with
 |nilIface=>
  cases d with
  |nilIface=>
   refine j ?_;simp only[mA]at h;cases a<;>cases c<;>simp_all[isConst,Operand.rE]
  |_=>cases op<;>rfl
 |agg cs xs m=>
  cases d with
  |agg l o n=>
   simp only[mA,Bool.not_eq_true']at h;cases op<;>first|rfl|simp[eqGuard,h]
  |_=>cases op<;>rfl
 |_=>cases d<;>cases op<;>rfl
def binOp_eql{x y:aa}{c d:Value}(h:bd ρ x c)(i:bd ρ y d)(e:∀k a j b,x= .int k a->y= .int j b->False)(aB:∀a b,x= .str a->y= .str b->False)(t:TypeId):
  binOp .eql t c d=(do pure (.bool (<-Op.equal t c d)))/\binOp .neq t c d=(do pure (.bool (!(<-Op.equal t c d)))):=by
 cases h<;>cases i<;>first
  |exact⟨rfl,rfl⟩
  |exact(e _ _ _ _ rfl rfl).elim
  |exact(aB _ _ rfl rfl).elim
def Fj{op:BinOp}{t:TypeId}{l m:Operand}{x y v:aa}{i j:Value}(h:pC P op t l m x y=D v)(c:bd ρ x i)(d:bd ρ y j)(w:World):
  ∃r,((do eqGuard op t l m i j;binOp op t i j:Sem Value)).run P w= .ok r w/\bd ρ v r:=by
 have ux:∀k a e b,(eqGuard op t l m (.int k a) (.int e b)).run P w= .ok () w:=λk a e b=>tX (ρ:=ρ) (x:= .int k a) (y:= .int e b) rfl (.int _ _) (.int _ _) w
 have uy:∀a b,(eqGuard op t l m (.string ⟨a⟩) (.string ⟨b⟩)).run P w= .ok () w:=λa b=>by
  unfold eqGuard;split<;>rfl
 unfold pC at h;split at h
 ·cases c;cases d;rename_i k a e b;simp only[Sem.run_bind,ux,Result.andThen_ok];split at h
  ·exact AI h t w
  ·exact AI h t w
  ·split at h
   ·rename_i z;subst z;exact HE h t w
   ·cases h
 ·cases c;cases d;simp only[Sem.run_bind,uy,Result.andThen_ok];exact Mt h t w
 ·rename_i A B;obtain⟨s,u⟩:=binOp_eql c d (λk a e b n o=>A _ _ _ _ n o) (λa b n o=>B _ _ n o) t;split at h
  ·split at h
   ·rename_i q;rw[Sem.run_bind,tX q c d w,Result.andThen_ok];simp only[Option.map_eq_some_iff]at h;obtain⟨b,p,rfl⟩:=h;have he:(Op.equal t i j).run P w= .ok b w:=pS (ρ:=ρ) w _ _ _ _ _ _ _ p c d;exact⟨.bool b,by rw[s,Sem.run_bind,he];rfl,.bool b⟩
   ·cases h
  ·split at h
   ·rename_i q;rw[Sem.run_bind,tX q c d w,Result.andThen_ok];simp only[Option.map_eq_some_iff]at h;obtain⟨b,p,rfl⟩:=h;have he:(Op.equal t i j).run P w= .ok b w:=pS (ρ:=ρ) w _ _ _ _ _ _ _ p c d;exact⟨.bool (!b),by rw[u,Sem.run_bind,he];rfl,.bool _⟩
   ·cases h
  ·cases h
def Gb{op:UnOp}{x v:aa}{c:Value}(h:e2 op x=D v)(a:bd ρ x c)(w:World):∃r,(Op.unary op c).run P w= .ok r w/\bd ρ v r:=by
 unfold e2 at h;split at h
 ·cases a;simp only[aU]at h;subst h;exact⟨_,by simp only[Op.unary,Op.intArith];exact Sem.run_pure ..,.int _ _⟩
 ·cases a;simp only[aU]at h;subst h;exact⟨_,by simp only[Op.unary];exact Sem.run_pure ..,.bool _⟩
 ·cases h
end
section
variable {P:Program}{ρ:Env}{H:ae}{w:World}
def hs(c:Array Value)(ai:Nat):List Value->Array Value
 |[]=>c
 |v::r=>hs (c.setIfInBounds ai v) (ai+1) r
def qB:∀(a:List Value) (c:Array Value) (ai:Nat),(hs c ai a).size=c.size
 |[],_,_=>rfl
 |v::r,c,ai=>by rw[hs,qB r];simp
def oF:∀(a:List Value) (c:Array Value) (ai k:Nat),k<ai\/ai+a.length<=k->(hs c ai a)[k]? =c[k]?
 |[],_,_,_,_=>rfl
 |v::r,c,ai,k,h=>by
  rw[hs,oF r _ _ _ (by simp at h;omega)];rw[Array.getElem?_setIfInBounds];have:¬ai=k:=by simp at h;omega
  simp[this]
def r9:∀(a:List Value) (c:Array Value) (ai j:Nat) (x:Value),a[j]? =D x->ai+j<c.size->(hs c ai a)[ai+j]? =D x
 |[],_,_,_,_,h,_=>by simp at h
 |v::r,c,ai,0,x,h,d=>by
  simp at h;subst h;rw[hs,oF r _ _ _ af,Array.getElem?_setIfInBounds];simp;omega
 |v::r,c,ai,j+1,x,h,d=>by
  rw[hs,show ai+(j+1)=ai+1+j by omega];exact r9 r _ _ _ _ (by simpa using h) (by simp;omega)
def qS(b:Nat):∀(d:List Value) (ai:Nat) (w:World) (c:Array Value) (t:TypeId) (a:Nat×Nat),w.heap[b]? =D (.cells c t a)->
  (w.setCells b ai d).heap[b]? =D (.cells (hs c ai d) t a)
 |[],_,_,_,_,_,h=>h
 |v::r,ai,w,c,t,a,h=>by
  rw[World.setCells,hs];refine qS b r (ai+1) _ _ t a ?_;simp[World.setCell,Array.getElem?_modify,h]
def kA(b:Nat):∀(a:List Value) (ai:Nat) (w:World) (k:Nat),k≠b->(w.setCells b ai a).heap[k]? =w.heap[k]?
 |[],_,_,_,_=>rfl
 |v::r,ai,w,k,h=>by
  rw[World.setCells,kA b r _ _ _ h];simp[World.setCell,Array.getElem?_modify,Ne.symm h]
def vP(b:Nat):∀(e:List Value) (ai:Nat) (w:World),(w.setCells b ai e).heap.size=w.heap.size/\(w.setCells b ai e).os=w.os/\(w.setCells b ai e).tape=w.tape/\(w.setCells b ai e).output=w.output
 |[],_,_=>⟨rfl,rfl,rfl,rfl⟩
 |v::r,ai,w=>by
  rw[World.setCells];obtain⟨a,b,c,d⟩:=vP b r (ai+1) (w.setCell ⟨b,ai,Z⟩ v);exact⟨a.trans (by simp[World.setCell]),b,c,d⟩
def fc.cell{loc:Loc}{ro:Bool}{esz:Nat}{els:List (List aa)}(h:fc ρ w loc ro esz els){i:Nat}{e:List aa}(he:els[i]? =D e){j:Nat}{v:aa}(m:e[j]? =D v):
  ∃x,w.cell? ⟨loc.block,loc.off+i*loc.esz+j,Z⟩=D x/\bd ρ v x/\v.one=true:=by
 obtain⟨rfl,c,t,n,l,_,a⟩:=h;obtain⟨_,d⟩:=a i e he;obtain⟨k,x,d,a⟩:=d j v m;exact⟨x,by simp[World.cell?,l,d],a,k⟩
def an(P:Program)(H:ae)(t:TypeId)(a:aa):Option aa:=
 match a with
 | .ptr l i c=>
  (match H.get l with
  |some (.row _ esz els)=>
   (match els[i]?,dJ P t with
   |some e,D U=>e[c]?
   |some e,D X=>(match cn P t with|some n=>if c+n<=esz then D (.agg ((e.drop c).take n))else Z|none=>Z)
   |_,_=>Z)
  |some (.bU _ esz els)=>
   (match els[i]?,dJ P t with
   |some e,D U=>e[c]?
   |some e,D X=>(match cn P t with|some n=>if c+n<=esz then D (.agg ((e.drop c).take n))else Z|none=>Z)
   |_,_=>Z)
  |_=>Z)
 |_=>Z
def j0(b ai j:Nat):(⟨b,ai,Z⟩:Addr).add j=⟨b,ai+j,Z⟩:=by
 unfold Addr.add;split<;>simp_all
def w_{loc:Loc}{l i c:Nat}{ro:Bool}{esz:Nat}{els:List (List aa)}(K:ρ l=D loc)(s:fc ρ w loc ro esz els){t:TypeId}{v:aa}
 (h:(match els[i]?,dJ P t with
  |some e,D U=>e[c]?
  |some e,D X=>(match cn P t with|some n=>if c+n<=esz then D (.agg ((e.drop c).take n))else Z|none=>Z)
  |_,_=>Z)=D v):
 ∃r,(Instr.loadAt t (.pointer (D ⟨loc.block,loc.off+i*loc.esz+c,Z⟩))).run P w= .ok r w/\bd ρ v r:=by
  split at h
  ·rename_i e he k;obtain⟨x,q,u,_⟩:=s.cell he h;refine⟨x,?_,u⟩;simp[Instr.loadAt,Instr.sureAddr,loadVar,sf k,run_load,q]
  ·rename_i e he k;split at h
   ·rename_i n z;split at h
    ·rename_i hle;simp only[aU]at h;subst h;have hlen:e.length=esz:=by obtain⟨_,c',L,G,_,_,E⟩:=s;exact(E i e he).1
     have hex:∃xs:List Value,xs.length=n/\bq ρ ((e.drop c).take n) xs/\∀j y,xs[j]? =D y->w.cell? ⟨loc.block,loc.off+i*loc.esz+c+j,Z⟩=D y:=by
      clear k z
      induction n with
      |zero=>exact⟨[],rfl,by simpa using bq.nil,λj y a=>by simp at a⟩
      |succ n F=>
       obtain⟨xs,d,o,p⟩:=F af;have A:c+n<e.length:=af;obtain⟨x,q,u,_⟩:=s.cell he (j:=c+n) (v:=e[c+n]) (by simp[A]);refine⟨xs++[x],by simp[d],?_,?_⟩
       ·rw[List.take_succ_eq_append_getElem (by simp;omega)];refine o.append (.cons _ _ _ _ ?_ .nil);simpa using u
       ·intro j y a;by_cases B:j<xs.length
        ·rw[List.getElem?_append_left B]at a;exact p j y a
        ·rw[List.getElem?_append_right af]at a;have:j=n:=by
          by_cases H:j-xs.length=0
          ·omega
          ·obtain⟨m,hm⟩:∃m,j-xs.length=m+1:=⟨j-xs.length-1,af⟩;rw[hm]at a;simp at a
         subst this;simp[d]at a;subst a;rw[<-q,Nat.add_assoc]
     obtain⟨xs,d,o,p⟩:=hex;refine⟨.agg xs.toArray,?_,.agg _ _ o⟩;have:=run_loadCells_list (P:=P) w ⟨loc.block,loc.off+i*loc.esz+c,Z⟩ xs (λj y a=>by rw[j0];exact p j y a);rw[d]at this;simp[Instr.loadAt,Instr.sureAddr,loadVar,sf k,run_sizeOf z,this]
    ·cases h
   ·cases h
  ·cases h
def tA(n:Rel ρ H w){t:TypeId}{a v:aa}{x:Value}(h:an P H t a=D v)(o:bd ρ a x):
  ∃r,(Instr.loadAt t x).run P w= .ok r w/\bd ρ v r:=by
 unfold an at h;split at h
 ·rename_i l i c;cases o with|ptr _ _ _ loc d=>
  split at h
  ·rename_i ro esz els e;obtain⟨m,j,k⟩:=n.row _ _ _ _ e;obtain rfl:loc=m:=Option.some.inj (d.symm.trans j);exact w_ d k h
  ·rename_i p esz els e;obtain⟨m,j,k,-⟩:=n.bU _ _ _ _ e;obtain rfl:loc=m:=Option.some.inj (d.symm.trans j);exact w_ d k h
  ·cases h
 ·cases h
def dw(ot:Option TypeId)(esz:Nat)(els:List (List aa)):bO:=match ot with
 |none=> .row U esz els
 |some t=> .bU t esz els
def u5(ot:Option TypeId)(esz:Nat)(els:List (List aa)):(dw ot esz els).p5=false:=by cases ot<;>rfl
def u6{ot:Option TypeId}{esz c:Nat}{els a:List (List aa)}{ro:Bool}(h:dw ot esz els= .row ro c a):ro=U/\esz=c/\els=a/\ot=none:=by
 cases ot<;>cases h;exact⟨rfl,rfl,rfl,rfl⟩
def u7{ot:Option TypeId}{esz c:Nat}{els a:List (List aa)}{t:TypeId}(h:dw ot esz els= .bU t c a):ot=D t/\esz=c/\els=a:=by
 cases ot<;>cases h;exact⟨rfl,rfl,rfl⟩
def u4{ot:Option TypeId}{esz:Nat}{els:List (List aa)}{es:List (aa×aa)}(h:dw ot esz els= .map es):False:=by cases ot<;>cases h
def mL{H:ae}{l:Nat}{ot:Option TypeId}{esz:Nat}{els:List (List aa)}(h:H.get l=D (dw ot esz els)):H.rw l:=by
 cases ot with
 |none=>exact .inl ⟨_,_,h⟩
 |some t=>exact .inr (.inr ⟨_,_,_,h⟩)
def rU(d:Rel ρ H w){l:Nat}{ot:Option TypeId}{esz:Nat}{els:List (List aa)}(h:H.get l=D (dw ot esz els)):∃loc,ρ l=D loc/\fc ρ w loc U esz els/\∀t,ot=D t->∃c e,w.heap[loc.block]? =D (.cells c t e)/\loc.off=0:=by
 cases ot with
 |none=>obtain⟨loc,a,b⟩:=d.row _ _ _ _ h;exact⟨loc,a,b,λt h=>by cases h⟩
 |some t=>obtain⟨loc,a,b,c⟩:=d.bU _ _ _ _ h;exact⟨loc,a,b,λt h=>by cases h;exact c⟩
def cI(e:List aa)(c:Nat)(cs:List aa):List aa:=e.take c++cs++e.drop (c+cs.length)
def Dt{e:List aa}{c:Nat}{cs:List aa}(h:c+cs.length<=e.length):(cI e c cs).length=e.length:=by
 simp[cI];omega
def Ds{e:List aa}{c:Nat}{cs:List aa}(h:c+cs.length<=e.length){j:Nat}(a:c<=j)(d:j<c+cs.length):(cI e c cs)[j]? =cs[j-c]? :=by
 unfold cI;rw[List.append_assoc,List.getElem?_append_right (by simp;omega),List.getElem?_append_left (by simp;omega)]
 congr 1;simp;omega
def Du{e:List aa}{c:Nat}{cs:List aa}(h:c+cs.length<=e.length){j:Nat}(a:j<c\/c+cs.length<=j):(cI e c cs)[j]? =e[j]? :=by
 unfold cI;rcases a with a|a
 ·rw[List.append_assoc,List.getElem?_append_left (by simp;omega),List.getElem?_take_of_lt a]
 ·rw[List.getElem?_append_right (by simp;omega),List.getElem?_drop]
  congr 1;simp;omega
def qh{a b n:Nat}(h:a<b):a*n+n<=b*n:=by
 have:=Nat.mul_le_mul_right n (Nat.succ_le_of_lt h);rw[Nat.succ_mul]at this;exact this
def wB(p:Rel ρ H w){ot:Option TypeId}{l esz:Nat}{els:List (List aa)}(s:H.get l=D (dw ot esz els)){loc:Loc}(z:ρ l=D loc){i:Nat}{e:List aa}(he:els[i]? =D e)
  {c:Nat} {cs:List aa} {xs:List Value} (aW:c+cs.length<=esz) (u:∀v∈cs,v.one=X) (ak:bq ρ cs xs):
  Step ρ H w ρ (H.set l (dw ot esz (els.set i (cI e c cs)))) (w.setCells loc.block (loc.off+i*loc.esz+c) xs):=by
 have Q:=ae.aS s;obtain⟨d,k,⟨y,arr,t,G,L,aD,M⟩,aJ⟩:=rU p s;obtain rfl:loc=d:=Option.some.inj (z.symm.trans k);have aC:=(M i e he).1;have aE:i<els.length:=by
  rcases Nat.lt_or_ge i els.length with h|h
  ·exact h
  ·rw[List.getElem?_eq_none h]at he;cases he
 have am:=ak.length;have R:∀l' d,H.live l'->l'≠l->ρ l'=D d->d.block≠loc.block:=λl' d h ba k heq=>
  p.apart l l' loc d (mL s) h (Ne.symm ba) z k heq.symm
 have aj:∀l',(H.set l (dw ot esz (els.set i (cI e c cs)))).rw l'->H.rw l':=by
  intro l' h;by_cases a:l=l'
  ·subst a;exact mL s
  ·simpa [ae.rw,ae.get_set_other a]using h
 have aH:∀l',(H.set l (dw ot esz (els.set i (cI e c cs)))).live l'->H.live l':=by
  intro l' h;by_cases a:l=l'
  ·subst a;exact(mL s).live
  ·simpa [ae.live,ae.get_set_other a]using h
 obtain⟨s1,s2,e4,aT⟩:=vP loc.block xs (loc.off+i*loc.esz+c) w;have ai:fc ρ (w.setCells loc.block (loc.off+i*loc.esz+c) xs) loc U esz (els.set i (cI e c cs))/\∃N G,(w.setCells loc.block (loc.off+i*loc.esz+c) xs).heap[loc.block]? =D (.cells N t G):= ?new;refine⟨ρ.le_refl,bk _,λ_ _=>rfl,⟨?_,?_,?_,?_⟩,s2,e4,aT,Nat.le_of_eq s1.symm,?_,?_,ae.CS (u5 _ _ _)⟩
 case new=>
  refine⟨⟨y,_,t,G,qS _ _ _ _ _ _ _ L,?_,?_⟩,_,G,qS _ _ _ _ _ _ _ L⟩
  ·rw[qB];exact aD
  ·intro an ab q;rw[List.getElem?_set]at q;by_cases P:i=an
   ·subst P;rw[if_pos rfl,if_pos aE]at q;simp only[aU]at q;subst q;have T:c+cs.length<=e.length:=af;refine⟨by rw[Dt T];exact aC,?_⟩;intro j v m;by_cases ah:c<=j/\j<c+cs.length
    ·rw[Ds T ah.1 ah.2]at m;obtain⟨x,B,A⟩:=ak.get _ _ m;refine⟨u v (List.mem_of_getElem? m),x,?_,A⟩;have aB:=(M i e he).2 j (e[j]'af) (by simp);obtain⟨_,ag,al,_⟩:=aB;have aY:loc.off+i*esz+j<arr.size:=by
      rcases Nat.lt_or_ge (loc.off+i*esz+j) arr.size with h|h
      ·exact h
      ·rw[Array.getElem?_eq_none h]at al;cases al
     have:=r9 xs arr (loc.off+i*loc.esz+c) (j-c) x B (by rw[y];omega);rw[show loc.off+i*esz+j=loc.off+i*loc.esz+c+(j-c) by rw[y];omega];exact this
    ·rw[Du T af]at m;obtain⟨aR,x,B,A⟩:=(M i e he).2 j v m;refine⟨aR,x,?_,A⟩;rw[oF _ _ _ _ (by rw[y,<-am];omega)];exact B
   ·rw[if_neg P]at q;obtain⟨a0,aR⟩:=M an ab q;refine⟨a0,λj v m=> ?_⟩;obtain⟨ap,x,B,A⟩:=aR j v m;refine⟨ap,x,?_,A⟩;have aX:j<esz:=by
     rcases Nat.lt_or_ge j ab.length with h|h
     ·omega
     ·rw[List.getElem?_eq_none h]at m;cases m
    rw[oF _ _ _ _ ?_]
    ·exact B
    ·rw[y,<-am];rcases Nat.lt_or_gt_of_ne P with h|h
     ·have:=qh (n:=esz) h;omega
     ·have:=qh (n:=esz) h;omega
 ·intro l' aZ aw av h;by_cases a:l=l'
  ·subst a;rw[ae.get_set_same Q]at h;obtain⟨rfl,rfl,rfl,-⟩:=u6 (Option.some.inj h);exact⟨loc,z,ai.1⟩
  ·rw[ae.get_set_other a]at h;obtain⟨d,k,S⟩:=p.row _ _ _ _ h;refine⟨d,k,?_⟩;have o:=R l' d (.inl ⟨_,_,_,h⟩) (Ne.symm a) k;obtain⟨V,c',ao,K,E,F,W⟩:=S;exact⟨V,c',ao,K,by rw[kA _ _ _ _ _ o];exact E,F,W⟩
 ·intro l' es h;by_cases a:l=l'
  ·subst a;rw[ae.get_set_same Q]at h;exact(u4 (Option.some.inj h)).elim
  ·rw[ae.get_set_other a]at h;obtain⟨d,k,S⟩:=p.map _ _ h;have o:=R l' d (.inr (.inl ⟨_,h⟩)) (Ne.symm a) k;obtain⟨ents,clock,E,F⟩:=S;exact⟨d,k,ents,clock,by rw[kA _ _ _ _ _ o];exact E,F⟩
 ·intro l' ao aw av h;by_cases a:l=l'
  ·subst a;rw[ae.get_set_same Q]at h;obtain⟨au,rfl,rfl⟩:=u7 (Option.some.inj h);obtain⟨c',K,ad,ay⟩:=aJ _ au;rw[L]at ad;cases ad;obtain⟨aO,N,f1,n2⟩:=ai;exact⟨loc,z,aO,N,f1,n2,ay⟩
  ·rw[ae.get_set_other a]at h;obtain⟨d,k,⟨V,c',aV,K,E,F,W⟩,aq,ax,aP,aQ⟩:=p.bU _ _ _ _ h;have o:=R l' d (.inr (.inr ⟨_,_,_,h⟩)) (Ne.symm a) k;exact⟨d,k,⟨V,c',aV,K,by rw[kA _ _ _ _ _ o];exact E,F,W⟩,aq,ax,by rw[kA _ _ _ _ _ o];exact aP,aQ⟩
 ·intro aK aL aM aN u O o aF aG;exact p.apart aK aL aM aN (aj _ u) (aH _ O) o aF aG
 ·intro b L aI;refine kA _ _ _ _ _ ?_;rintro rfl;exact aI ⟨l,loc,mL s,z,rfl⟩
 ·rintro b ⟨l',d,u,O,az⟩;exact .inl ⟨l',d,aj _ u,O,az⟩
def aV(P:Program)(H:ae)(t:TypeId)(a v:aa):Option ae:=
 match a with
 | .ptr l i c=>
  (match H.get l with
  |some (.row U esz els)=>
   (match els[i]? with
   |some e=>if cn P t=D v.cells.length/\c+v.cells.length<=esz/\v.cells.all aa.one=X then D (H.set l (.row U esz (els.set i (cI e c v.cells))))else Z
   |none=>Z)
  |some (.bU d esz els)=>
   (match els[i]? with
   |some e=>if cn P t=D v.cells.length/\c+v.cells.length<=esz/\v.cells.all aa.one=X then D (H.set l (.bU d esz (els.set i (cI e c v.cells))))else Z
   |none=>Z)
  |_=>Z)
 |_=>Z
def xl(k:Rel ρ H w){ot:Option TypeId}{l i c esz:Nat}{els:List (List aa)}(n:H.get l=D (dw ot esz els)){loc:Loc}(p:ρ l=D loc){e:List aa}(he:els[i]? =D e){t:TypeId}{v:aa}{y:Value}(R:bd ρ v y)
  (aB:cn P t=D v.cells.length) (B:c+v.cells.length<=esz) (L:v.cells.all aa.one=X):
  ∃A,(Instr.storeAt t (.pointer (D ⟨loc.block,loc.off+i*loc.esz+c,Z⟩)) y).run P w= .ok () A/\Step ρ H w ρ (H.set l (dw ot esz (els.set i (cI e c v.cells)))) A:=by
 have q:∀u∈v.cells,u.one=true:=by simpa using L
 have d:=R.cells;refine⟨_,?_,wB k n p he B q d⟩;obtain⟨S,G,x,-⟩:=rU k n;obtain rfl:loc=S:=Option.some.inj (p.symm.trans G);have hlen:=d.length;have ab:=x;obtain⟨E,arr,ad,V,m,F,s⟩:=x;have W:=(s i e he).1;have z:∀j,j<y.cells.toList.length->∃u,arr[loc.off+i*loc.esz+c+j]? =D u:=by
  intro j a;obtain⟨_,u,hu,_⟩:=(s i e he).2 (c+j) (e[c+j]'af) (by simp);exact⟨u,by rw[E,Nat.add_assoc];exact hu⟩
 have M:=run_storeCells_cells (P:=P) loc.block (loc.off+i*loc.esz+c) y.cells.toList 0 w
  (λj a=>by obtain⟨u,hu⟩:=z j a;simp[World.cell?,m,hu])
  (λj a=>by
   obtain⟨u,hu⟩:=z j a;have K:loc.off+i*loc.esz+c+j<arr.size:=by
    rcases Nat.lt_or_ge (loc.off+i*loc.esz+c+j) arr.size with h|h
    ·exact h
    ·rw[Array.getElem?_eq_none h]at hu;cases hu
   have:=F.2 rfl _ K;simp only[World.frozen?,m,Nat.add_zero];simpa using this)
  (λu hu=>by
   obtain⟨j,a⟩:=List.getElem?_of_mem hu;have o:j<v.cells.length:=by
    rcases Nat.lt_or_ge j y.cells.toList.length with h|h
    ·omega
    ·rw[List.getElem?_eq_none h]at a;cases a
   obtain⟨T,O,Q⟩:=d.get j _ (List.getElem?_eq_getElem o);obtain rfl:u=T:=Option.some.inj (a.symm.trans O);exact Q.vb (q _ (List.getElem_mem o)))
 have N:y.cells.size=v.cells.length:=by rw[hlen];simp
 simp only[Instr.storeAt,Instr.sureAddr,Sem.run_bind,Sem.run_pure,Result.andThen_ok,storeVar,run_sizeOf aB,N,ne_eq,not_true_eq_false,if_false];simpa using M
def Ga(n:Rel ρ H w){t:TypeId}{a v:aa}{x y:Value}{H':ae}(h:aV P H t a v=D H')(s:bd ρ a x)(p:bd ρ v y):
  ∃q,(Instr.storeAt t x y).run P w= .ok () q/\Step ρ H w ρ H' q:=by
 unfold aV at h;split at h
 ·rename_i l i c;cases s with|ptr _ _ _ loc o=>
  split at h
  ·rename_i esz els k;split at h
   ·rename_i e he;split at h
    ·rename_i j;obtain⟨aB,d,m⟩:=j;simp only[aU]at h;subst h;exact xl n (ot:=none) k o he p aB d m
    ·cases h
   ·cases h
  ·rename_i u esz els k;split at h
   ·rename_i e he;split at h
    ·rename_i j;obtain⟨aB,d,m⟩:=j;simp only[aU]at h;subst h;exact xl n (ot:=some u) k o he p aB d m
    ·cases h
   ·cases h
  ·cases h
 ·cases h
end
def Env.ec(ρ:Env)(l:Nat)(loc:Loc):Env:=λk=>if k=l then D loc else ρ k
def Env.gN(ρ:Env)(l:Nat)(loc:Loc):ρ.ec l loc l=D loc:=by simp[Env.ec]
def Env.hg{ρ:Env}{l k:Nat}{loc:Loc}(h:k≠l):ρ.ec l loc k=ρ k:=by simp[Env.ec,h]
def Env.p6{ρ:Env}{l:Nat}(h:ρ l=Z)(loc:Loc):ρ.le (ρ.ec l loc):=by
 intro k x a;by_cases e:k=l
 ·subst e;rw[h]at a;cases a
 ·rw[Env.hg e];exact a
section
variable {P:Program}{ρ:Env}{H:ae}{w:World}
def heap_alloc_old(w:World)(ai:Obj){k:Nat}(h:k<w.heap.size):(w.alloc ai).heap[k]? =w.heap[k]? :=by
 show(w.heap.push ai)[k]? =_;rw[Array.getElem?_push,if_neg af]
def heap_alloc_new(w:World)(ai:Obj):(w.alloc ai).heap[w.heap.size]? =D ai:=by
 show(w.heap.push ai)[w.heap.size]? =_;simp
def Hr(w:World)(ai:Obj):(w.alloc ai).heap.size=w.heap.size+1:=by
 show(w.heap.push ai).size=_;simp
def iY{w:World}{k:Nat}{ai:Obj}(h:w.heap[k]? =D ai):k<w.heap.size:=by
 rcases Nat.lt_or_ge k w.heap.size with ba|ba
 ·exact ba
 ·rw[Array.getElem?_eq_none ba]at h;cases h
def uf{esz:Nat}:∀{els:List (List aa)},(∀e∈els,e.length=esz)->∀{i:Nat} {e:List aa},els[i]? =D e->∀{j:Nat} {v:aa},e[j]? =D v->els.flatten[i*esz+j]? =D v
 |[],_,_,_,h,_,_,_=>by simp at h
 |d::els,c,0,e,h,j,v,a=>by
  simp at h;subst h;have k:j<d.length:=by
   rcases Nat.lt_or_ge j d.length with h|h
   ·exact h
   ·rw[List.getElem?_eq_none h]at a;cases a
  simp only[List.flatten_cons,Nat.zero_mul,Nat.zero_add];rw[List.getElem?_append_left k];exact a
 |d::els,c,i+1,e,h,j,v,a=>by
  have l:d.length=esz:=c d (by simp);have:=uf (els:=els) (λe he=>c e (List.mem_cons_of_mem _ he)) (i:=i) (by simpa using h) a;simp only[List.flatten_cons];rw[List.getElem?_append_right (by rw[Nat.succ_mul];omega)];rw[<-this];congr 1;rw[Nat.succ_mul];omega
def Da{H:ae}{b:bO}{l:Nat}(h:(H.push b).rw l):l=H.next\/H.rw l:=by
 by_cases e:l=H.next
 ·exact .inl e
 ·exact .inr (by simpa [ae.rw,ae.dp e]using h)
def Bk{H:ae}{b:bO}{l:Nat}(h:(H.push b).live l):l=H.next\/H.live l:=by
 by_cases e:l=H.next
 ·exact .inl e
 ·exact .inr (by simpa [ae.live,ae.dp e]using h)
def Rel.Gp(i:Rel ρ H w){l:Nat}(h:H.live l){loc:Loc}(j:ρ l=D loc):loc.block<w.heap.size:=by
 rcases h with⟨ro,esz,els,h⟩|⟨es,h⟩|⟨t,esz,els,h⟩
 ·obtain⟨e,d,_,c,t,k,a,_⟩:=i.row _ _ _ _ h;obtain rfl:loc=e:=Option.some.inj (j.symm.trans d);exact iY a
 ·obtain⟨e,d,ents,clock,a,_⟩:=i.map _ _ h;obtain rfl:loc=e:=Option.some.inj (j.symm.trans d);exact iY a
 ·obtain⟨e,d,_,c,k,a,_⟩:=i.bU _ _ _ _ h;obtain rfl:loc=e:=Option.some.inj (j.symm.trans d);exact iY a
def rN{H:ae}{l:Nat}(h:H.live l):l<H.next:=by
 rcases h with⟨_,_,_,h⟩|⟨_,h⟩|⟨_,_,_,h⟩<;>exact ae.aS h
def fc.frame{e:Env}{a:World}{loc:Loc}{ro:Bool}{esz:Nat}{els:List (List aa)}(h:fc ρ w loc ro esz els)(hle:ρ.le e)(o:a.heap[loc.block]? =w.heap[loc.block]?):fc e a loc ro esz els:=by
 obtain⟨s,c,t,k,p,u,y⟩:=h;refine⟨s,c,t,k,by rw[o];exact p,u,?_⟩;intro i d q;obtain⟨l,m⟩:=y i d q;refine⟨l,λj v z=> ?_⟩;obtain⟨n,x,B,A⟩:=m j v z;exact⟨n,x,B,A.mono hle⟩
def fc.lt{loc:Loc}{ro:Bool}{esz:Nat}{els:List (List aa)}(h:fc ρ w loc ro esz els):loc.block<w.heap.size:=by
 obtain⟨_,c,t,a,p,_⟩:=h;exact iY p
def lp.frame{e:Env}{d:World}{loc:Loc}{t:TypeId}{esz:Nat}{els:List (List aa)}(h:lp ρ w loc t esz els)(hle:ρ.le e)(a:d.heap[loc.block]? =w.heap[loc.block]?):lp e d loc t esz els:=by
 obtain⟨j,c,i,k,l⟩:=h;exact⟨j.frame hle a,c,i,by rw[a];exact k,l⟩
def Co(m:Rel ρ H w)(x:ρ H.next=Z)(b:bO)(B:b.p5=U)(ai:Obj)(loc:Loc)(L:loc.block=w.heap.size)
  (E:∀ro esz els,b= .row ro esz els->fc (ρ.ec H.next loc) (w.alloc ai) loc ro esz els) (A:∀es,b= .map es->td (ρ.ec H.next loc) (w.alloc ai) loc es) (F:∀t esz els,b= .bU t esz els->lp (ρ.ec H.next loc) (w.alloc ai) loc t esz els):
  Step ρ H w (ρ.ec H.next loc) (H.push b) (w.alloc ai):=by
 have hle:=Env.p6 x loc;have u:∀l d,H.live l->ρ.ec H.next loc l=D d->d.block<w.heap.size:=λl d h ba=>by
  have p:l≠H.next:=by
   rintro rfl;have:=rN h;omega
  rw[Env.hg p]at ba;exact m.Gp h ba
 refine⟨hle,by simp,λl z=>Env.hg (by simp at z;omega),⟨?_,?_,?_,?_⟩,rfl,rfl,rfl,by rw[Hr];omega,λk y _=>heap_alloc_old w ai y,?_,ae.CR B⟩
 ·intro l ro esz els h;by_cases e:l=H.next
  ·subst e;rw[ae.bC]at h;exact⟨loc,Env.gN _ _ _,E _ _ _ (Option.some.inj h)⟩
  ·rw[ae.dp e]at h;obtain⟨d,n,o⟩:=m.row _ _ _ _ h;exact⟨d,by rw[Env.hg e];exact n,o.frame hle (heap_alloc_old w ai o.lt)⟩
 ·intro l es h;by_cases e:l=H.next
  ·subst e;rw[ae.bC]at h;exact⟨loc,Env.gN _ _ _,A _ (Option.some.inj h)⟩
  ·rw[ae.dp e]at h;obtain⟨d,n,ents,clock,s,c,a⟩:=m.map _ _ h;exact⟨d,by rw[Env.hg e];exact n,ents,clock,by rw[heap_alloc_old w ai (iY s)];exact s,c.mono hle,a.mono hle⟩
 ·intro l t esz els h;by_cases e:l=H.next
  ·subst e;rw[ae.bC]at h;exact⟨loc,Env.gN _ _ _,F _ _ _ (Option.some.inj h)⟩
  ·rw[ae.dp e]at h;obtain⟨d,n,o⟩:=m.bU _ _ _ _ h;exact⟨d,by rw[Env.hg e];exact n,o.frame hle (heap_alloc_old w ai o.1.lt)⟩
 ·intro l l' G K c a p i j;rcases Da c with rfl|c
  ·rcases Bk a with rfl|a
   ·exact absurd rfl p
   ·rw[Env.gN]at i;obtain rfl:=Option.some.inj i;have:=u _ _ a j;omega
  ·rcases Bk a with rfl|a
   ·rw[Env.gN]at j;obtain rfl:=Option.some.inj j;have:=u _ _ c.live i;omega
   ·have q:l≠H.next:=by
     rintro rfl;have:=rN c.live;omega
    have n2:l'≠H.next:=by
     rintro rfl;have:=rN a;omega
    rw[Env.hg q]at i;rw[Env.hg n2]at j;exact m.apart l l' G K c a p i j
 ·rintro k ⟨l,d,c,a,v⟩;rcases Da c with rfl|c
  ·rw[Env.gN]at a;obtain rfl:=Option.some.inj a;exact .inr af
  ·have q:l≠H.next:=by
    rintro rfl;have:=rN c.live;omega
   rw[Env.hg q]at a;exact .inl ⟨l,d,c,a,v⟩
def qA(o:Rel ρ H w)(d:ρ H.next=Z){ot:Option TypeId}{esz:Nat}{els:List (List aa)}(hlen:∀e∈els,e.length=esz)(q:∀e∈els,∀v∈e,v.one=X)
  {xs tail:List Value} (u:bq ρ els.flatten xs) (t:TypeId) (s:∀a,ot=D a->a=t):
  Step ρ H w (ρ.ec H.next ⟨w.heap.size,0,esz,xs.length+tail.length⟩) (H.push (dw ot esz els)) (w.alloc (.cells (xs++tail).toArray t)):=by
 have key:lp (ρ.ec H.next ⟨w.heap.size,0,esz,xs.length+tail.length⟩) (w.alloc (.cells (xs++tail).toArray t)) ⟨w.heap.size,0,esz,xs.length+tail.length⟩ t esz els:=by
  refine⟨⟨rfl,_,t,(0,0),heap_alloc_new _ _,⟨by simp,λ_ ai _=>by simp⟩,?_⟩,_,_,heap_alloc_new _ _,rfl⟩;intro i e he;refine⟨hlen e (List.mem_of_getElem? he),λj v k=> ?_⟩;refine⟨q e (List.mem_of_getElem? he) v (List.mem_of_getElem? k),?_⟩;obtain⟨x,c,y⟩:=u.get _ _ (uf hlen he k);refine⟨x,?_,y.mono (Env.p6 d _)⟩;have p:i*esz+j<xs.length:=by
   rcases Nat.lt_or_ge (i*esz+j) xs.length with h|h
   ·exact h
   ·rw[List.getElem?_eq_none h]at c;cases c
  simp only[Nat.zero_add,List.getElem?_toArray];rw[List.getElem?_append_left p];exact c
 refine Co o d _ (u5 _ _ _) _ _ rfl ?_ (λes h=>(u4 h).elim) ?_
 ·intro ro m l h;obtain⟨rfl,rfl,rfl,-⟩:=u6 h;exact key.1
 ·intro a m l h;obtain⟨n,rfl,rfl⟩:=u7 h;obtain rfl:=s a n;exact key
def rX:Value->Option aa
 | .bool b=>D (.bool b)
 | .int k n=>D (.int k n)
 | .string s=>D (.str s.data.toList)
 | .pointer Z=>D .nilPtr
 | .slice Z 0 0=>D .ar
 | .map Z=>D .ho
 | .nilFunc=>D .nilFunc
 | .nilIface=>D .nilIface
 |_=>Z
def qk:List Value->Option (List aa)
 |[]=>D []
 |v::r=>match rX v,qk r with
  |some a,D l=>D (a::l)
  |_,_=>Z
def qm:Value->Option aa
 | .agg cs=>(qk cs.toList).map .agg
 |v=>rX v
def BZ{v:Value}{a:aa}(h:rX v=D a)(ρ:Env):bd ρ a v/\a.one=true:=by
 unfold rX at h;split at h<;>first
  |(simp only[aU]at h;subst h;exact⟨by constructor,rfl⟩)
  |cases h
def B0:∀{c:List Value} {as:List aa},qk c=D as->∀ρ:Env,bq ρ as c/\∀a∈as,a.one=X
 |[],as,h,ρ=>by simp[qk]at h;subst h;exact⟨.nil,by simp⟩
 |v::r,as,h,ρ=>by
  unfold qk at h;split at h
  ·rename_i a l k m;simp only[aU]at h;subst h;obtain⟨d,e⟩:=BZ k ρ;obtain⟨i,j⟩:=B0 m ρ;exact⟨.cons _ _ _ _ d i,by simpa using⟨e,j⟩⟩
  ·cases h
def rY{v:Value}{a:aa}(h:qm v=D a)(ρ:Env):bd ρ a v:=by
 unfold qm at h;split at h
 ·simp only[Option.map_eq_some_iff]at h;obtain⟨l,c,rfl⟩:=h;have:=bd.agg _ _ (B0 c ρ).1;simpa using this
 ·exact(BZ h ρ).1
def eE(P:Program)(t:TypeId):Option aa:=(P.info? t).bind λi=>i.zero.bind qm
def ly{t:TypeId}{z:aa}(h:eE P t=D z)(w:World):∃x,(zeroValue t).run P w= .ok x w/\∀ρ:Env,bd ρ z x:=by
 unfold eE at h;simp only[cR]at h;obtain⟨i,a,x,c,d⟩:=h;exact⟨x,by simp[zeroValue,typeInfo,a,c],λρ=>rY d ρ⟩
def ow(P:Program)(t:TypeId):Option TypeId:=match P.underlying t with
 |some (.struct a)=>(match a.toList with
  |[f]=>(match P.underlying f.type with
   |some (.struct gs)=>if gs.size=2 then D t else Z
   |_=>Z)
  |_=>Z)
 |_=>Z
def BU{P:Program}{t a:TypeId}(h:ow P t=D a):a=t:=by
 unfold ow at h;split at h
 ·split at h
  ·split at h
   ·split at h
    ·exact(Option.some.inj h).symm
    ·cases h
   ·cases h
  ·cases h
 ·cases h
def nV(ot:Option TypeId)(H:ae)(v:aa):Option (aa×ae):=
 if v.cells.all aa.one=X then D (.ptr H.next 0 0,H.push (dw ot v.cells.length [v.cells]))else Z
def w5(i:Rel ρ H w)(k:ρ H.next=Z){ot:Option TypeId}{v a:aa}{x:Value}{H':ae}(h:nV ot H v=D (a,H'))(n:bd ρ v x)(t:TypeId)(m:∀c,ot=D c->c=t):
  ∃r d e,(Instr.box t x).run P w= .ok r d/\bd e a r/\Step ρ H w e H' d:=by
 unfold nV at h;split at h
 ·rename_i l;simp only[aU,bY]at h;obtain⟨rfl,rfl⟩:=h;have j:=n.cells;have aB:=qA i k (ot:=ot) (esz:=v.cells.length) (els:=[v.cells]) (by simp) (by simpa using l) (xs:=x.cells.toList) (tail:=[]) (by simpa using j) t m;refine⟨.pointer (D ⟨w.heap.size,0,Z⟩),_,_,?_,?_,aB⟩
  ·simp[Instr.box,newVar,newRow]
  ·simpa using bd.ptr (ρ:=ρ.ec H.next _) H.next 0 0 _ (Env.gN _ _ _)
 ·cases h
def re(P:Program)(H:ae)(t:TypeId):Option (aa×ae):=(eE P t).bind (nV (ow P t) H)
def Fh(k:Rel ρ H w)(l:ρ H.next=Z){t:TypeId}{a:aa}{H':ae}(h:re P H t=D (a,H')):
  ∃r c d,(Instr.alloc t X (.tuple #[])).run P w= .ok r c/\bd d a r/\Step ρ H w d H' c:=by
 unfold re at h;simp only[cR]at h;obtain⟨z,o,h⟩:=h;obtain⟨x,n,m⟩:=ly o w;obtain⟨r,c,d,e,i,j⟩:=w5 (P:=P) k l h (m ρ) t λ_ h=>BU h
 refine⟨r,c,d,?_,i,j⟩;simp only[Instr.alloc,Sem.run_bind,n,Result.andThen_ok];simpa [Instr.box]using e
end
section
variable {P:Program}{ρ:Env}{H:ae}{w:World}
def nX(place:Nat->Option (Nat×Nat))(cells:List aa):List (Nat×aa)->Option (List aa)
 |[]=>D cells
 |(i,v)::rest=>
  match place i with
  |none=>Z
  |some (off,size)=>if v.cells.length=size/\off+v.cells.length<=cells.length then nX place (cI cells off v.cells) rest else Z
def ui:∀(a:List Value) (k off:Nat) (c:Array Value),(a.zipIdx k).foldl (λcs (x:Value×Nat)=>cs.setIfInBounds (off+x.2) x.1) c=hs c (off+k) a
 |[],_,_,_=>rfl
 |v::r,k,off,c=>by
  simp only[List.zipIdx_cons,List.foldl_cons,hs];rw[ui r (k+1) off];rfl
def Dv{e:List aa}{xs:List Value}{c:Nat}{cs:List aa}{k:List Value}(he:bq ρ e xs)(n:bq ρ cs k)(h:c+cs.length<=e.length):
  bq ρ (cI e c cs) (hs xs.toArray c k).toList:=by
 have p:=he.length;have q:=n.length;refine bq.B3 (by rw[Dt h];simp[qB,p]) ?_;intro j v x d a;by_cases o:c<=j/\j<c+cs.length
 ·rw[Ds h o.1 o.2]at d;obtain⟨i,m,l⟩:=n.get _ _ d;have:=r9 k xs.toArray c (j-c) i m (by simp;omega);rw[show c+(j-c)=j by omega]at this;simp only[Array.getElem?_toList]at a;obtain rfl:x=i:=Option.some.inj (a.symm.trans this);exact l
 ·rw[Du h af]at d;obtain⟨i,m,l⟩:=he.get _ _ d;have:=oF k xs.toArray c j af;simp only[Array.getElem?_toList]at a;rw[this]at a;simp only[List.getElem?_toArray]at a;obtain rfl:x=i:=Option.some.inj (a.symm.trans m);exact l
def nP(ρ:Env):List (Nat×aa)->List (Nat×Value)->Prop
 |[],[]=>True
 |(i,v)::r,(j,x)::s=>i=j/\bd ρ v x/\nP ρ r s
 |_,_=>False
def tv(place:Nat->Option (Nat×Nat)):∀(parts:List (Nat×aa)) (n:List (Nat×Value)) (cells a:List aa) (xs:List Value),nP ρ parts n->bq ρ cells xs->
  nX place cells parts=D a->∃e:List Value,Instr.fill place xs.toArray n=D e.toArray/\bq ρ a e
 |[],[],cells,a,xs,_,d,h=>by
  simp[nX]at h;subst h;exact⟨xs,rfl,d⟩
 |[],_::_,_,_,_,aG,_,_=>aG.elim
 |_::_,[],_,_,_,aG,_,_=>aG.elim
 |(i,v)::r,(j,x)::s,cells,a,xs,aG,d,h=>by
  obtain⟨rfl,u,aG⟩:=aG;unfold nX at h;unfold Instr.fill;cases l:place i with
  |none=>rw[l]at h;cases h
  |some os=>
   obtain⟨off,size⟩:=os;rw[l]at h;simp only at h;split at h
   ·rename_i k;have m:=u.cells;have w:=m.length;have y:=d.length;have q:x.cells.size=v.cells.length:=by rw[w];simp
    have aB:=Dv d m (c:=off) k.2;obtain⟨e,o,p⟩:=tv place r s _ a _ aG aB h;refine⟨e,?_,p⟩;simp only
    rw[if_neg (by simp[q,k.1];have:=k.2;omega)];have:=ui x.cells.toList 0 off xs.toArray;rw[Nat.add_zero]at this;rw[<-Array.foldl_toList,Array.toList_zipIdx,this];simpa using o
   ·cases h
def pG(P:Program):List Field->Option (List (Nat×Nat))
 |[]=>D []
 |f::a=>match cn P f.type,pG P a with
  |some n,D l=>D ((f.offset,n)::l)
  |_,_=>Z
def xc(w:World):∀(a:List Field) (l:List (Nat×Nat)),pG P a=D l->(a.mapM (λf=>(do pure (f.offset,<-sizeOf f.type):Sem (Nat×Nat)))).run P w= .ok l w
 |[],l,h=>by simp[pG]at h;subst h;simp[Sem.run_pure]
 |f::a,l,h=>by
  unfold pG at h;split at h
  ·rename_i n l' d c;simp only[aU]at h;subst h;have e:=xc w a l' c;rw[List.mapM_cons];simp only[Sem.run_bind,run_sizeOf d,Result.andThen_ok,Sem.run_pure,e]
  ·cases h
def cj(P:Program)(t:TypeId)(parts:List (Nat×aa)):Option aa:=
 match eE P t,P.underlying t with
 |some z,D (.struct a)=>(match pG P a.toList with|some pl=>(nX (pl[·]?) z.cells parts).map .agg|none=>Z)
 |some z,D (.array _ e)=>(match cn P e with|some n=>(nX (λi=>D (i*n,n)) z.cells parts).map .agg|none=>Z)
 |_,_=>Z
def Fl{t:TypeId}{parts:List (Nat×aa)}{d:List (Nat×Value)}{v:aa}(h:cj P t parts=D v)(aG:nP ρ parts d)(w:World):
  ∃x,(Instr.build t d.toArray).run P w= .ok x w/\bd ρ v x:=by
 unfold cj at h;split at h
 ·rename_i z q l hu;obtain⟨a,o,m⟩:=ly l w;split at h
  ·rename_i pl u;simp only[Option.map_eq_some_iff]at h;obtain⟨cs,k,rfl⟩:=h;obtain⟨p,c,j⟩:=tv _ parts d z.cells cs a.cells.toList aG (m ρ).cells k;refine⟨.agg p.toArray,?_,.agg _ _ j⟩;have hm:=xc (P:=P) w q.toList pl u;have s:(q.mapM (λf=>(do pure (f.offset,<-sizeOf f.type):Sem (Nat×Nat)))).run P w= .ok pl.toArray w:=by
    rw[Array.mapM_eq_mapM_toList];simp only[Sem.run_map,hm,Result.andThen_ok]
   simp only[Instr.build,Sem.run_bind,o,Result.andThen_ok,run_underlying hu,s];have e:(λx:Nat=>(pl.toArray)[x]?)=(λx=>pl[x]?):=by funext x;simp
   simp only[e];have i:a.cells.toList.toArray=a.cells:=by simp
   rw[i]at c;simp[c]
  ·cases h
 ·rename_i z n e l hu;obtain⟨a,o,m⟩:=ly l w;split at h
  ·rename_i A y;simp only[Option.map_eq_some_iff]at h;obtain⟨cs,k,rfl⟩:=h;obtain⟨p,c,j⟩:=tv _ parts d z.cells cs a.cells.toList aG (m ρ).cells k;refine⟨.agg p.toArray,?_,.agg _ _ j⟩;have i:a.cells.toList.toArray=a.cells:=by simp
   rw[i]at c;simp[Instr.build,o,run_underlying hu,run_sizeOf y,c]
  ·cases h
 ·cases h
def ir(esz:Nat):List (List aa)->List (Nat×aa)->Option (List (List aa))
 |els,[]=>D els
 |els,(i,v)::rest=>if v.cells.length=esz/\i<els.length/\v.cells.all aa.one=X then ir esz (els.set i v.cells) rest else Z
def pD(P:Program)(H:ae)(t:TypeId)(len:Nat)(parts:List (Nat×aa)):Option (aa×ae):=
 match P.underlying t with
 |some (.slice e)=>
  (match cn P e,eE P e with
  |some a,D z=>
   if len*a<=16777216/\z.cells.length=a/\z.cells.all aa.one=X then
    (match ir a (List.replicate len z.cells) parts with
    |some els=>D (.aA H.next 0 len a (D len),H.push (.row U a els))
    |none=>Z)
   else Z
  |_,_=>Z)
 |_=>Z
def lD{esz:Nat}:∀{els:List (List aa)},(∀e∈els,e.length=esz)->els.flatten.length=els.length*esz
 |[],_=>by simp
 |d::els,h=>by
  have:=lD (els:=els) (λe he=>h e (List.mem_cons_of_mem _ he));simp only[List.flatten_cons,List.length_append,this,h d (by simp),List.length_cons,Nat.succ_mul];omega
def Au{esz:Nat}:∀{els:List (List aa)} (i:Nat) (c:List aa),(∀e∈els,e.length=esz)->c.length=esz->i<els.length->(els.set i c).flatten=cI els.flatten (i*esz) c
 |[],_,_,_,_,h=>by simp at h
 |d::els,0,c,a,j,_=>by
  have k:=a d (by simp);simp[cI,j,<-k]
 |d::els,i+1,c,a,j,h=>by
  have k:=a d (by simp);have n:=Au (els:=els) i c (λe he=>a e (List.mem_cons_of_mem _ he)) j (by simpa using h);simp only[List.set_cons_succ,List.flatten_cons,n];unfold cI;rw[Nat.succ_mul];have l:List.take (i*esz+esz) (d++els.flatten)=d++els.flatten.take (i*esz):=by
   rw[List.take_append,List.take_of_length_le af];congr 2;omega
  have m:List.drop (i*esz+esz+c.length) (d++els.flatten)=els.flatten.drop (i*esz+c.length):=by
   rw[List.drop_append,List.drop_eq_nil_of_le af,List.nil_append];congr 1;omega
  rw[l,m];simp
def xk(esz:Nat):∀(parts:List (Nat×aa)) (q:List (Nat×Value)) (els a:List (List aa)) (xs:List Value),nP ρ parts q->(∀e∈els,e.length=esz)->(∀e∈els,∀v∈e,v.one=X)->
  bq ρ els.flatten xs->ir esz els parts=D a->
   (∃m:List Value,Instr.fill (λi=>D (i*esz,esz)) xs.toArray q=D m.toArray/\bq ρ a.flatten m)/\(∀e∈a,e.length=esz)/\(∀e∈a,∀v∈e,v.one=X)/\a.length=els.length
 |[],[],els,a,xs,_,d,n,l,h=>by
  simp[ir]at h;subst h;exact⟨⟨xs,rfl,l⟩,d,n,rfl⟩
 |[],_::_,_,_,_,aG,_,_,_,_=>aG.elim
 |_::_,[],_,_,_,aG,_,_,_,_=>aG.elim
 |(i,v)::r,(j,x)::s,els,a,xs,aG,d,n,l,h=>by
  obtain⟨rfl,L,aG⟩:=aG;unfold ir at h;split at h
  ·rename_i E;obtain⟨k,o,G⟩:=E;have H:∀u∈v.cells,u.one=true:=by simpa using G
   have p:=L.cells;have M:=p.length;have N:=l.length;have F:=lD d;have hle:i*esz+v.cells.length<=els.flatten.length:=by rw[F,k];exact qh o
   have aB:=Dv l p (c:=i*esz) hle;rw[<-Au i v.cells d k o]at aB;have g1:∀e∈els.set i v.cells,e.length=esz:=λe he=>by
    rcases List.mem_or_eq_of_mem_set he with h|rfl
    ·exact d e h
    ·exact k
   have g2:∀e∈els.set i v.cells,∀u∈e,u.one=true:=λe he=>by
    rcases List.mem_or_eq_of_mem_set he with h|rfl
    ·exact n e h
    ·exact H
   obtain⟨⟨m,w,y⟩,z,A,B⟩:=xk esz r s _ a _ aG g1 g2 aB h;refine⟨⟨m,?_,y⟩,z,A,by simpa using B⟩;unfold Instr.fill;have K:x.cells.size=v.cells.length:=by rw[M];simp
   simp only
   rw[if_neg (by simp[K,k];omega)];have:=ui x.cells.toList 0 (i*esz) xs.toArray;rw[Nat.add_zero]at this;rw[<-Array.foldl_toList,Array.toList_zipIdx,this];simpa using w
  ·cases h
def E2(z:Array Value)(n:Nat)(c:0<z.size):((Array.range (n*z.size)).map (z[· %z.size]!))=((List.replicate n z.toList).flatten).toArray:=by
 apply Array.ext';apply List.ext_getElem?;intro k;by_cases a:k<n*z.size
 ·have d:(Array.map (λx=>z[x%z.size]!) (Array.range (n*z.size))).toList[k]? =D z[k%z.size]! :=by
   simp[a]
  rw[d];symm;simp only
  have hdiv:k/z.size<n:=by rw[Nat.div_lt_iff_lt_mul c];exact a
  have e:k%z.size<z.size:=Nat.mod_lt _ c;have key:∀(n k:Nat),k<n*z.size->(List.replicate n z.toList).flatten[k]? =z.toList[k%z.size]? :=by
   intro n
   induction n with
   |zero=>intro k h;omega
   |succ n i=>
    intro k h;rw[List.replicate_succ,List.flatten_cons];by_cases a:k<z.size
    ·rw[List.getElem?_append_left (by simpa using a),Nat.mod_eq_of_lt a]
    ·rw[List.getElem?_append_right (by simpa using a)];have:=i (k-z.size) (by rw[Nat.succ_mul]at h;omega);simp only[Array.length_toList];rw[this,<-Nat.mod_eq_sub_mod af]
  rw[key n k a];simp[e]
 ·rw[List.getElem?_eq_none (by simp;omega),List.getElem?_eq_none (by simp;omega)]
def bq.ug{a:List aa}{xs:List Value}(h:bq ρ a xs):∀n,bq ρ (List.replicate n a).flatten (List.replicate n xs).flatten
 |0=>by simpa using bq.nil
 |n+1=>by simpa [List.replicate_succ]using h.append (bq.ug h n)
def Fk(A:Rel ρ H w)(F:ρ H.next=Z){t:TypeId}{len:Nat}{parts:List (Nat×aa)}{l:List (Nat×Value)}{a:aa}{H':ae}(h:pD P H t len parts=D (a,H'))(aG:nP ρ parts l):
  ∃r q v,(Instr.buildSlice t len l.toArray).run P w= .ok r q/\bd v a r/\Step ρ H w v H' q:=by
 unfold pD at h;split at h
 ·rename_i e hu;split at h
  ·rename_i c z O R;split at h
   ·rename_i B;obtain⟨hle,p,K⟩:=B;split at h
    ·rename_i els E;simp only[aU,bY]at h;obtain⟨rfl,rfl⟩:=h;obtain⟨d,T,S⟩:=ly R w;have L:∀u∈z.cells,u.one=true:=by simpa using K
     have o:=(S ρ).cells;have j:d.cells.size=c:=by have:=o.length;rw[<-p,this];simp
     have N:=bq.ug o len;obtain⟨⟨s,k,m⟩,n,x,y⟩:=xk c parts l _ els _ aG (λe he=>by rw[List.eq_of_mem_replicate he];exact p)
      (λe he=>by rw[List.eq_of_mem_replicate he];exact L) N E
     have aB:=qA A F (ot:=none) n x m (tail:=[]) e (λ_ h=>by cases h);have Q:s.length=len*c:=by
      rw[<-m.length,lD n,y];simp
     refine⟨.slice (D ⟨w.heap.size,0,Z⟩) len len,_,_,?_,?_,aB⟩
     ·simp only[Instr.buildSlice,Sem.run_bind,run_underlying hu,Result.andThen_ok,run_sizeOf O];rw[if_neg (by show¬(len*c>2^24);omega)];by_cases i:len*c=0
      ·simp only[i,if_true,Sem.run_bind,Sem.run_pure,Result.andThen_ok];have G:(List.replicate len d.cells.toList).flatten=[]:=by
        have:((List.replicate len d.cells.toList).flatten).length=0:=by simp[j,i]
        exact List.eq_nil_of_length_eq_zero this
       rw[G]at k;have eh:Array.range 0= #[]:=rfl;simp[k,newRow,eh]
      ·simp only[i,if_false,Sem.run_bind,T,Result.andThen_ok,Sem.run_pure];have M:0<d.cells.size:=by
        rcases Nat.eq_zero_or_pos d.cells.size with h|h
        ·rw[j]at h;simp[h]at i
        ·exact h
       have:=E2 d.cells len M;rw[j]at this;simp only[j,this];simp[k,newRow]
     ·refine bd.aA (ρ:=ρ.ec H.next _) H.next 0 len (D len) ⟨w.heap.size,0,c,s.length+0⟩ _ len (Env.gN _ _ _) (bk _) (by simp) (λ_=>⟨by simp,?_⟩)
      simp[Q]
    ·cases h
   ·cases h
  ·cases h
 ·cases h

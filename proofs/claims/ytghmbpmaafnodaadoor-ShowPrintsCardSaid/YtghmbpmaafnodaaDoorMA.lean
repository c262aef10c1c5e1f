/-
  Texts of one proof, laid together: Hv0 Hv1 Hv2 Hv3 Hv4 Hv5 Hv6.
-/
import GoSem.Dispatch
import Derived.WalkKit
import Derived.Laws.IdiomCopy
set_option linter.unusedVariables false
set_option linter.unusedSimpArgs false
set_option linter.defProp false
open Option renaming some→D,none→Z
open Bool renaming true→X,false→U
namespace Go.cn
def af{p:Prop}(h:p:=by omega):p:=h
def ah{p:Prop}(h:p:=by kernel_rfl):p:=h
def bk{p:Prop}(h:p:=by decide):p:=h
def ai{a b:Prop}(x:a)(y:b):a/\b:=⟨x,y⟩
def aS{α:Type}(a b:α):(D a=D b)=(a=b):=Option.some.injEq a b
def aR{α:Type}(a b:α):(bif X then a else b)=a:=rfl
def aK{α:Type}(a b:α):(bif U then a else b)=b:=rfl
def c1{α β:Type}{o:Option α}{f:α->Option β}{b:β}:o.bind f=D b↔∃a,o=D a/\f a=D b:=Option.bind_eq_some_iff
def b5{α β:Type}(a:α)(b:β)(c:α)(d:β):((a,b)=(c,d))=(a=c/\b=d):=Prod.mk.injEq a b c d
def bm(n:Nat):n<=n:=Nat.le_refl n
inductive ad where
 |bool (b:Bool)
 |int (k:IntKind) (n:Int)
 |str (s:List UInt8)
 |ptr (l i c:Nat)
 |nilPtr
 |aD (l i n esz:Nat) (cap:Option Nat)
 |az
 |map (l:Nat)
 |hY
 |func (fn:Fn) (first captured:List ad)
 |nilFunc
 |iface (t:TypeId) (v:ad)
 |nilIface
 |agg (cs:List ad)
 |tuple (a:List ad)
instance:Inhabited ad:=⟨.tuple []⟩
inductive bW where
 |row (ro:Bool) (esz:Nat) (els:List (List ad))
 |b0 (t:TypeId) (esz:Nat) (els:List (List ad))
 |map (es:List (ad×ad))
 |dead
inductive kL where
 |d0|d1|d2|d3|d4|d5|d6|d7
inductive bt(α:Type) where
 |leaf
 |node (v:Option α) (a c d e h i j k:bt α)
def wa(n:Nat):kL:=match n with
 |0=> .d0|1=> .d1|2=> .d2|3=> .d3|4=> .d4|5=> .d5|6=> .d6|_=> .d7
def Jl{n m:Nat}(d:n<8)(hm:m<8)(h:wa n=wa m):n=m:=by
 have a:n=0\/n=1\/n=2\/n=3\/n=4\/n=5\/n=6\/n=7:=af;have c:m=0\/m=1\/m=2\/m=3\/m=4\/m=5\/m=6\/m=7:=af;rcases a with rfl|rfl|rfl|rfl|rfl|rfl|rfl|rfl<;>rcases c with rfl|rfl|rfl|rfl|rfl|rfl|rfl|rfl<;>first|rfl|cases h
def mZ:Nat->Nat->List kL
 |0,_=>[]
 |_+1,0=>[]
 |f+1,k+1=>wa (k%8)::mZ f (k/8)
def path(k:Nat):List kL:=mZ k k
def Lr:∀(f g k j:Nat),k<=f->j<=g->mZ f k=mZ g j->k=j:=by
 intro f
 induction f with
 |zero=>
  intro g k j c a h;have:k=0:=af;subst this;cases j with
  |zero=>rfl
  |succ j=>
   cases g with
   |zero=>omega
   |succ g=>simp[mZ]at h
 |succ f d=>
  intro g k j c a h;cases k with
  |zero=>
   cases j with
   |zero=>rfl
   |succ j=>
    cases g with
    |zero=>omega
    |succ g=>simp[mZ]at h
  |succ k=>
   cases j with
   |zero=>cases g<;>simp[mZ]at h
   |succ j=>
    cases g with
    |zero=>omega
    |succ g=>
     simp only[mZ,List.cons.injEq]at h;have e:=Jl (Nat.mod_lt _ af) (Nat.mod_lt _ af) h.1;have i:=d g (k/8) (j/8) af af h.2;omega
def Eo{k j:Nat}(h:path k=path j):k=j:=Lr k j k j (bm _) (bm _) h
def bt.iL{α:Type}:List kL->bt α->Option α
 |[],.leaf=>Z
 |[],.node v _ _ _ _ _ _ _ _=>v
 |_::_,.leaf=>Z
 |d::p,.node _ a c e h i j k l=>match d with
  | .d0=>bt.iL p a| .d1=>bt.iL p c| .d2=>bt.iL p e| .d3=>bt.iL p h
  | .d4=>bt.iL p i| .d5=>bt.iL p j| .d6=>bt.iL p k| .d7=>bt.iL p l
def bt.dV{α:Type}(x:α):List kL->bt α->bt α
 |[],.leaf=> .node (D x) .leaf .leaf .leaf .leaf .leaf .leaf .leaf .leaf
 |[],.node _ a c e h i j k l=> .node (D x) a c e h i j k l
 |d::p,.leaf=>match d with
  | .d0=> .node Z (bt.dV x p .leaf) .leaf .leaf .leaf .leaf .leaf .leaf .leaf
  | .d1=> .node Z .leaf (bt.dV x p .leaf) .leaf .leaf .leaf .leaf .leaf .leaf
  | .d2=> .node Z .leaf .leaf (bt.dV x p .leaf) .leaf .leaf .leaf .leaf .leaf
  | .d3=> .node Z .leaf .leaf .leaf (bt.dV x p .leaf) .leaf .leaf .leaf .leaf
  | .d4=> .node Z .leaf .leaf .leaf .leaf (bt.dV x p .leaf) .leaf .leaf .leaf
  | .d5=> .node Z .leaf .leaf .leaf .leaf .leaf (bt.dV x p .leaf) .leaf .leaf
  | .d6=> .node Z .leaf .leaf .leaf .leaf .leaf .leaf (bt.dV x p .leaf) .leaf
  | .d7=> .node Z .leaf .leaf .leaf .leaf .leaf .leaf .leaf (bt.dV x p .leaf)
 |d::p,.node v a c e h i j k l=>match d with
  | .d0=> .node v (bt.dV x p a) c e h i j k l
  | .d1=> .node v a (bt.dV x p c) e h i j k l
  | .d2=> .node v a c (bt.dV x p e) h i j k l
  | .d3=> .node v a c e (bt.dV x p h) i j k l
  | .d4=> .node v a c e h (bt.dV x p i) j k l
  | .d5=> .node v a c e h i (bt.dV x p j) k l
  | .d6=> .node v a c e h i j (bt.dV x p k) l
  | .d7=> .node v a c e h i j k (bt.dV x p l)
def bt.tf{α:Type}(p:List kL):bt.iL p (.leaf:bt α)=none:=by cases p<;>rfl
def bt.wE{α:Type}(x:α):∀(p:List kL) (t:bt α),bt.iL p (bt.dV x p t)=D x
 |[],.leaf=>rfl
 |[],.node .. =>rfl
 |d::p,.leaf=>by cases d<;>exact bt.wE x p _
 |d::p,.node .. =>by cases d<;>exact bt.wE x p _
def bt.wD{α:Type}(x:α):∀(p q:List kL) (t:bt α),p≠q->bt.iL q (bt.dV x p t)=bt.iL q t
 |[],[],_,h=>absurd rfl h
 |[],e::q,.leaf,_=>by cases e<;>exact bt.tf q
 |[],e::q,.node ..,_=>rfl
 |d::p,[],.leaf,_=>by cases d<;>rfl
 |d::p,[],.node ..,_=>by cases d<;>rfl
 |d::p,e::q,.leaf,h=>by
  cases d<;>cases e<;>first
   |exact bt.tf q
   |(show bt.iL q (bt.dV x p .leaf)=Z
     rw[bt.wD x p q .leaf (λa=>h (by rw[a]))];exact bt.tf q)
 |d::p,e::q,.node ..,h=>by
  cases d<;>cases e<;>first
   |rfl
   |exact bt.wD x p q _ (λa=>h (by rw[a]))
def bt.get{α:Type}(t:bt α)(k:Nat):Option α:=bt.iL (path k) t
def bt.put{α:Type}(x:α)(_:Nat)(t:bt α)(k:Nat):bt α:=bt.dV x (path k) t
def bt.rA{α:Type}(k:Nat):(bt.leaf:bt α).get k=none:=bt.tf _
def bt.rE{α:Type}(x:α):∀(f:Nat) (t:bt α) (k:Nat),k<f->(bt.put x f t k).get k=D x:=λ_ t k _=>bt.wE x (path k) t
def bt.rD{α:Type}(x:α):∀(f:Nat) (t:bt α) (k j:Nat),k≠j->(bt.put x f t k).get j=t.get j:=λ_ t _ _ h=>bt.wD x _ _ t (λe=>h (Eo e))
structure ae where
 t:bt bW
 next:Nat
def ae.get(H:ae)(l:Nat):Option bW:=if l<H.next then H.t.get l else Z
def ae.set(H:ae)(l:Nat)(b:bW):ae:={H with t:=bt.put b (l+1) H.t l}
def ae.push(H:ae)(b:bW):ae:={t:=bt.put b (H.next+1) H.t H.next,next:=H.next+1}
def ae.empty:ae:=⟨.leaf,0⟩
@[simp] theorem ae.dz(H:ae)(l:Nat)(b:bW):(H.set l b).next=H.next:=rfl
@[simp] theorem ae.b8(H:ae)(b:bW):(H.push b).next=H.next+1:=rfl
def ae.aV{H:ae}{l:Nat}{b:bW}(h:H.get l=D b):l<H.next:=by
 unfold ae.get at h;split at h
 ·assumption
 ·cases h
def ae.get_set_same{H:ae}{l:Nat}{b:bW}(h:l<H.next):(H.set l b).get l=D b:=by
 show(if l<H.next then(bt.put b (l+1) H.t l).get l else Z)=D b;rw[if_pos h];exact bt.rE b _ _ _ af
def ae.get_set_other{H:ae}{l j:Nat}{b:bW}(h:l≠j):(H.set l b).get j=H.get j:=by
 show(if j<H.next then(bt.put b (l+1) H.t l).get j else Z)=(if j<H.next then H.t.get j else Z);rw[bt.rD b _ _ _ _ h]
def ae.bM(H:ae)(b:bW):(H.push b).get H.next=D b:=by
 show(if H.next<H.next+1 then(bt.put b (H.next+1) H.t H.next).get H.next else Z)=D b;rw[if_pos af];exact bt.rE b _ _ _ af
def ae.dC{H:ae}{j:Nat}{b:bW}(h:j≠H.next):(H.push b).get j=H.get j:=by
 show(if j<H.next+1 then(bt.put b (H.next+1) H.t H.next).get j else Z)=(if j<H.next then H.t.get j else Z);by_cases a:j<H.next
 ·rw[if_pos af,if_pos a,bt.rD b _ _ _ _ af]
 ·rw[if_neg af,if_neg a]
section
structure Loc where
 block:Nat
 off:Nat
 esz:Nat
 size:Nat
def Env:Type:=Nat->Option Loc
def Env.le(ρ a:Env):Prop:=∀l loc,ρ l=D loc->a l=D loc
def Env.le_refl(ρ:Env):ρ.le ρ:=λ_ _ h=>h
def Env.le_trans{ρ a c:Env}(h:ρ.le a)(a1:a.le c):ρ.le c:=λl loc e=>a1 l loc (h l loc e)
mutual
inductive bj(ρ:Env):ad->Value->Prop where
 |bool (b:Bool):bj ρ (.bool b) (.bool b)
 |int (k:IntKind) (n:Int):bj ρ (.int k n) (.int k n)
 |str (s:List UInt8):bj ρ (.str s) (.string ⟨s.toArray⟩)
 |ptr (l i c:Nat) (loc:Loc) (h:ρ l=some loc):bj ρ (.ptr l i c) (.pointer (some ⟨loc.block,loc.off+i*loc.esz+c,none⟩))
 |nilPtr:bj ρ .nilPtr (.pointer none)
 |aD (l i n:Nat) (cap:Option Nat) (loc:Loc) (a:Addr) (c:Nat) (h:ρ l=some loc) (m:n<=c) (d:∀k,cap=some k->c=k)
  (e:0<c->a=⟨loc.block,loc.off+i*loc.esz,none⟩/\loc.off+(i+c)*loc.esz<=loc.size):bj ρ (.aD l i n loc.esz cap) (.slice (some a) n c)
 |az:bj ρ .az (.slice none 0 0)
 |map (l:Nat) (loc:Loc) (h:ρ l=some loc):bj ρ (.map l) (.map (some loc.block))
 |hY:bj ρ .hY (.map none)
 |func (fn:Fn) (f c:List ad) (jm c':List Value) (j:bB ρ f jm) (d:bB ρ c c'):bj ρ (.func fn f c) (.func fn jm.toArray c'.toArray)
 |nilFunc:bj ρ .nilFunc .nilFunc
 |iface (t:TypeId) (v:ad) (x:Value) (h:bj ρ v x):bj ρ (.iface t v) (.iface t x)
 |nilIface:bj ρ .nilIface .nilIface
 |agg (cs:List ad) (xs:List Value) (h:bB ρ cs xs):bj ρ (.agg cs) (.agg xs.toArray)
 |tuple (cs:List ad) (xs:List Value) (h:bB ρ cs xs):bj ρ (.tuple cs) (.tuple xs.toArray)
inductive bB(ρ:Env):List ad->List Value->Prop where
  |nil:bB ρ [] []
  |cons (v:ad) (x:Value) (a:List ad) (xs:List Value) (h:bj ρ v x) (aB:bB ρ a xs):bB ρ (v::a) (x::xs)
 end
mutual
def bj.mono{ρ e:Env}(hle:ρ.le e){v:ad}{x:Value}(h:bj ρ v x):bj e v x:=by
 cases h with
 |bool b=>exact .bool b
 |int k n=>exact .int k n
 |str s=>exact .str s
 |ptr l i c loc h=>exact .ptr l i c loc (hle _ _ h)
 |nilPtr=>exact .nilPtr
 |aD l i n cap loc a c h o d j=>exact .aD l i n cap loc a c (hle _ _ h) o d j
 |az=>exact .az
 |map l loc h=>exact .map l loc (hle _ _ h)
 |hY=>exact .hY
 |func fn f c jm c' m d=>exact .func fn f c jm c' (bB.mono hle m) (bB.mono hle d)
 |nilFunc=>exact .nilFunc
 |iface t v x h=>exact .iface t v x (bj.mono hle h)
 |nilIface=>exact .nilIface
 |agg cs xs h=>exact .agg cs xs (bB.mono hle h)
 |tuple cs xs h=>exact .tuple cs xs (bB.mono hle h)
def bB.mono{ρ a:Env}(hle:ρ.le a){v:List ad}{x:List Value}(h:bB ρ v x):bB a v x:=by
  cases h with
  |nil=>exact .nil
  |cons v x c xs h aB=>exact .cons v x c xs (bj.mono hle h) (bB.mono hle aB)
 end
def bB.length{ρ:Env}:∀{a:List ad} {xs:List Value},bB ρ a xs->a.length=xs.length
 |[],_,h=>by cases h;rfl
 |_::_,_,h=>by cases h with|cons _ _ _ _ _ aB=>simp[bB.length aB]
def bB.get{ρ:Env}:∀{c:List ad} {xs:List Value},bB ρ c xs->∀(j:Nat) (v:ad),c[j]? =D v->∃x,xs[j]? =D x/\bj ρ v x
 |[],_,h,j,v,a=>by simp at a
 |w::c,_,h,j,v,a=>by
  cases h with
  |cons _ x _ xs d aB=>
   cases j with
   |zero=>simp at a;subst a;exact⟨x,rfl,d⟩
   |succ j=>simpa using bB.get aB j v (by simpa using a)
def bB.append{ρ:Env}:∀{c us:List ad} {xs d:List Value},bB ρ c xs->bB ρ us d->bB ρ (c++us) (xs++d)
 |[],_,_,_,h,a1=>by cases h;exact a1
 |_::_,_,_,_,h,a1=>by cases h with|cons _ _ _ _ a as=>exact .cons _ _ _ _ a (bB.append as a1)
def bB.D_{ρ:Env}:∀{c:List ad} {xs:List Value},c.length=xs.length->(∀(j:Nat) (v:ad) (x:Value),c[j]? =D v->xs[j]? =D x->bj ρ v x)->bB ρ c xs
 |[],[],_,_=> .nil
 |[],_::_,h,_=>by simp at h
 |_::_,[],h,_=>by simp at h
 |v::c,x::xs,h,d=> .cons _ _ _ _ (d 0 v x rfl rfl) (bB.D_ (by simpa using h) λj a b e i=>d (j+1) a b (by simpa using e) (by simpa using i))
def bB.set{ρ:Env}{v:ad}{x:Value}(h:bj ρ v x):∀{c:List ad} {xs:List Value} (j:Nat),bB ρ c xs->bB ρ (c.set j v) (xs.set j x)
 |[],_,_,aB=>by cases aB;exact .nil
 |_::_,_,0,aB=>by cases aB with|cons _ _ _ _ a as=>exact .cons _ _ _ _ h as
 |_::_,_,j+1,aB=>by cases aB with|cons _ _ _ _ a as=>exact .cons _ _ _ _ a (bB.set h j as)
def ad.one:ad->Bool
 | .agg _| .tuple _=>U
 |_=>X
def ad.cells:ad->List ad
 | .agg cs=>cs
 |v=>[v]
def bj.xo{ρ:Env}{v:ad}{x:Value}(h:bj ρ v x)(a:v.one=X):x.oneCell'=true:=by
 cases h<;>first|rfl|cases a
def bj.cells{ρ:Env}{v:ad}{x:Value}(h:bj ρ v x):bB ρ v.cells x.cells.toList:=by
 cases h with
 |agg cs xs h=>simpa [ad.cells,Value.cells]using h
 |bool b=>exact .cons _ _ _ _ (.bool b) .nil
 |int k n=>exact .cons _ _ _ _ (.int k n) .nil
 |str s=>exact .cons _ _ _ _ (.str s) .nil
 |ptr l i c loc h=>exact .cons _ _ _ _ (.ptr l i c loc h) .nil
 |nilPtr=>exact .cons _ _ _ _ .nilPtr .nil
 |aD l i n cap loc a c h m d e=>exact .cons _ _ _ _ (.aD l i n cap loc a c h m d e) .nil
 |az=>exact .cons _ _ _ _ .az .nil
 |map l loc h=>exact .cons _ _ _ _ (.map l loc h) .nil
 |hY=>exact .cons _ _ _ _ .hY .nil
 |func fn f c jm c' j d=>exact .cons _ _ _ _ (.func fn f c jm c' j d) .nil
 |nilFunc=>exact .cons _ _ _ _ .nilFunc .nil
 |iface t v x h=>exact .cons _ _ _ _ (.iface t v x h) .nil
 |nilIface=>exact .cons _ _ _ _ .nilIface .nil
 |tuple cs xs h=>exact .cons _ _ _ _ (.tuple cs xs h) .nil
def fy(ρ:Env)(w:World)(loc:Loc)(ro:Bool)(esz:Nat)(els:List (List ad)):Prop:=loc.esz=esz/\∃c t a,w.heap[loc.block]? =D (.cells c t a)/\(loc.size=c.size/\(ro=U->∀o,o<c.size->¬(a.1<=o/\o<a.2)))/\ ∀(i:Nat) (e:List ad),els[i]? =D e->e.length=esz/\∀(j:Nat) (v:ad),e[j]? =D v->v.one=X/\∃x,c[loc.off+i*esz+j]? =D x/\bj ρ v x
def mD(ρ:Env)(w:World)(loc:Loc)(t:TypeId)(esz:Nat)(els:List (List ad)):Prop:=fy ρ w loc U esz els/\∃c a,w.heap[loc.block]? =D (.cells c t a)/\loc.off=0
def vp(ρ:Env)(w:World)(loc:Loc)(es:List (ad×ad)):Prop:=∃ents clock,w.heap[loc.block]? =D (.map ents clock)/\bB ρ (es.map (·.1)) (ents.toList.map (·.key))/\bB ρ (es.map (·.2)) (ents.toList.map (·.val))
def ae.rw(H:ae)(l:Nat):Prop:=(∃esz els,H.get l=D (.row U esz els))\/(∃es,H.get l=D (.map es))\/∃t esz els,H.get l=D (.b0 t esz els)
def ae.live(H:ae)(l:Nat):Prop:=(∃ro esz els,H.get l=D (.row ro esz els))\/(∃es,H.get l=D (.map es))\/∃t esz els,H.get l=D (.b0 t esz els)
def ae.rw.live{H:ae}{l:Nat}(h:H.rw l):H.live l:=by
 rcases h with⟨e,s,h⟩|h
 ·exact .inl ⟨_,e,s,h⟩
 ·exact .inr h
def bW.rG:bW->Bool
 | .row X _ _=>X
 |_=>U
def ae.E6{H:ae}{l:Nat}{b:bW}(c:b.rG=U):∀k esz els,(H.set l b).get k=D (.row X esz els)->H.get k=D (.row X esz els):=by
 intro k esz els h;by_cases a:l=k
 ·subst a;have d:l<H.next:=by have:=ae.aV h;simpa using this
  rw[ae.get_set_same d]at h;simp only[aS]at h;subst h;cases c
 ·rwa[ae.get_set_other a]at h
def ae.E5{H:ae}{b:bW}(c:b.rG=U):∀k esz els,(H.push b).get k=D (.row X esz els)->H.get k=D (.row X esz els):=by
 intro k esz els h;by_cases a:k=H.next
 ·subst a;rw[ae.bM]at h;simp only[aS]at h;subst h;cases c
 ·rwa[ae.dC a]at h
structure Rel(ρ:Env)(H:ae)(w:World):Prop where
 row:∀l ro esz els,H.get l=some (.row ro esz els)->∃loc,ρ l=some loc/\fy ρ w loc ro esz els
 map:∀l es,H.get l=some (.map es)->∃loc,ρ l=some loc/\vp ρ w loc es
 b0:∀l t esz els,H.get l=some (.b0 t esz els)->∃loc,ρ l=some loc/\mD ρ w loc t esz els
 apart:∀l l' loc a,H.rw l->H.live l'->l≠l'->ρ l=some loc->ρ l'=some a->loc.block≠a.block
def iF(ρ:Env)(H:ae)(b:Nat):Prop:=∃l loc,H.rw l/\ρ l=D loc/\loc.block=b
structure Step(ρ:Env)(H:ae)(w:World)(c:Env)(H':ae)(a:World):Prop where
 le:ρ.le c
 next:H.next<=H'.next
 aW:∀l,l<H.next\/H'.next<=l->c l=ρ l
 rel:Rel c H' a
 os:a.os=w.os
 tape:a.tape=w.tape
 output:a.output=w.output
 size:w.heap.size<=a.heap.size
 frame:∀b,b<w.heap.size->¬iF ρ H b->a.heap[b]? =w.heap[b]?
 own:∀b,iF c H' b->iF ρ H b\/w.heap.size<=b
 ro:∀l esz els,H'.get l=some (.row true esz els)->H.get l=some (.row true esz els)
def Step.refl{ρ:Env}{H:ae}{w:World}(h:Rel ρ H w):Step ρ H w ρ H w:=
 ⟨ρ.le_refl,bm _,λ_ _=>rfl,h,rfl,rfl,rfl,bm _,λ_ _ _=>rfl,λ_ h=> .inl h,λ_ _ _ h=>h⟩
def Step.trans{ρ p q:Env}{H d i:ae}{w n o:World}(h:Step ρ H w p d n)(k:Step p d n q i o):Step ρ H w q i o where
 le:=Env.le_trans h.le k.le
 next:=Nat.le_trans h.next k.next
 aW:=λl j=>(k.aW l (j.imp (λx=>Nat.lt_of_lt_of_le x h.next) id)).trans (h.aW l (j.imp id (λx=>Nat.le_trans k.next x)))
 ro:=λl esz els e=>h.ro l esz els (k.ro l esz els e)
 rel:=k.rel
 os:=k.os.trans h.os
 tape:=k.tape.trans h.tape
 output:=k.output.trans h.output
 size:=Nat.le_trans h.size k.size
 frame:=λb a m=>by
  rw[k.frame b (Nat.lt_of_lt_of_le a h.size) (λc=>(h.own b c).elim m (λhle=>af)),h.frame b a m]
 own:=λb a=>(k.own b a).elim (λc=>h.own b c) (λhle=> .inr (Nat.le_trans h.size hle))
def yD(ρ:Env)(n m:Nat):Prop:=∀l,n<=l->l<m->ρ l=Z
structure h_(E ρ:Env)(n m:Nat):Prop where
 new:yD ρ n m
 le:E.le ρ
def h_.left{E ρ:Env}{n m k:Nat}(h:h_ E ρ n k)(hm:m<=k):h_ E ρ n m:=⟨λl a b=>h.new l a af,h.le⟩
def h_.after{E ρ d:Env}{H c:ae}{w e:World}{k:Nat}(h:h_ E ρ H.next k)(s:Step ρ H w d c e):h_ E d c.next k:=⟨λl a b=>by
 rw[s.aW l (.inr a)];exact h.new l (Nat.le_trans s.next a) b,Env.le_trans h.le s.le⟩
def Rel.drew{ρ:Env}{H:ae}{w:World}(h:Rel ρ H w):Rel ρ H w.drew:=⟨h.row,h.map,h.b0,h.apart⟩
end
def dZ(P:Program)(t:TypeId):Option Bool:=
 match P.underlying t with
 |some (.struct _)|some (.array _ _)=>D X
 |some _=>D U
 |none=>Z
def cA(P:Program)(t:TypeId):Option Nat:=(P.info? t).map (·.size)
def uj{P:Program}{t:TypeId}{b:Bool}(h:dZ P t=D b)(w:World):(isAgg t).run P w= .ok b w:=by
 unfold dZ at h;unfold isAgg;cases hu:P.underlying t with
 |none=>rw[hu]at h;cases h
 |some d=>
  rw[hu]at h;simp only[Sem.run_bind,run_underlying hu,Result.andThen_ok];cases d<;>simp_all
def run_sizeOf{P:Program}{t:TypeId}{n:Nat}(h:cA P t=D n)(w:World):(sizeOf t).run P w= .ok n w:=by
 unfold cA at h;cases a:P.info? t with
 |none=>rw[a]at h;cases h
 |some i=>rw[a]at h;simp at h;simp[sizeOf,typeInfo,a,h]
def apart(P:Program)(t:TypeId)(cs:List ad)(off:Nat):Option ad:=
 match dZ P t with
 |some X=>(match cA P t with|some n=>D (.agg ((cs.drop off).take n))|none=>Z)
 |some U=>cs[off]?
 |none=>Z
def bB.drop{ρ:Env}:∀{c:List ad} {xs:List Value} (n:Nat),bB ρ c xs->bB ρ (c.drop n) (xs.drop n)
 |_,_,0,h=>by simpa using h
 |[],_,n+1,h=>by cases h;simpa using bB.nil
 |_::_,_,n+1,h=>by cases h with|cons _ _ _ _ a as=>simpa using bB.drop n as
def bB.take{ρ:Env}:∀{c:List ad} {xs:List Value} (n:Nat),bB ρ c xs->bB ρ (c.take n) (xs.take n)
 |_,_,0,h=>by simpa using bB.nil
 |[],_,n+1,h=>by cases h;simpa using bB.nil
 |_::_,_,n+1,h=>by cases h with|cons _ _ _ _ a as=>simpa using bB.cons _ _ _ _ a (bB.take n as)
def mJ{P:Program}{t:TypeId}{cs:List ad}{off:Nat}{v:ad}{ρ:Env}{xs:List Value}(h:apart P t cs off=D v)(aB:bB ρ cs xs)(w:World):
  ∃x,(part t xs.toArray off).run P w= .ok x w/\bj ρ v x:=by
 unfold apart at h;split at h
 ·rename_i a;split at h
  ·rename_i n c;simp at h;subst h;refine⟨.agg (((xs.drop off).take n).toArray),?_,.agg _ _ ((aB.drop off).take n)⟩;unfold part;simp only[Sem.run_bind,uj a,Result.andThen_ok,if_true,run_sizeOf c];simp[List.extract_toArray,List.extract_eq_take_drop]
  ·cases h
 ·rename_i a;obtain⟨x,e,d⟩:=aB.get off v h;refine⟨x,?_,d⟩;unfold part;simp[uj a,e]
 ·cases h
def hT(op:BinOp)(k:IntKind)(a b:Int):Option ad:=
 match op with
 | .add=>D (.int k (k.wrap (a+b)))
 | .sub=>D (.int k (k.wrap (a-b)))
 | .mul=>D (.int k (k.wrap (a*b)))
 | .quo=>if b=0 then Z else D (.int k (k.wrap (a.tdiv b)))
 | .rem=>if b=0 then Z else D (.int k (a.tmod b))
 | .and=>D (.int k (k.wrap ((BitVec.ofInt k.bits a&&&BitVec.ofInt k.bits b).toNat:Int)))
 | .or=>D (.int k (k.wrap ((BitVec.ofInt k.bits a|||BitVec.ofInt k.bits b).toNat:Int)))
 | .xor=>D (.int k (k.wrap ((BitVec.ofInt k.bits a^^^BitVec.ofInt k.bits b).toNat:Int)))
 | .andNot=>D (.int k (k.wrap ((BitVec.ofInt k.bits a&&& ~~~BitVec.ofInt k.bits b).toNat:Int)))
 | .eql=>D (.bool (a==b))
 | .neq=>D (.bool (a != b))
 | .lss=>D (.bool (decide (a<b)))
 | .leq=>D (.bool (decide (a<=b)))
 | .gtr=>D (.bool (decide (b<a)))
 | .geq=>D (.bool (decide (b<=a)))
 | .shl| .shr=>Z
def pV(op:BinOp)(k:IntKind)(a b:Int):Option ad:=
 if b<0 then Z else
 match op with
 | .shl=>D (.int k (k.wrap (a*2^(min b.toNat k.bits))))
 | .shr=>D (.int k (a.fdiv (2^(min b.toNat k.bits))))
 |_=>Z
def sE(op:BinOp)(a b:List UInt8):Option ad:=
 match op with
 | .add=>if a.length+b.length<=9223372036854775807 then D (.str (a++b))else Z
 | .eql=>D (.bool (a==b))
 | .neq=>D (.bool (!(a==b)))
 | .lss=>D (.bool (Op.bytesLess a b))
 | .leq=>D (.bool (Op.bytesLess a b||a==b))
 | .gtr=>D (.bool (!(Op.bytesLess a b||a==b)))
 | .geq=>D (.bool (!Op.bytesLess a b))
 |_=>Z
def pD(P:Program)(eq:TypeId->ad->ad->Option Bool):List Field->List ad->List ad->Option Bool
 |[],_,_=>D X
 |f::d,xs,c=>
  if f.name≠ "_" then
   match apart P f.type xs f.offset,apart P f.type c f.offset with
   |some a,D b=>(match eq f.type a b with|some X=>pD P eq d xs c|some U=>D U|none=>Z)
   |_,_=>Z
  else pD P eq d xs c
def q_(P:Program)(eq:TypeId->ad->ad->Option Bool)(e:TypeId)(n:Nat):Nat->Nat->List ad->List ad->Option Bool
 |0,_,_,_=>D X
 |k+1,i,xs,c=>
  match apart P e xs (i*n),apart P e c (i*n)with
  |some a,D b=>(match eq e a b with|some X=>q_ P eq e n k (i+1) xs c|some U=>D U|none=>Z)
  |_,_=>Z
def kc(P:Program):Nat->TypeId->ad->ad->Option Bool
 |0,_,_,_=>Z
 |d+1,t,x,y=>
  match P.underlying t,x,y with
  |some .bool,.bool a,.bool b=>D (a==b)
  |some (.int _),.int k a,.int i b=>if k=i then D (a==b)else Z
  |some .string,.str a,.str b=>D (a==b)
  |some (.pointer _),.nilPtr,.nilPtr=>D X
  |some (.pointer _),.nilPtr,.ptr .. =>D U
  |some (.pointer _),.ptr ..,.nilPtr=>D U
  |some (.interface _),.nilIface,.nilIface=>D X
  |some (.interface _),.nilIface,.iface .. =>D U
  |some (.interface _),.iface ..,.nilIface=>D U
  |some (.struct h),.agg xs,.agg c=>if P.stoodInHeld t then Z else pD P (kc P d) h.toList xs c
  |some (.array len e),.agg xs,.agg c=>(match cA P e with|some n=>q_ P (kc P d) e n len 0 xs c|none=>Z)
  |some (.slice _),.az,.az=>D X
  |some (.slice _),.az,.aD .. =>D U
  |some (.slice _),.aD ..,.az=>D U
  |some (.map _ _),.hY,.hY=>D X
  |some (.map _ _),.hY,.map _=>D U
  |some (.map _ _),.map _,.hY=>D U
  |some (.func _ _ _),.nilFunc,.nilFunc=>D X
  |some (.func _ _ _),.nilFunc,.func .. =>D U
  |some (.func _ _ _),.func ..,.nilFunc=>D U
  |_,_,_=>Z
def isConst:Operand->Bool
 | .const _=>X
 |_=>U
def oo(P:Program)(t:TypeId)(x y:Operand)(a b:ad):Bool:=
 match a,b with
 | .nilIface,.nilIface=>isConst x||isConst y
 | .agg _,.agg _=> !P.eqGuardType P.depth t
 |_,_=>X
def q8(P:Program)(op:BinOp)(t:TypeId)(c d:Operand)(x y:ad):Option ad:=
 match x,y with
 | .int k a,.int e b=>
  (match op with
  | .shl=>pV .shl k a b
  | .shr=>pV .shr k a b
  |op=>if k=e then hT op k a b else Z)
 | .str a,.str b=>sE op a b
 |x,y=>
  (match op with
  | .eql=>if oo P t c d x y then(kc P 10000 t x y).map .bool else Z
  | .neq=>if oo P t c d x y then(kc P 10000 t x y).map λb=> .bool (!b)else Z
  |_=>Z)
def fZ(op:UnOp)(x:ad):Option ad:=
 match op,x with
 | .neg,.int k n=>D (.int k (k.wrap (0-n)))
 | .not,.bool b=>D (.bool (!b))
 |_,_=>Z
end Go.cn
namespace Go
def Operand.tk:Operand->Bool
 | .const _=>X
 |_=>U
end Go
namespace Go.cn
section
variable {P:Program}{ρ:Env}
def xZ(w:World)(eq:TypeId->ad->ad->Option Bool)(jj:TypeId->Value->Value->Sem Bool)
  (heq:∀t a b x y c,eq t a b=D c->bj ρ a x->bj ρ b y->(jj t x y).run P w= .ok c w) {xs s:List ad} {q u:List Value} (j:bB ρ xs q) (k:bB ρ s u):
  ∀(d:List Field) (b:Bool),pD P eq d xs s=D b->
   (forIn d ((Z:Option Bool),()) (λf _=>
    (if f.name≠ "_" then do
     let a<-part f.type q.toArray f.offset
     let b<-part f.type u.toArray f.offset
     let c<-jj f.type a b
     if(!c)=X then pure (ForInStep.done (D U,()))else pure (ForInStep.yield (Z,()))
    else pure (ForInStep.yield (Z,())):Sem (ForInStep (Option Bool×Unit))))).run P w= .ok (if b then(Z,())else(D U,())) w
 |[],b,h=>by
  simp[pD]at h;subst h;simp[Sem.run_pure]
 |f::d,b,h=>by
  unfold pD at h;rw[List.forIn_cons];by_cases e:f.name≠ "_"
  ·rw[if_pos e]at h;split at h
   ·rename_i a cy v z;obtain⟨x,o,m⟩:=mJ v j w;obtain⟨y,p,n⟩:=mJ z k w;split at h
    ·rename_i he;have i:=heq _ _ _ _ _ _ he m n;have l:=xZ w eq jj heq j k d b h;simp only[if_pos e,Sem.run_bind,o,p,i,Result.andThen_ok,Bool.not_true,Bool.false_eq_true,if_false,Sem.run_pure];exact l
    ·rename_i he;have i:=heq _ _ _ _ _ _ he m n;simp at h;subst h;simp only[if_pos e,Sem.run_bind,o,p,i,Result.andThen_ok,Bool.not_false,if_true,Sem.run_pure];rfl
    ·cases h
   ·cases h
  ·rw[if_neg e]at h;have l:=xZ w eq jj heq j k d b h;simp only[if_neg e,Sem.run_bind,Sem.run_pure,Result.andThen_ok];exact l
def Fi(w:World)(e:TypeId)(n:Nat)(eq:TypeId->ad->ad->Option Bool)(jj:TypeId->Value->Value->Sem Bool)
  (heq:∀t a b x y c,eq t a b=D c->bj ρ a x->bj ρ b y->(jj t x y).run P w= .ok c w) {xs u:List ad} {s v:List Value} (m:bB ρ xs s) (p:bB ρ u v):
  ∀(k i:Nat) (b:Bool),q_ P eq e n k i xs u=D b->
   (forIn (List.range' i k) ((Z:Option Bool),()) (λi _=>
    (do
     let a<-part e s.toArray (i*n)
     let b<-part e v.toArray (i*n)
     let c<-jj e a b
     if(!c)=X then pure (ForInStep.done (D U,()))else pure (ForInStep.yield (Z,())):Sem (ForInStep (Option Bool×Unit))))).run P w= .ok (if b then(Z,())else(D U,())) w
 |0,i,b,h=>by
  simp[q_]at h;subst h;simp[Sem.run_pure]
 |k+1,i,b,h=>by
  unfold q_ at h;rw[List.range'_succ,List.forIn_cons];split at h
  ·rename_i a cy z A;obtain⟨x,o,j⟩:=mJ z m w;obtain⟨y,q,l⟩:=mJ A p w;split at h
   ·rename_i he;have d:=heq _ _ _ _ _ _ he j l;have B:=Fi w e n eq jj heq m p k (i+1) b h;simp only[Sem.run_bind,o,q,d,Result.andThen_ok,Bool.not_true,Bool.false_eq_true,if_false,Sem.run_pure];exact B
   ·rename_i he;have d:=heq _ _ _ _ _ _ he j l;simp at h;subst h;simp only[Sem.run_bind,o,q,d,Result.andThen_ok,Bool.not_false,if_true,Sem.run_pure];rfl
   ·cases h
  ·cases h
def x_(a b:List UInt8):((⟨a.toArray⟩:ByteArray)==⟨b.toArray⟩)=(a==b):=by
 have:((⟨a.toArray⟩:ByteArray)==⟨b.toArray⟩)=(a.toArray==b.toArray):=rfl;rw[this];simp
def rp(w:World):∀(d:Nat) (t:TypeId) (x y:ad) (j k:Value) (b:Bool),kc P d t x y=D b->bj ρ x j->bj ρ y k->
  (Op.equalIn d t j k).run P w= .ok b w
 |0,t,x,y,j,k,b,h,_,_=>by cases h
 |d+1,t,x,y,j,k,b,h,e,i=>by
  have n:=rp w d;unfold kc at h;unfold Op.equalIn;cases hu:P.underlying t with
  |none=>rw[hu]at h;cases h
  |some u=>
   rw[hu]at h;simp only[Sem.run_bind,run_underlying hu,Result.andThen_ok];split at h<;>(try (cases h;done))<;>(try simp only[aS]at*)<;>(try subst_vars)<;>(try (cases e;cases i;simp;done))
   ·cases e;cases i;split at h
    ·rename_i o;subst o;simp at h;subst h;simp
    ·cases h
   ·cases e;cases i;simp[x_]
   ·cases e with|agg _ z e=>cases i with|agg _ A i=>
    split at h
    ·cases h
    ·rename_i q;have s:P.stoodInHeld t=false:=by simpa using q
     have:=xZ w (kc P d) (Op.equalIn d) (λt a b x y c he l m=>n t a b x y c he l m) e i _ b h;simp only[Sem.run_bind,run_program,Result.andThen_ok,s,Bool.false_eq_true,if_false];rw[<-Array.forIn_toList,this];cases b<;>simp
   ·cases e with|agg _ z e=>cases i with|agg _ A i=>
    split at h
    ·rename_i v p;have:=Fi w _ v (kc P d) (Op.equalIn d) (λt a b x y c he l m=>n t a b x y c he l m) e i _ _ b h;simp only[Sem.run_bind,run_sizeOf p,Result.andThen_ok];rw[Std.Legacy.Range.forIn_eq_forIn_range'];simp only[Std.Legacy.Range.size,Nat.sub_zero,Nat.add_sub_cancel,Nat.div_one]at this ⊢;rw[this];cases b<;>simp
    ·cases h
def Kk{op:BinOp}{k:IntKind}{a b:Int}{v:ad}(h:hT op k a b=D v)(t:TypeId)(w:World):
  ∃r,(binOp op t (.int k a) (.int k b)).run P w= .ok r w/\bj ρ v r:=by
 unfold hT at h;cases op<;>simp only at h<;>(try (cases h;done))<;>(try (simp only[aS]at h;subst h))<;>
  (try (exact⟨_,by simp only[binOp,ne_eq,not_true_eq_false,if_false,Op.intArith,Op.intBits,Op.intCmp];exact Sem.run_pure ..,by first|exact .int _ _|exact .bool _⟩))
 ·split at h
  ·cases h
  ·rename_i c;simp only[aS]at h;subst h;exact⟨_,by simp only[binOp,ne_eq,not_true_eq_false,if_false,Op.intDiv,c];exact Sem.run_pure ..,.int _ _⟩
 ·split at h
  ·cases h
  ·rename_i c;simp only[aS]at h;subst h;exact⟨_,by simp only[binOp,ne_eq,not_true_eq_false,if_false,Op.intDiv,c];exact Sem.run_pure ..,.int _ _⟩
def CI{op:BinOp}{k d:IntKind}{a b:Int}{v:ad}(h:pV op k a b=D v)(t:TypeId)(w:World):
  ∃r,(binOp op t (.int k a) (.int d b)).run P w= .ok r w/\bj ρ v r:=by
 unfold pV at h;split at h
 ·cases h
 ·rename_i c;cases op<;>simp only at h<;>(try (cases h;done))<;>simp only[aS]at h<;>subst h
  ·exact⟨_,by simp only[binOp,Op.shift,if_neg c];exact Sem.run_pure ..,.int _ _⟩
  ·exact⟨_,by simp only[binOp,Op.shift,if_neg c];exact Sem.run_pure ..,.int _ _⟩
def toList_mk(a:List UInt8):(⟨a.toArray⟩:ByteArray).toList=a:=by rw[ByteArray.toList_eq]
def K0(a b:List UInt8):(⟨a.toArray⟩++⟨b.toArray⟩:ByteArray)=⟨(a++b).toArray⟩:=by
 apply ByteArray.ext;simp
def PC{op:BinOp}{a b:List UInt8}{v:ad}(h:sE op a b=D v)(t:TypeId)(w:World):
  ∃r,(binOp op t (.string ⟨a.toArray⟩) (.string ⟨b.toArray⟩)).run P w= .ok r w/\bj ρ v r:=by
 unfold sE at h;unfold binOp;cases op<;>simp only at h<;>(try (cases h;done))<;>(try (simp only[aS]at h;subst h))<;>
  (try (exact⟨_,by simp only[Op.stringOp,toList_mk];exact Sem.run_pure ..,.bool _⟩))
 split at h
 ·rename_i i;simp only[aS]at h;subst h;refine⟨.string ⟨(a++b).toArray⟩,?_,.str _⟩;simp only[Op.stringOp];rw[if_neg,K0]
  ·exact Sem.run_pure ..
  ·have e:IntKind.i64.max=9223372036854775807:=rfl;have c:(⟨a.toArray⟩:ByteArray).size=a.length:=by show a.toArray.size=_;simp
   have d:(⟨b.toArray⟩:ByteArray).size=b.length:=by show b.toArray.size=_;simp
   rw[e,c,d];omega
 ·cases h
def wg{op:BinOp}{t:TypeId}{a c:Operand}{x y:ad}{e i:Value}(h:oo P t a c x y=X)(k:bj ρ x e)(d:bj ρ y i)(w:World):
  (eqGuard op t a c e i).run P w= .ok () w:=by
 have j:a.tk||c.tk=X->(eqGuard op t a c .nilIface .nilIface).run P w= .ok () w:=by
  intro h;cases op<;>first
   |rfl
   |(cases a<;>cases c<;>first|rfl|(simp[Operand.tk]at h;done))
 cases k with
 |nilIface=>
  cases d with
  |nilIface=>
   refine j ?_;simp only[oo]at h;cases a<;>cases c<;>simp_all[isConst,Operand.tk]
  |_=>cases op<;>rfl
 |agg cs xs m=>
  cases d with
  |agg l o n=>
   simp only[oo,Bool.not_eq_true']at h;cases op<;>first|rfl|simp[eqGuard,h]
  |_=>cases op<;>rfl
 |_=>cases d<;>cases op<;>rfl
def binOp_eql{x y:ad}{c d:Value}(h:bj ρ x c)(i:bj ρ y d)(e:∀k a j b,x= .int k a->y= .int j b->False)(aB:∀a b,x= .str a->y= .str b->False)(t:TypeId):
  binOp .eql t c d=(do pure (.bool (<-Op.equal t c d)))/\binOp .neq t c d=(do pure (.bool (!(<-Op.equal t c d)))):=by
 cases h<;>cases i<;>first
  |exact⟨rfl,rfl⟩
  |exact(e _ _ _ _ rfl rfl).elim
  |exact(aB _ _ rfl rfl).elim
def HG{op:BinOp}{t:TypeId}{l m:Operand}{x y v:ad}{i j:Value}(h:q8 P op t l m x y=D v)(c:bj ρ x i)(d:bj ρ y j)(w:World):
  ∃r,((do eqGuard op t l m i j;binOp op t i j:Sem Value)).run P w= .ok r w/\bj ρ v r:=by
 have wH:∀k a e b,(eqGuard op t l m (.int k a) (.int e b)).run P w= .ok () w:=λk a e b=>wg (ρ:=ρ) (x:= .int k a) (y:= .int e b) rfl (.int _ _) (.int _ _) w
 have wI:∀a b,(eqGuard op t l m (.string ⟨a⟩) (.string ⟨b⟩)).run P w= .ok () w:=λa b=>by
  unfold eqGuard;split<;>rfl
 unfold q8 at h;split at h
 ·cases c;cases d;rename_i k a e b;simp only[Sem.run_bind,wH,Result.andThen_ok];split at h
  ·exact CI h t w
  ·exact CI h t w
  ·split at h
   ·rename_i z;subst z;exact Kk h t w
   ·cases h
 ·cases c;cases d;simp only[Sem.run_bind,wI,Result.andThen_ok];exact PC h t w
 ·rename_i A B;obtain⟨s,u⟩:=binOp_eql c d (λk a e b n o=>A _ _ _ _ n o) (λa b n o=>B _ _ n o) t;split at h
  ·split at h
   ·rename_i q;rw[Sem.run_bind,wg q c d w,Result.andThen_ok];simp only[Option.map_eq_some_iff]at h;obtain⟨b,p,rfl⟩:=h;have he:(Op.equal t i j).run P w= .ok b w:=rp (ρ:=ρ) w _ _ _ _ _ _ _ p c d;exact⟨.bool b,by rw[s,Sem.run_bind,he];rfl,.bool b⟩
   ·cases h
  ·split at h
   ·rename_i q;rw[Sem.run_bind,wg q c d w,Result.andThen_ok];simp only[Option.map_eq_some_iff]at h;obtain⟨b,p,rfl⟩:=h;have he:(Op.equal t i j).run P w= .ok b w:=rp (ρ:=ρ) w _ _ _ _ _ _ _ p c d;exact⟨.bool (!b),by rw[u,Sem.run_bind,he];rfl,.bool _⟩
   ·cases h
  ·cases h
def IH{op:UnOp}{x v:ad}{c:Value}(h:fZ op x=D v)(a:bj ρ x c)(w:World):∃r,(Op.unary op c).run P w= .ok r w/\bj ρ v r:=by
 unfold fZ at h;split at h
 ·cases a;simp only[aS]at h;subst h;exact⟨_,by simp only[Op.unary,Op.intArith];exact Sem.run_pure ..,.int _ _⟩
 ·cases a;simp only[aS]at h;subst h;exact⟨_,by simp only[Op.unary];exact Sem.run_pure ..,.bool _⟩
 ·cases h
end
section
variable {P:Program}{ρ:Env}{H:ae}{w:World}
def h2(c:Array Value)(o:Nat):List Value->Array Value
 |[]=>c
 |v::r=>h2 (c.setIfInBounds o v) (o+1) r
def sd:∀(a:List Value) (c:Array Value) (o:Nat),(h2 c o a).size=c.size
 |[],_,_=>rfl
 |v::r,c,o=>by rw[h2,sd r];simp
def qd:∀(a:List Value) (c:Array Value) (o k:Nat),k<o\/o+a.length<=k->(h2 c o a)[k]? =c[k]?
 |[],_,_,_,_=>rfl
 |v::r,c,o,k,h=>by
  rw[h2,qd r _ _ _ (by simp at h;omega)];rw[Array.getElem?_setIfInBounds];have:¬o=k:=by simp at h;omega
  simp[this]
def t_:∀(a:List Value) (c:Array Value) (o j:Nat) (x:Value),a[j]? =D x->o+j<c.size->(h2 c o a)[o+j]? =D x
 |[],_,_,_,_,h,_=>by simp at h
 |v::r,c,o,0,x,h,d=>by
  simp at h;subst h;rw[h2,qd r _ _ _ af,Array.getElem?_setIfInBounds];simp;omega
 |v::r,c,o,j+1,x,h,d=>by
  rw[h2,show o+(j+1)=o+1+j by omega];exact t_ r _ _ _ _ (by simpa using h) (by simp;omega)
def sy(b:Nat):∀(d:List Value) (o:Nat) (w:World) (c:Array Value) (t:TypeId) (a:Nat×Nat),w.heap[b]? =D (.cells c t a)->
  (w.setCells b o d).heap[b]? =D (.cells (h2 c o d) t a)
 |[],_,_,_,_,_,h=>h
 |v::r,o,w,c,t,a,h=>by
  rw[World.setCells,h2];refine sy b r (o+1) _ _ t a ?_;simp[World.setCell,Array.getElem?_modify,h]
def lB(b:Nat):∀(a:List Value) (o:Nat) (w:World) (k:Nat),k≠b->(w.setCells b o a).heap[k]? =w.heap[k]?
 |[],_,_,_,_=>rfl
 |v::r,o,w,k,h=>by
  rw[World.setCells,lB b r _ _ _ h];simp[World.setCell,Array.getElem?_modify,Ne.symm h]
def x3(b:Nat):∀(e:List Value) (o:Nat) (w:World),(w.setCells b o e).heap.size=w.heap.size/\(w.setCells b o e).os=w.os/\(w.setCells b o e).tape=w.tape/\(w.setCells b o e).output=w.output
 |[],_,_=>⟨rfl,rfl,rfl,rfl⟩
 |v::r,o,w=>by
  rw[World.setCells];obtain⟨a,b,c,d⟩:=x3 b r (o+1) (w.setCell ⟨b,o,Z⟩ v);exact⟨a.trans (by simp[World.setCell]),b,c,d⟩
def fy.cell{loc:Loc}{ro:Bool}{esz:Nat}{els:List (List ad)}(h:fy ρ w loc ro esz els){i:Nat}{e:List ad}(he:els[i]? =D e){j:Nat}{v:ad}(m:e[j]? =D v):
  ∃x,w.cell? ⟨loc.block,loc.off+i*loc.esz+j,Z⟩=D x/\bj ρ v x/\v.one=true:=by
 obtain⟨rfl,c,t,n,l,_,a⟩:=h;obtain⟨_,d⟩:=a i e he;obtain⟨k,x,d,a⟩:=d j v m;exact⟨x,by simp[World.cell?,l,d],a,k⟩
def aq(P:Program)(H:ae)(t:TypeId)(a:ad):Option ad:=
 match a with
 | .ptr l i c=>
  (match H.get l with
  |some (.row _ esz els)=>
   (match els[i]?,dZ P t with
   |some e,D U=>e[c]?
   |some e,D X=>(match cA P t with|some n=>if c+n<=esz then D (.agg ((e.drop c).take n))else Z|none=>Z)
   |_,_=>Z)
  |some (.b0 _ esz els)=>
   (match els[i]?,dZ P t with
   |some e,D U=>e[c]?
   |some e,D X=>(match cA P t with|some n=>if c+n<=esz then D (.agg ((e.drop c).take n))else Z|none=>Z)
   |_,_=>Z)
  |_=>Z)
 |_=>Z
def kR(b o j:Nat):(⟨b,o,Z⟩:Addr).add j=⟨b,o+j,Z⟩:=by
 unfold Addr.add;split<;>simp_all
def y4{loc:Loc}{l i c:Nat}{ro:Bool}{esz:Nat}{els:List (List ad)}(K:ρ l=D loc)(s:fy ρ w loc ro esz els){t:TypeId}{v:ad}
 (h:(match els[i]?,dZ P t with
  |some e,D U=>e[c]?
  |some e,D X=>(match cA P t with|some n=>if c+n<=esz then D (.agg ((e.drop c).take n))else Z|none=>Z)
  |_,_=>Z)=D v):
 ∃r,(Instr.loadAt t (.pointer (D ⟨loc.block,loc.off+i*loc.esz+c,Z⟩))).run P w= .ok r w/\bj ρ v r:=by
  split at h
  ·rename_i e he k;obtain⟨x,q,u,_⟩:=s.cell he h;refine⟨x,?_,u⟩;simp[Instr.loadAt,Instr.sureAddr,loadVar,uj k,run_load,q]
  ·rename_i e he k;split at h
   ·rename_i n z;split at h
    ·rename_i hle;simp only[aS]at h;subst h;have hlen:e.length=esz:=by obtain⟨_,c',L,G,_,_,E⟩:=s;exact(E i e he).1
     have hex:∃xs:List Value,xs.length=n/\bB ρ ((e.drop c).take n) xs/\∀j y,xs[j]? =D y->w.cell? ⟨loc.block,loc.off+i*loc.esz+c+j,Z⟩=D y:=by
      clear k z
      induction n with
      |zero=>exact⟨[],rfl,by simpa using bB.nil,λj y a=>by simp at a⟩
      |succ n F=>
       obtain⟨xs,d,o,p⟩:=F af;have A:c+n<e.length:=af;obtain⟨x,q,u,_⟩:=s.cell he (j:=c+n) (v:=e[c+n]) (by simp[A]);refine⟨xs++[x],by simp[d],?_,?_⟩
       ·rw[List.take_succ_eq_append_getElem (by simp;omega)];refine o.append (.cons _ _ _ _ ?_ .nil);simpa using u
       ·intro j y a;by_cases B:j<xs.length
        ·rw[List.getElem?_append_left B]at a;exact p j y a
        ·rw[List.getElem?_append_right af]at a;have:j=n:=by
          by_cases H:j-xs.length=0
          ·omega
          ·obtain⟨m,hm⟩:∃m,j-xs.length=m+1:=⟨j-xs.length-1,af⟩;rw[hm]at a;simp at a
         subst this;simp[d]at a;subst a;rw[<-q,Nat.add_assoc]
     obtain⟨xs,d,o,p⟩:=hex;refine⟨.agg xs.toArray,?_,.agg _ _ o⟩;have:=run_loadCells_list (P:=P) w ⟨loc.block,loc.off+i*loc.esz+c,Z⟩ xs (λj y a=>by rw[kR];exact p j y a);rw[d]at this;simp[Instr.loadAt,Instr.sureAddr,loadVar,uj k,run_sizeOf z,this]
    ·cases h
   ·cases h
  ·cases h
def vL(n:Rel ρ H w){t:TypeId}{a v:ad}{x:Value}(h:aq P H t a=D v)(o:bj ρ a x):
  ∃r,(Instr.loadAt t x).run P w= .ok r w/\bj ρ v r:=by
 unfold aq at h;split at h
 ·rename_i l i c;cases o with|ptr _ _ _ loc d=>
  split at h
  ·rename_i ro esz els e;obtain⟨m,j,k⟩:=n.row _ _ _ _ e;obtain rfl:loc=m:=Option.some.inj (d.symm.trans j);exact y4 d k h
  ·rename_i p esz els e;obtain⟨m,j,k,-⟩:=n.b0 _ _ _ _ e;obtain rfl:loc=m:=Option.some.inj (d.symm.trans j);exact y4 d k h
  ·cases h
 ·cases h
def dK(ot:Option TypeId)(esz:Nat)(els:List (List ad)):bW:=match ot with
 |none=> .row U esz els
 |some t=> .b0 t esz els
def xg(ot:Option TypeId)(esz:Nat)(els:List (List ad)):(dK ot esz els).rG=false:=by cases ot<;>rfl
def xh{ot:Option TypeId}{esz c:Nat}{els a:List (List ad)}{ro:Bool}(h:dK ot esz els= .row ro c a):ro=U/\esz=c/\els=a/\ot=none:=by
 cases ot<;>cases h;exact⟨rfl,rfl,rfl,rfl⟩
def xi{ot:Option TypeId}{esz c:Nat}{els a:List (List ad)}{t:TypeId}(h:dK ot esz els= .b0 t c a):ot=D t/\esz=c/\els=a:=by
 cases ot<;>cases h;exact⟨rfl,rfl,rfl⟩
def xf{ot:Option TypeId}{esz:Nat}{els:List (List ad)}{es:List (ad×ad)}(h:dK ot esz els= .map es):False:=by cases ot<;>cases h
def oC{H:ae}{l:Nat}{ot:Option TypeId}{esz:Nat}{els:List (List ad)}(h:H.get l=D (dK ot esz els)):H.rw l:=by
 cases ot with
 |none=>exact .inl ⟨_,_,h⟩
 |some t=>exact .inr (.inr ⟨_,_,_,h⟩)
def tI(d:Rel ρ H w){l:Nat}{ot:Option TypeId}{esz:Nat}{els:List (List ad)}(h:H.get l=D (dK ot esz els)):∃loc,ρ l=D loc/\fy ρ w loc U esz els/\∀t,ot=D t->∃c e,w.heap[loc.block]? =D (.cells c t e)/\loc.off=0:=by
 cases ot with
 |none=>obtain⟨loc,a,b⟩:=d.row _ _ _ _ h;exact⟨loc,a,b,λt h=>by cases h⟩
 |some t=>obtain⟨loc,a,b,c⟩:=d.b0 _ _ _ _ h;exact⟨loc,a,b,λt h=>by cases h;exact c⟩
def cQ(e:List ad)(c:Nat)(cs:List ad):List ad:=e.take c++cs++e.drop (c+cs.length)
def FL{e:List ad}{c:Nat}{cs:List ad}(h:c+cs.length<=e.length):(cQ e c cs).length=e.length:=by
 simp[cQ];omega
def FK{e:List ad}{c:Nat}{cs:List ad}(h:c+cs.length<=e.length){j:Nat}(a:c<=j)(d:j<c+cs.length):(cQ e c cs)[j]? =cs[j-c]? :=by
 unfold cQ;rw[List.append_assoc,List.getElem?_append_right (by simp;omega),List.getElem?_append_left (by simp;omega)]
 congr 1;simp;omega
def FM{e:List ad}{c:Nat}{cs:List ad}(h:c+cs.length<=e.length){j:Nat}(a:j<c\/c+cs.length<=j):(cQ e c cs)[j]? =e[j]? :=by
 unfold cQ;rcases a with a|a
 ·rw[List.append_assoc,List.getElem?_append_left (by simp;omega),List.getElem?_take_of_lt a]
 ·rw[List.getElem?_append_right (by simp;omega),List.getElem?_drop]
  congr 1;simp;omega
def rR{a b n:Nat}(h:a<b):a*n+n<=b*n:=by
 have:=Nat.mul_le_mul_right n (Nat.succ_le_of_lt h);rw[Nat.succ_mul]at this;exact this
def yy(p:Rel ρ H w){ot:Option TypeId}{l esz:Nat}{els:List (List ad)}(s:H.get l=D (dK ot esz els)){loc:Loc}(z:ρ l=D loc){i:Nat}{e:List ad}(he:els[i]? =D e)
  {c:Nat} {cs:List ad} {xs:List Value} (aW:c+cs.length<=esz) (u:∀v∈cs,v.one=X) (ak:bB ρ cs xs):
  Step ρ H w ρ (H.set l (dK ot esz (els.set i (cQ e c cs)))) (w.setCells loc.block (loc.off+i*loc.esz+c) xs):=by
 have Q:=ae.aV s;obtain⟨d,k,⟨y,arr,t,G,L,aC,M⟩,aJ⟩:=tI p s;obtain rfl:loc=d:=Option.some.inj (z.symm.trans k);have aB:=(M i e he).1;have aE:i<els.length:=by
  rcases Nat.lt_or_ge i els.length with h|h
  ·exact h
  ·rw[List.getElem?_eq_none h]at he;cases he
 have am:=ak.length;have R:∀l' d,H.live l'->l'≠l->ρ l'=D d->d.block≠loc.block:=λl' d h a1 k heq=>
  p.apart l l' loc d (oC s) h (Ne.symm a1) z k heq.symm
 have aj:∀l',(H.set l (dK ot esz (els.set i (cQ e c cs)))).rw l'->H.rw l':=by
  intro l' h;by_cases a:l=l'
  ·subst a;exact oC s
  ·simpa [ae.rw,ae.get_set_other a]using h
 have aH:∀l',(H.set l (dK ot esz (els.set i (cQ e c cs)))).live l'->H.live l':=by
  intro l' h;by_cases a:l=l'
  ·subst a;exact(oC s).live
  ·simpa [ae.live,ae.get_set_other a]using h
 obtain⟨s1,s2,e1,aT⟩:=x3 loc.block xs (loc.off+i*loc.esz+c) w;have ai:fy ρ (w.setCells loc.block (loc.off+i*loc.esz+c) xs) loc U esz (els.set i (cQ e c cs))/\∃N G,(w.setCells loc.block (loc.off+i*loc.esz+c) xs).heap[loc.block]? =D (.cells N t G):= ?new;refine⟨ρ.le_refl,bm _,λ_ _=>rfl,⟨?_,?_,?_,?_⟩,s2,e1,aT,Nat.le_of_eq s1.symm,?_,?_,ae.E6 (xg _ _ _)⟩
 case new=>
  refine⟨⟨y,_,t,G,sy _ _ _ _ _ _ _ L,?_,?_⟩,_,G,sy _ _ _ _ _ _ _ L⟩
  ·rw[sd];exact aC
  ·intro an aa q;rw[List.getElem?_set]at q;by_cases P:i=an
   ·subst P;rw[if_pos rfl,if_pos aE]at q;simp only[aS]at q;subst q;have T:c+cs.length<=e.length:=af;refine⟨by rw[FL T];exact aB,?_⟩;intro j v m;by_cases ah:c<=j/\j<c+cs.length
    ·rw[FK T ah.1 ah.2]at m;obtain⟨x,B,A⟩:=ak.get _ _ m;refine⟨u v (List.mem_of_getElem? m),x,?_,A⟩;have aA:=(M i e he).2 j (e[j]'af) (by simp);obtain⟨_,ag,al,_⟩:=aA;have aY:loc.off+i*esz+j<arr.size:=by
      rcases Nat.lt_or_ge (loc.off+i*esz+j) arr.size with h|h
      ·exact h
      ·rw[Array.getElem?_eq_none h]at al;cases al
     have:=t_ xs arr (loc.off+i*loc.esz+c) (j-c) x B (by rw[y];omega);rw[show loc.off+i*esz+j=loc.off+i*loc.esz+c+(j-c) by rw[y];omega];exact this
    ·rw[FM T af]at m;obtain⟨aQ,x,B,A⟩:=(M i e he).2 j v m;refine⟨aQ,x,?_,A⟩;rw[qd _ _ _ _ (by rw[y,<-am];omega)];exact B
   ·rw[if_neg P]at q;obtain⟨a0,aQ⟩:=M an aa q;refine⟨a0,λj v m=> ?_⟩;obtain⟨ap,x,B,A⟩:=aQ j v m;refine⟨ap,x,?_,A⟩;have aX:j<esz:=by
     rcases Nat.lt_or_ge j aa.length with h|h
     ·omega
     ·rw[List.getElem?_eq_none h]at m;cases m
    rw[qd _ _ _ _ ?_]
    ·exact B
    ·rw[y,<-am];rcases Nat.lt_or_gt_of_ne P with h|h
     ·have:=rR (n:=esz) h;omega
     ·have:=rR (n:=esz) h;omega
 ·intro l' aZ av au h;by_cases a:l=l'
  ·subst a;rw[ae.get_set_same Q]at h;obtain⟨rfl,rfl,rfl,-⟩:=xh (Option.some.inj h);exact⟨loc,z,ai.1⟩
  ·rw[ae.get_set_other a]at h;obtain⟨d,k,S⟩:=p.row _ _ _ _ h;refine⟨d,k,?_⟩;have o:=R l' d (.inl ⟨_,_,_,h⟩) (Ne.symm a) k;obtain⟨V,c',ao,K,E,F,W⟩:=S;exact⟨V,c',ao,K,by rw[lB _ _ _ _ _ o];exact E,F,W⟩
 ·intro l' es h;by_cases a:l=l'
  ·subst a;rw[ae.get_set_same Q]at h;exact(xf (Option.some.inj h)).elim
  ·rw[ae.get_set_other a]at h;obtain⟨d,k,S⟩:=p.map _ _ h;have o:=R l' d (.inr (.inl ⟨_,h⟩)) (Ne.symm a) k;obtain⟨ents,clock,E,F⟩:=S;exact⟨d,k,ents,clock,by rw[lB _ _ _ _ _ o];exact E,F⟩
 ·intro l' ao av au h;by_cases a:l=l'
  ·subst a;rw[ae.get_set_same Q]at h;obtain⟨ar,rfl,rfl⟩:=xi (Option.some.inj h);obtain⟨c',K,ab,ax⟩:=aJ _ ar;rw[L]at ab;cases ab;obtain⟨aO,N,f1,n2⟩:=ai;exact⟨loc,z,aO,N,f1,n2,ax⟩
  ·rw[ae.get_set_other a]at h;obtain⟨d,k,⟨V,c',aU,K,E,F,W⟩,aq,aw,aP,aR⟩:=p.b0 _ _ _ _ h;have o:=R l' d (.inr (.inr ⟨_,_,_,h⟩)) (Ne.symm a) k;exact⟨d,k,⟨V,c',aU,K,by rw[lB _ _ _ _ _ o];exact E,F,W⟩,aq,aw,by rw[lB _ _ _ _ _ o];exact aP,aR⟩
 ·intro aK aL aM aN u O o aF aG;exact p.apart aK aL aM aN (aj _ u) (aH _ O) o aF aG
 ·intro b L aI;refine lB _ _ _ _ _ ?_;rintro rfl;exact aI ⟨l,loc,oC s,z,rfl⟩
 ·rintro b ⟨l',d,u,O,ay⟩;exact .inl ⟨l',d,aj _ u,O,ay⟩
def aY(P:Program)(H:ae)(t:TypeId)(a v:ad):Option ae:=
 match a with
 | .ptr l i c=>
  (match H.get l with
  |some (.row U esz els)=>
   (match els[i]? with
   |some e=>if cA P t=D v.cells.length/\c+v.cells.length<=esz/\v.cells.all ad.one=X then D (H.set l (.row U esz (els.set i (cQ e c v.cells))))else Z
   |none=>Z)
  |some (.b0 d esz els)=>
   (match els[i]? with
   |some e=>if cA P t=D v.cells.length/\c+v.cells.length<=esz/\v.cells.all ad.one=X then D (H.set l (.b0 d esz (els.set i (cQ e c v.cells))))else Z
   |none=>Z)
  |_=>Z)
 |_=>Z
def zg(k:Rel ρ H w){ot:Option TypeId}{l i c esz:Nat}{els:List (List ad)}(n:H.get l=D (dK ot esz els)){loc:Loc}(p:ρ l=D loc){e:List ad}(he:els[i]? =D e){t:TypeId}{v:ad}{y:Value}(R:bj ρ v y)
  (aB:cA P t=D v.cells.length) (B:c+v.cells.length<=esz) (L:v.cells.all ad.one=X):
  ∃A,(Instr.storeAt t (.pointer (D ⟨loc.block,loc.off+i*loc.esz+c,Z⟩)) y).run P w= .ok () A/\Step ρ H w ρ (H.set l (dK ot esz (els.set i (cQ e c v.cells)))) A:=by
 have q:∀u∈v.cells,u.one=true:=by simpa using L
 have d:=R.cells;refine⟨_,?_,yy k n p he B q d⟩;obtain⟨S,G,x,-⟩:=tI k n;obtain rfl:loc=S:=Option.some.inj (p.symm.trans G);have hlen:=d.length;have aa:=x;obtain⟨E,arr,ab,V,m,F,s⟩:=x;have W:=(s i e he).1;have z:∀j,j<y.cells.toList.length->∃u,arr[loc.off+i*loc.esz+c+j]? =D u:=by
  intro j a;obtain⟨_,u,hu,_⟩:=(s i e he).2 (c+j) (e[c+j]'af) (by simp);exact⟨u,by rw[E,Nat.add_assoc];exact hu⟩
 have M:=run_storeCells_cells (P:=P) loc.block (loc.off+i*loc.esz+c) y.cells.toList 0 w
  (λj a=>by obtain⟨u,hu⟩:=z j a;simp[World.cell?,m,hu])
  (λj a=>by
   obtain⟨u,hu⟩:=z j a;have K:loc.off+i*loc.esz+c+j<arr.size:=by
    rcases Nat.lt_or_ge (loc.off+i*loc.esz+c+j) arr.size with h|h
    ·exact h
    ·rw[Array.getElem?_eq_none h]at hu;cases hu
   have:=F.2 rfl _ K;simp only[World.frozen?,m,Nat.add_zero];simpa using this)
  (λu hu=>by
   obtain⟨j,a⟩:=List.getElem?_of_mem hu;have o:j<v.cells.length:=by
    rcases Nat.lt_or_ge j y.cells.toList.length with h|h
    ·omega
    ·rw[List.getElem?_eq_none h]at a;cases a
   obtain⟨T,O,Q⟩:=d.get j _ (List.getElem?_eq_getElem o);obtain rfl:u=T:=Option.some.inj (a.symm.trans O);exact Q.xo (q _ (List.getElem_mem o)))
 have N:y.cells.size=v.cells.length:=by rw[hlen];simp
 simp only[Instr.storeAt,Instr.sureAddr,Sem.run_bind,Sem.run_pure,Result.andThen_ok,storeVar,run_sizeOf aB,N,ne_eq,not_true_eq_false,if_false];simpa using M
def IG(n:Rel ρ H w){t:TypeId}{a v:ad}{x y:Value}{H':ae}(h:aY P H t a v=D H')(s:bj ρ a x)(p:bj ρ v y):
  ∃q,(Instr.storeAt t x y).run P w= .ok () q/\Step ρ H w ρ H' q:=by
 unfold aY at h;split at h
 ·rename_i l i c;cases s with|ptr _ _ _ loc o=>
  split at h
  ·rename_i esz els k;split at h
   ·rename_i e he;split at h
    ·rename_i j;obtain⟨aB,d,m⟩:=j;simp only[aS]at h;subst h;exact zg n (ot:=none) k o he p aB d m
    ·cases h
   ·cases h
  ·rename_i u esz els k;split at h
   ·rename_i e he;split at h
    ·rename_i j;obtain⟨aB,d,m⟩:=j;simp only[aS]at h;subst h;exact zg n (ot:=some u) k o he p aB d m
    ·cases h
   ·cases h
  ·cases h
 ·cases h
end
def Env.ey(ρ:Env)(l:Nat)(loc:Loc):Env:=λk=>if k=l then D loc else ρ k
def Env.ht(ρ:Env)(l:Nat)(loc:Loc):ρ.ey l loc l=D loc:=by simp[Env.ey]
def Env.hP{ρ:Env}{l k:Nat}{loc:Loc}(h:k≠l):ρ.ey l loc k=ρ k:=by simp[Env.ey,h]
def Env.rH{ρ:Env}{l:Nat}(h:ρ l=Z)(loc:Loc):ρ.le (ρ.ey l loc):=by
 intro k x a;by_cases e:k=l
 ·subst e;rw[h]at a;cases a
 ·rw[Env.hP e];exact a
section
variable {P:Program}{ρ:Env}{H:ae}{w:World}
def heap_alloc_old(w:World)(o:Obj){k:Nat}(h:k<w.heap.size):(w.alloc o).heap[k]? =w.heap[k]? :=by
 show(w.heap.push o)[k]? =_;rw[Array.getElem?_push,if_neg af]
def heap_alloc_new(w:World)(o:Obj):(w.alloc o).heap[w.heap.size]? =D o:=by
 show(w.heap.push o)[w.heap.size]? =_;simp
def J8(w:World)(o:Obj):(w.alloc o).heap.size=w.heap.size+1:=by
 show(w.heap.push o).size=_;simp
def jJ{w:World}{k:Nat}{o:Obj}(h:w.heap[k]? =D o):k<w.heap.size:=by
 rcases Nat.lt_or_ge k w.heap.size with a1|a1
 ·exact a1
 ·rw[Array.getElem?_eq_none a1]at h;cases h
def wu{esz:Nat}:∀{els:List (List ad)},(∀e∈els,e.length=esz)->∀{i:Nat} {e:List ad},els[i]? =D e->∀{j:Nat} {v:ad},e[j]? =D v->els.flatten[i*esz+j]? =D v
 |[],_,_,_,h,_,_,_=>by simp at h
 |d::els,c,0,e,h,j,v,a=>by
  simp at h;subst h;have k:j<d.length:=by
   rcases Nat.lt_or_ge j d.length with h|h
   ·exact h
   ·rw[List.getElem?_eq_none h]at a;cases a
  simp only[List.flatten_cons,Nat.zero_mul,Nat.zero_add];rw[List.getElem?_append_left k];exact a
 |d::els,c,i+1,e,h,j,v,a=>by
  have l:d.length=esz:=c d (by simp);have:=wu (els:=els) (λe he=>c e (List.mem_cons_of_mem _ he)) (i:=i) (by simpa using h) a;simp only[List.flatten_cons];rw[List.getElem?_append_right (by rw[Nat.succ_mul];omega)];rw[<-this];congr 1;rw[Nat.succ_mul];omega
def Fp{H:ae}{b:bW}{l:Nat}(h:(H.push b).rw l):l=H.next\/H.rw l:=by
 by_cases e:l=H.next
 ·exact .inl e
 ·exact .inr (by simpa [ae.rw,ae.dC e]using h)
def Dh{H:ae}{b:bW}{l:Nat}(h:(H.push b).live l):l=H.next\/H.live l:=by
 by_cases e:l=H.next
 ·exact .inl e
 ·exact .inr (by simpa [ae.live,ae.dC e]using h)
def Rel.IZ(i:Rel ρ H w){l:Nat}(h:H.live l){loc:Loc}(j:ρ l=D loc):loc.block<w.heap.size:=by
 rcases h with⟨ro,esz,els,h⟩|⟨es,h⟩|⟨t,esz,els,h⟩
 ·obtain⟨e,d,_,c,t,k,a,_⟩:=i.row _ _ _ _ h;obtain rfl:loc=e:=Option.some.inj (j.symm.trans d);exact jJ a
 ·obtain⟨e,d,ents,clock,a,_⟩:=i.map _ _ h;obtain rfl:loc=e:=Option.some.inj (j.symm.trans d);exact jJ a
 ·obtain⟨e,d,_,c,k,a,_⟩:=i.b0 _ _ _ _ h;obtain rfl:loc=e:=Option.some.inj (j.symm.trans d);exact jJ a
def tA{H:ae}{l:Nat}(h:H.live l):l<H.next:=by
 rcases h with⟨_,_,_,h⟩|⟨_,h⟩|⟨_,_,_,h⟩<;>exact ae.aV h
def fy.frame{e:Env}{a:World}{loc:Loc}{ro:Bool}{esz:Nat}{els:List (List ad)}(h:fy ρ w loc ro esz els)(hle:ρ.le e)(o:a.heap[loc.block]? =w.heap[loc.block]?):fy e a loc ro esz els:=by
 obtain⟨s,c,t,k,p,u,y⟩:=h;refine⟨s,c,t,k,by rw[o];exact p,u,?_⟩;intro i d q;obtain⟨l,m⟩:=y i d q;refine⟨l,λj v z=> ?_⟩;obtain⟨n,x,B,A⟩:=m j v z;exact⟨n,x,B,A.mono hle⟩
def fy.lt{loc:Loc}{ro:Bool}{esz:Nat}{els:List (List ad)}(h:fy ρ w loc ro esz els):loc.block<w.heap.size:=by
 obtain⟨_,c,t,a,p,_⟩:=h;exact jJ p
def mD.frame{e:Env}{d:World}{loc:Loc}{t:TypeId}{esz:Nat}{els:List (List ad)}(h:mD ρ w loc t esz els)(hle:ρ.le e)(a:d.heap[loc.block]? =w.heap[loc.block]?):mD e d loc t esz els:=by
 obtain⟨j,c,i,k,l⟩:=h;exact⟨j.frame hle a,c,i,by rw[a];exact k,l⟩
def EA(m:Rel ρ H w)(y:ρ H.next=Z)(b:bW)(E:b.rG=U)(o:Obj)(loc:Loc)(M:loc.block=w.heap.size)
  (F:∀ro esz els,b= .row ro esz els->fy (ρ.ey H.next loc) (w.alloc o) loc ro esz els) (B:∀es,b= .map es->vp (ρ.ey H.next loc) (w.alloc o) loc es) (G:∀t esz els,b= .b0 t esz els->mD (ρ.ey H.next loc) (w.alloc o) loc t esz els):
  Step ρ H w (ρ.ey H.next loc) (H.push b) (w.alloc o):=by
 have hle:=Env.rH y loc;have v:∀l d,H.live l->ρ.ey H.next loc l=D d->d.block<w.heap.size:=λl d h a1=>by
  have q:l≠H.next:=by
   rintro rfl;have:=tA h;omega
  rw[Env.hP q]at a1;exact m.IZ h a1
 refine⟨hle,by simp,λl A=>Env.hP (by simp at A;omega),⟨?_,?_,?_,?_⟩,rfl,rfl,rfl,by rw[J8];omega,λk z _=>heap_alloc_old w o z,?_,ae.E5 E⟩
 ·intro l ro esz els h;by_cases e:l=H.next
  ·subst e;rw[ae.bM]at h;exact⟨loc,Env.ht _ _ _,F _ _ _ (Option.some.inj h)⟩
  ·rw[ae.dC e]at h;obtain⟨d,n,p⟩:=m.row _ _ _ _ h;exact⟨d,by rw[Env.hP e];exact n,p.frame hle (heap_alloc_old w o p.lt)⟩
 ·intro l es h;by_cases e:l=H.next
  ·subst e;rw[ae.bM]at h;exact⟨loc,Env.ht _ _ _,B _ (Option.some.inj h)⟩
  ·rw[ae.dC e]at h;obtain⟨d,n,ents,clock,u,c,a⟩:=m.map _ _ h;exact⟨d,by rw[Env.hP e];exact n,ents,clock,by rw[heap_alloc_old w o (jJ u)];exact u,c.mono hle,a.mono hle⟩
 ·intro l t esz els h;by_cases e:l=H.next
  ·subst e;rw[ae.bM]at h;exact⟨loc,Env.ht _ _ _,G _ _ _ (Option.some.inj h)⟩
  ·rw[ae.dC e]at h;obtain⟨d,n,p⟩:=m.b0 _ _ _ _ h;exact⟨d,by rw[Env.hP e];exact n,p.frame hle (heap_alloc_old w o p.1.lt)⟩
 ·intro l l' K L c a q i j;rcases Fp c with rfl|c
  ·rcases Dh a with rfl|a
   ·exact absurd rfl q
   ·rw[Env.ht]at i;obtain rfl:=Option.some.inj i;have:=v _ _ a j;omega
  ·rcases Dh a with rfl|a
   ·rw[Env.ht]at j;obtain rfl:=Option.some.inj j;have:=v _ _ c.live i;omega
   ·have s:l≠H.next:=by
     rintro rfl;have:=tA c.live;omega
    have n2:l'≠H.next:=by
     rintro rfl;have:=tA a;omega
    rw[Env.hP s]at i;rw[Env.hP n2]at j;exact m.apart l l' K L c a q i j
 ·rintro k ⟨l,d,c,a,x⟩;rcases Fp c with rfl|c
  ·rw[Env.ht]at a;obtain rfl:=Option.some.inj a;exact .inr af
  ·have s:l≠H.next:=by
    rintro rfl;have:=tA c.live;omega
   rw[Env.hP s]at a;exact .inl ⟨l,d,c,a,x⟩
def sc(p:Rel ρ H w)(d:ρ H.next=Z){ot:Option TypeId}{esz:Nat}{els:List (List ad)}(hlen:∀e∈els,e.length=esz)(s:∀e∈els,∀v∈e,v.one=X)
  {xs tail:List Value} (y:bB ρ els.flatten xs) (t:TypeId) (u:∀a,ot=D a->a=t):
  Step ρ H w (ρ.ey H.next ⟨w.heap.size,0,esz,xs.length+tail.length⟩) (H.push (dK ot esz els)) (w.alloc (.cells (xs++tail).toArray t)):=by
 have key:mD (ρ.ey H.next ⟨w.heap.size,0,esz,xs.length+tail.length⟩) (w.alloc (.cells (xs++tail).toArray t)) ⟨w.heap.size,0,esz,xs.length+tail.length⟩ t esz els:=by
  refine⟨⟨rfl,_,t,(0,0),heap_alloc_new _ _,⟨by simp,λ_ o _=>by simp⟩,?_⟩,_,_,heap_alloc_new _ _,rfl⟩;intro i e he;refine⟨hlen e (List.mem_of_getElem? he),λj v k=> ?_⟩;refine⟨s e (List.mem_of_getElem? he) v (List.mem_of_getElem? k),?_⟩;obtain⟨x,c,z⟩:=y.get _ _ (wu hlen he k);refine⟨x,?_,z.mono (Env.rH d _)⟩;have q:i*esz+j<xs.length:=by
   rcases Nat.lt_or_ge (i*esz+j) xs.length with h|h
   ·exact h
   ·rw[List.getElem?_eq_none h]at c;cases c
  simp only[Nat.zero_add,List.getElem?_toArray];rw[List.getElem?_append_left q];exact c
 refine EA p d _ (xg _ _ _) _ _ rfl ?_ (λes h=>(xf h).elim) ?_
 ·intro ro m l h;obtain⟨rfl,rfl,rfl,-⟩:=xh h;exact key.1
 ·intro a m l h;obtain⟨n,rfl,rfl⟩:=xi h;obtain rfl:=u a n;exact key
def tM:Value->Option ad
 | .bool b=>D (.bool b)
 | .int k n=>D (.int k n)
 | .string s=>D (.str s.data.toList)
 | .pointer Z=>D .nilPtr
 | .slice Z 0 0=>D .az
 | .map Z=>D .hY
 | .nilFunc=>D .nilFunc
 | .nilIface=>D .nilIface
 |_=>Z
def rV:List Value->Option (List ad)
 |[]=>D []
 |v::r=>match tM v,rV r with
  |some a,D l=>D (a::l)
  |_,_=>Z
def rY:Value->Option ad
 | .agg cs=>(rV cs.toList).map .agg
 |v=>tM v
def D5{v:Value}{a:ad}(h:tM v=D a)(ρ:Env):bj ρ a v/\a.one=true:=by
 unfold tM at h;split at h<;>first
  |(simp only[aS]at h;subst h;exact⟨by constructor,rfl⟩)
  |cases h
def D6:∀{c:List Value} {as:List ad},rV c=D as->∀ρ:Env,bB ρ as c/\∀a∈as,a.one=X
 |[],as,h,ρ=>by simp[rV]at h;subst h;exact⟨.nil,by simp⟩
 |v::r,as,h,ρ=>by
  unfold rV at h;split at h
  ·rename_i a l k m;simp only[aS]at h;subst h;obtain⟨d,e⟩:=D5 k ρ;obtain⟨i,j⟩:=D6 m ρ;exact⟨.cons _ _ _ _ d i,by simpa using⟨e,j⟩⟩
  ·cases h
def tO{v:Value}{a:ad}(h:rY v=D a)(ρ:Env):bj ρ a v:=by
 unfold rY at h;split at h
 ·simp only[Option.map_eq_some_iff]at h;obtain⟨l,c,rfl⟩:=h;have:=bj.agg _ _ (D6 c ρ).1;simpa using this
 ·exact(D5 h ρ).1
def eU(P:Program)(t:TypeId):Option ad:=(P.info? t).bind λi=>i.zero.bind rY
def mK{t:TypeId}{z:ad}(h:eU P t=D z)(w:World):∃x,(zeroValue t).run P w= .ok x w/\∀ρ:Env,bj ρ z x:=by
 unfold eU at h;simp only[c1]at h;obtain⟨i,a,x,c,d⟩:=h;exact⟨x,by simp[zeroValue,typeInfo,a,c],λρ=>tO d ρ⟩
def p8(P:Program)(t:TypeId):Option TypeId:=match P.underlying t with
 |some (.struct a)=>(match a.toList with
  |[f]=>(match P.underlying f.type with
   |some (.struct gs)=>if gs.size=2 then D t else Z
   |_=>Z)
  |_=>Z)
 |_=>Z
def D0{P:Program}{t a:TypeId}(h:p8 P t=D a):a=t:=by
 unfold p8 at h;split at h
 ·split at h
  ·split at h
   ·split at h
    ·exact(Option.some.inj h).symm
    ·cases h
   ·cases h
  ·cases h
 ·cases h
def pC(ot:Option TypeId)(H:ae)(v:ad):Option (ad×ae):=
 if v.cells.all ad.one=X then D (.ptr H.next 0 0,H.push (dK ot v.cells.length [v.cells]))else Z
def yW(i:Rel ρ H w)(k:ρ H.next=Z){ot:Option TypeId}{v a:ad}{x:Value}{H':ae}(h:pC ot H v=D (a,H'))(n:bj ρ v x)(t:TypeId)(m:∀c,ot=D c->c=t):
  ∃r d e,(Instr.box t x).run P w= .ok r d/\bj e a r/\Step ρ H w e H' d:=by
 unfold pC at h;split at h
 ·rename_i l;simp only[aS,b5]at h;obtain⟨rfl,rfl⟩:=h;have j:=n.cells;have aB:=sc i k (ot:=ot) (esz:=v.cells.length) (els:=[v.cells]) (by simp) (by simpa using l) (xs:=x.cells.toList) (tail:=[]) (by simpa using j) t m;refine⟨.pointer (D ⟨w.heap.size,0,Z⟩),_,_,?_,?_,aB⟩
  ·simp[Instr.box,newVar,newRow]
  ·simpa using bj.ptr (ρ:=ρ.ey H.next _) H.next 0 0 _ (Env.ht _ _ _)
 ·cases h
def sW(P:Program)(H:ae)(t:TypeId):Option (ad×ae):=(eU P t).bind (pC (p8 P t) H)
def HE(k:Rel ρ H w)(l:ρ H.next=Z){t:TypeId}{a:ad}{H':ae}(h:sW P H t=D (a,H')):
  ∃r c d,(Instr.alloc t X (.tuple #[])).run P w= .ok r c/\bj d a r/\Step ρ H w d H' c:=by
 unfold sW at h;simp only[c1]at h;obtain⟨z,o,h⟩:=h;obtain⟨x,n,m⟩:=mK o w;obtain⟨r,c,d,e,i,j⟩:=yW (P:=P) k l h (m ρ) t λ_ h=>D0 h
 refine⟨r,c,d,?_,i,j⟩;simp only[Instr.alloc,Sem.run_bind,n,Result.andThen_ok];simpa [Instr.box]using e
end
section
variable {P:Program}{ρ:Env}{H:ae}{w:World}
def pE(place:Nat->Option (Nat×Nat))(cells:List ad):List (Nat×ad)->Option (List ad)
 |[]=>D cells
 |(i,v)::rest=>
  match place i with
  |none=>Z
  |some (off,size)=>if v.cells.length=size/\off+v.cells.length<=cells.length then pE place (cQ cells off v.cells) rest else Z
def wz:∀(a:List Value) (k off:Nat) (c:Array Value),(a.zipIdx k).foldl (λcs (x:Value×Nat)=>cs.setIfInBounds (off+x.2) x.1) c=h2 c (off+k) a
 |[],_,_,_=>rfl
 |v::r,k,off,c=>by
  simp only[List.zipIdx_cons,List.foldl_cons,h2];rw[wz r (k+1) off];rfl
def FN{e:List ad}{xs:List Value}{c:Nat}{cs:List ad}{k:List Value}(he:bB ρ e xs)(n:bB ρ cs k)(h:c+cs.length<=e.length):
  bB ρ (cQ e c cs) (h2 xs.toArray c k).toList:=by
 have p:=he.length;have q:=n.length;refine bB.D_ (by rw[FL h];simp[sd,p]) ?_;intro j v x d a;by_cases o:c<=j/\j<c+cs.length
 ·rw[FK h o.1 o.2]at d;obtain⟨i,m,l⟩:=n.get _ _ d;have:=t_ k xs.toArray c (j-c) i m (by simp;omega);rw[show c+(j-c)=j by omega]at this;simp only[Array.getElem?_toList]at a;obtain rfl:x=i:=Option.some.inj (a.symm.trans this);exact l
 ·rw[FM h af]at d;obtain⟨i,m,l⟩:=he.get _ _ d;have:=qd k xs.toArray c j af;simp only[Array.getElem?_toList]at a;rw[this]at a;simp only[List.getElem?_toArray]at a;obtain rfl:x=i:=Option.some.inj (a.symm.trans m);exact l
def px(ρ:Env):List (Nat×ad)->List (Nat×Value)->Prop
 |[],[]=>True
 |(i,v)::r,(j,x)::s=>i=j/\bj ρ v x/\px ρ r s
 |_,_=>False
def vF(place:Nat->Option (Nat×Nat)):∀(parts:List (Nat×ad)) (n:List (Nat×Value)) (cells a:List ad) (xs:List Value),px ρ parts n->bB ρ cells xs->
  pE place cells parts=D a->∃e:List Value,Instr.fill place xs.toArray n=D e.toArray/\bB ρ a e
 |[],[],cells,a,xs,_,d,h=>by
  simp[pE]at h;subst h;exact⟨xs,rfl,d⟩
 |[],_::_,_,_,_,aC,_,_=>aC.elim
 |_::_,[],_,_,_,aC,_,_=>aC.elim
 |(i,v)::r,(j,x)::s,cells,a,xs,aC,d,h=>by
  obtain⟨rfl,u,aC⟩:=aC;unfold pE at h;unfold Instr.fill;cases l:place i with
  |none=>rw[l]at h;cases h
  |some os=>
   obtain⟨off,size⟩:=os;rw[l]at h;simp only at h;split at h
   ·rename_i k;have m:=u.cells;have w:=m.length;have y:=d.length;have q:x.cells.size=v.cells.length:=by rw[w];simp
    have aB:=FN d m (c:=off) k.2;obtain⟨e,o,p⟩:=vF place r s _ a _ aC aB h;refine⟨e,?_,p⟩;simp only
    rw[if_neg (by simp[q,k.1];have:=k.2;omega)];have:=wz x.cells.toList 0 off xs.toArray;rw[Nat.add_zero]at this;rw[<-Array.foldl_toList,Array.toList_zipIdx,this];simpa using o
   ·cases h
def rb(P:Program):List Field->Option (List (Nat×Nat))
 |[]=>D []
 |f::a=>match cA P f.type,rb P a with
  |some n,D l=>D ((f.offset,n)::l)
  |_,_=>Z
def y8(w:World):∀(a:List Field) (l:List (Nat×Nat)),rb P a=D l->(a.mapM (λf=>(do pure (f.offset,<-sizeOf f.type):Sem (Nat×Nat)))).run P w= .ok l w
 |[],l,h=>by simp[rb]at h;subst h;simp[Sem.run_pure]
 |f::a,l,h=>by
  unfold rb at h;split at h
  ·rename_i n l' d c;simp only[aS]at h;subst h;have e:=y8 w a l' c;rw[List.mapM_cons];simp only[Sem.run_bind,run_sizeOf d,Result.andThen_ok,Sem.run_pure,e]
  ·cases h
def cC(P:Program)(t:TypeId)(parts:List (Nat×ad)):Option ad:=
 match eU P t,P.underlying t with
 |some z,D (.struct a)=>(match rb P a.toList with|some pl=>(pE (pl[·]?) z.cells parts).map .agg|none=>Z)
 |some z,D (.array _ e)=>(match cA P e with|some n=>(pE (λi=>D (i*n,n)) z.cells parts).map .agg|none=>Z)
 |_,_=>Z
def HJ{t:TypeId}{parts:List (Nat×ad)}{d:List (Nat×Value)}{v:ad}(h:cC P t parts=D v)(aC:px ρ parts d)(w:World):
  ∃x,(Instr.build t d.toArray).run P w= .ok x w/\bj ρ v x:=by
 unfold cC at h;split at h
 ·rename_i z q l hu;obtain⟨a,o,m⟩:=mK l w;split at h
  ·rename_i pl u;simp only[Option.map_eq_some_iff]at h;obtain⟨cs,k,rfl⟩:=h;obtain⟨p,c,j⟩:=vF _ parts d z.cells cs a.cells.toList aC (m ρ).cells k;refine⟨.agg p.toArray,?_,.agg _ _ j⟩;have hm:=y8 (P:=P) w q.toList pl u;have s:(q.mapM (λf=>(do pure (f.offset,<-sizeOf f.type):Sem (Nat×Nat)))).run P w= .ok pl.toArray w:=by
    rw[Array.mapM_eq_mapM_toList];simp only[Sem.run_map,hm,Result.andThen_ok]
   simp only[Instr.build,Sem.run_bind,o,Result.andThen_ok,run_underlying hu,s];have e:(λx:Nat=>(pl.toArray)[x]?)=(λx=>pl[x]?):=by funext x;simp
   simp only[e];have i:a.cells.toList.toArray=a.cells:=by simp
   rw[i]at c;simp[c]
  ·cases h
 ·rename_i z n e l hu;obtain⟨a,o,m⟩:=mK l w;split at h
  ·rename_i A y;simp only[Option.map_eq_some_iff]at h;obtain⟨cs,k,rfl⟩:=h;obtain⟨p,c,j⟩:=vF _ parts d z.cells cs a.cells.toList aC (m ρ).cells k;refine⟨.agg p.toArray,?_,.agg _ _ j⟩;have i:a.cells.toList.toArray=a.cells:=by simp
   rw[i]at c;simp[Instr.build,o,run_underlying hu,run_sizeOf y,c]
  ·cases h
 ·cases h
def je(esz:Nat):List (List ad)->List (Nat×ad)->Option (List (List ad))
 |els,[]=>D els
 |els,(i,v)::rest=>if v.cells.length=esz/\i<els.length/\v.cells.all ad.one=X then je esz (els.set i v.cells) rest else Z
def q9(P:Program)(H:ae)(t:TypeId)(len:Nat)(parts:List (Nat×ad)):Option (ad×ae):=
 match P.underlying t with
 |some (.slice e)=>
  (match cA P e,eU P e with
  |some a,D z=>
   if len*a<=16777216/\z.cells.length=a/\z.cells.all ad.one=X then
    (match je a (List.replicate len z.cells) parts with
    |some els=>D (.aD H.next 0 len a (D len),H.push (.row U a els))
    |none=>Z)
   else Z
  |_,_=>Z)
 |_=>Z
def mQ{esz:Nat}:∀{els:List (List ad)},(∀e∈els,e.length=esz)->els.flatten.length=els.length*esz
 |[],_=>by simp
 |d::els,h=>by
  have:=mQ (els:=els) (λe he=>h e (List.mem_cons_of_mem _ he));simp only[List.flatten_cons,List.length_append,this,h d (by simp),List.length_cons,Nat.succ_mul];omega
def Ct{esz:Nat}:∀{els:List (List ad)} (i:Nat) (c:List ad),(∀e∈els,e.length=esz)->c.length=esz->i<els.length->(els.set i c).flatten=cQ els.flatten (i*esz) c
 |[],_,_,_,_,h=>by simp at h
 |d::els,0,c,a,j,_=>by
  have k:=a d (by simp);simp[cQ,j,<-k]
 |d::els,i+1,c,a,j,h=>by
  have k:=a d (by simp);have n:=Ct (els:=els) i c (λe he=>a e (List.mem_cons_of_mem _ he)) j (by simpa using h);simp only[List.set_cons_succ,List.flatten_cons,n];unfold cQ;rw[Nat.succ_mul];have l:List.take (i*esz+esz) (d++els.flatten)=d++els.flatten.take (i*esz):=by
   rw[List.take_append,List.take_of_length_le af];congr 2;omega
  have m:List.drop (i*esz+esz+c.length) (d++els.flatten)=els.flatten.drop (i*esz+c.length):=by
   rw[List.drop_append,List.drop_eq_nil_of_le af,List.nil_append];congr 1;omega
  rw[l,m];simp
def zf(esz:Nat):∀(parts:List (Nat×ad)) (q:List (Nat×Value)) (els a:List (List ad)) (xs:List Value),px ρ parts q->(∀e∈els,e.length=esz)->(∀e∈els,∀v∈e,v.one=X)->
  bB ρ els.flatten xs->je esz els parts=D a->
   (∃m:List Value,Instr.fill (λi=>D (i*esz,esz)) xs.toArray q=D m.toArray/\bB ρ a.flatten m)/\(∀e∈a,e.length=esz)/\(∀e∈a,∀v∈e,v.one=X)/\a.length=els.length
 |[],[],els,a,xs,_,d,n,l,h=>by
  simp[je]at h;subst h;exact⟨⟨xs,rfl,l⟩,d,n,rfl⟩
 |[],_::_,_,_,_,aC,_,_,_,_=>aC.elim
 |_::_,[],_,_,_,aC,_,_,_,_=>aC.elim
 |(i,v)::r,(j,x)::s,els,a,xs,aC,d,n,l,h=>by
  obtain⟨rfl,L,aC⟩:=aC;unfold je at h;split at h
  ·rename_i E;obtain⟨k,o,G⟩:=E;have H:∀u∈v.cells,u.one=true:=by simpa using G
   have p:=L.cells;have M:=p.length;have N:=l.length;have F:=mQ d;have hle:i*esz+v.cells.length<=els.flatten.length:=by rw[F,k];exact rR o
   have aB:=FN l p (c:=i*esz) hle;rw[<-Ct i v.cells d k o]at aB;have g1:∀e∈els.set i v.cells,e.length=esz:=λe he=>by
    rcases List.mem_or_eq_of_mem_set he with h|rfl
    ·exact d e h
    ·exact k
   have g2:∀e∈els.set i v.cells,∀u∈e,u.one=true:=λe he=>by
    rcases List.mem_or_eq_of_mem_set he with h|rfl
    ·exact n e h
    ·exact H
   obtain⟨⟨m,w,y⟩,z,A,B⟩:=zf esz r s _ a _ aC g1 g2 aB h;refine⟨⟨m,?_,y⟩,z,A,by simpa using B⟩;unfold Instr.fill;have K:x.cells.size=v.cells.length:=by rw[M];simp
   simp only
   rw[if_neg (by simp[K,k];omega)];have:=wz x.cells.toList 0 (i*esz) xs.toArray;rw[Nat.add_zero]at this;rw[<-Array.foldl_toList,Array.toList_zipIdx,this];simpa using w
  ·cases h
def Hl(z:Array Value)(n:Nat)(c:0<z.size):((Array.range (n*z.size)).map (z[· %z.size]!))=((List.replicate n z.toList).flatten).toArray:=by
 apply Array.ext';apply List.ext_getElem?;intro k;by_cases a:k<n*z.size
 ·have d:(Array.map (λx=>z[x%z.size]!) (Array.range (n*z.size))).toList[k]? =D z[k%z.size]! :=by
   simp[a]
  rw[d];symm;simp only
  have hdiv:k/z.size<n:=by rw[Nat.div_lt_iff_lt_mul c];exact a
  have e:k%z.size<z.size:=Nat.mod_lt _ c;have key:∀(n k:Nat),k<n*z.size->(List.replicate n z.toList).flatten[k]? =z.toList[k%z.size]? :=by
   intro n
   induction n with
   |zero=>intro k h;omega
   |succ n i=>
    intro k h;rw[List.replicate_succ,List.flatten_cons];by_cases a:k<z.size
    ·rw[List.getElem?_append_left (by simpa using a),Nat.mod_eq_of_lt a]
    ·rw[List.getElem?_append_right (by simpa using a)];have:=i (k-z.size) (by rw[Nat.succ_mul]at h;omega);simp only[Array.length_toList];rw[this,<-Nat.mod_eq_sub_mod af]
  rw[key n k a];simp[e]
 ·rw[List.getElem?_eq_none (by simp;omega),List.getElem?_eq_none (by simp;omega)]
def bB.wv{a:List ad}{xs:List Value}(h:bB ρ a xs):∀n,bB ρ (List.replicate n a).flatten (List.replicate n xs).flatten
 |0=>by simpa using bB.nil
 |n+1=>by simpa [List.replicate_succ]using h.append (bB.wv h n)
def HH(A:Rel ρ H w)(F:ρ H.next=Z){t:TypeId}{len:Nat}{parts:List (Nat×ad)}{l:List (Nat×Value)}{a:ad}{H':ae}(h:q9 P H t len parts=D (a,H'))(aC:px ρ parts l):
  ∃r q v,(Instr.buildSlice t len l.toArray).run P w= .ok r q/\bj v a r/\Step ρ H w v H' q:=by
 unfold q9 at h;split at h
 ·rename_i e hu;split at h
  ·rename_i c z O R;split at h
   ·rename_i B;obtain⟨hle,p,K⟩:=B;split at h
    ·rename_i els E;simp only[aS,b5]at h;obtain⟨rfl,rfl⟩:=h;obtain⟨d,T,S⟩:=mK R w;have L:∀u∈z.cells,u.one=true:=by simpa using K
     have o:=(S ρ).cells;have j:d.cells.size=c:=by have:=o.length;rw[<-p,this];simp
     have N:=bB.wv o len;obtain⟨⟨s,k,m⟩,n,x,y⟩:=zf c parts l _ els _ aC (λe he=>by rw[List.eq_of_mem_replicate he];exact p)
      (λe he=>by rw[List.eq_of_mem_replicate he];exact L) N E
     have aB:=sc A F (ot:=none) n x m (tail:=[]) e (λ_ h=>by cases h);have Q:s.length=len*c:=by
      rw[<-m.length,mQ n,y];simp
     refine⟨.slice (D ⟨w.heap.size,0,Z⟩) len len,_,_,?_,?_,aB⟩
     ·simp only[Instr.buildSlice,Sem.run_bind,run_underlying hu,Result.andThen_ok,run_sizeOf O];rw[if_neg (by show¬(len*c>2^24);omega)];by_cases i:len*c=0
      ·simp only[i,if_true,Sem.run_bind,Sem.run_pure,Result.andThen_ok];have G:(List.replicate len d.cells.toList).flatten=[]:=by
        have:((List.replicate len d.cells.toList).flatten).length=0:=by simp[j,i]
        exact List.eq_nil_of_length_eq_zero this
       rw[G]at k;have eo:Array.range 0= #[]:=rfl;simp[k,newRow,eo]
      ·simp only[i,if_false,Sem.run_bind,T,Result.andThen_ok,Sem.run_pure];have M:0<d.cells.size:=by
        rcases Nat.eq_zero_or_pos d.cells.size with h|h
        ·rw[j]at h;simp[h]at i
        ·exact h
       have:=Hl d.cells len M;rw[j]at this;simp only[j,this];simp[k,newRow]
     ·refine bj.aD (ρ:=ρ.ey H.next _) H.next 0 len (D len) ⟨w.heap.size,0,c,s.length+0⟩ _ len (Env.ht _ _ _) (bm _) (by simp) (λ_=>⟨by simp,?_⟩)
      simp[Q]
    ·cases h
   ·cases h
  ·cases h
 ·cases h

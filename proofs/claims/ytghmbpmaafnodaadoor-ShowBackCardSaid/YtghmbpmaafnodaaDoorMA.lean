/-
  Texts of one proof, laid together: Hv0 Hv1 Hv2 Hv3 Hv4 Hv5 Hv6.
-/
import GoSem.Dispatch
import Derived.WalkKit
import Derived.Laws.IdiomCopy
set_option linter.unusedVariables false
set_option linter.unusedSimpArgs false
set_option linter.defProp false
open Option renaming some→D,none→C
open Bool renaming true→X,false→U
namespace Go.bn
def ae{p:Prop}(h:p:=by omega):p:=h
def ah{p:Prop}(h:p:=by kernel_rfl):p:=h
def aK{p:Prop}(h:p:=by decide):p:=h
def ai{a b:Prop}(x:a)(y:b):a/\b:=⟨x,y⟩
def aZ{α:Type}(a b:α):(D a=D b)=(a=b):=Option.some.injEq a b
def aS{α:Type}(a b:α):(bif X then a else b)=a:=rfl
def aN{α:Type}(a b:α):(bif U then a else b)=b:=rfl
def dc{α β:Type}{o:Option α}{f:α->Option β}{b:β}:o.bind f=D b↔∃a,o=D a/\f a=D b:=Option.bind_eq_some_iff
def cj{α β:Type}(a:α)(b:β)(c:α)(d:β):((a,b)=(c,d))=(a=c/\b=d):=Prod.mk.injEq a b c d
def bo(n:Nat):n<=n:=Nat.le_refl n
inductive aa where
 |bool (b:Bool)
 |int (k:IntKind) (n:Int)
 |str (s:List UInt8)
 |ptr (l i c:Nat)
 |nilPtr
 |aG (l i n esz:Nat) (cap:Option Nat)
 |aA
 |map (l:Nat)
 |jo
 |func (fn:Fn) (first captured:List aa)
 |nilFunc
 |iface (t:TypeId) (v:aa)
 |nilIface
 |agg (cs:List aa)
 |tuple (a:List aa)
instance:Inhabited aa:=⟨.tuple []⟩
inductive cb where
 |row (ro:Bool) (esz:Nat) (els:List (List aa))
 |ck (t:TypeId) (esz:Nat) (els:List (List aa))
 |map (es:List (aa×aa))
 |dead
inductive l1 where
 |d0|d1|d2|d3|d4|d5|d6|d7
inductive bF(α:Type) where
 |leaf
 |node (v:Option α) (a c d e h i j k:bF α)
def yu(n:Nat):l1:=match n with
 |0=> .d0|1=> .d1|2=> .d2|3=> .d3|4=> .d4|5=> .d5|6=> .d6|_=> .d7
def M6{n m:Nat}(d:n<8)(hm:m<8)(h:yu n=yu m):n=m:=by
 have a:n=0\/n=1\/n=2\/n=3\/n=4\/n=5\/n=6\/n=7:=ae;have c:m=0\/m=1\/m=2\/m=3\/m=4\/m=5\/m=6\/m=7:=ae;rcases a with rfl|rfl|rfl|rfl|rfl|rfl|rfl|rfl<;>rcases c with rfl|rfl|rfl|rfl|rfl|rfl|rfl|rfl<;>first|rfl|cases h
def o1:Nat->Nat->List l1
 |0,_=>[]
 |_+1,0=>[]
 |f+1,k+1=>yu (k%8)::o1 f (k/8)
def path(k:Nat):List l1:=o1 k k
def Qc:∀(f g k j:Nat),k<=f->j<=g->o1 f k=o1 g j->k=j:=by
 intro f
 induction f with
 |zero=>
  intro g k j c a h;have:k=0:=ae;subst this;cases j with
  |zero=>rfl
  |succ j=>
   cases g with
   |zero=>omega
   |succ g=>simp[o1]at h
 |succ f d=>
  intro g k j c a h;cases k with
  |zero=>
   cases j with
   |zero=>rfl
   |succ j=>
    cases g with
    |zero=>omega
    |succ g=>simp[o1]at h
  |succ k=>
   cases j with
   |zero=>cases g<;>simp[o1]at h
   |succ j=>
    cases g with
    |zero=>omega
    |succ g=>
     simp only[o1,List.cons.injEq]at h;have e:=M6 (Nat.mod_lt _ ae) (Nat.mod_lt _ ae) h.1;have i:=d g (k/8) (j/8) ae ae h.2;omega
def HJ{k j:Nat}(h:path k=path j):k=j:=Qc k j k j (bo _) (bo _) h
def bF.jZ{α:Type}:List l1->bF α->Option α
 |[],.leaf=>C
 |[],.node v _ _ _ _ _ _ _ _=>v
 |_::_,.leaf=>C
 |d::p,.node _ a c e h i j k l=>match d with
  | .d0=>bF.jZ p a| .d1=>bF.jZ p c| .d2=>bF.jZ p e| .d3=>bF.jZ p h
  | .d4=>bF.jZ p i| .d5=>bF.jZ p j| .d6=>bF.jZ p k| .d7=>bF.jZ p l
def bF.eB{α:Type}(x:α):List l1->bF α->bF α
 |[],.leaf=> .node (D x) .leaf .leaf .leaf .leaf .leaf .leaf .leaf .leaf
 |[],.node _ a c e h i j k l=> .node (D x) a c e h i j k l
 |d::p,.leaf=>match d with
  | .d0=> .node C (bF.eB x p .leaf) .leaf .leaf .leaf .leaf .leaf .leaf .leaf
  | .d1=> .node C .leaf (bF.eB x p .leaf) .leaf .leaf .leaf .leaf .leaf .leaf
  | .d2=> .node C .leaf .leaf (bF.eB x p .leaf) .leaf .leaf .leaf .leaf .leaf
  | .d3=> .node C .leaf .leaf .leaf (bF.eB x p .leaf) .leaf .leaf .leaf .leaf
  | .d4=> .node C .leaf .leaf .leaf .leaf (bF.eB x p .leaf) .leaf .leaf .leaf
  | .d5=> .node C .leaf .leaf .leaf .leaf .leaf (bF.eB x p .leaf) .leaf .leaf
  | .d6=> .node C .leaf .leaf .leaf .leaf .leaf .leaf (bF.eB x p .leaf) .leaf
  | .d7=> .node C .leaf .leaf .leaf .leaf .leaf .leaf .leaf (bF.eB x p .leaf)
 |d::p,.node v a c e h i j k l=>match d with
  | .d0=> .node v (bF.eB x p a) c e h i j k l
  | .d1=> .node v a (bF.eB x p c) e h i j k l
  | .d2=> .node v a c (bF.eB x p e) h i j k l
  | .d3=> .node v a c e (bF.eB x p h) i j k l
  | .d4=> .node v a c e h (bF.eB x p i) j k l
  | .d5=> .node v a c e h i (bF.eB x p j) k l
  | .d6=> .node v a c e h i j (bF.eB x p k) l
  | .d7=> .node v a c e h i j k (bF.eB x p l)
def bF.vz{α:Type}(p:List l1):bF.jZ p (.leaf:bF α)=none:=by cases p<;>rfl
def bF.yP{α:Type}(x:α):∀(p:List l1) (t:bF α),bF.jZ p (bF.eB x p t)=D x
 |[],.leaf=>rfl
 |[],.node .. =>rfl
 |d::p,.leaf=>by cases d<;>exact bF.yP x p _
 |d::p,.node .. =>by cases d<;>exact bF.yP x p _
def bF.yO{α:Type}(x:α):∀(p q:List l1) (t:bF α),p≠q->bF.jZ q (bF.eB x p t)=bF.jZ q t
 |[],[],_,h=>absurd rfl h
 |[],e::q,.leaf,_=>by cases e<;>exact bF.vz q
 |[],e::q,.node ..,_=>rfl
 |d::p,[],.leaf,_=>by cases d<;>rfl
 |d::p,[],.node ..,_=>by cases d<;>rfl
 |d::p,e::q,.leaf,h=>by
  cases d<;>cases e<;>first
   |exact bF.vz q
   |(show bF.jZ q (bF.eB x p .leaf)=C
     rw[bF.yO x p q .leaf (λa=>h (by rw[a]))];exact bF.vz q)
 |d::p,e::q,.node ..,h=>by
  cases d<;>cases e<;>first
   |rfl
   |exact bF.yO x p q _ (λa=>h (by rw[a]))
def bF.get{α:Type}(t:bF α)(k:Nat):Option α:=bF.jZ (path k) t
def bF.put{α:Type}(x:α)(_:Nat)(t:bF α)(k:Nat):bF α:=bF.eB x (path k) t
def bF.tG{α:Type}(k:Nat):(bF.leaf:bF α).get k=none:=bF.vz _
def bF.tK{α:Type}(x:α):∀(f:Nat) (t:bF α) (k:Nat),k<f->(bF.put x f t k).get k=D x:=λ_ t k _=>bF.yP x (path k) t
def bF.tJ{α:Type}(x:α):∀(f:Nat) (t:bF α) (k j:Nat),k≠j->(bF.put x f t k).get j=t.get j:=λ_ t _ _ h=>bF.yO x _ _ t (λe=>h (HJ e))
structure af where
 t:bF cb
 next:Nat
def af.get(H:af)(l:Nat):Option cb:=if l<H.next then H.t.get l else C
def af.set(H:af)(l:Nat)(b:cb):af:={H with t:=bF.put b (l+1) H.t l}
def af.push(H:af)(b:cb):af:={t:=bF.put b (H.next+1) H.t H.next,next:=H.next+1}
def af.empty:af:=⟨.leaf,0⟩
@[simp] theorem af.dK(H:af)(l:Nat)(b:cb):(H.set l b).next=H.next:=rfl
@[simp] theorem af.ch(H:af)(b:cb):(H.push b).next=H.next+1:=rfl
def af.a6{H:af}{l:Nat}{b:cb}(h:H.get l=D b):l<H.next:=by
 unfold af.get at h;split at h
 ·assumption
 ·cases h
def af.get_set_same{H:af}{l:Nat}{b:cb}(h:l<H.next):(H.set l b).get l=D b:=by
 show(if l<H.next then(bF.put b (l+1) H.t l).get l else C)=D b;rw[if_pos h];exact bF.tK b _ _ _ ae
def af.get_set_other{H:af}{l j:Nat}{b:cb}(h:l≠j):(H.set l b).get j=H.get j:=by
 show(if j<H.next then(bF.put b (l+1) H.t l).get j else C)=(if j<H.next then H.t.get j else C);rw[bF.tJ b _ _ _ _ h]
def af.bY(H:af)(b:cb):(H.push b).get H.next=D b:=by
 show(if H.next<H.next+1 then(bF.put b (H.next+1) H.t H.next).get H.next else C)=D b;rw[if_pos ae];exact bF.tK b _ _ _ ae
def af.dS{H:af}{j:Nat}{b:cb}(h:j≠H.next):(H.push b).get j=H.get j:=by
 show(if j<H.next+1 then(bF.put b (H.next+1) H.t H.next).get j else C)=(if j<H.next then H.t.get j else C);by_cases a:j<H.next
 ·rw[if_pos ae,if_pos a,bF.tJ b _ _ _ _ ae]
 ·rw[if_neg ae,if_neg a]
section
structure Loc where
 block:Nat
 off:Nat
 esz:Nat
 size:Nat
def Env:Type:=Nat->Option Loc
def Env.le(ρ a:Env):Prop:=∀l loc,ρ l=D loc->a l=D loc
def Env.le_refl(ρ:Env):ρ.le ρ:=λ_ _ h=>h
def Env.le_trans{ρ a c:Env}(h:ρ.le a)(a8:a.le c):ρ.le c:=λl loc e=>a8 l loc (h l loc e)
mutual
inductive bq(ρ:Env):aa->Value->Prop where
 |bool (b:Bool):bq ρ (.bool b) (.bool b)
 |int (k:IntKind) (n:Int):bq ρ (.int k n) (.int k n)
 |str (s:List UInt8):bq ρ (.str s) (.string ⟨s.toArray⟩)
 |ptr (l i c:Nat) (loc:Loc) (h:ρ l=some loc):bq ρ (.ptr l i c) (.pointer (some ⟨loc.block,loc.off+i*loc.esz+c,none⟩))
 |nilPtr:bq ρ .nilPtr (.pointer none)
 |aG (l i n:Nat) (cap:Option Nat) (loc:Loc) (a:Addr) (c:Nat) (h:ρ l=some loc) (m:n<=c) (d:∀k,cap=some k->c=k)
  (e:0<c->a=⟨loc.block,loc.off+i*loc.esz,none⟩/\loc.off+(i+c)*loc.esz<=loc.size):bq ρ (.aG l i n loc.esz cap) (.slice (some a) n c)
 |aA:bq ρ .aA (.slice none 0 0)
 |map (l:Nat) (loc:Loc) (h:ρ l=some loc):bq ρ (.map l) (.map (some loc.block))
 |jo:bq ρ .jo (.map none)
 |func (fn:Fn) (f c:List aa) (ku c':List Value) (j:bL ρ f ku) (d:bL ρ c c'):bq ρ (.func fn f c) (.func fn ku.toArray c'.toArray)
 |nilFunc:bq ρ .nilFunc .nilFunc
 |iface (t:TypeId) (v:aa) (x:Value) (h:bq ρ v x):bq ρ (.iface t v) (.iface t x)
 |nilIface:bq ρ .nilIface .nilIface
 |agg (cs:List aa) (xs:List Value) (h:bL ρ cs xs):bq ρ (.agg cs) (.agg xs.toArray)
 |tuple (cs:List aa) (xs:List Value) (h:bL ρ cs xs):bq ρ (.tuple cs) (.tuple xs.toArray)
inductive bL(ρ:Env):List aa->List Value->Prop where
  |nil:bL ρ [] []
  |cons (v:aa) (x:Value) (a:List aa) (xs:List Value) (h:bq ρ v x) (ar:bL ρ a xs):bL ρ (v::a) (x::xs)
 end
mutual
def bq.mono{ρ e:Env}(hle:ρ.le e){v:aa}{x:Value}(h:bq ρ v x):bq e v x:=by
 cases h with
 |bool b=>exact .bool b
 |int k n=>exact .int k n
 |str s=>exact .str s
 |ptr l i c loc h=>exact .ptr l i c loc (hle _ _ h)
 |nilPtr=>exact .nilPtr
 |aG l i n cap loc a c h o d j=>exact .aG l i n cap loc a c (hle _ _ h) o d j
 |aA=>exact .aA
 |map l loc h=>exact .map l loc (hle _ _ h)
 |jo=>exact .jo
 |func fn f c ku c' m d=>exact .func fn f c ku c' (bL.mono hle m) (bL.mono hle d)
 |nilFunc=>exact .nilFunc
 |iface t v x h=>exact .iface t v x (bq.mono hle h)
 |nilIface=>exact .nilIface
 |agg cs xs h=>exact .agg cs xs (bL.mono hle h)
 |tuple cs xs h=>exact .tuple cs xs (bL.mono hle h)
def bL.mono{ρ a:Env}(hle:ρ.le a){v:List aa}{x:List Value}(h:bL ρ v x):bL a v x:=by
  cases h with
  |nil=>exact .nil
  |cons v x c xs h ar=>exact .cons v x c xs (bq.mono hle h) (bL.mono hle ar)
 end
def bL.length{ρ:Env}:∀{a:List aa} {xs:List Value},bL ρ a xs->a.length=xs.length
 |[],_,h=>by cases h;rfl
 |_::_,_,h=>by cases h with|cons _ _ _ _ _ ar=>simp[bL.length ar]
def bL.get{ρ:Env}:∀{c:List aa} {xs:List Value},bL ρ c xs->∀(j:Nat) (v:aa),c[j]? =D v->∃x,xs[j]? =D x/\bq ρ v x
 |[],_,h,j,v,a=>by simp at a
 |w::c,_,h,j,v,a=>by
  cases h with
  |cons _ x _ xs d ar=>
   cases j with
   |zero=>simp at a;subst a;exact⟨x,rfl,d⟩
   |succ j=>simpa using bL.get ar j v (by simpa using a)
def bL.append{ρ:Env}:∀{c us:List aa} {xs d:List Value},bL ρ c xs->bL ρ us d->bL ρ (c++us) (xs++d)
 |[],_,_,_,h,a8=>by cases h;exact a8
 |_::_,_,_,_,h,a8=>by cases h with|cons _ _ _ _ a as=>exact .cons _ _ _ _ a (bL.append as a8)
def bL.Hj{ρ:Env}:∀{c:List aa} {xs:List Value},c.length=xs.length->(∀(j:Nat) (v:aa) (x:Value),c[j]? =D v->xs[j]? =D x->bq ρ v x)->bL ρ c xs
 |[],[],_,_=> .nil
 |[],_::_,h,_=>by simp at h
 |_::_,[],h,_=>by simp at h
 |v::c,x::xs,h,d=> .cons _ _ _ _ (d 0 v x rfl rfl) (bL.Hj (by simpa using h) λj a b e i=>d (j+1) a b (by simpa using e) (by simpa using i))
def bL.set{ρ:Env}{v:aa}{x:Value}(h:bq ρ v x):∀{c:List aa} {xs:List Value} (j:Nat),bL ρ c xs->bL ρ (c.set j v) (xs.set j x)
 |[],_,_,ar=>by cases ar;exact .nil
 |_::_,_,0,ar=>by cases ar with|cons _ _ _ _ a as=>exact .cons _ _ _ _ h as
 |_::_,_,j+1,ar=>by cases ar with|cons _ _ _ _ a as=>exact .cons _ _ _ _ a (bL.set h j as)
def aa.one:aa->Bool
 | .agg _| .tuple _=>U
 |_=>X
def aa.cells:aa->List aa
 | .agg cs=>cs
 |v=>[v]
def bq.zJ{ρ:Env}{v:aa}{x:Value}(h:bq ρ v x)(a:v.one=X):x.oneCell'=true:=by
 cases h<;>first|rfl|cases a
def bq.cells{ρ:Env}{v:aa}{x:Value}(h:bq ρ v x):bL ρ v.cells x.cells.toList:=by
 cases h with
 |agg cs xs h=>simpa [aa.cells,Value.cells]using h
 |bool b=>exact .cons _ _ _ _ (.bool b) .nil
 |int k n=>exact .cons _ _ _ _ (.int k n) .nil
 |str s=>exact .cons _ _ _ _ (.str s) .nil
 |ptr l i c loc h=>exact .cons _ _ _ _ (.ptr l i c loc h) .nil
 |nilPtr=>exact .cons _ _ _ _ .nilPtr .nil
 |aG l i n cap loc a c h m d e=>exact .cons _ _ _ _ (.aG l i n cap loc a c h m d e) .nil
 |aA=>exact .cons _ _ _ _ .aA .nil
 |map l loc h=>exact .cons _ _ _ _ (.map l loc h) .nil
 |jo=>exact .cons _ _ _ _ .jo .nil
 |func fn f c ku c' j d=>exact .cons _ _ _ _ (.func fn f c ku c' j d) .nil
 |nilFunc=>exact .cons _ _ _ _ .nilFunc .nil
 |iface t v x h=>exact .cons _ _ _ _ (.iface t v x h) .nil
 |nilIface=>exact .cons _ _ _ _ .nilIface .nil
 |tuple cs xs h=>exact .cons _ _ _ _ (.tuple cs xs h) .nil
def gD(ρ:Env)(w:World)(loc:Loc)(ro:Bool)(esz:Nat)(els:List (List aa)):Prop:=loc.esz=esz/\∃c t a,w.heap[loc.block]? =D (.cells c t a)/\(loc.size=c.size/\(ro=U->∀o,o<c.size->¬(a.1<=o/\o<a.2)))/\ ∀(i:Nat) (e:List aa),els[i]? =D e->e.length=esz/\∀(j:Nat) (v:aa),e[j]? =D v->v.one=X/\∃x,c[loc.off+i*esz+j]? =D x/\bq ρ v x
def ou(ρ:Env)(w:World)(loc:Loc)(t:TypeId)(esz:Nat)(els:List (List aa)):Prop:=gD ρ w loc U esz els/\∃c a,w.heap[loc.block]? =D (.cells c t a)/\loc.off=0
def xQ(ρ:Env)(w:World)(loc:Loc)(es:List (aa×aa)):Prop:=∃ents clock,w.heap[loc.block]? =D (.map ents clock)/\bL ρ (es.map (·.1)) (ents.toList.map (·.key))/\bL ρ (es.map (·.2)) (ents.toList.map (·.val))
def af.rw(H:af)(l:Nat):Prop:=(∃esz els,H.get l=D (.row U esz els))\/(∃es,H.get l=D (.map es))\/∃t esz els,H.get l=D (.ck t esz els)
def af.live(H:af)(l:Nat):Prop:=(∃ro esz els,H.get l=D (.row ro esz els))\/(∃es,H.get l=D (.map es))\/∃t esz els,H.get l=D (.ck t esz els)
def af.rw.live{H:af}{l:Nat}(h:H.rw l):H.live l:=by
 rcases h with⟨e,s,h⟩|h
 ·exact .inl ⟨_,e,s,h⟩
 ·exact .inr h
def cb.tM:cb->Bool
 | .row X _ _=>X
 |_=>U
def af.Iz{H:af}{l:Nat}{b:cb}(c:b.tM=U):∀k esz els,(H.set l b).get k=D (.row X esz els)->H.get k=D (.row X esz els):=by
 intro k esz els h;by_cases a:l=k
 ·subst a;have d:l<H.next:=by have:=af.a6 h;simpa using this
  rw[af.get_set_same d]at h;simp only[aZ]at h;subst h;cases c
 ·rwa[af.get_set_other a]at h
def af.Iy{H:af}{b:cb}(c:b.tM=U):∀k esz els,(H.push b).get k=D (.row X esz els)->H.get k=D (.row X esz els):=by
 intro k esz els h;by_cases a:k=H.next
 ·subst a;rw[af.bY]at h;simp only[aZ]at h;subst h;cases c
 ·rwa[af.dS a]at h
structure Rel(ρ:Env)(H:af)(w:World):Prop where
 row:∀l ro esz els,H.get l=some (.row ro esz els)->∃loc,ρ l=some loc/\gD ρ w loc ro esz els
 map:∀l es,H.get l=some (.map es)->∃loc,ρ l=some loc/\xQ ρ w loc es
 ck:∀l t esz els,H.get l=some (.ck t esz els)->∃loc,ρ l=some loc/\ou ρ w loc t esz els
 apart:∀l l' loc a,H.rw l->H.live l'->l≠l'->ρ l=some loc->ρ l'=some a->loc.block≠a.block
def jW(ρ:Env)(H:af)(b:Nat):Prop:=∃l loc,H.rw l/\ρ l=D loc/\loc.block=b
structure Step(ρ:Env)(H:af)(w:World)(c:Env)(H':af)(a:World):Prop where
 le:ρ.le c
 next:H.next<=H'.next
 a1:∀l,l<H.next\/H'.next<=l->c l=ρ l
 rel:Rel c H' a
 os:a.os=w.os
 tape:a.tape=w.tape
 output:a.output=w.output
 size:w.heap.size<=a.heap.size
 frame:∀b,b<w.heap.size->¬jW ρ H b->a.heap[b]? =w.heap[b]?
 own:∀b,jW c H' b->jW ρ H b\/w.heap.size<=b
 ro:∀l esz els,H'.get l=some (.row true esz els)->H.get l=some (.row true esz els)
def Step.refl{ρ:Env}{H:af}{w:World}(h:Rel ρ H w):Step ρ H w ρ H w:=
 ⟨ρ.le_refl,bo _,λ_ _=>rfl,h,rfl,rfl,rfl,bo _,λ_ _ _=>rfl,λ_ h=> .inl h,λ_ _ _ h=>h⟩
def Step.trans{ρ p q:Env}{H d i:af}{w n o:World}(h:Step ρ H w p d n)(k:Step p d n q i o):Step ρ H w q i o where
 le:=Env.le_trans h.le k.le
 next:=Nat.le_trans h.next k.next
 a1:=λl j=>(k.a1 l (j.imp (λx=>Nat.lt_of_lt_of_le x h.next) id)).trans (h.a1 l (j.imp id (λx=>Nat.le_trans k.next x)))
 ro:=λl esz els e=>h.ro l esz els (k.ro l esz els e)
 rel:=k.rel
 os:=k.os.trans h.os
 tape:=k.tape.trans h.tape
 output:=k.output.trans h.output
 size:=Nat.le_trans h.size k.size
 frame:=λb a m=>by
  rw[k.frame b (Nat.lt_of_lt_of_le a h.size) (λc=>(h.own b c).elim m (λhle=>ae)),h.frame b a m]
 own:=λb a=>(k.own b a).elim (λc=>h.own b c) (λhle=> .inr (Nat.le_trans h.size hle))
def Bl(ρ:Env)(n m:Nat):Prop:=∀l,n<=l->l<m->ρ l=C
structure jz(E ρ:Env)(n m:Nat):Prop where
 new:Bl ρ n m
 le:E.le ρ
def jz.left{E ρ:Env}{n m k:Nat}(h:jz E ρ n k)(hm:m<=k):jz E ρ n m:=⟨λl a b=>h.new l a ae,h.le⟩
def jz.after{E ρ d:Env}{H c:af}{w e:World}{k:Nat}(h:jz E ρ H.next k)(s:Step ρ H w d c e):jz E d c.next k:=⟨λl a b=>by
 rw[s.a1 l (.inr a)];exact h.new l (Nat.le_trans s.next a) b,Env.le_trans h.le s.le⟩
def Rel.drew{ρ:Env}{H:af}{w:World}(h:Rel ρ H w):Rel ρ H w.drew:=⟨h.row,h.map,h.ck,h.apart⟩
end
def eH(P:Program)(t:TypeId):Option Bool:=
 match P.underlying t with
 |some (.struct _)|some (.array _ _)=>D X
 |some _=>D U
 |none=>C
def cQ(P:Program)(t:TypeId):Option Nat:=(P.info? t).map (·.size)
def wL{P:Program}{t:TypeId}{b:Bool}(h:eH P t=D b)(w:World):(isAgg t).run P w= .ok b w:=by
 unfold eH at h;unfold isAgg;cases hu:P.underlying t with
 |none=>rw[hu]at h;cases h
 |some d=>
  rw[hu]at h;simp only[Sem.run_bind,run_underlying hu,Result.andThen_ok];cases d<;>simp_all
def run_sizeOf{P:Program}{t:TypeId}{n:Nat}(h:cQ P t=D n)(w:World):(sizeOf t).run P w= .ok n w:=by
 unfold cQ at h;cases a:P.info? t with
 |none=>rw[a]at h;cases h
 |some i=>rw[a]at h;simp at h;simp[sizeOf,typeInfo,a,h]
def apart(P:Program)(t:TypeId)(cs:List aa)(off:Nat):Option aa:=
 match eH P t with
 |some X=>(match cQ P t with|some n=>D (.agg ((cs.drop off).take n))|none=>C)
 |some U=>cs[off]?
 |none=>C
def bL.drop{ρ:Env}:∀{c:List aa} {xs:List Value} (n:Nat),bL ρ c xs->bL ρ (c.drop n) (xs.drop n)
 |_,_,0,h=>by simpa using h
 |[],_,n+1,h=>by cases h;simpa using bL.nil
 |_::_,_,n+1,h=>by cases h with|cons _ _ _ _ a as=>simpa using bL.drop n as
def bL.take{ρ:Env}:∀{c:List aa} {xs:List Value} (n:Nat),bL ρ c xs->bL ρ (c.take n) (xs.take n)
 |_,_,0,h=>by simpa using bL.nil
 |[],_,n+1,h=>by cases h;simpa using bL.nil
 |_::_,_,n+1,h=>by cases h with|cons _ _ _ _ a as=>simpa using bL.cons _ _ _ _ a (bL.take n as)
def oC{P:Program}{t:TypeId}{cs:List aa}{off:Nat}{v:aa}{ρ:Env}{xs:List Value}(h:apart P t cs off=D v)(ar:bL ρ cs xs)(w:World):
  ∃x,(part t xs.toArray off).run P w= .ok x w/\bq ρ v x:=by
 unfold apart at h;split at h
 ·rename_i a;split at h
  ·rename_i n c;simp at h;subst h;refine⟨.agg (((xs.drop off).take n).toArray),?_,.agg _ _ ((ar.drop off).take n)⟩;unfold part;simp only[Sem.run_bind,wL a,Result.andThen_ok,if_true,run_sizeOf c];simp[List.extract_toArray,List.extract_eq_take_drop]
  ·cases h
 ·rename_i a;obtain⟨x,e,d⟩:=ar.get off v h;refine⟨x,?_,d⟩;unfold part;simp[wL a,e]
 ·cases h
def ji(op:BinOp)(k:IntKind)(a b:Int):Option aa:=
 match op with
 | .add=>D (.int k (k.wrap (a+b)))
 | .sub=>D (.int k (k.wrap (a-b)))
 | .mul=>D (.int k (k.wrap (a*b)))
 | .quo=>if b=0 then C else D (.int k (k.wrap (a.tdiv b)))
 | .rem=>if b=0 then C else D (.int k (a.tmod b))
 | .and=>D (.int k (k.wrap ((BitVec.ofInt k.bits a&&&BitVec.ofInt k.bits b).toNat:Int)))
 | .or=>D (.int k (k.wrap ((BitVec.ofInt k.bits a|||BitVec.ofInt k.bits b).toNat:Int)))
 | .xor=>D (.int k (k.wrap ((BitVec.ofInt k.bits a^^^BitVec.ofInt k.bits b).toNat:Int)))
 | .andNot=>D (.int k (k.wrap ((BitVec.ofInt k.bits a&&& ~~~BitVec.ofInt k.bits b).toNat:Int)))
 | .eql=>D (.bool (a==b))
 | .neq=>D (.bool (a != b))
 | .lss=>D (.bool (decide (a<b)))
 | .leq=>D (.bool (decide (a<=b)))
 | .gtr=>D (.bool (decide (b<a)))
 | .geq=>D (.bool (decide (b<=a)))
 | .shl| .shr=>C
def rU(op:BinOp)(k:IntKind)(a b:Int):Option aa:=
 if b<0 then C else
 match op with
 | .shl=>D (.int k (k.wrap (a*2^(min b.toNat k.bits))))
 | .shr=>D (.int k (a.fdiv (2^(min b.toNat k.bits))))
 |_=>C
def uV(op:BinOp)(a b:List UInt8):Option aa:=
 match op with
 | .add=>if a.length+b.length<=9223372036854775807 then D (.str (a++b))else C
 | .eql=>D (.bool (a==b))
 | .neq=>D (.bool (!(a==b)))
 | .lss=>D (.bool (Op.bytesLess a b))
 | .leq=>D (.bool (Op.bytesLess a b||a==b))
 | .gtr=>D (.bool (!(Op.bytesLess a b||a==b)))
 | .geq=>D (.bool (!Op.bytesLess a b))
 |_=>C
def rv(P:Program)(eq:TypeId->aa->aa->Option Bool):List Field->List aa->List aa->Option Bool
 |[],_,_=>D X
 |f::d,xs,c=>
  if f.name≠ "_" then
   match apart P f.type xs f.offset,apart P f.type c f.offset with
   |some a,D b=>(match eq f.type a b with|some X=>rv P eq d xs c|some U=>D U|none=>C)
   |_,_=>C
  else rv P eq d xs c
def tj(P:Program)(eq:TypeId->aa->aa->Option Bool)(e:TypeId)(n:Nat):Nat->Nat->List aa->List aa->Option Bool
 |0,_,_,_=>D X
 |k+1,i,xs,c=>
  match apart P e xs (i*n),apart P e c (i*n)with
  |some a,D b=>(match eq e a b with|some X=>tj P eq e n k (i+1) xs c|some U=>D U|none=>C)
  |_,_=>C
def ln(P:Program):Nat->TypeId->aa->aa->Option Bool
 |0,_,_,_=>C
 |d+1,t,x,y=>
  match P.underlying t,x,y with
  |some .bool,.bool a,.bool b=>D (a==b)
  |some (.int _),.int k a,.int i b=>if k=i then D (a==b)else C
  |some .string,.str a,.str b=>D (a==b)
  |some (.pointer _),.nilPtr,.nilPtr=>D X
  |some (.pointer _),.nilPtr,.ptr .. =>D U
  |some (.pointer _),.ptr ..,.nilPtr=>D U
  |some (.interface _),.nilIface,.nilIface=>D X
  |some (.interface _),.nilIface,.iface .. =>D U
  |some (.interface _),.iface ..,.nilIface=>D U
  |some (.struct h),.agg xs,.agg c=>if P.stoodInHeld t then C else rv P (ln P d) h.toList xs c
  |some (.array len e),.agg xs,.agg c=>(match cQ P e with|some n=>tj P (ln P d) e n len 0 xs c|none=>C)
  |some (.slice _),.aA,.aA=>D X
  |some (.slice _),.aA,.aG .. =>D U
  |some (.slice _),.aG ..,.aA=>D U
  |some (.map _ _),.jo,.jo=>D X
  |some (.map _ _),.jo,.map _=>D U
  |some (.map _ _),.map _,.jo=>D U
  |some (.func _ _ _),.nilFunc,.nilFunc=>D X
  |some (.func _ _ _),.nilFunc,.func .. =>D U
  |some (.func _ _ _),.func ..,.nilFunc=>D U
  |_,_,_=>C
def isConst:Operand->Bool
 | .const _=>X
 |_=>U
def p5(P:Program)(t:TypeId)(x y:Operand)(a b:aa):Bool:=
 match a,b with
 | .nilIface,.nilIface=>isConst x||isConst y
 | .agg _,.agg _=> !P.eqGuardType P.depth t
 |_,_=>X
def th(P:Program)(op:BinOp)(t:TypeId)(c d:Operand)(x y:aa):Option aa:=
 match x,y with
 | .int k a,.int e b=>
  (match op with
  | .shl=>rU .shl k a b
  | .shr=>rU .shr k a b
  |op=>if k=e then ji op k a b else C)
 | .str a,.str b=>uV op a b
 |x,y=>
  (match op with
  | .eql=>if p5 P t c d x y then(ln P 10000 t x y).map .bool else C
  | .neq=>if p5 P t c d x y then(ln P 10000 t x y).map λb=> .bool (!b)else C
  |_=>C)
def fD(op:UnOp)(x:aa):Option aa:=
 match op,x with
 | .neg,.int k n=>D (.int k (k.wrap (0-n)))
 | .not,.bool b=>D (.bool (!b))
 |_,_=>C
end Go.bn
namespace Go
def Operand.vF:Operand->Bool
 | .const _=>X
 |_=>U
end Go
namespace Go.bn
section
variable {P:Program}{ρ:Env}
def As(w:World)(eq:TypeId->aa->aa->Option Bool)(kr:TypeId->Value->Value->Sem Bool)
  (heq:∀t a b x y c,eq t a b=D c->bq ρ a x->bq ρ b y->(kr t x y).run P w= .ok c w) {xs s:List aa} {q u:List Value} (j:bL ρ xs q) (k:bL ρ s u):
  ∀(d:List Field) (b:Bool),rv P eq d xs s=D b->
   (forIn d ((C:Option Bool),()) (λf _=>
    (if f.name≠ "_" then do
     let a<-part f.type q.toArray f.offset
     let b<-part f.type u.toArray f.offset
     let c<-kr f.type a b
     if(!c)=X then pure (ForInStep.done (D U,()))else pure (ForInStep.yield (C,()))
    else pure (ForInStep.yield (C,())):Sem (ForInStep (Option Bool×Unit))))).run P w= .ok (if b then(C,())else(D U,())) w
 |[],b,h=>by
  simp[rv]at h;subst h;simp[Sem.run_pure]
 |f::d,b,h=>by
  unfold rv at h;rw[List.forIn_cons];by_cases e:f.name≠ "_"
  ·rw[if_pos e]at h;split at h
   ·rename_i a ct v z;obtain⟨x,o,m⟩:=oC v j w;obtain⟨y,p,n⟩:=oC z k w;split at h
    ·rename_i he;have i:=heq _ _ _ _ _ _ he m n;have l:=As w eq kr heq j k d b h;simp only[if_pos e,Sem.run_bind,o,p,i,Result.andThen_ok,Bool.not_true,Bool.false_eq_true,if_false,Sem.run_pure];exact l
    ·rename_i he;have i:=heq _ _ _ _ _ _ he m n;simp at h;subst h;simp only[if_pos e,Sem.run_bind,o,p,i,Result.andThen_ok,Bool.not_false,if_true,Sem.run_pure];rfl
    ·cases h
   ·cases h
  ·rw[if_neg e]at h;have l:=As w eq kr heq j k d b h;simp only[if_neg e,Sem.run_bind,Sem.run_pure,Result.andThen_ok];exact l
def IM(w:World)(e:TypeId)(n:Nat)(eq:TypeId->aa->aa->Option Bool)(kr:TypeId->Value->Value->Sem Bool)
  (heq:∀t a b x y c,eq t a b=D c->bq ρ a x->bq ρ b y->(kr t x y).run P w= .ok c w) {xs u:List aa} {s v:List Value} (m:bL ρ xs s) (p:bL ρ u v):
  ∀(k i:Nat) (b:Bool),tj P eq e n k i xs u=D b->
   (forIn (List.range' i k) ((C:Option Bool),()) (λi _=>
    (do
     let a<-part e s.toArray (i*n)
     let b<-part e v.toArray (i*n)
     let c<-kr e a b
     if(!c)=X then pure (ForInStep.done (D U,()))else pure (ForInStep.yield (C,())):Sem (ForInStep (Option Bool×Unit))))).run P w= .ok (if b then(C,())else(D U,())) w
 |0,i,b,h=>by
  simp[tj]at h;subst h;simp[Sem.run_pure]
 |k+1,i,b,h=>by
  unfold tj at h;rw[List.range'_succ,List.forIn_cons];split at h
  ·rename_i a ct z A;obtain⟨x,o,j⟩:=oC z m w;obtain⟨y,q,l⟩:=oC A p w;split at h
   ·rename_i he;have d:=heq _ _ _ _ _ _ he j l;have B:=IM w e n eq kr heq m p k (i+1) b h;simp only[Sem.run_bind,o,q,d,Result.andThen_ok,Bool.not_true,Bool.false_eq_true,if_false,Sem.run_pure];exact B
   ·rename_i he;have d:=heq _ _ _ _ _ _ he j l;simp at h;subst h;simp only[Sem.run_bind,o,q,d,Result.andThen_ok,Bool.not_false,if_true,Sem.run_pure];rfl
   ·cases h
  ·cases h
def AO(a b:List UInt8):((⟨a.toArray⟩:ByteArray)==⟨b.toArray⟩)=(a==b):=by
 have:((⟨a.toArray⟩:ByteArray)==⟨b.toArray⟩)=(a.toArray==b.toArray):=rfl;rw[this];simp
def tA(w:World):∀(d:Nat) (t:TypeId) (x y:aa) (j k:Value) (b:Bool),ln P d t x y=D b->bq ρ x j->bq ρ y k->
  (Op.equalIn d t j k).run P w= .ok b w
 |0,t,x,y,j,k,b,h,_,_=>by cases h
 |d+1,t,x,y,j,k,b,h,e,i=>by
  have n:=tA w d;unfold ln at h;unfold Op.equalIn;cases hu:P.underlying t with
  |none=>rw[hu]at h;cases h
  |some u=>
   rw[hu]at h;simp only[Sem.run_bind,run_underlying hu,Result.andThen_ok];split at h<;>(try (cases h;done))<;>(try simp only[aZ]at*)<;>(try subst_vars)<;>(try (cases e;cases i;simp;done))
   ·cases e;cases i;split at h
    ·rename_i o;subst o;simp at h;subst h;simp
    ·cases h
   ·cases e;cases i;simp[AO]
   ·cases e with|agg _ z e=>cases i with|agg _ A i=>
    split at h
    ·cases h
    ·rename_i q;have s:P.stoodInHeld t=false:=by simpa using q
     have:=As w (ln P d) (Op.equalIn d) (λt a b x y c he l m=>n t a b x y c he l m) e i _ b h;simp only[Sem.run_bind,run_program,Result.andThen_ok,s,Bool.false_eq_true,if_false];rw[<-Array.forIn_toList,this];cases b<;>simp
   ·cases e with|agg _ z e=>cases i with|agg _ A i=>
    split at h
    ·rename_i v p;have:=IM w _ v (ln P d) (Op.equalIn d) (λt a b x y c he l m=>n t a b x y c he l m) e i _ _ b h;simp only[Sem.run_bind,run_sizeOf p,Result.andThen_ok];rw[Std.Legacy.Range.forIn_eq_forIn_range'];simp only[Std.Legacy.Range.size,Nat.sub_zero,Nat.add_sub_cancel,Nat.div_one]at this ⊢;rw[this];cases b<;>simp
    ·cases h
def Oz{op:BinOp}{k:IntKind}{a b:Int}{v:aa}(h:ji op k a b=D v)(t:TypeId)(w:World):
  ∃r,(binOp op t (.int k a) (.int k b)).run P w= .ok r w/\bq ρ v r:=by
 unfold ji at h;cases op<;>simp only at h<;>(try (cases h;done))<;>(try (simp only[aZ]at h;subst h))<;>
  (try (exact⟨_,by simp only[binOp,ne_eq,not_true_eq_false,if_false,Op.intArith,Op.intBits,Op.intCmp];exact Sem.run_pure ..,by first|exact .int _ _|exact .bool _⟩))
 ·split at h
  ·cases h
  ·rename_i c;simp only[aZ]at h;subst h;exact⟨_,by simp only[binOp,ne_eq,not_true_eq_false,if_false,Op.intDiv,c];exact Sem.run_pure ..,.int _ _⟩
 ·split at h
  ·cases h
  ·rename_i c;simp only[aZ]at h;subst h;exact⟨_,by simp only[binOp,ne_eq,not_true_eq_false,if_false,Op.intDiv,c];exact Sem.run_pure ..,.int _ _⟩
def FA{op:BinOp}{k d:IntKind}{a b:Int}{v:aa}(h:rU op k a b=D v)(t:TypeId)(w:World):
  ∃r,(binOp op t (.int k a) (.int d b)).run P w= .ok r w/\bq ρ v r:=by
 unfold rU at h;split at h
 ·cases h
 ·rename_i c;cases op<;>simp only at h<;>(try (cases h;done))<;>simp only[aZ]at h<;>subst h
  ·exact⟨_,by simp only[binOp,Op.shift,if_neg c];exact Sem.run_pure ..,.int _ _⟩
  ·exact⟨_,by simp only[binOp,Op.shift,if_neg c];exact Sem.run_pure ..,.int _ _⟩
def toList_mk(a:List UInt8):(⟨a.toArray⟩:ByteArray).toList=a:=by rw[ByteArray.toList_eq]
def Pr(a b:List UInt8):(⟨a.toArray⟩++⟨b.toArray⟩:ByteArray)=⟨(a++b).toArray⟩:=by
 apply ByteArray.ext;simp
def UN{op:BinOp}{a b:List UInt8}{v:aa}(h:uV op a b=D v)(t:TypeId)(w:World):
  ∃r,(binOp op t (.string ⟨a.toArray⟩) (.string ⟨b.toArray⟩)).run P w= .ok r w/\bq ρ v r:=by
 unfold uV at h;unfold binOp;cases op<;>simp only at h<;>(try (cases h;done))<;>(try (simp only[aZ]at h;subst h))<;>
  (try (exact⟨_,by simp only[Op.stringOp,toList_mk];exact Sem.run_pure ..,.bool _⟩))
 split at h
 ·rename_i c;simp only[aZ]at h;subst h;refine⟨.string ⟨(a++b).toArray⟩,?_,.str _⟩;simp only[Op.stringOp];rw[if_neg,Pr]
  ·exact Sem.run_pure ..
  ·have e:IntKind.i64.max=9223372036854775807:=rfl;have aq:(⟨a.toArray⟩:ByteArray).size=a.length:=by show a.toArray.size=_;simp
   have aH:(⟨b.toArray⟩:ByteArray).size=b.length:=by show b.toArray.size=_;simp
   rw[e,aq,aH];omega
 ·cases h
def yA{op:BinOp}{t:TypeId}{a c:Operand}{x y:aa}{e i:Value}(h:p5 P t a c x y=X)(k:bq ρ x e)(d:bq ρ y i)(w:World):
  (eqGuard op t a c e i).run P w= .ok () w:=by
 have j:a.vF||c.vF=X->(eqGuard op t a c .nilIface .nilIface).run P w= .ok () w:=by
  intro h;cases op<;>first
   |rfl
   |(cases a<;>cases c<;>first|rfl|(simp[Operand.vF]at h;done))
 cases k with
 |nilIface=>
  cases d with
  |nilIface=>
   refine j ?_;simp only[p5]at h;cases a<;>cases c<;>simp_all[isConst,Operand.vF]
  |_=>cases op<;>rfl
 |agg cs xs m=>
  cases d with
  |agg l o n=>
   simp only[p5,Bool.not_eq_true']at h;cases op<;>first|rfl|simp[eqGuard,h]
  |_=>cases op<;>rfl
 |_=>cases d<;>cases op<;>rfl
def binOp_eql{x y:aa}{c d:Value}(h:bq ρ x c)(i:bq ρ y d)(e:∀k a j b,x= .int k a->y= .int j b->False)(ar:∀a b,x= .str a->y= .str b->False)(t:TypeId):
  binOp .eql t c d=(do pure (.bool (<-Op.equal t c d)))/\binOp .neq t c d=(do pure (.bool (!(<-Op.equal t c d)))):=by
 cases h<;>cases i<;>first
  |exact⟨rfl,rfl⟩
  |exact(e _ _ _ _ rfl rfl).elim
  |exact(ar _ _ rfl rfl).elim
def Lo{op:BinOp}{t:TypeId}{l m:Operand}{x y v:aa}{i j:Value}(h:th P op t l m x y=D v)(c:bq ρ x i)(d:bq ρ y j)(w:World):
  ∃r,((do eqGuard op t l m i j;binOp op t i j:Sem Value)).run P w= .ok r w/\bq ρ v r:=by
 have yS:∀k a e b,(eqGuard op t l m (.int k a) (.int e b)).run P w= .ok () w:=λk a e b=>yA (ρ:=ρ) (x:= .int k a) (y:= .int e b) rfl (.int _ _) (.int _ _) w
 have yT:∀a b,(eqGuard op t l m (.string ⟨a⟩) (.string ⟨b⟩)).run P w= .ok () w:=λa b=>by
  unfold eqGuard;split<;>rfl
 unfold th at h;split at h
 ·cases c;cases d;rename_i k a e b;simp only[Sem.run_bind,yS,Result.andThen_ok];split at h
  ·exact FA h t w
  ·exact FA h t w
  ·split at h
   ·rename_i s;subst s;exact Oz h t w
   ·cases h
 ·cases c;cases d;simp only[Sem.run_bind,yT,Result.andThen_ok];exact UN h t w
 ·rename_i u z;obtain⟨aq,aH⟩:=binOp_eql c d (λk a e b n o=>u _ _ _ _ n o) (λa b n o=>z _ _ n o) t;split at h
  ·split at h
   ·rename_i q;rw[Sem.run_bind,yA q c d w,Result.andThen_ok];simp only[Option.map_eq_some_iff]at h;obtain⟨b,p,rfl⟩:=h;have he:(Op.equal t i j).run P w= .ok b w:=tA (ρ:=ρ) w _ _ _ _ _ _ _ p c d;exact⟨.bool b,by rw[aq,Sem.run_bind,he];rfl,.bool b⟩
   ·cases h
  ·split at h
   ·rename_i q;rw[Sem.run_bind,yA q c d w,Result.andThen_ok];simp only[Option.map_eq_some_iff]at h;obtain⟨b,p,rfl⟩:=h;have he:(Op.equal t i j).run P w= .ok b w:=tA (ρ:=ρ) w _ _ _ _ _ _ _ p c d;exact⟨.bool (!b),by rw[aH,Sem.run_bind,he];rfl,.bool _⟩
   ·cases h
  ·cases h
def Mo{op:UnOp}{x v:aa}{c:Value}(h:fD op x=D v)(a:bq ρ x c)(w:World):∃r,(Op.unary op c).run P w= .ok r w/\bq ρ v r:=by
 unfold fD at h;split at h
 ·cases a;simp only[aZ]at h;subst h;exact⟨_,by simp only[Op.unary,Op.intArith];exact Sem.run_pure ..,.int _ _⟩
 ·cases a;simp only[aZ]at h;subst h;exact⟨_,by simp only[Op.unary];exact Sem.run_pure ..,.bool _⟩
 ·cases h
end
section
variable {P:Program}{ρ:Env}{H:af}{w:World}
def jr(c:Array Value)(o:Nat):List Value->Array Value
 |[]=>c
 |v::r=>jr (c.setIfInBounds o v) (o+1) r
def uw:∀(a:List Value) (c:Array Value) (o:Nat),(jr c o a).size=c.size
 |[],_,_=>rfl
 |v::r,c,o=>by rw[jr,uw r];simp
def sj:∀(a:List Value) (c:Array Value) (o k:Nat),k<o\/o+a.length<=k->(jr c o a)[k]? =c[k]?
 |[],_,_,_,_=>rfl
 |v::r,c,o,k,h=>by
  rw[jr,sj r _ _ _ (by simp at h;omega)];rw[Array.getElem?_setIfInBounds];have:¬o=k:=by simp at h;omega
  simp[this]
def wC:∀(a:List Value) (c:Array Value) (o j:Nat) (x:Value),a[j]? =D x->o+j<c.size->(jr c o a)[o+j]? =D x
 |[],_,_,_,_,h,_=>by simp at h
 |v::r,c,o,0,x,h,d=>by
  simp at h;subst h;rw[jr,sj r _ _ _ ae,Array.getElem?_setIfInBounds];simp;omega
 |v::r,c,o,j+1,x,h,d=>by
  rw[jr,show o+(j+1)=o+1+j by omega];exact wC r _ _ _ _ (by simpa using h) (by simp;omega)
def uN(b:Nat):∀(d:List Value) (o:Nat) (w:World) (c:Array Value) (t:TypeId) (a:Nat×Nat),w.heap[b]? =D (.cells c t a)->
  (w.setCells b o d).heap[b]? =D (.cells (jr c o d) t a)
 |[],_,_,_,_,_,h=>h
 |v::r,o,w,c,t,a,h=>by
  rw[World.setCells,jr];refine uN b r (o+1) _ _ t a ?_;simp[World.setCell,Array.getElem?_modify,h]
def mX(b:Nat):∀(a:List Value) (o:Nat) (w:World) (k:Nat),k≠b->(w.setCells b o a).heap[k]? =w.heap[k]?
 |[],_,_,_,_=>rfl
 |v::r,o,w,k,h=>by
  rw[World.setCells,mX b r _ _ _ h];simp[World.setCell,Array.getElem?_modify,Ne.symm h]
def AA(b:Nat):∀(e:List Value) (o:Nat) (w:World),(w.setCells b o e).heap.size=w.heap.size/\(w.setCells b o e).os=w.os/\(w.setCells b o e).tape=w.tape/\(w.setCells b o e).output=w.output
 |[],_,_=>⟨rfl,rfl,rfl,rfl⟩
 |v::r,o,w=>by
  rw[World.setCells];obtain⟨a,b,c,d⟩:=AA b r (o+1) (w.setCell ⟨b,o,C⟩ v);exact⟨a.trans (by simp[World.setCell]),b,c,d⟩
def gD.cell{loc:Loc}{ro:Bool}{esz:Nat}{els:List (List aa)}(h:gD ρ w loc ro esz els){i:Nat}{e:List aa}(he:els[i]? =D e){j:Nat}{v:aa}(m:e[j]? =D v):
  ∃x,w.cell? ⟨loc.block,loc.off+i*loc.esz+j,C⟩=D x/\bq ρ v x/\v.one=true:=by
 obtain⟨rfl,c,t,n,l,_,a⟩:=h;obtain⟨_,d⟩:=a i e he;obtain⟨k,x,d,a⟩:=d j v m;exact⟨x,by simp[World.cell?,l,d],a,k⟩
def ao(P:Program)(H:af)(t:TypeId)(a:aa):Option aa:=
 match a with
 | .ptr l i c=>
  (match H.get l with
  |some (.row _ esz els)=>
   (match els[i]?,eH P t with
   |some e,D U=>e[c]?
   |some e,D X=>(match cQ P t with|some n=>if c+n<=esz then D (.agg ((e.drop c).take n))else C|none=>C)
   |_,_=>C)
  |some (.ck _ esz els)=>
   (match els[i]?,eH P t with
   |some e,D U=>e[c]?
   |some e,D X=>(match cQ P t with|some n=>if c+n<=esz then D (.agg ((e.drop c).take n))else C|none=>C)
   |_,_=>C)
  |_=>C)
 |_=>C
def l7(b o j:Nat):(⟨b,o,C⟩:Addr).add j=⟨b,o+j,C⟩:=by
 unfold Addr.add;split<;>simp_all
def BU{loc:Loc}{l i c:Nat}{ro:Bool}{esz:Nat}{els:List (List aa)}(K:ρ l=D loc)(s:gD ρ w loc ro esz els){t:TypeId}{v:aa}
 (h:(match els[i]?,eH P t with
  |some e,D U=>e[c]?
  |some e,D X=>(match cQ P t with|some n=>if c+n<=esz then D (.agg ((e.drop c).take n))else C|none=>C)
  |_,_=>C)=D v):
 ∃r,(Instr.loadAt t (.pointer (D ⟨loc.block,loc.off+i*loc.esz+c,C⟩))).run P w= .ok r w/\bq ρ v r:=by
  split at h
  ·rename_i e he k;obtain⟨x,q,u,_⟩:=s.cell he h;refine⟨x,?_,u⟩;simp[Instr.loadAt,Instr.sureAddr,loadVar,wL k,run_load,q]
  ·rename_i e he k;split at h
   ·rename_i n z;split at h
    ·rename_i hle;simp only[aZ]at h;subst h;have hlen:e.length=esz:=by obtain⟨_,c',L,G,_,_,E⟩:=s;exact(E i e he).1
     have hex:∃xs:List Value,xs.length=n/\bL ρ ((e.drop c).take n) xs/\∀j y,xs[j]? =D y->w.cell? ⟨loc.block,loc.off+i*loc.esz+c+j,C⟩=D y:=by
      clear k z
      induction n with
      |zero=>exact⟨[],rfl,by simpa using bL.nil,λj y a=>by simp at a⟩
      |succ n F=>
       obtain⟨xs,d,o,p⟩:=F ae;have A:c+n<e.length:=ae;obtain⟨x,q,u,_⟩:=s.cell he (j:=c+n) (v:=e[c+n]) (by simp[A]);refine⟨xs++[x],by simp[d],?_,?_⟩
       ·rw[List.take_succ_eq_append_getElem (by simp;omega)];refine o.append (.cons _ _ _ _ ?_ .nil);simpa using u
       ·intro j y a;by_cases B:j<xs.length
        ·rw[List.getElem?_append_left B]at a;exact p j y a
        ·rw[List.getElem?_append_right ae]at a;have:j=n:=by
          by_cases H:j-xs.length=0
          ·omega
          ·obtain⟨m,hm⟩:∃m,j-xs.length=m+1:=⟨j-xs.length-1,ae⟩;rw[hm]at a;simp at a
         subst this;simp[d]at a;subst a;rw[<-q,Nat.add_assoc]
     obtain⟨xs,d,o,p⟩:=hex;refine⟨.agg xs.toArray,?_,.agg _ _ o⟩;have:=run_loadCells_list (P:=P) w ⟨loc.block,loc.off+i*loc.esz+c,C⟩ xs (λj y a=>by rw[l7];exact p j y a);rw[d]at this;simp[Instr.loadAt,Instr.sureAddr,loadVar,wL k,run_sizeOf z,this]
    ·cases h
   ·cases h
  ·cases h
def x9(n:Rel ρ H w){t:TypeId}{a v:aa}{x:Value}(h:ao P H t a=D v)(o:bq ρ a x):
  ∃r,(Instr.loadAt t x).run P w= .ok r w/\bq ρ v r:=by
 unfold ao at h;split at h
 ·rename_i l i c;cases o with|ptr _ _ _ loc d=>
  split at h
  ·rename_i ro esz els e;obtain⟨m,j,k⟩:=n.row _ _ _ _ e;obtain rfl:loc=m:=Option.some.inj (d.symm.trans j);exact BU d k h
  ·rename_i p esz els e;obtain⟨m,j,k,-⟩:=n.ck _ _ _ _ e;obtain rfl:loc=m:=Option.some.inj (d.symm.trans j);exact BU d k h
  ·cases h
 ·cases h
def eg(ot:Option TypeId)(esz:Nat)(els:List (List aa)):cb:=match ot with
 |none=> .row U esz els
 |some t=> .ck t esz els
def zv(ot:Option TypeId)(esz:Nat)(els:List (List aa)):(eg ot esz els).tM=false:=by cases ot<;>rfl
def zw{ot:Option TypeId}{esz c:Nat}{els a:List (List aa)}{ro:Bool}(h:eg ot esz els= .row ro c a):ro=U/\esz=c/\els=a/\ot=none:=by
 cases ot<;>cases h;exact⟨rfl,rfl,rfl,rfl⟩
def zx{ot:Option TypeId}{esz c:Nat}{els a:List (List aa)}{t:TypeId}(h:eg ot esz els= .ck t c a):ot=D t/\esz=c/\els=a:=by
 cases ot<;>cases h;exact⟨rfl,rfl,rfl⟩
def zu{ot:Option TypeId}{esz:Nat}{els:List (List aa)}{es:List (aa×aa)}(h:eg ot esz els= .map es):False:=by cases ot<;>cases h
def qh{H:af}{l:Nat}{ot:Option TypeId}{esz:Nat}{els:List (List aa)}(h:H.get l=D (eg ot esz els)):H.rw l:=by
 cases ot with
 |none=>exact .inl ⟨_,_,h⟩
 |some t=>exact .inr (.inr ⟨_,_,_,h⟩)
def vY(d:Rel ρ H w){l:Nat}{ot:Option TypeId}{esz:Nat}{els:List (List aa)}(h:H.get l=D (eg ot esz els)):∃loc,ρ l=D loc/\gD ρ w loc U esz els/\∀t,ot=D t->∃c e,w.heap[loc.block]? =D (.cells c t e)/\loc.off=0:=by
 cases ot with
 |none=>obtain⟨loc,a,b⟩:=d.row _ _ _ _ h;exact⟨loc,a,b,λt h=>by cases h⟩
 |some t=>obtain⟨loc,a,b,c⟩:=d.ck _ _ _ _ h;exact⟨loc,a,b,λt h=>by cases h;exact c⟩
def c8(e:List aa)(c:Nat)(cs:List aa):List aa:=e.take c++cs++e.drop (c+cs.length)
def Jl{e:List aa}{c:Nat}{cs:List aa}(h:c+cs.length<=e.length):(c8 e c cs).length=e.length:=by
 simp[c8];omega
def Jk{e:List aa}{c:Nat}{cs:List aa}(h:c+cs.length<=e.length){j:Nat}(a:c<=j)(d:j<c+cs.length):(c8 e c cs)[j]? =cs[j-c]? :=by
 unfold c8;rw[List.append_assoc,List.getElem?_append_right (by simp;omega),List.getElem?_append_left (by simp;omega)]
 congr 1;simp;omega
def Jm{e:List aa}{c:Nat}{cs:List aa}(h:c+cs.length<=e.length){j:Nat}(a:j<c\/c+cs.length<=j):(c8 e c cs)[j]? =e[j]? :=by
 unfold c8;rcases a with a|a
 ·rw[List.append_assoc,List.getElem?_append_left (by simp;omega),List.getElem?_take_of_lt a]
 ·rw[List.getElem?_append_right (by simp;omega),List.getElem?_drop]
  congr 1;simp;omega
def tX{a b n:Nat}(h:a<b):a*n+n<=b*n:=by
 have:=Nat.mul_le_mul_right n (Nat.succ_le_of_lt h);rw[Nat.succ_mul]at this;exact this
def Bh(p:Rel ρ H w){ot:Option TypeId}{l esz:Nat}{els:List (List aa)}(s:H.get l=D (eg ot esz els)){loc:Loc}(z:ρ l=D loc){i:Nat}{e:List aa}(he:els[i]? =D e)
  {c:Nat} {cs:List aa} {xs:List Value} (aS:c+cs.length<=esz) (u:∀v∈cs,v.one=X) (ak:bL ρ cs xs):
  Step ρ H w ρ (H.set l (eg ot esz (els.set i (c8 e c cs)))) (w.setCells loc.block (loc.off+i*loc.esz+c) xs):=by
 have Q:=af.a6 s;obtain⟨d,k,⟨y,arr,t,G,L,aC,M⟩,aJ⟩:=vY p s;obtain rfl:loc=d:=Option.some.inj (z.symm.trans k);have aB:=(M i e he).1;have aD:i<els.length:=by
  rcases Nat.lt_or_ge i els.length with h|h
  ·exact h
  ·rw[List.getElem?_eq_none h]at he;cases he
 have am:=ak.length;have R:∀l' d,H.live l'->l'≠l->ρ l'=D d->d.block≠loc.block:=λl' d h a8 k heq=>
  p.apart l l' loc d (qh s) h (Ne.symm a8) z k heq.symm
 have aj:∀l',(H.set l (eg ot esz (els.set i (c8 e c cs)))).rw l'->H.rw l':=by
  intro l' h;by_cases a:l=l'
  ·subst a;exact qh s
  ·simpa [af.rw,af.get_set_other a]using h
 have aH:∀l',(H.set l (eg ot esz (els.set i (c8 e c cs)))).live l'->H.live l':=by
  intro l' h;by_cases a:l=l'
  ·subst a;exact(qh s).live
  ·simpa [af.live,af.get_set_other a]using h
 obtain⟨s1,s2,fX,k5⟩:=AA loc.block xs (loc.off+i*loc.esz+c) w;have ai:gD ρ (w.setCells loc.block (loc.off+i*loc.esz+c) xs) loc U esz (els.set i (c8 e c cs))/\∃N G,(w.setCells loc.block (loc.off+i*loc.esz+c) xs).heap[loc.block]? =D (.cells N t G):= ?new;refine⟨ρ.le_refl,bo _,λ_ _=>rfl,⟨?_,?_,?_,?_⟩,s2,fX,k5,Nat.le_of_eq s1.symm,?_,?_,af.Iz (zv _ _ _)⟩
 case new=>
  refine⟨⟨y,_,t,G,uN _ _ _ _ _ _ _ L,?_,?_⟩,_,G,uN _ _ _ _ _ _ _ L⟩
  ·rw[uw];exact aC
  ·intro an ab q;rw[List.getElem?_set]at q;by_cases P:i=an
   ·subst P;rw[if_pos rfl,if_pos aD]at q;simp only[aZ]at q;subst q;have T:c+cs.length<=e.length:=ae;refine⟨by rw[Jl T];exact aB,?_⟩;intro j v m;by_cases ah:c<=j/\j<c+cs.length
    ·rw[Jk T ah.1 ah.2]at m;obtain⟨x,B,A⟩:=ak.get _ _ m;refine⟨u v (List.mem_of_getElem? m),x,?_,A⟩;have az:=(M i e he).2 j (e[j]'ae) (by simp);obtain⟨_,ag,al,_⟩:=az;have aV:loc.off+i*esz+j<arr.size:=by
      rcases Nat.lt_or_ge (loc.off+i*esz+j) arr.size with h|h
      ·exact h
      ·rw[Array.getElem?_eq_none h]at al;cases al
     have:=wC xs arr (loc.off+i*loc.esz+c) (j-c) x B (by rw[y];omega);rw[show loc.off+i*esz+j=loc.off+i*loc.esz+c+(j-c) by rw[y];omega];exact this
    ·rw[Jm T ae]at m;obtain⟨aT,x,B,A⟩:=(M i e he).2 j v m;refine⟨aT,x,?_,A⟩;rw[sj _ _ _ _ (by rw[y,<-am];omega)];exact B
   ·rw[if_neg P]at q;obtain⟨a0,aT⟩:=M an ab q;refine⟨a0,λj v m=> ?_⟩;obtain⟨ap,x,B,A⟩:=aT j v m;refine⟨ap,x,?_,A⟩;have aU:j<esz:=by
     rcases Nat.lt_or_ge j ab.length with h|h
     ·omega
     ·rw[List.getElem?_eq_none h]at m;cases m
    rw[sj _ _ _ _ ?_]
    ·exact B
    ·rw[y,<-am];rcases Nat.lt_or_gt_of_ne P with h|h
     ·have:=tX (n:=esz) h;omega
     ·have:=tX (n:=esz) h;omega
 ·intro l' aW av au h;by_cases a:l=l'
  ·subst a;rw[af.get_set_same Q]at h;obtain⟨rfl,rfl,rfl,-⟩:=zw (Option.some.inj h);exact⟨loc,z,ai.1⟩
  ·rw[af.get_set_other a]at h;obtain⟨d,k,S⟩:=p.row _ _ _ _ h;refine⟨d,k,?_⟩;have o:=R l' d (.inl ⟨_,_,_,h⟩) (Ne.symm a) k;obtain⟨V,c',ao,K,E,F,W⟩:=S;exact⟨V,c',ao,K,by rw[mX _ _ _ _ _ o];exact E,F,W⟩
 ·intro l' es h;by_cases a:l=l'
  ·subst a;rw[af.get_set_same Q]at h;exact(zu (Option.some.inj h)).elim
  ·rw[af.get_set_other a]at h;obtain⟨d,k,S⟩:=p.map _ _ h;have o:=R l' d (.inr (.inl ⟨_,h⟩)) (Ne.symm a) k;obtain⟨ents,clock,E,F⟩:=S;exact⟨d,k,ents,clock,by rw[mX _ _ _ _ _ o];exact E,F⟩
 ·intro l' ao av au h;by_cases a:l=l'
  ·subst a;rw[af.get_set_same Q]at h;obtain⟨ar,rfl,rfl⟩:=zx (Option.some.inj h);obtain⟨c',K,ad,ax⟩:=aJ _ ar;rw[L]at ad;cases ad;obtain⟨aO,N,f1,n2⟩:=ai;exact⟨loc,z,aO,N,f1,n2,ax⟩
  ·rw[af.get_set_other a]at h;obtain⟨d,k,⟨V,c',aR,K,E,F,W⟩,aq,aw,aP,aQ⟩:=p.ck _ _ _ _ h;have o:=R l' d (.inr (.inr ⟨_,_,_,h⟩)) (Ne.symm a) k;exact⟨d,k,⟨V,c',aR,K,by rw[mX _ _ _ _ _ o];exact E,F,W⟩,aq,aw,by rw[mX _ _ _ _ _ o];exact aP,aQ⟩
 ·intro aK aL aM aN u O o aE aF;exact p.apart aK aL aM aN (aj _ u) (aH _ O) o aE aF
 ·intro b L aI;refine mX _ _ _ _ _ ?_;rintro rfl;exact aI ⟨l,loc,qh s,z,rfl⟩
 ·rintro b ⟨l',d,u,O,ay⟩;exact .inl ⟨l',d,aj _ u,O,ay⟩
def ba(P:Program)(H:af)(t:TypeId)(a v:aa):Option af:=
 match a with
 | .ptr l i c=>
  (match H.get l with
  |some (.row U esz els)=>
   (match els[i]? with
   |some e=>if cQ P t=D v.cells.length/\c+v.cells.length<=esz/\v.cells.all aa.one=X then D (H.set l (.row U esz (els.set i (c8 e c v.cells))))else C
   |none=>C)
  |some (.ck d esz els)=>
   (match els[i]? with
   |some e=>if cQ P t=D v.cells.length/\c+v.cells.length<=esz/\v.cells.all aa.one=X then D (H.set l (.ck d esz (els.set i (c8 e c v.cells))))else C
   |none=>C)
  |_=>C)
 |_=>C
def B8(k:Rel ρ H w){ot:Option TypeId}{l i c esz:Nat}{els:List (List aa)}(n:H.get l=D (eg ot esz els)){loc:Loc}(p:ρ l=D loc){e:List aa}(he:els[i]? =D e){t:TypeId}{v:aa}{y:Value}(R:bq ρ v y)
  (ar:cQ P t=D v.cells.length) (B:c+v.cells.length<=esz) (L:v.cells.all aa.one=X):
  ∃A,(Instr.storeAt t (.pointer (D ⟨loc.block,loc.off+i*loc.esz+c,C⟩)) y).run P w= .ok () A/\Step ρ H w ρ (H.set l (eg ot esz (els.set i (c8 e c v.cells)))) A:=by
 have q:∀u∈v.cells,u.one=true:=by simpa using L
 have d:=R.cells;refine⟨_,?_,Bh k n p he B q d⟩;obtain⟨S,G,x,-⟩:=vY k n;obtain rfl:loc=S:=Option.some.inj (p.symm.trans G);have hlen:=d.length;have ab:=x;obtain⟨E,arr,ad,V,m,F,s⟩:=x;have W:=(s i e he).1;have z:∀j,j<y.cells.toList.length->∃u,arr[loc.off+i*loc.esz+c+j]? =D u:=by
  intro j a;obtain⟨_,u,hu,_⟩:=(s i e he).2 (c+j) (e[c+j]'ae) (by simp);exact⟨u,by rw[E,Nat.add_assoc];exact hu⟩
 have M:=run_storeCells_cells (P:=P) loc.block (loc.off+i*loc.esz+c) y.cells.toList 0 w
  (λj a=>by obtain⟨u,hu⟩:=z j a;simp[World.cell?,m,hu])
  (λj a=>by
   obtain⟨u,hu⟩:=z j a;have K:loc.off+i*loc.esz+c+j<arr.size:=by
    rcases Nat.lt_or_ge (loc.off+i*loc.esz+c+j) arr.size with h|h
    ·exact h
    ·rw[Array.getElem?_eq_none h]at hu;cases hu
   have:=F.2 rfl _ K;simp only[World.frozen?,m,Nat.add_zero];simpa using this)
  (λu hu=>by
   obtain⟨j,a⟩:=List.getElem?_of_mem hu;have o:j<v.cells.length:=by
    rcases Nat.lt_or_ge j y.cells.toList.length with h|h
    ·omega
    ·rw[List.getElem?_eq_none h]at a;cases a
   obtain⟨T,O,Q⟩:=d.get j _ (List.getElem?_eq_getElem o);obtain rfl:u=T:=Option.some.inj (a.symm.trans O);exact Q.zJ (q _ (List.getElem_mem o)))
 have N:y.cells.size=v.cells.length:=by rw[hlen];simp
 simp only[Instr.storeAt,Instr.sureAddr,Sem.run_bind,Sem.run_pure,Result.andThen_ok,storeVar,run_sizeOf ar,N,ne_eq,not_true_eq_false,if_false];simpa using M
def Mm(n:Rel ρ H w){t:TypeId}{a v:aa}{x y:Value}{H':af}(h:ba P H t a v=D H')(s:bq ρ a x)(p:bq ρ v y):
  ∃q,(Instr.storeAt t x y).run P w= .ok () q/\Step ρ H w ρ H' q:=by
 unfold ba at h;split at h
 ·rename_i l i c;cases s with|ptr _ _ _ loc o=>
  split at h
  ·rename_i esz els k;split at h
   ·rename_i e he;split at h
    ·rename_i j;obtain⟨ar,d,m⟩:=j;simp only[aZ]at h;subst h;exact B8 n (ot:=none) k o he p ar d m
    ·cases h
   ·cases h
  ·rename_i u esz els k;split at h
   ·rename_i e he;split at h
    ·rename_i j;obtain⟨ar,d,m⟩:=j;simp only[aZ]at h;subst h;exact B8 n (ot:=some u) k o he p ar d m
    ·cases h
   ·cases h
  ·cases h
 ·cases h
end
def Env.fe(ρ:Env)(l:Nat)(loc:Loc):Env:=λk=>if k=l then D loc else ρ k
def Env.iK(ρ:Env)(l:Nat)(loc:Loc):ρ.fe l loc l=D loc:=by simp[Env.fe]
def Env.jf{ρ:Env}{l k:Nat}{loc:Loc}(h:k≠l):ρ.fe l loc k=ρ k:=by simp[Env.fe,h]
def Env.tN{ρ:Env}{l:Nat}(h:ρ l=C)(loc:Loc):ρ.le (ρ.fe l loc):=by
 intro k x a;by_cases e:k=l
 ·subst e;rw[h]at a;cases a
 ·rw[Env.jf e];exact a
section
variable {P:Program}{ρ:Env}{H:af}{w:World}
def heap_alloc_old(w:World)(o:Obj){k:Nat}(h:k<w.heap.size):(w.alloc o).heap[k]? =w.heap[k]? :=by
 show(w.heap.push o)[k]? =_;rw[Array.getElem?_push,if_neg ae]
def heap_alloc_new(w:World)(o:Obj):(w.alloc o).heap[w.heap.size]? =D o:=by
 show(w.heap.push o)[w.heap.size]? =_;simp
def Og(w:World)(o:Obj):(w.alloc o).heap.size=w.heap.size+1:=by
 show(w.heap.push o).size=_;simp
def kV{w:World}{k:Nat}{o:Obj}(h:w.heap[k]? =D o):k<w.heap.size:=by
 rcases Nat.lt_or_ge k w.heap.size with a8|a8
 ·exact a8
 ·rw[Array.getElem?_eq_none a8]at h;cases h
def yH{esz:Nat}:∀{els:List (List aa)},(∀e∈els,e.length=esz)->∀{i:Nat} {e:List aa},els[i]? =D e->∀{j:Nat} {v:aa},e[j]? =D v->els.flatten[i*esz+j]? =D v
 |[],_,_,_,h,_,_,_=>by simp at h
 |d::els,c,0,e,h,j,v,a=>by
  simp at h;subst h;have k:j<d.length:=by
   rcases Nat.lt_or_ge j d.length with h|h
   ·exact h
   ·rw[List.getElem?_eq_none h]at a;cases a
  simp only[List.flatten_cons,Nat.zero_mul,Nat.zero_add];rw[List.getElem?_append_left k];exact a
 |d::els,c,i+1,e,h,j,v,a=>by
  have l:d.length=esz:=c d (by simp);have:=yH (els:=els) (λe he=>c e (List.mem_cons_of_mem _ he)) (i:=i) (by simpa using h) a;simp only[List.flatten_cons];rw[List.getElem?_append_right (by rw[Nat.succ_mul];omega)];rw[<-this];congr 1;rw[Nat.succ_mul];omega
def IU{H:af}{b:cb}{l:Nat}(h:(H.push b).rw l):l=H.next\/H.rw l:=by
 by_cases e:l=H.next
 ·exact .inl e
 ·exact .inr (by simpa [af.rw,af.dS e]using h)
def Gg{H:af}{b:cb}{l:Nat}(h:(H.push b).live l):l=H.next\/H.live l:=by
 by_cases e:l=H.next
 ·exact .inl e
 ·exact .inr (by simpa [af.live,af.dS e]using h)
def Rel.MG(i:Rel ρ H w){l:Nat}(h:H.live l){loc:Loc}(j:ρ l=D loc):loc.block<w.heap.size:=by
 rcases h with⟨ro,esz,els,h⟩|⟨es,h⟩|⟨t,esz,els,h⟩
 ·obtain⟨e,d,_,c,t,k,a,_⟩:=i.row _ _ _ _ h;obtain rfl:loc=e:=Option.some.inj (j.symm.trans d);exact kV a
 ·obtain⟨e,d,ents,clock,a,_⟩:=i.map _ _ h;obtain rfl:loc=e:=Option.some.inj (j.symm.trans d);exact kV a
 ·obtain⟨e,d,_,c,k,a,_⟩:=i.ck _ _ _ _ h;obtain rfl:loc=e:=Option.some.inj (j.symm.trans d);exact kV a
def vQ{H:af}{l:Nat}(h:H.live l):l<H.next:=by
 rcases h with⟨_,_,_,h⟩|⟨_,h⟩|⟨_,_,_,h⟩<;>exact af.a6 h
def gD.frame{e:Env}{a:World}{loc:Loc}{ro:Bool}{esz:Nat}{els:List (List aa)}(h:gD ρ w loc ro esz els)(hle:ρ.le e)(o:a.heap[loc.block]? =w.heap[loc.block]?):gD e a loc ro esz els:=by
 obtain⟨s,c,t,k,p,u,y⟩:=h;refine⟨s,c,t,k,by rw[o];exact p,u,?_⟩;intro i d q;obtain⟨l,m⟩:=y i d q;refine⟨l,λj v z=> ?_⟩;obtain⟨n,x,B,A⟩:=m j v z;exact⟨n,x,B,A.mono hle⟩
def gD.lt{loc:Loc}{ro:Bool}{esz:Nat}{els:List (List aa)}(h:gD ρ w loc ro esz els):loc.block<w.heap.size:=by
 obtain⟨_,c,t,a,p,_⟩:=h;exact kV p
def ou.frame{e:Env}{d:World}{loc:Loc}{t:TypeId}{esz:Nat}{els:List (List aa)}(h:ou ρ w loc t esz els)(hle:ρ.le e)(a:d.heap[loc.block]? =w.heap[loc.block]?):ou e d loc t esz els:=by
 obtain⟨j,c,i,k,l⟩:=h;exact⟨j.frame hle a,c,i,by rw[a];exact k,l⟩
def HZ(i:Rel ρ H w)(v:ρ H.next=C)(b:cb)(A:b.tM=U)(o:Obj)(loc:Loc)(K:loc.block=w.heap.size)
  (B:∀ro esz els,b= .row ro esz els->gD (ρ.fe H.next loc) (w.alloc o) loc ro esz els) (z:∀es,b= .map es->xQ (ρ.fe H.next loc) (w.alloc o) loc es) (E:∀t esz els,b= .ck t esz els->ou (ρ.fe H.next loc) (w.alloc o) loc t esz els):
  Step ρ H w (ρ.fe H.next loc) (H.push b) (w.alloc o):=by
 have hle:=Env.tN v loc;have s:∀l d,H.live l->ρ.fe H.next loc l=D d->d.block<w.heap.size:=λl d h a8=>by
  have n:l≠H.next:=by
   rintro rfl;have:=vQ h;omega
  rw[Env.jf n]at a8;exact i.MG h a8
 refine⟨hle,by simp,λl y=>Env.jf (by simp at y;omega),⟨?_,?_,?_,?_⟩,rfl,rfl,rfl,by rw[Og];omega,λk x _=>heap_alloc_old w o x,?_,af.Iy A⟩
 ·intro l ro esz els h;by_cases e:l=H.next
  ·subst e;rw[af.bY]at h;exact⟨loc,Env.iK _ _ _,B _ _ _ (Option.some.inj h)⟩
  ·rw[af.dS e]at h;obtain⟨d,j,m⟩:=i.row _ _ _ _ h;exact⟨d,by rw[Env.jf e];exact j,m.frame hle (heap_alloc_old w o m.lt)⟩
 ·intro l es h;by_cases e:l=H.next
  ·subst e;rw[af.bY]at h;exact⟨loc,Env.iK _ _ _,z _ (Option.some.inj h)⟩
  ·rw[af.dS e]at h;obtain⟨d,j,ents,clock,q,c,a⟩:=i.map _ _ h;exact⟨d,by rw[Env.jf e];exact j,ents,clock,by rw[heap_alloc_old w o (kV q)];exact q,c.mono hle,a.mono hle⟩
 ·intro l t esz els h;by_cases e:l=H.next
  ·subst e;rw[af.bY]at h;exact⟨loc,Env.iK _ _ _,E _ _ _ (Option.some.inj h)⟩
  ·rw[af.dS e]at h;obtain⟨d,j,m⟩:=i.ck _ _ _ _ h;exact⟨d,by rw[Env.jf e];exact j,m.frame hle (heap_alloc_old w o m.1.lt)⟩
 ·intro l l' F G c a n aq aH;rcases IU c with rfl|c
  ·rcases Gg a with rfl|a
   ·exact absurd rfl n
   ·rw[Env.iK]at aq;obtain rfl:=Option.some.inj aq;have:=s _ _ a aH;omega
  ·rcases Gg a with rfl|a
   ·rw[Env.iK]at aH;obtain rfl:=Option.some.inj aH;have:=s _ _ c.live aq;omega
   ·have p:l≠H.next:=by
     rintro rfl;have:=vQ c.live;omega
    have n2:l'≠H.next:=by
     rintro rfl;have:=vQ a;omega
    rw[Env.jf p]at aq;rw[Env.jf n2]at aH;exact i.apart l l' F G c a n aq aH
 ·rintro k ⟨l,d,c,a,u⟩;rcases IU c with rfl|c
  ·rw[Env.iK]at a;obtain rfl:=Option.some.inj a;exact .inr ae
  ·have p:l≠H.next:=by
    rintro rfl;have:=vQ c.live;omega
   rw[Env.jf p]at a;exact .inl ⟨l,d,c,a,u⟩
def uu(p:Rel ρ H w)(d:ρ H.next=C){ot:Option TypeId}{esz:Nat}{els:List (List aa)}(hlen:∀e∈els,e.length=esz)(s:∀e∈els,∀v∈e,v.one=X)
  {xs tail:List Value} (y:bL ρ els.flatten xs) (t:TypeId) (u:∀a,ot=D a->a=t):
  Step ρ H w (ρ.fe H.next ⟨w.heap.size,0,esz,xs.length+tail.length⟩) (H.push (eg ot esz els)) (w.alloc (.cells (xs++tail).toArray t)):=by
 have key:ou (ρ.fe H.next ⟨w.heap.size,0,esz,xs.length+tail.length⟩) (w.alloc (.cells (xs++tail).toArray t)) ⟨w.heap.size,0,esz,xs.length+tail.length⟩ t esz els:=by
  refine⟨⟨rfl,_,t,(0,0),heap_alloc_new _ _,⟨by simp,λ_ o _=>by simp⟩,?_⟩,_,_,heap_alloc_new _ _,rfl⟩;intro i e he;refine⟨hlen e (List.mem_of_getElem? he),λj v k=> ?_⟩;refine⟨s e (List.mem_of_getElem? he) v (List.mem_of_getElem? k),?_⟩;obtain⟨x,c,z⟩:=y.get _ _ (yH hlen he k);refine⟨x,?_,z.mono (Env.tN d _)⟩;have q:i*esz+j<xs.length:=by
   rcases Nat.lt_or_ge (i*esz+j) xs.length with h|h
   ·exact h
   ·rw[List.getElem?_eq_none h]at c;cases c
  simp only[Nat.zero_add,List.getElem?_toArray];rw[List.getElem?_append_left q];exact c
 refine HZ p d _ (zv _ _ _) _ _ rfl ?_ (λes h=>(zu h).elim) ?_
 ·intro ro m l h;obtain⟨rfl,rfl,rfl,-⟩:=zw h;exact key.1
 ·intro a m l h;obtain⟨n,rfl,rfl⟩:=zx h;obtain rfl:=u a n;exact key
def wb:Value->Option aa
 | .bool b=>D (.bool b)
 | .int k n=>D (.int k n)
 | .string s=>D (.str s.data.toList)
 | .pointer C=>D .nilPtr
 | .slice C 0 0=>D .aA
 | .map C=>D .jo
 | .nilFunc=>D .nilFunc
 | .nilIface=>D .nilIface
 |_=>C
def ua:List Value->Option (List aa)
 |[]=>D []
 |v::r=>match wb v,ua r with
  |some a,D l=>D (a::l)
  |_,_=>C
def ud:Value->Option aa
 | .agg cs=>(ua cs.toList).map .agg
 |v=>wb v
def Hb{v:Value}{a:aa}(h:wb v=D a)(ρ:Env):bq ρ a v/\a.one=true:=by
 unfold wb at h;split at h<;>first
  |(simp only[aZ]at h;subst h;exact⟨by constructor,rfl⟩)
  |cases h
def Hc:∀{c:List Value} {as:List aa},ua c=D as->∀ρ:Env,bL ρ as c/\∀a∈as,a.one=X
 |[],as,h,ρ=>by simp[ua]at h;subst h;exact⟨.nil,by simp⟩
 |v::r,as,h,ρ=>by
  unfold ua at h;split at h
  ·rename_i a l k m;simp only[aZ]at h;subst h;obtain⟨d,e⟩:=Hb k ρ;obtain⟨i,j⟩:=Hc m ρ;exact⟨.cons _ _ _ _ d i,by simpa using⟨e,j⟩⟩
  ·cases h
def wg{v:Value}{a:aa}(h:ud v=D a)(ρ:Env):bq ρ a v:=by
 unfold ud at h;split at h
 ·simp only[Option.map_eq_some_iff]at h;obtain⟨l,c,rfl⟩:=h;have:=bq.agg _ _ (Hc c ρ).1;simpa using this
 ·exact(Hb h ρ).1
def fE(P:Program)(t:TypeId):Option aa:=(P.info? t).bind λi=>i.zero.bind ud
def oD{t:TypeId}{z:aa}(h:fE P t=D z)(w:World):∃x,(zeroValue t).run P w= .ok x w/\∀ρ:Env,bq ρ z x:=by
 unfold fE at h;simp only[dc]at h;obtain⟨i,a,x,c,d⟩:=h;exact⟨x,by simp[zeroValue,typeInfo,a,c],λρ=>wg d ρ⟩
def sb(P:Program)(t:TypeId):Option TypeId:=match P.underlying t with
 |some (.struct a)=>(match a.toList with
  |[f]=>(match P.underlying f.type with
   |some (.struct gs)=>if gs.size=2 then D t else C
   |_=>C)
  |_=>C)
 |_=>C
def G7{P:Program}{t a:TypeId}(h:sb P t=D a):a=t:=by
 unfold sb at h;split at h
 ·split at h
  ·split at h
   ·split at h
    ·exact(Option.some.inj h).symm
    ·cases h
   ·cases h
  ·cases h
 ·cases h
def ru(ot:Option TypeId)(H:af)(v:aa):Option (aa×af):=
 if v.cells.all aa.one=X then D (.ptr H.next 0 0,H.push (eg ot v.cells.length [v.cells]))else C
def BG(i:Rel ρ H w)(k:ρ H.next=C){ot:Option TypeId}{v a:aa}{x:Value}{H':af}(h:ru ot H v=D (a,H'))(n:bq ρ v x)(t:TypeId)(m:∀c,ot=D c->c=t):
  ∃r d e,(Instr.box t x).run P w= .ok r d/\bq e a r/\Step ρ H w e H' d:=by
 unfold ru at h;split at h
 ·rename_i l;simp only[aZ,cj]at h;obtain⟨rfl,rfl⟩:=h;have j:=n.cells;have ar:=uu i k (ot:=ot) (esz:=v.cells.length) (els:=[v.cells]) (by simp) (by simpa using l) (xs:=x.cells.toList) (tail:=[]) (by simpa using j) t m;refine⟨.pointer (D ⟨w.heap.size,0,C⟩),_,_,?_,?_,ar⟩
  ·simp[Instr.box,newVar,newRow]
  ·simpa using bq.ptr (ρ:=ρ.fe H.next _) H.next 0 0 _ (Env.iK _ _ _)
 ·cases h
def vd(P:Program)(H:af)(t:TypeId):Option (aa×af):=(fE P t).bind (ru (sb P t) H)
def Lm(k:Rel ρ H w)(l:ρ H.next=C){t:TypeId}{a:aa}{H':af}(h:vd P H t=D (a,H')):
  ∃r c d,(Instr.alloc t X (.tuple #[])).run P w= .ok r c/\bq d a r/\Step ρ H w d H' c:=by
 unfold vd at h;simp only[dc]at h;obtain⟨z,o,h⟩:=h;obtain⟨x,n,m⟩:=oD o w;obtain⟨r,c,d,e,i,j⟩:=BG (P:=P) k l h (m ρ) t λ_ h=>G7 h
 refine⟨r,c,d,?_,i,j⟩;simp only[Instr.alloc,Sem.run_bind,n,Result.andThen_ok];simpa [Instr.box]using e
end
section
variable {P:Program}{ρ:Env}{H:af}{w:World}
def ry(place:Nat->Option (Nat×Nat))(cells:List aa):List (Nat×aa)->Option (List aa)
 |[]=>D cells
 |(i,v)::rest=>
  match place i with
  |none=>C
  |some (off,size)=>if v.cells.length=size/\off+v.cells.length<=cells.length then ry place (c8 cells off v.cells) rest else C
def yK:∀(a:List Value) (k off:Nat) (c:Array Value),(a.zipIdx k).foldl (λcs (x:Value×Nat)=>cs.setIfInBounds (off+x.2) x.1) c=jr c (off+k) a
 |[],_,_,_=>rfl
 |v::r,k,off,c=>by
  simp only[List.zipIdx_cons,List.foldl_cons,jr];rw[yK r (k+1) off];rfl
def Jn{e:List aa}{xs:List Value}{c:Nat}{cs:List aa}{k:List Value}(he:bL ρ e xs)(n:bL ρ cs k)(h:c+cs.length<=e.length):
  bL ρ (c8 e c cs) (jr xs.toArray c k).toList:=by
 have p:=he.length;have q:=n.length;refine bL.Hj (by rw[Jl h];simp[uw,p]) ?_;intro j v x d a;by_cases o:c<=j/\j<c+cs.length
 ·rw[Jk h o.1 o.2]at d;obtain⟨i,m,l⟩:=n.get _ _ d;have:=wC k xs.toArray c (j-c) i m (by simp;omega);rw[show c+(j-c)=j by omega]at this;simp only[Array.getElem?_toList]at a;obtain rfl:x=i:=Option.some.inj (a.symm.trans this);exact l
 ·rw[Jm h ae]at d;obtain⟨i,m,l⟩:=he.get _ _ d;have:=sj k xs.toArray c j ae;simp only[Array.getElem?_toList]at a;rw[this]at a;simp only[List.getElem?_toArray]at a;obtain rfl:x=i:=Option.some.inj (a.symm.trans m);exact l
def rn(ρ:Env):List (Nat×aa)->List (Nat×Value)->Prop
 |[],[]=>True
 |(i,v)::r,(j,x)::s=>i=j/\bq ρ v x/\rn ρ r s
 |_,_=>False
def x3(place:Nat->Option (Nat×Nat)):∀(parts:List (Nat×aa)) (n:List (Nat×Value)) (cells a:List aa) (xs:List Value),rn ρ parts n->bL ρ cells xs->
  ry place cells parts=D a->∃e:List Value,Instr.fill place xs.toArray n=D e.toArray/\bL ρ a e
 |[],[],cells,a,xs,_,d,h=>by
  simp[ry]at h;subst h;exact⟨xs,rfl,d⟩
 |[],_::_,_,_,_,aF,_,_=>aF.elim
 |_::_,[],_,_,_,aF,_,_=>aF.elim
 |(i,v)::r,(j,x)::s,cells,a,xs,aF,d,h=>by
  obtain⟨rfl,u,aF⟩:=aF;unfold ry at h;unfold Instr.fill;cases l:place i with
  |none=>rw[l]at h;cases h
  |some os=>
   obtain⟨off,size⟩:=os;rw[l]at h;simp only at h;split at h
   ·rename_i k;have m:=u.cells;have w:=m.length;have y:=d.length;have q:x.cells.size=v.cells.length:=by rw[w];simp
    have ar:=Jn d m (c:=off) k.2;obtain⟨e,o,p⟩:=x3 place r s _ a _ aF ar h;refine⟨e,?_,p⟩;simp only
    rw[if_neg (by simp[q,k.1];have:=k.2;omega)];have:=yK x.cells.toList 0 off xs.toArray;rw[Nat.add_zero]at this;rw[<-Array.foldl_toList,Array.toList_zipIdx,this];simpa using o
   ·cases h
def tl(P:Program):List Field->Option (List (Nat×Nat))
 |[]=>D []
 |f::a=>match cQ P f.type,tl P a with
  |some n,D l=>D ((f.offset,n)::l)
  |_,_=>C
def BX(w:World):∀(a:List Field) (l:List (Nat×Nat)),tl P a=D l->(a.mapM (λf=>(do pure (f.offset,<-sizeOf f.type):Sem (Nat×Nat)))).run P w= .ok l w
 |[],l,h=>by simp[tl]at h;subst h;simp[Sem.run_pure]
 |f::a,l,h=>by
  unfold tl at h;split at h
  ·rename_i n l' d c;simp only[aZ]at h;subst h;have e:=BX w a l' c;rw[List.mapM_cons];simp only[Sem.run_bind,run_sizeOf d,Result.andThen_ok,Sem.run_pure,e]
  ·cases h
def cS(P:Program)(t:TypeId)(parts:List (Nat×aa)):Option aa:=
 match fE P t,P.underlying t with
 |some z,D (.struct a)=>(match tl P a.toList with|some pl=>(ry (pl[·]?) z.cells parts).map .agg|none=>C)
 |some z,D (.array _ e)=>(match cQ P e with|some n=>(ry (λi=>D (i*n,n)) z.cells parts).map .agg|none=>C)
 |_,_=>C
def Lq{t:TypeId}{parts:List (Nat×aa)}{d:List (Nat×Value)}{v:aa}(h:cS P t parts=D v)(aF:rn ρ parts d)(w:World):
  ∃x,(Instr.build t d.toArray).run P w= .ok x w/\bq ρ v x:=by
 unfold cS at h;split at h
 ·rename_i z p k hu;obtain⟨a,m,l⟩:=oD k w;split at h
  ·rename_i pl s;simp only[Option.map_eq_some_iff]at h;obtain⟨cs,j,rfl⟩:=h;obtain⟨o,c,i⟩:=x3 _ parts d z.cells cs a.cells.toList aF (l ρ).cells j;refine⟨.agg o.toArray,?_,.agg _ _ i⟩;have hm:=BX (P:=P) w p.toList pl s;have q:(p.mapM (λf=>(do pure (f.offset,<-sizeOf f.type):Sem (Nat×Nat)))).run P w= .ok pl.toArray w:=by
    rw[Array.mapM_eq_mapM_toList];simp only[Sem.run_map,hm,Result.andThen_ok]
   simp only[Instr.build,Sem.run_bind,m,Result.andThen_ok,run_underlying hu,q];have e:(λx:Nat=>(pl.toArray)[x]?)=(λx=>pl[x]?):=by funext x;simp
   simp only[e];have aH:a.cells.toList.toArray=a.cells:=by simp
   rw[aH]at c;simp[c]
  ·cases h
 ·rename_i z n e k hu;obtain⟨a,m,l⟩:=oD k w;split at h
  ·rename_i y u;simp only[Option.map_eq_some_iff]at h;obtain⟨cs,j,rfl⟩:=h;obtain⟨o,c,i⟩:=x3 _ parts d z.cells cs a.cells.toList aF (l ρ).cells j;refine⟨.agg o.toArray,?_,.agg _ _ i⟩;have aH:a.cells.toList.toArray=a.cells:=by simp
   rw[aH]at c;simp[Instr.build,m,run_underlying hu,run_sizeOf u,c]
  ·cases h
 ·cases h
def kk(esz:Nat):List (List aa)->List (Nat×aa)->Option (List (List aa))
 |els,[]=>D els
 |els,(i,v)::rest=>if v.cells.length=esz/\i<els.length/\v.cells.all aa.one=X then kk esz (els.set i v.cells) rest else C
def ti(P:Program)(H:af)(t:TypeId)(len:Nat)(parts:List (Nat×aa)):Option (aa×af):=
 match P.underlying t with
 |some (.slice e)=>
  (match cQ P e,fE P e with
  |some a,D z=>
   if len*a<=16777216/\z.cells.length=a/\z.cells.all aa.one=X then
    (match kk a (List.replicate len z.cells) parts with
    |some els=>D (.aG H.next 0 len a (D len),H.push (.row U a els))
    |none=>C)
   else C
  |_,_=>C)
 |_=>C
def oK{esz:Nat}:∀{els:List (List aa)},(∀e∈els,e.length=esz)->els.flatten.length=els.length*esz
 |[],_=>by simp
 |d::els,h=>by
  have:=oK (els:=els) (λe he=>h e (List.mem_cons_of_mem _ he));simp only[List.flatten_cons,List.length_append,this,h d (by simp),List.length_cons,Nat.succ_mul];omega
def Fp{esz:Nat}:∀{els:List (List aa)} (i:Nat) (c:List aa),(∀e∈els,e.length=esz)->c.length=esz->i<els.length->(els.set i c).flatten=c8 els.flatten (i*esz) c
 |[],_,_,_,_,h=>by simp at h
 |d::els,0,c,a,j,_=>by
  have k:=a d (by simp);simp[c8,j,<-k]
 |d::els,i+1,c,a,j,h=>by
  have k:=a d (by simp);have l:=Fp (els:=els) i c (λe he=>a e (List.mem_cons_of_mem _ he)) j (by simpa using h);simp only[List.set_cons_succ,List.flatten_cons,l];unfold c8;rw[Nat.succ_mul];have aq:List.take (i*esz+esz) (d++els.flatten)=d++els.flatten.take (i*esz):=by
   rw[List.take_append,List.take_of_length_le ae];congr 2;omega
  have aH:List.drop (i*esz+esz+c.length) (d++els.flatten)=els.flatten.drop (i*esz+c.length):=by
   rw[List.drop_append,List.drop_eq_nil_of_le ae,List.nil_append];congr 1;omega
  rw[aq,aH];simp
def B7(esz:Nat):∀(parts:List (Nat×aa)) (q:List (Nat×Value)) (els a:List (List aa)) (xs:List Value),rn ρ parts q->(∀e∈els,e.length=esz)->(∀e∈els,∀v∈e,v.one=X)->
  bL ρ els.flatten xs->kk esz els parts=D a->
   (∃m:List Value,Instr.fill (λi=>D (i*esz,esz)) xs.toArray q=D m.toArray/\bL ρ a.flatten m)/\(∀e∈a,e.length=esz)/\(∀e∈a,∀v∈e,v.one=X)/\a.length=els.length
 |[],[],els,a,xs,_,d,n,l,h=>by
  simp[kk]at h;subst h;exact⟨⟨xs,rfl,l⟩,d,n,rfl⟩
 |[],_::_,_,_,_,aF,_,_,_,_=>aF.elim
 |_::_,[],_,_,_,aF,_,_,_,_=>aF.elim
 |(i,v)::r,(j,x)::s,els,a,xs,aF,d,n,l,h=>by
  obtain⟨rfl,E,aF⟩:=aF;unfold kk at h;split at h
  ·rename_i w;obtain⟨k,o,z⟩:=w;have A:∀u∈v.cells,u.one=true:=by simpa using z
   have p:=E.cells;have F:=p.length;have G:=l.length;have y:=oK d;have hle:i*esz+v.cells.length<=els.flatten.length:=by rw[y,k];exact tX o
   have ar:=Jn l p (c:=i*esz) hle;rw[<-Fp i v.cells d k o]at ar;have g1:∀e∈els.set i v.cells,e.length=esz:=λe he=>by
    rcases List.mem_or_eq_of_mem_set he with h|rfl
    ·exact d e h
    ·exact k
   have g2:∀e∈els.set i v.cells,∀u∈e,u.one=true:=λe he=>by
    rcases List.mem_or_eq_of_mem_set he with h|rfl
    ·exact n e h
    ·exact A
   obtain⟨⟨m,aq,aH⟩,bu,cq,er⟩:=B7 esz r s _ a _ aF g1 g2 ar h;refine⟨⟨m,?_,aH⟩,bu,cq,by simpa using er⟩;unfold Instr.fill;have B:x.cells.size=v.cells.length:=by rw[F];simp
   simp only
   rw[if_neg (by simp[B,k];omega)];have:=yK x.cells.toList 0 (i*esz) xs.toArray;rw[Nat.add_zero]at this;rw[<-Array.foldl_toList,Array.toList_zipIdx,this];simpa using aq
  ·cases h
def K4(z:Array Value)(n:Nat)(c:0<z.size):((Array.range (n*z.size)).map (z[· %z.size]!))=((List.replicate n z.toList).flatten).toArray:=by
 apply Array.ext';apply List.ext_getElem?;intro k;by_cases a:k<n*z.size
 ·have d:(Array.map (λx=>z[x%z.size]!) (Array.range (n*z.size))).toList[k]? =D z[k%z.size]! :=by
   simp[a]
  rw[d];symm;simp only
  have hdiv:k/z.size<n:=by rw[Nat.div_lt_iff_lt_mul c];exact a
  have e:k%z.size<z.size:=Nat.mod_lt _ c;have key:∀(n k:Nat),k<n*z.size->(List.replicate n z.toList).flatten[k]? =z.toList[k%z.size]? :=by
   intro n
   induction n with
   |zero=>intro k h;omega
   |succ n i=>
    intro k h;rw[List.replicate_succ,List.flatten_cons];by_cases a:k<z.size
    ·rw[List.getElem?_append_left (by simpa using a),Nat.mod_eq_of_lt a]
    ·rw[List.getElem?_append_right (by simpa using a)];have:=i (k-z.size) (by rw[Nat.succ_mul]at h;omega);simp only[Array.length_toList];rw[this,<-Nat.mod_eq_sub_mod ae]
  rw[key n k a];simp[e]
 ·rw[List.getElem?_eq_none (by simp;omega),List.getElem?_eq_none (by simp;omega)]
def bL.yI{a:List aa}{xs:List Value}(h:bL ρ a xs):∀n,bL ρ (List.replicate n a).flatten (List.replicate n xs).flatten
 |0=>by simpa using bL.nil
 |n+1=>by simpa [List.replicate_succ]using h.append (bL.yI h n)
def Lp(A:Rel ρ H w)(F:ρ H.next=C){t:TypeId}{len:Nat}{parts:List (Nat×aa)}{l:List (Nat×Value)}{a:aa}{H':af}(h:ti P H t len parts=D (a,H'))(aF:rn ρ parts l):
  ∃r q v,(Instr.buildSlice t len l.toArray).run P w= .ok r q/\bq v a r/\Step ρ H w v H' q:=by
 unfold ti at h;split at h
 ·rename_i e hu;split at h
  ·rename_i c z O R;split at h
   ·rename_i B;obtain⟨hle,p,K⟩:=B;split at h
    ·rename_i els E;simp only[aZ,cj]at h;obtain⟨rfl,rfl⟩:=h;obtain⟨d,T,S⟩:=oD R w;have L:∀u∈z.cells,u.one=true:=by simpa using K
     have o:=(S ρ).cells;have j:d.cells.size=c:=by have:=o.length;rw[<-p,this];simp
     have N:=bL.yI o len;obtain⟨⟨s,k,m⟩,n,x,y⟩:=B7 c parts l _ els _ aF (λe he=>by rw[List.eq_of_mem_replicate he];exact p)
      (λe he=>by rw[List.eq_of_mem_replicate he];exact L) N E
     have ar:=uu A F (ot:=none) n x m (tail:=[]) e (λ_ h=>by cases h);have Q:s.length=len*c:=by
      rw[<-m.length,oK n,y];simp
     refine⟨.slice (D ⟨w.heap.size,0,C⟩) len len,_,_,?_,?_,ar⟩
     ·simp only[Instr.buildSlice,Sem.run_bind,run_underlying hu,Result.andThen_ok,run_sizeOf O];rw[if_neg (by show¬(len*c>2^24);omega)];by_cases i:len*c=0
      ·simp only[i,if_true,Sem.run_bind,Sem.run_pure,Result.andThen_ok];have G:(List.replicate len d.cells.toList).flatten=[]:=by
        have:((List.replicate len d.cells.toList).flatten).length=0:=by simp[j,i]
        exact List.eq_nil_of_length_eq_zero this
       rw[G]at k;have aQ:Array.range 0= #[]:=rfl;simp[k,newRow,aQ]
      ·simp only[i,if_false,Sem.run_bind,T,Result.andThen_ok,Sem.run_pure];have M:0<d.cells.size:=by
        rcases Nat.eq_zero_or_pos d.cells.size with h|h
        ·rw[j]at h;simp[h]at i
        ·exact h
       have:=K4 d.cells len M;rw[j]at this;simp only[j,this];simp[k,newRow]
     ·refine bq.aG (ρ:=ρ.fe H.next _) H.next 0 len (D len) ⟨w.heap.size,0,c,s.length+0⟩ _ len (Env.iK _ _ _) (bo _) (by simp) (λ_=>⟨by simp,?_⟩)
      simp[Q]
    ·cases h
   ·cases h
  ·cases h
 ·cases h

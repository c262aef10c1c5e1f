/-
  Texts of one proof, laid together: Hv0 Hv1 Hv2 Hv3 Hv4 Hv5 Hv6 Hv7.
-/
import GoSem.Dispatch
import Derived.WalkKit
import Derived.Laws.IdiomCopy
set_option linter.unusedVariables false
set_option linter.unusedSimpArgs false
set_option linter.defProp false
open Option renaming some→D,none→I
open Bool renaming true→C,false→Z
namespace Go.bo
def ai{p:Prop}(h:p:=by omega):p:=h
def ag{p:Prop}(h:p:=by kernel_rfl):p:=h
def b_{p:Prop}(h:p:=by decide):p:=h
def aL{a b:Prop}(x:a)(y:b):a/\b:=⟨x,y⟩
def bn{α:Type}(a b:α):(D a=D b)=(a=b):=Option.some.injEq a b
def gG{α:Type}(a b:α):(bif C then a else b)=a:=rfl
def jF{α:Type}(a b:α):(bif Z then a else b)=b:=rfl
def dP{α β:Type}{o:Option α}{f:α->Option β}{b:β}:o.bind f=D b↔∃a,o=D a/\f a=D b:=Option.bind_eq_some_iff
def cM{α β:Type}(a:α)(b:β)(c:α)(d:β):((a,b)=(c,d))=(a=c/\b=d):=Prod.mk.injEq a b c d
def b4(n:Nat):n<=n:=Nat.le_refl n
inductive aa where
 |bool (b:Bool)
 |int (k:IntKind) (n:Int)
 |str (s:List UInt8)
 |ptr (l i c:Nat)
 |fD
 |aJ (l i n esz:Nat) (cap:Option Nat)
 |aB
 |map (l:Nat)
 |hv
 |func (fn:Fn) (first captured:List aa)
 |nilFunc
 |iface (t:TypeId) (v:aa)
 |nilIface
 |agg (cs:List aa)
 |tuple (a:List aa)
instance:Inhabited aa:=⟨.tuple []⟩
inductive bL where
 |row (ro:Bool) (esz:Nat) (els:List (List aa))
 |dz (t:TypeId) (esz:Nat) (els:List (List aa))
 |map (es:List (aa×aa))
 |dead
inductive j_ where
 |d0|d1|d2|d3|d4|d5|d6|d7
inductive bJ(α:Type) where
 |leaf
 |node (v:Option α) (a b c d e f g h:bJ α)
def zj(n:Nat):j_:=match n with
 |0=> .d0|1=> .d1|2=> .d2|3=> .d3|4=> .d4|5=> .d5|6=> .d6|_=> .d7
def LP{n m:Nat}(aS:n<8)(hm:m<8)(h:zj n=zj m):n=m:=by
 have ae:n=0\/n=1\/n=2\/n=3\/n=4\/n=5\/n=6\/n=7:=ai;have ah:m=0\/m=1\/m=2\/m=3\/m=4\/m=5\/m=6\/m=7:=ai;rcases ae with rfl|rfl|rfl|rfl|rfl|rfl|rfl|rfl<;>rcases ah with rfl|rfl|rfl|rfl|rfl|rfl|rfl|rfl<;>first|rfl|cases h
def mb:Nat->Nat->List j_
 |0,_=>[]
 |_+1,0=>[]
 |f+1,k+1=>zj (k%8)::mb f (k/8)
def path(k:Nat):List j_:=mb k k
def SV:∀(f g k j:Nat),k<=f->j<=g->mb f k=mb g j->k=j:=by
 intro f
 induction f with
 |zero=>
  intro g k j b a h;have:k=0:=ai;subst this;cases j with
  |zero=>rfl
  |succ j=>
   cases g with
   |zero=>omega
   |succ g=>simp[mb]at h
 |succ f c=>
  intro g k j b a h;cases k with
  |zero=>
   cases j with
   |zero=>rfl
   |succ j=>
    cases g with
    |zero=>omega
    |succ g=>simp[mb]at h
  |succ k=>
   cases j with
   |zero=>cases g<;>simp[mb]at h
   |succ j=>
    cases g with
    |zero=>omega
    |succ g=>
     simp only[mb,List.cons.injEq]at h;have ae:=LP (Nat.mod_lt _ ai) (Nat.mod_lt _ ai) h.1;have ah:=c g (k/8) (j/8) ai ai h.2;omega
def F_{k j:Nat}(h:path k=path j):k=j:=SV k j k j (b4 _) (b4 _) h
def bJ.h4{α:Type}:List j_->bJ α->Option α
 |[],.leaf=>I
 |[],.node v _ _ _ _ _ _ _ _=>v
 |_::_,.leaf=>I
 |d::p,.node _ a b c e f g h i=>match d with
  | .d0=>bJ.h4 p a| .d1=>bJ.h4 p b| .d2=>bJ.h4 p c| .d3=>bJ.h4 p e
  | .d4=>bJ.h4 p f| .d5=>bJ.h4 p g| .d6=>bJ.h4 p h| .d7=>bJ.h4 p i
def bJ.ec{α:Type}(x:α):List j_->bJ α->bJ α
 |[],.leaf=> .node (D x) .leaf .leaf .leaf .leaf .leaf .leaf .leaf .leaf
 |[],.node _ a b c e f g h i=> .node (D x) a b c e f g h i
 |d::p,.leaf=>match d with
  | .d0=> .node I (bJ.ec x p .leaf) .leaf .leaf .leaf .leaf .leaf .leaf .leaf
  | .d1=> .node I .leaf (bJ.ec x p .leaf) .leaf .leaf .leaf .leaf .leaf .leaf
  | .d2=> .node I .leaf .leaf (bJ.ec x p .leaf) .leaf .leaf .leaf .leaf .leaf
  | .d3=> .node I .leaf .leaf .leaf (bJ.ec x p .leaf) .leaf .leaf .leaf .leaf
  | .d4=> .node I .leaf .leaf .leaf .leaf (bJ.ec x p .leaf) .leaf .leaf .leaf
  | .d5=> .node I .leaf .leaf .leaf .leaf .leaf (bJ.ec x p .leaf) .leaf .leaf
  | .d6=> .node I .leaf .leaf .leaf .leaf .leaf .leaf (bJ.ec x p .leaf) .leaf
  | .d7=> .node I .leaf .leaf .leaf .leaf .leaf .leaf .leaf (bJ.ec x p .leaf)
 |d::p,.node v a b c e f g h i=>match d with
  | .d0=> .node v (bJ.ec x p a) b c e f g h i
  | .d1=> .node v a (bJ.ec x p b) c e f g h i
  | .d2=> .node v a b (bJ.ec x p c) e f g h i
  | .d3=> .node v a b c (bJ.ec x p e) f g h i
  | .d4=> .node v a b c e (bJ.ec x p f) g h i
  | .d5=> .node v a b c e f (bJ.ec x p g) h i
  | .d6=> .node v a b c e f g (bJ.ec x p h) i
  | .d7=> .node v a b c e f g h (bJ.ec x p i)
def bJ.v8{α:Type}(p:List j_):bJ.h4 p (.leaf:bJ α)=none:=by cases p<;>rfl
def bJ.v_{α:Type}(x:α):∀(p:List j_) (t:bJ α),bJ.h4 p (bJ.ec x p t)=D x
 |[],.leaf=>rfl
 |[],.node .. =>rfl
 |d::p,.leaf=>by cases d<;>exact bJ.v_ x p _
 |d::p,.node .. =>by cases d<;>exact bJ.v_ x p _
def bJ.zy{α:Type}(x:α):∀(p q:List j_) (t:bJ α),p≠q->bJ.h4 q (bJ.ec x p t)=bJ.h4 q t
 |[],[],_,h=>absurd rfl h
 |[],e::q,.leaf,_=>by cases e<;>exact bJ.v8 q
 |[],e::q,.node ..,_=>rfl
 |d::p,[],.leaf,_=>by cases d<;>rfl
 |d::p,[],.node ..,_=>by cases d<;>rfl
 |d::p,e::q,.leaf,h=>by
  cases d<;>cases e<;>first
   |exact bJ.v8 q
   |(show bJ.h4 q (bJ.ec x p .leaf)=I
     rw[bJ.zy x p q .leaf (λa=>h (by rw[a]))];exact bJ.v8 q)
 |d::p,e::q,.node ..,h=>by
  cases d<;>cases e<;>first
   |rfl
   |exact bJ.zy x p q _ (λa=>h (by rw[a]))
def bJ.get{α:Type}(t:bJ α)(k:Nat):Option α:=bJ.h4 (path k) t
def bJ.put{α:Type}(x:α)(_:Nat)(t:bJ α)(k:Nat):bJ α:=bJ.ec x (path k) t
def bJ.pZ{α:Type}(k:Nat):(bJ.leaf:bJ α).get k=none:=bJ.v8 _
def bJ.sK{α:Type}(x:α):∀(f:Nat) (t:bJ α) (k:Nat),k<f->(bJ.put x f t k).get k=D x:=λ_ t k _=>bJ.v_ x (path k) t
def bJ.p1{α:Type}(x:α):∀(f:Nat) (t:bJ α) (k j:Nat),k≠j->(bJ.put x f t k).get j=t.get j:=λ_ t _ _ h=>bJ.zy x _ _ t (λe=>h (F_ e))
structure ad where
 t:bJ bL
 next:Nat
def ad.get(H:ad)(l:Nat):Option bL:=if l<H.next then H.t.get l else I
def ad.set(H:ad)(l:Nat)(b:bL):ad:={H with t:=bJ.put b (l+1) H.t l}
def ad.push(H:ad)(b:bL):ad:={t:=bJ.put b (H.next+1) H.t H.next,next:=H.next+1}
def ad.empty:ad:=⟨.leaf,0⟩
@[simp] theorem ad.wS(H:ad)(l:Nat)(b:bL):(H.set l b).next=H.next:=rfl
@[simp] theorem ad.ds(H:ad)(b:bL):(H.push b).next=H.next+1:=rfl
def ad.b6{H:ad}{l:Nat}{b:bL}(h:H.get l=D b):l<H.next:=by
 unfold ad.get at h;split at h
 ·assumption
 ·cases h
def ad.dA{H:ad}{l:Nat}{b:bL}(h:l<H.next):(H.set l b).get l=D b:=by
 show(if l<H.next then(bJ.put b (l+1) H.t l).get l else I)=D b;rw[if_pos h];exact bJ.sK b _ _ _ ai
def ad.cW{H:ad}{l j:Nat}{b:bL}(h:l≠j):(H.set l b).get j=H.get j:=by
 show(if j<H.next then(bJ.put b (l+1) H.t l).get j else I)=(if j<H.next then H.t.get j else I);rw[bJ.p1 b _ _ _ _ h]
def ad.bq(H:ad)(b:bL):(H.push b).get H.next=D b:=by
 show(if H.next<H.next+1 then(bJ.put b (H.next+1) H.t H.next).get H.next else I)=D b;rw[if_pos ai];exact bJ.sK b _ _ _ ai
def ad.eN{H:ad}{j:Nat}{b:bL}(h:j≠H.next):(H.push b).get j=H.get j:=by
 show(if j<H.next+1 then(bJ.put b (H.next+1) H.t H.next).get j else I)=(if j<H.next then H.t.get j else I);by_cases a:j<H.next
 ·rw[if_pos ai,if_pos a,bJ.p1 b _ _ _ _ ai]
 ·rw[if_neg ai,if_neg a]
section
structure Loc where
 block:Nat
 off:Nat
 esz:Nat
 size:Nat
def Env:Type:=Nat->Option Loc
def Env.le(ρ a:Env):Prop:=∀l loc,ρ l=D loc->a l=D loc
def Env.le_refl(ρ:Env):ρ.le ρ:=λ_ _ h=>h
def Env.le_trans{ρ a b:Env}(h:ρ.le a)(ca:a.le b):ρ.le b:=λl loc e=>ca l loc (h l loc e)
mutual
inductive bB(ρ:Env):aa->Value->Prop where
 |bool (b:Bool):bB ρ (.bool b) (.bool b)
 |int (k:IntKind) (n:Int):bB ρ (.int k n) (.int k n)
 |str (s:List UInt8):bB ρ (.str s) (.string ⟨s.toArray⟩)
 |ptr (l i c:Nat) (loc:Loc) (h:ρ l=some loc):bB ρ (.ptr l i c) (.pointer (some ⟨loc.block,loc.off+i*loc.esz+c,none⟩))
 |fD:bB ρ .fD (.pointer none)
 |aJ (l i n:Nat) (cap:Option Nat) (loc:Loc) (a:Addr) (c:Nat) (h:ρ l=some loc) (aS:n<=c) (aA:∀k,cap=some k->c=k)
  (g:0<c->a=⟨loc.block,loc.off+i*loc.esz,none⟩/\loc.off+(i+c)*loc.esz<=loc.size):bB ρ (.aJ l i n loc.esz cap) (.slice (some a) n c)
 |aB:bB ρ .aB (.slice none 0 0)
 |map (l:Nat) (loc:Loc) (h:ρ l=some loc):bB ρ (.map l) (.map (some loc.block))
 |hv:bB ρ .hv (.map none)
 |func (fn:Fn) (f c:List aa) (e d:List Value) (aN:bV ρ f e) (aA:bV ρ c d):bB ρ (.func fn f c) (.func fn e.toArray d.toArray)
 |nilFunc:bB ρ .nilFunc .nilFunc
 |iface (t:TypeId) (v:aa) (x:Value) (h:bB ρ v x):bB ρ (.iface t v) (.iface t x)
 |nilIface:bB ρ .nilIface .nilIface
 |agg (cs:List aa) (xs:List Value) (h:bV ρ cs xs):bB ρ (.agg cs) (.agg xs.toArray)
 |tuple (cs:List aa) (xs:List Value) (h:bV ρ cs xs):bB ρ (.tuple cs) (.tuple xs.toArray)
inductive bV(ρ:Env):List aa->List Value->Prop where
  |nil:bV ρ [] []
  |cons (v:aa) (x:Value) (a:List aa) (xs:List Value) (h:bB ρ v x) (b:bV ρ a xs):bV ρ (v::a) (x::xs)
 end
mutual
def bB.mono{ρ d:Env}(hle:ρ.le d){v:aa}{x:Value}(h:bB ρ v x):bB d v x:=by
 cases h with
 |bool b=>exact .bool b
 |int k n=>exact .int k n
 |str s=>exact .str s
 |ptr l i c loc h=>exact .ptr l i c loc (hle _ _ h)
 |fD=>exact .fD
 |aJ l i n cap loc a c h aS aA j=>exact .aJ l i n cap loc a c (hle _ _ h) aS aA j
 |aB=>exact .aB
 |map l loc h=>exact .map l loc (hle _ _ h)
 |hv=>exact .hv
 |func fn f c g e aN aA=>exact .func fn f c g e (bV.mono hle aN) (bV.mono hle aA)
 |nilFunc=>exact .nilFunc
 |iface t v x h=>exact .iface t v x (bB.mono hle h)
 |nilIface=>exact .nilIface
 |agg cs xs h=>exact .agg cs xs (bV.mono hle h)
 |tuple cs xs h=>exact .tuple cs xs (bV.mono hle h)
def bV.mono{ρ a:Env}(hle:ρ.le a){v:List aa}{x:List Value}(h:bV ρ v x):bV a v x:=by
  cases h with
  |nil=>exact .nil
  |cons v x c xs h b=>exact .cons v x c xs (bB.mono hle h) (bV.mono hle b)
 end
def bV.length{ρ:Env}:∀{a:List aa} {xs:List Value},bV ρ a xs->a.length=xs.length
 |[],_,h=>by cases h;rfl
 |_::_,_,h=>by cases h with|cons _ _ _ _ _ b=>simp[bV.length b]
def bV.get{ρ:Env}:∀{b:List aa} {xs:List Value},bV ρ b xs->∀(j:Nat) (v:aa),b[j]? =D v->∃x,xs[j]? =D x/\bB ρ v x
 |[],_,h,j,v,a=>by simp at a
 |w::b,_,h,j,v,a=>by
  cases h with
  |cons _ x _ xs c d=>
   cases j with
   |zero=>simp at a;subst a;exact⟨x,rfl,c⟩
   |succ j=>simpa using bV.get d j v (by simpa using a)
def bV.append{ρ:Env}:∀{b us:List aa} {xs c:List Value},bV ρ b xs->bV ρ us c->bV ρ (b++us) (xs++c)
 |[],_,_,_,h,ca=>by cases h;exact ca
 |_::_,_,_,_,h,ca=>by cases h with|cons _ _ _ _ a as=>exact .cons _ _ _ _ a (bV.append as ca)
def bV.FK{ρ:Env}:∀{c:List aa} {xs:List Value},c.length=xs.length->(∀(j:Nat) (v:aa) (x:Value),c[j]? =D v->xs[j]? =D x->bB ρ v x)->bV ρ c xs
 |[],[],_,_=> .nil
 |[],_::_,h,_=>by simp at h
 |_::_,[],h,_=>by simp at h
 |v::c,x::xs,h,d=> .cons _ _ _ _ (d 0 v x rfl rfl) (bV.FK (by simpa using h) λj a b e f=>d (j+1) a b (by simpa using e) (by simpa using f))
def bV.set{ρ:Env}{v:aa}{x:Value}(h:bB ρ v x):∀{c:List aa} {xs:List Value} (j:Nat),bV ρ c xs->bV ρ (c.set j v) (xs.set j x)
 |[],_,_,b=>by cases b;exact .nil
 |_::_,_,0,b=>by cases b with|cons _ _ _ _ a as=>exact .cons _ _ _ _ h as
 |_::_,_,j+1,b=>by cases b with|cons _ _ _ _ a as=>exact .cons _ _ _ _ a (bV.set h j as)
def aa.one:aa->Bool
 | .agg _| .tuple _=>Z
 |_=>C
def aa.cells:aa->List aa
 | .agg cs=>cs
 |v=>[v]
def bB.Az{ρ:Env}{v:aa}{x:Value}(h:bB ρ v x)(ae:v.one=C):x.oneCell'=true:=by
 cases h<;>first|rfl|cases ae
def bB.cells{ρ:Env}{v:aa}{x:Value}(h:bB ρ v x):bV ρ v.cells x.cells.toList:=by
 cases h with
 |agg cs xs h=>simpa [aa.cells,Value.cells]using h
 |bool b=>exact .cons _ _ _ _ (.bool b) .nil
 |int k n=>exact .cons _ _ _ _ (.int k n) .nil
 |str s=>exact .cons _ _ _ _ (.str s) .nil
 |ptr l i c loc h=>exact .cons _ _ _ _ (.ptr l i c loc h) .nil
 |fD=>exact .cons _ _ _ _ .fD .nil
 |aJ l i n cap loc a c h aS aA g=>exact .cons _ _ _ _ (.aJ l i n cap loc a c h aS aA g) .nil
 |aB=>exact .cons _ _ _ _ .aB .nil
 |map l loc h=>exact .cons _ _ _ _ (.map l loc h) .nil
 |hv=>exact .cons _ _ _ _ .hv .nil
 |func fn f c e d aN aA=>exact .cons _ _ _ _ (.func fn f c e d aN aA) .nil
 |nilFunc=>exact .cons _ _ _ _ .nilFunc .nil
 |iface t v x h=>exact .cons _ _ _ _ (.iface t v x h) .nil
 |nilIface=>exact .cons _ _ _ _ .nilIface .nil
 |tuple cs xs h=>exact .cons _ _ _ _ (.tuple cs xs h) .nil
def ft(ρ:Env)(w:World)(loc:Loc)(ro:Bool)(esz:Nat)(els:List (List aa)):Prop:=loc.esz=esz/\∃c t a,w.heap[loc.block]? =D (.cells c t a)/\(loc.size=c.size/\(ro=Z->∀o,o<c.size->¬(a.1<=o/\o<a.2)))/\ ∀(i:Nat) (e:List aa),els[i]? =D e->e.length=esz/\∀(j:Nat) (v:aa),e[j]? =D v->v.one=C/\∃x,c[loc.off+i*esz+j]? =D x/\bB ρ v x
def lN(ρ:Env)(w:World)(loc:Loc)(t:TypeId)(esz:Nat)(els:List (List aa)):Prop:=ft ρ w loc Z esz els/\∃c a,w.heap[loc.block]? =D (.cells c t a)/\loc.off=0
def yM(ρ:Env)(w:World)(loc:Loc)(es:List (aa×aa)):Prop:=∃ents clock,w.heap[loc.block]? =D (.map ents clock)/\bV ρ (es.map (·.1)) (ents.toList.map (·.key))/\bV ρ (es.map (·.2)) (ents.toList.map (·.val))
def ad.rw(H:ad)(l:Nat):Prop:=(∃esz els,H.get l=D (.row Z esz els))\/(∃es,H.get l=D (.map es))\/∃t esz els,H.get l=D (.dz t esz els)
def ad.live(H:ad)(l:Nat):Prop:=(∃ro esz els,H.get l=D (.row ro esz els))\/(∃es,H.get l=D (.map es))\/∃t esz els,H.get l=D (.dz t esz els)
def ad.rw.live{H:ad}{l:Nat}(h:H.rw l):H.live l:=by
 rcases h with⟨e,s,h⟩|h
 ·exact .inl ⟨_,e,s,h⟩
 ·exact .inr h
def bL.sN:bL->Bool
 | .row C _ _=>C
 |_=>Z
def ad.AT{H:ad}{l:Nat}{b:bL}(c:b.sN=Z):∀k esz els,(H.set l b).get k=D (.row C esz els)->H.get k=D (.row C esz els):=by
 intro k esz els h;by_cases a:l=k
 ·subst a;have d:l<H.next:=by have:=ad.b6 h;simpa using this
  rw[ad.dA d]at h;simp only[bn]at h;subst h;cases c
 ·rwa[ad.cW a]at h
def ad.AS{H:ad}{b:bL}(c:b.sN=Z):∀k esz els,(H.push b).get k=D (.row C esz els)->H.get k=D (.row C esz els):=by
 intro k esz els h;by_cases a:k=H.next
 ·subst a;rw[ad.bq]at h;simp only[bn]at h;subst h;cases c
 ·rwa[ad.eN a]at h
structure Rel(ρ:Env)(H:ad)(w:World):Prop where
 row:∀l ro esz els,H.get l=some (.row ro esz els)->∃loc,ρ l=some loc/\ft ρ w loc ro esz els
 map:∀l es,H.get l=some (.map es)->∃loc,ρ l=some loc/\yM ρ w loc es
 dz:∀l t esz els,H.get l=some (.dz t esz els)->∃loc,ρ l=some loc/\lN ρ w loc t esz els
 apart:∀l a loc b,H.rw l->H.live a->l≠a->ρ l=some loc->ρ a=some b->loc.block≠b.block
def gX(ρ:Env)(H:ad)(b:Nat):Prop:=∃l loc,H.rw l/\ρ l=D loc/\loc.block=b
structure Step(ρ:Env)(H:ad)(w:World)(c:Env)(H':ad)(a:World):Prop where
 le:ρ.le c
 next:H.next<=H'.next
 keep:∀l,l<H.next\/H'.next<=l->c l=ρ l
 rel:Rel c H' a
 os:a.os=w.os
 tape:a.tape=w.tape
 output:a.output=w.output
 size:w.heap.size<=a.heap.size
 frame:∀b,b<w.heap.size->¬gX ρ H b->a.heap[b]? =w.heap[b]?
 own:∀b,gX c H' b->gX ρ H b\/w.heap.size<=b
 ro:∀l esz els,H'.get l=some (.row true esz els)->H.get l=some (.row true esz els)
def Step.refl{ρ:Env}{H:ad}{w:World}(h:Rel ρ H w):Step ρ H w ρ H w:=
 ⟨ρ.le_refl,b4 _,λ_ _=>rfl,h,rfl,rfl,rfl,b4 _,λ_ _ _=>rfl,λ_ h=> .inl h,λ_ _ _ h=>h⟩
def Step.trans{ρ i j:Env}{H c d:ad}{w f g:World}(h:Step ρ H w i c f)(k:Step i c f j d g):Step ρ H w j d g where
 le:=Env.le_trans h.le k.le
 next:=Nat.le_trans h.next k.next
 keep:=λl az=>(k.keep l (az.imp (λx=>Nat.lt_of_lt_of_le x h.next) id)).trans (h.keep l (az.imp id (λx=>Nat.le_trans k.next x)))
 ro:=λl esz els e=>h.ro l esz els (k.ro l esz els e)
 rel:=k.rel
 os:=k.os.trans h.os
 tape:=k.tape.trans h.tape
 output:=k.output.trans h.output
 size:=Nat.le_trans h.size k.size
 frame:=λb a aS=>by
  rw[k.frame b (Nat.lt_of_lt_of_le a h.size) (λa7=>(h.own b a7).elim aS (λhle=>ai)),h.frame b a aS]
 own:=λb a=>(k.own b a).elim (λa7=>h.own b a7) (λhle=> .inr (Nat.le_trans h.size hle))
def BW(ρ:Env)(n m:Nat):Prop:=∀l,n<=l->l<m->ρ l=I
structure ha(E ρ:Env)(n m:Nat):Prop where
 new:BW ρ n m
 le:E.le ρ
def ha.left{E ρ:Env}{n m k:Nat}(h:ha E ρ n k)(hm:m<=k):ha E ρ n m:=⟨λl a b=>h.new l a ai,h.le⟩
def ha.after{E ρ d:Env}{H c:ad}{w e:World}{k:Nat}(h:ha E ρ H.next k)(s:Step ρ H w d c e):ha E d c.next k:=⟨λl a b=>by
 rw[s.keep l (.inr a)];exact h.new l (Nat.le_trans s.next a) b,Env.le_trans h.le s.le⟩
def Rel.drew{ρ:Env}{H:ad}{w:World}(h:Rel ρ H w):Rel ρ H w.drew:=⟨h.row,h.map,h.dz,h.apart⟩
end
def dN(P:Program)(t:TypeId):Option Bool:=
 match P.underlying t with
 |some (.struct _)|some (.array _ _)=>D C
 |some _=>D Z
 |none=>I
def cD(P:Program)(t:TypeId):Option Nat:=(P.info? t).map (·.size)
def xf{P:Program}{t:TypeId}{b:Bool}(h:dN P t=D b)(w:World):(isAgg t).run P w= .ok b w:=by
 unfold dN at h;unfold isAgg;cases hu:P.underlying t with
 |none=>rw[hu]at h;cases h
 |some d=>
  rw[hu]at h;simp only[Sem.run_bind,run_underlying hu,Result.andThen_ok];cases d<;>simp_all
def run_sizeOf{P:Program}{t:TypeId}{n:Nat}(h:cD P t=D n)(w:World):(sizeOf t).run P w= .ok n w:=by
 unfold cD at h;cases a:P.info? t with
 |none=>rw[a]at h;cases h
 |some i=>rw[a]at h;simp at h;simp[sizeOf,typeInfo,a,h]
def apart(P:Program)(t:TypeId)(cs:List aa)(off:Nat):Option aa:=
 match dN P t with
 |some C=>(match cD P t with|some n=>D (.agg ((cs.drop off).take n))|none=>I)
 |some Z=>cs[off]?
 |none=>I
def bV.drop{ρ:Env}:∀{b:List aa} {xs:List Value} (n:Nat),bV ρ b xs->bV ρ (b.drop n) (xs.drop n)
 |_,_,0,h=>by simpa using h
 |[],_,n+1,h=>by cases h;simpa using bV.nil
 |_::_,_,n+1,h=>by cases h with|cons _ _ _ _ a as=>simpa using bV.drop n as
def bV.take{ρ:Env}:∀{b:List aa} {xs:List Value} (n:Nat),bV ρ b xs->bV ρ (b.take n) (xs.take n)
 |_,_,0,h=>by simpa using bV.nil
 |[],_,n+1,h=>by cases h;simpa using bV.nil
 |_::_,_,n+1,h=>by cases h with|cons _ _ _ _ a as=>simpa using bV.cons _ _ _ _ a (bV.take n as)
def lS{P:Program}{t:TypeId}{cs:List aa}{off:Nat}{v:aa}{ρ:Env}{xs:List Value}(h:apart P t cs off=D v)(b:bV ρ cs xs)(w:World):
  ∃x,(part t xs.toArray off).run P w= .ok x w/\bB ρ v x:=by
 unfold apart at h;split at h
 ·rename_i a;split at h
  ·rename_i n aS;simp at h;subst h;refine⟨.agg (((xs.drop off).take n).toArray),?_,.agg _ _ ((b.drop off).take n)⟩;unfold part;simp only[Sem.run_bind,xf a,Result.andThen_ok,if_true,run_sizeOf aS];simp[List.extract_toArray,List.extract_eq_take_drop]
  ·cases h
 ·rename_i a;obtain⟨x,aD,c⟩:=b.get off v h;refine⟨x,?_,c⟩;unfold part;simp[xf a,aD]
 ·cases h
def iY(op:BinOp)(k:IntKind)(a b:Int):Option aa:=
 match op with
 | .add=>D (.int k (k.wrap (a+b)))
 | .sub=>D (.int k (k.wrap (a-b)))
 | .mul=>D (.int k (k.wrap (a*b)))
 | .quo=>if b=0 then I else D (.int k (k.wrap (a.tdiv b)))
 | .rem=>if b=0 then I else D (.int k (a.tmod b))
 | .and=>D (.int k (k.wrap ((BitVec.ofInt k.bits a&&&BitVec.ofInt k.bits b).toNat:Int)))
 | .or=>D (.int k (k.wrap ((BitVec.ofInt k.bits a|||BitVec.ofInt k.bits b).toNat:Int)))
 | .xor=>D (.int k (k.wrap ((BitVec.ofInt k.bits a^^^BitVec.ofInt k.bits b).toNat:Int)))
 | .andNot=>D (.int k (k.wrap ((BitVec.ofInt k.bits a&&& ~~~BitVec.ofInt k.bits b).toNat:Int)))
 | .eql=>D (.bool (a==b))
 | .neq=>D (.bool (a != b))
 | .lss=>D (.bool (decide (a<b)))
 | .leq=>D (.bool (decide (a<=b)))
 | .gtr=>D (.bool (decide (b<a)))
 | .geq=>D (.bool (decide (b<=a)))
 | .shl| .shr=>I
def p2(op:BinOp)(k:IntKind)(a b:Int):Option aa:=
 if b<0 then I else
 match op with
 | .shl=>D (.int k (k.wrap (a*2^(min b.toNat k.bits))))
 | .shr=>D (.int k (a.fdiv (2^(min b.toNat k.bits))))
 |_=>I
def ys(op:BinOp)(a b:List UInt8):Option aa:=
 match op with
 | .add=>if a.length+b.length<=9223372036854775807 then D (.str (a++b))else I
 | .eql=>D (.bool (a==b))
 | .neq=>D (.bool (!(a==b)))
 | .lss=>D (.bool (Op.bytesLess a b))
 | .leq=>D (.bool (Op.bytesLess a b||a==b))
 | .gtr=>D (.bool (!(Op.bytesLess a b||a==b)))
 | .geq=>D (.bool (!Op.bytesLess a b))
 |_=>I
def pA(P:Program)(eq:TypeId->aa->aa->Option Bool):List Field->List aa->List aa->Option Bool
 |[],_,_=>D C
 |f::fs,xs,c=>
  if f.name≠ "_" then
   match apart P f.type xs f.offset,apart P f.type c f.offset with
   |some a,D b=>(match eq f.type a b with|some C=>pA P eq fs xs c|some Z=>D Z|none=>I)
   |_,_=>I
  else pA P eq fs xs c
def so(P:Program)(eq:TypeId->aa->aa->Option Bool)(e:TypeId)(n:Nat):Nat->Nat->List aa->List aa->Option Bool
 |0,_,_,_=>D C
 |k+1,i,xs,c=>
  match apart P e xs (i*n),apart P e c (i*n)with
  |some a,D b=>(match eq e a b with|some C=>so P eq e n k (i+1) xs c|some Z=>D Z|none=>I)
  |_,_=>I
def gY(P:Program):Nat->TypeId->aa->aa->Option Bool
 |0,_,_,_=>I
 |d+1,t,x,y=>
  match P.underlying t,x,y with
  |some .bool,.bool a,.bool b=>D (a==b)
  |some (.int _),.int k a,.int f b=>if k=f then D (a==b)else I
  |some .string,.str a,.str b=>D (a==b)
  |some (.pointer _),.fD,.fD=>D C
  |some (.pointer _),.fD,.ptr .. =>D Z
  |some (.pointer _),.ptr ..,.fD=>D Z
  |some (.interface _),.nilIface,.nilIface=>D C
  |some (.interface _),.nilIface,.iface .. =>D Z
  |some (.interface _),.iface ..,.nilIface=>D Z
  |some (.struct fs),.agg xs,.agg c=>if P.stoodInHeld t then I else pA P (gY P d) fs.toList xs c
  |some (.array len e),.agg xs,.agg c=>(match cD P e with|some n=>so P (gY P d) e n len 0 xs c|none=>I)
  |some (.slice _),.aB,.aB=>D C
  |some (.slice _),.aB,.aJ .. =>D Z
  |some (.slice _),.aJ ..,.aB=>D Z
  |some (.map _ _),.hv,.hv=>D C
  |some (.map _ _),.hv,.map _=>D Z
  |some (.map _ _),.map _,.hv=>D Z
  |some (.func _ _ _),.nilFunc,.nilFunc=>D C
  |some (.func _ _ _),.nilFunc,.func .. =>D Z
  |some (.func _ _ _),.func ..,.nilFunc=>D Z
  |_,_,_=>I
def isConst:Operand->Bool
 | .const _=>C
 |_=>Z
def n2(P:Program)(t:TypeId)(x y:Operand)(a b:aa):Bool:=
 match a,b with
 | .nilIface,.nilIface=>isConst x||isConst y
 | .agg _,.agg _=> !P.eqGuardType P.depth t
 |_,_=>C
def sk(P:Program)(op:BinOp)(t:TypeId)(c d:Operand)(x y:aa):Option aa:=
 match x,y with
 | .int k a,.int e b=>
  (match op with
  | .shl=>p2 .shl k a b
  | .shr=>p2 .shr k a b
  |op=>if k=e then iY op k a b else I)
 | .str a,.str b=>ys op a b
 |x,y=>
  (match op with
  | .eql=>if n2 P t c d x y then(gY P 10000 t x y).map .bool else I
  | .neq=>if n2 P t c d x y then(gY P 10000 t x y).map λb=> .bool (!b)else I
  |_=>I)
def dg(op:UnOp)(x:aa):Option aa:=
 match op,x with
 | .neg,.int k n=>D (.int k (k.wrap (0-n)))
 | .not,.bool b=>D (.bool (!b))
 |_,_=>I
end Go.bo
namespace Go
def Operand.wk:Operand->Bool
 | .const _=>C
 |_=>Z
end Go
namespace Go.bo
section
variable {P:Program}{ρ:Env}
def AV(w:World)(eq:TypeId->aa->aa->Option Bool)(d:TypeId->Value->Value->Sem Bool)
  (heq:∀t a b x y c,eq t a b=D c->bB ρ a x->bB ρ b y->(d t x y).run P w= .ok c w) {xs o:List aa} {n p:List Value} (aD:bV ρ xs n) (g:bV ρ o p):
  ∀(fs:List Field) (b:Bool),pA P eq fs xs o=D b->
   (forIn fs ((I:Option Bool),()) (λf _=>
    (if f.name≠ "_" then do
     let a<-part f.type n.toArray f.offset
     let b<-part f.type p.toArray f.offset
     let c<-d f.type a b
     if(!c)=C then pure (ForInStep.done (D Z,()))else pure (ForInStep.yield (I,()))
    else pure (ForInStep.yield (I,())):Sem (ForInStep (Option Bool×Unit))))).run P w= .ok (if b then(I,())else(D Z,())) w
 |[],b,h=>by
  simp[pA]at h;subst h;simp[Sem.run_pure]
 |f::fs,b,h=>by
  unfold pA at h;rw[List.forIn_cons];by_cases aS:f.name≠ "_"
  ·rw[if_pos aS]at h;split at h
   ·rename_i a b' q r;obtain⟨x,l,j⟩:=lS q aD w;obtain⟨y,m,k⟩:=lS r g w;split at h
    ·rename_i he;have e:=heq _ _ _ _ _ _ he j k;have i:=AV w eq d heq aD g fs b h;simp only[if_pos aS,Sem.run_bind,l,m,e,Result.andThen_ok,Bool.not_true,Bool.false_eq_true,if_false,Sem.run_pure];exact i
    ·rename_i he;have e:=heq _ _ _ _ _ _ he j k;simp at h;subst h;simp only[if_pos aS,Sem.run_bind,l,m,e,Result.andThen_ok,Bool.not_false,if_true,Sem.run_pure];rfl
    ·cases h
   ·cases h
  ·rw[if_neg aS]at h;have i:=AV w eq d heq aD g fs b h;simp only[if_neg aS,Sem.run_bind,Sem.run_pure,Result.andThen_ok];exact i
def GL(w:World)(e:TypeId)(n:Nat)(eq:TypeId->aa->aa->Option Bool)(d:TypeId->Value->Value->Sem Bool)
  (heq:∀t a b x y c,eq t a b=D c->bB ρ a x->bB ρ b y->(d t x y).run P w= .ok c w) {xs q:List aa} {p r:List Value} (aD:bV ρ xs p) (m:bV ρ q r):
  ∀(k i:Nat) (b:Bool),so P eq e n k i xs q=D b->
   (forIn (List.range' i k) ((I:Option Bool),()) (λi _=>
    (do
     let a<-part e p.toArray (i*n)
     let b<-part e r.toArray (i*n)
     let c<-d e a b
     if(!c)=C then pure (ForInStep.done (D Z,()))else pure (ForInStep.yield (I,())):Sem (ForInStep (Option Bool×Unit))))).run P w= .ok (if b then(I,())else(D Z,())) w
 |0,i,b,h=>by
  simp[so]at h;subst h;simp[Sem.run_pure]
 |k+1,i,b,h=>by
  unfold so at h;rw[List.range'_succ,List.forIn_cons];split at h
  ·rename_i a b' s u;obtain⟨x,l,g⟩:=lS s aD w;obtain⟨y,o,j⟩:=lS u m w;split at h
   ·rename_i he;have f:=heq _ _ _ _ _ _ he g j;have v:=GL w e n eq d heq aD m k (i+1) b h;simp only[Sem.run_bind,l,o,f,Result.andThen_ok,Bool.not_true,Bool.false_eq_true,if_false,Sem.run_pure];exact v
   ·rename_i he;have f:=heq _ _ _ _ _ _ he g j;simp at h;subst h;simp only[Sem.run_bind,l,o,f,Result.andThen_ok,Bool.not_false,if_true,Sem.run_pure];rfl
   ·cases h
  ·cases h
def Bz(a b:List UInt8):((⟨a.toArray⟩:ByteArray)==⟨b.toArray⟩)=(a==b):=by
 have:((⟨a.toArray⟩:ByteArray)==⟨b.toArray⟩)=(a.toArray==b.toArray):=rfl;rw[this];simp
def sD(w:World):∀(d:Nat) (t:TypeId) (x y:aa) (f g:Value) (b:Bool),gY P d t x y=D b->bB ρ x f->bB ρ y g->
  (Op.equalIn d t f g).run P w= .ok b w
 |0,t,x,y,f,g,b,h,_,_=>by cases h
 |d+1,t,x,y,f,g,b,h,aD,e=>by
  have k:=sD w d;unfold gY at h;unfold Op.equalIn;cases hu:P.underlying t with
  |none=>rw[hu]at h;cases h
  |some u=>
   rw[hu]at h;simp only[Sem.run_bind,run_underlying hu,Result.andThen_ok];split at h<;>(try (cases h;done))<;>(try simp only[bn]at*)<;>(try subst_vars)<;>(try (cases aD;cases e;simp;done))
   ·cases aD;cases e;split at h
    ·rename_i l;subst l;simp at h;subst h;simp
    ·cases h
   ·cases aD;cases e;simp[Bz]
   ·cases aD with|agg _ p aD=>cases e with|agg _ q e=>
    split at h
    ·cases h
    ·rename_i m;have n:P.stoodInHeld t=false:=by simpa using m
     have:=AV w (gY P d) (Op.equalIn d) (λt a b x y c he i j=>k t a b x y c he i j) aD e _ b h;simp only[Sem.run_bind,run_program,Result.andThen_ok,n,Bool.false_eq_true,if_false];rw[<-Array.forIn_toList,this];cases b<;>simp
   ·cases aD with|agg _ p aD=>cases e with|agg _ q e=>
    split at h
    ·rename_i o aS;have:=GL w _ o (gY P d) (Op.equalIn d) (λt a b x y c he i j=>k t a b x y c he i j) aD e _ _ b h;simp only[Sem.run_bind,run_sizeOf aS,Result.andThen_ok];rw[Std.Legacy.Range.forIn_eq_forIn_range'];simp only[Std.Legacy.Range.size,Nat.sub_zero,Nat.add_sub_cancel,Nat.div_one]at this ⊢;rw[this];cases b<;>simp
    ·cases h
def OF{op:BinOp}{k:IntKind}{a b:Int}{v:aa}(h:iY op k a b=D v)(t:TypeId)(w:World):
  ∃r,(binOp op t (.int k a) (.int k b)).run P w= .ok r w/\bB ρ v r:=by
 unfold iY at h;cases op<;>simp only at h<;>(try (cases h;done))<;>(try (simp only[bn]at h;subst h))<;>
  (try (exact⟨_,by simp only[binOp,ne_eq,not_true_eq_false,if_false,Op.intArith,Op.intBits,Op.intCmp];exact Sem.run_pure ..,by first|exact .int _ _|exact .bool _⟩))
 ·split at h
  ·cases h
  ·rename_i c;simp only[bn]at h;subst h;exact⟨_,by simp only[binOp,ne_eq,not_true_eq_false,if_false,Op.intDiv,c];exact Sem.run_pure ..,.int _ _⟩
 ·split at h
  ·cases h
  ·rename_i c;simp only[bn]at h;subst h;exact⟨_,by simp only[binOp,ne_eq,not_true_eq_false,if_false,Op.intDiv,c];exact Sem.run_pure ..,.int _ _⟩
def En{op:BinOp}{k d:IntKind}{a b:Int}{v:aa}(h:p2 op k a b=D v)(t:TypeId)(w:World):
  ∃r,(binOp op t (.int k a) (.int d b)).run P w= .ok r w/\bB ρ v r:=by
 unfold p2 at h;split at h
 ·cases h
 ·rename_i c;cases op<;>simp only at h<;>(try (cases h;done))<;>simp only[bn]at h<;>subst h
  ·exact⟨_,by simp only[binOp,Op.shift,if_neg c];exact Sem.run_pure ..,.int _ _⟩
  ·exact⟨_,by simp only[binOp,Op.shift,if_neg c];exact Sem.run_pure ..,.int _ _⟩
def toList_mk(a:List UInt8):(⟨a.toArray⟩:ByteArray).toList=a:=by rw[ByteArray.toList_eq]
def Qg(a b:List UInt8):(⟨a.toArray⟩++⟨b.toArray⟩:ByteArray)=⟨(a++b).toArray⟩:=by
 apply ByteArray.ext;simp
def aab{op:BinOp}{a b:List UInt8}{v:aa}(h:ys op a b=D v)(t:TypeId)(w:World):
  ∃r,(binOp op t (.string ⟨a.toArray⟩) (.string ⟨b.toArray⟩)).run P w= .ok r w/\bB ρ v r:=by
 unfold ys at h;unfold binOp;cases op<;>simp only at h<;>(try (cases h;done))<;>(try (simp only[bn]at h;subst h))<;>
  (try (exact⟨_,by simp only[Op.stringOp,toList_mk];exact Sem.run_pure ..,.bool _⟩))
 split at h
 ·rename_i az;simp only[bn]at h;subst h;refine⟨.string ⟨(a++b).toArray⟩,?_,.str _⟩;simp only[Op.stringOp];rw[if_neg,Qg]
  ·exact Sem.run_pure ..
  ·have e:IntKind.i64.max=9223372036854775807:=rfl;have c:(⟨a.toArray⟩:ByteArray).size=a.length:=by show a.toArray.size=_;simp
   have d:(⟨b.toArray⟩:ByteArray).size=b.length:=by show b.toArray.size=_;simp
   rw[e,c,d];omega
 ·cases h
def zn{op:BinOp}{t:TypeId}{a b:Operand}{x y:aa}{d e:Value}(h:n2 P t a b x y=C)(aD:bB ρ x d)(c:bB ρ y e)(w:World):
  (eqGuard op t a b d e).run P w= .ok () w:=by
 have aS:a.wk||b.wk=C->(eqGuard op t a b .nilIface .nilIface).run P w= .ok () w:=by
  intro h;cases op<;>first
   |rfl
   |(cases a<;>cases b<;>first|rfl|(simp[Operand.wk]at h;done))
 cases aD with
 |nilIface=>
  cases c with
  |nilIface=>
   refine aS ?_;simp only[n2]at h;cases a<;>cases b<;>simp_all[isConst,Operand.wk]
  |_=>cases op<;>rfl
 |agg cs xs aA=>
  cases c with
  |agg f i g=>
   simp only[n2,Bool.not_eq_true']at h;cases op<;>first|rfl|simp[eqGuard,h]
  |_=>cases op<;>rfl
 |_=>cases c<;>cases op<;>rfl
def binOp_eql{x y:aa}{c d:Value}(aD:bB ρ x c)(g:bB ρ y d)(e:∀k a h b,x= .int k a->y= .int h b->False)(f:∀a b,x= .str a->y= .str b->False)(t:TypeId):
  binOp .eql t c d=(do pure (.bool (<-Op.equal t c d)))/\binOp .neq t c d=(do pure (.bool (!(<-Op.equal t c d)))):=by
 cases aD<;>cases g<;>first
  |exact⟨rfl,rfl⟩
  |exact(e _ _ _ _ rfl rfl).elim
  |exact(f _ _ rfl rfl).elim
def JR{op:BinOp}{t:TypeId}{g i:Operand}{x y v:aa}{e f:Value}(h:sk P op t g i x y=D v)(aD:bB ρ x e)(c:bB ρ y f)(w:World):
  ∃r,((do eqGuard op t g i e f;binOp op t e f:Sem Value)).run P w= .ok r w/\bB ρ v r:=by
 have n:∀k a d b,(eqGuard op t g i (.int k a) (.int d b)).run P w= .ok () w:=λk a d b=>zn (ρ:=ρ) (x:= .int k a) (y:= .int d b) rfl (.int _ _) (.int _ _) w
 have o:∀a b,(eqGuard op t g i (.string ⟨a⟩) (.string ⟨b⟩)).run P w= .ok () w:=λa b=>by
  unfold eqGuard;split<;>rfl
 unfold sk at h;split at h
 ·cases aD;cases c;rename_i k a d b;simp only[Sem.run_bind,n,Result.andThen_ok];split at h
  ·exact En h t w
  ·exact En h t w
  ·split at h
   ·rename_i p;subst p;exact OF h t w
   ·cases h
 ·cases aD;cases c;simp only[Sem.run_bind,o,Result.andThen_ok];exact aab h t w
 ·rename_i q s;obtain⟨l,m⟩:=binOp_eql aD c (λk a d b ae ah=>q _ _ _ _ ae ah) (λa b ae ah=>s _ _ ae ah) t;split at h
  ·split at h
   ·rename_i aN;rw[Sem.run_bind,zn aN aD c w,Result.andThen_ok];simp only[Option.map_eq_some_iff]at h;obtain⟨b,j,rfl⟩:=h;have he:(Op.equal t e f).run P w= .ok b w:=sD (ρ:=ρ) w _ _ _ _ _ _ _ j aD c;exact⟨.bool b,by rw[l,Sem.run_bind,he];rfl,.bool b⟩
   ·cases h
  ·split at h
   ·rename_i aN;rw[Sem.run_bind,zn aN aD c w,Result.andThen_ok];simp only[Option.map_eq_some_iff]at h;obtain⟨b,j,rfl⟩:=h;have he:(Op.equal t e f).run P w= .ok b w:=sD (ρ:=ρ) w _ _ _ _ _ _ _ j aD c;exact⟨.bool (!b),by rw[m,Sem.run_bind,he];rfl,.bool _⟩
   ·cases h
  ·cases h
def KR{op:UnOp}{x v:aa}{a:Value}(h:dg op x=D v)(aD:bB ρ x a)(w:World):∃r,(Op.unary op a).run P w= .ok r w/\bB ρ v r:=by
 unfold dg at h;split at h
 ·cases aD;simp only[bn]at h;subst h;exact⟨_,by simp only[Op.unary,Op.intArith];exact Sem.run_pure ..,.int _ _⟩
 ·cases aD;simp only[bn]at h;subst h;exact⟨_,by simp only[Op.unary];exact Sem.run_pure ..,.bool _⟩
 ·cases h
end
section
variable {P:Program}{ρ:Env}{H:ad}{w:World}
def hx(c:Array Value)(o:Nat):List Value->Array Value
 |[]=>c
 |v::r=>hx (c.setIfInBounds o v) (o+1) r
def tc:∀(a:List Value) (c:Array Value) (o:Nat),(hx c o a).size=c.size
 |[],_,_=>rfl
 |v::r,c,o=>by rw[hx,tc r];simp
def qd:∀(a:List Value) (c:Array Value) (o k:Nat),k<o\/o+a.length<=k->(hx c o a)[k]? =c[k]?
 |[],_,_,_,_=>rfl
 |v::r,c,o,k,h=>by
  rw[hx,qd r _ _ _ (by simp at h;omega)];rw[Array.getElem?_setIfInBounds];have:¬o=k:=by simp at h;omega
  simp[this]
def w7:∀(a:List Value) (c:Array Value) (o j:Nat) (x:Value),a[j]? =D x->o+j<c.size->(hx c o a)[o+j]? =D x
 |[],_,_,_,_,h,_=>by simp at h
 |v::r,c,o,0,x,h,az=>by
  simp at h;subst h;rw[hx,qd r _ _ _ ai,Array.getElem?_setIfInBounds];simp;omega
 |v::r,c,o,j+1,x,h,az=>by
  rw[hx,show o+(j+1)=o+1+j by omega];exact w7 r _ _ _ _ (by simpa using h) (by simp;omega)
def vf(b:Nat):∀(d:List Value) (o:Nat) (w:World) (c:Array Value) (t:TypeId) (a:Nat×Nat),w.heap[b]? =D (.cells c t a)->
  (w.setCells b o d).heap[b]? =D (.cells (hx c o d) t a)
 |[],_,_,_,_,_,h=>h
 |v::r,o,w,c,t,a,h=>by
  rw[World.setCells,hx];refine vf b r (o+1) _ _ t a ?_;simp[World.setCell,Array.getElem?_modify,h]
def kN(b:Nat):∀(a:List Value) (o:Nat) (w:World) (k:Nat),k≠b->(w.setCells b o a).heap[k]? =w.heap[k]?
 |[],_,_,_,_=>rfl
 |v::r,o,w,k,h=>by
  rw[World.setCells,kN b r _ _ _ h];simp[World.setCell,Array.getElem?_modify,Ne.symm h]
def Bn(b:Nat):∀(e:List Value) (o:Nat) (w:World),(w.setCells b o e).heap.size=w.heap.size/\(w.setCells b o e).os=w.os/\(w.setCells b o e).tape=w.tape/\(w.setCells b o e).output=w.output
 |[],_,_=>⟨rfl,rfl,rfl,rfl⟩
 |v::r,o,w=>by
  rw[World.setCells];obtain⟨a,b,c,d⟩:=Bn b r (o+1) (w.setCell ⟨b,o,I⟩ v);exact⟨a.trans (by simp[World.setCell]),b,c,d⟩
def ft.cell{loc:Loc}{ro:Bool}{esz:Nat}{els:List (List aa)}(h:ft ρ w loc ro esz els){i:Nat}{e:List aa}(he:els[i]? =D e){j:Nat}{v:aa}(d:e[j]? =D v):
  ∃x,w.cell? ⟨loc.block,loc.off+i*loc.esz+j,I⟩=D x/\bB ρ v x/\v.one=true:=by
 obtain⟨rfl,c,t,f,b,_,a⟩:=h;obtain⟨_,aD⟩:=a i e he;obtain⟨ae,x,aD,a⟩:=aD j v d;exact⟨x,by simp[World.cell?,b,aD],a,ae⟩
def aj(P:Program)(H:ad)(t:TypeId)(a:aa):Option aa:=
 match a with
 | .ptr l i c=>
  (match H.get l with
  |some (.row _ esz els)=>
   (match els[i]?,dN P t with
   |some e,D Z=>e[c]?
   |some e,D C=>(match cD P t with|some n=>if c+n<=esz then D (.agg ((e.drop c).take n))else I|none=>I)
   |_,_=>I)
  |some (.dz _ esz els)=>
   (match els[i]?,dN P t with
   |some e,D Z=>e[c]?
   |some e,D C=>(match cD P t with|some n=>if c+n<=esz then D (.agg ((e.drop c).take n))else I|none=>I)
   |_,_=>I)
  |_=>I)
 |_=>I
def kd(b o j:Nat):(⟨b,o,I⟩:Addr).add j=⟨b,o+j,I⟩:=by
 unfold Addr.add;split<;>simp_all
def Cc{loc:Loc}{l i c:Nat}{ro:Bool}{esz:Nat}{els:List (List aa)}(az:ρ l=D loc)(d:ft ρ w loc ro esz els){t:TypeId}{v:aa}
 (h:(match els[i]?,dN P t with
  |some e,D Z=>e[c]?
  |some e,D C=>(match cD P t with|some n=>if c+n<=esz then D (.agg ((e.drop c).take n))else I|none=>I)
  |_,_=>I)=D v):
 ∃r,(Instr.loadAt t (.pointer (D ⟨loc.block,loc.off+i*loc.esz+c,I⟩))).run P w= .ok r w/\bB ρ v r:=by
  split at h
  ·rename_i e he b;obtain⟨x,aA,f,_⟩:=d.cell he h;refine⟨x,?_,f⟩;simp[Instr.loadAt,Instr.sureAddr,loadVar,xf b,run_load,aA]
  ·rename_i e he b;split at h
   ·rename_i n aS;split at h
    ·rename_i hle;simp only[bn]at h;subst h;have hlen:e.length=esz:=by obtain⟨_,q,z,s,_,_,o⟩:=d;exact(o i e he).1
     have hex:∃xs:List Value,xs.length=n/\bV ρ ((e.drop c).take n) xs/\∀j y,xs[j]? =D y->w.cell? ⟨loc.block,loc.off+i*loc.esz+c+j,I⟩=D y:=by
      clear b aS
      induction n with
      |zero=>exact⟨[],rfl,by simpa using bV.nil,λj y a=>by simp at a⟩
      |succ n p=>
       obtain⟨xs,ae,ah,ak⟩:=p ai;have g:c+n<e.length:=ai;obtain⟨x,aA,f,_⟩:=d.cell he (j:=c+n) (v:=e[c+n]) (by simp[g]);refine⟨xs++[x],by simp[ae],?_,?_⟩
       ·rw[List.take_succ_eq_append_getElem (by simp;omega)];refine ah.append (.cons _ _ _ _ ?_ .nil);simpa using f
       ·intro j y a;by_cases k:j<xs.length
        ·rw[List.getElem?_append_left k]at a;exact ak j y a
        ·rw[List.getElem?_append_right ai]at a;have:j=n:=by
          by_cases u:j-xs.length=0
          ·omega
          ·obtain⟨m,hm⟩:∃m,j-xs.length=m+1:=⟨j-xs.length-1,ai⟩;rw[hm]at a;simp at a
         subst this;simp[ae]at a;subst a;rw[<-aA,Nat.add_assoc]
     obtain⟨xs,ae,ah,ak⟩:=hex;refine⟨.agg xs.toArray,?_,.agg _ _ ah⟩;have:=run_loadCells_list (P:=P) w ⟨loc.block,loc.off+i*loc.esz+c,I⟩ xs (λj y a=>by rw[kd];exact ak j y a);rw[ae]at this;simp[Instr.loadAt,Instr.sureAddr,loadVar,xf b,run_sizeOf aS,this]
    ·cases h
   ·cases h
  ·cases h
def yW(g:Rel ρ H w){t:TypeId}{a v:aa}{x:Value}(h:aj P H t a=D v)(aD:bB ρ a x):
  ∃r,(Instr.loadAt t x).run P w= .ok r w/\bB ρ v r:=by
 unfold aj at h;split at h
 ·rename_i l i c;cases aD with|ptr _ _ _ loc az=>
  split at h
  ·rename_i ro esz els b;obtain⟨f,d,e⟩:=g.row _ _ _ _ b;obtain rfl:loc=f:=Option.some.inj (az.symm.trans d);exact Cc az e h
  ·rename_i j esz els b;obtain⟨f,d,e,-⟩:=g.dz _ _ _ _ b;obtain rfl:loc=f:=Option.some.inj (az.symm.trans d);exact Cc az e h
  ·cases h
 ·cases h
def eD(ot:Option TypeId)(esz:Nat)(els:List (List aa)):bL:=match ot with
 |none=> .row Z esz els
 |some t=> .dz t esz els
def Am(ot:Option TypeId)(esz:Nat)(els:List (List aa)):(eD ot esz els).sN=false:=by cases ot<;>rfl
def An{ot:Option TypeId}{esz b:Nat}{els a:List (List aa)}{ro:Bool}(h:eD ot esz els= .row ro b a):ro=Z/\esz=b/\els=a/\ot=none:=by
 cases ot<;>cases h;exact⟨rfl,rfl,rfl,rfl⟩
def Ao{ot:Option TypeId}{esz b:Nat}{els a:List (List aa)}{t:TypeId}(h:eD ot esz els= .dz t b a):ot=D t/\esz=b/\els=a:=by
 cases ot<;>cases h;exact⟨rfl,rfl,rfl⟩
def Al{ot:Option TypeId}{esz:Nat}{els:List (List aa)}{es:List (aa×aa)}(h:eD ot esz els= .map es):False:=by cases ot<;>cases h
def oo{H:ad}{l:Nat}{ot:Option TypeId}{esz:Nat}{els:List (List aa)}(h:H.get l=D (eD ot esz els)):H.rw l:=by
 cases ot with
 |none=>exact .inl ⟨_,_,h⟩
 |some t=>exact .inr (.inr ⟨_,_,_,h⟩)
def wR(d:Rel ρ H w){l:Nat}{ot:Option TypeId}{esz:Nat}{els:List (List aa)}(h:H.get l=D (eD ot esz els)):∃loc,ρ l=D loc/\ft ρ w loc Z esz els/\∀t,ot=D t->∃c e,w.heap[loc.block]? =D (.cells c t e)/\loc.off=0:=by
 cases ot with
 |none=>obtain⟨loc,a,b⟩:=d.row _ _ _ _ h;exact⟨loc,a,b,λt h=>by cases h⟩
 |some t=>obtain⟨loc,a,b,c⟩:=d.dz _ _ _ _ h;exact⟨loc,a,b,λt h=>by cases h;exact c⟩
def eI(e:List aa)(c:Nat)(cs:List aa):List aa:=e.take c++cs++e.drop (c+cs.length)
def Iz{e:List aa}{c:Nat}{cs:List aa}(h:c+cs.length<=e.length):(eI e c cs).length=e.length:=by
 simp[eI];omega
def Iy{e:List aa}{c:Nat}{cs:List aa}(h:c+cs.length<=e.length){j:Nat}(ae:c<=j)(ah:j<c+cs.length):(eI e c cs)[j]? =cs[j-c]? :=by
 unfold eI;rw[List.append_assoc,List.getElem?_append_right (by simp;omega),List.getElem?_append_left (by simp;omega)]
 congr 1;simp;omega
def IA{e:List aa}{c:Nat}{cs:List aa}(h:c+cs.length<=e.length){j:Nat}(ae:j<c\/c+cs.length<=j):(eI e c cs)[j]? =e[j]? :=by
 unfold eI;rcases ae with ae|ae
 ·rw[List.append_assoc,List.getElem?_append_left (by simp;omega),List.getElem?_take_of_lt ae]
 ·rw[List.getElem?_append_right (by simp;omega),List.getElem?_drop]
  congr 1;simp;omega
def sV{a b n:Nat}(h:a<b):a*n+n<=b*n:=by
 have:=Nat.mul_le_mul_right n (Nat.succ_le_of_lt h);rw[Nat.succ_mul]at this;exact this
def Ju(o:Rel ρ H w){ot:Option TypeId}{l esz:Nat}{els:List (List aa)}(q:H.get l=D (eD ot esz els)){loc:Loc}(az:ρ l=D loc){i:Nat}{e:List aa}(he:els[i]? =D e)
  {c:Nat} {cs:List aa} {xs:List Value} (aA:c+cs.length<=esz) (ae:∀v∈cs,v.one=C) (af:bV ρ cs xs):
  Step ρ H w ρ (H.set l (eD ot esz (els.set i (eI e c cs)))) (w.setCells loc.block (loc.off+i*loc.esz+c) xs):=by
 have O:=ad.b6 q;obtain⟨f,g,⟨r,arr,t,B,G,ay,K⟩,aI⟩:=wR o q;obtain rfl:loc=f:=Option.some.inj (az.symm.trans g);have ax:=(K i e he).1;have aC:i<els.length:=by
  rcases Nat.lt_or_ge i els.length with h|h
  ·exact h
  ·rw[List.getElem?_eq_none h]at he;cases he
 have aj:=af.length;have P:∀a f,H.live a->a≠l->ρ a=D f->f.block≠loc.block:=λa f h ca g heq=>
  o.apart l a loc f (oo q) h (Ne.symm ca) az g heq.symm
 have ab:∀a,(H.set l (eD ot esz (els.set i (eI e c cs)))).rw a->H.rw a:=by
  intro a h;by_cases d:l=a
  ·subst d;exact oo q
  ·simpa [ad.rw,ad.cW d]using h
 have aG:∀a,(H.set l (eD ot esz (els.set i (eI e c cs)))).live a->H.live a:=by
  intro a h;by_cases d:l=a
  ·subst d;exact(oo q).live
  ·simpa [ad.live,ad.cW d]using h
 obtain⟨s1,s2,aR,aS⟩:=Bn loc.block xs (loc.off+i*loc.esz+c) w;have Y:ft ρ (w.setCells loc.block (loc.off+i*loc.esz+c) xs) loc Z esz (els.set i (eI e c cs))/\∃M B,(w.setCells loc.block (loc.off+i*loc.esz+c) xs).heap[loc.block]? =D (.cells M t B):= ?new;refine⟨ρ.le_refl,b4 _,λ_ _=>rfl,⟨?_,?_,?_,?_⟩,s2,aR,aS,Nat.le_of_eq s1.symm,?_,?_,ad.AT (Am _ _ _)⟩
 case new=>
  refine⟨⟨r,_,t,B,vf _ _ _ _ _ _ _ G,?_,?_⟩,_,B,vf _ _ _ _ _ _ _ G⟩
  ·rw[tc];exact ay
  ·intro al U p;rw[List.getElem?_set]at p;by_cases N:i=al
   ·subst N;rw[if_pos rfl,if_pos aC]at p;simp only[bn]at p;subst p;have R:c+cs.length<=e.length:=ai;refine⟨by rw[Iz R];exact ax,?_⟩;intro j v k;by_cases W:c<=j/\j<c+cs.length
    ·rw[Iy R W.1 W.2]at k;obtain⟨x,aD,s⟩:=af.get _ _ k;refine⟨ae v (List.mem_of_getElem? k),x,?_,s⟩;have aw:=(K i e he).2 j (e[j]'ai) (by simp);obtain⟨_,aX,ag,_⟩:=aw;have aV:loc.off+i*esz+j<arr.size:=by
      rcases Nat.lt_or_ge (loc.off+i*esz+j) arr.size with h|h
      ·exact h
      ·rw[Array.getElem?_eq_none h]at ag;cases ag
     have:=w7 xs arr (loc.off+i*loc.esz+c) (j-c) x aD (by rw[r];omega);rw[show loc.off+i*esz+j=loc.off+i*loc.esz+c+(j-c) by rw[r];omega];exact this
    ·rw[IA R ai]at k;obtain⟨L,x,aD,s⟩:=(K i e he).2 j v k;refine⟨L,x,?_,s⟩;rw[qd _ _ _ _ (by rw[r,<-aj];omega)];exact aD
   ·rw[if_neg N]at p;obtain⟨a0,L⟩:=K al U p;refine⟨a0,λj v k=> ?_⟩;obtain⟨an,x,aD,s⟩:=L j v k;refine⟨an,x,?_,s⟩;have aU:j<esz:=by
     rcases Nat.lt_or_ge j U.length with h|h
     ·omega
     ·rw[List.getElem?_eq_none h]at k;cases k
    rw[qd _ _ _ _ ?_]
    ·exact aD
    ·rw[r,<-aj];rcases Nat.lt_or_gt_of_ne N with h|h
     ·have:=sV (n:=esz) h;omega
     ·have:=sV (n:=esz) h;omega
 ·intro a aW ar aq h;by_cases d:l=a
  ·subst d;rw[ad.dA O]at h;obtain⟨rfl,rfl,rfl,-⟩:=An (Option.some.inj h);exact⟨loc,az,Y.1⟩
  ·rw[ad.cW d]at h;obtain⟨f,g,Q⟩:=o.row _ _ _ _ h;refine⟨f,g,?_⟩;have m:=P a f (.inl ⟨_,_,_,h⟩) (Ne.symm d) g;obtain⟨S,A,am,E,u,z,T⟩:=Q;exact⟨S,A,am,E,by rw[kN _ _ _ _ _ m];exact u,z,T⟩
 ·intro a es h;by_cases d:l=a
  ·subst d;rw[ad.dA O]at h;exact(Al (Option.some.inj h)).elim
  ·rw[ad.cW d]at h;obtain⟨f,g,Q⟩:=o.map _ _ h;have m:=P a f (.inr (.inl ⟨_,h⟩)) (Ne.symm d) g;obtain⟨ents,clock,u,z⟩:=Q;exact⟨f,g,ents,clock,by rw[kN _ _ _ _ _ m];exact u,z⟩
 ·intro a am ar aq h;by_cases d:l=a
  ·subst d;rw[ad.dA O]at h;obtain⟨ap,rfl,rfl⟩:=Ao (Option.some.inj h);obtain⟨A,E,V,av⟩:=aI _ ap;rw[G]at V;cases V;obtain⟨cP,M,f1,aO⟩:=Y;exact⟨loc,az,cP,M,f1,aO,av⟩
  ·rw[ad.cW d]at h;obtain⟨f,g,⟨S,A,aT,E,u,z,T⟩,ao,au,aP,aQ⟩:=o.dz _ _ _ _ h;have m:=P a f (.inr (.inr ⟨_,_,_,h⟩)) (Ne.symm d) g;exact⟨f,g,⟨S,A,aT,E,by rw[kN _ _ _ _ _ m];exact u,z,T⟩,ao,au,by rw[kN _ _ _ _ _ m];exact aP,aQ⟩
 ·intro aK aL aM aN ae ah m aE aF;exact o.apart aK aL aM aN (ab _ ae) (aG _ ah) m aE aF
 ·intro b G aH;refine kN _ _ _ _ _ ?_;rintro rfl;exact aH ⟨l,loc,oo q,az,rfl⟩
 ·rintro b ⟨a,f,ae,ah,ak⟩;exact .inl ⟨a,f,ab _ ae,ah,ak⟩
def bA(P:Program)(H:ad)(t:TypeId)(a v:aa):Option ad:=
 match a with
 | .ptr l i c=>
  (match H.get l with
  |some (.row Z esz els)=>
   (match els[i]? with
   |some e=>if cD P t=D v.cells.length/\c+v.cells.length<=esz/\v.cells.all aa.one=C then D (H.set l (.row Z esz (els.set i (eI e c v.cells))))else I
   |none=>I)
  |some (.dz b esz els)=>
   (match els[i]? with
   |some e=>if cD P t=D v.cells.length/\c+v.cells.length<=esz/\v.cells.all aa.one=C then D (H.set l (.dz b esz (els.set i (eI e c v.cells))))else I
   |none=>I)
  |_=>I)
 |_=>I
def Cy(d:Rel ρ H w){ot:Option TypeId}{l i c esz:Nat}{els:List (List aa)}(g:H.get l=D (eD ot esz els)){loc:Loc}(az:ρ l=D loc){e:List aa}(he:els[i]? =D e){t:TypeId}{v:aa}{y:Value}(M:bB ρ v y)
  (E:cD P t=D v.cells.length) (aA:c+v.cells.length<=esz) (A:v.cells.all aa.one=C):
  ∃q,(Instr.storeAt t (.pointer (D ⟨loc.block,loc.off+i*loc.esz+c,I⟩)) y).run P w= .ok () q/\Step ρ H w ρ (H.set l (eD ot esz (els.set i (eI e c v.cells)))) q:=by
 have m:∀u∈v.cells,u.one=true:=by simpa using A
 have b:=M.cells;refine⟨_,?_,Ju d g az he aA m b⟩;obtain⟨N,x,o,-⟩:=wR d g;obtain rfl:loc=N:=Option.some.inj (az.symm.trans x);have hlen:=b.length;have S:=o;obtain⟨r,arr,T,Q,f,s,n⟩:=o;have R:=(n i e he).1;have p:∀j,j<y.cells.toList.length->∃u,arr[loc.off+i*loc.esz+c+j]? =D u:=by
  intro j a;obtain⟨_,u,hu,_⟩:=(n i e he).2 (c+j) (e[c+j]'ai) (by simp);exact⟨u,by rw[r,Nat.add_assoc];exact hu⟩
 have B:=run_storeCells_cells (P:=P) loc.block (loc.off+i*loc.esz+c) y.cells.toList 0 w
  (λj a=>by obtain⟨u,hu⟩:=p j a;simp[World.cell?,f,hu])
  (λj a=>by
   obtain⟨u,hu⟩:=p j a;have z:loc.off+i*loc.esz+c+j<arr.size:=by
    rcases Nat.lt_or_ge (loc.off+i*loc.esz+c+j) arr.size with h|h
    ·exact h
    ·rw[Array.getElem?_eq_none h]at hu;cases hu
   have:=s.2 rfl _ z;simp only[World.frozen?,f,Nat.add_zero];simpa using this)
  (λu hu=>by
   obtain⟨j,a⟩:=List.getElem?_of_mem hu;have k:j<v.cells.length:=by
    rcases Nat.lt_or_ge j y.cells.toList.length with h|h
    ·omega
    ·rw[List.getElem?_eq_none h]at a;cases a
   obtain⟨O,K,L⟩:=b.get j _ (List.getElem?_eq_getElem k);obtain rfl:u=O:=Option.some.inj (a.symm.trans K);exact L.Az (m _ (List.getElem_mem k)))
 have G:y.cells.size=v.cells.length:=by rw[hlen];simp
 simp only[Instr.storeAt,Instr.sureAddr,Sem.run_bind,Sem.run_pure,Result.andThen_ok,storeVar,run_sizeOf E,G,ne_eq,not_true_eq_false,if_false];simpa using B
def KP(j:Rel ρ H w){t:TypeId}{a v:aa}{x y:Value}{H':ad}(h:bA P H t a v=D H')(aD:bB ρ a x)(k:bB ρ v y):
  ∃m,(Instr.storeAt t x y).run P w= .ok () m/\Step ρ H w ρ H' m:=by
 unfold bA at h;split at h
 ·rename_i l i c;cases aD with|ptr _ _ _ loc az=>
  split at h
  ·rename_i esz els d;split at h
   ·rename_i e he;split at h
    ·rename_i b;obtain⟨g,aA,f⟩:=b;simp only[bn]at h;subst h;exact Cy j (ot:=none) d az he k g aA f
    ·cases h
   ·cases h
  ·rename_i n esz els d;split at h
   ·rename_i e he;split at h
    ·rename_i b;obtain⟨g,aA,f⟩:=b;simp only[bn]at h;subst h;exact Cy j (ot:=some n) d az he k g aA f
    ·cases h
   ·cases h
  ·cases h
 ·cases h
end
def Env.dV(ρ:Env)(l:Nat)(loc:Loc):Env:=λk=>if k=l then D loc else ρ k
def Env.fV(ρ:Env)(l:Nat)(loc:Loc):ρ.dV l loc l=D loc:=by simp[Env.dV]
def Env.ga{ρ:Env}{l k:Nat}{loc:Loc}(h:k≠l):ρ.dV l loc k=ρ k:=by simp[Env.dV,h]
def Env.k8{ρ:Env}{l:Nat}(h:ρ l=I)(loc:Loc):ρ.le (ρ.dV l loc):=by
 intro k x a;by_cases e:k=l
 ·subst e;rw[h]at a;cases a
 ·rw[Env.ga e];exact a
section
variable {P:Program}{ρ:Env}{H:ad}{w:World}
def heap_alloc_old(w:World)(o:Obj){k:Nat}(h:k<w.heap.size):(w.alloc o).heap[k]? =w.heap[k]? :=by
 show(w.heap.push o)[k]? =_;rw[Array.getElem?_push,if_neg ai]
def heap_alloc_new(w:World)(o:Obj):(w.alloc o).heap[w.heap.size]? =D o:=by
 show(w.heap.push o)[w.heap.size]? =_;simp
def NV(w:World)(o:Obj):(w.alloc o).heap.size=w.heap.size+1:=by
 show(w.heap.push o).size=_;simp
def iX{w:World}{k:Nat}{o:Obj}(h:w.heap[k]? =D o):k<w.heap.size:=by
 rcases Nat.lt_or_ge k w.heap.size with ca|ca
 ·exact ca
 ·rw[Array.getElem?_eq_none ca]at h;cases h
def zs{esz:Nat}:∀{els:List (List aa)},(∀e∈els,e.length=esz)->∀{i:Nat} {e:List aa},els[i]? =D e->∀{j:Nat} {v:aa},e[j]? =D v->els.flatten[i*esz+j]? =D v
 |[],_,_,_,h,_,_,_=>by simp at h
 |d::els,az,0,e,h,j,v,a=>by
  simp at h;subst h;have b:j<d.length:=by
   rcases Nat.lt_or_ge j d.length with h|h
   ·exact h
   ·rw[List.getElem?_eq_none h]at a;cases a
  simp only[List.flatten_cons,Nat.zero_mul,Nat.zero_add];rw[List.getElem?_append_left b];exact a
 |d::els,az,i+1,e,h,j,v,a=>by
  have c:d.length=esz:=az d (by simp);have:=zs (els:=els) (λe he=>az e (List.mem_cons_of_mem _ he)) (i:=i) (by simpa using h) a;simp only[List.flatten_cons];rw[List.getElem?_append_right (by rw[Nat.succ_mul];omega)];rw[<-this];congr 1;rw[Nat.succ_mul];omega
def xh{H:ad}{b:bL}{l:Nat}(h:(H.push b).rw l):l=H.next\/H.rw l:=by
 by_cases e:l=H.next
 ·exact .inl e
 ·exact .inr (by simpa [ad.rw,ad.eN e]using h)
def wN{H:ad}{b:bL}{l:Nat}(h:(H.push b).live l):l=H.next\/H.live l:=by
 by_cases e:l=H.next
 ·exact .inl e
 ·exact .inr (by simpa [ad.live,ad.eN e]using h)
def Rel.y_(e:Rel ρ H w){l:Nat}(h:H.live l){loc:Loc}(az:ρ l=D loc):loc.block<w.heap.size:=by
 rcases h with⟨ro,esz,els,h⟩|⟨es,h⟩|⟨t,esz,els,h⟩
 ·obtain⟨d,b,_,c,t,f,a,_⟩:=e.row _ _ _ _ h;obtain rfl:loc=d:=Option.some.inj (az.symm.trans b);exact iX a
 ·obtain⟨d,b,ents,clock,a,_⟩:=e.map _ _ h;obtain rfl:loc=d:=Option.some.inj (az.symm.trans b);exact iX a
 ·obtain⟨d,b,_,c,f,a,_⟩:=e.dz _ _ _ _ h;obtain rfl:loc=d:=Option.some.inj (az.symm.trans b);exact iX a
def l3{H:ad}{l:Nat}(h:H.live l):l<H.next:=by
 rcases h with⟨_,_,_,h⟩|⟨_,h⟩|⟨_,_,_,h⟩<;>exact ad.b6 h
def ft.frame{b:Env}{a:World}{loc:Loc}{ro:Bool}{esz:Nat}{els:List (List aa)}(h:ft ρ w loc ro esz els)(hle:ρ.le b)(f:a.heap[loc.block]? =w.heap[loc.block]?):ft b a loc ro esz els:=by
 obtain⟨k,c,t,e,p,l,m⟩:=h;refine⟨k,c,t,e,by rw[f];exact p,l,?_⟩;intro i d g;obtain⟨ae,ah⟩:=m i d g;refine⟨ae,λj v n=> ?_⟩;obtain⟨ak,x,aD,o⟩:=ah j v n;exact⟨ak,x,aD,o.mono hle⟩
def ft.lt{loc:Loc}{ro:Bool}{esz:Nat}{els:List (List aa)}(h:ft ρ w loc ro esz els):loc.block<w.heap.size:=by
 obtain⟨_,c,t,a,p,_⟩:=h;exact iX p
def lN.frame{d:Env}{b:World}{loc:Loc}{t:TypeId}{esz:Nat}{els:List (List aa)}(h:lN ρ w loc t esz els)(hle:ρ.le d)(a:b.heap[loc.block]? =w.heap[loc.block]?):lN d b loc t esz els:=by
 obtain⟨ae,c,e,ah,ak⟩:=h;exact⟨ae.frame hle a,c,e,by rw[a];exact ah,ak⟩
def Gi(f:Rel ρ H w)(aN:ρ H.next=I)(b:bL)(s:b.sN=Z)(o:Obj)(loc:Loc)(B:loc.block=w.heap.size)
  (u:∀ro esz els,b= .row ro esz els->ft (ρ.dV H.next loc) (w.alloc o) loc ro esz els) (r:∀es,b= .map es->yM (ρ.dV H.next loc) (w.alloc o) loc es) (v:∀t esz els,b= .dz t esz els->lN (ρ.dV H.next loc) (w.alloc o) loc t esz els):
  Step ρ H w (ρ.dV H.next loc) (H.push b) (w.alloc o):=by
 have hle:=Env.k8 aN loc;have n:∀l a,H.live l->ρ.dV H.next loc l=D a->a.block<w.heap.size:=λl a h ca=>by
  have j:l≠H.next:=by
   rintro rfl;have:=l3 h;omega
  rw[Env.ga j]at ca;exact f.y_ h ca
 refine⟨hle,by simp,λl az=>Env.ga (by simp at az;omega),⟨?_,?_,?_,?_⟩,rfl,rfl,rfl,by rw[NV];omega,λk q _=>heap_alloc_old w o q,?_,ad.AS s⟩
 ·intro l ro esz els h;by_cases e:l=H.next
  ·subst e;rw[ad.bq]at h;exact⟨loc,Env.fV _ _ _,u _ _ _ (Option.some.inj h)⟩
  ·rw[ad.eN e]at h;obtain⟨a,g,i⟩:=f.row _ _ _ _ h;exact⟨a,by rw[Env.ga e];exact g,i.frame hle (heap_alloc_old w o i.lt)⟩
 ·intro l es h;by_cases e:l=H.next
  ·subst e;rw[ad.bq]at h;exact⟨loc,Env.fV _ _ _,r _ (Option.some.inj h)⟩
  ·rw[ad.eN e]at h;obtain⟨a,g,ents,clock,m,ae,ah⟩:=f.map _ _ h;exact⟨a,by rw[Env.ga e];exact g,ents,clock,by rw[heap_alloc_old w o (iX m)];exact m,ae.mono hle,ah.mono hle⟩
 ·intro l t esz els h;by_cases e:l=H.next
  ·subst e;rw[ad.bq]at h;exact⟨loc,Env.fV _ _ _,v _ _ _ (Option.some.inj h)⟩
  ·rw[ad.eN e]at h;obtain⟨a,g,i⟩:=f.dz _ _ _ _ h;exact⟨a,by rw[Env.ga e];exact g,i.frame hle (heap_alloc_old w o i.1.lt)⟩
 ·intro l p x z ae ah j c d;rcases xh ae with rfl|ae
  ·rcases wN ah with rfl|ah
   ·exact absurd rfl j
   ·rw[Env.fV]at c;obtain rfl:=Option.some.inj c;have:=n _ _ ah d;omega
  ·rcases wN ah with rfl|ah
   ·rw[Env.fV]at d;obtain rfl:=Option.some.inj d;have:=n _ _ ae.live c;omega
   ·have cP:l≠H.next:=by
     rintro rfl;have:=l3 ae.live;omega
    have A:p≠H.next:=by
     rintro rfl;have:=l3 ah;omega
    rw[Env.ga cP]at c;rw[Env.ga A]at d;exact f.apart l p x z ae ah j c d
 ·rintro k ⟨l,a,ae,ah,ak⟩;rcases xh ae with rfl|ae
  ·rw[Env.fV]at ah;obtain rfl:=Option.some.inj ah;exact .inr ai
  ·have cP:l≠H.next:=by
    rintro rfl;have:=l3 ae.live;omega
   rw[Env.ga cP]at ah;exact .inl ⟨l,a,ae,ah,ak⟩
def s_(g:Rel ρ H w)(aN:ρ H.next=I){ot:Option TypeId}{esz:Nat}{els:List (List aa)}(hlen:∀e∈els,e.length=esz)(l:∀e∈els,∀v∈e,v.one=C)
  {xs tail:List Value} (n:bV ρ els.flatten xs) (t:TypeId) (m:∀a,ot=D a->a=t):
  Step ρ H w (ρ.dV H.next ⟨w.heap.size,0,esz,xs.length+tail.length⟩) (H.push (eD ot esz els)) (w.alloc (.cells (xs++tail).toArray t)):=by
 have key:lN (ρ.dV H.next ⟨w.heap.size,0,esz,xs.length+tail.length⟩) (w.alloc (.cells (xs++tail).toArray t)) ⟨w.heap.size,0,esz,xs.length+tail.length⟩ t esz els:=by
  refine⟨⟨rfl,_,t,(0,0),heap_alloc_new _ _,⟨by simp,λ_ o _=>by simp⟩,?_⟩,_,_,heap_alloc_new _ _,rfl⟩;intro i e he;refine⟨hlen e (List.mem_of_getElem? he),λj v b=> ?_⟩;refine⟨l e (List.mem_of_getElem? he) v (List.mem_of_getElem? b),?_⟩;obtain⟨x,aD,p⟩:=n.get _ _ (zs hlen he b);refine⟨x,?_,p.mono (Env.k8 aN _)⟩;have k:i*esz+j<xs.length:=by
   rcases Nat.lt_or_ge (i*esz+j) xs.length with h|h
   ·exact h
   ·rw[List.getElem?_eq_none h]at aD;cases aD
  simp only[Nat.zero_add,List.getElem?_toArray];rw[List.getElem?_append_left k];exact aD
 refine Gi g aN _ (Am _ _ _) _ _ rfl ?_ (λes h=>(Al h).elim) ?_
 ·intro ro d c h;obtain⟨rfl,rfl,rfl,-⟩:=An h;exact key.1
 ·intro a d c h;obtain⟨f,rfl,rfl⟩:=Ao h;obtain rfl:=m a f;exact key
def wW:Value->Option aa
 | .bool b=>D (.bool b)
 | .int k n=>D (.int k n)
 | .string s=>D (.str s.data.toList)
 | .pointer I=>D .fD
 | .slice I 0 0=>D .aB
 | .map I=>D .hv
 | .nilFunc=>D .nilFunc
 | .nilIface=>D .nilIface
 |_=>I
def sZ:List Value->Option (List aa)
 |[]=>D []
 |v::r=>match wW v,sZ r with
  |some a,D l=>D (a::l)
  |_,_=>I
def s4:Value->Option aa
 | .agg cs=>(sZ cs.toList).map .agg
 |v=>wW v
def FH{v:Value}{a:aa}(h:wW v=D a)(ρ:Env):bB ρ a v/\a.one=true:=by
 unfold wW at h;split at h<;>first
  |(simp only[bn]at h;subst h;exact⟨by constructor,rfl⟩)
  |cases h
def FI:∀{b:List Value} {as:List aa},sZ b=D as->∀ρ:Env,bV ρ as b/\∀a∈as,a.one=C
 |[],as,h,ρ=>by simp[sZ]at h;subst h;exact⟨.nil,by simp⟩
 |v::r,as,h,ρ=>by
  unfold sZ at h;split at h
  ·rename_i a l c az;simp only[bn]at h;subst h;obtain⟨ae,ah⟩:=FH c ρ;obtain⟨ak,au⟩:=FI az ρ;exact⟨.cons _ _ _ _ ae ak,by simpa using⟨ah,au⟩⟩
  ·cases h
def wX{v:Value}{a:aa}(h:s4 v=D a)(ρ:Env):bB ρ a v:=by
 unfold s4 at h;split at h
 ·simp only[Option.map_eq_some_iff]at h;obtain⟨l,az,rfl⟩:=h;have:=bB.agg _ _ (FI az ρ).1;simpa using this
 ·exact(FH h ρ).1
def e1(P:Program)(t:TypeId):Option aa:=(P.info? t).bind λi=>i.zero.bind s4
def lU{t:TypeId}{z:aa}(h:e1 P t=D z)(w:World):∃x,(zeroValue t).run P w= .ok x w/\∀ρ:Env,bB ρ z x:=by
 unfold e1 at h;simp only[dP]at h;obtain⟨i,a,x,aD,b⟩:=h;exact⟨x,by simp[zeroValue,typeInfo,a,aD],λρ=>wX b ρ⟩
def p_(P:Program)(t:TypeId):Option TypeId:=match P.underlying t with
 |some (.struct fs)=>(match fs.toList with
  |[f]=>(match P.underlying f.type with
   |some (.struct gs)=>if gs.size=2 then D t else I
   |_=>I)
  |_=>I)
 |_=>I
def FE{P:Program}{t a:TypeId}(h:p_ P t=D a):a=t:=by
 unfold p_ at h;split at h
 ·split at h
  ·split at h
   ·split at h
    ·exact(Option.some.inj h).symm
    ·cases h
   ·cases h
  ·cases h
 ·cases h
def py(ot:Option TypeId)(H:ad)(v:aa):Option (aa×ad):=
 if v.cells.all aa.one=C then D (.ptr H.next 0 0,H.push (eD ot v.cells.length [v.cells]))else I
def BZ(e:Rel ρ H w)(aN:ρ H.next=I){ot:Option TypeId}{v a:aa}{x:Value}{H':ad}(h:py ot H v=D (a,H'))(aD:bB ρ v x)(t:TypeId)(i:∀b,ot=D b->b=t):
  ∃r c d,(Instr.box t x).run P w= .ok r c/\bB d a r/\Step ρ H w d H' c:=by
 unfold py at h;split at h
 ·rename_i f;simp only[bn,cM]at h;obtain⟨rfl,rfl⟩:=h;have aA:=aD.cells;have g:=s_ e aN (ot:=ot) (esz:=v.cells.length) (els:=[v.cells]) (by simp) (by simpa using f) (xs:=x.cells.toList) (tail:=[]) (by simpa using aA) t i;refine⟨.pointer (D ⟨w.heap.size,0,I⟩),_,_,?_,?_,g⟩
  ·simp[Instr.box,newVar,newRow]
  ·simpa using bB.ptr (ρ:=ρ.dV H.next _) H.next 0 0 _ (Env.fV _ _ _)
 ·cases h
def vv(P:Program)(H:ad)(t:TypeId):Option (aa×ad):=(e1 P t).bind (py (p_ P t) H)
def JP(d:Rel ρ H w)(aN:ρ H.next=I){t:TypeId}{a:aa}{H':ad}(h:vv P H t=D (a,H')):
  ∃r b c,(Instr.alloc t C (.tuple #[])).run P w= .ok r b/\bB c a r/\Step ρ H w c H' b:=by
 unfold vv at h;simp only[dP]at h;obtain⟨z,f,h⟩:=h;obtain⟨x,aD,e⟩:=lU f w;obtain⟨r,b,c,ae,ah,ak⟩:=BZ (P:=P) d aN h (e ρ) t λ_ h=>FE h
 refine⟨r,b,c,?_,ah,ak⟩;simp only[Instr.alloc,Sem.run_bind,aD,Result.andThen_ok];simpa [Instr.box]using ae
end
section
variable {P:Program}{ρ:Env}{H:ad}{w:World}
def lQ(place:Nat->Option (Nat×Nat))(cells:List aa):List (Nat×aa)->Option (List aa)
 |[]=>D cells
 |(i,v)::rest=>
  match place i with
  |none=>I
  |some (off,size)=>if v.cells.length=size/\off+v.cells.length<=cells.length then lQ place (eI cells off v.cells) rest else I
def zv:∀(a:List Value) (k off:Nat) (c:Array Value),(a.zipIdx k).foldl (λcs (x:Value×Nat)=>cs.setIfInBounds (off+x.2) x.1) c=hx c (off+k) a
 |[],_,_,_=>rfl
 |v::r,k,off,c=>by
  simp only[List.zipIdx_cons,List.foldl_cons,hx];rw[zv r (k+1) off];rfl
def IB{e:List aa}{xs:List Value}{c:Nat}{cs:List aa}{d:List Value}(he:bV ρ e xs)(aA:bV ρ cs d)(h:c+cs.length<=e.length):
  bV ρ (eI e c cs) (hx xs.toArray c d).toList:=by
 have k:=he.length;have l:=aA.length;refine bV.FK (by rw[Iz h];simp[tc,k]) ?_;intro j v x a aD;by_cases i:c<=j/\j<c+cs.length
 ·rw[Iy h i.1 i.2]at a;obtain⟨b,g,f⟩:=aA.get _ _ a;have:=w7 d xs.toArray c (j-c) b g (by simp;omega);rw[show c+(j-c)=j by omega]at this;simp only[Array.getElem?_toList]at aD;obtain rfl:x=b:=Option.some.inj (aD.symm.trans this);exact f
 ·rw[IA h ai]at a;obtain⟨b,g,f⟩:=he.get _ _ a;have:=qd d xs.toArray c j ai;simp only[Array.getElem?_toList]at aD;rw[this]at aD;simp only[List.getElem?_toArray]at aD;obtain rfl:x=b:=Option.some.inj (aD.symm.trans g);exact f
def pw(ρ:Env):List (Nat×aa)->List (Nat×Value)->Prop
 |[],[]=>True
 |(i,v)::r,(j,x)::s=>i=j/\bB ρ v x/\pw ρ r s
 |_,_=>False
def yT(place:Nat->Option (Nat×Nat)):∀(parts:List (Nat×aa)) (k:List (Nat×Value)) (cells b:List aa) (xs:List Value),pw ρ parts k->bV ρ cells xs->
  lQ place cells parts=D b->∃d:List Value,Instr.fill place xs.toArray k=D d.toArray/\bV ρ b d
 |[],[],cells,b,xs,_,aA,h=>by
  simp[lQ]at h;subst h;exact⟨xs,rfl,aA⟩
 |[],_::_,_,_,_,a,_,_=>a.elim
 |_::_,[],_,_,_,a,_,_=>a.elim
 |(i,v)::r,(j,x)::s,cells,b,xs,a,aA,h=>by
  obtain⟨rfl,n,a⟩:=a;unfold lQ at h;unfold Instr.fill;cases f:place i with
  |none=>rw[f]at h;cases h
  |some os=>
   obtain⟨off,size⟩:=os;rw[f]at h;simp only at h;split at h
   ·rename_i e;have g:=n.cells;have o:=g.length;have p:=aA.length;have m:x.cells.size=v.cells.length:=by rw[o];simp
    have l:=IB aA g (c:=off) e.2;obtain⟨d,ae,ah⟩:=yT place r s _ b _ a l h;refine⟨d,?_,ah⟩;simp only
    rw[if_neg (by simp[m,e.1];have:=e.2;omega)];have:=zv x.cells.toList 0 off xs.toArray;rw[Nat.add_zero]at this;rw[<-Array.foldl_toList,Array.toList_zipIdx,this];simpa using ae
   ·cases h
def pC(P:Program):List Field->Option (List (Nat×Nat))
 |[]=>D []
 |f::fs=>match cD P f.type,pC P fs with
  |some n,D l=>D ((f.offset,n)::l)
  |_,_=>I
def Cg(w:World):∀(fs:List Field) (l:List (Nat×Nat)),pC P fs=D l->(fs.mapM (λf=>(do pure (f.offset,<-sizeOf f.type):Sem (Nat×Nat)))).run P w= .ok l w
 |[],l,h=>by simp[pC]at h;subst h;simp[Sem.run_pure]
 |f::fs,l,h=>by
  unfold pC at h;split at h
  ·rename_i n b aS az;simp only[bn]at h;subst h;have a:=Cg w fs b az;rw[List.mapM_cons];simp only[Sem.run_bind,run_sizeOf aS,Result.andThen_ok,Sem.run_pure,a]
  ·cases h
def c7(P:Program)(t:TypeId)(parts:List (Nat×aa)):Option aa:=
 match e1 P t,P.underlying t with
 |some z,D (.struct fs)=>(match pC P fs.toList with|some pl=>(lQ (pl[·]?) z.cells parts).map .agg|none=>I)
 |some z,D (.array _ e)=>(match cD P e with|some n=>(lQ (λi=>D (i*n,n)) z.cells parts).map .agg|none=>I)
 |_,_=>I
def JU{t:TypeId}{parts:List (Nat×aa)}{b:List (Nat×Value)}{v:aa}(h:c7 P t parts=D v)(l:pw ρ parts b)(w:World):
  ∃x,(Instr.build t b.toArray).run P w= .ok x w/\bB ρ v x:=by
 unfold c7 at h;split at h
 ·rename_i z fs g hu;obtain⟨a,j,i⟩:=lU g w;split at h
  ·rename_i pl o;simp only[Option.map_eq_some_iff]at h;obtain⟨cs,d,rfl⟩:=h;obtain⟨k,ae,ah⟩:=yT _ parts b z.cells cs a.cells.toList l (i ρ).cells d;refine⟨.agg k.toArray,?_,.agg _ _ ah⟩;have hm:=Cg (P:=P) w fs.toList pl o;have m:(fs.mapM (λf=>(do pure (f.offset,<-sizeOf f.type):Sem (Nat×Nat)))).run P w= .ok pl.toArray w:=by
    rw[Array.mapM_eq_mapM_toList];simp only[Sem.run_map,hm,Result.andThen_ok]
   simp only[Instr.build,Sem.run_bind,j,Result.andThen_ok,run_underlying hu,m];have e:(λx:Nat=>(pl.toArray)[x]?)=(λx=>pl[x]?):=by funext x;simp
   simp only[e];have c:a.cells.toList.toArray=a.cells:=by simp
   rw[c]at ae;simp[ae]
  ·cases h
 ·rename_i z n e g hu;obtain⟨a,j,i⟩:=lU g w;split at h
  ·rename_i q p;simp only[Option.map_eq_some_iff]at h;obtain⟨cs,d,rfl⟩:=h;obtain⟨k,ae,ah⟩:=yT _ parts b z.cells cs a.cells.toList l (i ρ).cells d;refine⟨.agg k.toArray,?_,.agg _ _ ah⟩;have c:a.cells.toList.toArray=a.cells:=by simp
   rw[c]at ae;simp[Instr.build,j,run_underlying hu,run_sizeOf p,ae]
  ·cases h
 ·cases h
def jB(esz:Nat):List (List aa)->List (Nat×aa)->Option (List (List aa))
 |els,[]=>D els
 |els,(i,v)::rest=>if v.cells.length=esz/\i<els.length/\v.cells.all aa.one=C then jB esz (els.set i v.cells) rest else I
def sl(P:Program)(H:ad)(t:TypeId)(len:Nat)(parts:List (Nat×aa)):Option (aa×ad):=
 match P.underlying t with
 |some (.slice e)=>
  (match cD P e,e1 P e with
  |some a,D z=>
   if len*a<=16777216/\z.cells.length=a/\z.cells.all aa.one=C then
    (match jB a (List.replicate len z.cells) parts with
    |some els=>D (.aJ H.next 0 len a (D len),H.push (.row Z a els))
    |none=>I)
   else I
  |_,_=>I)
 |_=>I
def l0{esz:Nat}:∀{els:List (List aa)},(∀e∈els,e.length=esz)->els.flatten.length=els.length*esz
 |[],_=>by simp
 |d::els,h=>by
  have:=l0 (els:=els) (λe he=>h e (List.mem_cons_of_mem _ he));simp only[List.flatten_cons,List.length_append,this,h d (by simp),List.length_cons,Nat.succ_mul];omega
def DW{esz:Nat}:∀{els:List (List aa)} (i:Nat) (c:List aa),(∀e∈els,e.length=esz)->c.length=esz->i<els.length->(els.set i c).flatten=eI els.flatten (i*esz) c
 |[],_,_,_,_,h=>by simp at h
 |d::els,0,c,az,aA,_=>by
  have a:=az d (by simp);simp[eI,aA,<-a]
 |d::els,i+1,c,az,aA,h=>by
  have a:=az d (by simp);have g:=DW (els:=els) i c (λe he=>az e (List.mem_cons_of_mem _ he)) aA (by simpa using h);simp only[List.set_cons_succ,List.flatten_cons,g];unfold eI;rw[Nat.succ_mul];have b:List.take (i*esz+esz) (d++els.flatten)=d++els.flatten.take (i*esz):=by
   rw[List.take_append,List.take_of_length_le ai];congr 2;omega
  have f:List.drop (i*esz+esz+c.length) (d++els.flatten)=els.flatten.drop (i*esz+c.length):=by
   rw[List.drop_append,List.drop_eq_nil_of_le ai,List.nil_append];congr 1;omega
  rw[b,f];simp
def Cu(esz:Nat):∀(parts:List (Nat×aa)) (m:List (Nat×Value)) (els a:List (List aa)) (xs:List Value),pw ρ parts m->(∀e∈els,e.length=esz)->(∀e∈els,∀v∈e,v.one=C)->
  bV ρ els.flatten xs->jB esz els parts=D a->
   (∃f:List Value,Instr.fill (λi=>D (i*esz,esz)) xs.toArray m=D f.toArray/\bV ρ a.flatten f)/\(∀e∈a,e.length=esz)/\(∀e∈a,∀v∈e,v.one=C)/\a.length=els.length
 |[],[],els,a,xs,_,ae,ah,d,h=>by
  simp[jB]at h;subst h;exact⟨⟨xs,rfl,d⟩,ae,ah,rfl⟩
 |[],_::_,_,_,_,b,_,_,_,_=>b.elim
 |_::_,[],_,_,_,b,_,_,_,_=>b.elim
 |(i,v)::r,(j,x)::s,els,a,xs,b,ae,ah,d,h=>by
  obtain⟨rfl,K,b⟩:=b;unfold jB at h;split at h
  ·rename_i A;obtain⟨aA,g,E⟩:=A;have G:∀u∈v.cells,u.one=true:=by simpa using E
   have l:=K.cells;have L:=l.length;have M:=d.length;have B:=l0 ae;have hle:i*esz+v.cells.length<=els.flatten.length:=by rw[B,aA];exact sV g
   have k:=IB d l (c:=i*esz) hle;rw[<-DW i v.cells ae aA g]at k;have w:∀e∈els.set i v.cells,e.length=esz:=λe he=>by
    rcases List.mem_or_eq_of_mem_set he with h|rfl
    ·exact ae e h
    ·exact aA
   have z:∀e∈els.set i v.cells,∀u∈e,u.one=true:=λe he=>by
    rcases List.mem_or_eq_of_mem_set he with h|rfl
    ·exact ah e h
    ·exact G
   obtain⟨⟨f,n,o⟩,p,q,t⟩:=Cu esz r s _ a _ b w z k h;refine⟨⟨f,?_,o⟩,p,q,by simpa using t⟩;unfold Instr.fill;have H:x.cells.size=v.cells.length:=by rw[L];simp
   simp only
   rw[if_neg (by simp[H,aA];omega)];have:=zv x.cells.toList 0 (i*esz) xs.toArray;rw[Nat.add_zero]at this;rw[<-Array.foldl_toList,Array.toList_zipIdx,this];simpa using n
  ·cases h
def Jx(z:Array Value)(n:Nat)(b:0<z.size):((Array.range (n*z.size)).map (z[· %z.size]!))=((List.replicate n z.toList).flatten).toArray:=by
 apply Array.ext';apply List.ext_getElem?;intro k;by_cases a:k<n*z.size
 ·have ae:(Array.map (λx=>z[x%z.size]!) (Array.range (n*z.size))).toList[k]? =D z[k%z.size]! :=by
   simp[a]
  rw[ae];symm;simp only
  have hdiv:k/z.size<n:=by rw[Nat.div_lt_iff_lt_mul b];exact a
  have c:k%z.size<z.size:=Nat.mod_lt _ b;have key:∀(n k:Nat),k<n*z.size->(List.replicate n z.toList).flatten[k]? =z.toList[k%z.size]? :=by
   intro n
   induction n with
   |zero=>intro k h;omega
   |succ n d=>
    intro k h;rw[List.replicate_succ,List.flatten_cons];by_cases a:k<z.size
    ·rw[List.getElem?_append_left (by simpa using a),Nat.mod_eq_of_lt a]
    ·rw[List.getElem?_append_right (by simpa using a)];have:=d (k-z.size) (by rw[Nat.succ_mul]at h;omega);simp only[Array.length_toList];rw[this,<-Nat.mod_eq_sub_mod ai]
  rw[key n k a];simp[c]
 ·rw[List.getElem?_eq_none (by simp;omega),List.getElem?_eq_none (by simp;omega)]
def bV.zt{a:List aa}{xs:List Value}(h:bV ρ a xs):∀n,bV ρ (List.replicate n a).flatten (List.replicate n xs).flatten
 |0=>by simpa using bV.nil
 |n+1=>by simpa [List.replicate_succ]using h.append (bV.zt h n)
def JS(p:Rel ρ H w)(aN:ρ H.next=I){t:TypeId}{len:Nat}{parts:List (Nat×aa)}{g:List (Nat×Value)}{a:aa}{H':ad}(h:sl P H t len parts=D (a,H'))(B:pw ρ parts g):
  ∃r k m,(Instr.buildSlice t len g.toArray).run P w= .ok r k/\bB m a r/\Step ρ H w m H' k:=by
 unfold sl at h;split at h
 ·rename_i e hu;split at h
  ·rename_i b z L N;split at h
   ·rename_i q;obtain⟨hle,j,x⟩:=q;split at h
    ·rename_i els s;simp only[bn,cM]at h;obtain⟨rfl,rfl⟩:=h;obtain⟨c,Q,O⟩:=lU N w;have A:∀u∈z.cells,u.one=true:=by simpa using x
     have i:=(O ρ).cells;have f:c.cells.size=b:=by have:=i.length;rw[<-j,this];simp
     have G:=bV.zt i len;obtain⟨⟨l,ae,ah⟩,ak,au,o⟩:=Cu b parts g _ els _ B (λe he=>by rw[List.eq_of_mem_replicate he];exact j)
      (λe he=>by rw[List.eq_of_mem_replicate he];exact A) G s
     have K:=s_ p aN (ot:=none) ak au ah (tail:=[]) e (λ_ h=>by cases h);have M:l.length=len*b:=by
      rw[<-ah.length,l0 ak,o];simp
     refine⟨.slice (D ⟨w.heap.size,0,I⟩) len len,_,_,?_,?_,K⟩
     ·simp only[Instr.buildSlice,Sem.run_bind,run_underlying hu,Result.andThen_ok,run_sizeOf L];rw[if_neg (by show¬(len*b>2^24);omega)];by_cases d:len*b=0
      ·simp only[d,if_true,Sem.run_bind,Sem.run_pure,Result.andThen_ok];have v:(List.replicate len c.cells.toList).flatten=[]:=by
        have:((List.replicate len c.cells.toList).flatten).length=0:=by simp[f,d]
        exact List.eq_nil_of_length_eq_zero this
       rw[v]at ae;have n:Array.range 0= #[]:=rfl;simp[ae,newRow,n]
      ·simp only[d,if_false,Sem.run_bind,Q,Result.andThen_ok,Sem.run_pure];have E:0<c.cells.size:=by
        rcases Nat.eq_zero_or_pos c.cells.size with h|h
        ·rw[f]at h;simp[h]at d
        ·exact h
       have:=Jx c.cells len E;rw[f]at this;simp only[f,this];simp[ae,newRow]
     ·refine bB.aJ (ρ:=ρ.dV H.next _) H.next 0 len (D len) ⟨w.heap.size,0,b,l.length+0⟩ _ len (Env.fV _ _ _) (b4 _) (by simp) (λ_=>⟨by simp,?_⟩)
      simp[M]
    ·cases h
   ·cases h
  ·cases h
 ·cases h
end
section
variable {P:Program}{ρ:Env}{H:ad}{w:World}
def lP(P:Program)(t:TypeId)(x:aa)(f:Nat):Option aa:=
 match P.underlying t,x with
 |some (.struct fs),.agg cs=>(match fs[f]? with|some d=>apart P d.type cs d.offset|none=>I)
 |_,_=>I
def J_{t:TypeId}{x v:aa}{a:Value}{f:Nat}(h:lP P t x f=D v)(aD:bB ρ x a)(w:World):∃r,(Instr.field t a f).run P w= .ok r w/\bB ρ v r:=by
 unfold lP at h;split at h
 ·rename_i fs cs hu;cases aD with|agg _ xs aA=>
  split at h
  ·rename_i d b;obtain⟨r,ae,ah⟩:=lS h aA w;exact⟨r,by simp[Instr.field,run_underlying hu,b,asAgg,ae],ah⟩
  ·cases h
 ·cases h
def av(P:Program)(t:TypeId)(x:aa)(f:Nat):Option aa:=
 match P.underlying t,x with
 |some (.struct fs),.ptr l i c=>(match fs[f]? with|some d=>(match cD P d.type with|some n=>if n=0 then I else D (.ptr l i (c+d.offset))|none=>I)|none=>I)
 |_,_=>I
def J9{t:TypeId}{x v:aa}{a:Value}{f:Nat}(h:av P t x f=D v)(aD:bB ρ x a)(w:World):∃r,(Instr.fieldAt t a f).run P w= .ok r w/\bB ρ v r:=by
 unfold av at h;split at h
 ·rename_i fs l i c hu;cases aD with|ptr _ _ _ loc az=>
  split at h
  ·rename_i d e;split at h
   ·rename_i n aS;split at h
    ·cases h
    ·rename_i b;simp only[bn]at h;subst h;refine⟨_,?_,.ptr l i (c+d.offset) loc az⟩;simp[Instr.fieldAt,run_underlying hu,e,Instr.sureAddr,fieldPlace,run_sizeOf aS,b,kd,Nat.add_assoc]
   ·cases h
  ·cases h
 ·cases h
def a6(P:Program)(t:TypeId)(x b:aa):Option aa:=
 match P.underlying t,x,b with
 |some (.slice e),.aJ l i n esz _,.int _ k=>(match cD P e with|some a=>if a=esz/\0<=k/\k<n then D (.ptr l (i+k.toNat) 0)else I|none=>I)
 |some (.array len e),.ptr l i c,.int _ k=>(match cD P e with|some a=>if 0<=k/\k<len then D (.ptr l i (c+k.toNat*a))else I|none=>I)
 |_,_,_=>I
def Kb{t:TypeId}{x j v:aa}{p m:Value}(h:a6 P t x j=D v)(aD:bB ρ x p)(g:bB ρ j m)(w:World):∃r,(Instr.indexAt t p m).run P w= .ok r w/\bB ρ v r:=by
 unfold a6 at h;split at h
 ·rename_i e l i n esz cap s k hu;cases g;cases aD with|aJ _ _ _ _ loc a c az aS aA q=>
  split at h
  ·rename_i o f;split at h
   ·rename_i d;obtain⟨rfl,b,ae⟩:=d;simp only[bn]at h;subst h;obtain⟨rfl,_⟩:=q ai;refine⟨_,?_,.ptr l (i+k.toNat) 0 loc az⟩;have u:loc.off+i*loc.esz+k.toNat*loc.esz=loc.off+(i+k.toNat)*loc.esz+0:=by rw[Nat.add_mul];omega
    simp[Instr.indexAt,asIntOf,run_underlying hu,b,ae,run_sizeOf f,kd]
   ·cases h
  ·cases h
 ·rename_i len e l i c s k hu;cases g;cases aD with|ptr _ _ _ loc az=>
  split at h
  ·rename_i o f;split at h
   ·rename_i d;obtain⟨b,ae⟩:=d;simp only[bn]at h;subst h;refine⟨_,?_,.ptr l i (c+k.toNat*o) loc az⟩;simp[Instr.indexAt,asIntOf,run_underlying hu,Instr.sureAddr,b,ae,run_sizeOf f,kd,Nat.add_assoc]
   ·cases h
  ·cases h
 ·cases h
def gf(P:Program)(t:TypeId)(x a:aa):Option aa:=
 match P.underlying t,x,a with
 |some .string,.str s,.int _ k=>if 0<=k then(match s[k.toNat]? with|some b=>D (.int .u8 b.toNat)|none=>I)else I
 |some (.array len e),.agg cs,.int _ k=>(match cD P e with|some c=>if 0<=k/\k<len then apart P e cs (k.toNat*c)else I|none=>I)
 |_,_,_=>I
def Lf(s:List UInt8)(k:Nat):(⟨s.toArray⟩:ByteArray)[k]? =s[k]? :=by
 simp only[getElem?,decidableGetElem?];by_cases h:k<s.length
 ·have ca:k<(⟨s.toArray⟩:ByteArray).size:=by show k<s.toArray.size;simpa using h
  simp[h,ca];rfl
 ·have ca:¬k<(⟨s.toArray⟩:ByteArray).size:=by show¬k<s.toArray.size;simpa using h
  simp[h,ca]
def Kc{t:TypeId}{x c v:aa}{f d:Value}(h:gf P t x c=D v)(aD:bB ρ x f)(a:bB ρ c d)(w:World):∃r,(Instr.index t f d).run P w= .ok r w/\bB ρ v r:=by
 unfold gf at h;split at h
 ·rename_i s m k hu;cases a;cases aD;split at h
  ·rename_i g;split at h
   ·rename_i b i;simp only[bn]at h;subst h;refine⟨_,?_,.int _ _⟩;simp only[Instr.index,asIntOf,Sem.run_bind,Sem.run_pure,Result.andThen_ok,run_underlying hu,if_pos g,Lf,i]
   ·cases h
  ·cases h
 ·rename_i len e cs m k hu;cases a;cases aD with|agg _ xs aA=>
  split at h
  ·rename_i n l;split at h
   ·rename_i j;obtain⟨r,ae,ah⟩:=lS h aA w;exact⟨r,by simp[Instr.index,asIntOf,run_underlying hu,j,run_sizeOf l,ae],ah⟩
   ·cases h
  ·cases h
 ·cases h
def eK(x:Option aa)(a y:Nat):Option Nat:=
 match x with
 |none=>D a
 |some (.int _ k)=>if 0<=k/\k<=y then D k.toNat else I
 |some _=>I
def fX(P:Program)(t:TypeId)(x:aa)(fZ a b:Option aa):Option aa:=
 match P.underlying t,x with
 |some .string,.str s=>
  (match b,eK a s.length s.length with
  |none,D h=>(match eK fZ 0 h with|some l=>D (.str ((s.drop l).take (h-l)))|none=>I)
  |_,_=>I)
 |some (.slice e),.aJ l i n esz cap=>
  (match cD P e,b with
  |some c,I=>
   if c=esz then
    (match eK a n (cap.getD n)with
    |some h=>(match eK fZ 0 h with|some k=>D (.aJ l (i+k) (h-k) esz (cap.map (· -k)))|none=>I)
    |none=>I)
   else I
  |some c,D m=>
   if c=esz then
    (match eK (D m) 0 (cap.getD n)with
    |some m=>(match a,eK a 0 m with
     |some _,D h=>(match eK fZ 0 h with|some k=>D (.aJ l (i+k) (h-k) esz (D (m-k)))|none=>I)
     |_,_=>I)
    |none=>I)
   else I
  |_,_=>I)
 |some (.slice e),.aB=>
  (match cD P e,b with
  |some _,I=>(match eK a 0 0 with
   |some h=>(match eK fZ 0 h with|some _=>D .aB|none=>I)
   |none=>I)
  |some _,D m=>(match eK (D m) 0 0 with
   |some m=>(match a,eK a 0 m with
    |some _,D h=>(match eK fZ 0 h with|some _=>D .aB|none=>I)
    |_,_=>I)
   |none=>I)
  |_,_=>I)
 |_,_=>I
inductive pv(ρ:Env):Option aa->Option Value->Prop where
 |none:pv ρ none none
 |some (v:aa) (x:Value) (h:bB ρ v x):pv ρ (some v) (some x)
def gd{v:aa}{x:Value}{d y k:Nat}(h:eK (D v) d y=D k)(aD:bB ρ v x)(code:BoundsCode){b:Nat}(c:y<=b)(w:World):
  (Instr.sliceBound x b code).run P w= .ok k w/\k<=y:=by
 unfold eK at h;split at h
 ·rename_i a;cases a
 ·rename_i e n a;cases a;cases aD;split at h
  ·rename_i aA;simp only[bn]at h;subst h;refine⟨?_,ai⟩;simp only[Instr.sliceBound,asIntOf,Sem.run_bind,Sem.run_pure,Result.andThen_ok];rw[if_pos ai];exact Sem.run_pure ..
  ·cases h
 ·cases h
def L3(s:List UInt8)(l h:Nat):(⟨s.toArray⟩:ByteArray).extract l h=⟨((s.drop l).take (h-l)).toArray⟩:=by
 apply ByteArray.ext;simp[ByteArray.data_extract,List.extract_eq_take_drop]
def KO{t:TypeId}{x v:aa}{W:Value}{fZ T V:Option aa}{z E A:Option Value}(h:fX P t x fZ T V=D v)(aD:bB ρ x W)(j:pv ρ fZ z)(u:pv ρ T E)(G:pv ρ V A)(w:World):
  ∃r,(Instr.sliceAt t W z E A).run P w= .ok r w/\bB ρ v r:=by
 unfold fX at h;split at h
 ·rename_i s hu;cases aD;have p:(⟨s.toArray⟩:ByteArray).size=s.length:=by show s.toArray.size=_;simp
  split at h
  ·rename_i g f;cases G;split at h
   ·rename_i l az;simp only[bn]at h;subst h;refine⟨_,?_,.str _⟩;have o:∃m,(Instr.sliceBounds Z s.length s.length z E I).run P w= .ok (l,g,m) w:=by
     refine⟨s.length,?_⟩;cases u with
     |none=>
      simp only[eK,bn]at f;subst f;cases j with
      |none=>simp only[eK,bn]at az;subst az;simp[Instr.sliceBounds]
      |some v x b=>simp[Instr.sliceBounds,(gd az b _ (b4 _) w).1]
     |some v x b=>
      have:=(gd (P:=P) f b .sliceAlen (b4 _) w).1;cases j with
      |none=>simp only[eK,bn]at az;subst az;simp[Instr.sliceBounds,this]
      |some v x b=>simp[Instr.sliceBounds,this,(gd az b _ (b4 _) w).1]
    obtain⟨m,o⟩:=o;simp[Instr.sliceAt,Instr.slice,run_underlying hu,p,o,L3]
   ·cases h
  ·cases h
 ·rename_i e l i n esz cap hu;cases aD with|aJ _ _ _ _ loc a c az aS aA S=>
  have L:cap.getD n<=c:=by
   cases B:cap with
   |none=>exact aS
   |some k=>have:=aA k B;simp;omega
  split at h
  ·rename_i R p;cases G;split at h
   ·rename_i O;subst O;split at h
    ·rename_i g f;split at h
     ·rename_i k d;simp only[bn]at h;subst h;have al:g<=c:=by
       cases u with
       |none=>simp only[eK,bn]at f;omega
       |some v x b=>have:=(gd (P:=P) f b .sliceAcap L w).2;omega
      have U:k<=g:=by
       cases j with
       |none=>simp only[eK,bn]at d;omega
       |some v x b=>exact(gd (P:=P) d b .sliceB (b4 _) w).2
      have o:(Instr.sliceBounds C n c z E I).run P w= .ok (k,g,c) w:=by
       cases u with
       |none=>
        simp only[eK,bn]at f;subst f;cases j with
        |none=>simp only[eK,bn]at d;subst d;simp[Instr.sliceBounds]
        |some v x b=>simp[Instr.sliceBounds,(gd d b _ (b4 _) w).1]
       |some v x b=>
        have:=(gd (P:=P) f b .sliceAcap L w).1;cases j with
        |none=>simp only[eK,bn]at d;subst d;simp[Instr.sliceBounds,this]
        |some v x b=>simp[Instr.sliceBounds,this,(gd d b _ (b4 _) w).1]
      refine⟨.slice (D (if c=k then a else a.add (k*loc.esz))) (g-k) (c-k),?_,?_⟩
      ·simp[Instr.sliceAt,Instr.slice,run_underlying hu,o,run_sizeOf p];split<;>rfl
      ·refine .aJ l (i+k) (g-k) _ loc _ (c-k) az ai (λm hm=> ?_) (λaj=> ?_)
       ·cases B:cap with
        |none=>rw[B]at hm;cases hm
        |some q=>rw[B]at hm;simp at hm;have:=aA q B;omega
       ·obtain⟨rfl,M⟩:=S ai;rw[if_neg ai,kd];refine⟨?_,?_⟩
        ·congr 1;rw[Nat.add_mul];omega
        ·rw[show i+k+(c-k)=i+c by omega];exact M
     ·cases h
    ·cases h
   ·cases h
  ·rename_i R ak p;cases G with|some _ A N=>
   split at h
   ·rename_i O;subst O;split at h
    ·rename_i m hm;obtain⟨K,ah⟩:=gd (P:=P) hm N .slice3Acap L w;split at h
     ·rename_i b g f;cases u with|some _ x Q=>
      obtain⟨H,ad⟩:=gd (P:=P) f Q .slice3B (b4 _) w;split at h
      ·rename_i k d;simp only[bn]at h;subst h;have U:k<=g:=by
        cases j with
        |none=>simp only[eK,bn]at d;omega
        |some v x b=>exact(gd (P:=P) d b .sliceB (b4 _) w).2
       have o:(Instr.sliceBounds C n c z (D x) (D A)).run P w= .ok (k,g,m) w:=by
        cases j with
        |none=>simp only[eK,bn]at d;subst d;simp[Instr.sliceBounds,K,H]
        |some v x b=>simp[Instr.sliceBounds,K,H,(gd d b _ (b4 _) w).1]
       refine⟨.slice (D (if m=k then a else a.add (k*loc.esz))) (g-k) (m-k),?_,?_⟩
       ·simp[Instr.sliceAt,Instr.slice,run_underlying hu,o,run_sizeOf p];split<;>rfl
       ·refine .aJ l (i+k) (g-k) _ loc _ (m-k) az ai (λq a8=>by simpa using a8) (λaj=> ?_);obtain⟨rfl,M⟩:=S ai;rw[if_neg ai,kd];refine⟨?_,?_⟩
        ·congr 1;rw[Nat.add_mul];omega
        ·refine Nat.le_trans (Nat.add_le_add_left (Nat.mul_le_mul_right _ ?_) _) M;omega
      ·cases h
     ·cases h
    ·cases h
   ·cases h
  ·cases h
 ·rename_i e hu;cases aD;split at h
  ·rename_i R p;cases G;split at h
   ·rename_i g f;split at h
    ·rename_i k d;simp only[bn]at h;subst h;have Y:g=0:=by
      cases u with
      |none=>simp only[eK,bn]at f;omega
      |some v x b=>have:=(gd (P:=P) f b .sliceAcap (b4 _) w).2;omega
     subst Y;have ae:k=0:=by
      cases j with
      |none=>simp only[eK,bn]at d;omega
      |some v x b=>have:=(gd (P:=P) d b .sliceB (b4 _) w).2;omega
     subst ae;refine⟨.slice I 0 0,?_,.aB⟩;have o:(Instr.sliceBounds C 0 0 z E I).run P w= .ok (0,0,0) w:=by
      cases u with
      |none=>
       cases j with
       |none=>simp[Instr.sliceBounds]
       |some v x b=>simp[Instr.sliceBounds,(gd d b _ (b4 _) w).1]
      |some v x b=>
       have:=(gd (P:=P) f b .sliceAcap (b4 _) w).1;cases j with
       |none=>simp[Instr.sliceBounds,this]
       |some v x b=>simp[Instr.sliceBounds,this,(gd d b _ (b4 _) w).1]
     simp[Instr.sliceAt,Instr.slice,run_underlying hu,o,run_sizeOf p]
    ·cases h
   ·cases h
  ·rename_i R ak p;cases G with|some _ A N=>
   split at h
   ·rename_i m hm;obtain⟨K,ah⟩:=gd (P:=P) hm N .slice3Acap (b4 _) w;split at h
    ·rename_i b g f;cases u with|some _ x Q=>
     obtain⟨H,ad⟩:=gd (P:=P) f Q .slice3B (b4 _) w;split at h
     ·rename_i k d;simp only[bn]at h;subst h;have U:k<=g:=by
       cases j with
       |none=>simp only[eK,bn]at d;omega
       |some v x b=>exact(gd (P:=P) d b .sliceB (b4 _) w).2
      have ag:m=0:=ai;have ab:g=0:=ai;have af:k=0:=ai;subst ag;subst ab;subst af;have o:(Instr.sliceBounds C 0 0 z (D x) (D A)).run P w= .ok (0,0,0) w:=by
       cases j with
       |none=>simp[Instr.sliceBounds,K,H]
       |some v x b=>simp[Instr.sliceBounds,K,H,(gd d b _ (b4 _) w).1]
      exact⟨.slice I 0 0,by simp[Instr.sliceAt,Instr.slice,run_underlying hu,o,run_sizeOf p],.aB⟩
     ·cases h
    ·cases h
   ·cases h
  ·cases h
 ·cases h

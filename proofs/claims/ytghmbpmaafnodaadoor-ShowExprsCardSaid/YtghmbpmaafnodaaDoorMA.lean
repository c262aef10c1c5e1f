/-
  Texts of one proof, laid together: Hv0 Hv1 Hv2 Hv3 Hv4 Hv5 Hv6.
-/
import GoSem.Dispatch
import Derived.WalkKit
import Derived.Laws.IdiomCopy
set_option linter.unusedVariables false
set_option linter.unusedSimpArgs false
set_option linter.defProp false
open Option renaming some→D,none→C
open Bool renaming true→X,false→U
namespace Go.bs
def af{p:Prop}(h:p:=by omega):p:=h
def ah{p:Prop}(h:p:=by kernel_rfl):p:=h
def bf{p:Prop}(h:p:=by decide):p:=h
def ai{a b:Prop}(x:a)(y:b):a/\b:=⟨x,y⟩
def aV{α:Type}(a b:α):(D a=D b)=(a=b):=Option.some.injEq a b
def aW{α:Type}(a b:α):(bif X then a else b)=a:=rfl
def aR{α:Type}(a b:α):(bif U then a else b)=b:=rfl
def cZ{α β:Type}{o:Option α}{f:α->Option β}{b:β}:o.bind f=D b↔∃a,o=D a/\f a=D b:=Option.bind_eq_some_iff
def b4{α β:Type}(a:α)(b:β)(c:α)(d:β):((a,b)=(c,d))=(a=c/\b=d):=Prod.mk.injEq a b c d
def bj(n:Nat):n<=n:=Nat.le_refl n
inductive aa where
 |bool (b:Bool)
 |int (k:IntKind) (n:Int)
 |str (s:List UInt8)
 |ptr (l i c:Nat)
 |nilPtr
 |aB (l i n esz:Nat) (cap:Option Nat)
 |ar
 |map (l:Nat)
 |hV
 |func (fn:Fn) (first captured:List aa)
 |nilFunc
 |iface (t:TypeId) (v:aa)
 |nilIface
 |agg (cs:List aa)
 |tuple (a:List aa)
instance:Inhabited aa:=⟨.tuple []⟩
inductive bW where
 |row (ro:Bool) (esz:Nat) (els:List (List aa))
 |b1 (t:TypeId) (esz:Nat) (els:List (List aa))
 |map (es:List (aa×aa))
 |dead
inductive kr where
 |d0|d1|d2|d3|d4|d5|d6|d7
inductive bp(α:Type) where
 |leaf
 |node (v:Option α) (a c d e h i j k:bp α)
def vA(n:Nat):kr:=match n with
 |0=> .d0|1=> .d1|2=> .d2|3=> .d3|4=> .d4|5=> .d5|6=> .d6|_=> .d7
def IZ{n m:Nat}(d:n<8)(hm:m<8)(h:vA n=vA m):n=m:=by
 have a:n=0\/n=1\/n=2\/n=3\/n=4\/n=5\/n=6\/n=7:=af;have c:m=0\/m=1\/m=2\/m=3\/m=4\/m=5\/m=6\/m=7:=af;rcases a with rfl|rfl|rfl|rfl|rfl|rfl|rfl|rfl<;>rcases c with rfl|rfl|rfl|rfl|rfl|rfl|rfl|rfl<;>first|rfl|cases h
def mI:Nat->Nat->List kr
 |0,_=>[]
 |_+1,0=>[]
 |f+1,k+1=>vA (k%8)::mI f (k/8)
def path(k:Nat):List kr:=mI k k
def Lq:∀(f g k j:Nat),k<=f->j<=g->mI f k=mI g j->k=j:=by
 intro f
 induction f with
 |zero=>
  intro g k j c a h;have:k=0:=af;subst this;cases j with
  |zero=>rfl
  |succ j=>
   cases g with
   |zero=>omega
   |succ g=>simp[mI]at h
 |succ f d=>
  intro g k j c a h;cases k with
  |zero=>
   cases j with
   |zero=>rfl
   |succ j=>
    cases g with
    |zero=>omega
    |succ g=>simp[mI]at h
  |succ k=>
   cases j with
   |zero=>cases g<;>simp[mI]at h
   |succ j=>
    cases g with
    |zero=>omega
    |succ g=>
     simp only[mI,List.cons.injEq]at h;have e:=IZ (Nat.mod_lt _ af) (Nat.mod_lt _ af) h.1;have i:=d g (k/8) (j/8) af af h.2;omega
def Eb{k j:Nat}(h:path k=path j):k=j:=Lq k j k j (bj _) (bj _) h
def bp.iE{α:Type}:List kr->bp α->Option α
 |[],.leaf=>C
 |[],.node v _ _ _ _ _ _ _ _=>v
 |_::_,.leaf=>C
 |d::p,.node _ a c e h i j k l=>match d with
  | .d0=>bp.iE p a| .d1=>bp.iE p c| .d2=>bp.iE p e| .d3=>bp.iE p h
  | .d4=>bp.iE p i| .d5=>bp.iE p j| .d6=>bp.iE p k| .d7=>bp.iE p l
def bp.dR{α:Type}(x:α):List kr->bp α->bp α
 |[],.leaf=> .node (D x) .leaf .leaf .leaf .leaf .leaf .leaf .leaf .leaf
 |[],.node _ a c e h i j k l=> .node (D x) a c e h i j k l
 |d::p,.leaf=>match d with
  | .d0=> .node C (bp.dR x p .leaf) .leaf .leaf .leaf .leaf .leaf .leaf .leaf
  | .d1=> .node C .leaf (bp.dR x p .leaf) .leaf .leaf .leaf .leaf .leaf .leaf
  | .d2=> .node C .leaf .leaf (bp.dR x p .leaf) .leaf .leaf .leaf .leaf .leaf
  | .d3=> .node C .leaf .leaf .leaf (bp.dR x p .leaf) .leaf .leaf .leaf .leaf
  | .d4=> .node C .leaf .leaf .leaf .leaf (bp.dR x p .leaf) .leaf .leaf .leaf
  | .d5=> .node C .leaf .leaf .leaf .leaf .leaf (bp.dR x p .leaf) .leaf .leaf
  | .d6=> .node C .leaf .leaf .leaf .leaf .leaf .leaf (bp.dR x p .leaf) .leaf
  | .d7=> .node C .leaf .leaf .leaf .leaf .leaf .leaf .leaf (bp.dR x p .leaf)
 |d::p,.node v a c e h i j k l=>match d with
  | .d0=> .node v (bp.dR x p a) c e h i j k l
  | .d1=> .node v a (bp.dR x p c) e h i j k l
  | .d2=> .node v a c (bp.dR x p e) h i j k l
  | .d3=> .node v a c e (bp.dR x p h) i j k l
  | .d4=> .node v a c e h (bp.dR x p i) j k l
  | .d5=> .node v a c e h i (bp.dR x p j) k l
  | .d6=> .node v a c e h i j (bp.dR x p k) l
  | .d7=> .node v a c e h i j k (bp.dR x p l)
def bp.sX{α:Type}(p:List kr):bp.iE p (.leaf:bp α)=none:=by cases p<;>rfl
def bp.vW{α:Type}(x:α):∀(p:List kr) (t:bp α),bp.iE p (bp.dR x p t)=D x
 |[],.leaf=>rfl
 |[],.node .. =>rfl
 |d::p,.leaf=>by cases d<;>exact bp.vW x p _
 |d::p,.node .. =>by cases d<;>exact bp.vW x p _
def bp.vV{α:Type}(x:α):∀(p q:List kr) (t:bp α),p≠q->bp.iE q (bp.dR x p t)=bp.iE q t
 |[],[],_,h=>absurd rfl h
 |[],e::q,.leaf,_=>by cases e<;>exact bp.sX q
 |[],e::q,.node ..,_=>rfl
 |d::p,[],.leaf,_=>by cases d<;>rfl
 |d::p,[],.node ..,_=>by cases d<;>rfl
 |d::p,e::q,.leaf,h=>by
  cases d<;>cases e<;>first
   |exact bp.sX q
   |(show bp.iE q (bp.dR x p .leaf)=C
     rw[bp.vV x p q .leaf (λa=>h (by rw[a]))];exact bp.sX q)
 |d::p,e::q,.node ..,h=>by
  cases d<;>cases e<;>first
   |rfl
   |exact bp.vV x p q _ (λa=>h (by rw[a]))
def bp.get{α:Type}(t:bp α)(k:Nat):Option α:=bp.iE (path k) t
def bp.put{α:Type}(x:α)(_:Nat)(t:bp α)(k:Nat):bp α:=bp.dR x (path k) t
def bp.re{α:Type}(k:Nat):(bp.leaf:bp α).get k=none:=bp.sX _
def bp.rj{α:Type}(x:α):∀(f:Nat) (t:bp α) (k:Nat),k<f->(bp.put x f t k).get k=D x:=λ_ t k _=>bp.vW x (path k) t
def bp.ri{α:Type}(x:α):∀(f:Nat) (t:bp α) (k j:Nat),k≠j->(bp.put x f t k).get j=t.get j:=λ_ t _ _ h=>bp.vV x _ _ t (λe=>h (Eb e))
structure ad where
 t:bp bW
 next:Nat
def ad.get(H:ad)(l:Nat):Option bW:=if l<H.next then H.t.get l else C
def ad.set(H:ad)(l:Nat)(b:bW):ad:={H with t:=bp.put b (l+1) H.t l}
def ad.push(H:ad)(b:bW):ad:={t:=bp.put b (H.next+1) H.t H.next,next:=H.next+1}
def ad.empty:ad:=⟨.leaf,0⟩
@[simp] theorem ad.ds(H:ad)(l:Nat)(b:bW):(H.set l b).next=H.next:=rfl
@[simp] theorem ad.bX(H:ad)(b:bW):(H.push b).next=H.next+1:=rfl
def ad.aS{H:ad}{l:Nat}{b:bW}(h:H.get l=D b):l<H.next:=by
 unfold ad.get at h;split at h
 ·assumption
 ·cases h
def ad.get_set_same{H:ad}{l:Nat}{b:bW}(h:l<H.next):(H.set l b).get l=D b:=by
 show(if l<H.next then(bp.put b (l+1) H.t l).get l else C)=D b;rw[if_pos h];exact bp.rj b _ _ _ af
def ad.get_set_other{H:ad}{l j:Nat}{b:bW}(h:l≠j):(H.set l b).get j=H.get j:=by
 show(if j<H.next then(bp.put b (l+1) H.t l).get j else C)=(if j<H.next then H.t.get j else C);rw[bp.ri b _ _ _ _ h]
def ad.bI(H:ad)(b:bW):(H.push b).get H.next=D b:=by
 show(if H.next<H.next+1 then(bp.put b (H.next+1) H.t H.next).get H.next else C)=D b;rw[if_pos af];exact bp.rj b _ _ _ af
def ad.dw{H:ad}{j:Nat}{b:bW}(h:j≠H.next):(H.push b).get j=H.get j:=by
 show(if j<H.next+1 then(bp.put b (H.next+1) H.t H.next).get j else C)=(if j<H.next then H.t.get j else C);by_cases a:j<H.next
 ·rw[if_pos af,if_pos a,bp.ri b _ _ _ _ af]
 ·rw[if_neg af,if_neg a]
section
structure Loc where
 block:Nat
 off:Nat
 esz:Nat
 size:Nat
def Env:Type:=Nat->Option Loc
def Env.le(ρ a:Env):Prop:=∀l loc,ρ l=D loc->a l=D loc
def Env.le_refl(ρ:Env):ρ.le ρ:=λ_ _ h=>h
def Env.le_trans{ρ a c:Env}(h:ρ.le a)(aZ:a.le c):ρ.le c:=λl loc e=>aZ l loc (h l loc e)
mutual
inductive bg(ρ:Env):aa->Value->Prop where
 |bool (b:Bool):bg ρ (.bool b) (.bool b)
 |int (k:IntKind) (n:Int):bg ρ (.int k n) (.int k n)
 |str (s:List UInt8):bg ρ (.str s) (.string ⟨s.toArray⟩)
 |ptr (l i c:Nat) (loc:Loc) (h:ρ l=some loc):bg ρ (.ptr l i c) (.pointer (some ⟨loc.block,loc.off+i*loc.esz+c,none⟩))
 |nilPtr:bg ρ .nilPtr (.pointer none)
 |aB (l i n:Nat) (cap:Option Nat) (loc:Loc) (a:Addr) (c:Nat) (h:ρ l=some loc) (m:n<=c) (d:∀k,cap=some k->c=k)
  (e:0<c->a=⟨loc.block,loc.off+i*loc.esz,none⟩/\loc.off+(i+c)*loc.esz<=loc.size):bg ρ (.aB l i n loc.esz cap) (.slice (some a) n c)
 |ar:bg ρ .ar (.slice none 0 0)
 |map (l:Nat) (loc:Loc) (h:ρ l=some loc):bg ρ (.map l) (.map (some loc.block))
 |hV:bg ρ .hV (.map none)
 |func (fn:Fn) (f c:List aa) (hB c':List Value) (j:bw ρ f hB) (d:bw ρ c c'):bg ρ (.func fn f c) (.func fn hB.toArray c'.toArray)
 |nilFunc:bg ρ .nilFunc .nilFunc
 |iface (t:TypeId) (v:aa) (x:Value) (h:bg ρ v x):bg ρ (.iface t v) (.iface t x)
 |nilIface:bg ρ .nilIface .nilIface
 |agg (cs:List aa) (xs:List Value) (h:bw ρ cs xs):bg ρ (.agg cs) (.agg xs.toArray)
 |tuple (cs:List aa) (xs:List Value) (h:bw ρ cs xs):bg ρ (.tuple cs) (.tuple xs.toArray)
inductive bw(ρ:Env):List aa->List Value->Prop where
  |nil:bw ρ [] []
  |cons (v:aa) (x:Value) (a:List aa) (xs:List Value) (h:bg ρ v x) (ax:bw ρ a xs):bw ρ (v::a) (x::xs)
 end
mutual
def bg.mono{ρ e:Env}(hle:ρ.le e){v:aa}{x:Value}(h:bg ρ v x):bg e v x:=by
 cases h with
 |bool b=>exact .bool b
 |int k n=>exact .int k n
 |str s=>exact .str s
 |ptr l i c loc h=>exact .ptr l i c loc (hle _ _ h)
 |nilPtr=>exact .nilPtr
 |aB l i n cap loc a c h o d j=>exact .aB l i n cap loc a c (hle _ _ h) o d j
 |ar=>exact .ar
 |map l loc h=>exact .map l loc (hle _ _ h)
 |hV=>exact .hV
 |func fn f c hB c' m d=>exact .func fn f c hB c' (bw.mono hle m) (bw.mono hle d)
 |nilFunc=>exact .nilFunc
 |iface t v x h=>exact .iface t v x (bg.mono hle h)
 |nilIface=>exact .nilIface
 |agg cs xs h=>exact .agg cs xs (bw.mono hle h)
 |tuple cs xs h=>exact .tuple cs xs (bw.mono hle h)
def bw.mono{ρ a:Env}(hle:ρ.le a){v:List aa}{x:List Value}(h:bw ρ v x):bw a v x:=by
  cases h with
  |nil=>exact .nil
  |cons v x c xs h ax=>exact .cons v x c xs (bg.mono hle h) (bw.mono hle ax)
 end
def bw.length{ρ:Env}:∀{a:List aa} {xs:List Value},bw ρ a xs->a.length=xs.length
 |[],_,h=>by cases h;rfl
 |_::_,_,h=>by cases h with|cons _ _ _ _ _ ax=>simp[bw.length ax]
def bw.get{ρ:Env}:∀{c:List aa} {xs:List Value},bw ρ c xs->∀(j:Nat) (v:aa),c[j]? =D v->∃x,xs[j]? =D x/\bg ρ v x
 |[],_,h,j,v,a=>by simp at a
 |w::c,_,h,j,v,a=>by
  cases h with
  |cons _ x _ xs d ax=>
   cases j with
   |zero=>simp at a;subst a;exact⟨x,rfl,d⟩
   |succ j=>simpa using bw.get ax j v (by simpa using a)
def bw.append{ρ:Env}:∀{c us:List aa} {xs d:List Value},bw ρ c xs->bw ρ us d->bw ρ (c++us) (xs++d)
 |[],_,_,_,h,aZ=>by cases h;exact aZ
 |_::_,_,_,_,h,aZ=>by cases h with|cons _ _ _ _ a as=>exact .cons _ _ _ _ a (bw.append as aZ)
def bw.DV{ρ:Env}:∀{c:List aa} {xs:List Value},c.length=xs.length->(∀(j:Nat) (v:aa) (x:Value),c[j]? =D v->xs[j]? =D x->bg ρ v x)->bw ρ c xs
 |[],[],_,_=> .nil
 |[],_::_,h,_=>by simp at h
 |_::_,[],h,_=>by simp at h
 |v::c,x::xs,h,d=> .cons _ _ _ _ (d 0 v x rfl rfl) (bw.DV (by simpa using h) λj a b e i=>d (j+1) a b (by simpa using e) (by simpa using i))
def bw.set{ρ:Env}{v:aa}{x:Value}(h:bg ρ v x):∀{c:List aa} {xs:List Value} (j:Nat),bw ρ c xs->bw ρ (c.set j v) (xs.set j x)
 |[],_,_,ax=>by cases ax;exact .nil
 |_::_,_,0,ax=>by cases ax with|cons _ _ _ _ a as=>exact .cons _ _ _ _ h as
 |_::_,_,j+1,ax=>by cases ax with|cons _ _ _ _ a as=>exact .cons _ _ _ _ a (bw.set h j as)
def aa.one:aa->Bool
 | .agg _| .tuple _=>U
 |_=>X
def aa.cells:aa->List aa
 | .agg cs=>cs
 |v=>[v]
def bg.w2{ρ:Env}{v:aa}{x:Value}(h:bg ρ v x)(a:v.one=X):x.oneCell'=true:=by
 cases h<;>first|rfl|cases a
def bg.cells{ρ:Env}{v:aa}{x:Value}(h:bg ρ v x):bw ρ v.cells x.cells.toList:=by
 cases h with
 |agg cs xs h=>simpa [aa.cells,Value.cells]using h
 |bool b=>exact .cons _ _ _ _ (.bool b) .nil
 |int k n=>exact .cons _ _ _ _ (.int k n) .nil
 |str s=>exact .cons _ _ _ _ (.str s) .nil
 |ptr l i c loc h=>exact .cons _ _ _ _ (.ptr l i c loc h) .nil
 |nilPtr=>exact .cons _ _ _ _ .nilPtr .nil
 |aB l i n cap loc a c h m d e=>exact .cons _ _ _ _ (.aB l i n cap loc a c h m d e) .nil
 |ar=>exact .cons _ _ _ _ .ar .nil
 |map l loc h=>exact .cons _ _ _ _ (.map l loc h) .nil
 |hV=>exact .cons _ _ _ _ .hV .nil
 |func fn f c hB c' j d=>exact .cons _ _ _ _ (.func fn f c hB c' j d) .nil
 |nilFunc=>exact .cons _ _ _ _ .nilFunc .nil
 |iface t v x h=>exact .cons _ _ _ _ (.iface t v x h) .nil
 |nilIface=>exact .cons _ _ _ _ .nilIface .nil
 |tuple cs xs h=>exact .cons _ _ _ _ (.tuple cs xs h) .nil
def fA(ρ:Env)(w:World)(loc:Loc)(ro:Bool)(esz:Nat)(els:List (List aa)):Prop:=loc.esz=esz/\∃c t a,w.heap[loc.block]? =D (.cells c t a)/\(loc.size=c.size/\(ro=U->∀o,o<c.size->¬(a.1<=o/\o<a.2)))/\ ∀(i:Nat) (e:List aa),els[i]? =D e->e.length=esz/\∀(j:Nat) (v:aa),e[j]? =D v->v.one=X/\∃x,c[loc.off+i*esz+j]? =D x/\bg ρ v x
def mc(ρ:Env)(w:World)(loc:Loc)(t:TypeId)(esz:Nat)(els:List (List aa)):Prop:=fA ρ w loc U esz els/\∃c a,w.heap[loc.block]? =D (.cells c t a)/\loc.off=0
def uW(ρ:Env)(w:World)(loc:Loc)(es:List (aa×aa)):Prop:=∃ents clock,w.heap[loc.block]? =D (.map ents clock)/\bw ρ (es.map (·.1)) (ents.toList.map (·.key))/\bw ρ (es.map (·.2)) (ents.toList.map (·.val))
def ad.rw(H:ad)(l:Nat):Prop:=(∃esz els,H.get l=D (.row U esz els))\/(∃es,H.get l=D (.map es))\/∃t esz els,H.get l=D (.b1 t esz els)
def ad.live(H:ad)(l:Nat):Prop:=(∃ro esz els,H.get l=D (.row ro esz els))\/(∃es,H.get l=D (.map es))\/∃t esz els,H.get l=D (.b1 t esz els)
def ad.rw.live{H:ad}{l:Nat}(h:H.rw l):H.live l:=by
 rcases h with⟨e,s,h⟩|h
 ·exact .inl ⟨_,e,s,h⟩
 ·exact .inr h
def bW.rl:bW->Bool
 | .row X _ _=>X
 |_=>U
def ad.ET{H:ad}{l:Nat}{b:bW}(c:b.rl=U):∀k esz els,(H.set l b).get k=D (.row X esz els)->H.get k=D (.row X esz els):=by
 intro k esz els h;by_cases a:l=k
 ·subst a;have d:l<H.next:=by have:=ad.aS h;simpa using this
  rw[ad.get_set_same d]at h;simp only[aV]at h;subst h;cases c
 ·rwa[ad.get_set_other a]at h
def ad.ES{H:ad}{b:bW}(c:b.rl=U):∀k esz els,(H.push b).get k=D (.row X esz els)->H.get k=D (.row X esz els):=by
 intro k esz els h;by_cases a:k=H.next
 ·subst a;rw[ad.bI]at h;simp only[aV]at h;subst h;cases c
 ·rwa[ad.dw a]at h
structure Rel(ρ:Env)(H:ad)(w:World):Prop where
 row:∀l ro esz els,H.get l=some (.row ro esz els)->∃loc,ρ l=some loc/\fA ρ w loc ro esz els
 map:∀l es,H.get l=some (.map es)->∃loc,ρ l=some loc/\uW ρ w loc es
 b1:∀l t esz els,H.get l=some (.b1 t esz els)->∃loc,ρ l=some loc/\mc ρ w loc t esz els
 apart:∀l l' loc a,H.rw l->H.live l'->l≠l'->ρ l=some loc->ρ l'=some a->loc.block≠a.block
def iy(ρ:Env)(H:ad)(b:Nat):Prop:=∃l loc,H.rw l/\ρ l=D loc/\loc.block=b
structure Step(ρ:Env)(H:ad)(w:World)(c:Env)(H':ad)(a:World):Prop where
 le:ρ.le c
 next:H.next<=H'.next
 a1:∀l,l<H.next\/H'.next<=l->c l=ρ l
 rel:Rel c H' a
 os:a.os=w.os
 tape:a.tape=w.tape
 output:a.output=w.output
 size:w.heap.size<=a.heap.size
 frame:∀b,b<w.heap.size->¬iy ρ H b->a.heap[b]? =w.heap[b]?
 own:∀b,iy c H' b->iy ρ H b\/w.heap.size<=b
 ro:∀l esz els,H'.get l=some (.row true esz els)->H.get l=some (.row true esz els)
def Step.refl{ρ:Env}{H:ad}{w:World}(h:Rel ρ H w):Step ρ H w ρ H w:=
 ⟨ρ.le_refl,bj _,λ_ _=>rfl,h,rfl,rfl,rfl,bj _,λ_ _ _=>rfl,λ_ h=> .inl h,λ_ _ _ h=>h⟩
def Step.trans{ρ p q:Env}{H d i:ad}{w n o:World}(h:Step ρ H w p d n)(k:Step p d n q i o):Step ρ H w q i o where
 le:=Env.le_trans h.le k.le
 next:=Nat.le_trans h.next k.next
 a1:=λl j=>(k.a1 l (j.imp (λx=>Nat.lt_of_lt_of_le x h.next) id)).trans (h.a1 l (j.imp id (λx=>Nat.le_trans k.next x)))
 ro:=λl esz els e=>h.ro l esz els (k.ro l esz els e)
 rel:=k.rel
 os:=k.os.trans h.os
 tape:=k.tape.trans h.tape
 output:=k.output.trans h.output
 size:=Nat.le_trans h.size k.size
 frame:=λb a m=>by
  rw[k.frame b (Nat.lt_of_lt_of_le a h.size) (λc=>(h.own b c).elim m (λhle=>af)),h.frame b a m]
 own:=λb a=>(k.own b a).elim (λc=>h.own b c) (λhle=> .inr (Nat.le_trans h.size hle))
def yh(ρ:Env)(n m:Nat):Prop:=∀l,n<=l->l<m->ρ l=C
structure h3(E ρ:Env)(n m:Nat):Prop where
 new:yh ρ n m
 le:E.le ρ
def h3.left{E ρ:Env}{n m k:Nat}(h:h3 E ρ n k)(hm:m<=k):h3 E ρ n m:=⟨λl a b=>h.new l a af,h.le⟩
def h3.after{E ρ d:Env}{H c:ad}{w e:World}{k:Nat}(h:h3 E ρ H.next k)(s:Step ρ H w d c e):h3 E d c.next k:=⟨λl a b=>by
 rw[s.a1 l (.inr a)];exact h.new l (Nat.le_trans s.next a) b,Env.le_trans h.le s.le⟩
def Rel.drew{ρ:Env}{H:ad}{w:World}(h:Rel ρ H w):Rel ρ H w.drew:=⟨h.row,h.map,h.b1,h.apart⟩
end
def dX(P:Program)(t:TypeId):Option Bool:=
 match P.underlying t with
 |some (.struct _)|some (.array _ _)=>D X
 |some _=>D U
 |none=>C
def cB(P:Program)(t:TypeId):Option Nat:=(P.info? t).map (·.size)
def tM{P:Program}{t:TypeId}{b:Bool}(h:dX P t=D b)(w:World):(isAgg t).run P w= .ok b w:=by
 unfold dX at h;unfold isAgg;cases hu:P.underlying t with
 |none=>rw[hu]at h;cases h
 |some d=>
  rw[hu]at h;simp only[Sem.run_bind,run_underlying hu,Result.andThen_ok];cases d<;>simp_all
def run_sizeOf{P:Program}{t:TypeId}{n:Nat}(h:cB P t=D n)(w:World):(sizeOf t).run P w= .ok n w:=by
 unfold cB at h;cases a:P.info? t with
 |none=>rw[a]at h;cases h
 |some i=>rw[a]at h;simp at h;simp[sizeOf,typeInfo,a,h]
def apart(P:Program)(t:TypeId)(cs:List aa)(off:Nat):Option aa:=
 match dX P t with
 |some X=>(match cB P t with|some n=>D (.agg ((cs.drop off).take n))|none=>C)
 |some U=>cs[off]?
 |none=>C
def bw.drop{ρ:Env}:∀{c:List aa} {xs:List Value} (n:Nat),bw ρ c xs->bw ρ (c.drop n) (xs.drop n)
 |_,_,0,h=>by simpa using h
 |[],_,n+1,h=>by cases h;simpa using bw.nil
 |_::_,_,n+1,h=>by cases h with|cons _ _ _ _ a as=>simpa using bw.drop n as
def bw.take{ρ:Env}:∀{c:List aa} {xs:List Value} (n:Nat),bw ρ c xs->bw ρ (c.take n) (xs.take n)
 |_,_,0,h=>by simpa using bw.nil
 |[],_,n+1,h=>by cases h;simpa using bw.nil
 |_::_,_,n+1,h=>by cases h with|cons _ _ _ _ a as=>simpa using bw.cons _ _ _ _ a (bw.take n as)
def mi{P:Program}{t:TypeId}{cs:List aa}{off:Nat}{v:aa}{ρ:Env}{xs:List Value}(h:apart P t cs off=D v)(ax:bw ρ cs xs)(w:World):
  ∃x,(part t xs.toArray off).run P w= .ok x w/\bg ρ v x:=by
 unfold apart at h;split at h
 ·rename_i a;split at h
  ·rename_i n c;simp at h;subst h;refine⟨.agg (((xs.drop off).take n).toArray),?_,.agg _ _ ((ax.drop off).take n)⟩;unfold part;simp only[Sem.run_bind,tM a,Result.andThen_ok,if_true,run_sizeOf c];simp[List.extract_toArray,List.extract_eq_take_drop]
  ·cases h
 ·rename_i a;obtain⟨x,e,d⟩:=ax.get off v h;refine⟨x,?_,d⟩;unfold part;simp[tM a,e]
 ·cases h
def hR(op:BinOp)(k:IntKind)(a b:Int):Option aa:=
 match op with
 | .add=>D (.int k (k.wrap (a+b)))
 | .sub=>D (.int k (k.wrap (a-b)))
 | .mul=>D (.int k (k.wrap (a*b)))
 | .quo=>if b=0 then C else D (.int k (k.wrap (a.tdiv b)))
 | .rem=>if b=0 then C else D (.int k (a.tmod b))
 | .and=>D (.int k (k.wrap ((BitVec.ofInt k.bits a&&&BitVec.ofInt k.bits b).toNat:Int)))
 | .or=>D (.int k (k.wrap ((BitVec.ofInt k.bits a|||BitVec.ofInt k.bits b).toNat:Int)))
 | .xor=>D (.int k (k.wrap ((BitVec.ofInt k.bits a^^^BitVec.ofInt k.bits b).toNat:Int)))
 | .andNot=>D (.int k (k.wrap ((BitVec.ofInt k.bits a&&& ~~~BitVec.ofInt k.bits b).toNat:Int)))
 | .eql=>D (.bool (a==b))
 | .neq=>D (.bool (a != b))
 | .lss=>D (.bool (decide (a<b)))
 | .leq=>D (.bool (decide (a<=b)))
 | .gtr=>D (.bool (decide (b<a)))
 | .geq=>D (.bool (decide (b<=a)))
 | .shl| .shr=>C
def pv(op:BinOp)(k:IntKind)(a b:Int):Option aa:=
 if b<0 then C else
 match op with
 | .shl=>D (.int k (k.wrap (a*2^(min b.toNat k.bits))))
 | .shr=>D (.int k (a.fdiv (2^(min b.toNat k.bits))))
 |_=>C
def sh(op:BinOp)(a b:List UInt8):Option aa:=
 match op with
 | .add=>if a.length+b.length<=9223372036854775807 then D (.str (a++b))else C
 | .eql=>D (.bool (a==b))
 | .neq=>D (.bool (!(a==b)))
 | .lss=>D (.bool (Op.bytesLess a b))
 | .leq=>D (.bool (Op.bytesLess a b||a==b))
 | .gtr=>D (.bool (!(Op.bytesLess a b||a==b)))
 | .geq=>D (.bool (!Op.bytesLess a b))
 |_=>C
def o_(P:Program)(eq:TypeId->aa->aa->Option Bool):List Field->List aa->List aa->Option Bool
 |[],_,_=>D X
 |f::d,xs,c=>
  if f.name≠ "_" then
   match apart P f.type xs f.offset,apart P f.type c f.offset with
   |some a,D b=>(match eq f.type a b with|some X=>o_ P eq d xs c|some U=>D U|none=>C)
   |_,_=>C
  else o_ P eq d xs c
def qN(P:Program)(eq:TypeId->aa->aa->Option Bool)(e:TypeId)(n:Nat):Nat->Nat->List aa->List aa->Option Bool
 |0,_,_,_=>D X
 |k+1,i,xs,c=>
  match apart P e xs (i*n),apart P e c (i*n)with
  |some a,D b=>(match eq e a b with|some X=>qN P eq e n k (i+1) xs c|some U=>D U|none=>C)
  |_,_=>C
def jW(P:Program):Nat->TypeId->aa->aa->Option Bool
 |0,_,_,_=>C
 |d+1,t,x,y=>
  match P.underlying t,x,y with
  |some .bool,.bool a,.bool b=>D (a==b)
  |some (.int _),.int k a,.int i b=>if k=i then D (a==b)else C
  |some .string,.str a,.str b=>D (a==b)
  |some (.pointer _),.nilPtr,.nilPtr=>D X
  |some (.pointer _),.nilPtr,.ptr .. =>D U
  |some (.pointer _),.ptr ..,.nilPtr=>D U
  |some (.interface _),.nilIface,.nilIface=>D X
  |some (.interface _),.nilIface,.iface .. =>D U
  |some (.interface _),.iface ..,.nilIface=>D U
  |some (.struct h),.agg xs,.agg c=>if P.stoodInHeld t then C else o_ P (jW P d) h.toList xs c
  |some (.array len e),.agg xs,.agg c=>(match cB P e with|some n=>qN P (jW P d) e n len 0 xs c|none=>C)
  |some (.slice _),.ar,.ar=>D X
  |some (.slice _),.ar,.aB .. =>D U
  |some (.slice _),.aB ..,.ar=>D U
  |some (.map _ _),.hV,.hV=>D X
  |some (.map _ _),.hV,.map _=>D U
  |some (.map _ _),.map _,.hV=>D U
  |some (.func _ _ _),.nilFunc,.nilFunc=>D X
  |some (.func _ _ _),.nilFunc,.func .. =>D U
  |some (.func _ _ _),.func ..,.nilFunc=>D U
  |_,_,_=>C
def isConst:Operand->Bool
 | .const _=>X
 |_=>U
def nN(P:Program)(t:TypeId)(x y:Operand)(a b:aa):Bool:=
 match a,b with
 | .nilIface,.nilIface=>isConst x||isConst y
 | .agg _,.agg _=> !P.eqGuardType P.depth t
 |_,_=>X
def qL(P:Program)(op:BinOp)(t:TypeId)(c d:Operand)(x y:aa):Option aa:=
 match x,y with
 | .int k a,.int e b=>
  (match op with
  | .shl=>pv .shl k a b
  | .shr=>pv .shr k a b
  |op=>if k=e then hR op k a b else C)
 | .str a,.str b=>sh op a b
 |x,y=>
  (match op with
  | .eql=>if nN P t c d x y then(jW P 10000 t x y).map .bool else C
  | .neq=>if nN P t c d x y then(jW P 10000 t x y).map λb=> .bool (!b)else C
  |_=>C)
def fq(op:UnOp)(x:aa):Option aa:=
 match op,x with
 | .neg,.int k n=>D (.int k (k.wrap (0-n)))
 | .not,.bool b=>D (.bool (!b))
 |_,_=>C
end Go.bs
namespace Go
def Operand.s4:Operand->Bool
 | .const _=>X
 |_=>U
end Go
namespace Go.bs
section
variable {P:Program}{ρ:Env}
def xB(w:World)(eq:TypeId->aa->aa->Option Bool)(lv:TypeId->Value->Value->Sem Bool)
  (heq:∀t a b x y c,eq t a b=D c->bg ρ a x->bg ρ b y->(lv t x y).run P w= .ok c w) {xs s:List aa} {q u:List Value} (j:bw ρ xs q) (k:bw ρ s u):
  ∀(d:List Field) (b:Bool),o_ P eq d xs s=D b->
   (forIn d ((C:Option Bool),()) (λf _=>
    (if f.name≠ "_" then do
     let a<-part f.type q.toArray f.offset
     let b<-part f.type u.toArray f.offset
     let c<-lv f.type a b
     if(!c)=X then pure (ForInStep.done (D U,()))else pure (ForInStep.yield (C,()))
    else pure (ForInStep.yield (C,())):Sem (ForInStep (Option Bool×Unit))))).run P w= .ok (if b then(C,())else(D U,())) w
 |[],b,h=>by
  simp[o_]at h;subst h;simp[Sem.run_pure]
 |f::d,b,h=>by
  unfold o_ at h;rw[List.forIn_cons];by_cases e:f.name≠ "_"
  ·rw[if_pos e]at h;split at h
   ·rename_i a cl v z;obtain⟨x,o,m⟩:=mi v j w;obtain⟨y,p,n⟩:=mi z k w;split at h
    ·rename_i he;have i:=heq _ _ _ _ _ _ he m n;have l:=xB w eq lv heq j k d b h;simp only[if_pos e,Sem.run_bind,o,p,i,Result.andThen_ok,Bool.not_true,Bool.false_eq_true,if_false,Sem.run_pure];exact l
    ·rename_i he;have i:=heq _ _ _ _ _ _ he m n;simp at h;subst h;simp only[if_pos e,Sem.run_bind,o,p,i,Result.andThen_ok,Bool.not_false,if_true,Sem.run_pure];rfl
    ·cases h
   ·cases h
  ·rw[if_neg e]at h;have l:=xB w eq lv heq j k d b h;simp only[if_neg e,Sem.run_bind,Sem.run_pure,Result.andThen_ok];exact l
def E6(w:World)(e:TypeId)(n:Nat)(eq:TypeId->aa->aa->Option Bool)(lv:TypeId->Value->Value->Sem Bool)
  (heq:∀t a b x y c,eq t a b=D c->bg ρ a x->bg ρ b y->(lv t x y).run P w= .ok c w) {xs u:List aa} {s v:List Value} (m:bw ρ xs s) (p:bw ρ u v):
  ∀(k i:Nat) (b:Bool),qN P eq e n k i xs u=D b->
   (forIn (List.range' i k) ((C:Option Bool),()) (λi _=>
    (do
     let a<-part e s.toArray (i*n)
     let b<-part e v.toArray (i*n)
     let c<-lv e a b
     if(!c)=X then pure (ForInStep.done (D U,()))else pure (ForInStep.yield (C,())):Sem (ForInStep (Option Bool×Unit))))).run P w= .ok (if b then(C,())else(D U,())) w
 |0,i,b,h=>by
  simp[qN]at h;subst h;simp[Sem.run_pure]
 |k+1,i,b,h=>by
  unfold qN at h;rw[List.range'_succ,List.forIn_cons];split at h
  ·rename_i a cl z A;obtain⟨x,o,j⟩:=mi z m w;obtain⟨y,q,l⟩:=mi A p w;split at h
   ·rename_i he;have d:=heq _ _ _ _ _ _ he j l;have B:=E6 w e n eq lv heq m p k (i+1) b h;simp only[Sem.run_bind,o,q,d,Result.andThen_ok,Bool.not_true,Bool.false_eq_true,if_false,Sem.run_pure];exact B
   ·rename_i he;have d:=heq _ _ _ _ _ _ he j l;simp at h;subst h;simp only[Sem.run_bind,o,q,d,Result.andThen_ok,Bool.not_false,if_true,Sem.run_pure];rfl
   ·cases h
  ·cases h
def xQ(a b:List UInt8):((⟨a.toArray⟩:ByteArray)==⟨b.toArray⟩)=(a==b):=by
 have:((⟨a.toArray⟩:ByteArray)==⟨b.toArray⟩)=(a.toArray==b.toArray):=rfl;rw[this];simp
def q6(w:World):∀(d:Nat) (t:TypeId) (x y:aa) (j k:Value) (b:Bool),jW P d t x y=D b->bg ρ x j->bg ρ y k->
  (Op.equalIn d t j k).run P w= .ok b w
 |0,t,x,y,j,k,b,h,_,_=>by cases h
 |d+1,t,x,y,j,k,b,h,e,i=>by
  have n:=q6 w d;unfold jW at h;unfold Op.equalIn;cases hu:P.underlying t with
  |none=>rw[hu]at h;cases h
  |some u=>
   rw[hu]at h;simp only[Sem.run_bind,run_underlying hu,Result.andThen_ok];split at h<;>(try (cases h;done))<;>(try simp only[aV]at*)<;>(try subst_vars)<;>(try (cases e;cases i;simp;done))
   ·cases e;cases i;split at h
    ·rename_i o;subst o;simp at h;subst h;simp
    ·cases h
   ·cases e;cases i;simp[xQ]
   ·cases e with|agg _ z e=>cases i with|agg _ A i=>
    split at h
    ·cases h
    ·rename_i q;have s:P.stoodInHeld t=false:=by simpa using q
     have:=xB w (jW P d) (Op.equalIn d) (λt a b x y c he l m=>n t a b x y c he l m) e i _ b h;simp only[Sem.run_bind,run_program,Result.andThen_ok,s,Bool.false_eq_true,if_false];rw[<-Array.forIn_toList,this];cases b<;>simp
   ·cases e with|agg _ z e=>cases i with|agg _ A i=>
    split at h
    ·rename_i v p;have:=E6 w _ v (jW P d) (Op.equalIn d) (λt a b x y c he l m=>n t a b x y c he l m) e i _ _ b h;simp only[Sem.run_bind,run_sizeOf p,Result.andThen_ok];rw[Std.Legacy.Range.forIn_eq_forIn_range'];simp only[Std.Legacy.Range.size,Nat.sub_zero,Nat.add_sub_cancel,Nat.div_one]at this ⊢;rw[this];cases b<;>simp
    ·cases h
def J8{op:BinOp}{k:IntKind}{a b:Int}{v:aa}(h:hR op k a b=D v)(t:TypeId)(w:World):
  ∃r,(binOp op t (.int k a) (.int k b)).run P w= .ok r w/\bg ρ v r:=by
 unfold hR at h;cases op<;>simp only at h<;>(try (cases h;done))<;>(try (simp only[aV]at h;subst h))<;>
  (try (exact⟨_,by simp only[binOp,ne_eq,not_true_eq_false,if_false,Op.intArith,Op.intBits,Op.intCmp];exact Sem.run_pure ..,by first|exact .int _ _|exact .bool _⟩))
 ·split at h
  ·cases h
  ·rename_i c;simp only[aV]at h;subst h;exact⟨_,by simp only[binOp,ne_eq,not_true_eq_false,if_false,Op.intDiv,c];exact Sem.run_pure ..,.int _ _⟩
 ·split at h
  ·cases h
  ·rename_i c;simp only[aV]at h;subst h;exact⟨_,by simp only[binOp,ne_eq,not_true_eq_false,if_false,Op.intDiv,c];exact Sem.run_pure ..,.int _ _⟩
def Cp{op:BinOp}{k d:IntKind}{a b:Int}{v:aa}(h:pv op k a b=D v)(t:TypeId)(w:World):
  ∃r,(binOp op t (.int k a) (.int d b)).run P w= .ok r w/\bg ρ v r:=by
 unfold pv at h;split at h
 ·cases h
 ·rename_i c;cases op<;>simp only at h<;>(try (cases h;done))<;>simp only[aV]at h<;>subst h
  ·exact⟨_,by simp only[binOp,Op.shift,if_neg c];exact Sem.run_pure ..,.int _ _⟩
  ·exact⟨_,by simp only[binOp,Op.shift,if_neg c];exact Sem.run_pure ..,.int _ _⟩
def toList_mk(a:List UInt8):(⟨a.toArray⟩:ByteArray).toList=a:=by rw[ByteArray.toList_eq]
def KX(a b:List UInt8):(⟨a.toArray⟩++⟨b.toArray⟩:ByteArray)=⟨(a++b).toArray⟩:=by
 apply ByteArray.ext;simp
def Pn{op:BinOp}{a b:List UInt8}{v:aa}(h:sh op a b=D v)(t:TypeId)(w:World):
  ∃r,(binOp op t (.string ⟨a.toArray⟩) (.string ⟨b.toArray⟩)).run P w= .ok r w/\bg ρ v r:=by
 unfold sh at h;unfold binOp;cases op<;>simp only at h<;>(try (cases h;done))<;>(try (simp only[aV]at h;subst h))<;>
  (try (exact⟨_,by simp only[Op.stringOp,toList_mk];exact Sem.run_pure ..,.bool _⟩))
 split at h
 ·rename_i c;simp only[aV]at h;subst h;refine⟨.string ⟨(a++b).toArray⟩,?_,.str _⟩;simp only[Op.stringOp];rw[if_neg,KX]
  ·exact Sem.run_pure ..
  ·have e:IntKind.i64.max=9223372036854775807:=rfl;have an:(⟨a.toArray⟩:ByteArray).size=a.length:=by show a.toArray.size=_;simp
   have aE:(⟨b.toArray⟩:ByteArray).size=b.length:=by show b.toArray.size=_;simp
   rw[e,an,aE];omega
 ·cases h
def vF{op:BinOp}{t:TypeId}{a c:Operand}{x y:aa}{e i:Value}(h:nN P t a c x y=X)(k:bg ρ x e)(d:bg ρ y i)(w:World):
  (eqGuard op t a c e i).run P w= .ok () w:=by
 have j:a.s4||c.s4=X->(eqGuard op t a c .nilIface .nilIface).run P w= .ok () w:=by
  intro h;cases op<;>first
   |rfl
   |(cases a<;>cases c<;>first|rfl|(simp[Operand.s4]at h;done))
 cases k with
 |nilIface=>
  cases d with
  |nilIface=>
   refine j ?_;simp only[nN]at h;cases a<;>cases c<;>simp_all[isConst,Operand.s4]
  |_=>cases op<;>rfl
 |agg cs xs m=>
  cases d with
  |agg l o n=>
   simp only[nN,Bool.not_eq_true']at h;cases op<;>first|rfl|simp[eqGuard,h]
  |_=>cases op<;>rfl
 |_=>cases d<;>cases op<;>rfl
def binOp_eql{x y:aa}{c d:Value}(h:bg ρ x c)(i:bg ρ y d)(e:∀k a j b,x= .int k a->y= .int j b->False)(ax:∀a b,x= .str a->y= .str b->False)(t:TypeId):
  binOp .eql t c d=(do pure (.bool (<-Op.equal t c d)))/\binOp .neq t c d=(do pure (.bool (!(<-Op.equal t c d)))):=by
 cases h<;>cases i<;>first
  |exact⟨rfl,rfl⟩
  |exact(e _ _ _ _ rfl rfl).elim
  |exact(ax _ _ rfl rfl).elim
def Hv{op:BinOp}{t:TypeId}{l m:Operand}{x y v:aa}{i j:Value}(h:qL P op t l m x y=D v)(c:bg ρ x i)(d:bg ρ y j)(w:World):
  ∃r,((do eqGuard op t l m i j;binOp op t i j:Sem Value)).run P w= .ok r w/\bg ρ v r:=by
 have vZ:∀k a e b,(eqGuard op t l m (.int k a) (.int e b)).run P w= .ok () w:=λk a e b=>vF (ρ:=ρ) (x:= .int k a) (y:= .int e b) rfl (.int _ _) (.int _ _) w
 have v7:∀a b,(eqGuard op t l m (.string ⟨a⟩) (.string ⟨b⟩)).run P w= .ok () w:=λa b=>by
  unfold eqGuard;split<;>rfl
 unfold qL at h;split at h
 ·cases c;cases d;rename_i k a e b;simp only[Sem.run_bind,vZ,Result.andThen_ok];split at h
  ·exact Cp h t w
  ·exact Cp h t w
  ·split at h
   ·rename_i s;subst s;exact J8 h t w
   ·cases h
 ·cases c;cases d;simp only[Sem.run_bind,v7,Result.andThen_ok];exact Pn h t w
 ·rename_i u z;obtain⟨an,aE⟩:=binOp_eql c d (λk a e b n o=>u _ _ _ _ n o) (λa b n o=>z _ _ n o) t;split at h
  ·split at h
   ·rename_i q;rw[Sem.run_bind,vF q c d w,Result.andThen_ok];simp only[Option.map_eq_some_iff]at h;obtain⟨b,p,rfl⟩:=h;have he:(Op.equal t i j).run P w= .ok b w:=q6 (ρ:=ρ) w _ _ _ _ _ _ _ p c d;exact⟨.bool b,by rw[an,Sem.run_bind,he];rfl,.bool b⟩
   ·cases h
  ·split at h
   ·rename_i q;rw[Sem.run_bind,vF q c d w,Result.andThen_ok];simp only[Option.map_eq_some_iff]at h;obtain⟨b,p,rfl⟩:=h;have he:(Op.equal t i j).run P w= .ok b w:=q6 (ρ:=ρ) w _ _ _ _ _ _ _ p c d;exact⟨.bool (!b),by rw[aE,Sem.run_bind,he];rfl,.bool _⟩
   ·cases h
  ·cases h
def Ip{op:UnOp}{x v:aa}{c:Value}(h:fq op x=D v)(a:bg ρ x c)(w:World):∃r,(Op.unary op c).run P w= .ok r w/\bg ρ v r:=by
 unfold fq at h;split at h
 ·cases a;simp only[aV]at h;subst h;exact⟨_,by simp only[Op.unary,Op.intArith];exact Sem.run_pure ..,.int _ _⟩
 ·cases a;simp only[aV]at h;subst h;exact⟨_,by simp only[Op.unary];exact Sem.run_pure ..,.bool _⟩
 ·cases h
end
section
variable {P:Program}{ρ:Env}{H:ad}{w:World}
def hW(c:Array Value)(o:Nat):List Value->Array Value
 |[]=>c
 |v::r=>hW (c.setIfInBounds o v) (o+1) r
def rS:∀(a:List Value) (c:Array Value) (o:Nat),(hW c o a).size=c.size
 |[],_,_=>rfl
 |v::r,c,o=>by rw[hW,rS r];simp
def pU:∀(a:List Value) (c:Array Value) (o k:Nat),k<o\/o+a.length<=k->(hW c o a)[k]? =c[k]?
 |[],_,_,_,_=>rfl
 |v::r,c,o,k,h=>by
  rw[hW,pU r _ _ _ (by simp at h;omega)];rw[Array.getElem?_setIfInBounds];have:¬o=k:=by simp at h;omega
  simp[this]
def tF:∀(a:List Value) (c:Array Value) (o j:Nat) (x:Value),a[j]? =D x->o+j<c.size->(hW c o a)[o+j]? =D x
 |[],_,_,_,_,h,_=>by simp at h
 |v::r,c,o,0,x,h,d=>by
  simp at h;subst h;rw[hW,pU r _ _ _ af,Array.getElem?_setIfInBounds];simp;omega
 |v::r,c,o,j+1,x,h,d=>by
  rw[hW,show o+(j+1)=o+1+j by omega];exact tF r _ _ _ _ (by simpa using h) (by simp;omega)
def r9(b:Nat):∀(d:List Value) (o:Nat) (w:World) (c:Array Value) (t:TypeId) (a:Nat×Nat),w.heap[b]? =D (.cells c t a)->
  (w.setCells b o d).heap[b]? =D (.cells (hW c o d) t a)
 |[],_,_,_,_,_,h=>h
 |v::r,o,w,c,t,a,h=>by
  rw[World.setCells,hW];refine r9 b r (o+1) _ _ t a ?_;simp[World.setCell,Array.getElem?_modify,h]
def lb(b:Nat):∀(a:List Value) (o:Nat) (w:World) (k:Nat),k≠b->(w.setCells b o a).heap[k]? =w.heap[k]?
 |[],_,_,_,_=>rfl
 |v::r,o,w,k,h=>by
  rw[World.setCells,lb b r _ _ _ h];simp[World.setCell,Array.getElem?_modify,Ne.symm h]
def xG(b:Nat):∀(e:List Value) (o:Nat) (w:World),(w.setCells b o e).heap.size=w.heap.size/\(w.setCells b o e).os=w.os/\(w.setCells b o e).tape=w.tape/\(w.setCells b o e).output=w.output
 |[],_,_=>⟨rfl,rfl,rfl,rfl⟩
 |v::r,o,w=>by
  rw[World.setCells];obtain⟨a,b,c,d⟩:=xG b r (o+1) (w.setCell ⟨b,o,C⟩ v);exact⟨a.trans (by simp[World.setCell]),b,c,d⟩
def fA.cell{loc:Loc}{ro:Bool}{esz:Nat}{els:List (List aa)}(h:fA ρ w loc ro esz els){i:Nat}{e:List aa}(he:els[i]? =D e){j:Nat}{v:aa}(m:e[j]? =D v):
  ∃x,w.cell? ⟨loc.block,loc.off+i*loc.esz+j,C⟩=D x/\bg ρ v x/\v.one=true:=by
 obtain⟨rfl,c,t,n,l,_,a⟩:=h;obtain⟨_,d⟩:=a i e he;obtain⟨k,x,d,a⟩:=d j v m;exact⟨x,by simp[World.cell?,l,d],a,k⟩
def ak(P:Program)(H:ad)(t:TypeId)(a:aa):Option aa:=
 match a with
 | .ptr l i c=>
  (match H.get l with
  |some (.row _ esz els)=>
   (match els[i]?,dX P t with
   |some e,D U=>e[c]?
   |some e,D X=>(match cB P t with|some n=>if c+n<=esz then D (.agg ((e.drop c).take n))else C|none=>C)
   |_,_=>C)
  |some (.b1 _ esz els)=>
   (match els[i]?,dX P t with
   |some e,D U=>e[c]?
   |some e,D X=>(match cB P t with|some n=>if c+n<=esz then D (.agg ((e.drop c).take n))else C|none=>C)
   |_,_=>C)
  |_=>C)
 |_=>C
def kA(b o j:Nat):(⟨b,o,C⟩:Addr).add j=⟨b,o+j,C⟩:=by
 unfold Addr.add;split<;>simp_all
def yK{loc:Loc}{l i c:Nat}{ro:Bool}{esz:Nat}{els:List (List aa)}(K:ρ l=D loc)(s:fA ρ w loc ro esz els){t:TypeId}{v:aa}
 (h:(match els[i]?,dX P t with
  |some e,D U=>e[c]?
  |some e,D X=>(match cB P t with|some n=>if c+n<=esz then D (.agg ((e.drop c).take n))else C|none=>C)
  |_,_=>C)=D v):
 ∃r,(Instr.loadAt t (.pointer (D ⟨loc.block,loc.off+i*loc.esz+c,C⟩))).run P w= .ok r w/\bg ρ v r:=by
  split at h
  ·rename_i e he k;obtain⟨x,q,u,_⟩:=s.cell he h;refine⟨x,?_,u⟩;simp[Instr.loadAt,Instr.sureAddr,loadVar,tM k,run_load,q]
  ·rename_i e he k;split at h
   ·rename_i n z;split at h
    ·rename_i hle;simp only[aV]at h;subst h;have hlen:e.length=esz:=by obtain⟨_,c',L,G,_,_,E⟩:=s;exact(E i e he).1
     have hex:∃xs:List Value,xs.length=n/\bw ρ ((e.drop c).take n) xs/\∀j y,xs[j]? =D y->w.cell? ⟨loc.block,loc.off+i*loc.esz+c+j,C⟩=D y:=by
      clear k z
      induction n with
      |zero=>exact⟨[],rfl,by simpa using bw.nil,λj y a=>by simp at a⟩
      |succ n F=>
       obtain⟨xs,d,o,p⟩:=F af;have A:c+n<e.length:=af;obtain⟨x,q,u,_⟩:=s.cell he (j:=c+n) (v:=e[c+n]) (by simp[A]);refine⟨xs++[x],by simp[d],?_,?_⟩
       ·rw[List.take_succ_eq_append_getElem (by simp;omega)];refine o.append (.cons _ _ _ _ ?_ .nil);simpa using u
       ·intro j y a;by_cases B:j<xs.length
        ·rw[List.getElem?_append_left B]at a;exact p j y a
        ·rw[List.getElem?_append_right af]at a;have:j=n:=by
          by_cases H:j-xs.length=0
          ·omega
          ·obtain⟨m,hm⟩:∃m,j-xs.length=m+1:=⟨j-xs.length-1,af⟩;rw[hm]at a;simp at a
         subst this;simp[d]at a;subst a;rw[<-q,Nat.add_assoc]
     obtain⟨xs,d,o,p⟩:=hex;refine⟨.agg xs.toArray,?_,.agg _ _ o⟩;have:=run_loadCells_list (P:=P) w ⟨loc.block,loc.off+i*loc.esz+c,C⟩ xs (λj y a=>by rw[kA];exact p j y a);rw[d]at this;simp[Instr.loadAt,Instr.sureAddr,loadVar,tM k,run_sizeOf z,this]
    ·cases h
   ·cases h
  ·cases h
def ve(n:Rel ρ H w){t:TypeId}{a v:aa}{x:Value}(h:ak P H t a=D v)(o:bg ρ a x):
  ∃r,(Instr.loadAt t x).run P w= .ok r w/\bg ρ v r:=by
 unfold ak at h;split at h
 ·rename_i l i c;cases o with|ptr _ _ _ loc d=>
  split at h
  ·rename_i ro esz els e;obtain⟨m,j,k⟩:=n.row _ _ _ _ e;obtain rfl:loc=m:=Option.some.inj (d.symm.trans j);exact yK d k h
  ·rename_i p esz els e;obtain⟨m,j,k,-⟩:=n.b1 _ _ _ _ e;obtain rfl:loc=m:=Option.some.inj (d.symm.trans j);exact yK d k h
  ·cases h
 ·cases h
def dG(ot:Option TypeId)(esz:Nat)(els:List (List aa)):bW:=match ot with
 |none=> .row U esz els
 |some t=> .b1 t esz els
def wS(ot:Option TypeId)(esz:Nat)(els:List (List aa)):(dG ot esz els).rl=false:=by cases ot<;>rfl
def wT{ot:Option TypeId}{esz c:Nat}{els a:List (List aa)}{ro:Bool}(h:dG ot esz els= .row ro c a):ro=U/\esz=c/\els=a/\ot=none:=by
 cases ot<;>cases h;exact⟨rfl,rfl,rfl,rfl⟩
def wU{ot:Option TypeId}{esz c:Nat}{els a:List (List aa)}{t:TypeId}(h:dG ot esz els= .b1 t c a):ot=D t/\esz=c/\els=a:=by
 cases ot<;>cases h;exact⟨rfl,rfl,rfl⟩
def wR{ot:Option TypeId}{esz:Nat}{els:List (List aa)}{es:List (aa×aa)}(h:dG ot esz els= .map es):False:=by cases ot<;>cases h
def nZ{H:ad}{l:Nat}{ot:Option TypeId}{esz:Nat}{els:List (List aa)}(h:H.get l=D (dG ot esz els)):H.rw l:=by
 cases ot with
 |none=>exact .inl ⟨_,_,h⟩
 |some t=>exact .inr (.inr ⟨_,_,_,h⟩)
def tk(d:Rel ρ H w){l:Nat}{ot:Option TypeId}{esz:Nat}{els:List (List aa)}(h:H.get l=D (dG ot esz els)):∃loc,ρ l=D loc/\fA ρ w loc U esz els/\∀t,ot=D t->∃c e,w.heap[loc.block]? =D (.cells c t e)/\loc.off=0:=by
 cases ot with
 |none=>obtain⟨loc,a,b⟩:=d.row _ _ _ _ h;exact⟨loc,a,b,λt h=>by cases h⟩
 |some t=>obtain⟨loc,a,b,c⟩:=d.b1 _ _ _ _ h;exact⟨loc,a,b,λt h=>by cases h;exact c⟩
def cW(e:List aa)(c:Nat)(cs:List aa):List aa:=e.take c++cs++e.drop (c+cs.length)
def FD{e:List aa}{c:Nat}{cs:List aa}(h:c+cs.length<=e.length):(cW e c cs).length=e.length:=by
 simp[cW];omega
def FC{e:List aa}{c:Nat}{cs:List aa}(h:c+cs.length<=e.length){j:Nat}(a:c<=j)(d:j<c+cs.length):(cW e c cs)[j]? =cs[j-c]? :=by
 unfold cW;rw[List.append_assoc,List.getElem?_append_right (by simp;omega),List.getElem?_append_left (by simp;omega)]
 congr 1;simp;omega
def FE{e:List aa}{c:Nat}{cs:List aa}(h:c+cs.length<=e.length){j:Nat}(a:j<c\/c+cs.length<=j):(cW e c cs)[j]? =e[j]? :=by
 unfold cW;rcases a with a|a
 ·rw[List.append_assoc,List.getElem?_append_left (by simp;omega),List.getElem?_take_of_lt a]
 ·rw[List.getElem?_append_right (by simp;omega),List.getElem?_drop]
  congr 1;simp;omega
def rC{a b n:Nat}(h:a<b):a*n+n<=b*n:=by
 have:=Nat.mul_le_mul_right n (Nat.succ_le_of_lt h);rw[Nat.succ_mul]at this;exact this
def yb(p:Rel ρ H w){ot:Option TypeId}{l esz:Nat}{els:List (List aa)}(s:H.get l=D (dG ot esz els)){loc:Loc}(z:ρ l=D loc){i:Nat}{e:List aa}(he:els[i]? =D e)
  {c:Nat} {cs:List aa} {xs:List Value} (aW:c+cs.length<=esz) (u:∀v∈cs,v.one=X) (ak:bw ρ cs xs):
  Step ρ H w ρ (H.set l (dG ot esz (els.set i (cW e c cs)))) (w.setCells loc.block (loc.off+i*loc.esz+c) xs):=by
 have Q:=ad.aS s;obtain⟨d,k,⟨y,arr,t,G,L,aD,M⟩,aJ⟩:=tk p s;obtain rfl:loc=d:=Option.some.inj (z.symm.trans k);have aC:=(M i e he).1;have aE:i<els.length:=by
  rcases Nat.lt_or_ge i els.length with h|h
  ·exact h
  ·rw[List.getElem?_eq_none h]at he;cases he
 have am:=ak.length;have R:∀l' d,H.live l'->l'≠l->ρ l'=D d->d.block≠loc.block:=λl' d h aZ k heq=>
  p.apart l l' loc d (nZ s) h (Ne.symm aZ) z k heq.symm
 have aj:∀l',(H.set l (dG ot esz (els.set i (cW e c cs)))).rw l'->H.rw l':=by
  intro l' h;by_cases a:l=l'
  ·subst a;exact nZ s
  ·simpa [ad.rw,ad.get_set_other a]using h
 have aH:∀l',(H.set l (dG ot esz (els.set i (cW e c cs)))).live l'->H.live l':=by
  intro l' h;by_cases a:l=l'
  ·subst a;exact(nZ s).live
  ·simpa [ad.live,ad.get_set_other a]using h
 obtain⟨s1,s2,fc,aR⟩:=xG loc.block xs (loc.off+i*loc.esz+c) w;have ai:fA ρ (w.setCells loc.block (loc.off+i*loc.esz+c) xs) loc U esz (els.set i (cW e c cs))/\∃N G,(w.setCells loc.block (loc.off+i*loc.esz+c) xs).heap[loc.block]? =D (.cells N t G):= ?new;refine⟨ρ.le_refl,bj _,λ_ _=>rfl,⟨?_,?_,?_,?_⟩,s2,fc,aR,Nat.le_of_eq s1.symm,?_,?_,ad.ET (wS _ _ _)⟩
 case new=>
  refine⟨⟨y,_,t,G,r9 _ _ _ _ _ _ _ L,?_,?_⟩,_,G,r9 _ _ _ _ _ _ _ L⟩
  ·rw[rS];exact aD
  ·intro an ab q;rw[List.getElem?_set]at q;by_cases P:i=an
   ·subst P;rw[if_pos rfl,if_pos aE]at q;simp only[aV]at q;subst q;have T:c+cs.length<=e.length:=af;refine⟨by rw[FD T];exact aC,?_⟩;intro j v m;by_cases ah:c<=j/\j<c+cs.length
    ·rw[FC T ah.1 ah.2]at m;obtain⟨x,B,A⟩:=ak.get _ _ m;refine⟨u v (List.mem_of_getElem? m),x,?_,A⟩;have aA:=(M i e he).2 j (e[j]'af) (by simp);obtain⟨_,ag,al,_⟩:=aA;have aY:loc.off+i*esz+j<arr.size:=by
      rcases Nat.lt_or_ge (loc.off+i*esz+j) arr.size with h|h
      ·exact h
      ·rw[Array.getElem?_eq_none h]at al;cases al
     have:=tF xs arr (loc.off+i*loc.esz+c) (j-c) x B (by rw[y];omega);rw[show loc.off+i*esz+j=loc.off+i*loc.esz+c+(j-c) by rw[y];omega];exact this
    ·rw[FE T af]at m;obtain⟨aT,x,B,A⟩:=(M i e he).2 j v m;refine⟨aT,x,?_,A⟩;rw[pU _ _ _ _ (by rw[y,<-am];omega)];exact B
   ·rw[if_neg P]at q;obtain⟨a0,aT⟩:=M an ab q;refine⟨a0,λj v m=> ?_⟩;obtain⟨ap,x,B,A⟩:=aT j v m;refine⟨ap,x,?_,A⟩;have aX:j<esz:=by
     rcases Nat.lt_or_ge j ab.length with h|h
     ·omega
     ·rw[List.getElem?_eq_none h]at m;cases m
    rw[pU _ _ _ _ ?_]
    ·exact B
    ·rw[y,<-am];rcases Nat.lt_or_gt_of_ne P with h|h
     ·have:=rC (n:=esz) h;omega
     ·have:=rC (n:=esz) h;omega
 ·intro l' a1 aw av h;by_cases a:l=l'
  ·subst a;rw[ad.get_set_same Q]at h;obtain⟨rfl,rfl,rfl,-⟩:=wT (Option.some.inj h);exact⟨loc,z,ai.1⟩
  ·rw[ad.get_set_other a]at h;obtain⟨d,k,S⟩:=p.row _ _ _ _ h;refine⟨d,k,?_⟩;have o:=R l' d (.inl ⟨_,_,_,h⟩) (Ne.symm a) k;obtain⟨V,c',ao,K,E,F,W⟩:=S;exact⟨V,c',ao,K,by rw[lb _ _ _ _ _ o];exact E,F,W⟩
 ·intro l' es h;by_cases a:l=l'
  ·subst a;rw[ad.get_set_same Q]at h;exact(wR (Option.some.inj h)).elim
  ·rw[ad.get_set_other a]at h;obtain⟨d,k,S⟩:=p.map _ _ h;have o:=R l' d (.inr (.inl ⟨_,h⟩)) (Ne.symm a) k;obtain⟨ents,clock,E,F⟩:=S;exact⟨d,k,ents,clock,by rw[lb _ _ _ _ _ o];exact E,F⟩
 ·intro l' ao aw av h;by_cases a:l=l'
  ·subst a;rw[ad.get_set_same Q]at h;obtain⟨au,rfl,rfl⟩:=wU (Option.some.inj h);obtain⟨c',K,ae,ay⟩:=aJ _ au;rw[L]at ae;cases ae;obtain⟨aO,N,f1,n2⟩:=ai;exact⟨loc,z,aO,N,f1,n2,ay⟩
  ·rw[ad.get_set_other a]at h;obtain⟨d,k,⟨V,c',aU,K,E,F,W⟩,aq,ax,aP,aQ⟩:=p.b1 _ _ _ _ h;have o:=R l' d (.inr (.inr ⟨_,_,_,h⟩)) (Ne.symm a) k;exact⟨d,k,⟨V,c',aU,K,by rw[lb _ _ _ _ _ o];exact E,F,W⟩,aq,ax,by rw[lb _ _ _ _ _ o];exact aP,aQ⟩
 ·intro aK aL aM aN u O o aF aG;exact p.apart aK aL aM aN (aj _ u) (aH _ O) o aF aG
 ·intro b L aI;refine lb _ _ _ _ _ ?_;rintro rfl;exact aI ⟨l,loc,nZ s,z,rfl⟩
 ·rintro b ⟨l',d,u,O,az⟩;exact .inl ⟨l',d,aj _ u,O,az⟩
def aU(P:Program)(H:ad)(t:TypeId)(a v:aa):Option ad:=
 match a with
 | .ptr l i c=>
  (match H.get l with
  |some (.row U esz els)=>
   (match els[i]? with
   |some e=>if cB P t=D v.cells.length/\c+v.cells.length<=esz/\v.cells.all aa.one=X then D (H.set l (.row U esz (els.set i (cW e c v.cells))))else C
   |none=>C)
  |some (.b1 d esz els)=>
   (match els[i]? with
   |some e=>if cB P t=D v.cells.length/\c+v.cells.length<=esz/\v.cells.all aa.one=X then D (H.set l (.b1 d esz (els.set i (cW e c v.cells))))else C
   |none=>C)
  |_=>C)
 |_=>C
def yX(k:Rel ρ H w){ot:Option TypeId}{l i c esz:Nat}{els:List (List aa)}(n:H.get l=D (dG ot esz els)){loc:Loc}(p:ρ l=D loc){e:List aa}(he:els[i]? =D e){t:TypeId}{v:aa}{y:Value}(R:bg ρ v y)
  (ax:cB P t=D v.cells.length) (B:c+v.cells.length<=esz) (L:v.cells.all aa.one=X):
  ∃A,(Instr.storeAt t (.pointer (D ⟨loc.block,loc.off+i*loc.esz+c,C⟩)) y).run P w= .ok () A/\Step ρ H w ρ (H.set l (dG ot esz (els.set i (cW e c v.cells)))) A:=by
 have q:∀u∈v.cells,u.one=true:=by simpa using L
 have d:=R.cells;refine⟨_,?_,yb k n p he B q d⟩;obtain⟨S,G,x,-⟩:=tk k n;obtain rfl:loc=S:=Option.some.inj (p.symm.trans G);have hlen:=d.length;have ab:=x;obtain⟨E,arr,ad,V,m,F,s⟩:=x;have W:=(s i e he).1;have z:∀j,j<y.cells.toList.length->∃u,arr[loc.off+i*loc.esz+c+j]? =D u:=by
  intro j a;obtain⟨_,u,hu,_⟩:=(s i e he).2 (c+j) (e[c+j]'af) (by simp);exact⟨u,by rw[E,Nat.add_assoc];exact hu⟩
 have M:=run_storeCells_cells (P:=P) loc.block (loc.off+i*loc.esz+c) y.cells.toList 0 w
  (λj a=>by obtain⟨u,hu⟩:=z j a;simp[World.cell?,m,hu])
  (λj a=>by
   obtain⟨u,hu⟩:=z j a;have K:loc.off+i*loc.esz+c+j<arr.size:=by
    rcases Nat.lt_or_ge (loc.off+i*loc.esz+c+j) arr.size with h|h
    ·exact h
    ·rw[Array.getElem?_eq_none h]at hu;cases hu
   have:=F.2 rfl _ K;simp only[World.frozen?,m,Nat.add_zero];simpa using this)
  (λu hu=>by
   obtain⟨j,a⟩:=List.getElem?_of_mem hu;have o:j<v.cells.length:=by
    rcases Nat.lt_or_ge j y.cells.toList.length with h|h
    ·omega
    ·rw[List.getElem?_eq_none h]at a;cases a
   obtain⟨T,O,Q⟩:=d.get j _ (List.getElem?_eq_getElem o);obtain rfl:u=T:=Option.some.inj (a.symm.trans O);exact Q.w2 (q _ (List.getElem_mem o)))
 have N:y.cells.size=v.cells.length:=by rw[hlen];simp
 simp only[Instr.storeAt,Instr.sureAddr,Sem.run_bind,Sem.run_pure,Result.andThen_ok,storeVar,run_sizeOf ax,N,ne_eq,not_true_eq_false,if_false];simpa using M
def Io(n:Rel ρ H w){t:TypeId}{a v:aa}{x y:Value}{H':ad}(h:aU P H t a v=D H')(s:bg ρ a x)(p:bg ρ v y):
  ∃q,(Instr.storeAt t x y).run P w= .ok () q/\Step ρ H w ρ H' q:=by
 unfold aU at h;split at h
 ·rename_i l i c;cases s with|ptr _ _ _ loc o=>
  split at h
  ·rename_i esz els k;split at h
   ·rename_i e he;split at h
    ·rename_i j;obtain⟨ax,d,m⟩:=j;simp only[aV]at h;subst h;exact yX n (ot:=none) k o he p ax d m
    ·cases h
   ·cases h
  ·rename_i u esz els k;split at h
   ·rename_i e he;split at h
    ·rename_i j;obtain⟨ax,d,m⟩:=j;simp only[aV]at h;subst h;exact yX n (ot:=some u) k o he p ax d m
    ·cases h
   ·cases h
  ·cases h
 ·cases h
end
def Env.eA(ρ:Env)(l:Nat)(loc:Loc):Env:=λk=>if k=l then D loc else ρ k
def Env.hv(ρ:Env)(l:Nat)(loc:Loc):ρ.eA l loc l=D loc:=by simp[Env.eA]
def Env.hO{ρ:Env}{l k:Nat}{loc:Loc}(h:k≠l):ρ.eA l loc k=ρ k:=by simp[Env.eA,h]
def Env.rm{ρ:Env}{l:Nat}(h:ρ l=C)(loc:Loc):ρ.le (ρ.eA l loc):=by
 intro k x a;by_cases e:k=l
 ·subst e;rw[h]at a;cases a
 ·rw[Env.hO e];exact a
section
variable {P:Program}{ρ:Env}{H:ad}{w:World}
def heap_alloc_old(w:World)(o:Obj){k:Nat}(h:k<w.heap.size):(w.alloc o).heap[k]? =w.heap[k]? :=by
 show(w.heap.push o)[k]? =_;rw[Array.getElem?_push,if_neg af]
def heap_alloc_new(w:World)(o:Obj):(w.alloc o).heap[w.heap.size]? =D o:=by
 show(w.heap.push o)[w.heap.size]? =_;simp
def JU(w:World)(o:Obj):(w.alloc o).heap.size=w.heap.size+1:=by
 show(w.heap.push o).size=_;simp
def jy{w:World}{k:Nat}{o:Obj}(h:w.heap[k]? =D o):k<w.heap.size:=by
 rcases Nat.lt_or_ge k w.heap.size with aZ|aZ
 ·exact aZ
 ·rw[Array.getElem?_eq_none aZ]at h;cases h
def vN{esz:Nat}:∀{els:List (List aa)},(∀e∈els,e.length=esz)->∀{i:Nat} {e:List aa},els[i]? =D e->∀{j:Nat} {v:aa},e[j]? =D v->els.flatten[i*esz+j]? =D v
 |[],_,_,_,h,_,_,_=>by simp at h
 |d::els,c,0,e,h,j,v,a=>by
  simp at h;subst h;have k:j<d.length:=by
   rcases Nat.lt_or_ge j d.length with h|h
   ·exact h
   ·rw[List.getElem?_eq_none h]at a;cases a
  simp only[List.flatten_cons,Nat.zero_mul,Nat.zero_add];rw[List.getElem?_append_left k];exact a
 |d::els,c,i+1,e,h,j,v,a=>by
  have l:d.length=esz:=c d (by simp);have:=vN (els:=els) (λe he=>c e (List.mem_cons_of_mem _ he)) (i:=i) (by simpa using h) a;simp only[List.flatten_cons];rw[List.getElem?_append_right (by rw[Nat.succ_mul];omega)];rw[<-this];congr 1;rw[Nat.succ_mul];omega
def Fb{H:ad}{b:bW}{l:Nat}(h:(H.push b).rw l):l=H.next\/H.rw l:=by
 by_cases e:l=H.next
 ·exact .inl e
 ·exact .inr (by simpa [ad.rw,ad.dw e]using h)
def C3{H:ad}{b:bW}{l:Nat}(h:(H.push b).live l):l=H.next\/H.live l:=by
 by_cases e:l=H.next
 ·exact .inl e
 ·exact .inr (by simpa [ad.live,ad.dw e]using h)
def Rel.ID(i:Rel ρ H w){l:Nat}(h:H.live l){loc:Loc}(j:ρ l=D loc):loc.block<w.heap.size:=by
 rcases h with⟨ro,esz,els,h⟩|⟨es,h⟩|⟨t,esz,els,h⟩
 ·obtain⟨e,d,_,c,t,k,a,_⟩:=i.row _ _ _ _ h;obtain rfl:loc=e:=Option.some.inj (j.symm.trans d);exact jy a
 ·obtain⟨e,d,ents,clock,a,_⟩:=i.map _ _ h;obtain rfl:loc=e:=Option.some.inj (j.symm.trans d);exact jy a
 ·obtain⟨e,d,_,c,k,a,_⟩:=i.b1 _ _ _ _ h;obtain rfl:loc=e:=Option.some.inj (j.symm.trans d);exact jy a
def td{H:ad}{l:Nat}(h:H.live l):l<H.next:=by
 rcases h with⟨_,_,_,h⟩|⟨_,h⟩|⟨_,_,_,h⟩<;>exact ad.aS h
def fA.frame{e:Env}{a:World}{loc:Loc}{ro:Bool}{esz:Nat}{els:List (List aa)}(h:fA ρ w loc ro esz els)(hle:ρ.le e)(o:a.heap[loc.block]? =w.heap[loc.block]?):fA e a loc ro esz els:=by
 obtain⟨s,c,t,k,p,u,y⟩:=h;refine⟨s,c,t,k,by rw[o];exact p,u,?_⟩;intro i d q;obtain⟨l,m⟩:=y i d q;refine⟨l,λj v z=> ?_⟩;obtain⟨n,x,B,A⟩:=m j v z;exact⟨n,x,B,A.mono hle⟩
def fA.lt{loc:Loc}{ro:Bool}{esz:Nat}{els:List (List aa)}(h:fA ρ w loc ro esz els):loc.block<w.heap.size:=by
 obtain⟨_,c,t,a,p,_⟩:=h;exact jy p
def mc.frame{e:Env}{d:World}{loc:Loc}{t:TypeId}{esz:Nat}{els:List (List aa)}(h:mc ρ w loc t esz els)(hle:ρ.le e)(a:d.heap[loc.block]? =w.heap[loc.block]?):mc e d loc t esz els:=by
 obtain⟨j,c,i,k,l⟩:=h;exact⟨j.frame hle a,c,i,by rw[a];exact k,l⟩
def El(i:Rel ρ H w)(v:ρ H.next=C)(b:bW)(A:b.rl=U)(o:Obj)(loc:Loc)(K:loc.block=w.heap.size)
  (B:∀ro esz els,b= .row ro esz els->fA (ρ.eA H.next loc) (w.alloc o) loc ro esz els) (z:∀es,b= .map es->uW (ρ.eA H.next loc) (w.alloc o) loc es) (E:∀t esz els,b= .b1 t esz els->mc (ρ.eA H.next loc) (w.alloc o) loc t esz els):
  Step ρ H w (ρ.eA H.next loc) (H.push b) (w.alloc o):=by
 have hle:=Env.rm v loc;have s:∀l d,H.live l->ρ.eA H.next loc l=D d->d.block<w.heap.size:=λl d h aZ=>by
  have n:l≠H.next:=by
   rintro rfl;have:=td h;omega
  rw[Env.hO n]at aZ;exact i.ID h aZ
 refine⟨hle,by simp,λl y=>Env.hO (by simp at y;omega),⟨?_,?_,?_,?_⟩,rfl,rfl,rfl,by rw[JU];omega,λk x _=>heap_alloc_old w o x,?_,ad.ES A⟩
 ·intro l ro esz els h;by_cases e:l=H.next
  ·subst e;rw[ad.bI]at h;exact⟨loc,Env.hv _ _ _,B _ _ _ (Option.some.inj h)⟩
  ·rw[ad.dw e]at h;obtain⟨d,j,m⟩:=i.row _ _ _ _ h;exact⟨d,by rw[Env.hO e];exact j,m.frame hle (heap_alloc_old w o m.lt)⟩
 ·intro l es h;by_cases e:l=H.next
  ·subst e;rw[ad.bI]at h;exact⟨loc,Env.hv _ _ _,z _ (Option.some.inj h)⟩
  ·rw[ad.dw e]at h;obtain⟨d,j,ents,clock,q,c,a⟩:=i.map _ _ h;exact⟨d,by rw[Env.hO e];exact j,ents,clock,by rw[heap_alloc_old w o (jy q)];exact q,c.mono hle,a.mono hle⟩
 ·intro l t esz els h;by_cases e:l=H.next
  ·subst e;rw[ad.bI]at h;exact⟨loc,Env.hv _ _ _,E _ _ _ (Option.some.inj h)⟩
  ·rw[ad.dw e]at h;obtain⟨d,j,m⟩:=i.b1 _ _ _ _ h;exact⟨d,by rw[Env.hO e];exact j,m.frame hle (heap_alloc_old w o m.1.lt)⟩
 ·intro l l' F G c a n an aE;rcases Fb c with rfl|c
  ·rcases C3 a with rfl|a
   ·exact absurd rfl n
   ·rw[Env.hv]at an;obtain rfl:=Option.some.inj an;have:=s _ _ a aE;omega
  ·rcases C3 a with rfl|a
   ·rw[Env.hv]at aE;obtain rfl:=Option.some.inj aE;have:=s _ _ c.live an;omega
   ·have p:l≠H.next:=by
     rintro rfl;have:=td c.live;omega
    have n2:l'≠H.next:=by
     rintro rfl;have:=td a;omega
    rw[Env.hO p]at an;rw[Env.hO n2]at aE;exact i.apart l l' F G c a n an aE
 ·rintro k ⟨l,d,c,a,u⟩;rcases Fb c with rfl|c
  ·rw[Env.hv]at a;obtain rfl:=Option.some.inj a;exact .inr af
  ·have p:l≠H.next:=by
    rintro rfl;have:=td c.live;omega
   rw[Env.hO p]at a;exact .inl ⟨l,d,c,a,u⟩
def rR(p:Rel ρ H w)(d:ρ H.next=C){ot:Option TypeId}{esz:Nat}{els:List (List aa)}(hlen:∀e∈els,e.length=esz)(s:∀e∈els,∀v∈e,v.one=X)
  {xs tail:List Value} (y:bw ρ els.flatten xs) (t:TypeId) (u:∀a,ot=D a->a=t):
  Step ρ H w (ρ.eA H.next ⟨w.heap.size,0,esz,xs.length+tail.length⟩) (H.push (dG ot esz els)) (w.alloc (.cells (xs++tail).toArray t)):=by
 have key:mc (ρ.eA H.next ⟨w.heap.size,0,esz,xs.length+tail.length⟩) (w.alloc (.cells (xs++tail).toArray t)) ⟨w.heap.size,0,esz,xs.length+tail.length⟩ t esz els:=by
  refine⟨⟨rfl,_,t,(0,0),heap_alloc_new _ _,⟨by simp,λ_ o _=>by simp⟩,?_⟩,_,_,heap_alloc_new _ _,rfl⟩;intro i e he;refine⟨hlen e (List.mem_of_getElem? he),λj v k=> ?_⟩;refine⟨s e (List.mem_of_getElem? he) v (List.mem_of_getElem? k),?_⟩;obtain⟨x,c,z⟩:=y.get _ _ (vN hlen he k);refine⟨x,?_,z.mono (Env.rm d _)⟩;have q:i*esz+j<xs.length:=by
   rcases Nat.lt_or_ge (i*esz+j) xs.length with h|h
   ·exact h
   ·rw[List.getElem?_eq_none h]at c;cases c
  simp only[Nat.zero_add,List.getElem?_toArray];rw[List.getElem?_append_left q];exact c
 refine El p d _ (wS _ _ _) _ _ rfl ?_ (λes h=>(wR h).elim) ?_
 ·intro ro m l h;obtain⟨rfl,rfl,rfl,-⟩:=wT h;exact key.1
 ·intro a m l h;obtain⟨n,rfl,rfl⟩:=wU h;obtain rfl:=u a n;exact key
def tq:Value->Option aa
 | .bool b=>D (.bool b)
 | .int k n=>D (.int k n)
 | .string s=>D (.str s.data.toList)
 | .pointer C=>D .nilPtr
 | .slice C 0 0=>D .ar
 | .map C=>D .hV
 | .nilFunc=>D .nilFunc
 | .nilIface=>D .nilIface
 |_=>C
def rF:List Value->Option (List aa)
 |[]=>D []
 |v::r=>match tq v,rF r with
  |some a,D l=>D (a::l)
  |_,_=>C
def rH:Value->Option aa
 | .agg cs=>(rF cs.toList).map .agg
 |v=>tq v
def DN{v:Value}{a:aa}(h:tq v=D a)(ρ:Env):bg ρ a v/\a.one=true:=by
 unfold tq at h;split at h<;>first
  |(simp only[aV]at h;subst h;exact⟨by constructor,rfl⟩)
  |cases h
def DO:∀{c:List Value} {as:List aa},rF c=D as->∀ρ:Env,bw ρ as c/\∀a∈as,a.one=X
 |[],as,h,ρ=>by simp[rF]at h;subst h;exact⟨.nil,by simp⟩
 |v::r,as,h,ρ=>by
  unfold rF at h;split at h
  ·rename_i a l k m;simp only[aV]at h;subst h;obtain⟨d,e⟩:=DN k ρ;obtain⟨i,j⟩:=DO m ρ;exact⟨.cons _ _ _ _ d i,by simpa using⟨e,j⟩⟩
  ·cases h
def tr{v:Value}{a:aa}(h:rH v=D a)(ρ:Env):bg ρ a v:=by
 unfold rH at h;split at h
 ·simp only[Option.map_eq_some_iff]at h;obtain⟨l,c,rfl⟩:=h;have:=bg.agg _ _ (DO c ρ).1;simpa using this
 ·exact(DN h ρ).1
def eV(P:Program)(t:TypeId):Option aa:=(P.info? t).bind λi=>i.zero.bind rH
def mj{t:TypeId}{z:aa}(h:eV P t=D z)(w:World):∃x,(zeroValue t).run P w= .ok x w/\∀ρ:Env,bg ρ z x:=by
 unfold eV at h;simp only[cZ]at h;obtain⟨i,a,x,c,d⟩:=h;exact⟨x,by simp[zeroValue,typeInfo,a,c],λρ=>tr d ρ⟩
def pK(P:Program)(t:TypeId):Option TypeId:=match P.underlying t with
 |some (.struct a)=>(match a.toList with
  |[f]=>(match P.underlying f.type with
   |some (.struct gs)=>if gs.size=2 then D t else C
   |_=>C)
  |_=>C)
 |_=>C
def DI{P:Program}{t a:TypeId}(h:pK P t=D a):a=t:=by
 unfold pK at h;split at h
 ·split at h
  ·split at h
   ·split at h
    ·exact(Option.some.inj h).symm
    ·cases h
   ·cases h
  ·cases h
 ·cases h
def o9(ot:Option TypeId)(H:ad)(v:aa):Option (aa×ad):=
 if v.cells.all aa.one=X then D (.ptr H.next 0 0,H.push (dG ot v.cells.length [v.cells]))else C
def yE(i:Rel ρ H w)(k:ρ H.next=C){ot:Option TypeId}{v a:aa}{x:Value}{H':ad}(h:o9 ot H v=D (a,H'))(n:bg ρ v x)(t:TypeId)(m:∀c,ot=D c->c=t):
  ∃r d e,(Instr.box t x).run P w= .ok r d/\bg e a r/\Step ρ H w e H' d:=by
 unfold o9 at h;split at h
 ·rename_i l;simp only[aV,b4]at h;obtain⟨rfl,rfl⟩:=h;have j:=n.cells;have ax:=rR i k (ot:=ot) (esz:=v.cells.length) (els:=[v.cells]) (by simp) (by simpa using l) (xs:=x.cells.toList) (tail:=[]) (by simpa using j) t m;refine⟨.pointer (D ⟨w.heap.size,0,C⟩),_,_,?_,?_,ax⟩
  ·simp[Instr.box,newVar,newRow]
  ·simpa using bg.ptr (ρ:=ρ.eA H.next _) H.next 0 0 _ (Env.hv _ _ _)
 ·cases h
def sC(P:Program)(H:ad)(t:TypeId):Option (aa×ad):=(eV P t).bind (o9 (pK P t) H)
def Ht(k:Rel ρ H w)(l:ρ H.next=C){t:TypeId}{a:aa}{H':ad}(h:sC P H t=D (a,H')):
  ∃r c d,(Instr.alloc t X (.tuple #[])).run P w= .ok r c/\bg d a r/\Step ρ H w d H' c:=by
 unfold sC at h;simp only[cZ]at h;obtain⟨z,o,h⟩:=h;obtain⟨x,n,m⟩:=mj o w;obtain⟨r,c,d,e,i,j⟩:=yE (P:=P) k l h (m ρ) t λ_ h=>DI h
 refine⟨r,c,d,?_,i,j⟩;simp only[Instr.alloc,Sem.run_bind,n,Result.andThen_ok];simpa [Instr.box]using e
end
section
variable {P:Program}{ρ:Env}{H:ad}{w:World}
def pa(place:Nat->Option (Nat×Nat))(cells:List aa):List (Nat×aa)->Option (List aa)
 |[]=>D cells
 |(i,v)::rest=>
  match place i with
  |none=>C
  |some (off,size)=>if v.cells.length=size/\off+v.cells.length<=cells.length then pa place (cW cells off v.cells) rest else C
def vQ:∀(a:List Value) (k off:Nat) (c:Array Value),(a.zipIdx k).foldl (λcs (x:Value×Nat)=>cs.setIfInBounds (off+x.2) x.1) c=hW c (off+k) a
 |[],_,_,_=>rfl
 |v::r,k,off,c=>by
  simp only[List.zipIdx_cons,List.foldl_cons,hW];rw[vQ r (k+1) off];rfl
def FF{e:List aa}{xs:List Value}{c:Nat}{cs:List aa}{k:List Value}(he:bw ρ e xs)(n:bw ρ cs k)(h:c+cs.length<=e.length):
  bw ρ (cW e c cs) (hW xs.toArray c k).toList:=by
 have p:=he.length;have q:=n.length;refine bw.DV (by rw[FD h];simp[rS,p]) ?_;intro j v x d a;by_cases o:c<=j/\j<c+cs.length
 ·rw[FC h o.1 o.2]at d;obtain⟨i,m,l⟩:=n.get _ _ d;have:=tF k xs.toArray c (j-c) i m (by simp;omega);rw[show c+(j-c)=j by omega]at this;simp only[Array.getElem?_toList]at a;obtain rfl:x=i:=Option.some.inj (a.symm.trans this);exact l
 ·rw[FE h af]at d;obtain⟨i,m,l⟩:=he.get _ _ d;have:=pU k xs.toArray c j af;simp only[Array.getElem?_toList]at a;rw[this]at a;simp only[List.getElem?_toArray]at a;obtain rfl:x=i:=Option.some.inj (a.symm.trans m);exact l
def o4(ρ:Env):List (Nat×aa)->List (Nat×Value)->Prop
 |[],[]=>True
 |(i,v)::r,(j,x)::s=>i=j/\bg ρ v x/\o4 ρ r s
 |_,_=>False
def va(place:Nat->Option (Nat×Nat)):∀(parts:List (Nat×aa)) (n:List (Nat×Value)) (cells a:List aa) (xs:List Value),o4 ρ parts n->bw ρ cells xs->
  pa place cells parts=D a->∃e:List Value,Instr.fill place xs.toArray n=D e.toArray/\bw ρ a e
 |[],[],cells,a,xs,_,d,h=>by
  simp[pa]at h;subst h;exact⟨xs,rfl,d⟩
 |[],_::_,_,_,_,aI,_,_=>aI.elim
 |_::_,[],_,_,_,aI,_,_=>aI.elim
 |(i,v)::r,(j,x)::s,cells,a,xs,aI,d,h=>by
  obtain⟨rfl,u,aI⟩:=aI;unfold pa at h;unfold Instr.fill;cases l:place i with
  |none=>rw[l]at h;cases h
  |some os=>
   obtain⟨off,size⟩:=os;rw[l]at h;simp only at h;split at h
   ·rename_i k;have m:=u.cells;have w:=m.length;have y:=d.length;have q:x.cells.size=v.cells.length:=by rw[w];simp
    have ax:=FF d m (c:=off) k.2;obtain⟨e,o,p⟩:=va place r s _ a _ aI ax h;refine⟨e,?_,p⟩;simp only
    rw[if_neg (by simp[q,k.1];have:=k.2;omega)];have:=vQ x.cells.toList 0 off xs.toArray;rw[Nat.add_zero]at this;rw[<-Array.foldl_toList,Array.toList_zipIdx,this];simpa using o
   ·cases h
def qP(P:Program):List Field->Option (List (Nat×Nat))
 |[]=>D []
 |f::a=>match cB P f.type,qP P a with
  |some n,D l=>D ((f.offset,n)::l)
  |_,_=>C
def yN(w:World):∀(a:List Field) (l:List (Nat×Nat)),qP P a=D l->(a.mapM (λf=>(do pure (f.offset,<-sizeOf f.type):Sem (Nat×Nat)))).run P w= .ok l w
 |[],l,h=>by simp[qP]at h;subst h;simp[Sem.run_pure]
 |f::a,l,h=>by
  unfold qP at h;split at h
  ·rename_i n l' d c;simp only[aV]at h;subst h;have e:=yN w a l' c;rw[List.mapM_cons];simp only[Sem.run_bind,run_sizeOf d,Result.andThen_ok,Sem.run_pure,e]
  ·cases h
def cy(P:Program)(t:TypeId)(parts:List (Nat×aa)):Option aa:=
 match eV P t,P.underlying t with
 |some z,D (.struct a)=>(match qP P a.toList with|some pl=>(pa (pl[·]?) z.cells parts).map .agg|none=>C)
 |some z,D (.array _ e)=>(match cB P e with|some n=>(pa (λi=>D (i*n,n)) z.cells parts).map .agg|none=>C)
 |_,_=>C
def Hx{t:TypeId}{parts:List (Nat×aa)}{d:List (Nat×Value)}{v:aa}(h:cy P t parts=D v)(aI:o4 ρ parts d)(w:World):
  ∃x,(Instr.build t d.toArray).run P w= .ok x w/\bg ρ v x:=by
 unfold cy at h;split at h
 ·rename_i z p k hu;obtain⟨a,m,l⟩:=mj k w;split at h
  ·rename_i pl s;simp only[Option.map_eq_some_iff]at h;obtain⟨cs,j,rfl⟩:=h;obtain⟨o,c,i⟩:=va _ parts d z.cells cs a.cells.toList aI (l ρ).cells j;refine⟨.agg o.toArray,?_,.agg _ _ i⟩;have hm:=yN (P:=P) w p.toList pl s;have q:(p.mapM (λf=>(do pure (f.offset,<-sizeOf f.type):Sem (Nat×Nat)))).run P w= .ok pl.toArray w:=by
    rw[Array.mapM_eq_mapM_toList];simp only[Sem.run_map,hm,Result.andThen_ok]
   simp only[Instr.build,Sem.run_bind,m,Result.andThen_ok,run_underlying hu,q];have e:(λx:Nat=>(pl.toArray)[x]?)=(λx=>pl[x]?):=by funext x;simp
   simp only[e];have aE:a.cells.toList.toArray=a.cells:=by simp
   rw[aE]at c;simp[c]
  ·cases h
 ·rename_i z n e k hu;obtain⟨a,m,l⟩:=mj k w;split at h
  ·rename_i y u;simp only[Option.map_eq_some_iff]at h;obtain⟨cs,j,rfl⟩:=h;obtain⟨o,c,i⟩:=va _ parts d z.cells cs a.cells.toList aI (l ρ).cells j;refine⟨.agg o.toArray,?_,.agg _ _ i⟩;have aE:a.cells.toList.toArray=a.cells:=by simp
   rw[aE]at c;simp[Instr.build,m,run_underlying hu,run_sizeOf u,c]
  ·cases h
 ·cases h
def iV(esz:Nat):List (List aa)->List (Nat×aa)->Option (List (List aa))
 |els,[]=>D els
 |els,(i,v)::rest=>if v.cells.length=esz/\i<els.length/\v.cells.all aa.one=X then iV esz (els.set i v.cells) rest else C
def qM(P:Program)(H:ad)(t:TypeId)(len:Nat)(parts:List (Nat×aa)):Option (aa×ad):=
 match P.underlying t with
 |some (.slice e)=>
  (match cB P e,eV P e with
  |some a,D z=>
   if len*a<=16777216/\z.cells.length=a/\z.cells.all aa.one=X then
    (match iV a (List.replicate len z.cells) parts with
    |some els=>D (.aB H.next 0 len a (D len),H.push (.row U a els))
    |none=>C)
   else C
  |_,_=>C)
 |_=>C
def mu{esz:Nat}:∀{els:List (List aa)},(∀e∈els,e.length=esz)->els.flatten.length=els.length*esz
 |[],_=>by simp
 |d::els,h=>by
  have:=mu (els:=els) (λe he=>h e (List.mem_cons_of_mem _ he));simp only[List.flatten_cons,List.length_append,this,h d (by simp),List.length_cons,Nat.succ_mul];omega
def Ce{esz:Nat}:∀{els:List (List aa)} (i:Nat) (c:List aa),(∀e∈els,e.length=esz)->c.length=esz->i<els.length->(els.set i c).flatten=cW els.flatten (i*esz) c
 |[],_,_,_,_,h=>by simp at h
 |d::els,0,c,a,j,_=>by
  have k:=a d (by simp);simp[cW,j,<-k]
 |d::els,i+1,c,a,j,h=>by
  have k:=a d (by simp);have l:=Ce (els:=els) i c (λe he=>a e (List.mem_cons_of_mem _ he)) j (by simpa using h);simp only[List.set_cons_succ,List.flatten_cons,l];unfold cW;rw[Nat.succ_mul];have an:List.take (i*esz+esz) (d++els.flatten)=d++els.flatten.take (i*esz):=by
   rw[List.take_append,List.take_of_length_le af];congr 2;omega
  have aE:List.drop (i*esz+esz+c.length) (d++els.flatten)=els.flatten.drop (i*esz+c.length):=by
   rw[List.drop_append,List.drop_eq_nil_of_le af,List.nil_append];congr 1;omega
  rw[an,aE];simp
def yW(esz:Nat):∀(parts:List (Nat×aa)) (q:List (Nat×Value)) (els a:List (List aa)) (xs:List Value),o4 ρ parts q->(∀e∈els,e.length=esz)->(∀e∈els,∀v∈e,v.one=X)->
  bw ρ els.flatten xs->iV esz els parts=D a->
   (∃m:List Value,Instr.fill (λi=>D (i*esz,esz)) xs.toArray q=D m.toArray/\bw ρ a.flatten m)/\(∀e∈a,e.length=esz)/\(∀e∈a,∀v∈e,v.one=X)/\a.length=els.length
 |[],[],els,a,xs,_,d,n,l,h=>by
  simp[iV]at h;subst h;exact⟨⟨xs,rfl,l⟩,d,n,rfl⟩
 |[],_::_,_,_,_,aI,_,_,_,_=>aI.elim
 |_::_,[],_,_,_,aI,_,_,_,_=>aI.elim
 |(i,v)::r,(j,x)::s,els,a,xs,aI,d,n,l,h=>by
  obtain⟨rfl,E,aI⟩:=aI;unfold iV at h;split at h
  ·rename_i w;obtain⟨k,o,z⟩:=w;have A:∀u∈v.cells,u.one=true:=by simpa using z
   have p:=E.cells;have F:=p.length;have G:=l.length;have y:=mu d;have hle:i*esz+v.cells.length<=els.flatten.length:=by rw[y,k];exact rC o
   have ax:=FF l p (c:=i*esz) hle;rw[<-Ce i v.cells d k o]at ax;have g1:∀e∈els.set i v.cells,e.length=esz:=λe he=>by
    rcases List.mem_or_eq_of_mem_set he with h|rfl
    ·exact d e h
    ·exact k
   have g2:∀e∈els.set i v.cells,∀u∈e,u.one=true:=λe he=>by
    rcases List.mem_or_eq_of_mem_set he with h|rfl
    ·exact n e h
    ·exact A
   obtain⟨⟨m,an,aE⟩,bn,b8,dK⟩:=yW esz r s _ a _ aI g1 g2 ax h;refine⟨⟨m,?_,aE⟩,bn,b8,by simpa using dK⟩;unfold Instr.fill;have B:x.cells.size=v.cells.length:=by rw[F];simp
   simp only
   rw[if_neg (by simp[B,k];omega)];have:=vQ x.cells.toList 0 (i*esz) xs.toArray;rw[Nat.add_zero]at this;rw[<-Array.foldl_toList,Array.toList_zipIdx,this];simpa using an
  ·cases h
def He(z:Array Value)(n:Nat)(c:0<z.size):((Array.range (n*z.size)).map (z[· %z.size]!))=((List.replicate n z.toList).flatten).toArray:=by
 apply Array.ext';apply List.ext_getElem?;intro k;by_cases a:k<n*z.size
 ·have d:(Array.map (λx=>z[x%z.size]!) (Array.range (n*z.size))).toList[k]? =D z[k%z.size]! :=by
   simp[a]
  rw[d];symm;simp only
  have hdiv:k/z.size<n:=by rw[Nat.div_lt_iff_lt_mul c];exact a
  have e:k%z.size<z.size:=Nat.mod_lt _ c;have key:∀(n k:Nat),k<n*z.size->(List.replicate n z.toList).flatten[k]? =z.toList[k%z.size]? :=by
   intro n
   induction n with
   |zero=>intro k h;omega
   |succ n i=>
    intro k h;rw[List.replicate_succ,List.flatten_cons];by_cases a:k<z.size
    ·rw[List.getElem?_append_left (by simpa using a),Nat.mod_eq_of_lt a]
    ·rw[List.getElem?_append_right (by simpa using a)];have:=i (k-z.size) (by rw[Nat.succ_mul]at h;omega);simp only[Array.length_toList];rw[this,<-Nat.mod_eq_sub_mod af]
  rw[key n k a];simp[e]
 ·rw[List.getElem?_eq_none (by simp;omega),List.getElem?_eq_none (by simp;omega)]
def bw.vO{a:List aa}{xs:List Value}(h:bw ρ a xs):∀n,bw ρ (List.replicate n a).flatten (List.replicate n xs).flatten
 |0=>by simpa using bw.nil
 |n+1=>by simpa [List.replicate_succ]using h.append (bw.vO h n)
def Hw(A:Rel ρ H w)(F:ρ H.next=C){t:TypeId}{len:Nat}{parts:List (Nat×aa)}{l:List (Nat×Value)}{a:aa}{H':ad}(h:qM P H t len parts=D (a,H'))(aI:o4 ρ parts l):
  ∃r q v,(Instr.buildSlice t len l.toArray).run P w= .ok r q/\bg v a r/\Step ρ H w v H' q:=by
 unfold qM at h;split at h
 ·rename_i e hu;split at h
  ·rename_i c z O R;split at h
   ·rename_i B;obtain⟨hle,p,K⟩:=B;split at h
    ·rename_i els E;simp only[aV,b4]at h;obtain⟨rfl,rfl⟩:=h;obtain⟨d,T,S⟩:=mj R w;have L:∀u∈z.cells,u.one=true:=by simpa using K
     have o:=(S ρ).cells;have j:d.cells.size=c:=by have:=o.length;rw[<-p,this];simp
     have N:=bw.vO o len;obtain⟨⟨s,k,m⟩,n,x,y⟩:=yW c parts l _ els _ aI (λe he=>by rw[List.eq_of_mem_replicate he];exact p)
      (λe he=>by rw[List.eq_of_mem_replicate he];exact L) N E
     have ax:=rR A F (ot:=none) n x m (tail:=[]) e (λ_ h=>by cases h);have Q:s.length=len*c:=by
      rw[<-m.length,mu n,y];simp
     refine⟨.slice (D ⟨w.heap.size,0,C⟩) len len,_,_,?_,?_,ax⟩
     ·simp only[Instr.buildSlice,Sem.run_bind,run_underlying hu,Result.andThen_ok,run_sizeOf O];rw[if_neg (by show¬(len*c>2^24);omega)];by_cases i:len*c=0
      ·simp only[i,if_true,Sem.run_bind,Sem.run_pure,Result.andThen_ok];have G:(List.replicate len d.cells.toList).flatten=[]:=by
        have:((List.replicate len d.cells.toList).flatten).length=0:=by simp[j,i]
        exact List.eq_nil_of_length_eq_zero this
       rw[G]at k;have bt:Array.range 0= #[]:=rfl;simp[k,newRow,bt]
      ·simp only[i,if_false,Sem.run_bind,T,Result.andThen_ok,Sem.run_pure];have M:0<d.cells.size:=by
        rcases Nat.eq_zero_or_pos d.cells.size with h|h
        ·rw[j]at h;simp[h]at i
        ·exact h
       have:=He d.cells len M;rw[j]at this;simp only[j,this];simp[k,newRow]
     ·refine bg.aB (ρ:=ρ.eA H.next _) H.next 0 len (D len) ⟨w.heap.size,0,c,s.length+0⟩ _ len (Env.hv _ _ _) (bj _) (by simp) (λ_=>⟨by simp,?_⟩)
      simp[Q]
    ·cases h
   ·cases h
  ·cases h
 ·cases h

/-
  Texts of one proof, laid together: Hv0 Hv1 Hv2 Hv3 Hv4 Hv5 Hv6.
-/
import GoSem.Dispatch
import Derived.WalkKit
import Derived.Laws.IdiomCopy
set_option linter.unusedVariables false
set_option linter.unusedSimpArgs false
set_option linter.defProp false
open Option renaming some→D,none→Y
open Bool renaming true→V,false→U
namespace Go.cV
def bn{p:Prop}(h:p:=by omega):p:=h
def j{p:Prop}(h:p:=by kernel_rfl):p:=h
def asp{p:Prop}(h:p:=by decide):p:=h
def aQ{a b:Prop}(x:a)(y:b):a/\b:=⟨x,y⟩
def a7{α:Type}(a b:α):(D a=D b)=(a=b):=Option.some.injEq a b
def kh{α:Type}(a b:α):(bif V then a else b)=a:=rfl
def nM{α:Type}(a b:α):(bif U then a else b)=b:=rfl
def dG{α β:Type}{aA:Option α}{f:α->Option β}{b:β}:aA.bind f=D b↔∃a,aA=D a/\f a=D b:=Option.bind_eq_some_iff
def bI{α β:Type}(a:α)(b:β)(c:α)(d:β):((a,b)=(c,d))=(a=c/\b=d):=Prod.mk.injEq a b c d
def cW(n:Nat):n<=n:=Nat.le_refl n
inductive aa where
 |bool (b:Bool)
 |int (k:IntKind) (n:Int)
 |str (s:List UInt8)
 |ptr (l i c:Nat)
 |fC
 |ag (l i n esz:Nat) (cap:Option Nat)
 |ao
 |map (l:Nat)
 |h1
 |func (fn:Fn) (first captured:List aa)
 |nilFunc
 |iface (t:TypeId) (v:aa)
 |nilIface
 |agg (cs:List aa)
 |tuple (a:List aa)
instance:Inhabited aa:=⟨.tuple []⟩
inductive an where
 |row (ro:Bool) (esz:Nat) (els:List (List aa))
 |dp (t:TypeId) (esz:Nat) (els:List (List aa))
 |map (es:List (aa×aa))
 |dead
inductive jU where
 |d0|d1|d2|d3|d4|d5|d6|d7
inductive bf(α:Type) where
 |leaf
 |node (v:Option α) (a b c d e f g h:bf α)
def Dz(n:Nat):jU:=match n with
 |0=> .d0|1=> .d1|2=> .d2|3=> .d3|4=> .d4|5=> .d5|6=> .d6|_=> .d7
def P5{n m:Nat}(c:n<8)(hm:m<8)(h:Dz n=Dz m):n=m:=by
 have a:n=0\/n=1\/n=2\/n=3\/n=4\/n=5\/n=6\/n=7:=bn;have b:m=0\/m=1\/m=2\/m=3\/m=4\/m=5\/m=6\/m=7:=bn;rcases a with rfl|rfl|rfl|rfl|rfl|rfl|rfl|rfl<;>rcases b with rfl|rfl|rfl|rfl|rfl|rfl|rfl|rfl<;>first|rfl|cases h
def lU:Nat->Nat->List jU
 |0,_=>[]
 |_+1,0=>[]
 |f+1,k+1=>Dz (k%8)::lU f (k/8)
def path(k:Nat):List jU:=lU k k
def afK:∀(f g k j:Nat),k<=f->j<=g->lU f k=lU g j->k=j:=by
 intro f
 induction f with
 |zero=>
  intro g k j b a h;have:k=0:=bn;subst this;cases j with
  |zero=>rfl
  |succ j=>
   cases g with
   |zero=>omega
   |succ g=>simp[lU]at h
 |succ f c=>
  intro g k j b a h;cases k with
  |zero=>
   cases j with
   |zero=>rfl
   |succ j=>
    cases g with
    |zero=>omega
    |succ g=>simp[lU]at h
  |succ k=>
   cases j with
   |zero=>cases g<;>simp[lU]at h
   |succ j=>
    cases g with
    |zero=>omega
    |succ g=>
     simp only[lU,List.cons.injEq]at h;have d:=P5 (Nat.mod_lt _ bn) (Nat.mod_lt _ bn) h.1;have e:=c g (k/8) (j/8) bn bn h.2;omega
def NN{k j:Nat}(h:path k=path j):k=j:=afK k j k j (cW _) (cW _) h
def bf.im{α:Type}:List jU->bf α->Option α
 |[],.leaf=>Y
 |[],.node v _ _ _ _ _ _ _ _=>v
 |_::_,.leaf=>Y
 |d::p,.node _ a b c e f g h i=>match d with
  | .d0=>bf.im p a| .d1=>bf.im p b| .d2=>bf.im p c| .d3=>bf.im p e
  | .d4=>bf.im p f| .d5=>bf.im p g| .d6=>bf.im p h| .d7=>bf.im p i
def bf.dI{α:Type}(x:α):List jU->bf α->bf α
 |[],.leaf=> .node (D x) .leaf .leaf .leaf .leaf .leaf .leaf .leaf .leaf
 |[],.node _ a b c e f g h i=> .node (D x) a b c e f g h i
 |d::p,.leaf=>match d with
  | .d0=> .node Y (bf.dI x p .leaf) .leaf .leaf .leaf .leaf .leaf .leaf .leaf
  | .d1=> .node Y .leaf (bf.dI x p .leaf) .leaf .leaf .leaf .leaf .leaf .leaf
  | .d2=> .node Y .leaf .leaf (bf.dI x p .leaf) .leaf .leaf .leaf .leaf .leaf
  | .d3=> .node Y .leaf .leaf .leaf (bf.dI x p .leaf) .leaf .leaf .leaf .leaf
  | .d4=> .node Y .leaf .leaf .leaf .leaf (bf.dI x p .leaf) .leaf .leaf .leaf
  | .d5=> .node Y .leaf .leaf .leaf .leaf .leaf (bf.dI x p .leaf) .leaf .leaf
  | .d6=> .node Y .leaf .leaf .leaf .leaf .leaf .leaf (bf.dI x p .leaf) .leaf
  | .d7=> .node Y .leaf .leaf .leaf .leaf .leaf .leaf .leaf (bf.dI x p .leaf)
 |d::p,.node v a b c e f g h i=>match d with
  | .d0=> .node v (bf.dI x p a) b c e f g h i
  | .d1=> .node v a (bf.dI x p b) c e f g h i
  | .d2=> .node v a b (bf.dI x p c) e f g h i
  | .d3=> .node v a b c (bf.dI x p e) f g h i
  | .d4=> .node v a b c e (bf.dI x p f) g h i
  | .d5=> .node v a b c e f (bf.dI x p g) h i
  | .d6=> .node v a b c e f g (bf.dI x p h) i
  | .d7=> .node v a b c e f g h (bf.dI x p i)
def bf.xN{α:Type}(p:List jU):bf.im p (.leaf:bf α)=none:=by cases p<;>rfl
def bf.xO{α:Type}(x:α):∀(p:List jU) (t:bf α),bf.im p (bf.dI x p t)=D x
 |[],.leaf=>rfl
 |[],.node .. =>rfl
 |d::p,.leaf=>by cases d<;>exact bf.xO x p _
 |d::p,.node .. =>by cases d<;>exact bf.xO x p _
def bf.DM{α:Type}(x:α):∀(p q:List jU) (t:bf α),p≠q->bf.im q (bf.dI x p t)=bf.im q t
 |[],[],_,h=>absurd rfl h
 |[],e::q,.leaf,_=>by cases e<;>exact bf.xN q
 |[],e::q,.node ..,_=>rfl
 |d::p,[],.leaf,_=>by cases d<;>rfl
 |d::p,[],.node ..,_=>by cases d<;>rfl
 |d::p,e::q,.leaf,h=>by
  cases d<;>cases e<;>first
   |exact bf.xN q
   |(show bf.im q (bf.dI x p .leaf)=Y
     rw[bf.DM x p q .leaf (λa=>h (by rw[a]))];exact bf.xN q)
 |d::p,e::q,.node ..,h=>by
  cases d<;>cases e<;>first
   |rfl
   |exact bf.DM x p q _ (λa=>h (by rw[a]))
def bf.get{α:Type}(t:bf α)(k:Nat):Option α:=bf.im (path k) t
def bf.put{α:Type}(x:α)(_:Nat)(t:bf α)(k:Nat):bf α:=bf.dI x (path k) t
def bf.nS{α:Type}(k:Nat):(bf.leaf:bf α).get k=none:=bf.xN _
def bf.qg{α:Type}(x:α):∀(f:Nat) (t:bf α) (k:Nat),k<f->(bf.put x f t k).get k=D x:=λ_ t k _=>bf.xO x (path k) t
def bf.nU{α:Type}(x:α):∀(f:Nat) (t:bf α) (k j:Nat),k≠j->(bf.put x f t k).get j=t.get j:=λ_ t _ _ h=>bf.DM x _ _ t (λe=>h (NN e))
structure af where
 t:bf an
 next:Nat
def af.get(H:af)(l:Nat):Option an:=if l<H.next then H.t.get l else Y
def af.set(H:af)(l:Nat)(b:an):af:={H with t:=bf.put b (l+1) H.t l}
def af.push(H:af)(b:an):af:={t:=bf.put b (H.next+1) H.t H.next,next:=H.next+1}
def af.empty:af:=⟨.leaf,0⟩
@[simp] theorem af.zj(H:af)(l:Nat)(b:an):(H.set l b).next=H.next:=rfl
@[simp] theorem af.jP(H:af)(b:an):(H.push b).next=H.next+1:=rfl
def af.iT{H:af}{l:Nat}{b:an}(h:H.get l=D b):l<H.next:=by
 unfold af.get at h;split at h
 ·assumption
 ·cases h
def af.iJ{H:af}{l:Nat}{b:an}(h:l<H.next):(H.set l b).get l=D b:=by
 show(if l<H.next then(bf.put b (l+1) H.t l).get l else Y)=D b;rw[if_pos h];exact bf.qg b _ _ _ bn
def af.gm{H:af}{l j:Nat}{b:an}(h:l≠j):(H.set l b).get j=H.get j:=by
 show(if j<H.next then(bf.put b (l+1) H.t l).get j else Y)=(if j<H.next then H.t.get j else Y);rw[bf.nU b _ _ _ _ h]
def af.hv(H:af)(b:an):(H.push b).get H.next=D b:=by
 show(if H.next<H.next+1 then(bf.put b (H.next+1) H.t H.next).get H.next else Y)=D b;rw[if_pos bn];exact bf.qg b _ _ _ bn
def af.fL{H:af}{j:Nat}{b:an}(h:j≠H.next):(H.push b).get j=H.get j:=by
 show(if j<H.next+1 then(bf.put b (H.next+1) H.t H.next).get j else Y)=(if j<H.next then H.t.get j else Y);by_cases a:j<H.next
 ·rw[if_pos bn,if_pos a,bf.nU b _ _ _ _ bn]
 ·rw[if_neg bn,if_neg a]
section
structure Loc where
 block:Nat
 off:Nat
 esz:Nat
 size:Nat
def Env:Type:=Nat->Option Loc
def Env.le(ρ a:Env):Prop:=∀l loc,ρ l=D loc->a l=D loc
def Env.le_refl(ρ:Env):ρ.le ρ:=λ_ _ h=>h
def Env.le_trans{ρ a b:Env}(h:ρ.le a)(bA:a.le b):ρ.le b:=λl loc e=>bA l loc (h l loc e)
mutual
inductive bb(ρ:Env):aa->Value->Prop where
 |bool (b:Bool):bb ρ (.bool b) (.bool b)
 |int (k:IntKind) (n:Int):bb ρ (.int k n) (.int k n)
 |str (s:List UInt8):bb ρ (.str s) (.string ⟨s.toArray⟩)
 |ptr (l i c:Nat) (loc:Loc) (h:ρ l=some loc):bb ρ (.ptr l i c) (.pointer (some ⟨loc.block,loc.off+i*loc.esz+c,none⟩))
 |fC:bb ρ .fC (.pointer none)
 |ag (l i n:Nat) (cap:Option Nat) (loc:Loc) (a:Addr) (c:Nat) (h:ρ l=some loc) (o:n<=c) (g:∀k,cap=some k->c=k)
  (j:0<c->a=⟨loc.block,loc.off+i*loc.esz,none⟩/\loc.off+(i+c)*loc.esz<=loc.size):bb ρ (.ag l i n loc.esz cap) (.slice (some a) n c)
 |ao:bb ρ .ao (.slice none 0 0)
 |map (l:Nat) (loc:Loc) (h:ρ l=some loc):bb ρ (.map l) (.map (some loc.block))
 |h1:bb ρ .h1 (.map none)
 |func (fn:Fn) (f c:List aa) (e d:List Value) (m:bj ρ f e) (g:bj ρ c d):bb ρ (.func fn f c) (.func fn e.toArray d.toArray)
 |nilFunc:bb ρ .nilFunc .nilFunc
 |iface (t:TypeId) (v:aa) (x:Value) (h:bb ρ v x):bb ρ (.iface t v) (.iface t x)
 |nilIface:bb ρ .nilIface .nilIface
 |agg (cs:List aa) (xs:List Value) (h:bj ρ cs xs):bb ρ (.agg cs) (.agg xs.toArray)
 |tuple (cs:List aa) (xs:List Value) (h:bj ρ cs xs):bb ρ (.tuple cs) (.tuple xs.toArray)
inductive bj(ρ:Env):List aa->List Value->Prop where
  |nil:bj ρ [] []
  |cons (v:aa) (x:Value) (a:List aa) (xs:List Value) (h:bb ρ v x) (b:bj ρ a xs):bj ρ (v::a) (x::xs)
 end
mutual
def bb.mono{ρ e:Env}(hle:ρ.le e){v:aa}{x:Value}(h:bb ρ v x):bb e v x:=by
 cases h with
 |bool b=>exact .bool b
 |int k n=>exact .int k n
 |str s=>exact .str s
 |ptr l i c loc h=>exact .ptr l i c loc (hle _ _ h)
 |fC=>exact .fC
 |ag l i n cap loc a c h p d m=>exact .ag l i n cap loc a c (hle _ _ h) p d m
 |ao=>exact .ao
 |map l loc h=>exact .map l loc (hle _ _ h)
 |h1=>exact .h1
 |func fn f c j g o d=>exact .func fn f c j g (bj.mono hle o) (bj.mono hle d)
 |nilFunc=>exact .nilFunc
 |iface t v x h=>exact .iface t v x (bb.mono hle h)
 |nilIface=>exact .nilIface
 |agg cs xs h=>exact .agg cs xs (bj.mono hle h)
 |tuple cs xs h=>exact .tuple cs xs (bj.mono hle h)
def bj.mono{ρ a:Env}(hle:ρ.le a){v:List aa}{x:List Value}(h:bj ρ v x):bj a v x:=by
  cases h with
  |nil=>exact .nil
  |cons v x c xs h b=>exact .cons v x c xs (bb.mono hle h) (bj.mono hle b)
 end
def bj.length{ρ:Env}:∀{a:List aa} {xs:List Value},bj ρ a xs->a.length=xs.length
 |[],_,h=>by cases h;rfl
 |_::_,_,h=>by cases h with|cons _ _ _ _ _ b=>simp[bj.length b]
def bj.get{ρ:Env}:∀{b:List aa} {xs:List Value},bj ρ b xs->∀(j:Nat) (v:aa),b[j]? =D v->∃x,xs[j]? =D x/\bb ρ v x
 |[],_,h,j,v,a=>by simp at a
 |w::b,_,h,j,v,a=>by
  cases h with
  |cons _ x _ xs c d=>
   cases j with
   |zero=>simp at a;subst a;exact⟨x,rfl,c⟩
   |succ j=>simpa using bj.get d j v (by simpa using a)
def bj.append{ρ:Env}:∀{b us:List aa} {xs c:List Value},bj ρ b xs->bj ρ us c->bj ρ (b++us) (xs++c)
 |[],_,_,_,h,bA=>by cases h;exact bA
 |_::_,_,_,_,h,bA=>by cases h with|cons _ _ _ _ a as=>exact .cons _ _ _ _ a (bj.append as bA)
def bj.Nv{ρ:Env}:∀{c:List aa} {xs:List Value},c.length=xs.length->(∀(j:Nat) (v:aa) (x:Value),c[j]? =D v->xs[j]? =D x->bb ρ v x)->bj ρ c xs
 |[],[],_,_=> .nil
 |[],_::_,h,_=>by simp at h
 |_::_,[],h,_=>by simp at h
 |v::c,x::xs,h,d=> .cons _ _ _ _ (d 0 v x rfl rfl) (bj.Nv (by simpa using h) λj a b e f=>d (j+1) a b (by simpa using e) (by simpa using f))
def bj.set{ρ:Env}{v:aa}{x:Value}(h:bb ρ v x):∀{c:List aa} {xs:List Value} (j:Nat),bj ρ c xs->bj ρ (c.set j v) (xs.set j x)
 |[],_,_,b=>by cases b;exact .nil
 |_::_,_,0,b=>by cases b with|cons _ _ _ _ a as=>exact .cons _ _ _ _ h as
 |_::_,_,j+1,b=>by cases b with|cons _ _ _ _ a as=>exact .cons _ _ _ _ a (bj.set h j as)
def aa.one:aa->Bool
 | .agg _| .tuple _=>U
 |_=>V
def aa.cells:aa->List aa
 | .agg cs=>cs
 |v=>[v]
def bb.E_{ρ:Env}{v:aa}{x:Value}(h:bb ρ v x)(a:v.one=V):x.oneCell'=true:=by
 cases h<;>first|rfl|cases a
def bb.cells{ρ:Env}{v:aa}{x:Value}(h:bb ρ v x):bj ρ v.cells x.cells.toList:=by
 cases h with
 |agg cs xs h=>simpa [aa.cells,Value.cells]using h
 |bool b=>exact .cons _ _ _ _ (.bool b) .nil
 |int k n=>exact .cons _ _ _ _ (.int k n) .nil
 |str s=>exact .cons _ _ _ _ (.str s) .nil
 |ptr l i c loc h=>exact .cons _ _ _ _ (.ptr l i c loc h) .nil
 |fC=>exact .cons _ _ _ _ .fC .nil
 |ag l i n cap loc a c h o d j=>exact .cons _ _ _ _ (.ag l i n cap loc a c h o d j) .nil
 |ao=>exact .cons _ _ _ _ .ao .nil
 |map l loc h=>exact .cons _ _ _ _ (.map l loc h) .nil
 |h1=>exact .cons _ _ _ _ .h1 .nil
 |func fn f c g e m d=>exact .cons _ _ _ _ (.func fn f c g e m d) .nil
 |nilFunc=>exact .cons _ _ _ _ .nilFunc .nil
 |iface t v x h=>exact .cons _ _ _ _ (.iface t v x h) .nil
 |nilIface=>exact .cons _ _ _ _ .nilIface .nil
 |tuple cs xs h=>exact .cons _ _ _ _ (.tuple cs xs h) .nil
def fE(ρ:Env)(w:World)(loc:Loc)(ro:Bool)(esz:Nat)(els:List (List aa)):Prop:=loc.esz=esz/\∃c t a,w.heap[loc.block]? =D (.cells c t a)/\(loc.size=c.size/\(ro=U->∀aA,aA<c.size->¬(a.1<=aA/\aA<a.2)))/\ ∀(i:Nat) (e:List aa),els[i]? =D e->e.length=esz/\∀(j:Nat) (v:aa),e[j]? =D v->v.one=V/\∃x,c[loc.off+i*esz+j]? =D x/\bb ρ v x
def kX(ρ:Env)(w:World)(loc:Loc)(t:TypeId)(esz:Nat)(els:List (List aa)):Prop:=fE ρ w loc U esz els/\∃c a,w.heap[loc.block]? =D (.cells c t a)/\loc.off=0
def C5(ρ:Env)(w:World)(loc:Loc)(es:List (aa×aa)):Prop:=∃ents clock,w.heap[loc.block]? =D (.map ents clock)/\bj ρ (es.map (·.1)) (ents.toList.map (·.key))/\bj ρ (es.map (·.2)) (ents.toList.map (·.val))
def af.rw(H:af)(l:Nat):Prop:=(∃esz els,H.get l=D (.row U esz els))\/(∃es,H.get l=D (.map es))\/∃t esz els,H.get l=D (.dp t esz els)
def af.live(H:af)(l:Nat):Prop:=(∃ro esz els,H.get l=D (.row ro esz els))\/(∃es,H.get l=D (.map es))\/∃t esz els,H.get l=D (.dp t esz els)
def af.rw.live{H:af}{l:Nat}(h:H.rw l):H.live l:=by
 rcases h with⟨e,s,h⟩|h
 ·exact .inl ⟨_,e,s,h⟩
 ·exact .inr h
def an.qh:an->Bool
 | .row V _ _=>V
 |_=>U
def af.Fo{H:af}{l:Nat}{b:an}(c:b.qh=U):∀k esz els,(H.set l b).get k=D (.row V esz els)->H.get k=D (.row V esz els):=by
 intro k esz els h;by_cases a:l=k
 ·subst a;have d:l<H.next:=by have:=af.iT h;simpa using this
  rw[af.iJ d]at h;simp only[a7]at h;subst h;cases c
 ·rwa[af.gm a]at h
def af.Fm{H:af}{b:an}(c:b.qh=U):∀k esz els,(H.push b).get k=D (.row V esz els)->H.get k=D (.row V esz els):=by
 intro k esz els h;by_cases a:k=H.next
 ·subst a;rw[af.hv]at h;simp only[a7]at h;subst h;cases c
 ·rwa[af.fL a]at h
structure Rel(ρ:Env)(H:af)(w:World):Prop where
 row:∀l ro esz els,H.get l=some (.row ro esz els)->∃loc,ρ l=some loc/\fE ρ w loc ro esz els
 map:∀l es,H.get l=some (.map es)->∃loc,ρ l=some loc/\C5 ρ w loc es
 dp:∀l t esz els,H.get l=some (.dp t esz els)->∃loc,ρ l=some loc/\kX ρ w loc t esz els
 apart:∀l a loc b,H.rw l->H.live a->l≠a->ρ l=some loc->ρ a=some b->loc.block≠b.block
def hA(ρ:Env)(H:af)(b:Nat):Prop:=∃l loc,H.rw l/\ρ l=D loc/\loc.block=b
structure Step(ρ:Env)(H:af)(w:World)(c:Env)(H':af)(a:World):Prop where
 le:ρ.le c
 next:H.next<=H'.next
 hp:∀l,l<H.next\/H'.next<=l->c l=ρ l
 rel:Rel c H' a
 os:a.os=w.os
 tape:a.tape=w.tape
 output:a.output=w.output
 size:w.heap.size<=a.heap.size
 frame:∀b,b<w.heap.size->¬hA ρ H b->a.heap[b]? =w.heap[b]?
 own:∀b,hA c H' b->hA ρ H b\/w.heap.size<=b
 ro:∀l esz els,H'.get l=some (.row true esz els)->H.get l=some (.row true esz els)
def Step.refl{ρ:Env}{H:af}{w:World}(h:Rel ρ H w):Step ρ H w ρ H w:=
 ⟨ρ.le_refl,cW _,λ_ _=>rfl,h,rfl,rfl,rfl,cW _,λ_ _ _=>rfl,λ_ h=> .inl h,λ_ _ _ h=>h⟩
def Step.trans{ρ n o:Env}{H d f:af}{w j m:World}(h:Step ρ H w n d j)(k:Step n d j o f m):Step ρ H w o f m where
 le:=Env.le_trans h.le k.le
 next:=Nat.le_trans h.next k.next
 hp:=λl g=>(k.hp l (g.imp (λx=>Nat.lt_of_lt_of_le x h.next) id)).trans (h.hp l (g.imp id (λx=>Nat.le_trans k.next x)))
 ro:=λl esz els e=>h.ro l esz els (k.ro l esz els e)
 rel:=k.rel
 os:=k.os.trans h.os
 tape:=k.tape.trans h.tape
 output:=k.output.trans h.output
 size:=Nat.le_trans h.size k.size
 frame:=λb a i=>by
  rw[k.frame b (Nat.lt_of_lt_of_le a h.size) (λc=>(h.own b c).elim i (λhle=>bn)),h.frame b a i]
 own:=λb a=>(k.own b a).elim (λc=>h.own b c) (λhle=> .inr (Nat.le_trans h.size hle))
def Iw(ρ:Env)(n m:Nat):Prop:=∀l,n<=l->l<m->ρ l=Y
structure hE(E ρ:Env)(n m:Nat):Prop where
 new:Iw ρ n m
 le:E.le ρ
def hE.left{E ρ:Env}{n m k:Nat}(h:hE E ρ n k)(hm:m<=k):hE E ρ n m:=⟨λl a b=>h.new l a bn,h.le⟩
def hE.after{E ρ d:Env}{H c:af}{w e:World}{k:Nat}(h:hE E ρ H.next k)(s:Step ρ H w d c e):hE E d c.next k:=⟨λl a b=>by
 rw[s.hp l (.inr a)];exact h.new l (Nat.le_trans s.next a) b,Env.le_trans h.le s.le⟩
def Rel.drew{ρ:Env}{H:af}{w:World}(h:Rel ρ H w):Rel ρ H w.drew:=⟨h.row,h.map,h.dp,h.apart⟩
end
def ft(P:Program)(t:TypeId):Option Bool:=
 match P.underlying t with
 |some (.struct _)|some (.array _ _)=>D V
 |some _=>D U
 |none=>Y
def cT(P:Program)(t:TypeId):Option Nat:=(P.info? t).map (·.size)
def zz{P:Program}{t:TypeId}{b:Bool}(h:ft P t=D b)(w:World):(isAgg t).run P w= .ok b w:=by
 unfold ft at h;unfold isAgg;cases hu:P.underlying t with
 |none=>rw[hu]at h;cases h
 |some d=>
  rw[hu]at h;simp only[Sem.run_bind,run_underlying hu,Result.andThen_ok];cases d<;>simp_all
def run_sizeOf{P:Program}{t:TypeId}{n:Nat}(h:cT P t=D n)(w:World):(sizeOf t).run P w= .ok n w:=by
 unfold cT at h;cases a:P.info? t with
 |none=>rw[a]at h;cases h
 |some i=>rw[a]at h;simp at h;simp[sizeOf,typeInfo,a,h]
def apart(P:Program)(t:TypeId)(cs:List aa)(off:Nat):Option aa:=
 match ft P t with
 |some V=>(match cT P t with|some n=>D (.agg ((cs.drop off).take n))|none=>Y)
 |some U=>cs[off]?
 |none=>Y
def bj.drop{ρ:Env}:∀{b:List aa} {xs:List Value} (n:Nat),bj ρ b xs->bj ρ (b.drop n) (xs.drop n)
 |_,_,0,h=>by simpa using h
 |[],_,n+1,h=>by cases h;simpa using bj.nil
 |_::_,_,n+1,h=>by cases h with|cons _ _ _ _ a as=>simpa using bj.drop n as
def bj.take{ρ:Env}:∀{b:List aa} {xs:List Value} (n:Nat),bj ρ b xs->bj ρ (b.take n) (xs.take n)
 |_,_,0,h=>by simpa using bj.nil
 |[],_,n+1,h=>by cases h;simpa using bj.nil
 |_::_,_,n+1,h=>by cases h with|cons _ _ _ _ a as=>simpa using bj.cons _ _ _ _ a (bj.take n as)
def k0{P:Program}{t:TypeId}{cs:List aa}{off:Nat}{v:aa}{ρ:Env}{xs:List Value}(h:apart P t cs off=D v)(b:bj ρ cs xs)(w:World):
  ∃x,(part t xs.toArray off).run P w= .ok x w/\bb ρ v x:=by
 unfold apart at h;split at h
 ·rename_i a;split at h
  ·rename_i n c;simp at h;subst h;refine⟨.agg (((xs.drop off).take n).toArray),?_,.agg _ _ ((b.drop off).take n)⟩;unfold part;simp only[Sem.run_bind,zz a,Result.andThen_ok,if_true,run_sizeOf c];simp[List.extract_toArray,List.extract_eq_take_drop]
  ·cases h
 ·rename_i a;obtain⟨x,e,d⟩:=b.get off v h;refine⟨x,?_,d⟩;unfold part;simp[zz a,e]
 ·cases h
def iV(op:BinOp)(k:IntKind)(a b:Int):Option aa:=
 match op with
 | .add=>D (.int k (k.wrap (a+b)))
 | .sub=>D (.int k (k.wrap (a-b)))
 | .mul=>D (.int k (k.wrap (a*b)))
 | .quo=>if b=0 then Y else D (.int k (k.wrap (a.tdiv b)))
 | .rem=>if b=0 then Y else D (.int k (a.tmod b))
 | .and=>D (.int k (k.wrap ((BitVec.ofInt k.bits a&&&BitVec.ofInt k.bits b).toNat:Int)))
 | .or=>D (.int k (k.wrap ((BitVec.ofInt k.bits a|||BitVec.ofInt k.bits b).toNat:Int)))
 | .xor=>D (.int k (k.wrap ((BitVec.ofInt k.bits a^^^BitVec.ofInt k.bits b).toNat:Int)))
 | .andNot=>D (.int k (k.wrap ((BitVec.ofInt k.bits a&&& ~~~BitVec.ofInt k.bits b).toNat:Int)))
 | .eql=>D (.bool (a==b))
 | .neq=>D (.bool (a != b))
 | .lss=>D (.bool (decide (a<b)))
 | .leq=>D (.bool (decide (a<=b)))
 | .gtr=>D (.bool (decide (b<a)))
 | .geq=>D (.bool (decide (b<=a)))
 | .shl| .shr=>Y
def nV(op:BinOp)(k:IntKind)(a b:Int):Option aa:=
 if b<0 then Y else
 match op with
 | .shl=>D (.int k (k.wrap (a*2^(min b.toNat k.bits))))
 | .shr=>D (.int k (a.fdiv (2^(min b.toNat k.bits))))
 |_=>Y
def CW(op:BinOp)(a b:List UInt8):Option aa:=
 match op with
 | .add=>if a.length+b.length<=9223372036854775807 then D (.str (a++b))else Y
 | .eql=>D (.bool (a==b))
 | .neq=>D (.bool (!(a==b)))
 | .lss=>D (.bool (Op.bytesLess a b))
 | .leq=>D (.bool (Op.bytesLess a b||a==b))
 | .gtr=>D (.bool (!(Op.bytesLess a b||a==b)))
 | .geq=>D (.bool (!Op.bytesLess a b))
 |_=>Y
def nB(P:Program)(eq:TypeId->aa->aa->Option Bool):List Field->List aa->List aa->Option Bool
 |[],_,_=>D V
 |f::d,xs,c=>
  if f.name≠ "_" then
   match apart P f.type xs f.offset,apart P f.type c f.offset with
   |some a,D b=>(match eq f.type a b with|some V=>nB P eq d xs c|some U=>D U|none=>Y)
   |_,_=>Y
  else nB P eq d xs c
def p5(P:Program)(eq:TypeId->aa->aa->Option Bool)(e:TypeId)(n:Nat):Nat->Nat->List aa->List aa->Option Bool
 |0,_,_,_=>D V
 |k+1,i,xs,c=>
  match apart P e xs (i*n),apart P e c (i*n)with
  |some a,D b=>(match eq e a b with|some V=>p5 P eq e n k (i+1) xs c|some U=>D U|none=>Y)
  |_,_=>Y
def jE(P:Program):Nat->TypeId->aa->aa->Option Bool
 |0,_,_,_=>Y
 |d+1,t,x,y=>
  match P.underlying t,x,y with
  |some .bool,.bool a,.bool b=>D (a==b)
  |some (.int _),.int k a,.int g b=>if k=g then D (a==b)else Y
  |some .string,.str a,.str b=>D (a==b)
  |some (.pointer _),.fC,.fC=>D V
  |some (.pointer _),.fC,.ptr .. =>D U
  |some (.pointer _),.ptr ..,.fC=>D U
  |some (.interface _),.nilIface,.nilIface=>D V
  |some (.interface _),.nilIface,.iface .. =>D U
  |some (.interface _),.iface ..,.nilIface=>D U
  |some (.struct f),.agg xs,.agg c=>if P.stoodInHeld t then Y else nB P (jE P d) f.toList xs c
  |some (.array len e),.agg xs,.agg c=>(match cT P e with|some n=>p5 P (jE P d) e n len 0 xs c|none=>Y)
  |some (.slice _),.ao,.ao=>D V
  |some (.slice _),.ao,.ag .. =>D U
  |some (.slice _),.ag ..,.ao=>D U
  |some (.map _ _),.h1,.h1=>D V
  |some (.map _ _),.h1,.map _=>D U
  |some (.map _ _),.map _,.h1=>D U
  |some (.func _ _ _),.nilFunc,.nilFunc=>D V
  |some (.func _ _ _),.nilFunc,.func .. =>D U
  |some (.func _ _ _),.func ..,.nilFunc=>D U
  |_,_,_=>Y
def isConst:Operand->Bool
 | .const _=>V
 |_=>U
def mH(P:Program)(t:TypeId)(x y:Operand)(a b:aa):Bool:=
 match a,b with
 | .nilIface,.nilIface=>isConst x||isConst y
 | .agg _,.agg _=> !P.eqGuardType P.depth t
 |_,_=>V
def p1(P:Program)(op:BinOp)(t:TypeId)(c d:Operand)(x y:aa):Option aa:=
 match x,y with
 | .int k a,.int e b=>
  (match op with
  | .shl=>nV .shl k a b
  | .shr=>nV .shr k a b
  |op=>if k=e then iV op k a b else Y)
 | .str a,.str b=>CW op a b
 |x,y=>
  (match op with
  | .eql=>if mH P t c d x y then(jE P 10000 t x y).map .bool else Y
  | .neq=>if mH P t c d x y then(jE P 10000 t x y).map λb=> .bool (!b)else Y
  |_=>Y)
def bu(op:UnOp)(x:aa):Option aa:=
 match op,x with
 | .neg,.int k n=>D (.int k (k.wrap (0-n)))
 | .not,.bool b=>D (.bool (!b))
 |_,_=>Y
end Go.cV
namespace Go
def Operand.xS:Operand->Bool
 | .const _=>V
 |_=>U
end Go
namespace Go.cV
section
variable {P:Program}{ρ:Env}
def Fp(w:World)(eq:TypeId->aa->aa->Option Bool)(g:TypeId->Value->Value->Sem Bool)
  (heq:∀t a b x y c,eq t a b=D c->bb ρ a x->bb ρ b y->(g t x y).run P w= .ok c w) {xs r:List aa} {q s:List Value} (j:bj ρ xs q) (k:bj ρ r s):
  ∀(d:List Field) (b:Bool),nB P eq d xs r=D b->
   (forIn d ((Y:Option Bool),()) (λf _=>
    (if f.name≠ "_" then do
     let a<-part f.type q.toArray f.offset
     let b<-part f.type s.toArray f.offset
     let c<-g f.type a b
     if(!c)=V then pure (ForInStep.done (D U,()))else pure (ForInStep.yield (Y,()))
    else pure (ForInStep.yield (Y,())):Sem (ForInStep (Option Bool×Unit))))).run P w= .ok (if b then(Y,())else(D U,())) w
 |[],b,h=>by
  simp[nB]at h;subst h;simp[Sem.run_pure]
 |f::d,b,h=>by
  unfold nB at h;rw[List.forIn_cons];by_cases e:f.name≠ "_"
  ·rw[if_pos e]at h;split at h
   ·rename_i a eG u v;obtain⟨x,o,m⟩:=k0 u j w;obtain⟨y,p,n⟩:=k0 v k w;split at h
    ·rename_i he;have i:=heq _ _ _ _ _ _ he m n;have l:=Fp w eq g heq j k d b h;simp only[if_pos e,Sem.run_bind,o,p,i,Result.andThen_ok,Bool.not_true,Bool.false_eq_true,if_false,Sem.run_pure];exact l
    ·rename_i he;have i:=heq _ _ _ _ _ _ he m n;simp at h;subst h;simp only[if_pos e,Sem.run_bind,o,p,i,Result.andThen_ok,Bool.not_false,if_true,Sem.run_pure];rfl
    ·cases h
   ·cases h
  ·rw[if_neg e]at h;have l:=Fp w eq g heq j k d b h;simp only[if_neg e,Sem.run_bind,Sem.run_pure,Result.andThen_ok];exact l
def N4(w:World)(e:TypeId)(n:Nat)(eq:TypeId->aa->aa->Option Bool)(d:TypeId->Value->Value->Sem Bool)
  (heq:∀t a b x y c,eq t a b=D c->bb ρ a x->bb ρ b y->(d t x y).run P w= .ok c w) {xs r:List aa} {q s:List Value} (l:bj ρ xs q) (o:bj ρ r s):
  ∀(k i:Nat) (b:Bool),p5 P eq e n k i xs r=D b->
   (forIn (List.range' i k) ((Y:Option Bool),()) (λi _=>
    (do
     let a<-part e q.toArray (i*n)
     let b<-part e s.toArray (i*n)
     let c<-d e a b
     if(!c)=V then pure (ForInStep.done (D U,()))else pure (ForInStep.yield (Y,())):Sem (ForInStep (Option Bool×Unit))))).run P w= .ok (if b then(Y,())else(D U,())) w
 |0,i,b,h=>by
  simp[p5]at h;subst h;simp[Sem.run_pure]
 |k+1,i,b,h=>by
  unfold p5 at h;rw[List.range'_succ,List.forIn_cons];split at h
  ·rename_i a eG u v;obtain⟨x,m,g⟩:=k0 u l w;obtain⟨y,p,j⟩:=k0 v o w;split at h
   ·rename_i he;have f:=heq _ _ _ _ _ _ he g j;have z:=N4 w e n eq d heq l o k (i+1) b h;simp only[Sem.run_bind,m,p,f,Result.andThen_ok,Bool.not_true,Bool.false_eq_true,if_false,Sem.run_pure];exact z
   ·rename_i he;have f:=heq _ _ _ _ _ _ he g j;simp at h;subst h;simp only[Sem.run_bind,m,p,f,Result.andThen_ok,Bool.not_false,if_true,Sem.run_pure];rfl
   ·cases h
  ·cases h
def Ik(a b:List UInt8):((⟨a.toArray⟩:ByteArray)==⟨b.toArray⟩)=(a==b):=by
 have:((⟨a.toArray⟩:ByteArray)==⟨b.toArray⟩)=(a.toArray==b.toArray):=rfl;rw[this];simp
def qb(w:World):∀(d:Nat) (t:TypeId) (x y:aa) (g i:Value) (b:Bool),jE P d t x y=D b->bb ρ x g->bb ρ y i->
  (Op.equalIn d t g i).run P w= .ok b w
 |0,t,x,y,g,i,b,h,_,_=>by cases h
 |d+1,t,x,y,g,i,b,h,e,f=>by
  have l:=qb w d;unfold jE at h;unfold Op.equalIn;cases hu:P.underlying t with
  |none=>rw[hu]at h;cases h
  |some u=>
   rw[hu]at h;simp only[Sem.run_bind,run_underlying hu,Result.andThen_ok];split at h<;>(try (cases h;done))<;>(try simp only[a7]at*)<;>(try subst_vars)<;>(try (cases e;cases f;simp;done))
   ·cases e;cases f;split at h
    ·rename_i m;subst m;simp at h;subst h;simp
    ·cases h
   ·cases e;cases f;simp[Ik]
   ·cases e with|agg _ r e=>cases f with|agg _ s f=>
    split at h
    ·cases h
    ·rename_i o;have p:P.stoodInHeld t=false:=by simpa using o
     have:=Fp w (jE P d) (Op.equalIn d) (λt a b x y c he j k=>l t a b x y c he j k) e f _ b h;simp only[Sem.run_bind,run_program,Result.andThen_ok,p,Bool.false_eq_true,if_false];rw[<-Array.forIn_toList,this];cases b<;>simp
   ·cases e with|agg _ r e=>cases f with|agg _ s f=>
    split at h
    ·rename_i q n;have:=N4 w _ q (jE P d) (Op.equalIn d) (λt a b x y c he j k=>l t a b x y c he j k) e f _ _ b h;simp only[Sem.run_bind,run_sizeOf n,Result.andThen_ok];rw[Std.Legacy.Range.forIn_eq_forIn_range'];simp only[Std.Legacy.Range.size,Nat.sub_zero,Nat.add_sub_cancel,Nat.div_one]at this ⊢;rw[this];cases b<;>simp
    ·cases h
def RY{op:BinOp}{k:IntKind}{a b:Int}{v:aa}(h:iV op k a b=D v)(t:TypeId)(w:World):
  ∃r,(binOp op t (.int k a) (.int k b)).run P w= .ok r w/\bb ρ v r:=by
 unfold iV at h;cases op<;>simp only at h<;>(try (cases h;done))<;>(try (simp only[a7]at h;subst h))<;>
  (try (exact⟨_,by simp only[binOp,ne_eq,not_true_eq_false,if_false,Op.intArith,Op.intBits,Op.intCmp];exact Sem.run_pure ..,by first|exact .int _ _|exact .bool _⟩))
 ·split at h
  ·cases h
  ·rename_i c;simp only[a7]at h;subst h;exact⟨_,by simp only[binOp,ne_eq,not_true_eq_false,if_false,Op.intDiv,c];exact Sem.run_pure ..,.int _ _⟩
 ·split at h
  ·cases h
  ·rename_i c;simp only[a7]at h;subst h;exact⟨_,by simp only[binOp,ne_eq,not_true_eq_false,if_false,Op.intDiv,c];exact Sem.run_pure ..,.int _ _⟩
def Jl{op:BinOp}{k d:IntKind}{a b:Int}{v:aa}(h:nV op k a b=D v)(t:TypeId)(w:World):
  ∃r,(binOp op t (.int k a) (.int d b)).run P w= .ok r w/\bb ρ v r:=by
 unfold nV at h;split at h
 ·cases h
 ·rename_i c;cases op<;>simp only at h<;>(try (cases h;done))<;>simp only[a7]at h<;>subst h
  ·exact⟨_,by simp only[binOp,Op.shift,if_neg c];exact Sem.run_pure ..,.int _ _⟩
  ·exact⟨_,by simp only[binOp,Op.shift,if_neg c];exact Sem.run_pure ..,.int _ _⟩
def toList_mk(a:List UInt8):(⟨a.toArray⟩:ByteArray).toList=a:=by rw[ByteArray.toList_eq]
def acr(a b:List UInt8):(⟨a.toArray⟩++⟨b.toArray⟩:ByteArray)=⟨(a++b).toArray⟩:=by
 apply ByteArray.ext;simp
def aq9{op:BinOp}{a b:List UInt8}{v:aa}(h:CW op a b=D v)(t:TypeId)(w:World):
  ∃r,(binOp op t (.string ⟨a.toArray⟩) (.string ⟨b.toArray⟩)).run P w= .ok r w/\bb ρ v r:=by
 unfold CW at h;unfold binOp;cases op<;>simp only at h<;>(try (cases h;done))<;>(try (simp only[a7]at h;subst h))<;>
  (try (exact⟨_,by simp only[Op.stringOp,toList_mk];exact Sem.run_pure ..,.bool _⟩))
 split at h
 ·rename_i f;simp only[a7]at h;subst h;refine⟨.string ⟨(a++b).toArray⟩,?_,.str _⟩;simp only[Op.stringOp];rw[if_neg,acr]
  ·exact Sem.run_pure ..
  ·have e:IntKind.i64.max=9223372036854775807:=rfl;have c:(⟨a.toArray⟩:ByteArray).size=a.length:=by show a.toArray.size=_;simp
   have d:(⟨b.toArray⟩:ByteArray).size=b.length:=by show b.toArray.size=_;simp
   rw[e,c,d];omega
 ·cases h
def DB{op:BinOp}{t:TypeId}{a b:Operand}{x y:aa}{d e:Value}(h:mH P t a b x y=V)(g:bb ρ x d)(c:bb ρ y e)(w:World):
  (eqGuard op t a b d e).run P w= .ok () w:=by
 have f:a.xS||b.xS=V->(eqGuard op t a b .nilIface .nilIface).run P w= .ok () w:=by
  intro h;cases op<;>first
   |rfl
   |(cases a<;>cases b<;>first|rfl|(simp[Operand.xS]at h;done))
 cases g with
 |nilIface=>
  cases c with
  |nilIface=>
   refine f ?_;simp only[mH]at h;cases a<;>cases b<;>simp_all[isConst,Operand.xS]
  |_=>cases op<;>rfl
 |agg cs xs j=>
  cases c with
  |agg i l k=>
   simp only[mH,Bool.not_eq_true']at h;cases op<;>first|rfl|simp[eqGuard,h]
  |_=>cases op<;>rfl
 |_=>cases c<;>cases op<;>rfl
def binOp_eql{x y:aa}{c d:Value}(g:bb ρ x c)(h:bb ρ y d)(e:∀k a i b,x= .int k a->y= .int i b->False)(f:∀a b,x= .str a->y= .str b->False)(t:TypeId):
  binOp .eql t c d=(do pure (.bool (<-Op.equal t c d)))/\binOp .neq t c d=(do pure (.bool (!(<-Op.equal t c d)))):=by
 cases g<;>cases h<;>first
  |exact⟨rfl,rfl⟩
  |exact(e _ _ _ _ rfl rfl).elim
  |exact(f _ _ rfl rfl).elim
def OZ{op:BinOp}{t:TypeId}{i j:Operand}{x y v:aa}{f g:Value}(h:p1 P op t i j x y=D v)(c:bb ρ x f)(d:bb ρ y g)(w:World):
  ∃r,((do eqGuard op t i j f g;binOp op t f g:Sem Value)).run P w= .ok r w/\bb ρ v r:=by
 have s:∀k a e b,(eqGuard op t i j (.int k a) (.int e b)).run P w= .ok () w:=λk a e b=>DB (ρ:=ρ) (x:= .int k a) (y:= .int e b) rfl (.int _ _) (.int _ _) w
 have u:∀a b,(eqGuard op t i j (.string ⟨a⟩) (.string ⟨b⟩)).run P w= .ok () w:=λa b=>by
  unfold eqGuard;split<;>rfl
 unfold p1 at h;split at h
 ·cases c;cases d;rename_i k a e b;simp only[Sem.run_bind,s,Result.andThen_ok];split at h
  ·exact Jl h t w
  ·exact Jl h t w
  ·split at h
   ·rename_i z;subst z;exact RY h t w
   ·cases h
 ·cases c;cases d;simp only[Sem.run_bind,u,Result.andThen_ok];exact aq9 h t w
 ·rename_i A B;obtain⟨p,q⟩:=binOp_eql c d (λk a e b l m=>A _ _ _ _ l m) (λa b l m=>B _ _ l m) t;split at h
  ·split at h
   ·rename_i o;rw[Sem.run_bind,DB o c d w,Result.andThen_ok];simp only[Option.map_eq_some_iff]at h;obtain⟨b,n,rfl⟩:=h;have he:(Op.equal t f g).run P w= .ok b w:=qb (ρ:=ρ) w _ _ _ _ _ _ _ n c d;exact⟨.bool b,by rw[p,Sem.run_bind,he];rfl,.bool b⟩
   ·cases h
  ·split at h
   ·rename_i o;rw[Sem.run_bind,DB o c d w,Result.andThen_ok];simp only[Option.map_eq_some_iff]at h;obtain⟨b,n,rfl⟩:=h;have he:(Op.equal t f g).run P w= .ok b w:=qb (ρ:=ρ) w _ _ _ _ _ _ _ n c d;exact⟨.bool (!b),by rw[q,Sem.run_bind,he];rfl,.bool _⟩
   ·cases h
  ·cases h
def PI{op:UnOp}{x v:aa}{b:Value}(h:bu op x=D v)(a:bb ρ x b)(w:World):∃r,(Op.unary op b).run P w= .ok r w/\bb ρ v r:=by
 unfold bu at h;split at h
 ·cases a;simp only[a7]at h;subst h;exact⟨_,by simp only[Op.unary,Op.intArith];exact Sem.run_pure ..,.int _ _⟩
 ·cases a;simp only[a7]at h;subst h;exact⟨_,by simp only[Op.unary];exact Sem.run_pure ..,.bool _⟩
 ·cases h
end
section
variable {P:Program}{ρ:Env}{H:af}{w:World}
def h2(c:Array Value)(aA:Nat):List Value->Array Value
 |[]=>c
 |v::r=>h2 (c.setIfInBounds aA v) (aA+1) r
def q5:∀(a:List Value) (c:Array Value) (aA:Nat),(h2 c aA a).size=c.size
 |[],_,_=>rfl
 |v::r,c,aA=>by rw[h2,q5 r];simp
def oN:∀(a:List Value) (c:Array Value) (aA k:Nat),k<aA\/aA+a.length<=k->(h2 c aA a)[k]? =c[k]?
 |[],_,_,_,_=>rfl
 |v::r,c,aA,k,h=>by
  rw[h2,oN r _ _ _ (by simp at h;omega)];rw[Array.getElem?_setIfInBounds];have:¬aA=k:=by simp at h;omega
  simp[this]
def zu:∀(a:List Value) (c:Array Value) (aA j:Nat) (x:Value),a[j]? =D x->aA+j<c.size->(h2 c aA a)[aA+j]? =D x
 |[],_,_,_,_,h,_=>by simp at h
 |v::r,c,aA,0,x,h,b=>by
  simp at h;subst h;rw[h2,oN r _ _ _ bn,Array.getElem?_setIfInBounds];simp;omega
 |v::r,c,aA,j+1,x,h,b=>by
  rw[h2,show aA+(j+1)=aA+1+j by omega];exact zu r _ _ _ _ (by simpa using h) (by simp;omega)
def xq(b:Nat):∀(d:List Value) (aA:Nat) (w:World) (c:Array Value) (t:TypeId) (a:Nat×Nat),w.heap[b]? =D (.cells c t a)->
  (w.setCells b aA d).heap[b]? =D (.cells (h2 c aA d) t a)
 |[],_,_,_,_,_,h=>h
 |v::r,aA,w,c,t,a,h=>by
  rw[World.setCells,h2];refine xq b r (aA+1) _ _ t a ?_;simp[World.setCell,Array.getElem?_modify,h]
def j_(b:Nat):∀(a:List Value) (aA:Nat) (w:World) (k:Nat),k≠b->(w.setCells b aA a).heap[k]? =w.heap[k]?
 |[],_,_,_,_=>rfl
 |v::r,aA,w,k,h=>by
  rw[World.setCells,j_ b r _ _ _ h];simp[World.setCell,Array.getElem?_modify,Ne.symm h]
def Ie(b:Nat):∀(e:List Value) (aA:Nat) (w:World),(w.setCells b aA e).heap.size=w.heap.size/\(w.setCells b aA e).os=w.os/\(w.setCells b aA e).tape=w.tape/\(w.setCells b aA e).output=w.output
 |[],_,_=>⟨rfl,rfl,rfl,rfl⟩
 |v::r,aA,w=>by
  rw[World.setCells];obtain⟨a,b,c,d⟩:=Ie b r (aA+1) (w.setCell ⟨b,aA,Y⟩ v);exact⟨a.trans (by simp[World.setCell]),b,c,d⟩
def fE.cell{loc:Loc}{ro:Bool}{esz:Nat}{els:List (List aa)}(h:fE ρ w loc ro esz els){i:Nat}{e:List aa}(he:els[i]? =D e){j:Nat}{v:aa}(g:e[j]? =D v):
  ∃x,w.cell? ⟨loc.block,loc.off+i*loc.esz+j,Y⟩=D x/\bb ρ v x/\v.one=true:=by
 obtain⟨rfl,c,t,k,f,_,a⟩:=h;obtain⟨_,b⟩:=a i e he;obtain⟨d,x,b,a⟩:=b j v g;exact⟨x,by simp[World.cell?,f,b],a,d⟩
def ah(P:Program)(H:af)(t:TypeId)(a:aa):Option aa:=
 match a with
 | .ptr l i c=>
  (match H.get l with
  |some (.row _ esz els)=>
   (match els[i]?,ft P t with
   |some e,D U=>e[c]?
   |some e,D V=>(match cT P t with|some n=>if c+n<=esz then D (.agg ((e.drop c).take n))else Y|none=>Y)
   |_,_=>Y)
  |some (.dp _ esz els)=>
   (match els[i]?,ft P t with
   |some e,D U=>e[c]?
   |some e,D V=>(match cT P t with|some n=>if c+n<=esz then D (.agg ((e.drop c).take n))else Y|none=>Y)
   |_,_=>Y)
  |_=>Y)
 |_=>Y
def ke(b aA j:Nat):(⟨b,aA,Y⟩:Addr).add j=⟨b,aA+j,Y⟩:=by
 unfold Addr.add;split<;>simp_all
def IF{loc:Loc}{l i c:Nat}{ro:Bool}{esz:Nat}{els:List (List aa)}(F:ρ l=D loc)(o:fE ρ w loc ro esz els){t:TypeId}{v:aa}
 (h:(match els[i]?,ft P t with
  |some e,D U=>e[c]?
  |some e,D V=>(match cT P t with|some n=>if c+n<=esz then D (.agg ((e.drop c).take n))else Y|none=>Y)
  |_,_=>Y)=D v):
 ∃r,(Instr.loadAt t (.pointer (D ⟨loc.block,loc.off+i*loc.esz+c,Y⟩))).run P w= .ok r w/\bb ρ v r:=by
  split at h
  ·rename_i e he d;obtain⟨x,k,p,_⟩:=o.cell he h;refine⟨x,?_,p⟩;simp[Instr.loadAt,Instr.sureAddr,loadVar,zz d,run_load,k]
  ·rename_i e he d;split at h
   ·rename_i n q;split at h
    ·rename_i hle;simp only[a7]at h;subst h;have hlen:e.length=esz:=by obtain⟨_,B,G,C,_,_,z⟩:=o;exact(z i e he).1
     have hex:∃xs:List Value,xs.length=n/\bj ρ ((e.drop c).take n) xs/\∀j y,xs[j]? =D y->w.cell? ⟨loc.block,loc.off+i*loc.esz+c+j,Y⟩=D y:=by
      clear d q
      induction n with
      |zero=>exact⟨[],rfl,by simpa using bj.nil,λj y a=>by simp at a⟩
      |succ n A=>
       obtain⟨xs,b,f,g⟩:=A bn;have s:c+n<e.length:=bn;obtain⟨x,k,p,_⟩:=o.cell he (j:=c+n) (v:=e[c+n]) (by simp[s]);refine⟨xs++[x],by simp[b],?_,?_⟩
       ·rw[List.take_succ_eq_append_getElem (by simp;omega)];refine f.append (.cons _ _ _ _ ?_ .nil);simpa using p
       ·intro j y a;by_cases u:j<xs.length
        ·rw[List.getElem?_append_left u]at a;exact g j y a
        ·rw[List.getElem?_append_right bn]at a;have:j=n:=by
          by_cases E:j-xs.length=0
          ·omega
          ·obtain⟨m,hm⟩:∃m,j-xs.length=m+1:=⟨j-xs.length-1,bn⟩;rw[hm]at a;simp at a
         subst this;simp[b]at a;subst a;rw[<-k,Nat.add_assoc]
     obtain⟨xs,b,f,g⟩:=hex;refine⟨.agg xs.toArray,?_,.agg _ _ f⟩;have:=run_loadCells_list (P:=P) w ⟨loc.block,loc.off+i*loc.esz+c,Y⟩ xs (λj y a=>by rw[ke];exact g j y a);rw[b]at this;simp[Instr.loadAt,Instr.sureAddr,loadVar,zz d,run_sizeOf q,this]
    ·cases h
   ·cases h
  ·cases h
def Dd(j:Rel ρ H w){t:TypeId}{a v:aa}{x:Value}(h:ah P H t a=D v)(k:bb ρ a x):
  ∃r,(Instr.loadAt t x).run P w= .ok r w/\bb ρ v r:=by
 unfold ah at h;split at h
 ·rename_i l i c;cases k with|ptr _ _ _ loc b=>
  split at h
  ·rename_i ro esz els d;obtain⟨g,e,f⟩:=j.row _ _ _ _ d;obtain rfl:loc=g:=Option.some.inj (b.symm.trans e);exact IF b f h
  ·rename_i m esz els d;obtain⟨g,e,f,-⟩:=j.dp _ _ _ _ d;obtain rfl:loc=g:=Option.some.inj (b.symm.trans e);exact IF b f h
  ·cases h
 ·cases h
def eL(ot:Option TypeId)(esz:Nat)(els:List (List aa)):an:=match ot with
 |none=> .row U esz els
 |some t=> .dp t esz els
def Ez(ot:Option TypeId)(esz:Nat)(els:List (List aa)):(eL ot esz els).qh=false:=by cases ot<;>rfl
def EA{ot:Option TypeId}{esz b:Nat}{els a:List (List aa)}{ro:Bool}(h:eL ot esz els= .row ro b a):ro=U/\esz=b/\els=a/\ot=none:=by
 cases ot<;>cases h;exact⟨rfl,rfl,rfl,rfl⟩
def EB{ot:Option TypeId}{esz b:Nat}{els a:List (List aa)}{t:TypeId}(h:eL ot esz els= .dp t b a):ot=D t/\esz=b/\els=a:=by
 cases ot<;>cases h;exact⟨rfl,rfl,rfl⟩
def Ey{ot:Option TypeId}{esz:Nat}{els:List (List aa)}{es:List (aa×aa)}(h:eL ot esz els= .map es):False:=by cases ot<;>cases h
def mU{H:af}{l:Nat}{ot:Option TypeId}{esz:Nat}{els:List (List aa)}(h:H.get l=D (eL ot esz els)):H.rw l:=by
 cases ot with
 |none=>exact .inl ⟨_,_,h⟩
 |some t=>exact .inr (.inr ⟨_,_,_,h⟩)
def zi(d:Rel ρ H w){l:Nat}{ot:Option TypeId}{esz:Nat}{els:List (List aa)}(h:H.get l=D (eL ot esz els)):∃loc,ρ l=D loc/\fE ρ w loc U esz els/\∀t,ot=D t->∃c e,w.heap[loc.block]? =D (.cells c t e)/\loc.off=0:=by
 cases ot with
 |none=>obtain⟨loc,a,b⟩:=d.row _ _ _ _ h;exact⟨loc,a,b,λt h=>by cases h⟩
 |some t=>obtain⟨loc,a,b,c⟩:=d.dp _ _ _ _ h;exact⟨loc,a,b,λt h=>by cases h;exact c⟩
def fD(e:List aa)(c:Nat)(cs:List aa):List aa:=e.take c++cs++e.drop (c+cs.length)
def Oq{e:List aa}{c:Nat}{cs:List aa}(h:c+cs.length<=e.length):(fD e c cs).length=e.length:=by
 simp[fD];omega
def Oo{e:List aa}{c:Nat}{cs:List aa}(h:c+cs.length<=e.length){j:Nat}(a:c<=j)(b:j<c+cs.length):(fD e c cs)[j]? =cs[j-c]? :=by
 unfold fD;rw[List.append_assoc,List.getElem?_append_right (by simp;omega),List.getElem?_append_left (by simp;omega)]
 congr 1;simp;omega
def Ot{e:List aa}{c:Nat}{cs:List aa}(h:c+cs.length<=e.length){j:Nat}(a:j<c\/c+cs.length<=j):(fD e c cs)[j]? =e[j]? :=by
 unfold fD;rcases a with a|a
 ·rw[List.append_assoc,List.getElem?_append_left (by simp;omega),List.getElem?_take_of_lt a]
 ·rw[List.getElem?_append_right (by simp;omega),List.getElem?_drop]
  congr 1;simp;omega
def qM{a b n:Nat}(h:a<b):a*n+n<=b*n:=by
 have:=Nat.mul_le_mul_right n (Nat.succ_le_of_lt h);rw[Nat.succ_mul]at this;exact this
def OI(o:Rel ρ H w){ot:Option TypeId}{l esz:Nat}{els:List (List aa)}(q:H.get l=D (eL ot esz els)){loc:Loc}(u:ρ l=D loc){i:Nat}{e:List aa}(he:els[i]? =D e)
  {c:Nat} {cs:List aa} {xs:List Value} (aQ:c+cs.length<=esz) (r:∀v∈cs,v.one=V) (aj:bj ρ cs xs):
  Step ρ H w ρ (H.set l (eL ot esz (els.set i (fD e c cs)))) (w.setCells loc.block (loc.off+i*loc.esz+c) xs):=by
 have P:=af.iT q;obtain⟨f,g,⟨s,arr,t,E,G,aB,K⟩,aH⟩:=zi o q;obtain rfl:loc=f:=Option.some.inj (u.symm.trans g);have aA:=(K i e he).1;have aC:i<els.length:=by
  rcases Nat.lt_or_ge i els.length with h|h
  ·exact h
  ·rw[List.getElem?_eq_none h]at he;cases he
 have al:=aj.length;have Q:∀a f,H.live a->a≠l->ρ a=D f->f.block≠loc.block:=λa f h bA g heq=>
  o.apart l a loc f (mU q) h (Ne.symm bA) u g heq.symm
 have ai:∀a,(H.set l (eL ot esz (els.set i (fD e c cs)))).rw a->H.rw a:=by
  intro a h;by_cases d:l=a
  ·subst d;exact mU q
  ·simpa [af.rw,af.gm d]using h
 have aF:∀a,(H.set l (eL ot esz (els.set i (fD e c cs)))).live a->H.live a:=by
  intro a h;by_cases d:l=a
  ·subst d;exact(mU q).live
  ·simpa [af.live,af.gm d]using h
 obtain⟨s1,s2,pn,CS⟩:=Ie loc.block xs (loc.off+i*loc.esz+c) w;have ah:fE ρ (w.setCells loc.block (loc.off+i*loc.esz+c) xs) loc U esz (els.set i (fD e c cs))/\∃M E,(w.setCells loc.block (loc.off+i*loc.esz+c) xs).heap[loc.block]? =D (.cells M t E):= ?new;refine⟨ρ.le_refl,cW _,λ_ _=>rfl,⟨?_,?_,?_,?_⟩,s2,pn,CS,Nat.le_of_eq s1.symm,?_,?_,af.Fo (Ez _ _ _)⟩
 case new=>
  refine⟨⟨s,_,t,E,xq _ _ _ _ _ _ _ G,?_,?_⟩,_,E,xq _ _ _ _ _ _ _ G⟩
  ·rw[q5];exact aB
  ·intro am ab p;rw[List.getElem?_set]at p;by_cases O:i=am
   ·subst O;rw[if_pos rfl,if_pos aC]at p;simp only[a7]at p;subst p;have S:c+cs.length<=e.length:=bn;refine⟨by rw[Oq S];exact aA,?_⟩;intro j v k;by_cases ae:c<=j/\j<c+cs.length
    ·rw[Oo S ae.1 ae.2]at k;obtain⟨x,z,y⟩:=aj.get _ _ k;refine⟨r v (List.mem_of_getElem? k),x,?_,y⟩;have az:=(K i e he).2 j (e[j]'bn) (by simp);obtain⟨_,aU,ak,_⟩:=az;have aS:loc.off+i*esz+j<arr.size:=by
      rcases Nat.lt_or_ge (loc.off+i*esz+j) arr.size with h|h
      ·exact h
      ·rw[Array.getElem?_eq_none h]at ak;cases ak
     have:=zu xs arr (loc.off+i*loc.esz+c) (j-c) x z (by rw[s];omega);rw[show loc.off+i*esz+j=loc.off+i*loc.esz+c+(j-c) by rw[s];omega];exact this
    ·rw[Ot S bn]at k;obtain⟨L,x,z,y⟩:=(K i e he).2 j v k;refine⟨L,x,?_,y⟩;rw[oN _ _ _ _ (by rw[s,<-al];omega)];exact z
   ·rw[if_neg O]at p;obtain⟨a0,L⟩:=K am ab p;refine⟨a0,λj v k=> ?_⟩;obtain⟨ap,x,z,y⟩:=L j v k;refine⟨ap,x,?_,y⟩;have aR:j<esz:=by
     rcases Nat.lt_or_ge j ab.length with h|h
     ·omega
     ·rw[List.getElem?_eq_none h]at k;cases k
    rw[oN _ _ _ _ ?_]
    ·exact z
    ·rw[s,<-al];rcases Nat.lt_or_gt_of_ne O with h|h
     ·have:=qM (n:=esz) h;omega
     ·have:=qM (n:=esz) h;omega
 ·intro a aT av au h;by_cases d:l=a
  ·subst d;rw[af.iJ P]at h;obtain⟨rfl,rfl,rfl,-⟩:=EA (Option.some.inj h);exact⟨loc,u,ah.1⟩
  ·rw[af.gm d]at h;obtain⟨f,g,R⟩:=o.row _ _ _ _ h;refine⟨f,g,?_⟩;have m:=Q a f (.inl ⟨_,_,_,h⟩) (Ne.symm d) g;obtain⟨T,C,an,F,A,B,W⟩:=R;exact⟨T,C,an,F,by rw[j_ _ _ _ _ _ m];exact A,B,W⟩
 ·intro a es h;by_cases d:l=a
  ·subst d;rw[af.iJ P]at h;exact(Ey (Option.some.inj h)).elim
  ·rw[af.gm d]at h;obtain⟨f,g,R⟩:=o.map _ _ h;have m:=Q a f (.inr (.inl ⟨_,h⟩)) (Ne.symm d) g;obtain⟨ents,clock,A,B⟩:=R;exact⟨f,g,ents,clock,by rw[j_ _ _ _ _ _ m];exact A,B⟩
 ·intro a an av au h;by_cases d:l=a
  ·subst d;rw[af.iJ P]at h;obtain⟨ar,rfl,rfl⟩:=EB (Option.some.inj h);obtain⟨C,F,ad,ax⟩:=aH _ ar;rw[G]at ad;cases ad;obtain⟨cU,M,f1,aM⟩:=ah;exact⟨loc,u,cU,M,f1,aM,ax⟩
  ·rw[af.gm d]at h;obtain⟨f,g,⟨T,C,aP,F,A,B,W⟩,aq,aw,aN,aO⟩:=o.dp _ _ _ _ h;have m:=Q a f (.inr (.inr ⟨_,_,_,h⟩)) (Ne.symm d) g;exact⟨f,g,⟨T,C,aP,F,by rw[j_ _ _ _ _ _ m];exact A,B,W⟩,aq,aw,by rw[j_ _ _ _ _ _ m];exact aN,aO⟩
 ·intro aI aJ aK aL r N m aD aE;exact o.apart aI aJ aK aL (ai _ r) (aF _ N) m aD aE
 ·intro b G aG;refine j_ _ _ _ _ _ ?_;rintro rfl;exact aG ⟨l,loc,mU q,u,rfl⟩
 ·rintro b ⟨a,f,r,N,ay⟩;exact .inl ⟨a,f,ai _ r,N,ay⟩
def aC(P:Program)(H:af)(t:TypeId)(a v:aa):Option af:=
 match a with
 | .ptr l i c=>
  (match H.get l with
  |some (.row U esz els)=>
   (match els[i]? with
   |some e=>if cT P t=D v.cells.length/\c+v.cells.length<=esz/\v.cells.all aa.one=V then D (H.set l (.row U esz (els.set i (fD e c v.cells))))else Y
   |none=>Y)
  |some (.dp b esz els)=>
   (match els[i]? with
   |some e=>if cT P t=D v.cells.length/\c+v.cells.length<=esz/\v.cells.all aa.one=V then D (H.set l (.dp b esz (els.set i (fD e c v.cells))))else Y
   |none=>Y)
  |_=>Y)
 |_=>Y
def IT(d:Rel ρ H w){ot:Option TypeId}{l i c esz:Nat}{els:List (List aa)}(g:H.get l=D (eL ot esz els)){loc:Loc}(m:ρ l=D loc){e:List aa}(he:els[i]? =D e){t:TypeId}{v:aa}{y:Value}(M:bb ρ v y)
  (F:cT P t=D v.cells.length) (s:c+v.cells.length<=esz) (C:v.cells.all aa.one=V):
  ∃r,(Instr.storeAt t (.pointer (D ⟨loc.block,loc.off+i*loc.esz+c,Y⟩)) y).run P w= .ok () r/\Step ρ H w ρ (H.set l (eL ot esz (els.set i (fD e c v.cells)))) r:=by
 have n:∀u∈v.cells,u.one=true:=by simpa using C
 have b:=M.cells;refine⟨_,?_,OI d g m he s n b⟩;obtain⟨N,A,p,-⟩:=zi d g;obtain rfl:loc=N:=Option.some.inj (m.symm.trans A);have hlen:=b.length;have S:=p;obtain⟨x,arr,T,Q,f,z,o⟩:=p;have R:=(o i e he).1;have q:∀j,j<y.cells.toList.length->∃u,arr[loc.off+i*loc.esz+c+j]? =D u:=by
  intro j a;obtain⟨_,u,hu,_⟩:=(o i e he).2 (c+j) (e[c+j]'bn) (by simp);exact⟨u,by rw[x,Nat.add_assoc];exact hu⟩
 have E:=run_storeCells_cells (P:=P) loc.block (loc.off+i*loc.esz+c) y.cells.toList 0 w
  (λj a=>by obtain⟨u,hu⟩:=q j a;simp[World.cell?,f,hu])
  (λj a=>by
   obtain⟨u,hu⟩:=q j a;have B:loc.off+i*loc.esz+c+j<arr.size:=by
    rcases Nat.lt_or_ge (loc.off+i*loc.esz+c+j) arr.size with h|h
    ·exact h
    ·rw[Array.getElem?_eq_none h]at hu;cases hu
   have:=z.2 rfl _ B;simp only[World.frozen?,f,Nat.add_zero];simpa using this)
  (λu hu=>by
   obtain⟨j,a⟩:=List.getElem?_of_mem hu;have k:j<v.cells.length:=by
    rcases Nat.lt_or_ge j y.cells.toList.length with h|h
    ·omega
    ·rw[List.getElem?_eq_none h]at a;cases a
   obtain⟨O,K,L⟩:=b.get j _ (List.getElem?_eq_getElem k);obtain rfl:u=O:=Option.some.inj (a.symm.trans K);exact L.E_ (n _ (List.getElem_mem k)))
 have G:y.cells.size=v.cells.length:=by rw[hlen];simp
 simp only[Instr.storeAt,Instr.sureAddr,Sem.run_bind,Sem.run_pure,Result.andThen_ok,storeVar,run_sizeOf F,G,ne_eq,not_true_eq_false,if_false];simpa using E
def PG(k:Rel ρ H w){t:TypeId}{a v:aa}{x y:Value}{H':af}(h:aC P H t a v=D H')(p:bb ρ a x)(n:bb ρ v y):
  ∃o,(Instr.storeAt t x y).run P w= .ok () o/\Step ρ H w ρ H' o:=by
 unfold aC at h;split at h
 ·rename_i l i c;cases p with|ptr _ _ _ loc m=>
  split at h
  ·rename_i esz els f;split at h
   ·rename_i e he;split at h
    ·rename_i d;obtain⟨j,b,g⟩:=d;simp only[a7]at h;subst h;exact IT k (ot:=none) f m he n j b g
    ·cases h
   ·cases h
  ·rename_i q esz els f;split at h
   ·rename_i e he;split at h
    ·rename_i d;obtain⟨j,b,g⟩:=d;simp only[a7]at h;subst h;exact IT k (ot:=some q) f m he n j b g
    ·cases h
   ·cases h
  ·cases h
 ·cases h
end
def Env.eC(ρ:Env)(l:Nat)(loc:Loc):Env:=λk=>if k=l then D loc else ρ k
def Env.fQ(ρ:Env)(l:Nat)(loc:Loc):ρ.eC l loc l=D loc:=by simp[Env.eC]
def Env.gj{ρ:Env}{l k:Nat}{loc:Loc}(h:k≠l):ρ.eC l loc k=ρ k:=by simp[Env.eC,h]
def Env.oI{ρ:Env}{l:Nat}(h:ρ l=Y)(loc:Loc):ρ.le (ρ.eC l loc):=by
 intro k x a;by_cases e:k=l
 ·subst e;rw[h]at a;cases a
 ·rw[Env.gj e];exact a
section
variable {P:Program}{ρ:Env}{H:af}{w:World}
def heap_alloc_old(w:World)(aA:Obj){k:Nat}(h:k<w.heap.size):(w.alloc aA).heap[k]? =w.heap[k]? :=by
 show(w.heap.push aA)[k]? =_;rw[Array.getElem?_push,if_neg bn]
def heap_alloc_new(w:World)(aA:Obj):(w.alloc aA).heap[w.heap.size]? =D aA:=by
 show(w.heap.push aA)[w.heap.size]? =_;simp
def RC(w:World)(aA:Obj):(w.alloc aA).heap.size=w.heap.size+1:=by
 show(w.heap.push aA).size=_;simp
def iU{w:World}{k:Nat}{aA:Obj}(h:w.heap[k]? =D aA):k<w.heap.size:=by
 rcases Nat.lt_or_ge k w.heap.size with bA|bA
 ·exact bA
 ·rw[Array.getElem?_eq_none bA]at h;cases h
def DG{esz:Nat}:∀{els:List (List aa)},(∀e∈els,e.length=esz)->∀{i:Nat} {e:List aa},els[i]? =D e->∀{j:Nat} {v:aa},e[j]? =D v->els.flatten[i*esz+j]? =D v
 |[],_,_,_,h,_,_,_=>by simp at h
 |d::els,b,0,e,h,j,v,a=>by
  simp at h;subst h;have c:j<d.length:=by
   rcases Nat.lt_or_ge j d.length with h|h
   ·exact h
   ·rw[List.getElem?_eq_none h]at a;cases a
  simp only[List.flatten_cons,Nat.zero_mul,Nat.zero_add];rw[List.getElem?_append_left c];exact a
 |d::els,b,i+1,e,h,j,v,a=>by
  have f:d.length=esz:=b d (by simp);have:=DG (els:=els) (λe he=>b e (List.mem_cons_of_mem _ he)) (i:=i) (by simpa using h) a;simp only[List.flatten_cons];rw[List.getElem?_append_right (by rw[Nat.succ_mul];omega)];rw[<-this];congr 1;rw[Nat.succ_mul];omega
def zB{H:af}{b:an}{l:Nat}(h:(H.push b).rw l):l=H.next\/H.rw l:=by
 by_cases e:l=H.next
 ·exact .inl e
 ·exact .inr (by simpa [af.rw,af.fL e]using h)
def zf{H:af}{b:an}{l:Nat}(h:(H.push b).live l):l=H.next\/H.live l:=by
 by_cases e:l=H.next
 ·exact .inl e
 ·exact .inr (by simpa [af.live,af.fL e]using h)
def Rel.Dt(e:Rel ρ H w){l:Nat}(h:H.live l){loc:Loc}(f:ρ l=D loc):loc.block<w.heap.size:=by
 rcases h with⟨ro,esz,els,h⟩|⟨es,h⟩|⟨t,esz,els,h⟩
 ·obtain⟨d,b,_,c,t,g,a,_⟩:=e.row _ _ _ _ h;obtain rfl:loc=d:=Option.some.inj (f.symm.trans b);exact iU a
 ·obtain⟨d,b,ents,clock,a,_⟩:=e.map _ _ h;obtain rfl:loc=d:=Option.some.inj (f.symm.trans b);exact iU a
 ·obtain⟨d,b,_,c,g,a,_⟩:=e.dp _ _ _ _ h;obtain rfl:loc=d:=Option.some.inj (f.symm.trans b);exact iU a
def lP{H:af}{l:Nat}(h:H.live l):l<H.next:=by
 rcases h with⟨_,_,_,h⟩|⟨_,h⟩|⟨_,_,_,h⟩<;>exact af.iT h
def fE.frame{b:Env}{a:World}{loc:Loc}{ro:Bool}{esz:Nat}{els:List (List aa)}(h:fE ρ w loc ro esz els)(hle:ρ.le b)(l:a.heap[loc.block]? =w.heap[loc.block]?):fE b a loc ro esz els:=by
 obtain⟨n,c,t,e,p,o,q⟩:=h;refine⟨n,c,t,e,by rw[l];exact p,o,?_⟩;intro i d m;obtain⟨f,g⟩:=q i d m;refine⟨f,λj v r=> ?_⟩;obtain⟨k,x,u,s⟩:=g j v r;exact⟨k,x,u,s.mono hle⟩
def fE.lt{loc:Loc}{ro:Bool}{esz:Nat}{els:List (List aa)}(h:fE ρ w loc ro esz els):loc.block<w.heap.size:=by
 obtain⟨_,c,t,a,p,_⟩:=h;exact iU p
def kX.frame{d:Env}{b:World}{loc:Loc}{t:TypeId}{esz:Nat}{els:List (List aa)}(h:kX ρ w loc t esz els)(hle:ρ.le d)(a:b.heap[loc.block]? =w.heap[loc.block]?):kX d b loc t esz els:=by
 obtain⟨f,c,e,g,i⟩:=h;exact⟨f.frame hle a,c,e,by rw[a];exact g,i⟩
def NS(i:Rel ρ H w)(s:ρ H.next=Y)(b:an)(y:b.qh=U)(aA:Obj)(loc:Loc)(F:loc.block=w.heap.size)
  (z:∀ro esz els,b= .row ro esz els->fE (ρ.eC H.next loc) (w.alloc aA) loc ro esz els) (x:∀es,b= .map es->C5 (ρ.eC H.next loc) (w.alloc aA) loc es) (A:∀t esz els,b= .dp t esz els->kX (ρ.eC H.next loc) (w.alloc aA) loc t esz els):
  Step ρ H w (ρ.eC H.next loc) (H.push b) (w.alloc aA):=by
 have hle:=Env.oI s loc;have p:∀l d,H.live l->ρ.eC H.next loc l=D d->d.block<w.heap.size:=λl d h bA=>by
  have n:l≠H.next:=by
   rintro rfl;have:=lP h;omega
  rw[Env.gj n]at bA;exact i.Dt h bA
 refine⟨hle,by simp,λl v=>Env.gj (by simp at v;omega),⟨?_,?_,?_,?_⟩,rfl,rfl,rfl,by rw[RC];omega,λk u _=>heap_alloc_old w aA u,?_,af.Fm y⟩
 ·intro l ro esz els h;by_cases e:l=H.next
  ·subst e;rw[af.hv]at h;exact⟨loc,Env.fQ _ _ _,z _ _ _ (Option.some.inj h)⟩
  ·rw[af.fL e]at h;obtain⟨d,j,m⟩:=i.row _ _ _ _ h;exact⟨d,by rw[Env.gj e];exact j,m.frame hle (heap_alloc_old w aA m.lt)⟩
 ·intro l es h;by_cases e:l=H.next
  ·subst e;rw[af.hv]at h;exact⟨loc,Env.fQ _ _ _,x _ (Option.some.inj h)⟩
  ·rw[af.fL e]at h;obtain⟨d,j,ents,clock,o,c,a⟩:=i.map _ _ h;exact⟨d,by rw[Env.gj e];exact j,ents,clock,by rw[heap_alloc_old w aA (iU o)];exact o,c.mono hle,a.mono hle⟩
 ·intro l t esz els h;by_cases e:l=H.next
  ·subst e;rw[af.hv]at h;exact⟨loc,Env.fQ _ _ _,A _ _ _ (Option.some.inj h)⟩
  ·rw[af.fL e]at h;obtain⟨d,j,m⟩:=i.dp _ _ _ _ h;exact⟨d,by rw[Env.gj e];exact j,m.frame hle (heap_alloc_old w aA m.1.lt)⟩
 ·intro l q B C c a n f g;rcases zB c with rfl|c
  ·rcases zf a with rfl|a
   ·exact absurd rfl n
   ·rw[Env.fQ]at f;obtain rfl:=Option.some.inj f;have:=p _ _ a g;omega
  ·rcases zf a with rfl|a
   ·rw[Env.fQ]at g;obtain rfl:=Option.some.inj g;have:=p _ _ c.live f;omega
   ·have cU:l≠H.next:=by
     rintro rfl;have:=lP c.live;omega
    have E:q≠H.next:=by
     rintro rfl;have:=lP a;omega
    rw[Env.gj cU]at f;rw[Env.gj E]at g;exact i.apart l q B C c a n f g
 ·rintro k ⟨l,d,c,a,r⟩;rcases zB c with rfl|c
  ·rw[Env.fQ]at a;obtain rfl:=Option.some.inj a;exact .inr bn
  ·have cU:l≠H.next:=by
    rintro rfl;have:=lP c.live;omega
   rw[Env.gj cU]at a;exact .inl ⟨l,d,c,a,r⟩
def q4(l:Rel ρ H w)(c:ρ H.next=Y){ot:Option TypeId}{esz:Nat}{els:List (List aa)}(hlen:∀e∈els,e.length=esz)(n:∀e∈els,∀v∈e,v.one=V)
  {xs tail:List Value} (p:bj ρ els.flatten xs) (t:TypeId) (o:∀a,ot=D a->a=t):
  Step ρ H w (ρ.eC H.next ⟨w.heap.size,0,esz,xs.length+tail.length⟩) (H.push (eL ot esz els)) (w.alloc (.cells (xs++tail).toArray t)):=by
 have key:kX (ρ.eC H.next ⟨w.heap.size,0,esz,xs.length+tail.length⟩) (w.alloc (.cells (xs++tail).toArray t)) ⟨w.heap.size,0,esz,xs.length+tail.length⟩ t esz els:=by
  refine⟨⟨rfl,_,t,(0,0),heap_alloc_new _ _,⟨by simp,λ_ aA _=>by simp⟩,?_⟩,_,_,heap_alloc_new _ _,rfl⟩;intro i e he;refine⟨hlen e (List.mem_of_getElem? he),λj v d=> ?_⟩;refine⟨n e (List.mem_of_getElem? he) v (List.mem_of_getElem? d),?_⟩;obtain⟨x,b,q⟩:=p.get _ _ (DG hlen he d);refine⟨x,?_,q.mono (Env.oI c _)⟩;have m:i*esz+j<xs.length:=by
   rcases Nat.lt_or_ge (i*esz+j) xs.length with h|h
   ·exact h
   ·rw[List.getElem?_eq_none h]at b;cases b
  simp only[Nat.zero_add,List.getElem?_toArray];rw[List.getElem?_append_left m];exact b
 refine NS l c _ (Ez _ _ _) _ _ rfl ?_ (λes h=>(Ey h).elim) ?_
 ·intro ro g f h;obtain⟨rfl,rfl,rfl,-⟩:=EA h;exact key.1
 ·intro a g f h;obtain⟨k,rfl,rfl⟩:=EB h;obtain rfl:=o a k;exact key
def zk:Value->Option aa
 | .bool b=>D (.bool b)
 | .int k n=>D (.int k n)
 | .string s=>D (.str s.data.toList)
 | .pointer Y=>D .fC
 | .slice Y 0 0=>D .ao
 | .map Y=>D .h1
 | .nilFunc=>D .nilFunc
 | .nilIface=>D .nilIface
 |_=>Y
def qO:List Value->Option (List aa)
 |[]=>D []
 |v::r=>match zk v,qO r with
  |some a,D l=>D (a::l)
  |_,_=>Y
def qQ:Value->Option aa
 | .agg cs=>(qO cs.toList).map .agg
 |v=>zk v
def Nt{v:Value}{a:aa}(h:zk v=D a)(ρ:Env):bb ρ a v/\a.one=true:=by
 unfold zk at h;split at h<;>first
  |(simp only[a7]at h;subst h;exact⟨by constructor,rfl⟩)
  |cases h
def Nu:∀{b:List Value} {as:List aa},qO b=D as->∀ρ:Env,bj ρ as b/\∀a∈as,a.one=V
 |[],as,h,ρ=>by simp[qO]at h;subst h;exact⟨.nil,by simp⟩
 |v::r,as,h,ρ=>by
  unfold qO at h;split at h
  ·rename_i a l g i;simp only[a7]at h;subst h;obtain⟨c,d⟩:=Nt g ρ;obtain⟨e,f⟩:=Nu i ρ;exact⟨.cons _ _ _ _ c e,by simpa using⟨d,f⟩⟩
  ·cases h
def zl{v:Value}{a:aa}(h:qQ v=D a)(ρ:Env):bb ρ a v:=by
 unfold qQ at h;split at h
 ·simp only[Option.map_eq_some_iff]at h;obtain⟨l,b,rfl⟩:=h;have:=bb.agg _ _ (Nu b ρ).1;simpa using this
 ·exact(Nt h ρ).1
def gv(P:Program)(t:TypeId):Option aa:=(P.info? t).bind λi=>i.zero.bind qQ
def k2{t:TypeId}{z:aa}(h:gv P t=D z)(w:World):∃x,(zeroValue t).run P w= .ok x w/\∀ρ:Env,bb ρ z x:=by
 unfold gv at h;simp only[dG]at h;obtain⟨i,a,x,b,c⟩:=h;exact⟨x,by simp[zeroValue,typeInfo,a,b],λρ=>zl c ρ⟩
def oJ(P:Program)(t:TypeId):Option TypeId:=match P.underlying t with
 |some (.struct a)=>(match a.toList with
  |[f]=>(match P.underlying f.type with
   |some (.struct gs)=>if gs.size=2 then D t else Y
   |_=>Y)
  |_=>Y)
 |_=>Y
def Nr{P:Program}{t a:TypeId}(h:oJ P t=D a):a=t:=by
 unfold oJ at h;split at h
 ·split at h
  ·split at h
   ·split at h
    ·exact(Option.some.inj h).symm
    ·cases h
   ·cases h
  ·cases h
 ·cases h
def nz(ot:Option TypeId)(H:af)(v:aa):Option (aa×af):=
 if v.cells.all aa.one=V then D (.ptr H.next 0 0,H.push (eL ot v.cells.length [v.cells]))else Y
def Iy(e:Rel ρ H w)(g:ρ H.next=Y){ot:Option TypeId}{v a:aa}{x:Value}{H':af}(h:nz ot H v=D (a,H'))(l:bb ρ v x)(t:TypeId)(k:∀b,ot=D b->b=t):
  ∃r c d,(Instr.box t x).run P w= .ok r c/\bb d a r/\Step ρ H w d H' c:=by
 unfold nz at h;split at h
 ·rename_i i;simp only[a7,bI]at h;obtain⟨rfl,rfl⟩:=h;have f:=l.cells;have j:=q4 e g (ot:=ot) (esz:=v.cells.length) (els:=[v.cells]) (by simp) (by simpa using i) (xs:=x.cells.toList) (tail:=[]) (by simpa using f) t k;refine⟨.pointer (D ⟨w.heap.size,0,Y⟩),_,_,?_,?_,j⟩
  ·simp[Instr.box,newVar,newRow]
  ·simpa using bb.ptr (ρ:=ρ.eC H.next _) H.next 0 0 _ (Env.fQ _ _ _)
 ·cases h
def xw(P:Program)(H:af)(t:TypeId):Option (aa×af):=(gv P t).bind (nz (oJ P t) H)
def OX(g:Rel ρ H w)(i:ρ H.next=Y){t:TypeId}{a:aa}{H':af}(h:xw P H t=D (a,H')):
  ∃r b c,(Instr.alloc t V (.tuple #[])).run P w= .ok r b/\bb c a r/\Step ρ H w c H' b:=by
 unfold xw at h;simp only[dG]at h;obtain⟨z,l,h⟩:=h;obtain⟨x,k,j⟩:=k2 l w;obtain⟨r,b,c,d,e,f⟩:=Iy (P:=P) g i h (j ρ) t λ_ h=>Nr h
 refine⟨r,b,c,?_,e,f⟩;simp only[Instr.alloc,Sem.run_bind,k,Result.andThen_ok];simpa [Instr.box]using d
end
section
variable {P:Program}{ρ:Env}{H:af}{w:World}
def kZ(place:Nat->Option (Nat×Nat))(cells:List aa):List (Nat×aa)->Option (List aa)
 |[]=>D cells
 |(i,v)::rest=>
  match place i with
  |none=>Y
  |some (off,size)=>if v.cells.length=size/\off+v.cells.length<=cells.length then kZ place (fD cells off v.cells) rest else Y
def DJ:∀(a:List Value) (k off:Nat) (c:Array Value),(a.zipIdx k).foldl (λcs (x:Value×Nat)=>cs.setIfInBounds (off+x.2) x.1) c=h2 c (off+k) a
 |[],_,_,_=>rfl
 |v::r,k,off,c=>by
  simp only[List.zipIdx_cons,List.foldl_cons,h2];rw[DJ r (k+1) off];rfl
def Ou{e:List aa}{xs:List Value}{c:Nat}{cs:List aa}{f:List Value}(he:bj ρ e xs)(k:bj ρ cs f)(h:c+cs.length<=e.length):
  bj ρ (fD e c cs) (h2 xs.toArray c f).toList:=by
 have m:=he.length;have n:=k.length;refine bj.Nv (by rw[Oq h];simp[q5,m]) ?_;intro j v x b a;by_cases l:c<=j/\j<c+cs.length
 ·rw[Oo h l.1 l.2]at b;obtain⟨d,i,g⟩:=k.get _ _ b;have:=zu f xs.toArray c (j-c) d i (by simp;omega);rw[show c+(j-c)=j by omega]at this;simp only[Array.getElem?_toList]at a;obtain rfl:x=d:=Option.some.inj (a.symm.trans this);exact g
 ·rw[Ot h bn]at b;obtain⟨d,i,g⟩:=he.get _ _ b;have:=oN f xs.toArray c j bn;simp only[Array.getElem?_toList]at a;rw[this]at a;simp only[List.getElem?_toArray]at a;obtain rfl:x=d:=Option.some.inj (a.symm.trans i);exact g
def ny(ρ:Env):List (Nat×aa)->List (Nat×Value)->Prop
 |[],[]=>True
 |(i,v)::r,(j,x)::s=>i=j/\bb ρ v x/\ny ρ r s
 |_,_=>False
def Da(place:Nat->Option (Nat×Nat)):∀(parts:List (Nat×aa)) (l:List (Nat×Value)) (cells b:List aa) (xs:List Value),ny ρ parts l->bj ρ cells xs->
  kZ place cells parts=D b->∃e:List Value,Instr.fill place xs.toArray l=D e.toArray/\bj ρ b e
 |[],[],cells,b,xs,_,d,h=>by
  simp[kZ]at h;subst h;exact⟨xs,rfl,d⟩
 |[],_::_,_,_,_,a,_,_=>a.elim
 |_::_,[],_,_,_,a,_,_=>a.elim
 |(i,v)::r,(j,x)::s,cells,b,xs,a,d,h=>by
  obtain⟨rfl,q,a⟩:=a;unfold kZ at h;unfold Instr.fill;cases g:place i with
  |none=>rw[g]at h;cases h
  |some os=>
   obtain⟨off,size⟩:=os;rw[g]at h;simp only at h;split at h
   ·rename_i f;have k:=q.cells;have t:=k.length;have u:=d.length;have p:x.cells.size=v.cells.length:=by rw[t];simp
    have o:=Ou d k (c:=off) f.2;obtain⟨e,m,n⟩:=Da place r s _ b _ a o h;refine⟨e,?_,n⟩;simp only
    rw[if_neg (by simp[p,f.1];have:=f.2;omega)];have:=DJ x.cells.toList 0 off xs.toArray;rw[Nat.add_zero]at this;rw[<-Array.foldl_toList,Array.toList_zipIdx,this];simpa using m
   ·cases h
def nF(P:Program):List Field->Option (List (Nat×Nat))
 |[]=>D []
 |f::a=>match cT P f.type,nF P a with
  |some n,D l=>D ((f.offset,n)::l)
  |_,_=>Y
def IH(w:World):∀(a:List Field) (l:List (Nat×Nat)),nF P a=D l->(a.mapM (λf=>(do pure (f.offset,<-sizeOf f.type):Sem (Nat×Nat)))).run P w= .ok l w
 |[],l,h=>by simp[nF]at h;subst h;simp[Sem.run_pure]
 |f::a,l,h=>by
  unfold nF at h;split at h
  ·rename_i n e c b;simp only[a7]at h;subst h;have d:=IH w a e b;rw[List.mapM_cons];simp only[Sem.run_bind,run_sizeOf c,Result.andThen_ok,Sem.run_pure,d]
  ·cases h
def bo(P:Program)(t:TypeId)(parts:List (Nat×aa)):Option aa:=
 match gv P t,P.underlying t with
 |some z,D (.struct a)=>(match nF P a.toList with|some pl=>(kZ (pl[·]?) z.cells parts).map .agg|none=>Y)
 |some z,D (.array _ e)=>(match cT P e with|some n=>(kZ (λi=>D (i*n,n)) z.cells parts).map .agg|none=>Y)
 |_,_=>Y
def O2{t:TypeId}{parts:List (Nat×aa)}{c:List (Nat×Value)}{v:aa}(h:bo P t parts=D v)(p:ny ρ parts c)(w:World):
  ∃x,(Instr.build t c.toArray).run P w= .ok x w/\bb ρ v x:=by
 unfold bo at h;split at h
 ·rename_i z o j hu;obtain⟨a,l,k⟩:=k2 j w;split at h
  ·rename_i pl r;simp only[Option.map_eq_some_iff]at h;obtain⟨cs,i,rfl⟩:=h;obtain⟨m,b,g⟩:=Da _ parts c z.cells cs a.cells.toList p (k ρ).cells i;refine⟨.agg m.toArray,?_,.agg _ _ g⟩;have hm:=IH (P:=P) w o.toList pl r;have q:(o.mapM (λf=>(do pure (f.offset,<-sizeOf f.type):Sem (Nat×Nat)))).run P w= .ok pl.toArray w:=by
    rw[Array.mapM_eq_mapM_toList];simp only[Sem.run_map,hm,Result.andThen_ok]
   simp only[Instr.build,Sem.run_bind,l,Result.andThen_ok,run_underlying hu,q];have e:(λx:Nat=>(pl.toArray)[x]?)=(λx=>pl[x]?):=by funext x;simp
   simp only[e];have d:a.cells.toList.toArray=a.cells:=by simp
   rw[d]at b;simp[b]
  ·cases h
 ·rename_i z n e j hu;obtain⟨a,l,k⟩:=k2 j w;split at h
  ·rename_i u s;simp only[Option.map_eq_some_iff]at h;obtain⟨cs,i,rfl⟩:=h;obtain⟨m,b,g⟩:=Da _ parts c z.cells cs a.cells.toList p (k ρ).cells i;refine⟨.agg m.toArray,?_,.agg _ _ g⟩;have d:a.cells.toList.toArray=a.cells:=by simp
   rw[d]at b;simp[Instr.build,l,run_underlying hu,run_sizeOf s,b]
  ·cases h
 ·cases h
def mA(esz:Nat):List (List aa)->List (Nat×aa)->Option (List (List aa))
 |els,[]=>D els
 |els,(i,v)::rest=>if v.cells.length=esz/\i<els.length/\v.cells.all aa.one=V then mA esz (els.set i v.cells) rest else Y
def p2(P:Program)(H:af)(t:TypeId)(len:Nat)(parts:List (Nat×aa)):Option (aa×af):=
 match P.underlying t with
 |some (.slice e)=>
  (match cT P e,gv P e with
  |some a,D z=>
   if len*a<=16777216/\z.cells.length=a/\z.cells.all aa.one=V then
    (match mA a (List.replicate len z.cells) parts with
    |some els=>D (.ag H.next 0 len a (D len),H.push (.row U a els))
    |none=>Y)
   else Y
  |_,_=>Y)
 |_=>Y
def k5{esz:Nat}:∀{els:List (List aa)},(∀e∈els,e.length=esz)->els.flatten.length=els.length*esz
 |[],_=>by simp
 |d::els,h=>by
  have:=k5 (els:=els) (λe he=>h e (List.mem_cons_of_mem _ he));simp only[List.flatten_cons,List.length_append,this,h d (by simp),List.length_cons,Nat.succ_mul];omega
def Ji{esz:Nat}:∀{els:List (List aa)} (i:Nat) (c:List aa),(∀e∈els,e.length=esz)->c.length=esz->i<els.length->(els.set i c).flatten=fD els.flatten (i*esz) c
 |[],_,_,_,_,h=>by simp at h
 |d::els,0,c,a,b,_=>by
  have f:=a d (by simp);simp[fD,b,<-f]
 |d::els,i+1,c,a,b,h=>by
  have f:=a d (by simp);have k:=Ji (els:=els) i c (λe he=>a e (List.mem_cons_of_mem _ he)) b (by simpa using h);simp only[List.set_cons_succ,List.flatten_cons,k];unfold fD;rw[Nat.succ_mul];have g:List.take (i*esz+esz) (d++els.flatten)=d++els.flatten.take (i*esz):=by
   rw[List.take_append,List.take_of_length_le bn];congr 2;omega
  have j:List.drop (i*esz+esz+c.length) (d++els.flatten)=els.flatten.drop (i*esz+c.length):=by
   rw[List.drop_append,List.drop_eq_nil_of_le bn,List.nil_append];congr 1;omega
  rw[g,j];simp
def IS(esz:Nat):∀(parts:List (Nat×aa)) (p:List (Nat×Value)) (els a:List (List aa)) (xs:List Value),ny ρ parts p->(∀e∈els,e.length=esz)->(∀e∈els,∀v∈e,v.one=V)->
  bj ρ els.flatten xs->mA esz els parts=D a->
   (∃k:List Value,Instr.fill (λi=>D (i*esz,esz)) xs.toArray p=D k.toArray/\bj ρ a.flatten k)/\(∀e∈a,e.length=esz)/\(∀e∈a,∀v∈e,v.one=V)/\a.length=els.length
 |[],[],els,a,xs,_,d,l,g,h=>by
  simp[mA]at h;subst h;exact⟨⟨xs,rfl,g⟩,d,l,rfl⟩
 |[],_::_,_,_,_,b,_,_,_,_=>b.elim
 |_::_,[],_,_,_,b,_,_,_,_=>b.elim
 |(i,v)::r,(j,x)::s,els,a,xs,b,d,l,g,h=>by
  obtain⟨rfl,K,b⟩:=b;unfold mA at h;split at h
  ·rename_i C;obtain⟨f,m,F⟩:=C;have G:∀u∈v.cells,u.one=true:=by simpa using F
   have o:=K.cells;have L:=o.length;have M:=g.length;have E:=k5 d;have hle:i*esz+v.cells.length<=els.flatten.length:=by rw[E,f];exact qM m
   have n:=Ou g o (c:=i*esz) hle;rw[<-Ji i v.cells d f m]at n;have A:∀e∈els.set i v.cells,e.length=esz:=λe he=>by
    rcases List.mem_or_eq_of_mem_set he with h|rfl
    ·exact d e h
    ·exact f
   have B:∀e∈els.set i v.cells,∀u∈e,u.one=true:=λe he=>by
    rcases List.mem_or_eq_of_mem_set he with h|rfl
    ·exact l e h
    ·exact G
   obtain⟨⟨k,q,t⟩,w,y,z⟩:=IS esz r s _ a _ b A B n h;refine⟨⟨k,?_,t⟩,w,y,by simpa using z⟩;unfold Instr.fill;have H:x.cells.size=v.cells.length:=by rw[L];simp
   simp only
   rw[if_neg (by simp[H,f];omega)];have:=DJ x.cells.toList 0 (i*esz) xs.toArray;rw[Nat.add_zero]at this;rw[<-Array.foldl_toList,Array.toList_zipIdx,this];simpa using q
  ·cases h
def OJ(z:Array Value)(n:Nat)(b:0<z.size):((Array.range (n*z.size)).map (z[· %z.size]!))=((List.replicate n z.toList).flatten).toArray:=by
 apply Array.ext';apply List.ext_getElem?;intro k;by_cases a:k<n*z.size
 ·have c:(Array.map (λx=>z[x%z.size]!) (Array.range (n*z.size))).toList[k]? =D z[k%z.size]! :=by
   simp[a]
  rw[c];symm;simp only
  have hdiv:k/z.size<n:=by rw[Nat.div_lt_iff_lt_mul b];exact a
  have d:k%z.size<z.size:=Nat.mod_lt _ b;have key:∀(n k:Nat),k<n*z.size->(List.replicate n z.toList).flatten[k]? =z.toList[k%z.size]? :=by
   intro n
   induction n with
   |zero=>intro k h;omega
   |succ n e=>
    intro k h;rw[List.replicate_succ,List.flatten_cons];by_cases a:k<z.size
    ·rw[List.getElem?_append_left (by simpa using a),Nat.mod_eq_of_lt a]
    ·rw[List.getElem?_append_right (by simpa using a)];have:=e (k-z.size) (by rw[Nat.succ_mul]at h;omega);simp only[Array.length_toList];rw[this,<-Nat.mod_eq_sub_mod bn]
  rw[key n k a];simp[d]
 ·rw[List.getElem?_eq_none (by simp;omega),List.getElem?_eq_none (by simp;omega)]
def bj.DH{a:List aa}{xs:List Value}(h:bj ρ a xs):∀n,bj ρ (List.replicate n a).flatten (List.replicate n xs).flatten
 |0=>by simpa using bj.nil
 |n+1=>by simpa [List.replicate_succ]using h.append (bj.DH h n)
def O0(x:Rel ρ H w)(B:ρ H.next=Y){t:TypeId}{len:Nat}{parts:List (Nat×aa)}{i:List (Nat×Value)}{a:aa}{H':af}(h:p2 P H t len parts=D (a,H'))(G:ny ρ parts i):
  ∃r n p,(Instr.buildSlice t len i.toArray).run P w= .ok r n/\bb p a r/\Step ρ H w p H' n:=by
 unfold p2 at h;split at h
 ·rename_i e hu;split at h
  ·rename_i b z N Q;split at h
   ·rename_i y;obtain⟨hle,m,E⟩:=y;split at h
    ·rename_i els A;simp only[a7,bI]at h;obtain⟨rfl,rfl⟩:=h;obtain⟨c,S,R⟩:=k2 Q w;have F:∀u∈z.cells,u.one=true:=by simpa using E
     have l:=(R ρ).cells;have f:c.cells.size=b:=by have:=l.length;rw[<-m,this];simp
     have L:=bj.DH l len;obtain⟨⟨o,g,j⟩,k,s,v⟩:=IS b parts i _ els _ G (λe he=>by rw[List.eq_of_mem_replicate he];exact m)
      (λe he=>by rw[List.eq_of_mem_replicate he];exact F) L A
     have M:=q4 x B (ot:=none) k s j (tail:=[]) e (λ_ h=>by cases h);have O:o.length=len*b:=by
      rw[<-j.length,k5 k,v];simp
     refine⟨.slice (D ⟨w.heap.size,0,Y⟩) len len,_,_,?_,?_,M⟩
     ·simp only[Instr.buildSlice,Sem.run_bind,run_underlying hu,Result.andThen_ok,run_sizeOf N];rw[if_neg (by show¬(len*b>2^24);omega)];by_cases d:len*b=0
      ·simp only[d,if_true,Sem.run_bind,Sem.run_pure,Result.andThen_ok];have C:(List.replicate len c.cells.toList).flatten=[]:=by
        have:((List.replicate len c.cells.toList).flatten).length=0:=by simp[f,d]
        exact List.eq_nil_of_length_eq_zero this
       rw[C]at g;have q:Array.range 0= #[]:=rfl;simp[g,newRow,q]
      ·simp only[d,if_false,Sem.run_bind,S,Result.andThen_ok,Sem.run_pure];have K:0<c.cells.size:=by
        rcases Nat.eq_zero_or_pos c.cells.size with h|h
        ·rw[f]at h;simp[h]at d
        ·exact h
       have:=OJ c.cells len K;rw[f]at this;simp only[f,this];simp[g,newRow]
     ·refine bb.ag (ρ:=ρ.eC H.next _) H.next 0 len (D len) ⟨w.heap.size,0,b,o.length+0⟩ _ len (Env.fQ _ _ _) (cW _) (by simp) (λ_=>⟨by simp,?_⟩)
      simp[O]
    ·cases h
   ·cases h
  ·cases h
 ·cases h

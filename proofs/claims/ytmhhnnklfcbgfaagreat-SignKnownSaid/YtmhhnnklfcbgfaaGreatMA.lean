/-
  Texts of one proof, laid together: Hv0 Hv1 Hv2 Hv3 Hv4 Hv5 Hv6.
-/
import GoSem.Dispatch
import Derived.WalkKit
import Derived.Laws.IdiomCopy
set_option linter.unusedVariables false
set_option linter.unusedSimpArgs false
set_option linter.defProp false
open Option renaming some→D,none→Y
open Bool renaming true→V,false→U
namespace Go.bN
def bj{p:Prop}(h:p:=by omega):p:=h
def j{p:Prop}(h:p:=by kernel_rfl):p:=h
def Vy{p:Prop}(h:p:=by decide):p:=h
def aC{a b:Prop}(x:a)(y:b):a/\b:=⟨x,y⟩
def aV{α:Type}(a b:α):(D a=D b)=(a=b):=Option.some.injEq a b
def eo{α:Type}(a b:α):(bif V then a else b)=a:=rfl
def gw{α:Type}(a b:α):(bif U then a else b)=b:=rfl
def bZ{α β:Type}{aw:Option α}{f:α->Option β}{b:β}:aw.bind f=D b↔∃a,aw=D a/\f a=D b:=Option.bind_eq_some_iff
def bE{α β:Type}(a:α)(b:β)(c:α)(d:β):((a,b)=(c,d))=(a=c/\b=d):=Prod.mk.injEq a b c d
def bM(n:Nat):n<=n:=Nat.le_refl n
inductive aa where
 |bool (b:Bool)
 |int (k:IntKind) (n:Int)
 |str (s:List UInt8)
 |ptr (l i c:Nat)
 |cr
 |ag (l i n esz:Nat) (cap:Option Nat)
 |ar
 |map (l:Nat)
 |cU
 |func (fn:Fn) (first captured:List aa)
 |nilFunc
 |iface (t:TypeId) (v:aa)
 |nilIface
 |agg (cs:List aa)
 |tuple (a:List aa)
instance:Inhabited aa:=⟨.tuple []⟩
inductive bk where
 |row (ro:Bool) (esz:Nat) (els:List (List aa))
 |bS (t:TypeId) (esz:Nat) (els:List (List aa))
 |map (es:List (aa×aa))
 |dead
inductive dT where
 |d0|d1|d2|d3|d4|d5|d6|d7
inductive a6(α:Type) where
 |leaf
 |node (v:Option α) (a b c d e f g h:a6 α)
def r7(n:Nat):dT:=match n with
 |0=> .d0|1=> .d1|2=> .d2|3=> .d3|4=> .d4|5=> .d5|6=> .d6|_=> .d7
def AJ{n m:Nat}(c:n<8)(hm:m<8)(h:r7 n=r7 m):n=m:=by
 have a:n=0\/n=1\/n=2\/n=3\/n=4\/n=5\/n=6\/n=7:=bj;have b:m=0\/m=1\/m=2\/m=3\/m=4\/m=5\/m=6\/m=7:=bj;rcases a with rfl|rfl|rfl|rfl|rfl|rfl|rfl|rfl<;>rcases b with rfl|rfl|rfl|rfl|rfl|rfl|rfl|rfl<;>first|rfl|cases h
def eX:Nat->Nat->List dT
 |0,_=>[]
 |_+1,0=>[]
 |f+1,k+1=>r7 (k%8)::eX f (k/8)
def path(k:Nat):List dT:=eX k k
def JR:∀(f g k j:Nat),k<=f->j<=g->eX f k=eX g j->k=j:=by
 intro f
 induction f with
 |zero=>
  intro g k j b a h;have:k=0:=bj;subst this;cases j with
  |zero=>rfl
  |succ j=>
   cases g with
   |zero=>omega
   |succ g=>simp[eX]at h
 |succ f c=>
  intro g k j b a h;cases k with
  |zero=>
   cases j with
   |zero=>rfl
   |succ j=>
    cases g with
    |zero=>omega
    |succ g=>simp[eX]at h
  |succ k=>
   cases j with
   |zero=>cases g<;>simp[eX]at h
   |succ j=>
    cases g with
    |zero=>omega
    |succ g=>
     simp only[eX,List.cons.injEq]at h;have d:=AJ (Nat.mod_lt _ bj) (Nat.mod_lt _ bj) h.1;have e:=c g (k/8) (j/8) bj bj h.2;omega
def yg{k j:Nat}(h:path k=path j):k=j:=JR k j k j (bM _) (bM _) h
def a6.db{α:Type}:List dT->a6 α->Option α
 |[],.leaf=>Y
 |[],.node v _ _ _ _ _ _ _ _=>v
 |_::_,.leaf=>Y
 |d::p,.node _ a b c e f g h i=>match d with
  | .d0=>a6.db p a| .d1=>a6.db p b| .d2=>a6.db p c| .d3=>a6.db p e
  | .d4=>a6.db p f| .d5=>a6.db p g| .d6=>a6.db p h| .d7=>a6.db p i
def a6.b0{α:Type}(x:α):List dT->a6 α->a6 α
 |[],.leaf=> .node (D x) .leaf .leaf .leaf .leaf .leaf .leaf .leaf .leaf
 |[],.node _ a b c e f g h i=> .node (D x) a b c e f g h i
 |d::p,.leaf=>match d with
  | .d0=> .node Y (a6.b0 x p .leaf) .leaf .leaf .leaf .leaf .leaf .leaf .leaf
  | .d1=> .node Y .leaf (a6.b0 x p .leaf) .leaf .leaf .leaf .leaf .leaf .leaf
  | .d2=> .node Y .leaf .leaf (a6.b0 x p .leaf) .leaf .leaf .leaf .leaf .leaf
  | .d3=> .node Y .leaf .leaf .leaf (a6.b0 x p .leaf) .leaf .leaf .leaf .leaf
  | .d4=> .node Y .leaf .leaf .leaf .leaf (a6.b0 x p .leaf) .leaf .leaf .leaf
  | .d5=> .node Y .leaf .leaf .leaf .leaf .leaf (a6.b0 x p .leaf) .leaf .leaf
  | .d6=> .node Y .leaf .leaf .leaf .leaf .leaf .leaf (a6.b0 x p .leaf) .leaf
  | .d7=> .node Y .leaf .leaf .leaf .leaf .leaf .leaf .leaf (a6.b0 x p .leaf)
 |d::p,.node v a b c e f g h i=>match d with
  | .d0=> .node v (a6.b0 x p a) b c e f g h i
  | .d1=> .node v a (a6.b0 x p b) c e f g h i
  | .d2=> .node v a b (a6.b0 x p c) e f g h i
  | .d3=> .node v a b c (a6.b0 x p e) f g h i
  | .d4=> .node v a b c e (a6.b0 x p f) g h i
  | .d5=> .node v a b c e f (a6.b0 x p g) h i
  | .d6=> .node v a b c e f g (a6.b0 x p h) i
  | .d7=> .node v a b c e f g h (a6.b0 x p i)
def a6.nr{α:Type}(p:List dT):a6.db p (.leaf:a6 α)=none:=by cases p<;>rfl
def a6.ns{α:Type}(x:α):∀(p:List dT) (t:a6 α),a6.db p (a6.b0 x p t)=D x
 |[],.leaf=>rfl
 |[],.node .. =>rfl
 |d::p,.leaf=>by cases d<;>exact a6.ns x p _
 |d::p,.node .. =>by cases d<;>exact a6.ns x p _
def a6.si{α:Type}(x:α):∀(p q:List dT) (t:a6 α),p≠q->a6.db q (a6.b0 x p t)=a6.db q t
 |[],[],_,h=>absurd rfl h
 |[],e::q,.leaf,_=>by cases e<;>exact a6.nr q
 |[],e::q,.node ..,_=>rfl
 |d::p,[],.leaf,_=>by cases d<;>rfl
 |d::p,[],.node ..,_=>by cases d<;>rfl
 |d::p,e::q,.leaf,h=>by
  cases d<;>cases e<;>first
   |exact a6.nr q
   |(show a6.db q (a6.b0 x p .leaf)=Y
     rw[a6.si x p q .leaf (λa=>h (by rw[a]))];exact a6.nr q)
 |d::p,e::q,.node ..,h=>by
  cases d<;>cases e<;>first
   |rfl
   |exact a6.si x p q _ (λa=>h (by rw[a]))
def a6.get{α:Type}(t:a6 α)(k:Nat):Option α:=a6.db (path k) t
def a6.put{α:Type}(x:α)(_:Nat)(t:a6 α)(k:Nat):a6 α:=a6.b0 x (path k) t
def a6.gB{α:Type}(k:Nat):(a6.leaf:a6 α).get k=none:=a6.nr _
def a6.hI{α:Type}(x:α):∀(f:Nat) (t:a6 α) (k:Nat),k<f->(a6.put x f t k).get k=D x:=λ_ t k _=>a6.ns x (path k) t
def a6.gD{α:Type}(x:α):∀(f:Nat) (t:a6 α) (k j:Nat),k≠j->(a6.put x f t k).get j=t.get j:=λ_ t _ _ h=>a6.si x _ _ t (λe=>h (yg e))
structure ae where
 t:a6 bk
 next:Nat
def ae.get(H:ae)(l:Nat):Option bk:=if l<H.next then H.t.get l else Y
def ae.set(H:ae)(l:Nat)(b:bk):ae:={H with t:=a6.put b (l+1) H.t l}
def ae.push(H:ae)(b:bk):ae:={t:=a6.put b (H.next+1) H.t H.next,next:=H.next+1}
def ae.empty:ae:=⟨.leaf,0⟩
@[simp] theorem ae.nF(H:ae)(l:Nat)(b:bk):(H.set l b).next=H.next:=rfl
@[simp] theorem ae.dO(H:ae)(b:bk):(H.push b).next=H.next+1:=rfl
def ae.dz{H:ae}{l:Nat}{b:bk}(h:H.get l=D b):l<H.next:=by
 unfold ae.get at h;split at h
 ·assumption
 ·cases h
def ae.dn{H:ae}{l:Nat}{b:bk}(h:l<H.next):(H.set l b).get l=D b:=by
 show(if l<H.next then(a6.put b (l+1) H.t l).get l else Y)=D b;rw[if_pos h];exact a6.hI b _ _ _ bj
def ae.cx{H:ae}{l j:Nat}{b:bk}(h:l≠j):(H.set l b).get j=H.get j:=by
 show(if j<H.next then(a6.put b (l+1) H.t l).get j else Y)=(if j<H.next then H.t.get j else Y);rw[a6.gD b _ _ _ _ h]
def ae.cJ(H:ae)(b:bk):(H.push b).get H.next=D b:=by
 show(if H.next<H.next+1 then(a6.put b (H.next+1) H.t H.next).get H.next else Y)=D b;rw[if_pos bj];exact a6.hI b _ _ _ bj
def ae.cp{H:ae}{j:Nat}{b:bk}(h:j≠H.next):(H.push b).get j=H.get j:=by
 show(if j<H.next+1 then(a6.put b (H.next+1) H.t H.next).get j else Y)=(if j<H.next then H.t.get j else Y);by_cases a:j<H.next
 ·rw[if_pos bj,if_pos a,a6.gD b _ _ _ _ bj]
 ·rw[if_neg bj,if_neg a]
section
structure Loc where
 block:Nat
 off:Nat
 esz:Nat
 size:Nat
def Env:Type:=Nat->Option Loc
def Env.le(ρ a:Env):Prop:=∀l loc,ρ l=D loc->a l=D loc
def Env.le_refl(ρ:Env):ρ.le ρ:=λ_ _ h=>h
def Env.le_trans{ρ a b:Env}(h:ρ.le a)(bs:a.le b):ρ.le b:=λl loc e=>bs l loc (h l loc e)
mutual
inductive a1(ρ:Env):aa->Value->Prop where
 |bool (b:Bool):a1 ρ (.bool b) (.bool b)
 |int (k:IntKind) (n:Int):a1 ρ (.int k n) (.int k n)
 |str (s:List UInt8):a1 ρ (.str s) (.string ⟨s.toArray⟩)
 |ptr (l i c:Nat) (loc:Loc) (h:ρ l=some loc):a1 ρ (.ptr l i c) (.pointer (some ⟨loc.block,loc.off+i*loc.esz+c,none⟩))
 |cr:a1 ρ .cr (.pointer none)
 |ag (l i n:Nat) (cap:Option Nat) (loc:Loc) (a:Addr) (c:Nat) (h:ρ l=some loc) (o:n<=c) (g:∀k,cap=some k->c=k)
  (j:0<c->a=⟨loc.block,loc.off+i*loc.esz,none⟩/\loc.off+(i+c)*loc.esz<=loc.size):a1 ρ (.ag l i n loc.esz cap) (.slice (some a) n c)
 |ar:a1 ρ .ar (.slice none 0 0)
 |map (l:Nat) (loc:Loc) (h:ρ l=some loc):a1 ρ (.map l) (.map (some loc.block))
 |cU:a1 ρ .cU (.map none)
 |func (fn:Fn) (f c:List aa) (e d:List Value) (m:bb ρ f e) (g:bb ρ c d):a1 ρ (.func fn f c) (.func fn e.toArray d.toArray)
 |nilFunc:a1 ρ .nilFunc .nilFunc
 |iface (t:TypeId) (v:aa) (x:Value) (h:a1 ρ v x):a1 ρ (.iface t v) (.iface t x)
 |nilIface:a1 ρ .nilIface .nilIface
 |agg (cs:List aa) (xs:List Value) (h:bb ρ cs xs):a1 ρ (.agg cs) (.agg xs.toArray)
 |tuple (cs:List aa) (xs:List Value) (h:bb ρ cs xs):a1 ρ (.tuple cs) (.tuple xs.toArray)
inductive bb(ρ:Env):List aa->List Value->Prop where
  |nil:bb ρ [] []
  |cons (v:aa) (x:Value) (a:List aa) (xs:List Value) (h:a1 ρ v x) (b:bb ρ a xs):bb ρ (v::a) (x::xs)
 end
mutual
def a1.mono{ρ e:Env}(hle:ρ.le e){v:aa}{x:Value}(h:a1 ρ v x):a1 e v x:=by
 cases h with
 |bool b=>exact .bool b
 |int k n=>exact .int k n
 |str s=>exact .str s
 |ptr l i c loc h=>exact .ptr l i c loc (hle _ _ h)
 |cr=>exact .cr
 |ag l i n cap loc a c h p d m=>exact .ag l i n cap loc a c (hle _ _ h) p d m
 |ar=>exact .ar
 |map l loc h=>exact .map l loc (hle _ _ h)
 |cU=>exact .cU
 |func fn f c j g o d=>exact .func fn f c j g (bb.mono hle o) (bb.mono hle d)
 |nilFunc=>exact .nilFunc
 |iface t v x h=>exact .iface t v x (a1.mono hle h)
 |nilIface=>exact .nilIface
 |agg cs xs h=>exact .agg cs xs (bb.mono hle h)
 |tuple cs xs h=>exact .tuple cs xs (bb.mono hle h)
def bb.mono{ρ a:Env}(hle:ρ.le a){v:List aa}{x:List Value}(h:bb ρ v x):bb a v x:=by
  cases h with
  |nil=>exact .nil
  |cons v x c xs h b=>exact .cons v x c xs (a1.mono hle h) (bb.mono hle b)
 end
def bb.length{ρ:Env}:∀{a:List aa} {xs:List Value},bb ρ a xs->a.length=xs.length
 |[],_,h=>by cases h;rfl
 |_::_,_,h=>by cases h with|cons _ _ _ _ _ b=>simp[bb.length b]
def bb.get{ρ:Env}:∀{b:List aa} {xs:List Value},bb ρ b xs->∀(j:Nat) (v:aa),b[j]? =D v->∃x,xs[j]? =D x/\a1 ρ v x
 |[],_,h,j,v,a=>by simp at a
 |w::b,_,h,j,v,a=>by
  cases h with
  |cons _ x _ xs c d=>
   cases j with
   |zero=>simp at a;subst a;exact⟨x,rfl,c⟩
   |succ j=>simpa using bb.get d j v (by simpa using a)
def bb.append{ρ:Env}:∀{b us:List aa} {xs c:List Value},bb ρ b xs->bb ρ us c->bb ρ (b++us) (xs++c)
 |[],_,_,_,h,bs=>by cases h;exact bs
 |_::_,_,_,_,h,bs=>by cases h with|cons _ _ _ _ a as=>exact .cons _ _ _ _ a (bb.append as bs)
def bb.x2{ρ:Env}:∀{c:List aa} {xs:List Value},c.length=xs.length->(∀(j:Nat) (v:aa) (x:Value),c[j]? =D v->xs[j]? =D x->a1 ρ v x)->bb ρ c xs
 |[],[],_,_=> .nil
 |[],_::_,h,_=>by simp at h
 |_::_,[],h,_=>by simp at h
 |v::c,x::xs,h,d=> .cons _ _ _ _ (d 0 v x rfl rfl) (bb.x2 (by simpa using h) λj a b e f=>d (j+1) a b (by simpa using e) (by simpa using f))
def bb.set{ρ:Env}{v:aa}{x:Value}(h:a1 ρ v x):∀{c:List aa} {xs:List Value} (j:Nat),bb ρ c xs->bb ρ (c.set j v) (xs.set j x)
 |[],_,_,b=>by cases b;exact .nil
 |_::_,_,0,b=>by cases b with|cons _ _ _ _ a as=>exact .cons _ _ _ _ h as
 |_::_,_,j+1,b=>by cases b with|cons _ _ _ _ a as=>exact .cons _ _ _ _ a (bb.set h j as)
def aa.one:aa->Bool
 | .agg _| .tuple _=>U
 |_=>V
def aa.cells:aa->List aa
 | .agg cs=>cs
 |v=>[v]
def a1.sE{ρ:Env}{v:aa}{x:Value}(h:a1 ρ v x)(a:v.one=V):x.oneCell'=true:=by
 cases h<;>first|rfl|cases a
def a1.cells{ρ:Env}{v:aa}{x:Value}(h:a1 ρ v x):bb ρ v.cells x.cells.toList:=by
 cases h with
 |agg cs xs h=>simpa [aa.cells,Value.cells]using h
 |bool b=>exact .cons _ _ _ _ (.bool b) .nil
 |int k n=>exact .cons _ _ _ _ (.int k n) .nil
 |str s=>exact .cons _ _ _ _ (.str s) .nil
 |ptr l i c loc h=>exact .cons _ _ _ _ (.ptr l i c loc h) .nil
 |cr=>exact .cons _ _ _ _ .cr .nil
 |ag l i n cap loc a c h o d j=>exact .cons _ _ _ _ (.ag l i n cap loc a c h o d j) .nil
 |ar=>exact .cons _ _ _ _ .ar .nil
 |map l loc h=>exact .cons _ _ _ _ (.map l loc h) .nil
 |cU=>exact .cons _ _ _ _ .cU .nil
 |func fn f c g e m d=>exact .cons _ _ _ _ (.func fn f c g e m d) .nil
 |nilFunc=>exact .cons _ _ _ _ .nilFunc .nil
 |iface t v x h=>exact .cons _ _ _ _ (.iface t v x h) .nil
 |nilIface=>exact .cons _ _ _ _ .nilIface .nil
 |tuple cs xs h=>exact .cons _ _ _ _ (.tuple cs xs h) .nil
def cl(ρ:Env)(w:World)(loc:Loc)(ro:Bool)(esz:Nat)(els:List (List aa)):Prop:=loc.esz=esz/\∃c t a,w.heap[loc.block]? =D (.cells c t a)/\(loc.size=c.size/\(ro=U->∀aw,aw<c.size->¬(a.1<=aw/\aw<a.2)))/\ ∀(i:Nat) (e:List aa),els[i]? =D e->e.length=esz/\∀(j:Nat) (v:aa),e[j]? =D v->v.one=V/\∃x,c[loc.off+i*esz+j]? =D x/\a1 ρ v x
def eE(ρ:Env)(w:World)(loc:Loc)(t:TypeId)(esz:Nat)(els:List (List aa)):Prop:=cl ρ w loc U esz els/\∃c a,w.heap[loc.block]? =D (.cells c t a)/\loc.off=0
def rE(ρ:Env)(w:World)(loc:Loc)(es:List (aa×aa)):Prop:=∃ents clock,w.heap[loc.block]? =D (.map ents clock)/\bb ρ (es.map (·.1)) (ents.toList.map (·.key))/\bb ρ (es.map (·.2)) (ents.toList.map (·.val))
def ae.rw(H:ae)(l:Nat):Prop:=(∃esz els,H.get l=D (.row U esz els))\/(∃es,H.get l=D (.map es))\/∃t esz els,H.get l=D (.bS t esz els)
def ae.live(H:ae)(l:Nat):Prop:=(∃ro esz els,H.get l=D (.row ro esz els))\/(∃es,H.get l=D (.map es))\/∃t esz els,H.get l=D (.bS t esz els)
def ae.rw.live{H:ae}{l:Nat}(h:H.rw l):H.live l:=by
 rcases h with⟨e,s,h⟩|h
 ·exact .inl ⟨_,e,s,h⟩
 ·exact .inr h
def bk.hJ:bk->Bool
 | .row V _ _=>V
 |_=>U
def ae.sR{H:ae}{l:Nat}{b:bk}(c:b.hJ=U):∀k esz els,(H.set l b).get k=D (.row V esz els)->H.get k=D (.row V esz els):=by
 intro k esz els h;by_cases a:l=k
 ·subst a;have d:l<H.next:=by have:=ae.dz h;simpa using this
  rw[ae.dn d]at h;simp only[aV]at h;subst h;cases c
 ·rwa[ae.cx a]at h
def ae.sQ{H:ae}{b:bk}(c:b.hJ=U):∀k esz els,(H.push b).get k=D (.row V esz els)->H.get k=D (.row V esz els):=by
 intro k esz els h;by_cases a:k=H.next
 ·subst a;rw[ae.cJ]at h;simp only[aV]at h;subst h;cases c
 ·rwa[ae.cp a]at h
structure Rel(ρ:Env)(H:ae)(w:World):Prop where
 row:∀l ro esz els,H.get l=some (.row ro esz els)->∃loc,ρ l=some loc/\cl ρ w loc ro esz els
 map:∀l es,H.get l=some (.map es)->∃loc,ρ l=some loc/\rE ρ w loc es
 bS:∀l t esz els,H.get l=some (.bS t esz els)->∃loc,ρ l=some loc/\eE ρ w loc t esz els
 apart:∀l a loc b,H.rw l->H.live a->l≠a->ρ l=some loc->ρ a=some b->loc.block≠b.block
def cN(ρ:Env)(H:ae)(b:Nat):Prop:=∃l loc,H.rw l/\ρ l=D loc/\loc.block=b
structure Step(ρ:Env)(H:ae)(w:World)(c:Env)(H':ae)(a:World):Prop where
 le:ρ.le c
 next:H.next<=H'.next
 cD:∀l,l<H.next\/H'.next<=l->c l=ρ l
 rel:Rel c H' a
 os:a.os=w.os
 tape:a.tape=w.tape
 output:a.output=w.output
 size:w.heap.size<=a.heap.size
 frame:∀b,b<w.heap.size->¬cN ρ H b->a.heap[b]? =w.heap[b]?
 own:∀b,cN c H' b->cN ρ H b\/w.heap.size<=b
 ro:∀l esz els,H'.get l=some (.row true esz els)->H.get l=some (.row true esz els)
def Step.refl{ρ:Env}{H:ae}{w:World}(h:Rel ρ H w):Step ρ H w ρ H w:=
 ⟨ρ.le_refl,bM _,λ_ _=>rfl,h,rfl,rfl,rfl,bM _,λ_ _ _=>rfl,λ_ h=> .inl h,λ_ _ _ h=>h⟩
def Step.trans{ρ n o:Env}{H d f:ae}{w j m:World}(h:Step ρ H w n d j)(k:Step n d j o f m):Step ρ H w o f m where
 le:=Env.le_trans h.le k.le
 next:=Nat.le_trans h.next k.next
 cD:=λl g=>(k.cD l (g.imp (λx=>Nat.lt_of_lt_of_le x h.next) id)).trans (h.cD l (g.imp id (λx=>Nat.le_trans k.next x)))
 ro:=λl esz els e=>h.ro l esz els (k.ro l esz els e)
 rel:=k.rel
 os:=k.os.trans h.os
 tape:=k.tape.trans h.tape
 output:=k.output.trans h.output
 size:=Nat.le_trans h.size k.size
 frame:=λb a i=>by
  rw[k.frame b (Nat.lt_of_lt_of_le a h.size) (λc=>(h.own b c).elim i (λhle=>bj)),h.frame b a i]
 own:=λb a=>(k.own b a).elim (λc=>h.own b c) (λhle=> .inr (Nat.le_trans h.size hle))
def vN(ρ:Env)(n m:Nat):Prop:=∀l,n<=l->l<m->ρ l=Y
structure cS(E ρ:Env)(n m:Nat):Prop where
 new:vN ρ n m
 le:E.le ρ
def cS.left{E ρ:Env}{n m k:Nat}(h:cS E ρ n k)(hm:m<=k):cS E ρ n m:=⟨λl a b=>h.new l a bj,h.le⟩
def cS.after{E ρ d:Env}{H c:ae}{w e:World}{k:Nat}(h:cS E ρ H.next k)(s:Step ρ H w d c e):cS E d c.next k:=⟨λl a b=>by
 rw[s.cD l (.inr a)];exact h.new l (Nat.le_trans s.next a) b,Env.le_trans h.le s.le⟩
def Rel.drew{ρ:Env}{H:ae}{w:World}(h:Rel ρ H w):Rel ρ H w.drew:=⟨h.row,h.map,h.bS,h.apart⟩
end
def bT(P:Program)(t:TypeId):Option Bool:=
 match P.underlying t with
 |some (.struct _)|some (.array _ _)=>D V
 |some _=>D U
 |none=>Y
def bu(P:Program)(t:TypeId):Option Nat:=(P.info? t).map (·.size)
def nR{P:Program}{t:TypeId}{b:Bool}(h:bT P t=D b)(w:World):(isAgg t).run P w= .ok b w:=by
 unfold bT at h;unfold isAgg;cases hu:P.underlying t with
 |none=>rw[hu]at h;cases h
 |some d=>
  rw[hu]at h;simp only[Sem.run_bind,run_underlying hu,Result.andThen_ok];cases d<;>simp_all
def run_sizeOf{P:Program}{t:TypeId}{n:Nat}(h:bu P t=D n)(w:World):(sizeOf t).run P w= .ok n w:=by
 unfold bu at h;cases a:P.info? t with
 |none=>rw[a]at h;cases h
 |some i=>rw[a]at h;simp at h;simp[sizeOf,typeInfo,a,h]
def apart(P:Program)(t:TypeId)(cs:List aa)(off:Nat):Option aa:=
 match bT P t with
 |some V=>(match bu P t with|some n=>D (.agg ((cs.drop off).take n))|none=>Y)
 |some U=>cs[off]?
 |none=>Y
def bb.drop{ρ:Env}:∀{b:List aa} {xs:List Value} (n:Nat),bb ρ b xs->bb ρ (b.drop n) (xs.drop n)
 |_,_,0,h=>by simpa using h
 |[],_,n+1,h=>by cases h;simpa using bb.nil
 |_::_,_,n+1,h=>by cases h with|cons _ _ _ _ a as=>simpa using bb.drop n as
def bb.take{ρ:Env}:∀{b:List aa} {xs:List Value} (n:Nat),bb ρ b xs->bb ρ (b.take n) (xs.take n)
 |_,_,0,h=>by simpa using bb.nil
 |[],_,n+1,h=>by cases h;simpa using bb.nil
 |_::_,_,n+1,h=>by cases h with|cons _ _ _ _ a as=>simpa using bb.cons _ _ _ _ a (bb.take n as)
def eI{P:Program}{t:TypeId}{cs:List aa}{off:Nat}{v:aa}{ρ:Env}{xs:List Value}(h:apart P t cs off=D v)(b:bb ρ cs xs)(w:World):
  ∃x,(part t xs.toArray off).run P w= .ok x w/\a1 ρ v x:=by
 unfold apart at h;split at h
 ·rename_i a;split at h
  ·rename_i n c;simp at h;subst h;refine⟨.agg (((xs.drop off).take n).toArray),?_,.agg _ _ ((b.drop off).take n)⟩;unfold part;simp only[Sem.run_bind,nR a,Result.andThen_ok,if_true,run_sizeOf c];simp[List.extract_toArray,List.extract_eq_take_drop]
  ·cases h
 ·rename_i a;obtain⟨x,e,d⟩:=b.get off v h;refine⟨x,?_,d⟩;unfold part;simp[nR a,e]
 ·cases h
def dB(op:BinOp)(k:IntKind)(a b:Int):Option aa:=
 match op with
 | .add=>D (.int k (k.wrap (a+b)))
 | .sub=>D (.int k (k.wrap (a-b)))
 | .mul=>D (.int k (k.wrap (a*b)))
 | .quo=>if b=0 then Y else D (.int k (k.wrap (a.tdiv b)))
 | .rem=>if b=0 then Y else D (.int k (a.tmod b))
 | .and=>D (.int k (k.wrap ((BitVec.ofInt k.bits a&&&BitVec.ofInt k.bits b).toNat:Int)))
 | .or=>D (.int k (k.wrap ((BitVec.ofInt k.bits a|||BitVec.ofInt k.bits b).toNat:Int)))
 | .xor=>D (.int k (k.wrap ((BitVec.ofInt k.bits a^^^BitVec.ofInt k.bits b).toNat:Int)))
 | .andNot=>D (.int k (k.wrap ((BitVec.ofInt k.bits a&&& ~~~BitVec.ofInt k.bits b).toNat:Int)))
 | .eql=>D (.bool (a==b))
 | .neq=>D (.bool (a != b))
 | .lss=>D (.bool (decide (a<b)))
 | .leq=>D (.bool (decide (a<=b)))
 | .gtr=>D (.bool (decide (b<a)))
 | .geq=>D (.bool (decide (b<=a)))
 | .shl| .shr=>Y
def gE(op:BinOp)(k:IntKind)(a b:Int):Option aa:=
 if b<0 then Y else
 match op with
 | .shl=>D (.int k (k.wrap (a*2^(min b.toNat k.bits))))
 | .shr=>D (.int k (a.fdiv (2^(min b.toNat k.bits))))
 |_=>Y
def rq(op:BinOp)(a b:List UInt8):Option aa:=
 match op with
 | .add=>if a.length+b.length<=9223372036854775807 then D (.str (a++b))else Y
 | .eql=>D (.bool (a==b))
 | .neq=>D (.bool (!(a==b)))
 | .lss=>D (.bool (Op.bytesLess a b))
 | .leq=>D (.bool (Op.bytesLess a b||a==b))
 | .gtr=>D (.bool (!(Op.bytesLess a b||a==b)))
 | .geq=>D (.bool (!Op.bytesLess a b))
 |_=>Y
def gj(P:Program)(eq:TypeId->aa->aa->Option Bool):List Field->List aa->List aa->Option Bool
 |[],_,_=>D V
 |f::d,xs,c=>
  if f.name≠ "_" then
   match apart P f.type xs f.offset,apart P f.type c f.offset with
   |some a,D b=>(match eq f.type a b with|some V=>gj P eq d xs c|some U=>D U|none=>Y)
   |_,_=>Y
  else gj P eq d xs c
def hv(P:Program)(eq:TypeId->aa->aa->Option Bool)(e:TypeId)(n:Nat):Nat->Nat->List aa->List aa->Option Bool
 |0,_,_,_=>D V
 |k+1,i,xs,c=>
  match apart P e xs (i*n),apart P e c (i*n)with
  |some a,D b=>(match eq e a b with|some V=>hv P eq e n k (i+1) xs c|some U=>D U|none=>Y)
  |_,_=>Y
def dI(P:Program):Nat->TypeId->aa->aa->Option Bool
 |0,_,_,_=>Y
 |d+1,t,x,y=>
  match P.underlying t,x,y with
  |some .bool,.bool a,.bool b=>D (a==b)
  |some (.int _),.int k a,.int g b=>if k=g then D (a==b)else Y
  |some .string,.str a,.str b=>D (a==b)
  |some (.pointer _),.cr,.cr=>D V
  |some (.pointer _),.cr,.ptr .. =>D U
  |some (.pointer _),.ptr ..,.cr=>D U
  |some (.interface _),.nilIface,.nilIface=>D V
  |some (.interface _),.nilIface,.iface .. =>D U
  |some (.interface _),.iface ..,.nilIface=>D U
  |some (.struct f),.agg xs,.agg c=>if P.stoodInHeld t then Y else gj P (dI P d) f.toList xs c
  |some (.array len e),.agg xs,.agg c=>(match bu P e with|some n=>hv P (dI P d) e n len 0 xs c|none=>Y)
  |some (.slice _),.ar,.ar=>D V
  |some (.slice _),.ar,.ag .. =>D U
  |some (.slice _),.ag ..,.ar=>D U
  |some (.map _ _),.cU,.cU=>D V
  |some (.map _ _),.cU,.map _=>D U
  |some (.map _ _),.map _,.cU=>D U
  |some (.func _ _ _),.nilFunc,.nilFunc=>D V
  |some (.func _ _ _),.nilFunc,.func .. =>D U
  |some (.func _ _ _),.func ..,.nilFunc=>D U
  |_,_,_=>Y
def isConst:Operand->Bool
 | .const _=>V
 |_=>U
def fs(P:Program)(t:TypeId)(x y:Operand)(a b:aa):Bool:=
 match a,b with
 | .nilIface,.nilIface=>isConst x||isConst y
 | .agg _,.agg _=> !P.eqGuardType P.depth t
 |_,_=>V
def hq(P:Program)(op:BinOp)(t:TypeId)(c d:Operand)(x y:aa):Option aa:=
 match x,y with
 | .int k a,.int e b=>
  (match op with
  | .shl=>gE .shl k a b
  | .shr=>gE .shr k a b
  |op=>if k=e then dB op k a b else Y)
 | .str a,.str b=>rq op a b
 |x,y=>
  (match op with
  | .eql=>if fs P t c d x y then(dI P 10000 t x y).map .bool else Y
  | .neq=>if fs P t c d x y then(dI P 10000 t x y).map λb=> .bool (!b)else Y
  |_=>Y)
def bt(op:UnOp)(x:aa):Option aa:=
 match op,x with
 | .neg,.int k n=>D (.int k (k.wrap (0-n)))
 | .not,.bool b=>D (.bool (!b))
 |_,_=>Y
end Go.bN
namespace Go
def Operand.nw:Operand->Bool
 | .const _=>V
 |_=>U
end Go
namespace Go.bN
section
variable {P:Program}{ρ:Env}
def sS(w:World)(eq:TypeId->aa->aa->Option Bool)(g:TypeId->Value->Value->Sem Bool)
  (heq:∀t a b x y c,eq t a b=D c->a1 ρ a x->a1 ρ b y->(g t x y).run P w= .ok c w) {xs r:List aa} {q s:List Value} (j:bb ρ xs q) (k:bb ρ r s):
  ∀(d:List Field) (b:Bool),gj P eq d xs r=D b->
   (forIn d ((Y:Option Bool),()) (λf _=>
    (if f.name≠ "_" then do
     let a<-part f.type q.toArray f.offset
     let b<-part f.type s.toArray f.offset
     let c<-g f.type a b
     if(!c)=V then pure (ForInStep.done (D U,()))else pure (ForInStep.yield (Y,()))
    else pure (ForInStep.yield (Y,())):Sem (ForInStep (Option Bool×Unit))))).run P w= .ok (if b then(Y,())else(D U,())) w
 |[],b,h=>by
  simp[gj]at h;subst h;simp[Sem.run_pure]
 |f::d,b,h=>by
  unfold gj at h;rw[List.forIn_cons];by_cases e:f.name≠ "_"
  ·rw[if_pos e]at h;split at h
   ·rename_i a b5 u v;obtain⟨x,o,m⟩:=eI u j w;obtain⟨y,p,n⟩:=eI v k w;split at h
    ·rename_i he;have i:=heq _ _ _ _ _ _ he m n;have l:=sS w eq g heq j k d b h;simp only[if_pos e,Sem.run_bind,o,p,i,Result.andThen_ok,Bool.not_true,Bool.false_eq_true,if_false,Sem.run_pure];exact l
    ·rename_i he;have i:=heq _ _ _ _ _ _ he m n;simp at h;subst h;simp only[if_pos e,Sem.run_bind,o,p,i,Result.andThen_ok,Bool.not_false,if_true,Sem.run_pure];rfl
    ·cases h
   ·cases h
  ·rw[if_neg e]at h;have l:=sS w eq g heq j k d b h;simp only[if_neg e,Sem.run_bind,Sem.run_pure,Result.andThen_ok];exact l
def yw(w:World)(e:TypeId)(n:Nat)(eq:TypeId->aa->aa->Option Bool)(d:TypeId->Value->Value->Sem Bool)
  (heq:∀t a b x y c,eq t a b=D c->a1 ρ a x->a1 ρ b y->(d t x y).run P w= .ok c w) {xs r:List aa} {q s:List Value} (l:bb ρ xs q) (o:bb ρ r s):
  ∀(k i:Nat) (b:Bool),hv P eq e n k i xs r=D b->
   (forIn (List.range' i k) ((Y:Option Bool),()) (λi _=>
    (do
     let a<-part e q.toArray (i*n)
     let b<-part e s.toArray (i*n)
     let c<-d e a b
     if(!c)=V then pure (ForInStep.done (D U,()))else pure (ForInStep.yield (Y,())):Sem (ForInStep (Option Bool×Unit))))).run P w= .ok (if b then(Y,())else(D U,())) w
 |0,i,b,h=>by
  simp[hv]at h;subst h;simp[Sem.run_pure]
 |k+1,i,b,h=>by
  unfold hv at h;rw[List.range'_succ,List.forIn_cons];split at h
  ·rename_i a b5 u v;obtain⟨x,m,g⟩:=eI u l w;obtain⟨y,p,j⟩:=eI v o w;split at h
   ·rename_i he;have f:=heq _ _ _ _ _ _ he g j;have z:=yw w e n eq d heq l o k (i+1) b h;simp only[Sem.run_bind,m,p,f,Result.andThen_ok,Bool.not_true,Bool.false_eq_true,if_false,Sem.run_pure];exact z
   ·rename_i he;have f:=heq _ _ _ _ _ _ he g j;simp at h;subst h;simp only[Sem.run_bind,m,p,f,Result.andThen_ok,Bool.not_false,if_true,Sem.run_pure];rfl
   ·cases h
  ·cases h
def vC(a b:List UInt8):((⟨a.toArray⟩:ByteArray)==⟨b.toArray⟩)=(a==b):=by
 have:((⟨a.toArray⟩:ByteArray)==⟨b.toArray⟩)=(a.toArray==b.toArray):=rfl;rw[this];simp
def hD(w:World):∀(d:Nat) (t:TypeId) (x y:aa) (g i:Value) (b:Bool),dI P d t x y=D b->a1 ρ x g->a1 ρ y i->
  (Op.equalIn d t g i).run P w= .ok b w
 |0,t,x,y,g,i,b,h,_,_=>by cases h
 |d+1,t,x,y,g,i,b,h,e,f=>by
  have l:=hD w d;unfold dI at h;unfold Op.equalIn;cases hu:P.underlying t with
  |none=>rw[hu]at h;cases h
  |some u=>
   rw[hu]at h;simp only[Sem.run_bind,run_underlying hu,Result.andThen_ok];split at h<;>(try (cases h;done))<;>(try simp only[aV]at*)<;>(try subst_vars)<;>(try (cases e;cases f;simp;done))
   ·cases e;cases f;split at h
    ·rename_i m;subst m;simp at h;subst h;simp
    ·cases h
   ·cases e;cases f;simp[vC]
   ·cases e with|agg _ r e=>cases f with|agg _ s f=>
    split at h
    ·cases h
    ·rename_i o;have p:P.stoodInHeld t=false:=by simpa using o
     have:=sS w (dI P d) (Op.equalIn d) (λt a b x y c he j k=>l t a b x y c he j k) e f _ b h;simp only[Sem.run_bind,run_program,Result.andThen_ok,p,Bool.false_eq_true,if_false];rw[<-Array.forIn_toList,this];cases b<;>simp
   ·cases e with|agg _ r e=>cases f with|agg _ s f=>
    split at h
    ·rename_i q n;have:=yw w _ q (dI P d) (Op.equalIn d) (λt a b x y c he j k=>l t a b x y c he j k) e f _ _ b h;simp only[Sem.run_bind,run_sizeOf n,Result.andThen_ok];rw[Std.Legacy.Range.forIn_eq_forIn_range'];simp only[Std.Legacy.Range.size,Nat.sub_zero,Nat.add_sub_cancel,Nat.div_one]at this ⊢;rw[this];cases b<;>simp
    ·cases h
def D8{op:BinOp}{k:IntKind}{a b:Int}{v:aa}(h:dB op k a b=D v)(t:TypeId)(w:World):
  ∃r,(binOp op t (.int k a) (.int k b)).run P w= .ok r w/\a1 ρ v r:=by
 unfold dB at h;cases op<;>simp only at h<;>(try (cases h;done))<;>(try (simp only[aV]at h;subst h))<;>
  (try (exact⟨_,by simp only[binOp,ne_eq,not_true_eq_false,if_false,Op.intArith,Op.intBits,Op.intCmp];exact Sem.run_pure ..,by first|exact .int _ _|exact .bool _⟩))
 ·split at h
  ·cases h
  ·rename_i c;simp only[aV]at h;subst h;exact⟨_,by simp only[binOp,ne_eq,not_true_eq_false,if_false,Op.intDiv,c];exact Sem.run_pure ..,.int _ _⟩
 ·split at h
  ·cases h
  ·rename_i c;simp only[aV]at h;subst h;exact⟨_,by simp only[binOp,ne_eq,not_true_eq_false,if_false,Op.intDiv,c];exact Sem.run_pure ..,.int _ _⟩
def wQ{op:BinOp}{k d:IntKind}{a b:Int}{v:aa}(h:gE op k a b=D v)(t:TypeId)(w:World):
  ∃r,(binOp op t (.int k a) (.int d b)).run P w= .ok r w/\a1 ρ v r:=by
 unfold gE at h;split at h
 ·cases h
 ·rename_i c;cases op<;>simp only at h<;>(try (cases h;done))<;>simp only[aV]at h<;>subst h
  ·exact⟨_,by simp only[binOp,Op.shift,if_neg c];exact Sem.run_pure ..,.int _ _⟩
  ·exact⟨_,by simp only[binOp,Op.shift,if_neg c];exact Sem.run_pure ..,.int _ _⟩
def toList_mk(a:List UInt8):(⟨a.toArray⟩:ByteArray).toList=a:=by rw[ByteArray.toList_eq]
def Gl(a b:List UInt8):(⟨a.toArray⟩++⟨b.toArray⟩:ByteArray)=⟨(a++b).toArray⟩:=by
 apply ByteArray.ext;simp
def TC{op:BinOp}{a b:List UInt8}{v:aa}(h:rq op a b=D v)(t:TypeId)(w:World):
  ∃r,(binOp op t (.string ⟨a.toArray⟩) (.string ⟨b.toArray⟩)).run P w= .ok r w/\a1 ρ v r:=by
 unfold rq at h;unfold binOp;cases op<;>simp only at h<;>(try (cases h;done))<;>(try (simp only[aV]at h;subst h))<;>
  (try (exact⟨_,by simp only[Op.stringOp,toList_mk];exact Sem.run_pure ..,.bool _⟩))
 split at h
 ·rename_i f;simp only[aV]at h;subst h;refine⟨.string ⟨(a++b).toArray⟩,?_,.str _⟩;simp only[Op.stringOp];rw[if_neg,Gl]
  ·exact Sem.run_pure ..
  ·have e:IntKind.i64.max=9223372036854775807:=rfl;have c:(⟨a.toArray⟩:ByteArray).size=a.length:=by show a.toArray.size=_;simp
   have d:(⟨b.toArray⟩:ByteArray).size=b.length:=by show b.toArray.size=_;simp
   rw[e,c,d];omega
 ·cases h
def r9{op:BinOp}{t:TypeId}{a b:Operand}{x y:aa}{d e:Value}(h:fs P t a b x y=V)(g:a1 ρ x d)(c:a1 ρ y e)(w:World):
  (eqGuard op t a b d e).run P w= .ok () w:=by
 have f:a.nw||b.nw=V->(eqGuard op t a b .nilIface .nilIface).run P w= .ok () w:=by
  intro h;cases op<;>first
   |rfl
   |(cases a<;>cases b<;>first|rfl|(simp[Operand.nw]at h;done))
 cases g with
 |nilIface=>
  cases c with
  |nilIface=>
   refine f ?_;simp only[fs]at h;cases a<;>cases b<;>simp_all[isConst,Operand.nw]
  |_=>cases op<;>rfl
 |agg cs xs j=>
  cases c with
  |agg i l k=>
   simp only[fs,Bool.not_eq_true']at h;cases op<;>first|rfl|simp[eqGuard,h]
  |_=>cases op<;>rfl
 |_=>cases c<;>cases op<;>rfl
def binOp_eql{x y:aa}{c d:Value}(g:a1 ρ x c)(h:a1 ρ y d)(e:∀k a i b,x= .int k a->y= .int i b->False)(f:∀a b,x= .str a->y= .str b->False)(t:TypeId):
  binOp .eql t c d=(do pure (.bool (<-Op.equal t c d)))/\binOp .neq t c d=(do pure (.bool (!(<-Op.equal t c d)))):=by
 cases g<;>cases h<;>first
  |exact⟨rfl,rfl⟩
  |exact(e _ _ _ _ rfl rfl).elim
  |exact(f _ _ rfl rfl).elim
def zh{op:BinOp}{t:TypeId}{i j:Operand}{x y v:aa}{f g:Value}(h:hq P op t i j x y=D v)(c:a1 ρ x f)(d:a1 ρ y g)(w:World):
  ∃r,((do eqGuard op t i j f g;binOp op t f g:Sem Value)).run P w= .ok r w/\a1 ρ v r:=by
 have s:∀k a e b,(eqGuard op t i j (.int k a) (.int e b)).run P w= .ok () w:=λk a e b=>r9 (ρ:=ρ) (x:= .int k a) (y:= .int e b) rfl (.int _ _) (.int _ _) w
 have u:∀a b,(eqGuard op t i j (.string ⟨a⟩) (.string ⟨b⟩)).run P w= .ok () w:=λa b=>by
  unfold eqGuard;split<;>rfl
 unfold hq at h;split at h
 ·cases c;cases d;rename_i k a e b;simp only[Sem.run_bind,s,Result.andThen_ok];split at h
  ·exact wQ h t w
  ·exact wQ h t w
  ·split at h
   ·rename_i z;subst z;exact D8 h t w
   ·cases h
 ·cases c;cases d;simp only[Sem.run_bind,u,Result.andThen_ok];exact TC h t w
 ·rename_i A B;obtain⟨p,q⟩:=binOp_eql c d (λk a e b l m=>A _ _ _ _ l m) (λa b l m=>B _ _ l m) t;split at h
  ·split at h
   ·rename_i o;rw[Sem.run_bind,r9 o c d w,Result.andThen_ok];simp only[Option.map_eq_some_iff]at h;obtain⟨b,n,rfl⟩:=h;have he:(Op.equal t f g).run P w= .ok b w:=hD (ρ:=ρ) w _ _ _ _ _ _ _ n c d;exact⟨.bool b,by rw[p,Sem.run_bind,he];rfl,.bool b⟩
   ·cases h
  ·split at h
   ·rename_i o;rw[Sem.run_bind,r9 o c d w,Result.andThen_ok];simp only[Option.map_eq_some_iff]at h;obtain⟨b,n,rfl⟩:=h;have he:(Op.equal t f g).run P w= .ok b w:=hD (ρ:=ρ) w _ _ _ _ _ _ _ n c d;exact⟨.bool (!b),by rw[q,Sem.run_bind,he];rfl,.bool _⟩
   ·cases h
  ·cases h
def z7{op:UnOp}{x v:aa}{b:Value}(h:bt op x=D v)(a:a1 ρ x b)(w:World):∃r,(Op.unary op b).run P w= .ok r w/\a1 ρ v r:=by
 unfold bt at h;split at h
 ·cases a;simp only[aV]at h;subst h;exact⟨_,by simp only[Op.unary,Op.intArith];exact Sem.run_pure ..,.int _ _⟩
 ·cases a;simp only[aV]at h;subst h;exact⟨_,by simp only[Op.unary];exact Sem.run_pure ..,.bool _⟩
 ·cases h
end
section
variable {P:Program}{ρ:Env}{H:ae}{w:World}
def cV(c:Array Value)(aw:Nat):List Value->Array Value
 |[]=>c
 |v::r=>cV (c.setIfInBounds aw v) (aw+1) r
def hV:∀(a:List Value) (c:Array Value) (aw:Nat),(cV c aw a).size=c.size
 |[],_,_=>rfl
 |v::r,c,aw=>by rw[cV,hV r];simp
def gM:∀(a:List Value) (c:Array Value) (aw k:Nat),k<aw\/aw+a.length<=k->(cV c aw a)[k]? =c[k]?
 |[],_,_,_,_=>rfl
 |v::r,c,aw,k,h=>by
  rw[cV,gM r _ _ _ (by simp at h;omega)];rw[Array.getElem?_setIfInBounds];have:¬aw=k:=by simp at h;omega
  simp[this]
def nM:∀(a:List Value) (c:Array Value) (aw j:Nat) (x:Value),a[j]? =D x->aw+j<c.size->(cV c aw a)[aw+j]? =D x
 |[],_,_,_,_,h,_=>by simp at h
 |v::r,c,aw,0,x,h,b=>by
  simp at h;subst h;rw[cV,gM r _ _ _ bj,Array.getElem?_setIfInBounds];simp;omega
 |v::r,c,aw,j+1,x,h,b=>by
  rw[cV,show aw+(j+1)=aw+1+j by omega];exact nM r _ _ _ _ (by simpa using h) (by simp;omega)
def m4(b:Nat):∀(d:List Value) (aw:Nat) (w:World) (c:Array Value) (t:TypeId) (a:Nat×Nat),w.heap[b]? =D (.cells c t a)->
  (w.setCells b aw d).heap[b]? =D (.cells (cV c aw d) t a)
 |[],_,_,_,_,_,h=>h
 |v::r,aw,w,c,t,a,h=>by
  rw[World.setCells,cV];refine m4 b r (aw+1) _ _ t a ?_;simp[World.setCell,Array.getElem?_modify,h]
def ea(b:Nat):∀(a:List Value) (aw:Nat) (w:World) (k:Nat),k≠b->(w.setCells b aw a).heap[k]? =w.heap[k]?
 |[],_,_,_,_=>rfl
 |v::r,aw,w,k,h=>by
  rw[World.setCells,ea b r _ _ _ h];simp[World.setCell,Array.getElem?_modify,Ne.symm h]
def vx(b:Nat):∀(e:List Value) (aw:Nat) (w:World),(w.setCells b aw e).heap.size=w.heap.size/\(w.setCells b aw e).os=w.os/\(w.setCells b aw e).tape=w.tape/\(w.setCells b aw e).output=w.output
 |[],_,_=>⟨rfl,rfl,rfl,rfl⟩
 |v::r,aw,w=>by
  rw[World.setCells];obtain⟨a,b,c,d⟩:=vx b r (aw+1) (w.setCell ⟨b,aw,Y⟩ v);exact⟨a.trans (by simp[World.setCell]),b,c,d⟩
def cl.cell{loc:Loc}{ro:Bool}{esz:Nat}{els:List (List aa)}(h:cl ρ w loc ro esz els){i:Nat}{e:List aa}(he:els[i]? =D e){j:Nat}{v:aa}(g:e[j]? =D v):
  ∃x,w.cell? ⟨loc.block,loc.off+i*loc.esz+j,Y⟩=D x/\a1 ρ v x/\v.one=true:=by
 obtain⟨rfl,c,t,k,f,_,a⟩:=h;obtain⟨_,b⟩:=a i e he;obtain⟨d,x,b,a⟩:=b j v g;exact⟨x,by simp[World.cell?,f,b],a,d⟩
def ah(P:Program)(H:ae)(t:TypeId)(a:aa):Option aa:=
 match a with
 | .ptr l i c=>
  (match H.get l with
  |some (.row _ esz els)=>
   (match els[i]?,bT P t with
   |some e,D U=>e[c]?
   |some e,D V=>(match bu P t with|some n=>if c+n<=esz then D (.agg ((e.drop c).take n))else Y|none=>Y)
   |_,_=>Y)
  |some (.bS _ esz els)=>
   (match els[i]?,bT P t with
   |some e,D U=>e[c]?
   |some e,D V=>(match bu P t with|some n=>if c+n<=esz then D (.agg ((e.drop c).take n))else Y|none=>Y)
   |_,_=>Y)
  |_=>Y)
 |_=>Y
def ei(b aw j:Nat):(⟨b,aw,Y⟩:Addr).add j=⟨b,aw+j,Y⟩:=by
 unfold Addr.add;split<;>simp_all
def vV{loc:Loc}{l i c:Nat}{ro:Bool}{esz:Nat}{els:List (List aa)}(F:ρ l=D loc)(o:cl ρ w loc ro esz els){t:TypeId}{v:aa}
 (h:(match els[i]?,bT P t with
  |some e,D U=>e[c]?
  |some e,D V=>(match bu P t with|some n=>if c+n<=esz then D (.agg ((e.drop c).take n))else Y|none=>Y)
  |_,_=>Y)=D v):
 ∃r,(Instr.loadAt t (.pointer (D ⟨loc.block,loc.off+i*loc.esz+c,Y⟩))).run P w= .ok r w/\a1 ρ v r:=by
  split at h
  ·rename_i e he d;obtain⟨x,k,p,_⟩:=o.cell he h;refine⟨x,?_,p⟩;simp[Instr.loadAt,Instr.sureAddr,loadVar,nR d,run_load,k]
  ·rename_i e he d;split at h
   ·rename_i n q;split at h
    ·rename_i hle;simp only[aV]at h;subst h;have hlen:e.length=esz:=by obtain⟨_,B,G,C,_,_,z⟩:=o;exact(z i e he).1
     have hex:∃xs:List Value,xs.length=n/\bb ρ ((e.drop c).take n) xs/\∀j y,xs[j]? =D y->w.cell? ⟨loc.block,loc.off+i*loc.esz+c+j,Y⟩=D y:=by
      clear d q
      induction n with
      |zero=>exact⟨[],rfl,by simpa using bb.nil,λj y a=>by simp at a⟩
      |succ n A=>
       obtain⟨xs,b,f,g⟩:=A bj;have s:c+n<e.length:=bj;obtain⟨x,k,p,_⟩:=o.cell he (j:=c+n) (v:=e[c+n]) (by simp[s]);refine⟨xs++[x],by simp[b],?_,?_⟩
       ·rw[List.take_succ_eq_append_getElem (by simp;omega)];refine f.append (.cons _ _ _ _ ?_ .nil);simpa using p
       ·intro j y a;by_cases u:j<xs.length
        ·rw[List.getElem?_append_left u]at a;exact g j y a
        ·rw[List.getElem?_append_right bj]at a;have:j=n:=by
          by_cases E:j-xs.length=0
          ·omega
          ·obtain⟨m,hm⟩:∃m,j-xs.length=m+1:=⟨j-xs.length-1,bj⟩;rw[hm]at a;simp at a
         subst this;simp[b]at a;subst a;rw[<-k,Nat.add_assoc]
     obtain⟨xs,b,f,g⟩:=hex;refine⟨.agg xs.toArray,?_,.agg _ _ f⟩;have:=run_loadCells_list (P:=P) w ⟨loc.block,loc.off+i*loc.esz+c,Y⟩ xs (λj y a=>by rw[ei];exact g j y a);rw[b]at this;simp[Instr.loadAt,Instr.sureAddr,loadVar,nR d,run_sizeOf q,this]
    ·cases h
   ·cases h
  ·cases h
def rN(j:Rel ρ H w){t:TypeId}{a v:aa}{x:Value}(h:ah P H t a=D v)(k:a1 ρ a x):
  ∃r,(Instr.loadAt t x).run P w= .ok r w/\a1 ρ v r:=by
 unfold ah at h;split at h
 ·rename_i l i c;cases k with|ptr _ _ _ loc b=>
  split at h
  ·rename_i ro esz els d;obtain⟨g,e,f⟩:=j.row _ _ _ _ d;obtain rfl:loc=g:=Option.some.inj (b.symm.trans e);exact vV b f h
  ·rename_i m esz els d;obtain⟨g,e,f,-⟩:=j.bS _ _ _ _ d;obtain rfl:loc=g:=Option.some.inj (b.symm.trans e);exact vV b f h
  ·cases h
 ·cases h
def b8(ot:Option TypeId)(esz:Nat)(els:List (List aa)):bk:=match ot with
 |none=> .row U esz els
 |some t=> .bS t esz els
def sx(ot:Option TypeId)(esz:Nat)(els:List (List aa)):(b8 ot esz els).hJ=false:=by cases ot<;>rfl
def sy{ot:Option TypeId}{esz b:Nat}{els a:List (List aa)}{ro:Bool}(h:b8 ot esz els= .row ro b a):ro=U/\esz=b/\els=a/\ot=none:=by
 cases ot<;>cases h;exact⟨rfl,rfl,rfl,rfl⟩
def sz{ot:Option TypeId}{esz b:Nat}{els a:List (List aa)}{t:TypeId}(h:b8 ot esz els= .bS t b a):ot=D t/\esz=b/\els=a:=by
 cases ot<;>cases h;exact⟨rfl,rfl,rfl⟩
def sw{ot:Option TypeId}{esz:Nat}{els:List (List aa)}{es:List (aa×aa)}(h:b8 ot esz els= .map es):False:=by cases ot<;>cases h
def fE{H:ae}{l:Nat}{ot:Option TypeId}{esz:Nat}{els:List (List aa)}(h:H.get l=D (b8 ot esz els)):H.rw l:=by
 cases ot with
 |none=>exact .inl ⟨_,_,h⟩
 |some t=>exact .inr (.inr ⟨_,_,_,h⟩)
def nE(d:Rel ρ H w){l:Nat}{ot:Option TypeId}{esz:Nat}{els:List (List aa)}(h:H.get l=D (b8 ot esz els)):∃loc,ρ l=D loc/\cl ρ w loc U esz els/\∀t,ot=D t->∃c e,w.heap[loc.block]? =D (.cells c t e)/\loc.off=0:=by
 cases ot with
 |none=>obtain⟨loc,a,b⟩:=d.row _ _ _ _ h;exact⟨loc,a,b,λt h=>by cases h⟩
 |some t=>obtain⟨loc,a,b,c⟩:=d.bS _ _ _ _ h;exact⟨loc,a,b,λt h=>by cases h;exact c⟩
def ck(e:List aa)(c:Nat)(cs:List aa):List aa:=e.take c++cs++e.drop (c+cs.length)
def yM{e:List aa}{c:Nat}{cs:List aa}(h:c+cs.length<=e.length):(ck e c cs).length=e.length:=by
 simp[ck];omega
def yL{e:List aa}{c:Nat}{cs:List aa}(h:c+cs.length<=e.length){j:Nat}(a:c<=j)(b:j<c+cs.length):(ck e c cs)[j]? =cs[j-c]? :=by
 unfold ck;rw[List.append_assoc,List.getElem?_append_right (by simp;omega),List.getElem?_append_left (by simp;omega)]
 congr 1;simp;omega
def yN{e:List aa}{c:Nat}{cs:List aa}(h:c+cs.length<=e.length){j:Nat}(a:j<c\/c+cs.length<=j):(ck e c cs)[j]? =e[j]? :=by
 unfold ck;rcases a with a|a
 ·rw[List.append_assoc,List.getElem?_append_left (by simp;omega),List.getElem?_take_of_lt a]
 ·rw[List.getElem?_append_right (by simp;omega),List.getElem?_drop]
  congr 1;simp;omega
def hL{a b n:Nat}(h:a<b):a*n+n<=b*n:=by
 have:=Nat.mul_le_mul_right n (Nat.succ_le_of_lt h);rw[Nat.succ_mul]at this;exact this
def y2(o:Rel ρ H w){ot:Option TypeId}{l esz:Nat}{els:List (List aa)}(q:H.get l=D (b8 ot esz els)){loc:Loc}(u:ρ l=D loc){i:Nat}{e:List aa}(he:els[i]? =D e)
  {c:Nat} {cs:List aa} {xs:List Value} (aQ:c+cs.length<=esz) (r:∀v∈cs,v.one=V) (aj:bb ρ cs xs):
  Step ρ H w ρ (H.set l (b8 ot esz (els.set i (ck e c cs)))) (w.setCells loc.block (loc.off+i*loc.esz+c) xs):=by
 have P:=ae.dz q;obtain⟨f,g,⟨s,arr,t,E,G,aB,K⟩,aH⟩:=nE o q;obtain rfl:loc=f:=Option.some.inj (u.symm.trans g);have aA:=(K i e he).1;have aC:i<els.length:=by
  rcases Nat.lt_or_ge i els.length with h|h
  ·exact h
  ·rw[List.getElem?_eq_none h]at he;cases he
 have al:=aj.length;have Q:∀a f,H.live a->a≠l->ρ a=D f->f.block≠loc.block:=λa f h bs g heq=>
  o.apart l a loc f (fE q) h (Ne.symm bs) u g heq.symm
 have ai:∀a,(H.set l (b8 ot esz (els.set i (ck e c cs)))).rw a->H.rw a:=by
  intro a h;by_cases d:l=a
  ·subst d;exact fE q
  ·simpa [ae.rw,ae.cx d]using h
 have aF:∀a,(H.set l (b8 ot esz (els.set i (ck e c cs)))).live a->H.live a:=by
  intro a h;by_cases d:l=a
  ·subst d;exact(fE q).live
  ·simpa [ae.live,ae.cx d]using h
 obtain⟨s1,s2,g5,qG⟩:=vx loc.block xs (loc.off+i*loc.esz+c) w;have ah:cl ρ (w.setCells loc.block (loc.off+i*loc.esz+c) xs) loc U esz (els.set i (ck e c cs))/\∃M E,(w.setCells loc.block (loc.off+i*loc.esz+c) xs).heap[loc.block]? =D (.cells M t E):= ?new;refine⟨ρ.le_refl,bM _,λ_ _=>rfl,⟨?_,?_,?_,?_⟩,s2,g5,qG,Nat.le_of_eq s1.symm,?_,?_,ae.sR (sx _ _ _)⟩
 case new=>
  refine⟨⟨s,_,t,E,m4 _ _ _ _ _ _ _ G,?_,?_⟩,_,E,m4 _ _ _ _ _ _ _ G⟩
  ·rw[hV];exact aB
  ·intro am ab p;rw[List.getElem?_set]at p;by_cases O:i=am
   ·subst O;rw[if_pos rfl,if_pos aC]at p;simp only[aV]at p;subst p;have S:c+cs.length<=e.length:=bj;refine⟨by rw[yM S];exact aA,?_⟩;intro j v k;by_cases af:c<=j/\j<c+cs.length
    ·rw[yL S af.1 af.2]at k;obtain⟨x,z,y⟩:=aj.get _ _ k;refine⟨r v (List.mem_of_getElem? k),x,?_,y⟩;have az:=(K i e he).2 j (e[j]'bj) (by simp);obtain⟨_,aU,ak,_⟩:=az;have aS:loc.off+i*esz+j<arr.size:=by
      rcases Nat.lt_or_ge (loc.off+i*esz+j) arr.size with h|h
      ·exact h
      ·rw[Array.getElem?_eq_none h]at ak;cases ak
     have:=nM xs arr (loc.off+i*loc.esz+c) (j-c) x z (by rw[s];omega);rw[show loc.off+i*esz+j=loc.off+i*loc.esz+c+(j-c) by rw[s];omega];exact this
    ·rw[yN S bj]at k;obtain⟨L,x,z,y⟩:=(K i e he).2 j v k;refine⟨L,x,?_,y⟩;rw[gM _ _ _ _ (by rw[s,<-al];omega)];exact z
   ·rw[if_neg O]at p;obtain⟨a0,L⟩:=K am ab p;refine⟨a0,λj v k=> ?_⟩;obtain⟨ao,x,z,y⟩:=L j v k;refine⟨ao,x,?_,y⟩;have aR:j<esz:=by
     rcases Nat.lt_or_ge j ab.length with h|h
     ·omega
     ·rw[List.getElem?_eq_none h]at k;cases k
    rw[gM _ _ _ _ ?_]
    ·exact z
    ·rw[s,<-al];rcases Nat.lt_or_gt_of_ne O with h|h
     ·have:=hL (n:=esz) h;omega
     ·have:=hL (n:=esz) h;omega
 ·intro a aT av au h;by_cases d:l=a
  ·subst d;rw[ae.dn P]at h;obtain⟨rfl,rfl,rfl,-⟩:=sy (Option.some.inj h);exact⟨loc,u,ah.1⟩
  ·rw[ae.cx d]at h;obtain⟨f,g,R⟩:=o.row _ _ _ _ h;refine⟨f,g,?_⟩;have m:=Q a f (.inl ⟨_,_,_,h⟩) (Ne.symm d) g;obtain⟨T,C,an,F,A,B,W⟩:=R;exact⟨T,C,an,F,by rw[ea _ _ _ _ _ m];exact A,B,W⟩
 ·intro a es h;by_cases d:l=a
  ·subst d;rw[ae.dn P]at h;exact(sw (Option.some.inj h)).elim
  ·rw[ae.cx d]at h;obtain⟨f,g,R⟩:=o.map _ _ h;have m:=Q a f (.inr (.inl ⟨_,h⟩)) (Ne.symm d) g;obtain⟨ents,clock,A,B⟩:=R;exact⟨f,g,ents,clock,by rw[ea _ _ _ _ _ m];exact A,B⟩
 ·intro a an av au h;by_cases d:l=a
  ·subst d;rw[ae.dn P]at h;obtain⟨aq,rfl,rfl⟩:=sz (Option.some.inj h);obtain⟨C,F,ad,ax⟩:=aH _ aq;rw[G]at ad;cases ad;obtain⟨cF,M,f1,aM⟩:=ah;exact⟨loc,u,cF,M,f1,aM,ax⟩
  ·rw[ae.cx d]at h;obtain⟨f,g,⟨T,C,aP,F,A,B,W⟩,ap,aw,aN,aO⟩:=o.bS _ _ _ _ h;have m:=Q a f (.inr (.inr ⟨_,_,_,h⟩)) (Ne.symm d) g;exact⟨f,g,⟨T,C,aP,F,by rw[ea _ _ _ _ _ m];exact A,B,W⟩,ap,aw,by rw[ea _ _ _ _ _ m];exact aN,aO⟩
 ·intro aI aJ aK aL r N m aD aE;exact o.apart aI aJ aK aL (ai _ r) (aF _ N) m aD aE
 ·intro b G aG;refine ea _ _ _ _ _ ?_;rintro rfl;exact aG ⟨l,loc,fE q,u,rfl⟩
 ·rintro b ⟨a,f,r,N,ay⟩;exact .inl ⟨a,f,ai _ r,N,ay⟩
def aA(P:Program)(H:ae)(t:TypeId)(a v:aa):Option ae:=
 match a with
 | .ptr l i c=>
  (match H.get l with
  |some (.row U esz els)=>
   (match els[i]? with
   |some e=>if bu P t=D v.cells.length/\c+v.cells.length<=esz/\v.cells.all aa.one=V then D (H.set l (.row U esz (els.set i (ck e c v.cells))))else Y
   |none=>Y)
  |some (.bS b esz els)=>
   (match els[i]? with
   |some e=>if bu P t=D v.cells.length/\c+v.cells.length<=esz/\v.cells.all aa.one=V then D (H.set l (.bS b esz (els.set i (ck e c v.cells))))else Y
   |none=>Y)
  |_=>Y)
 |_=>Y
def we(d:Rel ρ H w){ot:Option TypeId}{l i c esz:Nat}{els:List (List aa)}(g:H.get l=D (b8 ot esz els)){loc:Loc}(m:ρ l=D loc){e:List aa}(he:els[i]? =D e){t:TypeId}{v:aa}{y:Value}(M:a1 ρ v y)
  (F:bu P t=D v.cells.length) (s:c+v.cells.length<=esz) (C:v.cells.all aa.one=V):
  ∃r,(Instr.storeAt t (.pointer (D ⟨loc.block,loc.off+i*loc.esz+c,Y⟩)) y).run P w= .ok () r/\Step ρ H w ρ (H.set l (b8 ot esz (els.set i (ck e c v.cells)))) r:=by
 have n:∀u∈v.cells,u.one=true:=by simpa using C
 have b:=M.cells;refine⟨_,?_,y2 d g m he s n b⟩;obtain⟨N,A,p,-⟩:=nE d g;obtain rfl:loc=N:=Option.some.inj (m.symm.trans A);have hlen:=b.length;have S:=p;obtain⟨x,arr,T,Q,f,z,o⟩:=p;have R:=(o i e he).1;have q:∀j,j<y.cells.toList.length->∃u,arr[loc.off+i*loc.esz+c+j]? =D u:=by
  intro j a;obtain⟨_,u,hu,_⟩:=(o i e he).2 (c+j) (e[c+j]'bj) (by simp);exact⟨u,by rw[x,Nat.add_assoc];exact hu⟩
 have E:=run_storeCells_cells (P:=P) loc.block (loc.off+i*loc.esz+c) y.cells.toList 0 w
  (λj a=>by obtain⟨u,hu⟩:=q j a;simp[World.cell?,f,hu])
  (λj a=>by
   obtain⟨u,hu⟩:=q j a;have B:loc.off+i*loc.esz+c+j<arr.size:=by
    rcases Nat.lt_or_ge (loc.off+i*loc.esz+c+j) arr.size with h|h
    ·exact h
    ·rw[Array.getElem?_eq_none h]at hu;cases hu
   have:=z.2 rfl _ B;simp only[World.frozen?,f,Nat.add_zero];simpa using this)
  (λu hu=>by
   obtain⟨j,a⟩:=List.getElem?_of_mem hu;have k:j<v.cells.length:=by
    rcases Nat.lt_or_ge j y.cells.toList.length with h|h
    ·omega
    ·rw[List.getElem?_eq_none h]at a;cases a
   obtain⟨O,K,L⟩:=b.get j _ (List.getElem?_eq_getElem k);obtain rfl:u=O:=Option.some.inj (a.symm.trans K);exact L.sE (n _ (List.getElem_mem k)))
 have G:y.cells.size=v.cells.length:=by rw[hlen];simp
 simp only[Instr.storeAt,Instr.sureAddr,Sem.run_bind,Sem.run_pure,Result.andThen_ok,storeVar,run_sizeOf F,G,ne_eq,not_true_eq_false,if_false];simpa using E
def z2(k:Rel ρ H w){t:TypeId}{a v:aa}{x y:Value}{H':ae}(h:aA P H t a v=D H')(p:a1 ρ a x)(n:a1 ρ v y):
  ∃o,(Instr.storeAt t x y).run P w= .ok () o/\Step ρ H w ρ H' o:=by
 unfold aA at h;split at h
 ·rename_i l i c;cases p with|ptr _ _ _ loc m=>
  split at h
  ·rename_i esz els f;split at h
   ·rename_i e he;split at h
    ·rename_i d;obtain⟨j,b,g⟩:=d;simp only[aV]at h;subst h;exact we k (ot:=none) f m he n j b g
    ·cases h
   ·cases h
  ·rename_i q esz els f;split at h
   ·rename_i e he;split at h
    ·rename_i d;obtain⟨j,b,g⟩:=d;simp only[aV]at h;subst h;exact we k (ot:=some q) f m he n j b g
    ·cases h
   ·cases h
  ·cases h
 ·cases h
end
def Env.b2(ρ:Env)(l:Nat)(loc:Loc):Env:=λk=>if k=l then D loc else ρ k
def Env.ct(ρ:Env)(l:Nat)(loc:Loc):ρ.b2 l loc l=D loc:=by simp[Env.b2]
def Env.cu{ρ:Env}{l k:Nat}{loc:Loc}(h:k≠l):ρ.b2 l loc k=ρ k:=by simp[Env.b2,h]
def Env.gH{ρ:Env}{l:Nat}(h:ρ l=Y)(loc:Loc):ρ.le (ρ.b2 l loc):=by
 intro k x a;by_cases e:k=l
 ·subst e;rw[h]at a;cases a
 ·rw[Env.cu e];exact a
section
variable {P:Program}{ρ:Env}{H:ae}{w:World}
def heap_alloc_old(w:World)(aw:Obj){k:Nat}(h:k<w.heap.size):(w.alloc aw).heap[k]? =w.heap[k]? :=by
 show(w.heap.push aw)[k]? =_;rw[Array.getElem?_push,if_neg bj]
def heap_alloc_new(w:World)(aw:Obj):(w.alloc aw).heap[w.heap.size]? =D aw:=by
 show(w.heap.push aw)[w.heap.size]? =_;simp
def Du(w:World)(aw:Obj):(w.alloc aw).heap.size=w.heap.size+1:=by
 show(w.heap.push aw).size=_;simp
def dA{w:World}{k:Nat}{aw:Obj}(h:w.heap[k]? =D aw):k<w.heap.size:=by
 rcases Nat.lt_or_ge k w.heap.size with bs|bs
 ·exact bs
 ·rw[Array.getElem?_eq_none bs]at h;cases h
def sc{esz:Nat}:∀{els:List (List aa)},(∀e∈els,e.length=esz)->∀{i:Nat} {e:List aa},els[i]? =D e->∀{j:Nat} {v:aa},e[j]? =D v->els.flatten[i*esz+j]? =D v
 |[],_,_,_,h,_,_,_=>by simp at h
 |d::els,b,0,e,h,j,v,a=>by
  simp at h;subst h;have c:j<d.length:=by
   rcases Nat.lt_or_ge j d.length with h|h
   ·exact h
   ·rw[List.getElem?_eq_none h]at a;cases a
  simp only[List.flatten_cons,Nat.zero_mul,Nat.zero_add];rw[List.getElem?_append_left c];exact a
 |d::els,b,i+1,e,h,j,v,a=>by
  have f:d.length=esz:=b d (by simp);have:=sc (els:=els) (λe he=>b e (List.mem_cons_of_mem _ he)) (i:=i) (by simpa using h) a;simp only[List.flatten_cons];rw[List.getElem?_append_right (by rw[Nat.succ_mul];omega)];rw[<-this];congr 1;rw[Nat.succ_mul];omega
def nS{H:ae}{b:bk}{l:Nat}(h:(H.push b).rw l):l=H.next\/H.rw l:=by
 by_cases e:l=H.next
 ·exact .inl e
 ·exact .inr (by simpa [ae.rw,ae.cp e]using h)
def nB{H:ae}{b:bk}{l:Nat}(h:(H.push b).live l):l=H.next\/H.live l:=by
 by_cases e:l=H.next
 ·exact .inl e
 ·exact .inr (by simpa [ae.live,ae.cp e]using h)
def Rel.r2(e:Rel ρ H w){l:Nat}(h:H.live l){loc:Loc}(f:ρ l=D loc):loc.block<w.heap.size:=by
 rcases h with⟨ro,esz,els,h⟩|⟨es,h⟩|⟨t,esz,els,h⟩
 ·obtain⟨d,b,_,c,t,g,a,_⟩:=e.row _ _ _ _ h;obtain rfl:loc=d:=Option.some.inj (f.symm.trans b);exact dA a
 ·obtain⟨d,b,ents,clock,a,_⟩:=e.map _ _ h;obtain rfl:loc=d:=Option.some.inj (f.symm.trans b);exact dA a
 ·obtain⟨d,b,_,c,g,a,_⟩:=e.bS _ _ _ _ h;obtain rfl:loc=d:=Option.some.inj (f.symm.trans b);exact dA a
def eR{H:ae}{l:Nat}(h:H.live l):l<H.next:=by
 rcases h with⟨_,_,_,h⟩|⟨_,h⟩|⟨_,_,_,h⟩<;>exact ae.dz h
def cl.frame{b:Env}{a:World}{loc:Loc}{ro:Bool}{esz:Nat}{els:List (List aa)}(h:cl ρ w loc ro esz els)(hle:ρ.le b)(l:a.heap[loc.block]? =w.heap[loc.block]?):cl b a loc ro esz els:=by
 obtain⟨n,c,t,e,p,o,q⟩:=h;refine⟨n,c,t,e,by rw[l];exact p,o,?_⟩;intro i d m;obtain⟨f,g⟩:=q i d m;refine⟨f,λj v r=> ?_⟩;obtain⟨k,x,u,s⟩:=g j v r;exact⟨k,x,u,s.mono hle⟩
def cl.lt{loc:Loc}{ro:Bool}{esz:Nat}{els:List (List aa)}(h:cl ρ w loc ro esz els):loc.block<w.heap.size:=by
 obtain⟨_,c,t,a,p,_⟩:=h;exact dA p
def eE.frame{d:Env}{b:World}{loc:Loc}{t:TypeId}{esz:Nat}{els:List (List aa)}(h:eE ρ w loc t esz els)(hle:ρ.le d)(a:b.heap[loc.block]? =w.heap[loc.block]?):eE d b loc t esz els:=by
 obtain⟨f,c,e,g,i⟩:=h;exact⟨f.frame hle a,c,e,by rw[a];exact g,i⟩
def yk(i:Rel ρ H w)(s:ρ H.next=Y)(b:bk)(y:b.hJ=U)(aw:Obj)(loc:Loc)(F:loc.block=w.heap.size)
  (z:∀ro esz els,b= .row ro esz els->cl (ρ.b2 H.next loc) (w.alloc aw) loc ro esz els) (x:∀es,b= .map es->rE (ρ.b2 H.next loc) (w.alloc aw) loc es) (A:∀t esz els,b= .bS t esz els->eE (ρ.b2 H.next loc) (w.alloc aw) loc t esz els):
  Step ρ H w (ρ.b2 H.next loc) (H.push b) (w.alloc aw):=by
 have hle:=Env.gH s loc;have p:∀l d,H.live l->ρ.b2 H.next loc l=D d->d.block<w.heap.size:=λl d h bs=>by
  have n:l≠H.next:=by
   rintro rfl;have:=eR h;omega
  rw[Env.cu n]at bs;exact i.r2 h bs
 refine⟨hle,by simp,λl v=>Env.cu (by simp at v;omega),⟨?_,?_,?_,?_⟩,rfl,rfl,rfl,by rw[Du];omega,λk u _=>heap_alloc_old w aw u,?_,ae.sQ y⟩
 ·intro l ro esz els h;by_cases e:l=H.next
  ·subst e;rw[ae.cJ]at h;exact⟨loc,Env.ct _ _ _,z _ _ _ (Option.some.inj h)⟩
  ·rw[ae.cp e]at h;obtain⟨d,j,m⟩:=i.row _ _ _ _ h;exact⟨d,by rw[Env.cu e];exact j,m.frame hle (heap_alloc_old w aw m.lt)⟩
 ·intro l es h;by_cases e:l=H.next
  ·subst e;rw[ae.cJ]at h;exact⟨loc,Env.ct _ _ _,x _ (Option.some.inj h)⟩
  ·rw[ae.cp e]at h;obtain⟨d,j,ents,clock,o,c,a⟩:=i.map _ _ h;exact⟨d,by rw[Env.cu e];exact j,ents,clock,by rw[heap_alloc_old w aw (dA o)];exact o,c.mono hle,a.mono hle⟩
 ·intro l t esz els h;by_cases e:l=H.next
  ·subst e;rw[ae.cJ]at h;exact⟨loc,Env.ct _ _ _,A _ _ _ (Option.some.inj h)⟩
  ·rw[ae.cp e]at h;obtain⟨d,j,m⟩:=i.bS _ _ _ _ h;exact⟨d,by rw[Env.cu e];exact j,m.frame hle (heap_alloc_old w aw m.1.lt)⟩
 ·intro l q B C c a n f g;rcases nS c with rfl|c
  ·rcases nB a with rfl|a
   ·exact absurd rfl n
   ·rw[Env.ct]at f;obtain rfl:=Option.some.inj f;have:=p _ _ a g;omega
  ·rcases nB a with rfl|a
   ·rw[Env.ct]at g;obtain rfl:=Option.some.inj g;have:=p _ _ c.live f;omega
   ·have cF:l≠H.next:=by
     rintro rfl;have:=eR c.live;omega
    have E:q≠H.next:=by
     rintro rfl;have:=eR a;omega
    rw[Env.cu cF]at f;rw[Env.cu E]at g;exact i.apart l q B C c a n f g
 ·rintro k ⟨l,d,c,a,r⟩;rcases nS c with rfl|c
  ·rw[Env.ct]at a;obtain rfl:=Option.some.inj a;exact .inr bj
  ·have cF:l≠H.next:=by
    rintro rfl;have:=eR c.live;omega
   rw[Env.cu cF]at a;exact .inl ⟨l,d,c,a,r⟩
def hU(l:Rel ρ H w)(c:ρ H.next=Y){ot:Option TypeId}{esz:Nat}{els:List (List aa)}(hlen:∀e∈els,e.length=esz)(n:∀e∈els,∀v∈e,v.one=V)
  {xs tail:List Value} (p:bb ρ els.flatten xs) (t:TypeId) (o:∀a,ot=D a->a=t):
  Step ρ H w (ρ.b2 H.next ⟨w.heap.size,0,esz,xs.length+tail.length⟩) (H.push (b8 ot esz els)) (w.alloc (.cells (xs++tail).toArray t)):=by
 have key:eE (ρ.b2 H.next ⟨w.heap.size,0,esz,xs.length+tail.length⟩) (w.alloc (.cells (xs++tail).toArray t)) ⟨w.heap.size,0,esz,xs.length+tail.length⟩ t esz els:=by
  refine⟨⟨rfl,_,t,(0,0),heap_alloc_new _ _,⟨by simp,λ_ aw _=>by simp⟩,?_⟩,_,_,heap_alloc_new _ _,rfl⟩;intro i e he;refine⟨hlen e (List.mem_of_getElem? he),λj v d=> ?_⟩;refine⟨n e (List.mem_of_getElem? he) v (List.mem_of_getElem? d),?_⟩;obtain⟨x,b,q⟩:=p.get _ _ (sc hlen he d);refine⟨x,?_,q.mono (Env.gH c _)⟩;have m:i*esz+j<xs.length:=by
   rcases Nat.lt_or_ge (i*esz+j) xs.length with h|h
   ·exact h
   ·rw[List.getElem?_eq_none h]at b;cases b
  simp only[Nat.zero_add,List.getElem?_toArray];rw[List.getElem?_append_left m];exact b
 refine yk l c _ (sx _ _ _) _ _ rfl ?_ (λes h=>(sw h).elim) ?_
 ·intro ro g f h;obtain⟨rfl,rfl,rfl,-⟩:=sy h;exact key.1
 ·intro a g f h;obtain⟨k,rfl,rfl⟩:=sz h;obtain rfl:=o a k;exact key
def nG:Value->Option aa
 | .bool b=>D (.bool b)
 | .int k n=>D (.int k n)
 | .string s=>D (.str s.data.toList)
 | .pointer Y=>D .cr
 | .slice Y 0 0=>D .ar
 | .map Y=>D .cU
 | .nilFunc=>D .nilFunc
 | .nilIface=>D .nilIface
 |_=>Y
def hN:List Value->Option (List aa)
 |[]=>D []
 |v::r=>match nG v,hN r with
  |some a,D l=>D (a::l)
  |_,_=>Y
def hP:Value->Option aa
 | .agg cs=>(hN cs.toList).map .agg
 |v=>nG v
def x0{v:Value}{a:aa}(h:nG v=D a)(ρ:Env):a1 ρ a v/\a.one=true:=by
 unfold nG at h;split at h<;>first
  |(simp only[aV]at h;subst h;exact⟨by constructor,rfl⟩)
  |cases h
def x1:∀{b:List Value} {as:List aa},hN b=D as->∀ρ:Env,bb ρ as b/\∀a∈as,a.one=V
 |[],as,h,ρ=>by simp[hN]at h;subst h;exact⟨.nil,by simp⟩
 |v::r,as,h,ρ=>by
  unfold hN at h;split at h
  ·rename_i a l g i;simp only[aV]at h;subst h;obtain⟨c,d⟩:=x0 g ρ;obtain⟨e,f⟩:=x1 i ρ;exact⟨.cons _ _ _ _ c e,by simpa using⟨d,f⟩⟩
  ·cases h
def nH{v:Value}{a:aa}(h:hP v=D a)(ρ:Env):a1 ρ a v:=by
 unfold hP at h;split at h
 ·simp only[Option.map_eq_some_iff]at h;obtain⟨l,b,rfl⟩:=h;have:=a1.agg _ _ (x1 b ρ).1;simpa using this
 ·exact(x0 h ρ).1
def cy(P:Program)(t:TypeId):Option aa:=(P.info? t).bind λi=>i.zero.bind hP
def eK{t:TypeId}{z:aa}(h:cy P t=D z)(w:World):∃x,(zeroValue t).run P w= .ok x w/\∀ρ:Env,a1 ρ z x:=by
 unfold cy at h;simp only[bZ]at h;obtain⟨i,a,x,b,c⟩:=h;exact⟨x,by simp[zeroValue,typeInfo,a,b],λρ=>nH c ρ⟩
def gI(P:Program)(t:TypeId):Option TypeId:=match P.underlying t with
 |some (.struct a)=>(match a.toList with
  |[f]=>(match P.underlying f.type with
   |some (.struct gs)=>if gs.size=2 then D t else Y
   |_=>Y)
  |_=>Y)
 |_=>Y
def xY{P:Program}{t a:TypeId}(h:gI P t=D a):a=t:=by
 unfold gI at h;split at h
 ·split at h
  ·split at h
   ·split at h
    ·exact(Option.some.inj h).symm
    ·cases h
   ·cases h
  ·cases h
 ·cases h
def gi(ot:Option TypeId)(H:ae)(v:aa):Option (aa×ae):=
 if v.cells.all aa.one=V then D (.ptr H.next 0 0,H.push (b8 ot v.cells.length [v.cells]))else Y
def vP(e:Rel ρ H w)(g:ρ H.next=Y){ot:Option TypeId}{v a:aa}{x:Value}{H':ae}(h:gi ot H v=D (a,H'))(l:a1 ρ v x)(t:TypeId)(k:∀b,ot=D b->b=t):
  ∃r c d,(Instr.box t x).run P w= .ok r c/\a1 d a r/\Step ρ H w d H' c:=by
 unfold gi at h;split at h
 ·rename_i i;simp only[aV,bE]at h;obtain⟨rfl,rfl⟩:=h;have f:=l.cells;have j:=hU e g (ot:=ot) (esz:=v.cells.length) (els:=[v.cells]) (by simp) (by simpa using i) (xs:=x.cells.toList) (tail:=[]) (by simpa using f) t k;refine⟨.pointer (D ⟨w.heap.size,0,Y⟩),_,_,?_,?_,j⟩
  ·simp[Instr.box,newVar,newRow]
  ·simpa using a1.ptr (ρ:=ρ.b2 H.next _) H.next 0 0 _ (Env.ct _ _ _)
 ·cases h
def m8(P:Program)(H:ae)(t:TypeId):Option (aa×ae):=(cy P t).bind (gi (gI P t) H)
def zf(g:Rel ρ H w)(i:ρ H.next=Y){t:TypeId}{a:aa}{H':ae}(h:m8 P H t=D (a,H')):
  ∃r b c,(Instr.alloc t V (.tuple #[])).run P w= .ok r b/\a1 c a r/\Step ρ H w c H' b:=by
 unfold m8 at h;simp only[bZ]at h;obtain⟨z,l,h⟩:=h;obtain⟨x,k,j⟩:=eK l w;obtain⟨r,b,c,d,e,f⟩:=vP (P:=P) g i h (j ρ) t λ_ h=>xY h
 refine⟨r,b,c,?_,e,f⟩;simp only[Instr.alloc,Sem.run_bind,k,Result.andThen_ok];simpa [Instr.box]using d
end
section
variable {P:Program}{ρ:Env}{H:ae}{w:World}
def eG(place:Nat->Option (Nat×Nat))(cells:List aa):List (Nat×aa)->Option (List aa)
 |[]=>D cells
 |(i,v)::rest=>
  match place i with
  |none=>Y
  |some (off,size)=>if v.cells.length=size/\off+v.cells.length<=cells.length then eG place (ck cells off v.cells) rest else Y
def sf:∀(a:List Value) (k off:Nat) (c:Array Value),(a.zipIdx k).foldl (λcs (x:Value×Nat)=>cs.setIfInBounds (off+x.2) x.1) c=cV c (off+k) a
 |[],_,_,_=>rfl
 |v::r,k,off,c=>by
  simp only[List.zipIdx_cons,List.foldl_cons,cV];rw[sf r (k+1) off];rfl
def yO{e:List aa}{xs:List Value}{c:Nat}{cs:List aa}{f:List Value}(he:bb ρ e xs)(k:bb ρ cs f)(h:c+cs.length<=e.length):
  bb ρ (ck e c cs) (cV xs.toArray c f).toList:=by
 have m:=he.length;have n:=k.length;refine bb.x2 (by rw[yM h];simp[hV,m]) ?_;intro j v x b a;by_cases l:c<=j/\j<c+cs.length
 ·rw[yL h l.1 l.2]at b;obtain⟨d,i,g⟩:=k.get _ _ b;have:=nM f xs.toArray c (j-c) d i (by simp;omega);rw[show c+(j-c)=j by omega]at this;simp only[Array.getElem?_toList]at a;obtain rfl:x=d:=Option.some.inj (a.symm.trans this);exact g
 ·rw[yN h bj]at b;obtain⟨d,i,g⟩:=he.get _ _ b;have:=gM f xs.toArray c j bj;simp only[Array.getElem?_toList]at a;rw[this]at a;simp only[List.getElem?_toArray]at a;obtain rfl:x=d:=Option.some.inj (a.symm.trans i);exact g
def gg(ρ:Env):List (Nat×aa)->List (Nat×Value)->Prop
 |[],[]=>True
 |(i,v)::r,(j,x)::s=>i=j/\a1 ρ v x/\gg ρ r s
 |_,_=>False
def rK(place:Nat->Option (Nat×Nat)):∀(parts:List (Nat×aa)) (l:List (Nat×Value)) (cells b:List aa) (xs:List Value),gg ρ parts l->bb ρ cells xs->
  eG place cells parts=D b->∃e:List Value,Instr.fill place xs.toArray l=D e.toArray/\bb ρ b e
 |[],[],cells,b,xs,_,d,h=>by
  simp[eG]at h;subst h;exact⟨xs,rfl,d⟩
 |[],_::_,_,_,_,a,_,_=>a.elim
 |_::_,[],_,_,_,a,_,_=>a.elim
 |(i,v)::r,(j,x)::s,cells,b,xs,a,d,h=>by
  obtain⟨rfl,q,a⟩:=a;unfold eG at h;unfold Instr.fill;cases g:place i with
  |none=>rw[g]at h;cases h
  |some os=>
   obtain⟨off,size⟩:=os;rw[g]at h;simp only at h;split at h
   ·rename_i f;have k:=q.cells;have t:=k.length;have u:=d.length;have p:x.cells.size=v.cells.length:=by rw[t];simp
    have o:=yO d k (c:=off) f.2;obtain⟨e,m,n⟩:=rK place r s _ b _ a o h;refine⟨e,?_,n⟩;simp only
    rw[if_neg (by simp[p,f.1];have:=f.2;omega)];have:=sf x.cells.toList 0 off xs.toArray;rw[Nat.add_zero]at this;rw[<-Array.foldl_toList,Array.toList_zipIdx,this];simpa using m
   ·cases h
def gn(P:Program):List Field->Option (List (Nat×Nat))
 |[]=>D []
 |f::a=>match bu P f.type,gn P a with
  |some n,D l=>D ((f.offset,n)::l)
  |_,_=>Y
def vX(w:World):∀(a:List Field) (l:List (Nat×Nat)),gn P a=D l->(a.mapM (λf=>(do pure (f.offset,<-sizeOf f.type):Sem (Nat×Nat)))).run P w= .ok l w
 |[],l,h=>by simp[gn]at h;subst h;simp[Sem.run_pure]
 |f::a,l,h=>by
  unfold gn at h;split at h
  ·rename_i n e c b;simp only[aV]at h;subst h;have d:=vX w a e b;rw[List.mapM_cons];simp only[Sem.run_bind,run_sizeOf c,Result.andThen_ok,Sem.run_pure,d]
  ·cases h
def bh(P:Program)(t:TypeId)(parts:List (Nat×aa)):Option aa:=
 match cy P t,P.underlying t with
 |some z,D (.struct a)=>(match gn P a.toList with|some pl=>(eG (pl[·]?) z.cells parts).map .agg|none=>Y)
 |some z,D (.array _ e)=>(match bu P e with|some n=>(eG (λi=>D (i*n,n)) z.cells parts).map .agg|none=>Y)
 |_,_=>Y
def zk{t:TypeId}{parts:List (Nat×aa)}{c:List (Nat×Value)}{v:aa}(h:bh P t parts=D v)(p:gg ρ parts c)(w:World):
  ∃x,(Instr.build t c.toArray).run P w= .ok x w/\a1 ρ v x:=by
 unfold bh at h;split at h
 ·rename_i z o j hu;obtain⟨a,l,k⟩:=eK j w;split at h
  ·rename_i pl r;simp only[Option.map_eq_some_iff]at h;obtain⟨cs,i,rfl⟩:=h;obtain⟨m,b,g⟩:=rK _ parts c z.cells cs a.cells.toList p (k ρ).cells i;refine⟨.agg m.toArray,?_,.agg _ _ g⟩;have hm:=vX (P:=P) w o.toList pl r;have q:(o.mapM (λf=>(do pure (f.offset,<-sizeOf f.type):Sem (Nat×Nat)))).run P w= .ok pl.toArray w:=by
    rw[Array.mapM_eq_mapM_toList];simp only[Sem.run_map,hm,Result.andThen_ok]
   simp only[Instr.build,Sem.run_bind,l,Result.andThen_ok,run_underlying hu,q];have e:(λx:Nat=>(pl.toArray)[x]?)=(λx=>pl[x]?):=by funext x;simp
   simp only[e];have d:a.cells.toList.toArray=a.cells:=by simp
   rw[d]at b;simp[b]
  ·cases h
 ·rename_i z n e j hu;obtain⟨a,l,k⟩:=eK j w;split at h
  ·rename_i u s;simp only[Option.map_eq_some_iff]at h;obtain⟨cs,i,rfl⟩:=h;obtain⟨m,b,g⟩:=rK _ parts c z.cells cs a.cells.toList p (k ρ).cells i;refine⟨.agg m.toArray,?_,.agg _ _ g⟩;have d:a.cells.toList.toArray=a.cells:=by simp
   rw[d]at b;simp[Instr.build,l,run_underlying hu,run_sizeOf s,b]
  ·cases h
 ·cases h
def fl(esz:Nat):List (List aa)->List (Nat×aa)->Option (List (List aa))
 |els,[]=>D els
 |els,(i,v)::rest=>if v.cells.length=esz/\i<els.length/\v.cells.all aa.one=V then fl esz (els.set i v.cells) rest else Y
def hr(P:Program)(H:ae)(t:TypeId)(len:Nat)(parts:List (Nat×aa)):Option (aa×ae):=
 match P.underlying t with
 |some (.slice e)=>
  (match bu P e,cy P e with
  |some a,D z=>
   if len*a<=16777216/\z.cells.length=a/\z.cells.all aa.one=V then
    (match fl a (List.replicate len z.cells) parts with
    |some els=>D (.ag H.next 0 len a (D len),H.push (.row U a els))
    |none=>Y)
   else Y
  |_,_=>Y)
 |_=>Y
def eO{esz:Nat}:∀{els:List (List aa)},(∀e∈els,e.length=esz)->els.flatten.length=els.length*esz
 |[],_=>by simp
 |d::els,h=>by
  have:=eO (els:=els) (λe he=>h e (List.mem_cons_of_mem _ he));simp only[List.flatten_cons,List.length_append,this,h d (by simp),List.length_cons,Nat.succ_mul];omega
def wN{esz:Nat}:∀{els:List (List aa)} (i:Nat) (c:List aa),(∀e∈els,e.length=esz)->c.length=esz->i<els.length->(els.set i c).flatten=ck els.flatten (i*esz) c
 |[],_,_,_,_,h=>by simp at h
 |d::els,0,c,a,b,_=>by
  have f:=a d (by simp);simp[ck,b,<-f]
 |d::els,i+1,c,a,b,h=>by
  have f:=a d (by simp);have k:=wN (els:=els) i c (λe he=>a e (List.mem_cons_of_mem _ he)) b (by simpa using h);simp only[List.set_cons_succ,List.flatten_cons,k];unfold ck;rw[Nat.succ_mul];have g:List.take (i*esz+esz) (d++els.flatten)=d++els.flatten.take (i*esz):=by
   rw[List.take_append,List.take_of_length_le bj];congr 2;omega
  have j:List.drop (i*esz+esz+c.length) (d++els.flatten)=els.flatten.drop (i*esz+c.length):=by
   rw[List.drop_append,List.drop_eq_nil_of_le bj,List.nil_append];congr 1;omega
  rw[g,j];simp
def wc(esz:Nat):∀(parts:List (Nat×aa)) (p:List (Nat×Value)) (els a:List (List aa)) (xs:List Value),gg ρ parts p->(∀e∈els,e.length=esz)->(∀e∈els,∀v∈e,v.one=V)->
  bb ρ els.flatten xs->fl esz els parts=D a->
   (∃k:List Value,Instr.fill (λi=>D (i*esz,esz)) xs.toArray p=D k.toArray/\bb ρ a.flatten k)/\(∀e∈a,e.length=esz)/\(∀e∈a,∀v∈e,v.one=V)/\a.length=els.length
 |[],[],els,a,xs,_,d,l,g,h=>by
  simp[fl]at h;subst h;exact⟨⟨xs,rfl,g⟩,d,l,rfl⟩
 |[],_::_,_,_,_,b,_,_,_,_=>b.elim
 |_::_,[],_,_,_,b,_,_,_,_=>b.elim
 |(i,v)::r,(j,x)::s,els,a,xs,b,d,l,g,h=>by
  obtain⟨rfl,K,b⟩:=b;unfold fl at h;split at h
  ·rename_i C;obtain⟨f,m,F⟩:=C;have G:∀u∈v.cells,u.one=true:=by simpa using F
   have o:=K.cells;have L:=o.length;have M:=g.length;have E:=eO d;have hle:i*esz+v.cells.length<=els.flatten.length:=by rw[E,f];exact hL m
   have n:=yO g o (c:=i*esz) hle;rw[<-wN i v.cells d f m]at n;have A:∀e∈els.set i v.cells,e.length=esz:=λe he=>by
    rcases List.mem_or_eq_of_mem_set he with h|rfl
    ·exact d e h
    ·exact f
   have B:∀e∈els.set i v.cells,∀u∈e,u.one=true:=λe he=>by
    rcases List.mem_or_eq_of_mem_set he with h|rfl
    ·exact l e h
    ·exact G
   obtain⟨⟨k,q,t⟩,w,y,z⟩:=wc esz r s _ a _ b A B n h;refine⟨⟨k,?_,t⟩,w,y,by simpa using z⟩;unfold Instr.fill;have H:x.cells.size=v.cells.length:=by rw[L];simp
   simp only
   rw[if_neg (by simp[H,f];omega)];have:=sf x.cells.toList 0 (i*esz) xs.toArray;rw[Nat.add_zero]at this;rw[<-Array.foldl_toList,Array.toList_zipIdx,this];simpa using q
  ·cases h
def y3(z:Array Value)(n:Nat)(b:0<z.size):((Array.range (n*z.size)).map (z[· %z.size]!))=((List.replicate n z.toList).flatten).toArray:=by
 apply Array.ext';apply List.ext_getElem?;intro k;by_cases a:k<n*z.size
 ·have c:(Array.map (λx=>z[x%z.size]!) (Array.range (n*z.size))).toList[k]? =D z[k%z.size]! :=by
   simp[a]
  rw[c];symm;simp only
  have hdiv:k/z.size<n:=by rw[Nat.div_lt_iff_lt_mul b];exact a
  have d:k%z.size<z.size:=Nat.mod_lt _ b;have key:∀(n k:Nat),k<n*z.size->(List.replicate n z.toList).flatten[k]? =z.toList[k%z.size]? :=by
   intro n
   induction n with
   |zero=>intro k h;omega
   |succ n e=>
    intro k h;rw[List.replicate_succ,List.flatten_cons];by_cases a:k<z.size
    ·rw[List.getElem?_append_left (by simpa using a),Nat.mod_eq_of_lt a]
    ·rw[List.getElem?_append_right (by simpa using a)];have:=e (k-z.size) (by rw[Nat.succ_mul]at h;omega);simp only[Array.length_toList];rw[this,<-Nat.mod_eq_sub_mod bj]
  rw[key n k a];simp[d]
 ·rw[List.getElem?_eq_none (by simp;omega),List.getElem?_eq_none (by simp;omega)]
def bb.sd{a:List aa}{xs:List Value}(h:bb ρ a xs):∀n,bb ρ (List.replicate n a).flatten (List.replicate n xs).flatten
 |0=>by simpa using bb.nil
 |n+1=>by simpa [List.replicate_succ]using h.append (bb.sd h n)
def zi(x:Rel ρ H w)(B:ρ H.next=Y){t:TypeId}{len:Nat}{parts:List (Nat×aa)}{i:List (Nat×Value)}{a:aa}{H':ae}(h:hr P H t len parts=D (a,H'))(G:gg ρ parts i):
  ∃r n p,(Instr.buildSlice t len i.toArray).run P w= .ok r n/\a1 p a r/\Step ρ H w p H' n:=by
 unfold hr at h;split at h
 ·rename_i e hu;split at h
  ·rename_i b z N Q;split at h
   ·rename_i y;obtain⟨hle,m,E⟩:=y;split at h
    ·rename_i els A;simp only[aV,bE]at h;obtain⟨rfl,rfl⟩:=h;obtain⟨c,S,R⟩:=eK Q w;have F:∀u∈z.cells,u.one=true:=by simpa using E
     have l:=(R ρ).cells;have f:c.cells.size=b:=by have:=l.length;rw[<-m,this];simp
     have L:=bb.sd l len;obtain⟨⟨o,g,j⟩,k,s,v⟩:=wc b parts i _ els _ G (λe he=>by rw[List.eq_of_mem_replicate he];exact m)
      (λe he=>by rw[List.eq_of_mem_replicate he];exact F) L A
     have M:=hU x B (ot:=none) k s j (tail:=[]) e (λ_ h=>by cases h);have O:o.length=len*b:=by
      rw[<-j.length,eO k,v];simp
     refine⟨.slice (D ⟨w.heap.size,0,Y⟩) len len,_,_,?_,?_,M⟩
     ·simp only[Instr.buildSlice,Sem.run_bind,run_underlying hu,Result.andThen_ok,run_sizeOf N];rw[if_neg (by show¬(len*b>2^24);omega)];by_cases d:len*b=0
      ·simp only[d,if_true,Sem.run_bind,Sem.run_pure,Result.andThen_ok];have C:(List.replicate len c.cells.toList).flatten=[]:=by
        have:((List.replicate len c.cells.toList).flatten).length=0:=by simp[f,d]
        exact List.eq_nil_of_length_eq_zero this
       rw[C]at g;have q:Array.range 0= #[]:=rfl;simp[g,newRow,q]
      ·simp only[d,if_false,Sem.run_bind,S,Result.andThen_ok,Sem.run_pure];have K:0<c.cells.size:=by
        rcases Nat.eq_zero_or_pos c.cells.size with h|h
        ·rw[f]at h;simp[h]at d
        ·exact h
       have:=y3 c.cells len K;rw[f]at this;simp only[f,this];simp[g,newRow]
     ·refine a1.ag (ρ:=ρ.b2 H.next _) H.next 0 len (D len) ⟨w.heap.size,0,b,o.length+0⟩ _ len (Env.ct _ _ _) (bM _) (by simp) (λ_=>⟨by simp,?_⟩)
      simp[O]
    ·cases h
   ·cases h
  ·cases h
 ·cases h

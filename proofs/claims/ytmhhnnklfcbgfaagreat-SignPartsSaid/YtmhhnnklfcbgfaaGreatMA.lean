/-
  Texts of one proof, laid together: Hv0 Hv1 Hv2 Hv3 Hv4 Hv5 Hv6.
-/
import GoSem.Dispatch
import Derived.WalkKit
import Derived.Laws.IdiomCopy
set_option linter.unusedVariables false
set_option linter.unusedSimpArgs false
set_option linter.defProp false
open Option renaming some→D,none→I
open Bool renaming true→C,false→Z
namespace Go.bz
def aa{p:Prop}(h:p:=by omega):p:=h
def aF{p:Prop}(h:p:=by kernel_rfl):p:=h
def bU{p:Prop}(h:p:=by decide):p:=h
def ar{a b:Prop}(x:a)(y:b):a/\b:=⟨x,y⟩
def bb{α:Type}(a b:α):(D a=D b)=(a=b):=Option.some.injEq a b
def gP{α:Type}(a b:α):(bif C then a else b)=a:=rfl
def jY{α:Type}(a b:α):(bif Z then a else b)=b:=rfl
def dY{α β:Type}{o:Option α}{f:α->Option β}{b:β}:o.bind f=D b↔∃a,o=D a/\f a=D b:=Option.bind_eq_some_iff
def cK{α β:Type}(a:α)(b:β)(c:α)(d:β):((a,b)=(c,d))=(a=c/\b=d):=Prod.mk.injEq a b c d
def bC(n:Nat):n<=n:=Nat.le_refl n
inductive ae where
 |bool (b:Bool)
 |int (k:IntKind) (n:Int)
 |str (s:List UInt8)
 |ptr (l i c:Nat)
 |gI
 |aD (l i n esz:Nat) (cap:Option Nat)
 |aB
 |map (l:Nat)
 |ib
 |func (fn:Fn) (first captured:List ae)
 |nilFunc
 |iface (t:TypeId) (v:ae)
 |nilIface
 |agg (cs:List ae)
 |tuple (ak:List ae)
instance:Inhabited ae:=⟨.tuple []⟩
inductive bn where
 |row (ro:Bool) (esz:Nat) (els:List (List ae))
 |dz (t:TypeId) (esz:Nat) (els:List (List ae))
 |map (es:List (ae×ae))
 |dead
 |old (s esz:Nat) (els:List (List ae))
inductive lR where
 |d0|d1|d2|d3|d4|d5|d6|d7
inductive bu(α:Type) where
 |leaf
 |node (v:Option α) (bh a8 bo bJ bT cn cy ea:bu α)
def zZ(n:Nat):lR:=match n with
 |0=> .d0|1=> .d1|2=> .d2|3=> .d3|4=> .d4|5=> .d5|6=> .d6|_=> .d7
def P7{n m:Nat}(aH:n<8)(hm:m<8)(h:zZ n=zZ m):n=m:=by
 have af:n=0\/n=1\/n=2\/n=3\/n=4\/n=5\/n=6\/n=7:=aa;have ah:m=0\/m=1\/m=2\/m=3\/m=4\/m=5\/m=6\/m=7:=aa;rcases af with rfl|rfl|rfl|rfl|rfl|rfl|rfl|rfl<;>rcases ah with rfl|rfl|rfl|rfl|rfl|rfl|rfl|rfl<;>first|rfl|cases h
def nR:Nat->Nat->List lR
 |0,_=>[]
 |_+1,0=>[]
 |f+1,k+1=>zZ (k%8)::nR f (k/8)
def path(k:Nat):List lR:=nR k k
def Wn:∀(f g k j:Nat),k<=f->j<=g->nR f k=nR g j->k=j:=by
 intro f
 induction f with
 |zero=>
  intro g k j b a h;have:k=0:=aa;subst this;cases j with
  |zero=>rfl
  |succ j=>
   cases g with
   |zero=>omega
   |succ g=>simp[nR]at h
 |succ f c=>
  intro g k j b a h;cases k with
  |zero=>
   cases j with
   |zero=>rfl
   |succ j=>
    cases g with
    |zero=>omega
    |succ g=>simp[nR]at h
  |succ k=>
   cases j with
   |zero=>cases g<;>simp[nR]at h
   |succ j=>
    cases g with
    |zero=>omega
    |succ g=>
     simp only[nR,List.cons.injEq]at h;have af:=P7 (Nat.mod_lt _ aa) (Nat.mod_lt _ aa) h.1;have ah:=c g (k/8) (j/8) aa aa h.2;omega
def JP{k j:Nat}(h:path k=path j):k=j:=Wn k j k j (bC _) (bC _) h
def bu.jG{α:Type}:List lR->bu α->Option α
 |[],.leaf=>I
 |[],.node v _ _ _ _ _ _ _ _=>v
 |_::_,.leaf=>I
 |d::p,.node _ bh a8 bo bJ bT cn cy ea=>match d with
  | .d0=>bu.jG p bh| .d1=>bu.jG p a8| .d2=>bu.jG p bo| .d3=>bu.jG p bJ
  | .d4=>bu.jG p bT| .d5=>bu.jG p cn| .d6=>bu.jG p cy| .d7=>bu.jG p ea
def bu.eB{α:Type}(x:α):List lR->bu α->bu α
 |[],.leaf=> .node (D x) .leaf .leaf .leaf .leaf .leaf .leaf .leaf .leaf
 |[],.node _ bh a8 bo bJ bT cn cy ea=> .node (D x) bh a8 bo bJ bT cn cy ea
 |d::p,.leaf=>match d with
  | .d0=> .node I (bu.eB x p .leaf) .leaf .leaf .leaf .leaf .leaf .leaf .leaf
  | .d1=> .node I .leaf (bu.eB x p .leaf) .leaf .leaf .leaf .leaf .leaf .leaf
  | .d2=> .node I .leaf .leaf (bu.eB x p .leaf) .leaf .leaf .leaf .leaf .leaf
  | .d3=> .node I .leaf .leaf .leaf (bu.eB x p .leaf) .leaf .leaf .leaf .leaf
  | .d4=> .node I .leaf .leaf .leaf .leaf (bu.eB x p .leaf) .leaf .leaf .leaf
  | .d5=> .node I .leaf .leaf .leaf .leaf .leaf (bu.eB x p .leaf) .leaf .leaf
  | .d6=> .node I .leaf .leaf .leaf .leaf .leaf .leaf (bu.eB x p .leaf) .leaf
  | .d7=> .node I .leaf .leaf .leaf .leaf .leaf .leaf .leaf (bu.eB x p .leaf)
 |d::p,.node v bh a8 bo bJ bT cn cy ea=>match d with
  | .d0=> .node v (bu.eB x p bh) a8 bo bJ bT cn cy ea
  | .d1=> .node v bh (bu.eB x p a8) bo bJ bT cn cy ea
  | .d2=> .node v bh a8 (bu.eB x p bo) bJ bT cn cy ea
  | .d3=> .node v bh a8 bo (bu.eB x p bJ) bT cn cy ea
  | .d4=> .node v bh a8 bo bJ (bu.eB x p bT) cn cy ea
  | .d5=> .node v bh a8 bo bJ bT (bu.eB x p cn) cy ea
  | .d6=> .node v bh a8 bo bJ bT cn (bu.eB x p cy) ea
  | .d7=> .node v bh a8 bo bJ bT cn cy (bu.eB x p ea)
def bu.vo{α:Type}(p:List lR):bu.jG p (.leaf:bu α)=none:=by cases p<;>rfl
def bu.vp{α:Type}(x:α):∀(p:List lR) (t:bu α),bu.jG p (bu.eB x p t)=D x
 |[],.leaf=>rfl
 |[],.node .. =>rfl
 |d::p,.leaf=>by cases d<;>exact bu.vp x p _
 |d::p,.node .. =>by cases d<;>exact bu.vp x p _
def bu.Ai{α:Type}(x:α):∀(p q:List lR) (t:bu α),p≠q->bu.jG q (bu.eB x p t)=bu.jG q t
 |[],[],_,h=>absurd rfl h
 |[],e::q,.leaf,_=>by cases e<;>exact bu.vo q
 |[],e::q,.node ..,_=>rfl
 |d::p,[],.leaf,_=>by cases d<;>rfl
 |d::p,[],.node ..,_=>by cases d<;>rfl
 |d::p,e::q,.leaf,h=>by
  cases d<;>cases e<;>first
   |exact bu.vo q
   |(show bu.jG q (bu.eB x p .leaf)=I
     rw[bu.Ai x p q .leaf (λa=>h (by rw[a]))];exact bu.vo q)
 |d::p,e::q,.node ..,h=>by
  cases d<;>cases e<;>first
   |rfl
   |exact bu.Ai x p q _ (λa=>h (by rw[a]))
def bu.get{α:Type}(t:bu α)(k:Nat):Option α:=bu.jG (path k) t
def bu.put{α:Type}(x:α)(_:Nat)(t:bu α)(k:Nat):bu α:=bu.eB x (path k) t
def bu.qd{α:Type}(k:Nat):(bu.leaf:bu α).get k=none:=bu.vo _
def bu.rW{α:Type}(x:α):∀(f:Nat) (t:bu α) (k:Nat),k<f->(bu.put x f t k).get k=D x:=λ_ t k _=>bu.vp x (path k) t
def bu.qf{α:Type}(x:α):∀(f:Nat) (t:bu α) (k j:Nat),k≠j->(bu.put x f t k).get j=t.get j:=λ_ t _ _ h=>bu.Ai x _ _ t (λe=>h (JP e))
structure ad where
 t:bu bn
 next:Nat
def ad.get(H:ad)(l:Nat):Option bn:=if l<H.next then H.t.get l else I
def ad.set(H:ad)(l:Nat)(b:bn):ad:={H with t:=bu.put b (l+1) H.t l}
def ad.push(H:ad)(b:bn):ad:={t:=bu.put b (H.next+1) H.t H.next,next:=H.next+1}
def ad.empty:ad:=⟨.leaf,0⟩
@[simp] theorem ad.vW(H:ad)(l:Nat)(b:bn):(H.set l b).next=H.next:=rfl
@[simp] theorem ad.dm(H:ad)(b:bn):(H.push b).next=H.next+1:=rfl
def ad.bE{H:ad}{l:Nat}{b:bn}(h:H.get l=D b):l<H.next:=by
 unfold ad.get at h;split at h
 ·assumption
 ·cases h
def ad.c8{H:ad}{l:Nat}{b:bn}(h:l<H.next):(H.set l b).get l=D b:=by
 show(if l<H.next then(bu.put b (l+1) H.t l).get l else I)=D b;rw[if_pos h];exact bu.rW b _ _ _ aa
def ad.cb{H:ad}{l j:Nat}{b:bn}(h:l≠j):(H.set l b).get j=H.get j:=by
 show(if j<H.next then(bu.put b (l+1) H.t l).get j else I)=(if j<H.next then H.t.get j else I);rw[bu.qf b _ _ _ _ h]
def ad.a_(H:ad)(b:bn):(H.push b).get H.next=D b:=by
 show(if H.next<H.next+1 then(bu.put b (H.next+1) H.t H.next).get H.next else I)=D b;rw[if_pos aa];exact bu.rW b _ _ _ aa
def ad.dO{H:ad}{j:Nat}{b:bn}(h:j≠H.next):(H.push b).get j=H.get j:=by
 show(if j<H.next+1 then(bu.put b (H.next+1) H.t H.next).get j else I)=(if j<H.next then H.t.get j else I);by_cases a:j<H.next
 ·rw[if_pos aa,if_pos a,bu.qf b _ _ _ _ aa]
 ·rw[if_neg aa,if_neg a]
section
mutual
def ae.beq:ae->ae->Bool
 | .bool a,.bool b=>a==b
 | .int k n,.int o m=>decide (k=o)&&decide (n=m)
 | .str s,.str t=>decide (s=t)
 | .ptr l i c,.ptr d g f=>decide (l=d)&&decide (i=g)&&decide (c=f)
 | .gI,.gI=>C
 | .aD l i n e c,.aD d g p j f=>decide (l=d)&&decide (i=g)&&decide (n=p)&&decide (e=j)&&decide (c=f)
 | .aB,.aB=>C
 | .map l,.map d=>decide (l=d)
 | .ib,.ib=>C
 | .nilFunc,.nilFunc=>C
 | .iface t v,.iface q r=>decide (t=q)&&ae.beq v r
 | .nilIface,.nilIface=>C
 | .agg xs,.agg h=>er.beq xs h
 | .tuple xs,.tuple h=>er.beq xs h
 |_,_=>Z
def er.beq:List ae->List ae->Bool
  |[],[]=>C
  |x::xs,y::a=>ae.beq x y&&er.beq xs a
  |_,_=>Z
 end
mutual
def ae.beq_eq:∀{a b:ae},ae.beq a b=C->a=b:=by
 intro a b h;cases a<;>cases b<;>simp only[ae.beq]at h<;>first
  |(cases h;done)
  |rfl
  |(simp at h;simp[h];done)
  |skip
 ·simp only[Bool.and_eq_true,decide_eq_true_eq]at h;obtain⟨rfl,h⟩:=h;rw[ae.beq_eq h]
 ·rw[er.beq_eq h]
 ·rw[er.beq_eq h]
def er.beq_eq:∀{a b:List ae},er.beq a b=C->a=b:=by
  intro a b h;cases a with
  |nil=>cases b with
   |nil=>rfl
   |cons y c=>simp[er.beq]at h
  |cons x xs=>cases b with
   |nil=>simp[er.beq]at h
   |cons y c=>
    simp only[er.beq,Bool.and_eq_true]at h;rw[ae.beq_eq h.1,er.beq_eq h.2]
 end
structure Loc where
 block:Nat
 off:Nat
 esz:Nat
 size:Nat
def Env:Type:=Nat->Option Loc
def Env.le(ρ a:Env):Prop:=∀l loc,ρ l=D loc->a l=D loc
def Env.le_refl(ρ:Env):ρ.le ρ:=λ_ _ h=>h
def Env.le_trans{ρ a b:Env}(h:ρ.le a)(bY:a.le b):ρ.le b:=λl loc e=>bY l loc (h l loc e)
mutual
inductive bp(ρ:Env):ae->Value->Prop where
 |bool (b:Bool):bp ρ (.bool b) (.bool b)
 |int (k:IntKind) (n:Int):bp ρ (.int k n) (.int k n)
 |str (s:List UInt8):bp ρ (.str s) (.string ⟨s.toArray⟩)
 |ptr (l i c:Nat) (loc:Loc) (h:ρ l=some loc):bp ρ (.ptr l i c) (.pointer (some ⟨loc.block,loc.off+i*loc.esz+c,none⟩))
 |gI:bp ρ .gI (.pointer none)
 |aD (l i n:Nat) (cap:Option Nat) (loc:Loc) (a:Addr) (c:Nat) (h:ρ l=some loc) (aH:n<=c) (aq:∀k,cap=some k->c=k)
  (g:0<c->a=⟨loc.block,loc.off+i*loc.esz,none⟩/\loc.off+(i+c)*loc.esz<=loc.size):bp ρ (.aD l i n loc.esz cap) (.slice (some a) n c)
 |aB:bp ρ .aB (.slice none 0 0)
 |map (l:Nat) (loc:Loc) (h:ρ l=some loc):bp ρ (.map l) (.map (some loc.block))
 |ib:bp ρ .ib (.map none)
 |func (fn:Fn) (f c:List ae) (e d:List Value) (az:bO ρ f e) (aq:bO ρ c d):bp ρ (.func fn f c) (.func fn e.toArray d.toArray)
 |nilFunc:bp ρ .nilFunc .nilFunc
 |iface (t:TypeId) (v:ae) (x:Value) (h:bp ρ v x):bp ρ (.iface t v) (.iface t x)
 |nilIface:bp ρ .nilIface .nilIface
 |agg (cs:List ae) (xs:List Value) (h:bO ρ cs xs):bp ρ (.agg cs) (.agg xs.toArray)
 |tuple (cs:List ae) (xs:List Value) (h:bO ρ cs xs):bp ρ (.tuple cs) (.tuple xs.toArray)
inductive bO(ρ:Env):List ae->List Value->Prop where
  |nil:bO ρ [] []
  |cons (v:ae) (x:Value) (ak:List ae) (xs:List Value) (h:bp ρ v x) (a:bO ρ ak xs):bO ρ (v::ak) (x::xs)
 end
mutual
def bp.mono{ρ d:Env}(hle:ρ.le d){v:ae}{x:Value}(h:bp ρ v x):bp d v x:=by
 cases h with
 |bool b=>exact .bool b
 |int k n=>exact .int k n
 |str s=>exact .str s
 |ptr l i c loc h=>exact .ptr l i c loc (hle _ _ h)
 |gI=>exact .gI
 |aD l i n cap loc a c h aH aq j=>exact .aD l i n cap loc a c (hle _ _ h) aH aq j
 |aB=>exact .aB
 |map l loc h=>exact .map l loc (hle _ _ h)
 |ib=>exact .ib
 |func fn f c g e az aq=>exact .func fn f c g e (bO.mono hle az) (bO.mono hle aq)
 |nilFunc=>exact .nilFunc
 |iface t v x h=>exact .iface t v x (bp.mono hle h)
 |nilIface=>exact .nilIface
 |agg cs xs h=>exact .agg cs xs (bO.mono hle h)
 |tuple cs xs h=>exact .tuple cs xs (bO.mono hle h)
def bO.mono{ρ a:Env}(hle:ρ.le a){v:List ae}{x:List Value}(h:bO ρ v x):bO a v x:=by
  cases h with
  |nil=>exact .nil
  |cons v x ak xs h b=>exact .cons v x ak xs (bp.mono hle h) (bO.mono hle b)
 end
def bO.length{ρ:Env}:∀{ak:List ae} {xs:List Value},bO ρ ak xs->ak.length=xs.length
 |[],_,h=>by cases h;rfl
 |_::_,_,h=>by cases h with|cons _ _ _ _ _ a=>simp[bO.length a]
def bO.get{ρ:Env}:∀{ak:List ae} {xs:List Value},bO ρ ak xs->∀(j:Nat) (v:ae),ak[j]? =D v->∃x,xs[j]? =D x/\bp ρ v x
 |[],_,h,j,v,a=>by simp at a
 |w::ak,_,h,j,v,a=>by
  cases h with
  |cons _ x _ xs b c=>
   cases j with
   |zero=>simp at a;subst a;exact⟨x,rfl,b⟩
   |succ j=>simpa using bO.get c j v (by simpa using a)
def bO.append{ρ:Env}:∀{ak us:List ae} {xs b:List Value},bO ρ ak xs->bO ρ us b->bO ρ (ak++us) (xs++b)
 |[],_,_,_,h,bY=>by cases h;exact bY
 |_::_,_,_,_,h,bY=>by cases h with|cons _ _ _ _ a as=>exact .cons _ _ _ _ a (bO.append as bY)
def bO.Jn{ρ:Env}:∀{ak:List ae} {xs:List Value},ak.length=xs.length->(∀(j:Nat) (v:ae) (x:Value),ak[j]? =D v->xs[j]? =D x->bp ρ v x)->bO ρ ak xs
 |[],[],_,_=> .nil
 |[],_::_,h,_=>by simp at h
 |_::_,[],h,_=>by simp at h
 |v::ak,x::xs,h,au=> .cons _ _ _ _ (au 0 v x rfl rfl) (bO.Jn (by simpa using h) λj a b c d=>au (j+1) a b (by simpa using c) (by simpa using d))
def bO.set{ρ:Env}{v:ae}{x:Value}(h:bp ρ v x):∀{ak:List ae} {xs:List Value} (j:Nat),bO ρ ak xs->bO ρ (ak.set j v) (xs.set j x)
 |[],_,_,b=>by cases b;exact .nil
 |_::_,_,0,b=>by cases b with|cons _ _ _ _ a as=>exact .cons _ _ _ _ h as
 |_::_,_,j+1,b=>by cases b with|cons _ _ _ _ a as=>exact .cons _ _ _ _ a (bO.set h j as)
def ae.one:ae->Bool
 | .agg _| .tuple _=>Z
 |_=>C
def ae.cells:ae->List ae
 | .agg cs=>cs
 |v=>[v]
def bp.Bg{ρ:Env}{v:ae}{x:Value}(h:bp ρ v x)(af:v.one=C):x.oneCell'=true:=by
 cases h<;>first|rfl|cases af
def bp.cells{ρ:Env}{v:ae}{x:Value}(h:bp ρ v x):bO ρ v.cells x.cells.toList:=by
 cases h with
 |agg cs xs h=>simpa [ae.cells,Value.cells]using h
 |bool b=>exact .cons _ _ _ _ (.bool b) .nil
 |int k n=>exact .cons _ _ _ _ (.int k n) .nil
 |str s=>exact .cons _ _ _ _ (.str s) .nil
 |ptr l i c loc h=>exact .cons _ _ _ _ (.ptr l i c loc h) .nil
 |gI=>exact .cons _ _ _ _ .gI .nil
 |aD l i n cap loc a c h aH aq g=>exact .cons _ _ _ _ (.aD l i n cap loc a c h aH aq g) .nil
 |aB=>exact .cons _ _ _ _ .aB .nil
 |map l loc h=>exact .cons _ _ _ _ (.map l loc h) .nil
 |ib=>exact .cons _ _ _ _ .ib .nil
 |func fn f c e d az aq=>exact .cons _ _ _ _ (.func fn f c e d az aq) .nil
 |nilFunc=>exact .cons _ _ _ _ .nilFunc .nil
 |iface t v x h=>exact .cons _ _ _ _ (.iface t v x h) .nil
 |nilIface=>exact .cons _ _ _ _ .nilIface .nil
 |tuple cs xs h=>exact .cons _ _ _ _ (.tuple cs xs h) .nil
def fF(ρ:Env)(w:World)(loc:Loc)(ro:Bool)(esz:Nat)(els:List (List ae)):Prop:=loc.esz=esz/\∃c t a,w.heap[loc.block]? =D (.cells c t a)/\(loc.size=c.size/\(ro=Z->∀o,o<c.size->¬(a.1<=o/\o<a.2)))/\ ∀(i:Nat) (e:List ae),els[i]? =D e->e.length=esz/\∀(j:Nat) (v:ae),e[j]? =D v->v.one=C/\∃x,c[loc.off+i*esz+j]? =D x/\bp ρ v x
def ni(ρ:Env)(w:World)(loc:Loc)(t:TypeId)(esz:Nat)(els:List (List ae)):Prop:=fF ρ w loc Z esz els/\∃c a,w.heap[loc.block]? =D (.cells c t a)/\loc.off=0
def zf(ρ:Env)(w:World)(loc:Loc)(es:List (ae×ae)):Prop:=∃ents clock,w.heap[loc.block]? =D (.map ents clock)/\bO ρ (es.map (·.1)) (ents.toList.map (·.key))/\bO ρ (es.map (·.2)) (ents.toList.map (·.val))
def ad.rw(H:ad)(l:Nat):Prop:=(∃esz els,H.get l=D (.row Z esz els))\/(∃es,H.get l=D (.map es))\/∃t esz els,H.get l=D (.dz t esz els)
def ad.live(H:ad)(l:Nat):Prop:=(∃ro esz els,H.get l=D (.row ro esz els))\/(∃es,H.get l=D (.map es))\/∃t esz els,H.get l=D (.dz t esz els)
def ad.rw.live{H:ad}{l:Nat}(h:H.rw l):H.live l:=by
 rcases h with⟨e,s,h⟩|h
 ·exact .inl ⟨_,e,s,h⟩
 ·exact .inr h
def bn.oP:bn->Bool
 | .old _ _ _=>C
 |_=>Z
def bn.r2:bn->Bool
 | .row C _ _=>C
 |_=>Z
def ad.BB{H:ad}{l:Nat}{b:bn}(c:b.r2=Z):∀k esz els,(H.set l b).get k=D (.row C esz els)->H.get k=D (.row C esz els):=by
 intro k esz els h;by_cases a:l=k
 ·subst a;have d:l<H.next:=by have:=ad.bE h;simpa using this
  rw[ad.c8 d]at h;simp only[bb]at h;subst h;cases c
 ·rwa[ad.cb a]at h
def ad.BA{H:ad}{b:bn}(c:b.r2=Z):∀k esz els,(H.push b).get k=D (.row C esz els)->H.get k=D (.row C esz els):=by
 intro k esz els h;by_cases a:k=H.next
 ·subst a;rw[ad.a_]at h;simp only[bb]at h;subst h;cases c
 ·rwa[ad.dO a]at h
def fF.frame{ρ b:Env}{w a:World}{loc:Loc}{ro:Bool}{esz:Nat}{els:List (List ae)}(h:fF ρ w loc ro esz els)(hle:ρ.le b)(f:a.heap[loc.block]? =w.heap[loc.block]?):fF b a loc ro esz els:=by
 obtain⟨k,c,t,e,p,l,au⟩:=h;refine⟨k,c,t,e,by rw[f];exact p,l,?_⟩;intro i d g;obtain⟨af,ah⟩:=au i d g;refine⟨af,λj v m=> ?_⟩;obtain⟨an,x,aA,n⟩:=ah j v m;exact⟨an,x,aA,n.mono hle⟩
def fF.lt{ρ:Env}{w:World}{loc:Loc}{ro:Bool}{esz:Nat}{els:List (List ae)}(h:fF ρ w loc ro esz els):loc.block<w.heap.size:=by
 obtain⟨_,c,t,a,p,_⟩:=h;exact(Array.getElem?_eq_some_iff.1 p).1
def ng(ρ:Env)(O:Nat->Prop)(w:World)(l s esz:Nat)(els:List (List ae)):Prop:=∃loc,ρ l=D loc/\loc.block<w.heap.size/\(ρ s=D loc\/(fF ρ w loc C esz els/\¬O loc.block))
def ng.step{ρ e:Env}{O c:Nat->Prop}{w a:World}{l s esz:Nat}{els:List (List ae)}(h:ng ρ O w l s esz els)(hle:ρ.le e)(g:w.heap.size<=a.heap.size)(az:∀b,b<w.heap.size->¬O b->a.heap[b]? =w.heap[b]?)(aR:∀b,c b->O b\/w.heap.size<=b):ng e c a l s esz els:=by
 obtain⟨loc,af,f,ah⟩:=h;refine⟨loc,hle _ _ af,Nat.lt_of_lt_of_le f g,ah.imp (hle _ _) λan=>⟨an.1.frame hle (az _ an.1.lt an.2),λaM=> ?_⟩⟩;have:=an.1.lt;rcases aR _ aM with d|d
 ·exact an.2 d
 ·omega
def d_(ρ:Env)(H:ad)(b:Nat):Prop:=∃l loc,H.rw l/\ρ l=D loc/\loc.block=b
structure Rel(ρ:Env)(H:ad)(w:World):Prop where
 row:∀l ro esz els,H.get l=some (.row ro esz els)->∃loc,ρ l=some loc/\fF ρ w loc ro esz els
 map:∀l es,H.get l=some (.map es)->∃loc,ρ l=some loc/\zf ρ w loc es
 dz:∀l t esz els,H.get l=some (.dz t esz els)->∃loc,ρ l=some loc/\ni ρ w loc t esz els
 apart:∀l a loc b,H.rw l->H.live a->l≠a->ρ l=some loc->ρ a=some b->loc.block≠b.block
 old:∀l s esz els,H.get l=some (.old s esz els)->ng ρ (d_ ρ H) w l s esz els
def uH(ρ:Env)(H:ad)(w:World)(a:Env)(H':ad):Prop:=∀k s esz els,H'.get k=D (.old s esz els)->(∃s esz els,H.get k=D (.old s esz els))\/∃loc,a k=D loc/\(d_ ρ H loc.block\/w.heap.size<=loc.block)
def uH.same{ρ a:Env}{H H':ad}{w:World}(h:∀k s esz els,H'.get k=D (.old s esz els)->H.get k=D (.old s esz els)):uH ρ H w a H':=λk s esz els e=> .inl ⟨s,esz,els,h k s esz els e⟩
def ad.v_{H:ad}{l:Nat}{b:bn}(c:b.oP=Z):∀k s esz els,(H.set l b).get k=D (.old s esz els)->H.get k=D (.old s esz els):=by
 intro k s esz els h;by_cases a:l=k
 ·subst a;have d:l<H.next:=by have:=ad.bE h;simpa using this
  rw[ad.c8 d]at h;simp only[bb]at h;subst h;cases c
 ·rwa[ad.cb a]at h
def ad.o1{H:ad}{b:bn}(c:b.oP=Z):∀k s esz els,(H.push b).get k=D (.old s esz els)->H.get k=D (.old s esz els):=by
 intro k s esz els h;by_cases a:k=H.next
 ·subst a;rw[ad.a_]at h;simp only[bb]at h;subst h;cases c
 ·rwa[ad.dO a]at h
structure Step(ρ:Env)(H:ad)(w:World)(c:Env)(H':ad)(a:World):Prop where
 le:ρ.le c
 next:H.next<=H'.next
 keep:∀l,l<H.next\/H'.next<=l->c l=ρ l
 rel:Rel c H' a
 os:a.os=w.os
 tape:a.tape=w.tape
 output:a.output=w.output
 size:w.heap.size<=a.heap.size
 frame:∀b,b<w.heap.size->¬d_ ρ H b->a.heap[b]? =w.heap[b]?
 own:∀b,d_ c H' b->d_ ρ H b\/w.heap.size<=b
 ro:∀l esz els,H'.get l=some (.row true esz els)->H.get l=some (.row true esz els)
 olds:uH ρ H w c H'
def Step.refl{ρ:Env}{H:ad}{w:World}(h:Rel ρ H w):Step ρ H w ρ H w:=
 ⟨ρ.le_refl,bC _,λ_ _=>rfl,h,rfl,rfl,rfl,bC _,λ_ _ _=>rfl,λ_ h=> .inl h,λ_ _ _ h=>h,.same λ_ _ _ _ h=>h⟩
def Step.trans{ρ n o:Env}{H g i:ad}{w j m:World}(h:Step ρ H w n g j)(k:Step n g j o i m):Step ρ H w o i m where
 le:=Env.le_trans h.le k.le
 next:=Nat.le_trans h.next k.next
 keep:=λl al=>(k.keep l (al.imp (λx=>Nat.lt_of_lt_of_le x h.next) id)).trans (h.keep l (al.imp id (λx=>Nat.le_trans k.next x)))
 ro:=λl esz els e=>h.ro l esz els (k.ro l esz els e)
 olds:=λl s esz els e=>by
  rcases k.olds l s esz els e with⟨r,q,p,d⟩|⟨loc,d,f⟩
  ·exact(h.olds l r q p d).imp id λ⟨loc,f,a⟩=>⟨loc,k.le _ _ f,a⟩
  ·exact .inr ⟨loc,d,f.elim (λa=>h.own _ a) λa=> .inr (Nat.le_trans h.size a)⟩
 rel:=k.rel
 os:=k.os.trans h.os
 tape:=k.tape.trans h.tape
 output:=k.output.trans h.output
 size:=Nat.le_trans h.size k.size
 frame:=λb c aH=>by
  rw[k.frame b (Nat.lt_of_lt_of_le c h.size) (λaR=>(h.own b aR).elim aH (λhle=>aa)),h.frame b c aH]
 own:=λb c=>(k.own b c).elim (λaR=>h.own b aR) (λhle=> .inr (Nat.le_trans h.size hle))
def Ev(ρ:Env)(n m:Nat):Prop:=∀l,n<=l->l<m->ρ l=I
structure iu(E ρ:Env)(n m:Nat):Prop where
 new:Ev ρ n m
 le:E.le ρ
def iu.left{E ρ:Env}{n m k:Nat}(h:iu E ρ n k)(hm:m<=k):iu E ρ n m:=⟨λl a b=>h.new l a aa,h.le⟩
def iu.after{E ρ d:Env}{H c:ad}{w e:World}{k:Nat}(h:iu E ρ H.next k)(s:Step ρ H w d c e):iu E d c.next k:=⟨λl a b=>by
 rw[s.keep l (.inr a)];exact h.new l (Nat.le_trans s.next a) b,Env.le_trans h.le s.le⟩
def Rel.drew{ρ:Env}{H:ad}{w:World}(h:Rel ρ H w):Rel ρ H w.drew:=⟨h.row,h.map,h.dz,h.apart,h.old⟩
end
def dM(P:Program)(t:TypeId):Option Bool:=
 match P.underlying t with
 |some (.struct _)|some (.array _ _)=>D C
 |some _=>D Z
 |none=>I
def cp(P:Program)(t:TypeId):Option Nat:=(P.info? t).map (·.size)
def wC{P:Program}{t:TypeId}{b:Bool}(h:dM P t=D b)(w:World):(isAgg t).run P w= .ok b w:=by
 unfold dM at h;unfold isAgg;cases hu:P.underlying t with
 |none=>rw[hu]at h;cases h
 |some d=>
  rw[hu]at h;simp only[Sem.run_bind,run_underlying hu,Result.andThen_ok];cases d<;>simp_all
def run_sizeOf{P:Program}{t:TypeId}{n:Nat}(h:cp P t=D n)(w:World):(sizeOf t).run P w= .ok n w:=by
 unfold cp at h;cases a:P.info? t with
 |none=>rw[a]at h;cases h
 |some i=>rw[a]at h;simp at h;simp[sizeOf,typeInfo,a,h]
def apart(P:Program)(t:TypeId)(cs:List ae)(off:Nat):Option ae:=
 match dM P t with
 |some C=>(match cp P t with|some n=>D (.agg ((cs.drop off).take n))|none=>I)
 |some Z=>cs[off]?
 |none=>I
def bO.drop{ρ:Env}:∀{ak:List ae} {xs:List Value} (n:Nat),bO ρ ak xs->bO ρ (ak.drop n) (xs.drop n)
 |_,_,0,h=>by simpa using h
 |[],_,n+1,h=>by cases h;simpa using bO.nil
 |_::_,_,n+1,h=>by cases h with|cons _ _ _ _ a as=>simpa using bO.drop n as
def bO.take{ρ:Env}:∀{ak:List ae} {xs:List Value} (n:Nat),bO ρ ak xs->bO ρ (ak.take n) (xs.take n)
 |_,_,0,h=>by simpa using bO.nil
 |[],_,n+1,h=>by cases h;simpa using bO.nil
 |_::_,_,n+1,h=>by cases h with|cons _ _ _ _ a as=>simpa using bO.cons _ _ _ _ a (bO.take n as)
def nr{P:Program}{t:TypeId}{cs:List ae}{off:Nat}{v:ae}{ρ:Env}{xs:List Value}(h:apart P t cs off=D v)(b:bO ρ cs xs)(w:World):
  ∃x,(part t xs.toArray off).run P w= .ok x w/\bp ρ v x:=by
 unfold apart at h;split at h
 ·rename_i a;split at h
  ·rename_i n aH;simp at h;subst h;refine⟨.agg (((xs.drop off).take n).toArray),?_,.agg _ _ ((b.drop off).take n)⟩;unfold part;simp only[Sem.run_bind,wC a,Result.andThen_ok,if_true,run_sizeOf aH];simp[List.extract_toArray,List.extract_eq_take_drop]
  ·cases h
 ·rename_i a;obtain⟨x,aA,c⟩:=b.get off v h;refine⟨x,?_,c⟩;unfold part;simp[wC a,aA]
 ·cases h
def ky(op:BinOp)(k:IntKind)(a b:Int):Option ae:=
 match op with
 | .add=>D (.int k (k.wrap (a+b)))
 | .sub=>D (.int k (k.wrap (a-b)))
 | .mul=>D (.int k (k.wrap (a*b)))
 | .quo=>if b=0 then I else D (.int k (k.wrap (a.tdiv b)))
 | .rem=>if b=0 then I else D (.int k (a.tmod b))
 | .and=>D (.int k (k.wrap ((BitVec.ofInt k.bits a&&&BitVec.ofInt k.bits b).toNat:Int)))
 | .or=>D (.int k (k.wrap ((BitVec.ofInt k.bits a|||BitVec.ofInt k.bits b).toNat:Int)))
 | .xor=>D (.int k (k.wrap ((BitVec.ofInt k.bits a^^^BitVec.ofInt k.bits b).toNat:Int)))
 | .andNot=>D (.int k (k.wrap ((BitVec.ofInt k.bits a&&& ~~~BitVec.ofInt k.bits b).toNat:Int)))
 | .eql=>D (.bool (a==b))
 | .neq=>D (.bool (a != b))
 | .lss=>D (.bool (decide (a<b)))
 | .leq=>D (.bool (decide (a<=b)))
 | .gtr=>D (.bool (decide (b<a)))
 | .geq=>D (.bool (decide (b<=a)))
 | .shl| .shr=>I
def qg(op:BinOp)(k:IntKind)(a b:Int):Option ae:=
 if b<0 then I else
 match op with
 | .shl=>D (.int k (k.wrap (a*2^(min b.toNat k.bits))))
 | .shr=>D (.int k (a.fdiv (2^(min b.toNat k.bits))))
 |_=>I
def yR(op:BinOp)(a b:List UInt8):Option ae:=
 match op with
 | .add=>if a.length+b.length<=9223372036854775807 then D (.str (a++b))else I
 | .eql=>D (.bool (a==b))
 | .neq=>D (.bool (!(a==b)))
 | .lss=>D (.bool (Op.bytesLess a b))
 | .leq=>D (.bool (Op.bytesLess a b||a==b))
 | .gtr=>D (.bool (!(Op.bytesLess a b||a==b)))
 | .geq=>D (.bool (!Op.bytesLess a b))
 |_=>I
def pR(P:Program)(eq:TypeId->ae->ae->Option Bool):List Field->List ae->List ae->Option Bool
 |[],_,_=>D C
 |f::fs,xs,c=>
  if f.name≠ "_" then
   match apart P f.type xs f.offset,apart P f.type c f.offset with
   |some a,D b=>(match eq f.type a b with|some C=>pR P eq fs xs c|some Z=>D Z|none=>I)
   |_,_=>I
  else pR P eq fs xs c
def rz(P:Program)(eq:TypeId->ae->ae->Option Bool)(e:TypeId)(n:Nat):Nat->Nat->List ae->List ae->Option Bool
 |0,_,_,_=>D C
 |k+1,i,xs,c=>
  match apart P e xs (i*n),apart P e c (i*n)with
  |some a,D b=>(match eq e a b with|some C=>rz P eq e n k (i+1) xs c|some Z=>D Z|none=>I)
  |_,_=>I
def h6(P:Program):Nat->TypeId->ae->ae->Option Bool
 |0,_,_,_=>I
 |d+1,t,x,y=>
  match P.underlying t,x,y with
  |some .bool,.bool a,.bool b=>D (a==b)
  |some (.int _),.int k a,.int f b=>if k=f then D (a==b)else I
  |some .string,.str a,.str b=>D (a==b)
  |some (.pointer _),.gI,.gI=>D C
  |some (.pointer _),.gI,.ptr .. =>D Z
  |some (.pointer _),.ptr ..,.gI=>D Z
  |some (.interface _),.nilIface,.nilIface=>D C
  |some (.interface _),.nilIface,.iface .. =>D Z
  |some (.interface _),.iface ..,.nilIface=>D Z
  |some (.struct fs),.agg xs,.agg c=>if P.stoodInHeld t then I else pR P (h6 P d) fs.toList xs c
  |some (.array len e),.agg xs,.agg c=>(match cp P e with|some n=>rz P (h6 P d) e n len 0 xs c|none=>I)
  |some (.slice _),.aB,.aB=>D C
  |some (.slice _),.aB,.aD .. =>D Z
  |some (.slice _),.aD ..,.aB=>D Z
  |some (.map _ _),.ib,.ib=>D C
  |some (.map _ _),.ib,.map _=>D Z
  |some (.map _ _),.map _,.ib=>D Z
  |some (.func _ _ _),.nilFunc,.nilFunc=>D C
  |some (.func _ _ _),.nilFunc,.func .. =>D Z
  |some (.func _ _ _),.func ..,.nilFunc=>D Z
  |_,_,_=>I
def isConst:Operand->Bool
 | .const _=>C
 |_=>Z
def oI(P:Program)(t:TypeId)(x y:Operand)(a b:ae):Bool:=
 match a,b with
 | .nilIface,.nilIface=>isConst x||isConst y
 | .agg _,.agg _=> !P.eqGuardType P.depth t
 |_,_=>C
def rr(P:Program)(op:BinOp)(t:TypeId)(c d:Operand)(x y:ae):Option ae:=
 match x,y with
 | .int k a,.int e b=>
  (match op with
  | .shl=>qg .shl k a b
  | .shr=>qg .shr k a b
  |op=>if k=e then ky op k a b else I)
 | .str a,.str b=>yR op a b
 |x,y=>
  (match op with
  | .eql=>if oI P t c d x y then(h6 P 10000 t x y).map .bool else I
  | .neq=>if oI P t c d x y then(h6 P 10000 t x y).map λb=> .bool (!b)else I
  |_=>I)
def iG(op:UnOp)(x:ae):Option ae:=
 match op,x with
 | .neg,.int k n=>D (.int k (k.wrap (0-n)))
 | .not,.bool b=>D (.bool (!b))
 |_,_=>I
end Go.bz
namespace Go
def Operand.vu:Operand->Bool
 | .const _=>C
 |_=>Z
end Go
namespace Go.bz
section
variable {P:Program}{ρ:Env}
def BE(w:World)(eq:TypeId->ae->ae->Option Bool)(d:TypeId->Value->Value->Sem Bool)
  (heq:∀t a b x y c,eq t a b=D c->bp ρ a x->bp ρ b y->(d t x y).run P w= .ok c w) {xs n:List ae} {m o:List Value} (aA:bO ρ xs m) (e:bO ρ n o):
  ∀(fs:List Field) (b:Bool),pR P eq fs xs n=D b->
   (forIn fs ((I:Option Bool),()) (λf _=>
    (if f.name≠ "_" then do
     let a<-part f.type m.toArray f.offset
     let b<-part f.type o.toArray f.offset
     let c<-d f.type a b
     if(!c)=C then pure (ForInStep.done (D Z,()))else pure (ForInStep.yield (I,()))
    else pure (ForInStep.yield (I,())):Sem (ForInStep (Option Bool×Unit))))).run P w= .ok (if b then(I,())else(D Z,())) w
 |[],b,h=>by
  simp[pR]at h;subst h;simp[Sem.run_pure]
 |f::fs,b,h=>by
  unfold pR at h;rw[List.forIn_cons];by_cases aH:f.name≠ "_"
  ·rw[if_pos aH]at h;split at h
   ·rename_i a b' p q;obtain⟨x,k,i⟩:=nr p aA w;obtain⟨y,l,j⟩:=nr q e w;split at h
    ·rename_i he;have au:=heq _ _ _ _ _ _ he i j;have g:=BE w eq d heq aA e fs b h;simp only[if_pos aH,Sem.run_bind,k,l,au,Result.andThen_ok,Bool.not_true,Bool.false_eq_true,if_false,Sem.run_pure];exact g
    ·rename_i he;have au:=heq _ _ _ _ _ _ he i j;simp at h;subst h;simp only[if_pos aH,Sem.run_bind,k,l,au,Result.andThen_ok,Bool.not_false,if_true,Sem.run_pure];rfl
    ·cases h
   ·cases h
  ·rw[if_neg aH]at h;have g:=BE w eq d heq aA e fs b h;simp only[if_neg aH,Sem.run_bind,Sem.run_pure,Result.andThen_ok];exact g
def Kv(w:World)(e:TypeId)(n:Nat)(eq:TypeId->ae->ae->Option Bool)(d:TypeId->Value->Value->Sem Bool)
  (heq:∀t a b x y c,eq t a b=D c->bp ρ a x->bp ρ b y->(d t x y).run P w= .ok c w) {xs p:List ae} {o q:List Value} (aA:bO ρ xs o) (l:bO ρ p q):
  ∀(k i:Nat) (b:Bool),rz P eq e n k i xs p=D b->
   (forIn (List.range' i k) ((I:Option Bool),()) (λi _=>
    (do
     let a<-part e o.toArray (i*n)
     let b<-part e q.toArray (i*n)
     let c<-d e a b
     if(!c)=C then pure (ForInStep.done (D Z,()))else pure (ForInStep.yield (I,())):Sem (ForInStep (Option Bool×Unit))))).run P w= .ok (if b then(I,())else(D Z,())) w
 |0,i,b,h=>by
  simp[rz]at h;subst h;simp[Sem.run_pure]
 |k+1,i,b,h=>by
  unfold rz at h;rw[List.range'_succ,List.forIn_cons];split at h
  ·rename_i a b' r s;obtain⟨x,j,f⟩:=nr r aA w;obtain⟨y,m,g⟩:=nr s l w;split at h
   ·rename_i he;have au:=heq _ _ _ _ _ _ he f g;have u:=Kv w e n eq d heq aA l k (i+1) b h;simp only[Sem.run_bind,j,m,au,Result.andThen_ok,Bool.not_true,Bool.false_eq_true,if_false,Sem.run_pure];exact u
   ·rename_i he;have au:=heq _ _ _ _ _ _ he f g;simp at h;subst h;simp only[Sem.run_bind,j,m,au,Result.andThen_ok,Bool.not_false,if_true,Sem.run_pure];rfl
   ·cases h
  ·cases h
def D6(a b:List UInt8):((⟨a.toArray⟩:ByteArray)==⟨b.toArray⟩)=(a==b):=by
 have:((⟨a.toArray⟩:ByteArray)==⟨b.toArray⟩)=(a.toArray==b.toArray):=rfl;rw[this];simp
def rR(w:World):∀(d:Nat) (t:TypeId) (x y:ae) (f g:Value) (b:Bool),h6 P d t x y=D b->bp ρ x f->bp ρ y g->
  (Op.equalIn d t f g).run P w= .ok b w
 |0,t,x,y,f,g,b,h,_,_=>by cases h
 |d+1,t,x,y,f,g,b,h,aA,e=>by
  have k:=rR w d;unfold h6 at h;unfold Op.equalIn;cases hu:P.underlying t with
  |none=>rw[hu]at h;cases h
  |some u=>
   rw[hu]at h;simp only[Sem.run_bind,run_underlying hu,Result.andThen_ok];split at h<;>(try (cases h;done))<;>(try simp only[bb]at*)<;>(try subst_vars)<;>(try (cases aA;cases e;simp;done))
   ·cases aA;cases e;split at h
    ·rename_i l;subst l;simp at h;subst h;simp
    ·cases h
   ·cases aA;cases e;simp[D6]
   ·cases aA with|agg _ p aA=>cases e with|agg _ q e=>
    split at h
    ·cases h
    ·rename_i m;have n:P.stoodInHeld t=false:=by simpa using m
     have:=BE w (h6 P d) (Op.equalIn d) (λt a b x y c he i j=>k t a b x y c he i j) aA e _ b h;simp only[Sem.run_bind,run_program,Result.andThen_ok,n,Bool.false_eq_true,if_false];rw[<-Array.forIn_toList,this];cases b<;>simp
   ·cases aA with|agg _ p aA=>cases e with|agg _ q e=>
    split at h
    ·rename_i o aH;have:=Kv w _ o (h6 P d) (Op.equalIn d) (λt a b x y c he i j=>k t a b x y c he i j) aA e _ _ b h;simp only[Sem.run_bind,run_sizeOf aH,Result.andThen_ok];rw[Std.Legacy.Range.forIn_eq_forIn_range'];simp only[Std.Legacy.Range.size,Nat.sub_zero,Nat.add_sub_cancel,Nat.div_one]at this ⊢;rw[this];cases b<;>simp
    ·cases h
def Tu{op:BinOp}{k:IntKind}{a b:Int}{v:ae}(h:ky op k a b=D v)(t:TypeId)(w:World):
  ∃r,(binOp op t (.int k a) (.int k b)).run P w= .ok r w/\bp ρ v r:=by
 unfold ky at h;cases op<;>simp only at h<;>(try (cases h;done))<;>(try (simp only[bb]at h;subst h))<;>
  (try (exact⟨_,by simp only[binOp,ne_eq,not_true_eq_false,if_false,Op.intArith,Op.intBits,Op.intCmp];exact Sem.run_pure ..,by first|exact .int _ _|exact .bool _⟩))
 ·split at h
  ·cases h
  ·rename_i c;simp only[bb]at h;subst h;exact⟨_,by simp only[binOp,ne_eq,not_true_eq_false,if_false,Op.intDiv,c];exact Sem.run_pure ..,.int _ _⟩
 ·split at h
  ·cases h
  ·rename_i c;simp only[bb]at h;subst h;exact⟨_,by simp only[binOp,ne_eq,not_true_eq_false,if_false,Op.intDiv,c];exact Sem.run_pure ..,.int _ _⟩
def HB{op:BinOp}{k d:IntKind}{a b:Int}{v:ae}(h:qg op k a b=D v)(t:TypeId)(w:World):
  ∃r,(binOp op t (.int k a) (.int d b)).run P w= .ok r w/\bp ρ v r:=by
 unfold qg at h;split at h
 ·cases h
 ·rename_i c;cases op<;>simp only at h<;>(try (cases h;done))<;>simp only[bb]at h<;>subst h
  ·exact⟨_,by simp only[binOp,Op.shift,if_neg c];exact Sem.run_pure ..,.int _ _⟩
  ·exact⟨_,by simp only[binOp,Op.shift,if_neg c];exact Sem.run_pure ..,.int _ _⟩
def toList_mk(a:List UInt8):(⟨a.toArray⟩:ByteArray).toList=a:=by rw[ByteArray.toList_eq]
def Vl(a b:List UInt8):(⟨a.toArray⟩++⟨b.toArray⟩:ByteArray)=⟨(a++b).toArray⟩:=by
 apply ByteArray.ext;simp
def abi{op:BinOp}{a b:List UInt8}{v:ae}(h:yR op a b=D v)(t:TypeId)(w:World):
  ∃r,(binOp op t (.string ⟨a.toArray⟩) (.string ⟨b.toArray⟩)).run P w= .ok r w/\bp ρ v r:=by
 unfold yR at h;unfold binOp;cases op<;>simp only at h<;>(try (cases h;done))<;>(try (simp only[bb]at h;subst h))<;>
  (try (exact⟨_,by simp only[Op.stringOp,toList_mk];exact Sem.run_pure ..,.bool _⟩))
 split at h
 ·rename_i al;simp only[bb]at h;subst h;refine⟨.string ⟨(a++b).toArray⟩,?_,.str _⟩;simp only[Op.stringOp];rw[if_neg,Vl]
  ·exact Sem.run_pure ..
  ·have e:IntKind.i64.max=9223372036854775807:=rfl;have c:(⟨a.toArray⟩:ByteArray).size=a.length:=by show a.toArray.size=_;simp
   have d:(⟨b.toArray⟩:ByteArray).size=b.length:=by show b.toArray.size=_;simp
   rw[e,c,d];omega
 ·cases h
def z8{op:BinOp}{t:TypeId}{a b:Operand}{x y:ae}{d e:Value}(h:oI P t a b x y=C)(aA:bp ρ x d)(c:bp ρ y e)(w:World):
  (eqGuard op t a b d e).run P w= .ok () w:=by
 have aH:a.vu||b.vu=C->(eqGuard op t a b .nilIface .nilIface).run P w= .ok () w:=by
  intro h;cases op<;>first
   |rfl
   |(cases a<;>cases b<;>first|rfl|(simp[Operand.vu]at h;done))
 cases aA with
 |nilIface=>
  cases c with
  |nilIface=>
   refine aH ?_;simp only[oI]at h;cases a<;>cases b<;>simp_all[isConst,Operand.vu]
  |_=>cases op<;>rfl
 |agg cs xs aq=>
  cases c with
  |agg f i g=>
   simp only[oI,Bool.not_eq_true']at h;cases op<;>first|rfl|simp[eqGuard,h]
  |_=>cases op<;>rfl
 |_=>cases c<;>cases op<;>rfl
def binOp_eql{x y:ae}{c d:Value}(aA:bp ρ x c)(g:bp ρ y d)(e:∀k a h b,x= .int k a->y= .int h b->False)(f:∀a b,x= .str a->y= .str b->False)(t:TypeId):
  binOp .eql t c d=(do pure (.bool (<-Op.equal t c d)))/\binOp .neq t c d=(do pure (.bool (!(<-Op.equal t c d)))):=by
 cases aA<;>cases g<;>first
  |exact⟨rfl,rfl⟩
  |exact(e _ _ _ _ rfl rfl).elim
  |exact(f _ _ rfl rfl).elim
def Nh{op:BinOp}{t:TypeId}{g i:Operand}{x y v:ae}{e f:Value}(h:rr P op t g i x y=D v)(aA:bp ρ x e)(c:bp ρ y f)(w:World):
  ∃r,((do eqGuard op t g i e f;binOp op t e f:Sem Value)).run P w= .ok r w/\bp ρ v r:=by
 have n:∀k a d b,(eqGuard op t g i (.int k a) (.int d b)).run P w= .ok () w:=λk a d b=>z8 (ρ:=ρ) (x:= .int k a) (y:= .int d b) rfl (.int _ _) (.int _ _) w
 have o:∀a b,(eqGuard op t g i (.string ⟨a⟩) (.string ⟨b⟩)).run P w= .ok () w:=λa b=>by
  unfold eqGuard;split<;>rfl
 unfold rr at h;split at h
 ·cases aA;cases c;rename_i k a d b;simp only[Sem.run_bind,n,Result.andThen_ok];split at h
  ·exact HB h t w
  ·exact HB h t w
  ·split at h
   ·rename_i p;subst p;exact Tu h t w
   ·cases h
 ·cases aA;cases c;simp only[Sem.run_bind,o,Result.andThen_ok];exact abi h t w
 ·rename_i q s;obtain⟨l,m⟩:=binOp_eql aA c (λk a d b af ah=>q _ _ _ _ af ah) (λa b af ah=>s _ _ af ah) t;split at h
  ·split at h
   ·rename_i az;rw[Sem.run_bind,z8 az aA c w,Result.andThen_ok];simp only[Option.map_eq_some_iff]at h;obtain⟨b,j,rfl⟩:=h;have he:(Op.equal t e f).run P w= .ok b w:=rR (ρ:=ρ) w _ _ _ _ _ _ _ j aA c;exact⟨.bool b,by rw[l,Sem.run_bind,he];rfl,.bool b⟩
   ·cases h
  ·split at h
   ·rename_i az;rw[Sem.run_bind,z8 az aA c w,Result.andThen_ok];simp only[Option.map_eq_some_iff]at h;obtain⟨b,j,rfl⟩:=h;have he:(Op.equal t e f).run P w= .ok b w:=rR (ρ:=ρ) w _ _ _ _ _ _ _ j aA c;exact⟨.bool (!b),by rw[m,Sem.run_bind,he];rfl,.bool _⟩
   ·cases h
  ·cases h
def Oo{op:UnOp}{x v:ae}{a:Value}(h:iG op x=D v)(aA:bp ρ x a)(w:World):∃r,(Op.unary op a).run P w= .ok r w/\bp ρ v r:=by
 unfold iG at h;split at h
 ·cases aA;simp only[bb]at h;subst h;exact⟨_,by simp only[Op.unary,Op.intArith];exact Sem.run_pure ..,.int _ _⟩
 ·cases aA;simp only[bb]at h;subst h;exact⟨_,by simp only[Op.unary];exact Sem.run_pure ..,.bool _⟩
 ·cases h
end
section
variable {P:Program}{ρ:Env}{H:ad}{w:World}
def iW(c:Array Value)(o:Nat):List Value->Array Value
 |[]=>c
 |v::r=>iW (c.setIfInBounds o v) (o+1) r
def su:∀(ak:List Value) (c:Array Value) (o:Nat),(iW c o ak).size=c.size
 |[],_,_=>rfl
 |v::r,c,o=>by rw[iW,su r];simp
def qv:∀(ak:List Value) (c:Array Value) (o k:Nat),k<o\/o+ak.length<=k->(iW c o ak)[k]? =c[k]?
 |[],_,_,_,_=>rfl
 |v::r,c,o,k,h=>by
  rw[iW,qv r _ _ _ (by simp at h;omega)];rw[Array.getElem?_setIfInBounds];have:¬o=k:=by simp at h;omega
  simp[this]
def wm:∀(ak:List Value) (c:Array Value) (o j:Nat) (x:Value),ak[j]? =D x->o+j<c.size->(iW c o ak)[o+j]? =D x
 |[],_,_,_,_,h,_=>by simp at h
 |v::r,c,o,0,x,h,al=>by
  simp at h;subst h;rw[iW,qv r _ _ _ aa,Array.getElem?_setIfInBounds];simp;omega
 |v::r,c,o,j+1,x,h,al=>by
  rw[iW,show o+(j+1)=o+1+j by omega];exact wm r _ _ _ _ (by simpa using h) (by simp;omega)
def ux(b:Nat):∀(ak:List Value) (o:Nat) (w:World) (c:Array Value) (t:TypeId) (a:Nat×Nat),w.heap[b]? =D (.cells c t a)->
  (w.setCells b o ak).heap[b]? =D (.cells (iW c o ak) t a)
 |[],_,_,_,_,_,h=>h
 |v::r,o,w,c,t,a,h=>by
  rw[World.setCells,iW];refine ux b r (o+1) _ _ t a ?_;simp[World.setCell,Array.getElem?_modify,h]
def ml(b:Nat):∀(ak:List Value) (o:Nat) (w:World) (k:Nat),k≠b->(w.setCells b o ak).heap[k]? =w.heap[k]?
 |[],_,_,_,_=>rfl
 |v::r,o,w,k,h=>by
  rw[World.setCells,ml b r _ _ _ h];simp[World.setCell,Array.getElem?_modify,Ne.symm h]
def yF(b:Nat):∀(ak:List Value) (o:Nat) (w:World),(w.setCells b o ak).heap.size=w.heap.size/\(w.setCells b o ak).os=w.os/\(w.setCells b o ak).tape=w.tape/\(w.setCells b o ak).output=w.output
 |[],_,_=>⟨rfl,rfl,rfl,rfl⟩
 |v::r,o,w=>by
  rw[World.setCells];obtain⟨a,b,c,d⟩:=yF b r (o+1) (w.setCell ⟨b,o,I⟩ v);exact⟨a.trans (by simp[World.setCell]),b,c,d⟩
def fF.cell{loc:Loc}{ro:Bool}{esz:Nat}{els:List (List ae)}(h:fF ρ w loc ro esz els){i:Nat}{e:List ae}(he:els[i]? =D e){j:Nat}{v:ae}(b:e[j]? =D v):
  ∃x,w.cell? ⟨loc.block,loc.off+i*loc.esz+j,I⟩=D x/\bp ρ v x/\v.one=true:=by
 obtain⟨rfl,c,t,d,a,_,au⟩:=h;obtain⟨_,aA⟩:=au i e he;obtain⟨af,x,aA,au⟩:=aA j v b;exact⟨x,by simp[World.cell?,a,aA],au,af⟩
def mX:List (List ae)->List (List ae)->Bool
 |[],[]=>C
 |x::xs,y::a=>er.beq x y&&mX xs a
 |_,_=>Z
def Kr:∀{a b:List (List ae)},mX a b=C->a=b
 |[],[],_=>rfl
 |[],_::_,h=>by simp[mX]at h
 |_::_,[],h=>by simp[mX]at h
 |x::xs,y::c,h=>by
  simp only[mX,Bool.and_eq_true]at h;rw[er.beq_eq h.1,Kr h.2]
def gG(H:ad):Nat->Nat->Option (Nat×List (List ae))
 |0,_=>I
 |f+1,l=>match H.get l with
  |some (.row _ esz els)=>D (esz,els)
  |some (.old s esz els)=>(match gG H f s with
   |some (a,es)=>bif Nat.beq a esz&&mX (es.take els.length) els then D (esz,els)else I
   |none=>I)
  |_=>I
def Gx(j:Rel ρ H w):∀{f l:Nat} {esz:Nat} {els:List (List ae)},gG H f l=D (esz,els)->∃loc,ρ l=D loc/\fF ρ w loc C esz els
 |0,_,_,_,h=>by cases h
 |f+1,l,esz,els,h=>by
  rw[gG]at h;split at h
  ·rename_i ro k d aP;cases h;obtain⟨loc,af,ah,c,t,g,an,aM,n⟩:=j.row _ _ _ _ aP;exact⟨loc,af,ah,c,t,g,an,⟨aM.1,λe=>by cases e⟩,n⟩
  ·rename_i s k d aP;split at h
   ·rename_i m es he;cases a:(Nat.beq m k&&mX (es.take d.length) d)with
    |false=>rw[a]at h;cases h
    |true=>
     rw[a]at h;cases h;simp only[Bool.and_eq_true]at a;obtain⟨loc,af,-,ah⟩:=j.old _ _ _ _ aP;refine⟨loc,af,?_⟩;rcases ah with ah|ah
     ·obtain⟨r,bR,b0,c,t,g,o,p,q⟩:=Gx j he;obtain rfl:loc=r:=Option.some.inj (ah.symm.trans bR);refine⟨b0.trans (Nat.eq_of_beq_eq_true a.1),c,t,g,o,p,λi e b=> ?_⟩;rw[<-Kr a.2,List.getElem?_take]at b;split at b
      ·have:=q i e b;rw[Nat.eq_of_beq_eq_true a.1]at this;exact this
      ·cases b
     ·exact ah.1
   ·cases h
  ·cases h
def aI(P:Program)(H:ad)(t:TypeId)(a:ae):Option ae:=
 match a with
 | .ptr l i c=>
  (match H.get l with
  |some (.row _ esz els)=>
   (match els[i]?,dM P t with
   |some e,D Z=>e[c]?
   |some e,D C=>(match cp P t with|some n=>if c+n<=esz then D (.agg ((e.drop c).take n))else I|none=>I)
   |_,_=>I)
  |some (.dz _ esz els)=>
   (match els[i]?,dM P t with
   |some e,D Z=>e[c]?
   |some e,D C=>(match cp P t with|some n=>if c+n<=esz then D (.agg ((e.drop c).take n))else I|none=>I)
   |_,_=>I)
  |some (.old _ _ _)=>
   (match gG H 1000 l with
   |some (esz,els)=>
    (match els[i]?,dM P t with
    |some e,D Z=>e[c]?
    |some e,D C=>(match cp P t with|some n=>if c+n<=esz then D (.agg ((e.drop c).take n))else I|none=>I)
    |_,_=>I)
   |none=>I)
  |_=>I)
 |_=>I
def lY(b o j:Nat):(⟨b,o,I⟩:Addr).add j=⟨b,o+j,I⟩:=by
 unfold Addr.add;split<;>simp_all
def zq{loc:Loc}{l i c:Nat}{ro:Bool}{esz:Nat}{els:List (List ae)}(al:ρ l=D loc)(d:fF ρ w loc ro esz els){t:TypeId}{v:ae}
 (h:(match els[i]?,dM P t with
  |some e,D Z=>e[c]?
  |some e,D C=>(match cp P t with|some n=>if c+n<=esz then D (.agg ((e.drop c).take n))else I|none=>I)
  |_,_=>I)=D v):
 ∃r,(Instr.loadAt t (.pointer (D ⟨loc.block,loc.off+i*loc.esz+c,I⟩))).run P w= .ok r w/\bp ρ v r:=by
  split at h
  ·rename_i e he b;obtain⟨x,aq,f,_⟩:=d.cell he h;refine⟨x,?_,f⟩;simp[Instr.loadAt,Instr.sureAddr,loadVar,wC b,run_load,aq]
  ·rename_i e he b;split at h
   ·rename_i n aH;split at h
    ·rename_i hle;simp only[bb]at h;subst h;have hlen:e.length=esz:=by obtain⟨_,p,u,q,_,_,au⟩:=d;exact(au i e he).1
     have hex:∃xs:List Value,xs.length=n/\bO ρ ((e.drop c).take n) xs/\∀j y,xs[j]? =D y->w.cell? ⟨loc.block,loc.off+i*loc.esz+c+j,I⟩=D y:=by
      clear b aH
      induction n with
      |zero=>exact⟨[],rfl,by simpa using bO.nil,λj y a=>by simp at a⟩
      |succ n o=>
       obtain⟨xs,af,ah,an⟩:=o aa;have g:c+n<e.length:=aa;obtain⟨x,aq,f,_⟩:=d.cell he (j:=c+n) (v:=e[c+n]) (by simp[g]);refine⟨xs++[x],by simp[af],?_,?_⟩
       ·rw[List.take_succ_eq_append_getElem (by simp;omega)];refine ah.append (.cons _ _ _ _ ?_ .nil);simpa using f
       ·intro j y a;by_cases k:j<xs.length
        ·rw[List.getElem?_append_left k]at a;exact an j y a
        ·rw[List.getElem?_append_right aa]at a;have:j=n:=by
          by_cases s:j-xs.length=0
          ·omega
          ·obtain⟨m,hm⟩:∃m,j-xs.length=m+1:=⟨j-xs.length-1,aa⟩;rw[hm]at a;simp at a
         subst this;simp[af]at a;subst a;rw[<-aq,Nat.add_assoc]
     obtain⟨xs,af,ah,an⟩:=hex;refine⟨.agg xs.toArray,?_,.agg _ _ ah⟩;have:=run_loadCells_list (P:=P) w ⟨loc.block,loc.off+i*loc.esz+c,I⟩ xs (λj y a=>by rw[lY];exact an j y a);rw[af]at this;simp[Instr.loadAt,Instr.sureAddr,loadVar,wC b,run_sizeOf aH,this]
    ·cases h
   ·cases h
  ·cases h
def zr(f:Rel ρ H w){t:TypeId}{a v:ae}{x:Value}(h:aI P H t a=D v)(aA:bp ρ a x):
  ∃r,(Instr.loadAt t x).run P w= .ok r w/\bp ρ v r:=by
 unfold aI at h;split at h
 ·rename_i l i c;cases aA with|ptr _ _ _ loc al=>
  split at h
  ·rename_i ro esz els aP;obtain⟨e,b,d⟩:=f.row _ _ _ _ aP;obtain rfl:loc=e:=Option.some.inj (al.symm.trans b);exact zq al d h
  ·rename_i g esz els aP;obtain⟨e,b,d,-⟩:=f.dz _ _ _ _ aP;obtain rfl:loc=e:=Option.some.inj (al.symm.trans b);exact zq al d h
  ·split at h
   ·rename_i esz els he;obtain⟨e,b,d⟩:=Gx f he;obtain rfl:loc=e:=Option.some.inj (al.symm.trans b);exact zq al d h
   ·cases h
  ·cases h
 ·cases h
def dT(ot:Option TypeId)(esz:Nat)(els:List (List ae)):bn:=match ot with
 |none=> .row Z esz els
 |some t=> .dz t esz els
def A1(ot:Option TypeId)(esz:Nat)(els:List (List ae)):(dT ot esz els).r2=false:=by cases ot<;>rfl
def A2{ot:Option TypeId}{esz b:Nat}{els a:List (List ae)}{ro:Bool}(h:dT ot esz els= .row ro b a):ro=Z/\esz=b/\els=a/\ot=none:=by
 cases ot<;>cases h;exact⟨rfl,rfl,rfl,rfl⟩
def A3{ot:Option TypeId}{esz b:Nat}{els a:List (List ae)}{t:TypeId}(h:dT ot esz els= .dz t b a):ot=D t/\esz=b/\els=a:=by
 cases ot<;>cases h;exact⟨rfl,rfl,rfl⟩
def A0{ot:Option TypeId}{esz:Nat}{els:List (List ae)}{es:List (ae×ae)}(h:dT ot esz els= .map es):False:=by cases ot<;>cases h
def nN{H:ad}{l:Nat}{ot:Option TypeId}{esz:Nat}{els:List (List ae)}(h:H.get l=D (dT ot esz els)):H.rw l:=by
 cases ot with
 |none=>exact .inl ⟨_,_,h⟩
 |some t=>exact .inr (.inr ⟨_,_,_,h⟩)
def sf(d:Rel ρ H w){l:Nat}{ot:Option TypeId}{esz:Nat}{els:List (List ae)}(h:H.get l=D (dT ot esz els)):∃loc,ρ l=D loc/\fF ρ w loc Z esz els/\∀t,ot=D t->∃c e,w.heap[loc.block]? =D (.cells c t e)/\loc.off=0:=by
 cases ot with
 |none=>obtain⟨loc,a,b⟩:=d.row _ _ _ _ h;exact⟨loc,a,b,λt h=>by cases h⟩
 |some t=>obtain⟨loc,a,b,c⟩:=d.dz _ _ _ _ h;exact⟨loc,a,b,λt h=>by cases h;exact c⟩
def eZ(e:List ae)(c:Nat)(cs:List ae):List ae:=e.take c++cs++e.drop (c+cs.length)
def LU{e:List ae}{c:Nat}{cs:List ae}(h:c+cs.length<=e.length):(eZ e c cs).length=e.length:=by
 simp[eZ];omega
def LS{e:List ae}{c:Nat}{cs:List ae}(h:c+cs.length<=e.length){j:Nat}(af:c<=j)(ah:j<c+cs.length):(eZ e c cs)[j]? =cs[j-c]? :=by
 unfold eZ;rw[List.append_assoc,List.getElem?_append_right (by simp;omega),List.getElem?_append_left (by simp;omega)]
 congr 1;simp;omega
def LV{e:List ae}{c:Nat}{cs:List ae}(h:c+cs.length<=e.length){j:Nat}(af:j<c\/c+cs.length<=j):(eZ e c cs)[j]? =e[j]? :=by
 unfold eZ;rcases af with af|af
 ·rw[List.append_assoc,List.getElem?_append_left (by simp;omega),List.getElem?_take_of_lt af]
 ·rw[List.getElem?_append_right (by simp;omega),List.getElem?_drop]
  congr 1;simp;omega
def sd{a b n:Nat}(h:a<b):a*n+n<=b*n:=by
 have:=Nat.mul_le_mul_right n (Nat.succ_le_of_lt h);rw[Nat.succ_mul]at this;exact this
def MX(o:Rel ρ H w){ot:Option TypeId}{l esz:Nat}{els:List (List ae)}(aP:H.get l=D (dT ot esz els)){loc:Loc}(al:ρ l=D loc){i:Nat}{e:List ae}(he:els[i]? =D e)
  {c:Nat} {cs:List ae} {xs:List Value} (aq:c+cs.length<=esz) (af:∀v∈cs,v.one=C) (aj:bO ρ cs xs):
  Step ρ H w ρ (H.set l (dT ot esz (els.set i (eZ e c cs)))) (w.setCells loc.block (loc.off+i*loc.esz+c) xs):=by
 have G:=ad.bE aP;obtain⟨f,g,⟨q,arr,t,z,E,aC,K⟩,aJ⟩:=sf o aP;obtain rfl:loc=f:=Option.some.inj (al.symm.trans g);have az:=(K i e he).1;have aE:i<els.length:=by
  rcases Nat.lt_or_ge i els.length with h|h
  ·exact h
  ·rw[List.getElem?_eq_none h]at he;cases he
 have am:=aj.length;have N:∀a f,H.live a->a≠l->ρ a=D f->f.block≠loc.block:=λa f h bY g heq=>
  o.apart l a loc f (nN aP) h (Ne.symm bY) al g heq.symm
 have ai:∀a,(H.set l (dT ot esz (els.set i (eZ e c cs)))).rw a->H.rw a:=by
  intro a h;by_cases d:l=a
  ·subst d;exact nN aP
  ·simpa [ad.rw,ad.cb d]using h
 have aH:∀a,(H.set l (dT ot esz (els.set i (eZ e c cs)))).live a->H.live a:=by
  intro a h;by_cases d:l=a
  ·subst d;exact(nN aP).live
  ·simpa [ad.live,ad.cb d]using h
 obtain⟨s1,s2,hc,aS⟩:=yF loc.block xs (loc.off+i*loc.esz+c) w;have ab:fF ρ (w.setCells loc.block (loc.off+i*loc.esz+c) xs) loc Z esz (els.set i (eZ e c cs))/\∃a8 z,(w.setCells loc.block (loc.off+i*loc.esz+c) xs).heap[loc.block]? =D (.cells a8 t z):= ?new;have W:∀b,b<w.heap.size->¬d_ ρ H b->(w.setCells loc.block (loc.off+i*loc.esz+c) xs).heap[b]? =w.heap[b]? :=λb E aI=>by
  refine ml _ _ _ _ _ ?_;rintro rfl;exact aI ⟨l,loc,nN aP,al,rfl⟩
 have ag:∀b,d_ ρ (H.set l (dT ot esz (els.set i (eZ e c cs)))) b->d_ ρ H b\/w.heap.size<=b:=by
  rintro b ⟨a,f,af,ah,an⟩;exact .inl ⟨a,f,ai _ af,ah,an⟩
 refine⟨ρ.le_refl,bC _,λ_ _=>rfl,⟨?_,?_,?_,?_,?_⟩,s2,hc,aS,Nat.le_of_eq s1.symm,W,ag,ad.BB (A1 _ _ _),.same (ad.v_ (by cases ot<;>rfl))⟩
 case new=>
  refine⟨⟨q,_,t,z,ux _ _ _ _ _ _ _ E,?_,?_⟩,_,z,ux _ _ _ _ _ _ _ E⟩
  ·rw[su];exact aC
  ·intro ao S p;rw[List.getElem?_set]at p;by_cases M:i=ao
   ·subst M;rw[if_pos rfl,if_pos aE]at p;simp only[bb]at p;subst p;have P:c+cs.length<=e.length:=aa;refine⟨by rw[LU P];exact az,?_⟩;intro j v k;by_cases Y:c<=j/\j<c+cs.length
    ·rw[LS P Y.1 Y.2]at k;obtain⟨x,aA,r⟩:=aj.get _ _ k;refine⟨af v (List.mem_of_getElem? k),x,?_,r⟩;have ay:=(K i e he).2 j (e[j]'aa) (by simp);obtain⟨_,aY,ak,_⟩:=ay;have aV:loc.off+i*esz+j<arr.size:=by
      rcases Nat.lt_or_ge (loc.off+i*esz+j) arr.size with h|h
      ·exact h
      ·rw[Array.getElem?_eq_none h]at ak;cases ak
     have:=wm xs arr (loc.off+i*loc.esz+c) (j-c) x aA (by rw[q];omega);rw[show loc.off+i*esz+j=loc.off+i*loc.esz+c+(j-c) by rw[q];omega];exact this
    ·rw[LV P aa]at k;obtain⟨L,x,aA,r⟩:=(K i e he).2 j v k;refine⟨L,x,?_,r⟩;rw[qv _ _ _ _ (by rw[q,<-am];omega)];exact aA
   ·rw[if_neg M]at p;obtain⟨a0,L⟩:=K ao S p;refine⟨a0,λj v k=> ?_⟩;obtain⟨ar,x,aA,r⟩:=L j v k;refine⟨ar,x,?_,r⟩;have aU:j<esz:=by
     rcases Nat.lt_or_ge j S.length with h|h
     ·omega
     ·rw[List.getElem?_eq_none h]at k;cases k
    rw[qv _ _ _ _ ?_]
    ·exact aA
    ·rw[q,<-am];rcases Nat.lt_or_gt_of_ne M with h|h
     ·have:=sd (n:=esz) h;omega
     ·have:=sd (n:=esz) h;omega
 ·intro a aW U T h;by_cases d:l=a
  ·subst d;rw[ad.c8 G]at h;obtain⟨rfl,rfl,rfl,-⟩:=A2 (Option.some.inj h);exact⟨loc,al,ab.1⟩
  ·rw[ad.cb d]at h;obtain⟨f,g,O⟩:=o.row _ _ _ _ h;refine⟨f,g,?_⟩;have m:=N a f (.inl ⟨_,_,_,h⟩) (Ne.symm d) g;obtain⟨Q,y,ap,B,s,u,R⟩:=O;exact⟨Q,y,ap,B,by rw[ml _ _ _ _ _ m];exact s,u,R⟩
 ·intro a es h;by_cases d:l=a
  ·subst d;rw[ad.c8 G]at h;exact(A0 (Option.some.inj h)).elim
  ·rw[ad.cb d]at h;obtain⟨f,g,O⟩:=o.map _ _ h;have m:=N a f (.inr (.inl ⟨_,h⟩)) (Ne.symm d) g;obtain⟨ents,clock,s,u⟩:=O;exact⟨f,g,ents,clock,by rw[ml _ _ _ _ _ m];exact s,u⟩
 ·intro a ap U T h;by_cases d:l=a
  ·subst d;rw[ad.c8 G]at h;obtain⟨av,rfl,rfl⟩:=A3 (Option.some.inj h);obtain⟨y,B,V,ax⟩:=aJ _ av;rw[E]at V;cases V;obtain⟨cJ,a8,f1,aO⟩:=ab;exact⟨loc,al,cJ,a8,f1,aO,ax⟩
  ·rw[ad.cb d]at h;obtain⟨f,g,⟨Q,y,aT,B,s,u,R⟩,au,aw,aQ,aR⟩:=o.dz _ _ _ _ h;have m:=N a f (.inr (.inr ⟨_,_,_,h⟩)) (Ne.symm d) g;exact⟨f,g,⟨Q,y,aT,B,by rw[ml _ _ _ _ _ m];exact s,u,R⟩,au,aw,by rw[ml _ _ _ _ _ m];exact aQ,aR⟩
 ·intro aK aL aM aN af ah m aF aG;exact o.apart aK aL aM aN (ai _ af) (aH _ ah) m aF aG
 ·intro a aX U T h;by_cases d:l=a
  ·subst d;rw[ad.c8 G]at h;cases ot<;>cases h
  ·rw[ad.cb d]at h;exact(o.old _ _ _ _ h).step ρ.le_refl (Nat.le_of_eq s1.symm) W ag
def cD(P:Program)(H:ad)(t:TypeId)(a v:ae):Option ad:=
 match a with
 | .ptr l i c=>
  (match H.get l with
  |some (.row Z esz els)=>
   (match els[i]? with
   |some e=>if cp P t=D v.cells.length/\c+v.cells.length<=esz/\v.cells.all ae.one=C then D (H.set l (.row Z esz (els.set i (eZ e c v.cells))))else I
   |none=>I)
  |some (.dz b esz els)=>
   (match els[i]? with
   |some e=>if cp P t=D v.cells.length/\c+v.cells.length<=esz/\v.cells.all ae.one=C then D (H.set l (.dz b esz (els.set i (eZ e c v.cells))))else I
   |none=>I)
  |_=>I)
 |_=>I
def Fh(d:Rel ρ H w){ot:Option TypeId}{l i c esz:Nat}{els:List (List ae)}(aP:H.get l=D (dT ot esz els)){loc:Loc}(al:ρ l=D loc){e:List ae}(he:els[i]? =D e){t:TypeId}{v:ae}{y:Value}(L:bp ρ v y)
  (B:cp P t=D v.cells.length) (aq:c+v.cells.length<=esz) (x:v.cells.all ae.one=C):
  ∃o,(Instr.storeAt t (.pointer (D ⟨loc.block,loc.off+i*loc.esz+c,I⟩)) y).run P w= .ok () o/\Step ρ H w ρ (H.set l (dT ot esz (els.set i (eZ e c v.cells)))) o:=by
 have k:∀u∈v.cells,u.one=true:=by simpa using x
 have b:=L.cells;refine⟨_,?_,MX d aP al he aq k b⟩;obtain⟨M,r,m,-⟩:=sf d aP;obtain rfl:loc=M:=Option.some.inj (al.symm.trans r);have hlen:=b.length;have R:=m;obtain⟨p,arr,S,O,f,q,au⟩:=m;have Q:=(au i e he).1;have n:∀j,j<y.cells.toList.length->∃u,arr[loc.off+i*loc.esz+c+j]? =D u:=by
  intro j a;obtain⟨_,u,hu,_⟩:=(au i e he).2 (c+j) (e[c+j]'aa) (by simp);exact⟨u,by rw[p,Nat.add_assoc];exact hu⟩
 have z:=run_storeCells_cells (P:=P) loc.block (loc.off+i*loc.esz+c) y.cells.toList 0 w
  (λj a=>by obtain⟨u,hu⟩:=n j a;simp[World.cell?,f,hu])
  (λj a=>by
   obtain⟨u,hu⟩:=n j a;have s:loc.off+i*loc.esz+c+j<arr.size:=by
    rcases Nat.lt_or_ge (loc.off+i*loc.esz+c+j) arr.size with h|h
    ·exact h
    ·rw[Array.getElem?_eq_none h]at hu;cases hu
   have:=q.2 rfl _ s;simp only[World.frozen?,f,Nat.add_zero];simpa using this)
  (λu hu=>by
   obtain⟨j,a⟩:=List.getElem?_of_mem hu;have g:j<v.cells.length:=by
    rcases Nat.lt_or_ge j y.cells.toList.length with h|h
    ·omega
    ·rw[List.getElem?_eq_none h]at a;cases a
   obtain⟨N,G,K⟩:=b.get j _ (List.getElem?_eq_getElem g);obtain rfl:u=N:=Option.some.inj (a.symm.trans G);exact K.Bg (k _ (List.getElem_mem g)))
 have E:y.cells.size=v.cells.length:=by rw[hlen];simp
 simp only[Instr.storeAt,Instr.sureAddr,Sem.run_bind,Sem.run_pure,Result.andThen_ok,storeVar,run_sizeOf B,E,ne_eq,not_true_eq_false,if_false];simpa using z
def Om(g:Rel ρ H w){t:TypeId}{a v:ae}{x y:Value}{H':ad}(h:cD P H t a v=D H')(aA:bp ρ a x)(j:bp ρ v y):
  ∃k,(Instr.storeAt t x y).run P w= .ok () k/\Step ρ H w ρ H' k:=by
 unfold cD at h;split at h
 ·rename_i l i c;cases aA with|ptr _ _ _ loc al=>
  split at h
  ·rename_i esz els aP;split at h
   ·rename_i e he;split at h
    ·rename_i b;obtain⟨f,aq,d⟩:=b;simp only[bb]at h;subst h;exact Fh g (ot:=none) aP al he j f aq d
    ·cases h
   ·cases h
  ·rename_i m esz els aP;split at h
   ·rename_i e he;split at h
    ·rename_i b;obtain⟨f,aq,d⟩:=b;simp only[bb]at h;subst h;exact Fh g (ot:=some m) aP al he j f aq d
    ·cases h
   ·cases h
  ·cases h
 ·cases h
end
def Env.dn(ρ:Env)(l:Nat)(loc:Loc):Env:=λk=>if k=l then D loc else ρ k
def Env.gK(ρ:Env)(l:Nat)(loc:Loc):ρ.dn l loc l=D loc:=by simp[Env.dn]
def Env.gW{ρ:Env}{l k:Nat}{loc:Loc}(h:k≠l):ρ.dn l loc k=ρ k:=by simp[Env.dn,h]
def Env.mQ{ρ:Env}{l:Nat}(h:ρ l=I)(loc:Loc):ρ.le (ρ.dn l loc):=by
 intro k x a;by_cases e:k=l
 ·subst e;rw[h]at a;cases a
 ·rw[Env.gW e];exact a
section
variable {P:Program}{ρ:Env}{H:ad}{w:World}
def heap_alloc_old(w:World)(o:Obj){k:Nat}(h:k<w.heap.size):(w.alloc o).heap[k]? =w.heap[k]? :=by
 show(w.heap.push o)[k]? =_;rw[Array.getElem?_push,if_neg aa]
def heap_alloc_new(w:World)(o:Obj):(w.alloc o).heap[w.heap.size]? =D o:=by
 show(w.heap.push o)[w.heap.size]? =_;simp
def Hu(w:World)(o:Obj):(w.alloc o).heap.size=w.heap.size+1:=by
 show(w.heap.push o).size=_;simp
def j4{w:World}{k:Nat}{o:Obj}(h:w.heap[k]? =D o):k<w.heap.size:=by
 rcases Nat.lt_or_ge k w.heap.size with bY|bY
 ·exact bY
 ·rw[Array.getElem?_eq_none bY]at h;cases h
def Ac{esz:Nat}:∀{els:List (List ae)},(∀e∈els,e.length=esz)->∀{i:Nat} {e:List ae},els[i]? =D e->∀{j:Nat} {v:ae},e[j]? =D v->els.flatten[i*esz+j]? =D v
 |[],_,_,_,h,_,_,_=>by simp at h
 |d::els,al,0,e,h,j,v,a=>by
  simp at h;subst h;have b:j<d.length:=by
   rcases Nat.lt_or_ge j d.length with h|h
   ·exact h
   ·rw[List.getElem?_eq_none h]at a;cases a
  simp only[List.flatten_cons,Nat.zero_mul,Nat.zero_add];rw[List.getElem?_append_left b];exact a
 |d::els,al,i+1,e,h,j,v,a=>by
  have c:d.length=esz:=al d (by simp);have:=Ac (els:=els) (λe he=>al e (List.mem_cons_of_mem _ he)) (i:=i) (by simpa using h) a;simp only[List.flatten_cons];rw[List.getElem?_append_right (by rw[Nat.succ_mul];omega)];rw[<-this];congr 1;rw[Nat.succ_mul];omega
def wE{H:ad}{b:bn}{l:Nat}(h:(H.push b).rw l):l=H.next\/H.rw l:=by
 by_cases e:l=H.next
 ·exact .inl e
 ·exact .inr (by simpa [ad.rw,ad.dO e]using h)
def vQ{H:ad}{b:bn}{l:Nat}(h:(H.push b).live l):l=H.next\/H.live l:=by
 by_cases e:l=H.next
 ·exact .inl e
 ·exact .inr (by simpa [ad.live,ad.dO e]using h)
def Rel.zK(e:Rel ρ H w){l:Nat}(h:H.live l){loc:Loc}(al:ρ l=D loc):loc.block<w.heap.size:=by
 rcases h with⟨ro,esz,els,h⟩|⟨es,h⟩|⟨t,esz,els,h⟩
 ·obtain⟨d,b,_,c,t,f,a,_⟩:=e.row _ _ _ _ h;obtain rfl:loc=d:=Option.some.inj (al.symm.trans b);exact j4 a
 ·obtain⟨d,b,ents,clock,a,_⟩:=e.map _ _ h;obtain rfl:loc=d:=Option.some.inj (al.symm.trans b);exact j4 a
 ·obtain⟨d,b,_,c,f,a,_⟩:=e.dz _ _ _ _ h;obtain rfl:loc=d:=Option.some.inj (al.symm.trans b);exact j4 a
def nI{H:ad}{l:Nat}(h:H.live l):l<H.next:=by
 rcases h with⟨_,_,_,h⟩|⟨_,h⟩|⟨_,_,_,h⟩<;>exact ad.bE h
def ni.frame{d:Env}{b:World}{loc:Loc}{t:TypeId}{esz:Nat}{els:List (List ae)}(h:ni ρ w loc t esz els)(hle:ρ.le d)(a:b.heap[loc.block]? =w.heap[loc.block]?):ni d b loc t esz els:=by
 obtain⟨af,c,e,ah,an⟩:=h;exact⟨af.frame hle a,c,e,by rw[a];exact ah,an⟩
def JX(c:Rel ρ H w)(az:ρ H.next=I)(b:bn)(v:b.r2=Z)(m:b.oP=Z)(o:Obj)(loc:Loc)(G:loc.block=w.heap.size)
  (x:∀ro esz els,b= .row ro esz els->fF (ρ.dn H.next loc) (w.alloc o) loc ro esz els) (u:∀es,b= .map es->zf (ρ.dn H.next loc) (w.alloc o) loc es) (y:∀t esz els,b= .dz t esz els->ni (ρ.dn H.next loc) (w.alloc o) loc t esz els):
  Step ρ H w (ρ.dn H.next loc) (H.push b) (w.alloc o):=by
 have hle:=Env.mQ az loc;have p:∀l a,H.live l->ρ.dn H.next loc l=D a->a.block<w.heap.size:=λl a h bY=>by
  have i:l≠H.next:=by
   rintro rfl;have:=nI h;omega
  rw[Env.gW i]at bY;exact c.zK h bY
 have q:∀k,d_ (ρ.dn H.next loc) (H.push b) k->d_ ρ H k\/w.heap.size<=k:=by
  rintro k ⟨l,a,af,ah,an⟩;rcases wE af with rfl|af
  ·rw[Env.gK]at ah;obtain rfl:=Option.some.inj ah;exact .inr aa
  ·have cJ:l≠H.next:=by
    rintro rfl;have:=nI af.live;omega
   rw[Env.gW cJ]at ah;exact .inl ⟨l,a,af,ah,an⟩
 refine⟨hle,by simp,λl al=>Env.gW (by simp at al;omega),⟨?_,?_,?_,?_,?_⟩,rfl,rfl,rfl,by rw[Hu];omega,λk j _=>heap_alloc_old w o j,q,ad.BA v,.same (ad.o1 m)⟩
 ·intro l ro esz els h;by_cases e:l=H.next
  ·subst e;rw[ad.a_]at h;exact⟨loc,Env.gK _ _ _,x _ _ _ (Option.some.inj h)⟩
  ·rw[ad.dO e]at h;obtain⟨a,g,au⟩:=c.row _ _ _ _ h;exact⟨a,by rw[Env.gW e];exact g,au.frame hle (heap_alloc_old w o au.lt)⟩
 ·intro l es h;by_cases e:l=H.next
  ·subst e;rw[ad.a_]at h;exact⟨loc,Env.gK _ _ _,u _ (Option.some.inj h)⟩
  ·rw[ad.dO e]at h;obtain⟨a,g,ents,clock,n,af,ah⟩:=c.map _ _ h;exact⟨a,by rw[Env.gW e];exact g,ents,clock,by rw[heap_alloc_old w o (j4 n)];exact n,af.mono hle,ah.mono hle⟩
 ·intro l t esz els h;by_cases e:l=H.next
  ·subst e;rw[ad.a_]at h;exact⟨loc,Env.gK _ _ _,y _ _ _ (Option.some.inj h)⟩
  ·rw[ad.dO e]at h;obtain⟨a,g,au⟩:=c.dz _ _ _ _ h;exact⟨a,by rw[Env.gW e];exact g,au.frame hle (heap_alloc_old w o au.1.lt)⟩
 ·intro l r z B af ah i d f;rcases wE af with rfl|af
  ·rcases vQ ah with rfl|ah
   ·exact absurd rfl i
   ·rw[Env.gK]at d;obtain rfl:=Option.some.inj d;have:=p _ _ ah f;omega
  ·rcases vQ ah with rfl|ah
   ·rw[Env.gK]at f;obtain rfl:=Option.some.inj f;have:=p _ _ af.live d;omega
   ·have cJ:l≠H.next:=by
     rintro rfl;have:=nI af.live;omega
    have E:r≠H.next:=by
     rintro rfl;have:=nI ah;omega
    rw[Env.gW cJ]at d;rw[Env.gW E]at f;exact c.apart l r z B af ah i d f
 ·intro l s esz els h;by_cases e:l=H.next
  ·subst e;rw[ad.a_]at h;rw[Option.some.inj h]at m;cases m
  ·rw[ad.dO e]at h;exact(c.old _ _ _ _ h).step hle (by rw[Hu];omega) (λk j _=>heap_alloc_old w o j) q
def ss(g:Rel ρ H w)(az:ρ H.next=I){ot:Option TypeId}{esz:Nat}{els:List (List ae)}(hlen:∀e∈els,e.length=esz)(l:∀e∈els,∀v∈e,v.one=C)
  {xs tail:List Value} (m:bO ρ els.flatten xs) (t:TypeId) (a1:∀a,ot=D a->a=t):
  Step ρ H w (ρ.dn H.next ⟨w.heap.size,0,esz,xs.length+tail.length⟩) (H.push (dT ot esz els)) (w.alloc (.cells (xs++tail).toArray t)):=by
 have key:ni (ρ.dn H.next ⟨w.heap.size,0,esz,xs.length+tail.length⟩) (w.alloc (.cells (xs++tail).toArray t)) ⟨w.heap.size,0,esz,xs.length+tail.length⟩ t esz els:=by
  refine⟨⟨rfl,_,t,(0,0),heap_alloc_new _ _,⟨by simp,λ_ o _=>by simp⟩,?_⟩,_,_,heap_alloc_new _ _,rfl⟩;intro i e he;refine⟨hlen e (List.mem_of_getElem? he),λj v b=> ?_⟩;refine⟨l e (List.mem_of_getElem? he) v (List.mem_of_getElem? b),?_⟩;obtain⟨x,aA,n⟩:=m.get _ _ (Ac hlen he b);refine⟨x,?_,n.mono (Env.mQ az _)⟩;have k:i*esz+j<xs.length:=by
   rcases Nat.lt_or_ge (i*esz+j) xs.length with h|h
   ·exact h
   ·rw[List.getElem?_eq_none h]at aA;cases aA
  simp only[Nat.zero_add,List.getElem?_toArray];rw[List.getElem?_append_left k];exact aA
 refine JX g az _ (A1 _ _ _) (by cases ot<;>rfl) _ _ rfl ?_ (λes h=>(A0 h).elim) ?_
 ·intro ro d c h;obtain⟨rfl,rfl,rfl,-⟩:=A2 h;exact key.1
 ·intro a d c h;obtain⟨f,rfl,rfl⟩:=A3 h;obtain rfl:=a1 a f;exact key
def vZ:Value->Option ae
 | .bool b=>D (.bool b)
 | .int k n=>D (.int k n)
 | .string s=>D (.str s.data.toList)
 | .pointer I=>D .gI
 | .slice I 0 0=>D .aB
 | .map I=>D .ib
 | .nilFunc=>D .nilFunc
 | .nilIface=>D .nilIface
 |_=>I
def sg:List Value->Option (List ae)
 |[]=>D []
 |v::r=>match vZ v,sg r with
  |some a,D l=>D (a::l)
  |_,_=>I
def sj:Value->Option ae
 | .agg cs=>(sg cs.toList).map .agg
 |v=>vZ v
def Jk{v:Value}{a:ae}(h:vZ v=D a)(ρ:Env):bp ρ a v/\a.one=true:=by
 unfold vZ at h;split at h<;>first
  |(simp only[bb]at h;subst h;exact⟨by constructor,rfl⟩)
  |cases h
def Jl:∀{ak:List Value} {as:List ae},sg ak=D as->∀ρ:Env,bO ρ as ak/\∀a∈as,a.one=C
 |[],as,h,ρ=>by simp[sg]at h;subst h;exact⟨.nil,by simp⟩
 |v::r,as,h,ρ=>by
  unfold sg at h;split at h
  ·rename_i a l b al;simp only[bb]at h;subst h;obtain⟨af,ah⟩:=Jk b ρ;obtain⟨an,aM⟩:=Jl al ρ;exact⟨.cons _ _ _ _ af an,by simpa using⟨ah,aM⟩⟩
  ·cases h
def v7{v:Value}{a:ae}(h:sj v=D a)(ρ:Env):bp ρ a v:=by
 unfold sj at h;split at h
 ·simp only[Option.map_eq_some_iff]at h;obtain⟨l,al,rfl⟩:=h;have:=bp.agg _ _ (Jl al ρ).1;simpa using this
 ·exact(Jk h ρ).1
def e2(P:Program)(t:TypeId):Option ae:=(P.info? t).bind λi=>i.zero.bind sj
def nt{t:TypeId}{z:ae}(h:e2 P t=D z)(w:World):∃x,(zeroValue t).run P w= .ok x w/\∀ρ:Env,bp ρ z x:=by
 unfold e2 at h;simp only[dY]at h;obtain⟨i,a,x,aA,b⟩:=h;exact⟨x,by simp[zeroValue,typeInfo,a,aA],λρ=>v7 b ρ⟩
def j9(P:Program)(t:TypeId):Option TypeId:=match P.underlying t with
 |some (.struct fs)=>(match fs.toList with
  |[f]=>(match P.underlying f.type with
   |some (.struct gs)=>if gs.size=2 then D t else I
   |_=>I)
  |_=>I)
 |_=>I
def Ji{P:Program}{t a:TypeId}(h:j9 P t=D a):a=t:=by
 unfold j9 at h;split at h
 ·split at h
  ·split at h
   ·split at h
    ·exact(Option.some.inj h).symm
    ·cases h
   ·cases h
  ·cases h
 ·cases h
def pO(ot:Option TypeId)(H:ad)(v:ae):Option (ae×ad):=
 if v.cells.all ae.one=C then D (.ptr H.next 0 0,H.push (dT ot v.cells.length [v.cells]))else I
def EL(e:Rel ρ H w)(az:ρ H.next=I){ot:Option TypeId}{v a:ae}{x:Value}{H':ad}(h:pO ot H v=D (a,H'))(aA:bp ρ v x)(t:TypeId)(a1:∀b,ot=D b->b=t):
  ∃r c d,(Instr.box t x).run P w= .ok r c/\bp d a r/\Step ρ H w d H' c:=by
 unfold pO at h;split at h
 ·rename_i f;simp only[bb,cK]at h;obtain⟨rfl,rfl⟩:=h;have aq:=aA.cells;have g:=ss e az (ot:=ot) (esz:=v.cells.length) (els:=[v.cells]) (by simp) (by simpa using f) (xs:=x.cells.toList) (tail:=[]) (by simpa using aq) t a1;refine⟨.pointer (D ⟨w.heap.size,0,I⟩),_,_,?_,?_,g⟩
  ·simp[Instr.box,newVar,newRow]
  ·simpa using bp.ptr (ρ:=ρ.dn H.next _) H.next 0 0 _ (Env.gK _ _ _)
 ·cases h
def uN(P:Program)(H:ad)(t:TypeId):Option (ae×ad):=(e2 P t).bind (pO (j9 P t) H)
def Nf(d:Rel ρ H w)(az:ρ H.next=I){t:TypeId}{a:ae}{H':ad}(h:uN P H t=D (a,H')):
  ∃r b c,(Instr.alloc t C (.tuple #[])).run P w= .ok r b/\bp c a r/\Step ρ H w c H' b:=by
 unfold uN at h;simp only[dY]at h;obtain⟨z,f,h⟩:=h;obtain⟨x,aA,e⟩:=nt f w;obtain⟨r,b,c,af,ah,an⟩:=EL (P:=P) d az h (e ρ) t λ_ h=>Ji h
 refine⟨r,b,c,?_,ah,an⟩;simp only[Instr.alloc,Sem.run_bind,aA,Result.andThen_ok];simpa [Instr.box]using af
end
section
variable {P:Program}{ρ:Env}{H:ad}{w:World}
def np(place:Nat->Option (Nat×Nat))(cells:List ae):List (Nat×ae)->Option (List ae)
 |[]=>D cells
 |(i,v)::rest=>
  match place i with
  |none=>I
  |some (off,size)=>if v.cells.length=size/\off+v.cells.length<=cells.length then np place (eZ cells off v.cells) rest else I
def Ae:∀(ak:List Value) (k off:Nat) (c:Array Value),(ak.zipIdx k).foldl (λcs (x:Value×Nat)=>cs.setIfInBounds (off+x.2) x.1) c=iW c (off+k) ak
 |[],_,_,_=>rfl
 |v::r,k,off,c=>by
  simp only[List.zipIdx_cons,List.foldl_cons,iW];rw[Ae r (k+1) off];rfl
def LW{e:List ae}{xs:List Value}{c:Nat}{cs:List ae}{d:List Value}(he:bO ρ e xs)(aq:bO ρ cs d)(h:c+cs.length<=e.length):
  bO ρ (eZ e c cs) (iW xs.toArray c d).toList:=by
 have i:=he.length;have k:=aq.length;refine bO.Jn (by rw[LU h];simp[su,i]) ?_;intro j v x a aA;by_cases g:c<=j/\j<c+cs.length
 ·rw[LS h g.1 g.2]at a;obtain⟨b,f,au⟩:=aq.get _ _ a;have:=wm d xs.toArray c (j-c) b f (by simp;omega);rw[show c+(j-c)=j by omega]at this;simp only[Array.getElem?_toList]at aA;obtain rfl:x=b:=Option.some.inj (aA.symm.trans this);exact au
 ·rw[LV h aa]at a;obtain⟨b,f,au⟩:=he.get _ _ a;have:=qv d xs.toArray c j aa;simp only[Array.getElem?_toList]at aA;rw[this]at aA;simp only[List.getElem?_toArray]at aA;obtain rfl:x=b:=Option.some.inj (aA.symm.trans f);exact au
def pH(ρ:Env):List (Nat×ae)->List (Nat×Value)->Prop
 |[],[]=>True
 |(i,v)::r,(j,x)::s=>i=j/\bp ρ v x/\pH ρ r s
 |_,_=>False
def zn(place:Nat->Option (Nat×Nat)):∀(parts:List (Nat×ae)) (k:List (Nat×Value)) (cells b:List ae) (xs:List Value),pH ρ parts k->bO ρ cells xs->
  np place cells parts=D b->∃d:List Value,Instr.fill place xs.toArray k=D d.toArray/\bO ρ b d
 |[],[],cells,b,xs,_,aq,h=>by
  simp[np]at h;subst h;exact⟨xs,rfl,aq⟩
 |[],_::_,_,_,_,a,_,_=>a.elim
 |_::_,[],_,_,_,a,_,_=>a.elim
 |(i,v)::r,(j,x)::s,cells,b,xs,a,aq,h=>by
  obtain⟨rfl,n,a⟩:=a;unfold np at h;unfold Instr.fill;cases f:place i with
  |none=>rw[f]at h;cases h
  |some os=>
   obtain⟨off,size⟩:=os;rw[f]at h;simp only at h;split at h
   ·rename_i e;have g:=n.cells;have o:=g.length;have p:=aq.length;have m:x.cells.size=v.cells.length:=by rw[o];simp
    have l:=LW aq g (c:=off) e.2;obtain⟨d,af,ah⟩:=zn place r s _ b _ a l h;refine⟨d,?_,ah⟩;simp only
    rw[if_neg (by simp[m,e.1];have:=e.2;omega)];have:=Ae x.cells.toList 0 off xs.toArray;rw[Nat.add_zero]at this;rw[<-Array.foldl_toList,Array.toList_zipIdx,this];simpa using af
   ·cases h
def pS(P:Program):List Field->Option (List (Nat×Nat))
 |[]=>D []
 |f::fs=>match cp P f.type,pS P fs with
  |some n,D l=>D ((f.offset,n)::l)
  |_,_=>I
def E1(w:World):∀(fs:List Field) (l:List (Nat×Nat)),pS P fs=D l->(fs.mapM (λf=>(do pure (f.offset,<-sizeOf f.type):Sem (Nat×Nat)))).run P w= .ok l w
 |[],l,h=>by simp[pS]at h;subst h;simp[Sem.run_pure]
 |f::fs,l,h=>by
  unfold pS at h;split at h
  ·rename_i n b aH al;simp only[bb]at h;subst h;have a:=E1 w fs b al;rw[List.mapM_cons];simp only[Sem.run_bind,run_sizeOf aH,Result.andThen_ok,Sem.run_pure,a]
  ·cases h
def dU(P:Program)(t:TypeId)(parts:List (Nat×ae)):Option ae:=
 match e2 P t,P.underlying t with
 |some z,D (.struct fs)=>(match pS P fs.toList with|some pl=>(np (pl[·]?) z.cells parts).map .agg|none=>I)
 |some z,D (.array _ e)=>(match cp P e with|some n=>(np (λi=>D (i*n,n)) z.cells parts).map .agg|none=>I)
 |_,_=>I
def Nk{t:TypeId}{parts:List (Nat×ae)}{b:List (Nat×Value)}{v:ae}(h:dU P t parts=D v)(l:pH ρ parts b)(w:World):
  ∃x,(Instr.build t b.toArray).run P w= .ok x w/\bp ρ v x:=by
 unfold dU at h;split at h
 ·rename_i z fs g hu;obtain⟨a,j,i⟩:=nt g w;split at h
  ·rename_i pl o;simp only[Option.map_eq_some_iff]at h;obtain⟨cs,d,rfl⟩:=h;obtain⟨k,af,ah⟩:=zn _ parts b z.cells cs a.cells.toList l (i ρ).cells d;refine⟨.agg k.toArray,?_,.agg _ _ ah⟩;have hm:=E1 (P:=P) w fs.toList pl o;have m:(fs.mapM (λf=>(do pure (f.offset,<-sizeOf f.type):Sem (Nat×Nat)))).run P w= .ok pl.toArray w:=by
    rw[Array.mapM_eq_mapM_toList];simp only[Sem.run_map,hm,Result.andThen_ok]
   simp only[Instr.build,Sem.run_bind,j,Result.andThen_ok,run_underlying hu,m];have e:(λx:Nat=>(pl.toArray)[x]?)=(λx=>pl[x]?):=by funext x;simp
   simp only[e];have c:a.cells.toList.toArray=a.cells:=by simp
   rw[c]at af;simp[af]
  ·cases h
 ·rename_i z n e g hu;obtain⟨a,j,i⟩:=nt g w;split at h
  ·rename_i q p;simp only[Option.map_eq_some_iff]at h;obtain⟨cs,d,rfl⟩:=h;obtain⟨k,af,ah⟩:=zn _ parts b z.cells cs a.cells.toList l (i ρ).cells d;refine⟨.agg k.toArray,?_,.agg _ _ ah⟩;have c:a.cells.toList.toArray=a.cells:=by simp
   rw[c]at af;simp[Instr.build,j,run_underlying hu,run_sizeOf p,af]
  ·cases h
 ·cases h
def ks(esz:Nat):List (List ae)->List (Nat×ae)->Option (List (List ae))
 |els,[]=>D els
 |els,(i,v)::rest=>if v.cells.length=esz/\i<els.length/\v.cells.all ae.one=C then ks esz (els.set i v.cells) rest else I
def ru(P:Program)(H:ad)(t:TypeId)(len:Nat)(parts:List (Nat×ae)):Option (ae×ad):=
 match P.underlying t with
 |some (.slice e)=>
  (match cp P e,e2 P e with
  |some a,D z=>
   if len*a<=16777216/\z.cells.length=a/\z.cells.all ae.one=C then
    (match ks a (List.replicate len z.cells) parts with
    |some els=>D (.aD H.next 0 len a (D len),H.push (.row Z a els))
    |none=>I)
   else I
  |_,_=>I)
 |_=>I
def nD{esz:Nat}:∀{els:List (List ae)},(∀e∈els,e.length=esz)->els.flatten.length=els.length*esz
 |[],_=>by simp
 |d::els,h=>by
  have:=nD (els:=els) (λe he=>h e (List.mem_cons_of_mem _ he));simp only[List.flatten_cons,List.length_append,this,h d (by simp),List.length_cons,Nat.succ_mul];omega
def G4{esz:Nat}:∀{els:List (List ae)} (i:Nat) (c:List ae),(∀e∈els,e.length=esz)->c.length=esz->i<els.length->(els.set i c).flatten=eZ els.flatten (i*esz) c
 |[],_,_,_,_,h=>by simp at h
 |d::els,0,c,al,aq,_=>by
  have a:=al d (by simp);simp[eZ,aq,<-a]
 |d::els,i+1,c,al,aq,h=>by
  have a:=al d (by simp);have g:=G4 (els:=els) i c (λe he=>al e (List.mem_cons_of_mem _ he)) aq (by simpa using h);simp only[List.set_cons_succ,List.flatten_cons,g];unfold eZ;rw[Nat.succ_mul];have b:List.take (i*esz+esz) (d++els.flatten)=d++els.flatten.take (i*esz):=by
   rw[List.take_append,List.take_of_length_le aa];congr 2;omega
  have f:List.drop (i*esz+esz+c.length) (d++els.flatten)=els.flatten.drop (i*esz+c.length):=by
   rw[List.drop_append,List.drop_eq_nil_of_le aa,List.nil_append];congr 1;omega
  rw[b,f];simp
def Fc(esz:Nat):∀(parts:List (Nat×ae)) (m:List (Nat×Value)) (els a:List (List ae)) (xs:List Value),pH ρ parts m->(∀e∈els,e.length=esz)->(∀e∈els,∀v∈e,v.one=C)->
  bO ρ els.flatten xs->ks esz els parts=D a->
   (∃f:List Value,Instr.fill (λi=>D (i*esz,esz)) xs.toArray m=D f.toArray/\bO ρ a.flatten f)/\(∀e∈a,e.length=esz)/\(∀e∈a,∀v∈e,v.one=C)/\a.length=els.length
 |[],[],els,a,xs,_,af,ah,d,h=>by
  simp[ks]at h;subst h;exact⟨⟨xs,rfl,d⟩,af,ah,rfl⟩
 |[],_::_,_,_,_,b,_,_,_,_=>b.elim
 |_::_,[],_,_,_,b,_,_,_,_=>b.elim
 |(i,v)::r,(j,x)::s,els,a,xs,b,af,ah,d,h=>by
  obtain⟨rfl,K,b⟩:=b;unfold ks at h;split at h
  ·rename_i z;obtain⟨aq,g,E⟩:=z;have G:∀u∈v.cells,u.one=true:=by simpa using E
   have l:=K.cells;have L:=l.length;have M:=d.length;have B:=nD af;have hle:i*esz+v.cells.length<=els.flatten.length:=by rw[B,aq];exact sd g
   have k:=LW d l (c:=i*esz) hle;rw[<-G4 i v.cells af aq g]at k;have w:∀e∈els.set i v.cells,e.length=esz:=λe he=>by
    rcases List.mem_or_eq_of_mem_set he with h|rfl
    ·exact af e h
    ·exact aq
   have y:∀e∈els.set i v.cells,∀u∈e,u.one=true:=λe he=>by
    rcases List.mem_or_eq_of_mem_set he with h|rfl
    ·exact ah e h
    ·exact G
   obtain⟨⟨f,n,o⟩,p,q,t⟩:=Fc esz r s _ a _ b w y k h;refine⟨⟨f,?_,o⟩,p,q,by simpa using t⟩;unfold Instr.fill;have H:x.cells.size=v.cells.length:=by rw[L];simp
   simp only
   rw[if_neg (by simp[H,aq];omega)];have:=Ae x.cells.toList 0 (i*esz) xs.toArray;rw[Nat.add_zero]at this;rw[<-Array.foldl_toList,Array.toList_zipIdx,this];simpa using n
  ·cases h
def M1(z:Array Value)(n:Nat)(b:0<z.size):((Array.range (n*z.size)).map (z[· %z.size]!))=((List.replicate n z.toList).flatten).toArray:=by
 apply Array.ext';apply List.ext_getElem?;intro k;by_cases a:k<n*z.size
 ·have af:(Array.map (λx=>z[x%z.size]!) (Array.range (n*z.size))).toList[k]? =D z[k%z.size]! :=by
   simp[a]
  rw[af];symm;simp only
  have hdiv:k/z.size<n:=by rw[Nat.div_lt_iff_lt_mul b];exact a
  have c:k%z.size<z.size:=Nat.mod_lt _ b;have key:∀(n k:Nat),k<n*z.size->(List.replicate n z.toList).flatten[k]? =z.toList[k%z.size]? :=by
   intro n
   induction n with
   |zero=>intro k h;omega
   |succ n d=>
    intro k h;rw[List.replicate_succ,List.flatten_cons];by_cases a:k<z.size
    ·rw[List.getElem?_append_left (by simpa using a),Nat.mod_eq_of_lt a]
    ·rw[List.getElem?_append_right (by simpa using a)];have:=d (k-z.size) (by rw[Nat.succ_mul]at h;omega);simp only[Array.length_toList];rw[this,<-Nat.mod_eq_sub_mod aa]
  rw[key n k a];simp[c]
 ·rw[List.getElem?_eq_none (by simp;omega),List.getElem?_eq_none (by simp;omega)]
def bO.Ad{a:List ae}{xs:List Value}(h:bO ρ a xs):∀n,bO ρ (List.replicate n a).flatten (List.replicate n xs).flatten
 |0=>by simpa using bO.nil
 |n+1=>by simpa [List.replicate_succ]using h.append (bO.Ad h n)
def Ni(p:Rel ρ H w)(az:ρ H.next=I){t:TypeId}{len:Nat}{parts:List (Nat×ae)}{g:List (Nat×Value)}{a:ae}{H':ad}(h:ru P H t len parts=D (a,H'))(B:pH ρ parts g):
  ∃r k m,(Instr.buildSlice t len g.toArray).run P w= .ok r k/\bp m a r/\Step ρ H w m H' k:=by
 unfold ru at h;split at h
 ·rename_i e hu;split at h
  ·rename_i b z L N;split at h
   ·rename_i q;obtain⟨hle,j,x⟩:=q;split at h
    ·rename_i els s;simp only[bb,cK]at h;obtain⟨rfl,rfl⟩:=h;obtain⟨c,Q,O⟩:=nt N w;have y:∀u∈z.cells,u.one=true:=by simpa using x
     have i:=(O ρ).cells;have f:c.cells.size=b:=by have:=i.length;rw[<-j,this];simp
     have G:=bO.Ad i len;obtain⟨⟨l,af,ah⟩,an,aM,o⟩:=Fc b parts g _ els _ B (λe he=>by rw[List.eq_of_mem_replicate he];exact j)
      (λe he=>by rw[List.eq_of_mem_replicate he];exact y) G s
     have K:=ss p az (ot:=none) an aM ah (tail:=[]) e (λ_ h=>by cases h);have M:l.length=len*b:=by
      rw[<-ah.length,nD an,o];simp
     refine⟨.slice (D ⟨w.heap.size,0,I⟩) len len,_,_,?_,?_,K⟩
     ·simp only[Instr.buildSlice,Sem.run_bind,run_underlying hu,Result.andThen_ok,run_sizeOf L];rw[if_neg (by show¬(len*b>2^24);omega)];by_cases d:len*b=0
      ·simp only[d,if_true,Sem.run_bind,Sem.run_pure,Result.andThen_ok];have v:(List.replicate len c.cells.toList).flatten=[]:=by
        have:((List.replicate len c.cells.toList).flatten).length=0:=by simp[f,d]
        exact List.eq_nil_of_length_eq_zero this
       rw[v]at af;have n:Array.range 0= #[]:=rfl;simp[af,newRow,n]
      ·simp only[d,if_false,Sem.run_bind,Q,Result.andThen_ok,Sem.run_pure];have E:0<c.cells.size:=by
        rcases Nat.eq_zero_or_pos c.cells.size with h|h
        ·rw[f]at h;simp[h]at d
        ·exact h
       have:=M1 c.cells len E;rw[f]at this;simp only[f,this];simp[af,newRow]
     ·refine bp.aD (ρ:=ρ.dn H.next _) H.next 0 len (D len) ⟨w.heap.size,0,b,l.length+0⟩ _ len (Env.gK _ _ _) (bC _) (by simp) (λ_=>⟨by simp,?_⟩)
      simp[M]
    ·cases h
   ·cases h
  ·cases h
 ·cases h

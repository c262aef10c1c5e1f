/-
  Texts of one proof, laid together: Hv0 Hv1 Hv2 Hv3 Hv4 Hv5 Hv6 Hv7.
-/
import GoSem.Dispatch
import Derived.WalkKit
import Derived.Laws.IdiomCopy
set_option linter.unusedVariables false
set_option linter.unusedSimpArgs false
set_option linter.defProp false
open Option renaming some→A,none→Z
open Bool renaming true→J,false→I
namespace Go.cw
def ad{p:Prop}(h:p:=by omega):p:=h
def aF{p:Prop}(h:p:=by kernel_rfl):p:=h
def bZ{p:Prop}(h:p:=by decide):p:=h
def al{p:Prop}(h:p:=by grind):p:=h
def aX{p:Prop}(h:p:=by simp):p:=h
def fA{p q:Prop}(h:q)(e:q->p:=by intro h;simpa using h):p:=e h
def ag{a b:Prop}(x:a)(y:b):a/\b:=⟨x,y⟩
def bD{α:Type}(a b:α):(A a=A b)=(a=b):=Option.some.injEq a b
def g8{α:Type}(a b:α):(bif J then a else b)=a:=rfl
def oZ{α:Type}(a b:α):(bif I then a else b)=b:=rfl
theorem eV{α β:Type}{o:Option α}{f:α->Option β}{b:β}:o.bind f=A b↔∃a,o=A a/\f a=A b:=Option.bind_eq_some_iff
def eF{α β:Type}(a:α)(b:β)(c:α)(d:β):((a,b)=(c,d))=(a=c/\b=d):=Prod.mk.injEq a b c d
def du(n:Nat):n<=n:=Nat.le_refl n
inductive af where
 |bool (b:Bool)
 |int (k:IntKind) (n:Int)
 |str (s:List UInt8)
 |ptr (l i c:Nat)
 |ho
 |az (l i n esz:Nat) (cap:Option Nat)
 |ao
 |map (l:Nat)
 |js
 |func (fn:Fn) (first captured:List af)
 |nilFunc
 |iface (t:TypeId) (v:af)
 |nilIface
 |agg (cs:List af)
 |tuple (ak:List af)
instance:Inhabited af:=⟨.tuple []⟩
inductive bz where
 |row (ro:Bool) (esz:Nat) (els:List (List af))
 |dZ (t:TypeId) (esz:Nat) (els:List (List af))
 |map (es:List (af×af))
 |dead
 |old (s esz:Nat) (els:List (List af))
inductive m3 where
 |d0|d1|d2|d3|d4|d5|d6|d7
inductive bK(α:Type) where
 |leaf
 |node (v:Option α) (br a1 bd bn bI bY ch dp:bK α)
def Em(n:Nat):m3:=match n with
 |0=> .d0|1=> .d1|2=> .d2|3=> .d3|4=> .d4|5=> .d5|6=> .d6|_=> .d7
def V_{n m:Nat}(aL:n<8)(hm:m<8)(h:Em n=Em m):n=m:=by
 have ah:n=0\/n=1\/n=2\/n=3\/n=4\/n=5\/n=6\/n=7:=ad;have ai:m=0\/m=1\/m=2\/m=3\/m=4\/m=5\/m=6\/m=7:=ad;rcases ah with rfl|rfl|rfl|rfl|rfl|rfl|rfl|rfl<;>rcases ai with rfl|rfl|rfl|rfl|rfl|rfl|rfl|rfl<;>first|rfl|cases h
def pB:Nat->Nat->List m3
 |0,_=>[]
 |_+1,0=>[]
 |f+1,k+1=>Em (k%8)::pB f (k/8)
def path(k:Nat):List m3:=pB k k
def acx:∀(f g k j:Nat),k<=f->j<=g->pB f k=pB g j->k=j:=by
 intro f
 induction f with
 |zero=>
  intro g k j b a h;have:k=0:=ad;subst this;cases j with
  |zero=>rfl
  |succ j=>
   cases g with
   |zero=>omega
   |succ g=>simp[pB]at h
 |succ f c=>
  intro g k j b a h;cases k with
  |zero=>
   cases j with
   |zero=>rfl
   |succ j=>
    cases g with
    |zero=>omega
    |succ g=>simp[pB]at h
  |succ k=>
   cases j with
   |zero=>cases g<;>simp[pB]at h
   |succ j=>
    cases g with
    |zero=>omega
    |succ g=>
     simp only[pB,List.cons.injEq]at h;have ah:=V_ ad ad h.1;grind
def OY{k j:Nat}(h:path k=path j):k=j:=acx k j k j ad ad h
def bK.kv{α:Type}:List m3->bK α->Option α
 |[],.leaf=>Z
 |[],.node v _ _ _ _ _ _ _ _=>v
 |_::_,.leaf=>Z
 |d::p,.node _ br a1 bd bn bI bY ch dp=>match d with
  | .d0=>bK.kv p br| .d1=>bK.kv p a1| .d2=>bK.kv p bd| .d3=>bK.kv p bn
  | .d4=>bK.kv p bI| .d5=>bK.kv p bY| .d6=>bK.kv p ch| .d7=>bK.kv p dp
def bK.fc{α:Type}(x:α):List m3->bK α->bK α
 |[],.leaf=> .node (A x) .leaf .leaf .leaf .leaf .leaf .leaf .leaf .leaf
 |[],.node _ br a1 bd bn bI bY ch dp=> .node (A x) br a1 bd bn bI bY ch dp
 |d::p,.leaf=>match d with
  | .d0=> .node Z (bK.fc x p .leaf) .leaf .leaf .leaf .leaf .leaf .leaf .leaf
  | .d1=> .node Z .leaf (bK.fc x p .leaf) .leaf .leaf .leaf .leaf .leaf .leaf
  | .d2=> .node Z .leaf .leaf (bK.fc x p .leaf) .leaf .leaf .leaf .leaf .leaf
  | .d3=> .node Z .leaf .leaf .leaf (bK.fc x p .leaf) .leaf .leaf .leaf .leaf
  | .d4=> .node Z .leaf .leaf .leaf .leaf (bK.fc x p .leaf) .leaf .leaf .leaf
  | .d5=> .node Z .leaf .leaf .leaf .leaf .leaf (bK.fc x p .leaf) .leaf .leaf
  | .d6=> .node Z .leaf .leaf .leaf .leaf .leaf .leaf (bK.fc x p .leaf) .leaf
  | .d7=> .node Z .leaf .leaf .leaf .leaf .leaf .leaf .leaf (bK.fc x p .leaf)
 |d::p,.node v br a1 bd bn bI bY ch dp=>match d with
  | .d0=> .node v (bK.fc x p br) a1 bd bn bI bY ch dp
  | .d1=> .node v br (bK.fc x p a1) bd bn bI bY ch dp
  | .d2=> .node v br a1 (bK.fc x p bd) bn bI bY ch dp
  | .d3=> .node v br a1 bd (bK.fc x p bn) bI bY ch dp
  | .d4=> .node v br a1 bd bn (bK.fc x p bI) bY ch dp
  | .d5=> .node v br a1 bd bn bI (bK.fc x p bY) ch dp
  | .d6=> .node v br a1 bd bn bI bY (bK.fc x p ch) dp
  | .d7=> .node v br a1 bd bn bI bY ch (bK.fc x p dp)
def bK.ze{α:Type}(p:List m3):bK.kv p (.leaf:bK α)=none:=by cases p<;>rfl
def bK.zf{α:Type}(x:α):∀(p:List m3) (t:bK α),bK.kv p (bK.fc x p t)=A x
 |[],.leaf=>rfl
 |[],.node .. =>rfl
 |d::p,.leaf=>by cases d<;>exact bK.zf x p _
 |d::p,.node .. =>by cases d<;>exact bK.zf x p _
def bK.ED{α:Type}(x:α):∀(p q:List m3) (t:bK α),p≠q->bK.kv q (bK.fc x p t)=bK.kv q t
 |[],[],_,h=>absurd rfl h
 |[],e::q,.leaf,_=>by cases e<;>exact bK.ze q
 |[],e::q,.node ..,_=>rfl
 |d::p,[],.leaf,_=>by cases d<;>rfl
 |d::p,[],.node ..,_=>by cases d<;>rfl
 |d::p,e::q,.leaf,h=>by
  cases d<;>cases e<;>first
   |exact bK.ze q
   |(show bK.kv q (bK.fc x p .leaf)=Z
     rw[bK.ED x p q .leaf (λa=>h (by rw[a]))];exact bK.ze q)
 |d::p,e::q,.node ..,h=>by
  cases d<;>cases e<;>first
   |rfl
   |exact bK.ED x p q _ (λa=>h (by rw[a]))
def bK.get{α:Type}(t:bK α)(k:Nat):Option α:=bK.kv (path k) t
def bK.put{α:Type}(x:α)(_:Nat)(t:bK α)(k:Nat):bK α:=bK.fc x (path k) t
theorem bK.sD{α:Type}(k:Nat):(bK.leaf:bK α).get k=none:=bK.ze _
theorem bK.uH{α:Type}(x:α):∀(f:Nat) (t:bK α) (k:Nat),k<f->(bK.put x f t k).get k=A x:=λ_ t k _=>bK.zf x (path k) t
theorem bK.sF{α:Type}(x:α):∀(f:Nat) (t:bK α) (k j:Nat),k≠j->(bK.put x f t k).get j=t.get j:=λ_ t _ _ h=>bK.ED x _ _ t (λe=>h (OY e))
structure ae where
 t:bK bz
 next:Nat
def ae.get(H:ae)(l:Nat):Option bz:=if l<H.next then H.t.get l else Z
def ae.set(H:ae)(l:Nat)(b:bz):ae:={H with t:=bK.put b (l+1) H.t l}
def ae.push(H:ae)(b:bz):ae:={t:=bK.put b (H.next+1) H.t H.next,next:=H.next+1}
def ae.empty:ae:=⟨.leaf,0⟩
@[simp] theorem ae.u1(H:ae)(l:Nat)(b:bz):(H.set l b).next=H.next:=rfl
@[simp] theorem ae.fR(H:ae)(b:bz):(H.push b).next=H.next+1:=rfl
theorem ae.bq{H:ae}{l:Nat}{b:bz}(h:H.get l=A b):l<H.next:=by
 grind[ae.get]
theorem ae.cH{H:ae}{l:Nat}{b:bz}(h:l<H.next):(H.set l b).get l=A b:=by
 show(if l<H.next then(bK.put b (l+1) H.t l).get l else Z)=A b;grind[bK.uH]
theorem ae.b8{H:ae}{l j:Nat}{b:bz}(h:l≠j):(H.set l b).get j=H.get j:=by
 show(if j<H.next then(bK.put b (l+1) H.t l).get j else Z)=(if j<H.next then H.t.get j else Z);grind[bK.sF]
theorem ae.a2(H:ae)(b:bz):(H.push b).get H.next=A b:=by
 show(if H.next<H.next+1 then(bK.put b (H.next+1) H.t H.next).get H.next else Z)=A b;grind[bK.uH]
theorem ae.eW{H:ae}{j:Nat}{b:bz}(h:j≠H.next):(H.push b).get j=H.get j:=by
 show(if j<H.next+1 then(bK.put b (H.next+1) H.t H.next).get j else Z)=(if j<H.next then H.t.get j else Z);grind[bK.sF]
section
mutual
def af.beq:af->af->Bool
 | .bool a,.bool b=>a==b
 | .int k n,.int o m=>decide (k=o)&&decide (n=m)
 | .str s,.str t=>decide (s=t)
 | .ptr l i c,.ptr d g f=>decide (l=d)&&decide (i=g)&&decide (c=f)
 | .ho,.ho=>J
 | .az l i n e c,.az d g p j f=>decide (l=d)&&decide (i=g)&&decide (n=p)&&decide (e=j)&&decide (c=f)
 | .ao,.ao=>J
 | .map l,.map d=>decide (l=d)
 | .js,.js=>J
 | .nilFunc,.nilFunc=>J
 | .iface t v,.iface q r=>decide (t=q)&&af.beq v r
 | .nilIface,.nilIface=>J
 | .agg xs,.agg h=>e6.beq xs h
 | .tuple xs,.tuple h=>e6.beq xs h
 |_,_=>I
def e6.beq:List af->List af->Bool
  |[],[]=>J
  |x::xs,y::a=>af.beq x y&&e6.beq xs a
  |_,_=>I
 end
mutual
theorem af.beq_eq:∀{a b:af},af.beq a b=J->a=b:=by
 intro a b h;cases a<;>cases b<;>simp only[af.beq]at h<;>first
  |(cases h;done)
  |rfl
  |(simp at h;simp[h];done)
  |skip
 ·simp only[Bool.and_eq_true,decide_eq_true_eq]at h;obtain⟨rfl,h⟩:=h;rw[af.beq_eq h]
 ·rw[e6.beq_eq h]
 ·rw[e6.beq_eq h]
theorem e6.beq_eq:∀{a b:List af},e6.beq a b=J->a=b:=by
  intro a b h;cases a with
  |nil=>grind[e6.beq]
  |cons x xs=>cases b with
   |nil=>simp[e6.beq]at h
   |cons y c=>
    simp only[e6.beq,Bool.and_eq_true]at h;rw[af.beq_eq h.1,e6.beq_eq h.2]
 end
structure Loc where
 block:Nat
 off:Nat
 esz:Nat
 size:Nat
def Env:Type:=Nat->Option Loc
def Env.le(ρ a:Env):Prop:=∀l loc,ρ l=A loc->a l=A loc
def Env.le_refl(ρ:Env):ρ.le ρ:=λ_ _ h=>h
theorem Env.le_trans{ρ a b:Env}(h:ρ.le a)(cu:a.le b):ρ.le b:=λl loc e=>cu l loc (h l loc e)
mutual
inductive bA(ρ:Env):af->Value->Prop where
 |bool (b:Bool):bA ρ (.bool b) (.bool b)
 |int (k:IntKind) (n:Int):bA ρ (.int k n) (.int k n)
 |str (s:List UInt8):bA ρ (.str s) (.string ⟨s.toArray⟩)
 |ptr (l i c:Nat) (loc:Loc) (h:ρ l=some loc):bA ρ (.ptr l i c) (.pointer (some ⟨loc.block,loc.off+i*loc.esz+c,none⟩))
 |ho:bA ρ .ho (.pointer none)
 |az (l i n:Nat) (cap:Option Nat) (loc:Loc) (a:Addr) (c:Nat) (h:ρ l=some loc) (aL:n<=c) (aA:∀k,cap=some k->c=k)
  (g:0<c->a=⟨loc.block,loc.off+i*loc.esz,none⟩/\loc.off+(i+c)*loc.esz<=loc.size):bA ρ (.az l i n loc.esz cap) (.slice (some a) n c)
 |ao:bA ρ .ao (.slice none 0 0)
 |map (l:Nat) (loc:Loc) (h:ρ l=some loc):bA ρ (.map l) (.map (some loc.block))
 |js:bA ρ .js (.map none)
 |func (fn:Fn) (f c:List af) (e d:List Value) (aC:bU ρ f e) (aA:bU ρ c d):bA ρ (.func fn f c) (.func fn e.toArray d.toArray)
 |nilFunc:bA ρ .nilFunc .nilFunc
 |iface (t:TypeId) (v:af) (x:Value) (h:bA ρ v x):bA ρ (.iface t v) (.iface t x)
 |nilIface:bA ρ .nilIface .nilIface
 |agg (cs:List af) (xs:List Value) (h:bU ρ cs xs):bA ρ (.agg cs) (.agg xs.toArray)
 |tuple (cs:List af) (xs:List Value) (h:bU ρ cs xs):bA ρ (.tuple cs) (.tuple xs.toArray)
inductive bU(ρ:Env):List af->List Value->Prop where
  |nil:bU ρ [] []
  |cons (v:af) (x:Value) (ak:List af) (xs:List Value) (h:bA ρ v x) (a:bU ρ ak xs):bU ρ (v::ak) (x::xs)
 end
mutual
def bA.mono{ρ d:Env}(hle:ρ.le d){v:af}{x:Value}(h:bA ρ v x):bA d v x:=by
 cases h with
 |bool b=>exact .bool b
 |int k n=>exact .int k n
 |str s=>exact .str s
 |ptr l i c loc h=>exact .ptr l i c loc (hle _ _ h)
 |ho=>exact .ho
 |az l i n cap loc a c h aL aA j=>exact .az l i n cap loc a c (hle _ _ h) aL aA j
 |ao=>exact .ao
 |map l loc h=>exact .map l loc (hle _ _ h)
 |js=>exact .js
 |func fn f c g e aC aA=>exact .func fn f c g e (bU.mono hle aC) (bU.mono hle aA)
 |nilFunc=>exact .nilFunc
 |iface t v x h=>exact .iface t v x (bA.mono hle h)
 |nilIface=>exact .nilIface
 |agg cs xs h=>exact .agg cs xs (bU.mono hle h)
 |tuple cs xs h=>exact .tuple cs xs (bU.mono hle h)
def bU.mono{ρ a:Env}(hle:ρ.le a){v:List af}{x:List Value}(h:bU ρ v x):bU a v x:=by
  cases h with
  |nil=>exact .nil
  |cons v x ak xs h b=>exact .cons v x ak xs (bA.mono hle h) (bU.mono hle b)
 end
def bU.length{ρ:Env}:∀{ak:List af} {xs:List Value},bU ρ ak xs->ak.length=xs.length
 |[],_,h=>by cases h;rfl
 |_::_,_,h=>by cases h with|cons _ _ _ _ _ a=>simp[bU.length a]
theorem bU.get{ρ:Env}:∀{ak:List af} {xs:List Value},bU ρ ak xs->∀(j:Nat) (v:af),ak[j]? =A v->∃x,xs[j]? =A x/\bA ρ v x
 |[],_,h,j,v,a=>al
 |w::ak,_,h,j,v,a=>by
  cases h with
  |cons _ x _ xs c b=>
   cases j with
   |zero=>grind
   |succ j=>simpa using bU.get b j v al
def bU.append{ρ:Env}:∀{ak us:List af} {xs b:List Value},bU ρ ak xs->bU ρ us b->bU ρ (ak++us) (xs++b)
 |[],_,_,_,h,cu=>by cases h;grind
 |_::_,_,_,_,h,cu=>by cases h with|cons _ _ _ _ a ft=>exact .cons _ _ _ _ a (bU.append ft cu)
def bU.OC{ρ:Env}:∀{ak:List af} {xs:List Value},ak.length=xs.length->(∀(j:Nat) (v:af) (x:Value),ak[j]? =A v->xs[j]? =A x->bA ρ v x)->bU ρ ak xs
 |[],[],_,_=> .nil
 |[],_::_,h,_=>al
 |_::_,[],h,_=>al
 |v::ak,x::xs,h,ar=> .cons _ _ _ _ (ar 0 v x rfl rfl) (bU.OC al λj a b c d=>ar (j+1) a b al al)
theorem bU.set{ρ:Env}{v:af}{x:Value}(h:bA ρ v x):∀{ak:List af} {xs:List Value} (j:Nat),bU ρ ak xs->bU ρ (ak.set j v) (xs.set j x)
 |[],_,_,b=>by cases b;exact .nil
 |_::_,_,0,b=>by cases b with|cons _ _ _ _ a ft=>exact .cons _ _ _ _ h ft
 |_::_,_,j+1,b=>by cases b with|cons _ _ _ _ a ft=>exact .cons _ _ _ _ a (bU.set h j ft)
def af.one:af->Bool
 | .agg _| .tuple _=>I
 |_=>J
def af.cells:af->List af
 | .agg cs=>cs
 |v=>[v]
def bA.FI{ρ:Env}{v:af}{x:Value}(h:bA ρ v x)(ah:v.one=J):x.oneCell'=true:=by
 cases h<;>first|rfl|cases ah
theorem bA.cells{ρ:Env}{v:af}{x:Value}(h:bA ρ v x):bU ρ v.cells x.cells.toList:=by
 cases h with
 |agg cs xs h=>grind[af.cells,Value.cells]
 |bool b=>exact .cons _ _ _ _ (.bool b) .nil
 |int k n=>exact .cons _ _ _ _ (.int k n) .nil
 |str s=>exact .cons _ _ _ _ (.str s) .nil
 |ptr l i c loc h=>exact .cons _ _ _ _ (.ptr l i c loc h) .nil
 |ho=>exact .cons _ _ _ _ .ho .nil
 |az l i n cap loc a c h aL aA g=>exact .cons _ _ _ _ (.az l i n cap loc a c h aL aA g) .nil
 |ao=>exact .cons _ _ _ _ .ao .nil
 |map l loc h=>exact .cons _ _ _ _ (.map l loc h) .nil
 |js=>exact .cons _ _ _ _ .js .nil
 |func fn f c e d aC aA=>exact .cons _ _ _ _ (.func fn f c e d aC aA) .nil
 |nilFunc=>exact .cons _ _ _ _ .nilFunc .nil
 |iface t v x h=>exact .cons _ _ _ _ (.iface t v x h) .nil
 |nilIface=>exact .cons _ _ _ _ .nilIface .nil
 |tuple cs xs h=>exact .cons _ _ _ _ (.tuple cs xs h) .nil
def gJ(ρ:Env)(w:World)(loc:Loc)(ro:Bool)(esz:Nat)(els:List (List af)):Prop:=loc.esz=esz/\∃c t a,w.heap[loc.block]? =A (.cells c t a)/\(loc.size=c.size/\(ro=I->∀o,o<c.size->¬(a.1<=o/\o<a.2)))/\ ∀(i:Nat) (e:List af),els[i]? =A e->e.length=esz/\∀(j:Nat) (v:af),e[j]? =A v->v.one=J/\∃x,c[loc.off+i*esz+j]? =A x/\bA ρ v x
def oR(ρ:Env)(w:World)(loc:Loc)(t:TypeId)(esz:Nat)(els:List (List af)):Prop:=gJ ρ w loc I esz els/\∃c a,w.heap[loc.block]? =A (.cells c t a)/\loc.off=0
def DB(ρ:Env)(w:World)(loc:Loc)(es:List (af×af)):Prop:=∃ents clock,w.heap[loc.block]? =A (.map ents clock)/\bU ρ (es.map (·.1)) (ents.toList.map (·.key))/\bU ρ (es.map (·.2)) (ents.toList.map (·.val))
def ae.rw(H:ae)(l:Nat):Prop:=(∃esz els,H.get l=A (.row I esz els))\/(∃es,H.get l=A (.map es))\/∃t esz els,H.get l=A (.dZ t esz els)
def ae.live(H:ae)(l:Nat):Prop:=(∃ro esz els,H.get l=A (.row ro esz els))\/(∃es,H.get l=A (.map es))\/∃t esz els,H.get l=A (.dZ t esz els)
theorem ae.rw.live{H:ae}{l:Nat}(h:H.rw l):H.live l:=by
 rcases h with⟨e,s,h⟩|h
 ·exact .inl ⟨_,e,s,h⟩
 ·exact .inr h
def bz.qN:bz->Bool
 | .old _ _ _=>J
 |_=>I
def bz.uM:bz->Bool
 | .row J _ _=>J
 |_=>I
def ae.F9{H:ae}{l:Nat}{b:bz}(a:b.uM=I):∀k esz els,(H.set l b).get k=A (.row J esz els)->H.get k=A (.row J esz els):=by
 intro k esz els h;by_cases c:l=k
 ·subst c;have d:l<H.next:=by have:=ae.bq h;simpa using this
  rw[ae.cH d]at h;simp only[bD]at h;subst h;cases a
 grind[ae.b8]
def ae.F8{H:ae}{b:bz}(a:b.uM=I):∀k esz els,(H.push b).get k=A (.row J esz els)->H.get k=A (.row J esz els):=by
 intro k esz els h;by_cases c:k=H.next
 ·subst c;rw[ae.a2]at h;simp only[bD]at h;subst h;cases a
 grind[ae.eW]
def gJ.frame{ρ b:Env}{w a:World}{loc:Loc}{ro:Bool}{esz:Nat}{els:List (List af)}(h:gJ ρ w loc ro esz els)(hle:ρ.le b)(n:a.heap[loc.block]? =w.heap[loc.block]?):gJ b a loc ro esz els:=by
 obtain⟨g,c,t,e,p,k,ar⟩:=h;refine⟨g,c,t,e,al,k,?_⟩;intro i d f;obtain⟨ah,ai⟩:=ar i d f;refine⟨ah,λj v l=> ?_⟩;obtain⟨ax,x,aE,m⟩:=ai j v l;exact⟨ax,x,aE,m.mono hle⟩
def gJ.lt{ρ:Env}{w:World}{loc:Loc}{ro:Bool}{esz:Nat}{els:List (List af)}(h:gJ ρ w loc ro esz els):loc.block<w.heap.size:=by
 obtain⟨_,c,t,a,p,_⟩:=h;grind
def oP(ρ:Env)(O:Nat->Prop)(w:World)(l s esz:Nat)(els:List (List af)):Prop:=∃loc,ρ l=A loc/\loc.block<w.heap.size/\(ρ s=A loc\/(gJ ρ w loc J esz els/\¬O loc.block))
def oP.step{ρ d:Env}{O c:Nat->Prop}{w a:World}{l s esz:Nat}{els:List (List af)}(h:oP ρ O w l s esz els)(hle:ρ.le d)(f:w.heap.size<=a.heap.size)(aC:∀b,b<w.heap.size->¬O b->a.heap[b]? =w.heap[b]?)(aZ:∀b,c b->O b\/w.heap.size<=b):oP d c a l s esz els:=by
 obtain⟨loc,ah,e,ai⟩:=h;refine⟨loc,hle _ _ ah,ad,ai.imp (hle _ _) λax=>⟨ax.1.frame hle (aC _ ax.1.lt ax.2),λaM=> ?_⟩⟩;grind
def eX(ρ:Env)(H:ae)(b:Nat):Prop:=∃l loc,H.rw l/\ρ l=A loc/\loc.block=b
structure Rel(ρ:Env)(H:ae)(w:World):Prop where
 row:∀l ro esz els,H.get l=some (.row ro esz els)->∃loc,ρ l=some loc/\gJ ρ w loc ro esz els
 map:∀l es,H.get l=some (.map es)->∃loc,ρ l=some loc/\DB ρ w loc es
 dZ:∀l t esz els,H.get l=some (.dZ t esz els)->∃loc,ρ l=some loc/\oR ρ w loc t esz els
 apart:∀l a loc b,H.rw l->H.live a->l≠a->ρ l=some loc->ρ a=some b->loc.block≠b.block
 old:∀l s esz els,H.get l=some (.old s esz els)->oP ρ (eX ρ H) w l s esz els
def yw(ρ:Env)(H:ae)(w:World)(a:Env)(H':ae):Prop:=∀k s esz els,H'.get k=A (.old s esz els)->(∃s esz els,H.get k=A (.old s esz els))\/∃loc,a k=A loc/\(eX ρ H loc.block\/w.heap.size<=loc.block)
def yw.same{ρ a:Env}{H H':ae}{w:World}(h:∀k s esz els,H'.get k=A (.old s esz els)->H.get k=A (.old s esz els)):yw ρ H w a H':=λk s esz els e=>al
def ae.zV{H:ae}{l:Nat}{b:bz}(a:b.qN=I):∀k s esz els,(H.set l b).get k=A (.old s esz els)->H.get k=A (.old s esz els):=by
 intro k s esz els h;by_cases c:l=k
 ·subst c;have d:l<H.next:=by have:=ae.bq h;simpa using this
  rw[ae.cH d]at h;simp only[bD]at h;subst h;cases a
 grind[ae.b8]
theorem ae.qZ{H:ae}{b:bz}(a:b.qN=I):∀k s esz els,(H.push b).get k=A (.old s esz els)->H.get k=A (.old s esz els):=by
 intro k s esz els h;by_cases c:k=H.next
 ·subst c;rw[ae.a2]at h;simp only[bD]at h;subst h;cases a
 grind[ae.eW]
structure Step(ρ:Env)(H:ae)(w:World)(c:Env)(H':ae)(a:World):Prop where
 le:ρ.le c
 next:H.next<=H'.next
 keep:∀l,l<H.next\/H'.next<=l->c l=ρ l
 rel:Rel c H' a
 os:a.os=w.os
 tape:a.tape=w.tape
 output:a.output=w.output
 size:w.heap.size<=a.heap.size
 frame:∀b,b<w.heap.size->¬eX ρ H b->a.heap[b]? =w.heap[b]?
 own:∀b,eX c H' b->eX ρ H b\/w.heap.size<=b
 ro:∀l esz els,H'.get l=some (.row true esz els)->H.get l=some (.row true esz els)
 olds:yw ρ H w c H'
theorem Step.refl{ρ:Env}{H:ae}{w:World}(h:Rel ρ H w):Step ρ H w ρ H w:=
 ⟨ρ.le_refl,ad,λ_ _=>rfl,h,rfl,rfl,rfl,ad,λ_ _ _=>rfl,λ_ h=> .inl h,λ_ _ _ h=>h,.same λ_ _ _ _ h=>h⟩
theorem Step.trans{ρ n o:Env}{H g i:ae}{w j m:World}(h:Step ρ H w n g j)(k:Step n g j o i m):Step ρ H w o i m where
 le:=Env.le_trans h.le k.le
 next:=Nat.le_trans h.next k.next
 keep:=λl aw=>(k.keep l (aw.imp (λx=>Nat.lt_of_lt_of_le x h.next) id)).trans (h.keep l (aw.imp id (λx=>Nat.le_trans k.next x)))
 ro:=λl esz els e=>h.ro l esz els (k.ro l esz els e)
 olds:=λl s esz els e=>by
  rcases k.olds l s esz els e with⟨r,q,p,d⟩|⟨loc,d,f⟩
  ·exact(h.olds l r q p d).imp id λ⟨loc,f,a⟩=>⟨loc,k.le _ _ f,a⟩
  ·exact .inr ⟨loc,d,f.elim (λa=>h.own _ a) λa=> .inr (Nat.le_trans h.size a)⟩
 rel:=k.rel
 os:=k.os.trans h.os
 tape:=k.tape.trans h.tape
 output:=k.output.trans h.output
 size:=Nat.le_trans h.size k.size
 frame:=λb c aL=>by
  rw[k.frame b (Nat.lt_of_lt_of_le c h.size) (λaZ=>(h.own b aZ).elim aL ad),h.frame b c aL]
 own:=λb c=>(k.own b c).elim (λaZ=>h.own b aZ) (λhle=> .inr (Nat.le_trans h.size hle))
def I5(ρ:Env)(n m:Nat):Prop:=∀l,n<=l->l<m->ρ l=Z
structure jB(E ρ:Env)(n m:Nat):Prop where
 new:I5 ρ n m
 le:E.le ρ
def jB.left{E ρ:Env}{n m k:Nat}(h:jB E ρ n k)(hm:m<=k):jB E ρ n m:=⟨λl a b=>h.new l a ad,h.le⟩
def jB.after{E ρ d:Env}{H c:ae}{w e:World}{k:Nat}(h:jB E ρ H.next k)(s:Step ρ H w d c e):jB E d c.next k:=⟨λl a b=>by
 rw[s.keep l (.inr a)];exact h.new l (Nat.le_trans s.next a) b,Env.le_trans h.le s.le⟩
def Rel.drew{ρ:Env}{H:ae}{w:World}(h:Rel ρ H w):Rel ρ H w.drew:=⟨h.row,h.map,h.dZ,h.apart,h.old⟩
end
def eo(P:Program)(t:TypeId):Option Bool:=
 match P.underlying t with
 |some (.struct _)|some (.array _ _)=>A J
 |some _=>A I
 |none=>Z
def cE(P:Program)(t:TypeId):Option Nat:=(P.info? t).map (·.size)
def Al{P:Program}{t:TypeId}{b:Bool}(h:eo P t=A b)(w:World):(isAgg t).run P w= .ok b w:=by
 unfold eo at h;unfold isAgg;cases hu:P.underlying t with
 |none=>grind
 |some d=>
  simp only[Sem.run_bind,run_underlying hu,Result.andThen_ok];cases d<;>simp_all
def run_sizeOf{P:Program}{t:TypeId}{n:Nat}(h:cE P t=A n)(w:World):(sizeOf t).run P w= .ok n w:=by
 unfold cE at h;cases aP:P.info? t with
 |none=>grind
 |some i=>rw[aP]at h;simp at h;simp[sizeOf,typeInfo,aP,h]
def apart(P:Program)(t:TypeId)(cs:List af)(off:Nat):Option af:=
 match eo P t with
 |some J=>(match cE P t with|some n=>A (.agg ((cs.drop off).take n))|none=>Z)
 |some I=>cs[off]?
 |none=>Z
def bU.drop{ρ:Env}:∀{ak:List af} {xs:List Value} (n:Nat),bU ρ ak xs->bU ρ (ak.drop n) (xs.drop n)
 |_,_,0,h=>al
 |[],_,n+1,h=>by cases h;simpa using bU.nil
 |_::_,_,n+1,h=>by cases h with|cons _ _ _ _ a ft=>simpa using bU.drop n ft
def bU.take{ρ:Env}:∀{ak:List af} {xs:List Value} (n:Nat),bU ρ ak xs->bU ρ (ak.take n) (xs.take n)
 |_,_,0,h=>by simpa using bU.nil
 |[],_,n+1,h=>by cases h;simpa using bU.nil
 |_::_,_,n+1,h=>by cases h with|cons _ _ _ _ a ft=>simpa using bU.cons _ _ _ _ a (bU.take n ft)
def oV{P:Program}{t:TypeId}{cs:List af}{off:Nat}{v:af}{ρ:Env}{xs:List Value}(h:apart P t cs off=A v)(b:bU ρ cs xs)(w:World):
  ∃x,(part t xs.toArray off).run P w= .ok x w/\bA ρ v x:=by
 unfold apart at h;split at h
 ·rename_i a;split at h
  ·rename_i n aL;simp at h;subst h;refine⟨.agg (((xs.drop off).take n).toArray),?_,.agg _ _ ((b.drop off).take n)⟩;unfold part;simp only[Sem.run_bind,Al a,Result.andThen_ok,if_true,run_sizeOf aL];simp[List.extract_toArray,List.extract_eq_take_drop]
  grind
 ·rename_i a;obtain⟨x,aE,c⟩:=b.get off v h;refine⟨x,?_,c⟩;unfold part;simp[Al a,aE]
 grind
def lL(op:BinOp)(k:IntKind)(a b:Int):Option af:=
 match op with
 | .add=>A (.int k (k.wrap (a+b)))
 | .sub=>A (.int k (k.wrap (a-b)))
 | .mul=>A (.int k (k.wrap (a*b)))
 | .quo=>if b=0 then Z else A (.int k (k.wrap (a.tdiv b)))
 | .rem=>if b=0 then Z else A (.int k (a.tmod b))
 | .and=>A (.int k (k.wrap ((BitVec.ofInt k.bits a&&&BitVec.ofInt k.bits b).toNat:Int)))
 | .or=>A (.int k (k.wrap ((BitVec.ofInt k.bits a|||BitVec.ofInt k.bits b).toNat:Int)))
 | .xor=>A (.int k (k.wrap ((BitVec.ofInt k.bits a^^^BitVec.ofInt k.bits b).toNat:Int)))
 | .andNot=>A (.int k (k.wrap ((BitVec.ofInt k.bits a&&& ~~~BitVec.ofInt k.bits b).toNat:Int)))
 | .eql=>A (.bool (a==b))
 | .neq=>A (.bool (a != b))
 | .lss=>A (.bool (decide (a<b)))
 | .leq=>A (.bool (decide (a<=b)))
 | .gtr=>A (.bool (decide (b<a)))
 | .geq=>A (.bool (decide (b<=a)))
 | .shl| .shr=>Z
def sG(op:BinOp)(k:IntKind)(a b:Int):Option af:=
 if b<0 then Z else
 match op with
 | .shl=>A (.int k (k.wrap (a*2^(min b.toNat k.bits))))
 | .shr=>A (.int k (a.fdiv (2^(min b.toNat k.bits))))
 |_=>Z
def De(op:BinOp)(a b:List UInt8):Option af:=
 match op with
 | .add=>if a.length+b.length<=9223372036854775807 then A (.str (a++b))else Z
 | .eql=>A (.bool (a==b))
 | .neq=>A (.bool (!(a==b)))
 | .lss=>A (.bool (Op.bytesLess a b))
 | .leq=>A (.bool (Op.bytesLess a b||a==b))
 | .gtr=>A (.bool (!(Op.bytesLess a b||a==b)))
 | .geq=>A (.bool (!Op.bytesLess a b))
 |_=>Z
def sa(P:Program)(eq:TypeId->af->af->Option Bool):List Field->List af->List af->Option Bool
 |[],_,_=>A J
 |f::fs,xs,c=>
  if f.name≠ "_" then
   match apart P f.type xs f.offset,apart P f.type c f.offset with
   |some a,A b=>(match eq f.type a b with|some J=>sa P eq fs xs c|some I=>A I|none=>Z)
   |_,_=>Z
  else sa P eq fs xs c
def uj(P:Program)(eq:TypeId->af->af->Option Bool)(e:TypeId)(n:Nat):Nat->Nat->List af->List af->Option Bool
 |0,_,_,_=>A J
 |k+1,i,xs,c=>
  match apart P e xs (i*n),apart P e c (i*n)with
  |some a,A b=>(match eq e a b with|some J=>uj P eq e n k (i+1) xs c|some I=>A I|none=>Z)
  |_,_=>Z
def jg(P:Program):Nat->TypeId->af->af->Option Bool
 |0,_,_,_=>Z
 |d+1,t,x,y=>
  match P.underlying t,x,y with
  |some .bool,.bool a,.bool b=>A (a==b)
  |some (.int _),.int k a,.int f b=>if k=f then A (a==b)else Z
  |some .string,.str a,.str b=>A (a==b)
  |some (.pointer _),.ho,.ho=>A J
  |some (.pointer _),.ho,.ptr .. =>A I
  |some (.pointer _),.ptr ..,.ho=>A I
  |some (.interface _),.nilIface,.nilIface=>A J
  |some (.interface _),.nilIface,.iface .. =>A I
  |some (.interface _),.iface ..,.nilIface=>A I
  |some (.struct fs),.agg xs,.agg c=>if P.stoodInHeld t then Z else sa P (jg P d) fs.toList xs c
  |some (.array len e),.agg xs,.agg c=>(match cE P e with|some n=>uj P (jg P d) e n len 0 xs c|none=>Z)
  |some (.slice _),.ao,.ao=>A J
  |some (.slice _),.ao,.az .. =>A I
  |some (.slice _),.az ..,.ao=>A I
  |some (.map _ _),.js,.js=>A J
  |some (.map _ _),.js,.map _=>A I
  |some (.map _ _),.map _,.js=>A I
  |some (.func _ _ _),.nilFunc,.nilFunc=>A J
  |some (.func _ _ _),.nilFunc,.func .. =>A I
  |some (.func _ _ _),.func ..,.nilFunc=>A I
  |_,_,_=>Z
def isConst:Operand->Bool
 | .const _=>J
 |_=>I
def qE(P:Program)(t:TypeId)(x y:Operand)(a b:af):Bool:=
 match a,b with
 | .nilIface,.nilIface=>isConst x||isConst y
 | .agg _,.agg _=> !P.eqGuardType P.depth t
 |_,_=>J
def ug(P:Program)(op:BinOp)(t:TypeId)(c d:Operand)(x y:af):Option af:=
 match x,y with
 | .int k a,.int e b=>
  (match op with
  | .shl=>sG .shl k a b
  | .shr=>sG .shr k a b
  |op=>if k=e then lL op k a b else Z)
 | .str a,.str b=>De op a b
 |x,y=>
  (match op with
  | .eql=>if qE P t c d x y then(jg P 10000 t x y).map .bool else Z
  | .neq=>if qE P t c d x y then(jg P 10000 t x y).map λb=> .bool (!b)else Z
  |_=>Z)
def jL(op:UnOp)(x:af):Option af:=
 match op,x with
 | .neg,.int k n=>A (.int k (k.wrap (0-n)))
 | .not,.bool b=>A (.bool (!b))
 |_,_=>Z
end Go.cw
namespace Go
def Operand.zl:Operand->Bool
 | .const _=>J
 |_=>I
end Go
namespace Go.cw
section
variable {P:Program}{ρ:Env}
theorem Gb(w:World)(eq:TypeId->af->af->Option Bool)(d:TypeId->Value->Value->Sem Bool)
  (heq:∀t a b x y c,eq t a b=A c->bA ρ a x->bA ρ b y->(d t x y).run P w= .ok c w) {xs m:List af} {l n:List Value} (aE:bU ρ xs l) (e:bU ρ m n):
  ∀(fs:List Field) (b:Bool),sa P eq fs xs m=A b->
   (forIn fs ((Z:Option Bool),()) (λf _=>
    (if f.name≠ "_" then do
     let a<-part f.type l.toArray f.offset
     let b<-part f.type n.toArray f.offset
     let c<-d f.type a b
     if(!c)=J then pure (ForInStep.done (A I,()))else pure (ForInStep.yield (Z,()))
    else pure (ForInStep.yield (Z,())):Sem (ForInStep (Option Bool×Unit))))).run P w= .ok (if b then(Z,())else(A I,())) w
 |[],b,h=>by
  grind[sa,Sem.run_pure]
 |f::fs,b,h=>by
  unfold sa at h;rw[List.forIn_cons];by_cases aL:f.name≠ "_"
  ·rw[if_pos aL]at h;split at h
   ·rename_i a b' o p;obtain⟨x,j,g⟩:=oV o aE w;obtain⟨y,k,i⟩:=oV p e w;split at h
    ·rename_i he;have ar:=heq _ _ _ _ _ _ he g i;have q:=Gb w eq d heq aE e fs b h;simp only[if_pos aL,Sem.run_bind,j,k,ar,Result.andThen_ok,Bool.not_true,Bool.false_eq_true,if_false,Sem.run_pure];omega
    ·rename_i he;have ar:=heq _ _ _ _ _ _ he g i;simp at h;subst h;simp only[if_pos aL,Sem.run_bind,j,k,ar,Result.andThen_ok,Bool.not_false,if_true,Sem.run_pure];rfl
    grind
   grind
  ·rw[if_neg aL]at h;have q:=Gb w eq d heq aE e fs b h;grind
theorem Qa(w:World)(e:TypeId)(n:Nat)(eq:TypeId->af->af->Option Bool)(d:TypeId->Value->Value->Sem Bool)
  (heq:∀t a b x y c,eq t a b=A c->bA ρ a x->bA ρ b y->(d t x y).run P w= .ok c w) {xs p:List af} {o q:List Value} (aE:bU ρ xs o) (l:bU ρ p q):
  ∀(k i:Nat) (b:Bool),uj P eq e n k i xs p=A b->
   (forIn (List.range' i k) ((Z:Option Bool),()) (λi _=>
    (do
     let a<-part e o.toArray (i*n)
     let b<-part e q.toArray (i*n)
     let c<-d e a b
     if(!c)=J then pure (ForInStep.done (A I,()))else pure (ForInStep.yield (Z,())):Sem (ForInStep (Option Bool×Unit))))).run P w= .ok (if b then(Z,())else(A I,())) w
 |0,i,b,h=>by
  grind[uj,Sem.run_pure]
 |k+1,i,b,h=>by
  unfold uj at h;rw[List.range'_succ,List.forIn_cons];split at h
  ·rename_i a b' r s;obtain⟨x,j,f⟩:=oV r aE w;obtain⟨y,m,g⟩:=oV s l w;split at h
   ·rename_i he;have ar:=heq _ _ _ _ _ _ he f g;have u:=Qa w e n eq d heq aE l k (i+1) b h;simp only[Sem.run_bind,j,m,ar,Result.andThen_ok,Bool.not_true,Bool.false_eq_true,if_false,Sem.run_pure];omega
   ·rename_i he;have ar:=heq _ _ _ _ _ _ he f g;simp at h;subst h;simp only[Sem.run_bind,j,m,ar,Result.andThen_ok,Bool.not_false,if_true,Sem.run_pure];rfl
   grind
  grind
theorem IA(a b:List UInt8):((⟨a.toArray⟩:ByteArray)==⟨b.toArray⟩)=(a==b):=by
 have:((⟨a.toArray⟩:ByteArray)==⟨b.toArray⟩)=(a.toArray==b.toArray):=rfl;grind
theorem uD(w:World):∀(d:Nat) (t:TypeId) (x y:af) (c e:Value) (b:Bool),jg P d t x y=A b->bA ρ x c->bA ρ y e->
  (Op.equalIn d t c e).run P w= .ok b w
 |0,t,x,y,c,e,b,h,_,_=>by cases h
 |d+1,t,x,y,c,e,b,h,aE,a=>by
  have m:=uD w d;unfold jg at h;unfold Op.equalIn;cases hu:P.underlying t with
  |none=>grind
  |some u=>
   rw[hu]at h;simp only[Sem.run_bind,run_underlying hu,Result.andThen_ok];split at h<;>(try (cases h;done))<;>(try simp only[bD]at*)<;>(try subst_vars)<;>(try (cases aE;cases a;simp;done))
   ·cases aE;cases a;split at h
    ·rename_i f;subst f;simp at h;subst h;simp
    grind
   ·cases aE;cases a;simp[IA]
   ·cases aE with|agg _ j aE=>cases a with|agg _ k a=>
    split at h
    ·cases h
    ·rename_i l;have g:P.stoodInHeld t=false:=al;have:=Gb w (jg P d) (Op.equalIn d) ad aE a _ b h;simp only[Sem.run_bind,run_program,Result.andThen_ok,g,Bool.false_eq_true,if_false];rw[<-Array.forIn_toList,this];cases b<;>simp
   ·cases aE with|agg _ j aE=>cases a with|agg _ k a=>
    split at h
    ·rename_i i aL;have:=Qa w _ i (jg P d) (Op.equalIn d) ad aE a _ _ b h;simp only[Sem.run_bind,run_sizeOf aL,Result.andThen_ok];rw[Std.Legacy.Range.forIn_eq_forIn_range'];simp only[Std.Legacy.Range.size,Nat.sub_zero,Nat.add_sub_cancel,Nat.div_one]at this ⊢;rw[this];cases b<;>simp
    grind
theorem ZL{op:BinOp}{k:IntKind}{a b:Int}{v:af}(h:lL op k a b=A v)(t:TypeId)(w:World):
  ∃r,(binOp op t (.int k a) (.int k b)).run P w= .ok r w/\bA ρ v r:=by
 unfold lL at h;cases op<;>simp only at h<;>(try (cases h;done))<;>(try (simp only[bD]at h;subst h))<;>
  (try (exact⟨_,by simp only[binOp,ne_eq,not_true_eq_false,if_false,Op.intArith,Op.intBits,Op.intCmp];exact Sem.run_pure ..,by first|exact .int _ _|exact .bool _⟩))
 ·split at h
  ·cases h
  ·rename_i c;simp only[bD]at h;subst h;exact⟨_,by grind[binOp,Op.intDiv,Sem.run_pure],.int _ _⟩
 ·split at h
  ·cases h
  ·rename_i c;simp only[bD]at h;subst h;exact⟨_,by grind[binOp,Op.intDiv,Sem.run_pure],.int _ _⟩
theorem Mr{op:BinOp}{k c:IntKind}{a b:Int}{v:af}(h:sG op k a b=A v)(t:TypeId)(w:World):
  ∃r,(binOp op t (.int k a) (.int c b)).run P w= .ok r w/\bA ρ v r:=by
 unfold sG at h;split at h
 ·cases h
 ·rename_i d;cases op<;>simp only at h<;>(try (cases h;done))<;>simp only[bD]at h<;>subst h
  ·exact⟨_,by grind[binOp,Op.shift,Sem.run_pure],.int _ _⟩
  ·exact⟨_,by grind[binOp,Op.shift,Sem.run_pure],.int _ _⟩
def toList_mk(a:List UInt8):(⟨a.toArray⟩:ByteArray).toList=a:=by rw[ByteArray.toList_eq]
def abF(a b:List UInt8):(⟨a.toArray⟩++⟨b.toArray⟩:ByteArray)=⟨(a++b).toArray⟩:=by
 apply ByteArray.ext;simp
theorem aia{op:BinOp}{a b:List UInt8}{v:af}(h:De op a b=A v)(t:TypeId)(w:World):
  ∃r,(binOp op t (.string ⟨a.toArray⟩) (.string ⟨b.toArray⟩)).run P w= .ok r w/\bA ρ v r:=by
 unfold De at h;unfold binOp;cases op<;>simp only at h<;>(try (cases h;done))<;>(try (simp only[bD]at h;subst h))<;>
  (try (exact⟨_,by simp only[Op.stringOp,toList_mk];exact Sem.run_pure ..,.bool _⟩))
 split at h
 ·rename_i aw;simp only[bD]at h;subst h;refine⟨.string ⟨(a++b).toArray⟩,?_,.str _⟩;simp only[Op.stringOp];rw[if_neg,abF]
  ·exact Sem.run_pure ..
  ·have e:IntKind.i64.max=9223372036854775807:=rfl;have c:(⟨a.toArray⟩:ByteArray).size=a.length:=by show a.toArray.size=_;simp
   have d:(⟨b.toArray⟩:ByteArray).size=b.length:=by show b.toArray.size=_;simp
   omega
 grind
def Er{op:BinOp}{t:TypeId}{a b:Operand}{x y:af}{d e:Value}(h:qE P t a b x y=J)(aE:bA ρ x d)(c:bA ρ y e)(w:World):
  (eqGuard op t a b d e).run P w= .ok () w:=by
 have aL:a.zl||b.zl=J->(eqGuard op t a b .nilIface .nilIface).run P w= .ok () w:=by
  intro h;cases op<;>first
   |rfl
   |(cases a<;>cases b<;>first|rfl|(simp[Operand.zl]at h;done))
 cases aE with
 |nilIface=>
  cases c with
  |nilIface=>
   refine aL ?_;simp only[qE]at h;cases a<;>cases b<;>simp_all[isConst,Operand.zl]
  |_=>cases op<;>rfl
 |agg cs xs aA=>
  cases c with
  |agg f i g=>
   simp only[qE,Bool.not_eq_true']at h;cases op<;>first|rfl|simp[eqGuard,h]
  |_=>cases op<;>rfl
 |_=>cases c<;>cases op<;>rfl
theorem binOp_eql{x y:af}{c d:Value}(aE:bA ρ x c)(e:bA ρ y d)(aP:∀k a f b,x= .int k a->y= .int f b->False)(g:∀a b,x= .str a->y= .str b->False)(t:TypeId):
  binOp .eql t c d=(do pure (.bool (<-Op.equal t c d)))/\binOp .neq t c d=(do pure (.bool (!(<-Op.equal t c d)))):=by
 cases aE<;>cases e<;>first
  |exact⟨rfl,rfl⟩
  |exact(aP _ _ _ _ rfl rfl).elim
  |grind
theorem To{op:BinOp}{t:TypeId}{g i:Operand}{x y v:af}{d e:Value}(h:ug P op t g i x y=A v)(aE:bA ρ x d)(c:bA ρ y e)(w:World):
  ∃r,((do eqGuard op t g i d e;binOp op t d e:Sem Value)).run P w= .ok r w/\bA ρ v r:=by
 have n:∀k a f b,(eqGuard op t g i (.int k a) (.int f b)).run P w= .ok () w:=λk a f b=>Er (ρ:=ρ) (x:= .int k a) (y:= .int f b) rfl (.int _ _) (.int _ _) w
 have o:∀a b,(eqGuard op t g i (.string ⟨a⟩) (.string ⟨b⟩)).run P w= .ok () w:=λa b=>by
  unfold eqGuard;split<;>rfl
 unfold ug at h;split at h
 ·cases aE;cases c;rename_i k a f b;simp only[Sem.run_bind,n,Result.andThen_ok];split at h
  ·exact Mr h t w
  ·exact Mr h t w
  ·split at h
   ·rename_i p;subst p;exact ZL h t w
   grind
 ·cases aE;cases c;simp only[Sem.run_bind,o,Result.andThen_ok];exact aia h t w
 ·rename_i q s;obtain⟨l,m⟩:=binOp_eql aE c ad ad t;split at h
  ·split at h
   ·rename_i aC;rw[Sem.run_bind,Er aC aE c w,Result.andThen_ok];simp only[Option.map_eq_some_iff]at h;obtain⟨b,j,rfl⟩:=h;have he:(Op.equal t d e).run P w= .ok b w:=uD (ρ:=ρ) w _ _ _ _ _ _ _ j aE c;exact⟨.bool b,by rw[l,Sem.run_bind,he];rfl,.bool b⟩
   grind
  ·split at h
   ·rename_i aC;rw[Sem.run_bind,Er aC aE c w,Result.andThen_ok];simp only[Option.map_eq_some_iff]at h;obtain⟨b,j,rfl⟩:=h;have he:(Op.equal t d e).run P w= .ok b w:=uD (ρ:=ρ) w _ _ _ _ _ _ _ j aE c;exact⟨.bool (!b),by rw[m,Sem.run_bind,he];rfl,.bool _⟩
   grind
  grind
theorem Us{op:UnOp}{x v:af}{a:Value}(h:jL op x=A v)(aE:bA ρ x a)(w:World):∃r,(Op.unary op a).run P w= .ok r w/\bA ρ v r:=by
 unfold jL at h;split at h
 ·cases aE;simp only[bD]at h;subst h;exact⟨_,by grind[Op.unary,Op.intArith,Sem.run_pure],.int _ _⟩
 ·cases aE;simp only[bD]at h;subst h;exact⟨_,by grind[Op.unary,Sem.run_pure],.bool _⟩
 grind
end
section
variable {P:Program}{ρ:Env}{H:ae}{w:World}
def j0(c:Array Value)(o:Nat):List Value->Array Value
 |[]=>c
 |v::r=>j0 (c.setIfInBounds o v) (o+1) r
theorem vc:∀(ak:List Value) (c:Array Value) (o:Nat),(j0 c o ak).size=c.size
 |[],_,_=>rfl
 |v::r,c,o=>by rw[j0,vc r];simp
theorem sU:∀(ak:List Value) (c:Array Value) (o k:Nat),k<o\/o+ak.length<=k->(j0 c o ak)[k]? =c[k]?
 |[],_,_,_,_=>rfl
 |v::r,c,o,k,h=>by
  rw[j0,sU r _ _ _ al];grind
theorem z_:∀(ak:List Value) (c:Array Value) (o j:Nat) (x:Value),ak[j]? =A x->o+j<c.size->(j0 c o ak)[o+j]? =A x
 |[],_,_,_,_,h,_=>al
 |v::r,c,o,0,x,h,aw=>by
  grind[j0,sU]
 |v::r,c,o,j+1,x,h,aw=>by
  rw[j0,show o+(j+1)=o+1+j by omega];exact z_ r _ _ _ _ al al
theorem yc(b:Nat):∀(ak:List Value) (o:Nat) (w:World) (c:Array Value) (t:TypeId) (a:Nat×Nat),w.heap[b]? =A (.cells c t a)->
  (w.setCells b o ak).heap[b]? =A (.cells (j0 c o ak) t a)
 |[],_,_,_,_,_,h=>h
 |v::r,o,w,c,t,a,h=>by
  rw[World.setCells,j0];refine yc b r (o+1) _ _ t a ?_;grind[World.setCell]
theorem nH(b:Nat):∀(ak:List Value) (o:Nat) (w:World) (k:Nat),k≠b->(w.setCells b o ak).heap[k]? =w.heap[k]?
 |[],_,_,_,_=>rfl
 |v::r,o,w,k,h=>by
  rw[World.setCells,nH b r _ _ _ h];grind[World.setCell]
theorem C7(b:Nat):∀(ak:List Value) (o:Nat) (w:World),(w.setCells b o ak).heap.size=w.heap.size/\(w.setCells b o ak).os=w.os/\(w.setCells b o ak).tape=w.tape/\(w.setCells b o ak).output=w.output
 |[],_,_=>⟨rfl,rfl,rfl,rfl⟩
 |v::r,o,w=>by
  rw[World.setCells];obtain⟨a,b,c,d⟩:=C7 b r (o+1) (w.setCell ⟨b,o,Z⟩ v);grind[World.setCell]
theorem gJ.cell{loc:Loc}{ro:Bool}{esz:Nat}{els:List (List af)}(h:gJ ρ w loc ro esz els){i:Nat}{e:List af}(he:els[i]? =A e){j:Nat}{v:af}(d:e[j]? =A v):
  ∃x,w.cell? ⟨loc.block,loc.off+i*loc.esz+j,Z⟩=A x/\bA ρ v x/\v.one=true:=by
 obtain⟨rfl,c,t,a,b,_,ar⟩:=h;grind[World.cell?]
def q1:List (List af)->List (List af)->Bool
 |[],[]=>J
 |x::xs,y::a=>e6.beq x y&&q1 xs a
 |_,_=>I
theorem PZ:∀{a b:List (List af)},q1 a b=J->a=b
 |[],[],_=>rfl
 |[],_::_,h=>by simp[q1]at h
 |_::_,[],h=>by simp[q1]at h
 |x::xs,y::c,h=>by
  simp only[q1,Bool.and_eq_true]at h;rw[e6.beq_eq h.1,PZ h.2]
def y8(H:ae):Nat->Nat->Option (Nat×List (List af))
 |0,_=>Z
 |f+1,l=>match H.get l with
  |some (.row _ esz els)=>A (esz,els)
  |some (.old s esz els)=>(match y8 H f s with
   |some (a,es)=>bif Nat.beq a esz&&q1 (es.take els.length) els then A (esz,els)else Z
   |none=>Z)
  |_=>Z
theorem La(d:Rel ρ H w):∀{f l:Nat} {esz:Nat} {els:List (List af)},y8 H f l=A (esz,els)->∃loc,ρ l=A loc/\gJ ρ w loc J esz els
 |0,_,_,_,h=>by cases h
 |f+1,l,esz,els,h=>by
  rw[y8]at h;split at h
  ·rename_i ro j a aS;cases h;obtain⟨loc,ah,ai,c,t,b,ax,aM,m⟩:=d.row _ _ _ _ aS;exact⟨loc,ah,ai,c,t,b,ax,al,m⟩
  ·rename_i s j a aS;split at h
   ·rename_i k es he;cases g:(Nat.beq k j&&q1 (es.take a.length) a)with
    |false=>grind
    |true=>
     rw[g]at h;cases h;simp only[Bool.and_eq_true]at g;obtain⟨loc,ah,-,ai⟩:=d.old _ _ _ _ aS;refine⟨loc,ah,?_⟩;rcases ai with ai|ai
     ·obtain⟨p,bV,b9,c,t,b,n,o,q⟩:=La d he;obtain rfl:loc=p:=al;refine⟨b9.trans (Nat.eq_of_beq_eq_true g.1),c,t,b,n,o,λi e aP=> ?_⟩;grind[PZ,Nat.eq_of_beq_eq_true]
     grind
   grind
  grind
def aI(P:Program)(H:ae)(t:TypeId)(a:af):Option af:=
 match a with
 | .ptr l i c=>
  (match H.get l with
  |some (.row _ esz els)=>
   (match els[i]?,eo P t with
   |some e,A I=>e[c]?
   |some e,A J=>(match cE P t with|some n=>if c+n<=esz then A (.agg ((e.drop c).take n))else Z|none=>Z)
   |_,_=>Z)
  |some (.dZ _ esz els)=>
   (match els[i]?,eo P t with
   |some e,A I=>e[c]?
   |some e,A J=>(match cE P t with|some n=>if c+n<=esz then A (.agg ((e.drop c).take n))else Z|none=>Z)
   |_,_=>Z)
  |some (.old _ _ _)=>
   (match y8 H 1000 l with
   |some (esz,els)=>
    (match els[i]?,eo P t with
    |some e,A I=>e[c]?
    |some e,A J=>(match cE P t with|some n=>if c+n<=esz then A (.agg ((e.drop c).take n))else Z|none=>Z)
    |_,_=>Z)
   |none=>Z)
  |_=>Z)
 |_=>Z
theorem na(b o j:Nat):(⟨b,o,Z⟩:Addr).add j=⟨b,o+j,Z⟩:=by
 grind[Addr.add]
theorem DN{loc:Loc}{l i c:Nat}{ro:Bool}{esz:Nat}{els:List (List af)}(aw:ρ l=A loc)(b:gJ ρ w loc ro esz els){t:TypeId}{v:af}
 (h:(match els[i]?,eo P t with
  |some e,A I=>e[c]?
  |some e,A J=>(match cE P t with|some n=>if c+n<=esz then A (.agg ((e.drop c).take n))else Z|none=>Z)
  |_,_=>Z)=A v):
 ∃r,(Instr.loadAt t (.pointer (A ⟨loc.block,loc.off+i*loc.esz+c,Z⟩))).run P w= .ok r w/\bA ρ v r:=by
  split at h
  ·rename_i e he a;obtain⟨x,aA,d,_⟩:=b.cell he h;refine⟨x,?_,d⟩;simp[Instr.loadAt,Instr.sureAddr,loadVar,Al a,run_load,aA]
  ·rename_i e he a;split at h
   ·rename_i n aL;split at h
    ·rename_i hle;simp only[bD]at h;subst h;have hlen:e.length=esz:=by obtain⟨_,k,p,m,_,_,ar⟩:=b;grind
     have hex:∃xs:List Value,xs.length=n/\bU ρ ((e.drop c).take n) xs/\∀j y,xs[j]? =A y->w.cell? ⟨loc.block,loc.off+i*loc.esz+c+j,Z⟩=A y:=by
      clear a aL
      induction n with
      |zero=>exact⟨[],rfl,by simpa using bU.nil,λj y f=>al⟩
      |succ n g=>
       obtain⟨xs,ah,ai,ax⟩:=g ad;have o:c+n<e.length:=ad;obtain⟨x,aA,d,_⟩:=b.cell he (j:=c+n) (v:=e[c+n]) al;refine⟨xs++[x],al,?_,?_⟩
       ·rw[List.take_succ_eq_append_getElem al];refine ai.append (.cons _ _ _ _ ?_ .nil);grind
       grind
     obtain⟨xs,ah,ai,ax⟩:=hex;refine⟨.agg xs.toArray,?_,.agg _ _ ai⟩;have:=run_loadCells_list (P:=P) w ⟨loc.block,loc.off+i*loc.esz+c,Z⟩ xs (λj y f=>by grind[na]);rw[ah]at this;simp[Instr.loadAt,Instr.sureAddr,loadVar,Al a,run_sizeOf aL,this]
    grind
   grind
  grind
theorem DO(e:Rel ρ H w){t:TypeId}{a v:af}{x:Value}(h:aI P H t a=A v)(aE:bA ρ a x):
  ∃r,(Instr.loadAt t x).run P w= .ok r w/\bA ρ v r:=by
 unfold aI at h;split at h
 ·rename_i l i c;cases aE with|ptr _ _ _ loc aw=>
  split at h
  ·rename_i ro esz els aS;obtain⟨d,f,b⟩:=e.row _ _ _ _ aS;obtain rfl:loc=d:=al;exact DN aw b h
  ·rename_i g esz els aS;obtain⟨d,f,b,-⟩:=e.dZ _ _ _ _ aS;obtain rfl:loc=d:=al;exact DN aw b h
  ·split at h
   ·rename_i esz els he;obtain⟨d,f,b⟩:=La e he;obtain rfl:loc=d:=al;exact DN aw b h
   grind
  grind
 grind
def eQ(ot:Option TypeId)(esz:Nat)(els:List (List af)):bz:=match ot with
 |none=> .row I esz els
 |some t=> .dZ t esz els
def Fo(ot:Option TypeId)(esz:Nat)(els:List (List af)):(eQ ot esz els).uM=false:=by cases ot<;>rfl
theorem Fp{ot:Option TypeId}{esz b:Nat}{els a:List (List af)}{ro:Bool}(h:eQ ot esz els= .row ro b a):ro=I/\esz=b/\els=a/\ot=none:=by
 cases ot<;>cases h;grind
theorem Fq{ot:Option TypeId}{esz b:Nat}{els a:List (List af)}{t:TypeId}(h:eQ ot esz els= .dZ t b a):ot=A t/\esz=b/\els=a:=by
 cases ot<;>cases h;grind
theorem Fm{ot:Option TypeId}{esz:Nat}{els:List (List af)}{es:List (af×af)}(h:eQ ot esz els= .map es):False:=by cases ot<;>cases h
theorem px{H:ae}{l:Nat}{ot:Option TypeId}{esz:Nat}{els:List (List af)}(h:H.get l=A (eQ ot esz els)):H.rw l:=by
 cases ot with
 |none=>exact .inl ⟨_,_,h⟩
 |some t=>exact .inr (.inr ⟨_,_,_,h⟩)
theorem uZ(d:Rel ρ H w){l:Nat}{ot:Option TypeId}{esz:Nat}{els:List (List af)}(h:H.get l=A (eQ ot esz els)):∃loc,ρ l=A loc/\gJ ρ w loc I esz els/\∀t,ot=A t->∃c e,w.heap[loc.block]? =A (.cells c t e)/\loc.off=0:=by
 cases ot with
 |none=>obtain⟨loc,a,b⟩:=d.row _ _ _ _ h;grind
 |some t=>obtain⟨loc,a,b,c⟩:=d.dZ _ _ _ _ h;grind
def fU(e:List af)(c:Nat)(cs:List af):List af:=e.take c++cs++e.drop (c+cs.length)
theorem RZ{e:List af}{c:Nat}{cs:List af}(h:c+cs.length<=e.length):(fU e c cs).length=e.length:=by
 simp[fU];omega
theorem RY{e:List af}{c:Nat}{cs:List af}(h:c+cs.length<=e.length){j:Nat}(ah:c<=j)(ai:j<c+cs.length):(fU e c cs)[j]? =cs[j-c]? :=by
 grind[fU]
theorem R0{e:List af}{c:Nat}{cs:List af}(h:c+cs.length<=e.length){j:Nat}(ah:j<c\/c+cs.length<=j):(fU e c cs)[j]? =e[j]? :=by
 unfold fU;rcases ah with ah|ah
 ·grind
 ·rw[List.getElem?_append_right al,List.getElem?_drop];grind
theorem uW{a b n:Nat}(h:a<b):a*n+n<=b*n:=by
 have:=Nat.mul_le_mul_right n (Nat.succ_le_of_lt h);grind
theorem S9(k:Rel ρ H w){ot:Option TypeId}{l esz:Nat}{els:List (List af)}(aS:H.get l=A (eQ ot esz els)){loc:Loc}(aw:ρ l=A loc){i:Nat}{e:List af}(he:els[i]? =A e)
  {c:Nat} {cs:List af} {xs:List Value} (aA:c+cs.length<=esz) (ah:∀v∈cs,v.one=J) (W:bU ρ cs xs):
  Step ρ H w ρ (H.set l (eQ ot esz (els.set i (fU e c cs)))) (w.setCells loc.block (loc.off+i*loc.esz+c) xs):=by
 have T:=ae.bq aS;obtain⟨d,f,⟨z,arr,t,r,u,aT,K⟩,aI⟩:=uZ k aS;obtain rfl:loc=d:=al;have aR:=(K i e he).1;have ay:i<els.length:=by
  grind
 have aJ:=W.length;have E:∀a d,H.live a->a≠l->ρ a=A d->d.block≠loc.block:=λa d h cu f heq=>
  k.apart l a loc d (px aS) h ad aw f heq.symm
 have V:∀a,(H.set l (eQ ot esz (els.set i (fU e c cs)))).rw a->H.rw a:=by
  grind[px,ae.rw,ae.b8]
 have aD:∀a,(H.set l (eQ ot esz (els.set i (fU e c cs)))).live a->H.live a:=by
  intro a h;by_cases g:l=a
  ·subst g;exact(px aS).live
  grind[ae.live,ae.b8]
 obtain⟨s1,s2,gb,aP⟩:=C7 loc.block xs (loc.off+i*loc.esz+c) w;have aF:gJ ρ (w.setCells loc.block (loc.off+i*loc.esz+c) xs) loc I esz (els.set i (fU e c cs))/\∃a1 r,(w.setCells loc.block (loc.off+i*loc.esz+c) xs).heap[loc.block]? =A (.cells a1 t r):= ?new;have R:∀b,b<w.heap.size->¬eX ρ H b->(w.setCells loc.block (loc.off+i*loc.esz+c) xs).heap[b]? =w.heap[b]? :=λb u aG=>by
  refine nH _ _ _ _ _ ?_;rintro rfl;exact aG ⟨l,loc,px aS,aw,rfl⟩
 have U:∀b,eX ρ (H.set l (eQ ot esz (els.set i (fU e c cs)))) b->eX ρ H b\/w.heap.size<=b:=by
  rintro b ⟨a,d,ah,ai,ax⟩;exact .inl ⟨a,d,V _ ah,ai,ax⟩
 refine⟨ρ.le_refl,du _,λ_ _=>rfl,⟨?_,?_,?_,?_,?_⟩,s2,gb,aP,ad,R,U,ae.F9 (Fo _ _ _),.same (ae.zV (by cases ot<;>rfl))⟩
 case new=>
  refine⟨⟨z,_,t,r,yc _ _ _ _ _ _ _ u,?_,?_⟩,_,r,yc _ _ _ _ _ _ _ u⟩
  ·grind[vc]
  ·intro Y an m;rw[List.getElem?_set]at m;by_cases B:i=Y
   ·subst B;rw[if_pos rfl,if_pos ay]at m;simp only[bD]at m;subst m;have aH:c+cs.length<=e.length:=ad;refine⟨by grind[RZ],?_⟩;intro j v o;by_cases S:c<=j/\j<c+cs.length
    ·rw[RY aH S.1 S.2]at o;obtain⟨x,aE,L⟩:=W.get _ _ o;refine⟨ah v (List.mem_of_getElem? o),x,?_,L⟩;have av:=(K i e he).2 j (e[j]'ad) aX;obtain⟨_,a4,aY,_⟩:=av;have aV:loc.off+i*esz+j<arr.size:=by
      grind
     have:=z_ xs arr (loc.off+i*loc.esz+c) (j-c) x aE al;rw[show loc.off+i*esz+j=loc.off+i*loc.esz+c+(j-c) by rw[z];omega];exact this
    grind[R0,sU]
   ·rw[if_neg B]at m;obtain⟨a0,aj⟩:=K Y an m;refine⟨a0,λj v o=> ?_⟩;obtain⟨ak,x,aE,L⟩:=aj j v o;refine⟨ak,x,?_,L⟩;have aU:j<esz:=by
     grind
    rw[sU _ _ _ _ ?_]
    ·omega
    ·rw[z,<-aJ];rcases Nat.lt_or_gt_of_ne B with h|h
     ·have:=uW (n:=esz) h;omega
     ·have:=uW (n:=esz) h;omega
 ·intro a a2 P O h;by_cases g:l=a
  ·grind[ae.cH,Fp]
  ·rw[ae.b8 g]at h;obtain⟨d,f,G⟩:=k.row _ _ _ _ h;refine⟨d,f,?_⟩;have y:=E a d (.inl ⟨_,_,_,h⟩) ad f;obtain⟨M,q,ab,s,aa,p,N⟩:=G;exact⟨M,q,ab,s,by grind[nH],p,N⟩
 ·intro a es h;by_cases g:l=a
  ·grind[ae.cH,Fm]
  ·rw[ae.b8 g]at h;obtain⟨d,f,G⟩:=k.map _ _ h;have y:=E a d (.inr (.inl ⟨_,h⟩)) ad f;obtain⟨ents,clock,aa,p⟩:=G;exact⟨d,f,ents,clock,by grind[nH],p⟩
 ·intro a ab P O h;by_cases g:l=a
  ·subst g;rw[ae.cH T]at h;obtain⟨ap,rfl,rfl⟩:=Fq (Option.some.inj h);obtain⟨q,s,Q,ar⟩:=aI _ ap;rw[u]at Q;cases Q;obtain⟨cL,a1,f1,aN⟩:=aF;exact⟨loc,aw,cL,a1,f1,aN,ar⟩
  ·rw[ae.b8 g]at h;obtain⟨d,f,⟨M,q,aQ,s,aa,p,N⟩,am,aq,aZ,aO⟩:=k.dZ _ _ _ _ h;have y:=E a d (.inr (.inr ⟨_,_,_,h⟩)) ad f;exact⟨d,f,⟨M,q,aQ,s,by grind[nH],p,N⟩,am,aq,by grind[nH],aO⟩
 ·intro aK l2 aL aM ah ai y aB aC;exact k.apart aK l2 aL aM (V _ ah) (aD _ ai) y aB aC
 ·intro a a3 P O h;by_cases g:l=a
  ·subst g;rw[ae.cH T]at h;cases ot<;>cases h
  ·rw[ae.b8 g]at h;exact(k.old _ _ _ _ h).step ρ.le_refl ad R U
def cr(P:Program)(H:ae)(t:TypeId)(a v:af):Option ae:=
 match a with
 | .ptr l i c=>
  (match H.get l with
  |some (.row I esz els)=>
   (match els[i]? with
   |some e=>if cE P t=A v.cells.length/\c+v.cells.length<=esz/\v.cells.all af.one=J then A (H.set l (.row I esz (els.set i (fU e c v.cells))))else Z
   |none=>Z)
  |some (.dZ b esz els)=>
   (match els[i]? with
   |some e=>if cE P t=A v.cells.length/\c+v.cells.length<=esz/\v.cells.all af.one=J then A (H.set l (.dZ b esz (els.set i (fU e c v.cells))))else Z
   |none=>Z)
  |_=>Z)
 |_=>Z
theorem JO(b:Rel ρ H w){ot:Option TypeId}{l i c esz:Nat}{els:List (List af)}(aS:H.get l=A (eQ ot esz els)){loc:Loc}(aw:ρ l=A loc){e:List af}(he:els[i]? =A e){t:TypeId}{v:af}{y:Value}(q:bA ρ v y)
  (n:cE P t=A v.cells.length) (aA:c+v.cells.length<=esz) (L:v.cells.all af.one=J):
  ∃f,(Instr.storeAt t (.pointer (A ⟨loc.block,loc.off+i*loc.esz+c,Z⟩)) y).run P w= .ok () f/\Step ρ H w ρ (H.set l (eQ ot esz (els.set i (fU e c v.cells)))) f:=by
 have k:∀u∈v.cells,u.one=true:=al;have a:=q.cells;refine⟨_,?_,S9 b aS aw he aA k a⟩;obtain⟨r,K,d,-⟩:=uZ b aS;obtain rfl:loc=r:=al;have hlen:=a.length;have M:=d;obtain⟨E,arr,Q,x,z,G,ar⟩:=d;have B:=(ar i e he).1;have N:∀j,j<y.cells.toList.length->∃u,arr[loc.off+i*loc.esz+c+j]? =A u:=by
  intro j g;obtain⟨_,u,hu,_⟩:=(ar i e he).2 (c+j) (e[c+j]'ad) aX;grind
 have m:=run_storeCells_cells (P:=P) loc.block (loc.off+i*loc.esz+c) y.cells.toList 0 w
  (by grind[World.cell?])
  (by grind[World.frozen?])
  (λu hu=>by
   obtain⟨j,g⟩:=List.getElem?_of_mem hu;have h:j<v.cells.length:=by
    grind
   obtain⟨s,O,p⟩:=a.get j _ (List.getElem?_eq_getElem h);obtain rfl:u=s:=al;exact p.FI al)
 have o:y.cells.size=v.cells.length:=al;simp only[Instr.storeAt,Instr.sureAddr,Sem.run_bind,Sem.run_pure,Result.andThen_ok,storeVar,run_sizeOf n,o,ne_eq,not_true_eq_false,if_false];simpa using m
theorem Uq(g:Rel ρ H w){t:TypeId}{a v:af}{x y:Value}{H':ae}(h:cr P H t a v=A H')(aE:bA ρ a x)(j:bA ρ v y):
  ∃k,(Instr.storeAt t x y).run P w= .ok () k/\Step ρ H w ρ H' k:=by
 unfold cr at h;split at h
 ·rename_i l i c;cases aE with|ptr _ _ _ loc aw=>
  split at h
  ·rename_i esz els aS;split at h
   ·rename_i e he;split at h
    ·rename_i b;obtain⟨f,aA,d⟩:=b;simp only[bD]at h;subst h;exact JO g (ot:=none) aS aw he j f aA d
    grind
   grind
  ·rename_i m esz els aS;split at h
   ·rename_i e he;split at h
    ·rename_i b;obtain⟨f,aA,d⟩:=b;simp only[bD]at h;subst h;exact JO g (ot:=some m) aS aw he j f aA d
    grind
   grind
  grind
 grind
end
def Env.dG(ρ:Env)(l:Nat)(loc:Loc):Env:=λk=>if k=l then A loc else ρ k
theorem Env.hq(ρ:Env)(l:Nat)(loc:Loc):ρ.dG l loc l=A loc:=by simp[Env.dG]
theorem Env.hG{ρ:Env}{l k:Nat}{loc:Loc}(h:k≠l):ρ.dG l loc k=ρ k:=by simp[Env.dG,h]
def Env.od{ρ:Env}{l:Nat}(h:ρ l=Z)(loc:Loc):ρ.le (ρ.dG l loc):=by
 intro k x a;grind[Env.hG]
section
variable {P:Program}{ρ:Env}{H:ae}{w:World}
theorem heap_alloc_old(w:World)(o:Obj){k:Nat}(h:k<w.heap.size):(w.alloc o).heap[k]? =w.heap[k]? :=by
 show(w.heap.push o)[k]? =_;grind
def heap_alloc_new(w:World)(o:Obj):(w.alloc o).heap[w.heap.size]? =A o:=by
 show(w.heap.push o)[w.heap.size]? =_;simp
theorem Mk(w:World)(o:Obj):(w.alloc o).heap.size=w.heap.size+1:=by
 simp
theorem zi{w:World}{k:Nat}{o:Obj}(h:w.heap[k]? =A o):k<w.heap.size:=by
 grind
theorem Ev{esz:Nat}:∀{els:List (List af)},(∀e∈els,e.length=esz)->∀{i:Nat} {e:List af},els[i]? =A e->∀{j:Nat} {v:af},e[j]? =A v->els.flatten[i*esz+j]? =A v
 |[],_,_,_,h,_,_,_=>al
 |d::els,aw,0,e,h,j,v,a=>by
  grind
 |d::els,aw,i+1,e,h,j,v,a=>by
  have:=Ev (els:=els) (λe he=>aw e (List.mem_cons_of_mem _ he)) (i:=i) al a;grind
theorem An{H:ae}{b:bz}{l:Nat}(h:(H.push b).rw l):l=H.next\/H.rw l:=by
 grind[ae.rw,ae.eW]
theorem zK{H:ae}{b:bz}{l:Nat}(h:(H.push b).live l):l=H.next\/H.live l:=by
 grind[ae.live,ae.eW]
theorem Rel.D7(a:Rel ρ H w){l:Nat}(h:H.live l){loc:Loc}(aw:ρ l=A loc):loc.block<w.heap.size:=by
 rcases h with⟨ro,esz,els,h⟩|⟨es,h⟩|⟨t,esz,els,h⟩
 ·obtain⟨e,d,_,c,t,f,b,_⟩:=a.row _ _ _ _ h;grind
 ·obtain⟨e,d,ents,clock,b,_⟩:=a.map _ _ h;grind
 ·obtain⟨e,d,_,c,f,b,_⟩:=a.dZ _ _ _ _ h;grind
def ph{H:ae}{l:Nat}(h:H.live l):l<H.next:=by
 rcases h with⟨_,_,_,h⟩|⟨_,h⟩|⟨_,_,_,h⟩<;>exact ae.bq h
theorem oR.frame{b:Env}{a:World}{loc:Loc}{t:TypeId}{esz:Nat}{els:List (List af)}(h:oR ρ w loc t esz els)(hle:ρ.le b)(e:a.heap[loc.block]? =w.heap[loc.block]?):oR b a loc t esz els:=by
 obtain⟨ah,c,d,ai,ax⟩:=h;exact⟨ah.frame hle e,c,d,al,ax⟩
theorem Pf(c:Rel ρ H w)(aC:ρ H.next=Z)(b:bz)(r:b.uM=I)(j:b.qN=I)(o:Obj)(loc:Loc)(z:loc.block=w.heap.size)
  (E:∀ro esz els,b= .row ro esz els->gJ (ρ.dG H.next loc) (w.alloc o) loc ro esz els) (B:∀es,b= .map es->DB (ρ.dG H.next loc) (w.alloc o) loc es) (G:∀t esz els,b= .dZ t esz els->oR (ρ.dG H.next loc) (w.alloc o) loc t esz els):
  Step ρ H w (ρ.dG H.next loc) (H.push b) (w.alloc o):=by
 have hle:=Env.od aC loc;have q:∀l a,H.live l->ρ.dG H.next loc l=A a->a.block<w.heap.size:=λl a h cu=>by
  have i:l≠H.next:=by
   have:=ph h;omega
  rw[Env.hG i]at cu;exact c.D7 h cu
 have n:∀k,eX (ρ.dG H.next loc) (H.push b) k->eX ρ H k\/w.heap.size<=k:=by
  rintro k ⟨l,a,ah,ai,ax⟩;rcases An ah with rfl|ah
  ·grind[Env.hq]
  ·have cL:l≠H.next:=by
    have:=ph ah.live;omega
   rw[Env.hG cL]at ai;exact .inl ⟨l,a,ah,ai,ax⟩
 refine⟨hle,aX,λl aw=>Env.hG (by simp at aw;omega),⟨?_,?_,?_,?_,?_⟩,rfl,rfl,rfl,by grind[Mk],λk g _=>heap_alloc_old w o g,n,ae.F8 r,.same (ae.qZ j)⟩
 ·intro l ro esz els h;by_cases e:l=H.next
  ·grind[ae.a2,Env.hq]
  ·rw[ae.eW e]at h;obtain⟨a,m,ar⟩:=c.row _ _ _ _ h;exact⟨a,by grind[Env.hG],ar.frame hle (heap_alloc_old w o ar.lt)⟩
 ·intro l es h;by_cases e:l=H.next
  ·grind[ae.a2,Env.hq]
  ·rw[ae.eW e]at h;obtain⟨a,m,ents,clock,y,ah,ai⟩:=c.map _ _ h;exact⟨a,by grind[Env.hG],ents,clock,by grind[heap_alloc_old],ah.mono hle,ai.mono hle⟩
 ·intro l t esz els h;by_cases e:l=H.next
  ·grind[ae.a2,Env.hq]
  ·rw[ae.eW e]at h;obtain⟨a,m,ar⟩:=c.dZ _ _ _ _ h;exact⟨a,by grind[Env.hG],ar.frame hle (heap_alloc_old w o ar.1.lt)⟩
 ·intro l p u v ah ai i f d;rcases An ah with rfl|ah
  ·rcases zK ai with rfl|ai
   ·omega
   grind[Env.hq]
  ·rcases zK ai with rfl|ai
   ·rw[Env.hq]at d;obtain rfl:=Option.some.inj d;have:=q _ _ ah.live f;omega
   ·have cL:l≠H.next:=by
     have:=ph ah.live;omega
    have x:p≠H.next:=by
     have:=ph ai;omega
    rw[Env.hG cL]at f;rw[Env.hG x]at d;exact c.apart l p u v ah ai i f d
 ·intro l s esz els h;by_cases e:l=H.next
  ·subst e;rw[ae.a2]at h;rw[Option.some.inj h]at j;cases j
  ·rw[ae.eW e]at h;exact(c.old _ _ _ _ h).step hle (by grind[Mk]) (λk g _=>heap_alloc_old w o g) n
theorem vb(f:Rel ρ H w)(aC:ρ H.next=Z){ot:Option TypeId}{esz:Nat}{els:List (List af)}(hlen:∀e∈els,e.length=esz)(g:∀e∈els,∀v∈e,v.one=J)
  {xs tail:List Value} (k:bU ρ els.flatten xs) (t:TypeId) (ba:∀a,ot=A a->a=t):
  Step ρ H w (ρ.dG H.next ⟨w.heap.size,0,esz,xs.length+tail.length⟩) (H.push (eQ ot esz els)) (w.alloc (.cells (xs++tail).toArray t)):=by
 have key:oR (ρ.dG H.next ⟨w.heap.size,0,esz,xs.length+tail.length⟩) (w.alloc (.cells (xs++tail).toArray t)) ⟨w.heap.size,0,esz,xs.length+tail.length⟩ t esz els:=by
  refine⟨⟨rfl,_,t,(0,0),heap_alloc_new _ _,al,?_⟩,_,_,heap_alloc_new _ _,rfl⟩;intro i e he;refine⟨al,λj v b=> ?_⟩;refine⟨g e (List.mem_of_getElem? he) v (List.mem_of_getElem? b),?_⟩;obtain⟨x,aE,l⟩:=k.get _ _ (Ev hlen he b);refine⟨x,?_,l.mono (Env.od aC _)⟩;grind
 refine Pf f aC _ (Fo _ _ _) (by cases ot<;>rfl) _ _ rfl ?_ (by grind[Fm]) ?_
 ·intro ro d c h;obtain⟨rfl,rfl,rfl,-⟩:=Fp h;exact key.1
 ·intro a d c h;obtain⟨m,rfl,rfl⟩:=Fq h;grind
def zS:Value->Option af
 | .bool b=>A (.bool b)
 | .int k n=>A (.int k n)
 | .string s=>A (.str s.data.toList)
 | .pointer Z=>A .ho
 | .slice Z 0 0=>A .ao
 | .map Z=>A .js
 | .nilFunc=>A .nilFunc
 | .nilIface=>A .nilIface
 |_=>Z
def u2:List Value->Option (List af)
 |[]=>A []
 |v::r=>match zS v,u2 r with
  |some a,A l=>A (a::l)
  |_,_=>Z
def u4:Value->Option af
 | .agg cs=>(u2 cs.toList).map .agg
 |v=>zS v
theorem Oy{v:Value}{a:af}(h:zS v=A a)(ρ:Env):bA ρ a v/\a.one=true:=by
 unfold zS at h;split at h<;>first
  |(simp only[bD]at h;subst h;exact⟨by constructor,rfl⟩)
  |cases h
theorem Oz:∀{ak:List Value} {ft:List af},u2 ak=A ft->∀ρ:Env,bU ρ ft ak/\∀a∈ft,a.one=J
 |[],ft,h,ρ=>by simp[u2]at h;subst h;exact⟨.nil,aX⟩
 |v::r,ft,h,ρ=>by
  unfold u2 at h;split at h
  ·rename_i a l b aw;simp only[bD]at h;subst h;obtain⟨ah,ai⟩:=Oy b ρ;obtain⟨ax,aM⟩:=Oz aw ρ;exact⟨.cons _ _ _ _ ah ax,al⟩
  grind
theorem zT{v:Value}{a:af}(h:u4 v=A a)(ρ:Env):bA ρ a v:=by
 unfold u4 at h;split at h
 ·simp only[Option.map_eq_some_iff]at h;obtain⟨l,aw,rfl⟩:=h;have:=bA.agg _ _ (Oz aw ρ).1;omega
 grind[Oy]
def fX(P:Program)(t:TypeId):Option af:=(P.info? t).bind λi=>i.zero.bind u4
def oW{t:TypeId}{z:af}(h:fX P t=A z)(w:World):∃x,(zeroValue t).run P w= .ok x w/\∀ρ:Env,bA ρ z x:=by
 unfold fX at h;simp only[eV]at h;obtain⟨i,aP,x,aE,a⟩:=h;exact⟨x,by simp[zeroValue,typeInfo,aP,aE],λρ=>zT a ρ⟩
def k9(P:Program)(t:TypeId):Option TypeId:=match P.underlying t with
 |some (.struct fs)=>(match fs.toList with
  |[f]=>(match P.underlying f.type with
   |some (.struct gs)=>if gs.size=2 then A t else Z
   |_=>Z)
  |_=>Z)
 |_=>Z
theorem Ow{P:Program}{t a:TypeId}(h:k9 P t=A a):a=t:=by
 grind[k9]
def r9(ot:Option TypeId)(H:ae)(v:af):Option (af×ae):=
 if v.cells.all af.one=J then A (.ptr H.next 0 0,H.push (eQ ot v.cells.length [v.cells]))else Z
theorem Jj(e:Rel ρ H w)(aC:ρ H.next=Z){ot:Option TypeId}{v a:af}{x:Value}{H':ae}(h:r9 ot H v=A (a,H'))(aE:bA ρ v x)(t:TypeId)(ba:∀b,ot=A b->b=t):
  ∃r c d,(Instr.box t x).run P w= .ok r c/\bA d a r/\Step ρ H w d H' c:=by
 unfold r9 at h;split at h
 ·obtain⟨rfl,rfl⟩:=h;have aA:=aE.cells;have f:=vb e aC (ot:=ot) (esz:=v.cells.length) (els:=[v.cells]) aX al (xs:=x.cells.toList) (tail:=[]) al t ba;refine⟨.pointer (A ⟨w.heap.size,0,Z⟩),_,_,?_,?_,f⟩
  ·simp[Instr.box,newVar,newRow]
  ·simpa using bA.ptr (ρ:=ρ.dG H.next _) H.next 0 0 _ (Env.hq _ _ _)
 grind
def yC(P:Program)(H:ae)(t:TypeId):Option (af×ae):=(fX P t).bind (r9 (k9 P t) H)
theorem Tm(d:Rel ρ H w)(aC:ρ H.next=Z){t:TypeId}{a:af}{H':ae}(h:yC P H t=A (a,H')):
  ∃r b c,(Instr.alloc t J (.tuple #[])).run P w= .ok r b/\bA c a r/\Step ρ H w c H' b:=by
 unfold yC at h;simp only[eV]at h;obtain⟨z,f,h⟩:=h;obtain⟨x,aE,e⟩:=oW f w;obtain⟨r,b,c,ah,ai,ax⟩:=Jj (P:=P) d aC h (e ρ) t λ_ h=>Ow h
 grind[Instr.alloc,Sem.run_bind,Result.andThen_ok,Instr.box]
end
section
variable {P:Program}{ρ:Env}{H:ae}{w:World}
def oU(place:Nat->Option (Nat×Nat))(cells:List af):List (Nat×af)->Option (List af)
 |[]=>A cells
 |(i,v)::rest=>
  match place i with
  |none=>Z
  |some (off,size)=>if v.cells.length=size/\off+v.cells.length<=cells.length then oU place (fU cells off v.cells) rest else Z
def Ey:∀(ak:List Value) (k off:Nat) (c:Array Value),(ak.zipIdx k).foldl (λcs (x:Value×Nat)=>cs.setIfInBounds (off+x.2) x.1) c=j0 c (off+k) ak
 |[],_,_,_=>rfl
 |v::r,k,off,c=>by
  simp only[List.zipIdx_cons,List.foldl_cons,j0];rw[Ey r (k+1) off];rfl
theorem R1{e:List af}{xs:List Value}{c:Nat}{cs:List af}{b:List Value}(he:bU ρ e xs)(aA:bU ρ cs b)(h:c+cs.length<=e.length):
  bU ρ (fU e c cs) (j0 xs.toArray c b).toList:=by
 have i:=he.length;have l2:=aA.length;refine bU.OC (by grind[RZ,vc]) ?_;intro j v x a aE;by_cases d:c<=j/\j<c+cs.length
 ·rw[RY h d.1 d.2]at a;obtain⟨g,f,ar⟩:=aA.get _ _ a;have:=z_ b xs.toArray c (j-c) g f al;grind
 ·rw[R0 h ad]at a;obtain⟨g,f,ar⟩:=he.get _ _ a;grind[sU]
def rY(ρ:Env):List (Nat×af)->List (Nat×Value)->Prop
 |[],[]=>True
 |(i,v)::r,(j,x)::s=>i=j/\bA ρ v x/\rY ρ r s
 |_,_=>False
theorem DK(place:Nat->Option (Nat×Nat)):∀(parts:List (Nat×af)) (f:List (Nat×Value)) (cells b:List af) (xs:List Value),rY ρ parts f->bU ρ cells xs->
  oU place cells parts=A b->∃d:List Value,Instr.fill place xs.toArray f=A d.toArray/\bU ρ b d
 |[],[],cells,b,xs,_,aA,h=>by
  simp[oU]at h;subst h;exact⟨xs,rfl,aA⟩
 |[],_::_,_,_,_,a,_,_=>a.elim
 |_::_,[],_,_,_,a,_,_=>a.elim
 |(i,v)::r,(j,x)::s,cells,b,xs,a,aA,h=>by
  obtain⟨rfl,m,a⟩:=a;unfold oU at h;unfold Instr.fill;cases k:place i with
  |none=>grind
  |some os=>
   obtain⟨off,size⟩:=os;rw[k]at h;simp only at h;split at h
   ·rename_i g;have e:=m.cells;have o:=e.length;have l2:=aA.length;have n:x.cells.size=v.cells.length:=al;have l:=R1 aA e (c:=off) g.2;obtain⟨d,ah,ai⟩:=DK place r s _ b _ a l h;refine⟨d,?_,ai⟩;simp only
    rw[if_neg al];have:=Ey x.cells.toList 0 off xs.toArray;rw[Nat.add_zero]at this;rw[<-Array.foldl_toList,Array.toList_zipIdx,this];omega
   grind
def sb(P:Program):List Field->Option (List (Nat×Nat))
 |[]=>A []
 |f::fs=>match cE P f.type,sb P fs with
  |some n,A l=>A ((f.offset,n)::l)
  |_,_=>Z
theorem Jx(w:World):∀(fs:List Field) (l:List (Nat×Nat)),sb P fs=A l->(fs.mapM (λf=>(do pure (f.offset,<-sizeOf f.type):Sem (Nat×Nat)))).run P w= .ok l w
 |[],l,h=>by grind[sb,Sem.run_pure]
 |f::fs,l,h=>by
  unfold sb at h;split at h
  ·rename_i n b aL aw;simp only[bD]at h;subst h;have a:=Jx w fs b aw;rw[List.mapM_cons];simp only[Sem.run_bind,run_sizeOf aL,Result.andThen_ok,Sem.run_pure,a]
  grind
def ei(P:Program)(t:TypeId)(parts:List (Nat×af)):Option af:=
 match fX P t,P.underlying t with
 |some z,A (.struct fs)=>(match sb P fs.toList with|some pl=>(oU (pl[·]?) z.cells parts).map .agg|none=>Z)
 |some z,A (.array _ e)=>(match cE P e with|some n=>(oU (λi=>A (i*n,n)) z.cells parts).map .agg|none=>Z)
 |_,_=>Z
theorem Tr{t:TypeId}{parts:List (Nat×af)}{b:List (Nat×Value)}{v:af}(h:ei P t parts=A v)(l:rY ρ parts b)(w:World):
  ∃x,(Instr.build t b.toArray).run P w= .ok x w/\bA ρ v x:=by
 unfold ei at h;split at h
 ·rename_i z fs g hu;obtain⟨a,j,i⟩:=oW g w;split at h
  ·rename_i pl o;simp only[Option.map_eq_some_iff]at h;obtain⟨cs,d,rfl⟩:=h;obtain⟨k,ah,ai⟩:=DK _ parts b z.cells cs a.cells.toList l (i ρ).cells d;refine⟨.agg k.toArray,?_,.agg _ _ ai⟩;have hm:=Jx (P:=P) w fs.toList pl o;have m:(fs.mapM (λf=>(do pure (f.offset,<-sizeOf f.type):Sem (Nat×Nat)))).run P w= .ok pl.toArray w:=by
    rw[Array.mapM_eq_mapM_toList];simp only[Sem.run_map,hm,Result.andThen_ok]
   simp only[Instr.build,Sem.run_bind,j,Result.andThen_ok,run_underlying hu,m];have e:(λx:Nat=>(pl.toArray)[x]?)=(λx=>pl[x]?):=al;simp only[e];have c:a.cells.toList.toArray=a.cells:=aX;rw[c]at ah;simp[ah]
  grind
 ·rename_i z n e g hu;obtain⟨a,j,i⟩:=oW g w;split at h
  ·rename_i q p;simp only[Option.map_eq_some_iff]at h;obtain⟨cs,d,rfl⟩:=h;obtain⟨k,ah,ai⟩:=DK _ parts b z.cells cs a.cells.toList l (i ρ).cells d;refine⟨.agg k.toArray,?_,.agg _ _ ai⟩;have c:a.cells.toList.toArray=a.cells:=aX;rw[c]at ah;simp[Instr.build,j,run_underlying hu,run_sizeOf p,ah]
  grind
 grind
def ma(esz:Nat):List (List af)->List (Nat×af)->Option (List (List af))
 |els,[]=>A els
 |els,(i,v)::rest=>if v.cells.length=esz/\i<els.length/\v.cells.all af.one=J then ma esz (els.set i v.cells) rest else Z
def uh(P:Program)(H:ae)(t:TypeId)(len:Nat)(parts:List (Nat×af)):Option (af×ae):=
 match P.underlying t with
 |some (.slice e)=>
  (match cE P e,fX P e with
  |some a,A z=>
   if len*a<=16777216/\z.cells.length=a/\z.cells.all af.one=J then
    (match ma a (List.replicate len z.cells) parts with
    |some els=>A (.az H.next 0 len a (A len),H.push (.row I a els))
    |none=>Z)
   else Z
  |_,_=>Z)
 |_=>Z
theorem o9{esz:Nat}:∀{els:List (List af)},(∀e∈els,e.length=esz)->els.flatten.length=els.length*esz
 |[],_=>aX
 |d::els,h=>by
  have:=o9 (els:=els) (λe he=>h e (List.mem_cons_of_mem _ he));grind
theorem LG{esz:Nat}:∀{els:List (List af)} (i:Nat) (c:List af),(∀e∈els,e.length=esz)->c.length=esz->i<els.length->(els.set i c).flatten=fU els.flatten (i*esz) c
 |[],_,_,_,_,h=>al
 |d::els,0,c,aw,aA,_=>by
  grind[fU]
 |d::els,i+1,c,aw,aA,h=>by
  have g:=aw d aX;have a:=LG (els:=els) i c al aA al;simp only[List.set_cons_succ,List.flatten_cons,a];unfold fU;rw[Nat.succ_mul];have b:List.take (i*esz+esz) (d++els.flatten)=d++els.flatten.take (i*esz):=by
   grind
  have f:List.drop (i*esz+esz+c.length) (d++els.flatten)=els.flatten.drop (i*esz+c.length):=by
   rw[List.drop_append,List.drop_eq_nil_of_le ad,List.nil_append];congr 1;omega
  grind
theorem JJ(esz:Nat):∀(parts:List (Nat×af)) (l:List (Nat×Value)) (els a:List (List af)) (xs:List Value),rY ρ parts l->(∀e∈els,e.length=esz)->(∀e∈els,∀v∈e,v.one=J)->
  bU ρ els.flatten xs->ma esz els parts=A a->
   (∃f:List Value,Instr.fill (λi=>A (i*esz,esz)) xs.toArray l=A f.toArray/\bU ρ a.flatten f)/\(∀e∈a,e.length=esz)/\(∀e∈a,∀v∈e,v.one=J)/\a.length=els.length
 |[],[],els,a,xs,_,ah,ai,d,h=>by
  simp[ma]at h;subst h;exact⟨⟨xs,rfl,d⟩,ah,ai,rfl⟩
 |[],_::_,_,_,_,b,_,_,_,_=>b.elim
 |_::_,[],_,_,_,b,_,_,_,_=>b.elim
 |(i,v)::r,(j,x)::s,els,a,xs,b,ah,ai,d,h=>by
  obtain⟨rfl,y,b⟩:=b;unfold ma at h;split at h
  ·rename_i t;obtain⟨aA,aP,E⟩:=t;have G:∀u∈v.cells,u.one=true:=al;have k:=y.cells;have K:=k.length;have l2:=d.length;have w:=o9 ah;have hle:i*esz+v.cells.length<=els.flatten.length:=by rw[w,aA];exact uW aP
   have g:=R1 d k (c:=i*esz) hle;rw[<-LG i v.cells ah aA aP]at g;have p:∀e∈els.set i v.cells,e.length=esz:=λe he=>by
    grind
   have q:∀e∈els.set i v.cells,∀u∈e,u.one=true:=λe he=>by
    grind
   obtain⟨⟨f,z,m⟩,n,o,B⟩:=JJ esz r s _ a _ b p q g h;refine⟨⟨f,?_,m⟩,n,o,al⟩;unfold Instr.fill;have H:x.cells.size=v.cells.length:=al;simp only
   rw[if_neg al];have:=Ey x.cells.toList 0 (i*esz) xs.toArray;rw[Nat.add_zero]at this;rw[<-Array.foldl_toList,Array.toList_zipIdx,this];omega
  grind
theorem Tc(z:Array Value)(n:Nat)(a:0<z.size):((Array.range (n*z.size)).map (z[· %z.size]!))=((List.replicate n z.toList).flatten).toArray:=by
 apply Array.ext';apply List.ext_getElem?;intro k;by_cases b:k<n*z.size
 ·have ah:(Array.map (λx=>z[x%z.size]!) (Array.range (n*z.size))).toList[k]? =A z[k%z.size]! :=by
   grind
  rw[ah];symm;simp only
  have hdiv:k/z.size<n:=by rw[Nat.div_lt_iff_lt_mul a];omega
  have c:k%z.size<z.size:=Nat.mod_lt _ a;have key:∀(n k:Nat),k<n*z.size->(List.replicate n z.toList).flatten[k]? =z.toList[k%z.size]? :=by
   intro n
   induction n with
   |zero=>omega
   |succ n d=>
    grind[Nat.mod_eq_of_lt,List.getElem?_append_right,Nat.mod_eq_sub_mod]
  grind
 ·rw[List.getElem?_eq_none al,List.getElem?_eq_none (by simp;omega)]
def bU.Ew{a:List af}{xs:List Value}(h:bU ρ a xs):∀n,bU ρ (List.replicate n a).flatten (List.replicate n xs).flatten
 |0=>by simpa using bU.nil
 |n+1=>by simpa [List.replicate_succ]using h.append (bU.Ew h n)
theorem Tp(o:Rel ρ H w)(aC:ρ H.next=Z){t:TypeId}{len:Nat}{parts:List (Nat×af)}{g:List (Nat×Value)}{a:af}{H':ae}(h:uh P H t len parts=A (a,H'))(v:rY ρ parts g):
  ∃r j l,(Instr.buildSlice t len g.toArray).run P w= .ok r j/\bA l a r/\Step ρ H w l H' j:=by
 unfold uh at h;split at h
 ·rename_i e hu;split at h
  ·rename_i b z E G;split at h
   ·rename_i p;obtain⟨hle,Q,M⟩:=p;split at h
    ·rename_i els q;simp only[bD,eF]at h;obtain⟨rfl,rfl⟩:=h;obtain⟨c,L,K⟩:=oW G w;have N:∀u∈z.cells,u.one=true:=al;have i:=(K ρ).cells;have f:c.cells.size=b:=by have:=i.length;grind
     have y:=bU.Ew i len;obtain⟨⟨k,ah,ai⟩,ax,aM,n⟩:=JJ b parts g _ els _ v al
      al y q
     have B:=vb o aC (ot:=none) ax aM ai (tail:=[]) e (λ_ h=>by cases h);have O:k.length=len*b:=by
      rw[<-ai.length,o9 ax,n];simp
     refine⟨.slice (A ⟨w.heap.size,0,Z⟩) len len,_,_,?_,?_,B⟩
     ·simp only[Instr.buildSlice,Sem.run_bind,run_underlying hu,Result.andThen_ok,run_sizeOf E];rw[if_neg ad];by_cases d:len*b=0
      ·simp only[d,if_true,Sem.run_bind,Sem.run_pure,Result.andThen_ok];have s:(List.replicate len c.cells.toList).flatten=[]:=by
        have:((List.replicate len c.cells.toList).flatten).length=0:=by simp[f,d]
        grind
       rw[s]at ah;have m:Array.range 0= #[]:=rfl;simp[ah,newRow,m]
      ·simp only[d,if_false,Sem.run_bind,L,Result.andThen_ok,Sem.run_pure];have x:0<c.cells.size:=by
        grind
       have:=Tc c.cells len x;rw[f]at this;simp only[f,this];simp[ah,newRow]
     ·refine bA.az (ρ:=ρ.dG H.next _) H.next 0 len (A len) ⟨w.heap.size,0,b,k.length+0⟩ _ len (Env.hq _ _ _) ad aX (λ_=>⟨aX,?_⟩)
      grind
    grind
   grind
  grind
 grind
end
section
variable {P:Program}{ρ:Env}{H:ae}{w:World}
def oT(P:Program)(t:TypeId)(x:af)(f:Nat):Option af:=
 match P.underlying t,x with
 |some (.struct fs),.agg cs=>(match fs[f]? with|some d=>apart P d.type cs d.offset|none=>Z)
 |_,_=>Z
theorem TH{t:TypeId}{x v:af}{a:Value}{f:Nat}(h:oT P t x f=A v)(aE:bA ρ x a)(w:World):∃r,(Instr.field t a f).run P w= .ok r w/\bA ρ v r:=by
 unfold oT at h;split at h
 ·rename_i fs cs hu;cases aE with|agg _ xs aA=>
  split at h
  ·rename_i d b;obtain⟨r,ah,ai⟩:=oV h aA w;exact⟨r,by simp[Instr.field,run_underlying hu,b,asAgg,ah],ai⟩
  grind
 grind
def bO(P:Program)(t:TypeId)(x:af)(f:Nat):Option af:=
 match P.underlying t,x with
 |some (.struct fs),.ptr l i c=>(match fs[f]? with|some d=>(match cE P d.type with|some n=>if n=0 then Z else A (.ptr l i (c+d.offset))|none=>Z)|none=>Z)
 |_,_=>Z
theorem TG{t:TypeId}{x v:af}{a:Value}{f:Nat}(h:bO P t x f=A v)(aE:bA ρ x a)(w:World):∃r,(Instr.fieldAt t a f).run P w= .ok r w/\bA ρ v r:=by
 unfold bO at h;split at h
 ·rename_i fs l i c hu;cases aE with|ptr _ _ _ loc aw=>
  split at h
  ·rename_i d e;split at h
   ·rename_i n aL;split at h
    ·cases h
    ·rename_i b;simp only[bD]at h;subst h;refine⟨_,?_,.ptr l i (c+d.offset) loc aw⟩;simp[Instr.fieldAt,run_underlying hu,e,Instr.sureAddr,fieldPlace,run_sizeOf aL,b,na,Nat.add_assoc]
   grind
  grind
 grind
def ct(P:Program)(t:TypeId)(x b:af):Option af:=
 match P.underlying t,x,b with
 |some (.slice e),.az l i n esz _,.int _ k=>(match cE P e with|some a=>if a=esz/\0<=k/\k<n then A (.ptr l (i+k.toNat) 0)else Z|none=>Z)
 |some (.array len e),.ptr l i c,.int _ k=>(match cE P e with|some a=>if 0<=k/\k<len then A (.ptr l i (c+k.toNat*a))else Z|none=>Z)
 |_,_,_=>Z
theorem TJ{t:TypeId}{x g v:af}{o j:Value}(h:ct P t x g=A v)(aE:bA ρ x o)(aP:bA ρ g j)(w:World):∃r,(Instr.indexAt t o j).run P w= .ok r w/\bA ρ v r:=by
 unfold ct at h;split at h
 ·rename_i e l i n esz cap cO k hu;cases aP;cases aE with|az _ _ _ _ loc a c aw aL aA p=>
  split at h
  ·rename_i m f;split at h
   ·rename_i d;obtain⟨rfl,b,ah⟩:=d;simp only[bD]at h;subst h;obtain⟨rfl,_⟩:=p ad;refine⟨_,?_,.ptr l (i+k.toNat) 0 loc aw⟩;have q:loc.off+i*loc.esz+k.toNat*loc.esz=loc.off+(i+k.toNat)*loc.esz+0:=al;simp[Instr.indexAt,asIntOf,run_underlying hu,b,ah,run_sizeOf f,na]
   grind
  grind
 ·rename_i len e l i c cO k hu;cases aP;cases aE with|ptr _ _ _ loc aw=>
  split at h
  ·rename_i m f;split at h
   ·rename_i d;obtain⟨b,ah⟩:=d;simp only[bD]at h;subst h;refine⟨_,?_,.ptr l i (c+k.toNat*m) loc aw⟩;simp[Instr.indexAt,asIntOf,run_underlying hu,Instr.sureAddr,b,ah,run_sizeOf f,na,Nat.add_assoc]
   grind
  grind
 grind
def qm(P:Program)(t:TypeId)(x a:af):Option af:=
 match P.underlying t,x,a with
 |some .string,.str s,.int _ k=>if 0<=k then(match s[k.toNat]? with|some b=>A (.int .u8 b.toNat)|none=>Z)else Z
 |some (.array len e),.agg cs,.int _ k=>(match cE P e with|some c=>if 0<=k/\k<len then apart P e cs (k.toNat*c)else Z|none=>Z)
 |_,_,_=>Z
def UY(s:List UInt8)(k:Nat):(⟨s.toArray⟩:ByteArray)[k]? =s[k]? :=by
 simp only[getElem?,decidableGetElem?];by_cases h:k<s.length
 ·have cu:k<(⟨s.toArray⟩:ByteArray).size:=by show k<s.toArray.size;omega
  simp[h,cu];rfl
 ·have cu:¬k<(⟨s.toArray⟩:ByteArray).size:=by show¬k<s.toArray.size;omega
  simp[h,cu]
theorem TK{t:TypeId}{x a v:af}{d c:Value}(h:qm P t x a=A v)(aE:bA ρ x d)(aP:bA ρ a c)(w:World):∃r,(Instr.index t d c).run P w= .ok r w/\bA ρ v r:=by
 unfold qm at h;split at h
 ·rename_i s cO k hu;cases aP;cases aE;split at h
  ·rename_i f;split at h
   ·rename_i b g;simp only[bD]at h;subst h;refine⟨_,?_,.int _ _⟩;simp only[Instr.index,asIntOf,Sem.run_bind,Sem.run_pure,Result.andThen_ok,run_underlying hu,if_pos f,UY,g]
   grind
  grind
 ·rename_i len e cs cO k hu;cases aP;cases aE with|agg _ xs aA=>
  split at h
  ·rename_i l j;split at h
   ·rename_i i;obtain⟨r,ah,ai⟩:=oV h aA w;exact⟨r,by simp[Instr.index,asIntOf,run_underlying hu,i,run_sizeOf j,ah],ai⟩
   grind
  grind
 grind
def dL(x:Option af)(a y:Nat):Option Nat:=
 match x with
 |none=>A a
 |some (.int _ k)=>if 0<=k/\k<=y then A k.toNat else Z
 |some _=>Z
def gu(P:Program)(t:TypeId)(x:af)(gl aP a:Option af):Option af:=
 match P.underlying t,x with
 |some .string,.str s=>
  (match a,dL aP s.length s.length with
  |none,A h=>(match dL gl 0 h with|some l=>A (.str ((s.drop l).take (h-l)))|none=>Z)
  |_,_=>Z)
 |some (.slice e),.az l i n esz cap=>
  (match cE P e,a with
  |some b,Z=>
   if b=esz then
    (match dL aP n (cap.getD n)with
    |some h=>(match dL gl 0 h with|some k=>A (.az l (i+k) (h-k) esz (cap.map (· -k)))|none=>Z)
    |none=>Z)
   else Z
  |some b,A m=>
   if b=esz then
    (match dL (A m) 0 (cap.getD n)with
    |some m=>(match aP,dL aP 0 m with
     |some _,A h=>(match dL gl 0 h with|some k=>A (.az l (i+k) (h-k) esz (A (m-k)))|none=>Z)
     |_,_=>Z)
    |none=>Z)
   else Z
  |_,_=>Z)
 |some (.slice e),.ao=>
  (match cE P e,a with
  |some _,Z=>(match dL aP 0 0 with
   |some h=>(match dL gl 0 h with|some _=>A .ao|none=>Z)
   |none=>Z)
  |some _,A m=>(match dL (A m) 0 0 with
   |some m=>(match aP,dL aP 0 m with
    |some _,A h=>(match dL gl 0 h with|some _=>A .ao|none=>Z)
    |_,_=>Z)
   |none=>Z)
  |_,_=>Z)
 |_,_=>Z
inductive rX(ρ:Env):Option af->Option Value->Prop where
 |none:rX ρ none none
 |some (v:af) (x:Value) (h:bA ρ v x):rX ρ (some v) (some x)
theorem h2{v:af}{x:Value}{d y k:Nat}(h:dL (A v) d y=A k)(aE:bA ρ v x)(code:BoundsCode){a:Nat}(c:y<=a)(w:World):
  (Instr.sliceBound x a code).run P w= .ok k w/\k<=y:=by
 unfold dL at h;split at h
 ·grind
 ·rename_i cO n b;cases b;cases aE;grind[Instr.sliceBound,asIntOf,Sem.run_pure]
 grind
theorem Wu(s:List UInt8)(l h:Nat):(⟨s.toArray⟩:ByteArray).extract l h=⟨((s.drop l).take (h-l)).toArray⟩:=by
 apply ByteArray.ext;grind[ByteArray.data_extract]
theorem Up{t:TypeId}{x v:af}{S:Value}{gl aP R:Option af}{y B z:Option Value}(h:gu P t x gl aP R=A v)(aE:bA ρ x S)(j:rX ρ gl y)(u:rX ρ aP B)(E:rX ρ R z)(w:World):
  ∃r,(Instr.sliceAt t S y B z).run P w= .ok r w/\bA ρ v r:=by
 unfold gu at h;split at h
 ·rename_i s hu;cases aE;have p:(⟨s.toArray⟩:ByteArray).size=s.length:=by show s.toArray.size=_;simp
  split at h
  ·rename_i f g;cases E;split at h
   ·rename_i l aw;simp only[bD]at h;subst h;refine⟨_,?_,.str _⟩;have o:∃m,(Instr.sliceBounds I s.length s.length y B Z).run P w= .ok (l,f,m) w:=by
     refine⟨s.length,?_⟩;cases u with
     |none=>
      simp only[dL,bD]at g;subst g;cases j with
      |none=>simp only[dL,bD]at aw;subst aw;simp[Instr.sliceBounds]
      |some v x b=>simp[Instr.sliceBounds,(h2 aw b _ (du _) w).1]
     |some v x b=>
      have:=(h2 (P:=P) g b .sliceAlen (du _) w).1;cases j with
      |none=>simp only[dL,bD]at aw;subst aw;simp[Instr.sliceBounds,this]
      |some v x b=>simp[Instr.sliceBounds,this,(h2 aw b _ (du _) w).1]
    obtain⟨m,o⟩:=o;simp[Instr.sliceAt,Instr.slice,run_underlying hu,p,o,Wu]
   grind
  grind
 ·rename_i e l i n esz cap hu;cases aE with|az _ _ _ _ loc a c aw aL aA T=>
  have K:cap.getD n<=c:=by
   cases U:cap with
   |none=>grind
   |some k=>grind
  split at h
  ·rename_i O p;cases E;split at h
   ·rename_i M;subst M;split at h
    ·rename_i f g;split at h
     ·rename_i k d;simp only[bD]at h;subst h;have am:f<=c:=by
       cases u with
       |none=>grind[dL]
       |some v x b=>have:=(h2 (P:=P) g b .sliceAcap K w).2;omega
      have Q:k<=f:=by
       cases j with
       |none=>grind[dL]
       |some v x b=>exact(h2 (P:=P) d b .sliceB (du _) w).2
      have o:(Instr.sliceBounds J n c y B Z).run P w= .ok (k,f,c) w:=by
       cases u with
       |none=>
        simp only[dL,bD]at g;subst g;cases j with
        |none=>simp only[dL,bD]at d;subst d;simp[Instr.sliceBounds]
        |some v x b=>simp[Instr.sliceBounds,(h2 d b _ (du _) w).1]
       |some v x b=>
        have:=(h2 (P:=P) g b .sliceAcap K w).1;cases j with
        |none=>simp only[dL,bD]at d;subst d;simp[Instr.sliceBounds,this]
        |some v x b=>simp[Instr.sliceBounds,this,(h2 d b _ (du _) w).1]
      refine⟨.slice (A (if c=k then a else a.add (k*loc.esz))) (f-k) (c-k),?_,?_⟩
      ·simp[Instr.sliceAt,Instr.slice,run_underlying hu,o,run_sizeOf p];grind
      ·refine .az l (i+k) (f-k) _ loc _ (c-k) aw ad (λm hm=> ?_) (λaj=> ?_)
       ·cases U:cap with
        |none=>grind
        |some q=>grind
       grind[na]
     grind
    grind
   grind
  ·rename_i O ak p;cases E with|some _ z L=>
   split at h
   ·rename_i M;subst M;split at h
    ·rename_i m hm;obtain⟨H,ai⟩:=h2 (P:=P) hm L .slice3Acap K w;split at h
     ·rename_i b f g;cases u with|some _ x N=>
      obtain⟨G,aa⟩:=h2 (P:=P) g N .slice3B (du _) w;split at h
      ·rename_i k d;simp only[bD]at h;subst h;have Q:k<=f:=by
        cases j with
        |none=>grind[dL]
        |some v x b=>exact(h2 (P:=P) d b .sliceB (du _) w).2
       have o:(Instr.sliceBounds J n c y (A x) (A z)).run P w= .ok (k,f,m) w:=by
        cases j with
        |none=>simp only[dL,bD]at d;subst d;simp[Instr.sliceBounds,H,G]
        |some v x b=>simp[Instr.sliceBounds,H,G,(h2 d b _ (du _) w).1]
       refine⟨.slice (A (if m=k then a else a.add (k*loc.esz))) (f-k) (m-k),?_,?_⟩
       ·simp[Instr.sliceAt,Instr.slice,run_underlying hu,o,run_sizeOf p];grind
       ·refine .az l (i+k) (f-k) _ loc _ (m-k) aw ad (λq aJ=>al) (λaj=> ?_);obtain⟨rfl,V⟩:=T ad;rw[if_neg ad,na];refine⟨?_,?_⟩
        ·grind
        ·refine Nat.le_trans (Nat.add_le_add_left (Nat.mul_le_mul_right _ ?_) _) V;omega
      grind
     grind
    grind
   grind
  grind
 ·rename_i e hu;cases aE;split at h
  ·rename_i O p;cases E;split at h
   ·rename_i f g;split at h
    ·rename_i k d;simp only[bD]at h;subst h;have W:f=0:=by
      cases u with
      |none=>grind[dL]
      |some v x b=>have:=(h2 (P:=P) g b .sliceAcap (du _) w).2;omega
     subst W;have ab:k=0:=by
      cases j with
      |none=>grind[dL]
      |some v x b=>have:=(h2 (P:=P) d b .sliceB (du _) w).2;omega
     subst ab;refine⟨.slice Z 0 0,?_,.ao⟩;have o:(Instr.sliceBounds J 0 0 y B Z).run P w= .ok (0,0,0) w:=by
      cases u with
      |none=>
       cases j with
       |none=>simp[Instr.sliceBounds]
       |some v x b=>simp[Instr.sliceBounds,(h2 d b _ (du _) w).1]
      |some v x b=>
       have:=(h2 (P:=P) g b .sliceAcap (du _) w).1;cases j with
       |none=>simp[Instr.sliceBounds,this]
       |some v x b=>simp[Instr.sliceBounds,this,(h2 d b _ (du _) w).1]
     simp[Instr.sliceAt,Instr.slice,run_underlying hu,o,run_sizeOf p]
    grind
   grind
  ·rename_i O ak p;cases E with|some _ z L=>
   split at h
   ·rename_i m hm;obtain⟨H,ai⟩:=h2 (P:=P) hm L .slice3Acap (du _) w;split at h
    ·rename_i b f g;cases u with|some _ x N=>
     obtain⟨G,aa⟩:=h2 (P:=P) g N .slice3B (du _) w;split at h
     ·rename_i k d;simp only[bD]at h;subst h;have Q:k<=f:=by
       cases j with
       |none=>grind[dL]
       |some v x b=>exact(h2 (P:=P) d b .sliceB (du _) w).2
      have ah:m=0:=ad;have Y:f=0:=ad;have ae:k=0:=ad;subst ah;subst Y;subst ae;have o:(Instr.sliceBounds J 0 0 y (A x) (A z)).run P w= .ok (0,0,0) w:=by
       cases j with
       |none=>simp[Instr.sliceBounds,H,G]
       |some v x b=>simp[Instr.sliceBounds,H,G,(h2 d b _ (du _) w).1]
      exact⟨.slice Z 0 0,by simp[Instr.sliceAt,Instr.slice,run_underlying hu,o,run_sizeOf p],.ao⟩
     grind
    grind
   grind
  grind
 grind

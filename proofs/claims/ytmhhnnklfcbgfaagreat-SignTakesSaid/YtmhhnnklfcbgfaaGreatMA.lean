/-
  Texts of one proof, laid together: Hv0 Hv1 Hv2 Hv3 Hv4 Hv5 Hv6 Hv7.
-/
import GoSem.Dispatch
import Derived.WalkKit
import Derived.Laws.IdiomCopy
set_option linter.unusedVariables false
set_option linter.unusedSimpArgs false
set_option linter.defProp false
open Option renaming some→A,none→Z
open Bool renaming true→J,false→I
namespace Go.cv
def aa{p:Prop}(h:p:=by omega):p:=h
def aG{p:Prop}(h:p:=by kernel_rfl):p:=h
def b0{p:Prop}(h:p:=by decide):p:=h
def al{p:Prop}(h:p:=by grind):p:=h
def aW{p:Prop}(h:p:=by simp):p:=h
def fH{p q:Prop}(h:q)(e:q->p:=by intro h;simpa using h):p:=e h
def ag{a b:Prop}(x:a)(y:b):a/\b:=⟨x,y⟩
def bE{α:Type}(a b:α):(A a=A b)=(a=b):=Option.some.injEq a b
def hk{α:Type}(a b:α):(bif J then a else b)=a:=rfl
def pC{α:Type}(a b:α):(bif I then a else b)=b:=rfl
theorem e4{α β:Type}{o:Option α}{f:α->Option β}{b:β}:o.bind f=A b↔∃a,o=A a/\f a=A b:=Option.bind_eq_some_iff
def dV{α β:Type}(a:α)(b:β)(c:α)(d:β):((a,b)=(c,d))=(a=c/\b=d):=Prod.mk.injEq a b c d
def ds(n:Nat):n<=n:=Nat.le_refl n
inductive af where
 |bool (b:Bool)
 |int (k:IntKind) (n:Int)
 |str (s:List UInt8)
 |ptr (l i c:Nat)
 |gC
 |az (l i n esz:Nat) (cap:Option Nat)
 |aq
 |map (l:Nat)
 |jC
 |func (fn:Fn) (first captured:List af)
 |nilFunc
 |iface (t:TypeId) (v:af)
 |nilIface
 |agg (cs:List af)
 |tuple (ak:List af)
instance:Inhabited af:=⟨.tuple []⟩
inductive bA where
 |row (ro:Bool) (esz:Nat) (els:List (List af))
 |ee (t:TypeId) (esz:Nat) (els:List (List af))
 |map (es:List (af×af))
 |dead
 |old (s esz:Nat) (els:List (List af))
inductive nu where
 |d0|d1|d2|d3|d4|d5|d6|d7
inductive bJ(α:Type) where
 |leaf
 |node (v:Option α) (bu a6 bd bo bO b3 cm dw:bJ α)
def Fe(n:Nat):nu:=match n with
 |0=> .d0|1=> .d1|2=> .d2|3=> .d3|4=> .d4|5=> .d5|6=> .d6|_=> .d7
def Xp{n m:Nat}(aL:n<8)(hm:m<8)(h:Fe n=Fe m):n=m:=by
 have ah:n=0\/n=1\/n=2\/n=3\/n=4\/n=5\/n=6\/n=7:=aa;have ai:m=0\/m=1\/m=2\/m=3\/m=4\/m=5\/m=6\/m=7:=aa;rcases ah with rfl|rfl|rfl|rfl|rfl|rfl|rfl|rfl<;>rcases ai with rfl|rfl|rfl|rfl|rfl|rfl|rfl|rfl<;>first|rfl|cases h
def p5:Nat->Nat->List nu
 |0,_=>[]
 |_+1,0=>[]
 |f+1,k+1=>Fe (k%8)::p5 f (k/8)
def path(k:Nat):List nu:=p5 k k
def adN:∀(f g k j:Nat),k<=f->j<=g->p5 f k=p5 g j->k=j:=by
 intro f
 induction f with
 |zero=>
  intro g k j b a h;have:k=0:=aa;subst this;cases j with
  |zero=>rfl
  |succ j=>
   cases g with
   |zero=>omega
   |succ g=>simp[p5]at h
 |succ f c=>
  intro g k j b a h;cases k with
  |zero=>
   cases j with
   |zero=>rfl
   |succ j=>
    cases g with
    |zero=>omega
    |succ g=>simp[p5]at h
  |succ k=>
   cases j with
   |zero=>cases g<;>simp[p5]at h
   |succ j=>
    cases g with
    |zero=>omega
    |succ g=>
     simp only[p5,List.cons.injEq]at h;have ah:=Xp aa aa h.1;grind
def Qh{k j:Nat}(h:path k=path j):k=j:=adN k j k j aa aa h
def bJ.kM{α:Type}:List nu->bJ α->Option α
 |[],.leaf=>Z
 |[],.node v _ _ _ _ _ _ _ _=>v
 |_::_,.leaf=>Z
 |d::p,.node _ bu a6 bd bo bO b3 cm dw=>match d with
  | .d0=>bJ.kM p bu| .d1=>bJ.kM p a6| .d2=>bJ.kM p bd| .d3=>bJ.kM p bo
  | .d4=>bJ.kM p bO| .d5=>bJ.kM p b3| .d6=>bJ.kM p cm| .d7=>bJ.kM p dw
def bJ.fo{α:Type}(x:α):List nu->bJ α->bJ α
 |[],.leaf=> .node (A x) .leaf .leaf .leaf .leaf .leaf .leaf .leaf .leaf
 |[],.node _ bu a6 bd bo bO b3 cm dw=> .node (A x) bu a6 bd bo bO b3 cm dw
 |d::p,.leaf=>match d with
  | .d0=> .node Z (bJ.fo x p .leaf) .leaf .leaf .leaf .leaf .leaf .leaf .leaf
  | .d1=> .node Z .leaf (bJ.fo x p .leaf) .leaf .leaf .leaf .leaf .leaf .leaf
  | .d2=> .node Z .leaf .leaf (bJ.fo x p .leaf) .leaf .leaf .leaf .leaf .leaf
  | .d3=> .node Z .leaf .leaf .leaf (bJ.fo x p .leaf) .leaf .leaf .leaf .leaf
  | .d4=> .node Z .leaf .leaf .leaf .leaf (bJ.fo x p .leaf) .leaf .leaf .leaf
  | .d5=> .node Z .leaf .leaf .leaf .leaf .leaf (bJ.fo x p .leaf) .leaf .leaf
  | .d6=> .node Z .leaf .leaf .leaf .leaf .leaf .leaf (bJ.fo x p .leaf) .leaf
  | .d7=> .node Z .leaf .leaf .leaf .leaf .leaf .leaf .leaf (bJ.fo x p .leaf)
 |d::p,.node v bu a6 bd bo bO b3 cm dw=>match d with
  | .d0=> .node v (bJ.fo x p bu) a6 bd bo bO b3 cm dw
  | .d1=> .node v bu (bJ.fo x p a6) bd bo bO b3 cm dw
  | .d2=> .node v bu a6 (bJ.fo x p bd) bo bO b3 cm dw
  | .d3=> .node v bu a6 bd (bJ.fo x p bo) bO b3 cm dw
  | .d4=> .node v bu a6 bd bo (bJ.fo x p bO) b3 cm dw
  | .d5=> .node v bu a6 bd bo bO (bJ.fo x p b3) cm dw
  | .d6=> .node v bu a6 bd bo bO b3 (bJ.fo x p cm) dw
  | .d7=> .node v bu a6 bd bo bO b3 cm (bJ.fo x p dw)
def bJ.zY{α:Type}(p:List nu):bJ.kM p (.leaf:bJ α)=none:=by cases p<;>rfl
def bJ.zZ{α:Type}(x:α):∀(p:List nu) (t:bJ α),bJ.kM p (bJ.fo x p t)=A x
 |[],.leaf=>rfl
 |[],.node .. =>rfl
 |d::p,.leaf=>by cases d<;>exact bJ.zZ x p _
 |d::p,.node .. =>by cases d<;>exact bJ.zZ x p _
def bJ.Fw{α:Type}(x:α):∀(p q:List nu) (t:bJ α),p≠q->bJ.kM q (bJ.fo x p t)=bJ.kM q t
 |[],[],_,h=>absurd rfl h
 |[],e::q,.leaf,_=>by cases e<;>exact bJ.zY q
 |[],e::q,.node ..,_=>rfl
 |d::p,[],.leaf,_=>by cases d<;>rfl
 |d::p,[],.node ..,_=>by cases d<;>rfl
 |d::p,e::q,.leaf,h=>by
  cases d<;>cases e<;>first
   |exact bJ.zY q
   |(show bJ.kM q (bJ.fo x p .leaf)=Z
     rw[bJ.Fw x p q .leaf (λa=>h (by rw[a]))];exact bJ.zY q)
 |d::p,e::q,.node ..,h=>by
  cases d<;>cases e<;>first
   |rfl
   |exact bJ.Fw x p q _ (λa=>h (by rw[a]))
def bJ.get{α:Type}(t:bJ α)(k:Nat):Option α:=bJ.kM (path k) t
def bJ.put{α:Type}(x:α)(_:Nat)(t:bJ α)(k:Nat):bJ α:=bJ.fo x (path k) t
theorem bJ.s8{α:Type}(k:Nat):(bJ.leaf:bJ α).get k=none:=bJ.zY _
theorem bJ.vk{α:Type}(x:α):∀(f:Nat) (t:bJ α) (k:Nat),k<f->(bJ.put x f t k).get k=A x:=λ_ t k _=>bJ.zZ x (path k) t
theorem bJ.s_{α:Type}(x:α):∀(f:Nat) (t:bJ α) (k j:Nat),k≠j->(bJ.put x f t k).get j=t.get j:=λ_ t _ _ h=>bJ.Fw x _ _ t (λe=>h (Qh e))
structure ae where
 t:bJ bA
 next:Nat
def ae.get(H:ae)(l:Nat):Option bA:=if l<H.next then H.t.get l else Z
def ae.set(H:ae)(l:Nat)(b:bA):ae:={H with t:=bJ.put b (l+1) H.t l}
def ae.push(H:ae)(b:bA):ae:={t:=bJ.put b (H.next+1) H.t H.next,next:=H.next+1}
def ae.empty:ae:=⟨.leaf,0⟩
@[simp] theorem ae.vC(H:ae)(l:Nat)(b:bA):(H.set l b).next=H.next:=rfl
@[simp] theorem ae.fW(H:ae)(b:bA):(H.push b).next=H.next+1:=rfl
theorem ae.bm{H:ae}{l:Nat}{b:bA}(h:H.get l=A b):l<H.next:=by
 grind[ae.get]
theorem ae.cO{H:ae}{l:Nat}{b:bA}(h:l<H.next):(H.set l b).get l=A b:=by
 show(if l<H.next then(bJ.put b (l+1) H.t l).get l else Z)=A b;grind[bJ.vk]
theorem ae.b_{H:ae}{l j:Nat}{b:bA}(h:l≠j):(H.set l b).get j=H.get j:=by
 show(if j<H.next then(bJ.put b (l+1) H.t l).get j else Z)=(if j<H.next then H.t.get j else Z);grind[bJ.s_]
theorem ae.a1(H:ae)(b:bA):(H.push b).get H.next=A b:=by
 show(if H.next<H.next+1 then(bJ.put b (H.next+1) H.t H.next).get H.next else Z)=A b;grind[bJ.vk]
theorem ae.eI{H:ae}{j:Nat}{b:bA}(h:j≠H.next):(H.push b).get j=H.get j:=by
 show(if j<H.next+1 then(bJ.put b (H.next+1) H.t H.next).get j else Z)=(if j<H.next then H.t.get j else Z);grind[bJ.s_]
section
mutual
def af.beq:af->af->Bool
 | .bool a,.bool b=>a==b
 | .int k n,.int o m=>decide (k=o)&&decide (n=m)
 | .str s,.str t=>decide (s=t)
 | .ptr l i c,.ptr d g f=>decide (l=d)&&decide (i=g)&&decide (c=f)
 | .gC,.gC=>J
 | .az l i n e c,.az d g p j f=>decide (l=d)&&decide (i=g)&&decide (n=p)&&decide (e=j)&&decide (c=f)
 | .aq,.aq=>J
 | .map l,.map d=>decide (l=d)
 | .jC,.jC=>J
 | .nilFunc,.nilFunc=>J
 | .iface t v,.iface q r=>decide (t=q)&&af.beq v r
 | .nilIface,.nilIface=>J
 | .agg xs,.agg h=>e9.beq xs h
 | .tuple xs,.tuple h=>e9.beq xs h
 |_,_=>I
def e9.beq:List af->List af->Bool
  |[],[]=>J
  |x::xs,y::a=>af.beq x y&&e9.beq xs a
  |_,_=>I
 end
mutual
theorem af.beq_eq:∀{a b:af},af.beq a b=J->a=b:=by
 intro a b h;cases a<;>cases b<;>simp only[af.beq]at h<;>first
  |(cases h;done)
  |rfl
  |(simp at h;simp[h];done)
  |skip
 ·simp only[Bool.and_eq_true,decide_eq_true_eq]at h;obtain⟨rfl,h⟩:=h;rw[af.beq_eq h]
 ·rw[e9.beq_eq h]
 ·rw[e9.beq_eq h]
theorem e9.beq_eq:∀{a b:List af},e9.beq a b=J->a=b:=by
  intro a b h;cases a with
  |nil=>grind[e9.beq]
  |cons x xs=>cases b with
   |nil=>simp[e9.beq]at h
   |cons y c=>
    simp only[e9.beq,Bool.and_eq_true]at h;rw[af.beq_eq h.1,e9.beq_eq h.2]
 end
structure Loc where
 block:Nat
 off:Nat
 esz:Nat
 size:Nat
def Env:Type:=Nat->Option Loc
def Env.le(ρ a:Env):Prop:=∀l loc,ρ l=A loc->a l=A loc
def Env.le_refl(ρ:Env):ρ.le ρ:=λ_ _ h=>h
theorem Env.le_trans{ρ a b:Env}(h:ρ.le a)(cD:a.le b):ρ.le b:=λl loc e=>cD l loc (h l loc e)
mutual
inductive bC(ρ:Env):af->Value->Prop where
 |bool (b:Bool):bC ρ (.bool b) (.bool b)
 |int (k:IntKind) (n:Int):bC ρ (.int k n) (.int k n)
 |str (s:List UInt8):bC ρ (.str s) (.string ⟨s.toArray⟩)
 |ptr (l i c:Nat) (loc:Loc) (h:ρ l=some loc):bC ρ (.ptr l i c) (.pointer (some ⟨loc.block,loc.off+i*loc.esz+c,none⟩))
 |gC:bC ρ .gC (.pointer none)
 |az (l i n:Nat) (cap:Option Nat) (loc:Loc) (a:Addr) (c:Nat) (h:ρ l=some loc) (aL:n<=c) (aA:∀k,cap=some k->c=k)
  (g:0<c->a=⟨loc.block,loc.off+i*loc.esz,none⟩/\loc.off+(i+c)*loc.esz<=loc.size):bC ρ (.az l i n loc.esz cap) (.slice (some a) n c)
 |aq:bC ρ .aq (.slice none 0 0)
 |map (l:Nat) (loc:Loc) (h:ρ l=some loc):bC ρ (.map l) (.map (some loc.block))
 |jC:bC ρ .jC (.map none)
 |func (fn:Fn) (f c:List af) (e d:List Value) (aB:bZ ρ f e) (aA:bZ ρ c d):bC ρ (.func fn f c) (.func fn e.toArray d.toArray)
 |nilFunc:bC ρ .nilFunc .nilFunc
 |iface (t:TypeId) (v:af) (x:Value) (h:bC ρ v x):bC ρ (.iface t v) (.iface t x)
 |nilIface:bC ρ .nilIface .nilIface
 |agg (cs:List af) (xs:List Value) (h:bZ ρ cs xs):bC ρ (.agg cs) (.agg xs.toArray)
 |tuple (cs:List af) (xs:List Value) (h:bZ ρ cs xs):bC ρ (.tuple cs) (.tuple xs.toArray)
inductive bZ(ρ:Env):List af->List Value->Prop where
  |nil:bZ ρ [] []
  |cons (v:af) (x:Value) (ak:List af) (xs:List Value) (h:bC ρ v x) (a:bZ ρ ak xs):bZ ρ (v::ak) (x::xs)
 end
mutual
def bC.mono{ρ d:Env}(hle:ρ.le d){v:af}{x:Value}(h:bC ρ v x):bC d v x:=by
 cases h with
 |bool b=>exact .bool b
 |int k n=>exact .int k n
 |str s=>exact .str s
 |ptr l i c loc h=>exact .ptr l i c loc (hle _ _ h)
 |gC=>exact .gC
 |az l i n cap loc a c h aL aA j=>exact .az l i n cap loc a c (hle _ _ h) aL aA j
 |aq=>exact .aq
 |map l loc h=>exact .map l loc (hle _ _ h)
 |jC=>exact .jC
 |func fn f c g e aB aA=>exact .func fn f c g e (bZ.mono hle aB) (bZ.mono hle aA)
 |nilFunc=>exact .nilFunc
 |iface t v x h=>exact .iface t v x (bC.mono hle h)
 |nilIface=>exact .nilIface
 |agg cs xs h=>exact .agg cs xs (bZ.mono hle h)
 |tuple cs xs h=>exact .tuple cs xs (bZ.mono hle h)
def bZ.mono{ρ a:Env}(hle:ρ.le a){v:List af}{x:List Value}(h:bZ ρ v x):bZ a v x:=by
  cases h with
  |nil=>exact .nil
  |cons v x ak xs h b=>exact .cons v x ak xs (bC.mono hle h) (bZ.mono hle b)
 end
def bZ.length{ρ:Env}:∀{ak:List af} {xs:List Value},bZ ρ ak xs->ak.length=xs.length
 |[],_,h=>by cases h;rfl
 |_::_,_,h=>by cases h with|cons _ _ _ _ _ a=>simp[bZ.length a]
theorem bZ.get{ρ:Env}:∀{ak:List af} {xs:List Value},bZ ρ ak xs->∀(j:Nat) (v:af),ak[j]? =A v->∃x,xs[j]? =A x/\bC ρ v x
 |[],_,h,j,v,a=>al
 |w::ak,_,h,j,v,a=>by
  cases h with
  |cons _ x _ xs c b=>
   cases j with
   |zero=>grind
   |succ j=>simpa using bZ.get b j v al
theorem bZ.append{ρ:Env}:∀{ak us:List af} {xs b:List Value},bZ ρ ak xs->bZ ρ us b->bZ ρ (ak++us) (xs++b)
 |[],_,_,_,h,cD=>by cases h;grind
 |_::_,_,_,_,h,cD=>by cases h with|cons _ _ _ _ a ft=>exact .cons _ _ _ _ a (bZ.append ft cD)
def bZ.PS{ρ:Env}:∀{ak:List af} {xs:List Value},ak.length=xs.length->(∀(j:Nat) (v:af) (x:Value),ak[j]? =A v->xs[j]? =A x->bC ρ v x)->bZ ρ ak xs
 |[],[],_,_=> .nil
 |[],_::_,h,_=>al
 |_::_,[],h,_=>al
 |v::ak,x::xs,h,au=> .cons _ _ _ _ (au 0 v x rfl rfl) (bZ.PS al λj a b c d=>au (j+1) a b al al)
theorem bZ.set{ρ:Env}{v:af}{x:Value}(h:bC ρ v x):∀{ak:List af} {xs:List Value} (j:Nat),bZ ρ ak xs->bZ ρ (ak.set j v) (xs.set j x)
 |[],_,_,b=>by cases b;exact .nil
 |_::_,_,0,b=>by cases b with|cons _ _ _ _ a ft=>exact .cons _ _ _ _ h ft
 |_::_,_,j+1,b=>by cases b with|cons _ _ _ _ a ft=>exact .cons _ _ _ _ a (bZ.set h j ft)
def af.one:af->Bool
 | .agg _| .tuple _=>I
 |_=>J
def af.cells:af->List af
 | .agg cs=>cs
 |v=>[v]
def bC.GC{ρ:Env}{v:af}{x:Value}(h:bC ρ v x)(ah:v.one=J):x.oneCell'=true:=by
 cases h<;>first|rfl|cases ah
theorem bC.cells{ρ:Env}{v:af}{x:Value}(h:bC ρ v x):bZ ρ v.cells x.cells.toList:=by
 cases h with
 |agg cs xs h=>grind[af.cells,Value.cells]
 |bool b=>exact .cons _ _ _ _ (.bool b) .nil
 |int k n=>exact .cons _ _ _ _ (.int k n) .nil
 |str s=>exact .cons _ _ _ _ (.str s) .nil
 |ptr l i c loc h=>exact .cons _ _ _ _ (.ptr l i c loc h) .nil
 |gC=>exact .cons _ _ _ _ .gC .nil
 |az l i n cap loc a c h aL aA g=>exact .cons _ _ _ _ (.az l i n cap loc a c h aL aA g) .nil
 |aq=>exact .cons _ _ _ _ .aq .nil
 |map l loc h=>exact .cons _ _ _ _ (.map l loc h) .nil
 |jC=>exact .cons _ _ _ _ .jC .nil
 |func fn f c e d aB aA=>exact .cons _ _ _ _ (.func fn f c e d aB aA) .nil
 |nilFunc=>exact .cons _ _ _ _ .nilFunc .nil
 |iface t v x h=>exact .cons _ _ _ _ (.iface t v x h) .nil
 |nilIface=>exact .cons _ _ _ _ .nilIface .nil
 |tuple cs xs h=>exact .cons _ _ _ _ (.tuple cs xs h) .nil
def gW(ρ:Env)(w:World)(loc:Loc)(ro:Bool)(esz:Nat)(els:List (List af)):Prop:=loc.esz=esz/\∃c t a,w.heap[loc.block]? =A (.cells c t a)/\(loc.size=c.size/\(ro=I->∀o,o<c.size->¬(a.1<=o/\o<a.2)))/\ ∀(i:Nat) (e:List af),els[i]? =A e->e.length=esz/\∀(j:Nat) (v:af),e[j]? =A v->v.one=J/\∃x,c[loc.off+i*esz+j]? =A x/\bC ρ v x
def ps(ρ:Env)(w:World)(loc:Loc)(t:TypeId)(esz:Nat)(els:List (List af)):Prop:=gW ρ w loc I esz els/\∃c a,w.heap[loc.block]? =A (.cells c t a)/\loc.off=0
def Er(ρ:Env)(w:World)(loc:Loc)(es:List (af×af)):Prop:=∃ents clock,w.heap[loc.block]? =A (.map ents clock)/\bZ ρ (es.map (·.1)) (ents.toList.map (·.key))/\bZ ρ (es.map (·.2)) (ents.toList.map (·.val))
def ae.rw(H:ae)(l:Nat):Prop:=(∃esz els,H.get l=A (.row I esz els))\/(∃es,H.get l=A (.map es))\/∃t esz els,H.get l=A (.ee t esz els)
def ae.live(H:ae)(l:Nat):Prop:=(∃ro esz els,H.get l=A (.row ro esz els))\/(∃es,H.get l=A (.map es))\/∃t esz els,H.get l=A (.ee t esz els)
theorem ae.rw.live{H:ae}{l:Nat}(h:H.rw l):H.live l:=by
 rcases h with⟨e,s,h⟩|h
 ·exact .inl ⟨_,e,s,h⟩
 ·exact .inr h
def bA.ri:bA->Bool
 | .old _ _ _=>J
 |_=>I
def bA.vn:bA->Bool
 | .row J _ _=>J
 |_=>I
def ae.G4{H:ae}{l:Nat}{b:bA}(a:b.vn=I):∀k esz els,(H.set l b).get k=A (.row J esz els)->H.get k=A (.row J esz els):=by
 intro k esz els h;by_cases c:l=k
 ·subst c;have d:l<H.next:=by have:=ae.bm h;simpa using this
  rw[ae.cO d]at h;simp only[bE]at h;subst h;cases a
 grind[ae.b_]
def ae.G3{H:ae}{b:bA}(a:b.vn=I):∀k esz els,(H.push b).get k=A (.row J esz els)->H.get k=A (.row J esz els):=by
 intro k esz els h;by_cases c:k=H.next
 ·subst c;rw[ae.a1]at h;simp only[bE]at h;subst h;cases a
 grind[ae.eI]
def gW.frame{ρ b:Env}{w a:World}{loc:Loc}{ro:Bool}{esz:Nat}{els:List (List af)}(h:gW ρ w loc ro esz els)(hle:ρ.le b)(n:a.heap[loc.block]? =w.heap[loc.block]?):gW b a loc ro esz els:=by
 obtain⟨g,c,t,e,p,k,au⟩:=h;refine⟨g,c,t,e,al,k,?_⟩;intro i d f;obtain⟨ah,ai⟩:=au i d f;refine⟨ah,λj v l=> ?_⟩;obtain⟨ay,x,aF,m⟩:=ai j v l;exact⟨ay,x,aF,m.mono hle⟩
def gW.lt{ρ:Env}{w:World}{loc:Loc}{ro:Bool}{esz:Nat}{els:List (List af)}(h:gW ρ w loc ro esz els):loc.block<w.heap.size:=by
 obtain⟨_,c,t,a,p,_⟩:=h;grind
def po(ρ:Env)(O:Nat->Prop)(w:World)(l s esz:Nat)(els:List (List af)):Prop:=∃loc,ρ l=A loc/\loc.block<w.heap.size/\(ρ s=A loc\/(gW ρ w loc J esz els/\¬O loc.block))
def po.step{ρ d:Env}{O c:Nat->Prop}{w a:World}{l s esz:Nat}{els:List (List af)}(h:po ρ O w l s esz els)(hle:ρ.le d)(f:w.heap.size<=a.heap.size)(aB:∀b,b<w.heap.size->¬O b->a.heap[b]? =w.heap[b]?)(aX:∀b,c b->O b\/w.heap.size<=b):po d c a l s esz els:=by
 obtain⟨loc,ah,e,ai⟩:=h;refine⟨loc,hle _ _ ah,aa,ai.imp (hle _ _) λay=>⟨ay.1.frame hle (aB _ ay.1.lt ay.2),λaM=> ?_⟩⟩;grind
def e5(ρ:Env)(H:ae)(b:Nat):Prop:=∃l loc,H.rw l/\ρ l=A loc/\loc.block=b
structure Rel(ρ:Env)(H:ae)(w:World):Prop where
 row:∀l ro esz els,H.get l=some (.row ro esz els)->∃loc,ρ l=some loc/\gW ρ w loc ro esz els
 map:∀l es,H.get l=some (.map es)->∃loc,ρ l=some loc/\Er ρ w loc es
 ee:∀l t esz els,H.get l=some (.ee t esz els)->∃loc,ρ l=some loc/\ps ρ w loc t esz els
 apart:∀l a loc b,H.rw l->H.live a->l≠a->ρ l=some loc->ρ a=some b->loc.block≠b.block
 old:∀l s esz els,H.get l=some (.old s esz els)->po ρ (e5 ρ H) w l s esz els
def ze(ρ:Env)(H:ae)(w:World)(a:Env)(H':ae):Prop:=∀k s esz els,H'.get k=A (.old s esz els)->(∃s esz els,H.get k=A (.old s esz els))\/∃loc,a k=A loc/\(e5 ρ H loc.block\/w.heap.size<=loc.block)
def ze.same{ρ a:Env}{H H':ae}{w:World}(h:∀k s esz els,H'.get k=A (.old s esz els)->H.get k=A (.old s esz els)):ze ρ H w a H':=λk s esz els e=>al
def ae.AI{H:ae}{l:Nat}{b:bA}(a:b.ri=I):∀k s esz els,(H.set l b).get k=A (.old s esz els)->H.get k=A (.old s esz els):=by
 intro k s esz els h;by_cases c:l=k
 ·subst c;have d:l<H.next:=by have:=ae.bm h;simpa using this
  rw[ae.cO d]at h;simp only[bE]at h;subst h;cases a
 grind[ae.b_]
theorem ae.rB{H:ae}{b:bA}(a:b.ri=I):∀k s esz els,(H.push b).get k=A (.old s esz els)->H.get k=A (.old s esz els):=by
 intro k s esz els h;by_cases c:k=H.next
 ·subst c;rw[ae.a1]at h;simp only[bE]at h;subst h;cases a
 grind[ae.eI]
structure Step(ρ:Env)(H:ae)(w:World)(c:Env)(H':ae)(a:World):Prop where
 le:ρ.le c
 next:H.next<=H'.next
 keep:∀l,l<H.next\/H'.next<=l->c l=ρ l
 rel:Rel c H' a
 os:a.os=w.os
 tape:a.tape=w.tape
 output:a.output=w.output
 size:w.heap.size<=a.heap.size
 frame:∀b,b<w.heap.size->¬e5 ρ H b->a.heap[b]? =w.heap[b]?
 own:∀b,e5 c H' b->e5 ρ H b\/w.heap.size<=b
 ro:∀l esz els,H'.get l=some (.row true esz els)->H.get l=some (.row true esz els)
 olds:ze ρ H w c H'
theorem Step.refl{ρ:Env}{H:ae}{w:World}(h:Rel ρ H w):Step ρ H w ρ H w:=
 ⟨ρ.le_refl,aa,λ_ _=>rfl,h,rfl,rfl,rfl,aa,λ_ _ _=>rfl,λ_ h=> .inl h,λ_ _ _ h=>h,.same λ_ _ _ _ h=>h⟩
theorem Step.trans{ρ n o:Env}{H g i:ae}{w j m:World}(h:Step ρ H w n g j)(k:Step n g j o i m):Step ρ H w o i m where
 le:=Env.le_trans h.le k.le
 next:=Nat.le_trans h.next k.next
 keep:=λl ar=>(k.keep l (ar.imp (λx=>Nat.lt_of_lt_of_le x h.next) id)).trans (h.keep l (ar.imp id (λx=>Nat.le_trans k.next x)))
 ro:=λl esz els e=>h.ro l esz els (k.ro l esz els e)
 olds:=λl s esz els e=>by
  rcases k.olds l s esz els e with⟨r,q,p,d⟩|⟨loc,d,f⟩
  ·exact(h.olds l r q p d).imp id λ⟨loc,f,a⟩=>⟨loc,k.le _ _ f,a⟩
  ·exact .inr ⟨loc,d,f.elim (λa=>h.own _ a) λa=> .inr (Nat.le_trans h.size a)⟩
 rel:=k.rel
 os:=k.os.trans h.os
 tape:=k.tape.trans h.tape
 output:=k.output.trans h.output
 size:=Nat.le_trans h.size k.size
 frame:=λb c aL=>by
  rw[k.frame b (Nat.lt_of_lt_of_le c h.size) (λaX=>(h.own b aX).elim aL aa),h.frame b c aL]
 own:=λb c=>(k.own b c).elim (λaX=>h.own b aX) (λhle=> .inr (Nat.le_trans h.size hle))
def J3(ρ:Env)(n m:Nat):Prop:=∀l,n<=l->l<m->ρ l=Z
structure jL(E ρ:Env)(n m:Nat):Prop where
 new:J3 ρ n m
 le:E.le ρ
def jL.left{E ρ:Env}{n m k:Nat}(h:jL E ρ n k)(hm:m<=k):jL E ρ n m:=⟨λl a b=>h.new l a aa,h.le⟩
def jL.after{E ρ d:Env}{H c:ae}{w e:World}{k:Nat}(h:jL E ρ H.next k)(s:Step ρ H w d c e):jL E d c.next k:=⟨λl a b=>by
 rw[s.keep l (.inr a)];exact h.new l (Nat.le_trans s.next a) b,Env.le_trans h.le s.le⟩
def Rel.drew{ρ:Env}{H:ae}{w:World}(h:Rel ρ H w):Rel ρ H w.drew:=⟨h.row,h.map,h.ee,h.apart,h.old⟩
end
def ev(P:Program)(t:TypeId):Option Bool:=
 match P.underlying t with
 |some (.struct _)|some (.array _ _)=>A J
 |some _=>A I
 |none=>Z
def cM(P:Program)(t:TypeId):Option Nat:=(P.info? t).map (·.size)
def A3{P:Program}{t:TypeId}{b:Bool}(h:ev P t=A b)(w:World):(isAgg t).run P w= .ok b w:=by
 unfold ev at h;unfold isAgg;cases hu:P.underlying t with
 |none=>grind
 |some d=>
  rw[hu]at h;simp only[Sem.run_bind,run_underlying hu,Result.andThen_ok];cases d<;>simp_all
def run_sizeOf{P:Program}{t:TypeId}{n:Nat}(h:cM P t=A n)(w:World):(sizeOf t).run P w= .ok n w:=by
 unfold cM at h;cases aP:P.info? t with
 |none=>grind
 |some i=>rw[aP]at h;simp at h;simp[sizeOf,typeInfo,aP,h]
def apart(P:Program)(t:TypeId)(cs:List af)(off:Nat):Option af:=
 match ev P t with
 |some J=>(match cM P t with|some n=>A (.agg ((cs.drop off).take n))|none=>Z)
 |some I=>cs[off]?
 |none=>Z
def bZ.drop{ρ:Env}:∀{ak:List af} {xs:List Value} (n:Nat),bZ ρ ak xs->bZ ρ (ak.drop n) (xs.drop n)
 |_,_,0,h=>al
 |[],_,n+1,h=>by cases h;simpa using bZ.nil
 |_::_,_,n+1,h=>by cases h with|cons _ _ _ _ a ft=>simpa using bZ.drop n ft
def bZ.take{ρ:Env}:∀{ak:List af} {xs:List Value} (n:Nat),bZ ρ ak xs->bZ ρ (ak.take n) (xs.take n)
 |_,_,0,h=>by simpa using bZ.nil
 |[],_,n+1,h=>by cases h;simpa using bZ.nil
 |_::_,_,n+1,h=>by cases h with|cons _ _ _ _ a ft=>simpa using bZ.cons _ _ _ _ a (bZ.take n ft)
def py{P:Program}{t:TypeId}{cs:List af}{off:Nat}{v:af}{ρ:Env}{xs:List Value}(h:apart P t cs off=A v)(b:bZ ρ cs xs)(w:World):
  ∃x,(part t xs.toArray off).run P w= .ok x w/\bC ρ v x:=by
 unfold apart at h;split at h
 ·rename_i a;split at h
  ·rename_i n aL;simp at h;subst h;refine⟨.agg (((xs.drop off).take n).toArray),?_,.agg _ _ ((b.drop off).take n)⟩;unfold part;simp only[Sem.run_bind,A3 a,Result.andThen_ok,if_true,run_sizeOf aL];simp[List.extract_toArray,List.extract_eq_take_drop]
  grind
 ·rename_i a;obtain⟨x,aF,c⟩:=b.get off v h;refine⟨x,?_,c⟩;unfold part;simp[A3 a,aF]
 grind
def l9(op:BinOp)(k:IntKind)(a b:Int):Option af:=
 match op with
 | .add=>A (.int k (k.wrap (a+b)))
 | .sub=>A (.int k (k.wrap (a-b)))
 | .mul=>A (.int k (k.wrap (a*b)))
 | .quo=>if b=0 then Z else A (.int k (k.wrap (a.tdiv b)))
 | .rem=>if b=0 then Z else A (.int k (a.tmod b))
 | .and=>A (.int k (k.wrap ((BitVec.ofInt k.bits a&&&BitVec.ofInt k.bits b).toNat:Int)))
 | .or=>A (.int k (k.wrap ((BitVec.ofInt k.bits a|||BitVec.ofInt k.bits b).toNat:Int)))
 | .xor=>A (.int k (k.wrap ((BitVec.ofInt k.bits a^^^BitVec.ofInt k.bits b).toNat:Int)))
 | .andNot=>A (.int k (k.wrap ((BitVec.ofInt k.bits a&&& ~~~BitVec.ofInt k.bits b).toNat:Int)))
 | .eql=>A (.bool (a==b))
 | .neq=>A (.bool (a != b))
 | .lss=>A (.bool (decide (a<b)))
 | .leq=>A (.bool (decide (a<=b)))
 | .gtr=>A (.bool (decide (b<a)))
 | .geq=>A (.bool (decide (b<=a)))
 | .shl| .shr=>Z
def tc(op:BinOp)(k:IntKind)(a b:Int):Option af:=
 if b<0 then Z else
 match op with
 | .shl=>A (.int k (k.wrap (a*2^(min b.toNat k.bits))))
 | .shr=>A (.int k (a.fdiv (2^(min b.toNat k.bits))))
 |_=>Z
def D3(op:BinOp)(a b:List UInt8):Option af:=
 match op with
 | .add=>if a.length+b.length<=9223372036854775807 then A (.str (a++b))else Z
 | .eql=>A (.bool (a==b))
 | .neq=>A (.bool (!(a==b)))
 | .lss=>A (.bool (Op.bytesLess a b))
 | .leq=>A (.bool (Op.bytesLess a b||a==b))
 | .gtr=>A (.bool (!(Op.bytesLess a b||a==b)))
 | .geq=>A (.bool (!Op.bytesLess a b))
 |_=>Z
def sG(P:Program)(eq:TypeId->af->af->Option Bool):List Field->List af->List af->Option Bool
 |[],_,_=>A J
 |f::fs,xs,c=>
  if f.name≠ "_" then
   match apart P f.type xs f.offset,apart P f.type c f.offset with
   |some a,A b=>(match eq f.type a b with|some J=>sG P eq fs xs c|some I=>A I|none=>Z)
   |_,_=>Z
  else sG P eq fs xs c
def uX(P:Program)(eq:TypeId->af->af->Option Bool)(e:TypeId)(n:Nat):Nat->Nat->List af->List af->Option Bool
 |0,_,_,_=>A J
 |k+1,i,xs,c=>
  match apart P e xs (i*n),apart P e c (i*n)with
  |some a,A b=>(match eq e a b with|some J=>uX P eq e n k (i+1) xs c|some I=>A I|none=>Z)
  |_,_=>Z
def js(P:Program):Nat->TypeId->af->af->Option Bool
 |0,_,_,_=>Z
 |d+1,t,x,y=>
  match P.underlying t,x,y with
  |some .bool,.bool a,.bool b=>A (a==b)
  |some (.int _),.int k a,.int f b=>if k=f then A (a==b)else Z
  |some .string,.str a,.str b=>A (a==b)
  |some (.pointer _),.gC,.gC=>A J
  |some (.pointer _),.gC,.ptr .. =>A I
  |some (.pointer _),.ptr ..,.gC=>A I
  |some (.interface _),.nilIface,.nilIface=>A J
  |some (.interface _),.nilIface,.iface .. =>A I
  |some (.interface _),.iface ..,.nilIface=>A I
  |some (.struct fs),.agg xs,.agg c=>if P.stoodInHeld t then Z else sG P (js P d) fs.toList xs c
  |some (.array len e),.agg xs,.agg c=>(match cM P e with|some n=>uX P (js P d) e n len 0 xs c|none=>Z)
  |some (.slice _),.aq,.aq=>A J
  |some (.slice _),.aq,.az .. =>A I
  |some (.slice _),.az ..,.aq=>A I
  |some (.map _ _),.jC,.jC=>A J
  |some (.map _ _),.jC,.map _=>A I
  |some (.map _ _),.map _,.jC=>A I
  |some (.func _ _ _),.nilFunc,.nilFunc=>A J
  |some (.func _ _ _),.nilFunc,.func .. =>A I
  |some (.func _ _ _),.func ..,.nilFunc=>A I
  |_,_,_=>Z
def isConst:Operand->Bool
 | .const _=>J
 |_=>I
def q8(P:Program)(t:TypeId)(x y:Operand)(a b:af):Bool:=
 match a,b with
 | .nilIface,.nilIface=>isConst x||isConst y
 | .agg _,.agg _=> !P.eqGuardType P.depth t
 |_,_=>J
def uU(P:Program)(op:BinOp)(t:TypeId)(c d:Operand)(x y:af):Option af:=
 match x,y with
 | .int k a,.int e b=>
  (match op with
  | .shl=>tc .shl k a b
  | .shr=>tc .shr k a b
  |op=>if k=e then l9 op k a b else Z)
 | .str a,.str b=>D3 op a b
 |x,y=>
  (match op with
  | .eql=>if q8 P t c d x y then(js P 10000 t x y).map .bool else Z
  | .neq=>if q8 P t c d x y then(js P 10000 t x y).map λb=> .bool (!b)else Z
  |_=>Z)
def jX(op:UnOp)(x:af):Option af:=
 match op,x with
 | .neg,.int k n=>A (.int k (k.wrap (0-n)))
 | .not,.bool b=>A (.bool (!b))
 |_,_=>Z
end Go.cv
namespace Go
def Operand.z_:Operand->Bool
 | .const _=>J
 |_=>I
end Go
namespace Go.cv
section
variable {P:Program}{ρ:Env}
theorem G6(w:World)(eq:TypeId->af->af->Option Bool)(d:TypeId->Value->Value->Sem Bool)
  (heq:∀t a b x y c,eq t a b=A c->bC ρ a x->bC ρ b y->(d t x y).run P w= .ok c w) {xs m:List af} {l n:List Value} (aF:bZ ρ xs l) (e:bZ ρ m n):
  ∀(fs:List Field) (b:Bool),sG P eq fs xs m=A b->
   (forIn fs ((Z:Option Bool),()) (λf _=>
    (if f.name≠ "_" then do
     let a<-part f.type l.toArray f.offset
     let b<-part f.type n.toArray f.offset
     let c<-d f.type a b
     if(!c)=J then pure (ForInStep.done (A I,()))else pure (ForInStep.yield (Z,()))
    else pure (ForInStep.yield (Z,())):Sem (ForInStep (Option Bool×Unit))))).run P w= .ok (if b then(Z,())else(A I,())) w
 |[],b,h=>by
  grind[sG,Sem.run_pure]
 |f::fs,b,h=>by
  unfold sG at h;rw[List.forIn_cons];by_cases aL:f.name≠ "_"
  ·rw[if_pos aL]at h;split at h
   ·rename_i a b' o p;obtain⟨x,j,g⟩:=py o aF w;obtain⟨y,k,i⟩:=py p e w;split at h
    ·rename_i he;have au:=heq _ _ _ _ _ _ he g i;have q:=G6 w eq d heq aF e fs b h;simp only[if_pos aL,Sem.run_bind,j,k,au,Result.andThen_ok,Bool.not_true,Bool.false_eq_true,if_false,Sem.run_pure];omega
    ·rename_i he;have au:=heq _ _ _ _ _ _ he g i;simp at h;subst h;simp only[if_pos aL,Sem.run_bind,j,k,au,Result.andThen_ok,Bool.not_false,if_true,Sem.run_pure];rfl
    grind
   grind
  ·rw[if_neg aL]at h;have q:=G6 w eq d heq aF e fs b h;grind
theorem Rv(w:World)(e:TypeId)(n:Nat)(eq:TypeId->af->af->Option Bool)(d:TypeId->Value->Value->Sem Bool)
  (heq:∀t a b x y c,eq t a b=A c->bC ρ a x->bC ρ b y->(d t x y).run P w= .ok c w) {xs p:List af} {o q:List Value} (aF:bZ ρ xs o) (l:bZ ρ p q):
  ∀(k i:Nat) (b:Bool),uX P eq e n k i xs p=A b->
   (forIn (List.range' i k) ((Z:Option Bool),()) (λi _=>
    (do
     let a<-part e o.toArray (i*n)
     let b<-part e q.toArray (i*n)
     let c<-d e a b
     if(!c)=J then pure (ForInStep.done (A I,()))else pure (ForInStep.yield (Z,())):Sem (ForInStep (Option Bool×Unit))))).run P w= .ok (if b then(Z,())else(A I,())) w
 |0,i,b,h=>by
  grind[uX,Sem.run_pure]
 |k+1,i,b,h=>by
  unfold uX at h;rw[List.range'_succ,List.forIn_cons];split at h
  ·rename_i a b' r s;obtain⟨x,j,f⟩:=py r aF w;obtain⟨y,m,g⟩:=py s l w;split at h
   ·rename_i he;have au:=heq _ _ _ _ _ _ he f g;have u:=Rv w e n eq d heq aF l k (i+1) b h;simp only[Sem.run_bind,j,m,au,Result.andThen_ok,Bool.not_true,Bool.false_eq_true,if_false,Sem.run_pure];omega
   ·rename_i he;have au:=heq _ _ _ _ _ _ he f g;simp at h;subst h;simp only[Sem.run_bind,j,m,au,Result.andThen_ok,Bool.not_false,if_true,Sem.run_pure];rfl
   grind
  grind
theorem Jy(a b:List UInt8):((⟨a.toArray⟩:ByteArray)==⟨b.toArray⟩)=(a==b):=by
 have:((⟨a.toArray⟩:ByteArray)==⟨b.toArray⟩)=(a.toArray==b.toArray):=rfl;grind
theorem vg(w:World):∀(d:Nat) (t:TypeId) (x y:af) (c e:Value) (b:Bool),js P d t x y=A b->bC ρ x c->bC ρ y e->
  (Op.equalIn d t c e).run P w= .ok b w
 |0,t,x,y,c,e,b,h,_,_=>by cases h
 |d+1,t,x,y,c,e,b,h,aF,a=>by
  have m:=vg w d;unfold js at h;unfold Op.equalIn;cases hu:P.underlying t with
  |none=>grind
  |some u=>
   rw[hu]at h;simp only[Sem.run_bind,run_underlying hu,Result.andThen_ok];split at h<;>(try (cases h;done))<;>(try simp only[bE]at*)<;>(try subst_vars)<;>(try (cases aF;cases a;simp;done))
   ·cases aF;cases a;split at h
    ·rename_i f;subst f;simp at h;subst h;simp
    grind
   ·cases aF;cases a;simp[Jy]
   ·cases aF with|agg _ j aF=>cases a with|agg _ k a=>
    split at h
    ·cases h
    ·rename_i l;have g:P.stoodInHeld t=false:=al;have:=G6 w (js P d) (Op.equalIn d) aa aF a _ b h;simp only[Sem.run_bind,run_program,Result.andThen_ok,g,Bool.false_eq_true,if_false];rw[<-Array.forIn_toList,this];cases b<;>simp
   ·cases aF with|agg _ j aF=>cases a with|agg _ k a=>
    split at h
    ·rename_i i aL;have:=Rv w _ i (js P d) (Op.equalIn d) aa aF a _ _ b h;simp only[Sem.run_bind,run_sizeOf aL,Result.andThen_ok];rw[Std.Legacy.Range.forIn_eq_forIn_range'];simp only[Std.Legacy.Range.size,Nat.sub_zero,Nat.add_sub_cancel,Nat.div_one]at this ⊢;rw[this];cases b<;>simp
    grind
theorem aaX{op:BinOp}{k:IntKind}{a b:Int}{v:af}(h:l9 op k a b=A v)(t:TypeId)(w:World):
  ∃r,(binOp op t (.int k a) (.int k b)).run P w= .ok r w/\bC ρ v r:=by
 unfold l9 at h;cases op<;>simp only at h<;>(try (cases h;done))<;>(try (simp only[bE]at h;subst h))<;>
  (try (exact⟨_,by simp only[binOp,ne_eq,not_true_eq_false,if_false,Op.intArith,Op.intBits,Op.intCmp];exact Sem.run_pure ..,by first|exact .int _ _|exact .bool _⟩))
 ·split at h
  ·cases h
  ·rename_i c;simp only[bE]at h;subst h;exact⟨_,by grind[binOp,Op.intDiv,Sem.run_pure],.int _ _⟩
 ·split at h
  ·cases h
  ·rename_i c;simp only[bE]at h;subst h;exact⟨_,by grind[binOp,Op.intDiv,Sem.run_pure],.int _ _⟩
theorem Nx{op:BinOp}{k c:IntKind}{a b:Int}{v:af}(h:tc op k a b=A v)(t:TypeId)(w:World):
  ∃r,(binOp op t (.int k a) (.int c b)).run P w= .ok r w/\bC ρ v r:=by
 unfold tc at h;split at h
 ·cases h
 ·rename_i d;cases op<;>simp only at h<;>(try (cases h;done))<;>simp only[bE]at h<;>subst h
  ·exact⟨_,by grind[binOp,Op.shift,Sem.run_pure],.int _ _⟩
  ·exact⟨_,by grind[binOp,Op.shift,Sem.run_pure],.int _ _⟩
def toList_mk(a:List UInt8):(⟨a.toArray⟩:ByteArray).toList=a:=by rw[ByteArray.toList_eq]
def acQ(a b:List UInt8):(⟨a.toArray⟩++⟨b.toArray⟩:ByteArray)=⟨(a++b).toArray⟩:=by
 apply ByteArray.ext;simp
theorem ajo{op:BinOp}{a b:List UInt8}{v:af}(h:D3 op a b=A v)(t:TypeId)(w:World):
  ∃r,(binOp op t (.string ⟨a.toArray⟩) (.string ⟨b.toArray⟩)).run P w= .ok r w/\bC ρ v r:=by
 unfold D3 at h;unfold binOp;cases op<;>simp only at h<;>(try (cases h;done))<;>(try (simp only[bE]at h;subst h))<;>
  (try (exact⟨_,by simp only[Op.stringOp,toList_mk];exact Sem.run_pure ..,.bool _⟩))
 split at h
 ·rename_i ar;simp only[bE]at h;subst h;refine⟨.string ⟨(a++b).toArray⟩,?_,.str _⟩;simp only[Op.stringOp];rw[if_neg,acQ]
  ·exact Sem.run_pure ..
  ·have e:IntKind.i64.max=9223372036854775807:=rfl;have c:(⟨a.toArray⟩:ByteArray).size=a.length:=by show a.toArray.size=_;simp
   have d:(⟨b.toArray⟩:ByteArray).size=b.length:=by show b.toArray.size=_;simp
   omega
 grind
def Fi{op:BinOp}{t:TypeId}{a b:Operand}{x y:af}{d e:Value}(h:q8 P t a b x y=J)(aF:bC ρ x d)(c:bC ρ y e)(w:World):
  (eqGuard op t a b d e).run P w= .ok () w:=by
 have aL:a.z_||b.z_=J->(eqGuard op t a b .nilIface .nilIface).run P w= .ok () w:=by
  intro h;cases op<;>first
   |rfl
   |(cases a<;>cases b<;>first|rfl|(simp[Operand.z_]at h;done))
 cases aF with
 |nilIface=>
  cases c with
  |nilIface=>
   refine aL ?_;simp only[q8]at h;cases a<;>cases b<;>simp_all[isConst,Operand.z_]
  |_=>cases op<;>rfl
 |agg cs xs aA=>
  cases c with
  |agg f i g=>
   simp only[q8,Bool.not_eq_true']at h;cases op<;>first|rfl|simp[eqGuard,h]
  |_=>cases op<;>rfl
 |_=>cases c<;>cases op<;>rfl
theorem binOp_eql{x y:af}{c d:Value}(aF:bC ρ x c)(e:bC ρ y d)(aP:∀k a f b,x= .int k a->y= .int f b->False)(g:∀a b,x= .str a->y= .str b->False)(t:TypeId):
  binOp .eql t c d=(do pure (.bool (<-Op.equal t c d)))/\binOp .neq t c d=(do pure (.bool (!(<-Op.equal t c d)))):=by
 cases aF<;>cases e<;>first
  |exact⟨rfl,rfl⟩
  |exact(aP _ _ _ _ rfl rfl).elim
  |grind
theorem UC{op:BinOp}{t:TypeId}{g i:Operand}{x y v:af}{d e:Value}(h:uU P op t g i x y=A v)(aF:bC ρ x d)(c:bC ρ y e)(w:World):
  ∃r,((do eqGuard op t g i d e;binOp op t d e:Sem Value)).run P w= .ok r w/\bC ρ v r:=by
 have n:∀k a f b,(eqGuard op t g i (.int k a) (.int f b)).run P w= .ok () w:=λk a f b=>Fi (ρ:=ρ) (x:= .int k a) (y:= .int f b) rfl (.int _ _) (.int _ _) w
 have o:∀a b,(eqGuard op t g i (.string ⟨a⟩) (.string ⟨b⟩)).run P w= .ok () w:=λa b=>by
  unfold eqGuard;split<;>rfl
 unfold uU at h;split at h
 ·cases aF;cases c;rename_i k a f b;simp only[Sem.run_bind,n,Result.andThen_ok];split at h
  ·exact Nx h t w
  ·exact Nx h t w
  ·split at h
   ·rename_i p;subst p;exact aaX h t w
   grind
 ·cases aF;cases c;simp only[Sem.run_bind,o,Result.andThen_ok];exact ajo h t w
 ·rename_i q s;obtain⟨l,m⟩:=binOp_eql aF c aa aa t;split at h
  ·split at h
   ·rename_i aB;rw[Sem.run_bind,Fi aB aF c w,Result.andThen_ok];simp only[Option.map_eq_some_iff]at h;obtain⟨b,j,rfl⟩:=h;have he:(Op.equal t d e).run P w= .ok b w:=vg (ρ:=ρ) w _ _ _ _ _ _ _ j aF c;exact⟨.bool b,by rw[l,Sem.run_bind,he];rfl,.bool b⟩
   grind
  ·split at h
   ·rename_i aB;rw[Sem.run_bind,Fi aB aF c w,Result.andThen_ok];simp only[Option.map_eq_some_iff]at h;obtain⟨b,j,rfl⟩:=h;have he:(Op.equal t d e).run P w= .ok b w:=vg (ρ:=ρ) w _ _ _ _ _ _ _ j aF c;exact⟨.bool (!b),by rw[m,Sem.run_bind,he];rfl,.bool _⟩
   grind
  grind
theorem VF{op:UnOp}{x v:af}{a:Value}(h:jX op x=A v)(aF:bC ρ x a)(w:World):∃r,(Op.unary op a).run P w= .ok r w/\bC ρ v r:=by
 unfold jX at h;split at h
 ·cases aF;simp only[bE]at h;subst h;exact⟨_,by grind[Op.unary,Op.intArith,Sem.run_pure],.int _ _⟩
 ·cases aF;simp only[bE]at h;subst h;exact⟨_,by grind[Op.unary,Sem.run_pure],.bool _⟩
 grind
end
section
variable {P:Program}{ρ:Env}{H:ae}{w:World}
def j_(c:Array Value)(o:Nat):List Value->Array Value
 |[]=>c
 |v::r=>j_ (c.setIfInBounds o v) (o+1) r
theorem vN:∀(ak:List Value) (c:Array Value) (o:Nat),(j_ c o ak).size=c.size
 |[],_,_=>rfl
 |v::r,c,o=>by rw[j_,vN r];simp
theorem tw:∀(ak:List Value) (c:Array Value) (o k:Nat),k<o\/o+ak.length<=k->(j_ c o ak)[k]? =c[k]?
 |[],_,_,_,_=>rfl
 |v::r,c,o,k,h=>by
  rw[j_,tw r _ _ _ al];grind
theorem AR:∀(ak:List Value) (c:Array Value) (o j:Nat) (x:Value),ak[j]? =A x->o+j<c.size->(j_ c o ak)[o+j]? =A x
 |[],_,_,_,_,h,_=>al
 |v::r,c,o,0,x,h,ar=>by
  grind[j_,tw]
 |v::r,c,o,j+1,x,h,ar=>by
  rw[j_,show o+(j+1)=o+1+j by omega];exact AR r _ _ _ _ al al
theorem yU(b:Nat):∀(ak:List Value) (o:Nat) (w:World) (c:Array Value) (t:TypeId) (a:Nat×Nat),w.heap[b]? =A (.cells c t a)->
  (w.setCells b o ak).heap[b]? =A (.cells (j_ c o ak) t a)
 |[],_,_,_,_,_,h=>h
 |v::r,o,w,c,t,a,h=>by
  rw[World.setCells,j_];refine yU b r (o+1) _ _ t a ?_;grind[World.setCell]
theorem oa(b:Nat):∀(ak:List Value) (o:Nat) (w:World) (k:Nat),k≠b->(w.setCells b o ak).heap[k]? =w.heap[k]?
 |[],_,_,_,_=>rfl
 |v::r,o,w,k,h=>by
  rw[World.setCells,oa b r _ _ _ h];grind[World.setCell]
theorem DX(b:Nat):∀(ak:List Value) (o:Nat) (w:World),(w.setCells b o ak).heap.size=w.heap.size/\(w.setCells b o ak).os=w.os/\(w.setCells b o ak).tape=w.tape/\(w.setCells b o ak).output=w.output
 |[],_,_=>⟨rfl,rfl,rfl,rfl⟩
 |v::r,o,w=>by
  rw[World.setCells];obtain⟨a,b,c,d⟩:=DX b r (o+1) (w.setCell ⟨b,o,Z⟩ v);grind[World.setCell]
theorem gW.cell{loc:Loc}{ro:Bool}{esz:Nat}{els:List (List af)}(h:gW ρ w loc ro esz els){i:Nat}{e:List af}(he:els[i]? =A e){j:Nat}{v:af}(d:e[j]? =A v):
  ∃x,w.cell? ⟨loc.block,loc.off+i*loc.esz+j,Z⟩=A x/\bC ρ v x/\v.one=true:=by
 obtain⟨rfl,c,t,a,b,_,au⟩:=h;grind[World.cell?]
def oX:List (List af)->List (List af)->Bool
 |[],[]=>J
 |x::xs,y::a=>e9.beq x y&&oX xs a
 |_,_=>I
theorem Rg:∀{a b:List (List af)},oX a b=J->a=b
 |[],[],_=>rfl
 |[],_::_,h=>by simp[oX]at h
 |_::_,[],h=>by simp[oX]at h
 |x::xs,y::c,h=>by
  simp only[oX,Bool.and_eq_true]at h;rw[e9.beq_eq h.1,Rg h.2]
def hx(H:ae):Nat->Nat->Option (Nat×List (List af))
 |0,_=>Z
 |f+1,l=>match H.get l with
  |some (.row _ esz els)=>A (esz,els)
  |some (.old s esz els)=>(match hx H f s with
   |some (a,es)=>bif Nat.beq a esz&&oX (es.take els.length) els then A (esz,els)else Z
   |none=>Z)
  |_=>Z
theorem Mn(d:Rel ρ H w):∀{f l:Nat} {esz:Nat} {els:List (List af)},hx H f l=A (esz,els)->∃loc,ρ l=A loc/\gW ρ w loc J esz els
 |0,_,_,_,h=>by cases h
 |f+1,l,esz,els,h=>by
  rw[hx]at h;split at h
  ·rename_i ro j a aR;cases h;obtain⟨loc,ah,ai,c,t,b,ay,aM,m⟩:=d.row _ _ _ _ aR;exact⟨loc,ah,ai,c,t,b,ay,al,m⟩
  ·rename_i s j a aR;split at h
   ·rename_i k es he;cases g:(Nat.beq k j&&oX (es.take a.length) a)with
    |false=>grind
    |true=>
     rw[g]at h;cases h;simp only[Bool.and_eq_true]at g;obtain⟨loc,ah,-,ai⟩:=d.old _ _ _ _ aR;refine⟨loc,ah,?_⟩;rcases ai with ai|ai
     ·obtain⟨p,bS,b2,c,t,b,n,o,q⟩:=Mn d he;obtain rfl:loc=p:=al;refine⟨b2.trans (Nat.eq_of_beq_eq_true g.1),c,t,b,n,o,λi e aP=> ?_⟩;grind[Rg,Nat.eq_of_beq_eq_true]
     grind
   grind
  grind
def aJ(P:Program)(H:ae)(t:TypeId)(a:af):Option af:=
 match a with
 | .ptr l i c=>
  (match H.get l with
  |some (.row _ esz els)=>
   (match els[i]?,ev P t with
   |some e,A I=>e[c]?
   |some e,A J=>(match cM P t with|some n=>if c+n<=esz then A (.agg ((e.drop c).take n))else Z|none=>Z)
   |_,_=>Z)
  |some (.ee _ esz els)=>
   (match els[i]?,ev P t with
   |some e,A I=>e[c]?
   |some e,A J=>(match cM P t with|some n=>if c+n<=esz then A (.agg ((e.drop c).take n))else Z|none=>Z)
   |_,_=>Z)
  |some (.old _ _ _)=>
   (match hx H 1000 l with
   |some (esz,els)=>
    (match els[i]?,ev P t with
    |some e,A I=>e[c]?
    |some e,A J=>(match cM P t with|some n=>if c+n<=esz then A (.agg ((e.drop c).take n))else Z|none=>Z)
    |_,_=>Z)
   |none=>Z)
  |_=>Z)
 |_=>Z
theorem nB(b o j:Nat):(⟨b,o,Z⟩:Addr).add j=⟨b,o+j,Z⟩:=by
 grind[Addr.add]
theorem ED{loc:Loc}{l i c:Nat}{ro:Bool}{esz:Nat}{els:List (List af)}(ar:ρ l=A loc)(b:gW ρ w loc ro esz els){t:TypeId}{v:af}
 (h:(match els[i]?,ev P t with
  |some e,A I=>e[c]?
  |some e,A J=>(match cM P t with|some n=>if c+n<=esz then A (.agg ((e.drop c).take n))else Z|none=>Z)
  |_,_=>Z)=A v):
 ∃r,(Instr.loadAt t (.pointer (A ⟨loc.block,loc.off+i*loc.esz+c,Z⟩))).run P w= .ok r w/\bC ρ v r:=by
  split at h
  ·rename_i e he a;obtain⟨x,aA,d,_⟩:=b.cell he h;refine⟨x,?_,d⟩;simp[Instr.loadAt,Instr.sureAddr,loadVar,A3 a,run_load,aA]
  ·rename_i e he a;split at h
   ·rename_i n aL;split at h
    ·rename_i hle;simp only[bE]at h;subst h;have hlen:e.length=esz:=by obtain⟨_,k,p,m,_,_,au⟩:=b;grind
     have hex:∃xs:List Value,xs.length=n/\bZ ρ ((e.drop c).take n) xs/\∀j y,xs[j]? =A y->w.cell? ⟨loc.block,loc.off+i*loc.esz+c+j,Z⟩=A y:=by
      clear a aL
      induction n with
      |zero=>exact⟨[],rfl,by simpa using bZ.nil,λj y f=>al⟩
      |succ n g=>
       obtain⟨xs,ah,ai,ay⟩:=g aa;have o:c+n<e.length:=aa;obtain⟨x,aA,d,_⟩:=b.cell he (j:=c+n) (v:=e[c+n]) al;refine⟨xs++[x],al,?_,?_⟩
       ·rw[List.take_succ_eq_append_getElem al];refine ai.append (.cons _ _ _ _ ?_ .nil);grind
       grind
     obtain⟨xs,ah,ai,ay⟩:=hex;refine⟨.agg xs.toArray,?_,.agg _ _ ai⟩;have:=run_loadCells_list (P:=P) w ⟨loc.block,loc.off+i*loc.esz+c,Z⟩ xs (λj y f=>by grind[nB]);rw[ah]at this;simp[Instr.loadAt,Instr.sureAddr,loadVar,A3 a,run_sizeOf aL,this]
    grind
   grind
  grind
theorem EE(e:Rel ρ H w){t:TypeId}{a v:af}{x:Value}(h:aJ P H t a=A v)(aF:bC ρ a x):
  ∃r,(Instr.loadAt t x).run P w= .ok r w/\bC ρ v r:=by
 unfold aJ at h;split at h
 ·rename_i l i c;cases aF with|ptr _ _ _ loc ar=>
  split at h
  ·rename_i ro esz els aR;obtain⟨d,f,b⟩:=e.row _ _ _ _ aR;obtain rfl:loc=d:=al;exact ED ar b h
  ·rename_i g esz els aR;obtain⟨d,f,b,-⟩:=e.ee _ _ _ _ aR;obtain rfl:loc=d:=al;exact ED ar b h
  ·split at h
   ·rename_i esz els he;obtain⟨d,f,b⟩:=Mn e he;obtain rfl:loc=d:=al;exact ED ar b h
   grind
  grind
 grind
def eT(ot:Option TypeId)(esz:Nat)(els:List (List af)):bA:=match ot with
 |none=> .row I esz els
 |some t=> .ee t esz els
def Gi(ot:Option TypeId)(esz:Nat)(els:List (List af)):(eT ot esz els).vn=false:=by cases ot<;>rfl
theorem Gj{ot:Option TypeId}{esz b:Nat}{els a:List (List af)}{ro:Bool}(h:eT ot esz els= .row ro b a):ro=I/\esz=b/\els=a/\ot=none:=by
 cases ot<;>cases h;grind
theorem Gk{ot:Option TypeId}{esz b:Nat}{els a:List (List af)}{t:TypeId}(h:eT ot esz els= .ee t b a):ot=A t/\esz=b/\els=a:=by
 cases ot<;>cases h;grind
theorem Gh{ot:Option TypeId}{esz:Nat}{els:List (List af)}{es:List (af×af)}(h:eT ot esz els= .map es):False:=by cases ot<;>cases h
theorem p0{H:ae}{l:Nat}{ot:Option TypeId}{esz:Nat}{els:List (List af)}(h:H.get l=A (eT ot esz els)):H.rw l:=by
 cases ot with
 |none=>exact .inl ⟨_,_,h⟩
 |some t=>exact .inr (.inr ⟨_,_,_,h⟩)
theorem vB(d:Rel ρ H w){l:Nat}{ot:Option TypeId}{esz:Nat}{els:List (List af)}(h:H.get l=A (eT ot esz els)):∃loc,ρ l=A loc/\gW ρ w loc I esz els/\∀t,ot=A t->∃c e,w.heap[loc.block]? =A (.cells c t e)/\loc.off=0:=by
 cases ot with
 |none=>obtain⟨loc,a,b⟩:=d.row _ _ _ _ h;grind
 |some t=>obtain⟨loc,a,b,c⟩:=d.ee _ _ _ _ h;grind
def gl(e:List af)(c:Nat)(cs:List af):List af:=e.take c++cs++e.drop (c+cs.length)
theorem S5{e:List af}{c:Nat}{cs:List af}(h:c+cs.length<=e.length):(gl e c cs).length=e.length:=by
 simp[gl];omega
theorem S4{e:List af}{c:Nat}{cs:List af}(h:c+cs.length<=e.length){j:Nat}(ah:c<=j)(ai:j<c+cs.length):(gl e c cs)[j]? =cs[j-c]? :=by
 grind[gl]
theorem S6{e:List af}{c:Nat}{cs:List af}(h:c+cs.length<=e.length){j:Nat}(ah:j<c\/c+cs.length<=j):(gl e c cs)[j]? =e[j]? :=by
 unfold gl;rcases ah with ah|ah
 ·grind
 ·rw[List.getElem?_append_right al,List.getElem?_drop];grind
theorem vy{a b n:Nat}(h:a<b):a*n+n<=b*n:=by
 have:=Nat.mul_le_mul_right n (Nat.succ_le_of_lt h);grind
theorem Um(k:Rel ρ H w){ot:Option TypeId}{l esz:Nat}{els:List (List af)}(aR:H.get l=A (eT ot esz els)){loc:Loc}(ar:ρ l=A loc){i:Nat}{e:List af}(he:els[i]? =A e)
  {c:Nat} {cs:List af} {xs:List Value} (aA:c+cs.length<=esz) (ah:∀v∈cs,v.one=J) (W:bZ ρ cs xs):
  Step ρ H w ρ (H.set l (eT ot esz (els.set i (gl e c cs)))) (w.setCells loc.block (loc.off+i*loc.esz+c) xs):=by
 have T:=ae.bm aR;obtain⟨d,f,⟨z,arr,t,r,u,aT,K⟩,aI⟩:=vB k aR;obtain rfl:loc=d:=al;have aS:=(K i e he).1;have ax:i<els.length:=by
  grind
 have aJ:=W.length;have E:∀a d,H.live a->a≠l->ρ a=A d->d.block≠loc.block:=λa d h cD f heq=>
  k.apart l a loc d (p0 aR) h aa ar f heq.symm
 have V:∀a,(H.set l (eT ot esz (els.set i (gl e c cs)))).rw a->H.rw a:=by
  grind[p0,ae.rw,ae.b_]
 have aD:∀a,(H.set l (eT ot esz (els.set i (gl e c cs)))).live a->H.live a:=by
  intro a h;by_cases g:l=a
  ·subst g;exact(p0 aR).live
  grind[ae.live,ae.b_]
 obtain⟨s1,s2,aP,hq⟩:=DX loc.block xs (loc.off+i*loc.esz+c) w;have aE:gW ρ (w.setCells loc.block (loc.off+i*loc.esz+c) xs) loc I esz (els.set i (gl e c cs))/\∃a6 r,(w.setCells loc.block (loc.off+i*loc.esz+c) xs).heap[loc.block]? =A (.cells a6 t r):= ?new;have R:∀b,b<w.heap.size->¬e5 ρ H b->(w.setCells loc.block (loc.off+i*loc.esz+c) xs).heap[b]? =w.heap[b]? :=λb u aG=>by
  refine oa _ _ _ _ _ ?_;rintro rfl;exact aG ⟨l,loc,p0 aR,ar,rfl⟩
 have U:∀b,e5 ρ (H.set l (eT ot esz (els.set i (gl e c cs)))) b->e5 ρ H b\/w.heap.size<=b:=by
  rintro b ⟨a,d,ah,ai,ay⟩;exact .inl ⟨a,d,V _ ah,ai,ay⟩
 refine⟨ρ.le_refl,ds _,λ_ _=>rfl,⟨?_,?_,?_,?_,?_⟩,s2,aP,hq,aa,R,U,ae.G4 (Gi _ _ _),.same (ae.AI (by cases ot<;>rfl))⟩
 case new=>
  refine⟨⟨z,_,t,r,yU _ _ _ _ _ _ _ u,?_,?_⟩,_,r,yU _ _ _ _ _ _ _ u⟩
  ·grind[vN]
  ·intro Y an m;rw[List.getElem?_set]at m;by_cases B:i=Y
   ·subst B;rw[if_pos rfl,if_pos ax]at m;simp only[bE]at m;subst m;have aH:c+cs.length<=e.length:=aa;refine⟨by grind[S5],?_⟩;intro j v o;by_cases S:c<=j/\j<c+cs.length
    ·rw[S4 aH S.1 S.2]at o;obtain⟨x,aF,L⟩:=W.get _ _ o;refine⟨ah v (List.mem_of_getElem? o),x,?_,L⟩;have av:=(K i e he).2 j (e[j]'aa) aW;obtain⟨_,a3,aX,_⟩:=av;have aV:loc.off+i*esz+j<arr.size:=by
      grind
     have:=AR xs arr (loc.off+i*loc.esz+c) (j-c) x aF al;rw[show loc.off+i*esz+j=loc.off+i*loc.esz+c+(j-c) by rw[z];omega];exact this
    grind[S6,tw]
   ·rw[if_neg B]at m;obtain⟨a0,aj⟩:=K Y an m;refine⟨a0,λj v o=> ?_⟩;obtain⟨ak,x,aF,L⟩:=aj j v o;refine⟨ak,x,?_,L⟩;have aU:j<esz:=by
     grind
    rw[tw _ _ _ _ ?_]
    ·omega
    ·rw[z,<-aJ];rcases Nat.lt_or_gt_of_ne B with h|h
     ·have:=vy (n:=esz) h;omega
     ·have:=vy (n:=esz) h;omega
 ·intro a a1 P O h;by_cases g:l=a
  ·grind[ae.cO,Gj]
  ·rw[ae.b_ g]at h;obtain⟨d,f,G⟩:=k.row _ _ _ _ h;refine⟨d,f,?_⟩;have y:=E a d (.inl ⟨_,_,_,h⟩) aa f;obtain⟨M,q,ad,s,ab,p,N⟩:=G;exact⟨M,q,ad,s,by grind[oa],p,N⟩
 ·intro a es h;by_cases g:l=a
  ·grind[ae.cO,Gh]
  ·rw[ae.b_ g]at h;obtain⟨d,f,G⟩:=k.map _ _ h;have y:=E a d (.inr (.inl ⟨_,h⟩)) aa f;obtain⟨ents,clock,ab,p⟩:=G;exact⟨d,f,ents,clock,by grind[oa],p⟩
 ·intro a ad P O h;by_cases g:l=a
  ·subst g;rw[ae.cO T]at h;obtain⟨ao,rfl,rfl⟩:=Gk (Option.some.inj h);obtain⟨q,s,Q,au⟩:=aI _ ao;rw[u]at Q;cases Q;obtain⟨cX,a6,f1,aN⟩:=aE;exact⟨loc,ar,cX,a6,f1,aN,au⟩
  ·rw[ae.b_ g]at h;obtain⟨d,f,⟨M,q,aQ,s,ab,p,N⟩,am,ap,aZ,aO⟩:=k.ee _ _ _ _ h;have y:=E a d (.inr (.inr ⟨_,_,_,h⟩)) aa f;exact⟨d,f,⟨M,q,aQ,s,by grind[oa],p,N⟩,am,ap,by grind[oa],aO⟩
 ·intro aK l2 aL aM ah ai y aB aC;exact k.apart aK l2 aL aM (V _ ah) (aD _ ai) y aB aC
 ·intro a a2 P O h;by_cases g:l=a
  ·subst g;rw[ae.cO T]at h;cases ot<;>cases h
  ·rw[ae.b_ g]at h;exact(k.old _ _ _ _ h).step ρ.le_refl aa R U
def cz(P:Program)(H:ae)(t:TypeId)(a v:af):Option ae:=
 match a with
 | .ptr l i c=>
  (match H.get l with
  |some (.row I esz els)=>
   (match els[i]? with
   |some e=>if cM P t=A v.cells.length/\c+v.cells.length<=esz/\v.cells.all af.one=J then A (H.set l (.row I esz (els.set i (gl e c v.cells))))else Z
   |none=>Z)
  |some (.ee b esz els)=>
   (match els[i]? with
   |some e=>if cM P t=A v.cells.length/\c+v.cells.length<=esz/\v.cells.all af.one=J then A (H.set l (.ee b esz (els.set i (gl e c v.cells))))else Z
   |none=>Z)
  |_=>Z)
 |_=>Z
theorem KN(b:Rel ρ H w){ot:Option TypeId}{l i c esz:Nat}{els:List (List af)}(aR:H.get l=A (eT ot esz els)){loc:Loc}(ar:ρ l=A loc){e:List af}(he:els[i]? =A e){t:TypeId}{v:af}{y:Value}(q:bC ρ v y)
  (n:cM P t=A v.cells.length) (aA:c+v.cells.length<=esz) (L:v.cells.all af.one=J):
  ∃f,(Instr.storeAt t (.pointer (A ⟨loc.block,loc.off+i*loc.esz+c,Z⟩)) y).run P w= .ok () f/\Step ρ H w ρ (H.set l (eT ot esz (els.set i (gl e c v.cells)))) f:=by
 have k:∀u∈v.cells,u.one=true:=al;have a:=q.cells;refine⟨_,?_,Um b aR ar he aA k a⟩;obtain⟨r,K,d,-⟩:=vB b aR;obtain rfl:loc=r:=al;have hlen:=a.length;have M:=d;obtain⟨E,arr,Q,x,z,G,au⟩:=d;have B:=(au i e he).1;have N:∀j,j<y.cells.toList.length->∃u,arr[loc.off+i*loc.esz+c+j]? =A u:=by
  intro j g;obtain⟨_,u,hu,_⟩:=(au i e he).2 (c+j) (e[c+j]'aa) aW;grind
 have m:=run_storeCells_cells (P:=P) loc.block (loc.off+i*loc.esz+c) y.cells.toList 0 w
  (by grind[World.cell?])
  (by grind[World.frozen?])
  (λu hu=>by
   obtain⟨j,g⟩:=List.getElem?_of_mem hu;have h:j<v.cells.length:=by
    grind
   obtain⟨s,O,p⟩:=a.get j _ (List.getElem?_eq_getElem h);obtain rfl:u=s:=al;exact p.GC al)
 have o:y.cells.size=v.cells.length:=al;simp only[Instr.storeAt,Instr.sureAddr,Sem.run_bind,Sem.run_pure,Result.andThen_ok,storeVar,run_sizeOf n,o,ne_eq,not_true_eq_false,if_false];simpa using m
theorem VD(g:Rel ρ H w){t:TypeId}{a v:af}{x y:Value}{H':ae}(h:cz P H t a v=A H')(aF:bC ρ a x)(j:bC ρ v y):
  ∃k,(Instr.storeAt t x y).run P w= .ok () k/\Step ρ H w ρ H' k:=by
 unfold cz at h;split at h
 ·rename_i l i c;cases aF with|ptr _ _ _ loc ar=>
  split at h
  ·rename_i esz els aR;split at h
   ·rename_i e he;split at h
    ·rename_i b;obtain⟨f,aA,d⟩:=b;simp only[bE]at h;subst h;exact KN g (ot:=none) aR ar he j f aA d
    grind
   grind
  ·rename_i m esz els aR;split at h
   ·rename_i e he;split at h
    ·rename_i b;obtain⟨f,aA,d⟩:=b;simp only[bE]at h;subst h;exact KN g (ot:=some m) aR ar he j f aA d
    grind
   grind
  grind
 grind
end
def Env.dF(ρ:Env)(l:Nat)(loc:Loc):Env:=λk=>if k=l then A loc else ρ k
theorem Env.hD(ρ:Env)(l:Nat)(loc:Loc):ρ.dF l loc l=A loc:=by simp[Env.dF]
theorem Env.hV{ρ:Env}{l k:Nat}{loc:Loc}(h:k≠l):ρ.dF l loc k=ρ k:=by simp[Env.dF,h]
def Env.oO{ρ:Env}{l:Nat}(h:ρ l=Z)(loc:Loc):ρ.le (ρ.dF l loc):=by
 intro k x a;grind[Env.hV]
section
variable {P:Program}{ρ:Env}{H:ae}{w:World}
theorem heap_alloc_old(w:World)(o:Obj){k:Nat}(h:k<w.heap.size):(w.alloc o).heap[k]? =w.heap[k]? :=by
 show(w.heap.push o)[k]? =_;grind
def heap_alloc_new(w:World)(o:Obj):(w.alloc o).heap[w.heap.size]? =A o:=by
 show(w.heap.push o)[w.heap.size]? =_;simp
theorem Nq(w:World)(o:Obj):(w.alloc o).heap.size=w.heap.size+1:=by
 show(w.heap.push o).size=_;simp
theorem z6{w:World}{k:Nat}{o:Obj}(h:w.heap[k]? =A o):k<w.heap.size:=by
 grind
theorem Fm{esz:Nat}:∀{els:List (List af)},(∀e∈els,e.length=esz)->∀{i:Nat} {e:List af},els[i]? =A e->∀{j:Nat} {v:af},e[j]? =A v->els.flatten[i*esz+j]? =A v
 |[],_,_,_,h,_,_,_=>al
 |d::els,ar,0,e,h,j,v,a=>by
  grind
 |d::els,ar,i+1,e,h,j,v,a=>by
  have b:d.length=esz:=ar d aW;have:=Fm (els:=els) (λe he=>ar e (List.mem_cons_of_mem _ he)) (i:=i) al a;grind
theorem A5{H:ae}{b:bA}{l:Nat}(h:(H.push b).rw l):l=H.next\/H.rw l:=by
 grind[ae.rw,ae.eI]
theorem Au{H:ae}{b:bA}{l:Nat}(h:(H.push b).live l):l=H.next\/H.live l:=by
 grind[ae.live,ae.eI]
theorem Rel.EZ(a:Rel ρ H w){l:Nat}(h:H.live l){loc:Loc}(ar:ρ l=A loc):loc.block<w.heap.size:=by
 rcases h with⟨ro,esz,els,h⟩|⟨es,h⟩|⟨t,esz,els,h⟩
 ·obtain⟨e,d,_,c,t,f,b,_⟩:=a.row _ _ _ _ h;grind
 ·obtain⟨e,d,ents,clock,b,_⟩:=a.map _ _ h;grind
 ·obtain⟨e,d,_,c,f,b,_⟩:=a.ee _ _ _ _ h;grind
def pT{H:ae}{l:Nat}(h:H.live l):l<H.next:=by
 rcases h with⟨_,_,_,h⟩|⟨_,h⟩|⟨_,_,_,h⟩<;>exact ae.bm h
theorem ps.frame{b:Env}{a:World}{loc:Loc}{t:TypeId}{esz:Nat}{els:List (List af)}(h:ps ρ w loc t esz els)(hle:ρ.le b)(e:a.heap[loc.block]? =w.heap[loc.block]?):ps b a loc t esz els:=by
 obtain⟨ah,c,d,ai,ay⟩:=h;exact⟨ah.frame hle e,c,d,al,ay⟩
theorem Qz(c:Rel ρ H w)(aB:ρ H.next=Z)(b:bA)(r:b.vn=I)(j:b.ri=I)(o:Obj)(loc:Loc)(z:loc.block=w.heap.size)
  (E:∀ro esz els,b= .row ro esz els->gW (ρ.dF H.next loc) (w.alloc o) loc ro esz els) (B:∀es,b= .map es->Er (ρ.dF H.next loc) (w.alloc o) loc es) (G:∀t esz els,b= .ee t esz els->ps (ρ.dF H.next loc) (w.alloc o) loc t esz els):
  Step ρ H w (ρ.dF H.next loc) (H.push b) (w.alloc o):=by
 have hle:=Env.oO aB loc;have q:∀l a,H.live l->ρ.dF H.next loc l=A a->a.block<w.heap.size:=λl a h cD=>by
  have i:l≠H.next:=by
   rintro rfl;have:=pT h;omega
  rw[Env.hV i]at cD;exact c.EZ h cD
 have n:∀k,e5 (ρ.dF H.next loc) (H.push b) k->e5 ρ H k\/w.heap.size<=k:=by
  rintro k ⟨l,a,ah,ai,ay⟩;rcases A5 ah with rfl|ah
  ·grind[Env.hD]
  ·have cX:l≠H.next:=by
    rintro rfl;have:=pT ah.live;omega
   rw[Env.hV cX]at ai;exact .inl ⟨l,a,ah,ai,ay⟩
 refine⟨hle,aW,λl ar=>Env.hV (by simp at ar;omega),⟨?_,?_,?_,?_,?_⟩,rfl,rfl,rfl,by grind[Nq],λk g _=>heap_alloc_old w o g,n,ae.G3 r,.same (ae.rB j)⟩
 ·intro l ro esz els h;by_cases e:l=H.next
  ·grind[ae.a1,Env.hD]
  ·rw[ae.eI e]at h;obtain⟨a,m,au⟩:=c.row _ _ _ _ h;exact⟨a,by grind[Env.hV],au.frame hle (heap_alloc_old w o au.lt)⟩
 ·intro l es h;by_cases e:l=H.next
  ·grind[ae.a1,Env.hD]
  ·rw[ae.eI e]at h;obtain⟨a,m,ents,clock,y,ah,ai⟩:=c.map _ _ h;exact⟨a,by grind[Env.hV],ents,clock,by grind[heap_alloc_old],ah.mono hle,ai.mono hle⟩
 ·intro l t esz els h;by_cases e:l=H.next
  ·grind[ae.a1,Env.hD]
  ·rw[ae.eI e]at h;obtain⟨a,m,au⟩:=c.ee _ _ _ _ h;exact⟨a,by grind[Env.hV],au.frame hle (heap_alloc_old w o au.1.lt)⟩
 ·intro l p u v ah ai i f d;rcases A5 ah with rfl|ah
  ·rcases Au ai with rfl|ai
   ·omega
   grind[Env.hD]
  ·rcases Au ai with rfl|ai
   ·rw[Env.hD]at d;obtain rfl:=Option.some.inj d;have:=q _ _ ah.live f;omega
   ·have cX:l≠H.next:=by
     rintro rfl;have:=pT ah.live;omega
    have x:p≠H.next:=by
     rintro rfl;have:=pT ai;omega
    rw[Env.hV cX]at f;rw[Env.hV x]at d;exact c.apart l p u v ah ai i f d
 ·intro l s esz els h;by_cases e:l=H.next
  ·subst e;rw[ae.a1]at h;rw[Option.some.inj h]at j;cases j
  ·rw[ae.eI e]at h;exact(c.old _ _ _ _ h).step hle (by grind[Nq]) (λk g _=>heap_alloc_old w o g) n
theorem vM(f:Rel ρ H w)(aB:ρ H.next=Z){ot:Option TypeId}{esz:Nat}{els:List (List af)}(hlen:∀e∈els,e.length=esz)(g:∀e∈els,∀v∈e,v.one=J)
  {xs tail:List Value} (k:bZ ρ els.flatten xs) (t:TypeId) (a_:∀a,ot=A a->a=t):
  Step ρ H w (ρ.dF H.next ⟨w.heap.size,0,esz,xs.length+tail.length⟩) (H.push (eT ot esz els)) (w.alloc (.cells (xs++tail).toArray t)):=by
 have key:ps (ρ.dF H.next ⟨w.heap.size,0,esz,xs.length+tail.length⟩) (w.alloc (.cells (xs++tail).toArray t)) ⟨w.heap.size,0,esz,xs.length+tail.length⟩ t esz els:=by
  refine⟨⟨rfl,_,t,(0,0),heap_alloc_new _ _,al,?_⟩,_,_,heap_alloc_new _ _,rfl⟩;intro i e he;refine⟨al,λj v b=> ?_⟩;refine⟨g e (List.mem_of_getElem? he) v (List.mem_of_getElem? b),?_⟩;obtain⟨x,aF,l⟩:=k.get _ _ (Fm hlen he b);refine⟨x,?_,l.mono (Env.oO aB _)⟩;grind
 refine Qz f aB _ (Gi _ _ _) (by cases ot<;>rfl) _ _ rfl ?_ (by grind[Gh]) ?_
 ·intro ro d c h;obtain⟨rfl,rfl,rfl,-⟩:=Gj h;exact key.1
 ·intro a d c h;obtain⟨m,rfl,rfl⟩:=Gk h;grind
def AF:Value->Option af
 | .bool b=>A (.bool b)
 | .int k n=>A (.int k n)
 | .string s=>A (.str s.data.toList)
 | .pointer Z=>A .gC
 | .slice Z 0 0=>A .aq
 | .map Z=>A .jC
 | .nilFunc=>A .nilFunc
 | .nilIface=>A .nilIface
 |_=>Z
def vD:List Value->Option (List af)
 |[]=>A []
 |v::r=>match AF v,vD r with
  |some a,A l=>A (a::l)
  |_,_=>Z
def vF:Value->Option af
 | .agg cs=>(vD cs.toList).map .agg
 |v=>AF v
theorem PM{v:Value}{a:af}(h:AF v=A a)(ρ:Env):bC ρ a v/\a.one=true:=by
 unfold AF at h;split at h<;>first
  |(simp only[bE]at h;subst h;exact⟨by constructor,rfl⟩)
  |cases h
theorem PN:∀{ak:List Value} {ft:List af},vD ak=A ft->∀ρ:Env,bZ ρ ft ak/\∀a∈ft,a.one=J
 |[],ft,h,ρ=>by simp[vD]at h;subst h;exact⟨.nil,aW⟩
 |v::r,ft,h,ρ=>by
  unfold vD at h;split at h
  ·rename_i a l b ar;simp only[bE]at h;subst h;obtain⟨ah,ai⟩:=PM b ρ;obtain⟨ay,aM⟩:=PN ar ρ;exact⟨.cons _ _ _ _ ah ay,al⟩
  grind
theorem AG{v:Value}{a:af}(h:vF v=A a)(ρ:Env):bC ρ a v:=by
 unfold vF at h;split at h
 ·simp only[Option.map_eq_some_iff]at h;obtain⟨l,ar,rfl⟩:=h;have:=bC.agg _ _ (PN ar ρ).1;omega
 grind[PM]
def gb(P:Program)(t:TypeId):Option af:=(P.info? t).bind λi=>i.zero.bind vF
def pz{t:TypeId}{z:af}(h:gb P t=A z)(w:World):∃x,(zeroValue t).run P w= .ok x w/\∀ρ:Env,bC ρ z x:=by
 unfold gb at h;simp only[e4]at h;obtain⟨i,aP,x,aF,a⟩:=h;exact⟨x,by simp[zeroValue,typeInfo,aP,aF],λρ=>AG a ρ⟩
def lz(P:Program)(t:TypeId):Option TypeId:=match P.underlying t with
 |some (.struct fs)=>(match fs.toList with
  |[f]=>(match P.underlying f.type with
   |some (.struct gs)=>if gs.size=2 then A t else Z
   |_=>Z)
  |_=>Z)
 |_=>Z
theorem PK{P:Program}{t a:TypeId}(h:lz P t=A a):a=t:=by
 grind[lz]
def sE(ot:Option TypeId)(H:ae)(v:af):Option (af×ae):=
 if v.cells.all af.one=J then A (.ptr H.next 0 0,H.push (eT ot v.cells.length [v.cells]))else Z
theorem Ki(e:Rel ρ H w)(aB:ρ H.next=Z){ot:Option TypeId}{v a:af}{x:Value}{H':ae}(h:sE ot H v=A (a,H'))(aF:bC ρ v x)(t:TypeId)(a_:∀b,ot=A b->b=t):
  ∃r c d,(Instr.box t x).run P w= .ok r c/\bC d a r/\Step ρ H w d H' c:=by
 unfold sE at h;split at h
 ·rename_i g;simp only[bE,dV]at h;obtain⟨rfl,rfl⟩:=h;have aA:=aF.cells;have f:=vM e aB (ot:=ot) (esz:=v.cells.length) (els:=[v.cells]) aW al (xs:=x.cells.toList) (tail:=[]) al t a_;refine⟨.pointer (A ⟨w.heap.size,0,Z⟩),_,_,?_,?_,f⟩
  ·simp[Instr.box,newVar,newRow]
  ·simpa using bC.ptr (ρ:=ρ.dF H.next _) H.next 0 0 _ (Env.hD _ _ _)
 grind
def zk(P:Program)(H:ae)(t:TypeId):Option (af×ae):=(gb P t).bind (sE (lz P t) H)
theorem UA(d:Rel ρ H w)(aB:ρ H.next=Z){t:TypeId}{a:af}{H':ae}(h:zk P H t=A (a,H')):
  ∃r b c,(Instr.alloc t J (.tuple #[])).run P w= .ok r b/\bC c a r/\Step ρ H w c H' b:=by
 unfold zk at h;simp only[e4]at h;obtain⟨z,f,h⟩:=h;obtain⟨x,aF,e⟩:=pz f w;obtain⟨r,b,c,ah,ai,ay⟩:=Ki (P:=P) d aB h (e ρ) t λ_ h=>PK h
 grind[Instr.alloc,Sem.run_bind,Result.andThen_ok,Instr.box]
end
section
variable {P:Program}{ρ:Env}{H:ae}{w:World}
def px(place:Nat->Option (Nat×Nat))(cells:List af):List (Nat×af)->Option (List af)
 |[]=>A cells
 |(i,v)::rest=>
  match place i with
  |none=>Z
  |some (off,size)=>if v.cells.length=size/\off+v.cells.length<=cells.length then px place (gl cells off v.cells) rest else Z
def Fq:∀(ak:List Value) (k off:Nat) (c:Array Value),(ak.zipIdx k).foldl (λcs (x:Value×Nat)=>cs.setIfInBounds (off+x.2) x.1) c=j_ c (off+k) ak
 |[],_,_,_=>rfl
 |v::r,k,off,c=>by
  simp only[List.zipIdx_cons,List.foldl_cons,j_];rw[Fq r (k+1) off];rfl
theorem S7{e:List af}{xs:List Value}{c:Nat}{cs:List af}{b:List Value}(he:bZ ρ e xs)(aA:bZ ρ cs b)(h:c+cs.length<=e.length):
  bZ ρ (gl e c cs) (j_ xs.toArray c b).toList:=by
 have i:=he.length;have l2:=aA.length;refine bZ.PS (by grind[S5,vN]) ?_;intro j v x a aF;by_cases d:c<=j/\j<c+cs.length
 ·rw[S4 h d.1 d.2]at a;obtain⟨g,f,au⟩:=aA.get _ _ a;have:=AR b xs.toArray c (j-c) g f al;grind
 ·rw[S6 h aa]at a;obtain⟨g,f,au⟩:=he.get _ _ a;grind[tw]
def sr(ρ:Env):List (Nat×af)->List (Nat×Value)->Prop
 |[],[]=>True
 |(i,v)::r,(j,x)::s=>i=j/\bC ρ v x/\sr ρ r s
 |_,_=>False
theorem EA(place:Nat->Option (Nat×Nat)):∀(parts:List (Nat×af)) (f:List (Nat×Value)) (cells b:List af) (xs:List Value),sr ρ parts f->bZ ρ cells xs->
  px place cells parts=A b->∃d:List Value,Instr.fill place xs.toArray f=A d.toArray/\bZ ρ b d
 |[],[],cells,b,xs,_,aA,h=>by
  simp[px]at h;subst h;exact⟨xs,rfl,aA⟩
 |[],_::_,_,_,_,a,_,_=>a.elim
 |_::_,[],_,_,_,a,_,_=>a.elim
 |(i,v)::r,(j,x)::s,cells,b,xs,a,aA,h=>by
  obtain⟨rfl,m,a⟩:=a;unfold px at h;unfold Instr.fill;cases k:place i with
  |none=>grind
  |some os=>
   obtain⟨off,size⟩:=os;rw[k]at h;simp only at h;split at h
   ·rename_i g;have e:=m.cells;have o:=e.length;have l2:=aA.length;have n:x.cells.size=v.cells.length:=al;have l:=S7 aA e (c:=off) g.2;obtain⟨d,ah,ai⟩:=EA place r s _ b _ a l h;refine⟨d,?_,ai⟩;simp only
    rw[if_neg al];have:=Fq x.cells.toList 0 off xs.toArray;rw[Nat.add_zero]at this;rw[<-Array.foldl_toList,Array.toList_zipIdx,this];omega
   grind
def sH(P:Program):List Field->Option (List (Nat×Nat))
 |[]=>A []
 |f::fs=>match cM P f.type,sH P fs with
  |some n,A l=>A ((f.offset,n)::l)
  |_,_=>Z
theorem Kw(w:World):∀(fs:List Field) (l:List (Nat×Nat)),sH P fs=A l->(fs.mapM (λf=>(do pure (f.offset,<-sizeOf f.type):Sem (Nat×Nat)))).run P w= .ok l w
 |[],l,h=>by grind[sH,Sem.run_pure]
 |f::fs,l,h=>by
  unfold sH at h;split at h
  ·rename_i n b aL ar;simp only[bE]at h;subst h;have a:=Kw w fs b ar;rw[List.mapM_cons];simp only[Sem.run_bind,run_sizeOf aL,Result.andThen_ok,Sem.run_pure,a]
  grind
def ey(P:Program)(t:TypeId)(parts:List (Nat×af)):Option af:=
 match gb P t,P.underlying t with
 |some z,A (.struct fs)=>(match sH P fs.toList with|some pl=>(px (pl[·]?) z.cells parts).map .agg|none=>Z)
 |some z,A (.array _ e)=>(match cM P e with|some n=>(px (λi=>A (i*n,n)) z.cells parts).map .agg|none=>Z)
 |_,_=>Z
theorem UF{t:TypeId}{parts:List (Nat×af)}{b:List (Nat×Value)}{v:af}(h:ey P t parts=A v)(l:sr ρ parts b)(w:World):
  ∃x,(Instr.build t b.toArray).run P w= .ok x w/\bC ρ v x:=by
 unfold ey at h;split at h
 ·rename_i z fs g hu;obtain⟨a,j,i⟩:=pz g w;split at h
  ·rename_i pl o;simp only[Option.map_eq_some_iff]at h;obtain⟨cs,d,rfl⟩:=h;obtain⟨k,ah,ai⟩:=EA _ parts b z.cells cs a.cells.toList l (i ρ).cells d;refine⟨.agg k.toArray,?_,.agg _ _ ai⟩;have hm:=Kw (P:=P) w fs.toList pl o;have m:(fs.mapM (λf=>(do pure (f.offset,<-sizeOf f.type):Sem (Nat×Nat)))).run P w= .ok pl.toArray w:=by
    rw[Array.mapM_eq_mapM_toList];simp only[Sem.run_map,hm,Result.andThen_ok]
   simp only[Instr.build,Sem.run_bind,j,Result.andThen_ok,run_underlying hu,m];have e:(λx:Nat=>(pl.toArray)[x]?)=(λx=>pl[x]?):=al;simp only[e];have c:a.cells.toList.toArray=a.cells:=aW;rw[c]at ah;simp[ah]
  grind
 ·rename_i z n e g hu;obtain⟨a,j,i⟩:=pz g w;split at h
  ·rename_i q p;simp only[Option.map_eq_some_iff]at h;obtain⟨cs,d,rfl⟩:=h;obtain⟨k,ah,ai⟩:=EA _ parts b z.cells cs a.cells.toList l (i ρ).cells d;refine⟨.agg k.toArray,?_,.agg _ _ ai⟩;have c:a.cells.toList.toArray=a.cells:=aW;rw[c]at ah;simp[Instr.build,j,run_underlying hu,run_sizeOf p,ah]
  grind
 grind
def lZ(esz:Nat):List (List af)->List (Nat×af)->Option (List (List af))
 |els,[]=>A els
 |els,(i,v)::rest=>if v.cells.length=esz/\i<els.length/\v.cells.all af.one=J then lZ esz (els.set i v.cells) rest else Z
def uV(P:Program)(H:ae)(t:TypeId)(len:Nat)(parts:List (Nat×af)):Option (af×ae):=
 match P.underlying t with
 |some (.slice e)=>
  (match cM P e,gb P e with
  |some a,A z=>
   if len*a<=16777216/\z.cells.length=a/\z.cells.all af.one=J then
    (match lZ a (List.replicate len z.cells) parts with
    |some els=>A (.az H.next 0 len a (A len),H.push (.row I a els))
    |none=>Z)
   else Z
  |_,_=>Z)
 |_=>Z
theorem pL{esz:Nat}:∀{els:List (List af)},(∀e∈els,e.length=esz)->els.flatten.length=els.length*esz
 |[],_=>aW
 |d::els,h=>by
  have:=pL (els:=els) (λe he=>h e (List.mem_cons_of_mem _ he));grind
theorem MU{esz:Nat}:∀{els:List (List af)} (i:Nat) (c:List af),(∀e∈els,e.length=esz)->c.length=esz->i<els.length->(els.set i c).flatten=gl els.flatten (i*esz) c
 |[],_,_,_,_,h=>al
 |d::els,0,c,ar,aA,_=>by
  grind[gl]
 |d::els,i+1,c,ar,aA,h=>by
  have g:=ar d aW;have a:=MU (els:=els) i c al aA al;simp only[List.set_cons_succ,List.flatten_cons,a];unfold gl;rw[Nat.succ_mul];have b:List.take (i*esz+esz) (d++els.flatten)=d++els.flatten.take (i*esz):=by
   grind
  have f:List.drop (i*esz+esz+c.length) (d++els.flatten)=els.flatten.drop (i*esz+c.length):=by
   rw[List.drop_append,List.drop_eq_nil_of_le aa,List.nil_append];congr 1;omega
  grind
theorem KI(esz:Nat):∀(parts:List (Nat×af)) (l:List (Nat×Value)) (els a:List (List af)) (xs:List Value),sr ρ parts l->(∀e∈els,e.length=esz)->(∀e∈els,∀v∈e,v.one=J)->
  bZ ρ els.flatten xs->lZ esz els parts=A a->
   (∃f:List Value,Instr.fill (λi=>A (i*esz,esz)) xs.toArray l=A f.toArray/\bZ ρ a.flatten f)/\(∀e∈a,e.length=esz)/\(∀e∈a,∀v∈e,v.one=J)/\a.length=els.length
 |[],[],els,a,xs,_,ah,ai,d,h=>by
  simp[lZ]at h;subst h;exact⟨⟨xs,rfl,d⟩,ah,ai,rfl⟩
 |[],_::_,_,_,_,b,_,_,_,_=>b.elim
 |_::_,[],_,_,_,b,_,_,_,_=>b.elim
 |(i,v)::r,(j,x)::s,els,a,xs,b,ah,ai,d,h=>by
  obtain⟨rfl,y,b⟩:=b;unfold lZ at h;split at h
  ·rename_i t;obtain⟨aA,aP,E⟩:=t;have G:∀u∈v.cells,u.one=true:=al;have k:=y.cells;have K:=k.length;have l2:=d.length;have w:=pL ah;have hle:i*esz+v.cells.length<=els.flatten.length:=by rw[w,aA];exact vy aP
   have g:=S7 d k (c:=i*esz) hle;rw[<-MU i v.cells ah aA aP]at g;have p:∀e∈els.set i v.cells,e.length=esz:=λe he=>by
    grind
   have q:∀e∈els.set i v.cells,∀u∈e,u.one=true:=λe he=>by
    grind
   obtain⟨⟨f,z,m⟩,n,o,B⟩:=KI esz r s _ a _ b p q g h;refine⟨⟨f,?_,m⟩,n,o,al⟩;unfold Instr.fill;have H:x.cells.size=v.cells.length:=al;simp only
   rw[if_neg al];have:=Fq x.cells.toList 0 (i*esz) xs.toArray;rw[Nat.add_zero]at this;rw[<-Array.foldl_toList,Array.toList_zipIdx,this];omega
  grind
theorem Uq(z:Array Value)(n:Nat)(a:0<z.size):((Array.range (n*z.size)).map (z[· %z.size]!))=((List.replicate n z.toList).flatten).toArray:=by
 apply Array.ext';apply List.ext_getElem?;intro k;by_cases b:k<n*z.size
 ·have ah:(Array.map (λx=>z[x%z.size]!) (Array.range (n*z.size))).toList[k]? =A z[k%z.size]! :=by
   grind
  rw[ah];symm;simp only
  have hdiv:k/z.size<n:=by rw[Nat.div_lt_iff_lt_mul a];omega
  have c:k%z.size<z.size:=Nat.mod_lt _ a;have key:∀(n k:Nat),k<n*z.size->(List.replicate n z.toList).flatten[k]? =z.toList[k%z.size]? :=by
   intro n
   induction n with
   |zero=>omega
   |succ n d=>
    grind[Nat.mod_eq_of_lt,List.getElem?_append_right,Nat.mod_eq_sub_mod]
  grind
 ·rw[List.getElem?_eq_none al,List.getElem?_eq_none (by simp;omega)]
def bZ.Fo{a:List af}{xs:List Value}(h:bZ ρ a xs):∀n,bZ ρ (List.replicate n a).flatten (List.replicate n xs).flatten
 |0=>by simpa using bZ.nil
 |n+1=>by simpa [List.replicate_succ]using h.append (bZ.Fo h n)
theorem UD(o:Rel ρ H w)(aB:ρ H.next=Z){t:TypeId}{len:Nat}{parts:List (Nat×af)}{g:List (Nat×Value)}{a:af}{H':ae}(h:uV P H t len parts=A (a,H'))(v:sr ρ parts g):
  ∃r j l,(Instr.buildSlice t len g.toArray).run P w= .ok r j/\bC l a r/\Step ρ H w l H' j:=by
 unfold uV at h;split at h
 ·rename_i e hu;split at h
  ·rename_i b z E G;split at h
   ·rename_i p;obtain⟨hle,Q,M⟩:=p;split at h
    ·rename_i els q;simp only[bE,dV]at h;obtain⟨rfl,rfl⟩:=h;obtain⟨c,L,K⟩:=pz G w;have N:∀u∈z.cells,u.one=true:=al;have i:=(K ρ).cells;have f:c.cells.size=b:=by have:=i.length;grind
     have y:=bZ.Fo i len;obtain⟨⟨k,ah,ai⟩,ay,aM,n⟩:=KI b parts g _ els _ v al
      al y q
     have B:=vM o aB (ot:=none) ay aM ai (tail:=[]) e (λ_ h=>by cases h);have O:k.length=len*b:=by
      rw[<-ai.length,pL ay,n];simp
     refine⟨.slice (A ⟨w.heap.size,0,Z⟩) len len,_,_,?_,?_,B⟩
     ·simp only[Instr.buildSlice,Sem.run_bind,run_underlying hu,Result.andThen_ok,run_sizeOf E];rw[if_neg aa];by_cases d:len*b=0
      ·simp only[d,if_true,Sem.run_bind,Sem.run_pure,Result.andThen_ok];have s:(List.replicate len c.cells.toList).flatten=[]:=by
        have:((List.replicate len c.cells.toList).flatten).length=0:=by simp[f,d]
        grind
       rw[s]at ah;have m:Array.range 0= #[]:=rfl;simp[ah,newRow,m]
      ·simp only[d,if_false,Sem.run_bind,L,Result.andThen_ok,Sem.run_pure];have x:0<c.cells.size:=by
        grind
       have:=Uq c.cells len x;rw[f]at this;simp only[f,this];simp[ah,newRow]
     ·refine bC.az (ρ:=ρ.dF H.next _) H.next 0 len (A len) ⟨w.heap.size,0,b,k.length+0⟩ _ len (Env.hD _ _ _) aa aW (λ_=>⟨aW,?_⟩)
      grind
    grind
   grind
  grind
 grind
end
section
variable {P:Program}{ρ:Env}{H:ae}{w:World}
def pw(P:Program)(t:TypeId)(x:af)(f:Nat):Option af:=
 match P.underlying t,x with
 |some (.struct fs),.agg cs=>(match fs[f]? with|some d=>apart P d.type cs d.offset|none=>Z)
 |_,_=>Z
theorem UW{t:TypeId}{x v:af}{a:Value}{f:Nat}(h:pw P t x f=A v)(aF:bC ρ x a)(w:World):∃r,(Instr.field t a f).run P w= .ok r w/\bC ρ v r:=by
 unfold pw at h;split at h
 ·rename_i fs cs hu;cases aF with|agg _ xs aA=>
  split at h
  ·rename_i d b;obtain⟨r,ah,ai⟩:=py h aA w;exact⟨r,by simp[Instr.field,run_underlying hu,b,asAgg,ah],ai⟩
  grind
 grind
def bP(P:Program)(t:TypeId)(x:af)(f:Nat):Option af:=
 match P.underlying t,x with
 |some (.struct fs),.ptr l i c=>(match fs[f]? with|some d=>(match cM P d.type with|some n=>if n=0 then Z else A (.ptr l i (c+d.offset))|none=>Z)|none=>Z)
 |_,_=>Z
theorem UU{t:TypeId}{x v:af}{a:Value}{f:Nat}(h:bP P t x f=A v)(aF:bC ρ x a)(w:World):∃r,(Instr.fieldAt t a f).run P w= .ok r w/\bC ρ v r:=by
 unfold bP at h;split at h
 ·rename_i fs l i c hu;cases aF with|ptr _ _ _ loc ar=>
  split at h
  ·rename_i d e;split at h
   ·rename_i n aL;split at h
    ·cases h
    ·rename_i b;simp only[bE]at h;subst h;refine⟨_,?_,.ptr l i (c+d.offset) loc ar⟩;simp[Instr.fieldAt,run_underlying hu,e,Instr.sureAddr,fieldPlace,run_sizeOf aL,b,nB,Nat.add_assoc]
   grind
  grind
 grind
def ct(P:Program)(t:TypeId)(x b:af):Option af:=
 match P.underlying t,x,b with
 |some (.slice e),.az l i n esz _,.int _ k=>(match cM P e with|some a=>if a=esz/\0<=k/\k<n then A (.ptr l (i+k.toNat) 0)else Z|none=>Z)
 |some (.array len e),.ptr l i c,.int _ k=>(match cM P e with|some a=>if 0<=k/\k<len then A (.ptr l i (c+k.toNat*a))else Z|none=>Z)
 |_,_,_=>Z
theorem UY{t:TypeId}{x g v:af}{o j:Value}(h:ct P t x g=A v)(aF:bC ρ x o)(aP:bC ρ g j)(w:World):∃r,(Instr.indexAt t o j).run P w= .ok r w/\bC ρ v r:=by
 unfold ct at h;split at h
 ·rename_i e l i n esz cap cR k hu;cases aP;cases aF with|az _ _ _ _ loc a c ar aL aA p=>
  split at h
  ·rename_i m f;split at h
   ·rename_i d;obtain⟨rfl,b,ah⟩:=d;simp only[bE]at h;subst h;obtain⟨rfl,_⟩:=p aa;refine⟨_,?_,.ptr l (i+k.toNat) 0 loc ar⟩;have q:loc.off+i*loc.esz+k.toNat*loc.esz=loc.off+(i+k.toNat)*loc.esz+0:=al;simp[Instr.indexAt,asIntOf,run_underlying hu,b,ah,run_sizeOf f,nB]
   grind
  grind
 ·rename_i len e l i c cR k hu;cases aP;cases aF with|ptr _ _ _ loc ar=>
  split at h
  ·rename_i m f;split at h
   ·rename_i d;obtain⟨b,ah⟩:=d;simp only[bE]at h;subst h;refine⟨_,?_,.ptr l i (c+k.toNat*m) loc ar⟩;simp[Instr.indexAt,asIntOf,run_underlying hu,Instr.sureAddr,b,ah,run_sizeOf f,nB,Nat.add_assoc]
   grind
  grind
 grind
def qS(P:Program)(t:TypeId)(x a:af):Option af:=
 match P.underlying t,x,a with
 |some .string,.str s,.int _ k=>if 0<=k then(match s[k.toNat]? with|some b=>A (.int .u8 b.toNat)|none=>Z)else Z
 |some (.array len e),.agg cs,.int _ k=>(match cM P e with|some c=>if 0<=k/\k<len then apart P e cs (k.toNat*c)else Z|none=>Z)
 |_,_,_=>Z
def Wb(s:List UInt8)(k:Nat):(⟨s.toArray⟩:ByteArray)[k]? =s[k]? :=by
 simp only[getElem?,decidableGetElem?];by_cases h:k<s.length
 ·have cD:k<(⟨s.toArray⟩:ByteArray).size:=by show k<s.toArray.size;omega
  simp[h,cD];rfl
 ·have cD:¬k<(⟨s.toArray⟩:ByteArray).size:=by show¬k<s.toArray.size;omega
  simp[h,cD]
theorem UZ{t:TypeId}{x a v:af}{d c:Value}(h:qS P t x a=A v)(aF:bC ρ x d)(aP:bC ρ a c)(w:World):∃r,(Instr.index t d c).run P w= .ok r w/\bC ρ v r:=by
 unfold qS at h;split at h
 ·rename_i s cR k hu;cases aP;cases aF;split at h
  ·rename_i f;split at h
   ·rename_i b g;simp only[bE]at h;subst h;refine⟨_,?_,.int _ _⟩;simp only[Instr.index,asIntOf,Sem.run_bind,Sem.run_pure,Result.andThen_ok,run_underlying hu,if_pos f,Wb,g]
   grind
  grind
 ·rename_i len e cs cR k hu;cases aP;cases aF with|agg _ xs aA=>
  split at h
  ·rename_i l j;split at h
   ·rename_i i;obtain⟨r,ah,ai⟩:=py h aA w;exact⟨r,by simp[Instr.index,asIntOf,run_underlying hu,i,run_sizeOf j,ah],ai⟩
   grind
  grind
 grind
def dR(x:Option af)(a y:Nat):Option Nat:=
 match x with
 |none=>A a
 |some (.int _ k)=>if 0<=k/\k<=y then A k.toNat else Z
 |some _=>Z
def gI(P:Program)(t:TypeId)(x:af)(gr aP a:Option af):Option af:=
 match P.underlying t,x with
 |some .string,.str s=>
  (match a,dR aP s.length s.length with
  |none,A h=>(match dR gr 0 h with|some l=>A (.str ((s.drop l).take (h-l)))|none=>Z)
  |_,_=>Z)
 |some (.slice e),.az l i n esz cap=>
  (match cM P e,a with
  |some b,Z=>
   if b=esz then
    (match dR aP n (cap.getD n)with
    |some h=>(match dR gr 0 h with|some k=>A (.az l (i+k) (h-k) esz (cap.map (· -k)))|none=>Z)
    |none=>Z)
   else Z
  |some b,A m=>
   if b=esz then
    (match dR (A m) 0 (cap.getD n)with
    |some m=>(match aP,dR aP 0 m with
     |some _,A h=>(match dR gr 0 h with|some k=>A (.az l (i+k) (h-k) esz (A (m-k)))|none=>Z)
     |_,_=>Z)
    |none=>Z)
   else Z
  |_,_=>Z)
 |some (.slice e),.aq=>
  (match cM P e,a with
  |some _,Z=>(match dR aP 0 0 with
   |some h=>(match dR gr 0 h with|some _=>A .aq|none=>Z)
   |none=>Z)
  |some _,A m=>(match dR (A m) 0 0 with
   |some m=>(match aP,dR aP 0 m with
    |some _,A h=>(match dR gr 0 h with|some _=>A .aq|none=>Z)
    |_,_=>Z)
   |none=>Z)
  |_,_=>Z)
 |_,_=>Z
inductive sq(ρ:Env):Option af->Option Value->Prop where
 |none:sq ρ none none
 |some (v:af) (x:Value) (h:bC ρ v x):sq ρ (some v) (some x)
theorem ih{v:af}{x:Value}{d y k:Nat}(h:dR (A v) d y=A k)(aF:bC ρ v x)(code:BoundsCode){a:Nat}(c:y<=a)(w:World):
  (Instr.sliceBound x a code).run P w= .ok k w/\k<=y:=by
 unfold dR at h;split at h
 ·grind
 ·rename_i cR n b;cases b;cases aF;grind[Instr.sliceBound,asIntOf,Sem.run_pure]
 grind
theorem XL(s:List UInt8)(l h:Nat):(⟨s.toArray⟩:ByteArray).extract l h=⟨((s.drop l).take (h-l)).toArray⟩:=by
 apply ByteArray.ext;grind[ByteArray.data_extract]
theorem VC{t:TypeId}{x v:af}{S:Value}{gr aP R:Option af}{y B z:Option Value}(h:gI P t x gr aP R=A v)(aF:bC ρ x S)(j:sq ρ gr y)(u:sq ρ aP B)(E:sq ρ R z)(w:World):
  ∃r,(Instr.sliceAt t S y B z).run P w= .ok r w/\bC ρ v r:=by
 unfold gI at h;split at h
 ·rename_i s hu;cases aF;have p:(⟨s.toArray⟩:ByteArray).size=s.length:=by show s.toArray.size=_;simp
  split at h
  ·rename_i f g;cases E;split at h
   ·rename_i l ar;simp only[bE]at h;subst h;refine⟨_,?_,.str _⟩;have o:∃m,(Instr.sliceBounds I s.length s.length y B Z).run P w= .ok (l,f,m) w:=by
     refine⟨s.length,?_⟩;cases u with
     |none=>
      simp only[dR,bE]at g;subst g;cases j with
      |none=>simp only[dR,bE]at ar;subst ar;simp[Instr.sliceBounds]
      |some v x b=>simp[Instr.sliceBounds,(ih ar b _ (ds _) w).1]
     |some v x b=>
      have:=(ih (P:=P) g b .sliceAlen (ds _) w).1;cases j with
      |none=>simp only[dR,bE]at ar;subst ar;simp[Instr.sliceBounds,this]
      |some v x b=>simp[Instr.sliceBounds,this,(ih ar b _ (ds _) w).1]
    obtain⟨m,o⟩:=o;simp[Instr.sliceAt,Instr.slice,run_underlying hu,p,o,XL]
   grind
  grind
 ·rename_i e l i n esz cap hu;cases aF with|az _ _ _ _ loc a c ar aL aA T=>
  have K:cap.getD n<=c:=by
   cases U:cap with
   |none=>grind
   |some k=>grind
  split at h
  ·rename_i O p;cases E;split at h
   ·rename_i M;subst M;split at h
    ·rename_i f g;split at h
     ·rename_i k d;simp only[bE]at h;subst h;have am:f<=c:=by
       cases u with
       |none=>grind[dR]
       |some v x b=>have:=(ih (P:=P) g b .sliceAcap K w).2;omega
      have Q:k<=f:=by
       cases j with
       |none=>grind[dR]
       |some v x b=>exact(ih (P:=P) d b .sliceB (ds _) w).2
      have o:(Instr.sliceBounds J n c y B Z).run P w= .ok (k,f,c) w:=by
       cases u with
       |none=>
        simp only[dR,bE]at g;subst g;cases j with
        |none=>simp only[dR,bE]at d;subst d;simp[Instr.sliceBounds]
        |some v x b=>simp[Instr.sliceBounds,(ih d b _ (ds _) w).1]
       |some v x b=>
        have:=(ih (P:=P) g b .sliceAcap K w).1;cases j with
        |none=>simp only[dR,bE]at d;subst d;simp[Instr.sliceBounds,this]
        |some v x b=>simp[Instr.sliceBounds,this,(ih d b _ (ds _) w).1]
      refine⟨.slice (A (if c=k then a else a.add (k*loc.esz))) (f-k) (c-k),?_,?_⟩
      ·simp[Instr.sliceAt,Instr.slice,run_underlying hu,o,run_sizeOf p];grind
      ·refine .az l (i+k) (f-k) _ loc _ (c-k) ar aa (λm hm=> ?_) (λaj=> ?_)
       ·cases U:cap with
        |none=>grind
        |some q=>grind
       grind[nB]
     grind
    grind
   grind
  ·rename_i O ak p;cases E with|some _ z L=>
   split at h
   ·rename_i M;subst M;split at h
    ·rename_i m hm;obtain⟨H,ai⟩:=ih (P:=P) hm L .slice3Acap K w;split at h
     ·rename_i b f g;cases u with|some _ x N=>
      obtain⟨G,ab⟩:=ih (P:=P) g N .slice3B (ds _) w;split at h
      ·rename_i k d;simp only[bE]at h;subst h;have Q:k<=f:=by
        cases j with
        |none=>grind[dR]
        |some v x b=>exact(ih (P:=P) d b .sliceB (ds _) w).2
       have o:(Instr.sliceBounds J n c y (A x) (A z)).run P w= .ok (k,f,m) w:=by
        cases j with
        |none=>simp only[dR,bE]at d;subst d;simp[Instr.sliceBounds,H,G]
        |some v x b=>simp[Instr.sliceBounds,H,G,(ih d b _ (ds _) w).1]
       refine⟨.slice (A (if m=k then a else a.add (k*loc.esz))) (f-k) (m-k),?_,?_⟩
       ·simp[Instr.sliceAt,Instr.slice,run_underlying hu,o,run_sizeOf p];grind
       ·refine .az l (i+k) (f-k) _ loc _ (m-k) ar aa (λq aH=>al) (λaj=> ?_);obtain⟨rfl,V⟩:=T aa;rw[if_neg aa,nB];refine⟨?_,?_⟩
        ·grind
        ·refine Nat.le_trans (Nat.add_le_add_left (Nat.mul_le_mul_right _ ?_) _) V;omega
      grind
     grind
    grind
   grind
  grind
 ·rename_i e hu;cases aF;split at h
  ·rename_i O p;cases E;split at h
   ·rename_i f g;split at h
    ·rename_i k d;simp only[bE]at h;subst h;have W:f=0:=by
      cases u with
      |none=>grind[dR]
      |some v x b=>have:=(ih (P:=P) g b .sliceAcap (ds _) w).2;omega
     subst W;have ad:k=0:=by
      cases j with
      |none=>grind[dR]
      |some v x b=>have:=(ih (P:=P) d b .sliceB (ds _) w).2;omega
     subst ad;refine⟨.slice Z 0 0,?_,.aq⟩;have o:(Instr.sliceBounds J 0 0 y B Z).run P w= .ok (0,0,0) w:=by
      cases u with
      |none=>
       cases j with
       |none=>simp[Instr.sliceBounds]
       |some v x b=>simp[Instr.sliceBounds,(ih d b _ (ds _) w).1]
      |some v x b=>
       have:=(ih (P:=P) g b .sliceAcap (ds _) w).1;cases j with
       |none=>simp[Instr.sliceBounds,this]
       |some v x b=>simp[Instr.sliceBounds,this,(ih d b _ (ds _) w).1]
     simp[Instr.sliceAt,Instr.slice,run_underlying hu,o,run_sizeOf p]
    grind
   grind
  ·rename_i O ak p;cases E with|some _ z L=>
   split at h
   ·rename_i m hm;obtain⟨H,ai⟩:=ih (P:=P) hm L .slice3Acap (ds _) w;split at h
    ·rename_i b f g;cases u with|some _ x N=>
     obtain⟨G,ab⟩:=ih (P:=P) g N .slice3B (ds _) w;split at h
     ·rename_i k d;simp only[bE]at h;subst h;have Q:k<=f:=by
       cases j with
       |none=>grind[dR]
       |some v x b=>exact(ih (P:=P) d b .sliceB (ds _) w).2
      have ah:m=0:=aa;have Y:f=0:=aa;have ae:k=0:=aa;subst ah;subst Y;subst ae;have o:(Instr.sliceBounds J 0 0 y (A x) (A z)).run P w= .ok (0,0,0) w:=by
       cases j with
       |none=>simp[Instr.sliceBounds,H,G]
       |some v x b=>simp[Instr.sliceBounds,H,G,(ih d b _ (ds _) w).1]
      exact⟨.slice Z 0 0,by simp[Instr.sliceAt,Instr.slice,run_underlying hu,o,run_sizeOf p],.aq⟩
     grind
    grind
   grind
  grind
 grind

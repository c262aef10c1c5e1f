/-
  Texts of one proof, laid together: Fv0 Fv1 Fv2 Fv3 Fv4 Fv5 Fv6.
-/
import GoSem.Dispatch
import Derived.WalkKit
import Derived.Laws.IdiomCopy
set_option linter.unusedVariables false
set_option linter.unusedSimpArgs false
namespace Go.gd
theorem Z{p:Prop}(h:p:=by omega):p:=h
theorem ad{p:Prop}(h:p:=by kernel_rfl):p:=h
theorem cm{p:Prop}(h:p:=by decide):p:=h
theorem au{a b:Prop}(x:a)(y:b):a/\b:=⟨x,y⟩
theorem bF{α:Type}(a b:α):(some a=some b)=(a=b):=Option.some.injEq a b
theorem bC{α:Type}(a b:α):(bif true then a else b)=a:=rfl
theorem bj{α:Type}(a b:α):(bif false then a else b)=b:=rfl
theorem eW{α β:Type}{o:Option α}{f:α->Option β}{b:β}:o.bind f=some b↔ ∃a,o=some a/\f a=some b:=Option.bind_eq_some_iff
theorem dw{α β:Type}(a:α)(b:β)(c:α)(d:β):((a,b)=(c,d))=(a=c/\b=d):=Prod.mk.injEq a b c d
theorem bN(n:Nat):n<=n:=Nat.le_refl n
section
inductive I where
 |bool (b:Bool)
 |int (k:IntKind) (n:Int)
 |str (s:List UInt8)
 |ptr (l i c:Nat)
 |nilPtr
 |aN (l i n esz:Nat) (cap:Option Nat)
 |ap
 |map (l:Nat)
 |oQ
 |func (fn:Fn) (first captured:List I)
 |nilFunc
 |iface (t:TypeId) (v:I)
 |nilIface
 |agg (cs:List I)
 |tuple (cl:List I)
instance:Inhabited I:=⟨.tuple []⟩
inductive dY where
 |row (ro:Bool) (esz:Nat) (els:List (List I))
 |map (es:List (I×I))
 |dead
inductive uV where
 |d0|d1|d2|d3|d4|d5|d6|d7
inductive da(α:Type) where
 |leaf
 |node (v:Option α) (c0 bM c2 c3 c4 c5 qj qk:da α)
def MI(n:Nat):uV:=match n with
 |0=> .d0|1=> .d1|2=> .d2|3=> .d3|4=> .d4|5=> .d5|6=> .d6|_=> .d7
theorem afS{n m:Nat}(aU:n<8)(hm:m<8)(h:MI n=MI m):n=m:=by
 have U:n=0\/n=1\/n=2\/n=3\/n=4\/n=5\/n=6\/n=7:=Z;have aa:m=0\/m=1\/m=2\/m=3\/m=4\/m=5\/m=6\/m=7:=Z;rcases U with rfl|rfl|rfl|rfl|rfl|rfl|rfl|rfl<;>rcases aa with rfl|rfl|rfl|rfl|rfl|rfl|rfl|rfl<;>first|rfl|cases h
def xA:Nat->Nat->List uV
 |0,_=>[]
 |_+1,0=>[]
 |f+1,k+1=>MI (k%8)::xA f (k/8)
def path(k:Nat):List uV:=xA k k
theorem adg: ∀(f g k j:Nat),k<=f->j<=g->xA f k=xA g j->k=j:=by
 intro f
 induction f with
 |zero=>
  intro g k j ah bH h;have:k=0:=Z;subst this;cases j with
  |zero=>rfl
  |succ j=>
   cases g with
   |zero=>omega
   |succ g=>simp[xA] at h
 |succ f aT=>
  intro g k j ah bH h;cases k with
  |zero=>
   cases j with
   |zero=>rfl
   |succ j=>
    cases g with
    |zero=>omega
    |succ g=>simp[xA] at h
  |succ k=>
   cases j with
   |zero=>cases g<;>simp[xA] at h
   |succ j=>
    cases g with
    |zero=>omega
    |succ g=>
     simp only[xA,List.cons.injEq] at h;have U:=afS (Nat.mod_lt _ Z) (Nat.mod_lt _ Z) h.1;have aa:=aT g (k/8) (j/8) Z Z h.2;omega
theorem RW{k j:Nat}(h:path k=path j):k=j:=adg k j k j (bN _) (bN _) h
def da.pX{α:Type}:List uV->da α->Option α
 |[],.leaf=>none
 |[],.node v _ _ _ _ _ _ _ _=>v
 |_::_,.leaf=>none
 |d::p,.node _ c0 bM c2 c3 c4 c5 qj qk=>match d with
  | .d0=>da.pX p c0| .d1=>da.pX p bM| .d2=>da.pX p c2| .d3=>da.pX p c3
  | .d4=>da.pX p c4| .d5=>da.pX p c5| .d6=>da.pX p qj| .d7=>da.pX p qk
def da.hH{α:Type}(x:α):List uV->da α->da α
 |[],.leaf=> .node (some x) .leaf .leaf .leaf .leaf .leaf .leaf .leaf .leaf
 |[],.node _ c0 bM c2 c3 c4 c5 qj qk=> .node (some x) c0 bM c2 c3 c4 c5 qj qk
 |d::p,.leaf=>match d with
  | .d0=> .node none (da.hH x p .leaf) .leaf .leaf .leaf .leaf .leaf .leaf .leaf
  | .d1=> .node none .leaf (da.hH x p .leaf) .leaf .leaf .leaf .leaf .leaf .leaf
  | .d2=> .node none .leaf .leaf (da.hH x p .leaf) .leaf .leaf .leaf .leaf .leaf
  | .d3=> .node none .leaf .leaf .leaf (da.hH x p .leaf) .leaf .leaf .leaf .leaf
  | .d4=> .node none .leaf .leaf .leaf .leaf (da.hH x p .leaf) .leaf .leaf .leaf
  | .d5=> .node none .leaf .leaf .leaf .leaf .leaf (da.hH x p .leaf) .leaf .leaf
  | .d6=> .node none .leaf .leaf .leaf .leaf .leaf .leaf (da.hH x p .leaf) .leaf
  | .d7=> .node none .leaf .leaf .leaf .leaf .leaf .leaf .leaf (da.hH x p .leaf)
 |d::p,.node v c0 bM c2 c3 c4 c5 qj qk=>match d with
  | .d0=> .node v (da.hH x p c0) bM c2 c3 c4 c5 qj qk
  | .d1=> .node v c0 (da.hH x p bM) c2 c3 c4 c5 qj qk
  | .d2=> .node v c0 bM (da.hH x p c2) c3 c4 c5 qj qk
  | .d3=> .node v c0 bM c2 (da.hH x p c3) c4 c5 qj qk
  | .d4=> .node v c0 bM c2 c3 (da.hH x p c4) c5 qj qk
  | .d5=> .node v c0 bM c2 c3 c4 (da.hH x p c5) qj qk
  | .d6=> .node v c0 bM c2 c3 c4 c5 (da.hH x p qj) qk
  | .d7=> .node v c0 bM c2 c3 c4 c5 qj (da.hH x p qk)
theorem da.Gl{α:Type}(p:List uV):da.pX p (.leaf:da α)=none:=by cases p<;>rfl
theorem da.Jo{α:Type}(x:α): ∀(p:List uV) (t:da α),da.pX p (da.hH x p t)=some x
 |[],.leaf=>rfl
 |[],.node .. =>rfl
 |d::p,.leaf=>by cases d<;>exact da.Jo x p _
 |d::p,.node .. =>by cases d<;>exact da.Jo x p _
theorem da.Jl{α:Type}(x:α): ∀(p q:List uV) (t:da α),p≠q->da.pX q (da.hH x p t)=da.pX q t
 |[],[],_,h=>absurd rfl h
 |[],e::q,.leaf,_=>by cases e<;>exact da.Gl q
 |[],e::q,.node ..,_=>rfl
 |d::p,[],.leaf,_=>by cases d<;>rfl
 |d::p,[],.node ..,_=>by cases d<;>rfl
 |d::p,e::q,.leaf,h=>by
  cases d<;>cases e<;>first
   |exact da.Gl q
   |(show da.pX q (da.hH x p .leaf)=none
     rw[da.Jl x p q .leaf (λNd=>h (by rw[Nd]))];exact da.Gl q)
 |d::p,e::q,.node ..,h=>by
  cases d<;>cases e<;>first
   |rfl
   |exact da.Jl x p q _ (λNd=>h (by rw[Nd]))
def da.get{α:Type}(t:da α)(k:Nat):Option α:=da.pX (path k) t
def da.put{α:Type}(x:α)(_:Nat)(t:da α)(k:Nat):da α:=da.hH x (path k) t
theorem da.DL{α:Type}(k:Nat):(da.leaf:da α).get k=none:=da.Gl _
theorem da.Dq{α:Type}(x:α): ∀(f:Nat) (t:da α) (k:Nat),k<f->(da.put x f t k).get k=some x:=λ_ t k _=>da.Jo x (path k) t
theorem da.Dn{α:Type}(x:α): ∀(f:Nat) (t:da α) (k j:Nat),k≠j->(da.put x f t k).get j=t.get j:=λ_ t _ _ h=>da.Jl x _ _ t (λe=>h (RW e))
structure J where
 t:da dY
 next:Nat
def J.get(H:J)(l:Nat):Option dY:=if l<H.next then H.t.get l else none
def J.set(H:J)(l:Nat)(b:dY):J:={H with t:=da.put b (l+1) H.t l}
def J.push(H:J)(b:dY):J:={t:=da.put b (H.next+1) H.t H.next,next:=H.next+1}
def J.empty:J:=⟨.leaf,0⟩
@[simp] theorem J.e9(H:J)(l:Nat)(b:dY):(H.set l b).next=H.next:=rfl
@[simp] theorem J.b2(H:J)(b:dY):(H.push b).next=H.next+1:=rfl
theorem J.aX{H:J}{l:Nat}{b:dY}(h:H.get l=some b):l<H.next:=by
 unfold J.get at h;split at h
 ·assumption
 ·cases h
theorem J.get_set_same{H:J}{l:Nat}{b:dY}(h:l<H.next):(H.set l b).get l=some b:=by
 show(if l<H.next then(da.put b (l+1) H.t l).get l else none)=some b;rw[if_pos h];exact da.Dq b _ _ _ Z
theorem J.get_set_other{H:J}{l j:Nat}{b:dY}(h:l≠j):(H.set l b).get j=H.get j:=by
 show(if j<H.next then(da.put b (l+1) H.t l).get j else none)=(if j<H.next then H.t.get j else none);rw[da.Dn b _ _ _ _ h]
theorem J.ca(H:J)(b:dY):(H.push b).get H.next=some b:=by
 show(if H.next<H.next+1 then(da.put b (H.next+1) H.t H.next).get H.next else none)=some b;rw[if_pos Z];exact da.Dq b _ _ _ Z
theorem J.gD{H:J}{j:Nat}{b:dY}(h:j≠H.next):(H.push b).get j=H.get j:=by
 show(if j<H.next+1 then(da.put b (H.next+1) H.t H.next).get j else none)=(if j<H.next then H.t.get j else none);by_cases bH:j<H.next
 ·rw[if_pos Z,if_pos bH,da.Dn b _ _ _ _ Z]
 ·rw[if_neg Z,if_neg bH]
end
section
structure Loc where
 block:Nat
 off:Nat
 esz:Nat
 size:Nat
def Env:Type:=Nat->Option Loc
def Env.le(ρ cY:Env):Prop:= ∀l loc,ρ l=some loc->cY l=some loc
theorem Env.le_refl(ρ:Env):ρ.le ρ:=λ_ _ h=>h
theorem Env.le_trans{ρ cY XI:Env}(h:ρ.le cY)(bZ:cY.le XI):ρ.le XI:=λl loc e=>bZ l loc (h l loc e)
mutual
inductive cW(ρ:Env):I->Value->Prop where
 |bool (b:Bool):cW ρ (.bool b) (.bool b)
 |int (k:IntKind) (n:Int):cW ρ (.int k n) (.int k n)
 |str (s:List UInt8):cW ρ (.str s) (.string ⟨s.toArray⟩)
 |ptr (l i c:Nat) (loc:Loc) (h:ρ l=some loc):cW ρ (.ptr l i c) (.pointer (some ⟨loc.block,loc.off+i*loc.esz+c,none⟩))
 |nilPtr:cW ρ .nilPtr (.pointer none)
 |aN (l i n:Nat) (cap:Option Nat) (loc:Loc) (a:Addr) (c:Nat) (h:ρ l=some loc) (aU:n<=c) (aS: ∀k,cap=some k->c=k)
  (bV:0<c->a=⟨loc.block,loc.off+i*loc.esz,none⟩/\loc.off+(i+c)*loc.esz<=loc.size):cW ρ (.aN l i n loc.esz cap) (.slice (some a) n c)
 |ap:cW ρ .ap (.slice none 0 0)
 |map (l:Nat) (loc:Loc) (h:ρ l=some loc):cW ρ (.map l) (.map (some loc.block))
 |oQ:cW ρ .oQ (.map none)
 |func (fn:Fn) (f c:List I) (rb c':List Value) (al:dI ρ f rb) (aS:dI ρ c c'):cW ρ (.func fn f c) (.func fn rb.toArray c'.toArray)
 |nilFunc:cW ρ .nilFunc .nilFunc
 |iface (t:TypeId) (v:I) (x:Value) (h:cW ρ v x):cW ρ (.iface t v) (.iface t x)
 |nilIface:cW ρ .nilIface .nilIface
 |agg (cs:List I) (xs:List Value) (h:dI ρ cs xs):cW ρ (.agg cs) (.agg xs.toArray)
 |tuple (cs:List I) (xs:List Value) (h:dI ρ cs xs):cW ρ (.tuple cs) (.tuple xs.toArray)
inductive dI(ρ:Env):List I->List Value->Prop where
  |nil:dI ρ [] []
  |cons (v:I) (x:Value) (cl:List I) (xs:List Value) (h:cW ρ v x) (aM:dI ρ cl xs):dI ρ (v::cl) (x::xs)
 end
mutual
theorem cW.mono{ρ cY:Env}(hle:ρ.le cY){v:I}{x:Value}(h:cW ρ v x):cW cY v x:=by
 cases h with
 |bool b=>exact .bool b
 |int k n=>exact .int k n
 |str s=>exact .str s
 |ptr l i c loc h=>exact .ptr l i c loc (hle _ _ h)
 |nilPtr=>exact .nilPtr
 |aN l i n cap loc a c h aU aS bV=>exact .aN l i n cap loc a c (hle _ _ h) aU aS bV
 |ap=>exact .ap
 |map l loc h=>exact .map l loc (hle _ _ h)
 |oQ=>exact .oQ
 |func fn f c rb c' al aS=>exact .func fn f c rb c' (dI.mono hle al) (dI.mono hle aS)
 |nilFunc=>exact .nilFunc
 |iface t v x h=>exact .iface t v x (cW.mono hle h)
 |nilIface=>exact .nilIface
 |agg cs xs h=>exact .agg cs xs (dI.mono hle h)
 |tuple cs xs h=>exact .tuple cs xs (dI.mono hle h)
theorem dI.mono{ρ cY:Env}(hle:ρ.le cY){v:List I}{x:List Value}(h:dI ρ v x):dI cY v x:=by
  cases h with
  |nil=>exact .nil
  |cons v x cl xs h aM=>exact .cons v x cl xs (cW.mono hle h) (dI.mono hle aM)
 end
theorem dI.length{ρ:Env}: ∀{cl:List I} {xs:List Value},dI ρ cl xs->cl.length=xs.length
 |[],_,h=>by cases h;rfl
 |_::_,_,h=>by cases h with|cons _ _ _ _ _ aM=>simp[dI.length aM]
theorem dI.get{ρ:Env}: ∀{cl:List I} {xs:List Value},dI ρ cl xs-> ∀(j:Nat) (v:I),cl[j]? =some v-> ∃x,xs[j]? =some x/\cW ρ v x
 |[],_,h,j,v,bH=>by simp at bH
 |w::cl,_,h,j,v,bH=>by
  cases h with
  |cons _ x _ xs b0 aM=>
   cases j with
   |zero=>simp at bH;subst bH;exact⟨x,rfl,b0⟩
   |succ j=>simpa using dI.get aM j v (by simpa using bH)
theorem dI.append{ρ:Env}: ∀{cl us:List I} {xs dX:List Value},dI ρ cl xs->dI ρ us dX->dI ρ (cl++us) (xs++dX)
 |[],_,_,_,h,bZ=>by cases h;exact bZ
 |_::_,_,_,_,h,bZ=>by cases h with|cons _ _ _ _ a as=>exact .cons _ _ _ _ a (dI.append as bZ)
theorem dI.Vh{ρ:Env}: ∀{cl:List I} {xs:List Value},cl.length=xs.length->(∀(j:Nat) (v:I) (x:Value),cl[j]? =some v->xs[j]? =some x->cW ρ v x)->dI ρ cl xs
 |[],[],_,_=> .nil
 |[],_::_,h,_=>by simp at h
 |_::_,[],h,_=>by simp at h
 |v::cl,x::xs,h,a8=> .cons _ _ _ _ (a8 0 v x rfl rfl) (dI.Vh (by simpa using h) λj a b bV ax=>a8 (j+1) a b (by simpa using bV) (by simpa using ax))
theorem dI.set{ρ:Env}{v:I}{x:Value}(h:cW ρ v x): ∀{cl:List I} {xs:List Value} (j:Nat),dI ρ cl xs->dI ρ (cl.set j v) (xs.set j x)
 |[],_,_,aM=>by cases aM;exact .nil
 |_::_,_,0,aM=>by cases aM with|cons _ _ _ _ a as=>exact .cons _ _ _ _ h as
 |_::_,_,j+1,aM=>by cases aM with|cons _ _ _ _ a as=>exact .cons _ _ _ _ a (dI.set h j as)
def I.one:I->Bool
 | .agg _| .tuple _=>false
 |_=>true
def I.cells:I->List I
 | .agg cs=>cs
 |v=>[v]
theorem cW.Tl{ρ:Env}{v:I}{x:Value}(h:cW ρ v x)(U:v.one=true):x.oneCell'=true:=by
 cases h<;>first|rfl|cases U
theorem cW.cells{ρ:Env}{v:I}{x:Value}(h:cW ρ v x):dI ρ v.cells x.cells.toList:=by
 cases h with
 |agg cs xs h=>simpa [I.cells,Value.cells] using h
 |bool b=>exact .cons _ _ _ _ (.bool b) .nil
 |int k n=>exact .cons _ _ _ _ (.int k n) .nil
 |str s=>exact .cons _ _ _ _ (.str s) .nil
 |ptr l i c loc h=>exact .cons _ _ _ _ (.ptr l i c loc h) .nil
 |nilPtr=>exact .cons _ _ _ _ .nilPtr .nil
 |aN l i n cap loc a c h aU aS bV=>exact .cons _ _ _ _ (.aN l i n cap loc a c h aU aS bV) .nil
 |ap=>exact .cons _ _ _ _ .ap .nil
 |map l loc h=>exact .cons _ _ _ _ (.map l loc h) .nil
 |oQ=>exact .cons _ _ _ _ .oQ .nil
 |func fn f c rb c' al aS=>exact .cons _ _ _ _ (.func fn f c rb c' al aS) .nil
 |nilFunc=>exact .cons _ _ _ _ .nilFunc .nil
 |iface t v x h=>exact .cons _ _ _ _ (.iface t v x h) .nil
 |nilIface=>exact .cons _ _ _ _ .nilIface .nil
 |tuple cs xs h=>exact .cons _ _ _ _ (.tuple cs xs h) .nil
def mN(ρ:Env)(w:World)(loc:Loc)(ro:Bool)(esz:Nat)(els:List (List I)):Prop:=
 loc.esz=esz/\ ∃c t ie,w.heap[loc.block]? =some (.cells c t ie)/\(ro=false->loc.size=c.size/\ ∀o,o<c.size-> ¬(ie.1<=o/\o<ie.2))/\
  ∀(i:Nat) (e:List I),els[i]? =some e->e.length=esz/\ ∀(j:Nat) (v:I),e[j]? =some v->v.one=true/\ ∃x,c[loc.off+i*esz+j]? =some x/\cW ρ v x
def Ls(ρ:Env)(w:World)(loc:Loc)(es:List (I×I)):Prop:=
 ∃ents clock,w.heap[loc.block]? =some (.map ents clock)/\dI ρ (es.map (·.1)) (ents.toList.map (·.key))/\dI ρ (es.map (·.2)) (ents.toList.map (·.val))
def J.rw(H:J)(l:Nat):Prop:=(∃esz els,H.get l=some (.row false esz els))\/ ∃es,H.get l=some (.map es)
def J.live(H:J)(l:Nat):Prop:=(∃ro esz els,H.get l=some (.row ro esz els))\/ ∃es,H.get l=some (.map es)
theorem J.rw.live{H:J}{l:Nat}(h:H.rw l):H.live l:=by
 rcases h with⟨e,s,h⟩|h
 ·exact .inl ⟨_,e,s,h⟩
 ·exact .inr h
def dY.HI:dY->Bool
 | .row true _ _=>true
 |_=>false
theorem J.Vp{H:J}{l:Nat}{b:dY}(ax:b.HI=false): ∀k esz els,(H.set l b).get k=some (.row true esz els)->H.get k=some (.row true esz els):=by
 intro k esz els h;by_cases ah:l=k
 ·subst ah;have et:l<H.next:=by have:=J.aX h;simpa using this
  rw[J.get_set_same et] at h;simp only[bF] at h;subst h;cases ax
 ·rwa[J.get_set_other ah] at h
theorem J.Tu{H:J}{b:dY}(ax:b.HI=false): ∀k esz els,(H.push b).get k=some (.row true esz els)->H.get k=some (.row true esz els):=by
 intro k esz els h;by_cases ah:k=H.next
 ·subst ah;rw[J.ca] at h;simp only[bF] at h;subst h;cases ax
 ·rwa[J.gD ah] at h
structure Rel(ρ:Env)(H:J)(w:World):Prop where
 row: ∀l ro esz els,H.get l=some (.row ro esz els)-> ∃loc,ρ l=some loc/\mN ρ w loc ro esz els
 map: ∀l es,H.get l=some (.map es)-> ∃loc,ρ l=some loc/\Ls ρ w loc es
 apart: ∀l l' loc dz,H.rw l->H.live l'->l≠l'->ρ l=some loc->ρ l'=some dz->loc.block≠dz.block
def pN(ρ:Env)(H:J)(b:Nat):Prop:= ∃l loc,H.rw l/\ρ l=some loc/\loc.block=b
structure Step(ρ:Env)(H:J)(w:World)(cY:Env)(H':J)(b4:World):Prop where
 le:ρ.le cY
 next:H.next<=H'.next
 bo: ∀l,l<H.next\/H'.next<=l->cY l=ρ l
 rel:Rel cY H' b4
 os:b4.os=w.os
 tape:b4.tape=w.tape
 output:b4.output=w.output
 size:w.heap.size<=b4.heap.size
 frame: ∀b,b<w.heap.size-> ¬pN ρ H b->b4.heap[b]? =w.heap[b]?
 own: ∀b,pN cY H' b->pN ρ H b\/w.heap.size<=b
 ro: ∀l esz els,H'.get l=some (.row true esz els)->H.get l=some (.row true esz els)
theorem Step.refl{ρ:Env}{H:J}{w:World}(h:Rel ρ H w):Step ρ H w ρ H w:=
 ⟨ρ.le_refl,bN _,λ_ _=>rfl,h,rfl,rfl,rfl,bN _,λ_ _ _=>rfl,λ_ h=> .inl h,λ_ _ _ h=>h⟩
theorem Step.trans{ρ El WA:Env}{H qQ sT:J}{w s3 H2:World}(h:Step ρ H w El qQ s3)(k:Step El qQ s3 WA sT H2):Step ρ H w WA sT H2 where
 le:=Env.le_trans h.le k.le
 next:=Nat.le_trans h.next k.next
 bo:=λl az=>(k.bo l (az.imp (λx=>Nat.lt_of_lt_of_le x h.next) id)).trans (h.bo l (az.imp id (λx=>Nat.le_trans k.next x)))
 ro:=λl esz els e=>h.ro l esz els (k.ro l esz els e)
 rel:=k.rel
 os:=k.os.trans h.os
 tape:=k.tape.trans h.tape
 output:=k.output.trans h.output
 size:=Nat.le_trans h.size k.size
 frame:=λb ax aU=>by
  rw[k.frame b (Nat.lt_of_lt_of_le ax h.size) (λbt=>(h.own b bt).elim aU (λhle=>Z)),h.frame b ax aU]
 own:=λb ax=>(k.own b ax).elim (λbt=>h.own b bt) (λhle=> .inr (Nat.le_trans h.size hle))
def XJ(ρ:Env)(n m:Nat):Prop:= ∀l,n<=l->l<m->ρ l=none
structure ol(E ρ:Env)(n m:Nat):Prop where
 new:XJ ρ n m
 le:E.le ρ
theorem ol.left{E ρ:Env}{n m k:Nat}(h:ol E ρ n k)(hm:m<=k):ol E ρ n m:=⟨λl a b=>h.new l a Z,h.le⟩
theorem ol.after{E ρ El:Env}{H qQ:J}{w s3:World}{k:Nat}(h:ol E ρ H.next k)(s:Step ρ H w El qQ s3):ol E El qQ.next k:=⟨λl a b=>by
 rw[s.bo l (.inr a)];exact h.new l (Nat.le_trans s.next a) b,Env.le_trans h.le s.le⟩
theorem Rel.drew{ρ:Env}{H:J}{w:World}(h:Rel ρ H w):Rel ρ H w.drew:=⟨h.row,h.map,h.apart⟩
end
section
def h3(P:Program)(t:TypeId):Option Bool:=
 match P.underlying t with
 |some (.struct _)|some (.array _ _)=>some true
 |some _=>some false
 |none=>none
def fs(P:Program)(t:TypeId):Option Nat:=(P.info? t).map (·.size)
theorem Gw{P:Program}{t:TypeId}{b:Bool}(h:h3 P t=some b)(w:World):(isAgg t).run P w= .ok b w:=by
 unfold h3 at h;unfold isAgg;cases hu:P.underlying t with
 |none=>rw[hu] at h;cases h
 |some d=>
  rw[hu] at h;simp only[Sem.run_bind,run_underlying hu,Result.andThen_ok];cases d<;>simp_all
theorem run_sizeOf{P:Program}{t:TypeId}{n:Nat}(h:fs P t=some n)(w:World):(sizeOf t).run P w= .ok n w:=by
 unfold fs at h;cases be:P.info? t with
 |none=>rw[be] at h;cases h
 |some i=>rw[be] at h;simp at h;simp[sizeOf,typeInfo,be,h]
def apart(P:Program)(t:TypeId)(cs:List I)(off:Nat):Option I:=
 match h3 P t with
 |some true=>(match fs P t with|some n=>some (.agg ((cs.drop off).take n))|none=>none)
 |some false=>cs[off]?
 |none=>none
theorem dI.drop{ρ:Env}: ∀{cl:List I} {xs:List Value} (n:Nat),dI ρ cl xs->dI ρ (cl.drop n) (xs.drop n)
 |_,_,0,h=>by simpa using h
 |[],_,n+1,h=>by cases h;simpa using dI.nil
 |_::_,_,n+1,h=>by cases h with|cons _ _ _ _ a as=>simpa using dI.drop n as
theorem dI.take{ρ:Env}: ∀{cl:List I} {xs:List Value} (n:Nat),dI ρ cl xs->dI ρ (cl.take n) (xs.take n)
 |_,_,0,h=>by simpa using dI.nil
 |[],_,n+1,h=>by cases h;simpa using dI.nil
 |_::_,_,n+1,h=>by cases h with|cons _ _ _ _ a as=>simpa using dI.cons _ _ _ _ a (dI.take n as)
theorem Bh{P:Program}{t:TypeId}{cs:List I}{off:Nat}{v:I}{ρ:Env}{xs:List Value}(h:apart P t cs off=some v)(aM:dI ρ cs xs)(w:World):
  ∃x,(part t xs.toArray off).run P w= .ok x w/\cW ρ v x:=by
 unfold apart at h;split at h
 ·rename_i bV;split at h
  ·rename_i n aU;simp at h;subst h;refine⟨.agg (((xs.drop off).take n).toArray),?_,.agg _ _ ((aM.drop off).take n)⟩;unfold part;simp only[Sem.run_bind,Gw bV,Result.andThen_ok,if_true,run_sizeOf aU];simp[List.extract_toArray,List.extract_eq_take_drop]
  ·cases h
 ·rename_i bV;obtain⟨x,ag,bA⟩:=aM.get off v h;refine⟨x,?_,bA⟩;unfold part;simp[Gw bV,ag]
 ·cases h
def pH(op:BinOp)(k:IntKind)(a b:Int):Option I:=
 match op with
 | .add=>some (.int k (k.wrap (a+b)))
 | .sub=>some (.int k (k.wrap (a-b)))
 | .mul=>some (.int k (k.wrap (a*b)))
 | .quo=>if b=0 then none else some (.int k (k.wrap (a.tdiv b)))
 | .rem=>if b=0 then none else some (.int k (a.tmod b))
 | .and=>some (.int k (k.wrap ((BitVec.ofInt k.bits a&&&BitVec.ofInt k.bits b).toNat:Int)))
 | .or=>some (.int k (k.wrap ((BitVec.ofInt k.bits a|||BitVec.ofInt k.bits b).toNat:Int)))
 | .xor=>some (.int k (k.wrap ((BitVec.ofInt k.bits a^^^BitVec.ofInt k.bits b).toNat:Int)))
 | .andNot=>some (.int k (k.wrap ((BitVec.ofInt k.bits a&&& ~~~BitVec.ofInt k.bits b).toNat:Int)))
 | .eql=>some (.bool (a==b))
 | .neq=>some (.bool (a != b))
 | .lss=>some (.bool (decide (a<b)))
 | .leq=>some (.bool (decide (a<=b)))
 | .gtr=>some (.bool (decide (b<a)))
 | .geq=>some (.bool (decide (b<=a)))
 | .shl| .shr=>none
def BA(op:BinOp)(k:IntKind)(a b:Int):Option I:=
 if b<0 then none else
 match op with
 | .shl=>some (.int k (k.wrap (a*2^(min b.toNat k.bits))))
 | .shr=>some (.int k (a.fdiv (2^(min b.toNat k.bits))))
 |_=>none
def G7(op:BinOp)(a b:List UInt8):Option I:=
 match op with
 | .add=>if a.length+b.length<=9223372036854775807 then some (.str (a++b)) else none
 | .eql=>some (.bool (a==b))
 | .neq=>some (.bool (!(a==b)))
 | .lss=>some (.bool (Op.bytesLess a b))
 | .leq=>some (.bool (Op.bytesLess a b||a==b))
 | .gtr=>some (.bool (!(Op.bytesLess a b||a==b)))
 | .geq=>some (.bool (!Op.bytesLess a b))
 |_=>none
def Bu(P:Program)(eq:TypeId->I->I->Option Bool):List Field->List I->List I->Option Bool
 |[],_,_=>some true
 |f::eD,xs,dX=>
  if f.name≠ "_" then
   match apart P f.type xs f.offset,apart P f.type dX f.offset with
   |some a,some b=>(match eq f.type a b with|some true=>Bu P eq eD xs dX|some false=>some false|none=>none)
   |_,_=>none
  else Bu P eq eD xs dX
def DJ(P:Program)(eq:TypeId->I->I->Option Bool)(e:TypeId)(n:Nat):Nat->Nat->List I->List I->Option Bool
 |0,_,_,_=>some true
 |k+1,i,xs,dX=>
  match apart P e xs (i*n),apart P e dX (i*n) with
  |some a,some b=>(match eq e a b with|some true=>DJ P eq e n k (i+1) xs dX|some false=>some false|none=>none)
  |_,_=>none
def uh(P:Program):Nat->TypeId->I->I->Option Bool
 |0,_,_,_=>none
 |d+1,t,x,y=>
  match P.underlying t,x,y with
  |some .bool,.bool a,.bool b=>some (a==b)
  |some (.int _),.int k a,.int fF b=>if k=fF then some (a==b) else none
  |some .string,.str a,.str b=>some (a==b)
  |some (.pointer _),.nilPtr,.nilPtr=>some true
  |some (.pointer _),.nilPtr,.ptr .. =>some false
  |some (.pointer _),.ptr ..,.nilPtr=>some false
  |some (.interface _),.nilIface,.nilIface=>some true
  |some (.interface _),.nilIface,.iface .. =>some false
  |some (.interface _),.iface ..,.nilIface=>some false
  |some (.struct eD),.agg xs,.agg dX=>if P.stoodInHeld t then none else Bu P (uh P d) eD.toList xs dX
  |some (.array len e),.agg xs,.agg dX=>(match fs P e with|some n=>DJ P (uh P d) e n len 0 xs dX|none=>none)
  |some (.slice _),.ap,.ap=>some true
  |some (.slice _),.ap,.aN .. =>some false
  |some (.slice _),.aN ..,.ap=>some false
  |some (.map _ _),.oQ,.oQ=>some true
  |some (.map _ _),.oQ,.map _=>some false
  |some (.map _ _),.map _,.oQ=>some false
  |some (.func _ _ _),.nilFunc,.nilFunc=>some true
  |some (.func _ _ _),.nilFunc,.func .. =>some false
  |some (.func _ _ _),.func ..,.nilFunc=>some false
  |_,_,_=>none
def isConst:Operand->Bool
 | .const _=>true
 |_=>false
def zf(P:Program)(t:TypeId)(x y:Operand)(a b:I):Bool:=
 match a,b with
 | .nilIface,.nilIface=>isConst x||isConst y
 | .agg _,.agg _=> !P.eqGuardType P.depth t
 |_,_=>true
def Em(P:Program)(op:BinOp)(t:TypeId)(qs pv:Operand)(x y:I):Option I:=
 match x,y with
 | .int k a,.int fF b=>
  (match op with
  | .shl=>BA .shl k a b
  | .shr=>BA .shr k a b
  |op=>if k=fF then pH op k a b else none)
 | .str a,.str b=>G7 op a b
 |x,y=>
  (match op with
  | .eql=>if zf P t qs pv x y then(uh P 10000 t x y).map .bool else none
  | .neq=>if zf P t qs pv x y then(uh P 10000 t x y).map λb=> .bool (!b) else none
  |_=>none)
def eY(op:UnOp)(x:I):Option I:=
 match op,x with
 | .neg,.int k n=>some (.int k (k.wrap (0-n)))
 | .not,.bool b=>some (.bool (!b))
 |_,_=>none
end
end Go.gd
namespace Go
def Operand.GB:Operand->Bool
 | .const _=>true
 |_=>false
end Go
namespace Go.gd
section
section
variable {P:Program}{ρ:Env}
theorem Ka(w:World)(eq:TypeId->I->I->Option Bool)(qX:TypeId->Value->Value->Sem Bool)
  (heq: ∀t a b x y c,eq t a b=some c->cW ρ a x->cW ρ b y->(qX t x y).run P w= .ok c w) {xs dX:List I} {uU AY:List Value} (ag:dI ρ xs uU) (cV:dI ρ dX AY):
  ∀(eD:List Field) (b:Bool),Bu P eq eD xs dX=some b->
   (forIn eD ((none:Option Bool),()) (λf _=>
    (if f.name≠ "_" then do
     let a<-part f.type uU.toArray f.offset
     let b<-part f.type AY.toArray f.offset
     let c<-qX f.type a b
     if(!c)=true then pure (ForInStep.done (some false,())) else pure (ForInStep.yield (none,()))
    else pure (ForInStep.yield (none,())):Sem (ForInStep (Option Bool×Unit))))).run P w= .ok (if b then(none,()) else(some false,())) w
 |[],b,h=>by
  simp[Bu] at h;subst h;simp[Sem.run_pure]
 |f::eD,b,h=>by
  unfold Bu at h;rw[List.forIn_cons];by_cases aU:f.name≠ "_"
  ·rw[if_pos aU] at h;split at h
   ·rename_i a fq bV ax;obtain⟨x,du,jt⟩:=Bh bV ag w;obtain⟨y,Fp,Fm⟩:=Bh ax cV w;split at h
    ·rename_i he;have a8:=heq _ _ _ _ _ _ he jt Fm;have aT:=Ka w eq qX heq ag cV eD b h;simp only[if_pos aU,Sem.run_bind,du,Fp,a8,Result.andThen_ok,Bool.not_true,Bool.false_eq_true,if_false,Sem.run_pure];exact aT
    ·rename_i he;have a8:=heq _ _ _ _ _ _ he jt Fm;simp at h;subst h;simp only[if_pos aU,Sem.run_bind,du,Fp,a8,Result.andThen_ok,Bool.not_false,if_true,Sem.run_pure];rfl
    ·cases h
   ·cases h
  ·rw[if_neg aU] at h;have aT:=Ka w eq qX heq ag cV eD b h;simp only[if_neg aU,Sem.run_bind,Sem.run_pure,Result.andThen_ok];exact aT
theorem QZ(w:World)(e:TypeId)(n:Nat)(eq:TypeId->I->I->Option Bool)(qX:TypeId->Value->Value->Sem Bool)
  (heq: ∀t a b x y c,eq t a b=some c->cW ρ a x->cW ρ b y->(qX t x y).run P w= .ok c w) {xs dX:List I} {uU AY:List Value} (ag:dI ρ xs uU) (cV:dI ρ dX AY):
  ∀(k i:Nat) (b:Bool),DJ P eq e n k i xs dX=some b->
   (forIn (List.range' i k) ((none:Option Bool),()) (λi _=>
    (do
     let a<-part e uU.toArray (i*n)
     let b<-part e AY.toArray (i*n)
     let c<-qX e a b
     if(!c)=true then pure (ForInStep.done (some false,())) else pure (ForInStep.yield (none,())):Sem (ForInStep (Option Bool×Unit))))).run P w= .ok (if b then(none,()) else(some false,())) w
 |0,i,b,h=>by
  simp[DJ] at h;subst h;simp[Sem.run_pure]
 |k+1,i,b,h=>by
  unfold DJ at h;rw[List.range'_succ,List.forIn_cons];split at h
  ·rename_i a fq bV ax;obtain⟨x,du,jt⟩:=Bh bV ag w;obtain⟨y,Fp,Fm⟩:=Bh ax cV w;split at h
   ·rename_i he;have a8:=heq _ _ _ _ _ _ he jt Fm;have aT:=QZ w e n eq qX heq ag cV k (i+1) b h;simp only[Sem.run_bind,du,Fp,a8,Result.andThen_ok,Bool.not_true,Bool.false_eq_true,if_false,Sem.run_pure];exact aT
   ·rename_i he;have a8:=heq _ _ _ _ _ _ he jt Fm;simp at h;subst h;simp only[Sem.run_bind,du,Fp,a8,Result.andThen_ok,Bool.not_false,if_true,Sem.run_pure];rfl
   ·cases h
  ·cases h
theorem K1(a b:List UInt8):((⟨a.toArray⟩:ByteArray)==⟨b.toArray⟩)=(a==b):=by
 have:((⟨a.toArray⟩:ByteArray)==⟨b.toArray⟩)=(a.toArray==b.toArray):=rfl;rw[this];simp
theorem Jr(w:World): ∀(d:Nat) (t:TypeId) (x y:I) (er jj:Value) (b:Bool),uh P d t x y=some b->cW ρ x er->cW ρ y jj->
  (Op.equalIn d t er jj).run P w= .ok b w
 |0,t,x,y,er,jj,b,h,_,_=>by cases h
 |d+1,t,x,y,er,jj,b,h,ag,cV=>by
  have aT:=Jr w d;unfold uh at h;unfold Op.equalIn;cases hu:P.underlying t with
  |none=>rw[hu] at h;cases h
  |some u=>
   rw[hu] at h;simp only[Sem.run_bind,run_underlying hu,Result.andThen_ok];split at h<;>(try (cases h;done))<;>(try simp only[bF] at*)<;>(try subst_vars)<;>(try (cases ag;cases cV;simp;done))
   ·cases ag;cases cV;split at h
    ·rename_i ah;subst ah;simp at h;subst h;simp
    ·cases h
   ·cases ag;cases cV;simp[K1]
   ·cases ag with|agg _ uU ag=>cases cV with|agg _ AY cV=>
    split at h
    ·cases h
    ·rename_i sg;have am2:P.stoodInHeld t=false:=by simpa using sg
     have:=Ka w (uh P d) (Op.equalIn d) (λt a b x y c he bV ax=>aT t a b x y c he bV ax) ag cV _ b h;simp only[Sem.run_bind,run_program,Result.andThen_ok,am2,Bool.false_eq_true,if_false];rw[<-Array.forIn_toList,this];cases b<;>simp
   ·cases ag with|agg _ uU ag=>cases cV with|agg _ AY cV=>
    split at h
    ·rename_i cg aU;have:=QZ w _ cg (uh P d) (Op.equalIn d) (λt a b x y c he bV ax=>aT t a b x y c he bV ax) ag cV _ _ b h;simp only[Sem.run_bind,run_sizeOf aU,Result.andThen_ok];rw[Std.Legacy.Range.forIn_eq_forIn_range'];simp only[Std.Legacy.Range.size,Nat.sub_zero,Nat.add_sub_cancel,Nat.div_one] at this ⊢;rw[this];cases b<;>simp
    ·cases h
theorem aae{op:BinOp}{k:IntKind}{a b:Int}{v:I}(h:pH op k a b=some v)(t:TypeId)(w:World):
  ∃r,(binOp op t (.int k a) (.int k b)).run P w= .ok r w/\cW ρ v r:=by
 unfold pH at h;cases op<;>simp only at h<;>(try (cases h;done))<;>(try (simp only[bF] at h;subst h))<;>
  (try (exact⟨_,by simp only[binOp,ne_eq,not_true_eq_false,if_false,Op.intArith,Op.intBits,Op.intCmp];exact Sem.run_pure ..,by first|exact .int _ _|exact .bool _⟩))
 ·split at h
  ·cases h
  ·rename_i ax;simp only[bF] at h;subst h;exact⟨_,by simp only[binOp,ne_eq,not_true_eq_false,if_false,Op.intDiv,ax];exact Sem.run_pure ..,.int _ _⟩
 ·split at h
  ·cases h
  ·rename_i ax;simp only[bF] at h;subst h;exact⟨_,by simp only[binOp,ne_eq,not_true_eq_false,if_false,Op.intDiv,ax];exact Sem.run_pure ..,.int _ _⟩
theorem Ov{op:BinOp}{k fF:IntKind}{a b:Int}{v:I}(h:BA op k a b=some v)(t:TypeId)(w:World):
  ∃r,(binOp op t (.int k a) (.int fF b)).run P w= .ok r w/\cW ρ v r:=by
 unfold BA at h;split at h
 ·cases h
 ·rename_i ax;cases op<;>simp only at h<;>(try (cases h;done))<;>simp only[bF] at h<;>subst h
  ·exact⟨_,by simp only[binOp,Op.shift,if_neg ax];exact Sem.run_pure ..,.int _ _⟩
  ·exact⟨_,by simp only[binOp,Op.shift,if_neg ax];exact Sem.run_pure ..,.int _ _⟩
theorem toList_mk(a:List UInt8):(⟨a.toArray⟩:ByteArray).toList=a:=by rw[ByteArray.toList_eq]
theorem ac9(a b:List UInt8):(⟨a.toArray⟩++⟨b.toArray⟩:ByteArray)=⟨(a++b).toArray⟩:=by
 apply ByteArray.ext;simp
theorem aan{op:BinOp}{a b:List UInt8}{v:I}(h:G7 op a b=some v)(t:TypeId)(w:World):
  ∃r,(binOp op t (.string ⟨a.toArray⟩) (.string ⟨b.toArray⟩)).run P w= .ok r w/\cW ρ v r:=by
 unfold G7 at h;unfold binOp;cases op<;>simp only at h<;>(try (cases h;done))<;>(try (simp only[bF] at h;subst h))<;>
  (try (exact⟨_,by simp only[Op.stringOp,toList_mk];exact Sem.run_pure ..,.bool _⟩))
 split at h
 ·rename_i az;simp only[bF] at h;subst h;refine⟨.string ⟨(a++b).toArray⟩,?_,.str _⟩;simp only[Op.stringOp];rw[if_neg,ac9]
  ·exact Sem.run_pure ..
  ·have e:IntKind.i64.max=9223372036854775807:=rfl;have aI:(⟨a.toArray⟩:ByteArray).size=a.length:=by show a.toArray.size=_;simp
   have bc:(⟨b.toArray⟩:ByteArray).size=b.length:=by show b.toArray.size=_;simp
   rw[e,aI,bc];omega
 ·cases h
theorem Jq{op:BinOp}{t:TypeId}{qs pv:Operand}{x y:I}{er jj:Value}(h:zf P t qs pv x y=true)(ag:cW ρ x er)(cV:cW ρ y jj)(w:World):
  (eqGuard op t qs pv er jj).run P w= .ok () w:=by
 have aU:qs.GB||pv.GB=true->(eqGuard op t qs pv .nilIface .nilIface).run P w= .ok () w:=by
  intro h;cases op<;>first
   |rfl
   |(cases qs<;>cases pv<;>first|rfl|(simp[Operand.GB] at h;done))
 cases ag with
 |nilIface=>
  cases cV with
  |nilIface=>
   refine aU ?_;simp only[zf] at h;cases qs<;>cases pv<;>simp_all[isConst,Operand.GB]
  |_=>cases op<;>rfl
 |agg cs xs aS=>
  cases cV with
  |agg bU dX bd=>
   simp only[zf,Bool.not_eq_true'] at h;cases op<;>first|rfl|simp[eqGuard,h]
  |_=>cases op<;>rfl
 |_=>cases cV<;>cases op<;>rfl
theorem binOp_eql{x y:I}{er jj:Value}(ag:cW ρ x er)(cV:cW ρ y jj)(be: ∀k a fF b,x= .int k a->y= .int fF b->False)(aM: ∀a b,x= .str a->y= .str b->False)(t:TypeId):
  binOp .eql t er jj=(do pure (.bool (<-Op.equal t er jj)))/\binOp .neq t er jj=(do pure (.bool (!(<-Op.equal t er jj)))):=by
 cases ag<;>cases cV<;>first
  |exact⟨rfl,rfl⟩
  |exact(be _ _ _ _ rfl rfl).elim
  |exact(aM _ _ rfl rfl).elim
theorem abb{op:BinOp}{t:TypeId}{qs pv:Operand}{x y v:I}{er jj:Value}(h:Em P op t qs pv x y=some v)(ag:cW ρ x er)(cV:cW ρ y jj)(w:World):
  ∃r,((do eqGuard op t qs pv er jj;binOp op t er jj:Sem Value)).run P w= .ok r w/\cW ρ v r:=by
 have Lf: ∀k a fF b,(eqGuard op t qs pv (.int k a) (.int fF b)).run P w= .ok () w:=λk a fF b=>Jq (ρ:=ρ) (x:= .int k a) (y:= .int fF b) rfl (.int _ _) (.int _ _) w
 have Lg: ∀a b,(eqGuard op t qs pv (.string ⟨a⟩) (.string ⟨b⟩)).run P w= .ok () w:=λa b=>by
  unfold eqGuard;split<;>rfl
 unfold Em at h;split at h
 ·cases ag;cases cV;rename_i k a fF b;simp only[Sem.run_bind,Lf,Result.andThen_ok];split at h
  ·exact Ov h t w
  ·exact Ov h t w
  ·split at h
   ·rename_i ah;subst ah;exact aae h t w
   ·cases h
 ·cases ag;cases cV;simp only[Sem.run_bind,Lg,Result.andThen_ok];exact aan h t w
 ·rename_i aon wj;obtain⟨aI,bc⟩:=binOp_eql ag cV (λk a fF b U aa=>aon _ _ _ _ U aa) (λa b U aa=>wj _ _ U aa) t;split at h
  ·split at h
   ·rename_i al;rw[Sem.run_bind,Jq al ag cV w,Result.andThen_ok];simp only[Option.map_eq_some_iff] at h;obtain⟨b,ax,rfl⟩:=h;have he:(Op.equal t er jj).run P w= .ok b w:=Jr (ρ:=ρ) w _ _ _ _ _ _ _ ax ag cV;exact⟨.bool b,by rw[aI,Sem.run_bind,he];rfl,.bool b⟩
   ·cases h
  ·split at h
   ·rename_i al;rw[Sem.run_bind,Jq al ag cV w,Result.andThen_ok];simp only[Option.map_eq_some_iff] at h;obtain⟨b,ax,rfl⟩:=h;have he:(Op.equal t er jj).run P w= .ok b w:=Jr (ρ:=ρ) w _ _ _ _ _ _ _ ax ag cV;exact⟨.bool (!b),by rw[bc,Sem.run_bind,he];rfl,.bool _⟩
   ·cases h
  ·cases h
theorem acS{op:UnOp}{x v:I}{er:Value}(h:eY op x=some v)(ag:cW ρ x er)(w:World): ∃r,(Op.unary op er).run P w= .ok r w/\cW ρ v r:=by
 unfold eY at h;split at h
 ·cases ag;simp only[bF] at h;subst h;exact⟨_,by simp only[Op.unary,Op.intArith];exact Sem.run_pure ..,.int _ _⟩
 ·cases ag;simp only[bF] at h;subst h;exact⟨_,by simp only[Op.unary];exact Sem.run_pure ..,.bool _⟩
 ·cases h
end
end
section
section
variable {P:Program}{ρ:Env}{H:J}{w:World}
def oR(c:Array Value)(o:Nat):List Value->Array Value
 |[]=>c
 |v::r=>oR (c.setIfInBounds o v) (o+1) r
theorem Dy: ∀(cl:List Value) (c:Array Value) (o:Nat),(oR c o cl).size=c.size
 |[],_,_=>rfl
 |v::r,c,o=>by rw[oR,Dy r];simp
theorem Br: ∀(cl:List Value) (c:Array Value) (o k:Nat),k<o\/o+cl.length<=k->(oR c o cl)[k]? =c[k]?
 |[],_,_,_,_=>rfl
 |v::r,c,o,k,h=>by
  rw[oR,Br r _ _ _ (by simp at h;omega)];rw[Array.getElem?_setIfInBounds];have: ¬o=k:=by simp at h;omega
  simp[this]
theorem Gt: ∀(cl:List Value) (c:Array Value) (o j:Nat) (x:Value),cl[j]? =some x->o+j<c.size->(oR c o cl)[o+j]? =some x
 |[],_,_,_,_,h,_=>by simp at h
 |v::r,c,o,0,x,h,az=>by
  simp at h;subst h;rw[oR,Br r _ _ _ Z,Array.getElem?_setIfInBounds];simp;omega
 |v::r,c,o,j+1,x,h,az=>by
  rw[oR,show o+(j+1)=o+1+j by omega];exact Gt r _ _ _ _ (by simpa using h) (by simp;omega)
theorem Ju(b:Nat): ∀(cl:List Value) (o:Nat) (w:World) (c:Array Value) (t:TypeId) (ie:Nat×Nat),w.heap[b]? =some (.cells c t ie)->
  (w.setCells b o cl).heap[b]? =some (.cells (oR c o cl) t ie)
 |[],_,_,_,_,_,h=>h
 |v::r,o,w,c,t,ie,h=>by
  rw[World.setCells,oR];refine Ju b r (o+1) _ _ t ie ?_;simp[World.setCell,Array.getElem?_modify,h]
theorem yD(b:Nat): ∀(cl:List Value) (o:Nat) (w:World) (k:Nat),k≠b->(w.setCells b o cl).heap[k]? =w.heap[k]?
 |[],_,_,_,_=>rfl
 |v::r,o,w,k,h=>by
  rw[World.setCells,yD b r _ _ _ h];simp[World.setCell,Array.getElem?_modify,Ne.symm h]
theorem Jv(b:Nat): ∀(cl:List Value) (o:Nat) (w:World),(w.setCells b o cl).heap.size=w.heap.size/\(w.setCells b o cl).os=w.os/\(w.setCells b o cl).tape=w.tape/\(w.setCells b o cl).output=w.output
 |[],_,_=>⟨rfl,rfl,rfl,rfl⟩
 |v::r,o,w=>by
  rw[World.setCells];obtain⟨a,b,c,d⟩:=Jv b r (o+1) (w.setCell ⟨b,o,none⟩ v);exact⟨a.trans (by simp[World.setCell]),b,c,d⟩
theorem mN.cell{loc:Loc}{ro:Bool}{esz:Nat}{els:List (List I)}(h:mN ρ w loc ro esz els){i:Nat}{e:List I}(he:els[i]? =some e){j:Nat}{v:I}(bA:e[j]? =some v):
  ∃x,w.cell? ⟨loc.block,loc.off+i*loc.esz+j,none⟩=some x/\cW ρ v x/\v.one=true:=by
 obtain⟨rfl,c,t,ie,ax,_,a8⟩:=h;obtain⟨_,ag⟩:=a8 i e he;obtain⟨U,x,ag,a8⟩:=ag j v bA;exact⟨x,by simp[World.cell?,ax,ag],a8,U⟩
def aj(P:Program)(H:J)(t:TypeId)(a:I):Option I:=
 match a with
 | .ptr l i c=>
  (match H.get l with
  |some (.row _ esz els)=>
   (match els[i]?,h3 P t with
   |some e,some false=>e[c]?
   |some e,some true=>(match fs P t with|some n=>if c+n<=esz then some (.agg ((e.drop c).take n)) else none|none=>none)
   |_,_=>none)
  |_=>none)
 |_=>none
theorem addr_add(b o j:Nat):(⟨b,o,none⟩:Addr).add j=⟨b,o+j,none⟩:=by
 unfold Addr.add;split<;>simp_all
theorem OZ(ce:Rel ρ H w){t:TypeId}{a v:I}{x:Value}(h:aj P H t a=some v)(ag:cW ρ a x):
  ∃r,(Instr.loadAt t x).run P w= .ok r w/\cW ρ v r:=by
 unfold aj at h;split at h
 ·rename_i l i c;cases ag with|ptr _ _ _ loc az=>
  split at h
  ·rename_i ro esz els aZ;obtain⟨dz,dD,mR⟩:=ce.row _ _ _ _ aZ;obtain rfl:loc=dz:=Option.some.inj (az.symm.trans dD);split at h
   ·rename_i e he bV;obtain⟨x,aS,bA,_⟩:=mR.cell he h;refine⟨x,?_,bA⟩;simp[Instr.loadAt,Instr.sureAddr,loadVar,Gw bV,run_load,aS]
   ·rename_i e he bV;split at h
    ·rename_i n aU;split at h
     ·rename_i hle;simp only[bF] at h;subst h;have hlen:e.length=esz:=by obtain⟨_,c',wD,ie,_,_,a8⟩:=mR;exact(a8 i e he).1
      have hex: ∃xs:List Value,xs.length=n/\dI ρ ((e.drop c).take n) xs/\ ∀j y,xs[j]? =some y->w.cell? ⟨loc.block,loc.off+i*loc.esz+c+j,none⟩=some y:=by
       clear bV aU
       induction n with
       |zero=>exact⟨[],rfl,by simpa using dI.nil,λj y cV=>by simp at cV⟩
       |succ n aT=>
        obtain⟨xs,U,aa,ae⟩:=aT Z;have kP:c+n<e.length:=Z;obtain⟨x,aS,bA,_⟩:=mR.cell he (j:=c+n) (v:=e[c+n]) (by simp[kP]);refine⟨xs++[x],by simp[U],?_,?_⟩
        ·rw[List.take_succ_eq_append_getElem (by simp;omega)];refine aa.append (.cons _ _ _ _ ?_ .nil);simpa using bA
        ·intro j y cV;by_cases bH:j<xs.length
         ·rw[List.getElem?_append_left bH] at cV;exact ae j y cV
         ·rw[List.getElem?_append_right Z] at cV;have:j=n:=by
           by_cases aY:j-xs.length=0
           ·omega
           ·obtain⟨m,hm⟩: ∃m,j-xs.length=m+1:=⟨j-xs.length-1,Z⟩;rw[hm] at cV;simp at cV
          subst this;simp[U] at cV;subst cV;rw[<-aS,Nat.add_assoc]
      obtain⟨xs,U,aa,ae⟩:=hex;refine⟨.agg xs.toArray,?_,.agg _ _ aa⟩;have:=run_loadCells_list (P:=P) w ⟨loc.block,loc.off+i*loc.esz+c,none⟩ xs (λj y cV=>by rw[addr_add];exact ae j y cV);rw[U] at this;simp[Instr.loadAt,Instr.sureAddr,loadVar,Gw bV,run_sizeOf aU,this]
     ·cases h
    ·cases h
   ·cases h
  ·cases h
 ·cases h
def eF(e:List I)(c:Nat)(cs:List I):List I:=e.take c++cs++e.drop (c+cs.length)
theorem OI{e:List I}{c:Nat}{cs:List I}(h:c+cs.length<=e.length):(eF e c cs).length=e.length:=by
 simp[eF];omega
theorem Q3{e:List I}{c:Nat}{cs:List I}(h:c+cs.length<=e.length){j:Nat}(U:c<=j)(aa:j<c+cs.length):(eF e c cs)[j]? =cs[j-c]? :=by
 unfold eF;rw[List.append_assoc,List.getElem?_append_right (by simp;omega),List.getElem?_append_left (by simp;omega)]
 congr 1;simp;omega
theorem Qa{e:List I}{c:Nat}{cs:List I}(h:c+cs.length<=e.length){j:Nat}(U:j<c\/c+cs.length<=j):(eF e c cs)[j]? =e[j]? :=by
 unfold eF;rcases U with U|U
 ·rw[List.append_assoc,List.getElem?_append_left (by simp;omega),List.getElem?_take_of_lt U]
 ·rw[List.getElem?_append_right (by simp;omega),List.getElem?_drop]
  congr 1;simp;omega
theorem DM{a b n:Nat}(h:a<b):a*n+n<=b*n:=by
 have:=Nat.mul_le_mul_right n (Nat.succ_le_of_lt h);rw[Nat.succ_mul] at this;exact this
theorem aba(ce:Rel ρ H w){l esz:Nat}{els:List (List I)}(aZ:H.get l=some (.row false esz els)){loc:Loc}(az:ρ l=some loc){i:Nat}{e:List I}(he:els[i]? =some e)
  {c:Nat} {cs:List I} {xs:List Value} (aS:c+cs.length<=esz) (U: ∀v∈cs,v.one=true) (bA:dI ρ cs xs):
  Step ρ H w ρ (H.set l (.row false esz (els.set i (eF e c cs)))) (w.setCells loc.block (loc.off+i*loc.esz+c) xs):=by
 have et:=J.aX aZ;obtain⟨dz,dD,sV,arr,t,ie,ax,uG,mR⟩:=ce.row _ _ _ _ aZ;obtain rfl:loc=dz:=Option.some.inj (az.symm.trans dD);have akc:=(mR i e he).1;have yb:i<els.length:=by
  rcases Nat.lt_or_ge i els.length with h|h
  ·exact h
  ·rw[List.getElem?_eq_none h] at he;cases he
 have YI:=bA.length;have BQ: ∀l' dz,H.live l'->l'≠l->ρ l'=some dz->dz.block≠loc.block:=λl' dz h bZ dD heq=>
  ce.apart l l' loc dz (.inl ⟨_,_,aZ⟩) h (Ne.symm bZ) az dD heq.symm
 have j8: ∀l',(H.set l (.row false esz (els.set i (eF e c cs)))).rw l'->H.rw l':=by
  intro l' h;by_cases iT:l=l'
  ·subst iT;exact .inl ⟨_,_,aZ⟩
  ·simpa [J.rw,J.get_set_other iT] using h
 have zI: ∀l',(H.set l (.row false esz (els.set i (eF e c cs)))).live l'->H.live l':=by
  intro l' h;by_cases iT:l=l'
  ·subst iT;exact .inl ⟨_,_,_,aZ⟩
  ·simpa [J.live,J.get_set_other iT] using h
 obtain⟨s1,s2,iO,qp⟩:=Jv loc.block xs (loc.off+i*loc.esz+c) w;refine⟨ρ.le_refl,bN _,λ_ _=>rfl,⟨?_,?_,?_⟩,s2,iO,qp,Nat.le_of_eq s1.symm,?_,?_,J.Vp rfl⟩
 ·intro l' AK qS mq h;by_cases iT:l=l'
  ·subst iT;rw[J.get_set_same et] at h;simp only[bF,dY.row.injEq] at h;obtain⟨rfl,rfl,rfl⟩:=h;refine⟨loc,az,sV,_,t,ie,Ju _ _ _ _ _ _ _ ax,?_,?_⟩
   ·intro _;rw[Dy];exact uG rfl
   ·intro qm cN l0;rw[List.getElem?_set] at l0;by_cases M8:i=qm
    ·subst M8;rw[if_pos rfl,if_pos yb] at l0;simp only[bF] at l0;subst l0;have Mj:c+cs.length<=e.length:=Z;refine⟨by rw[OI Mj];exact akc,?_⟩;intro j v bH;by_cases kP:c<=j/\j<c+cs.length
     ·rw[Q3 Mj kP.1 kP.2] at bH;obtain⟨x,ag,jt⟩:=bA.get _ _ bH;refine⟨U v (List.mem_of_getElem? bH),x,?_,jt⟩;have Lz:=(mR i e he).2 j (e[j]'Z) (by simp);obtain⟨_,Y,bs,_⟩:=Lz;have fO:loc.off+i*esz+j<arr.size:=by
       rcases Nat.lt_or_ge (loc.off+i*esz+j) arr.size with h|h
       ·exact h
       ·rw[Array.getElem?_eq_none h] at bs;cases bs
      have:=Gt xs arr (loc.off+i*loc.esz+c) (j-c) x ag (by rw[sV];omega);rw[show loc.off+i*esz+j=loc.off+i*loc.esz+c+(j-c) by rw[sV];omega];exact this
     ·rw[Qa Mj Z] at bH;obtain⟨bf,x,ag,jt⟩:=(mR i e he).2 j v bH;refine⟨bf,x,?_,jt⟩;rw[Br _ _ _ _ (by rw[sV,<-YI];omega)];exact ag
    ·rw[if_neg M8] at l0;obtain⟨a0,bf⟩:=mR qm cN l0;refine⟨a0,λj v bH=> ?_⟩;obtain⟨df,x,ag,jt⟩:=bf j v bH;refine⟨df,x,?_,jt⟩;have aqy:j<esz:=by
      rcases Nat.lt_or_ge j cN.length with h|h
      ·omega
      ·rw[List.getElem?_eq_none h] at bH;cases bH
     rw[Br _ _ _ _ ?_]
     ·exact ag
     ·rw[sV,<-YI];rcases Nat.lt_or_gt_of_ne M8 with h|h
      ·have:=DM (n:=esz) h;omega
      ·have:=DM (n:=esz) h;omega
  ·rw[J.get_set_other iT] at h;obtain⟨dz,dD,LH⟩:=ce.row _ _ _ _ h;refine⟨dz,dD,?_⟩;have dM:=BQ l' dz (.inl ⟨_,_,_,h⟩) (Ne.symm iT) dD;obtain⟨aV,c',wD,E0,aJ,bB,bK⟩:=LH;exact⟨aV,c',wD,E0,by rw[yD _ _ _ _ _ dM];exact aJ,bB,bK⟩
 ·intro l' es h;by_cases iT:l=l'
  ·subst iT;rw[J.get_set_same et] at h;cases h
  ·rw[J.get_set_other iT] at h;obtain⟨dz,dD,LH⟩:=ce.map _ _ h;have dM:=BQ l' dz (.inr ⟨_,h⟩) (Ne.symm iT) dD;obtain⟨ents,clock,aJ,bB⟩:=LH;exact⟨dz,dD,ents,clock,by rw[yD _ _ _ _ _ dM];exact aJ,bB⟩
 ·intro eG fA nC oZ U aa dM E9 l1;exact ce.apart eG fA nC oZ (j8 _ U) (zI _ aa) dM E9 l1
 ·intro b ax jf;refine yD _ _ _ _ _ ?_;rintro rfl;exact jf ⟨l,loc,.inl ⟨_,_,aZ⟩,az,rfl⟩
 ·rintro b ⟨l',dz,U,aa,ae⟩;exact .inl ⟨l',dz,j8 _ U,aa,ae⟩
def aQ(P:Program)(H:J)(t:TypeId)(a v:I):Option J:=
 match a with
 | .ptr l i c=>
  (match H.get l with
  |some (.row false esz els)=>
   (match els[i]? with
   |some e=>if fs P t=some v.cells.length/\c+v.cells.length<=esz/\v.cells.all I.one=true then some (H.set l (.row false esz (els.set i (eF e c v.cells)))) else none
   |none=>none)
  |_=>none)
 |_=>none
theorem Z9(ce:Rel ρ H w){t:TypeId}{a v:I}{x y:Value}{H':J}(h:aQ P H t a v=some H')(ag:cW ρ a x)(cV:cW ρ v y):
  ∃b4,(Instr.storeAt t x y).run P w= .ok () b4/\Step ρ H w ρ H' b4:=by
 unfold aQ at h;split at h
 ·rename_i l i c;cases ag with|ptr _ _ _ loc az=>
  split at h
  ·rename_i esz els aZ;split at h
   ·rename_i e he;split at h
    ·rename_i mh;obtain⟨aM,aS,dN⟩:=mh;simp only[bF] at h;subst h;have lJ: ∀u∈v.cells,u.one=true:=by simpa using dN
     have D5:=cV.cells;refine⟨_,?_,aba ce aZ az he aS lJ D5⟩;obtain⟨dz,dD,mR⟩:=ce.row _ _ _ _ aZ;obtain rfl:loc=dz:=Option.some.inj (az.symm.trans dD);have hlen:=D5.length;have apI:=mR;obtain⟨sV,arr,wD,ie,ax,uG,a8⟩:=mR;have kN:=(a8 i e he).1;have U1: ∀j,j<y.cells.toList.length-> ∃u,arr[loc.off+i*loc.esz+c+j]? =some u:=by
      intro j bH;obtain⟨_,u,hu,_⟩:=(a8 i e he).2 (c+j) (e[c+j]'Z) (by simp);exact⟨u,by rw[sV,Nat.add_assoc];exact hu⟩
     have oy:=run_storeCells_cells (P:=P) loc.block (loc.off+i*loc.esz+c) y.cells.toList 0 w
      (λj bH=>by obtain⟨u,hu⟩:=U1 j bH;simp[World.cell?,ax,hu])
      (λj bH=>by
       obtain⟨u,hu⟩:=U1 j bH;have et:loc.off+i*loc.esz+c+j<arr.size:=by
        rcases Nat.lt_or_ge (loc.off+i*loc.esz+c+j) arr.size with h|h
        ·exact h
        ·rw[Array.getElem?_eq_none h] at hu;cases hu
       have:=(uG rfl).2 _ et;simp only[World.frozen?,ax,Nat.add_zero];simpa using this)
      (λu hu=>by
       obtain⟨j,bH⟩:=List.getElem?_of_mem hu;have CY:j<v.cells.length:=by
        rcases Nat.lt_or_ge j y.cells.toList.length with h|h
        ·omega
        ·rw[List.getElem?_eq_none h] at bH;cases bH
       obtain⟨Zy,aoE,aoG⟩:=D5.get j _ (List.getElem?_eq_getElem CY);obtain rfl:u=Zy:=Option.some.inj (bH.symm.trans aoE);exact aoG.Tl (lJ _ (List.getElem_mem CY)))
     have fO:y.cells.size=v.cells.length:=by rw[hlen];simp
     simp only[Instr.storeAt,Instr.sureAddr,Sem.run_bind,Sem.run_pure,Result.andThen_ok,storeVar,run_sizeOf aM,fO,ne_eq,not_true_eq_false,if_false];simpa using oy
    ·cases h
   ·cases h
  ·cases h
 ·cases h
end
end
section
def Env.iL(ρ:Env)(l:Nat)(loc:Loc):Env:=λk=>if k=l then some loc else ρ k
theorem Env.nq(ρ:Env)(l:Nat)(loc:Loc):ρ.iL l loc l=some loc:=by simp[Env.iL]
theorem Env.mb{ρ:Env}{l k:Nat}{loc:Loc}(h:k≠l):ρ.iL l loc k=ρ k:=by simp[Env.iL,h]
theorem Env.BS{ρ:Env}{l:Nat}(h:ρ l=none)(loc:Loc):ρ.le (ρ.iL l loc):=by
 intro k x ah;by_cases e:k=l
 ·subst e;rw[h] at ah;cases ah
 ·rw[Env.mb e];exact ah
section
variable {P:Program}{ρ:Env}{H:J}{w:World}
theorem heap_alloc_old(w:World)(o:Obj){k:Nat}(h:k<w.heap.size):(w.alloc o).heap[k]? =w.heap[k]? :=by
 show(w.heap.push o)[k]? =_;rw[Array.getElem?_push,if_neg Z]
theorem heap_alloc_new(w:World)(o:Obj):(w.alloc o).heap[w.heap.size]? =some o:=by
 show(w.heap.push o)[w.heap.size]? =_;simp
theorem ZK(w:World)(o:Obj):(w.alloc o).heap.size=w.heap.size+1:=by
 show(w.heap.push o).size=_;simp
theorem ss{w:World}{k:Nat}{o:Obj}(h:w.heap[k]? =some o):k<w.heap.size:=by
 rcases Nat.lt_or_ge k w.heap.size with bZ|bZ
 ·exact bZ
 ·rw[Array.getElem?_eq_none bZ] at h;cases h
theorem JL{esz:Nat}: ∀{els:List (List I)},(∀e∈els,e.length=esz)-> ∀{i:Nat} {e:List I},els[i]? =some e-> ∀{j:Nat} {v:I},e[j]? =some v->els.flatten[i*esz+j]? =some v
 |[],_,_,_,h,_,_,_=>by simp at h
 |d::els,az,0,e,h,j,v,bA=>by
  simp at h;subst h;have bH:j<d.length:=by
   rcases Nat.lt_or_ge j d.length with h|h
   ·exact h
   ·rw[List.getElem?_eq_none h] at bA;cases bA
  simp only[List.flatten_cons,Nat.zero_mul,Nat.zero_add];rw[List.getElem?_append_left bH];exact bA
 |d::els,az,i+1,e,h,j,v,bA=>by
  have bd:d.length=esz:=az d (by simp);have:=JL (els:=els) (λe he=>az e (List.mem_cons_of_mem _ he)) (i:=i) (by simpa using h) bA;simp only[List.flatten_cons];rw[List.getElem?_append_right (by rw[Nat.succ_mul];omega)];rw[<-this];congr 1;rw[Nat.succ_mul];omega
theorem Tx{H:J}{b:dY}{l:Nat}(h:(H.push b).rw l):l=H.next\/H.rw l:=by
 by_cases e:l=H.next
 ·exact .inl e
 ·exact .inr (by simpa [J.rw,J.gD e] using h)
theorem QK{H:J}{b:dY}{l:Nat}(h:(H.push b).live l):l=H.next\/H.live l:=by
 by_cases e:l=H.next
 ·exact .inl e
 ·exact .inr (by simpa [J.live,J.gD e] using h)
theorem Rel.aeV(ce:Rel ρ H w){l:Nat}(h:H.live l){loc:Loc}(az:ρ l=some loc):loc.block<w.heap.size:=by
 rcases h with⟨ro,esz,els,h⟩|⟨es,h⟩
 ·obtain⟨dz,dD,_,c,t,ie,ax,_⟩:=ce.row _ _ _ _ h;obtain rfl:loc=dz:=Option.some.inj (az.symm.trans dD);exact ss ax
 ·obtain⟨dz,dD,ents,clock,ax,_⟩:=ce.map _ _ h;obtain rfl:loc=dz:=Option.some.inj (az.symm.trans dD);exact ss ax
theorem J8(ce:Rel ρ H w)(al:ρ H.next=none)(b:dY)(aow:b.HI=false)(o:Obj)(loc:Loc)(zY:loc.block=w.heap.size)
  (mR: ∀ro esz els,b= .row ro esz els->mN (ρ.iL H.next loc) (w.alloc o) loc ro esz els) (amR: ∀es,b= .map es->Ls (ρ.iL H.next loc) (w.alloc o) loc es):
  Step ρ H w (ρ.iL H.next loc) (H.push b) (w.alloc o):=by
 have hle:=Env.BS al loc;have HA: ∀l dz,H.live l->ρ.iL H.next loc l=some dz->dz.block<w.heap.size:=λl dz h bZ=>by
  have dM:l≠H.next:=by
   rintro rfl;rcases h with⟨_,_,_,h⟩|⟨_,h⟩<;> ·have:=J.aX h;omega
  rw[Env.mb dM] at bZ;exact ce.aeV h bZ
 refine⟨hle,by simp,λl az=>Env.mb (by simp at az;omega),⟨?_,?_,?_⟩,rfl,rfl,rfl,by rw[ZK];omega,λk ah _=>heap_alloc_old w o ah,?_,J.Tu aow⟩
 ·intro l ro esz els h;by_cases e:l=H.next
  ·subst e;rw[J.ca] at h;exact⟨loc,Env.nq _ _ _,mR _ _ _ (Option.some.inj h)⟩
  ·rw[J.gD e] at h;obtain⟨dz,dD,sV,c,t,ie,ax,uG,a8⟩:=ce.row _ _ _ _ h;refine⟨dz,by rw[Env.mb e];exact dD,sV,c,t,ie,by rw[heap_alloc_old w o (ss ax)];exact ax,uG,?_⟩;intro i d bd;obtain⟨U,aa⟩:=a8 i d bd;refine⟨U,λj v bA=> ?_⟩;obtain⟨ae,x,ag,jt⟩:=aa j v bA;exact⟨ae,x,ag,jt.mono hle⟩
 ·intro l es h;by_cases e:l=H.next
  ·subst e;rw[J.ca] at h;exact⟨loc,Env.nq _ _ _,amR _ (Option.some.inj h)⟩
  ·rw[J.gD e] at h;obtain⟨dz,dD,ents,clock,ax,U,aa⟩:=ce.map _ _ h;exact⟨dz,by rw[Env.mb e];exact dD,ents,clock,by rw[heap_alloc_old w o (ss ax)];exact ax,U.mono hle,aa.mono hle⟩
 ·intro l l' nC oZ U aa dM aI bc;rcases Tx U with rfl|U
  ·rcases QK aa with rfl|aa
   ·exact absurd rfl dM
   ·rw[Env.nq] at aI;obtain rfl:=Option.some.inj aI;have:=HA _ _ aa bc;omega
  ·rcases QK aa with rfl|aa
   ·rw[Env.nq] at bc;obtain rfl:=Option.some.inj bc;have:=HA _ _ U.live aI;omega
   ·have fB:l≠H.next:=by
     rintro rfl;rcases U with⟨_,_,h⟩|⟨_,h⟩<;> ·have:=J.aX h;omega
    have n2:l'≠H.next:=by
     rintro rfl;rcases aa with⟨_,_,_,h⟩|⟨_,h⟩<;> ·have:=J.aX h;omega
    rw[Env.mb fB] at aI;rw[Env.mb n2] at bc;exact ce.apart l l' nC oZ U aa dM aI bc
 ·rintro k ⟨l,dz,U,aa,ae⟩;rcases Tx U with rfl|U
  ·rw[Env.nq] at aa;obtain rfl:=Option.some.inj aa;exact .inr Z
  ·have fB:l≠H.next:=by
    rintro rfl;rcases U with⟨_,_,h⟩|⟨_,h⟩<;> ·have:=J.aX h;omega
   rw[Env.mb fB] at aa;exact .inl ⟨l,dz,U,aa,ae⟩
theorem F4(ce:Rel ρ H w)(al:ρ H.next=none){esz:Nat}{els:List (List I)}(hlen: ∀e∈els,e.length=esz)(dN: ∀e∈els,∀v∈e,v.one=true)
  {xs tail:List Value} (bA:dI ρ els.flatten xs) (t:TypeId):
  Step ρ H w (ρ.iL H.next ⟨w.heap.size,0,esz,xs.length+tail.length⟩) (H.push (.row false esz els)) (w.alloc (.cells (xs++tail).toArray t)):=by
 refine J8 ce al _ rfl _ _ rfl ?_ (λes h=>by cases h);intro ro qS mq h;simp only[dY.row.injEq] at h;obtain⟨rfl,rfl,rfl⟩:=h;refine⟨rfl,_,t,(0,0),heap_alloc_new _ _,λ_=>⟨by simp,λo _=>by simp⟩,?_⟩;intro i e he;refine⟨hlen e (List.mem_of_getElem? he),λj v bH=> ?_⟩;refine⟨dN e (List.mem_of_getElem? he) v (List.mem_of_getElem? bH),?_⟩;obtain⟨x,ag,jt⟩:=bA.get _ _ (JL hlen he bH);refine⟨x,?_,jt.mono (Env.BS al _)⟩;have et:i*esz+j<xs.length:=by
  rcases Nat.lt_or_ge (i*esz+j) xs.length with h|h
  ·exact h
  ·rw[List.getElem?_eq_none h] at ag;cases ag
 simp only[Nat.zero_add,List.getElem?_toArray];rw[List.getElem?_append_left et];exact ag
def GW:Value->Option I
 | .bool b=>some (.bool b)
 | .int k n=>some (.int k n)
 | .string s=>some (.str s.data.toList)
 | .pointer none=>some .nilPtr
 | .slice none 0 0=>some .ap
 | .map none=>some .oQ
 | .nilFunc=>some .nilFunc
 | .nilIface=>some .nilIface
 |_=>none
def DS:List Value->Option (List I)
 |[]=>some []
 |v::r=>match GW v,DS r with
  |some a,some l=>some (a::l)
  |_,_=>none
def Ei:Value->Option I
 | .agg cs=>(DS cs.toList).map .agg
 |v=>GW v
theorem OT{v:Value}{a:I}(h:GW v=some a)(ρ:Env):cW ρ a v/\a.one=true:=by
 unfold GW at h;split at h<;>first
  |(simp only[bF] at h;subst h;exact⟨by constructor,rfl⟩)
  |cases h
theorem OG: ∀{cl:List Value} {as:List I},DS cl=some as-> ∀ρ:Env,dI ρ as cl/\ ∀a∈as,a.one=true
 |[],as,h,ρ=>by simp[DS] at h;subst h;exact⟨.nil,by simp⟩
 |v::r,as,h,ρ=>by
  unfold DS at h;split at h
  ·rename_i a l bV az;simp only[bF] at h;subst h;obtain⟨U,aa⟩:=OT bV ρ;obtain⟨ae,am⟩:=OG az ρ;exact⟨.cons _ _ _ _ U ae,by simpa using⟨aa,am⟩⟩
  ·cases h
theorem JN{v:Value}{a:I}(h:Ei v=some a)(ρ:Env):cW ρ a v:=by
 unfold Ei at h;split at h
 ·simp only[Option.map_eq_some_iff] at h;obtain⟨l,az,rfl⟩:=h;have:=cW.agg _ _ (OG az ρ).1;simpa using this
 ·exact(OT h ρ).1
def j2(P:Program)(t:TypeId):Option I:=(P.info? t).bind λi=>i.zero.bind Ei
theorem Bk{t:TypeId}{z:I}(h:j2 P t=some z)(w:World): ∃x,(zeroValue t).run P w= .ok x w/\ ∀ρ:Env,cW ρ z x:=by
 unfold j2 at h;simp only[eW] at h;obtain⟨i,be,x,ag,cn⟩:=h;exact⟨x,by simp[zeroValue,typeInfo,be,ag],λρ=>JN cn ρ⟩
def Cq(H:J)(v:I):Option (I×J):=
 if v.cells.all I.one=true then some (.ptr H.next 0 0,H.push (.row false v.cells.length [v.cells])) else none
theorem PB(ce:Rel ρ H w)(al:ρ H.next=none){v a:I}{x:Value}{H':J}(h:Cq H v=some (a,H'))(ag:cW ρ v x)(t:TypeId):
  ∃r b4 cY,(Instr.box t x).run P w= .ok r b4/\cW cY a r/\Step ρ H w cY H' b4:=by
 unfold Cq at h;split at h
 ·rename_i dN;simp only[bF,dw] at h;obtain⟨rfl,rfl⟩:=h;have aS:=ag.cells;have aM:=F4 ce al (esz:=v.cells.length) (els:=[v.cells]) (by simp) (by simpa using dN) (xs:=x.cells.toList) (tail:=[]) (by simpa using aS) t;refine⟨.pointer (some ⟨w.heap.size,0,none⟩),_,_,?_,?_,aM⟩
  ·simp[Instr.box,newVar,newRow]
  ·simpa using cW.ptr (ρ:=ρ.iL H.next _) H.next 0 0 _ (Env.nq _ _ _)
 ·cases h
def GS(P:Program)(H:J)(t:TypeId):Option (I×J):=(j2 P t).bind (Cq H)
theorem Z4(ce:Rel ρ H w)(al:ρ H.next=none){t:TypeId}{a:I}{H':J}(h:GS P H t=some (a,H')):
  ∃r b4 cY,(Instr.alloc t true (.tuple #[])).run P w= .ok r b4/\cW cY a r/\Step ρ H w cY H' b4:=by
 unfold GS at h;simp only[eW] at h;obtain⟨z,cn,h⟩:=h;obtain⟨x,ag,bA⟩:=Bk cn w;obtain⟨r,b4,cY,U,aa,ae⟩:=PB (P:=P) ce al h (bA ρ) t;refine⟨r,b4,cY,?_,aa,ae⟩;simp only[Instr.alloc,Sem.run_bind,ag,Result.andThen_ok];simpa [Instr.box] using U
end
end
section
section
variable {P:Program}{ρ:Env}{H:J}{w:World}
def Ca(place:Nat->Option (Nat×Nat))(cells:List I):List (Nat×I)->Option (List I)
 |[]=>some cells
 |(i,v)::rest=>
  match place i with
  |none=>none
  |some (off,size)=>if v.cells.length=size/\off+v.cells.length<=cells.length then Ca place (eF cells off v.cells) rest else none
theorem Jz: ∀(cl:List Value) (k off:Nat) (c:Array Value),(cl.zipIdx k).foldl (λcs (x:Value×Nat)=>cs.setIfInBounds (off+x.2) x.1) c=oR c (off+k) cl
 |[],_,_,_=>rfl
 |v::r,k,off,c=>by
  simp only[List.zipIdx_cons,List.foldl_cons,oR];rw[Jz r (k+1) off];rfl
theorem Qb{e:List I}{xs:List Value}{c:Nat}{cs:List I}{dX:List Value}(he:dI ρ e xs)(aS:dI ρ cs dX)(h:c+cs.length<=e.length):
  dI ρ (eF e c cs) (oR xs.toArray c dX).toList:=by
 have eG:=he.length;have fA:=aS.length;refine dI.Vh (by rw[OI h];simp[Dy,eG]) ?_;intro j v x bA ag;by_cases kP:c<=j/\j<c+cs.length
 ·rw[Q3 h kP.1 kP.2] at bA;obtain⟨er,AB,a8⟩:=aS.get _ _ bA;have:=Gt dX xs.toArray c (j-c) er AB (by simp;omega);rw[show c+(j-c)=j by omega] at this;simp only[Array.getElem?_toList] at ag;obtain rfl:x=er:=Option.some.inj (ag.symm.trans this);exact a8
 ·rw[Qa h Z] at bA;obtain⟨er,AB,a8⟩:=he.get _ _ bA;have:=Br dX xs.toArray c j Z;simp only[Array.getElem?_toList] at ag;rw[this] at ag;simp only[List.getElem?_toArray] at ag;obtain rfl:x=er:=Option.some.inj (ag.symm.trans AB);exact a8
def Cp(ρ:Env):List (Nat×I)->List (Nat×Value)->Prop
 |[],[]=>True
 |(i,v)::r,(j,x)::s=>i=j/\cW ρ v x/\Cp ρ r s
 |_,_=>False
theorem JG(place:Nat->Option (Nat×Nat)): ∀(parts:List (Nat×I)) (pI:List (Nat×Value)) (cells D1:List I) (xs:List Value),Cp ρ parts pI->dI ρ cells xs->
  Ca place cells parts=some D1-> ∃dX:List Value,Instr.fill place xs.toArray pI=some dX.toArray/\dI ρ D1 dX
 |[],[],cells,D1,xs,_,aS,h=>by
  simp[Ca] at h;subst h;exact⟨xs,rfl,aS⟩
 |[],_::_,_,_,_,bw,_,_=>bw.elim
 |_::_,[],_,_,_,bw,_,_=>bw.elim
 |(i,v)::r,(j,x)::s,cells,D1,xs,bw,aS,h=>by
  obtain⟨rfl,bA,bw⟩:=bw;unfold Ca at h;unfold Instr.fill;cases C2:place i with
  |none=>rw[C2] at h;cases h
  |some os=>
   obtain⟨off,size⟩:=os;rw[C2] at h;simp only at h;split at h
   ·rename_i mh;have Fk:=bA.cells;have eG:=Fk.length;have fA:=aS.length;have fO:x.cells.size=v.cells.length:=by rw[eG];simp
    have aM:=Qb aS Fk (c:=off) mh.2;obtain⟨dX,U,aa⟩:=JG place r s _ D1 _ bw aM h;refine⟨dX,?_,aa⟩;simp only
    rw[if_neg (by simp[fO,mh.1];have:=mh.2;omega)];have:=Jz x.cells.toList 0 off xs.toArray;rw[Nat.add_zero] at this;rw[<-Array.foldl_toList,Array.toList_zipIdx,this];simpa using U
   ·cases h
def DO(P:Program):List Field->Option (List (Nat×Nat))
 |[]=>some []
 |f::eD=>match fs P f.type,DO P eD with
  |some n,some l=>some ((f.offset,n)::l)
  |_,_=>none
theorem Ow(w:World): ∀(eD:List Field) (l:List (Nat×Nat)),DO P eD=some l->(eD.mapM (λf=>(do pure (f.offset,<-sizeOf f.type):Sem (Nat×Nat)))).run P w= .ok l w
 |[],l,h=>by simp[DO] at h;subst h;simp[Sem.run_pure]
 |f::eD,l,h=>by
  unfold DO at h;split at h
  ·rename_i n l' aU az;simp only[bF] at h;subst h;have aT:=Ow w eD l' az;rw[List.mapM_cons];simp only[Sem.run_bind,run_sizeOf aU,Result.andThen_ok,Sem.run_pure,aT]
  ·cases h
def cO(P:Program)(t:TypeId)(parts:List (Nat×I)):Option I:=
 match j2 P t,P.underlying t with
 |some z,some (.struct eD)=>(match DO P eD.toList with|some pl=>(Ca (pl[·]?) z.cells parts).map .agg|none=>none)
 |some z,some (.array _ e)=>(match fs P e with|some n=>(Ca (λi=>some (i*n,n)) z.cells parts).map .agg|none=>none)
 |_,_=>none
theorem Z5{t:TypeId}{parts:List (Nat×I)}{pI:List (Nat×Value)}{v:I}(h:cO P t parts=some v)(bw:Cp ρ parts pI)(w:World):
  ∃x,(Instr.build t pI.toArray).run P w= .ok x w/\cW ρ v x:=by
 unfold cO at h;split at h
 ·rename_i z eD cn hu;obtain⟨iY,sh,uK⟩:=Bk cn w;split at h
  ·rename_i pl C2;simp only[Option.map_eq_some_iff] at h;obtain⟨cs,jb,rfl⟩:=h;obtain⟨dX,U,aa⟩:=JG _ parts pI z.cells cs iY.cells.toList bw (uK ρ).cells jb;refine⟨.agg dX.toArray,?_,.agg _ _ aa⟩;have hm:=Ow (P:=P) w eD.toList pl C2;have aoj:(eD.mapM (λf=>(do pure (f.offset,<-sizeOf f.type):Sem (Nat×Nat)))).run P w= .ok pl.toArray w:=by
    rw[Array.mapM_eq_mapM_toList];simp only[Sem.run_map,hm,Result.andThen_ok]
   simp only[Instr.build,Sem.run_bind,sh,Result.andThen_ok,run_underlying hu,aoj];have e:(λx:Nat=>(pl.toArray)[x]?)=(λx=>pl[x]?):=by funext x;simp
   simp only[e];have bc:iY.cells.toList.toArray=iY.cells:=by simp
   rw[bc] at U;simp[U]
  ·cases h
 ·rename_i z n e cn hu;obtain⟨iY,sh,uK⟩:=Bk cn w;split at h
  ·rename_i fY fO;simp only[Option.map_eq_some_iff] at h;obtain⟨cs,jb,rfl⟩:=h;obtain⟨dX,U,aa⟩:=JG _ parts pI z.cells cs iY.cells.toList bw (uK ρ).cells jb;refine⟨.agg dX.toArray,?_,.agg _ _ aa⟩;have bc:iY.cells.toList.toArray=iY.cells:=by simp
   rw[bc] at U;simp[Instr.build,sh,run_underlying hu,run_sizeOf fO,U]
  ·cases h
 ·cases h
def qx(esz:Nat):List (List I)->List (Nat×I)->Option (List (List I))
 |els,[]=>some els
 |els,(i,v)::rest=>if v.cells.length=esz/\i<els.length/\v.cells.all I.one=true then qx esz (els.set i v.cells) rest else none
def Dt(P:Program)(H:J)(t:TypeId)(len:Nat)(parts:List (Nat×I)):Option (I×J):=
 match P.underlying t with
 |some (.slice e)=>
  (match fs P e,j2 P e with
  |some fY,some z=>
   if len*fY<=16777216/\z.cells.length=fY/\z.cells.all I.one=true then
    (match qx fY (List.replicate len z.cells) parts with
    |some els=>some (.aN H.next 0 len fY (some len),H.push (.row false fY els))
    |none=>none)
   else none
  |_,_=>none)
 |_=>none
theorem wF{esz:Nat}: ∀{els:List (List I)},(∀e∈els,e.length=esz)->els.flatten.length=els.length*esz
 |[],_=>by simp
 |d::els,h=>by
  have:=wF (els:=els) (λe he=>h e (List.mem_cons_of_mem _ he));simp only[List.flatten_cons,List.length_append,this,h d (by simp),List.length_cons,Nat.succ_mul];omega
theorem Pa{esz:Nat}: ∀{els:List (List I)} (i:Nat) (c:List I),(∀e∈els,e.length=esz)->c.length=esz->i<els.length->(els.set i c).flatten=eF els.flatten (i*esz) c
 |[],_,_,_,_,h=>by simp at h
 |d::els,0,c,az,aS,_=>by
  have bd:=az d (by simp);simp[eF,aS,<-bd]
 |d::els,i+1,c,az,aS,h=>by
  have bd:=az d (by simp);have aT:=Pa (els:=els) i c (λe he=>az e (List.mem_cons_of_mem _ he)) aS (by simpa using h);simp only[List.set_cons_succ,List.flatten_cons,aT];unfold eF;rw[Nat.succ_mul];have aI:List.take (i*esz+esz) (d++els.flatten)=d++els.flatten.take (i*esz):=by
   rw[List.take_append,List.take_of_length_le Z];congr 2;omega
  have bc:List.drop (i*esz+esz+c.length) (d++els.flatten)=els.flatten.drop (i*esz+c.length):=by
   rw[List.drop_append,List.drop_eq_nil_of_le Z,List.nil_append];congr 1;omega
  rw[aI,bc];simp
theorem Ox(esz:Nat): ∀(parts:List (Nat×I)) (pI:List (Nat×Value)) (els mq:List (List I)) (xs:List Value),Cp ρ parts pI->(∀e∈els,e.length=esz)->(∀e∈els,∀v∈e,v.one=true)->
  dI ρ els.flatten xs->qx esz els parts=some mq->
   (∃dX:List Value,Instr.fill (λi=>some (i*esz,esz)) xs.toArray pI=some dX.toArray/\dI ρ mq.flatten dX)/\(∀e∈mq,e.length=esz)/\(∀e∈mq,∀v∈e,v.one=true)/\mq.length=els.length
 |[],[],els,mq,xs,_,U,aa,bA,h=>by
  simp[qx] at h;subst h;exact⟨⟨xs,rfl,bA⟩,U,aa,rfl⟩
 |[],_::_,_,_,_,bw,_,_,_,_=>bw.elim
 |_::_,[],_,_,_,bw,_,_,_,_=>bw.elim
 |(i,v)::r,(j,x)::s,els,mq,xs,bw,U,aa,bA,h=>by
  obtain⟨rfl,jt,bw⟩:=bw;unfold qx at h;split at h
  ·rename_i mh;obtain⟨aS,be,dN⟩:=mh;have lJ: ∀u∈v.cells,u.one=true:=by simpa using dN
   have Fk:=jt.cells;have eG:=Fk.length;have fA:=bA.length;have Au:=wF U;have hle:i*esz+v.cells.length<=els.flatten.length:=by rw[Au,aS];exact DM be
   have aM:=Qb bA Fk (c:=i*esz) hle;rw[<-Pa i v.cells U aS be] at aM;have g1: ∀e∈els.set i v.cells,e.length=esz:=λe he=>by
    rcases List.mem_or_eq_of_mem_set he with h|rfl
    ·exact U e h
    ·exact aS
   have g2: ∀e∈els.set i v.cells,∀u∈e,u.one=true:=λe he=>by
    rcases List.mem_or_eq_of_mem_set he with h|rfl
    ·exact aa e h
    ·exact lJ
   obtain⟨⟨dX,aI,bc⟩,dq,eZ,hE⟩:=Ox esz r s _ mq _ bw g1 g2 aM h;refine⟨⟨dX,?_,bc⟩,dq,eZ,by simpa using hE⟩;unfold Instr.fill;have fO:x.cells.size=v.cells.length:=by rw[eG];simp
   simp only
   rw[if_neg (by simp[fO,aS];omega)];have:=Jz x.cells.toList 0 (i*esz) xs.toArray;rw[Nat.add_zero] at this;rw[<-Array.foldl_toList,Array.toList_zipIdx,this];simpa using aI
  ·cases h
theorem Si(z:Array Value)(n:Nat)(cn:0<z.size):((Array.range (n*z.size)).map (z[· %z.size]!))=((List.replicate n z.toList).flatten).toArray:=by
 apply Array.ext';apply List.ext_getElem?;intro k;by_cases ah:k<n*z.size
 ·have U:(Array.map (λx=>z[x%z.size]!) (Array.range (n*z.size))).toList[k]? =some z[k%z.size]! :=by
   simp[ah]
  rw[U];symm;simp only
  have hdiv:k/z.size<n:=by rw[Nat.div_lt_iff_lt_mul cn];exact ah
  have amU:k%z.size<z.size:=Nat.mod_lt _ cn;have key: ∀(n k:Nat),k<n*z.size->(List.replicate n z.toList).flatten[k]? =z.toList[k%z.size]? :=by
   intro n
   induction n with
   |zero=>intro k h;omega
   |succ n aT=>
    intro k h;rw[List.replicate_succ,List.flatten_cons];by_cases ah:k<z.size
    ·rw[List.getElem?_append_left (by simpa using ah),Nat.mod_eq_of_lt ah]
    ·rw[List.getElem?_append_right (by simpa using ah)];have:=aT (k-z.size) (by rw[Nat.succ_mul] at h;omega);simp only[Array.length_toList];rw[this,<-Nat.mod_eq_sub_mod Z]
  rw[key n k ah];simp[amU]
 ·rw[List.getElem?_eq_none (by simp;omega),List.getElem?_eq_none (by simp;omega)]
theorem dI.Ji{gn:List I}{xs:List Value}(h:dI ρ gn xs): ∀n,dI ρ (List.replicate n gn).flatten (List.replicate n xs).flatten
 |0=>by simpa using dI.nil
 |n+1=>by simpa [List.replicate_succ] using h.append (dI.Ji h n)
theorem ZD(ce:Rel ρ H w)(al:ρ H.next=none){t:TypeId}{len:Nat}{parts:List (Nat×I)}{pI:List (Nat×Value)}{a:I}{H':J}(h:Dt P H t len parts=some (a,H'))(bw:Cp ρ parts pI):
  ∃r b4 cY,(Instr.buildSlice t len pI.toArray).run P w= .ok r b4/\cW cY a r/\Step ρ H w cY H' b4:=by
 unfold Dt at h;split at h
 ·rename_i e hu;split at h
  ·rename_i fY z fO cn;split at h
   ·rename_i mh;obtain⟨hle,tg,dN⟩:=mh;split at h
    ·rename_i els Ma;simp only[bF,dw] at h;obtain⟨rfl,rfl⟩:=h;obtain⟨iY,sh,uK⟩:=Bk cn w;have lJ: ∀u∈z.cells,u.one=true:=by simpa using dN
     have wm:=(uK ρ).cells;have uJ:iY.cells.size=fY:=by have:=wm.length;rw[<-tg,this];simp
     have Mi:=dI.Ji wm len;obtain⟨⟨dX,U,aa⟩,ae,am,aB⟩:=Ox fY parts pI _ els _ bw (λe he=>by rw[List.eq_of_mem_replicate he];exact tg)
      (λe he=>by rw[List.eq_of_mem_replicate he];exact lJ) Mi Ma
     have aM:=F4 ce al ae am aa (tail:=[]) e;have AD:dX.length=len*fY:=by
      rw[<-aa.length,wF ae,aB];simp
     refine⟨.slice (some ⟨w.heap.size,0,none⟩) len len,_,_,?_,?_,aM⟩
     ·simp only[Instr.buildSlice,Sem.run_bind,run_underlying hu,Result.andThen_ok,run_sizeOf fO];rw[if_neg (by show ¬(len*fY>2^24);omega)];by_cases aY:len*fY=0
      ·simp only[aY,if_true,Sem.run_bind,Sem.run_pure,Result.andThen_ok];have amV:(List.replicate len iY.cells.toList).flatten=[]:=by
        have:((List.replicate len iY.cells.toList).flatten).length=0:=by simp[uJ,aY]
        exact List.eq_nil_of_length_eq_zero this
       rw[amV] at U;have FT:Array.range 0= #[]:=rfl;simp[U,newRow,FT]
      ·simp only[aY,if_false,Sem.run_bind,sh,Result.andThen_ok,Sem.run_pure];have ox:0<iY.cells.size:=by
        rcases Nat.eq_zero_or_pos iY.cells.size with h|h
        ·rw[uJ] at h;simp[h] at aY
        ·exact h
       have:=Si iY.cells len ox;rw[uJ] at this;simp only[uJ,this];simp[U,newRow]
     ·refine cW.aN (ρ:=ρ.iL H.next _) H.next 0 len (some len) ⟨w.heap.size,0,fY,dX.length+0⟩ _ len (Env.nq _ _ _) (bN _) (by simp) (λ_=>⟨by simp,?_⟩)
      simp[AD]
    ·cases h
   ·cases h
  ·cases h
 ·cases h
end
end
end Go.gd

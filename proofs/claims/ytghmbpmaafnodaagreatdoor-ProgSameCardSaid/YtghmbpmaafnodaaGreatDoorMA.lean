/-
  Texts of one proof, laid together: Fv0 Fv1 Fv2 Fv3 Fv4 Fv5 Fv6.
-/
import GoSem.Dispatch
import Derived.WalkKit
import Derived.Laws.IdiomCopy
set_option linter.unusedVariables false
set_option linter.unusedSimpArgs false
namespace Go.f7
theorem Z{p:Prop}(h:p:=by omega):p:=h
theorem ad{p:Prop}(h:p:=by kernel_rfl):p:=h
theorem cl{p:Prop}(h:p:=by decide):p:=h
theorem ar{a b:Prop}(x:a)(y:b):a/\b:=⟨x,y⟩
theorem bD{α:Type}(a b:α):(some a=some b)=(a=b):=Option.some.injEq a b
theorem bx{α:Type}(a b:α):(bif true then a else b)=a:=rfl
theorem bi{α:Type}(a b:α):(bif false then a else b)=b:=rfl
theorem eT{α β:Type}{o:Option α}{f:α->Option β}{b:β}:o.bind f=some b↔ ∃a,o=some a/\f a=some b:=Option.bind_eq_some_iff
theorem dz{α β:Type}(a:α)(b:β)(c:α)(d:β):((a,b)=(c,d))=(a=c/\b=d):=Prod.mk.injEq a b c d
theorem bL(n:Nat):n<=n:=Nat.le_refl n
section
inductive I where
 |bool (b:Bool)
 |int (k:IntKind) (n:Int)
 |str (s:List UInt8)
 |ptr (l i c:Nat)
 |nilPtr
 |aM (l i n esz:Nat) (cap:Option Nat)
 |an
 |map (l:Nat)
 |oW
 |func (fn:Fn) (first captured:List I)
 |nilFunc
 |iface (t:TypeId) (v:I)
 |nilIface
 |agg (cs:List I)
 |tuple (cm:List I)
instance:Inhabited I:=⟨.tuple []⟩
inductive dZ where
 |row (ro:Bool) (esz:Nat) (els:List (List I))
 |map (es:List (I×I))
 |dead
inductive uT where
 |d0|d1|d2|d3|d4|d5|d6|d7
inductive dd(α:Type) where
 |leaf
 |node (v:Option α) (c0 bJ c2 c3 c4 c5 qv qw:dd α)
def MU(n:Nat):uT:=match n with
 |0=> .d0|1=> .d1|2=> .d2|3=> .d3|4=> .d4|5=> .d5|6=> .d6|_=> .d7
theorem agI{n m:Nat}(aV:n<8)(hm:m<8)(h:MU n=MU m):n=m:=by
 have U:n=0\/n=1\/n=2\/n=3\/n=4\/n=5\/n=6\/n=7:=Z;have aa:m=0\/m=1\/m=2\/m=3\/m=4\/m=5\/m=6\/m=7:=Z;rcases U with rfl|rfl|rfl|rfl|rfl|rfl|rfl|rfl<;>rcases aa with rfl|rfl|rfl|rfl|rfl|rfl|rfl|rfl<;>first|rfl|cases h
def xy:Nat->Nat->List uT
 |0,_=>[]
 |_+1,0=>[]
 |f+1,k+1=>MU (k%8)::xy f (k/8)
def path(k:Nat):List uT:=xy k k
theorem adV: ∀(f g k j:Nat),k<=f->j<=g->xy f k=xy g j->k=j:=by
 intro f
 induction f with
 |zero=>
  intro g k j ah bP h;have:k=0:=Z;subst this;cases j with
  |zero=>rfl
  |succ j=>
   cases g with
   |zero=>omega
   |succ g=>simp[xy] at h
 |succ f aT=>
  intro g k j ah bP h;cases k with
  |zero=>
   cases j with
   |zero=>rfl
   |succ j=>
    cases g with
    |zero=>omega
    |succ g=>simp[xy] at h
  |succ k=>
   cases j with
   |zero=>cases g<;>simp[xy] at h
   |succ j=>
    cases g with
    |zero=>omega
    |succ g=>
     simp only[xy,List.cons.injEq] at h;have U:=agI (Nat.mod_lt _ Z) (Nat.mod_lt _ Z) h.1;have aa:=aT g (k/8) (j/8) Z Z h.2;omega
theorem Si{k j:Nat}(h:path k=path j):k=j:=adV k j k j (bL _) (bL _) h
def dd.p6{α:Type}:List uT->dd α->Option α
 |[],.leaf=>none
 |[],.node v _ _ _ _ _ _ _ _=>v
 |_::_,.leaf=>none
 |d::p,.node _ c0 bJ c2 c3 c4 c5 qv qw=>match d with
  | .d0=>dd.p6 p c0| .d1=>dd.p6 p bJ| .d2=>dd.p6 p c2| .d3=>dd.p6 p c3
  | .d4=>dd.p6 p c4| .d5=>dd.p6 p c5| .d6=>dd.p6 p qv| .d7=>dd.p6 p qw
def dd.hr{α:Type}(x:α):List uT->dd α->dd α
 |[],.leaf=> .node (some x) .leaf .leaf .leaf .leaf .leaf .leaf .leaf .leaf
 |[],.node _ c0 bJ c2 c3 c4 c5 qv qw=> .node (some x) c0 bJ c2 c3 c4 c5 qv qw
 |d::p,.leaf=>match d with
  | .d0=> .node none (dd.hr x p .leaf) .leaf .leaf .leaf .leaf .leaf .leaf .leaf
  | .d1=> .node none .leaf (dd.hr x p .leaf) .leaf .leaf .leaf .leaf .leaf .leaf
  | .d2=> .node none .leaf .leaf (dd.hr x p .leaf) .leaf .leaf .leaf .leaf .leaf
  | .d3=> .node none .leaf .leaf .leaf (dd.hr x p .leaf) .leaf .leaf .leaf .leaf
  | .d4=> .node none .leaf .leaf .leaf .leaf (dd.hr x p .leaf) .leaf .leaf .leaf
  | .d5=> .node none .leaf .leaf .leaf .leaf .leaf (dd.hr x p .leaf) .leaf .leaf
  | .d6=> .node none .leaf .leaf .leaf .leaf .leaf .leaf (dd.hr x p .leaf) .leaf
  | .d7=> .node none .leaf .leaf .leaf .leaf .leaf .leaf .leaf (dd.hr x p .leaf)
 |d::p,.node v c0 bJ c2 c3 c4 c5 qv qw=>match d with
  | .d0=> .node v (dd.hr x p c0) bJ c2 c3 c4 c5 qv qw
  | .d1=> .node v c0 (dd.hr x p bJ) c2 c3 c4 c5 qv qw
  | .d2=> .node v c0 bJ (dd.hr x p c2) c3 c4 c5 qv qw
  | .d3=> .node v c0 bJ c2 (dd.hr x p c3) c4 c5 qv qw
  | .d4=> .node v c0 bJ c2 c3 (dd.hr x p c4) c5 qv qw
  | .d5=> .node v c0 bJ c2 c3 c4 (dd.hr x p c5) qv qw
  | .d6=> .node v c0 bJ c2 c3 c4 c5 (dd.hr x p qv) qw
  | .d7=> .node v c0 bJ c2 c3 c4 c5 qv (dd.hr x p qw)
theorem dd.Gt{α:Type}(p:List uT):dd.p6 p (.leaf:dd α)=none:=by cases p<;>rfl
theorem dd.Jw{α:Type}(x:α): ∀(p:List uT) (t:dd α),dd.p6 p (dd.hr x p t)=some x
 |[],.leaf=>rfl
 |[],.node .. =>rfl
 |d::p,.leaf=>by cases d<;>exact dd.Jw x p _
 |d::p,.node .. =>by cases d<;>exact dd.Jw x p _
theorem dd.Jt{α:Type}(x:α): ∀(p q:List uT) (t:dd α),p≠q->dd.p6 q (dd.hr x p t)=dd.p6 q t
 |[],[],_,h=>absurd rfl h
 |[],e::q,.leaf,_=>by cases e<;>exact dd.Gt q
 |[],e::q,.node ..,_=>rfl
 |d::p,[],.leaf,_=>by cases d<;>rfl
 |d::p,[],.node ..,_=>by cases d<;>rfl
 |d::p,e::q,.leaf,h=>by
  cases d<;>cases e<;>first
   |exact dd.Gt q
   |(show dd.p6 q (dd.hr x p .leaf)=none
     rw[dd.Jt x p q .leaf (λNv=>h (by rw[Nv]))];exact dd.Gt q)
 |d::p,e::q,.node ..,h=>by
  cases d<;>cases e<;>first
   |rfl
   |exact dd.Jt x p q _ (λNv=>h (by rw[Nv]))
def dd.get{α:Type}(t:dd α)(k:Nat):Option α:=dd.p6 (path k) t
def dd.put{α:Type}(x:α)(_:Nat)(t:dd α)(k:Nat):dd α:=dd.hr x (path k) t
theorem dd.DQ{α:Type}(k:Nat):(dd.leaf:dd α).get k=none:=dd.Gt _
theorem dd.Ds{α:Type}(x:α): ∀(f:Nat) (t:dd α) (k:Nat),k<f->(dd.put x f t k).get k=some x:=λ_ t k _=>dd.Jw x (path k) t
theorem dd.Dp{α:Type}(x:α): ∀(f:Nat) (t:dd α) (k j:Nat),k≠j->(dd.put x f t k).get j=t.get j:=λ_ t _ _ h=>dd.Jt x _ _ t (λe=>h (Si e))
structure J where
 t:dd dZ
 next:Nat
def J.get(H:J)(l:Nat):Option dZ:=if l<H.next then H.t.get l else none
def J.set(H:J)(l:Nat)(b:dZ):J:={H with t:=dd.put b (l+1) H.t l}
def J.push(H:J)(b:dZ):J:={t:=dd.put b (H.next+1) H.t H.next,next:=H.next+1}
def J.empty:J:=⟨.leaf,0⟩
@[simp] theorem J.e9(H:J)(l:Nat)(b:dZ):(H.set l b).next=H.next:=rfl
@[simp] theorem J.b6(H:J)(b:dZ):(H.push b).next=H.next+1:=rfl
theorem J.aW{H:J}{l:Nat}{b:dZ}(h:H.get l=some b):l<H.next:=by
 unfold J.get at h;split at h
 ·assumption
 ·cases h
theorem J.get_set_same{H:J}{l:Nat}{b:dZ}(h:l<H.next):(H.set l b).get l=some b:=by
 show(if l<H.next then(dd.put b (l+1) H.t l).get l else none)=some b;rw[if_pos h];exact dd.Ds b _ _ _ Z
theorem J.get_set_other{H:J}{l j:Nat}{b:dZ}(h:l≠j):(H.set l b).get j=H.get j:=by
 show(if j<H.next then(dd.put b (l+1) H.t l).get j else none)=(if j<H.next then H.t.get j else none);rw[dd.Dp b _ _ _ _ h]
theorem J.ca(H:J)(b:dZ):(H.push b).get H.next=some b:=by
 show(if H.next<H.next+1 then(dd.put b (H.next+1) H.t H.next).get H.next else none)=some b;rw[if_pos Z];exact dd.Ds b _ _ _ Z
theorem J.gy{H:J}{j:Nat}{b:dZ}(h:j≠H.next):(H.push b).get j=H.get j:=by
 show(if j<H.next+1 then(dd.put b (H.next+1) H.t H.next).get j else none)=(if j<H.next then H.t.get j else none);by_cases bP:j<H.next
 ·rw[if_pos Z,if_pos bP,dd.Dp b _ _ _ _ Z]
 ·rw[if_neg Z,if_neg bP]
end
section
structure Loc where
 block:Nat
 off:Nat
 esz:Nat
 size:Nat
def Env:Type:=Nat->Option Loc
def Env.le(ρ cX:Env):Prop:= ∀l loc,ρ l=some loc->cX l=some loc
theorem Env.le_refl(ρ:Env):ρ.le ρ:=λ_ _ h=>h
theorem Env.le_trans{ρ cX X8:Env}(h:ρ.le cX)(bZ:cX.le X8):ρ.le X8:=λl loc e=>bZ l loc (h l loc e)
mutual
inductive cT(ρ:Env):I->Value->Prop where
 |bool (b:Bool):cT ρ (.bool b) (.bool b)
 |int (k:IntKind) (n:Int):cT ρ (.int k n) (.int k n)
 |str (s:List UInt8):cT ρ (.str s) (.string ⟨s.toArray⟩)
 |ptr (l i c:Nat) (loc:Loc) (h:ρ l=some loc):cT ρ (.ptr l i c) (.pointer (some ⟨loc.block,loc.off+i*loc.esz+c,none⟩))
 |nilPtr:cT ρ .nilPtr (.pointer none)
 |aM (l i n:Nat) (cap:Option Nat) (loc:Loc) (a:Addr) (c:Nat) (h:ρ l=some loc) (aV:n<=c) (aS: ∀k,cap=some k->c=k)
  (b1:0<c->a=⟨loc.block,loc.off+i*loc.esz,none⟩/\loc.off+(i+c)*loc.esz<=loc.size):cT ρ (.aM l i n loc.esz cap) (.slice (some a) n c)
 |an:cT ρ .an (.slice none 0 0)
 |map (l:Nat) (loc:Loc) (h:ρ l=some loc):cT ρ (.map l) (.map (some loc.block))
 |oW:cT ρ .oW (.map none)
 |func (fn:Fn) (f c:List I) (nc c':List Value) (ak:dG ρ f nc) (aS:dG ρ c c'):cT ρ (.func fn f c) (.func fn nc.toArray c'.toArray)
 |nilFunc:cT ρ .nilFunc .nilFunc
 |iface (t:TypeId) (v:I) (x:Value) (h:cT ρ v x):cT ρ (.iface t v) (.iface t x)
 |nilIface:cT ρ .nilIface .nilIface
 |agg (cs:List I) (xs:List Value) (h:dG ρ cs xs):cT ρ (.agg cs) (.agg xs.toArray)
 |tuple (cs:List I) (xs:List Value) (h:dG ρ cs xs):cT ρ (.tuple cs) (.tuple xs.toArray)
inductive dG(ρ:Env):List I->List Value->Prop where
  |nil:dG ρ [] []
  |cons (v:I) (x:Value) (cm:List I) (xs:List Value) (h:cT ρ v x) (aO:dG ρ cm xs):dG ρ (v::cm) (x::xs)
 end
mutual
theorem cT.mono{ρ cX:Env}(hle:ρ.le cX){v:I}{x:Value}(h:cT ρ v x):cT cX v x:=by
 cases h with
 |bool b=>exact .bool b
 |int k n=>exact .int k n
 |str s=>exact .str s
 |ptr l i c loc h=>exact .ptr l i c loc (hle _ _ h)
 |nilPtr=>exact .nilPtr
 |aM l i n cap loc a c h aV aS b1=>exact .aM l i n cap loc a c (hle _ _ h) aV aS b1
 |an=>exact .an
 |map l loc h=>exact .map l loc (hle _ _ h)
 |oW=>exact .oW
 |func fn f c nc c' ak aS=>exact .func fn f c nc c' (dG.mono hle ak) (dG.mono hle aS)
 |nilFunc=>exact .nilFunc
 |iface t v x h=>exact .iface t v x (cT.mono hle h)
 |nilIface=>exact .nilIface
 |agg cs xs h=>exact .agg cs xs (dG.mono hle h)
 |tuple cs xs h=>exact .tuple cs xs (dG.mono hle h)
theorem dG.mono{ρ cX:Env}(hle:ρ.le cX){v:List I}{x:List Value}(h:dG ρ v x):dG cX v x:=by
  cases h with
  |nil=>exact .nil
  |cons v x cm xs h aO=>exact .cons v x cm xs (cT.mono hle h) (dG.mono hle aO)
 end
theorem dG.length{ρ:Env}: ∀{cm:List I} {xs:List Value},dG ρ cm xs->cm.length=xs.length
 |[],_,h=>by cases h;rfl
 |_::_,_,h=>by cases h with|cons _ _ _ _ _ aO=>simp[dG.length aO]
theorem dG.get{ρ:Env}: ∀{cm:List I} {xs:List Value},dG ρ cm xs-> ∀(j:Nat) (v:I),cm[j]? =some v-> ∃x,xs[j]? =some x/\cT ρ v x
 |[],_,h,j,v,bP=>by simp at bP
 |w::cm,_,h,j,v,bP=>by
  cases h with
  |cons _ x _ xs bW aO=>
   cases j with
   |zero=>simp at bP;subst bP;exact⟨x,rfl,bW⟩
   |succ j=>simpa using dG.get aO j v (by simpa using bP)
theorem dG.append{ρ:Env}: ∀{cm us:List I} {xs dQ:List Value},dG ρ cm xs->dG ρ us dQ->dG ρ (cm++us) (xs++dQ)
 |[],_,_,_,h,bZ=>by cases h;exact bZ
 |_::_,_,_,_,h,bZ=>by cases h with|cons _ _ _ _ a as=>exact .cons _ _ _ _ a (dG.append as bZ)
theorem dG.VH{ρ:Env}: ∀{cm:List I} {xs:List Value},cm.length=xs.length->(∀(j:Nat) (v:I) (x:Value),cm[j]? =some v->xs[j]? =some x->cT ρ v x)->dG ρ cm xs
 |[],[],_,_=> .nil
 |[],_::_,h,_=>by simp at h
 |_::_,[],h,_=>by simp at h
 |v::cm,x::xs,h,a7=> .cons _ _ _ _ (a7 0 v x rfl rfl) (dG.VH (by simpa using h) λj a b b1 ay=>a7 (j+1) a b (by simpa using b1) (by simpa using ay))
theorem dG.set{ρ:Env}{v:I}{x:Value}(h:cT ρ v x): ∀{cm:List I} {xs:List Value} (j:Nat),dG ρ cm xs->dG ρ (cm.set j v) (xs.set j x)
 |[],_,_,aO=>by cases aO;exact .nil
 |_::_,_,0,aO=>by cases aO with|cons _ _ _ _ a as=>exact .cons _ _ _ _ h as
 |_::_,_,j+1,aO=>by cases aO with|cons _ _ _ _ a as=>exact .cons _ _ _ _ a (dG.set h j as)
def I.one:I->Bool
 | .agg _| .tuple _=>false
 |_=>true
def I.cells:I->List I
 | .agg cs=>cs
 |v=>[v]
theorem cT.TL{ρ:Env}{v:I}{x:Value}(h:cT ρ v x)(U:v.one=true):x.oneCell'=true:=by
 cases h<;>first|rfl|cases U
theorem cT.cells{ρ:Env}{v:I}{x:Value}(h:cT ρ v x):dG ρ v.cells x.cells.toList:=by
 cases h with
 |agg cs xs h=>simpa [I.cells,Value.cells] using h
 |bool b=>exact .cons _ _ _ _ (.bool b) .nil
 |int k n=>exact .cons _ _ _ _ (.int k n) .nil
 |str s=>exact .cons _ _ _ _ (.str s) .nil
 |ptr l i c loc h=>exact .cons _ _ _ _ (.ptr l i c loc h) .nil
 |nilPtr=>exact .cons _ _ _ _ .nilPtr .nil
 |aM l i n cap loc a c h aV aS b1=>exact .cons _ _ _ _ (.aM l i n cap loc a c h aV aS b1) .nil
 |an=>exact .cons _ _ _ _ .an .nil
 |map l loc h=>exact .cons _ _ _ _ (.map l loc h) .nil
 |oW=>exact .cons _ _ _ _ .oW .nil
 |func fn f c nc c' ak aS=>exact .cons _ _ _ _ (.func fn f c nc c' ak aS) .nil
 |nilFunc=>exact .cons _ _ _ _ .nilFunc .nil
 |iface t v x h=>exact .cons _ _ _ _ (.iface t v x h) .nil
 |nilIface=>exact .cons _ _ _ _ .nilIface .nil
 |tuple cs xs h=>exact .cons _ _ _ _ (.tuple cs xs h) .nil
def mH(ρ:Env)(w:World)(loc:Loc)(ro:Bool)(esz:Nat)(els:List (List I)):Prop:=
 loc.esz=esz/\ ∃c t h4,w.heap[loc.block]? =some (.cells c t h4)/\(ro=false->loc.size=c.size/\ ∀o,o<c.size-> ¬(h4.1<=o/\o<h4.2))/\
  ∀(i:Nat) (e:List I),els[i]? =some e->e.length=esz/\ ∀(j:Nat) (v:I),e[j]? =some v->v.one=true/\ ∃x,c[loc.off+i*esz+j]? =some x/\cT ρ v x
def LH(ρ:Env)(w:World)(loc:Loc)(es:List (I×I)):Prop:=
 ∃ents clock,w.heap[loc.block]? =some (.map ents clock)/\dG ρ (es.map (·.1)) (ents.toList.map (·.key))/\dG ρ (es.map (·.2)) (ents.toList.map (·.val))
def J.rw(H:J)(l:Nat):Prop:=(∃esz els,H.get l=some (.row false esz els))\/ ∃es,H.get l=some (.map es)
def J.live(H:J)(l:Nat):Prop:=(∃ro esz els,H.get l=some (.row ro esz els))\/ ∃es,H.get l=some (.map es)
theorem J.rw.live{H:J}{l:Nat}(h:H.rw l):H.live l:=by
 rcases h with⟨e,s,h⟩|h
 ·exact .inl ⟨_,e,s,h⟩
 ·exact .inr h
def dZ.HO:dZ->Bool
 | .row true _ _=>true
 |_=>false
theorem J.VO{H:J}{l:Nat}{b:dZ}(ay:b.HO=false): ∀k esz els,(H.set l b).get k=some (.row true esz els)->H.get k=some (.row true esz els):=by
 intro k esz els h;by_cases ah:l=k
 ·subst ah;have eo:l<H.next:=by have:=J.aW h;simpa using this
  rw[J.get_set_same eo] at h;simp only[bD] at h;subst h;cases ay
 ·rwa[J.get_set_other ah] at h
theorem J.TV{H:J}{b:dZ}(ay:b.HO=false): ∀k esz els,(H.push b).get k=some (.row true esz els)->H.get k=some (.row true esz els):=by
 intro k esz els h;by_cases ah:k=H.next
 ·subst ah;rw[J.ca] at h;simp only[bD] at h;subst h;cases ay
 ·rwa[J.gy ah] at h
structure Rel(ρ:Env)(H:J)(w:World):Prop where
 row: ∀l ro esz els,H.get l=some (.row ro esz els)-> ∃loc,ρ l=some loc/\mH ρ w loc ro esz els
 map: ∀l es,H.get l=some (.map es)-> ∃loc,ρ l=some loc/\LH ρ w loc es
 apart: ∀l l' loc dB,H.rw l->H.live l'->l≠l'->ρ l=some loc->ρ l'=some dB->loc.block≠dB.block
def pW(ρ:Env)(H:J)(b:Nat):Prop:= ∃l loc,H.rw l/\ρ l=some loc/\loc.block=b
structure Step(ρ:Env)(H:J)(w:World)(cX:Env)(H':J)(b5:World):Prop where
 le:ρ.le cX
 next:H.next<=H'.next
 bo: ∀l,l<H.next\/H'.next<=l->cX l=ρ l
 rel:Rel cX H' b5
 os:b5.os=w.os
 tape:b5.tape=w.tape
 output:b5.output=w.output
 size:w.heap.size<=b5.heap.size
 frame: ∀b,b<w.heap.size-> ¬pW ρ H b->b5.heap[b]? =w.heap[b]?
 own: ∀b,pW cX H' b->pW ρ H b\/w.heap.size<=b
 ro: ∀l esz els,H'.get l=some (.row true esz els)->H.get l=some (.row true esz els)
theorem Step.refl{ρ:Env}{H:J}{w:World}(h:Rel ρ H w):Step ρ H w ρ H w:=
 ⟨ρ.le_refl,bL _,λ_ _=>rfl,h,rfl,rfl,rfl,bL _,λ_ _ _=>rfl,λ_ h=> .inl h,λ_ _ _ h=>h⟩
theorem Step.trans{ρ Er WZ:Env}{H qW sS:J}{w sZ H8:World}(h:Step ρ H w Er qW sZ)(k:Step Er qW sZ WZ sS H8):Step ρ H w WZ sS H8 where
 le:=Env.le_trans h.le k.le
 next:=Nat.le_trans h.next k.next
 bo:=λl ax=>(k.bo l (ax.imp (λx=>Nat.lt_of_lt_of_le x h.next) id)).trans (h.bo l (ax.imp id (λx=>Nat.le_trans k.next x)))
 ro:=λl esz els e=>h.ro l esz els (k.ro l esz els e)
 rel:=k.rel
 os:=k.os.trans h.os
 tape:=k.tape.trans h.tape
 output:=k.output.trans h.output
 size:=Nat.le_trans h.size k.size
 frame:=λb ay aV=>by
  rw[k.frame b (Nat.lt_of_lt_of_le ay h.size) (λbs=>(h.own b bs).elim aV (λhle=>Z)),h.frame b ay aV]
 own:=λb ay=>(k.own b ay).elim (λbs=>h.own b bs) (λhle=> .inr (Nat.le_trans h.size hle))
def X9(ρ:Env)(n m:Nat):Prop:= ∀l,n<=l->l<m->ρ l=none
structure ov(E ρ:Env)(n m:Nat):Prop where
 new:X9 ρ n m
 le:E.le ρ
theorem ov.left{E ρ:Env}{n m k:Nat}(h:ov E ρ n k)(hm:m<=k):ov E ρ n m:=⟨λl a b=>h.new l a Z,h.le⟩
theorem ov.after{E ρ Er:Env}{H qW:J}{w sZ:World}{k:Nat}(h:ov E ρ H.next k)(s:Step ρ H w Er qW sZ):ov E Er qW.next k:=⟨λl a b=>by
 rw[s.bo l (.inr a)];exact h.new l (Nat.le_trans s.next a) b,Env.le_trans h.le s.le⟩
theorem Rel.drew{ρ:Env}{H:J}{w:World}(h:Rel ρ H w):Rel ρ H w.drew:=⟨h.row,h.map,h.apart⟩
end
section
def hR(P:Program)(t:TypeId):Option Bool:=
 match P.underlying t with
 |some (.struct _)|some (.array _ _)=>some true
 |some _=>some false
 |none=>none
def fq(P:Program)(t:TypeId):Option Nat:=(P.info? t).map (·.size)
theorem GD{P:Program}{t:TypeId}{b:Bool}(h:hR P t=some b)(w:World):(isAgg t).run P w= .ok b w:=by
 unfold hR at h;unfold isAgg;cases hu:P.underlying t with
 |none=>rw[hu] at h;cases h
 |some d=>
  rw[hu] at h;simp only[Sem.run_bind,run_underlying hu,Result.andThen_ok];cases d<;>simp_all
theorem run_sizeOf{P:Program}{t:TypeId}{n:Nat}(h:fq P t=some n)(w:World):(sizeOf t).run P w= .ok n w:=by
 unfold fq at h;cases be:P.info? t with
 |none=>rw[be] at h;cases h
 |some i=>rw[be] at h;simp at h;simp[sizeOf,typeInfo,be,h]
def apart(P:Program)(t:TypeId)(cs:List I)(off:Nat):Option I:=
 match hR P t with
 |some true=>(match fq P t with|some n=>some (.agg ((cs.drop off).take n))|none=>none)
 |some false=>cs[off]?
 |none=>none
theorem dG.drop{ρ:Env}: ∀{cm:List I} {xs:List Value} (n:Nat),dG ρ cm xs->dG ρ (cm.drop n) (xs.drop n)
 |_,_,0,h=>by simpa using h
 |[],_,n+1,h=>by cases h;simpa using dG.nil
 |_::_,_,n+1,h=>by cases h with|cons _ _ _ _ a as=>simpa using dG.drop n as
theorem dG.take{ρ:Env}: ∀{cm:List I} {xs:List Value} (n:Nat),dG ρ cm xs->dG ρ (cm.take n) (xs.take n)
 |_,_,0,h=>by simpa using dG.nil
 |[],_,n+1,h=>by cases h;simpa using dG.nil
 |_::_,_,n+1,h=>by cases h with|cons _ _ _ _ a as=>simpa using dG.cons _ _ _ _ a (dG.take n as)
theorem Bd{P:Program}{t:TypeId}{cs:List I}{off:Nat}{v:I}{ρ:Env}{xs:List Value}(h:apart P t cs off=some v)(aO:dG ρ cs xs)(w:World):
  ∃x,(part t xs.toArray off).run P w= .ok x w/\cT ρ v x:=by
 unfold apart at h;split at h
 ·rename_i b1;split at h
  ·rename_i n aV;simp at h;subst h;refine⟨.agg (((xs.drop off).take n).toArray),?_,.agg _ _ ((aO.drop off).take n)⟩;unfold part;simp only[Sem.run_bind,GD b1,Result.andThen_ok,if_true,run_sizeOf aV];simp[List.extract_toArray,List.extract_eq_take_drop]
  ·cases h
 ·rename_i b1;obtain⟨x,af,bw⟩:=aO.get off v h;refine⟨x,?_,bw⟩;unfold part;simp[GD b1,af]
 ·cases h
def pQ(op:BinOp)(k:IntKind)(a b:Int):Option I:=
 match op with
 | .add=>some (.int k (k.wrap (a+b)))
 | .sub=>some (.int k (k.wrap (a-b)))
 | .mul=>some (.int k (k.wrap (a*b)))
 | .quo=>if b=0 then none else some (.int k (k.wrap (a.tdiv b)))
 | .rem=>if b=0 then none else some (.int k (a.tmod b))
 | .and=>some (.int k (k.wrap ((BitVec.ofInt k.bits a&&&BitVec.ofInt k.bits b).toNat:Int)))
 | .or=>some (.int k (k.wrap ((BitVec.ofInt k.bits a|||BitVec.ofInt k.bits b).toNat:Int)))
 | .xor=>some (.int k (k.wrap ((BitVec.ofInt k.bits a^^^BitVec.ofInt k.bits b).toNat:Int)))
 | .andNot=>some (.int k (k.wrap ((BitVec.ofInt k.bits a&&& ~~~BitVec.ofInt k.bits b).toNat:Int)))
 | .eql=>some (.bool (a==b))
 | .neq=>some (.bool (a != b))
 | .lss=>some (.bool (decide (a<b)))
 | .leq=>some (.bool (decide (a<=b)))
 | .gtr=>some (.bool (decide (b<a)))
 | .geq=>some (.bool (decide (b<=a)))
 | .shl| .shr=>none
def BF(op:BinOp)(k:IntKind)(a b:Int):Option I:=
 if b<0 then none else
 match op with
 | .shl=>some (.int k (k.wrap (a*2^(min b.toNat k.bits))))
 | .shr=>some (.int k (a.fdiv (2^(min b.toNat k.bits))))
 |_=>none
def Eg(op:BinOp)(a b:List UInt8):Option I:=
 match op with
 | .add=>if a.length+b.length<=9223372036854775807 then some (.str (a++b)) else none
 | .eql=>some (.bool (a==b))
 | .neq=>some (.bool (!(a==b)))
 | .lss=>some (.bool (Op.bytesLess a b))
 | .leq=>some (.bool (Op.bytesLess a b||a==b))
 | .gtr=>some (.bool (!(Op.bytesLess a b||a==b)))
 | .geq=>some (.bool (!Op.bytesLess a b))
 |_=>none
def Br(P:Program)(eq:TypeId->I->I->Option Bool):List Field->List I->List I->Option Bool
 |[],_,_=>some true
 |f::eA,xs,dQ=>
  if f.name≠ "_" then
   match apart P f.type xs f.offset,apart P f.type dQ f.offset with
   |some a,some b=>(match eq f.type a b with|some true=>Br P eq eA xs dQ|some false=>some false|none=>none)
   |_,_=>none
  else Br P eq eA xs dQ
def DO(P:Program)(eq:TypeId->I->I->Option Bool)(e:TypeId)(n:Nat):Nat->Nat->List I->List I->Option Bool
 |0,_,_,_=>some true
 |k+1,i,xs,dQ=>
  match apart P e xs (i*n),apart P e dQ (i*n) with
  |some a,some b=>(match eq e a b with|some true=>DO P eq e n k (i+1) xs dQ|some false=>some false|none=>none)
  |_,_=>none
def uj(P:Program):Nat->TypeId->I->I->Option Bool
 |0,_,_,_=>none
 |d+1,t,x,y=>
  match P.underlying t,x,y with
  |some .bool,.bool a,.bool b=>some (a==b)
  |some (.int _),.int k a,.int fA b=>if k=fA then some (a==b) else none
  |some .string,.str a,.str b=>some (a==b)
  |some (.pointer _),.nilPtr,.nilPtr=>some true
  |some (.pointer _),.nilPtr,.ptr .. =>some false
  |some (.pointer _),.ptr ..,.nilPtr=>some false
  |some (.interface _),.nilIface,.nilIface=>some true
  |some (.interface _),.nilIface,.iface .. =>some false
  |some (.interface _),.iface ..,.nilIface=>some false
  |some (.struct eA),.agg xs,.agg dQ=>if P.stoodInHeld t then none else Br P (uj P d) eA.toList xs dQ
  |some (.array len e),.agg xs,.agg dQ=>(match fq P e with|some n=>DO P (uj P d) e n len 0 xs dQ|none=>none)
  |some (.slice _),.an,.an=>some true
  |some (.slice _),.an,.aM .. =>some false
  |some (.slice _),.aM ..,.an=>some false
  |some (.map _ _),.oW,.oW=>some true
  |some (.map _ _),.oW,.map _=>some false
  |some (.map _ _),.map _,.oW=>some false
  |some (.func _ _ _),.nilFunc,.nilFunc=>some true
  |some (.func _ _ _),.nilFunc,.func .. =>some false
  |some (.func _ _ _),.func ..,.nilFunc=>some false
  |_,_,_=>none
def isConst:Operand->Bool
 | .const _=>true
 |_=>false
def zc(P:Program)(t:TypeId)(x y:Operand)(a b:I):Bool:=
 match a,b with
 | .nilIface,.nilIface=>isConst x||isConst y
 | .agg _,.agg _=> !P.eqGuardType P.depth t
 |_,_=>true
def Et(P:Program)(op:BinOp)(t:TypeId)(qB pE:Operand)(x y:I):Option I:=
 match x,y with
 | .int k a,.int fA b=>
  (match op with
  | .shl=>BF .shl k a b
  | .shr=>BF .shr k a b
  |op=>if k=fA then pQ op k a b else none)
 | .str a,.str b=>Eg op a b
 |x,y=>
  (match op with
  | .eql=>if zc P t qB pE x y then(uj P 10000 t x y).map .bool else none
  | .neq=>if zc P t qB pE x y then(uj P 10000 t x y).map λb=> .bool (!b) else none
  |_=>none)
def fh(op:UnOp)(x:I):Option I:=
 match op,x with
 | .neg,.int k n=>some (.int k (k.wrap (0-n)))
 | .not,.bool b=>some (.bool (!b))
 |_,_=>none
end
end Go.f7
namespace Go
def Operand.GK:Operand->Bool
 | .const _=>true
 |_=>false
end Go
namespace Go.f7
section
section
variable {P:Program}{ρ:Env}
theorem Ki(w:World)(eq:TypeId->I->I->Option Bool)(q4:TypeId->Value->Value->Sem Bool)
  (heq: ∀t a b x y c,eq t a b=some c->cT ρ a x->cT ρ b y->(q4 t x y).run P w= .ok c w) {xs dQ:List I} {uS AS:List Value} (af:dG ρ xs uS) (cR:dG ρ dQ AS):
  ∀(eA:List Field) (b:Bool),Br P eq eA xs dQ=some b->
   (forIn eA ((none:Option Bool),()) (λf _=>
    (if f.name≠ "_" then do
     let a<-part f.type uS.toArray f.offset
     let b<-part f.type AS.toArray f.offset
     let c<-q4 f.type a b
     if(!c)=true then pure (ForInStep.done (some false,())) else pure (ForInStep.yield (none,()))
    else pure (ForInStep.yield (none,())):Sem (ForInStep (Option Bool×Unit))))).run P w= .ok (if b then(none,()) else(some false,())) w
 |[],b,h=>by
  simp[Br] at h;subst h;simp[Sem.run_pure]
 |f::eA,b,h=>by
  unfold Br at h;rw[List.forIn_cons];by_cases aV:f.name≠ "_"
  ·rw[if_pos aV] at h;split at h
   ·rename_i a fK b1 ay;obtain⟨x,dt,jr⟩:=Bd b1 af w;obtain⟨y,Fz,Fx⟩:=Bd ay cR w;split at h
    ·rename_i he;have a7:=heq _ _ _ _ _ _ he jr Fx;have aT:=Ki w eq q4 heq af cR eA b h;simp only[if_pos aV,Sem.run_bind,dt,Fz,a7,Result.andThen_ok,Bool.not_true,Bool.false_eq_true,if_false,Sem.run_pure];exact aT
    ·rename_i he;have a7:=heq _ _ _ _ _ _ he jr Fx;simp at h;subst h;simp only[if_pos aV,Sem.run_bind,dt,Fz,a7,Result.andThen_ok,Bool.not_false,if_true,Sem.run_pure];rfl
    ·cases h
   ·cases h
  ·rw[if_neg aV] at h;have aT:=Ki w eq q4 heq af cR eA b h;simp only[if_neg aV,Sem.run_bind,Sem.run_pure,Result.andThen_ok];exact aT
theorem Rm(w:World)(e:TypeId)(n:Nat)(eq:TypeId->I->I->Option Bool)(q4:TypeId->Value->Value->Sem Bool)
  (heq: ∀t a b x y c,eq t a b=some c->cT ρ a x->cT ρ b y->(q4 t x y).run P w= .ok c w) {xs dQ:List I} {uS AS:List Value} (af:dG ρ xs uS) (cR:dG ρ dQ AS):
  ∀(k i:Nat) (b:Bool),DO P eq e n k i xs dQ=some b->
   (forIn (List.range' i k) ((none:Option Bool),()) (λi _=>
    (do
     let a<-part e uS.toArray (i*n)
     let b<-part e AS.toArray (i*n)
     let c<-q4 e a b
     if(!c)=true then pure (ForInStep.done (some false,())) else pure (ForInStep.yield (none,())):Sem (ForInStep (Option Bool×Unit))))).run P w= .ok (if b then(none,()) else(some false,())) w
 |0,i,b,h=>by
  simp[DO] at h;subst h;simp[Sem.run_pure]
 |k+1,i,b,h=>by
  unfold DO at h;rw[List.range'_succ,List.forIn_cons];split at h
  ·rename_i a fK b1 ay;obtain⟨x,dt,jr⟩:=Bd b1 af w;obtain⟨y,Fz,Fx⟩:=Bd ay cR w;split at h
   ·rename_i he;have a7:=heq _ _ _ _ _ _ he jr Fx;have aT:=Rm w e n eq q4 heq af cR k (i+1) b h;simp only[Sem.run_bind,dt,Fz,a7,Result.andThen_ok,Bool.not_true,Bool.false_eq_true,if_false,Sem.run_pure];exact aT
   ·rename_i he;have a7:=heq _ _ _ _ _ _ he jr Fx;simp at h;subst h;simp only[Sem.run_bind,dt,Fz,a7,Result.andThen_ok,Bool.not_false,if_true,Sem.run_pure];rfl
   ·cases h
  ·cases h
theorem Lf(a b:List UInt8):((⟨a.toArray⟩:ByteArray)==⟨b.toArray⟩)=(a==b):=by
 have:((⟨a.toArray⟩:ByteArray)==⟨b.toArray⟩)=(a.toArray==b.toArray):=rfl;rw[this];simp
theorem Jz(w:World): ∀(d:Nat) (t:TypeId) (x y:I) (el jf:Value) (b:Bool),uj P d t x y=some b->cT ρ x el->cT ρ y jf->
  (Op.equalIn d t el jf).run P w= .ok b w
 |0,t,x,y,el,jf,b,h,_,_=>by cases h
 |d+1,t,x,y,el,jf,b,h,af,cR=>by
  have aT:=Jz w d;unfold uj at h;unfold Op.equalIn;cases hu:P.underlying t with
  |none=>rw[hu] at h;cases h
  |some u=>
   rw[hu] at h;simp only[Sem.run_bind,run_underlying hu,Result.andThen_ok];split at h<;>(try (cases h;done))<;>(try simp only[bD] at*)<;>(try subst_vars)<;>(try (cases af;cases cR;simp;done))
   ·cases af;cases cR;split at h
    ·rename_i ah;subst ah;simp at h;subst h;simp
    ·cases h
   ·cases af;cases cR;simp[Lf]
   ·cases af with|agg _ uS af=>cases cR with|agg _ AS cR=>
    split at h
    ·cases h
    ·rename_i se;have an1:P.stoodInHeld t=false:=by simpa using se
     have:=Ki w (uj P d) (Op.equalIn d) (λt a b x y c he b1 ay=>aT t a b x y c he b1 ay) af cR _ b h;simp only[Sem.run_bind,run_program,Result.andThen_ok,an1,Bool.false_eq_true,if_false];rw[<-Array.forIn_toList,this];cases b<;>simp
   ·cases af with|agg _ uS af=>cases cR with|agg _ AS cR=>
    split at h
    ·rename_i cg aV;have:=Rm w _ cg (uj P d) (Op.equalIn d) (λt a b x y c he b1 ay=>aT t a b x y c he b1 ay) af cR _ _ b h;simp only[Sem.run_bind,run_sizeOf aV,Result.andThen_ok];rw[Std.Legacy.Range.forIn_eq_forIn_range'];simp only[Std.Legacy.Range.size,Nat.sub_zero,Nat.add_sub_cancel,Nat.div_one] at this ⊢;rw[this];cases b<;>simp
    ·cases h
theorem aaR{op:BinOp}{k:IntKind}{a b:Int}{v:I}(h:pQ op k a b=some v)(t:TypeId)(w:World):
  ∃r,(binOp op t (.int k a) (.int k b)).run P w= .ok r w/\cT ρ v r:=by
 unfold pQ at h;cases op<;>simp only at h<;>(try (cases h;done))<;>(try (simp only[bD] at h;subst h))<;>
  (try (exact⟨_,by simp only[binOp,ne_eq,not_true_eq_false,if_false,Op.intArith,Op.intBits,Op.intCmp];exact Sem.run_pure ..,by first|exact .int _ _|exact .bool _⟩))
 ·split at h
  ·cases h
  ·rename_i ay;simp only[bD] at h;subst h;exact⟨_,by simp only[binOp,ne_eq,not_true_eq_false,if_false,Op.intDiv,ay];exact Sem.run_pure ..,.int _ _⟩
 ·split at h
  ·cases h
  ·rename_i ay;simp only[bD] at h;subst h;exact⟨_,by simp only[binOp,ne_eq,not_true_eq_false,if_false,Op.intDiv,ay];exact Sem.run_pure ..,.int _ _⟩
theorem OT{op:BinOp}{k fA:IntKind}{a b:Int}{v:I}(h:BF op k a b=some v)(t:TypeId)(w:World):
  ∃r,(binOp op t (.int k a) (.int fA b)).run P w= .ok r w/\cT ρ v r:=by
 unfold BF at h;split at h
 ·cases h
 ·rename_i ay;cases op<;>simp only at h<;>(try (cases h;done))<;>simp only[bD] at h<;>subst h
  ·exact⟨_,by simp only[binOp,Op.shift,if_neg ay];exact Sem.run_pure ..,.int _ _⟩
  ·exact⟨_,by simp only[binOp,Op.shift,if_neg ay];exact Sem.run_pure ..,.int _ _⟩
theorem toList_mk(a:List UInt8):(⟨a.toArray⟩:ByteArray).toList=a:=by rw[ByteArray.toList_eq]
theorem adP(a b:List UInt8):(⟨a.toArray⟩++⟨b.toArray⟩:ByteArray)=⟨(a++b).toArray⟩:=by
 apply ByteArray.ext;simp
theorem aa1{op:BinOp}{a b:List UInt8}{v:I}(h:Eg op a b=some v)(t:TypeId)(w:World):
  ∃r,(binOp op t (.string ⟨a.toArray⟩) (.string ⟨b.toArray⟩)).run P w= .ok r w/\cT ρ v r:=by
 unfold Eg at h;unfold binOp;cases op<;>simp only at h<;>(try (cases h;done))<;>(try (simp only[bD] at h;subst h))<;>
  (try (exact⟨_,by simp only[Op.stringOp,toList_mk];exact Sem.run_pure ..,.bool _⟩))
 split at h
 ·rename_i ax;simp only[bD] at h;subst h;refine⟨.string ⟨(a++b).toArray⟩,?_,.str _⟩;simp only[Op.stringOp];rw[if_neg,adP]
  ·exact Sem.run_pure ..
  ·have e:IntKind.i64.max=9223372036854775807:=rfl;have aI:(⟨a.toArray⟩:ByteArray).size=a.length:=by show a.toArray.size=_;simp
   have bc:(⟨b.toArray⟩:ByteArray).size=b.length:=by show b.toArray.size=_;simp
   rw[e,aI,bc];omega
 ·cases h
theorem Jy{op:BinOp}{t:TypeId}{qB pE:Operand}{x y:I}{el jf:Value}(h:zc P t qB pE x y=true)(af:cT ρ x el)(cR:cT ρ y jf)(w:World):
  (eqGuard op t qB pE el jf).run P w= .ok () w:=by
 have aV:qB.GK||pE.GK=true->(eqGuard op t qB pE .nilIface .nilIface).run P w= .ok () w:=by
  intro h;cases op<;>first
   |rfl
   |(cases qB<;>cases pE<;>first|rfl|(simp[Operand.GK] at h;done))
 cases af with
 |nilIface=>
  cases cR with
  |nilIface=>
   refine aV ?_;simp only[zc] at h;cases qB<;>cases pE<;>simp_all[isConst,Operand.GK]
  |_=>cases op<;>rfl
 |agg cs xs aS=>
  cases cR with
  |agg bU dQ bb=>
   simp only[zc,Bool.not_eq_true'] at h;cases op<;>first|rfl|simp[eqGuard,h]
  |_=>cases op<;>rfl
 |_=>cases cR<;>cases op<;>rfl
theorem binOp_eql{x y:I}{el jf:Value}(af:cT ρ x el)(cR:cT ρ y jf)(be: ∀k a fA b,x= .int k a->y= .int fA b->False)(aO: ∀a b,x= .str a->y= .str b->False)(t:TypeId):
  binOp .eql t el jf=(do pure (.bool (<-Op.equal t el jf)))/\binOp .neq t el jf=(do pure (.bool (!(<-Op.equal t el jf)))):=by
 cases af<;>cases cR<;>first
  |exact⟨rfl,rfl⟩
  |exact(be _ _ _ _ rfl rfl).elim
  |exact(aO _ _ rfl rfl).elim
theorem abQ{op:BinOp}{t:TypeId}{qB pE:Operand}{x y v:I}{el jf:Value}(h:Et P op t qB pE x y=some v)(af:cT ρ x el)(cR:cT ρ y jf)(w:World):
  ∃r,((do eqGuard op t qB pE el jf;binOp op t el jf:Sem Value)).run P w= .ok r w/\cT ρ v r:=by
 have Lu: ∀k a fA b,(eqGuard op t qB pE (.int k a) (.int fA b)).run P w= .ok () w:=λk a fA b=>Jy (ρ:=ρ) (x:= .int k a) (y:= .int fA b) rfl (.int _ _) (.int _ _) w
 have Lv: ∀a b,(eqGuard op t qB pE (.string ⟨a⟩) (.string ⟨b⟩)).run P w= .ok () w:=λa b=>by
  unfold eqGuard;split<;>rfl
 unfold Et at h;split at h
 ·cases af;cases cR;rename_i k a fA b;simp only[Sem.run_bind,Lu,Result.andThen_ok];split at h
  ·exact OT h t w
  ·exact OT h t w
  ·split at h
   ·rename_i ah;subst ah;exact aaR h t w
   ·cases h
 ·cases af;cases cR;simp only[Sem.run_bind,Lv,Result.andThen_ok];exact aa1 h t w
 ·rename_i apn wk;obtain⟨aI,bc⟩:=binOp_eql af cR (λk a fA b U aa=>apn _ _ _ _ U aa) (λa b U aa=>wk _ _ U aa) t;split at h
  ·split at h
   ·rename_i ak;rw[Sem.run_bind,Jy ak af cR w,Result.andThen_ok];simp only[Option.map_eq_some_iff] at h;obtain⟨b,ay,rfl⟩:=h;have he:(Op.equal t el jf).run P w= .ok b w:=Jz (ρ:=ρ) w _ _ _ _ _ _ _ ay af cR;exact⟨.bool b,by rw[aI,Sem.run_bind,he];rfl,.bool b⟩
   ·cases h
  ·split at h
   ·rename_i ak;rw[Sem.run_bind,Jy ak af cR w,Result.andThen_ok];simp only[Option.map_eq_some_iff] at h;obtain⟨b,ay,rfl⟩:=h;have he:(Op.equal t el jf).run P w= .ok b w:=Jz (ρ:=ρ) w _ _ _ _ _ _ _ ay af cR;exact⟨.bool (!b),by rw[bc,Sem.run_bind,he];rfl,.bool _⟩
   ·cases h
  ·cases h
theorem adw{op:UnOp}{x v:I}{el:Value}(h:fh op x=some v)(af:cT ρ x el)(w:World): ∃r,(Op.unary op el).run P w= .ok r w/\cT ρ v r:=by
 unfold fh at h;split at h
 ·cases af;simp only[bD] at h;subst h;exact⟨_,by simp only[Op.unary,Op.intArith];exact Sem.run_pure ..,.int _ _⟩
 ·cases af;simp only[bD] at h;subst h;exact⟨_,by simp only[Op.unary];exact Sem.run_pure ..,.bool _⟩
 ·cases h
end
end
section
section
variable {P:Program}{ρ:Env}{H:J}{w:World}
def oX(c:Array Value)(o:Nat):List Value->Array Value
 |[]=>c
 |v::r=>oX (c.setIfInBounds o v) (o+1) r
theorem DC: ∀(cm:List Value) (c:Array Value) (o:Nat),(oX c o cm).size=c.size
 |[],_,_=>rfl
 |v::r,c,o=>by rw[oX,DC r];simp
theorem Bo: ∀(cm:List Value) (c:Array Value) (o k:Nat),k<o\/o+cm.length<=k->(oX c o cm)[k]? =c[k]?
 |[],_,_,_,_=>rfl
 |v::r,c,o,k,h=>by
  rw[oX,Bo r _ _ _ (by simp at h;omega)];rw[Array.getElem?_setIfInBounds];have: ¬o=k:=by simp at h;omega
  simp[this]
theorem GA: ∀(cm:List Value) (c:Array Value) (o j:Nat) (x:Value),cm[j]? =some x->o+j<c.size->(oX c o cm)[o+j]? =some x
 |[],_,_,_,_,h,_=>by simp at h
 |v::r,c,o,0,x,h,ax=>by
  simp at h;subst h;rw[oX,Bo r _ _ _ Z,Array.getElem?_setIfInBounds];simp;omega
 |v::r,c,o,j+1,x,h,ax=>by
  rw[oX,show o+(j+1)=o+1+j by omega];exact GA r _ _ _ _ (by simpa using h) (by simp;omega)
theorem JB(b:Nat): ∀(cm:List Value) (o:Nat) (w:World) (c:Array Value) (t:TypeId) (h4:Nat×Nat),w.heap[b]? =some (.cells c t h4)->
  (w.setCells b o cm).heap[b]? =some (.cells (oX c o cm) t h4)
 |[],_,_,_,_,_,h=>h
 |v::r,o,w,c,t,h4,h=>by
  rw[World.setCells,oX];refine JB b r (o+1) _ _ t h4 ?_;simp[World.setCell,Array.getElem?_modify,h]
theorem yA(b:Nat): ∀(cm:List Value) (o:Nat) (w:World) (k:Nat),k≠b->(w.setCells b o cm).heap[k]? =w.heap[k]?
 |[],_,_,_,_=>rfl
 |v::r,o,w,k,h=>by
  rw[World.setCells,yA b r _ _ _ h];simp[World.setCell,Array.getElem?_modify,Ne.symm h]
theorem JC(b:Nat): ∀(cm:List Value) (o:Nat) (w:World),(w.setCells b o cm).heap.size=w.heap.size/\(w.setCells b o cm).os=w.os/\(w.setCells b o cm).tape=w.tape/\(w.setCells b o cm).output=w.output
 |[],_,_=>⟨rfl,rfl,rfl,rfl⟩
 |v::r,o,w=>by
  rw[World.setCells];obtain⟨a,b,c,d⟩:=JC b r (o+1) (w.setCell ⟨b,o,none⟩ v);exact⟨a.trans (by simp[World.setCell]),b,c,d⟩
theorem mH.cell{loc:Loc}{ro:Bool}{esz:Nat}{els:List (List I)}(h:mH ρ w loc ro esz els){i:Nat}{e:List I}(he:els[i]? =some e){j:Nat}{v:I}(bw:e[j]? =some v):
  ∃x,w.cell? ⟨loc.block,loc.off+i*loc.esz+j,none⟩=some x/\cT ρ v x/\v.one=true:=by
 obtain⟨rfl,c,t,h4,ay,_,a7⟩:=h;obtain⟨_,af⟩:=a7 i e he;obtain⟨U,x,af,a7⟩:=af j v bw;exact⟨x,by simp[World.cell?,ay,af],a7,U⟩
def am(P:Program)(H:J)(t:TypeId)(a:I):Option I:=
 match a with
 | .ptr l i c=>
  (match H.get l with
  |some (.row _ esz els)=>
   (match els[i]?,hR P t with
   |some e,some false=>e[c]?
   |some e,some true=>(match fq P t with|some n=>if c+n<=esz then some (.agg ((e.drop c).take n)) else none|none=>none)
   |_,_=>none)
  |_=>none)
 |_=>none
theorem addr_add(b o j:Nat):(⟨b,o,none⟩:Addr).add j=⟨b,o+j,none⟩:=by
 unfold Addr.add;split<;>simp_all
theorem Pn(ce:Rel ρ H w){t:TypeId}{a v:I}{x:Value}(h:am P H t a=some v)(af:cT ρ a x):
  ∃r,(Instr.loadAt t x).run P w= .ok r w/\cT ρ v r:=by
 unfold am at h;split at h
 ·rename_i l i c;cases af with|ptr _ _ _ loc ax=>
  split at h
  ·rename_i ro esz els aX;obtain⟨dB,dF,mL⟩:=ce.row _ _ _ _ aX;obtain rfl:loc=dB:=Option.some.inj (ax.symm.trans dF);split at h
   ·rename_i e he b1;obtain⟨x,aS,bw,_⟩:=mL.cell he h;refine⟨x,?_,bw⟩;simp[Instr.loadAt,Instr.sureAddr,loadVar,GD b1,run_load,aS]
   ·rename_i e he b1;split at h
    ·rename_i n aV;split at h
     ·rename_i hle;simp only[bD] at h;subst h;have hlen:e.length=esz:=by obtain⟨_,c',wE,h4,_,_,a7⟩:=mL;exact(a7 i e he).1
      have hex: ∃xs:List Value,xs.length=n/\dG ρ ((e.drop c).take n) xs/\ ∀j y,xs[j]? =some y->w.cell? ⟨loc.block,loc.off+i*loc.esz+c+j,none⟩=some y:=by
       clear b1 aV
       induction n with
       |zero=>exact⟨[],rfl,by simpa using dG.nil,λj y cR=>by simp at cR⟩
       |succ n aT=>
        obtain⟨xs,U,aa,ae⟩:=aT Z;have kP:c+n<e.length:=Z;obtain⟨x,aS,bw,_⟩:=mL.cell he (j:=c+n) (v:=e[c+n]) (by simp[kP]);refine⟨xs++[x],by simp[U],?_,?_⟩
        ·rw[List.take_succ_eq_append_getElem (by simp;omega)];refine aa.append (.cons _ _ _ _ ?_ .nil);simpa using bw
        ·intro j y cR;by_cases bP:j<xs.length
         ·rw[List.getElem?_append_left bP] at cR;exact ae j y cR
         ·rw[List.getElem?_append_right Z] at cR;have:j=n:=by
           by_cases a6:j-xs.length=0
           ·omega
           ·obtain⟨m,hm⟩: ∃m,j-xs.length=m+1:=⟨j-xs.length-1,Z⟩;rw[hm] at cR;simp at cR
          subst this;simp[U] at cR;subst cR;rw[<-aS,Nat.add_assoc]
      obtain⟨xs,U,aa,ae⟩:=hex;refine⟨.agg xs.toArray,?_,.agg _ _ aa⟩;have:=run_loadCells_list (P:=P) w ⟨loc.block,loc.off+i*loc.esz+c,none⟩ xs (λj y cR=>by rw[addr_add];exact ae j y cR);rw[U] at this;simp[Instr.loadAt,Instr.sureAddr,loadVar,GD b1,run_sizeOf aV,this]
     ·cases h
    ·cases h
   ·cases h
  ·cases h
 ·cases h
def eu(e:List I)(c:Nat)(cs:List I):List I:=e.take c++cs++e.drop (c+cs.length)
theorem O6{e:List I}{c:Nat}{cs:List I}(h:c+cs.length<=e.length):(eu e c cs).length=e.length:=by
 simp[eu];omega
theorem Rq{e:List I}{c:Nat}{cs:List I}(h:c+cs.length<=e.length){j:Nat}(U:c<=j)(aa:j<c+cs.length):(eu e c cs)[j]? =cs[j-c]? :=by
 unfold eu;rw[List.append_assoc,List.getElem?_append_right (by simp;omega),List.getElem?_append_left (by simp;omega)]
 congr 1;simp;omega
theorem Qy{e:List I}{c:Nat}{cs:List I}(h:c+cs.length<=e.length){j:Nat}(U:j<c\/c+cs.length<=j):(eu e c cs)[j]? =e[j]? :=by
 unfold eu;rcases U with U|U
 ·rw[List.append_assoc,List.getElem?_append_left (by simp;omega),List.getElem?_take_of_lt U]
 ·rw[List.getElem?_append_right (by simp;omega),List.getElem?_drop]
  congr 1;simp;omega
theorem DR{a b n:Nat}(h:a<b):a*n+n<=b*n:=by
 have:=Nat.mul_le_mul_right n (Nat.succ_le_of_lt h);rw[Nat.succ_mul] at this;exact this
theorem abP(ce:Rel ρ H w){l esz:Nat}{els:List (List I)}(aX:H.get l=some (.row false esz els)){loc:Loc}(ax:ρ l=some loc){i:Nat}{e:List I}(he:els[i]? =some e)
  {c:Nat} {cs:List I} {xs:List Value} (aS:c+cs.length<=esz) (U: ∀v∈cs,v.one=true) (bw:dG ρ cs xs):
  Step ρ H w ρ (H.set l (.row false esz (els.set i (eu e c cs)))) (w.setCells loc.block (loc.off+i*loc.esz+c) xs):=by
 have eo:=J.aW aX;obtain⟨dB,dF,sU,arr,t,h4,ay,uE,mL⟩:=ce.row _ _ _ _ aX;obtain rfl:loc=dB:=Option.some.inj (ax.symm.trans dF);have alb:=(mL i e he).1;have x8:i<els.length:=by
  rcases Nat.lt_or_ge i els.length with h|h
  ·exact h
  ·rw[List.getElem?_eq_none h] at he;cases he
 have Ze:=bw.length;have BW: ∀l' dB,H.live l'->l'≠l->ρ l'=some dB->dB.block≠loc.block:=λl' dB h bZ dF heq=>
  ce.apart l l' loc dB (.inl ⟨_,_,aX⟩) h (Ne.symm bZ) ax dF heq.symm
 have j5: ∀l',(H.set l (.row false esz (els.set i (eu e c cs)))).rw l'->H.rw l':=by
  intro l' h;by_cases iP:l=l'
  ·subst iP;exact .inl ⟨_,_,aX⟩
  ·simpa [J.rw,J.get_set_other iP] using h
 have zD: ∀l',(H.set l (.row false esz (els.set i (eu e c cs)))).live l'->H.live l':=by
  intro l' h;by_cases iP:l=l'
  ·subst iP;exact .inl ⟨_,_,_,aX⟩
  ·simpa [J.live,J.get_set_other iP] using h
 obtain⟨s1,s2,jH,qA⟩:=JC loc.block xs (loc.off+i*loc.esz+c) w;refine⟨ρ.le_refl,bL _,λ_ _=>rfl,⟨?_,?_,?_⟩,s2,jH,qA,Nat.le_of_eq s1.symm,?_,?_,J.VO rfl⟩
 ·intro l' AE qZ me h;by_cases iP:l=l'
  ·subst iP;rw[J.get_set_same eo] at h;simp only[bD,dZ.row.injEq] at h;obtain⟨rfl,rfl,rfl⟩:=h;refine⟨loc,ax,sU,_,t,h4,JB _ _ _ _ _ _ _ ay,?_,?_⟩
   ·intro _;rw[DC];exact uE rfl
   ·intro qy cC lU;rw[List.getElem?_set] at lU;by_cases Np:i=qy
    ·subst Np;rw[if_pos rfl,if_pos x8] at lU;simp only[bD] at lU;subst lU;have Mx:c+cs.length<=e.length:=Z;refine⟨by rw[O6 Mx];exact alb,?_⟩;intro j v bP;by_cases kP:c<=j/\j<c+cs.length
     ·rw[Rq Mx kP.1 kP.2] at bP;obtain⟨x,af,jr⟩:=bw.get _ _ bP;refine⟨U v (List.mem_of_getElem? bP),x,?_,jr⟩;have LO:=(mL i e he).2 j (e[j]'Z) (by simp);obtain⟨_,Y,bt,_⟩:=LO;have fI:loc.off+i*esz+j<arr.size:=by
       rcases Nat.lt_or_ge (loc.off+i*esz+j) arr.size with h|h
       ·exact h
       ·rw[Array.getElem?_eq_none h] at bt;cases bt
      have:=GA xs arr (loc.off+i*loc.esz+c) (j-c) x af (by rw[sU];omega);rw[show loc.off+i*esz+j=loc.off+i*loc.esz+c+(j-c) by rw[sU];omega];exact this
     ·rw[Qy Mx Z] at bP;obtain⟨bd,x,af,jr⟩:=(mL i e he).2 j v bP;refine⟨bd,x,?_,jr⟩;rw[Bo _ _ _ _ (by rw[sU,<-Ze];omega)];exact af
    ·rw[if_neg Np] at lU;obtain⟨a0,bd⟩:=mL qy cC lU;refine⟨a0,λj v bP=> ?_⟩;obtain⟨c_,x,af,jr⟩:=bd j v bP;refine⟨c_,x,?_,jr⟩;have arC:j<esz:=by
      rcases Nat.lt_or_ge j cC.length with h|h
      ·omega
      ·rw[List.getElem?_eq_none h] at bP;cases bP
     rw[Bo _ _ _ _ ?_]
     ·exact af
     ·rw[sU,<-Ze];rcases Nat.lt_or_gt_of_ne Np with h|h
      ·have:=DR (n:=esz) h;omega
      ·have:=DR (n:=esz) h;omega
  ·rw[J.get_set_other iP] at h;obtain⟨dB,dF,LW⟩:=ce.row _ _ _ _ h;refine⟨dB,dF,?_⟩;have dK:=BW l' dB (.inl ⟨_,_,_,h⟩) (Ne.symm iP) dF;obtain⟨aU,c',wE,E7,aJ,bz,bK⟩:=LW;exact⟨aU,c',wE,E7,by rw[yA _ _ _ _ _ dK];exact aJ,bz,bK⟩
 ·intro l' es h;by_cases iP:l=l'
  ·subst iP;rw[J.get_set_same eo] at h;cases h
  ·rw[J.get_set_other iP] at h;obtain⟨dB,dF,LW⟩:=ce.map _ _ h;have dK:=BW l' dB (.inr ⟨_,h⟩) (Ne.symm iP) dF;obtain⟨ents,clock,aJ,bz⟩:=LW;exact⟨dB,dF,ents,clock,by rw[yA _ _ _ _ _ dK];exact aJ,bz⟩
 ·intro eI fB nA o5 U aa dK Fh lV;exact ce.apart eI fB nA o5 (j5 _ U) (zD _ aa) dK Fh lV
 ·intro b ay ja;refine yA _ _ _ _ _ ?_;rintro rfl;exact ja ⟨l,loc,.inl ⟨_,_,aX⟩,ax,rfl⟩
 ·rintro b ⟨l',dB,U,aa,ae⟩;exact .inl ⟨l',dB,j5 _ U,aa,ae⟩
def aQ(P:Program)(H:J)(t:TypeId)(a v:I):Option J:=
 match a with
 | .ptr l i c=>
  (match H.get l with
  |some (.row false esz els)=>
   (match els[i]? with
   |some e=>if fq P t=some v.cells.length/\c+v.cells.length<=esz/\v.cells.all I.one=true then some (H.set l (.row false esz (els.set i (eu e c v.cells)))) else none
   |none=>none)
  |_=>none)
 |_=>none
theorem aaK(ce:Rel ρ H w){t:TypeId}{a v:I}{x y:Value}{H':J}(h:aQ P H t a v=some H')(af:cT ρ a x)(cR:cT ρ v y):
  ∃b5,(Instr.storeAt t x y).run P w= .ok () b5/\Step ρ H w ρ H' b5:=by
 unfold aQ at h;split at h
 ·rename_i l i c;cases af with|ptr _ _ _ loc ax=>
  split at h
  ·rename_i esz els aX;split at h
   ·rename_i e he;split at h
    ·rename_i l9;obtain⟨aO,aS,dL⟩:=l9;simp only[bD] at h;subst h;have lF: ∀u∈v.cells,u.one=true:=by simpa using dL
     have D_:=cR.cells;refine⟨_,?_,abP ce aX ax he aS lF D_⟩;obtain⟨dB,dF,mL⟩:=ce.row _ _ _ _ aX;obtain rfl:loc=dB:=Option.some.inj (ax.symm.trans dF);have hlen:=D_.length;have aqJ:=mL;obtain⟨sU,arr,wE,h4,ay,uE,a7⟩:=mL;have kN:=(a7 i e he).1;have Vr: ∀j,j<y.cells.toList.length-> ∃u,arr[loc.off+i*loc.esz+c+j]? =some u:=by
      intro j bP;obtain⟨_,u,hu,_⟩:=(a7 i e he).2 (c+j) (e[c+j]'Z) (by simp);exact⟨u,by rw[sU,Nat.add_assoc];exact hu⟩
     have oD:=run_storeCells_cells (P:=P) loc.block (loc.off+i*loc.esz+c) y.cells.toList 0 w
      (λj bP=>by obtain⟨u,hu⟩:=Vr j bP;simp[World.cell?,ay,hu])
      (λj bP=>by
       obtain⟨u,hu⟩:=Vr j bP;have eo:loc.off+i*loc.esz+c+j<arr.size:=by
        rcases Nat.lt_or_ge (loc.off+i*loc.esz+c+j) arr.size with h|h
        ·exact h
        ·rw[Array.getElem?_eq_none h] at hu;cases hu
       have:=(uE rfl).2 _ eo;simp only[World.frozen?,ay,Nat.add_zero];simpa using this)
      (λu hu=>by
       obtain⟨j,bP⟩:=List.getElem?_of_mem hu;have CX:j<v.cells.length:=by
        rcases Nat.lt_or_ge j y.cells.toList.length with h|h
        ·omega
        ·rw[List.getElem?_eq_none h] at bP;cases bP
       obtain⟨Z7,apG,apI⟩:=D_.get j _ (List.getElem?_eq_getElem CX);obtain rfl:u=Z7:=Option.some.inj (bP.symm.trans apG);exact apI.TL (lF _ (List.getElem_mem CX)))
     have fI:y.cells.size=v.cells.length:=by rw[hlen];simp
     simp only[Instr.storeAt,Instr.sureAddr,Sem.run_bind,Sem.run_pure,Result.andThen_ok,storeVar,run_sizeOf aO,fI,ne_eq,not_true_eq_false,if_false];simpa using oD
    ·cases h
   ·cases h
  ·cases h
 ·cases h
end
end
section
def Env.iF(ρ:Env)(l:Nat)(loc:Loc):Env:=λk=>if k=l then some loc else ρ k
theorem Env.np(ρ:Env)(l:Nat)(loc:Loc):ρ.iF l loc l=some loc:=by simp[Env.iF]
theorem Env.l3{ρ:Env}{l k:Nat}{loc:Loc}(h:k≠l):ρ.iF l loc k=ρ k:=by simp[Env.iF,h]
theorem Env.BY{ρ:Env}{l:Nat}(h:ρ l=none)(loc:Loc):ρ.le (ρ.iF l loc):=by
 intro k x ah;by_cases e:k=l
 ·subst e;rw[h] at ah;cases ah
 ·rw[Env.l3 e];exact ah
section
variable {P:Program}{ρ:Env}{H:J}{w:World}
theorem heap_alloc_old(w:World)(o:Obj){k:Nat}(h:k<w.heap.size):(w.alloc o).heap[k]? =w.heap[k]? :=by
 show(w.heap.push o)[k]? =_;rw[Array.getElem?_push,if_neg Z]
theorem heap_alloc_new(w:World)(o:Obj):(w.alloc o).heap[w.heap.size]? =some o:=by
 show(w.heap.push o)[w.heap.size]? =_;simp
theorem aak(w:World)(o:Obj):(w.alloc o).heap.size=w.heap.size+1:=by
 show(w.heap.push o).size=_;simp
theorem sr{w:World}{k:Nat}{o:Obj}(h:w.heap[k]? =some o):k<w.heap.size:=by
 rcases Nat.lt_or_ge k w.heap.size with bZ|bZ
 ·exact bZ
 ·rw[Array.getElem?_eq_none bZ] at h;cases h
theorem JS{esz:Nat}: ∀{els:List (List I)},(∀e∈els,e.length=esz)-> ∀{i:Nat} {e:List I},els[i]? =some e-> ∀{j:Nat} {v:I},e[j]? =some v->els.flatten[i*esz+j]? =some v
 |[],_,_,_,h,_,_,_=>by simp at h
 |d::els,ax,0,e,h,j,v,bw=>by
  simp at h;subst h;have bP:j<d.length:=by
   rcases Nat.lt_or_ge j d.length with h|h
   ·exact h
   ·rw[List.getElem?_eq_none h] at bw;cases bw
  simp only[List.flatten_cons,Nat.zero_mul,Nat.zero_add];rw[List.getElem?_append_left bP];exact bw
 |d::els,ax,i+1,e,h,j,v,bw=>by
  have bb:d.length=esz:=ax d (by simp);have:=JS (els:=els) (λe he=>ax e (List.mem_cons_of_mem _ he)) (i:=i) (by simpa using h) bw;simp only[List.flatten_cons];rw[List.getElem?_append_right (by rw[Nat.succ_mul];omega)];rw[<-this];congr 1;rw[Nat.succ_mul];omega
theorem TY{H:J}{b:dZ}{l:Nat}(h:(H.push b).rw l):l=H.next\/H.rw l:=by
 by_cases e:l=H.next
 ·exact .inl e
 ·exact .inr (by simpa [J.rw,J.gy e] using h)
theorem Q8{H:J}{b:dZ}{l:Nat}(h:(H.push b).live l):l=H.next\/H.live l:=by
 by_cases e:l=H.next
 ·exact .inl e
 ·exact .inr (by simpa [J.live,J.gy e] using h)
theorem Rel.afx(ce:Rel ρ H w){l:Nat}(h:H.live l){loc:Loc}(ax:ρ l=some loc):loc.block<w.heap.size:=by
 rcases h with⟨ro,esz,els,h⟩|⟨es,h⟩
 ·obtain⟨dB,dF,_,c,t,h4,ay,_⟩:=ce.row _ _ _ _ h;obtain rfl:loc=dB:=Option.some.inj (ax.symm.trans dF);exact sr ay
 ·obtain⟨dB,dF,ents,clock,ay,_⟩:=ce.map _ _ h;obtain rfl:loc=dB:=Option.some.inj (ax.symm.trans dF);exact sr ay
theorem Kf(ce:Rel ρ H w)(ak:ρ H.next=none)(b:dZ)(apy:b.HO=false)(o:Obj)(loc:Loc)(zS:loc.block=w.heap.size)
  (mL: ∀ro esz els,b= .row ro esz els->mH (ρ.iF H.next loc) (w.alloc o) loc ro esz els) (anQ: ∀es,b= .map es->LH (ρ.iF H.next loc) (w.alloc o) loc es):
  Step ρ H w (ρ.iF H.next loc) (H.push b) (w.alloc o):=by
 have hle:=Env.BY ak loc;have HH: ∀l dB,H.live l->ρ.iF H.next loc l=some dB->dB.block<w.heap.size:=λl dB h bZ=>by
  have dK:l≠H.next:=by
   rintro rfl;rcases h with⟨_,_,_,h⟩|⟨_,h⟩<;> ·have:=J.aW h;omega
  rw[Env.l3 dK] at bZ;exact ce.afx h bZ
 refine⟨hle,by simp,λl ax=>Env.l3 (by simp at ax;omega),⟨?_,?_,?_⟩,rfl,rfl,rfl,by rw[aak];omega,λk ah _=>heap_alloc_old w o ah,?_,J.TV apy⟩
 ·intro l ro esz els h;by_cases e:l=H.next
  ·subst e;rw[J.ca] at h;exact⟨loc,Env.np _ _ _,mL _ _ _ (Option.some.inj h)⟩
  ·rw[J.gy e] at h;obtain⟨dB,dF,sU,c,t,h4,ay,uE,a7⟩:=ce.row _ _ _ _ h;refine⟨dB,by rw[Env.l3 e];exact dF,sU,c,t,h4,by rw[heap_alloc_old w o (sr ay)];exact ay,uE,?_⟩;intro i d bb;obtain⟨U,aa⟩:=a7 i d bb;refine⟨U,λj v bw=> ?_⟩;obtain⟨ae,x,af,jr⟩:=aa j v bw;exact⟨ae,x,af,jr.mono hle⟩
 ·intro l es h;by_cases e:l=H.next
  ·subst e;rw[J.ca] at h;exact⟨loc,Env.np _ _ _,anQ _ (Option.some.inj h)⟩
  ·rw[J.gy e] at h;obtain⟨dB,dF,ents,clock,ay,U,aa⟩:=ce.map _ _ h;exact⟨dB,by rw[Env.l3 e];exact dF,ents,clock,by rw[heap_alloc_old w o (sr ay)];exact ay,U.mono hle,aa.mono hle⟩
 ·intro l l' nA o5 U aa dK aI bc;rcases TY U with rfl|U
  ·rcases Q8 aa with rfl|aa
   ·exact absurd rfl dK
   ·rw[Env.np] at aI;obtain rfl:=Option.some.inj aI;have:=HH _ _ aa bc;omega
  ·rcases Q8 aa with rfl|aa
   ·rw[Env.np] at bc;obtain rfl:=Option.some.inj bc;have:=HH _ _ U.live aI;omega
   ·have fw:l≠H.next:=by
     rintro rfl;rcases U with⟨_,_,h⟩|⟨_,h⟩<;> ·have:=J.aW h;omega
    have n2:l'≠H.next:=by
     rintro rfl;rcases aa with⟨_,_,_,h⟩|⟨_,h⟩<;> ·have:=J.aW h;omega
    rw[Env.l3 fw] at aI;rw[Env.l3 n2] at bc;exact ce.apart l l' nA o5 U aa dK aI bc
 ·rintro k ⟨l,dB,U,aa,ae⟩;rcases TY U with rfl|U
  ·rw[Env.np] at aa;obtain rfl:=Option.some.inj aa;exact .inr Z
  ·have fw:l≠H.next:=by
    rintro rfl;rcases U with⟨_,_,h⟩|⟨_,h⟩<;> ·have:=J.aW h;omega
   rw[Env.l3 fw] at aa;exact .inl ⟨l,dB,U,aa,ae⟩
theorem Gc(ce:Rel ρ H w)(ak:ρ H.next=none){esz:Nat}{els:List (List I)}(hlen: ∀e∈els,e.length=esz)(dL: ∀e∈els,∀v∈e,v.one=true)
  {xs tail:List Value} (bw:dG ρ els.flatten xs) (t:TypeId):
  Step ρ H w (ρ.iF H.next ⟨w.heap.size,0,esz,xs.length+tail.length⟩) (H.push (.row false esz els)) (w.alloc (.cells (xs++tail).toArray t)):=by
 refine Kf ce ak _ rfl _ _ rfl ?_ (λes h=>by cases h);intro ro qZ me h;simp only[dZ.row.injEq] at h;obtain⟨rfl,rfl,rfl⟩:=h;refine⟨rfl,_,t,(0,0),heap_alloc_new _ _,λ_=>⟨by simp,λo _=>by simp⟩,?_⟩;intro i e he;refine⟨hlen e (List.mem_of_getElem? he),λj v bP=> ?_⟩;refine⟨dL e (List.mem_of_getElem? he) v (List.mem_of_getElem? bP),?_⟩;obtain⟨x,af,jr⟩:=bw.get _ _ (JS hlen he bP);refine⟨x,?_,jr.mono (Env.BY ak _)⟩;have eo:i*esz+j<xs.length:=by
  rcases Nat.lt_or_ge (i*esz+j) xs.length with h|h
  ·exact h
  ·rw[List.getElem?_eq_none h] at af;cases af
 simp only[Nat.zero_add,List.getElem?_toArray];rw[List.getElem?_append_left eo];exact af
def G5:Value->Option I
 | .bool b=>some (.bool b)
 | .int k n=>some (.int k n)
 | .string s=>some (.str s.data.toList)
 | .pointer none=>some .nilPtr
 | .slice none 0 0=>some .an
 | .map none=>some .oW
 | .nilFunc=>some .nilFunc
 | .nilIface=>some .nilIface
 |_=>none
def DX:List Value->Option (List I)
 |[]=>some []
 |v::r=>match G5 v,DX r with
  |some a,some l=>some (a::l)
  |_,_=>none
def Eo:Value->Option I
 | .agg cs=>(DX cs.toList).map .agg
 |v=>G5 v
theorem Pg{v:Value}{a:I}(h:G5 v=some a)(ρ:Env):cT ρ a v/\a.one=true:=by
 unfold G5 at h;split at h<;>first
  |(simp only[bD] at h;subst h;exact⟨by constructor,rfl⟩)
  |cases h
theorem O4: ∀{cm:List Value} {as:List I},DX cm=some as-> ∀ρ:Env,dG ρ as cm/\ ∀a∈as,a.one=true
 |[],as,h,ρ=>by simp[DX] at h;subst h;exact⟨.nil,by simp⟩
 |v::r,as,h,ρ=>by
  unfold DX at h;split at h
  ·rename_i a l b1 ax;simp only[bD] at h;subst h;obtain⟨U,aa⟩:=Pg b1 ρ;obtain⟨ae,al⟩:=O4 ax ρ;exact⟨.cons _ _ _ _ U ae,by simpa using⟨aa,al⟩⟩
  ·cases h
theorem JU{v:Value}{a:I}(h:Eo v=some a)(ρ:Env):cT ρ a v:=by
 unfold Eo at h;split at h
 ·simp only[Option.map_eq_some_iff] at h;obtain⟨l,ax,rfl⟩:=h;have:=cT.agg _ _ (O4 ax ρ).1;simpa using this
 ·exact(Pg h ρ).1
def jZ(P:Program)(t:TypeId):Option I:=(P.info? t).bind λi=>i.zero.bind Eo
theorem Bg{t:TypeId}{z:I}(h:jZ P t=some z)(w:World): ∃x,(zeroValue t).run P w= .ok x w/\ ∀ρ:Env,cT ρ z x:=by
 unfold jZ at h;simp only[eT] at h;obtain⟨i,be,x,af,ct⟩:=h;exact⟨x,by simp[zeroValue,typeInfo,be,af],λρ=>JU ct ρ⟩
def Cq(H:J)(v:I):Option (I×J):=
 if v.cells.all I.one=true then some (.ptr H.next 0 0,H.push (.row false v.cells.length [v.cells])) else none
theorem PZ(ce:Rel ρ H w)(ak:ρ H.next=none){v a:I}{x:Value}{H':J}(h:Cq H v=some (a,H'))(af:cT ρ v x)(t:TypeId):
  ∃r b5 cX,(Instr.box t x).run P w= .ok r b5/\cT cX a r/\Step ρ H w cX H' b5:=by
 unfold Cq at h;split at h
 ·rename_i dL;simp only[bD,dz] at h;obtain⟨rfl,rfl⟩:=h;have aS:=af.cells;have aO:=Gc ce ak (esz:=v.cells.length) (els:=[v.cells]) (by simp) (by simpa using dL) (xs:=x.cells.toList) (tail:=[]) (by simpa using aS) t;refine⟨.pointer (some ⟨w.heap.size,0,none⟩),_,_,?_,?_,aO⟩
  ·simp[Instr.box,newVar,newRow]
  ·simpa using cT.ptr (ρ:=ρ.iF H.next _) H.next 0 0 _ (Env.np _ _ _)
 ·cases h
def G2(P:Program)(H:J)(t:TypeId):Option (I×J):=(jZ P t).bind (Cq H)
theorem aaF(ce:Rel ρ H w)(ak:ρ H.next=none){t:TypeId}{a:I}{H':J}(h:G2 P H t=some (a,H')):
  ∃r b5 cX,(Instr.alloc t true (.tuple #[])).run P w= .ok r b5/\cT cX a r/\Step ρ H w cX H' b5:=by
 unfold G2 at h;simp only[eT] at h;obtain⟨z,ct,h⟩:=h;obtain⟨x,af,bw⟩:=Bg ct w;obtain⟨r,b5,cX,U,aa,ae⟩:=PZ (P:=P) ce ak h (bw ρ) t;refine⟨r,b5,cX,?_,aa,ae⟩;simp only[Instr.alloc,Sem.run_bind,af,Result.andThen_ok];simpa [Instr.box] using U
end
end
section
section
variable {P:Program}{ρ:Env}{H:J}{w:World}
def Cc(place:Nat->Option (Nat×Nat))(cells:List I):List (Nat×I)->Option (List I)
 |[]=>some cells
 |(i,v)::rest=>
  match place i with
  |none=>none
  |some (off,size)=>if v.cells.length=size/\off+v.cells.length<=cells.length then Cc place (eu cells off v.cells) rest else none
theorem JG: ∀(cm:List Value) (k off:Nat) (c:Array Value),(cm.zipIdx k).foldl (λcs (x:Value×Nat)=>cs.setIfInBounds (off+x.2) x.1) c=oX c (off+k) cm
 |[],_,_,_=>rfl
 |v::r,k,off,c=>by
  simp only[List.zipIdx_cons,List.foldl_cons,oX];rw[JG r (k+1) off];rfl
theorem Qz{e:List I}{xs:List Value}{c:Nat}{cs:List I}{dQ:List Value}(he:dG ρ e xs)(aS:dG ρ cs dQ)(h:c+cs.length<=e.length):
  dG ρ (eu e c cs) (oX xs.toArray c dQ).toList:=by
 have eI:=he.length;have fB:=aS.length;refine dG.VH (by rw[O6 h];simp[DC,eI]) ?_;intro j v x bw af;by_cases kP:c<=j/\j<c+cs.length
 ·rw[Rq h kP.1 kP.2] at bw;obtain⟨el,Ay,a7⟩:=aS.get _ _ bw;have:=GA dQ xs.toArray c (j-c) el Ay (by simp;omega);rw[show c+(j-c)=j by omega] at this;simp only[Array.getElem?_toList] at af;obtain rfl:x=el:=Option.some.inj (af.symm.trans this);exact a7
 ·rw[Qy h Z] at bw;obtain⟨el,Ay,a7⟩:=he.get _ _ bw;have:=Bo dQ xs.toArray c j Z;simp only[Array.getElem?_toList] at af;rw[this] at af;simp only[List.getElem?_toArray] at af;obtain rfl:x=el:=Option.some.inj (af.symm.trans Ay);exact a7
def Co(ρ:Env):List (Nat×I)->List (Nat×Value)->Prop
 |[],[]=>True
 |(i,v)::r,(j,x)::s=>i=j/\cT ρ v x/\Co ρ r s
 |_,_=>False
theorem JN(place:Nat->Option (Nat×Nat)): ∀(parts:List (Nat×I)) (pR:List (Nat×Value)) (cells D6:List I) (xs:List Value),Co ρ parts pR->dG ρ cells xs->
  Cc place cells parts=some D6-> ∃dQ:List Value,Instr.fill place xs.toArray pR=some dQ.toArray/\dG ρ D6 dQ
 |[],[],cells,D6,xs,_,aS,h=>by
  simp[Cc] at h;subst h;exact⟨xs,rfl,aS⟩
 |[],_::_,_,_,_,bA,_,_=>bA.elim
 |_::_,[],_,_,_,bA,_,_=>bA.elim
 |(i,v)::r,(j,x)::s,cells,D6,xs,bA,aS,h=>by
  obtain⟨rfl,bw,bA⟩:=bA;unfold Cc at h;unfold Instr.fill;cases C1:place i with
  |none=>rw[C1] at h;cases h
  |some os=>
   obtain⟨off,size⟩:=os;rw[C1] at h;simp only at h;split at h
   ·rename_i l9;have Fv:=bw.cells;have eI:=Fv.length;have fB:=aS.length;have fI:x.cells.size=v.cells.length:=by rw[eI];simp
    have aO:=Qz aS Fv (c:=off) l9.2;obtain⟨dQ,U,aa⟩:=JN place r s _ D6 _ bA aO h;refine⟨dQ,?_,aa⟩;simp only
    rw[if_neg (by simp[fI,l9.1];have:=l9.2;omega)];have:=JG x.cells.toList 0 off xs.toArray;rw[Nat.add_zero] at this;rw[<-Array.foldl_toList,Array.toList_zipIdx,this];simpa using U
   ·cases h
def DT(P:Program):List Field->Option (List (Nat×Nat))
 |[]=>some []
 |f::eA=>match fq P f.type,DT P eA with
  |some n,some l=>some ((f.offset,n)::l)
  |_,_=>none
theorem OU(w:World): ∀(eA:List Field) (l:List (Nat×Nat)),DT P eA=some l->(eA.mapM (λf=>(do pure (f.offset,<-sizeOf f.type):Sem (Nat×Nat)))).run P w= .ok l w
 |[],l,h=>by simp[DT] at h;subst h;simp[Sem.run_pure]
 |f::eA,l,h=>by
  unfold DT at h;split at h
  ·rename_i n l' aV ax;simp only[bD] at h;subst h;have aT:=OU w eA l' ax;rw[List.mapM_cons];simp only[Sem.run_bind,run_sizeOf aV,Result.andThen_ok,Sem.run_pure,aT]
  ·cases h
def cM(P:Program)(t:TypeId)(parts:List (Nat×I)):Option I:=
 match jZ P t,P.underlying t with
 |some z,some (.struct eA)=>(match DT P eA.toList with|some pl=>(Cc (pl[·]?) z.cells parts).map .agg|none=>none)
 |some z,some (.array _ e)=>(match fq P e with|some n=>(Cc (λi=>some (i*n,n)) z.cells parts).map .agg|none=>none)
 |_,_=>none
theorem aaG{t:TypeId}{parts:List (Nat×I)}{pR:List (Nat×Value)}{v:I}(h:cM P t parts=some v)(bA:Co ρ parts pR)(w:World):
  ∃x,(Instr.build t pR.toArray).run P w= .ok x w/\cT ρ v x:=by
 unfold cM at h;split at h
 ·rename_i z eA ct hu;obtain⟨iT,sf,uI⟩:=Bg ct w;split at h
  ·rename_i pl C1;simp only[Option.map_eq_some_iff] at h;obtain⟨cs,iZ,rfl⟩:=h;obtain⟨dQ,U,aa⟩:=JN _ parts pR z.cells cs iT.cells.toList bA (uI ρ).cells iZ;refine⟨.agg dQ.toArray,?_,.agg _ _ aa⟩;have hm:=OU (P:=P) w eA.toList pl C1;have apj:(eA.mapM (λf=>(do pure (f.offset,<-sizeOf f.type):Sem (Nat×Nat)))).run P w= .ok pl.toArray w:=by
    rw[Array.mapM_eq_mapM_toList];simp only[Sem.run_map,hm,Result.andThen_ok]
   simp only[Instr.build,Sem.run_bind,sf,Result.andThen_ok,run_underlying hu,apj];have e:(λx:Nat=>(pl.toArray)[x]?)=(λx=>pl[x]?):=by funext x;simp
   simp only[e];have bc:iT.cells.toList.toArray=iT.cells:=by simp
   rw[bc] at U;simp[U]
  ·cases h
 ·rename_i z n e ct hu;obtain⟨iT,sf,uI⟩:=Bg ct w;split at h
  ·rename_i fZ fI;simp only[Option.map_eq_some_iff] at h;obtain⟨cs,iZ,rfl⟩:=h;obtain⟨dQ,U,aa⟩:=JN _ parts pR z.cells cs iT.cells.toList bA (uI ρ).cells iZ;refine⟨.agg dQ.toArray,?_,.agg _ _ aa⟩;have bc:iT.cells.toList.toArray=iT.cells:=by simp
   rw[bc] at U;simp[Instr.build,sf,run_underlying hu,run_sizeOf fI,U]
  ·cases h
 ·cases h
def qG(esz:Nat):List (List I)->List (Nat×I)->Option (List (List I))
 |els,[]=>some els
 |els,(i,v)::rest=>if v.cells.length=esz/\i<els.length/\v.cells.all I.one=true then qG esz (els.set i v.cells) rest else none
def Dx(P:Program)(H:J)(t:TypeId)(len:Nat)(parts:List (Nat×I)):Option (I×J):=
 match P.underlying t with
 |some (.slice e)=>
  (match fq P e,jZ P e with
  |some fZ,some z=>
   if len*fZ<=16777216/\z.cells.length=fZ/\z.cells.all I.one=true then
    (match qG fZ (List.replicate len z.cells) parts with
    |some els=>some (.aM H.next 0 len fZ (some len),H.push (.row false fZ els))
    |none=>none)
   else none
  |_,_=>none)
 |_=>none
theorem wG{esz:Nat}: ∀{els:List (List I)},(∀e∈els,e.length=esz)->els.flatten.length=els.length*esz
 |[],_=>by simp
 |d::els,h=>by
  have:=wG (els:=els) (λe he=>h e (List.mem_cons_of_mem _ he));simp only[List.flatten_cons,List.length_append,this,h d (by simp),List.length_cons,Nat.succ_mul];omega
theorem Pz{esz:Nat}: ∀{els:List (List I)} (i:Nat) (c:List I),(∀e∈els,e.length=esz)->c.length=esz->i<els.length->(els.set i c).flatten=eu els.flatten (i*esz) c
 |[],_,_,_,_,h=>by simp at h
 |d::els,0,c,ax,aS,_=>by
  have bb:=ax d (by simp);simp[eu,aS,<-bb]
 |d::els,i+1,c,ax,aS,h=>by
  have bb:=ax d (by simp);have aT:=Pz (els:=els) i c (λe he=>ax e (List.mem_cons_of_mem _ he)) aS (by simpa using h);simp only[List.set_cons_succ,List.flatten_cons,aT];unfold eu;rw[Nat.succ_mul];have aI:List.take (i*esz+esz) (d++els.flatten)=d++els.flatten.take (i*esz):=by
   rw[List.take_append,List.take_of_length_le Z];congr 2;omega
  have bc:List.drop (i*esz+esz+c.length) (d++els.flatten)=els.flatten.drop (i*esz+c.length):=by
   rw[List.drop_append,List.drop_eq_nil_of_le Z,List.nil_append];congr 1;omega
  rw[aI,bc];simp
theorem OV(esz:Nat): ∀(parts:List (Nat×I)) (pR:List (Nat×Value)) (els me:List (List I)) (xs:List Value),Co ρ parts pR->(∀e∈els,e.length=esz)->(∀e∈els,∀v∈e,v.one=true)->
  dG ρ els.flatten xs->qG esz els parts=some me->
   (∃dQ:List Value,Instr.fill (λi=>some (i*esz,esz)) xs.toArray pR=some dQ.toArray/\dG ρ me.flatten dQ)/\(∀e∈me,e.length=esz)/\(∀e∈me,∀v∈e,v.one=true)/\me.length=els.length
 |[],[],els,me,xs,_,U,aa,bw,h=>by
  simp[qG] at h;subst h;exact⟨⟨xs,rfl,bw⟩,U,aa,rfl⟩
 |[],_::_,_,_,_,bA,_,_,_,_=>bA.elim
 |_::_,[],_,_,_,bA,_,_,_,_=>bA.elim
 |(i,v)::r,(j,x)::s,els,me,xs,bA,U,aa,bw,h=>by
  obtain⟨rfl,jr,bA⟩:=bA;unfold qG at h;split at h
  ·rename_i l9;obtain⟨aS,be,dL⟩:=l9;have lF: ∀u∈v.cells,u.one=true:=by simpa using dL
   have Fv:=jr.cells;have eI:=Fv.length;have fB:=bw.length;have Ar:=wG U;have hle:i*esz+v.cells.length<=els.flatten.length:=by rw[Ar,aS];exact DR be
   have aO:=Qz bw Fv (c:=i*esz) hle;rw[<-Pz i v.cells U aS be] at aO;have g1: ∀e∈els.set i v.cells,e.length=esz:=λe he=>by
    rcases List.mem_or_eq_of_mem_set he with h|rfl
    ·exact U e h
    ·exact aS
   have g2: ∀e∈els.set i v.cells,∀u∈e,u.one=true:=λe he=>by
    rcases List.mem_or_eq_of_mem_set he with h|rfl
    ·exact aa e h
    ·exact lF
   obtain⟨⟨dQ,aI,bc⟩,dm,eS,gT⟩:=OV esz r s _ me _ bA g1 g2 aO h;refine⟨⟨dQ,?_,bc⟩,dm,eS,by simpa using gT⟩;unfold Instr.fill;have fI:x.cells.size=v.cells.length:=by rw[eI];simp
   simp only
   rw[if_neg (by simp[fI,aS];omega)];have:=JG x.cells.toList 0 (i*esz) xs.toArray;rw[Nat.add_zero] at this;rw[<-Array.foldl_toList,Array.toList_zipIdx,this];simpa using aI
  ·cases h
theorem SG(z:Array Value)(n:Nat)(ct:0<z.size):((Array.range (n*z.size)).map (z[· %z.size]!))=((List.replicate n z.toList).flatten).toArray:=by
 apply Array.ext';apply List.ext_getElem?;intro k;by_cases ah:k<n*z.size
 ·have U:(Array.map (λx=>z[x%z.size]!) (Array.range (n*z.size))).toList[k]? =some z[k%z.size]! :=by
   simp[ah]
  rw[U];symm;simp only
  have hdiv:k/z.size<n:=by rw[Nat.div_lt_iff_lt_mul ct];exact ah
  have anT:k%z.size<z.size:=Nat.mod_lt _ ct;have key: ∀(n k:Nat),k<n*z.size->(List.replicate n z.toList).flatten[k]? =z.toList[k%z.size]? :=by
   intro n
   induction n with
   |zero=>intro k h;omega
   |succ n aT=>
    intro k h;rw[List.replicate_succ,List.flatten_cons];by_cases ah:k<z.size
    ·rw[List.getElem?_append_left (by simpa using ah),Nat.mod_eq_of_lt ah]
    ·rw[List.getElem?_append_right (by simpa using ah)];have:=aT (k-z.size) (by rw[Nat.succ_mul] at h;omega);simp only[Array.length_toList];rw[this,<-Nat.mod_eq_sub_mod Z]
  rw[key n k ah];simp[anT]
 ·rw[List.getElem?_eq_none (by simp;omega),List.getElem?_eq_none (by simp;omega)]
theorem dG.Jq{gl:List I}{xs:List Value}(h:dG ρ gl xs): ∀n,dG ρ (List.replicate n gl).flatten (List.replicate n xs).flatten
 |0=>by simpa using dG.nil
 |n+1=>by simpa [List.replicate_succ] using h.append (dG.Jq h n)
theorem aad(ce:Rel ρ H w)(ak:ρ H.next=none){t:TypeId}{len:Nat}{parts:List (Nat×I)}{pR:List (Nat×Value)}{a:I}{H':J}(h:Dx P H t len parts=some (a,H'))(bA:Co ρ parts pR):
  ∃r b5 cX,(Instr.buildSlice t len pR.toArray).run P w= .ok r b5/\cT cX a r/\Step ρ H w cX H' b5:=by
 unfold Dx at h;split at h
 ·rename_i e hu;split at h
  ·rename_i fZ z fI ct;split at h
   ·rename_i l9;obtain⟨hle,tg,dL⟩:=l9;split at h
    ·rename_i els Mo;simp only[bD,dz] at h;obtain⟨rfl,rfl⟩:=h;obtain⟨iT,sf,uI⟩:=Bg ct w;have lF: ∀u∈z.cells,u.one=true:=by simpa using dL
     have wn:=(uI ρ).cells;have uH:iT.cells.size=fZ:=by have:=wn.length;rw[<-tg,this];simp
     have Mw:=dG.Jq wn len;obtain⟨⟨dQ,U,aa⟩,ae,al,aB⟩:=OV fZ parts pR _ els _ bA (λe he=>by rw[List.eq_of_mem_replicate he];exact tg)
      (λe he=>by rw[List.eq_of_mem_replicate he];exact lF) Mw Mo
     have aO:=Gc ce ak ae al aa (tail:=[]) e;have AA:dQ.length=len*fZ:=by
      rw[<-aa.length,wG ae,aB];simp
     refine⟨.slice (some ⟨w.heap.size,0,none⟩) len len,_,_,?_,?_,aO⟩
     ·simp only[Instr.buildSlice,Sem.run_bind,run_underlying hu,Result.andThen_ok,run_sizeOf fI];rw[if_neg (by show ¬(len*fZ>2^24);omega)];by_cases a6:len*fZ=0
      ·simp only[a6,if_true,Sem.run_bind,Sem.run_pure,Result.andThen_ok];have anU:(List.replicate len iT.cells.toList).flatten=[]:=by
        have:((List.replicate len iT.cells.toList).flatten).length=0:=by simp[uH,a6]
        exact List.eq_nil_of_length_eq_zero this
       rw[anU] at U;have bY:Array.range 0= #[]:=rfl;simp[U,newRow,bY]
      ·simp only[a6,if_false,Sem.run_bind,sf,Result.andThen_ok,Sem.run_pure];have oC:0<iT.cells.size:=by
        rcases Nat.eq_zero_or_pos iT.cells.size with h|h
        ·rw[uH] at h;simp[h] at a6
        ·exact h
       have:=SG iT.cells len oC;rw[uH] at this;simp only[uH,this];simp[U,newRow]
     ·refine cT.aM (ρ:=ρ.iF H.next _) H.next 0 len (some len) ⟨w.heap.size,0,fZ,dQ.length+0⟩ _ len (Env.np _ _ _) (bL _) (by simp) (λ_=>⟨by simp,?_⟩)
      simp[AA]
    ·cases h
   ·cases h
  ·cases h
 ·cases h
end
end
end Go.f7

/- Part. -/
import GoSem.Dispatch
import Derived.WalkKit
import Derived.Laws.IdiomCopy
import Derived.Deep.AppendSrc
import Derived.Orders
set_option linter.defProp false
open Option renaming some→I,none→u,map_eq_some_iff→de
open Bool renaming true→Y,false→X,false_eq_true→BC,not_false→YZ,not_true→Qaa
open List renaming getElem?_eq_none→bc,getElem?_append_left→cd,getElem?_append_right→ef,eq_nil_of_length_eq_zero→fg,mem_of_getElem?→gh,replicate→jk,eq_of_mem_replicate→mn,flatten_cons→pq,getElem?_of_mem→rs,mem_cons_of_mem→AB,extract_eq_take_drop→CD,mem_or_eq_of_mem_set→DE,ext_getElem?→EF,forIn_cons→FG,mem_append→GH,getElem?_toArray→IJ,replicate_succ→MN,getElem?_drop→QR,length_append→TU,append_assoc→UV,length_map→WX,map_set→Qad
open Nat renaming add_mul→hi,lt_or_ge→kl,mul_le_mul_right→lm,le_trans→tu,succ_mul→uv,eq_zero_or_pos→wx,zero_add→yz,add_assoc→zA,add_le_add_left→NO,lt_of_lt_of_le→OP,add_zero→VW,mod_lt→XY,sub_zero→Qab,le_of_eq→Qac
open Array renaming getElem?_setIfInBounds→ij,length_toList→vw,getElem?_eq_none→xy,getElem?_modify→HI,getElem?_toList→JK,range→KL,toList_zipIdx→LM,forIn_toList→PQ,foldl_toList→RS,ext'→Qae
namespace Go.bk
def ae{p:Prop}(h:p:=by omega):p:=h
def M{p:Prop}(h:p:=by kernel_rfl):p:=h
def aC{p:Prop}(h:p:=by decide):p:=h
def B{a b:Prop}(x:a)(y:b):a/\b:=⟨x,y⟩
def aT{c:Type}(a b:c):(I a=I b)=(a=b):=Option.some.injEq a b
def aK{c:Type}(a b:c):(bif Y then a else b)=a:=rfl
def aH{c:Type}(a b:c):(bif X then a else b)=b:=rfl
def ct{c d:Type}{o:Option c}{f:c->Option d}{b:d}:o.bind f=I b↔∃a,o=I a/\f a=I b:=Option.bind_eq_some_iff
def bS{e h:Type}(a:e)(b:h)(c:e)(d:h):((a,b)=(c,d))=(a=c/\b=d):=Prod.mk.injEq a b c d
def aV(n:Nat):n<=n:=Nat.le_refl n
inductive aa where
 |bool (b:Bool)
 |int (k:IntKind) (n:Int)
 |str (s:List UInt8)
 |ptr (l i c:Nat)
 |nilPtr
 |ax (l i n esz:Nat) (cap:Option Nat)
 |ag
 |map (l:Nat)
 |iE
 |func (fn:Fn) (first captured:List aa)
 |nilFunc
 |iface (t:TypeId) (v:aa)
 |nilIface
 |agg (cs:List aa)
 |tuple (a:List aa)
instance:Inhabited aa:=⟨.tuple []⟩
inductive b_ where
 |row (ro:Bool) (esz:Nat) (els:List (List aa))
 |map (es:List (aa×aa))
 |dead
inductive kQ where
 |d0|d1|d2|d3|d4|d5|d6|d7
inductive bG(α:Type) where
 |leaf
 |node (v:Option α) (c0 aQ c2 c3 c4 c5 a c:bG α)
def Ao(n:Nat):kQ:=match n with
 |0=> .d0|1=> .d1|2=> .d2|3=> .d3|4=> .d4|5=> .d5|6=> .d6|_=> .d7
def QV{n m:Nat}(e:n<8)(d:m<8)(h:Ao n=Ao m):n=m:=by
 have a:n=0\/n=1\/n=2\/n=3\/n=4\/n=5\/n=6\/n=7:=ae;have c:m=0\/m=1\/m=2\/m=3\/m=4\/m=5\/m=6\/m=7:=ae;rcases a with rfl|rfl|rfl|rfl|rfl|rfl|rfl|rfl<;>rcases c with rfl|rfl|rfl|rfl|rfl|rfl|rfl|rfl<;>first|rfl|cases h
def nd:Nat->Nat->List kQ
 |0,_=>[]
 |_+1,0=>[]
 |f+1,k+1=>Ao (k%8)::nd f (k/8)
def path(k:Nat):List kQ:=nd k k
def Ui:∀(f g k j:Nat),k<=f->j<=g->nd f k=nd g j->k=j:=by
 intro f
 induction f with
 |zero=>
  intro g k j c a h;have:k=0:=ae;subst this;cases j with
  |zero=>rfl
  |succ j=>
   cases g with
   |zero=>omega
   |succ g=>simp[nd]at h
 |succ f d=>
  intro g k j c a h;cases k with
  |zero=>
   cases j with
   |zero=>rfl
   |succ j=>
    cases g with
    |zero=>omega
    |succ g=>simp[nd]at h
  |succ k=>
   cases j with
   |zero=>cases g<;>simp[nd]at h
   |succ j=>
    cases g with
    |zero=>omega
    |succ g=>
     simp only[nd,List.cons.injEq]at h;have e:=QV (XY _ ae) (XY _ ae) h.1;have i:=d g (k/8) (j/8) ae ae h.2;omega
def Lo{k j:Nat}(h:path k=path j):k=j:=Ui k j k j (aV _) (aV _) h
def bG.iR{a:Type}:List kQ->bG a->Option a
 |[],.leaf=>u
 |[],.node v _ _ _ _ _ _ _ _=>v
 |_::_,.leaf=>u
 |d::p,.node _ c0 aQ c2 c3 c4 c5 c e=>match d with
  | .d0=>bG.iR p c0| .d1=>bG.iR p aQ| .d2=>bG.iR p c2| .d3=>bG.iR p c3
  | .d4=>bG.iR p c4| .d5=>bG.iR p c5| .d6=>bG.iR p c| .d7=>bG.iR p e
def bG.l{e:Type}(x:e):List kQ->bG e->bG e
 |[],.leaf=> .node (I x) .leaf .leaf .leaf .leaf .leaf .leaf .leaf .leaf
 |[],.node _ c0 aQ c2 c3 c4 c5 a c=> .node (I x) c0 aQ c2 c3 c4 c5 a c
 |d::p,.leaf=>match d with
  | .d0=> .node u (bG.l x p .leaf) .leaf .leaf .leaf .leaf .leaf .leaf .leaf
  | .d1=> .node u .leaf (bG.l x p .leaf) .leaf .leaf .leaf .leaf .leaf .leaf
  | .d2=> .node u .leaf .leaf (bG.l x p .leaf) .leaf .leaf .leaf .leaf .leaf
  | .d3=> .node u .leaf .leaf .leaf (bG.l x p .leaf) .leaf .leaf .leaf .leaf
  | .d4=> .node u .leaf .leaf .leaf .leaf (bG.l x p .leaf) .leaf .leaf .leaf
  | .d5=> .node u .leaf .leaf .leaf .leaf .leaf (bG.l x p .leaf) .leaf .leaf
  | .d6=> .node u .leaf .leaf .leaf .leaf .leaf .leaf (bG.l x p .leaf) .leaf
  | .d7=> .node u .leaf .leaf .leaf .leaf .leaf .leaf .leaf (bG.l x p .leaf)
 |d::p,.node v c0 aQ c2 c3 c4 c5 a c=>match d with
  | .d0=> .node v (bG.l x p c0) aQ c2 c3 c4 c5 a c
  | .d1=> .node v c0 (bG.l x p aQ) c2 c3 c4 c5 a c
  | .d2=> .node v c0 aQ (bG.l x p c2) c3 c4 c5 a c
  | .d3=> .node v c0 aQ c2 (bG.l x p c3) c4 c5 a c
  | .d4=> .node v c0 aQ c2 c3 (bG.l x p c4) c5 a c
  | .d5=> .node v c0 aQ c2 c3 c4 (bG.l x p c5) a c
  | .d6=> .node v c0 aQ c2 c3 c4 c5 (bG.l x p a) c
  | .d7=> .node v c0 aQ c2 c3 c4 c5 a (bG.l x p c)
def bG.vz{a:Type}(p:List kQ):bG.iR p (.leaf:bG a)=none:=by cases p<;>rfl
def bG.AQ{a:Type}(x:a):∀(p:List kQ) (t:bG a),bG.iR p (bG.l x p t)=I x
 |[],.leaf=>rfl
 |[],.node .. =>rfl
 |d::p,.leaf=>by cases d<;>exact bG.AQ x p _
 |d::p,.node .. =>by cases d<;>exact bG.AQ x p _
def bG.AP{c:Type}(x:c):∀(p q:List kQ) (t:bG c),p≠q->bG.iR q (bG.l x p t)=bG.iR q t
 |[],[],_,h=>absurd rfl h
 |[],e::q,.leaf,_=>by cases e<;>exact bG.vz q
 |[],e::q,.node ..,_=>rfl
 |d::p,[],.leaf,_=>by cases d<;>rfl
 |d::p,[],.node ..,_=>by cases d<;>rfl
 |d::p,e::q,.leaf,h=>by
  cases d<;>cases e<;>first
   |exact bG.vz q
   |(show bG.iR q (bG.l x p .leaf)=u
     rw[bG.AP x p q .leaf (λa=>h (by rw[a]))];exact bG.vz q)
 |d::p,e::q,.node ..,h=>by
  cases d<;>cases e<;>first
   |rfl
   |exact bG.AP x p q _ (λa=>h (by rw[a]))
def bG.get{a:Type}(t:bG a)(k:Nat):Option a:=bG.iR (path k) t
def bG.put{a:Type}(x:a)(_:Nat)(t:bG a)(k:Nat):bG a:=bG.l x (path k) t
def bG.s_{a:Type}(k:Nat):(bG.leaf:bG a).get k=none:=bG.vz _
def bG.tc{a:Type}(x:a):∀(f:Nat) (t:bG a) (k:Nat),k<f->(bG.put x f t k).get k=I x:=λ_ t k _=>bG.AQ x (path k) t
def bG.tb{a:Type}(x:a):∀(f:Nat) (t:bG a) (k j:Nat),k≠j->(bG.put x f t k).get j=t.get j:=λ_ t _ _ h=>bG.AP x _ _ t (λe=>h (Lo e))
structure ad where
 t:bG b_
 next:Nat
def ad.get(H:ad)(l:Nat):Option b_:=if l<H.next then H.t.get l else u
def ad.set(H:ad)(l:Nat)(b:b_):ad:={H with t:=bG.put b (l+1) H.t l}
def ad.push(H:ad)(b:b_):ad:={t:=bG.put b (H.next+1) H.t H.next,next:=H.next+1}
def ad.empty:ad:=⟨.leaf,0⟩
@[simp] theorem ad.cL(H:ad)(l:Nat)(b:b_):(H.set l b).next=H.next:=rfl
@[simp] theorem ad.bb(H:ad)(b:b_):(H.push b).next=H.next+1:=rfl
def ad.aF{H:ad}{l:Nat}{b:b_}(h:H.get l=I b):l<H.next:=by
 unfold ad.get at h;split at h
 ·assumption
 ·cases h
def ad.get_set_same{H:ad}{l:Nat}{b:b_}(h:l<H.next):(H.set l b).get l=I b:=by
 show(if l<H.next then(bG.put b (l+1) H.t l).get l else u)=I b;rw[if_pos h];exact bG.tc b _ _ _ ae
def ad.get_set_other{H:ad}{l j:Nat}{b:b_}(h:l≠j):(H.set l b).get j=H.get j:=by
 show(if j<H.next then(bG.put b (l+1) H.t l).get j else u)=(if j<H.next then H.t.get j else u);rw[bG.tb b _ _ _ _ h]
def ad.a_(H:ad)(b:b_):(H.push b).get H.next=I b:=by
 show(if H.next<H.next+1 then(bG.put b (H.next+1) H.t H.next).get H.next else u)=I b;rw[if_pos ae];exact bG.tc b _ _ _ ae
def ad.dv{H:ad}{j:Nat}{b:b_}(h:j≠H.next):(H.push b).get j=H.get j:=by
 show(if j<H.next+1 then(bG.put b (H.next+1) H.t H.next).get j else u)=(if j<H.next then H.t.get j else u);by_cases a:j<H.next
 ·rw[if_pos ae,if_pos a,bG.tb b _ _ _ _ ae]
 ·rw[if_neg ae,if_neg a]
section
structure Loc where
 block:Nat
 off:Nat
 esz:Nat
 size:Nat
def Env:Type:=Nat->Option Loc
def Env.le(ρ c:Env):Prop:=∀l a,ρ l=I a->c l=I a
def Env.le_refl(ρ:Env):ρ.le ρ:=λ_ _ h=>h
def Env.le_trans{ρ c d:Env}(h:ρ.le c)(aU:c.le d):ρ.le d:=λl a e=>aU l a (h l a e)
mutual
inductive bz(ρ:Env):aa->Value->Prop where
 |bool (b:Bool):bz ρ (.bool b) (.bool b)
 |int (k:IntKind) (n:Int):bz ρ (.int k n) (.int k n)
 |str (s:List UInt8):bz ρ (.str s) (.string ⟨s.toArray⟩)
 |ptr (l i c:Nat) (loc:Loc) (h:ρ l=some loc):bz ρ (.ptr l i c) (.pointer (some ⟨loc.block,loc.off+i*loc.esz+c,none⟩))
 |nilPtr:bz ρ .nilPtr (.pointer none)
 |ax (l i n:Nat) (cap:Option Nat) (loc:Loc) (a:Addr) (c:Nat) (h:ρ l=some loc) (m:n<=c) (d:∀k,cap=some k->c=k)
  (e:0<c->a=⟨loc.block,loc.off+i*loc.esz,none⟩/\loc.off+(i+c)*loc.esz<=loc.size):bz ρ (.ax l i n loc.esz cap) (.slice (some a) n c)
 |ag:bz ρ .ag (.slice none 0 0)
 |map (l:Nat) (loc:Loc) (h:ρ l=some loc):bz ρ (.map l) (.map (some loc.block))
 |iE:bz ρ .iE (.map none)
 |func (fn:Fn) (f c:List aa) (jo c':List Value) (j:b1 ρ f jo) (d:b1 ρ c c'):bz ρ (.func fn f c) (.func fn jo.toArray c'.toArray)
 |nilFunc:bz ρ .nilFunc .nilFunc
 |iface (t:TypeId) (v:aa) (x:Value) (h:bz ρ v x):bz ρ (.iface t v) (.iface t x)
 |nilIface:bz ρ .nilIface .nilIface
 |agg (cs:List aa) (xs:List Value) (h:b1 ρ cs xs):bz ρ (.agg cs) (.agg xs.toArray)
 |tuple (cs:List aa) (xs:List Value) (h:b1 ρ cs xs):bz ρ (.tuple cs) (.tuple xs.toArray)
inductive b1(ρ:Env):List aa->List Value->Prop where
  |nil:b1 ρ [] []
  |cons (v:aa) (x:Value) (a:List aa) (xs:List Value) (h:bz ρ v x) (au:b1 ρ a xs):b1 ρ (v::a) (x::xs)
 end
mutual
def bz.mono{ρ m:Env}(d:ρ.le m){v:aa}{x:Value}(h:bz ρ v x):bz m v x:=by
 cases h with
 |bool b=>exact .bool b
 |int k n=>exact .int k n
 |str s=>exact .str s
 |ptr l i c e h=>exact .ptr l i c e (d _ _ h)
 |nilPtr=>exact .nilPtr
 |ax l i n cap e a c h q j o=>exact .ax l i n cap e a c (d _ _ h) q j o
 |ag=>exact .ag
 |map l e h=>exact .map l e (d _ _ h)
 |iE=>exact .iE
 |func fn f c jo c' p j=>exact .func fn f c jo c' (b1.mono d p) (b1.mono d j)
 |nilFunc=>exact .nilFunc
 |iface t v x h=>exact .iface t v x (bz.mono d h)
 |nilIface=>exact .nilIface
 |agg cs xs h=>exact .agg cs xs (b1.mono d h)
 |tuple cs xs h=>exact .tuple cs xs (b1.mono d h)
def b1.mono{ρ c:Env}(a:ρ.le c){v:List aa}{x:List Value}(h:b1 ρ v x):b1 c v x:=by
  cases h with
  |nil=>exact .nil
  |cons v x d xs h au=>exact .cons v x d xs (bz.mono a h) (b1.mono a au)
 end
def b1.length{ρ:Env}:∀{a:List aa} {xs:List Value},b1 ρ a xs->a.length=xs.length
 |[],_,h=>by cases h;rfl
 |_::_,_,h=>by cases h with|cons _ _ _ _ _ au=>simp[b1.length au]
def b1.get{ρ:Env}:∀{c:List aa} {xs:List Value},b1 ρ c xs->∀(j:Nat) (v:aa),c[j]? =I v->∃x,xs[j]? =I x/\bz ρ v x
 |[],_,h,j,v,a=>by simp at a
 |w::c,_,h,j,v,a=>by
  cases h with
  |cons _ x _ xs d au=>
   cases j with
   |zero=>simp at a;subst a;exact⟨x,rfl,d⟩
   |succ j=>simpa using b1.get au j v (by simpa using a)
def b1.append{ρ:Env}:∀{d c:List aa} {xs e:List Value},b1 ρ d xs->b1 ρ c e->b1 ρ (d++c) (xs++e)
 |[],_,_,_,h,aU=>by cases h;exact aU
 |_::_,_,_,_,h,aU=>by cases h with|cons _ _ _ _ a as=>exact .cons _ _ _ _ a (b1.append as aU)
def b1.K1{ρ:Env}:∀{c:List aa} {xs:List Value},c.length=xs.length->(∀(j:Nat) (v:aa) (x:Value),c[j]? =I v->xs[j]? =I x->bz ρ v x)->b1 ρ c xs
 |[],[],_,_=> .nil
 |[],_::_,h,_=>by simp at h
 |_::_,[],h,_=>by simp at h
 |v::c,x::xs,h,d=> .cons _ _ _ _ (d 0 v x rfl rfl) (b1.K1 (by simpa using h) λj a b e i=>d (j+1) a b (by simpa using e) (by simpa using i))
def b1.set{ρ:Env}{v:aa}{x:Value}(h:bz ρ v x):∀{c:List aa} {xs:List Value} (j:Nat),b1 ρ c xs->b1 ρ (c.set j v) (xs.set j x)
 |[],_,_,au=>by cases au;exact .nil
 |_::_,_,0,au=>by cases au with|cons _ _ _ _ a as=>exact .cons _ _ _ _ h as
 |_::_,_,j+1,au=>by cases au with|cons _ _ _ _ a as=>exact .cons _ _ _ _ a (b1.set h j as)
def aa.one:aa->Bool
 | .agg _| .tuple _=>X
 |_=>Y
def aa.cells:aa->List aa
 | .agg cs=>cs
 |v=>[v]
def bz.K6{ρ:Env}{v:aa}{x:Value}(h:bz ρ v x)(a:v.one=Y):x.oneCell'=true:=by
 cases h<;>first|rfl|cases a
def bz.cells{ρ:Env}{v:aa}{x:Value}(h:bz ρ v x):b1 ρ v.cells x.cells.toList:=by
 cases h with
 |agg cs xs h=>simpa [aa.cells,Value.cells]using h
 |bool b=>exact .cons _ _ _ _ (.bool b) .nil
 |int k n=>exact .cons _ _ _ _ (.int k n) .nil
 |str s=>exact .cons _ _ _ _ (.str s) .nil
 |ptr l i c d h=>exact .cons _ _ _ _ (.ptr l i c d h) .nil
 |nilPtr=>exact .cons _ _ _ _ .nilPtr .nil
 |ax l i n cap d a c h o e j=>exact .cons _ _ _ _ (.ax l i n cap d a c h o e j) .nil
 |ag=>exact .cons _ _ _ _ .ag .nil
 |map l d h=>exact .cons _ _ _ _ (.map l d h) .nil
 |iE=>exact .cons _ _ _ _ .iE .nil
 |func fn f c jo c' m e=>exact .cons _ _ _ _ (.func fn f c jo c' m e) .nil
 |nilFunc=>exact .cons _ _ _ _ .nilFunc .nil
 |iface t v x h=>exact .cons _ _ _ _ (.iface t v x h) .nil
 |nilIface=>exact .cons _ _ _ _ .nilIface .nil
 |tuple cs xs h=>exact .cons _ _ _ _ (.tuple cs xs h) .nil
def hc(ρ:Env)(w:World)(a:Loc)(ro:Bool)(esz:Nat)(els:List (List aa)):Prop:=a.esz=esz/\∃c t d,w.heap[a.block]? =I (.cells c t d)/\(ro=X->a.size=c.size/\∀o,o<c.size->¬(d.1<=o/\o<d.2))/\ ∀(i:Nat) (e:List aa),els[i]? =I e->e.length=esz/\∀(j:Nat) (v:aa),e[j]? =I v->v.one=Y/\∃x,c[a.off+i*esz+j]? =I x/\bz ρ v x
def zF(ρ:Env)(w:World)(a:Loc)(es:List (aa×aa)):Prop:=∃ents clock,w.heap[a.block]? =I (.map ents clock)/\b1 ρ (es.map (·.1)) (ents.toList.map (·.key))/\b1 ρ (es.map (·.2)) (ents.toList.map (·.val))
def ad.rw(H:ad)(l:Nat):Prop:=(∃esz els,H.get l=I (.row X esz els))\/∃es,H.get l=I (.map es)
def ad.live(H:ad)(l:Nat):Prop:=(∃ro esz els,H.get l=I (.row ro esz els))\/∃es,H.get l=I (.map es)
def ad.rw.live{H:ad}{l:Nat}(h:H.rw l):H.live l:=by
 rcases h with⟨e,s,h⟩|h
 ·exact .inl ⟨_,e,s,h⟩
 ·exact .inr h
def b_.vG:b_->Bool
 | .row Y _ _=>Y
 |_=>X
def ad.Mj{H:ad}{l:Nat}{b:b_}(c:b.vG=X):∀k esz els,(H.set l b).get k=I (.row Y esz els)->H.get k=I (.row Y esz els):=by
 intro k esz els h;by_cases a:l=k
 ·subst a;have d:l<H.next:=by have:=ad.aF h;simpa using this
  rw[ad.get_set_same d]at h;simp only[aT]at h;subst h;cases c
 ·rwa[ad.get_set_other a]at h
def ad.Mi{H:ad}{b:b_}(c:b.vG=X):∀k esz els,(H.push b).get k=I (.row Y esz els)->H.get k=I (.row Y esz els):=by
 intro k esz els h;by_cases a:k=H.next
 ·subst a;rw[ad.a_]at h;simp only[aT]at h;subst h;cases c
 ·rwa[ad.dv a]at h
structure Rel(ρ:Env)(H:ad)(w:World):Prop where
 row:∀l ro esz els,H.get l=some (.row ro esz els)->∃loc,ρ l=some loc/\hc ρ w loc ro esz els
 map:∀l es,H.get l=some (.map es)->∃loc,ρ l=some loc/\zF ρ w loc es
 apart:∀l l' loc a,H.rw l->H.live l'->l≠l'->ρ l=some loc->ρ l'=some a->loc.block≠a.block
def iM(ρ:Env)(H:ad)(b:Nat):Prop:=∃l a,H.rw l/\ρ l=I a/\a.block=b
structure Step(ρ:Env)(H:ad)(w:World)(c:Env)(H':ad)(a:World):Prop where
 le:ρ.le c
 next:H.next<=H'.next
 aP:∀l,l<H.next\/H'.next<=l->c l=ρ l
 rel:Rel c H' a
 os:a.os=w.os
 tape:a.tape=w.tape
 output:a.output=w.output
 size:w.heap.size<=a.heap.size
 frame:∀b,b<w.heap.size->¬iM ρ H b->a.heap[b]? =w.heap[b]?
 own:∀b,iM c H' b->iM ρ H b\/w.heap.size<=b
 ro:∀l esz els,H'.get l=some (.row true esz els)->H.get l=some (.row true esz els)
def Step.refl{ρ:Env}{H:ad}{w:World}(h:Rel ρ H w):Step ρ H w ρ H w:=
 ⟨ρ.le_refl,aV _,λ_ _=>rfl,h,rfl,rfl,rfl,aV _,λ_ _ _=>rfl,λ_ h=> .inl h,λ_ _ _ h=>h⟩
def Step.trans{ρ p q:Env}{H d i:ad}{w n o:World}(h:Step ρ H w p d n)(k:Step p d n q i o):Step ρ H w q i o where
 le:=Env.le_trans h.le k.le
 next:=tu h.next k.next
 aP:=λl ak=>(k.aP l (ak.imp (λx=>OP x h.next) id)).trans (h.aP l (ak.imp id (λx=>tu k.next x)))
 ro:=λl esz els e=>h.ro l esz els (k.ro l esz els e)
 rel:=k.rel
 os:=k.os.trans h.os
 tape:=k.tape.trans h.tape
 output:=k.output.trans h.output
 size:=tu h.size k.size
 frame:=λb a m=>by
  rw[k.frame b (OP a h.size) (λc=>(h.own b c).elim m (λj=>ae)),h.frame b a m]
 own:=λb a=>(k.own b a).elim (λc=>h.own b c) (λj=> .inr (tu h.size j))
def DT(ρ:Env)(n m:Nat):Prop:=∀l,n<=l->l<m->ρ l=u
structure h8(E ρ:Env)(n m:Nat):Prop where
 new:DT ρ n m
 le:E.le ρ
def h8.left{c ρ:Env}{n m k:Nat}(h:h8 c ρ n k)(d:m<=k):h8 c ρ n m:=⟨λl a b=>h.new l a ae,h.le⟩
def h8.after{c ρ e:Env}{H d:ad}{w i:World}{k:Nat}(h:h8 c ρ H.next k)(s:Step ρ H w e d i):h8 c e d.next k:=⟨λl a b=>by
 rw[s.aP l (.inr a)];exact h.new l (tu s.next a) b,Env.le_trans h.le s.le⟩
def Rel.drew{ρ:Env}{H:ad}{w:World}(h:Rel ρ H w):Rel ρ H w.drew:=⟨h.row,h.map,h.apart⟩
end
def x(P:Program)(t:TypeId):Option Bool:=
 match P.underlying t with
 |some (.struct _)|some (.array _ _)=>I Y
 |some _=>I X
 |none=>u
def cS(P:Program)(t:TypeId):Option Nat:=(P.info? t).map (·.size)
def wB{P:Program}{t:TypeId}{b:Bool}(h:x P t=I b)(w:World):(isAgg t).run P w= .ok b w:=by
 unfold x at h;unfold isAgg;cases a:P.underlying t with
 |none=>rw[a]at h;cases h
 |some d=>
  rw[a]at h;simp only[Sem.run_bind,run_underlying a,Result.andThen_ok];cases d<;>simp_all
def run_sizeOf{P:Program}{t:TypeId}{n:Nat}(h:cS P t=I n)(w:World):(sizeOf t).run P w= .ok n w:=by
 unfold cS at h;cases a:P.info? t with
 |none=>rw[a]at h;cases h
 |some i=>rw[a]at h;simp at h;simp[sizeOf,typeInfo,a,h]
def apart(P:Program)(t:TypeId)(cs:List aa)(a:Nat):Option aa:=
 match x P t with
 |some Y=>(match cS P t with|some n=>I (.agg ((cs.drop a).take n))|none=>u)
 |some X=>cs[a]?
 |none=>u
def b1.drop{ρ:Env}:∀{c:List aa} {xs:List Value} (n:Nat),b1 ρ c xs->b1 ρ (c.drop n) (xs.drop n)
 |_,_,0,h=>by simpa using h
 |[],_,n+1,h=>by cases h;simpa using b1.nil
 |_::_,_,n+1,h=>by cases h with|cons _ _ _ _ a as=>simpa using b1.drop n as
def b1.take{ρ:Env}:∀{c:List aa} {xs:List Value} (n:Nat),b1 ρ c xs->b1 ρ (c.take n) (xs.take n)
 |_,_,0,h=>by simpa using b1.nil
 |[],_,n+1,h=>by cases h;simpa using b1.nil
 |_::_,_,n+1,h=>by cases h with|cons _ _ _ _ a as=>simpa using b1.cons _ _ _ _ a (b1.take n as)
def qp{P:Program}{t:TypeId}{cs:List aa}{a:Nat}{v:aa}{ρ:Env}{xs:List Value}(h:apart P t cs a=I v)(au:b1 ρ cs xs)(w:World):
  ∃x,(part t xs.toArray a).run P w= .ok x w/\bz ρ v x:=by
 unfold apart at h;split at h
 ·rename_i c;split at h
  ·rename_i n d;simp at h;subst h;refine⟨.agg (((xs.drop a).take n).toArray),?_,.agg _ _ ((au.drop a).take n)⟩;unfold part;simp only[Sem.run_bind,wB c,Result.andThen_ok,if_true,run_sizeOf d];simp[List.extract_toArray,CD]
  ·cases h
 ·rename_i c;obtain⟨x,i,e⟩:=au.get a v h;refine⟨x,?_,e⟩;unfold part;simp[wB c,i]
 ·cases h
def hC(op:BinOp)(k:IntKind)(a b:Int):Option aa:=
 match op with
 | .add=>I (.int k (k.wrap (a+b)))
 | .sub=>I (.int k (k.wrap (a-b)))
 | .mul=>I (.int k (k.wrap (a*b)))
 | .quo=>if b=0 then u else I (.int k (k.wrap (a.tdiv b)))
 | .rem=>if b=0 then u else I (.int k (a.tmod b))
 | .and=>I (.int k (k.wrap ((BitVec.ofInt k.bits a&&&BitVec.ofInt k.bits b).toNat:Int)))
 | .or=>I (.int k (k.wrap ((BitVec.ofInt k.bits a|||BitVec.ofInt k.bits b).toNat:Int)))
 | .xor=>I (.int k (k.wrap ((BitVec.ofInt k.bits a^^^BitVec.ofInt k.bits b).toNat:Int)))
 | .andNot=>I (.int k (k.wrap ((BitVec.ofInt k.bits a&&& ~~~BitVec.ofInt k.bits b).toNat:Int)))
 | .eql=>I (.bool (a==b))
 | .neq=>I (.bool (a != b))
 | .lss=>I (.bool (decide (a<b)))
 | .leq=>I (.bool (decide (a<=b)))
 | .gtr=>I (.bool (decide (b<a)))
 | .geq=>I (.bool (decide (b<=a)))
 | .shl| .shr=>u
def qK(op:BinOp)(k:IntKind)(a b:Int):Option aa:=
 if b<0 then u else
 match op with
 | .shl=>I (.int k (k.wrap (a*2^(min b.toNat k.bits))))
 | .shr=>I (.int k (a.fdiv (2^(min b.toNat k.bits))))
 |_=>u
def uU(op:BinOp)(a b:List UInt8):Option aa:=
 match op with
 | .add=>if a.length+b.length<=9223372036854775807 then I (.str (a++b))else u
 | .eql=>I (.bool (a==b))
 | .neq=>I (.bool (!(a==b)))
 | .lss=>I (.bool (Op.bytesLess a b))
 | .leq=>I (.bool (Op.bytesLess a b||a==b))
 | .gtr=>I (.bool (!(Op.bytesLess a b||a==b)))
 | .geq=>I (.bool (!Op.bytesLess a b))
 |_=>u
def qn(P:Program)(eq:TypeId->aa->aa->Option Bool):List Field->List aa->List aa->Option Bool
 |[],_,_=>I Y
 |f::d,xs,c=>
  if f.name≠ "_" then
   match apart P f.type xs f.offset,apart P f.type c f.offset with
   |some a,I b=>(match eq f.type a b with|some Y=>qn P eq d xs c|some X=>I X|none=>u)
   |_,_=>u
  else qn P eq d xs c
def sQ(P:Program)(eq:TypeId->aa->aa->Option Bool)(e:TypeId)(n:Nat):Nat->Nat->List aa->List aa->Option Bool
 |0,_,_,_=>I Y
 |k+1,i,xs,c=>
  match apart P e xs (i*n),apart P e c (i*n)with
  |some a,I b=>(match eq e a b with|some Y=>sQ P eq e n k (i+1) xs c|some X=>I X|none=>u)
  |_,_=>u
def kW(P:Program):Nat->TypeId->aa->aa->Option Bool
 |0,_,_,_=>u
 |d+1,t,x,y=>
  match P.underlying t,x,y with
  |some .bool,.bool a,.bool b=>I (a==b)
  |some (.int _),.int k a,.int i b=>if k=i then I (a==b)else u
  |some .string,.str a,.str b=>I (a==b)
  |some (.pointer _),.nilPtr,.nilPtr=>I Y
  |some (.pointer _),.nilPtr,.ptr .. =>I X
  |some (.pointer _),.ptr ..,.nilPtr=>I X
  |some (.interface _),.nilIface,.nilIface=>I Y
  |some (.interface _),.nilIface,.iface .. =>I X
  |some (.interface _),.iface ..,.nilIface=>I X
  |some (.struct h),.agg xs,.agg c=>if P.stoodInHeld t then u else qn P (kW P d) h.toList xs c
  |some (.array len e),.agg xs,.agg c=>(match cS P e with|some n=>sQ P (kW P d) e n len 0 xs c|none=>u)
  |some (.slice _),.ag,.ag=>I Y
  |some (.slice _),.ag,.ax .. =>I X
  |some (.slice _),.ax ..,.ag=>I X
  |some (.map _ _),.iE,.iE=>I Y
  |some (.map _ _),.iE,.map _=>I X
  |some (.map _ _),.map _,.iE=>I X
  |some (.func _ _ _),.nilFunc,.nilFunc=>I Y
  |some (.func _ _ _),.nilFunc,.func .. =>I X
  |some (.func _ _ _),.func ..,.nilFunc=>I X
  |_,_,_=>u
def isConst:Operand->Bool
 | .const _=>Y
 |_=>X
def ov(P:Program)(t:TypeId)(x y:Operand)(a b:aa):Bool:=
 match a,b with
 | .nilIface,.nilIface=>isConst x||isConst y
 | .agg _,.agg _=> !P.eqGuardType P.depth t
 |_,_=>Y
def sO(P:Program)(op:BinOp)(t:TypeId)(c d:Operand)(x y:aa):Option aa:=
 match x,y with
 | .int k a,.int e b=>
  (match op with
  | .shl=>qK .shl k a b
  | .shr=>qK .shr k a b
  |op=>if k=e then hC op k a b else u)
 | .str a,.str b=>uU op a b
 |x,y=>
  (match op with
  | .eql=>if ov P t c d x y then(kW P 10000 t x y).map .bool else u
  | .neq=>if ov P t c d x y then(kW P 10000 t x y).map λb=> .bool (!b)else u
  |_=>u)
def cI(op:UnOp)(x:aa):Option aa:=
 match op,x with
 | .neg,.int k n=>I (.int k (k.wrap (0-n)))
 | .not,.bool b=>I (.bool (!b))
 |_,_=>u
end Go.bk
namespace Go
def Operand.vE:Operand->Bool
 | .const _=>Y
 |_=>X
end Go
namespace Go.bk
section
variable {P:Program}{ρ:Env}
def Cn(w:World)(eq:TypeId->aa->aa->Option Bool)(jn:TypeId->Value->Value->Sem Bool)
  (i:∀t a b x y c,eq t a b=I c->bz ρ a x->bz ρ b y->(jn t x y).run P w= .ok c w) {xs z:List aa} {v A:List Value} (l:b1 ρ xs v) (m:b1 ρ z A):
  ∀(d:List Field) (b:Bool),qn P eq d xs z=I b->
   (forIn d ((u:Option Bool),()) (λf _=>
    (if f.name≠ "_" then do
     let a<-part f.type v.toArray f.offset
     let b<-part f.type A.toArray f.offset
     let c<-jn f.type a b
     if(!c)=Y then pure (ForInStep.done (I X,()))else pure (ForInStep.yield (u,()))
    else pure (ForInStep.yield (u,())):Sem (ForInStep (Option Bool×Unit))))).run P w= .ok (if b then(u,())else(I X,())) w
 |[],b,h=>by
  simp[qn]at h;subst h;simp[Sem.run_pure]
 |f::d,b,h=>by
  unfold qn at h;rw[FG];by_cases e:f.name≠ "_"
  ·rw[if_pos e]at h;split at h
   ·rename_i a cN B C;obtain⟨x,q,o⟩:=qp B l w;obtain⟨y,s,p⟩:=qp C m w;split at h
    ·rename_i j;have k:=i _ _ _ _ _ _ j o p;have n:=Cn w eq jn i l m d b h;simp only[if_pos e,Sem.run_bind,q,s,k,Result.andThen_ok,Qaa,BC,if_false,Sem.run_pure];exact n
    ·rename_i j;have k:=i _ _ _ _ _ _ j o p;simp at h;subst h;simp only[if_pos e,Sem.run_bind,q,s,k,Result.andThen_ok,YZ,if_true,Sem.run_pure];rfl
    ·cases h
   ·cases h
  ·rw[if_neg e]at h;have n:=Cn w eq jn i l m d b h;simp only[if_neg e,Sem.run_bind,Sem.run_pure,Result.andThen_ok];exact n
def Mw(w:World)(e:TypeId)(n:Nat)(eq:TypeId->aa->aa->Option Bool)(jn:TypeId->Value->Value->Sem Bool)
  (j:∀t a b x y c,eq t a b=I c->bz ρ a x->bz ρ b y->(jn t x y).run P w= .ok c w) {xs A:List aa} {z B:List Value} (p:b1 ρ xs z) (s:b1 ρ A B):
  ∀(k i:Nat) (b:Bool),sQ P eq e n k i xs A=I b->
   (forIn (List.range' i k) ((u:Option Bool),()) (λi _=>
    (do
     let a<-part e z.toArray (i*n)
     let b<-part e B.toArray (i*n)
     let c<-jn e a b
     if(!c)=Y then pure (ForInStep.done (I X,()))else pure (ForInStep.yield (u,())):Sem (ForInStep (Option Bool×Unit))))).run P w= .ok (if b then(u,())else(I X,())) w
 |0,i,b,h=>by
  simp[sQ]at h;subst h;simp[Sem.run_pure]
 |k+1,i,b,h=>by
  unfold sQ at h;rw[List.range'_succ,FG];split at h
  ·rename_i a cN C E;obtain⟨x,q,m⟩:=qp C p w;obtain⟨y,v,o⟩:=qp E s w;split at h
   ·rename_i d;have l:=j _ _ _ _ _ _ d m o;have F:=Mw w e n eq jn j p s k (i+1) b h;simp only[Sem.run_bind,q,v,l,Result.andThen_ok,Qaa,BC,if_false,Sem.run_pure];exact F
   ·rename_i d;have l:=j _ _ _ _ _ _ d m o;simp at h;subst h;simp only[Sem.run_bind,q,v,l,Result.andThen_ok,YZ,if_true,Sem.run_pure];rfl
   ·cases h
  ·cases h
def Di(a b:List UInt8):((⟨a.toArray⟩:ByteArray)==⟨b.toArray⟩)=(a==b):=by
 have:((⟨a.toArray⟩:ByteArray)==⟨b.toArray⟩)=(a.toArray==b.toArray):=rfl;rw[this];simp
def Av(w:World):∀(d:Nat) (t:TypeId) (x y:aa) (j k:Value) (b:Bool),kW P d t x y=I b->bz ρ x j->bz ρ y k->
  (Op.equalIn d t j k).run P w= .ok b w
 |0,t,x,y,j,k,b,h,_,_=>by cases h
 |d+1,t,x,y,j,k,b,h,e,i=>by
  have p:=Av w d;unfold kW at h;unfold Op.equalIn;cases o:P.underlying t with
  |none=>rw[o]at h;cases h
  |some E=>
   rw[o]at h;simp only[Sem.run_bind,run_underlying o,Result.andThen_ok];split at h<;>(try (cases h;done))<;>(try simp only[aT]at*)<;>(try subst_vars)<;>(try (cases e;cases i;simp;done))
   ·cases e;cases i;split at h
    ·rename_i q;subst q;simp at h;subst h;simp
    ·cases h
   ·cases e;cases i;simp[Di]
   ·cases e with|agg _ B e=>cases i with|agg _ C i=>
    split at h
    ·cases h
    ·rename_i v;have z:P.stoodInHeld t=false:=by simpa using v
     have:=Cn w (kW P d) (Op.equalIn d) (λt a b x y c n l m=>p t a b x y c n l m) e i _ b h;simp only[Sem.run_bind,run_program,Result.andThen_ok,z,BC,if_false];rw[<-PQ,this];cases b<;>simp
   ·cases e with|agg _ B e=>cases i with|agg _ C i=>
    split at h
    ·rename_i A s;have:=Mw w _ A (kW P d) (Op.equalIn d) (λt a b x y c n l m=>p t a b x y c n l m) e i _ _ b h;simp only[Sem.run_bind,run_sizeOf s,Result.andThen_ok];rw[Std.Legacy.Range.forIn_eq_forIn_range'];simp only[Std.Legacy.Range.size,Qab,Nat.add_sub_cancel,Nat.div_one]at this ⊢;rw[this];cases b<;>simp
    ·cases h
def St{op:BinOp}{k:IntKind}{a b:Int}{v:aa}(h:hC op k a b=I v)(t:TypeId)(w:World):
  ∃r,(binOp op t (.int k a) (.int k b)).run P w= .ok r w/\bz ρ v r:=by
 unfold hC at h;cases op<;>simp only at h<;>(try (cases h;done))<;>(try (simp only[aT]at h;subst h))<;>
  (try (exact⟨_,by simp only[binOp,ne_eq,not_true_eq_false,if_false,Op.intArith,Op.intBits,Op.intCmp];exact Sem.run_pure ..,by first|exact .int _ _|exact .bool _⟩))
 ·split at h
  ·cases h
  ·rename_i c;simp only[aT]at h;subst h;exact⟨_,by simp only[binOp,ne_eq,not_true_eq_false,if_false,Op.intDiv,c];exact Sem.run_pure ..,.int _ _⟩
 ·split at h
  ·cases h
  ·rename_i c;simp only[aT]at h;subst h;exact⟨_,by simp only[binOp,ne_eq,not_true_eq_false,if_false,Op.intDiv,c];exact Sem.run_pure ..,.int _ _⟩
def I6{op:BinOp}{k d:IntKind}{a b:Int}{v:aa}(h:qK op k a b=I v)(t:TypeId)(w:World):
  ∃r,(binOp op t (.int k a) (.int d b)).run P w= .ok r w/\bz ρ v r:=by
 unfold qK at h;split at h
 ·cases h
 ·rename_i c;cases op<;>simp only at h<;>(try (cases h;done))<;>simp only[aT]at h<;>subst h
  ·exact⟨_,by simp only[binOp,Op.shift,if_neg c];exact Sem.run_pure ..,.int _ _⟩
  ·exact⟨_,by simp only[binOp,Op.shift,if_neg c];exact Sem.run_pure ..,.int _ _⟩
def toList_mk(a:List UInt8):(⟨a.toArray⟩:ByteArray).toList=a:=by rw[ByteArray.toList_eq]
def Ts(a b:List UInt8):(⟨a.toArray⟩++⟨b.toArray⟩:ByteArray)=⟨(a++b).toArray⟩:=by
 apply ByteArray.ext;simp
def abl{op:BinOp}{a b:List UInt8}{v:aa}(h:uU op a b=I v)(t:TypeId)(w:World):
  ∃r,(binOp op t (.string ⟨a.toArray⟩) (.string ⟨b.toArray⟩)).run P w= .ok r w/\bz ρ v r:=by
 unfold uU at h;unfold binOp;cases op<;>simp only at h<;>(try (cases h;done))<;>(try (simp only[aT]at h;subst h))<;>
  (try (exact⟨_,by simp only[Op.stringOp,toList_mk];exact Sem.run_pure ..,.bool _⟩))
 split at h
 ·rename_i ak;simp only[aT]at h;subst h;refine⟨.string ⟨(a++b).toArray⟩,?_,.str _⟩;simp only[Op.stringOp];rw[if_neg,Ts]
  ·exact Sem.run_pure ..
  ·have e:IntKind.i64.max=9223372036854775807:=rfl;have ap:(⟨a.toArray⟩:ByteArray).size=a.length:=by show a.toArray.size=_;simp
   have aE:(⟨b.toArray⟩:ByteArray).size=b.length:=by show b.toArray.size=_;simp
   rw[e,ap,aE];omega
 ·cases h
def At{op:BinOp}{t:TypeId}{a c:Operand}{x y:aa}{e i:Value}(h:ov P t a c x y=Y)(k:bz ρ x e)(d:bz ρ y i)(w:World):
  (eqGuard op t a c e i).run P w= .ok () w:=by
 have j:a.vE||c.vE=Y->(eqGuard op t a c .nilIface .nilIface).run P w= .ok () w:=by
  intro h;cases op<;>first
   |rfl
   |(cases a<;>cases c<;>first|rfl|(simp[Operand.vE]at h;done))
 cases k with
 |nilIface=>
  cases d with
  |nilIface=>
   refine j ?_;simp only[ov]at h;cases a<;>cases c<;>simp_all[isConst,Operand.vE]
  |_=>cases op<;>rfl
 |agg cs xs m=>
  cases d with
  |agg l o n=>
   simp only[ov,Bool.not_eq_true']at h;cases op<;>first|rfl|simp[eqGuard,h]
  |_=>cases op<;>rfl
 |_=>cases d<;>cases op<;>rfl
def binOp_eql{x y:aa}{c d:Value}(h:bz ρ x c)(i:bz ρ y d)(e:∀k a j b,x= .int k a->y= .int j b->False)(au:∀a b,x= .str a->y= .str b->False)(t:TypeId):
  binOp .eql t c d=(do pure (.bool (<-Op.equal t c d)))/\binOp .neq t c d=(do pure (.bool (!(<-Op.equal t c d)))):=by
 cases h<;>cases i<;>first
  |exact⟨rfl,rfl⟩
  |exact(e _ _ _ _ rfl rfl).elim
  |exact(au _ _ rfl rfl).elim
def Pf{op:BinOp}{t:TypeId}{l m:Operand}{x y v:aa}{i j:Value}(h:sO P op t l m x y=I v)(c:bz ρ x i)(d:bz ρ y j)(w:World):
  ∃r,((do eqGuard op t l m i j;binOp op t i j:Sem Value)).run P w= .ok r w/\bz ρ v r:=by
 have AT:∀k a e b,(eqGuard op t l m (.int k a) (.int e b)).run P w= .ok () w:=λk a e b=>At (ρ:=ρ) (x:= .int k a) (y:= .int e b) rfl (.int _ _) (.int _ _) w
 have AU:∀a b,(eqGuard op t l m (.string ⟨a⟩) (.string ⟨b⟩)).run P w= .ok () w:=λa b=>by
  unfold eqGuard;split<;>rfl
 unfold sO at h;split at h
 ·cases c;cases d;rename_i k a e b;simp only[Sem.run_bind,AT,Result.andThen_ok];split at h
  ·exact I6 h t w
  ·exact I6 h t w
  ·split at h
   ·rename_i z;subst z;exact St h t w
   ·cases h
 ·cases c;cases d;simp only[Sem.run_bind,AU,Result.andThen_ok];exact abl h t w
 ·rename_i A B;obtain⟨ap,aE⟩:=binOp_eql c d (λk a e b n o=>A _ _ _ _ n o) (λa b n o=>B _ _ n o) t;split at h
  ·split at h
   ·rename_i s;rw[Sem.run_bind,At s c d w,Result.andThen_ok];simp only[de]at h;obtain⟨b,p,rfl⟩:=h;have q:(Op.equal t i j).run P w= .ok b w:=Av (ρ:=ρ) w _ _ _ _ _ _ _ p c d;exact⟨.bool b,by rw[ap,Sem.run_bind,q];rfl,.bool b⟩
   ·cases h
  ·split at h
   ·rename_i s;rw[Sem.run_bind,At s c d w,Result.andThen_ok];simp only[de]at h;obtain⟨b,p,rfl⟩:=h;have q:(Op.equal t i j).run P w= .ok b w:=Av (ρ:=ρ) w _ _ _ _ _ _ _ p c d;exact⟨.bool (!b),by rw[aE,Sem.run_bind,q];rfl,.bool _⟩
   ·cases h
  ·cases h
def P9{op:UnOp}{x v:aa}{c:Value}(h:cI op x=I v)(a:bz ρ x c)(w:World):∃r,(Op.unary op c).run P w= .ok r w/\bz ρ v r:=by
 unfold cI at h;split at h
 ·cases a;simp only[aT]at h;subst h;exact⟨_,by simp only[Op.unary,Op.intArith];exact Sem.run_pure ..,.int _ _⟩
 ·cases a;simp only[aT]at h;subst h;exact⟨_,by simp only[Op.unary];exact Sem.run_pure ..,.bool _⟩
 ·cases h
end
section
variable {P:Program}{ρ:Env}{H:ad}{w:World}
def iG(c:Array Value)(o:Nat):List Value->Array Value
 |[]=>c
 |v::r=>iG (c.setIfInBounds o v) (o+1) r
def tJ:∀(a:List Value) (c:Array Value) (o:Nat),(iG c o a).size=c.size
 |[],_,_=>rfl
 |v::r,c,o=>by rw[iG,tJ r];simp
def rm:∀(a:List Value) (c:Array Value) (o k:Nat),k<o\/o+a.length<=k->(iG c o a)[k]? =c[k]?
 |[],_,_,_,_=>rfl
 |v::r,c,o,k,h=>by
  rw[iG,rm r _ _ _ (by simp at h;omega)];rw[ij];have:¬o=k:=by simp at h;omega
  simp[this]
def ws:∀(a:List Value) (c:Array Value) (o j:Nat) (x:Value),a[j]? =I x->o+j<c.size->(iG c o a)[o+j]? =I x
 |[],_,_,_,_,h,_=>by simp at h
 |v::r,c,o,0,x,h,ak=>by
  simp at h;subst h;rw[iG,rm r _ _ _ ae,ij];simp;omega
 |v::r,c,o,j+1,x,h,ak=>by
  rw[iG,show o+(j+1)=o+1+j by omega];exact ws r _ _ _ _ (by simpa using h) (by simp;omega)
def C7(b:Nat):∀(d:List Value) (o:Nat) (w:World) (c:Array Value) (t:TypeId) (a:Nat×Nat),w.heap[b]? =I (.cells c t a)->
  (w.setCells b o d).heap[b]? =I (.cells (iG c o d) t a)
 |[],_,_,_,_,_,h=>h
 |v::r,o,w,c,t,a,h=>by
  rw[World.setCells,iG];refine C7 b r (o+1) _ _ t a ?_;simp[World.setCell,HI,h]
def p7(b:Nat):∀(a:List Value) (o:Nat) (w:World) (k:Nat),k≠b->(w.setCells b o a).heap[k]? =w.heap[k]?
 |[],_,_,_,_=>rfl
 |v::r,o,w,k,h=>by
  rw[World.setCells,p7 b r _ _ _ h];simp[World.setCell,HI,Ne.symm h]
def C8(b:Nat):∀(e:List Value) (o:Nat) (w:World),(w.setCells b o e).heap.size=w.heap.size/\(w.setCells b o e).os=w.os/\(w.setCells b o e).tape=w.tape/\(w.setCells b o e).output=w.output
 |[],_,_=>⟨rfl,rfl,rfl,rfl⟩
 |v::r,o,w=>by
  rw[World.setCells];obtain⟨a,b,c,d⟩:=C8 b r (o+1) (w.setCell ⟨b,o,u⟩ v);exact⟨a.trans (by simp[World.setCell]),b,c,d⟩
def hc.cell{a:Loc}{ro:Bool}{esz:Nat}{els:List (List aa)}(h:hc ρ w a ro esz els){i:Nat}{e:List aa}(n:els[i]? =I e){j:Nat}{v:aa}(o:e[j]? =I v):
  ∃x,w.cell? ⟨a.block,a.off+i*a.esz+j,u⟩=I x/\bz ρ v x/\v.one=true:=by
 obtain⟨rfl,c,t,p,m,_,d⟩:=h;obtain⟨_,k⟩:=d i e n;obtain⟨l,x,k,d⟩:=k j v o;exact⟨x,by simp[World.cell?,m,k],d,l⟩
def A(P:Program)(H:ad)(t:TypeId)(a:aa):Option aa:=
 match a with
 | .ptr l i c=>
  (match H.get l with
  |some (.row _ esz els)=>
   (match els[i]?,x P t with
   |some e,I X=>e[c]?
   |some e,I Y=>(match cS P t with|some n=>if c+n<=esz then I (.agg ((e.drop c).take n))else u|none=>u)
   |_,_=>u)
  |_=>u)
 |_=>u
def addr_add(b o j:Nat):(⟨b,o,u⟩:Addr).add j=⟨b,o+j,u⟩:=by
 unfold Addr.add;split<;>simp_all
def Em(G:Rel ρ H w){t:TypeId}{a v:aa}{x:Value}(h:A P H t a=I v)(S:bz ρ a x):
  ∃r,(Instr.loadAt t x).run P w= .ok r w/\bz ρ v r:=by
 unfold A at h;split at h
 ·rename_i l i c;cases S with|ptr _ _ _ k ak=>
  split at h
  ·rename_i ro esz els L;obtain⟨V,O,C⟩:=G.row _ _ _ _ L;obtain rfl:k=V:=Option.some.inj (ak.symm.trans O);split at h
   ·rename_i e q p;obtain⟨x,B,E,_⟩:=C.cell q h;refine⟨x,?_,E⟩;simp[Instr.loadAt,Instr.sureAddr,loadVar,wB p,run_load,B]
   ·rename_i e q p;split at h
    ·rename_i n F;split at h
     ·rename_i ad;simp only[aT]at h;subst h;have af:e.length=esz:=by obtain⟨_,c',ah,W,_,_,R⟩:=C;exact(R i e q).1
      have K:∃xs:List Value,xs.length=n/\b1 ρ ((e.drop c).take n) xs/\∀j y,xs[j]? =I y->w.cell? ⟨k.block,k.off+i*k.esz+c+j,u⟩=I y:=by
       clear p F
       induction n with
       |zero=>exact⟨[],rfl,by simpa using b1.nil,λj y d=>by simp at d⟩
       |succ n T=>
        obtain⟨xs,o,s,z⟩:=T ae;have M:c+n<e.length:=ae;obtain⟨x,B,E,_⟩:=C.cell q (j:=c+n) (v:=e[c+n]) (by simp[M]);refine⟨xs++[x],by simp[o],?_,?_⟩
        ·rw[List.take_succ_eq_append_getElem (by simp;omega)];refine s.append (.cons _ _ _ _ ?_ .nil);simpa using E
        ·intro j y d;by_cases N:j<xs.length
         ·rw[cd N]at d;exact z j y d
         ·rw[ef ae]at d;have:j=n:=by
           by_cases ab:j-xs.length=0
           ·omega
           ·obtain⟨m,Q⟩:∃m,j-xs.length=m+1:=⟨j-xs.length-1,ae⟩;rw[Q]at d;simp at d
          subst this;simp[o]at d;subst d;rw[<-B,zA]
      obtain⟨xs,o,s,z⟩:=K;refine⟨.agg xs.toArray,?_,.agg _ _ s⟩;have:=run_loadCells_list (P:=P) w ⟨k.block,k.off+i*k.esz+c,u⟩ xs (λj y d=>by rw[addr_add];exact z j y d);rw[o]at this;simp[Instr.loadAt,Instr.sureAddr,loadVar,wB p,run_sizeOf F,this]
     ·cases h
    ·cases h
   ·cases h
  ·cases h
 ·cases h
def cD(e:List aa)(c:Nat)(cs:List aa):List aa:=e.take c++cs++e.drop (c+cs.length)
def M5{e:List aa}{c:Nat}{cs:List aa}(h:c+cs.length<=e.length):(cD e c cs).length=e.length:=by
 simp[cD];omega
def M4{e:List aa}{c:Nat}{cs:List aa}(h:c+cs.length<=e.length){j:Nat}(a:c<=j)(d:j<c+cs.length):(cD e c cs)[j]? =cs[j-c]? :=by
 unfold cD;rw[UV,ef (by simp;omega),cd (by simp;omega)]
 congr 1;simp;omega
def M6{e:List aa}{c:Nat}{cs:List aa}(h:c+cs.length<=e.length){j:Nat}(a:j<c\/c+cs.length<=j):(cD e c cs)[j]? =e[j]? :=by
 unfold cD;rcases a with a|a
 ·rw[UV,cd (by simp;omega),List.getElem?_take_of_lt a]
 ·rw[ef (by simp;omega),QR]
  congr 1;simp;omega
def tp{a b n:Nat}(h:a<b):a*n+n<=b*n:=by
 have:=lm n (Nat.succ_le_of_lt h);rw[uv]at this;exact this
def ab3(y:Rel ρ H w){l esz:Nat}{els:List (List aa)}(q:H.get l=I (.row X esz els)){a:Loc}(ak:ρ l=I a){i:Nat}{e:List aa}(z:els[i]? =I e)
  {c:Nat} {cs:List aa} {xs:List Value} (aN:c+cs.length<=esz) (s:∀v∈cs,v.one=Y) (af:b1 ρ cs xs):
  Step ρ H w ρ (H.set l (.row X esz (els.set i (cD e c cs)))) (w.setCells a.block (a.off+i*a.esz+c) xs):=by
 have V:=ad.aF q;obtain⟨d,o,A,K,t,al,S,ar,G⟩:=y.row _ _ _ _ q;obtain rfl:a=d:=Option.some.inj (ak.symm.trans o);have ap:=(G i e z).1;have au:i<els.length:=by
  rcases kl i els.length with h|h
  ·exact h
  ·rw[bc h]at z;cases z
 have ai:=af.length;have W:∀l' d,H.live l'->l'≠l->ρ l'=I d->d.block≠a.block:=λl' d h aU o aq=>
  y.apart l l' a d (.inl ⟨_,_,q⟩) h (Ne.symm aU) ak o aq.symm
 have ab:∀l',(H.set l (.row X esz (els.set i (cD e c cs)))).rw l'->H.rw l':=by
  intro l' h;by_cases k:l=l'
  ·subst k;exact .inl ⟨_,_,q⟩
  ·simpa [ad.rw,ad.get_set_other k]using h
 have ay:∀l',(H.set l (.row X esz (els.set i (cD e c cs)))).live l'->H.live l':=by
  intro l' h;by_cases k:l=l'
  ·subst k;exact .inl ⟨_,_,_,q⟩
  ·simpa [ad.live,ad.get_set_other k]using h
 obtain⟨s1,aH,aJ,ho⟩:=C8 a.block xs (a.off+i*a.esz+c) w;refine⟨ρ.le_refl,aV _,λ_ _=>rfl,⟨?_,?_,?_⟩,aH,aJ,ho,Qac s1.symm,?_,?_,ad.Mj rfl⟩
 ·intro l' aQ aM aL h;by_cases k:l=l'
  ·subst k;rw[ad.get_set_same V]at h;simp only[aT,b_.row.injEq]at h;obtain⟨rfl,rfl,rfl⟩:=h;refine⟨a,ak,A,_,t,al,C7 _ _ _ _ _ _ _ S,?_,?_⟩
   ·intro _;rw[tJ];exact ar rfl
   ·intro aj R p;rw[List.getElem?_set]at p;by_cases M:i=aj
    ·subst M;rw[if_pos rfl,if_pos au]at p;simp only[aT]at p;subst p;have O:c+cs.length<=e.length:=ae;refine⟨by rw[M5 O];exact ap,?_⟩;intro j v m;by_cases T:c<=j/\j<c+cs.length
     ·rw[M4 O T.1 T.2]at m;obtain⟨x,E,C⟩:=af.get _ _ m;refine⟨s v (gh m),x,?_,C⟩;have ao:=(G i e z).2 j (e[j]'ae) (by simp);obtain⟨_,F,ah,_⟩:=ao;have aP:a.off+i*esz+j<K.size:=by
       rcases kl (a.off+i*esz+j) K.size with h|h
       ·exact h
       ·rw[xy h]at ah;cases ah
      have:=ws xs K (a.off+i*a.esz+c) (j-c) x E (by rw[A];omega);rw[show a.off+i*esz+j=a.off+i*a.esz+c+(j-c) by rw[A];omega];exact this
     ·rw[M6 O ae]at m;obtain⟨aI,x,E,C⟩:=(G i e z).2 j v m;refine⟨aI,x,?_,C⟩;rw[rm _ _ _ _ (by rw[A,<-ai];omega)];exact E
    ·rw[if_neg M]at p;obtain⟨a0,aI⟩:=G aj R p;refine⟨a0,λj v m=> ?_⟩;obtain⟨bf,x,E,C⟩:=aI j v m;refine⟨bf,x,?_,C⟩;have aO:j<esz:=by
      rcases kl j R.length with h|h
      ·omega
      ·rw[bc h]at m;cases m
     rw[rm _ _ _ _ ?_]
     ·exact E
     ·rw[A,<-ai];rcases Nat.lt_or_gt_of_ne M with h|h
      ·have:=tp (n:=esz) h;omega
      ·have:=tp (n:=esz) h;omega
  ·rw[ad.get_set_other k]at h;obtain⟨d,o,N⟩:=y.row _ _ _ _ h;refine⟨d,o,?_⟩;have B:=W l' d (.inl ⟨_,_,_,h⟩) (Ne.symm k) o;obtain⟨aE,c',aK,am,P,Q,aG⟩:=N;exact⟨aE,c',aK,am,by rw[p7 _ _ _ _ _ B];exact P,Q,aG⟩
 ·intro l' es h;by_cases k:l=l'
  ·subst k;rw[ad.get_set_same V]at h;cases h
  ·rw[ad.get_set_other k]at h;obtain⟨d,o,N⟩:=y.map _ _ h;have B:=W l' d (.inr ⟨_,h⟩) (Ne.symm k) o;obtain⟨ents,clock,P,Q⟩:=N;exact⟨d,o,ents,clock,by rw[p7 _ _ _ _ _ B];exact P,Q⟩
 ·intro aA aB aC aD s L B av aw;exact y.apart aA aB aC aD (ab _ s) (ay _ L) B av aw
 ·intro b S az;refine p7 _ _ _ _ _ ?_;rintro rfl;exact az ⟨l,a,.inl ⟨_,_,q⟩,ak,rfl⟩
 ·rintro b ⟨l',d,s,L,an⟩;exact .inl ⟨l',d,ab _ s,L,an⟩
def aB(P:Program)(H:ad)(t:TypeId)(a v:aa):Option ad:=
 match a with
 | .ptr l i c=>
  (match H.get l with
  |some (.row X esz els)=>
   (match els[i]? with
   |some e=>if cS P t=I v.cells.length/\c+v.cells.length<=esz/\v.cells.all aa.one=Y then I (H.set l (.row X esz (els.set i (cD e c v.cells))))else u
   |none=>u)
  |_=>u)
 |_=>u
def P4(s:Rel ρ H w){t:TypeId}{a v:aa}{x y:Value}{H':ad}(h:aB P H t a v=I H')(ah:bz ρ a x)(ai:bz ρ v y):
  ∃K,(Instr.storeAt t x y).run P w= .ok () K/\Step ρ H w ρ H' K:=by
 unfold aB at h;split at h
 ·rename_i l i c;cases ah with|ptr _ _ _ d ak=>
  split at h
  ·rename_i esz els A;split at h
   ·rename_i e q;split at h
    ·rename_i M;obtain⟨au,L,T⟩:=M;simp only[aT]at h;subst h;have C:∀k∈v.cells,k.one=true:=by simpa using T
     have p:=ai.cells;refine⟨_,?_,ab3 s A ak q L C p⟩;obtain⟨aj,Q,F⟩:=s.row _ _ _ _ A;obtain rfl:d=aj:=Option.some.inj (ak.symm.trans Q);have R:=p.length;have ao:=F;obtain⟨N,o,ap,am,z,O,E⟩:=F;have an:=(E i e q).1;have G:∀j,j<y.cells.toList.length->∃k,o[d.off+i*d.esz+c+j]? =I k:=by
      intro j m;obtain⟨_,k,n,_⟩:=(E i e q).2 (c+j) (e[c+j]'ae) (by simp);exact⟨k,by rw[N,zA];exact n⟩
     have V:=run_storeCells_cells (P:=P) d.block (d.off+i*d.esz+c) y.cells.toList 0 w
      (λj m=>by obtain⟨k,n⟩:=G j m;simp[World.cell?,z,n])
      (λj m=>by
       obtain⟨k,n⟩:=G j m;have S:d.off+i*d.esz+c+j<o.size:=by
        rcases kl (d.off+i*d.esz+c+j) o.size with h|h
        ·exact h
        ·rw[xy h]at n;cases n
       have:=(O rfl).2 _ S;simp only[World.frozen?,z,VW];simpa using this)
      (λk n=>by
       obtain⟨j,m⟩:=rs n;have B:j<v.cells.length:=by
        rcases kl j y.cells.toList.length with h|h
        ·omega
        ·rw[bc h]at m;cases m
       obtain⟨al,ab,af⟩:=p.get j _ (List.getElem?_eq_getElem B);obtain rfl:k=al:=Option.some.inj (m.symm.trans ab);exact af.K6 (C _ (List.getElem_mem B)))
     have W:y.cells.size=v.cells.length:=by rw[R];simp
     simp only[Instr.storeAt,Instr.sureAddr,Sem.run_bind,Sem.run_pure,Result.andThen_ok,storeVar,run_sizeOf au,W,ne_eq,not_true_eq_false,if_false];simpa using V
    ·cases h
   ·cases h
  ·cases h
 ·cases h
end
def Env.eM(ρ:Env)(l:Nat)(a:Loc):Env:=λk=>if k=l then I a else ρ k
def Env.hs(ρ:Env)(l:Nat)(a:Loc):ρ.eM l a l=I a:=by simp[Env.eM]
def Env.hr{ρ:Env}{l k:Nat}{a:Loc}(h:k≠l):ρ.eM l a k=ρ k:=by simp[Env.eM,h]
def Env.lT{ρ:Env}{l:Nat}(h:ρ l=u)(c:Loc):ρ.le (ρ.eM l c):=by
 intro k x a;by_cases e:k=l
 ·subst e;rw[h]at a;cases a
 ·rw[Env.hr e];exact a
section
variable {P:Program}{ρ:Env}{H:ad}{w:World}
def heap_alloc_old(w:World)(o:Obj){k:Nat}(h:k<w.heap.size):(w.alloc o).heap[k]? =w.heap[k]? :=by
 show(w.heap.push o)[k]? =_;rw[Array.getElem?_push,if_neg ae]
def heap_alloc_new(w:World)(o:Obj):(w.alloc o).heap[w.heap.size]? =I o:=by
 show(w.heap.push o)[w.heap.size]? =_;simp
def Sa(w:World)(o:Obj):(w.alloc o).heap.size=w.heap.size+1:=by
 show(w.heap.push o).size=_;simp
def kk{w:World}{k:Nat}{o:Obj}(h:w.heap[k]? =I o):k<w.heap.size:=by
 rcases kl k w.heap.size with aU|aU
 ·exact aU
 ·rw[xy aU]at h;cases h
def AH{esz:Nat}:∀{els:List (List aa)},(∀e∈els,e.length=esz)->∀{i:Nat} {e:List aa},els[i]? =I e->∀{j:Nat} {v:aa},e[j]? =I v->els.flatten[i*esz+j]? =I v
 |[],_,_,_,h,_,_,_=>by simp at h
 |d::els,ak,0,e,h,j,v,a=>by
  simp at h;subst h;have k:j<d.length:=by
   rcases kl j d.length with h|h
   ·exact h
   ·rw[bc h]at a;cases a
  simp only[pq,Nat.zero_mul,yz];rw[cd k];exact a
 |d::els,ak,i+1,e,h,j,v,a=>by
  have l:d.length=esz:=ak d (by simp);have:=AH (els:=els) (λe c=>ak e (AB _ c)) (i:=i) (by simpa using h) a;simp only[pq];rw[ef (by rw[uv];omega)];rw[<-this];congr 1;rw[uv];omega
def MB{H:ad}{b:b_}{l:Nat}(h:(H.push b).rw l):l=H.next\/H.rw l:=by
 by_cases e:l=H.next
 ·exact .inl e
 ·exact .inr (by simpa [ad.rw,ad.dv e]using h)
def JV{H:ad}{b:b_}{l:Nat}(h:(H.push b).live l):l=H.next\/H.live l:=by
 by_cases e:l=H.next
 ·exact .inl e
 ·exact .inr (by simpa [ad.live,ad.dv e]using h)
def Rel.Qr(j:Rel ρ H w){l:Nat}(h:H.live l){a:Loc}(ak:ρ l=I a):a.block<w.heap.size:=by
 rcases h with⟨ro,esz,els,h⟩|⟨es,h⟩
 ·obtain⟨i,e,_,c,t,k,d,_⟩:=j.row _ _ _ _ h;obtain rfl:a=i:=Option.some.inj (ak.symm.trans e);exact kk d
 ·obtain⟨i,e,ents,clock,d,_⟩:=j.map _ _ h;obtain rfl:a=i:=Option.some.inj (ak.symm.trans e);exact kk d
def B7(s:Rel ρ H w)(L:ρ H.next=u)(b:b_)(Q:b.vG=X)(o:Obj)(n:Loc)(ab:n.block=w.heap.size)
  (R:∀ro esz els,b= .row ro esz els->hc (ρ.eM H.next n) (w.alloc o) n ro esz els) (O:∀es,b= .map es->zF (ρ.eM H.next n) (w.alloc o) n es):
  Step ρ H w (ρ.eM H.next n) (H.push b) (w.alloc o):=by
 have y:=Env.lT L n;have E:∀l p,H.live l->ρ.eM H.next n l=I p->p.block<w.heap.size:=λl p h aU=>by
  have z:l≠H.next:=by
   rintro rfl;rcases h with⟨_,_,_,h⟩|⟨_,h⟩<;> ·have:=ad.aF h;omega
  rw[Env.hr z]at aU;exact s.Qr h aU
 refine⟨y,by simp,λl ak=>Env.hr (by simp at ak;omega),⟨?_,?_,?_⟩,rfl,rfl,rfl,by rw[Sa];omega,λk N _=>heap_alloc_old w o N,?_,ad.Mi Q⟩
 ·intro l ro esz els h;by_cases e:l=H.next
  ·subst e;rw[ad.a_]at h;exact⟨n,Env.hs _ _ _,R _ _ _ (Option.some.inj h)⟩
  ·rw[ad.dv e]at h;obtain⟨p,B,K,c,t,F,q,M,P⟩:=s.row _ _ _ _ h;refine⟨p,by rw[Env.hr e];exact B,K,c,t,F,by rw[heap_alloc_old w o (kk q)];exact q,M,?_⟩;intro i d G;obtain⟨m,a⟩:=P i d G;refine⟨m,λj v S=> ?_⟩;obtain⟨A,x,V,T⟩:=a j v S;exact⟨A,x,V,T.mono y⟩
 ·intro l es h;by_cases e:l=H.next
  ·subst e;rw[ad.a_]at h;exact⟨n,Env.hs _ _ _,O _ (Option.some.inj h)⟩
  ·rw[ad.dv e]at h;obtain⟨p,B,ents,clock,q,m,a⟩:=s.map _ _ h;exact⟨p,by rw[Env.hr e];exact B,ents,clock,by rw[heap_alloc_old w o (kk q)];exact q,m.mono y,a.mono y⟩
 ·intro l l' W aa m a z ap aE;rcases MB m with rfl|m
  ·rcases JV a with rfl|a
   ·exact absurd rfl z
   ·rw[Env.hs]at ap;obtain rfl:=Option.some.inj ap;have:=E _ _ a aE;omega
  ·rcases JV a with rfl|a
   ·rw[Env.hs]at aE;obtain rfl:=Option.some.inj aE;have:=E _ _ m.live ap;omega
   ·have C:l≠H.next:=by
     rintro rfl;rcases m with⟨_,_,h⟩|⟨_,h⟩<;> ·have:=ad.aF h;omega
    have n2:l'≠H.next:=by
     rintro rfl;rcases a with⟨_,_,_,h⟩|⟨_,h⟩<;> ·have:=ad.aF h;omega
    rw[Env.hr C]at ap;rw[Env.hr n2]at aE;exact s.apart l l' W aa m a z ap aE
 ·rintro k ⟨l,p,m,a,A⟩;rcases MB m with rfl|m
  ·rw[Env.hs]at a;obtain rfl:=Option.some.inj a;exact .inr ae
  ·have C:l≠H.next:=by
    rintro rfl;rcases m with⟨_,_,h⟩|⟨_,h⟩<;> ·have:=ad.aF h;omega
   rw[Env.hr C]at a;exact .inl ⟨l,p,m,a,A⟩
def wr(m:Rel ρ H w)(d:ρ H.next=u){esz:Nat}{els:List (List aa)}(l:∀e∈els,e.length=esz)(p:∀e∈els,∀v∈e,v.one=Y)
  {xs tail:List Value} (q:b1 ρ els.flatten xs) (t:TypeId):
  Step ρ H w (ρ.eM H.next ⟨w.heap.size,0,esz,xs.length+tail.length⟩) (H.push (.row X esz els)) (w.alloc (.cells (xs++tail).toArray t)):=by
 refine B7 m d _ rfl _ _ rfl ?_ (λes h=>by cases h);intro ro z y h;simp only[b_.row.injEq]at h;obtain⟨rfl,rfl,rfl⟩:=h;refine⟨rfl,_,t,(0,0),heap_alloc_new _ _,λ_=>⟨by simp,λo _=>by simp⟩,?_⟩;intro i e a;refine⟨l e (gh a),λj v k=> ?_⟩;refine⟨p e (gh a) v (gh k),?_⟩;obtain⟨x,c,s⟩:=q.get _ _ (AH l a k);refine⟨x,?_,s.mono (Env.lT d _)⟩;have n:i*esz+j<xs.length:=by
  rcases kl (i*esz+j) xs.length with h|h
  ·exact h
  ·rw[bc h]at c;cases c
 simp only[yz,IJ];rw[cd n];exact c
def vZ:Value->Option aa
 | .bool b=>I (.bool b)
 | .int k n=>I (.int k n)
 | .string s=>I (.str s.data.toList)
 | .pointer u=>I .nilPtr
 | .slice u 0 0=>I .ag
 | .map u=>I .iE
 | .nilFunc=>I .nilFunc
 | .nilIface=>I .nilIface
 |_=>u
def tw:List Value->Option (List aa)
 |[]=>I []
 |v::r=>match vZ v,tw r with
  |some a,I l=>I (a::l)
  |_,_=>u
def tz:Value->Option aa
 | .agg cs=>(tw cs.toList).map .agg
 |v=>vZ v
def KS{v:Value}{a:aa}(h:vZ v=I a)(ρ:Env):bz ρ a v/\a.one=true:=by
 unfold vZ at h;split at h<;>first
  |(simp only[aT]at h;subst h;exact⟨by constructor,rfl⟩)
  |cases h
def KT:∀{c:List Value} {as:List aa},tw c=I as->∀ρ:Env,b1 ρ as c/\∀a∈as,a.one=Y
 |[],as,h,ρ=>by simp[tw]at h;subst h;exact⟨.nil,by simp⟩
 |v::r,as,h,ρ=>by
  unfold tw at h;split at h
  ·rename_i a l k ak;simp only[aT]at h;subst h;obtain⟨d,e⟩:=KS k ρ;obtain⟨i,j⟩:=KT ak ρ;exact⟨.cons _ _ _ _ d i,by simpa using⟨e,j⟩⟩
  ·cases h
def BF{v:Value}{a:aa}(h:tz v=I a)(ρ:Env):bz ρ a v:=by
 unfold tz at h;split at h
 ·simp only[de]at h;obtain⟨l,ak,rfl⟩:=h;have:=bz.agg _ _ (KT ak ρ).1;simpa using this
 ·exact(KS h ρ).1
def fV(P:Program)(t:TypeId):Option aa:=(P.info? t).bind λi=>i.zero.bind tz
def qu{t:TypeId}{z:aa}(h:fV P t=I z)(w:World):∃x,(zeroValue t).run P w= .ok x w/\∀ρ:Env,bz ρ z x:=by
 unfold fV at h;simp only[ct]at h;obtain⟨i,a,x,c,d⟩:=h;exact⟨x,by simp[zeroValue,typeInfo,a,c],λρ=>BF d ρ⟩
def qm(H:ad)(v:aa):Option (aa×ad):=
 if v.cells.all aa.one=Y then I (.ptr H.next 0 0,H.push (.row X v.cells.length [v.cells]))else u
def Eb(e:Rel ρ H w)(j:ρ H.next=u){v a:aa}{x:Value}{H':ad}(h:qm H v=I (a,H'))(l:bz ρ v x)(t:TypeId):
  ∃r c d,(Instr.box t x).run P w= .ok r c/\bz d a r/\Step ρ H w d H' c:=by
 unfold qm at h;split at h
 ·rename_i k;simp only[aT,bS]at h;obtain⟨rfl,rfl⟩:=h;have i:=l.cells;have au:=wr e j (esz:=v.cells.length) (els:=[v.cells]) (by simp) (by simpa using k) (xs:=x.cells.toList) (tail:=[]) (by simpa using i) t;refine⟨.pointer (I ⟨w.heap.size,0,u⟩),_,_,?_,?_,au⟩
  ·simp[Instr.box,newVar,newRow]
  ·simpa using bz.ptr (ρ:=ρ.eM H.next _) H.next 0 0 _ (Env.hs _ _ _)
 ·cases h
def va(P:Program)(H:ad)(t:TypeId):Option (aa×ad):=(fV P t).bind (qm H)
def Pd(k:Rel ρ H w)(l:ρ H.next=u){t:TypeId}{a:aa}{H':ad}(h:va P H t=I (a,H')):
  ∃r c d,(Instr.alloc t Y (.tuple #[])).run P w= .ok r c/\bz d a r/\Step ρ H w d H' c:=by
 unfold va at h;simp only[ct]at h;obtain⟨z,o,h⟩:=h;obtain⟨x,n,m⟩:=qu o w;obtain⟨r,c,d,e,i,j⟩:=Eb (P:=P) k l h (m ρ) t;refine⟨r,c,d,?_,i,j⟩;simp only[Instr.alloc,Sem.run_bind,n,Result.andThen_ok];simpa [Instr.box]using e
end
section
variable {P:Program}{ρ:Env}{H:ad}{w:World}
def qo(c:Nat->Option (Nat×Nat))(cells:List aa):List (Nat×aa)->Option (List aa)
 |[]=>I cells
 |(i,v)::rest=>
  match c i with
  |none=>u
  |some (a,size)=>if v.cells.length=size/\a+v.cells.length<=cells.length then qo c (cD cells a v.cells) rest else u
def AK:∀(d:List Value) (k a:Nat) (c:Array Value),(d.zipIdx k).foldl (λcs (x:Value×Nat)=>cs.setIfInBounds (a+x.2) x.1) c=iG c (a+k) d
 |[],_,_,_=>rfl
 |v::r,k,a,c=>by
  simp only[List.zipIdx_cons,List.foldl_cons,iG];rw[AK r (k+1) a];rfl
def M7{e:List aa}{xs:List Value}{c:Nat}{cs:List aa}{k:List Value}(o:b1 ρ e xs)(n:b1 ρ cs k)(h:c+cs.length<=e.length):
  b1 ρ (cD e c cs) (iG xs.toArray c k).toList:=by
 have q:=o.length;have s:=n.length;refine b1.K1 (by rw[M5 h];simp[tJ,q]) ?_;intro j v x d a;by_cases p:c<=j/\j<c+cs.length
 ·rw[M4 h p.1 p.2]at d;obtain⟨i,m,l⟩:=n.get _ _ d;have:=ws k xs.toArray c (j-c) i m (by simp;omega);rw[show c+(j-c)=j by omega]at this;simp only[JK]at a;obtain rfl:x=i:=Option.some.inj (a.symm.trans this);exact l
 ·rw[M6 h ae]at d;obtain⟨i,m,l⟩:=o.get _ _ d;have:=rm k xs.toArray c j ae;simp only[JK]at a;rw[this]at a;simp only[IJ]at a;obtain rfl:x=i:=Option.some.inj (a.symm.trans m);exact l
def qg(ρ:Env):List (Nat×aa)->List (Nat×Value)->Prop
 |[],[]=>True
 |(i,v)::r,(j,x)::s=>i=j/\bz ρ v x/\qg ρ r s
 |_,_=>False
def zP(k:Nat->Option (Nat×Nat)):∀(parts:List (Nat×aa)) (q:List (Nat×Value)) (cells d:List aa) (xs:List Value),qg ρ parts q->b1 ρ cells xs->
  qo k cells parts=I d->∃l:List Value,Instr.fill k xs.toArray q=I l.toArray/\b1 ρ d l
 |[],[],cells,d,xs,_,e,h=>by
  simp[qo]at h;subst h;exact⟨xs,rfl,e⟩
 |[],_::_,_,_,_,a,_,_=>a.elim
 |_::_,[],_,_,_,a,_,_=>a.elim
 |(i,v)::r,(j,x)::s,cells,d,xs,a,e,h=>by
  obtain⟨rfl,A,a⟩:=a;unfold qo at h;unfold Instr.fill;cases n:k i with
  |none=>rw[n]at h;cases h
  |some os=>
   obtain⟨p,size⟩:=os;rw[n]at h;simp only at h;split at h
   ·rename_i m;have o:=A.cells;have B:=o.length;have C:=e.length;have z:x.cells.size=v.cells.length:=by rw[B];simp
    have au:=M7 e o (c:=p) m.2;obtain⟨l,w,y⟩:=zP k r s _ d _ a au h;refine⟨l,?_,y⟩;simp only
    rw[if_neg (by simp[z,m.1];have:=m.2;omega)];have:=AK x.cells.toList 0 p xs.toArray;rw[VW]at this;rw[<-RS,LM,this];simpa using w
   ·cases h
def sS(P:Program):List Field->Option (List (Nat×Nat))
 |[]=>I []
 |f::a=>match cS P f.type,sS P a with
  |some n,I l=>I ((f.offset,n)::l)
  |_,_=>u
def Es(w:World):∀(a:List Field) (l:List (Nat×Nat)),sS P a=I l->(a.mapM (λf=>(do pure (f.offset,<-sizeOf f.type):Sem (Nat×Nat)))).run P w= .ok l w
 |[],l,h=>by simp[sS]at h;subst h;simp[Sem.run_pure]
 |f::a,l,h=>by
  unfold sS at h;split at h
  ·rename_i n l' c ak;simp only[aT]at h;subst h;have d:=Es w a l' ak;rw[List.mapM_cons];simp only[Sem.run_bind,run_sizeOf c,Result.andThen_ok,Sem.run_pure,d]
  ·cases h
def bA(P:Program)(t:TypeId)(parts:List (Nat×aa)):Option aa:=
 match fV P t,P.underlying t with
 |some z,I (.struct a)=>(match sS P a.toList with|some c=>(qo (c[·]?) z.cells parts).map .agg|none=>u)
 |some z,I (.array _ e)=>(match cS P e with|some n=>(qo (λi=>I (i*n,n)) z.cells parts).map .agg|none=>u)
 |_,_=>u
def Ph{t:TypeId}{parts:List (Nat×aa)}{d:List (Nat×Value)}{v:aa}(h:bA P t parts=I v)(y:qg ρ parts d)(w:World):
  ∃x,(Instr.build t d.toArray).run P w= .ok x w/\bz ρ v x:=by
 unfold bA at h;split at h
 ·rename_i z s m l;obtain⟨a,p,o⟩:=qu m w;split at h
  ·rename_i i C;simp only[de]at h;obtain⟨cs,k,rfl⟩:=h;obtain⟨q,c,j⟩:=zP _ parts d z.cells cs a.cells.toList y (o ρ).cells k;refine⟨.agg q.toArray,?_,.agg _ _ j⟩;have A:=Es (P:=P) w s.toList i C;have B:(s.mapM (λf=>(do pure (f.offset,<-sizeOf f.type):Sem (Nat×Nat)))).run P w= .ok i.toArray w:=by
    rw[Array.mapM_eq_mapM_toList];simp only[Sem.run_map,A,Result.andThen_ok]
   simp only[Instr.build,Sem.run_bind,p,Result.andThen_ok,run_underlying l,B];have e:(λx:Nat=>(i.toArray)[x]?)=(λx=>i[x]?):=by funext x;simp
   simp only[e];have aE:a.cells.toList.toArray=a.cells:=by simp
   rw[aE]at c;simp[c]
  ·cases h
 ·rename_i z n e m l;obtain⟨a,p,o⟩:=qu m w;split at h
  ·rename_i F E;simp only[de]at h;obtain⟨cs,k,rfl⟩:=h;obtain⟨q,c,j⟩:=zP _ parts d z.cells cs a.cells.toList y (o ρ).cells k;refine⟨.agg q.toArray,?_,.agg _ _ j⟩;have aE:a.cells.toList.toArray=a.cells:=by simp
   rw[aE]at c;simp[Instr.build,p,run_underlying l,run_sizeOf E,c]
  ·cases h
 ·cases h
def jg(esz:Nat):List (List aa)->List (Nat×aa)->Option (List (List aa))
 |els,[]=>I els
 |els,(i,v)::rest=>if v.cells.length=esz/\i<els.length/\v.cells.all aa.one=Y then jg esz (els.set i v.cells) rest else u
def sP(P:Program)(H:ad)(t:TypeId)(len:Nat)(parts:List (Nat×aa)):Option (aa×ad):=
 match P.underlying t with
 |some (.slice e)=>
  (match cS P e,fV P e with
  |some a,I z=>
   if len*a<=16777216/\z.cells.length=a/\z.cells.all aa.one=Y then
    (match jg a (jk len z.cells) parts with
    |some els=>I (.ax H.next 0 len a (I len),H.push (.row X a els))
    |none=>u)
   else u
  |_,_=>u)
 |_=>u
def m4{esz:Nat}:∀{els:List (List aa)},(∀e∈els,e.length=esz)->els.flatten.length=els.length*esz
 |[],_=>by simp
 |d::els,h=>by
  have:=m4 (els:=els) (λe a=>h e (AB _ a));simp only[pq,TU,this,h d (by simp),List.length_cons,uv];omega
def IQ{esz:Nat}:∀{els:List (List aa)} (i:Nat) (c:List aa),(∀e∈els,e.length=esz)->c.length=esz->i<els.length->(els.set i c).flatten=cD els.flatten (i*esz) c
 |[],_,_,_,_,h=>by simp at h
 |d::els,0,c,ak,a,_=>by
  have j:=ak d (by simp);simp[cD,a,<-j]
 |d::els,i+1,c,ak,a,h=>by
  have j:=ak d (by simp);have l:=IQ (els:=els) i c (λe k=>ak e (AB _ k)) a (by simpa using h);simp only[List.set_cons_succ,pq,l];unfold cD;rw[uv];have ap:List.take (i*esz+esz) (d++els.flatten)=d++els.flatten.take (i*esz):=by
   rw[List.take_append,List.take_of_length_le ae];congr 2;omega
  have aE:List.drop (i*esz+esz+c.length) (d++els.flatten)=els.flatten.drop (i*esz+c.length):=by
   rw[List.drop_append,List.drop_eq_nil_of_le ae,List.nil_append];congr 1;omega
  rw[ap,aE];simp
def EC(esz:Nat):∀(parts:List (Nat×aa)) (z:List (Nat×Value)) (els a:List (List aa)) (xs:List Value),qg ρ parts z->(∀e∈els,e.length=esz)->(∀e∈els,∀v∈e,v.one=Y)->
  b1 ρ els.flatten xs->jg esz els parts=I a->
   (∃n:List Value,Instr.fill (λi=>I (i*esz,esz)) xs.toArray z=I n.toArray/\b1 ρ a.flatten n)/\(∀e∈a,e.length=esz)/\(∀e∈a,∀v∈e,v.one=Y)/\a.length=els.length
 |[],[],els,a,xs,_,k,o,m,h=>by
  simp[jg]at h;subst h;exact⟨⟨xs,rfl,m⟩,k,o,rfl⟩
 |[],_::_,_,_,_,d,_,_,_,_=>d.elim
 |_::_,[],_,_,_,d,_,_,_,_=>d.elim
 |(i,v)::r,(j,x)::s,els,a,xs,d,k,o,m,h=>by
  obtain⟨rfl,L,d⟩:=d;unfold jg at h;split at h
  ·rename_i C;obtain⟨l,w,G⟩:=C;have H:∀q∈v.cells,q.one=true:=by simpa using G
   have y:=L.cells;have M:=y.length;have N:=m.length;have E:=m4 k;have F:i*esz+v.cells.length<=els.flatten.length:=by rw[E,l];exact tp w
   have au:=M7 m y (c:=i*esz) F;rw[<-IQ i v.cells k l w]at au;have A:∀e∈els.set i v.cells,e.length=esz:=λe p=>by
    rcases DE p with h|rfl
    ·exact k e h
    ·exact l
   have B:∀e∈els.set i v.cells,∀q∈e,q.one=true:=λe p=>by
    rcases DE p with h|rfl
    ·exact o e h
    ·exact H
   obtain⟨⟨n,ap,aE⟩,bB,cc,dk⟩:=EC esz r s _ a _ d A B au h;refine⟨⟨n,?_,aE⟩,bB,cc,by simpa using dk⟩;unfold Instr.fill;have K:x.cells.size=v.cells.length:=by rw[M];simp
   simp only
   rw[if_neg (by simp[K,l];omega)];have:=AK x.cells.toList 0 (i*esz) xs.toArray;rw[VW]at this;rw[<-RS,LM,this];simpa using ap
  ·cases h
def OT(z:Array Value)(n:Nat)(c:0<z.size):((KL (n*z.size)).map (z[· %z.size]!))=((jk n z.toList).flatten).toArray:=by
 apply Qae;apply EF;intro k;by_cases a:k<n*z.size
 ·have d:(Array.map (λx=>z[x%z.size]!) (KL (n*z.size))).toList[k]? =I z[k%z.size]! :=by
   simp[a]
  rw[d];symm;simp only
  have j:k/z.size<n:=by rw[Nat.div_lt_iff_lt_mul c];exact a
  have e:k%z.size<z.size:=XY _ c;have key:∀(n k:Nat),k<n*z.size->(jk n z.toList).flatten[k]? =z.toList[k%z.size]? :=by
   intro n
   induction n with
   |zero=>intro k h;omega
   |succ n i=>
    intro k h;rw[MN,pq];by_cases a:k<z.size
    ·rw[cd (by simpa using a),Nat.mod_eq_of_lt a]
    ·rw[ef (by simpa using a)];have:=i (k-z.size) (by rw[uv]at h;omega);simp only[vw];rw[this,<-Nat.mod_eq_sub_mod ae]
  rw[key n k a];simp[e]
 ·rw[bc (by simp;omega),bc (by simp;omega)]
def b1.AI{a:List aa}{xs:List Value}(h:b1 ρ a xs):∀n,b1 ρ (jk n a).flatten (jk n xs).flatten
 |0=>by simpa using b1.nil
 |n+1=>by simpa [MN]using h.append (b1.AI h n)
def Pg(B:Rel ρ H w)(F:ρ H.next=u){t:TypeId}{len:Nat}{parts:List (Nat×aa)}{m:List (Nat×Value)}{a:aa}{H':ad}(h:sP P H t len parts=I (a,H'))(M:qg ρ parts m):
  ∃r s x,(Instr.buildSlice t len m.toArray).run P w= .ok r s/\bz x a r/\Step ρ H w x H' s:=by
 unfold sP at h;split at h
 ·rename_i e R;split at h
  ·rename_i c z Q T;split at h
   ·rename_i C;obtain⟨ae,q,K⟩:=C;split at h
    ·rename_i els E;simp only[aT,bS]at h;obtain⟨rfl,rfl⟩:=h;obtain⟨d,W,V⟩:=qu T w;have L:∀ab∈z.cells,ab.one=true:=by simpa using K
     have p:=(V ρ).cells;have j:d.cells.size=c:=by have:=p.length;rw[<-q,this];simp
     have O:=b1.AI p len;obtain⟨⟨v,k,n⟩,o,y,A⟩:=EC c parts m _ els _ M (λe l=>by rw[mn l];exact q)
      (λe l=>by rw[mn l];exact L) O E
     have au:=wr B F o y n (tail:=[]) e;have S:v.length=len*c:=by
      rw[<-n.length,m4 o,A];simp
     refine⟨.slice (I ⟨w.heap.size,0,u⟩) len len,_,_,?_,?_,au⟩
     ·simp only[Instr.buildSlice,Sem.run_bind,run_underlying R,Result.andThen_ok,run_sizeOf Q];rw[if_neg (by show¬(len*c>2^24);omega)];by_cases i:len*c=0
      ·simp only[i,if_true,Sem.run_bind,Sem.run_pure,Result.andThen_ok];have G:(jk len d.cells.toList).flatten=[]:=by
        have:((jk len d.cells.toList).flatten).length=0:=by simp[j,i]
        exact fg this
       rw[G]at k;have aN:KL 0= #[]:=rfl;simp[k,newRow,aN]
      ·simp only[i,if_false,Sem.run_bind,W,Result.andThen_ok,Sem.run_pure];have N:0<d.cells.size:=by
        rcases wx d.cells.size with h|h
        ·rw[j]at h;simp[h]at i
        ·exact h
       have:=OT d.cells len N;rw[j]at this;simp only[j,this];simp[k,newRow]
     ·refine bz.ax (ρ:=ρ.eM H.next _) H.next 0 len (I len) ⟨w.heap.size,0,c,v.length+0⟩ _ len (Env.hs _ _ _) (aV _) (by simp) (λ_=>⟨by simp,?_⟩)
      simp[S]
    ·cases h
   ·cases h
  ·cases h
 ·cases h
end
section
variable {P:Program}{ρ:Env}{H:ad}{w:World}
def ca(P:Program)(t:TypeId)(x:aa)(f:Nat):Option aa:=
 match P.underlying t,x with
 |some (.struct a),.agg cs=>(match a[f]? with|some d=>apart P d.type cs d.offset|none=>u)
 |_,_=>u
def Pp{t:TypeId}{x v:aa}{a:Value}{f:Nat}(h:ca P t x f=I v)(l:bz ρ x a)(w:World):∃r,(Instr.field t a f).run P w= .ok r w/\bz ρ v r:=by
 unfold ca at h;split at h
 ·rename_i m cs k;cases l with|agg _ xs i=>
  split at h
  ·rename_i d j;obtain⟨r,c,e⟩:=qp h i w;exact⟨r,by simp[Instr.field,run_underlying k,j,asAgg,c],e⟩
  ·cases h
 ·cases h
def j(P:Program)(t:TypeId)(x:aa)(f:Nat):Option aa:=
 match P.underlying t,x with
 |some (.struct a),.ptr l i c=>(match a[f]? with|some d=>(match cS P d.type with|some n=>if n=0 then u else I (.ptr l i (c+d.offset))|none=>u)|none=>u)
 |_,_=>u
def Po{t:TypeId}{x v:aa}{a:Value}{f:Nat}(h:j P t x f=I v)(p:bz ρ x a)(w:World):∃r,(Instr.fieldAt t a f).run P w= .ok r w/\bz ρ v r:=by
 unfold j at h;split at h
 ·rename_i s l i c o;cases p with|ptr _ _ _ q ak=>
  split at h
  ·rename_i d k;split at h
   ·rename_i n m;split at h
    ·cases h
    ·rename_i e;simp only[aT]at h;subst h;refine⟨_,?_,.ptr l i (c+d.offset) q ak⟩;simp[Instr.fieldAt,run_underlying o,k,Instr.sureAddr,fieldPlace,run_sizeOf m,e,addr_add,zA]
   ·cases h
  ·cases h
 ·cases h
def bX(P:Program)(t:TypeId)(x d:aa):Option aa:=
 match P.underlying t,x,d with
 |some (.slice e),.ax l i n esz _,.int _ k=>(match cS P e with|some a=>if a=esz/\0<=k/\k<n then I (.ptr l (i+k.toNat) 0)else u|none=>u)
 |some (.array len e),.ptr l i c,.int _ k=>(match cS P e with|some a=>if 0<=k/\k<len then I (.ptr l i (c+k.toNat*a))else u|none=>u)
 |_,_,_=>u
def Py{t:TypeId}{x z v:aa}{C A:Value}(h:bX P t x z=I v)(y:bz ρ x C)(s:bz ρ z A)(w:World):∃r,(Instr.indexAt t C A).run P w= .ok r w/\bz ρ v r:=by
 unfold bX at h;split at h
 ·rename_i e l i n esz cap F k q;cases s;cases y with|ax _ _ _ _ d a c ak H G E=>
  split at h
  ·rename_i B p;split at h
   ·rename_i o;obtain⟨rfl,j,m⟩:=o;simp only[aT]at h;subst h;obtain⟨rfl,_⟩:=E ae;refine⟨_,?_,.ptr l (i+k.toNat) 0 d ak⟩;have ap:d.off+i*d.esz+k.toNat*d.esz=d.off+(i+k.toNat)*d.esz+0:=by rw[hi];omega
    simp[Instr.indexAt,asIntOf,run_underlying q,j,m,run_sizeOf p,addr_add]
   ·cases h
  ·cases h
 ·rename_i len e l i c F k q;cases s;cases y with|ptr _ _ _ d ak=>
  split at h
  ·rename_i B p;split at h
   ·rename_i o;obtain⟨j,m⟩:=o;simp only[aT]at h;subst h;refine⟨_,?_,.ptr l i (c+k.toNat*B) d ak⟩;simp[Instr.indexAt,asIntOf,run_underlying q,Instr.sureAddr,j,m,run_sizeOf p,addr_add,zA]
   ·cases h
  ·cases h
 ·cases h
def eF(P:Program)(t:TypeId)(x a:aa):Option aa:=
 match P.underlying t,x,a with
 |some .string,.str s,.int _ k=>if 0<=k then(match s[k.toNat]? with|some b=>I (.int .u8 b.toNat)|none=>u)else u
 |some (.array len e),.agg cs,.int _ k=>(match cS P e with|some c=>if 0<=k/\k<len then apart P e cs (k.toNat*c)else u|none=>u)
 |_,_,_=>u
def Qy(s:List UInt8)(k:Nat):(⟨s.toArray⟩:ByteArray)[k]? =s[k]? :=by
 simp only[getElem?,decidableGetElem?];by_cases h:k<s.length
 ·have aU:k<(⟨s.toArray⟩:ByteArray).size:=by show k<s.toArray.size;simpa using h
  simp[h,aU];rfl
 ·have aU:¬k<(⟨s.toArray⟩:ByteArray).size:=by show¬k<s.toArray.size;simpa using h
  simp[h,aU]
def Pz{t:TypeId}{x i v:aa}{l j:Value}(h:eF P t x i=I v)(d:bz ρ x l)(c:bz ρ i j)(w:World):∃r,(Instr.index t l j).run P w= .ok r w/\bz ρ v r:=by
 unfold eF at h;split at h
 ·rename_i s A k a;cases c;cases d;split at h
  ·rename_i m;split at h
   ·rename_i b p;simp only[aT]at h;subst h;refine⟨_,?_,.int _ _⟩;simp only[Instr.index,asIntOf,Sem.run_bind,Sem.run_pure,Result.andThen_ok,run_underlying a,if_pos m,Qy,p]
   ·cases h
  ·cases h
 ·rename_i len e cs A k a;cases c;cases d with|agg _ xs q=>
  split at h
  ·rename_i B z;split at h
   ·rename_i y;obtain⟨r,n,o⟩:=qp h q w;exact⟨r,by simp[Instr.index,asIntOf,run_underlying a,y,run_sizeOf z,n],o⟩
   ·cases h
  ·cases h
 ·cases h
def dP(x:Option aa)(a y:Nat):Option Nat:=
 match x with
 |none=>I a
 |some (.int _ k)=>if 0<=k/\k<=y then I k.toNat else u
 |some _=>u
def ff(P:Program)(t:TypeId)(x:aa)(lo a c:Option aa):Option aa:=
 match P.underlying t,x with
 |some .string,.str s=>
  (match c,dP a s.length s.length with
  |none,I h=>(match dP lo 0 h with|some l=>I (.str ((s.drop l).take (h-l)))|none=>u)
  |_,_=>u)
 |some (.slice e),.ax l i n esz cap=>
  (match cS P e,c with
  |some d,u=>
   if d=esz then
    (match dP a n (cap.getD n)with
    |some h=>(match dP lo 0 h with|some k=>I (.ax l (i+k) (h-k) esz (cap.map (· -k)))|none=>u)
    |none=>u)
   else u
  |some d,I m=>
   if d=esz then
    (match dP (I m) 0 (cap.getD n)with
    |some m=>(match a,dP a 0 m with
     |some _,I h=>(match dP lo 0 h with|some k=>I (.ax l (i+k) (h-k) esz (I (m-k)))|none=>u)
     |_,_=>u)
    |none=>u)
   else u
  |_,_=>u)
 |some (.slice e),.ag=>
  (match cS P e,c with
  |some _,u=>(match dP a 0 0 with
   |some h=>(match dP lo 0 h with|some _=>I .ag|none=>u)
   |none=>u)
  |_,_=>u)
 |_,_=>u
inductive qf(ρ:Env):Option aa->Option Value->Prop where
 |none:qf ρ none none
 |some (v:aa) (x:Value) (h:bz ρ v x):qf ρ (some v) (some x)
def hP{v:aa}{x:Value}{d y k:Nat}(h:dP (I v) d y=I k)(e:bz ρ v x)(code:BoundsCode){c:Nat}(j:y<=c)(w:World):
  (Instr.sliceBound x c code).run P w= .ok k w/\k<=y:=by
 unfold dP at h;split at h
 ·rename_i a;cases a
 ·rename_i l n a;cases a;cases e;split at h
  ·rename_i i;simp only[aT]at h;subst h;refine⟨?_,ae⟩;simp only[Instr.sliceBound,asIntOf,Sem.run_bind,Sem.run_pure,Result.andThen_ok];rw[if_pos ae];exact Sem.run_pure ..
  ·cases h
 ·cases h
def Re(s:List UInt8)(l h:Nat):(⟨s.toArray⟩:ByteArray).extract l h=⟨((s.drop l).take (h-l)).toArray⟩:=by
 apply ByteArray.ext;simp[ByteArray.data_extract,CD]
def P3{t:TypeId}{x v:aa}{af:Value}{lo T V:Option aa}{E G L:Option Value}(h:ff P t x lo T V=I v)(Q:bz ρ x af)(y:qf ρ lo E)(A:qf ρ T G)(H:qf ρ V L)(w:World):
  ∃r,(Instr.sliceAt t af E G L).run P w= .ok r w/\bz ρ v r:=by
 unfold ff at h;split at h
 ·rename_i s C;cases Q;have z:(⟨s.toArray⟩:ByteArray).size=s.length:=by show s.toArray.size=_;simp
  split at h
  ·rename_i p o;cases H;split at h
   ·rename_i l ak;simp only[aT]at h;subst h;refine⟨_,?_,.str _⟩;have ap:∃m,(Instr.sliceBounds X s.length s.length E G u).run P w= .ok (l,p,m) w:=by
     refine⟨s.length,?_⟩;cases A with
     |none=>
      simp only[dP,aT]at o;subst o;cases y with
      |none=>simp only[dP,aT]at ak;subst ak;simp[Instr.sliceBounds]
      |some v x d=>simp[Instr.sliceBounds,(hP ak d _ (aV _) w).1]
     |some v x d=>
      have:=(hP (P:=P) o d .sliceAlen (aV _) w).1;cases y with
      |none=>simp only[dP,aT]at ak;subst ak;simp[Instr.sliceBounds,this]
      |some v x d=>simp[Instr.sliceBounds,this,(hP ak d _ (aV _) w).1]
    obtain⟨m,ap⟩:=ap;simp[Instr.sliceAt,Instr.slice,run_underlying C,z,ap,Re]
   ·cases h
  ·cases h
 ·rename_i e l i n esz cap C;cases Q with|ax _ _ _ _ K a c ak am S R=>
  have M:cap.getD n<=c:=by
   cases F:cap with
   |none=>exact am
   |some k=>have:=S k F;simp;omega
  split at h
  ·rename_i ad z;cases H;split at h
   ·rename_i O;subst O;split at h
    ·rename_i p o;split at h
     ·rename_i k j;simp only[aT]at h;subst h;have ar:p<=c:=by
       cases A with
       |none=>simp only[dP,aT]at o;omega
       |some v x d=>have:=(hP (P:=P) o d .sliceAcap M w).2;omega
      have aj:k<=p:=by
       cases y with
       |none=>simp only[dP,aT]at j;omega
       |some v x d=>exact(hP (P:=P) j d .sliceB (aV _) w).2
      have ap:(Instr.sliceBounds Y n c E G u).run P w= .ok (k,p,c) w:=by
       cases A with
       |none=>
        simp only[dP,aT]at o;subst o;cases y with
        |none=>simp only[dP,aT]at j;subst j;simp[Instr.sliceBounds]
        |some v x d=>simp[Instr.sliceBounds,(hP j d _ (aV _) w).1]
       |some v x d=>
        have:=(hP (P:=P) o d .sliceAcap M w).1;cases y with
        |none=>simp only[dP,aT]at j;subst j;simp[Instr.sliceBounds,this]
        |some v x d=>simp[Instr.sliceBounds,this,(hP j d _ (aV _) w).1]
      refine⟨.slice (I (if c=k then a else a.add (k*K.esz))) (p-k) (c-k),?_,?_⟩
      ·simp[Instr.sliceAt,Instr.slice,run_underlying C,ap,run_sizeOf z];split<;>rfl
      ·refine .ax l (i+k) (p-k) _ K _ (c-k) ak ae (λm B=> ?_) (λan=> ?_)
       ·cases F:cap with
        |none=>rw[F]at B;cases B
        |some q=>rw[F]at B;simp at B;have:=S q F;omega
       ·obtain⟨rfl,N⟩:=R ae;rw[if_neg ae,addr_add];refine⟨?_,?_⟩
        ·congr 1;rw[hi];omega
        ·rw[show i+k+(c-k)=i+c by omega];exact N
     ·cases h
    ·cases h
   ·cases h
  ·rename_i ad aw z;cases H with|some _ L al=>
   split at h
   ·rename_i O;subst O;split at h
    ·rename_i m B;obtain⟨ab,av⟩:=hP (P:=P) B al .slice3Acap M w;split at h
     ·rename_i d p o;cases A with|some _ x aq=>
      obtain⟨W,au⟩:=hP (P:=P) o aq .slice3B (aV _) w;split at h
      ·rename_i k j;simp only[aT]at h;subst h;have aj:k<=p:=by
        cases y with
        |none=>simp only[dP,aT]at j;omega
        |some v x d=>exact(hP (P:=P) j d .sliceB (aV _) w).2
       have ap:(Instr.sliceBounds Y n c E (I x) (I L)).run P w= .ok (k,p,m) w:=by
        cases y with
        |none=>simp only[dP,aT]at j;subst j;simp[Instr.sliceBounds,ab,W]
        |some v x d=>simp[Instr.sliceBounds,ab,W,(hP j d _ (aV _) w).1]
       refine⟨.slice (I (if m=k then a else a.add (k*K.esz))) (p-k) (m-k),?_,?_⟩
       ·simp[Instr.sliceAt,Instr.slice,run_underlying C,ap,run_sizeOf z];split<;>rfl
       ·refine .ax l (i+k) (p-k) _ K _ (m-k) ak ae (λq ao=>by simpa using ao) (λan=> ?_);obtain⟨rfl,N⟩:=R ae;rw[if_neg ae,addr_add];refine⟨?_,?_⟩
        ·congr 1;rw[hi];omega
        ·refine tu (NO (lm _ ?_) _) N;omega
      ·cases h
     ·cases h
    ·cases h
   ·cases h
  ·cases h
 ·rename_i e C;cases Q;split at h
  ·rename_i ad z;cases H;split at h
   ·rename_i p o;split at h
    ·rename_i k j;simp only[aT]at h;subst h;have ah:p=0:=by
      cases A with
      |none=>simp only[dP,aT]at o;omega
      |some v x d=>have:=(hP (P:=P) o d .sliceAcap (aV _) w).2;omega
     subst ah;have ai:k=0:=by
      cases y with
      |none=>simp only[dP,aT]at j;omega
      |some v x d=>have:=(hP (P:=P) j d .sliceB (aV _) w).2;omega
     subst ai;refine⟨.slice u 0 0,?_,.ag⟩;have ap:(Instr.sliceBounds Y 0 0 E G u).run P w= .ok (0,0,0) w:=by
      cases A with
      |none=>
       cases y with
       |none=>simp[Instr.sliceBounds]
       |some v x d=>simp[Instr.sliceBounds,(hP j d _ (aV _) w).1]
      |some v x d=>
       have:=(hP (P:=P) o d .sliceAcap (aV _) w).1;cases y with
       |none=>simp[Instr.sliceBounds,this]
       |some v x d=>simp[Instr.sliceBounds,this,(hP j d _ (aV _) w).1]
     simp[Instr.sliceAt,Instr.slice,run_underlying C,ap,run_sizeOf z]
    ·cases h
   ·cases h
  ·cases h
 ·cases h
end
section
variable {P:Program}{ρ:Env}{H:ad}{w:World}
def FS(c:Array Value):∀(d:List aa) (o:Nat),(∀(j:Nat) (v:aa),d[j]? =I v->v.one=Y/\∃x,c[o+j]? =I x/\bz ρ v x)->
  ∃xs:List Value,b1 ρ d xs/\(∀j a,xs[j]? =I a->c[o+j]? =I a)/\∀a∈xs,a.oneCell'=Y
 |[],_,_=>⟨[],.nil,λj a h=>by simp at h,λa h=>by cases h⟩
 |v::d,o,h=>by
  obtain⟨k,x,l,i⟩:=h 0 v rfl;obtain⟨xs,ap,aE,bB⟩:=FS c d (o+1) (λj a e=>by have:=h (j+1) a (by simpa using e);rwa[show o+(j+1)=o+1+j by omega]at this);refine⟨x::xs,.cons _ _ _ _ i ap,?_,?_⟩
  ·intro j a e;cases j with
   |zero=>simp at e;subst e;exact l
   |succ j=>rw[show o+(j+1)=o+1+j by omega];exact aE j a (by simpa using e)
  ·intro a hu;rcases List.mem_cons.1 hu with rfl|hu
   ·exact i.K6 k
   ·exact bB a hu
def Mr(c:Array Value)(esz:Nat):∀(els:List (List aa)) (o:Nat),(∀(i:Nat) (e:List aa),els[i]? =I e->e.length=esz/\∀(j:Nat) (v:aa),e[j]? =I v->v.one=Y/\∃x,c[o+i*esz+j]? =I x/\bz ρ v x)->
  ∃xs:List Value,b1 ρ els.flatten xs/\(∀j a,xs[j]? =I a->c[o+j]? =I a)/\∀a∈xs,a.oneCell'=Y
 |[],_,_=>⟨[],by simpa using b1.nil,λj a h=>by simp at h,λa h=>by cases h⟩
 |d::els,o,h=>by
  obtain⟨q,m⟩:=h 0 d rfl;obtain⟨l,aI,a2,a3⟩:=FS c d o (λj v k=>by simpa using m j v k);obtain⟨xs,ap,aE,bB⟩:=Mr c esz els (o+esz) (λi e n=>by
   have:=h (i+1) e (by simpa using n);rw[uv]at this;refine⟨this.1,λj v k=> ?_⟩;have:=this.2 j v k;rwa[show o+(i*esz+esz)+j=o+esz+i*esz+j by omega]at this)
  have ak:=aI.length;refine⟨l++xs,by simpa using aI.append ap,?_,?_⟩
  ·intro j a k;by_cases p:j<l.length
   ·rw[cd p]at k;exact a2 j a k
   ·rw[ef ae]at k;have:=aE _ a k;rwa[show o+esz+(j-l.length)=o+j by omega]at this
  ·intro a hu;rcases GH.1 hu with hu|hu
   ·exact a3 a hu
   ·exact bB a hu
def iy(H:ad)(l i n esz:Nat):Option (List (List aa)):=
 match H.get l with
 |some (.row _ a els)=>if a=esz/\i+n<=els.length then I ((els.drop i).take n)else u
 |_=>u
def wi{els:List (List aa)}{i n k:Nat}{e:List aa}(h:((els.drop i).take n)[k]? =I e):els[i+k]? =I e:=by
 rw[List.getElem?_take]at h;split at h
 ·rw[QR]at h;exact h
 ·cases h
def zO(A:Rel ρ H w){l i n:Nat}{a:Loc}{m:List (List aa)}(h:iy H l i n a.esz=I m)(ak:ρ l=I a):
  m.length=n/\(∀e∈m,e.length=a.esz)/\(∀e∈m,∀v∈e,v.one=Y)/\
  ∃xs:List Value,b1 ρ m.flatten xs/\xs.length=n*a.esz/\(∀j d,xs[j]? =I d->w.cell? ⟨a.block,a.off+i*a.esz+j,u⟩=I d)/\∀d∈xs,d.oneCell'=true:=by
 unfold iy at h;split at h
 ·rename_i ro L els E;split at h
  ·rename_i C;obtain⟨rfl,N⟩:=C;simp only[aT]at h;subst h;obtain⟨K,F,_,c,t,M,B,_,s⟩:=A.row _ _ _ _ E;obtain rfl:a=K:=Option.some.inj (ak.symm.trans F);have y:((els.drop i).take n).length=n:=by simp;omega
   have x:∀e∈(els.drop i).take n,e.length=a.esz:=λe q=>by
    obtain⟨k,p⟩:=rs q;exact(s _ e (wi p)).1
   have z:∀e∈(els.drop i).take n,∀v∈e,v.one=true:=λe q v G=>by
    obtain⟨k,p⟩:=rs q;obtain⟨j,o⟩:=rs G;exact((s _ e (wi p)).2 j v o).1
   refine⟨y,x,z,?_⟩;obtain⟨xs,ap,aE,bB⟩:=Mr (ρ:=ρ) c a.esz ((els.drop i).take n) (a.off+i*a.esz) (λk e p=>by
    have:=s _ e (wi p);refine⟨this.1,λj v o=> ?_⟩;have:=this.2 j v o;rwa[hi,<-zA]at this)
   refine⟨xs,ap,by rw[<-ap.length,m4 x,y],λj d o=> ?_,bB⟩;simp[World.cell?,B,aE j d o]
  ·cases h
 ·cases h
def kb(P:Program)(H:ad)(fR:TypeId)(esz:Nat)(x:aa):Option (List (List aa)):=
 match P.underlying fR,x with
 |some (.slice _),.ax l i n a _=>if a=esz then iy H l i n esz else u
 |some (.slice _),.ag=>I []
 |some .string,.str s=>if esz=1 then I (s.map λb=>[.int .u8 b.toNat])else u
 |_,_=>u
def Qx(s:List UInt8):b1 ρ ((s.map λb=>[aa.int .u8 b.toNat]).flatten) (byteCells ⟨s.toArray⟩):=by
 unfold byteCells;show b1 ρ _ (s.map _)
 induction s with
 |nil=>exact .nil
 |cons b s a=>exact .cons _ _ _ _ (.int _ _) a
def PP(L:Rel ρ H w){fR:TypeId}{esz:Nat}{x:aa}{A:Value}{d:List (List aa)}(h:kb P H fR esz x=I d)(p:bz ρ x A):
  (∀e∈d,e.length=esz)/\(∀e∈d,∀v∈e,v.one=Y)/\∃z:List Value,b1 ρ d.flatten z/\Src P esz fR A d.length z w:=by
 unfold kb at h;split at h
 ·rename_i e l i n R cap k;split at h
  ·rename_i o;subst o;cases p with|ax _ _ _ _ V a c ak T S M=>
   obtain⟨B,C,E,xs,F,m,G,K⟩:=zO L h ak;refine⟨C,E,xs,F,?_⟩;rw[B];refine Src.ofSlice w k a n c xs m (λj Q y=> ?_) K;have O:0<c:=by
    rcases wx c with q|q
    ·have N:n=0:=ae;rw[N]at m;have:xs=[]:=fg (by simpa using m);subst this;simp at y
    ·exact q
   obtain⟨rfl,_⟩:=M O;rw[addr_add];exact G j Q y
  ·cases h
 ·rename_i e k;cases p;simp only[aT]at h;subst h;exact⟨by simp,by simp,[],by simpa using b1.nil,Src.ofNil w k 0⟩
 ·rename_i s k;split at h
  ·rename_i o;subst o;cases p;simp only[aT]at h;subst h;refine⟨by simp,by simp[aa.one],_,Qx s,?_⟩;have:=Src.ofString w k (⟨s.toArray⟩:ByteArray);have au:(⟨s.toArray⟩:ByteArray).size=s.length:=by show s.toArray.size=_;simp
   rw[au]at this;simpa using this
  ·cases h
 ·cases h
def j5(P:Program)(t:TypeId):Option Nat:=(P.info? t).map (·.bytes)
def c_(P:Program)(H:ad)(ts:List TypeId)(s x:aa):Option (aa×ad):=
 match ts with
 |[t,fR]=>
  (match P.underlying t with
  |some (.slice e)=>
   (match cS P e,j5 P e,fV P e with
   |some esz,I iP,I z=>
    (match kb P H fR esz x with
    |some a=>
     if z.cells.length=esz/\0<esz then
      (match s with
      | .ag=>if a.length=0 then I (.ag,H)else
       if a.length*iP<=140737488355328/\a.length<=9223372036854775807 then I (.ax H.next 0 a.length esz u,H.push (.row X esz a))else u
      | .ax l i n c cap=>
       if c=esz then
        if a.length=0 then I (s,H)
        else if(n+a.length)*iP<=140737488355328/\n+a.length<=9223372036854775807 then
         (match iy H l i n esz with
         |some os=>
          if cap.any (· <n+a.length)=Y then I (.ax H.next 0 (n+a.length) esz u,H.push (.row X esz (os++a)))
          else if cap=u then
           (match H.get l with
           |some (.row X _ _)=>I (.ax H.next 0 (n+a.length) esz u,(H.set l .dead).push (.row X esz (os++a)))
           |_=>u)
          else u
         |none=>u)
        else u
       else u
      |_=>u)
     else u
    |none=>u)
   |_,_,_=>u)
  |_=>u)
 |_=>u
def My(w:World)(t fR k e:TypeId)(aq:P.underlying t=I (.slice e)){esz:Nat}(j:cS P e=I esz)(a:Option Addr)(n c:Nat)(i:n<=c)(x:Value)(au:Src P esz fR x 0 [] w):
  (Builtin.append_ #[t,fR] k #[.slice a n c,x]).run P w= .ok (.slice a n c) w:=by
 have h:=au.cells;rcases au.kind with⟨l,d⟩|d<;>cases a<;>
  simp[Builtin.append_,run_underlying aq,run_underlying d,run_sizeOf j,au.len,i,h,storeCells]
def AS(E:Rel ρ H w)(K:ρ H.next=u){t fR e:TypeId}(A:TypeId)(aq:P.underlying t=I (.slice e)){esz iP:Nat}{z:aa}(m:cS P e=I esz)(l:j5 P e=I iP)(q:fV P e=I z)
  (S:z.cells.length=esz) (ah:0<esz)
  {a os:List (List aa)} (d1:∀e∈a,e.length=esz) (d2:∀e∈a,∀v∈e,v.one=Y) {h:List Value} (d3:b1 ρ a.flatten h) {s:Value} (au:Src P esz fR s a.length h w)
  (br:∀e∈os,e.length=esz) (bI:∀e∈os,∀v∈e,v.one=Y) {olds:List Value} (b2:b1 ρ os.flatten olds) (o:Option Addr) (n c:Nat) (O:os.length=n)
  (N:(Builtin.firstCells esz n (.slice o n c)).run P w.drew= .ok olds.toArray w.drew) (x:c<n+a.length) (G:(n+a.length)*iP<=140737488355328) (af:n+a.length<=9223372036854775807):
  ∃r B C,(Builtin.append_ #[t,fR] A #[.slice o n c,s]).run P w= .ok r B/\bz C (.ax H.next 0 (n+a.length) esz u) r/\Step ρ H w C (H.push (.row X esz (os++a))) B:=by
 unfold fV at q;unfold cS at m;unfold j5 at l;simp only[ct]at q;obtain⟨i,y,j,V,W⟩:=q;rw[y]at m l;simp only[Option.map_some,aT]at m l;subst m;subst l;have R:=(BF W ρ).cells;have T:j.cells.size=i.size:=by have:=R.length;rw[S]at this;simpa using this.symm
 have Q:=run_append_grow_src (P:=P) w t fR A e i j aq y V o n c olds N s a.length h au x ae (growslice_fits x G);have F:Rel ρ H w.drew:=E.drew;have d:=wr (w:=w.drew) F K (esz:=i.size) (els:=os++a) (λe p=>(GH.1 p).elim (br e) (d1 e)) (λe p=>(GH.1 p).elim (bI e) (d2 e))
  (xs:=olds++h) (tail:=(Builtin.zeroCells j.cells (grownCap w (n+a.length) c e-(n+a.length))).toList) (by simpa using b2.append d3) e
 have ap:((olds++h)++(Builtin.zeroCells j.cells (grownCap w (n+a.length) c e-(n+a.length))).toList).toArray=(olds++h).toArray++Builtin.zeroCells j.cells (grownCap w (n+a.length) c e-(n+a.length)):=by
  apply Qae;simp
 rw[ap]at d;refine⟨_,_,_,Q,?_,⟨d.le,d.next,d.aP,d.rel,d.os,d.tape,d.output,d.size,d.frame,d.own,d.ro⟩⟩;have L:=grownCap_ge w (n+a.length) c e;refine bz.ax (ρ:=ρ.eM H.next _) H.next 0 (n+a.length) u _ _ (grownCap w (n+a.length) c e) (Env.hs _ _ _) L (λk M=>by cases M) (λ_=>⟨by show(⟨w.heap.size,0,u⟩:Addr)=⟨w.heap.size,0+0*i.size,u⟩;simp,?_⟩)
 have ab:olds.length=n*i.size:=by rw[<-b2.length,m4 br,O]
 have ad:h.length=a.length*i.size:=by rw[<-d3.length,m4 d1]
 have dt:(Builtin.zeroCells j.cells (grownCap w (n+a.length) c e-(n+a.length))).size=(grownCap w (n+a.length) c e-(n+a.length))*i.size:=by rw[size_zeroCells,T]
 simp only[yz,TU,ab,ad,vw,dt];rw[<-hi,<-hi];exact lm _ ae
def Ur(K:Rel ρ H w)(az:ρ H.next=u){l i n esz:Nat}{els:List (List aa)}(L:H.get l=I (.row X esz els)){a:Loc}(ak:ρ l=I a)(aV:i+n<=els.length)
  {d:List (List aa)} (d1:∀e∈d,e.length=esz) (d2:∀e∈d,∀v∈e,v.one=Y) {B:List Value} (d3:b1 ρ d.flatten B) (aS:a.off+(i+n+d.length)*esz<=a.size):
  Step ρ H w (ρ.eM H.next ⟨a.block,a.off+i*esz,esz,a.size⟩) ((H.set l .dead).push (.row X esz ((els.drop i).take n++d))) (w.setCells a.block (a.off+(i+n)*esz) B):=by
 have aH:=ad.aF L;obtain⟨o,z,_,R,t,ar,av,aB,aL⟩:=K.row _ _ _ _ L;obtain rfl:a=o:=Option.some.inj (ak.symm.trans z);obtain⟨aM,aA⟩:=aB rfl;have C:=Env.lT az ⟨a.block,a.off+i*esz,esz,a.size⟩;have aX:B.length=d.length*esz:=by rw[<-d3.length,m4 d1]
 obtain⟨s1,aO,aP,ho⟩:=C8 a.block B (a.off+(i+n)*esz) w;have F:∀k,k≠H.next->k≠l->((H.set l .dead).push (.row X esz ((els.drop i).take n++d))).get k=H.get k:=λk G y=>by
  rw[ad.dv (by simpa using G),ad.get_set_other (Ne.symm y)]
 have E:((H.set l .dead).push (.row X esz ((els.drop i).take n++d))).get l=I .dead:=by
  rw[ad.dv (by simp;omega),ad.get_set_same aH]
 have S:((H.set l .dead).push (.row X esz ((els.drop i).take n++d))).get H.next=I (.row X esz ((els.drop i).take n++d)):=ad.a_ (H.set l .dead) _
 have an:∀k,((H.set l .dead).push (.row X esz ((els.drop i).take n++d))).rw k->k≠H.next->H.rw k/\k≠l:=λk h c=>by
  have m:k≠l:=by rintro rfl;rcases h with⟨_,_,h⟩|⟨_,h⟩<;>(rw[E]at h;cases h)
  simpa [ad.rw,F k c m,m]using h
 have aj:∀k,((H.set l .dead).push (.row X esz ((els.drop i).take n++d))).live k->k≠H.next->H.live k/\k≠l:=λk h c=>by
  have m:k≠l:=by rintro rfl;rcases h with⟨_,_,_,h⟩|⟨_,h⟩<;>(rw[E]at h;cases h)
  simpa [ad.live,F k c m,m]using h
 have Q:∀k o,H.live k->k≠l->ρ k=I o->o.block≠a.block:=λk o h aU e ay=>
  K.apart l k a o (.inl ⟨_,_,L⟩) h (Ne.symm aU) ak e ay.symm
 refine⟨C,by simp,λk c=>Env.hr (by simp at c;omega),⟨?_,?_,?_⟩,aO,aP,ho,Qac s1.symm,?_,?_,?ro⟩
 case ro=>
  intro k aq ao h;by_cases c:k=H.next
  ·subst c;rw[S]at h;cases h
  ·by_cases m:k=l
   ·subst m;rw[E]at h;cases h
   ·rwa[F k c m]at h
 ·intro k aZ aq ao h;by_cases c:k=H.next
  ·subst c;rw[S]at h;simp only[aT,b_.row.injEq]at h;obtain⟨rfl,rfl,rfl⟩:=h;refine⟨_,Env.hs _ _ _,rfl,_,t,ar,C7 _ _ _ _ _ _ _ av,λ_=>⟨by rw[tJ];exact aM,by rw[tJ];exact aA⟩,?_⟩;intro q e p;have aG:((els.drop i).take n).length=n:=by simp;omega
   by_cases aY:q<n
   ·rw[cd ae]at p;have aw:=wi p;obtain⟨a0,aI⟩:=aL _ e aw;refine⟨a0,λj v s=> ?_⟩;obtain⟨bf,x,N,M⟩:=aI j v s;refine⟨bf,x,?_,M.mono C⟩;have aC:j<esz:=by
     rcases kl j e.length with h|h
     ·omega
     ·rw[bc h]at s;cases s
    show(iG R (a.off+(i+n)*esz) B)[a.off+i*esz+q*esz+j]? =I x;rw[rm _ _ _ _ (by have:=tp (n:=esz) (show i+q<i+n by omega);rw[hi]at this;omega)];rw[show a.off+i*esz+q*esz+j=a.off+(i+q)*esz+j by rw[hi];omega];exact N
   ·rw[ef ae,aG]at p;refine⟨d1 e (gh p),λj v s=> ?_⟩;obtain⟨x,N,M⟩:=d3.get _ _ (AH d1 p s);refine⟨d2 e (gh p) v (gh s),x,?_,M.mono C⟩;have aK:q-n<d.length:=by
     rcases kl (q-n) d.length with h|h
     ·exact h
     ·rw[bc h]at p;cases p
    have aC:j<esz:=by
     have:=d1 e (gh p);rcases kl j e.length with h|h
     ·omega
     ·rw[bc h]at s;cases s
    have aR:=tp (n:=esz) aK;have aW:(i+n+d.length)*esz=(i+n)*esz+d.length*esz:=hi _ _ _;have:=ws B R (a.off+(i+n)*esz) ((q-n)*esz+j) x N ae;show(iG R (a.off+(i+n)*esz) B)[a.off+i*esz+q*esz+j]? =I x;rw[show a.off+i*esz+q*esz+j=a.off+(i+n)*esz+((q-n)*esz+j) by
     have:q*esz=n*esz+(q-n)*esz:=by rw[<-hi];congr 1;omega
     rw[hi];omega]
    exact this
  ·by_cases m:k=l
   ·subst m;rw[E]at h;cases h
   ·rw[F k c m]at h;obtain⟨o,z,aN,c',aQ,au,W,ab,af⟩:=K.row _ _ _ _ h;have A:=Q k o (.inl ⟨_,_,_,h⟩) m z;refine⟨o,by rw[Env.hr c];exact z,aN,c',aQ,au,by rw[p7 _ _ _ _ _ A];exact W,ab,?_⟩;intro q e p;obtain⟨a0,aI⟩:=af q e p;refine⟨a0,λj v s=> ?_⟩;obtain⟨bf,x,N,M⟩:=aI j v s;exact⟨bf,x,N,M.mono C⟩
 ·intro k es h;by_cases c:k=H.next
  ·subst c;rw[S]at h;cases h
  ·by_cases m:k=l
   ·subst m;rw[E]at h;cases h
   ·rw[F k c m]at h;obtain⟨o,z,ents,clock,W,ab,af⟩:=K.map _ _ h;have A:=Q k o (.inr ⟨_,h⟩) m z;exact⟨o,by rw[Env.hr c];exact z,ents,clock,by rw[p7 _ _ _ _ _ A];exact W,ab.mono C,af.mono C⟩
 ·intro k O al am G y A ap aE;by_cases c:k=H.next
  ·subst c;rw[Env.hs]at ap;obtain rfl:=Option.some.inj ap;obtain⟨T,ai⟩:=aj O y (Ne.symm A);rw[Env.hr (Ne.symm A)]at aE;exact(Q O am T ai aE).symm
  ·obtain⟨P,aD⟩:=an k G c;rw[Env.hr c]at ap;by_cases V:O=H.next
   ·subst V;rw[Env.hs]at aE;obtain rfl:=Option.some.inj aE;exact Q k al P.live aD ap
   ·obtain⟨T,ai⟩:=aj O y V;rw[Env.hr V]at aE;exact K.apart k O al am P T A ap aE
 ·intro b _ aJ;refine p7 _ _ _ _ _ ?_;rintro rfl;exact aJ ⟨l,a,.inl ⟨_,_,L⟩,ak,rfl⟩
 ·rintro b ⟨k,o,G,y,ah⟩;by_cases c:k=H.next
  ·subst c;rw[Env.hs]at y;obtain rfl:=Option.some.inj y;exact .inl ⟨l,a,.inl ⟨_,_,L⟩,ak,ah⟩
  ·obtain⟨P,_⟩:=an k G c;rw[Env.hr c]at y;exact .inl ⟨k,o,P,y,ah⟩
def Step.dead{x:Env}{i d:ad}{v:World}(h:Step ρ H w x i v)(q:d.next=i.next)(p:∀k,d.get k=i.get k\/d.get k=I .dead):Step ρ H w x d v:=by
 have j:∀k ro esz els,d.get k=I (.row ro esz els)->i.get k=I (.row ro esz els):=λk ro esz els e=>by
  rcases p k with h|h
  ·rw[<-h];exact e
  ·rw[h]at e;cases e
 have m:∀k es,d.get k=I (.map es)->i.get k=I (.map es):=λk es e=>by
  rcases p k with h|h
  ·rw[<-h];exact e
  ·rw[h]at e;cases e
 have s:∀k,d.rw k->i.rw k:=λk h=>by
  rcases h with⟨a,b,h⟩|⟨a,h⟩
  ·exact .inl ⟨a,b,j _ _ _ _ h⟩
  ·exact .inr ⟨a,m _ _ h⟩
 have z:∀k,d.live k->i.live k:=λk h=>by
  rcases h with⟨a,b,c,h⟩|⟨a,h⟩
  ·exact .inl ⟨a,b,c,j _ _ _ _ h⟩
  ·exact .inr ⟨a,m _ _ h⟩
 refine⟨h.le,by rw[q];exact h.next,λl ak=>h.aP l (by rw[<-q];exact ak),⟨λl ro esz els e=>h.rel.row l ro esz els (j _ _ _ _ e),λl es e=>h.rel.map l es (m _ _ e),λl l' a b n o=>h.rel.apart l l' a b (s _ n) (z _ o)⟩,h.os,h.tape,h.output,h.size,h.frame,?_,λk esz els e=>h.ro k esz els (j _ _ _ _ e)⟩;rintro b ⟨l,A,n,o,y⟩;exact h.own b ⟨l,A,s _ n,o,y⟩
def Pe(p:Rel ρ H w){ts:List TypeId}{s x a:aa}{s' K:Value}{H':ad}(C:TypeId)(h:c_ P H ts s x=I (a,H'))(af:H.next<H'.next->ρ H.next=u)(au:bz ρ s s')(aU:bz ρ x K):
  ∃r S T,(Builtin.append_ ts.toArray C #[s',K]).run P w= .ok r S/\bz T a r/\Step ρ H w T H' S:=by
 unfold c_ at h;split at h
 ·rename_i t fR;split at h
  ·rename_i e G;split at h
   ·rename_i esz iP z m V am;split at h
    ·rename_i q aI;obtain⟨d1,d2,R,d3,L⟩:=PP (P:=P) p aI aU;split at h
     ·rename_i aW;obtain⟨an,aj⟩:=aW;have ar:q.length=0->Src P esz fR K 0 [] w:=λo=>by
       have:q=[]:=fg o;subst this;have:R=[]:=by cases d3;rfl
       subst this;simpa using L
      split at h
      ·cases au;split at h
       ·rename_i o;simp only[aT,bS]at h;obtain⟨rfl,rfl⟩:=h;exact⟨_,_,_,My w t fR C e G m u 0 0 (aV _) K (ar o),.ag,Step.refl p⟩
       ·rename_i o;split at h
        ·rename_i A;simp only[aT,bS]at h;obtain⟨rfl,rfl⟩:=h;have E:=af (by simp);have:=AS p E C G m V am an aj d1 d2 d3 L (os:=[]) (by simp) (by simp) (olds:=[]) (by simpa using b1.nil) u 0 0 rfl
          (run_firstCells_none w.drew esz 0 0 0) ae (by simpa using A.1) (by simpa using A.2)
         simpa using this
        ·cases h
      ·rename_i l i n a2 cap;split at h
       ·rename_i aJ;split at h
        ·rename_i o;simp only[aT,bS]at h;obtain⟨rfl,rfl⟩:=h;cases au with|ax _ _ _ _ d y c ak ai W M=>
         exact⟨_,_,_,My w t fR C e G m (I y) n c ai K (ar o),.ax l i n cap d y c ak ai W M,Step.refl p⟩
        ·rename_i o;split at h
         ·rename_i A;split at h
          ·rename_i os v;cases au with|ax _ _ _ _ d y c ak ai W M=>
           subst aJ;obtain⟨az,br,bI,olds,b2,cM,aY,a9⟩:=zO p v ak;have av:(Builtin.firstCells d.esz n (.slice (I y) n c)).run P w.drew= .ok olds.toArray w.drew:=by
            refine run_firstCells_some w.drew d.esz n y n c olds cM (λj aZ B=> ?_);have aH:0<c:=by
             rcases wx c with o|o
             ·have aR:n=0:=ae;rw[aR]at cM;have:olds=[]:=fg (by simpa using cM);subst this;simp at B
             ·exact o
            obtain⟨rfl,_⟩:=M aH;rw[addr_add];exact aY j aZ B
           split at h
           ·rename_i N;simp only[aT,bS]at h;obtain⟨rfl,rfl⟩:=h;have E:=af (by simp);have aG:c<n+q.length:=by
             cases ab:cap with
             |none=>rw[ab]at N;simp at N
             |some k=>rw[ab]at N;simp at N;have:=W k ab;omega
            exact AS p E C G m V am an aj d1 d2 d3 L br bI b2 (I y) n c az av aG A.1 A.2
           ·split at h
            ·rename_i a5;split at h
             ·rename_i a0 a1 O;simp only[aT,bS]at h;obtain⟨rfl,rfl⟩:=h;have E:=af (by simp);obtain⟨aX,aP,aK,aA,t0,a3,ao,aN,a7⟩:=p.row _ _ _ _ O;obtain rfl:d=aX:=Option.some.inj (ak.symm.trans aP);subst aK;unfold iy at v;rw[O]at v;simp only[true_and]at v;split at v
              ·rename_i aO;simp only[aT]at v;subst v;by_cases al:n+q.length<=c
               ·obtain⟨rfl,aL⟩:=M ae;obtain⟨a8,aM⟩:=aN rfl;have aS:=Ur p E O ak aO d1 d2 d3 (by
                 refine tu (NO (lm _ ?_) _) aL;omega)
                have a6:R.length=q.length*d.esz:=by rw[<-d3.length,m4 d1]
                have ap:∀j,j<R.length->d.off+i*d.esz+n*d.esz+j<aA.size:=by
                 intro j B;have aE:(i+c)*d.esz=i*d.esz+c*d.esz:=hi _ _ _;have a4:n*d.esz+q.length*d.esz<=c*d.esz:=by rw[<-hi];exact lm _ al
                 omega
                cases ah:P.info? e with
                |none=>unfold cS at m;rw[ah]at m;cases m
                |some ay=>
                 have Q:ay.size=d.esz:=by unfold cS at m;rw[ah]at m;simpa using m
                 have aw:=run_append_room_src (P:=P) w t fR C e ay G ah d.block (d.off+i*d.esz) n c K q.length R (by rw[Q];exact L) al
                  (λj B=>by rw[Q];simp[World.cell?,ao,ap j B])
                  (λj B=>by
                   rw[Q];have:=aM _ (ap j B);simp only[World.frozen?,ao];simpa using this)
                 rw[Q]at aw;refine⟨_,_,_,aw,?_,by rw[show d.off+i*d.esz+n*d.esz=d.off+(i+n)*d.esz by rw[hi];omega];exact aS⟩;refine bz.ax (ρ:=ρ.eM H.next _) H.next 0 (n+q.length) u ⟨d.block,d.off+i*d.esz,d.esz,d.size⟩ _ c (Env.hs _ _ _) al (λk F=>by cases F) (λ_=>⟨by simp,?_⟩)
                 have aE:(i+c)*d.esz=i*d.esz+c*d.esz:=hi _ _ _;simp only[yz];omega
               ·
                 obtain⟨r,S,T,aB,aC,aD⟩:=AS p E C G m V am an aj d1 d2 d3 L br bI b2 (I y) n c az av ae A.1 A.2;refine⟨r,S,T,aB,aC,aD.dead (by simp) (λk=> ?_)⟩;have aQ:=ad.aF O;by_cases F:k=H.next
                 ·subst F;left;rw[ad.a_];exact ad.a_ (H.set l .dead) _
                 ·by_cases aq:k=l
                  ·subst aq;right;rw[ad.dv (by simpa using F),ad.get_set_same aQ]
                  ·left;rw[ad.dv (by simpa using F),ad.get_set_other (Ne.symm aq),ad.dv F]
              ·cases v
             ·cases h
            ·cases h
          ·cases h
         ·cases h
       ·cases h
      ·cases h
     ·cases h
    ·cases h
   ·cases h
  ·cases h
 ·cases h
end
section
variable {P:Program}{ρ:Env}{H:ad}{w:World}
def zT(P:Program)(H:ad)(t:TypeId)(x:aa):Option aa:=
 match P.underlying t,x with
 |some .string,.str s=>I (.int .i64 s.length)
 |some (.slice _),.ax _ _ n _ _=>I (.int .i64 n)
 |some (.slice _),.ag=>I (.int .i64 0)
 |some (.array n _),_=>I (.int .i64 n)
 |some (.map _ _),.iE=>I (.int .i64 0)
 |some (.map _ _),.map l=>(match H.get l with|some (.map es)=>I (.int .i64 es.length)|_=>u)
 |_,_=>u
def AO{l:Nat}{es:List (aa×aa)}(h:Rel ρ H w)(i:H.get l=I (.map es)){a:Loc}(ak:ρ l=I a):
  ∃ents clock,w.heap[a.block]? =I (.map ents clock)/\(getObj a.block).run P w= .ok (.map ents clock) w/\b1 ρ (es.map (·.1)) (ents.toList.map (·.key))/\b1 ρ (es.map (·.2)) (ents.toList.map (·.val)):=by
 obtain⟨k,j,ents,clock,c,d,e⟩:=h.map _ _ i;obtain rfl:a=k:=Option.some.inj (ak.symm.trans j);exact⟨ents,clock,c,by simp[getObj,Sem.run,c],d,e⟩
def PA(k:Rel ρ H w){t:TypeId}{x v:aa}{i:Value}(o:TypeId)(h:zT P H t x=I v)(c:bz ρ x i):∃r,(Builtin.len_ #[t] o #[i]).run P w= .ok r w/\bz ρ v r:=by
 unfold zT at h;split at h
 ·rename_i s a;cases c;simp only[aT]at h;subst h;have au:(⟨s.toArray⟩:ByteArray).size=s.length:=by show s.toArray.size=_;simp
  exact⟨_,by simp[Builtin.len_,run_underlying a,goInt,au],.int _ _⟩
 ·rename_i a;cases c;simp only[aT]at h;subst h;exact⟨_,by simp[Builtin.len_,run_underlying a,goInt],.int _ _⟩
 ·rename_i a;cases c;simp only[aT]at h;subst h;exact⟨_,by simp[Builtin.len_,run_underlying a,goInt],.int _ _⟩
 ·rename_i n e a;simp only[aT]at h;subst h;exact⟨_,by simp[Builtin.len_,run_underlying a,goInt],.int _ _⟩
 ·rename_i a;cases c;simp only[aT]at h;subst h;exact⟨_,by simp[Builtin.len_,run_underlying a,goInt],.int _ _⟩
 ·rename_i a;cases c with|map _ y ak=>
  split at h
  ·rename_i es l;simp only[aT]at h;subst h;obtain⟨ents,clock,q,m,j,p⟩:=AO (P:=P) k l ak;have d:=j.length;simp only[WX,vw]at d;exact⟨_,by simp[Builtin.len_,run_underlying a,goInt,m,<-d],.int _ _⟩
  ·cases h
 ·cases h
def vg(x y:aa):Option aa:=
 match x,y with
 | .int k a,.int _ b=>I (.int k (if a<b then b else a))
 |_,_=>u
def vh(x y:aa):Option aa:=
 match x,y with
 | .int k a,.int _ b=>I (.int k (if b<a then b else a))
 |_,_=>u
def PI{x y v:aa}{a c:Value}(ts:Array TypeId)(i:TypeId)(h:vg x y=I v)(d:bz ρ x a)(e:bz ρ y c)(w:World):∃r,(Builtin.max_ ts i #[a,c]).run P w= .ok r w/\bz ρ v r:=by
 unfold vg at h;split at h
 ·cases d;cases e;simp only[aT]at h;subst h;exact⟨_,by simp[Builtin.max_,Builtin.max2],.int _ _⟩
 ·cases h
def PJ{x y v:aa}{a c:Value}(ts:Array TypeId)(i:TypeId)(h:vh x y=I v)(d:bz ρ x a)(e:bz ρ y c)(w:World):∃r,(Builtin.min_ ts i #[a,c]).run P w= .ok r w/\bz ρ v r:=by
 unfold vh at h;split at h
 ·cases d;cases e;simp only[aT]at h;subst h;exact⟨_,by simp[Builtin.min_,Builtin.min2],.int _ _⟩
 ·cases h
def dG(x:aa)(i:Nat):Option aa:=
 match x with
 | .tuple a=>a[i]?
 |_=>u
def Pn{x v:aa}{a:Value}{i:Nat}(h:dG x i=I v)(e:bz ρ x a)(w:World):∃r,(Instr.extract a i).run P w= .ok r w/\bz ρ v r:=by
 unfold dG at h;split at h
 ·cases e with|tuple _ xs au=>
  obtain⟨r,c,d⟩:=au.get _ _ h;exact⟨r,by simp[Instr.extract,c],d⟩
 ·cases h
def mU(P:Program)(src a:TypeId)(x:aa):Option aa:=
 match P.underlying src,P.underlying a,x with
 |some _,I (.int k),.int _ n=>I (.int k (k.wrap n))
 |some _,I .string,.str s=>I (.str s)
 |_,_,_=>u
def Pl{src c:TypeId}{x v:aa}{e:Value}(h:mU P src c x=I v)(d:bz ρ x e)(w:World):∃r,(convert src c e).run P w= .ok r w/\bz ρ v r:=by
 unfold mU at h;split at h
 ·rename_i au a;cases d;simp only[aT]at h;subst h;exact⟨_,by simp[convert,run_underlying au,run_underlying a,Conv.intToInt],.int _ _⟩
 ·rename_i au a;cases d;simp only[aT]at h;subst h;exact⟨_,by simp[convert,run_underlying au,run_underlying a],.str _⟩
 ·cases h
def byteOf:List aa->Option UInt8
 |[.int .u8 n]=>I (UInt8.ofNat n.toNat)
 |_=>u
def bytesOf:List (List aa)->Option (List UInt8)
 |[]=>I []
 |e::r=>match byteOf e,bytesOf r with
  |some b,I l=>I (b::l)
  |_,_=>u
def oj(P:Program)(H:ad)(src c:TypeId)(x:aa):Option aa:=
 match P.underlying src,P.underlying c,x with
 |some (.slice e),I .string,.ax l i n esz _=>
  (match P.underlying e,iy H l i n esz with
  |some (.int .u8),I a=>if esz=1 then(bytesOf a).map .str else u
  |_,_=>u)
 |some (.slice e),I .string,.ag=>(match P.underlying e with|some (.int .u8)=>I (.str [])|_=>u)
 |_,_,_=>u
def FP(f:Value->ByteArray->Sem (ForInStep ByteArray))(j:∀n s,f (.int .u8 n) s=pure (ForInStep.yield (s.push (UInt8.ofNat n.toNat)))):∀(e:List (List aa)) (c:List UInt8),bytesOf e=I c->∀(xs:List Value),b1 ρ e.flatten xs->∀(acc:ByteArray),
  (forIn xs acc f).run P w= .ok (acc++⟨c.toArray⟩) w
 |[],c,h,xs,i,acc=>by
  simp[bytesOf]at h;subst h;cases i;have:acc++(⟨#[]⟩:ByteArray)=acc:=by apply ByteArray.ext;simp
  simp[Sem.run_pure,this]
 |d::e,c,h,xs,i,acc=>by
  unfold bytesOf at h;split at h
  ·rename_i b l a ak;simp only[aT]at h;subst h;unfold byteOf at a;split at a
   ·rename_i n;simp only[aT]at a;subst a;cases i with|cons _ x _ p k m=>
    cases k;have o:=FP f j e l ak p m (acc.push (UInt8.ofNat n.toNat));rw[FG];simp only[Sem.run_bind,j,Sem.run_pure,Result.andThen_ok];rw[o]
    congr 1
    apply ByteArray.ext;simp
   ·cases a
  ·cases h
def Pj(B:Rel ρ H w){src o:TypeId}{x v:aa}{y:Value}(h:oj P H src o x=I v)(s:bz ρ x y):∃r,(convert src o y).run P w= .ok r w/\bz ρ v r:=by
 unfold oj at h;split at h
 ·rename_i e l i n esz cap au k;split at h
  ·rename_i z m G;split at h
   ·rename_i A;simp only[de]at h;obtain⟨d,E,rfl⟩:=h;cases s with|ax _ _ _ _ S a c ak Q O C=>
    obtain⟨T,br,bI,xs,b2,cM,M,V⟩:=zO B G ak;refine⟨.string ⟨d.toArray⟩,?_,.str _⟩;have L:(loadCells a n).run P w= .ok xs.toArray w:=by
     rw[A,Nat.mul_one]at cM;rw[<-cM];refine run_loadCells_list w a xs (λj N q=> ?_);have F:0<c:=by
      rcases wx c with p|p
      ·have R:n=0:=ae;have:xs=[]:=fg ae;subst this;simp at q
      ·exact p
     obtain⟨rfl,_⟩:=C F;rw[addr_add];exact M j N q
    have K:ByteArray.empty++(⟨d.toArray⟩:ByteArray)=⟨d.toArray⟩:=by apply ByteArray.ext;simp
    simp only[convert,Sem.run_bind,run_underlying au,run_underlying k,run_underlying m,Result.andThen_ok,Conv.bytesToString,L];rw[<-PQ];show((Sem.run P (forIn xs ByteArray.empty _) w).andThen _)=_;rw[FP (P:=P) (w:=w) _ (λ_ _=>rfl) z d E xs b2 ByteArray.empty,K];rfl
   ·cases h
  ·cases h
 ·rename_i e au k;cases s;split at h
  ·rename_i m;simp only[aT]at h;subst h;exact⟨.string ⟨#[]⟩,by simp[convert,run_underlying au,run_underlying k,run_underlying m,Conv.bytesToString];rfl,.str []⟩
  ·cases h
 ·cases h
def vf(P:Program)(H:ad)(t:TypeId)(l c:aa):Option (aa×ad):=
 match P.underlying t,l,c with
 |some (.slice e),.int d n,.int h m=>
  (match cS P e,j5 P e,fV P e with
  |some a,I iP,I z=>
   if d= .i64/\h= .i64/\0<=n/\n<=m/\m<=9223372036854775807/\(iP:Int)*m<=281474976710656/\z.cells.length=a/\0<a/\z.cells.all aa.one=Y then
    I (.ax H.next 0 n.toNat a (I m.toNat),H.push (.row X a (jk m.toNat z.cells)))
   else u
  |_,_,_=>u)
 |_,_,_=>u
def wrap_i64{n:Int}(a:0<=n)(c:n<=9223372036854775807):IntKind.i64.wrap n=n:=IntWalk.i64_in n ⟨ae,ae⟩
def PH(K:Rel ρ H w)(N:ρ H.next=u){t:TypeId}{l c a:aa}{l' c':Value}{H':ad}(h:vf P H t l c=I (a,H'))(ak:bz ρ l l')(L:bz ρ c c'):
  ∃r F G,(Instr.makeSlice t l' c').run P w= .ok r F/\bz G a r/\Step ρ H w G H' F:=by
 unfold vf at h;split at h
 ·rename_i e aq n ar m W;cases ak;cases L;split at h
  ·rename_i i iP z d k ah;split at h
   ·rename_i M;obtain⟨rfl,rfl,v,x,y,am,C,ap,S⟩:=M;simp only[aT,bS]at h;obtain⟨rfl,rfl⟩:=h;obtain⟨s,aj,ai⟩:=qu ah w;have T:∀al∈z.cells,al.one=true:=by simpa using S
    have A:=(ai ρ).cells;have q:s.cells.size=i:=by have:=A.length;rw[<-C,this];simp
    have V:=b1.AI A m.toNat;have au:=wr K N (esz:=i) (els:=jk m.toNat z.cells) (λe o=>by rw[mn o];exact C)
     (λe o=>by rw[mn o];exact T) V (tail:=[]) e
    cases j:P.info? e with
    |none=>unfold cS at d;rw[j]at d;cases d
    |some E=>
     have an:E.size=i:=by unfold cS at d;rw[j]at d;simpa using d
     have O:E.bytes=iP:=by unfold j5 at k;rw[j]at k;simpa using k
     have Q:(jk m.toNat s.cells.toList).flatten.length=m.toNat*i:=by simp[q]
     refine⟨.slice (I ⟨w.heap.size,0,u⟩) n.toNat m.toNat,_,_,?_,?_,au⟩
     ·have ab:=wrap_i64 v (Int.le_trans x y);have af:=wrap_i64 (Int.le_trans v x) y;have ao:¬(m<0\/281474976710656<(iP:Int)*m):=ae;have B:=OT s.cells m.toNat ae;rw[q]at B;simp only[Instr.makeSlice,Sem.run_bind,run_underlying W,Result.andThen_ok,asInt,asIntOf,Sem.run_pure,typeInfo,j,O,ab,af,run_program];rw[if_neg (by simp;omega)];simp only[Sem.run_bind,run_askRoom,Result.andThen_ok,run_sizeOf d];by_cases p:m.toNat*i=0
      ·simp only[p,if_true];have R:m.toNat=0:=by rcases Nat.mul_eq_zero.1 p with h|h<;>omega
       have aN:KL 0= #[]:=rfl;simp[newRow,aN,R]
      ·simp only[p,if_false,Sem.run_bind,aj,Result.andThen_ok,Sem.run_pure,q,B];simp[newRow]
     ·refine bz.ax (ρ:=ρ.eM H.next _) H.next 0 n.toNat (I m.toNat) ⟨w.heap.size,0,i,_⟩ _ m.toNat (Env.hs _ _ _) ae (by simp) (λ_=>⟨by simp,?_⟩)
      simp only[yz,Q];simp
   ·cases h
  ·cases h
 ·cases h
end
section
variable {P:Program}{ρ:Env}{H:ad}{w:World}
def lS(d:TypeDesc)(a b:aa):Option Bool:=
 match d,a,b with
 | .int _,.int k x,.int c y=>if k=c then I (x==y)else u
 | .string,.str x,.str y=>I (x==y)
 | .bool,.bool x,.bool y=>I (x==y)
 |_,_,_=>u
def iN(d:TypeDesc)(k:aa):List (aa×aa)->Nat->Option (Option (Nat×aa))
 |[],_=>I u
 |e::es,i=>match lS d k e.1 with
  |some Y=>I (I (i,e.2))
  |some X=>iN d k es (i+1)
  |none=>u
def Je{d:TypeDesc}{a b:aa}{bj cN:Value}{r:Bool}(h:lS d a b=I r)(c:bz ρ a bj)(e:bz ρ b cN):Instr.sameNow d bj cN=I r:=by
 unfold lS at h;split at h
 ·cases c;cases e;split at h
  ·rename_i i;subst i;simpa [Instr.sameNow]using h
  ·cases h
 ·cases c;cases e;simp only[aT]at h;subst h;simp[Instr.sameNow,Di]
 ·cases c;cases e;simpa [Instr.sameNow]using h
 ·cases h
inductive zv(ρ:Env):Option (Nat×aa)->Option (Nat×Value)->Prop where
 |none:zv ρ none none
 |some (i:Nat) (v:aa) (x:Value) (h:bz ρ v x):zv ρ (some (i,v)) (some (i,x))
def sR{d:TypeDesc}{k:aa}{o:Value}(n:bz ρ k o):∀(es:List (aa×aa)) (ents:List MapEntry) (i:Nat) (r:Option (Nat×aa)),iN d k es i=I r->
  b1 ρ (es.map (·.1)) (ents.map (·.key))->b1 ρ (es.map (·.2)) (ents.map (·.val))->∃ds,Instr.findNow d o ents i=I ds/\zv ρ r ds/\∀j v,r=I (j,v)->i<=j/\j<i+es.length/\∃e,es[j-i]? =I e/\lS d k e.1=I Y
 |[],ents,i,r,h,a,c=>by
  simp[iN]at h;subst h;have:ents=[]:=by
   have:=a.length;simp at this;exact fg this.symm
  subst this;exact⟨u,rfl,.none,λj v h=>by cases h⟩
 |e::es,[],i,r,h,a,c=>by have:=a.length;simp at this
 |e::es,m::ents,i,r,h,a,c=>by
  simp only[List.map_cons]at a c;cases a with|cons _ _ _ _ aI bf=>
  cases c with|cons _ _ _ _ a2 bo=>
  unfold iN at h;unfold Instr.findNow;split at h
  ·rename_i au;simp only[aT]at h;subst h;rw[Je au n aI];exact⟨_,rfl,.some i _ _ a2,λj v l=>by
    simp only[aT,bS]at l;obtain⟨rfl,_⟩:=l;exact⟨aV _,by simp,e,by simp,au⟩⟩
  ·rename_i au;rw[Je au n aI];obtain⟨ds,q,s,w⟩:=sR n es ents (i+1) r h bf bo;refine⟨ds,q,s,λj v l=> ?_⟩;obtain⟨z,A,p,x,y⟩:=w j v l;refine⟨ae,by simp;omega,p,?_,y⟩;rw[show j-i=(j-(i+1))+1 by omega];simpa using x
  ·cases h
def plainKey(d:TypeDesc):Bool:=
 match d with
 | .int _| .string| .bool=>Y
 |_=>X
def Ak{t:TypeId}{d:TypeDesc}(c:P.underlying t=I d)(a:plainKey d=Y)(empty:Bool)(v:Value)(n:Nat)(w:World):(Instr.checkKey empty (n+1) t v).run P w= .ok () w:=by
 unfold Instr.checkKey;simp only[Sem.run_bind,run_underlying c,Result.andThen_ok];cases d<;>simp[plainKey]at a<;>rfl
def h_(P:Program)(H:ad)(t:TypeId)(x k:aa)(a:Bool):Option aa:=
 match P.underlying t with
 |some (.map e c)=>
  (match P.underlying e,fV P c with
  |some d,I z=>
   if plainKey d=Y then
    (match(match x with| .iE=>I []| .map l=>(match H.get l with|some (.map es)=>I es|_=>u)|_=>u)with
    |some es=>
     (match iN d k es 0 with
     |some (I (_,v))=>I (if a then .tuple [v,.bool Y]else v)
     |some u=>I (if a then .tuple [z,.bool X]else z)
     |none=>u)
    |none=>u)
   else u
  |_,_=>u)
 |_=>u
def PF(M:Rel ρ H w){t:TypeId}{x k v:aa}{q m:Value}{ok:Bool}(h:h_ P H t x k ok=I v)(F:bz ρ x q)(A:bz ρ k m):
  ∃r,(Instr.lookup t q m ok).run P w= .ok r w/\bz ρ v r:=by
 unfold h_ at h;split at h
 ·rename_i V S E;split at h
  ·rename_i d z j R;split at h
   ·rename_i C;split at h
    ·rename_i es a;obtain⟨s,L,K⟩:=qu R w;have N:∃ents:Array MapEntry,b1 ρ (es.map (·.1)) (ents.toList.map (·.key))/\b1 ρ (es.map (·.2)) (ents.toList.map (·.val))/\
       ∀ds:Option (Nat×Value),Instr.findNow d m ents.toList 0=I ds->(Instr.lookup t q m ok).run P w=
       .ok (match ds with|some (_,v)=>(if ok then .tuple #[v,.bool Y]else v)|none=>(if ok then .tuple #[s,.bool X]else s)) w:=by
      split at a
      ·cases F;simp only[aT]at a;subst a;refine⟨#[],by simpa using b1.nil,by simpa using b1.nil,λds o=> ?_⟩;unfold Instr.lookup;simp only[Sem.run_bind,run_underlying E,Result.andThen_ok,Sem.run_pure];rw[Ak j C];simp only[Result.andThen_ok,Instr.findKey,Sem.run_bind,run_underlying j,o,Sem.run_pure];cases ds with
       |none=>simp[L]
       |some p=>obtain⟨i,v⟩:=p;simp
      ·cases F with|map l W ak=>
       split at a
       ·rename_i es' O;simp only[aT]at a;subst a;obtain⟨ents,clock,T,Q,c,e⟩:=AO (P:=P) M O ak;refine⟨ents,c,e,λds o=> ?_⟩;unfold Instr.lookup;simp only[Sem.run_bind,run_underlying E,Result.andThen_ok,Sem.run_pure,Q];rw[Ak j C];simp only[Result.andThen_ok,Instr.findKey,Sem.run_bind,run_underlying j,o,Sem.run_pure];cases ds with
        |none=>simp[L]
        |some p=>obtain⟨i,v⟩:=p;simp
       ·cases a
      ·cases a
     obtain⟨ents,c,e,B⟩:=N;split at h
     ·rename_i i ab n;simp only[aT]at h;subst h;obtain⟨ds,ap,aE,_⟩:=sR A es ents.toList 0 _ n c e;cases aE with|some _ _ y G=>
      refine⟨_,B _ ap,?_⟩;cases ok
      ·exact G
      ·exact .tuple _ [y,.bool Y] (.cons _ _ _ _ G (.cons _ _ _ _ (.bool _) .nil))
     ·rename_i n;simp only[aT]at h;subst h;obtain⟨ds,ap,aE,_⟩:=sR A es ents.toList 0 _ n c e;cases aE;refine⟨_,B _ ap,?_⟩;cases ok
      ·exact K ρ
      ·exact .tuple _ [s,.bool X] (.cons _ _ _ _ (K ρ) (.cons _ _ _ _ (.bool _) .nil))
     ·cases h
    ·cases h
   ·cases h
  ·cases h
 ·cases h
def zU(H:ad):aa×ad:=(.map H.next,H.push (.map []))
def PG(d:Rel ρ H w)(e:ρ H.next=u)(t:TypeId):∃r a c,(Instr.makeMap t u).run P w= .ok r a/\bz c (zU H).1 r/\Step ρ H w c (zU H).2 a:=by
 have au:=B7 d e (.map []) rfl (.map #[] 0) ⟨w.heap.size,0,0,0⟩ rfl (λ_ _ _ h=>by cases h) (λes h=>by
  simp only[b_.map.injEq]at h;subst h;exact⟨#[],0,heap_alloc_new _ _,by simpa using b1.nil,by simpa using b1.nil⟩)
 refine⟨.map (I w.heap.size),_,_,?_,.map H.next ⟨w.heap.size,0,0,0⟩ (Env.hs _ _ _),au⟩;simp[Instr.makeMap]
def MH(o:Rel ρ H w){l:Nat}{es es':List (aa×aa)}(j:H.get l=I (.map es)){d:Loc}(ak:ρ l=I d){ents:Array MapEntry}{clock:Nat}
  (m:b1 ρ (es'.map (·.1)) (ents.toList.map (·.key))) (n:b1 ρ (es'.map (·.2)) (ents.toList.map (·.val))):
  Step ρ H w ρ (H.set l (.map es')) {w with heap:=w.heap.setIfInBounds d.block (.map ents clock)}:=by
 have x:=ad.aF j;obtain⟨a,i,ab,V,E,_,_⟩:=o.map _ _ j;obtain rfl:d=a:=Option.some.inj (ak.symm.trans i);have F:=kk E;have q:∀k,k≠d.block->({w with heap:=w.heap.setIfInBounds d.block (.map ents clock)}:World).heap[k]? =w.heap[k]? :=λk K=>by
  show(w.heap.setIfInBounds d.block _)[k]? =_;rw[ij,if_neg (Ne.symm K)]
 have p:∀l' a,H.live l'->l'≠l->ρ l'=I a->a.block≠d.block:=λl' a h aU e G=>
  o.apart l l' d a (.inr ⟨_,j⟩) h (Ne.symm aU) ak e G.symm
 have y:∀l',(H.set l (.map es')).rw l'->H.rw l':=by
  intro l' h;by_cases c:l=l'
  ·subst c;exact .inr ⟨_,j⟩
  ·simpa [ad.rw,ad.get_set_other c]using h
 have L:∀l',(H.set l (.map es')).live l'->H.live l':=by
  intro l' h;by_cases c:l=l'
  ·subst c;exact .inr ⟨_,j⟩
  ·simpa [ad.live,ad.get_set_other c]using h
 refine⟨ρ.le_refl,aV _,λ_ _=>rfl,⟨?_,?_,?_⟩,rfl,rfl,rfl,by simp,?_,?_,ad.Mj rfl⟩
 ·intro l' ah af W h;by_cases c:l=l'
  ·subst c;rw[ad.get_set_same x]at h;cases h
  ·rw[ad.get_set_other c]at h;obtain⟨a,i,R,c',T,B,s,v,S⟩:=o.row _ _ _ _ h;exact⟨a,i,R,c',T,B,by rw[q _ (p l' a (.inl ⟨_,_,_,h⟩) (Ne.symm c) i)];exact s,v,S⟩
 ·intro l' ae h;by_cases c:l=l'
  ·subst c;rw[ad.get_set_same x]at h;simp only[aT,b_.map.injEq]at h;subst h;refine⟨d,ak,ents,clock,?_,m,n⟩;show(w.heap.setIfInBounds d.block _)[d.block]? =_;rw[ij,if_pos rfl,if_pos F]
  ·rw[ad.get_set_other c]at h;obtain⟨a,i,A,z,s,v⟩:=o.map _ _ h;exact⟨a,i,A,z,by rw[q _ (p l' a (.inr ⟨_,h⟩) (Ne.symm c) i)];exact s,v⟩
 ·intro N O P Q m n p ap aE;exact o.apart N O P Q (y _ m) (L _ n) p ap aE
 ·intro b _ M;refine q b ?_;rintro rfl;exact M ⟨l,d,.inr ⟨_,j⟩,ak,rfl⟩
 ·rintro b ⟨l',a,m,n,C⟩;exact .inl ⟨l',a,y _ m,n,C⟩
def fr(P:Program)(H:ad)(t:TypeId)(m k v:aa):Option ad:=
 match P.underlying t,m with
 |some (.map a _),.map l=>
  (match P.underlying a,H.get l with
  |some d,I (.map es)=>
   if plainKey d=Y then
    (match iN d k es 0 with
    |some (I (i,_))=>I (H.set l (.map (es.set i (k,v))))
    |some u=>I (H.set l (.map (es++[(k,v)])))
    |none=>u)
   else u
  |_,_=>u)
 |_,_=>u
def aap{d:TypeDesc}{a b:aa}{bj cN:Value}(h:lS d a b=I Y)(c:bz ρ a bj)(e:bz ρ b cN)(n:Nat):Instr.sameBits (n+1) cN bj=true:=by
 unfold lS at h;split at h
 ·cases c;cases e;split at h
  ·rename_i i;subst i;simp at h;subst h;simp[Instr.sameBits]
  ·cases h
 ·cases c;cases e;simp at h;subst h;simp[Instr.sameBits,Di]
 ·cases c;cases e;simp at h;subst h;simp[Instr.sameBits]
 ·cases h
def Tq(es:List (aa×aa))(i:Nat)(k v:aa):(es.set i (k,v)).map (·.1)=(es.map (·.1)).set i k:=by simp[Qad]
def Tr(es:List (aa×aa))(i:Nat)(k v:aa):(es.set i (k,v)).map (·.2)=(es.map (·.2)).set i v:=by simp[Qad]
def En(B:Rel ρ H w){t:TypeId}{m k v:aa}{m' a c:Value}{H':ad}(h:fr P H t m k v=I H')(af:bz ρ m m')(s:bz ρ k a)(M:bz ρ v c):
  ∃O,(Instr.mapUpdate t m' a c).run P w= .ok () O/\Step ρ H w ρ H' O:=by
 unfold fr at h;split at h
 ·rename_i ao am l al;cases af with|map _ x ak=>
  split at h
  ·rename_i d es F E;split at h
   ·rename_i ah;obtain⟨ents,clock,Q,R,n,z⟩:=AO (P:=P) B E ak;have L:∀o:Obj,(setObj x.block o).run P w= .ok () {w with heap:=w.heap.setIfInBounds x.block o}:=λo=>by simp[setObj,Sem.run,Q]
    have K:∀ds,Instr.findNow d a ents.toList 0=I ds->(Instr.mapUpdate t (.map (I x.block)) a c).run P w=
      (match ds with
       |some (i,_)=>(do
        let key<-Instr.keyThatStays (((ents[i]?).map (·.key)).getD a) a
        setObj x.block (.map (ents.modify i λe=>{e with key,val:=c}) clock):Sem Unit).run P w
       |none=>(setObj x.block (.map (ents.push {key:=a,val:=c,born:=clock}) (clock+1))).run P w):=by
     intro ds ai;unfold Instr.mapUpdate;simp only[Sem.run_bind,run_underlying al,Result.andThen_ok,R];rw[Ak F ah];simp only[Result.andThen_ok,Instr.findKey,Sem.run_bind,run_underlying F,ai,Sem.run_pure];cases ds with
     |none=>rfl
     |some p=>obtain⟨i,v⟩:=p;simp only[Sem.run_bind]
    split at h
    ·rename_i i v0 C;simp only[aT]at h;subst h;obtain⟨ds,ap,aE,bB⟩:=sR s es ents.toList 0 _ C n z;cases aE with|some _ _ y an=>
     obtain⟨_,S,e,G,au⟩:=bB i v0 rfl;simp only[Qab,yz]at G S;have ab:=n.length;simp only[WX,vw]at ab;have A:i<ents.size:=ae;obtain⟨N,T,W⟩:=n.get i e.1 (by simp[G]);have V:ents[i].key=N:=by simpa [A]using T
     have aj:(Instr.keyThatStays (((ents[i]?).map (·.key)).getD a) a).run P w= .ok a w:=by
      unfold Instr.keyThatStays;have:((ents[i]?).map (·.key)).getD a=N:=by simp[A,V]
      rw[this,if_pos (aap au s W 9999)];rfl
     refine⟨_,?_,MH B E ak (es':=es.set i (k,v)) (ents:=ents.modify i λe=>{e with key:=a,val:=c}) (clock:=clock) ?_ ?_⟩
     ·rw[K _ ap];simp only[Sem.run_bind,aj,Result.andThen_ok];exact L _
     ·rw[Tq];have:(ents.modify i λe=>{e with key:=a,val:=c}).toList.map (·.key)=(ents.toList.map (·.key)).set i a:=by
       apply EF;intro j;by_cases q:i=j
       ·subst q;simp[A]
       ·simp[q]
      rw[this];exact n.set s i
     ·rw[Tr];have:(ents.modify i λe=>{e with key:=a,val:=c}).toList.map (·.val)=(ents.toList.map (·.val)).set i c:=by
       apply EF;intro j;by_cases q:i=j
       ·subst q;simp[A]
       ·simp[q]
      rw[this];exact z.set M i
    ·rename_i C;simp only[aT]at h;subst h;obtain⟨ds,ap,aE,bB⟩:=sR s es ents.toList 0 _ C n z;cases aE;refine⟨_,?_,MH B E ak (es':=es++[(k,v)]) (ents:=ents.push {key:=a,val:=c,born:=clock}) (clock:=clock+1) ?_ ?_⟩
     ·rw[K _ ap];exact L _
     ·simpa using n.append (.cons _ _ _ _ s .nil)
     ·simpa using z.append (.cons _ _ _ _ M .nil)
    ·cases h
   ·cases h
  ·cases h
 ·cases h
end
structure bi where
 t:bG aa
 size:Nat
def bi.get(V:bi)(d:Nat):aa:=match V.t.get d with
 |some v=>v
 |none=> .tuple []
def bi.put(V:bi)(a:Option Nat)(v:aa):Option bi:=match a with
 |none=>I V
 |some d=>if d<V.size then I {V with t:=bG.put v (d+1) V.t d}else u
structure eg(ρ:Env)(V:bi)(a:Act):Prop where
 size:V.size=a.tmps.size
 get:∀d,bz ρ (V.get d) (a.tmps.getD d undef)
 none:a.defers=[]
def eg.mono{ρ c:Env}{V:bi}{a:Act}(h:eg ρ V a)(e:ρ.le c):eg c V a:=⟨h.size,λd=>(h.get d).mono e,h.none⟩
def bi.ta{V bh:bi}{c:Option Nat}{v:aa}(h:V.put c v=I bh)(d:Nat):bh.get d=if c=I d then v else V.get d:=by
 cases c with
 |none=>simp only[bi.put,aT]at h;subst h;simp
 |some e=>
  simp only[bi.put]at h;split at h
  ·simp only[aT]at h;subst h;by_cases a:e=d
   ·subst a;simp[bi.get,bG.tc v (e+1) V.t e ae]
   ·have:(I e=I d)=False:=by simp[a]
    simp[bi.get,bG.tb v (e+1) V.t e d a,a]
  ·cases h
def bi.su{V bh:bi}{a:Option Nat}{v:aa}(h:V.put a v=I bh):bh.size=V.size:=by
 cases a with
 |none=>simp only[bi.put,aT]at h;subst h;rfl
 |some e=>
  simp only[bi.put]at h;split at h
  ·simp only[aT]at h;subst h;rfl
  ·cases h
def bi.LN{V bh:bi}{d:Nat}{v:aa}(h:V.put (I d) v=I bh):d<V.size:=by
 simp only[bi.put]at h;split at h
 ·assumption
 ·cases h
def eg.put{ρ:Env}{V bh:bi}{a:Act}{c:Option Nat}{v:aa}{x:Value}(h:eg ρ V a)(i:V.put c v=I bh)(l:bz ρ v x):eg ρ bh (a.put c x):=by
 refine⟨?_,λd=> ?_,?_⟩
 ·rw[bi.su i,h.size];cases c<;>simp[Act.put]
 ·rw[bi.ta i];cases c with
  |none=>simpa [Act.put]using h.get d
  |some e=>
   have k:=bi.LN i;rw[h.size]at k;by_cases j:e=d
   ·subst j;simpa [Act.put,k]using l
   ·have:=h.get d;simp only[aT,j,if_false,Act.put,Array.getD_eq_getD_getElem?,ij];simpa using this
 ·cases c<;>simpa [Act.put]using h.none
def ck(V:bi):Operand->Option aa
 | .tmp t=>I (V.get t)
 | .const v=>tz v
 | .global _=>u
 | .func f=>I (.func (.func f) [] [])
section
variable {P:Program}{ρ:Env}{H:ad}{w:World}{V:bi}{a:Act}
def dK(d:eg ρ V a){x:Operand}{v:aa}(h:ck V x=I v):bz ρ v (a.eval x):=by
 cases x with
 |tmp t=>simp only[ck,aT]at h;subst h;exact d.get t
 |const c=>exact BF h ρ
 |global g=>cases h
 |func f=>simp only[ck,aT]at h;subst h;exact .func (.func f) [] [] [] [] .nil .nil
def ia(V:bi):List Operand->Option (List aa)
 |[]=>I []
 |x::xs=>match ck V x,ia V xs with
  |some v,I a=>I (v::a)
  |_,_=>u
def qt(d:eg ρ V a):∀{xs:List Operand} {c:List aa},ia V xs=I c->b1 ρ c (xs.map a.eval)
 |[],c,h=>by simp only[ia,aT]at h;subst h;exact .nil
 |x::xs,c,h=>by
  simp only[ia]at h;split at h
  ·rename_i v j e i;simp only[aT]at h;subst h;exact .cons _ _ _ _ (dK d e) (qt d i)
  ·cases h
def je(V:bi):List (Nat×Operand)->Option (List (Nat×aa))
 |[]=>I []
 |(i,x)::xs=>match ck V x,je V xs with
  |some v,I a=>I ((i,v)::a)
  |_,_=>u
def zW(d:eg ρ V a):∀{xs:List (Nat×Operand)} {c:List (Nat×aa)},je V xs=I c->qg ρ c (xs.map λ(i,x)=>(i,a.eval x))
 |[],c,h=>by simp only[je,aT]at h;subst h;exact trivial
 |(i,x)::xs,c,h=>by
  simp only[je]at h;split at h
  ·rename_i v k e j;simp only[aT]at h;subst h;exact⟨rfl,dK d e,zW d j⟩
  ·cases h
def kd(V:bi):Option Operand->Option (Option aa)
 |none=>I u
 |some x=>match ck V x with
  |some v=>I (I v)
  |none=>u
def zZ(c:eg ρ V a){x:Option Operand}{v:Option aa}(h:kd V x=I v):qf ρ v (x.map a.eval):=by
 cases x with
 |none=>simp only[kd,aT]at h;subst h;exact .none
 |some x=>
  simp only[kd]at h;split at h
  ·rename_i e d;simp only[aT]at h;subst h;exact .some _ _ (dK c d)
  ·cases h
def bd:aa->Option aa
 | .ptr l i c=>I (.ptr l i c)
 | .iface t v=>I (.iface t v)
 | .func (.func f) x y=>I (.func (.func f) x y)
 |_=>u
def zS(P:Program)(t:TypeId)(v:aa):Option aa:=
 match P.underlying t with
 |some (.interface _)=>u
 |some _=>I (.iface t v)
 |none=>u
def bK(P:Program)(H:ad)(b:Builtin)(ts:List TypeId)(a:List aa):Option aa:=
 match b,ts,a with
 | .len,[t],[x]=>zT P H t x
 | .max,_,[x,y]=>vg x y
 | .min,_,[x,y]=>vh x y
 |_,_,_=>u
def jf(P:Program)(o:Op)(V:bi):Option aa:=
 match o with
 | .move x=>ck V x
 | .assign x=>ck V x
 | .pick c a b=>match ck V c with
  |some (.bool t)=>if t then ck V a else ck V b
  |_=>u
 | .build t q=>(je V q.toList).bind (bA P t)
 | .nilCheck x=>(ck V x).bind bd
 | .binOp op t x y _=>(ck V x).bind λe=>(ck V y).bind λv=>sO P op t x y e v
 | .unOp op _ x=>(ck V x).bind (cI op)
 | .convert s d x=>(ck V x).bind (mU P s d)
 | .makeInterface t x=>(ck V x).bind (zS P t)
 | .makeFunc fn f c=>(ia V f.toList).bind λk=>(ia V c.toList).bind λcs=>I (.func fn k cs)
 | .slice t x lo n p=>(ck V x).bind λv=>(kd V lo).bind λl=>(kd V n).bind λh=>(kd V p).bind λm=>ff P t v l h m
 | .fieldAddr t x f=>(ck V x).bind λv=>j P t v f
 | .field t x f=>(ck V x).bind λv=>ca P t v f
 | .indexAddr t x i=>(ck V x).bind λe=>(ck V i).bind λv=>bX P t e v
 | .index t x i=>(ck V x).bind λe=>(ck V i).bind λv=>eF P t e v
 | .extract x i=>(ck V x).bind λv=>dG v i
 | .call c=>match c.callee with
  | .builtin b=>(ia V c.args.toList).bind (bK P .empty b c.argTypes.toList)
  |_=>u
 |_=>u
def gk{s:Sem Value}{x:Value}{w a:World}(h:s.run P w= .ok x a):(do pure (.value (<-s)):Sem Next).run P w= .ok (.value x) a:=by
 simp[h]
def Co{s:Sem Unit}{w a:World}(h:s.run P w= .ok () a):(do s;pure .skip:Sem Next).run P w= .ok .skip a:=by
 simp[h]
def Rel.empty(ρ:Env)(w:World)(n:Nat):Rel ρ ⟨.leaf,n⟩ w:=by
 have:∀l,(⟨.leaf,n⟩:ad).get l=none:=λl=>by unfold ad.get;split<;>first|exact bG.s_ _|rfl
 refine⟨λl _ _ _ h=> ?_,λl _ h=> ?_,λl l' _ _ h=> ?_⟩
 ·rw[this]at h;cases h
 ·rw[this]at h;cases h
 ·rcases h with⟨_,_,h⟩|⟨_,h⟩<;>(rw[this]at h;cases h)
def Ec(l:Rel ρ H w){b:Builtin}{ts:List TypeId}{k:List aa}{v:aa}{xs:List Value}(h:bK P H b ts k=I v)(j:b1 ρ k xs)(d:TypeId)(cs:Array Bool):
  ∃x,(builtin b ts.toArray d cs xs.toArray).run P w= .ok (.value x) w/\bz ρ v x:=by
 unfold bK at h;split at h
 ·cases j with|cons _ x _ _ a c=>
  cases c;obtain⟨r,ap,aE⟩:=PA l d h a;exact⟨r,gk ap,aE⟩
 ·cases j with|cons _ x _ _ a c=>
  cases c with|cons _ y _ _ e i=>
  cases i;obtain⟨r,ap,aE⟩:=PI (P:=P) ts.toArray d h a e w;exact⟨r,gk ap,aE⟩
 ·cases j with|cons _ x _ _ a c=>
  cases c with|cons _ y _ _ e i=>
  cases i;obtain⟨r,ap,aE⟩:=PJ (P:=P) ts.toArray d h a e w;exact⟨r,gk ap,aE⟩
 ·cases h
def map_toArray{a c:Type}(f:a->c)(xs:Array a):xs.map f=(xs.toList.map f).toArray:=by cases xs;simp
def Cm{o:Oper}{c:Call}{b:Builtin}(e:o.op= .call c)(d:c.callee= .builtin b)(w:World):
  (execOp a.eval o).run P w=(builtin b c.argTypes o.type (c.args.map λ | .const _=>Y|_=>X) (c.args.map a.eval)).run P w:=by
 unfold execOp;rw[e];simp only[resolve,d];rfl
def PY{o:Oper}{v:aa}(h:jf P o.op V=I v)(p:eg ρ V a)(w:World):∃x,(execOp a.eval o).run P w= .ok (.value x) w/\bz ρ v x:=by
 unfold jf at h;split at h
 ·rename_i x e;exact⟨_,by unfold execOp;rw[e];rfl,dK p h⟩
 ·rename_i x e;exact⟨_,by unfold execOp;rw[e];rfl,dK p h⟩
 ·rename_i c x y e;split at h
  ·rename_i t aq;have j:=dK p aq;have q:a.eval c= .bool t:=by
    generalize a.eval c=z at j;cases j;rfl
   cases t
   ·exact⟨_,by unfold execOp;rw[e];simp only[q];rfl,dK p h⟩
   ·exact⟨_,by unfold execOp;rw[e];simp only[q];rfl,dK p h⟩
  ·cases h
 ·rename_i t N e;simp only[ct]at h;obtain⟨K,j,q⟩:=h;obtain⟨x,ap,aE⟩:=Ph q (zW p j) w;refine⟨x,?_,aE⟩;unfold execOp;rw[e];rw[<-map_toArray]at ap;exact gk ap
 ·rename_i x e;simp only[ct]at h;obtain⟨A,j,q⟩:=h;have n:=dK p j;refine⟨a.eval x,?_,?_⟩
  ·unfold execOp;rw[e];simp only
   generalize a.eval x=z at n;unfold bd at q;split at q
   ·cases n;rfl
   ·cases n;rfl
   ·cases n;rfl
   ·cases q
  ·unfold bd at q;split at q<;>first|(simp only[aT]at q;subst q;exact n)|cases q
 ·rename_i op t x y O e;simp only[ct]at h;obtain⟨A,j,z,q,n⟩:=h;obtain⟨r,ap,aE⟩:=Pf n (dK p j) (dK p q) w;exact⟨r,by unfold execOp;rw[e];exact gk ap,aE⟩
 ·rename_i op t x e;simp only[ct]at h;obtain⟨A,j,n⟩:=h;obtain⟨r,ap,aE⟩:=P9 n (dK p j) w;exact⟨r,by unfold execOp;rw[e];exact gk ap,aE⟩
 ·rename_i s d x e;simp only[ct]at h;obtain⟨A,j,n⟩:=h;obtain⟨r,ap,aE⟩:=Pl n (dK p j) w;exact⟨r,by unfold execOp;rw[e];exact gk ap,aE⟩
 ·rename_i t x e;simp only[ct]at h;obtain⟨A,j,n⟩:=h;have B:=dK p j;unfold zS at n;split at n
  ·cases n
  ·rename_i d G H;simp only[aT]at n;subst n;refine⟨.iface t (a.eval x),?_,.iface _ _ _ B⟩;unfold execOp;rw[e];refine gk ?_;unfold Instr.makeInterface;simp only[Sem.run_bind,run_underlying H,Result.andThen_ok];cases d<;>first|rfl|exact absurd rfl (G _)
  ·cases n
 ·rename_i fn f c e;simp only[ct,aT]at h;obtain⟨C,j,cs,q,rfl⟩:=h;refine⟨_,?_,.func fn C cs _ _ (qt p j) (qt p q)⟩;unfold execOp;rw[e];rw[<-map_toArray,<-map_toArray];rfl
 ·rename_i t x lo L M e;simp only[ct]at h;obtain⟨A,j,l,q,k,n,m,B,E⟩:=h;obtain⟨r,ap,aE⟩:=P3 E (dK p j) (zZ p q) (zZ p n) (zZ p B) w;exact⟨r,by unfold execOp;rw[e];exact gk ap,aE⟩
 ·rename_i t x f e;simp only[ct]at h;obtain⟨A,j,n⟩:=h;obtain⟨r,ap,aE⟩:=Po n (dK p j) w;exact⟨r,by unfold execOp;rw[e];exact gk ap,aE⟩
 ·rename_i t x f e;simp only[ct]at h;obtain⟨A,j,n⟩:=h;obtain⟨r,ap,aE⟩:=Pp n (dK p j) w;exact⟨r,by unfold execOp;rw[e];exact gk ap,aE⟩
 ·rename_i t x i e;simp only[ct]at h;obtain⟨A,j,z,q,n⟩:=h;obtain⟨r,ap,aE⟩:=Py n (dK p j) (dK p q) w;exact⟨r,by unfold execOp;rw[e];exact gk ap,aE⟩
 ·rename_i t x i e;simp only[ct]at h;obtain⟨A,j,z,q,n⟩:=h;obtain⟨r,ap,aE⟩:=Pz n (dK p j) (dK p q) w;exact⟨r,by unfold execOp;rw[e];exact gk ap,aE⟩
 ·rename_i x i e;simp only[ct]at h;obtain⟨A,j,n⟩:=h;obtain⟨r,ap,aE⟩:=Pn n (dK p j) w;exact⟨r,by unfold execOp;rw[e];exact gk ap,aE⟩
 ·rename_i c e;split at h
  ·rename_i b F;simp only[ct]at h;obtain⟨K,j,q⟩:=h;obtain⟨x,ap,aE⟩:=Ec (Rel.empty ρ w 0) q (qt p j) o.type (c.args.map λ | .const _=>Y|_=>X);refine⟨x,?_,aE⟩;rw[Cm e F,map_toArray a.eval];simpa using ap
  ·cases h
 ·cases h
def hy(P:Program)(o:Op)(V:bi)(H:ad):Option aa:=
 match o with
 | .load t x=>(ck V x).bind (A P H t)
 | .lookup t x k ok=>(ck V x).bind λa=>(ck V k).bind λv=>h_ P H t a v ok
 | .convert s d x=>(ck V x).bind (oj P H s d)
 | .call c=>match c.callee with
  | .builtin b=>(ia V c.args.toList).bind (bK P H b c.argTypes.toList)
  |_=>u
 |_=>u
def PZ(m:Rel ρ H w){o:Oper}{v:aa}(h:hy P o.op V H=I v)(l:eg ρ V a):∃x,(execOp a.eval o).run P w= .ok (.value x) w/\bz ρ v x:=by
 unfold hy at h;split at h
 ·rename_i t x i;simp only[ct]at h;obtain⟨p,e,j⟩:=h;obtain⟨r,ap,aE⟩:=Em m j (dK l e);exact⟨r,by unfold execOp;rw[i];exact gk ap,aE⟩
 ·rename_i t x k ok i;simp only[ct]at h;obtain⟨p,e,z,n,j⟩:=h;obtain⟨r,ap,aE⟩:=PF m j (dK l e) (dK l n);exact⟨r,by unfold execOp;rw[i];exact gk ap,aE⟩
 ·rename_i s d x i;simp only[ct]at h;obtain⟨p,e,j⟩:=h;obtain⟨r,ap,aE⟩:=Pj m j (dK l e);exact⟨r,by unfold execOp;rw[i];exact gk ap,aE⟩
 ·rename_i c i;split at h
  ·rename_i b q;simp only[ct]at h;obtain⟨y,e,n⟩:=h;obtain⟨x,ap,aE⟩:=Ec m n (qt l e) o.type (c.args.map λ | .const _=>Y|_=>X);refine⟨x,?_,aE⟩;rw[Cm i q,map_toArray a.eval];simpa using ap
  ·cases h
 ·cases h
def om(P:Program)(o:Op)(V:bi)(H:ad):Option (aa×ad):=
 match o with
 | .alloc t=>va P H t
 | .box _ x=>(ck V x).bind (qm H)
 | .buildSlice t n a=>(je V a.toList).bind (sP P H t n)
 | .makeMap _ u=>I (zU H)
 | .makeSlice t l c=>(ck V l).bind λd=>(ck V c).bind λv=>vf P H t d v
 |_=>u
def PM(m:Rel ρ H w)(p:ρ H.next=u){o:Oper}{v:aa}{H':ad}(h:om P o.op V H=I (v,H'))(q:eg ρ V a):
  ∃x d e,(execOp a.eval o).run P w= .ok (.value x) d/\bz e v x/\Step ρ H w e H' d:=by
 unfold om at h;split at h
 ·rename_i t i;obtain⟨r,d,e,ap,aE,bB⟩:=Pd m p h;exact⟨r,d,e,by unfold execOp;rw[i];exact gk ap,aE,bB⟩
 ·rename_i t x i;simp only[ct]at h;obtain⟨s,j,k⟩:=h;obtain⟨r,d,e,ap,aE,bB⟩:=Eb (P:=P) m p k (dK q j) t;exact⟨r,d,e,by unfold execOp;rw[i];exact gk ap,aE,bB⟩
 ·rename_i t n A i;simp only[ct]at h;obtain⟨s,j,k⟩:=h;obtain⟨r,d,e,ap,aE,bB⟩:=Pg m p k (zW q j);refine⟨r,d,e,?_,aE,bB⟩;unfold execOp;rw[i];rw[<-map_toArray]at ap;exact gk ap
 ·rename_i t i;simp only[aT]at h;obtain⟨r,d,e,ap,aE,bB⟩:=PG (P:=P) m p t;rw[h]at aE bB;exact⟨r,d,e,by unfold execOp;rw[i];exact gk ap,aE,bB⟩
 ·rename_i t l c i;simp only[ct]at h;obtain⟨s,j,z,y,k⟩:=h;obtain⟨r,d,e,ap,aE,bB⟩:=PH m p k (dK q j) (dK q y);exact⟨r,d,e,by unfold execOp;rw[i];exact gk ap,aE,bB⟩
 ·cases h
def b_.k6:b_->Bool
 | .row X _ _=>Y
 | .map _=>Y
 |_=>X
def b_.k6.ro{b:b_}(h:b.k6=Y):b.vG=false:=by
 cases b with
 |row ro e s=>cases ro<;>first|rfl|cases h
 |map es=>rfl
 |dead=>rfl
def oS(r:Option (aa×ad))(l:Nat):Option (aa×b_):=
 match r with
 |some (v,H')=>if H'.next=l+1 then(match H'.get l with
  |some b=>if b.k6 then I (v,b)else u
  |none=>u)else u
 |none=>u
def jK(P:Program)(o:Op)(V:bi)(l:Nat):Option (aa×b_):=oS (om P o V ⟨.leaf,l⟩) l
def kY(P:Program)(o:Op)(V:bi)(H:ad):Option (aa×ad):=
 match o with
 | .store t x y=>(ck V x).bind λa=>(ck V y).bind λv=>(aB P H t a v).map λH'=>(.tuple [],H')
 | .mapUpdate t m k x=>(ck V m).bind λa=>(ck V k).bind λv=>(ck V x).bind λz=>(fr P H t a v z).map λH'=>(.tuple [],H')
 | .insert t m k x=>(ck V m).bind λa=>(ck V k).bind λv=>(ck V x).bind λz=>(fr P H t a v z).map λH'=>(.tuple [],H')
 | .call c=>match c.callee,c.args.toList with
  | .builtin .append,[s,x]=>(ck V s).bind λa=>(ck V x).bind λv=>c_ P H c.argTypes.toList a v
  |_,_=>u
 |_=>u
def DS(x:Value):Next->Prop
 | .value y=>y=x
 | .skip=>x=undef
 |_=>False
def Qc(q:Rel ρ H w){o:Oper}{v:aa}{H':ad}(h:kY P o.op V H=I (v,H'))(G:H.next<H'.next->ρ H.next=u)(d:eg ρ V a):
  ∃n x e A,(execOp a.eval o).run P w= .ok n e/\DS x n/\bz A v x/\Step ρ H w A H' e:=by
 unfold kY at h;split at h
 ·rename_i t x y p;simp only[ct,de,bS]at h;obtain⟨C,i,z,j,H1,l,rfl,rfl⟩:=h;obtain⟨e,ap,aE⟩:=P4 q l (dK d i) (dK d j);exact⟨.skip,undef,e,ρ,by unfold execOp;rw[p];exact Co ap,rfl,.tuple [] [] .nil,aE⟩
 ·rename_i t m k x p;simp only[ct,de,bS]at h;obtain⟨C,i,z,j,y,B,H1,l,rfl,rfl⟩:=h;obtain⟨e,ap,aE⟩:=En q l (dK d i) (dK d j) (dK d B);exact⟨.skip,undef,e,ρ,by unfold execOp;rw[p];exact Co ap,rfl,.tuple [] [] .nil,aE⟩
 ·rename_i t m k x p;simp only[ct,de,bS]at h;obtain⟨C,i,z,j,y,B,H1,l,rfl,rfl⟩:=h;obtain⟨e,ap,aE⟩:=En q l (dK d i) (dK d j) (dK d B);exact⟨.skip,undef,e,ρ,by unfold execOp;rw[p];exact Co ap,rfl,.tuple [] [] .nil,aE⟩
 ·rename_i c p;split at h
  ·rename_i s x F E;simp only[ct]at h;obtain⟨C,i,z,j,l⟩:=h;obtain⟨r,e,A,ap,aE,bB⟩:=Pe q o.type l G (dK d i) (dK d j);refine⟨.value r,r,e,A,?_,rfl,aE,bB⟩;rw[Cm p F,map_toArray a.eval,E];refine gk (s:=Builtin.append_ c.argTypes o.type _) ?_;simpa using ap
  ·cases h
 ·cases h

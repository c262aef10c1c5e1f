/-
  Texts of one proof, laid together: Fv0 Fv1 Fv2 Fv3 Fv4 Fv5 Fv6.
-/
import GoSem.Dispatch
import Derived.WalkKit
import Derived.Laws.IdiomCopy
set_option linter.unusedVariables false
set_option linter.unusedSimpArgs false
namespace Go.Ev
inductive AV where
  | bool (b : Bool)
  | int (k : IntKind) (n : Int)
  | str (s : List UInt8)
  | ptr (l i c : Nat)
  | nilPtr
  | sl (l i n esz : Nat) (cap : Option Nat)
  | nilSl
  | map (l : Nat)
  | nilMap
  | func (fn : Fn) (first captured : List AV)
  | nilFunc
  | iface (t : TypeId) (v : AV)
  | nilIface
  | agg (cs : List AV)
  | tuple (vs : List AV)
instance : Inhabited AV := ⟨.tuple []⟩
inductive ABlk where
  | row (ro : Bool) (esz : Nat) (els : List (List AV))
  | map (es : List (AV × AV))
  | dead
inductive D8 where
  | d0 | d1 | d2 | d3 | d4 | d5 | d6 | d7
inductive Tr (α : Type) where
  | leaf
  | node (v : Option α) (c0 c1 c2 c3 c4 c5 c6 c7 : Tr α)
def dig (n : Nat) : D8 := match n with
  | 0 => .d0 | 1 => .d1 | 2 => .d2 | 3 => .d3 | 4 => .d4 | 5 => .d5 | 6 => .d6 | _ => .d7
theorem dig_inj {n m : Nat} (hn : n < 8) (hm : m < 8) (h : dig n = dig m) : n = m := by
  have h1 : n = 0 ∨ n = 1 ∨ n = 2 ∨ n = 3 ∨ n = 4 ∨ n = 5 ∨ n = 6 ∨ n = 7 := by omega
  have h2 : m = 0 ∨ m = 1 ∨ m = 2 ∨ m = 3 ∨ m = 4 ∨ m = 5 ∨ m = 6 ∨ m = 7 := by omega
  rcases h1 with rfl | rfl | rfl | rfl | rfl | rfl | rfl | rfl <;> rcases h2 with rfl | rfl | rfl | rfl | rfl | rfl | rfl | rfl <;> first | rfl | cases h
def pathF : Nat → Nat → List D8
  | 0, _ => []
  | _ + 1, 0 => []
  | f + 1, k + 1 => dig (k % 8) :: pathF f (k / 8)
def path (k : Nat) : List D8 := pathF k k
theorem pathF_inj : ∀ (f g k j : Nat), k ≤ f → j ≤ g → pathF f k = pathF g j → k = j := by
  intro f
  induction f with
  | zero =>
    intro g k j hk hj h
    have : k = 0 := by omega
    subst this
    cases j with
    | zero => rfl
    | succ j =>
      cases g with
      | zero => omega
      | succ g => simp [pathF] at h
  | succ f ih =>
    intro g k j hk hj h
    cases k with
    | zero =>
      cases j with
      | zero => rfl
      | succ j =>
        cases g with
        | zero => omega
        | succ g => simp [pathF] at h
    | succ k =>
      cases j with
      | zero => cases g <;> simp [pathF] at h
      | succ j =>
        cases g with
        | zero => omega
        | succ g =>
          simp only [pathF, List.cons.injEq] at h
          have h1 := dig_inj (Nat.mod_lt _ (by omega)) (Nat.mod_lt _ (by omega)) h.1
          have h2 := ih g (k / 8) (j / 8) (by omega) (by omega) h.2
          omega
theorem path_inj {k j : Nat} (h : path k = path j) : k = j := pathF_inj k j k j (Nat.le_refl _) (Nat.le_refl _) h
def Tr.getP {α : Type} : List D8 → Tr α → Option α
  | [], .leaf => none
  | [], .node v _ _ _ _ _ _ _ _ => v
  | _ :: _, .leaf => none
  | d :: p, .node _ c0 c1 c2 c3 c4 c5 c6 c7 => match d with
    | .d0 => Tr.getP p c0 | .d1 => Tr.getP p c1 | .d2 => Tr.getP p c2 | .d3 => Tr.getP p c3
    | .d4 => Tr.getP p c4 | .d5 => Tr.getP p c5 | .d6 => Tr.getP p c6 | .d7 => Tr.getP p c7
def Tr.putP {α : Type} (x : α) : List D8 → Tr α → Tr α
  | [], .leaf => .node (some x) .leaf .leaf .leaf .leaf .leaf .leaf .leaf .leaf
  | [], .node _ c0 c1 c2 c3 c4 c5 c6 c7 => .node (some x) c0 c1 c2 c3 c4 c5 c6 c7
  | d :: p, .leaf => match d with
    | .d0 => .node none (Tr.putP x p .leaf) .leaf .leaf .leaf .leaf .leaf .leaf .leaf
    | .d1 => .node none .leaf (Tr.putP x p .leaf) .leaf .leaf .leaf .leaf .leaf .leaf
    | .d2 => .node none .leaf .leaf (Tr.putP x p .leaf) .leaf .leaf .leaf .leaf .leaf
    | .d3 => .node none .leaf .leaf .leaf (Tr.putP x p .leaf) .leaf .leaf .leaf .leaf
    | .d4 => .node none .leaf .leaf .leaf .leaf (Tr.putP x p .leaf) .leaf .leaf .leaf
    | .d5 => .node none .leaf .leaf .leaf .leaf .leaf (Tr.putP x p .leaf) .leaf .leaf
    | .d6 => .node none .leaf .leaf .leaf .leaf .leaf .leaf (Tr.putP x p .leaf) .leaf
    | .d7 => .node none .leaf .leaf .leaf .leaf .leaf .leaf .leaf (Tr.putP x p .leaf)
  | d :: p, .node v c0 c1 c2 c3 c4 c5 c6 c7 => match d with
    | .d0 => .node v (Tr.putP x p c0) c1 c2 c3 c4 c5 c6 c7
    | .d1 => .node v c0 (Tr.putP x p c1) c2 c3 c4 c5 c6 c7
    | .d2 => .node v c0 c1 (Tr.putP x p c2) c3 c4 c5 c6 c7
    | .d3 => .node v c0 c1 c2 (Tr.putP x p c3) c4 c5 c6 c7
    | .d4 => .node v c0 c1 c2 c3 (Tr.putP x p c4) c5 c6 c7
    | .d5 => .node v c0 c1 c2 c3 c4 (Tr.putP x p c5) c6 c7
    | .d6 => .node v c0 c1 c2 c3 c4 c5 (Tr.putP x p c6) c7
    | .d7 => .node v c0 c1 c2 c3 c4 c5 c6 (Tr.putP x p c7)
theorem Tr.getP_leaf {α : Type} (p : List D8) : Tr.getP p (.leaf : Tr α) = none := by cases p <;> rfl
theorem Tr.getP_putP_same {α : Type} (x : α) : ∀ (p : List D8) (t : Tr α), Tr.getP p (Tr.putP x p t) = some x
  | [], .leaf => rfl
  | [], .node .. => rfl
  | d :: p, .leaf => by cases d <;> exact Tr.getP_putP_same x p _
  | d :: p, .node .. => by cases d <;> exact Tr.getP_putP_same x p _
theorem Tr.getP_putP_other {α : Type} (x : α) : ∀ (p q : List D8) (t : Tr α), p ≠ q → Tr.getP q (Tr.putP x p t) = Tr.getP q t
  | [], [], _, h => absurd rfl h
  | [], e :: q, .leaf, _ => by cases e <;> exact Tr.getP_leaf q
  | [], e :: q, .node .., _ => rfl
  | d :: p, [], .leaf, _ => by cases d <;> rfl
  | d :: p, [], .node .., _ => by cases d <;> rfl
  | d :: p, e :: q, .leaf, h => by
    cases d <;> cases e <;> first
      | exact Tr.getP_leaf q
      | (show Tr.getP q (Tr.putP x p .leaf) = none
         rw [Tr.getP_putP_other x p q .leaf (fun hpq => h (by rw [hpq]))]
         exact Tr.getP_leaf q)
  | d :: p, e :: q, .node .., h => by
    cases d <;> cases e <;> first
      | rfl
      | exact Tr.getP_putP_other x p q _ (fun hpq => h (by rw [hpq]))
def Tr.get {α : Type} (t : Tr α) (k : Nat) : Option α := Tr.getP (path k) t
def Tr.put {α : Type} (x : α) (_ : Nat) (t : Tr α) (k : Nat) : Tr α := Tr.putP x (path k) t
theorem Tr.get_leaf {α : Type} (k : Nat) : (Tr.leaf : Tr α).get k = none := Tr.getP_leaf _
theorem Tr.get_put_same {α : Type} (x : α) : ∀ (f : Nat) (t : Tr α) (k : Nat), k < f → (Tr.put x f t k).get k = some x := fun _ t k _ => Tr.getP_putP_same x (path k) t
theorem Tr.get_put_other {α : Type} (x : α) : ∀ (f : Nat) (t : Tr α) (k j : Nat), k ≠ j → (Tr.put x f t k).get j = t.get j := fun _ t _ _ h => Tr.getP_putP_other x _ _ t (fun e => h (path_inj e))
structure AHeap where
  t : Tr ABlk
  next : Nat
def AHeap.get (H : AHeap) (l : Nat) : Option ABlk := if l < H.next then H.t.get l else none
def AHeap.set (H : AHeap) (l : Nat) (b : ABlk) : AHeap := { H with t := Tr.put b (l + 1) H.t l }
def AHeap.push (H : AHeap) (b : ABlk) : AHeap := { t := Tr.put b (H.next + 1) H.t H.next, next := H.next + 1 }
def AHeap.empty : AHeap := ⟨.leaf, 0⟩
@[simp] theorem AHeap.next_set (H : AHeap) (l : Nat) (b : ABlk) : (H.set l b).next = H.next := rfl
@[simp] theorem AHeap.next_push (H : AHeap) (b : ABlk) : (H.push b).next = H.next + 1 := rfl
theorem AHeap.get_lt {H : AHeap} {l : Nat} {b : ABlk} (h : H.get l = some b) : l < H.next := by
  unfold AHeap.get at h; split at h
  · assumption
  · cases h
theorem AHeap.get_set_same {H : AHeap} {l : Nat} {b : ABlk} (h : l < H.next) : (H.set l b).get l = some b := by
  show (if l < H.next then (Tr.put b (l + 1) H.t l).get l else none) = some b
  rw [if_pos h]; exact Tr.get_put_same b _ _ _ (by omega)
theorem AHeap.get_set_other {H : AHeap} {l j : Nat} {b : ABlk} (h : l ≠ j) : (H.set l b).get j = H.get j := by
  show (if j < H.next then (Tr.put b (l + 1) H.t l).get j else none) = (if j < H.next then H.t.get j else none)
  rw [Tr.get_put_other b _ _ _ _ h]
theorem AHeap.get_push_same (H : AHeap) (b : ABlk) : (H.push b).get H.next = some b := by
  show (if H.next < H.next + 1 then (Tr.put b (H.next + 1) H.t H.next).get H.next else none) = some b
  rw [if_pos (by omega)]; exact Tr.get_put_same b _ _ _ (by omega)
theorem AHeap.get_push_other {H : AHeap} {j : Nat} {b : ABlk} (h : j ≠ H.next) : (H.push b).get j = H.get j := by
  show (if j < H.next + 1 then (Tr.put b (H.next + 1) H.t H.next).get j else none) = (if j < H.next then H.t.get j else none)
  by_cases hj : j < H.next
  · rw [if_pos (by omega), if_pos hj, Tr.get_put_other b _ _ _ _ (by omega)]
  · rw [if_neg (by omega), if_neg hj]
end Go.Ev

namespace Go.Ev
structure Loc where
  block : Nat
  off : Nat
  esz : Nat
  size : Nat
def Env : Type := Nat → Option Loc
def Env.le (ρ ρ' : Env) : Prop := ∀ l loc, ρ l = some loc → ρ' l = some loc
theorem Env.le_refl (ρ : Env) : ρ.le ρ := fun _ _ h => h
theorem Env.le_trans {ρ ρ' ρ'' : Env} (h : ρ.le ρ') (h' : ρ'.le ρ'') : ρ.le ρ'' := fun l loc e => h' l loc (h l loc e)
mutual
inductive VRel (ρ : Env) : AV → Value → Prop where
  | bool (b : Bool) : VRel ρ (.bool b) (.bool b)
  | int (k : IntKind) (n : Int) : VRel ρ (.int k n) (.int k n)
  | str (s : List UInt8) : VRel ρ (.str s) (.string ⟨s.toArray⟩)
  | ptr (l i c : Nat) (loc : Loc) (h : ρ l = some loc) : VRel ρ (.ptr l i c) (.pointer (some ⟨loc.block, loc.off + i * loc.esz + c, none⟩))
  | nilPtr : VRel ρ .nilPtr (.pointer none)
  | sl (l i n : Nat) (cap : Option Nat) (loc : Loc) (a : Addr) (c : Nat) (h : ρ l = some loc) (hn : n ≤ c) (hc : ∀ k, cap = some k → c = k)
      (ha : 0 < c → a = ⟨loc.block, loc.off + i * loc.esz, none⟩ ∧ loc.off + (i + c) * loc.esz ≤ loc.size) : VRel ρ (.sl l i n loc.esz cap) (.slice (some a) n c)
  | nilSl : VRel ρ .nilSl (.slice none 0 0)
  | map (l : Nat) (loc : Loc) (h : ρ l = some loc) : VRel ρ (.map l) (.map (some loc.block))
  | nilMap : VRel ρ .nilMap (.map none)
  | func (fn : Fn) (f c : List AV) (f' c' : List Value) (hf : VRels ρ f f') (hc : VRels ρ c c') : VRel ρ (.func fn f c) (.func fn f'.toArray c'.toArray)
  | nilFunc : VRel ρ .nilFunc .nilFunc
  | iface (t : TypeId) (v : AV) (x : Value) (h : VRel ρ v x) : VRel ρ (.iface t v) (.iface t x)
  | nilIface : VRel ρ .nilIface .nilIface
  | agg (cs : List AV) (xs : List Value) (h : VRels ρ cs xs) : VRel ρ (.agg cs) (.agg xs.toArray)
  | tuple (cs : List AV) (xs : List Value) (h : VRels ρ cs xs) : VRel ρ (.tuple cs) (.tuple xs.toArray)
inductive VRels (ρ : Env) : List AV → List Value → Prop where
  | nil : VRels ρ [] []
  | cons (v : AV) (x : Value) (vs : List AV) (xs : List Value) (h : VRel ρ v x) (hs : VRels ρ vs xs) : VRels ρ (v :: vs) (x :: xs)
 end
mutual
theorem VRel.mono {ρ ρ' : Env} (hle : ρ.le ρ') {v : AV} {x : Value} (h : VRel ρ v x) : VRel ρ' v x := by
  cases h with
  | bool b => exact .bool b
  | int k n => exact .int k n
  | str s => exact .str s
  | ptr l i c loc h => exact .ptr l i c loc (hle _ _ h)
  | nilPtr => exact .nilPtr
  | sl l i n cap loc a c h hn hc ha => exact .sl l i n cap loc a c (hle _ _ h) hn hc ha
  | nilSl => exact .nilSl
  | map l loc h => exact .map l loc (hle _ _ h)
  | nilMap => exact .nilMap
  | func fn f c f' c' hf hc => exact .func fn f c f' c' (VRels.mono hle hf) (VRels.mono hle hc)
  | nilFunc => exact .nilFunc
  | iface t v x h => exact .iface t v x (VRel.mono hle h)
  | nilIface => exact .nilIface
  | agg cs xs h => exact .agg cs xs (VRels.mono hle h)
  | tuple cs xs h => exact .tuple cs xs (VRels.mono hle h)
theorem VRels.mono {ρ ρ' : Env} (hle : ρ.le ρ') {v : List AV} {x : List Value} (h : VRels ρ v x) : VRels ρ' v x := by
  cases h with
  | nil => exact .nil
  | cons v x vs xs h hs => exact .cons v x vs xs (VRel.mono hle h) (VRels.mono hle hs)
 end
theorem VRels.length {ρ : Env} : ∀ {vs : List AV} {xs : List Value}, VRels ρ vs xs → vs.length = xs.length
  | [], _, h => by cases h; rfl
  | _ :: _, _, h => by cases h with | cons _ _ _ _ _ hs => simp [VRels.length hs]
theorem VRels.get {ρ : Env} : ∀ {vs : List AV} {xs : List Value}, VRels ρ vs xs → ∀ (j : Nat) (v : AV), vs[j]? = some v → ∃ x, xs[j]? = some x ∧ VRel ρ v x
  | [], _, h, j, v, hj => by simp at hj
  | w :: vs, _, h, j, v, hj => by
    cases h with
    | cons _ x _ xs hh hs =>
      cases j with
      | zero => simp at hj; subst hj; exact ⟨x, rfl, hh⟩
      | succ j => simpa using VRels.get hs j v (by simpa using hj)
theorem VRels.append {ρ : Env} : ∀ {vs us : List AV} {xs ys : List Value}, VRels ρ vs xs → VRels ρ us ys → VRels ρ (vs ++ us) (xs ++ ys)
  | [], _, _, _, h, h' => by cases h; exact h'
  | _ :: _, _, _, _, h, h' => by cases h with | cons _ _ _ _ a as => exact .cons _ _ _ _ a (VRels.append as h')
theorem VRels.of_get {ρ : Env} : ∀ {vs : List AV} {xs : List Value}, vs.length = xs.length → (∀ (j : Nat) (v : AV) (x : Value), vs[j]? = some v → xs[j]? = some x → VRel ρ v x) → VRels ρ vs xs
  | [], [], _, _ => .nil
  | [], _ :: _, h, _ => by simp at h
  | _ :: _, [], h, _ => by simp at h
  | v :: vs, x :: xs, h, hr => .cons _ _ _ _ (hr 0 v x rfl rfl) (VRels.of_get (by simpa using h) fun j a b ha hb => hr (j + 1) a b (by simpa using ha) (by simpa using hb))
theorem VRels.set {ρ : Env} {v : AV} {x : Value} (h : VRel ρ v x) : ∀ {vs : List AV} {xs : List Value} (j : Nat), VRels ρ vs xs → VRels ρ (vs.set j v) (xs.set j x)
  | [], _, _, hs => by cases hs; exact .nil
  | _ :: _, _, 0, hs => by cases hs with | cons _ _ _ _ a as => exact .cons _ _ _ _ h as
  | _ :: _, _, j + 1, hs => by cases hs with | cons _ _ _ _ a as => exact .cons _ _ _ _ a (VRels.set h j as)
def AV.one : AV → Bool
  | .agg _ | .tuple _ => false
  | _ => true
def AV.cells : AV → List AV
  | .agg cs => cs
  | v => [v]
theorem VRel.oneCell {ρ : Env} {v : AV} {x : Value} (h : VRel ρ v x) (h1 : v.one = true) : x.oneCell' = true := by
  cases h <;> first | rfl | cases h1
theorem VRel.cells {ρ : Env} {v : AV} {x : Value} (h : VRel ρ v x) : VRels ρ v.cells x.cells.toList := by
  cases h with
  | agg cs xs h => simpa [AV.cells, Value.cells] using h
  | bool b => exact .cons _ _ _ _ (.bool b) .nil
  | int k n => exact .cons _ _ _ _ (.int k n) .nil
  | str s => exact .cons _ _ _ _ (.str s) .nil
  | ptr l i c loc h => exact .cons _ _ _ _ (.ptr l i c loc h) .nil
  | nilPtr => exact .cons _ _ _ _ .nilPtr .nil
  | sl l i n cap loc a c h hn hc ha => exact .cons _ _ _ _ (.sl l i n cap loc a c h hn hc ha) .nil
  | nilSl => exact .cons _ _ _ _ .nilSl .nil
  | map l loc h => exact .cons _ _ _ _ (.map l loc h) .nil
  | nilMap => exact .cons _ _ _ _ .nilMap .nil
  | func fn f c f' c' hf hc => exact .cons _ _ _ _ (.func fn f c f' c' hf hc) .nil
  | nilFunc => exact .cons _ _ _ _ .nilFunc .nil
  | iface t v x h => exact .cons _ _ _ _ (.iface t v x h) .nil
  | nilIface => exact .cons _ _ _ _ .nilIface .nil
  | tuple cs xs h => exact .cons _ _ _ _ (.tuple cs xs h) .nil
def RowOk (ρ : Env) (w : World) (loc : Loc) (ro : Bool) (esz : Nat) (els : List (List AV)) : Prop :=
  loc.esz = esz ∧ ∃ c t fz, w.heap[loc.block]? = some (.cells c t fz) ∧ (ro = false → loc.size = c.size ∧ ∀ o, o < c.size → ¬ (fz.1 ≤ o ∧ o < fz.2)) ∧
    ∀ (i : Nat) (e : List AV), els[i]? = some e → e.length = esz ∧ ∀ (j : Nat) (v : AV), e[j]? = some v → v.one = true ∧ ∃ x, c[loc.off + i * esz + j]? = some x ∧ VRel ρ v x
def MapOk (ρ : Env) (w : World) (loc : Loc) (es : List (AV × AV)) : Prop :=
  ∃ ents clock, w.heap[loc.block]? = some (.map ents clock) ∧ VRels ρ (es.map (·.1)) (ents.toList.map (·.key)) ∧ VRels ρ (es.map (·.2)) (ents.toList.map (·.val))
def AHeap.rw (H : AHeap) (l : Nat) : Prop := (∃ esz els, H.get l = some (.row false esz els)) ∨ ∃ es, H.get l = some (.map es)
def AHeap.live (H : AHeap) (l : Nat) : Prop := (∃ ro esz els, H.get l = some (.row ro esz els)) ∨ ∃ es, H.get l = some (.map es)
theorem AHeap.rw.live {H : AHeap} {l : Nat} (h : H.rw l) : H.live l := by
  rcases h with ⟨e, s, h⟩ | h
  · exact .inl ⟨_, e, s, h⟩
  · exact .inr h
def ABlk.isRo : ABlk → Bool
  | .row true _ _ => true
  | _ => false
theorem AHeap.ro_set {H : AHeap} {l : Nat} {b : ABlk} (hb : b.isRo = false) : ∀ k esz els, (H.set l b).get k = some (.row true esz els) → H.get k = some (.row true esz els) := by
  intro k esz els h
  by_cases hk : l = k
  · subst hk
    have hlt : l < H.next := by have := AHeap.get_lt h; simpa using this
    rw [AHeap.get_set_same hlt] at h
    simp only [Option.some.injEq] at h; subst h; cases hb
  · rwa [AHeap.get_set_other hk] at h
theorem AHeap.ro_push {H : AHeap} {b : ABlk} (hb : b.isRo = false) : ∀ k esz els, (H.push b).get k = some (.row true esz els) → H.get k = some (.row true esz els) := by
  intro k esz els h
  by_cases hk : k = H.next
  · subst hk
    rw [AHeap.get_push_same] at h
    simp only [Option.some.injEq] at h; subst h; cases hb
  · rwa [AHeap.get_push_other hk] at h
structure Rel (ρ : Env) (H : AHeap) (w : World) : Prop where
  row : ∀ l ro esz els, H.get l = some (.row ro esz els) → ∃ loc, ρ l = some loc ∧ RowOk ρ w loc ro esz els
  map : ∀ l es, H.get l = some (.map es) → ∃ loc, ρ l = some loc ∧ MapOk ρ w loc es
  apart : ∀ l l' loc loc', H.rw l → H.live l' → l ≠ l' → ρ l = some loc → ρ l' = some loc' → loc.block ≠ loc'.block
def Owned (ρ : Env) (H : AHeap) (b : Nat) : Prop := ∃ l loc, H.rw l ∧ ρ l = some loc ∧ loc.block = b
structure Step (ρ : Env) (H : AHeap) (w : World) (ρ' : Env) (H' : AHeap) (w' : World) : Prop where
  le : ρ.le ρ'
  next : H.next ≤ H'.next
  keep : ∀ l, l < H.next ∨ H'.next ≤ l → ρ' l = ρ l
  rel : Rel ρ' H' w'
  os : w'.os = w.os
  tape : w'.tape = w.tape
  output : w'.output = w.output
  size : w.heap.size ≤ w'.heap.size
  frame : ∀ b, b < w.heap.size → ¬ Owned ρ H b → w'.heap[b]? = w.heap[b]?
  own : ∀ b, Owned ρ' H' b → Owned ρ H b ∨ w.heap.size ≤ b
  ro : ∀ l esz els, H'.get l = some (.row true esz els) → H.get l = some (.row true esz els)
theorem Step.refl {ρ : Env} {H : AHeap} {w : World} (h : Rel ρ H w) : Step ρ H w ρ H w :=
  ⟨ρ.le_refl, Nat.le_refl _, fun _ _ => rfl, h, rfl, rfl, rfl, Nat.le_refl _, fun _ _ _ => rfl, fun _ h => .inl h, fun _ _ _ h => h⟩
theorem Step.trans {ρ ρ₁ ρ₂ : Env} {H H₁ H₂ : AHeap} {w w₁ w₂ : World} (h : Step ρ H w ρ₁ H₁ w₁) (k : Step ρ₁ H₁ w₁ ρ₂ H₂ w₂) : Step ρ H w ρ₂ H₂ w₂ where
  le := Env.le_trans h.le k.le
  next := Nat.le_trans h.next k.next
  keep := fun l hl => (k.keep l (hl.imp (fun x => Nat.lt_of_lt_of_le x h.next) id)).trans (h.keep l (hl.imp id (fun x => Nat.le_trans k.next x)))
  ro := fun l esz els e => h.ro l esz els (k.ro l esz els e)
  rel := k.rel
  os := k.os.trans h.os
  tape := k.tape.trans h.tape
  output := k.output.trans h.output
  size := Nat.le_trans h.size k.size
  frame := fun b hb hn => by
    rw [k.frame b (Nat.lt_of_lt_of_le hb h.size) (fun ho => (h.own b ho).elim hn (fun hle => by omega)), h.frame b hb hn]
  own := fun b hb => (k.own b hb).elim (fun ho => h.own b ho) (fun hle => .inr (Nat.le_trans h.size hle))
def Fre (ρ : Env) (n m : Nat) : Prop := ∀ l, n ≤ l → l < m → ρ l = none
structure Fresh (E ρ : Env) (n m : Nat) : Prop where
  new : Fre ρ n m
  le : E.le ρ
theorem Fresh.left {E ρ : Env} {n m k : Nat} (h : Fresh E ρ n k) (hm : m ≤ k) : Fresh E ρ n m := ⟨fun l a b => h.new l a (by omega), h.le⟩
theorem Fresh.after {E ρ ρ₁ : Env} {H H₁ : AHeap} {w w₁ : World} {k : Nat} (h : Fresh E ρ H.next k) (s : Step ρ H w ρ₁ H₁ w₁) : Fresh E ρ₁ H₁.next k := ⟨fun l a b => by
  rw [s.keep l (.inr a)]; exact h.new l (Nat.le_trans s.next a) b, Env.le_trans h.le s.le⟩
theorem Rel.drew {ρ : Env} {H : AHeap} {w : World} (h : Rel ρ H w) : Rel ρ H w.drew := ⟨h.row, h.map, h.apart⟩
end Go.Ev

namespace Go.Ev
def tyAgg (P : Program) (t : TypeId) : Option Bool :=
  match P.underlying t with
  | some (.struct _) | some (.array _ _) => some true
  | some _ => some false
  | none => none
def tySize (P : Program) (t : TypeId) : Option Nat := (P.info? t).map (·.size)
theorem run_isAgg {P : Program} {t : TypeId} {b : Bool} (h : tyAgg P t = some b) (w : World) : (isAgg t).run P w = .ok b w := by
  unfold tyAgg at h
  unfold isAgg
  cases hu : P.underlying t with
  | none => rw [hu] at h; cases h
  | some d =>
    rw [hu] at h
    simp only [Sem.run_bind, run_underlying hu, Result.andThen_ok]
    cases d <;> simp_all
theorem run_sizeOf {P : Program} {t : TypeId} {n : Nat} (h : tySize P t = some n) (w : World) : (sizeOf t).run P w = .ok n w := by
  unfold tySize at h
  cases hi : P.info? t with
  | none => rw [hi] at h; cases h
  | some i => rw [hi] at h; simp at h; simp [sizeOf, typeInfo, hi, h]
def apart (P : Program) (t : TypeId) (cs : List AV) (off : Nat) : Option AV :=
  match tyAgg P t with
  | some true => (match tySize P t with | some n => some (.agg ((cs.drop off).take n)) | none => none)
  | some false => cs[off]?
  | none => none
theorem VRels.drop {ρ : Env} : ∀ {vs : List AV} {xs : List Value} (n : Nat), VRels ρ vs xs → VRels ρ (vs.drop n) (xs.drop n)
  | _, _, 0, h => by simpa using h
  | [], _, n + 1, h => by cases h; simpa using VRels.nil
  | _ :: _, _, n + 1, h => by cases h with | cons _ _ _ _ a as => simpa using VRels.drop n as
theorem VRels.take {ρ : Env} : ∀ {vs : List AV} {xs : List Value} (n : Nat), VRels ρ vs xs → VRels ρ (vs.take n) (xs.take n)
  | _, _, 0, h => by simpa using VRels.nil
  | [], _, n + 1, h => by cases h; simpa using VRels.nil
  | _ :: _, _, n + 1, h => by cases h with | cons _ _ _ _ a as => simpa using VRels.cons _ _ _ _ a (VRels.take n as)
theorem apart_sound {P : Program} {t : TypeId} {cs : List AV} {off : Nat} {v : AV} {ρ : Env} {xs : List Value} (h : apart P t cs off = some v) (hs : VRels ρ cs xs) (w : World) :
    ∃ x, (part t xs.toArray off).run P w = .ok x w ∧ VRel ρ v x := by
  unfold apart at h
  split at h
  · rename_i ha
    split at h
    · rename_i n hn
      simp at h; subst h
      refine ⟨.agg (((xs.drop off).take n).toArray), ?_, .agg _ _ ((hs.drop off).take n)⟩
      unfold part
      simp only [Sem.run_bind, run_isAgg ha, Result.andThen_ok, if_true, run_sizeOf hn]
      simp [List.extract_toArray, List.extract_eq_take_drop]
    · cases h
  · rename_i ha
    obtain ⟨x, hx, hv⟩ := hs.get off v h
    refine ⟨x, ?_, hv⟩
    unfold part
    simp [run_isAgg ha, hx]
  · cases h
def intBin (op : BinOp) (k : IntKind) (a b : Int) : Option AV :=
  match op with
  | .add => some (.int k (k.wrap (a + b)))
  | .sub => some (.int k (k.wrap (a - b)))
  | .mul => some (.int k (k.wrap (a * b)))
  | .quo => if b = 0 then none else some (.int k (k.wrap (a.tdiv b)))
  | .rem => if b = 0 then none else some (.int k (a.tmod b))
  | .and => some (.int k (k.wrap ((BitVec.ofInt k.bits a &&& BitVec.ofInt k.bits b).toNat : Int)))
  | .or => some (.int k (k.wrap ((BitVec.ofInt k.bits a ||| BitVec.ofInt k.bits b).toNat : Int)))
  | .xor => some (.int k (k.wrap ((BitVec.ofInt k.bits a ^^^ BitVec.ofInt k.bits b).toNat : Int)))
  | .andNot => some (.int k (k.wrap ((BitVec.ofInt k.bits a &&& ~~~BitVec.ofInt k.bits b).toNat : Int)))
  | .eql => some (.bool (a == b))
  | .neq => some (.bool (a != b))
  | .lss => some (.bool (decide (a < b)))
  | .leq => some (.bool (decide (a ≤ b)))
  | .gtr => some (.bool (decide (b < a)))
  | .geq => some (.bool (decide (b ≤ a)))
  | .shl | .shr => none
def intShift (op : BinOp) (k : IntKind) (a b : Int) : Option AV :=
  if b < 0 then none else
  match op with
  | .shl => some (.int k (k.wrap (a * 2 ^ (min b.toNat k.bits))))
  | .shr => some (.int k (a.fdiv (2 ^ (min b.toNat k.bits))))
  | _ => none
def strBin (op : BinOp) (a b : List UInt8) : Option AV :=
  match op with
  | .add => if a.length + b.length ≤ 9223372036854775807 then some (.str (a ++ b)) else none
  | .eql => some (.bool (a == b))
  | .neq => some (.bool (!(a == b)))
  | .lss => some (.bool (Op.bytesLess a b))
  | .leq => some (.bool (Op.bytesLess a b || a == b))
  | .gtr => some (.bool (!(Op.bytesLess a b || a == b)))
  | .geq => some (.bool (!Op.bytesLess a b))
  | _ => none
def aeqFields (P : Program) (eq : TypeId → AV → AV → Option Bool) : List Field → List AV → List AV → Option Bool
  | [], _, _ => some true
  | f :: fs, xs, ys =>
    if f.name ≠ "_" then
      match apart P f.type xs f.offset, apart P f.type ys f.offset with
      | some a, some b => (match eq f.type a b with | some true => aeqFields P eq fs xs ys | some false => some false | none => none)
      | _, _ => none
    else aeqFields P eq fs xs ys
def aeqElems (P : Program) (eq : TypeId → AV → AV → Option Bool) (e : TypeId) (n : Nat) : Nat → Nat → List AV → List AV → Option Bool
  | 0, _, _, _ => some true
  | k + 1, i, xs, ys =>
    match apart P e xs (i * n), apart P e ys (i * n) with
    | some a, some b => (match eq e a b with | some true => aeqElems P eq e n k (i + 1) xs ys | some false => some false | none => none)
    | _, _ => none
def aeqIn (P : Program) : Nat → TypeId → AV → AV → Option Bool
  | 0, _, _, _ => none
  | d + 1, t, x, y =>
    match P.underlying t, x, y with
    | some .bool, .bool a, .bool b => some (a == b)
    | some (.int _), .int k a, .int k' b => if k = k' then some (a == b) else none
    | some .string, .str a, .str b => some (a == b)
    | some (.pointer _), .nilPtr, .nilPtr => some true
    | some (.pointer _), .nilPtr, .ptr .. => some false
    | some (.pointer _), .ptr .., .nilPtr => some false
    | some (.interface _), .nilIface, .nilIface => some true
    | some (.interface _), .nilIface, .iface .. => some false
    | some (.interface _), .iface .., .nilIface => some false
    | some (.struct fs), .agg xs, .agg ys => if P.stoodInHeld t then none else aeqFields P (aeqIn P d) fs.toList xs ys
    | some (.array len e), .agg xs, .agg ys => (match tySize P e with | some n => aeqElems P (aeqIn P d) e n len 0 xs ys | none => none)
    | some (.slice _), .nilSl, .nilSl => some true
    | some (.slice _), .nilSl, .sl .. => some false
    | some (.slice _), .sl .., .nilSl => some false
    | some (.map _ _), .nilMap, .nilMap => some true
    | some (.map _ _), .nilMap, .map _ => some false
    | some (.map _ _), .map _, .nilMap => some false
    | some (.func _ _ _), .nilFunc, .nilFunc => some true
    | some (.func _ _ _), .nilFunc, .func .. => some false
    | some (.func _ _ _), .func .., .nilFunc => some false
    | _, _, _ => none
def isConst : Operand → Bool
  | .const _ => true
  | _ => false
def eqFree (P : Program) (t : TypeId) (x y : Operand) (a b : AV) : Bool :=
  match a, b with
  | .nilIface, .nilIface => isConst x || isConst y
  | .agg _, .agg _ => !P.eqGuardType P.depth t
  | _, _ => true
def abin (P : Program) (op : BinOp) (t : TypeId) (xo yo : Operand) (x y : AV) : Option AV :=
  match x, y with
  | .int k a, .int k' b =>
    (match op with
    | .shl => intShift .shl k a b
    | .shr => intShift .shr k a b
    | op => if k = k' then intBin op k a b else none)
  | .str a, .str b => strBin op a b
  | x, y =>
    (match op with
    | .eql => if eqFree P t xo yo x y then (aeqIn P 10000 t x y).map .bool else none
    | .neq => if eqFree P t xo yo x y then (aeqIn P 10000 t x y).map fun b => .bool (!b) else none
    | _ => none)
def aun (op : UnOp) (x : AV) : Option AV :=
  match op, x with
  | .neg, .int k n => some (.int k (k.wrap (0 - n)))
  | .not, .bool b => some (.bool (!b))
  | _, _ => none
end Go.Ev

namespace Go
def Operand.isConst' : Operand → Bool
  | .const _ => true
  | _ => false
end Go
namespace Go.Ev
section
variable {P : Program} {ρ : Env}
theorem run_fields (w : World) (eq : TypeId → AV → AV → Option Bool) (eqS : TypeId → Value → Value → Sem Bool)
    (heq : ∀ t a b x y c, eq t a b = some c → VRel ρ a x → VRel ρ b y → (eqS t x y).run P w = .ok c w) {xs ys : List AV} {xs' ys' : List Value} (hx : VRels ρ xs xs') (hy : VRels ρ ys ys') :
    ∀ (fs : List Field) (b : Bool), aeqFields P eq fs xs ys = some b →
      (forIn fs ((none : Option Bool), ()) (fun f _ =>
          (if f.name ≠ "_" then do
            let a ← part f.type xs'.toArray f.offset
            let b ← part f.type ys'.toArray f.offset
            let c ← eqS f.type a b
            if (!c) = true then pure (ForInStep.done (some false, ())) else pure (ForInStep.yield (none, ()))
          else pure (ForInStep.yield (none, ())) : Sem (ForInStep (Option Bool × Unit))))).run P w = .ok (if b then (none, ()) else (some false, ())) w
  | [], b, h => by
    simp [aeqFields] at h; subst h
    simp [Sem.run_pure]
  | f :: fs, b, h => by
    unfold aeqFields at h
    rw [List.forIn_cons]
    by_cases hn : f.name ≠ "_"
    · rw [if_pos hn] at h
      split at h
      · rename_i a b' ha hb
        obtain ⟨x, hx1, hvx⟩ := apart_sound ha hx w
        obtain ⟨y, hy1, hvy⟩ := apart_sound hb hy w
        split at h
        · rename_i he
          have hr := heq _ _ _ _ _ _ he hvx hvy
          have ih := run_fields w eq eqS heq hx hy fs b h
          simp only [if_pos hn, Sem.run_bind, hx1, hy1, hr, Result.andThen_ok, Bool.not_true, Bool.false_eq_true, if_false, Sem.run_pure]
          exact ih
        · rename_i he
          have hr := heq _ _ _ _ _ _ he hvx hvy
          simp at h; subst h
          simp only [if_pos hn, Sem.run_bind, hx1, hy1, hr, Result.andThen_ok, Bool.not_false, if_true, Sem.run_pure]
          rfl
        · cases h
      · cases h
    · rw [if_neg hn] at h
      have ih := run_fields w eq eqS heq hx hy fs b h
      simp only [if_neg hn, Sem.run_bind, Sem.run_pure, Result.andThen_ok]
      exact ih
theorem run_elems (w : World) (e : TypeId) (n : Nat) (eq : TypeId → AV → AV → Option Bool) (eqS : TypeId → Value → Value → Sem Bool)
    (heq : ∀ t a b x y c, eq t a b = some c → VRel ρ a x → VRel ρ b y → (eqS t x y).run P w = .ok c w) {xs ys : List AV} {xs' ys' : List Value} (hx : VRels ρ xs xs') (hy : VRels ρ ys ys') :
    ∀ (k i : Nat) (b : Bool), aeqElems P eq e n k i xs ys = some b →
      (forIn (List.range' i k) ((none : Option Bool), ()) (fun i _ =>
          (do
            let a ← part e xs'.toArray (i * n)
            let b ← part e ys'.toArray (i * n)
            let c ← eqS e a b
            if (!c) = true then pure (ForInStep.done (some false, ())) else pure (ForInStep.yield (none, ())) : Sem (ForInStep (Option Bool × Unit))))).run P w = .ok (if b then (none, ()) else (some false, ())) w
  | 0, i, b, h => by
    simp [aeqElems] at h; subst h
    simp [Sem.run_pure]
  | k + 1, i, b, h => by
    unfold aeqElems at h
    rw [List.range'_succ, List.forIn_cons]
    split at h
    · rename_i a b' ha hb
      obtain ⟨x, hx1, hvx⟩ := apart_sound ha hx w
      obtain ⟨y, hy1, hvy⟩ := apart_sound hb hy w
      split at h
      · rename_i he
        have hr := heq _ _ _ _ _ _ he hvx hvy
        have ih := run_elems w e n eq eqS heq hx hy k (i + 1) b h
        simp only [Sem.run_bind, hx1, hy1, hr, Result.andThen_ok, Bool.not_true, Bool.false_eq_true, if_false, Sem.run_pure]
        exact ih
      · rename_i he
        have hr := heq _ _ _ _ _ _ he hvx hvy
        simp at h; subst h
        simp only [Sem.run_bind, hx1, hy1, hr, Result.andThen_ok, Bool.not_false, if_true, Sem.run_pure]
        rfl
      · cases h
    · cases h
theorem str_beq (a b : List UInt8) : ((⟨a.toArray⟩ : ByteArray) == ⟨b.toArray⟩) = (a == b) := by
  have : ((⟨a.toArray⟩ : ByteArray) == ⟨b.toArray⟩) = (a.toArray == b.toArray) := rfl
  rw [this]; simp
theorem equalIn_sound (w : World) : ∀ (d : Nat) (t : TypeId) (x y : AV) (x' y' : Value) (b : Bool), aeqIn P d t x y = some b → VRel ρ x x' → VRel ρ y y' →
    (Op.equalIn d t x' y').run P w = .ok b w
  | 0, t, x, y, x', y', b, h, _, _ => by cases h
  | d + 1, t, x, y, x', y', b, h, hx, hy => by
    have ih := equalIn_sound w d
    unfold aeqIn at h
    unfold Op.equalIn
    cases hu : P.underlying t with
    | none => rw [hu] at h; cases h
    | some u =>
      rw [hu] at h
      simp only [Sem.run_bind, run_underlying hu, Result.andThen_ok]
      split at h <;> (try (cases h; done)) <;> (try simp only [Option.some.injEq] at *) <;> (try subst_vars) <;> (try (cases hx; cases hy; simp; done))
      · cases hx; cases hy
        split at h
        · rename_i hk; subst hk; simp at h; subst h; simp
        · cases h
      · cases hx; cases hy; simp [str_beq]
      · cases hx with | agg _ xs' hx => cases hy with | agg _ ys' hy =>
        split at h
        · cases h
        · rename_i hst
          have hst' : P.stoodInHeld t = false := by simpa using hst
          have := run_fields w (aeqIn P d) (Op.equalIn d) (fun t a b x y c he ha hb => ih t a b x y c he ha hb) hx hy _ b h
          simp only [Sem.run_bind, run_program, Result.andThen_ok, hst', Bool.false_eq_true, if_false]
          rw [← Array.forIn_toList, this]
          cases b <;> simp
      · cases hx with | agg _ xs' hx => cases hy with | agg _ ys' hy =>
        split at h
        · rename_i n' hn
          have := run_elems w _ n' (aeqIn P d) (Op.equalIn d) (fun t a b x y c he ha hb => ih t a b x y c he ha hb) hx hy _ _ b h
          simp only [Sem.run_bind, run_sizeOf hn, Result.andThen_ok]
          rw [Std.Legacy.Range.forIn_eq_forIn_range']
          simp only [Std.Legacy.Range.size, Nat.sub_zero, Nat.add_sub_cancel, Nat.div_one] at this ⊢
          rw [this]
          cases b <;> simp
        · cases h
theorem intBin_sound {op : BinOp} {k : IntKind} {a b : Int} {v : AV} (h : intBin op k a b = some v) (t : TypeId) (w : World) :
    ∃ r, (binOp op t (.int k a) (.int k b)).run P w = .ok r w ∧ VRel ρ v r := by
  unfold intBin at h
  cases op <;> simp only at h <;> (try (cases h; done)) <;> (try (simp only [Option.some.injEq] at h; subst h)) <;>
    (try (exact ⟨_, by simp only [binOp, ne_eq, not_true_eq_false, if_false, Op.intArith, Op.intBits, Op.intCmp]; exact Sem.run_pure .., by first | exact .int _ _ | exact .bool _⟩))
  · split at h
    · cases h
    · rename_i hb; simp only [Option.some.injEq] at h; subst h
      exact ⟨_, by simp only [binOp, ne_eq, not_true_eq_false, if_false, Op.intDiv, hb]; exact Sem.run_pure .., .int _ _⟩
  · split at h
    · cases h
    · rename_i hb; simp only [Option.some.injEq] at h; subst h
      exact ⟨_, by simp only [binOp, ne_eq, not_true_eq_false, if_false, Op.intDiv, hb]; exact Sem.run_pure .., .int _ _⟩
theorem intShift_sound {op : BinOp} {k k' : IntKind} {a b : Int} {v : AV} (h : intShift op k a b = some v) (t : TypeId) (w : World) :
    ∃ r, (binOp op t (.int k a) (.int k' b)).run P w = .ok r w ∧ VRel ρ v r := by
  unfold intShift at h
  split at h
  · cases h
  · rename_i hb
    cases op <;> simp only at h <;> (try (cases h; done)) <;> simp only [Option.some.injEq] at h <;> subst h
    · exact ⟨_, by simp only [binOp, Op.shift, if_neg hb]; exact Sem.run_pure .., .int _ _⟩
    · exact ⟨_, by simp only [binOp, Op.shift, if_neg hb]; exact Sem.run_pure .., .int _ _⟩
theorem toList_mk (a : List UInt8) : (⟨a.toArray⟩ : ByteArray).toList = a := by rw [ByteArray.toList_eq]
theorem mk_append (a b : List UInt8) : (⟨a.toArray⟩ ++ ⟨b.toArray⟩ : ByteArray) = ⟨(a ++ b).toArray⟩ := by
  apply ByteArray.ext; simp
theorem strBin_sound {op : BinOp} {a b : List UInt8} {v : AV} (h : strBin op a b = some v) (t : TypeId) (w : World) :
    ∃ r, (binOp op t (.string ⟨a.toArray⟩) (.string ⟨b.toArray⟩)).run P w = .ok r w ∧ VRel ρ v r := by
  unfold strBin at h
  unfold binOp
  cases op <;> simp only at h <;> (try (cases h; done)) <;> (try (simp only [Option.some.injEq] at h; subst h)) <;>
    (try (exact ⟨_, by simp only [Op.stringOp, toList_mk]; exact Sem.run_pure .., .bool _⟩))
  split at h
  · rename_i hl
    simp only [Option.some.injEq] at h; subst h
    refine ⟨.string ⟨(a ++ b).toArray⟩, ?_, .str _⟩
    simp only [Op.stringOp]
    rw [if_neg, mk_append]
    · exact Sem.run_pure ..
    · have e : IntKind.i64.max = 9223372036854775807 := rfl
      have e1 : (⟨a.toArray⟩ : ByteArray).size = a.length := by show a.toArray.size = _; simp
      have e2 : (⟨b.toArray⟩ : ByteArray).size = b.length := by show b.toArray.size = _; simp
      rw [e, e1, e2]; omega
  · cases h
theorem eqGuard_sound {op : BinOp} {t : TypeId} {xo yo : Operand} {x y : AV} {x' y' : Value} (h : eqFree P t xo yo x y = true) (hx : VRel ρ x x') (hy : VRel ρ y y') (w : World) :
    (eqGuard op t xo yo x' y').run P w = .ok () w := by
  have hn : xo.isConst' || yo.isConst' = true → (eqGuard op t xo yo .nilIface .nilIface).run P w = .ok () w := by
    intro h
    cases op <;> first
      | rfl
      | (cases xo <;> cases yo <;> first | rfl | (simp [Operand.isConst'] at h; done))
  cases hx with
  | nilIface =>
    cases hy with
    | nilIface =>
      refine hn ?_
      simp only [eqFree] at h
      cases xo <;> cases yo <;> simp_all [isConst, Operand.isConst']
    | _ => cases op <;> rfl
  | agg cs xs hc =>
    cases hy with
    | agg ds ys hd =>
      simp only [eqFree, Bool.not_eq_true'] at h
      cases op <;> first | rfl | simp [eqGuard, h]
    | _ => cases op <;> rfl
  | _ => cases hy <;> cases op <;> rfl
theorem binOp_eql {x y : AV} {x' y' : Value} (hx : VRel ρ x x') (hy : VRel ρ y y') (hi : ∀ k a k' b, x = .int k a → y = .int k' b → False) (hs : ∀ a b, x = .str a → y = .str b → False) (t : TypeId) :
    binOp .eql t x' y' = (do pure (.bool (← Op.equal t x' y'))) ∧ binOp .neq t x' y' = (do pure (.bool (!(← Op.equal t x' y')))) := by
  cases hx <;> cases hy <;> first
    | exact ⟨rfl, rfl⟩
    | exact (hi _ _ _ _ rfl rfl).elim
    | exact (hs _ _ rfl rfl).elim
theorem abin_sound {op : BinOp} {t : TypeId} {xo yo : Operand} {x y v : AV} {x' y' : Value} (h : abin P op t xo yo x y = some v) (hx : VRel ρ x x') (hy : VRel ρ y y') (w : World) :
    ∃ r, ((do eqGuard op t xo yo x' y'; binOp op t x' y' : Sem Value)).run P w = .ok r w ∧ VRel ρ v r := by
  have guard1 : ∀ k a k' b, (eqGuard op t xo yo (.int k a) (.int k' b)).run P w = .ok () w := fun k a k' b => eqGuard_sound (ρ := ρ) (x := .int k a) (y := .int k' b) rfl (.int _ _) (.int _ _) w
  have guard2 : ∀ a b, (eqGuard op t xo yo (.string ⟨a⟩) (.string ⟨b⟩)).run P w = .ok () w := fun a b => by
    unfold eqGuard; split <;> rfl
  unfold abin at h
  split at h
  · cases hx; cases hy
    rename_i k a k' b
    simp only [Sem.run_bind, guard1, Result.andThen_ok]
    split at h
    · exact intShift_sound h t w
    · exact intShift_sound h t w
    · split at h
      · rename_i hk; subst hk; exact intBin_sound h t w
      · cases h
  · cases hx; cases hy
    simp only [Sem.run_bind, guard2, Result.andThen_ok]
    exact strBin_sound h t w
  · rename_i hni hns
    obtain ⟨e1, e2⟩ := binOp_eql hx hy (fun k a k' b h1 h2 => hni _ _ _ _ h1 h2) (fun a b h1 h2 => hns _ _ h1 h2) t
    split at h
    · split at h
      · rename_i hf
        rw [Sem.run_bind, eqGuard_sound hf hx hy w, Result.andThen_ok]
        simp only [Option.map_eq_some_iff] at h
        obtain ⟨b, hb, rfl⟩ := h
        have he : (Op.equal t x' y').run P w = .ok b w := equalIn_sound (ρ := ρ) w _ _ _ _ _ _ _ hb hx hy
        exact ⟨.bool b, by rw [e1, Sem.run_bind, he]; rfl, .bool b⟩
      · cases h
    · split at h
      · rename_i hf
        rw [Sem.run_bind, eqGuard_sound hf hx hy w, Result.andThen_ok]
        simp only [Option.map_eq_some_iff] at h
        obtain ⟨b, hb, rfl⟩ := h
        have he : (Op.equal t x' y').run P w = .ok b w := equalIn_sound (ρ := ρ) w _ _ _ _ _ _ _ hb hx hy
        exact ⟨.bool (!b), by rw [e2, Sem.run_bind, he]; rfl, .bool _⟩
      · cases h
    · cases h
theorem aun_sound {op : UnOp} {x v : AV} {x' : Value} (h : aun op x = some v) (hx : VRel ρ x x') (w : World) : ∃ r, (Op.unary op x').run P w = .ok r w ∧ VRel ρ v r := by
  unfold aun at h
  split at h
  · cases hx; simp only [Option.some.injEq] at h; subst h
    exact ⟨_, by simp only [Op.unary, Op.intArith]; exact Sem.run_pure .., .int _ _⟩
  · cases hx; simp only [Option.some.injEq] at h; subst h
    exact ⟨_, by simp only [Op.unary]; exact Sem.run_pure .., .bool _⟩
  · cases h
end
end Go.Ev

namespace Go.Ev
section
variable {P : Program} {ρ : Env} {H : AHeap} {w : World}
def putAll (c : Array Value) (o : Nat) : List Value → Array Value
  | [] => c
  | v :: r => putAll (c.setIfInBounds o v) (o + 1) r
theorem putAll_size : ∀ (vs : List Value) (c : Array Value) (o : Nat), (putAll c o vs).size = c.size
  | [], _, _ => rfl
  | v :: r, c, o => by rw [putAll, putAll_size r]; simp
theorem putAll_out : ∀ (vs : List Value) (c : Array Value) (o k : Nat), k < o ∨ o + vs.length ≤ k → (putAll c o vs)[k]? = c[k]?
  | [], _, _, _, _ => rfl
  | v :: r, c, o, k, h => by
    rw [putAll, putAll_out r _ _ _ (by simp at h; omega)]
    rw [Array.getElem?_setIfInBounds]
    have : ¬ o = k := by simp at h; omega
    simp [this]
theorem putAll_in : ∀ (vs : List Value) (c : Array Value) (o j : Nat) (x : Value), vs[j]? = some x → o + j < c.size → (putAll c o vs)[o + j]? = some x
  | [], _, _, _, _, h, _ => by simp at h
  | v :: r, c, o, 0, x, h, hl => by
    simp at h; subst h
    rw [putAll, putAll_out r _ _ _ (by omega), Array.getElem?_setIfInBounds]
    simp; omega
  | v :: r, c, o, j + 1, x, h, hl => by
    rw [putAll, show o + (j + 1) = o + 1 + j by omega]
    exact putAll_in r _ _ _ _ (by simpa using h) (by simp; omega)
theorem setCells_heap (b : Nat) : ∀ (vs : List Value) (o : Nat) (w : World) (c : Array Value) (t : TypeId) (fz : Nat × Nat), w.heap[b]? = some (.cells c t fz) →
    (w.setCells b o vs).heap[b]? = some (.cells (putAll c o vs) t fz)
  | [], _, _, _, _, _, h => h
  | v :: r, o, w, c, t, fz, h => by
    rw [World.setCells, putAll]
    refine setCells_heap b r (o + 1) _ _ t fz ?_
    simp [World.setCell, Array.getElem?_modify, h]
theorem setCells_heap_other (b : Nat) : ∀ (vs : List Value) (o : Nat) (w : World) (k : Nat), k ≠ b → (w.setCells b o vs).heap[k]? = w.heap[k]?
  | [], _, _, _, _ => rfl
  | v :: r, o, w, k, h => by
    rw [World.setCells, setCells_heap_other b r _ _ _ h]
    simp [World.setCell, Array.getElem?_modify, Ne.symm h]
theorem setCells_same (b : Nat) : ∀ (vs : List Value) (o : Nat) (w : World), (w.setCells b o vs).heap.size = w.heap.size ∧ (w.setCells b o vs).os = w.os ∧ (w.setCells b o vs).tape = w.tape ∧ (w.setCells b o vs).output = w.output
  | [], _, _ => ⟨rfl, rfl, rfl, rfl⟩
  | v :: r, o, w => by
    rw [World.setCells]
    obtain ⟨a, b, c, d⟩ := setCells_same b r (o + 1) (w.setCell ⟨b, o, none⟩ v)
    exact ⟨a.trans (by simp [World.setCell]), b, c, d⟩
theorem RowOk.cell {loc : Loc} {ro : Bool} {esz : Nat} {els : List (List AV)} (h : RowOk ρ w loc ro esz els) {i : Nat} {e : List AV} (he : els[i]? = some e) {j : Nat} {v : AV} (hv : e[j]? = some v) :
    ∃ x, w.cell? ⟨loc.block, loc.off + i * loc.esz + j, none⟩ = some x ∧ VRel ρ v x ∧ v.one = true := by
  obtain ⟨rfl, c, t, fz, hb, _, hr⟩ := h
  obtain ⟨_, hx⟩ := hr i e he
  obtain ⟨h1, x, hx, hr⟩ := hx j v hv
  exact ⟨x, by simp [World.cell?, hb, hx], hr, h1⟩
def aload (P : Program) (H : AHeap) (t : TypeId) (a : AV) : Option AV :=
  match a with
  | .ptr l i c =>
    (match H.get l with
    | some (.row _ esz els) =>
      (match els[i]?, tyAgg P t with
      | some e, some false => e[c]?
      | some e, some true => (match tySize P t with | some n => if c + n ≤ esz then some (.agg ((e.drop c).take n)) else none | none => none)
      | _, _ => none)
    | _ => none)
  | _ => none
theorem addr_add (b o j : Nat) : (⟨b, o, none⟩ : Addr).add j = ⟨b, o + j, none⟩ := by
  unfold Addr.add; split <;> simp_all
theorem aload_sound (hR : Rel ρ H w) {t : TypeId} {a v : AV} {x : Value} (h : aload P H t a = some v) (hx : VRel ρ a x) :
    ∃ r, (Instr.loadAt t x).run P w = .ok r w ∧ VRel ρ v r := by
  unfold aload at h
  split at h
  · rename_i l i c
    cases hx with | ptr _ _ _ loc hl =>
    split at h
    · rename_i ro esz els hg
      obtain ⟨loc', hl', hrow⟩ := hR.row _ _ _ _ hg
      obtain rfl : loc = loc' := Option.some.inj (hl.symm.trans hl')
      split at h
      · rename_i e he ha
        obtain ⟨x, hc, hv, _⟩ := hrow.cell he h
        refine ⟨x, ?_, hv⟩
        simp [Instr.loadAt, Instr.sureAddr, loadVar, run_isAgg ha, run_load, hc]
      · rename_i e he ha
        split at h
        · rename_i n hn
          split at h
          · rename_i hle
            simp only [Option.some.injEq] at h; subst h
            have hlen : e.length = esz := by obtain ⟨_, c', t', fz, _, _, hr⟩ := hrow; exact (hr i e he).1
            have hex : ∃ xs : List Value, xs.length = n ∧ VRels ρ ((e.drop c).take n) xs ∧ ∀ j y, xs[j]? = some y → w.cell? ⟨loc.block, loc.off + i * loc.esz + c + j, none⟩ = some y := by
              clear ha hn
              induction n with
              | zero => exact ⟨[], rfl, by simpa using VRels.nil, fun j y hy => by simp at hy⟩
              | succ n ih =>
                obtain ⟨xs, h1, h2, h3⟩ := ih (by omega)
                have hin : c + n < e.length := by omega
                obtain ⟨x, hc, hv, _⟩ := hrow.cell he (j := c + n) (v := e[c + n]) (by simp [hin])
                refine ⟨xs ++ [x], by simp [h1], ?_, ?_⟩
                · rw [List.take_succ_eq_append_getElem (by simp; omega)]
                  refine h2.append (.cons _ _ _ _ ?_ .nil)
                  simpa using hv
                · intro j y hy
                  by_cases hj : j < xs.length
                  · rw [List.getElem?_append_left hj] at hy; exact h3 j y hy
                  · rw [List.getElem?_append_right (by omega)] at hy
                    have : j = n := by
                      by_cases h0 : j - xs.length = 0
                      · omega
                      · obtain ⟨m, hm⟩ : ∃ m, j - xs.length = m + 1 := ⟨j - xs.length - 1, by omega⟩
                        rw [hm] at hy; simp at hy
                    subst this
                    simp [h1] at hy; subst hy
                    rw [← hc, Nat.add_assoc]
            obtain ⟨xs, h1, h2, h3⟩ := hex
            refine ⟨.agg xs.toArray, ?_, .agg _ _ h2⟩
            have := run_loadCells_list (P := P) w ⟨loc.block, loc.off + i * loc.esz + c, none⟩ xs (fun j y hy => by rw [addr_add]; exact h3 j y hy)
            rw [h1] at this
            simp [Instr.loadAt, Instr.sureAddr, loadVar, run_isAgg ha, run_sizeOf hn, this]
          · cases h
        · cases h
      · cases h
    · cases h
  · cases h
def splice (e : List AV) (c : Nat) (cs : List AV) : List AV := e.take c ++ cs ++ e.drop (c + cs.length)
theorem splice_length {e : List AV} {c : Nat} {cs : List AV} (h : c + cs.length ≤ e.length) : (splice e c cs).length = e.length := by
  simp [splice]; omega
theorem splice_in {e : List AV} {c : Nat} {cs : List AV} (h : c + cs.length ≤ e.length) {j : Nat} (h1 : c ≤ j) (h2 : j < c + cs.length) : (splice e c cs)[j]? = cs[j - c]? := by
  unfold splice
  rw [List.append_assoc, List.getElem?_append_right (by simp; omega), List.getElem?_append_left (by simp; omega)]
  congr 1; simp; omega
theorem splice_out {e : List AV} {c : Nat} {cs : List AV} (h : c + cs.length ≤ e.length) {j : Nat} (h1 : j < c ∨ c + cs.length ≤ j) : (splice e c cs)[j]? = e[j]? := by
  unfold splice
  rcases h1 with h1 | h1
  · rw [List.append_assoc, List.getElem?_append_left (by simp; omega), List.getElem?_take_of_lt h1]
  · rw [List.getElem?_append_right (by simp; omega), List.getElem?_drop]
    congr 1; simp; omega
theorem lt_block {a b n : Nat} (h : a < b) : a * n + n ≤ b * n := by
  have := Nat.mul_le_mul_right n (Nat.succ_le_of_lt h)
  rw [Nat.succ_mul] at this; exact this
theorem write_sound (hR : Rel ρ H w) {l esz : Nat} {els : List (List AV)} (hg : H.get l = some (.row false esz els)) {loc : Loc} (hl : ρ l = some loc) {i : Nat} {e : List AV} (he : els[i]? = some e)
    {c : Nat} {cs : List AV} {xs : List Value} (hc : c + cs.length ≤ esz) (h1 : ∀ v ∈ cs, v.one = true) (hv : VRels ρ cs xs) :
    Step ρ H w ρ (H.set l (.row false esz (els.set i (splice e c cs)))) (w.setCells loc.block (loc.off + i * loc.esz + c) xs) := by
  have hlt := AHeap.get_lt hg
  obtain ⟨loc', hl', hesz, arr, t, fz, hb, hfz, hrow⟩ := hR.row _ _ _ _ hg
  obtain rfl : loc = loc' := Option.some.inj (hl.symm.trans hl')
  have helen := (hrow i e he).1
  have hil : i < els.length := by
    rcases Nat.lt_or_ge i els.length with h | h
    · exact h
    · rw [List.getElem?_eq_none h] at he; cases he
  have hxs := hv.length
  have hother : ∀ l' loc', H.live l' → l' ≠ l → ρ l' = some loc' → loc'.block ≠ loc.block := fun l' loc' h h' hl' heq =>
    hR.apart l l' loc loc' (.inl ⟨_, _, hg⟩) h (Ne.symm h') hl hl' heq.symm
  have hrw : ∀ l', (H.set l (.row false esz (els.set i (splice e c cs)))).rw l' → H.rw l' := by
    intro l' h
    by_cases hll : l = l'
    · subst hll; exact .inl ⟨_, _, hg⟩
    · simpa [AHeap.rw, AHeap.get_set_other hll] using h
  have hlive : ∀ l', (H.set l (.row false esz (els.set i (splice e c cs)))).live l' → H.live l' := by
    intro l' h
    by_cases hll : l = l'
    · subst hll; exact .inl ⟨_, _, _, hg⟩
    · simpa [AHeap.live, AHeap.get_set_other hll] using h
  obtain ⟨s1, s2, s3, s4⟩ := setCells_same loc.block xs (loc.off + i * loc.esz + c) w
  refine ⟨ρ.le_refl, Nat.le_refl _, fun _ _ => rfl, ⟨?_, ?_, ?_⟩, s2, s3, s4, Nat.le_of_eq s1.symm, ?_, ?_, AHeap.ro_set rfl⟩
  · intro l' ro' esz' els' h
    by_cases hll : l = l'
    · subst hll
      rw [AHeap.get_set_same hlt] at h
      simp only [Option.some.injEq, ABlk.row.injEq] at h
      obtain ⟨rfl, rfl, rfl⟩ := h
      refine ⟨loc, hl, hesz, _, t, fz, setCells_heap _ _ _ _ _ _ _ hb, ?_, ?_⟩
      · intro _
        rw [putAll_size]; exact hfz rfl
      · intro i' e' he'
        rw [List.getElem?_set] at he'
        by_cases hii : i = i'
        · subst hii
          rw [if_pos rfl, if_pos hil] at he'
          simp only [Option.some.injEq] at he'; subst he'
          have hspl : c + cs.length ≤ e.length := by omega
          refine ⟨by rw [splice_length hspl]; exact helen, ?_⟩
          intro j v hj
          by_cases hin : c ≤ j ∧ j < c + cs.length
          · rw [splice_in hspl hin.1 hin.2] at hj
            obtain ⟨x, hx, hvx⟩ := hv.get _ _ hj
            refine ⟨h1 v (List.mem_of_getElem? hj), x, ?_, hvx⟩
            have hcell := (hrow i e he).2 j (e[j]'(by omega)) (by simp)
            obtain ⟨_, x0, hx0, _⟩ := hcell
            have hsz : loc.off + i * esz + j < arr.size := by
              rcases Nat.lt_or_ge (loc.off + i * esz + j) arr.size with h | h
              · exact h
              · rw [Array.getElem?_eq_none h] at hx0; cases hx0
            have := putAll_in xs arr (loc.off + i * loc.esz + c) (j - c) x hx (by rw [hesz]; omega)
            rw [show loc.off + i * esz + j = loc.off + i * loc.esz + c + (j - c) by rw [hesz]; omega]
            exact this
          · rw [splice_out hspl (by omega)] at hj
            obtain ⟨a1, x, hx, hvx⟩ := (hrow i e he).2 j v hj
            refine ⟨a1, x, ?_, hvx⟩
            rw [putAll_out _ _ _ _ (by rw [hesz, ← hxs]; omega)]; exact hx
        · rw [if_neg hii] at he'
          obtain ⟨a0, a1⟩ := hrow i' e' he'
          refine ⟨a0, fun j v hj => ?_⟩
          obtain ⟨b1, x, hx, hvx⟩ := a1 j v hj
          refine ⟨b1, x, ?_, hvx⟩
          have hj' : j < esz := by
            rcases Nat.lt_or_ge j e'.length with h | h
            · omega
            · rw [List.getElem?_eq_none h] at hj; cases hj
          rw [putAll_out _ _ _ _ ?_]
          · exact hx
          · rw [hesz, ← hxs]
            rcases Nat.lt_or_gt_of_ne hii with h | h
            · have := lt_block (n := esz) h; omega
            · have := lt_block (n := esz) h; omega
    · rw [AHeap.get_set_other hll] at h
      obtain ⟨loc', hl', hrest⟩ := hR.row _ _ _ _ h
      refine ⟨loc', hl', ?_⟩
      have hne := hother l' loc' (.inl ⟨_, _, _, h⟩) (Ne.symm hll) hl'
      obtain ⟨p1, c', t', fz', p2, p3, p4⟩ := hrest
      exact ⟨p1, c', t', fz', by rw [setCells_heap_other _ _ _ _ _ hne]; exact p2, p3, p4⟩
  · intro l' es h
    by_cases hll : l = l'
    · subst hll; rw [AHeap.get_set_same hlt] at h; cases h
    · rw [AHeap.get_set_other hll] at h
      obtain ⟨loc', hl', hrest⟩ := hR.map _ _ h
      have hne := hother l' loc' (.inr ⟨_, h⟩) (Ne.symm hll) hl'
      obtain ⟨ents, clock, p2, p3⟩ := hrest
      exact ⟨loc', hl', ents, clock, by rw [setCells_heap_other _ _ _ _ _ hne]; exact p2, p3⟩
  · intro l1 l2 loc1 loc2 h1 h2 hne hl1 hl2
    exact hR.apart l1 l2 loc1 loc2 (hrw _ h1) (hlive _ h2) hne hl1 hl2
  · intro b hb hno
    refine setCells_heap_other _ _ _ _ _ ?_
    rintro rfl
    exact hno ⟨l, loc, .inl ⟨_, _, hg⟩, hl, rfl⟩
  · rintro b ⟨l', loc', h1, h2, h3⟩
    exact .inl ⟨l', loc', hrw _ h1, h2, h3⟩
def astore (P : Program) (H : AHeap) (t : TypeId) (a v : AV) : Option AHeap :=
  match a with
  | .ptr l i c =>
    (match H.get l with
    | some (.row false esz els) =>
      (match els[i]? with
      | some e => if tySize P t = some v.cells.length ∧ c + v.cells.length ≤ esz ∧ v.cells.all AV.one = true then some (H.set l (.row false esz (els.set i (splice e c v.cells)))) else none
      | none => none)
    | _ => none)
  | _ => none
theorem astore_sound (hR : Rel ρ H w) {t : TypeId} {a v : AV} {x y : Value} {H' : AHeap} (h : astore P H t a v = some H') (hx : VRel ρ a x) (hy : VRel ρ v y) :
    ∃ w', (Instr.storeAt t x y).run P w = .ok () w' ∧ Step ρ H w ρ H' w' := by
  unfold astore at h
  split at h
  · rename_i l i c
    cases hx with | ptr _ _ _ loc hl =>
    split at h
    · rename_i esz els hg
      split at h
      · rename_i e he
        split at h
        · rename_i hcond
          obtain ⟨hs, hc, hone⟩ := hcond
          simp only [Option.some.injEq] at h; subst h
          have hone' : ∀ u ∈ v.cells, u.one = true := by simpa using hone
          have hcells := hy.cells
          refine ⟨_, ?_, write_sound hR hg hl he hc hone' hcells⟩
          obtain ⟨loc', hl', hrow⟩ := hR.row _ _ _ _ hg
          obtain rfl : loc = loc' := Option.some.inj (hl.symm.trans hl')
          have hlen := hcells.length
          have hrow' := hrow
          obtain ⟨hesz, arr, t', fz, hb, hfz, hr⟩ := hrow
          have hel := (hr i e he).1
          have hthere : ∀ j, j < y.cells.toList.length → ∃ u, arr[loc.off + i * loc.esz + c + j]? = some u := by
            intro j hj
            obtain ⟨_, u, hu, _⟩ := (hr i e he).2 (c + j) (e[c + j]'(by omega)) (by simp)
            exact ⟨u, by rw [hesz, Nat.add_assoc]; exact hu⟩
          have hrun := run_storeCells_cells (P := P) loc.block (loc.off + i * loc.esz + c) y.cells.toList 0 w
            (fun j hj => by obtain ⟨u, hu⟩ := hthere j hj; simp [World.cell?, hb, hu])
            (fun j hj => by
              obtain ⟨u, hu⟩ := hthere j hj
              have hlt : loc.off + i * loc.esz + c + j < arr.size := by
                rcases Nat.lt_or_ge (loc.off + i * loc.esz + c + j) arr.size with h | h
                · exact h
                · rw [Array.getElem?_eq_none h] at hu; cases hu
              have := (hfz rfl).2 _ hlt
              simp only [World.frozen?, hb, Nat.add_zero]
              simpa using this)
            (fun u hu => by
              obtain ⟨j, hj⟩ := List.getElem?_of_mem hu
              have hjl : j < v.cells.length := by
                rcases Nat.lt_or_ge j y.cells.toList.length with h | h
                · omega
                · rw [List.getElem?_eq_none h] at hj; cases hj
              obtain ⟨u', hu', hvu⟩ := hcells.get j _ (List.getElem?_eq_getElem hjl)
              obtain rfl : u = u' := Option.some.inj (hj.symm.trans hu')
              exact hvu.oneCell (hone' _ (List.getElem_mem hjl)))
          have hsz : y.cells.size = v.cells.length := by rw [hlen]; simp
          simp only [Instr.storeAt, Instr.sureAddr, Sem.run_bind, Sem.run_pure, Result.andThen_ok, storeVar, run_sizeOf hs, hsz, ne_eq, not_true_eq_false, if_false]
          simpa using hrun
        · cases h
      · cases h
    · cases h
  · cases h
end
end Go.Ev

namespace Go.Ev
def Env.upd (ρ : Env) (l : Nat) (loc : Loc) : Env := fun k => if k = l then some loc else ρ k
theorem Env.upd_same (ρ : Env) (l : Nat) (loc : Loc) : ρ.upd l loc l = some loc := by simp [Env.upd]
theorem Env.upd_other {ρ : Env} {l k : Nat} {loc : Loc} (h : k ≠ l) : ρ.upd l loc k = ρ k := by simp [Env.upd, h]
theorem Env.le_upd {ρ : Env} {l : Nat} (h : ρ l = none) (loc : Loc) : ρ.le (ρ.upd l loc) := by
  intro k x hk
  by_cases e : k = l
  · subst e; rw [h] at hk; cases hk
  · rw [Env.upd_other e]; exact hk
section
variable {P : Program} {ρ : Env} {H : AHeap} {w : World}
theorem heap_alloc_old (w : World) (o : Obj) {k : Nat} (h : k < w.heap.size) : (w.alloc o).heap[k]? = w.heap[k]? := by
  show (w.heap.push o)[k]? = _
  rw [Array.getElem?_push, if_neg (by omega)]
theorem heap_alloc_new (w : World) (o : Obj) : (w.alloc o).heap[w.heap.size]? = some o := by
  show (w.heap.push o)[w.heap.size]? = _
  simp
theorem heap_alloc_size (w : World) (o : Obj) : (w.alloc o).heap.size = w.heap.size + 1 := by
  show (w.heap.push o).size = _
  simp
theorem heap_some_lt {w : World} {k : Nat} {o : Obj} (h : w.heap[k]? = some o) : k < w.heap.size := by
  rcases Nat.lt_or_ge k w.heap.size with h' | h'
  · exact h'
  · rw [Array.getElem?_eq_none h'] at h; cases h
theorem flatten_get {esz : Nat} : ∀ {els : List (List AV)}, (∀ e ∈ els, e.length = esz) → ∀ {i : Nat} {e : List AV}, els[i]? = some e → ∀ {j : Nat} {v : AV}, e[j]? = some v → els.flatten[i * esz + j]? = some v
  | [], _, _, _, h, _, _, _ => by simp at h
  | d :: els, hl, 0, e, h, j, v, hv => by
    simp at h; subst h
    have hj : j < d.length := by
      rcases Nat.lt_or_ge j d.length with h | h
      · exact h
      · rw [List.getElem?_eq_none h] at hv; cases hv
    simp only [List.flatten_cons, Nat.zero_mul, Nat.zero_add]
    rw [List.getElem?_append_left hj]; exact hv
  | d :: els, hl, i + 1, e, h, j, v, hv => by
    have hd : d.length = esz := hl d (by simp)
    have := flatten_get (els := els) (fun e he => hl e (List.mem_cons_of_mem _ he)) (i := i) (by simpa using h) hv
    simp only [List.flatten_cons]
    rw [List.getElem?_append_right (by rw [Nat.succ_mul]; omega)]
    rw [← this]; congr 1; rw [Nat.succ_mul]; omega
theorem rw_push {H : AHeap} {b : ABlk} {l : Nat} (h : (H.push b).rw l) : l = H.next ∨ H.rw l := by
  by_cases e : l = H.next
  · exact .inl e
  · exact .inr (by simpa [AHeap.rw, AHeap.get_push_other e] using h)
theorem live_push {H : AHeap} {b : ABlk} {l : Nat} (h : (H.push b).live l) : l = H.next ∨ H.live l := by
  by_cases e : l = H.next
  · exact .inl e
  · exact .inr (by simpa [AHeap.live, AHeap.get_push_other e] using h)
theorem Rel.block_lt (hR : Rel ρ H w) {l : Nat} (h : H.live l) {loc : Loc} (hl : ρ l = some loc) : loc.block < w.heap.size := by
  rcases h with ⟨ro, esz, els, h⟩ | ⟨es, h⟩
  · obtain ⟨loc', hl', _, c, t, fz, hb, _⟩ := hR.row _ _ _ _ h
    obtain rfl : loc = loc' := Option.some.inj (hl.symm.trans hl')
    exact heap_some_lt hb
  · obtain ⟨loc', hl', ents, clock, hb, _⟩ := hR.map _ _ h
    obtain rfl : loc = loc' := Option.some.inj (hl.symm.trans hl')
    exact heap_some_lt hb
theorem push_sound (hR : Rel ρ H w) (hf : ρ H.next = none) (b : ABlk) (hro : b.isRo = false) (o : Obj) (loc : Loc) (hloc : loc.block = w.heap.size)
    (hrow : ∀ ro esz els, b = .row ro esz els → RowOk (ρ.upd H.next loc) (w.alloc o) loc ro esz els) (hmap : ∀ es, b = .map es → MapOk (ρ.upd H.next loc) (w.alloc o) loc es) :
    Step ρ H w (ρ.upd H.next loc) (H.push b) (w.alloc o) := by
  have hle := Env.le_upd hf loc
  have hblk : ∀ l loc', H.live l → ρ.upd H.next loc l = some loc' → loc'.block < w.heap.size := fun l loc' h h' => by
    have hne : l ≠ H.next := by
      rintro rfl
      rcases h with ⟨_, _, _, h⟩ | ⟨_, h⟩ <;> · have := AHeap.get_lt h; omega
    rw [Env.upd_other hne] at h'
    exact hR.block_lt h h'
  refine ⟨hle, by simp, fun l hl => Env.upd_other (by simp at hl; omega), ⟨?_, ?_, ?_⟩, rfl, rfl, rfl, by rw [heap_alloc_size]; omega, fun k hk _ => heap_alloc_old w o hk, ?_, AHeap.ro_push hro⟩
  · intro l ro esz els h
    by_cases e : l = H.next
    · subst e
      rw [AHeap.get_push_same] at h
      exact ⟨loc, Env.upd_same _ _ _, hrow _ _ _ (Option.some.inj h)⟩
    · rw [AHeap.get_push_other e] at h
      obtain ⟨loc', hl', hesz, c, t, fz, hb, hfz, hr⟩ := hR.row _ _ _ _ h
      refine ⟨loc', by rw [Env.upd_other e]; exact hl', hesz, c, t, fz, by rw [heap_alloc_old w o (heap_some_lt hb)]; exact hb, hfz, ?_⟩
      intro i d hd
      obtain ⟨h1, h2⟩ := hr i d hd
      refine ⟨h1, fun j v hv => ?_⟩
      obtain ⟨h3, x, hx, hvx⟩ := h2 j v hv
      exact ⟨h3, x, hx, hvx.mono hle⟩
  · intro l es h
    by_cases e : l = H.next
    · subst e
      rw [AHeap.get_push_same] at h
      exact ⟨loc, Env.upd_same _ _ _, hmap _ (Option.some.inj h)⟩
    · rw [AHeap.get_push_other e] at h
      obtain ⟨loc', hl', ents, clock, hb, h1, h2⟩ := hR.map _ _ h
      exact ⟨loc', by rw [Env.upd_other e]; exact hl', ents, clock, by rw [heap_alloc_old w o (heap_some_lt hb)]; exact hb, h1.mono hle, h2.mono hle⟩
  · intro l l' loc1 loc2 h1 h2 hne e1 e2
    rcases rw_push h1 with rfl | h1
    · rcases live_push h2 with rfl | h2
      · exact absurd rfl hne
      · rw [Env.upd_same] at e1
        obtain rfl := Option.some.inj e1
        have := hblk _ _ h2 e2
        omega
    · rcases live_push h2 with rfl | h2
      · rw [Env.upd_same] at e2
        obtain rfl := Option.some.inj e2
        have := hblk _ _ h1.live e1
        omega
      · have n1 : l ≠ H.next := by
          rintro rfl
          rcases h1 with ⟨_, _, h⟩ | ⟨_, h⟩ <;> · have := AHeap.get_lt h; omega
        have n2 : l' ≠ H.next := by
          rintro rfl
          rcases h2 with ⟨_, _, _, h⟩ | ⟨_, h⟩ <;> · have := AHeap.get_lt h; omega
        rw [Env.upd_other n1] at e1
        rw [Env.upd_other n2] at e2
        exact hR.apart l l' loc1 loc2 h1 h2 hne e1 e2
  · rintro k ⟨l, loc', h1, h2, h3⟩
    rcases rw_push h1 with rfl | h1
    · rw [Env.upd_same] at h2
      obtain rfl := Option.some.inj h2
      exact .inr (by omega)
    · have n1 : l ≠ H.next := by
        rintro rfl
        rcases h1 with ⟨_, _, h⟩ | ⟨_, h⟩ <;> · have := AHeap.get_lt h; omega
      rw [Env.upd_other n1] at h2
      exact .inl ⟨l, loc', h1, h2, h3⟩
theorem push_row_sound (hR : Rel ρ H w) (hf : ρ H.next = none) {esz : Nat} {els : List (List AV)} (hlen : ∀ e ∈ els, e.length = esz) (hone : ∀ e ∈ els, ∀ v ∈ e, v.one = true)
    {xs tail : List Value} (hv : VRels ρ els.flatten xs) (t : TypeId) :
    Step ρ H w (ρ.upd H.next ⟨w.heap.size, 0, esz, xs.length + tail.length⟩) (H.push (.row false esz els)) (w.alloc (.cells (xs ++ tail).toArray t)) := by
  refine push_sound hR hf _ rfl _ _ rfl ?_ (fun es h => by cases h)
  intro ro esz' els' h
  simp only [ABlk.row.injEq] at h
  obtain ⟨rfl, rfl, rfl⟩ := h
  refine ⟨rfl, _, t, (0, 0), heap_alloc_new _ _, fun _ => ⟨by simp, fun o _ => by simp⟩, ?_⟩
  intro i e he
  refine ⟨hlen e (List.mem_of_getElem? he), fun j v hj => ?_⟩
  refine ⟨hone e (List.mem_of_getElem? he) v (List.mem_of_getElem? hj), ?_⟩
  obtain ⟨x, hx, hvx⟩ := hv.get _ _ (flatten_get hlen he hj)
  refine ⟨x, ?_, hvx.mono (Env.le_upd hf _)⟩
  have hlt : i * esz + j < xs.length := by
    rcases Nat.lt_or_ge (i * esz + j) xs.length with h | h
    · exact h
    · rw [List.getElem?_eq_none h] at hx; cases hx
  simp only [Nat.zero_add, List.getElem?_toArray]
  rw [List.getElem?_append_left hlt]; exact hx
def ofCell : Value → Option AV
  | .bool b => some (.bool b)
  | .int k n => some (.int k n)
  | .string s => some (.str s.data.toList)
  | .pointer none => some .nilPtr
  | .slice none 0 0 => some .nilSl
  | .map none => some .nilMap
  | .nilFunc => some .nilFunc
  | .nilIface => some .nilIface
  | _ => none
def ofCells : List Value → Option (List AV)
  | [] => some []
  | v :: r => match ofCell v, ofCells r with
    | some a, some l => some (a :: l)
    | _, _ => none
def ofVal : Value → Option AV
  | .agg cs => (ofCells cs.toList).map .agg
  | v => ofCell v
theorem ofCell_sound {v : Value} {a : AV} (h : ofCell v = some a) (ρ : Env) : VRel ρ a v ∧ a.one = true := by
  unfold ofCell at h
  split at h <;> first
    | (simp only [Option.some.injEq] at h; subst h; exact ⟨by constructor, rfl⟩)
    | cases h
theorem ofCells_sound : ∀ {vs : List Value} {as : List AV}, ofCells vs = some as → ∀ ρ : Env, VRels ρ as vs ∧ ∀ a ∈ as, a.one = true
  | [], as, h, ρ => by simp [ofCells] at h; subst h; exact ⟨.nil, by simp⟩
  | v :: r, as, h, ρ => by
    unfold ofCells at h
    split at h
    · rename_i a l ha hl
      simp only [Option.some.injEq] at h; subst h
      obtain ⟨h1, h2⟩ := ofCell_sound ha ρ
      obtain ⟨h3, h4⟩ := ofCells_sound hl ρ
      exact ⟨.cons _ _ _ _ h1 h3, by simpa using ⟨h2, h4⟩⟩
    · cases h
theorem ofVal_sound {v : Value} {a : AV} (h : ofVal v = some a) (ρ : Env) : VRel ρ a v := by
  unfold ofVal at h
  split at h
  · simp only [Option.map_eq_some_iff] at h
    obtain ⟨l, hl, rfl⟩ := h
    have := VRel.agg _ _ (ofCells_sound hl ρ).1
    simpa using this
  · exact (ofCell_sound h ρ).1
def azero (P : Program) (t : TypeId) : Option AV := (P.info? t).bind fun i => i.zero.bind ofVal
theorem azero_sound {t : TypeId} {z : AV} (h : azero P t = some z) (w : World) : ∃ x, (zeroValue t).run P w = .ok x w ∧ ∀ ρ : Env, VRel ρ z x := by
  unfold azero at h
  simp only [Option.bind_eq_some_iff] at h
  obtain ⟨i, hi, x, hx, hz⟩ := h
  exact ⟨x, by simp [zeroValue, typeInfo, hi, hx], fun ρ => ofVal_sound hz ρ⟩
def abox (H : AHeap) (v : AV) : Option (AV × AHeap) :=
  if v.cells.all AV.one = true then some (.ptr H.next 0 0, H.push (.row false v.cells.length [v.cells])) else none
theorem abox_sound (hR : Rel ρ H w) (hf : ρ H.next = none) {v a : AV} {x : Value} {H' : AHeap} (h : abox H v = some (a, H')) (hx : VRel ρ v x) (t : TypeId) :
    ∃ r w' ρ', (Instr.box t x).run P w = .ok r w' ∧ VRel ρ' a r ∧ Step ρ H w ρ' H' w' := by
  unfold abox at h
  split at h
  · rename_i hone
    simp only [Option.some.injEq, Prod.mk.injEq] at h
    obtain ⟨rfl, rfl⟩ := h
    have hc := hx.cells
    have hs := push_row_sound hR hf (esz := v.cells.length) (els := [v.cells]) (by simp) (by simpa using hone) (xs := x.cells.toList) (tail := []) (by simpa using hc) t
    refine ⟨.pointer (some ⟨w.heap.size, 0, none⟩), _, _, ?_, ?_, hs⟩
    · simp [Instr.box, newVar, newRow]
    · simpa using VRel.ptr (ρ := ρ.upd H.next _) H.next 0 0 _ (Env.upd_same _ _ _)
  · cases h
def aalloc (P : Program) (H : AHeap) (t : TypeId) : Option (AV × AHeap) := (azero P t).bind (abox H)
theorem aalloc_sound (hR : Rel ρ H w) (hf : ρ H.next = none) {t : TypeId} {a : AV} {H' : AHeap} (h : aalloc P H t = some (a, H')) :
    ∃ r w' ρ', (Instr.alloc t true (.tuple #[])).run P w = .ok r w' ∧ VRel ρ' a r ∧ Step ρ H w ρ' H' w' := by
  unfold aalloc at h
  simp only [Option.bind_eq_some_iff] at h
  obtain ⟨z, hz, h⟩ := h
  obtain ⟨x, hx, hv⟩ := azero_sound hz w
  obtain ⟨r, w', ρ', h1, h2, h3⟩ := abox_sound (P := P) hR hf h (hv ρ) t
  refine ⟨r, w', ρ', ?_, h2, h3⟩
  simp only [Instr.alloc, Sem.run_bind, hx, Result.andThen_ok]
  simpa [Instr.box] using h1
end
end Go.Ev

namespace Go.Ev
section
variable {P : Program} {ρ : Env} {H : AHeap} {w : World}
def afill (place : Nat → Option (Nat × Nat)) (cells : List AV) : List (Nat × AV) → Option (List AV)
  | [] => some cells
  | (i, v) :: rest =>
    match place i with
    | none => none
    | some (off, size) => if v.cells.length = size ∧ off + v.cells.length ≤ cells.length then afill place (splice cells off v.cells) rest else none
theorem foldl_putAll : ∀ (vs : List Value) (k off : Nat) (c : Array Value), (vs.zipIdx k).foldl (fun cs (x : Value × Nat) => cs.setIfInBounds (off + x.2) x.1) c = putAll c (off + k) vs
  | [], _, _, _ => rfl
  | v :: r, k, off, c => by
    simp only [List.zipIdx_cons, List.foldl_cons, putAll]
    rw [foldl_putAll r (k + 1) off]; rfl
theorem splice_rel {e : List AV} {xs : List Value} {c : Nat} {cs : List AV} {ys : List Value} (he : VRels ρ e xs) (hc : VRels ρ cs ys) (h : c + cs.length ≤ e.length) :
    VRels ρ (splice e c cs) (putAll xs.toArray c ys).toList := by
  have l1 := he.length
  have l2 := hc.length
  refine VRels.of_get (by rw [splice_length h]; simp [putAll_size, l1]) ?_
  intro j v x hv hx
  by_cases hin : c ≤ j ∧ j < c + cs.length
  · rw [splice_in h hin.1 hin.2] at hv
    obtain ⟨x', hx', hr⟩ := hc.get _ _ hv
    have := putAll_in ys xs.toArray c (j - c) x' hx' (by simp; omega)
    rw [show c + (j - c) = j by omega] at this
    simp only [Array.getElem?_toList] at hx
    obtain rfl : x = x' := Option.some.inj (hx.symm.trans this)
    exact hr
  · rw [splice_out h (by omega)] at hv
    obtain ⟨x', hx', hr⟩ := he.get _ _ hv
    have := putAll_out ys xs.toArray c j (by omega)
    simp only [Array.getElem?_toList] at hx
    rw [this] at hx
    simp only [List.getElem?_toArray] at hx
    obtain rfl : x = x' := Option.some.inj (hx.symm.trans hx')
    exact hr
def PRel (ρ : Env) : List (Nat × AV) → List (Nat × Value) → Prop
  | [], [] => True
  | (i, v) :: r, (j, x) :: s => i = j ∧ VRel ρ v x ∧ PRel ρ r s
  | _, _ => False
theorem afill_sound (place : Nat → Option (Nat × Nat)) : ∀ (parts : List (Nat × AV)) (parts' : List (Nat × Value)) (cells cells' : List AV) (xs : List Value), PRel ρ parts parts' → VRels ρ cells xs →
    afill place cells parts = some cells' → ∃ ys : List Value, Instr.fill place xs.toArray parts' = some ys.toArray ∧ VRels ρ cells' ys
  | [], [], cells, cells', xs, _, hc, h => by
    simp [afill] at h; subst h; exact ⟨xs, rfl, hc⟩
  | [], _ :: _, _, _, _, hp, _, _ => hp.elim
  | _ :: _, [], _, _, _, hp, _, _ => hp.elim
  | (i, v) :: r, (j, x) :: s, cells, cells', xs, hp, hc, h => by
    obtain ⟨rfl, hv, hp⟩ := hp
    unfold afill at h
    unfold Instr.fill
    cases hpl : place i with
    | none => rw [hpl] at h; cases h
    | some os =>
      obtain ⟨off, size⟩ := os
      rw [hpl] at h
      simp only at h
      split at h
      · rename_i hcond
        have hvc := hv.cells
        have l1 := hvc.length
        have l2 := hc.length
        have hsz : x.cells.size = v.cells.length := by rw [l1]; simp
        have hs := splice_rel hc hvc (c := off) hcond.2
        obtain ⟨ys, h1, h2⟩ := afill_sound place r s _ cells' _ hp hs h
        refine ⟨ys, ?_, h2⟩
        simp only
        rw [if_neg (by simp [hsz, hcond.1]; have := hcond.2; omega)]
        have := foldl_putAll x.cells.toList 0 off xs.toArray
        rw [Nat.add_zero] at this
        rw [← Array.foldl_toList, Array.toList_zipIdx, this]
        simpa using h1
      · cases h
def aplaces (P : Program) : List Field → Option (List (Nat × Nat))
  | [] => some []
  | f :: fs => match tySize P f.type, aplaces P fs with
    | some n, some l => some ((f.offset, n) :: l)
    | _, _ => none
theorem aplaces_sound (w : World) : ∀ (fs : List Field) (l : List (Nat × Nat)), aplaces P fs = some l → (fs.mapM (fun f => (do pure (f.offset, ← sizeOf f.type) : Sem (Nat × Nat)))).run P w = .ok l w
  | [], l, h => by simp [aplaces] at h; subst h; simp [Sem.run_pure]
  | f :: fs, l, h => by
    unfold aplaces at h
    split at h
    · rename_i n l' hn hl
      simp only [Option.some.injEq] at h; subst h
      have ih := aplaces_sound w fs l' hl
      rw [List.mapM_cons]
      simp only [Sem.run_bind, run_sizeOf hn, Result.andThen_ok, Sem.run_pure, ih]
    · cases h
def abuild (P : Program) (t : TypeId) (parts : List (Nat × AV)) : Option AV :=
  match azero P t, P.underlying t with
  | some z, some (.struct fs) => (match aplaces P fs.toList with | some pl => (afill (pl[·]?) z.cells parts).map .agg | none => none)
  | some z, some (.array _ e) => (match tySize P e with | some n => (afill (fun i => some (i * n, n)) z.cells parts).map .agg | none => none)
  | _, _ => none
theorem abuild_sound {t : TypeId} {parts : List (Nat × AV)} {parts' : List (Nat × Value)} {v : AV} (h : abuild P t parts = some v) (hp : PRel ρ parts parts') (w : World) :
    ∃ x, (Instr.build t parts'.toArray).run P w = .ok x w ∧ VRel ρ v x := by
  unfold abuild at h
  split at h
  · rename_i z fs hz hu
    obtain ⟨zx, hzx, hzv⟩ := azero_sound hz w
    split at h
    · rename_i pl hpl
      simp only [Option.map_eq_some_iff] at h
      obtain ⟨cs, hcs, rfl⟩ := h
      obtain ⟨ys, h1, h2⟩ := afill_sound _ parts parts' z.cells cs zx.cells.toList hp (hzv ρ).cells hcs
      refine ⟨.agg ys.toArray, ?_, .agg _ _ h2⟩
      have hm := aplaces_sound (P := P) w fs.toList pl hpl
      have hm' : (fs.mapM (fun f => (do pure (f.offset, ← sizeOf f.type) : Sem (Nat × Nat)))).run P w = .ok pl.toArray w := by
        rw [Array.mapM_eq_mapM_toList]; simp only [Sem.run_map, hm, Result.andThen_ok]
      simp only [Instr.build, Sem.run_bind, hzx, Result.andThen_ok, run_underlying hu, hm']
      have e : (fun x : Nat => (pl.toArray)[x]?) = (fun x => pl[x]?) := by funext x; simp
      simp only [e]
      have e2 : zx.cells.toList.toArray = zx.cells := by simp
      rw [e2] at h1
      simp [h1]
    · cases h
  · rename_i z n e hz hu
    obtain ⟨zx, hzx, hzv⟩ := azero_sound hz w
    split at h
    · rename_i sz hsz
      simp only [Option.map_eq_some_iff] at h
      obtain ⟨cs, hcs, rfl⟩ := h
      obtain ⟨ys, h1, h2⟩ := afill_sound _ parts parts' z.cells cs zx.cells.toList hp (hzv ρ).cells hcs
      refine ⟨.agg ys.toArray, ?_, .agg _ _ h2⟩
      have e2 : zx.cells.toList.toArray = zx.cells := by simp
      rw [e2] at h1
      simp [Instr.build, hzx, run_underlying hu, run_sizeOf hsz, h1]
    · cases h
  · cases h
def asetEls (esz : Nat) : List (List AV) → List (Nat × AV) → Option (List (List AV))
  | els, [] => some els
  | els, (i, v) :: rest => if v.cells.length = esz ∧ i < els.length ∧ v.cells.all AV.one = true then asetEls esz (els.set i v.cells) rest else none
def abuildSlice (P : Program) (H : AHeap) (t : TypeId) (len : Nat) (parts : List (Nat × AV)) : Option (AV × AHeap) :=
  match P.underlying t with
  | some (.slice e) =>
    (match tySize P e, azero P e with
    | some sz, some z =>
      if len * sz ≤ 16777216 ∧ z.cells.length = sz ∧ z.cells.all AV.one = true then
        (match asetEls sz (List.replicate len z.cells) parts with
        | some els => some (.sl H.next 0 len sz (some len), H.push (.row false sz els))
        | none => none)
      else none
    | _, _ => none)
  | _ => none
theorem flatten_length {esz : Nat} : ∀ {els : List (List AV)}, (∀ e ∈ els, e.length = esz) → els.flatten.length = els.length * esz
  | [], _ => by simp
  | d :: els, h => by
    have := flatten_length (els := els) (fun e he => h e (List.mem_cons_of_mem _ he))
    simp only [List.flatten_cons, List.length_append, this, h d (by simp), List.length_cons, Nat.succ_mul]; omega
theorem flatten_set {esz : Nat} : ∀ {els : List (List AV)} (i : Nat) (c : List AV), (∀ e ∈ els, e.length = esz) → c.length = esz → i < els.length → (els.set i c).flatten = splice els.flatten (i * esz) c
  | [], _, _, _, _, h => by simp at h
  | d :: els, 0, c, hl, hc, _ => by
    have hd := hl d (by simp)
    simp [splice, hc, ← hd]
  | d :: els, i + 1, c, hl, hc, h => by
    have hd := hl d (by simp)
    have ih := flatten_set (els := els) i c (fun e he => hl e (List.mem_cons_of_mem _ he)) hc (by simpa using h)
    simp only [List.set_cons_succ, List.flatten_cons, ih]
    unfold splice
    rw [Nat.succ_mul]
    have e1 : List.take (i * esz + esz) (d ++ els.flatten) = d ++ els.flatten.take (i * esz) := by
      rw [List.take_append, List.take_of_length_le (by omega)]; congr 2; omega
    have e2 : List.drop (i * esz + esz + c.length) (d ++ els.flatten) = els.flatten.drop (i * esz + c.length) := by
      rw [List.drop_append, List.drop_eq_nil_of_le (by omega), List.nil_append]; congr 1; omega
    rw [e1, e2]; simp
theorem asetEls_sound (esz : Nat) : ∀ (parts : List (Nat × AV)) (parts' : List (Nat × Value)) (els els' : List (List AV)) (xs : List Value), PRel ρ parts parts' → (∀ e ∈ els, e.length = esz) → (∀ e ∈ els, ∀ v ∈ e, v.one = true) →
    VRels ρ els.flatten xs → asetEls esz els parts = some els' →
      (∃ ys : List Value, Instr.fill (fun i => some (i * esz, esz)) xs.toArray parts' = some ys.toArray ∧ VRels ρ els'.flatten ys) ∧ (∀ e ∈ els', e.length = esz) ∧ (∀ e ∈ els', ∀ v ∈ e, v.one = true) ∧ els'.length = els.length
  | [], [], els, els', xs, _, h1, h2, hv, h => by
    simp [asetEls] at h; subst h; exact ⟨⟨xs, rfl, hv⟩, h1, h2, rfl⟩
  | [], _ :: _, _, _, _, hp, _, _, _, _ => hp.elim
  | _ :: _, [], _, _, _, hp, _, _, _, _ => hp.elim
  | (i, v) :: r, (j, x) :: s, els, els', xs, hp, h1, h2, hv, h => by
    obtain ⟨rfl, hvx, hp⟩ := hp
    unfold asetEls at h
    split at h
    · rename_i hcond
      obtain ⟨hc, hi, hone⟩ := hcond
      have hone' : ∀ u ∈ v.cells, u.one = true := by simpa using hone
      have hvc := hvx.cells
      have l1 := hvc.length
      have l2 := hv.length
      have hfl := flatten_length h1
      have hle : i * esz + v.cells.length ≤ els.flatten.length := by rw [hfl, hc]; exact lt_block hi
      have hs := splice_rel hv hvc (c := i * esz) hle
      rw [← flatten_set i v.cells h1 hc hi] at hs
      have g1 : ∀ e ∈ els.set i v.cells, e.length = esz := fun e he => by
        rcases List.mem_or_eq_of_mem_set he with h | rfl
        · exact h1 e h
        · exact hc
      have g2 : ∀ e ∈ els.set i v.cells, ∀ u ∈ e, u.one = true := fun e he => by
        rcases List.mem_or_eq_of_mem_set he with h | rfl
        · exact h2 e h
        · exact hone'
      obtain ⟨⟨ys, e1, e2⟩, e3, e4, e5⟩ := asetEls_sound esz r s _ els' _ hp g1 g2 hs h
      refine ⟨⟨ys, ?_, e2⟩, e3, e4, by simpa using e5⟩
      unfold Instr.fill
      have hsz : x.cells.size = v.cells.length := by rw [l1]; simp
      simp only
      rw [if_neg (by simp [hsz, hc]; omega)]
      have := foldl_putAll x.cells.toList 0 (i * esz) xs.toArray
      rw [Nat.add_zero] at this
      rw [← Array.foldl_toList, Array.toList_zipIdx, this]
      simpa using e1
    · cases h
theorem zeros_eq (z : Array Value) (n : Nat) (hz : 0 < z.size) : ((Array.range (n * z.size)).map (z[· % z.size]!)) = ((List.replicate n z.toList).flatten).toArray := by
  apply Array.ext'
  apply List.ext_getElem?
  intro k
  by_cases hk : k < n * z.size
  · have h1 : (Array.map (fun x => z[x % z.size]!) (Array.range (n * z.size))).toList[k]? = some z[k % z.size]! := by
      simp [hk]
    rw [h1]
    symm
    simp only
    have hdiv : k / z.size < n := by rw [Nat.div_lt_iff_lt_mul hz]; exact hk
    have hmod : k % z.size < z.size := Nat.mod_lt _ hz
    have key : ∀ (n k : Nat), k < n * z.size → (List.replicate n z.toList).flatten[k]? = z.toList[k % z.size]? := by
      intro n
      induction n with
      | zero => intro k h; omega
      | succ n ih =>
        intro k h
        rw [List.replicate_succ, List.flatten_cons]
        by_cases hk : k < z.size
        · rw [List.getElem?_append_left (by simpa using hk), Nat.mod_eq_of_lt hk]
        · rw [List.getElem?_append_right (by simpa using hk)]
          have := ih (k - z.size) (by rw [Nat.succ_mul] at h; omega)
          simp only [Array.length_toList]
          rw [this, ← Nat.mod_eq_sub_mod (by omega)]
    rw [key n k hk]
    simp [hmod]
  · rw [List.getElem?_eq_none (by simp; omega), List.getElem?_eq_none (by simp; omega)]
theorem VRels.flatten_replicate {zs : List AV} {xs : List Value} (h : VRels ρ zs xs) : ∀ n, VRels ρ (List.replicate n zs).flatten (List.replicate n xs).flatten
  | 0 => by simpa using VRels.nil
  | n + 1 => by simpa [List.replicate_succ] using h.append (VRels.flatten_replicate h n)
theorem abuildSlice_sound (hR : Rel ρ H w) (hf : ρ H.next = none) {t : TypeId} {len : Nat} {parts : List (Nat × AV)} {parts' : List (Nat × Value)} {a : AV} {H' : AHeap} (h : abuildSlice P H t len parts = some (a, H')) (hp : PRel ρ parts parts') :
    ∃ r w' ρ', (Instr.buildSlice t len parts'.toArray).run P w = .ok r w' ∧ VRel ρ' a r ∧ Step ρ H w ρ' H' w' := by
  unfold abuildSlice at h
  split at h
  · rename_i e hu
    split at h
    · rename_i sz z hsz hz
      split at h
      · rename_i hcond
        obtain ⟨hle, hzl, hone⟩ := hcond
        split at h
        · rename_i els hels
          simp only [Option.some.injEq, Prod.mk.injEq] at h
          obtain ⟨rfl, rfl⟩ := h
          obtain ⟨zx, hzx, hzv⟩ := azero_sound hz w
          have hone' : ∀ u ∈ z.cells, u.one = true := by simpa using hone
          have hzc := (hzv ρ).cells
          have hzs : zx.cells.size = sz := by have := hzc.length; rw [← hzl, this]; simp
          have hrep := VRels.flatten_replicate hzc len
          obtain ⟨⟨ys, h1, h2⟩, h3, h4, h5⟩ := asetEls_sound sz parts parts' _ els _ hp (fun e he => by rw [List.eq_of_mem_replicate he]; exact hzl)
            (fun e he => by rw [List.eq_of_mem_replicate he]; exact hone') hrep hels
          have hs := push_row_sound hR hf h3 h4 h2 (tail := []) e
          have hyl : ys.length = len * sz := by
            rw [← h2.length, flatten_length h3, h5]; simp
          refine ⟨.slice (some ⟨w.heap.size, 0, none⟩) len len, _, _, ?_, ?_, hs⟩
          · simp only [Instr.buildSlice, Sem.run_bind, run_underlying hu, Result.andThen_ok, run_sizeOf hsz]
            rw [if_neg (by show ¬ (len * sz > 2 ^ 24); omega)]
            by_cases h0 : len * sz = 0
            · simp only [h0, if_true, Sem.run_bind, Sem.run_pure, Result.andThen_ok]
              have hnil : (List.replicate len zx.cells.toList).flatten = [] := by
                have : ((List.replicate len zx.cells.toList).flatten).length = 0 := by simp [hzs, h0]
                exact List.eq_nil_of_length_eq_zero this
              rw [hnil] at h1
              have er : Array.range 0 = #[] := rfl
              simp [h1, newRow, er]
            · simp only [h0, if_false, Sem.run_bind, hzx, Result.andThen_ok, Sem.run_pure]
              have hpos : 0 < zx.cells.size := by
                rcases Nat.eq_zero_or_pos zx.cells.size with h | h
                · rw [hzs] at h; simp [h] at h0
                · exact h
              have := zeros_eq zx.cells len hpos
              rw [hzs] at this
              simp only [hzs, this]
              simp [h1, newRow]
          · refine VRel.sl (ρ := ρ.upd H.next _) H.next 0 len (some len) ⟨w.heap.size, 0, sz, ys.length + 0⟩ _ len (Env.upd_same _ _ _) (Nat.le_refl _) (by simp) (fun _ => ⟨by simp, ?_⟩)
            simp [hyl]
        · cases h
      · cases h
    · cases h
  · cases h
end
end Go.Ev


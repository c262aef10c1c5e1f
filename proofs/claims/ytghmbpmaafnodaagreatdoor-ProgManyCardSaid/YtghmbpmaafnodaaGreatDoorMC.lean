/-
  Texts of one proof, laid together: Fv12 Fv13 Fv14 Fv15 Fv16.
-/
import Derived.Test.YtghmbpmaafnodaaGreatDoorMB
set_option linter.unusedVariables false
set_option linter.unusedSimpArgs false
namespace Go.Ev
section
variable {P : Program} {ρ : Env} {H : AHeap} {w : World} {R : Regs} {a : Act}
def BlkOk (ρ : Env) (w : World) (loc : Loc) : ABlk → Prop
  | .row ro esz els => RowOk ρ w loc ro esz els
  | .map es => MapOk ρ w loc es
  | .dead => True
theorem BlkOk.frame {ρ' : Env} {w' : World} {loc : Loc} {b : ABlk} (h : BlkOk ρ w loc b) (hle : ρ.le ρ') (hb : w'.heap[loc.block]? = w.heap[loc.block]?) : BlkOk ρ' w' loc b := by
  cases b with
  | row ro esz els =>
    obtain ⟨p1, c, t, fz, p2, p3, p4⟩ := h
    refine ⟨p1, c, t, fz, by rw [hb]; exact p2, p3, fun i e he => ?_⟩
    obtain ⟨q1, q2⟩ := p4 i e he
    refine ⟨q1, fun j v hv => ?_⟩
    obtain ⟨r1, x, r2, r3⟩ := q2 j v hv
    exact ⟨r1, x, r2, r3.mono hle⟩
  | map es =>
    obtain ⟨ents, clock, p1, p2, p3⟩ := h
    exact ⟨ents, clock, by rw [hb]; exact p1, p2.mono hle, p3.mono hle⟩
  | dead => trivial
theorem BlkOk.lt {loc : Loc} {b : ABlk} (h : BlkOk ρ w loc b) (hd : b.isRw = true) : loc.block < w.heap.size := by
  cases b with
  | row ro esz els => obtain ⟨_, c, t, fz, p2, _⟩ := h; exact heap_some_lt p2
  | map es => obtain ⟨ents, clock, p1, _⟩ := h; exact heap_some_lt p1
  | dead => cases hd
theorem Rel.grow {ρ' : Env} {w' : World} (h : Rel ρ H w) (hle : ρ.le ρ') (hb : ∀ b, b < w.heap.size → w'.heap[b]? = w.heap[b]?) : Rel ρ' H w' := by
  refine ⟨fun l ro esz els e => ?_, fun l es e => ?_, fun l l' loc loc' h1 h2 hne e1 e2 => ?_⟩
  · obtain ⟨loc, p1, p2⟩ := h.row l ro esz els e
    refine ⟨loc, hle _ _ p1, ?_⟩
    have := p2
    obtain ⟨_, c, t, fz, p3, _⟩ := this
    exact BlkOk.frame (b := .row ro esz els) p2 hle (hb _ (heap_some_lt p3))
  · obtain ⟨loc, p1, p2⟩ := h.map l es e
    refine ⟨loc, hle _ _ p1, ?_⟩
    have := p2
    obtain ⟨_, _, p3, _⟩ := this
    exact BlkOk.frame (b := .map es) p2 hle (hb _ (heap_some_lt p3))
  · have hloc : ∀ k loc, H.live k → ρ' k = some loc → ρ k = some loc := fun k loc hk e => by
      rcases hk with ⟨ro, esz, els, hk⟩ | ⟨es, hk⟩
      · obtain ⟨loc', p1, _⟩ := h.row _ _ _ _ hk
        rw [hle _ _ p1] at e; rw [p1]; exact e
      · obtain ⟨loc', p1, _⟩ := h.map _ _ hk
        rw [hle _ _ p1] at e; rw [p1]; exact e
    exact h.apart l l' loc loc' h1 h2 hne (hloc _ _ h1.live e1) (hloc _ _ h2 e2)
theorem Rel.lives (h : Rel ρ H w) {l : Nat} (hl : H.live l) : ∃ loc, ρ l = some loc ∧ loc.block < w.heap.size := by
  rcases hl with ⟨ro, esz, els, hk⟩ | ⟨es, hk⟩
  · obtain ⟨loc, p1, _, c, t, fz, p3, _⟩ := h.row _ _ _ _ hk
    exact ⟨loc, p1, heap_some_lt p3⟩
  · obtain ⟨loc, p1, _, _, p3, _⟩ := h.map _ _ hk
    exact ⟨loc, p1, heap_some_lt p3⟩
theorem anew_sound {o : Oper} {l : Nat} {v : AV} {b : ABlk} (h : anew P o.op R l = some (v, b)) (hr : RRel ρ R a) (hf : ρ l = none) (w : World) :
    ∃ x w' ρ' loc, (execOp a.eval o).run P w = .ok (.value x) w' ∧ VRel ρ' v x ∧ ρ.le ρ' ∧ (∀ k, k ≠ l → ρ' k = ρ k) ∧ ρ' l = some loc ∧ w.heap.size ≤ loc.block ∧ b.isRw = true ∧ BlkOk ρ' w' loc b ∧
      w'.os = w.os ∧ w'.tape = w.tape ∧ w'.output = w.output ∧ w.heap.size ≤ w'.heap.size ∧ ∀ k, k < w.heap.size → w'.heap[k]? = w.heap[k]? := by
  unfold anew newOf at h
  split at h
  · rename_i v' H' hH
    split at h
    · rename_i hn
      split at h
      · rename_i b' hb
        split at h
        · rename_i hrw
          simp only [Option.some.injEq, Prod.mk.injEq] at h
          obtain ⟨rfl, rfl⟩ := h
          obtain ⟨x, w', ρ', e1, e2, e3⟩ := anewH_sound (Rel.empty ρ w l) hf hH hr
          have hno : ∀ k, ¬ Owned ρ ⟨.leaf, l⟩ k := by
            rintro k ⟨l', loc, h1, _, _⟩
            have hget : (⟨.leaf, l⟩ : AHeap).get l' = none := by unfold AHeap.get; split <;> first | exact Tr.get_leaf _ | rfl
            rcases h1 with ⟨_, _, h⟩ | ⟨_, h⟩ <;> (rw [hget] at h; cases h)
          have hlive : H'.rw l := by
            cases b' with
            | row ro esz els => cases ro with
              | true => cases hrw
              | false => exact .inl ⟨_, _, hb⟩
            | map es => exact .inr ⟨_, hb⟩
            | dead => cases hrw
          have hblk : ∃ loc, ρ' l = some loc ∧ BlkOk ρ' w' loc b' := by
            cases b' with
            | row ro esz els => exact e3.rel.row _ _ _ _ hb
            | map es => exact e3.rel.map _ _ hb
            | dead => cases hrw
          obtain ⟨loc, p1, p2⟩ := hblk
          refine ⟨x, w', ρ', loc, e1, e2, e3.le, fun k hk => e3.keep k ?_, p1, ?_, hrw, p2, e3.os, e3.tape, e3.output, e3.size, fun k hk => e3.frame k hk (hno k)⟩
          · rw [hn]; show k < l ∨ _; omega
          · exact (e3.own loc.block ⟨l, loc, hlive, p1, rfl⟩).resolve_left (hno _)
        · cases h
      · cases h
    · cases h
  · cases h
structure Mid (ρ0 : Env) (H0 : AHeap) (w0 : World) (N : Nat) (pend : Nat → Option ABlk) (ρ : Env) (H : AHeap) (w : World) : Prop where
  rel0 : Rel ρ0 H0 w0
  le : ρ0.le ρ
  next : H0.next ≤ H.next
  keep : ∀ l, l < H0.next ∨ N ≤ l → ρ l = ρ0 l
  rel : Rel ρ H w
  os : w.os = w0.os
  tape : w.tape = w0.tape
  output : w.output = w0.output
  size : w0.heap.size ≤ w.heap.size
  frame : ∀ b, b < w0.heap.size → ¬ Owned ρ0 H0 b → w.heap[b]? = w0.heap[b]?
  own : ∀ b, Owned ρ H b → Owned ρ0 H0 b ∨ w0.heap.size ≤ b
  ro : ∀ l esz els, H.get l = some (.row true esz els) → H0.get l = some (.row true esz els)
  fresh : ∀ l, H.next ≤ l → l < N → pend l = none → ρ l = none
  pends : ∀ l b, pend l = some b → H.next ≤ l ∧ l < N ∧ b.isRw = true ∧ ∃ loc, ρ l = some loc ∧ BlkOk ρ w loc b ∧ w0.heap.size ≤ loc.block ∧ ¬ Owned ρ H loc.block
  sep : ∀ l l' b b' loc loc', pend l = some b → pend l' = some b' → l ≠ l' → ρ l = some loc → ρ l' = some loc' → loc.block ≠ loc'.block
variable {ρ0 : Env} {H0 : AHeap} {w0 : World} {N : Nat} {pend : Nat → Option ABlk}
theorem Mid.start (h : Rel ρ0 H0 w0) (hf : Fre ρ0 H0.next N) : Mid ρ0 H0 w0 N (fun _ => none) ρ0 H0 w0 :=
  ⟨h, ρ0.le_refl, Nat.le_refl _, fun _ _ => rfl, h, rfl, rfl, rfl, Nat.le_refl _, fun _ _ _ => rfl, fun _ h => .inl h, fun _ _ _ h => h, fun l a b _ => hf l a b, fun _ _ h => by simp at h, fun _ _ _ _ _ _ h => by simp at h⟩
theorem Mid.done (m : Mid ρ0 H0 w0 N pend ρ H w) (hN : H.next = N) : Step ρ0 H0 w0 ρ H w :=
  ⟨m.le, m.next, fun l hl => m.keep l (by rw [← hN]; exact hl), m.rel, m.os, m.tape, m.output, m.size, m.frame, m.own, m.ro⟩
theorem Mid.step {ρ' : Env} {H' : AHeap} {w' : World} (m : Mid ρ0 H0 w0 N pend ρ H w) (s : Step ρ H w ρ' H' w') (hN : H'.next ≤ N) (hp : ∀ l b, pend l = some b → H'.next ≤ l) : Mid ρ0 H0 w0 N pend ρ' H' w' where
  rel0 := m.rel0
  le := Env.le_trans m.le s.le
  next := Nat.le_trans m.next s.next
  keep := fun l hl => (s.keep l (hl.imp (fun h => Nat.lt_of_lt_of_le h m.next) (fun h => Nat.le_trans hN h))).trans (m.keep l hl)
  rel := s.rel
  os := s.os.trans m.os
  tape := s.tape.trans m.tape
  output := s.output.trans m.output
  size := Nat.le_trans m.size s.size
  frame := fun b hb hn => by
    rw [s.frame b (Nat.lt_of_lt_of_le hb m.size) (fun ho => (m.own b ho).elim hn (fun hle => by omega)), m.frame b hb hn]
  own := fun b hb => (s.own b hb).elim (fun ho => m.own b ho) (fun hle => .inr (Nat.le_trans m.size hle))
  ro := fun l esz els e => m.ro l esz els (s.ro l esz els e)
  fresh := fun l a b c => by rw [s.keep l (.inr a)]; exact m.fresh l (Nat.le_trans s.next a) b c
  pends := fun l b h => by
    obtain ⟨p1, p2, p3, loc, p4, p5, p6, p7⟩ := m.pends l b h
    have hlt := p5.lt p3
    refine ⟨hp l b h, p2, p3, loc, s.le _ _ p4, p5.frame s.le (s.frame _ hlt p7), p6, fun ho => ?_⟩
    rcases s.own _ ho with h | h
    · exact p7 h
    · omega
  sep := fun l l' b b' loc loc' h h' hne e e' => by
    obtain ⟨_, _, _, loc1, p4, _⟩ := m.pends l b h
    obtain ⟨_, _, _, loc2, q4, _⟩ := m.pends l' b' h'
    have h1 := s.le _ _ p4; rw [e] at h1; cases h1
    have h2 := s.le _ _ q4; rw [e'] at h2; cases h2
    exact m.sep l l' b b' _ _ h h' hne p4 q4
theorem Mid.early {ρ' : Env} {w' : World} {l : Nat} {b : ABlk} {loc : Loc} (m : Mid ρ0 H0 w0 N pend ρ H w) (hl : H.next ≤ l) (hN : l < N) (hp : pend l = none)
    (hle : ρ.le ρ') (hk : ∀ k, k ≠ l → ρ' k = ρ k) (hloc : ρ' l = some loc) (hge : w.heap.size ≤ loc.block) (hrw : b.isRw = true) (hb : BlkOk ρ' w' loc b) (hos : w'.os = w.os) (htape : w'.tape = w.tape) (hout : w'.output = w.output)
    (hsize : w.heap.size ≤ w'.heap.size) (hframe : ∀ k, k < w.heap.size → w'.heap[k]? = w.heap[k]?) : Mid ρ0 H0 w0 N (fun k => if k = l then some b else pend k) ρ' H w' := by
  have hold : ∀ k loc', H.live k → ρ' k = some loc' → ρ k = some loc' := fun k loc' hk e => by
    obtain ⟨loc1, p1, _⟩ := m.rel.lives hk
    have := hle _ _ p1; rw [e] at this; cases this; exact p1
  have howned : ∀ k, Owned ρ' H k → Owned ρ H k := by
    rintro k ⟨l', loc', h1, h2, h3⟩
    exact ⟨l', loc', h1, hold _ _ h1.live h2, h3⟩
  have hownlt : ∀ k, Owned ρ H k → k < w.heap.size := by
    rintro k ⟨l', loc', h1, h2, h3⟩
    obtain ⟨loc1, p1, p2⟩ := m.rel.lives h1.live
    rw [h2] at p1; cases p1; rw [← h3]; exact p2
  refine ⟨m.rel0, Env.le_trans m.le hle, m.next, fun k h => ?_, m.rel.grow hle hframe, hos.trans m.os, htape.trans m.tape, hout.trans m.output, Nat.le_trans m.size hsize, fun k h1 h2 => ?_,
    fun k h => m.own k (howned k h), m.ro, fun k h1 h2 h3 => ?_, fun k b' h => ?_, fun k k' b1 b2 loc1 loc2 h h' hne e e' => ?_⟩
  · rw [hk k (by have := m.next; omega)]; exact m.keep k h
  · rw [hframe k (Nat.lt_of_lt_of_le h1 m.size)]; exact m.frame k h1 h2
  · by_cases hkl : k = l
    · subst hkl; simp at h3
    · simp only [hkl, if_false] at h3
      rw [hk k hkl]; exact m.fresh k h1 h2 h3
  · by_cases hkl : k = l
    · subst hkl
      simp only [if_true, Option.some.injEq] at h; subst h
      exact ⟨hl, hN, hrw, loc, hloc, hb, Nat.le_trans m.size hge, fun ho => by have := hownlt _ (howned _ ho); omega⟩
    · simp only [hkl, if_false] at h
      obtain ⟨p1, p2, p3, loc', p4, p5, p6, p7⟩ := m.pends k b' h
      exact ⟨p1, p2, p3, loc', hle _ _ p4, p5.frame hle (hframe _ (p5.lt p3)), p6, fun ho => p7 (howned _ ho)⟩
  · by_cases hkl : k = l
    · by_cases hkl' : k' = l
      · omega
      · subst hkl
        simp only [hkl', if_false] at h'
        obtain ⟨_, _, p3, loc', p4, p5, _, _⟩ := m.pends k' b2 h'
        have := hle _ _ p4; rw [e'] at this; cases this
        rw [hloc] at e; cases e
        have := p5.lt p3
        omega
    · by_cases hkl' : k' = l
      · subst hkl'
        simp only [hkl, if_false] at h
        obtain ⟨_, _, p3, loc', p4, p5, _, _⟩ := m.pends k b1 h
        have := hle _ _ p4; rw [e] at this; cases this
        rw [hloc] at e'; cases e'
        have := p5.lt p3
        omega
      · simp only [hkl, if_false] at h
        simp only [hkl', if_false] at h'
        obtain ⟨_, _, _, loc3, p4, _⟩ := m.pends k b1 h
        obtain ⟨_, _, _, loc4, q4, _⟩ := m.pends k' b2 h'
        have h1 := hle _ _ p4; rw [e] at h1; cases h1
        have h2 := hle _ _ q4; rw [e'] at h2; cases h2
        exact m.sep k k' b1 b2 _ _ h h' hne p4 q4
theorem Mid.turn {b : ABlk} (m : Mid ρ0 H0 w0 N pend ρ H w) (hp : pend H.next = some b) : Mid ρ0 H0 w0 N (fun k => if k = H.next then none else pend k) ρ (H.push b) w := by
  obtain ⟨_, hN, hrw, loc, p4, p5, p6, p7⟩ := m.pends _ _ hp
  have rw_other : ∀ k, (H.push b).rw k → k ≠ H.next → H.rw k := fun k h hk => by simpa [AHeap.rw, AHeap.get_push_other hk] using h
  have live_other : ∀ k, (H.push b).live k → k ≠ H.next → H.live k := fun k h hk => by simpa [AHeap.live, AHeap.get_push_other hk] using h
  have hno : ∀ k loc', H.live k → ρ k = some loc' → loc'.block ≠ loc.block := by
    intro k loc' hk e heq
    by_cases hr : H.rw k
    · exact p7 ⟨k, loc', hr, e, heq⟩
    · rcases hk with ⟨ro, esz, els, hk⟩ | ⟨es, hk⟩
      · cases ro with
        | false => exact hr (.inl ⟨_, _, hk⟩)
        | true =>
          have h0 := m.ro _ _ _ hk
          obtain ⟨loc0, q1, q2⟩ := m.rel0.lives (.inl ⟨_, _, _, h0⟩)
          have := m.le _ _ q1; rw [e] at this; cases this
          omega
      · exact hr (.inr ⟨_, hk⟩)
  have howned : ∀ k, Owned ρ (H.push b) k → Owned ρ H k ∨ k = loc.block := by
    rintro k ⟨l', loc', h1, h2, h3⟩
    by_cases hl : l' = H.next
    · subst hl; rw [p4] at h2; cases h2; exact .inr h3.symm
    · exact .inl ⟨l', loc', rw_other _ h1 hl, h2, h3⟩
  refine ⟨m.rel0, m.le, by have := m.next; simp; omega, m.keep, ⟨fun l ro esz els h => ?_, fun l es h => ?_, fun l l' loc1 loc2 h h' hne e e' => ?_⟩, m.os, m.tape, m.output, m.size, m.frame,
    fun k h => ?_, fun l esz els h => m.ro l esz els (AHeap.ro_push (ABlk.isRw.ro hrw) l esz els h), fun l h1 h2 h3 => ?_, fun l b' h => ?_, fun l l' b1 b2 loc1 loc2 h h' hne e e' => ?_⟩
  · by_cases hl : l = H.next
    · subst hl
      rw [AHeap.get_push_same] at h
      simp only [Option.some.injEq] at h; subst h
      exact ⟨loc, p4, p5⟩
    · rw [AHeap.get_push_other hl] at h; exact m.rel.row _ _ _ _ h
  · by_cases hl : l = H.next
    · subst hl
      rw [AHeap.get_push_same] at h
      simp only [Option.some.injEq] at h; subst h
      exact ⟨loc, p4, p5⟩
    · rw [AHeap.get_push_other hl] at h; exact m.rel.map _ _ h
  · by_cases hl : l = H.next
    · by_cases hl' : l' = H.next
      · omega
      · subst hl
        rw [p4] at e; cases e
        exact fun heq => hno l' loc2 (live_other _ h' hl') e' heq.symm
    · by_cases hl' : l' = H.next
      · subst hl'
        rw [p4] at e'; cases e'
        exact hno l loc1 (rw_other _ h hl).live e
      · exact m.rel.apart l l' loc1 loc2 (rw_other _ h hl) (live_other _ h' hl') hne e e'
  · rcases howned k h with h | rfl
    · exact m.own k h
    · exact .inr p6
  · simp only [AHeap.next_push] at h1
    have hl : l ≠ H.next := by omega
    simp only [hl, if_false] at h3
    exact m.fresh l (by omega) h2 h3
  · by_cases hl : l = H.next
    · simp [hl] at h
    · simp only [hl, if_false] at h
      obtain ⟨q1, q2, q3, loc', q4, q5, q6, q7⟩ := m.pends l b' h
      refine ⟨by simp; omega, q2, q3, loc', q4, q5, q6, fun ho => ?_⟩
      rcases howned _ ho with h' | h'
      · exact q7 h'
      · exact m.sep l H.next b' b loc' loc h hp hl q4 p4 h'
  · by_cases hl : l = H.next
    · simp [hl] at h
    · by_cases hl' : l' = H.next
      · simp [hl'] at h'
      · simp only [hl, if_false] at h
        simp only [hl', if_false] at h'
        exact m.sep l l' b1 b2 loc1 loc2 h h' hne e e'
end
end Go.Ev

namespace Go.Ev
def acallee (R : Regs) (c : Call) : Option (Nat × List AV) :=
  match c.callee with
  | .value f => match aval R f with
    | some (.func (.func g) first captured) => match avals R c.args.toList with
      | some vs => some (g, first ++ vs ++ captured)
      | none => none
    | _ => none
  | _ => none
inductive K where
  | skip
  | pure (v : AV)
  | read (v : AV)
  | new (v : AV) (b : ABlk)
  | eff (v : AV) (H : AHeap)
def K.val : K → AV
  | .skip => .tuple []
  | .pure v => v
  | .read v => v
  | .new v _ => v
  | .eff v _ => v
def K.heap (H : AHeap) : K → AHeap
  | .new _ b => H.push b
  | .eff _ H' => H'
  | _ => H
def K.isHeap : K → Bool
  | .new _ _ => true
  | .eff _ _ => true
  | _ => false
abbrev CallT := Nat → List AV → AHeap → Option (AV × AHeap)
def kpure : Option AV → Option K
  | some v => some (.pure v)
  | none => none
def kread : Option AV → Option K
  | some v => some (.read v)
  | none => none
def knew : Option (AV × ABlk) → Option K
  | some (v, b) => some (.new v b)
  | none => none
def keff (H : AHeap) : Option (AV × AHeap) → Option K
  | some (v, H') => if H.next ≤ H'.next then some (.eff v H') else none
  | none => none
inductive Cls where
  | pure | read | both | new | write | call
def cls : Op → Cls
  | .load .. => .read
  | .lookup .. => .read
  | .alloc _ => .new
  | .box .. => .new
  | .buildSlice .. => .new
  | .makeMap .. => .new
  | .makeSlice .. => .new
  | .store .. => .write
  | .mapUpdate .. => .write
  | .insert .. => .write
  | .convert .. => .both
  | .call c => match c.callee with
    | .builtin .append => .write
    | .builtin _ => .both
    | _ => .call
  | _ => .pure
def step1 (P : Program) (call : CallT) (o : Op) (R : Regs) (H : AHeap) : Option K :=
  match cls o with
  | .pure => kpure (apure P o R)
  | .read => kread (aread P o R H)
  | .both => match apure P o R with
    | some v => some (.pure v)
    | none => kread (aread P o R H)
  | .new => knew (anew P o R H.next)
  | .write => keff H (awrite P o R H)
  | .call => match o with
    | .call c => match acallee R c with
      | some (g, vs) => keff H (call g vs H)
      | none => none
    | _ => none
def heapOp (o : Op) : Bool := match cls o with
  | .new => true
  | .write => true
  | .call => true
  | _ => false
theorem step1_heap {P : Program} {call : CallT} {o : Op} {R : Regs} {H : AHeap} {k : K} (h : step1 P call o R H = some k) (hk : k.isHeap = true) : heapOp o = true := by
  unfold step1 at h
  unfold heapOp
  split at h
  · unfold kpure at h
    split at h
    · simp only [Option.some.injEq] at h; subst h; cases hk
    · cases h
  · unfold kread at h
    split at h
    · simp only [Option.some.injEq] at h; subst h; cases hk
    · cases h
  · split at h
    · simp only [Option.some.injEq] at h; subst h; cases hk
    · unfold kread at h
      split at h
      · simp only [Option.some.injEq] at h; subst h; cases hk
      · cases h
  · rename_i hc; rw [hc]
  · rename_i hc; rw [hc]
  · rename_i hc; rw [hc]
def KOk (P : Program) (call : CallT) (o : Op) (R : Regs) (H : AHeap) : K → Prop
  | .skip => False
  | .pure v => apure P o R = some v
  | .read v => aread P o R H = some v
  | .new v b => anew P o R H.next = some (v, b)
  | .eff v H' => H.next ≤ H'.next ∧ (awrite P o R H = some (v, H') ∨ ∃ c g vs, o = .call c ∧ acallee R c = some (g, vs) ∧ call g vs H = some (v, H'))
theorem step1_ok {P : Program} {call : CallT} {o : Op} {R : Regs} {H : AHeap} {k : K} (h : step1 P call o R H = some k) : KOk P call o R H k := by
  unfold step1 at h
  split at h
  · unfold kpure at h
    split at h
    · rename_i v hv; simp only [Option.some.injEq] at h; subst h; exact hv
    · cases h
  · unfold kread at h
    split at h
    · rename_i v hv; simp only [Option.some.injEq] at h; subst h; exact hv
    · cases h
  · split at h
    · rename_i v hv; simp only [Option.some.injEq] at h; subst h; exact hv
    · unfold kread at h
      split at h
      · rename_i v hv; simp only [Option.some.injEq] at h; subst h; exact hv
      · cases h
  · unfold knew at h
    split at h
    · rename_i v b hv; simp only [Option.some.injEq] at h; subst h; exact hv
    · cases h
  · unfold keff at h
    split at h
    · rename_i v H' hv
      split at h
      · rename_i hn; simp only [Option.some.injEq] at h; subst h; exact ⟨hn, .inl hv⟩
      · cases h
    · cases h
  · split at h
    · rename_i c _
      split at h
      · rename_i g vs hc
        unfold keff at h
        split at h
        · rename_i v H' hv
          split at h
          · rename_i hn; simp only [Option.some.injEq] at h; subst h; exact ⟨hn, .inr ⟨c, g, vs, rfl, hc, hv⟩⟩
          · cases h
        · cases h
      · cases h
    · cases h
section congr
variable {P : Program} {R R' : Regs}
theorem avals_congr : ∀ {xs : List Operand}, (∀ x ∈ xs, aval R x = aval R' x) → avals R xs = avals R' xs
  | [], _ => rfl
  | x :: xs, h => by
    simp only [avals, h x (by simp), avals_congr (xs := xs) fun y hy => h y (by simp [hy])]
theorem aparts_congr : ∀ {xs : List (Nat × Operand)}, (∀ x ∈ xs.map (·.2), aval R x = aval R' x) → aparts R xs = aparts R' xs
  | [], _ => rfl
  | (i, x) :: xs, h => by
    simp only [aparts, h x (by simp), aparts_congr (xs := xs) fun y hy => h y (by simp at hy ⊢; exact .inr hy)]
theorem avalO_congr {x : Option Operand} (h : ∀ y, x = some y → aval R y = aval R' y) : avalO R x = avalO R' x := by
  cases x with
  | none => rfl
  | some x => simp only [avalO, h x rfl]
theorem apure_congr {o : Op} (h : ∀ x ∈ o.operands, aval R x = aval R' x) : apure P o R = apure P o R' := by
  cases o <;> simp only [apure, Op.operands] at h ⊢ <;> first
    | rfl
    | (simp at h; simp [h]; done)
    | skip
  · rename_i t ps
    rw [aparts_congr fun x hx => h x (by simpa using hx)]
  · rename_i fn f c
    rw [avals_congr fun x hx => h x (by simp at hx ⊢; exact .inl hx), avals_congr (xs := c.toList) fun x hx => h x (by simp at hx ⊢; exact .inr hx)]
  · rename_i t x lo hi mx
    rw [h x (by simp), avalO_congr (x := lo) fun y hy => h y (by simp [hy]), avalO_congr (x := hi) fun y hy => h y (by simp [hy]), avalO_congr (x := mx) fun y hy => h y (by simp [hy])]
  · rename_i c
    cases hc : c.callee with
    | builtin b =>
      simp only [Call.operands, hc] at h ⊢
      rw [avals_congr fun x hx => h x (by simpa using hx)]
    | value f => rfl
    | invoke r m => rfl
theorem aread_congr {o : Op} {H : AHeap} (h : ∀ x ∈ o.operands, aval R x = aval R' x) : aread P o R H = aread P o R' H := by
  cases o <;> simp only [aread, Op.operands] at h ⊢ <;> first
    | rfl
    | (simp at h; simp [h]; done)
    | skip
  · rename_i c
    cases hc : c.callee with
    | builtin b =>
      simp only [Call.operands, hc] at h ⊢
      rw [avals_congr fun x hx => h x (by simpa using hx)]
    | value f => rfl
    | invoke r m => rfl
theorem anewH_congr {o : Op} {H : AHeap} (h : ∀ x ∈ o.operands, aval R x = aval R' x) : anewH P o R H = anewH P o R' H := by
  cases o <;> simp only [anewH, Op.operands] at h ⊢ <;> first
    | rfl
    | (simp at h; simp [h]; done)
    | skip
  · rename_i t n ps
    rw [aparts_congr fun x hx => h x (by simpa using hx)]
  · rename_i t r
    cases r <;> rfl
theorem anew_congr {o : Op} {l : Nat} (h : ∀ x ∈ o.operands, aval R x = aval R' x) : anew P o R l = anew P o R' l := by
  unfold anew; rw [anewH_congr h]
theorem awrite_congr {o : Op} {H : AHeap} (h : ∀ x ∈ o.operands, aval R x = aval R' x) : awrite P o R H = awrite P o R' H := by
  cases o <;> simp only [awrite, Op.operands] at h ⊢ <;> first
    | rfl
    | (simp at h; simp [h]; done)
    | skip
  · rename_i c
    cases hc : c.callee with
    | builtin b =>
      simp only [Call.operands, hc] at h ⊢
      cases ha : c.args.toList with
      | nil => cases b <;> rfl
      | cons s r =>
        cases r with
        | nil => cases b <;> rfl
        | cons x r =>
          cases r with
          | nil =>
            have h1 : s ∈ c.args.toList := by simp [ha]
            have h2 : x ∈ c.args.toList := by simp [ha]
            cases b <;> first
              | rfl
              | (simp only; rw [h s (by simpa using h1), h x (by simpa using h2)])
          | cons y r => cases b <;> rfl
    | value f => rfl
    | invoke r m => rfl
theorem acallee_congr {c : Call} (h : ∀ x ∈ c.operands, aval R x = aval R' x) : acallee R c = acallee R' c := by
  unfold acallee
  cases hc : c.callee with
  | builtin b => rfl
  | value f =>
    simp only [Call.operands, hc] at h ⊢
    rw [h f (by simp), avals_congr fun x hx => h x (by simp at hx ⊢; exact .inr hx)]
  | invoke r m => rfl
theorem KOk.congr {call : CallT} {o : Op} {H : AHeap} {k : K} (h : ∀ x ∈ o.operands, aval R x = aval R' x) (hk : KOk P call o R H k) : KOk P call o R' H k := by
  cases k with
  | skip => exact hk
  | pure v => exact (apure_congr h).symm.trans hk
  | read v => exact (aread_congr h).symm.trans hk
  | new v b => exact (anew_congr h).symm.trans hk
  | eff v H' =>
    obtain ⟨h1, h2 | ⟨c, g, vs, rfl, h2, h3⟩⟩ := hk
    · exact ⟨h1, .inl ((awrite_congr h).symm.trans h2)⟩
    · exact ⟨h1, .inr ⟨c, g, vs, rfl, (acallee_congr h).symm.trans h2, h3⟩⟩
end congr
def Upon (P : Program) (m : Sem Next) (w : World) (next : Value → World → Prop) : Prop :=
  match m.run P w with
  | .ok (.value x) w' => next x w'
  | .ok (.enter f args) w' => Calls P f args w' fun
    | .returned x, w'' => next x w''
    | _, _ => False
  | _ => False
def CallOk1 (E : Env) (P : Program) (g : Nat) (args : List AV) (H : AHeap) (v : AV) (H' : AHeap) : Prop :=
  ∀ (ρ : Env) (w : World) (xs : List Value), Rel ρ H w → Fresh E ρ H.next H'.next → VRels ρ args xs → H.next ≤ H'.next →
    ∀ next : Value → World → Prop, (∀ x w' ρ', VRel ρ' v x → Step ρ H w ρ' H' w' → next x w') → Upon P (callFunc g xs.toArray) w next
def CallOk (E : Env) (P : Program) (call : CallT) : Prop := ∀ g args H v H', call g args H = some (v, H') → CallOk1 E P g args H v H'
section
variable {E : Env} {P : Program} {call : CallT} {ρ : Env} {H H' : AHeap} {w : World} {R : Regs} {a : Act} {o : Oper} {v : AV} {Kn : Act → World → Prop} {Q : Exit → Act → World → Prop}
theorem pure_wp (h : apure P o.op R = some v) (hr : RRel ρ R a) (hk : ∀ x, VRel ρ v x → Kn (a.put o.dst x) w) : o.wp P a w Kn Q := by
  obtain ⟨x, e1, e2⟩ := apure_sound h hr w
  unfold Oper.wp; rw [e1]; exact hk x e2
theorem read_wp (hR : Rel ρ H w) (h : aread P o.op R H = some v) (hr : RRel ρ R a) (hk : ∀ x, VRel ρ v x → Kn (a.put o.dst x) w) : o.wp P a w Kn Q := by
  obtain ⟨x, e1, e2⟩ := aread_sound hR h hr
  unfold Oper.wp; rw [e1]; exact hk x e2
theorem new_wp {l : Nat} {b : ABlk} (h : anew P o.op R l = some (v, b)) (hr : RRel ρ R a) (hf : ρ l = none)
    (hk : ∀ x w' ρ' loc, VRel ρ' v x → ρ.le ρ' → (∀ k, k ≠ l → ρ' k = ρ k) → ρ' l = some loc → w.heap.size ≤ loc.block → b.isRw = true → BlkOk ρ' w' loc b →
      w'.os = w.os → w'.tape = w.tape → w'.output = w.output → w.heap.size ≤ w'.heap.size → (∀ k, k < w.heap.size → w'.heap[k]? = w.heap[k]?) → Kn (a.put o.dst x) w') : o.wp P a w Kn Q := by
  obtain ⟨x, w', ρ', loc, e1, e2, e3, e4, e5, e6, e7, e8, e9, e10, e11, e12, e13⟩ := anew_sound h hr hf w
  unfold Oper.wp; rw [e1]; exact hk x w' ρ' loc e2 e3 e4 e5 e6 e7 e8 e9 e10 e11 e12 e13
theorem eff_wp (hcall : CallOk E P call) (hR : Rel ρ H w) (hf : Fresh E ρ H.next H'.next) (h : KOk P call o.op R H (.eff v H')) (hr : RRel ρ R a)
    (hk : ∀ x w' ρ', VRel ρ' v x → Step ρ H w ρ' H' w' → Kn (a.put o.dst x) w') : o.wp P a w Kn Q := by
  obtain ⟨hn, h1 | ⟨c, g, vs, hc, h2, h3⟩⟩ := h
  · obtain ⟨n, x, w', ρ', e1, e2, e3, e4⟩ := awrite_sound hR h1 (hf.new _ (Nat.le_refl _)) hr
    unfold Oper.wp; rw [e1]
    unfold Done at e2
    split at e2
    · subst e2; exact hk _ w' ρ' e3 e4
    · subst e2; exact hk _ w' ρ' e3 e4
    · exact e2.elim
  · unfold acallee at h2
    split at h2
    · rename_i f hcal
      split at h2
      · rename_i g' first captured hf1
        split at h2
        · rename_i vs' hvs
          simp only [Option.some.injEq, Prod.mk.injEq] at h2
          obtain ⟨rfl, rfl⟩ := h2
          have h4 := aval_sound hr hf1
          have h5 := avals_sound hr hvs
          generalize he : a.eval f = z at h4
          cases h4 with | func _ _ _ f' c' q1 q2 =>
          have hup := hcall _ _ _ _ _ h3 ρ w _ hR hf ((q1.append h5).append q2) hn (fun x w' => Kn (a.put o.dst x) w') (fun x w' ρ' => hk x w' ρ')
          have hrun : (execOp a.eval o).run P w = (callFunc g' ((f' ++ c.args.toList.map a.eval ++ c').toArray)).run P w := by
            unfold execOp; rw [hc]
            simp only [resolve, hcal, he, Deferred.ofValue, pure_bind, invoke]
            congr 2
            rw [map_toArray a.eval]; simp
          unfold Oper.wp; rw [hrun]
          unfold Upon at hup
          split at hup
          · rename_i e; rw [e]; exact hup
          · rename_i e; rw [e]
            refine Calls.mono hup fun en w'' hh => ?_
            cases en <;> first | exact hh | exact hh.elim
          · exact hup.elim
        · cases h2
      · cases h2
    · cases h2
end
end Go.Ev

namespace Go.Ev
def edgeMask (acc : List Nat) : List Edge → Nat
  | [] => 0
  | e :: es => if Region.binds .any e then 2 ^ e.on ||| (acc[e.on]?.getD 0 ||| edgeMask acc es) else edgeMask acc es
def masksGo : List Oper → List Nat → List Nat
  | [], acc => acc
  | o :: os, acc => masksGo os (acc ++ [edgeMask acc o.after.toList])
def masks (ops : Array Oper) : List Nat := masksGo ops.toList []
def bfOf (ms : List Nat) (j i : Nat) : Bool := (ms[i]?.getD 0).testBit j
theorem masksGo_spec : ∀ (os pre : List Oper) (acc : List Nat), acc.length = pre.length → (∀ i o, pre[i]? = some o → acc[i]? = some (edgeMask (acc.take i) o.after.toList)) →
    ∀ i o, (pre ++ os)[i]? = some o → (masksGo os acc)[i]? = some (edgeMask ((masksGo os acc).take i) o.after.toList)
  | [], pre, acc, hl, h, i, o, ho => by simpa [masksGo] using h i o (by simpa using ho)
  | p :: os, pre, acc, hl, h, i, o, ho => by
    unfold masksGo
    refine masksGo_spec os (pre ++ [p]) _ (by simp [hl]) (fun j q hj => ?_) i o (by simpa using ho)
    rcases Nat.lt_or_ge j pre.length with hlt | hge
    · rw [List.getElem?_append_left hlt] at hj
      rw [List.getElem?_append_left (by omega), h j q hj, List.take_append_of_le_length (by omega)]
    · rw [List.getElem?_append_right hge] at hj
      have : j = pre.length := by
        have := (List.getElem?_eq_some_iff.1 hj).1
        simp at this; omega
      subst this
      simp at hj; subst hj
      rw [List.getElem?_append_right (by omega), ← hl]
      simp
theorem masks_spec {ops : Array Oper} {i : Nat} {o : Oper} (h : ops[i]? = some o) : (masks ops)[i]? = some (edgeMask ((masks ops).take i) o.after.toList) :=
  masksGo_spec ops.toList [] [] rfl (by simp) i o (by simpa using h)
theorem edgeMask_edge {acc : List Nat} {e : Edge} : ∀ {es : List Edge}, e ∈ es → Region.binds .any e = true → (edgeMask acc es).testBit e.on = true
  | [], h, _ => by simp at h
  | d :: es, h, hb => by
    unfold edgeMask
    rcases List.mem_cons.1 h with rfl | h
    · rw [if_pos hb]; simp [Nat.testBit_two_pow_self]
    · split
      · simp [edgeMask_edge h hb]
      · exact edgeMask_edge h hb
theorem edgeMask_bit {acc : List Nat} {j : Nat} : ∀ {es : List Edge}, (edgeMask acc es).testBit j = true → ∃ e ∈ es, Region.binds .any e = true ∧ (j = e.on ∨ (acc[e.on]?.getD 0).testBit j = true)
  | [], h => by simp [edgeMask] at h
  | d :: es, h => by
    unfold edgeMask at h
    split at h
    · rename_i hb
      simp only [Nat.testBit_or, Bool.or_eq_true] at h
      rcases h with h | h | h
      · refine ⟨d, by simp, hb, .inl ?_⟩
        rw [Nat.testBit_two_pow] at h
        simpa using (of_decide_eq_true h).symm
      · exact ⟨d, by simp, hb, .inr h⟩
      · obtain ⟨e, h1, h2, h3⟩ := edgeMask_bit h
        exact ⟨e, by simp [h1], h2, h3⟩
    · obtain ⟨e, h1, h2, h3⟩ := edgeMask_bit h
      exact ⟨e, by simp [h1], h2, h3⟩
def Waits (L : Nat → Bool) (o : Oper) : Prop := ∀ e ∈ o.after, Region.binds .any e = true → L e.on = true
def Closed (ops : Array Oper) (L : Nat → Bool) : Prop := ∀ i o, ops[i]? = some o → L i = true → Waits L o
theorem bf_listed {ops : Array Oper} {L : Nat → Bool} (hc : Closed ops L) : ∀ (i : Nat) (o : Oper), ops[i]? = some o → Waits L o → ∀ j, bfOf (masks ops) j i = true → L j = true := by
  intro i
  induction i using Nat.strongRecOn with
  | _ i ih =>
    intro o ho hw j hj
    unfold bfOf at hj
    rw [masks_spec ho] at hj
    simp only [Option.getD_some] at hj
    obtain ⟨e, h1, h2, h3⟩ := edgeMask_bit hj
    have hL := hw e (by simpa using h1) h2
    rcases h3 with rfl | h3
    · exact hL
    · rcases Nat.lt_or_ge e.on i with hlt | hge
      · rw [List.getElem?_take_of_lt hlt] at h3
        cases ho' : ops[e.on]? with
        | none =>
          cases hm : (masks ops)[e.on]? with
          | none => rw [hm] at h3; simp at h3
          | some m =>
            exfalso
            have hlen : ∀ (os : List Oper) (acc : List Nat), (masksGo os acc).length = acc.length + os.length := by
              intro os
              induction os with
              | nil => intro acc; simp [masksGo]
              | cons o os ih => intro acc; simp [masksGo, ih]; omega
            have h4 := (List.getElem?_eq_some_iff.1 hm).1
            have h5 : (masks ops).length = ops.size := by unfold masks; rw [hlen]; simp
            have h6 : ops.size ≤ e.on := by simpa using ho'
            omega
        | some o' => exact ih e.on hlt o' ho' (hc _ _ ho' hL) j h3
      · rw [List.getElem?_eq_none (by simp; omega)] at h3
        simp at h3
theorem bf_edge {ops : Array Oper} {i : Nat} {o : Oper} (ho : ops[i]? = some o) {e : Edge} (he : e ∈ o.after) (hb : Region.binds .any e = true) : bfOf (masks ops) e.on i = true := by
  unfold bfOf; rw [masks_spec ho]; exact edgeMask_edge (by simpa using he) hb
def awanted (ops : Array Oper) (R : Regs) (o : Oper) : Bool :=
  match o.guard with
  | none => true
  | some (j, want) => match ops[j]? with
    | some q => (match q.dst with
      | some d => (match R.get d with
        | .bool b => b == want
        | _ => false)
      | none => false)
    | none => false
theorem awanted_sound {ρ : Env} {ops : Array Oper} {R : Regs} {a : Act} (hr : RRel ρ R a) (o : Oper) : Region.wanted o (yielded ops a.tmps) = awanted ops R o := by
  unfold Region.wanted awanted
  cases hg : o.guard with
  | none => rfl
  | some p =>
    obtain ⟨j, want⟩ := p
    simp only
    unfold yielded
    cases hj : ops[j]? with
    | none => simp
    | some q =>
      cases hd : q.dst with
      | none => simp [hd]
      | some d =>
        simp only [Option.bind_some, hd]
        have h1 := hr.get d
        rw [Array.getD_eq_getD_getElem?] at h1
        cases ht : a.tmps[d]? with
        | none =>
          rw [ht] at h1
          simp only [Option.getD_none] at h1
          generalize hv : R.get d = v at h1
          cases v <;> first | rfl | (exfalso; cases h1)
        | some x =>
          rw [ht] at h1
          simp only [Option.getD_some] at h1
          generalize hv : R.get d = v at h1
          cases h1 <;> first | rfl | (simp; done)
theorem awanted_congr {ops : Array Oper} {R R' : Regs} {o : Oper} (h : ∀ d ∈ o.looksAt ops, R.get d = R'.get d) : awanted ops R o = awanted ops R' o := by
  unfold awanted
  cases hg : o.guard with
  | none => rfl
  | some p =>
    obtain ⟨j, want⟩ := p
    simp only
    cases hj : ops[j]? with
    | none => rfl
    | some q =>
      cases hd : q.dst with
      | none => simp [hd]
      | some d =>
        simp only [hd]
        rw [h d (by simp [Oper.looksAt, hg, hj, hd])]
theorem aval_congr_looks {ops : Array Oper} {R R' : Regs} {o : Oper} (h : ∀ d ∈ o.looksAt ops, R.get d = R'.get d) : ∀ x ∈ o.op.operands, aval R x = aval R' x := by
  intro x hx
  cases x with
  | tmp t =>
    simp only [aval]
    rw [h t ?_]
    unfold Oper.looksAt
    refine List.mem_append.2 (.inl ?_)
    rw [List.mem_filterMap]
    exact ⟨.tmp t, by simpa using hx, rfl⟩
  | const v => rfl
  | global g => rfl
  | func f => rfl
structure TE where
  i : Nat
  o : Oper
  R : Regs
  k : K
def kind1 (P : Program) (call : CallT) (ops : Array Oper) (o : Oper) (R : Regs) (H : AHeap) : Option K :=
  match awanted ops R o with
  | true => step1 P call o.op R H
  | false => some .skip
def canRun (P : Program) (call : CallT) (ops : Array Oper) : List Nat → Regs → AHeap → Option (List TE × Regs × AHeap)
  | [], R, H => some ([], R, H)
  | i :: is, R, H => match ops[i]? with
    | none => none
    | some o => match kind1 P call ops o R H with
      | none => none
      | some k => match R.put o.dst k.val with
        | none => none
        | some R' => match canRun P call ops is R' (k.heap H) with
          | none => none
          | some (T, Rf, Hf) => some (⟨i, o, R, k⟩ :: T, Rf, Hf)
def hAfter : List TE → AHeap → AHeap
  | [], H => H
  | t :: ts, H => hAfter ts (t.k.heap H)
theorem hAfter_append (A B : List TE) (H : AHeap) : hAfter (A ++ B) H = hAfter B (hAfter A H) := by
  induction A generalizing H with
  | nil => rfl
  | cons t A ih => simp [hAfter, ih]
def regAt (L : Nat → Bool) (d : Nat) : List TE → AV → AV
  | [], v => v
  | t :: ts, v => regAt L d ts (if L t.i = true ∧ t.o.dst = some d then t.k.val else v)
theorem regAt_append (L : Nat → Bool) (d : Nat) (A B : List TE) (v : AV) : regAt L d (A ++ B) v = regAt L d B (regAt L d A v) := by
  induction A generalizing v with
  | nil => rfl
  | cons t A ih => simp [regAt, ih]
theorem regAt_congr {L L' : Nat → Bool} {d : Nat} : ∀ {A : List TE} {v : AV}, (∀ t ∈ A, t.o.dst = some d → L t.i = L' t.i) → regAt L d A v = regAt L' d A v
  | [], _, _ => rfl
  | t :: A, v, h => by
    simp only [regAt]
    have : (L t.i = true ∧ t.o.dst = some d) ↔ (L' t.i = true ∧ t.o.dst = some d) := by
      constructor
      · rintro ⟨h1, h2⟩; exact ⟨by rw [← h t (by simp) h2]; exact h1, h2⟩
      · rintro ⟨h1, h2⟩; exact ⟨by rw [h t (by simp) h2]; exact h1, h2⟩
    simp only [this]
    exact regAt_congr fun u hu => h u (by simp [hu])
theorem regAt_none {L : Nat → Bool} {d : Nat} : ∀ {A : List TE} {v : AV}, (∀ t ∈ A, t.o.dst = some d → L t.i = false) → regAt L d A v = v
  | [], _, _ => rfl
  | t :: A, v, h => by
    simp only [regAt]
    rw [if_neg (by rintro ⟨h1, h2⟩; rw [h t (by simp) h2] at h1; cases h1)]
    exact regAt_none fun u hu => h u (by simp [hu])
theorem canRun_regs {P : Program} {call : CallT} {ops : Array Oper} : ∀ {is : List Nat} {R : Regs} {H : AHeap} {T : List TE} {Rf : Regs} {Hf : AHeap}, canRun P call ops is R H = some (T, Rf, Hf) →
    T.map (·.i) = is ∧ Hf = hAfter T H ∧ Rf.size = R.size ∧ ∀ d, Rf.get d = regAt (fun _ => true) d T (R.get d)
  | [], R, H, T, Rf, Hf, h => by
    simp only [canRun, Option.some.injEq, Prod.mk.injEq] at h
    obtain ⟨rfl, rfl, rfl⟩ := h
    exact ⟨rfl, rfl, rfl, fun _ => rfl⟩
  | i :: is, R, H, T, Rf, Hf, h => by
    simp only [canRun] at h
    split at h
    · cases h
    · rename_i o ho
      split at h
      · cases h
      · rename_i k hk
        split at h
        · cases h
        · rename_i R' hR'
          split at h
          · cases h
          · rename_i T' Rf' Hf' h'
            simp only [Option.some.injEq, Prod.mk.injEq] at h
            obtain ⟨rfl, rfl, rfl⟩ := h
            obtain ⟨e1, e2, e3, e4⟩ := canRun_regs h'
            refine ⟨by simp [e1], e2, by rw [e3, Regs.size_put hR'], fun d => ?_⟩
            rw [e4 d, Regs.get_put hR' d]
            simp [regAt]
theorem canRun_at {P : Program} {call : CallT} {ops : Array Oper} : ∀ {A : List TE} {is : List Nat} {R : Regs} {H : AHeap} {t : TE} {B : List TE} {Rf : Regs} {Hf : AHeap}, canRun P call ops is R H = some (A ++ t :: B, Rf, Hf) →
    ops[t.i]? = some t.o ∧ (∀ d, t.R.get d = regAt (fun _ => true) d A (R.get d)) ∧ kind1 P call ops t.o t.R (hAfter A H) = some t.k ∧ (∀ d, t.o.dst = some d → d < R.size)
  | A, [], R, H, t, B, Rf, Hf, h => by
    simp only [canRun, Option.some.injEq, Prod.mk.injEq] at h
    have := h.1; simp at this
  | A, i :: is, R, H, t, B, Rf, Hf, h => by
    simp only [canRun] at h
    split at h
    · cases h
    · rename_i o ho
      split at h
      · cases h
      · rename_i k hk
        split at h
        · cases h
        · rename_i R' hR'
          split at h
          · cases h
          · rename_i T' Rf' Hf' h'
            simp only [Option.some.injEq, Prod.mk.injEq] at h
            obtain ⟨h1, rfl, rfl⟩ := h
            cases A with
            | nil =>
              simp only [List.nil_append, List.cons.injEq] at h1
              obtain ⟨rfl, rfl⟩ := h1
              refine ⟨ho, fun _ => rfl, hk, fun d hd => ?_⟩
              simp only at hd
              rw [hd] at hR'
              exact Regs.put_lt hR'
            | cons u A =>
              simp only [List.cons_append, List.cons.injEq] at h1
              obtain ⟨rfl, rfl⟩ := h1
              obtain ⟨e1, e2, e3, e4⟩ := canRun_at h'
              refine ⟨e1, fun d => ?_, e3, fun d hd => by rw [← Regs.size_put hR']; exact e4 d hd⟩
              rw [e2 d, Regs.get_put hR' d]
              simp [regAt]
def Mono : AHeap → List TE → Prop
  | _, [] => True
  | H, t :: ts => H.next ≤ (t.k.heap H).next ∧ Mono (t.k.heap H) ts
theorem Mono.append : ∀ {A B : List TE} {H : AHeap}, Mono H (A ++ B) → Mono H A ∧ Mono (hAfter A H) B
  | [], _, _, h => ⟨trivial, h⟩
  | _ :: A, _, _, h => by
    obtain ⟨h1, h2⟩ := h
    obtain ⟨h3, h4⟩ := Mono.append (A := A) h2
    exact ⟨⟨h1, h3⟩, h4⟩
theorem Mono.le : ∀ {A : List TE} {H : AHeap}, Mono H A → H.next ≤ (hAfter A H).next
  | [], _, _ => Nat.le_refl _
  | _ :: A, _, h => Nat.le_trans h.1 (Mono.le (A := A) h.2)
theorem kind1_ok {P : Program} {call : CallT} {ops : Array Oper} {o : Oper} {R : Regs} {H : AHeap} {k : K} (h : kind1 P call ops o R H = some k) :
    (awanted ops R o = true ∧ KOk P call o.op R H k) ∨ (awanted ops R o = false ∧ k = .skip) := by
  unfold kind1 at h
  split at h
  · rename_i hw; exact .inl ⟨hw, step1_ok h⟩
  · rename_i hw; simp only [Option.some.injEq] at h; exact .inr ⟨hw, h.symm⟩
theorem kind1_heap {P : Program} {call : CallT} {ops : Array Oper} {o : Oper} {R : Regs} {H : AHeap} {k : K} (h : kind1 P call ops o R H = some k) (hk : k.isHeap = true) : heapOp o.op = true := by
  unfold kind1 at h
  split at h
  · exact step1_heap h hk
  · simp only [Option.some.injEq] at h; subst h; cases hk
theorem kind1_mono {P : Program} {call : CallT} {ops : Array Oper} {o : Oper} {R : Regs} {H : AHeap} {k : K} (h : kind1 P call ops o R H = some k) : H.next ≤ (k.heap H).next := by
  rcases kind1_ok h with ⟨_, h⟩ | ⟨_, rfl⟩
  · cases k with
    | eff v H' => exact h.1
    | new v b => simp [K.heap]
    | _ => exact Nat.le_refl _
  · exact Nat.le_refl _
theorem canRun_mono {P : Program} {call : CallT} {ops : Array Oper} : ∀ {is : List Nat} {R : Regs} {H : AHeap} {T : List TE} {Rf : Regs} {Hf : AHeap}, canRun P call ops is R H = some (T, Rf, Hf) → Mono H T
  | [], R, H, T, Rf, Hf, h => by
    simp only [canRun, Option.some.injEq, Prod.mk.injEq] at h
    obtain ⟨rfl, rfl, rfl⟩ := h
    trivial
  | i :: is, R, H, T, Rf, Hf, h => by
    simp only [canRun] at h
    split at h
    · cases h
    · rename_i o ho
      split at h
      · cases h
      · rename_i k hk
        split at h
        · cases h
        · split at h
          · cases h
          · rename_i T' Rf' Hf' h'
            simp only [Option.some.injEq, Prod.mk.injEq] at h
            obtain ⟨rfl, rfl, rfl⟩ := h
            exact ⟨kind1_mono hk, canRun_mono h'⟩
def pendOf (L : Nat → Bool) : List TE → AHeap → Nat → Option ABlk
  | [], _, _ => none
  | t :: ts, H, l => match t.k with
    | .new _ b => if l = H.next then (if L t.i = true then some b else none) else pendOf L ts (H.push b) l
    | k => pendOf L ts (k.heap H) l
theorem pendOf_ge {L : Nat → Bool} : ∀ {T : List TE} {H : AHeap} {l : Nat} {b : ABlk}, Mono H T → pendOf L T H l = some b → H.next ≤ l
  | [], _, _, _, _, h => by cases h
  | t :: ts, H, l, b, hm, h => by
    unfold pendOf at h
    split at h
    · rename_i v b' hk
      split at h
      · omega
      · have := pendOf_ge (by have := hm.2; rwa [hk] at this) h
        simp at this; omega
    · have h1 := hm.1
      have := pendOf_ge hm.2 h
      omega
theorem pendOf_congr {L L' : Nat → Bool} : ∀ {T : List TE} {H : AHeap}, (∀ t ∈ T, ∀ v b, t.k = .new v b → L t.i = L' t.i) → pendOf L T H = pendOf L' T H
  | [], _, _ => rfl
  | t :: ts, H, h => by
    funext l
    unfold pendOf
    split
    · rename_i v b hk
      rw [h t (by simp) v b hk, pendOf_congr (T := ts) (fun u hu => h u (by simp [hu]))]
    · rw [pendOf_congr (T := ts) (fun u hu => h u (by simp [hu]))]
theorem pendOf_skip {L : Nat → Bool} {t : TE} {ts : List TE} {H : AHeap} (h : ∀ v b, t.k ≠ .new v b) : pendOf L (t :: ts) H = pendOf L ts (t.k.heap H) := by
  funext l
  show (match t.k with
    | .new _ b => if l = H.next then (if L t.i = true then some b else none) else pendOf L ts (H.push b) l
    | k => pendOf L ts (k.heap H) l) = _
  split
  · rename_i v b hk; exact absurd hk (h v b)
  · rfl
theorem pendOf_add {L L' : Nat → Bool} {t : TE} {v : AV} {b : ABlk} (ht : t.k = .new v b) (hL : L t.i = false) (hL' : L' t.i = true) : ∀ {C D : List TE} {H : AHeap}, Mono H (C ++ t :: D) →
    (∀ u ∈ C, L u.i = L' u.i) → (∀ u ∈ D, L u.i = L' u.i) →
    pendOf L' (C ++ t :: D) H = (fun k => if k = (hAfter C H).next then some b else pendOf L (C ++ t :: D) H k) ∧ pendOf L (C ++ t :: D) H (hAfter C H).next = none
  | [], D, H, hm, hC, hD => by
    constructor
    · funext k
      simp only [List.nil_append, hAfter, pendOf, ht, hL, hL', if_true, Bool.false_eq_true, if_false]
      rw [pendOf_congr (T := D) fun u hu _ _ _ => hD u hu]
      split <;> rfl
    · simp [pendOf, ht, hL, hAfter]
  | c :: C, D, H, hm, hC, hD => by
    obtain ⟨h1, h2⟩ := hm
    obtain ⟨e1, e2⟩ := pendOf_add ht hL hL' (C := C) (D := D) h2 (fun u hu => hC u (by simp [hu])) hD
    by_cases hc : ∃ v' b', c.k = .new v' b'
    · obtain ⟨v', b', hc⟩ := hc
      have hle : (c.k.heap H).next ≤ (hAfter C (c.k.heap H)).next := (Mono.append h2).1.le
      rw [hc] at e1 e2 hle
      simp only [K.heap, AHeap.next_push] at hle e1 e2
      constructor
      · funext k
        simp only [List.cons_append, pendOf, hc, hAfter, K.heap]
        rw [← hC c (by simp), e1]
        by_cases hk : k = H.next
        · subst hk
          simp only [if_true]
          by_cases hx : H.next = (hAfter C (H.push b')).next
          · omega
          · simp only [hx, if_false]
        · simp only [hk, if_false]
          by_cases hx : k = (hAfter C (H.push b')).next
          · simp only [hx, if_true]
          · simp only [hx, if_false]
      · simp only [List.cons_append, pendOf, hc, hAfter, K.heap]
        rw [if_neg (by omega)]; exact e2
    · have hn : ∀ v b, c.k ≠ .new v b := fun v b h => hc ⟨v, b, h⟩
      rw [List.cons_append, pendOf_skip hn, pendOf_skip hn, hAfter]
      exact ⟨e1, e2⟩
end Go.Ev

namespace Go.Ev
mutual
def AV.beq : AV → AV → Bool
  | .bool a, .bool b => a == b
  | .int k n, .int k' m => decide (k = k') && decide (n = m)
  | .str s, .str t => decide (s = t)
  | .ptr l i c, .ptr l' i' c' => decide (l = l') && decide (i = i') && decide (c = c')
  | .nilPtr, .nilPtr => true
  | .sl l i n e c, .sl l' i' n' e' c' => decide (l = l') && decide (i = i') && decide (n = n') && decide (e = e') && decide (c = c')
  | .nilSl, .nilSl => true
  | .map l, .map l' => decide (l = l')
  | .nilMap, .nilMap => true
  | .nilFunc, .nilFunc => true
  | .iface t v, .iface t' v' => decide (t = t') && AV.beq v v'
  | .nilIface, .nilIface => true
  | .agg xs, .agg ys => AVs.beq xs ys
  | .tuple xs, .tuple ys => AVs.beq xs ys
  | _, _ => false
def AVs.beq : List AV → List AV → Bool
  | [], [] => true
  | x :: xs, y :: ys => AV.beq x y && AVs.beq xs ys
  | _, _ => false
 end
mutual
theorem AV.beq_eq : ∀ {a b : AV}, AV.beq a b = true → a = b := by
  intro a b h
  cases a <;> cases b <;> simp only [AV.beq] at h <;> first
    | (cases h; done)
    | rfl
    | (simp at h; simp [h]; done)
    | skip
  · simp only [Bool.and_eq_true, decide_eq_true_eq] at h
    obtain ⟨rfl, h⟩ := h
    rw [AV.beq_eq h]
  · rw [AVs.beq_eq h]
  · rw [AVs.beq_eq h]
theorem AVs.beq_eq : ∀ {a b : List AV}, AVs.beq a b = true → a = b := by
  intro a b h
  cases a with
  | nil => cases b with
    | nil => rfl
    | cons y ys => simp [AVs.beq] at h
  | cons x xs => cases b with
    | nil => simp [AVs.beq] at h
    | cons y ys =>
      simp only [AVs.beq, Bool.and_eq_true] at h
      rw [AV.beq_eq h.1, AVs.beq_eq h.2]
 end
def pairOk (ops : Array Oper) (ms : List Nat) (i j : Nat) : Bool :=
  match ops[i]?, ops[j]? with
  | some o, some q => (i != j) && (!bfOf ms j i) && (bfOf ms i j || o.apart ops q)
  | _, _ => false
def pairsOk (ops : Array Oper) (ms : List Nat) : List Nat → Bool
  | [] => true
  | i :: is => is.all (pairOk ops ms i) && pairsOk ops ms is
theorem pairsOk_pairwise {ops : Array Oper} {ms : List Nat} : ∀ {is : List Nat}, pairsOk ops ms is = true → is.Pairwise fun i j => pairOk ops ms i j = true
  | [], _ => .nil
  | i :: is, h => by
    simp only [pairsOk, Bool.and_eq_true, List.all_eq_true] at h
    exact .cons h.1 (pairsOk_pairwise h.2)
def edgesIn (n : Nat) (o : Oper) : Bool := o.after.toList.all fun e => !Region.binds .any e || decide (e.on < n)
def planOk (ops : Array Oper) (ms ord : List Nat) : Bool :=
  (List.range ops.size).all (fun i => ord.contains i) && (ord.all (fun i => !bfOf ms i i) && (ops.toList.all (edgesIn ops.size) && pairsOk ops ms ord))
def effOk (ms : List Nat) : List TE → List Nat → Bool
  | [], _ => true
  | t :: ts, ids => match t.k with
    | .eff _ _ => ids.all (fun j => bfOf ms j t.i) && effOk ms ts (t.i :: ids)
    | .new _ _ => effOk ms ts (t.i :: ids)
    | _ => effOk ms ts ids
theorem effOk_at {ms : List Nat} : ∀ {A : List TE} {t : TE} {B : List TE} {ids : List Nat} {v : AV} {H : AHeap}, effOk ms (A ++ t :: B) ids = true → t.k = .eff v H →
    (∀ j ∈ ids, bfOf ms j t.i = true) ∧ ∀ u ∈ A, u.k.isHeap = true → bfOf ms u.i t.i = true
  | [], t, B, ids, v, H, h, ht => by
    simp only [List.nil_append, effOk, ht, Bool.and_eq_true, List.all_eq_true] at h
    exact ⟨h.1, fun u hu => by simp at hu⟩
  | c :: A, t, B, ids, v, H, h, ht => by
    simp only [List.cons_append, effOk] at h
    split at h
    · simp only [Bool.and_eq_true] at h
      obtain ⟨h1, h2⟩ := effOk_at h.2 ht
      refine ⟨fun j hj => h1 j (by simp [hj]), fun u hu hh => ?_⟩
      rcases List.mem_cons.1 hu with rfl | hu
      · exact h1 _ (by simp)
      · exact h2 u hu hh
    · obtain ⟨h1, h2⟩ := effOk_at h ht
      refine ⟨fun j hj => h1 j (by simp [hj]), fun u hu hh => ?_⟩
      rcases List.mem_cons.1 hu with rfl | hu
      · exact h1 _ (by simp)
      · exact h2 u hu hh
    · rename_i hn1 hn2
      obtain ⟨h1, h2⟩ := effOk_at h ht
      refine ⟨h1, fun u hu hh => ?_⟩
      rcases List.mem_cons.1 hu with rfl | hu
      · exfalso
        cases hk : u.k with
        | new v b => exact hn2 v b hk
        | eff v H => exact hn1 v H hk
        | _ => rw [hk] at hh; cases hh
      · exact h2 u hu hh
def winOk (ms : List Nat) (rd : AHeap → Bool) (i : Nat) : List TE → AHeap → Bool
  | [], H => rd H
  | t :: ts, H => if t.k.isHeap then (bfOf ms t.i i || rd H) && (bfOf ms i t.i || winOk ms rd i ts (t.k.heap H)) else winOk ms rd i ts H
theorem heap_still {k : K} (h : k.isHeap = false) (H : AHeap) : k.heap H = H := by
  cases k <;> first | rfl | cases h
theorem winOk_at {ms : List Nat} {rd : AHeap → Bool} {i : Nat} : ∀ {A B : List TE} {H : AHeap}, winOk ms rd i (A ++ B) H = true → (∀ u ∈ A, u.k.isHeap = true → bfOf ms i u.i = false) →
    (∀ u B', B = u :: B' → u.k.isHeap = true ∧ bfOf ms u.i i = false) → rd (hAfter A H) = true
  | [], [], H, h, _, _ => h
  | [], u :: B, H, h, _, hB => by
    obtain ⟨h1, h2⟩ := hB u B rfl
    simp only [List.nil_append, winOk, h1, if_true, Bool.and_eq_true, Bool.or_eq_true, h2] at h
    simpa [hAfter] using h.1
  | t :: A, B, H, h, hA, hB => by
    simp only [List.cons_append, winOk] at h
    split at h
    · rename_i hh
      simp only [Bool.and_eq_true, Bool.or_eq_true, hA t (by simp) hh] at h
      rw [hAfter]
      exact winOk_at (h.2.resolve_left (by simp)) (fun u hu => hA u (by simp [hu])) hB
    · rename_i hh
      rw [hAfter, heap_still (by simpa using hh)]
      exact winOk_at h (fun u hu => hA u (by simp [hu])) hB
def readIs (P : Program) (o : Op) (R : Regs) (v : AV) (H : AHeap) : Bool :=
  match aread P o R H with
  | some u => AV.beq u v
  | none => false
theorem readIs_eq {P : Program} {o : Op} {R : Regs} {v : AV} {H : AHeap} (h : readIs P o R v H = true) : aread P o R H = some v := by
  unfold readIs at h
  split at h
  · rename_i u hu; rw [hu, AV.beq_eq h]
  · cases h
def AHeap.only (H : AHeap) : AHeap := match H.get (H.next - 1) with
  | some b => ⟨Tr.put b H.next .leaf (H.next - 1), H.next⟩
  | none => ⟨.leaf, H.next⟩
theorem AHeap.only_get {H : AHeap} {b : ABlk} {l : Nat} {x : ABlk} (h : (H.push b).only.get l = some x) : l = H.next ∧ x = b := by
  have e : (H.push b).get ((H.push b).next - 1) = some b := AHeap.get_push_same H b
  unfold AHeap.only at h
  rw [e] at h
  simp only [AHeap.get, AHeap.next_push, Nat.add_sub_cancel] at h
  split at h
  · by_cases hl : H.next = l
    · subst hl
      rw [Tr.get_put_same _ _ _ _ (by omega)] at h
      exact ⟨rfl, by simpa using h.symm⟩
    · rw [Tr.get_put_other _ _ _ _ _ hl] at h
      rw [Tr.get_leaf] at h; cases h
  · cases h
def noEff (k : K) : Bool := match k with
  | .eff _ _ => false
  | _ => true
def candOk (ms : List Nat) (i : Nat) : List TE → Bool → Bool
  | [], _ => false
  | t :: ts, s => match t.k with
    | .new _ _ => (s && bfOf ms t.i i && ts.all fun u => noEff u.k) || candOk ms i ts (s || !bfOf ms t.i i)
    | .eff _ _ => candOk ms i ts (s || !bfOf ms t.i i)
    | _ => candOk ms i ts s
def newOk (ms : List Nat) (rd : AHeap → Bool) (i : Nat) : List TE → AHeap → Bool → Bool
  | [], _, _ => false
  | t :: ts, H, s => match t.k with
    | .new _ b => bif s && bfOf ms t.i i && ts.all (fun u => noEff u.k) then rd (H.push b).only || newOk ms rd i ts (H.push b) (s || !bfOf ms t.i i) else newOk ms rd i ts (H.push b) (s || !bfOf ms t.i i)
    | .eff _ H' => newOk ms rd i ts H' (s || !bfOf ms t.i i)
    | _ => newOk ms rd i ts H s
theorem newOk_at {ms : List Nat} {rd : AHeap → Bool} {i : Nat} : ∀ {T : List TE} {H : AHeap} {s : Bool}, newOk ms rd i T H s = true →
    ∃ A u B v b, T = A ++ u :: B ∧ u.k = .new v b ∧ bfOf ms u.i i = true ∧ (∀ x ∈ B, noEff x.k = true) ∧ rd ((hAfter A H).push b).only = true
  | [], H, s, h => by cases h
  | t :: ts, H, s, h => by
    have rec' : ∀ {H' : AHeap} {s' : Bool}, t.k.heap H = H' → newOk ms rd i ts H' s' = true → ∃ A u B v b, t :: ts = A ++ u :: B ∧ u.k = .new v b ∧ bfOf ms u.i i = true ∧ (∀ x ∈ B, noEff x.k = true) ∧ rd ((hAfter A H).push b).only = true := by
      intro H' s' e h'
      obtain ⟨A, u, B, v, b, e1, e2, e3, e4, e5⟩ := newOk_at h'
      exact ⟨t :: A, u, B, v, b, by rw [e1]; rfl, e2, e3, e4, by rw [hAfter, e]; exact e5⟩
    unfold newOk at h
    split at h
    · rename_i v b hk
      have hh : t.k.heap H = H.push b := by rw [hk]; rfl
      cases hc : (s && bfOf ms t.i i && ts.all fun u => noEff u.k) with
      | true =>
        rw [hc, cond_true, Bool.or_eq_true] at h
        simp only [Bool.and_eq_true, List.all_eq_true] at hc
        rcases h with h | h
        · exact ⟨[], t, ts, v, b, rfl, hk, hc.1.2, hc.2, h⟩
        · exact rec' hh h
      | false => rw [hc, cond_false] at h; exact rec' hh h
    · rename_i v H' hk
      exact rec' (by rw [hk]; rfl) h
    · rename_i h1 h2
      refine rec' (heap_still ?_ H) h
      cases hk : t.k with
      | new v b => exact absurd hk (h1 v b)
      | eff v H' => exact absurd hk (h2 v H')
      | _ => rfl
def seeOk (ms : List Nat) (rd : AHeap → Bool) (i : Nat) (T : List TE) (H : AHeap) : Bool :=
  bif candOk ms i T false then winOk ms rd i T H || newOk ms rd i T H false else winOk ms rd i T H
theorem seeOk_at {ms : List Nat} {rd : AHeap → Bool} {i : Nat} {T : List TE} {H : AHeap} (h : seeOk ms rd i T H = true) : winOk ms rd i T H = true ∨ newOk ms rd i T H false = true := by
  unfold seeOk at h
  cases hc : candOk ms i T false with
  | true => rw [hc, cond_true, Bool.or_eq_true] at h; exact h
  | false => rw [hc, cond_false] at h; exact .inl h
def winsOk (P : Program) (ms : List Nat) (ez : Nat → Bool) (T : List TE) (H : AHeap) : List TE → Bool
  | [] => true
  | t :: ts => (match t.k with
    | .read v => ez t.i || seeOk ms (readIs P t.o.op t.R v) t.i T H
    | _ => true) && winsOk P ms ez T H ts
theorem winsOk_at {P : Program} {ms : List Nat} {ez : Nat → Bool} {T : List TE} {H : AHeap} {t : TE} {v : AV} (ht : t.k = .read v) : ∀ {ts : List TE}, winsOk P ms ez T H ts = true → t ∈ ts → ez t.i = true ∨ seeOk ms (readIs P t.o.op t.R v) t.i T H = true
  | [], _, hm => by simp at hm
  | u :: ts, h, hm => by
    simp only [winsOk, Bool.and_eq_true] at h
    rcases List.mem_cons.1 hm with rfl | hm
    · have := h.1; rw [ht] at this; simpa using this
    · exact winsOk_at ht h.2 hm
section
variable {P : Program} {call : CallT} {ops : Array Oper} {ord : List Nat} {R0 Rf : Regs} {H0 Hf : AHeap} {T : List TE} {ρ0 : Env} {w0 : World} {Q : Exit → Act → World → Prop}
def lst (listed : Array Bool) (i : Nat) : Bool := listed.getD i false
theorem pair_spec {i j : Nat} {o q : Oper} (hi : ops[i]? = some o) (hj : ops[j]? = some q) (h : pairOk ops (masks ops) i j = true) :
    i ≠ j ∧ bfOf (masks ops) j i = false ∧ (bfOf (masks ops) i j = true ∨ o.apart ops q = true) := by
  unfold pairOk at h
  rw [hi, hj] at h
  simp only [Bool.and_eq_true, bne_iff_ne, ne_eq, Bool.not_eq_true', Bool.or_eq_true] at h
  exact ⟨h.1.1, h.1.2, h.2⟩
def tied (ops : Array Oper) (ms ord : List Nat) (i : Nat) : Bool :=
  ord.all fun j => (j == i) || (match ops[j]? with | some o => !heapOp o.op | none => true) || bfOf ms j i || bfOf ms i j
theorem tied_spec {ms ord : List Nat} {i j : Nat} {o : Oper} (h : tied ops ms ord i = true) (hj : j ∈ ord) (hne : j ≠ i) (ho : ops[j]? = some o) (hh : heapOp o.op = true) : bfOf ms j i = true ∨ bfOf ms i j = true := by
  unfold tied at h
  rw [List.all_eq_true] at h
  have := h j hj
  rw [ho] at this
  simpa [hne, hh] using this
structure Ctx (P : Program) (call : CallT) (ops : Array Oper) (ord : List Nat) (R0 : Regs) (H0 : AHeap) (T : List TE) (Rf : Regs) (Hf : AHeap) : Prop where
  hT : canRun P call ops ord R0 H0 = some (T, Rf, Hf)
  plan : planOk ops (masks ops) ord = true
  eff : effOk (masks ops) T [] = true
  win : winsOk P (masks ops) (tied ops (masks ops) ord) T H0 T = true
theorem Ctx.pairs (c : Ctx P call ops ord R0 H0 T Rf Hf) : T.Pairwise fun t u => pairOk ops (masks ops) t.i u.i = true := by
  have h := c.plan
  simp only [planOk, Bool.and_eq_true] at h
  have h2 := pairsOk_pairwise h.2.2.2
  rw [← (canRun_regs c.hT).1] at h2
  exact (List.pairwise_map.1 h2)
theorem Ctx.at (c : Ctx P call ops ord R0 H0 T Rf Hf) {A B : List TE} {t : TE} (h : T = A ++ t :: B) :
    ops[t.i]? = some t.o ∧ (∀ d, t.R.get d = regAt (fun _ => true) d A (R0.get d)) ∧ kind1 P call ops t.o t.R (hAfter A H0) = some t.k ∧ (∀ d, t.o.dst = some d → d < R0.size) :=
  canRun_at (by rw [← h]; exact c.hT)
theorem Ctx.mem (c : Ctx P call ops ord R0 H0 T Rf Hf) {t : TE} (h : t ∈ T) : ops[t.i]? = some t.o := by
  obtain ⟨A, B, h⟩ := List.append_of_mem h
  exact (c.at h).1
theorem Ctx.before (c : Ctx P call ops ord R0 H0 T Rf Hf) {A B : List TE} {t : TE} (h : T = A ++ t :: B) {u : TE} (hu : u ∈ A) :
    u.i ≠ t.i ∧ bfOf (masks ops) t.i u.i = false ∧ (bfOf (masks ops) u.i t.i = true ∨ u.o.apart ops t.o = true) := by
  have hp := c.pairs
  rw [h, List.pairwise_append] at hp
  exact pair_spec (c.mem (by rw [h]; simp [hu])) (c.mem (by rw [h]; simp)) (hp.2.2 u hu t (by simp))
theorem Ctx.after (c : Ctx P call ops ord R0 H0 T Rf Hf) {A B : List TE} {t : TE} (h : T = A ++ t :: B) {u : TE} (hu : u ∈ B) :
    t.i ≠ u.i ∧ bfOf (masks ops) u.i t.i = false ∧ (bfOf (masks ops) t.i u.i = true ∨ t.o.apart ops u.o = true) := by
  have hp := c.pairs
  rw [h, List.pairwise_append, List.pairwise_cons] at hp
  exact pair_spec (c.mem (by rw [h]; simp)) (c.mem (by rw [h]; simp [hu])) (hp.2.1.1 u hu)
theorem Ctx.looks (c : Ctx P call ops ord R0 H0 T Rf Hf) {A B : List TE} {t : TE} (h : T = A ++ t :: B) {L : Nat → Bool} (hc : Closed ops L) (hw : Waits L t.o) (hL : L t.i = false) :
    ∀ d ∈ t.o.looksAt ops, regAt L d T (R0.get d) = t.R.get d := by
  intro d hd
  obtain ⟨e1, e2, _, _⟩ := c.at h
  rw [e2 d, h, regAt_append, regAt]
  rw [if_neg (by rintro ⟨h1, _⟩; rw [hL] at h1; cases h1)]
  rw [regAt_none (A := B), regAt_congr (L' := fun _ => true)]
  · intro u hu hud
    obtain ⟨_, _, h3⟩ := c.before h hu
    rcases h3 with h3 | h3
    · exact bf_listed hc _ _ e1 hw _ h3
    · exact absurd hd ((Oper.apart_spec h3).1 d hud)
  · intro u hu hud
    obtain ⟨_, _, h3⟩ := c.after h hu
    rcases h3 with h3 | h3
    · cases hLu : L u.i with
      | false => rfl
      | true =>
        have hou := c.mem (t := u) (by rw [h]; simp [hu])
        have := bf_listed hc _ _ hou (hc _ _ hou hLu) _ h3
        rw [hL] at this; cases this
    · exact absurd hd ((Oper.apart_spec h3).2.2 d hud)
theorem Ctx.adds (c : Ctx P call ops ord R0 H0 T Rf Hf) {A B : List TE} {t : TE} (h : T = A ++ t :: B) {L L' : Nat → Bool} (hc : Closed ops L) (hL : L t.i = false) (hL' : L' t.i = true) (hs : ∀ j, j ≠ t.i → L' j = L j) (d : Nat) (v : AV) :
    regAt L' d T v = if t.o.dst = some d then t.k.val else regAt L d T v := by
  have hA : ∀ u ∈ A, u.o.dst = some d → L' u.i = L u.i := fun u hu _ => hs _ (c.before h hu).1
  have hB : ∀ u ∈ B, u.o.dst = some d → L' u.i = L u.i := fun u hu _ => hs _ (Ne.symm (c.after h hu).1)
  rw [h, regAt_append, regAt_append, regAt_congr hA]
  simp only [regAt]
  rw [regAt_congr hB]
  by_cases hd : t.o.dst = some d
  · rw [if_pos ⟨hL', hd⟩, if_pos hd]
    refine regAt_none fun u hu hud => ?_
    obtain ⟨_, _, h3⟩ := c.after h hu
    rcases h3 with h3 | h3
    · cases hLu : L u.i with
      | false => rfl
      | true =>
        have hou := c.mem (t := u) (by rw [h]; simp [hu])
        have := bf_listed hc _ _ hou (hc _ _ hou hLu) _ h3
        rw [hL] at this; cases this
    · exact absurd hud ((Oper.apart_spec h3).2.1 d hd)
  · rw [if_neg (fun x => hd x.2), if_neg hd, if_neg (fun x => hd x.2)]
theorem Mid.turns {N : Nat} {ρ : Env} {w : World} {L : Nat → Bool} : ∀ {C D : List TE} {H : AHeap}, Mono H (C ++ D) → (∀ u ∈ C, u.k.isHeap = true → L u.i = true ∧ ∃ v b, u.k = .new v b) →
    Mid ρ0 H0 w0 N (pendOf L (C ++ D) H) ρ H w → Mid ρ0 H0 w0 N (pendOf L D (hAfter C H)) ρ (hAfter C H) w
  | [], D, H, _, _, m => m
  | c :: C, D, H, hm, hC, m => by
    by_cases hh : c.k.isHeap = true
    · obtain ⟨hl, v, b, hk⟩ := hC c (by simp) hh
      have hp : pendOf L (c :: C ++ D) H H.next = some b := by simp [pendOf, hk, hl]
      have m1 := m.turn hp
      have hm2 : Mono (H.push b) (C ++ D) := by have := hm.2; rw [hk] at this; exact this
      have heq : (fun k => if k = H.next then none else pendOf L (c :: C ++ D) H k) = pendOf L (C ++ D) (H.push b) := by
        funext k
        by_cases hk' : k = H.next
        · rw [if_pos hk']
          cases hq : pendOf L (C ++ D) (H.push b) k with
          | none => rfl
          | some b' => have := pendOf_ge hm2 hq; simp at this; omega
        · rw [if_neg hk']; simp [pendOf, hk, hk']
      rw [heq] at m1
      have := Mid.turns hm2 (fun u hu => hC u (by simp [hu])) m1
      rw [hAfter, hk]; exact this
    · have hne : ∀ v b, c.k ≠ .new v b := fun v b h => by rw [h] at hh; exact hh rfl
      rw [List.cons_append, pendOf_skip hne] at m
      have hst := heap_still (by simpa using hh) H
      rw [hAfter]
      rw [hst] at m ⊢
      refine Mid.turns ?_ (fun u hu => hC u (by simp [hu])) m
      have := hm.2; rwa [hst] at this
structure Inv (ops : Array Oper) (R0 : Regs) (H0 : AHeap) (T : List TE) (N : Nat) (ρ0 : Env) (w0 : World) (listed : Array Bool) (a : Act) (w : World) : Prop where
  size : listed.size = ops.size
  closed : Closed ops (lst listed)
  mid : ∃ ρ T1 T2, T = T1 ++ T2 ∧ (∀ t ∈ T1, t.k.isHeap = true → lst listed t.i = true) ∧ (∀ t ∈ T2, (∃ v H, t.k = .eff v H) → lst listed t.i = false) ∧
    Mid ρ0 H0 w0 N (pendOf (lst listed) T2 (hAfter T1 H0)) ρ (hAfter T1 H0) w ∧ ∃ RL : Regs, RRel ρ RL a ∧ RL.size = R0.size ∧ ∀ d, RL.get d = regAt (lst listed) d T (R0.get d)
theorem Ctx.final (c : Ctx P call ops ord R0 H0 T Rf Hf) {listed : Array Bool} {a : Act} {w : World} (hi : Inv ops R0 H0 T Hf.next ρ0 w0 listed a w) (hall : ∀ t ∈ T, lst listed t.i = true) :
    ∃ ρ, RRel ρ Rf a ∧ Step ρ0 H0 w0 ρ Hf w := by
  obtain ⟨ρ, T1, T2, hT, h1, h2, m, RL, r1, r2, r3⟩ := hi.mid
  obtain ⟨e1, e2, e3, e4⟩ := canRun_regs c.hT
  have hmono := canRun_mono c.hT
  rw [hT] at hmono
  have hm2 := (Mono.append hmono).2
  have m' := Mid.turns (C := T2) (D := []) (L := lst listed) (by simpa using hm2) (fun u hu hh => by
    have hl := hall u (by rw [hT]; simp [hu])
    refine ⟨hl, ?_⟩
    cases hk : u.k with
    | new v b => exact ⟨v, b, rfl⟩
    | eff v H => rw [h2 u hu ⟨v, H, hk⟩] at hl; cases hl
    | _ => rw [hk] at hh; cases hh) (by simpa using m)
  rw [← hAfter_append, ← hT, ← e2] at m'
  refine ⟨ρ, ⟨by rw [e3, ← r2]; exact r1.size, fun d => ?_, r1.none⟩, m'.done rfl⟩
  have := r1.get d
  rw [r3 d, regAt_congr (L' := fun _ => true) (fun t ht _ => hall t ht), ← e4 d] at this
  exact this
theorem ready_spec {listed : Array Bool} {i : Nat} (h : i ∈ Region.ready .any ops listed) (hs : listed.size = ops.size) :
    ∃ o, ops[i]? = some o ∧ lst listed i = false ∧ Waits (lst listed) o ∧ i < ops.size := by
  unfold Region.ready at h
  simp only [List.mem_filter, List.mem_range, Bool.and_eq_true, Bool.not_eq_true'] at h
  obtain ⟨hlt, h1, h2⟩ := h
  have ho : ops[i]? = some ops[i] := by simp [hlt]
  refine ⟨ops[i], ho, ?_, ?_, hlt⟩
  · unfold lst
    rw [Array.getD_eq_getD_getElem?] at h1 ⊢
    have : i < listed.size := by omega
    simp [this] at h1 ⊢; exact h1
  · rw [ho] at h2
    simp only [Option.map_some, Option.getD_some, Array.all_eq_true'] at h2
    intro e he hb
    have := h2 e he
    simpa [hb, lst] using this
theorem ready_of {listed : Array Bool} {i : Nat} {o : Oper} (ho : ops[i]? = some o) (hl : lst listed i = false) (hw : Waits (lst listed) o) (hs : listed.size = ops.size) : i ∈ Region.ready .any ops listed := by
  unfold Region.ready
  have hlt : i < ops.size := (Array.getElem?_eq_some_iff.1 ho).1
  simp only [List.mem_filter, List.mem_range, Bool.and_eq_true, Bool.not_eq_true']
  refine ⟨hlt, ?_, ?_⟩
  · unfold lst at hl
    rw [Array.getD_eq_getD_getElem?] at hl ⊢
    have : i < listed.size := by omega
    simp [this] at hl ⊢; exact hl
  · rw [ho]
    simp only [Option.map_some, Option.getD_some, Array.all_eq_true']
    intro e he
    by_cases hb : Region.binds .any e = true
    · have := hw e he hb
      unfold lst at this
      rw [this]; simp
    · simp [hb]
theorem Ctx.all_of_none (c : Ctx P call ops ord R0 H0 T Rf Hf) {listed : Array Bool} (hs : listed.size = ops.size) (hn : Region.ready .any ops listed = []) : ∀ t ∈ T, lst listed t.i = true := by
  have hplan := c.plan
  simp only [planOk, Bool.and_eq_true, List.all_eq_true, List.mem_range] at hplan
  obtain ⟨hcov, hirr, hedge, _⟩ := hplan
  have hids := (canRun_regs c.hT).1
  have key : ∀ (n : Nat) (A : List TE) (t : TE) (B : List TE), A.length = n → T = A ++ t :: B → lst listed t.i = true := by
    intro n
    induction n using Nat.strongRecOn with
    | _ n ih =>
      intro A t B hlen h
      have ho := (c.at h).1
      cases hl : lst listed t.i with
      | true => rfl
      | false =>
        have : t.i ∈ Region.ready .any ops listed := by
          refine ready_of ho hl (fun e he hb => ?_) hs
          have hbf := bf_edge ho he hb
          have hlt : e.on < ops.size := by
            have h1 := hedge t.o (by
              have := (Array.getElem?_eq_some_iff.1 ho)
              obtain ⟨h2, h3⟩ := this
              rw [← h3]; simp)
            unfold edgesIn at h1
            rw [List.all_eq_true] at h1
            have h2 := h1 e (by simpa using he)
            simpa [hb] using h2
          have hin := hcov e.on hlt
          rw [List.contains_iff_mem, ← hids, List.mem_map] at hin
          obtain ⟨u, hu, hui⟩ := hin
          rw [h] at hu
          rcases List.mem_append.1 hu with hu | hu
          · obtain ⟨A1, A2, hA⟩ := List.append_of_mem hu
            rw [← hui]
            refine ih A1.length ?_ A1 u (A2 ++ t :: B) rfl (by rw [h, hA]; simp)
            rw [← hlen, hA]; simp
          · rcases List.mem_cons.1 hu with rfl | hu
            · exfalso
              have h1 := hirr u.i (by rw [← hids, List.mem_map]; exact ⟨u, by rw [h]; simp, rfl⟩)
              rw [← hui] at hbf
              rw [hbf] at h1; cases h1
            · exfalso
              have h1 := (c.after h hu).2.1
              rw [hui, hbf] at h1; cases h1
        rw [hn] at this; simp at this
  intro t ht
  obtain ⟨A, B, h⟩ := List.append_of_mem ht
  exact key _ A t B rfl h
theorem countP_lt {p q : Nat → Bool} {i : Nat} : ∀ {l : List Nat}, i ∈ l → (∀ j, q j = true → p j = true) → p i = true → q i = false → l.countP q < l.countP p
  | [], h, _, _, _ => by simp at h
  | j :: l, h, himp, hp, hq => by
    have hle : ∀ l : List Nat, l.countP q ≤ l.countP p := fun l => List.countP_mono_left fun x _ hx => himp x hx
    simp only [List.countP_cons]
    rcases List.mem_cons.1 h with rfl | h
    · rw [hp, hq]; have := hle l; simp; omega
    · have := countP_lt h himp hp hq
      cases hqj : q j with
      | true => rw [himp j hqj]; simp; omega
      | false => cases p j <;> simp <;> omega
theorem lst_set {listed : Array Bool} {i : Nat} (hi : i < listed.size) (j : Nat) : lst (listed.setIfInBounds i true) j = if j = i then true else lst listed j := by
  unfold lst
  rw [Array.getD_eq_getD_getElem?, Array.getD_eq_getD_getElem?, Array.getElem?_setIfInBounds]
  by_cases h : i = j
  · subst h; simp [hi]
  · have h' : ¬ j = i := fun e => h e.symm
    simp [h, h']
end
end Go.Ev

namespace Go.Ev
section
variable {E : Env} {P : Program} {call : CallT} {ops : Array Oper} {ord : List Nat} {R0 Rf : Regs} {H0 Hf : AHeap} {T : List TE} {ρ0 : Env} {w0 : World} {Q : Exit → Act → World → Prop}
theorem Ctx.uniq (c : Ctx P call ops ord R0 H0 T Rf Hf) {A B : List TE} {t : TE} (h : T = A ++ t :: B) {u : TE} (hu : u ∈ T) (he : u.i = t.i) : u = t := by
  rw [h] at hu
  rcases List.mem_append.1 hu with hu | hu
  · exact absurd he (c.before h hu).1
  · rcases List.mem_cons.1 hu with rfl | hu
    · rfl
    · exact absurd he.symm (c.after h hu).1
def MidAt (H0 : AHeap) (T : List TE) (N : Nat) (ρ0 : Env) (w0 : World) (L : Nat → Bool) (ρ : Env) (w : World) (T1 T2 : List TE) : Prop :=
  T = T1 ++ T2 ∧ (∀ t ∈ T1, t.k.isHeap = true → L t.i = true) ∧ (∀ t ∈ T2, (∃ v H, t.k = .eff v H) → L t.i = false) ∧ Mid ρ0 H0 w0 N (pendOf L T2 (hAfter T1 H0)) ρ (hAfter T1 H0) w
theorem Ctx.next (c : Ctx P call ops ord R0 H0 T Rf Hf) {A B : List TE} {t : TE} (h : T = A ++ t :: B) {listed : Array Bool} (hs : listed.size = ops.size) (hc : Closed ops (lst listed)) (hl : lst listed t.i = false)
    (hw : Waits (lst listed) t.o) {ρ : Env} {RL : Regs} {a : Act} {x : Value} {w : World} (r1 : RRel ρ RL a) (r2 : RL.size = R0.size) (r3 : ∀ d, RL.get d = regAt (lst listed) d T (R0.get d)) (hx : VRel ρ t.k.val x) {T1 T2 : List TE}
    (m : MidAt H0 T Hf.next ρ0 w0 (lst (listed.setIfInBounds t.i true)) ρ w T1 T2) : Inv ops R0 H0 T Hf.next ρ0 w0 (listed.setIfInBounds t.i true) (a.put t.o.dst x) w := by
  obtain ⟨ho, _, _, hd⟩ := c.at h
  have hlt : t.i < listed.size := by rw [hs]; exact (Array.getElem?_eq_some_iff.1 ho).1
  have hL' : lst (listed.setIfInBounds t.i true) t.i = true := by rw [lst_set hlt]; simp
  have hLo : ∀ j, j ≠ t.i → lst (listed.setIfInBounds t.i true) j = lst listed j := fun j hj => by rw [lst_set hlt]; simp [hj]
  have hmono : ∀ j, lst listed j = true → lst (listed.setIfInBounds t.i true) j = true := fun j hj => by
    by_cases e : j = t.i
    · rw [e]; exact hL'
    · rw [hLo j e]; exact hj
  have hput : ∃ R', RL.put t.o.dst t.k.val = some R' := by
    cases hdst : t.o.dst with
    | none => exact ⟨RL, rfl⟩
    | some d =>
      have := hd d hdst
      exact ⟨{ RL with t := Tr.put t.k.val (d + 1) RL.t d }, by simp only [Regs.put]; rw [if_pos (by rw [r2]; exact this)]⟩
  obtain ⟨R', hR'⟩ := hput
  refine ⟨by simpa using hs, fun i o hi hli e he hb => ?_, ρ, T1, T2, m.1, m.2.1, m.2.2.1, m.2.2.2, R', r1.put hR' hx, by rw [Regs.size_put hR', r2], fun d => ?_⟩
  · by_cases e' : i = t.i
    · subst e'
      rw [ho] at hi; cases hi
      exact hmono _ (hw e he hb)
    · rw [hLo i e'] at hli
      exact hmono _ (hc i o hi hli e he hb)
  · rw [Regs.get_put hR' d, c.adds h hc hl hL' hLo d, r3 d]
theorem Ctx.norm (c : Ctx P call ops ord R0 H0 T Rf Hf) {N : Nat} {L : Nat → Bool} {ρ : Env} {w : World} : ∀ {T2 T1 : List TE}, MidAt H0 T N ρ0 w0 L ρ w T1 T2 →
    ∃ T1' T2', MidAt H0 T N ρ0 w0 L ρ w T1' T2' ∧ ∀ u B', T2' = u :: B' → u.k.isHeap = true ∧ L u.i = false
  | [], T1, m => ⟨T1, [], m, fun u B' h => by cases h⟩
  | u :: T2, T1, m => by
    by_cases hh : u.k.isHeap = true ∧ L u.i = false
    · exact ⟨T1, u :: T2, m, fun u' B' h => by simp only [List.cons.injEq] at h; rw [← h.1]; exact hh⟩
    · obtain ⟨h1, h2, h3, h4⟩ := m
      have hmono := canRun_mono c.hT
      rw [h1] at hmono
      have hm2 := (Mono.append hmono).2
      have m' := Mid.turns (C := [u]) (D := T2) (L := L) hm2 (fun v hv hvh => by
        have : v = u := by simpa using hv
        subst this
        have hl : L v.i = true := by
          cases hv : L v.i with
          | true => rfl
          | false => exact absurd ⟨hvh, hv⟩ hh
        refine ⟨hl, ?_⟩
        cases hk : v.k with
        | new x b => exact ⟨x, b, rfl⟩
        | eff x H => rw [h3 v (by simp) ⟨x, H, hk⟩] at hl; cases hl
        | _ => rw [hk] at hvh; cases hvh) h4
      rw [← hAfter_append] at m'
      refine c.norm (T2 := T2) (T1 := T1 ++ [u]) ⟨by rw [h1]; simp, fun v hv hvh => ?_, fun v hv => h3 v (by simp [hv]), m'⟩
      rcases List.mem_append.1 hv with hv | hv
      · exact h2 v hv hvh
      · have : v = u := by simpa using hv
        subst this
        cases hv : L v.i with
        | true => rfl
        | false => exact absurd ⟨hvh, hv⟩ hh
theorem pendOf_at {L : Nat → Bool} {u : TE} {v : AV} {b : ABlk} (hu : u.k = .new v b) (hL : L u.i = true) : ∀ {C D : List TE} {H : AHeap}, Mono H (C ++ u :: D) → pendOf L (C ++ u :: D) H (hAfter C H).next = some b
  | [], D, H, _ => by simp [pendOf, hu, hL, hAfter]
  | c :: C, D, H, hm => by
    have ih := pendOf_at hu hL (C := C) (D := D) hm.2
    have hle : ∀ {C : List TE} {H : AHeap}, Mono H C → H.next ≤ (hAfter C H).next := by
      intro C
      induction C with
      | nil => intro H _; exact Nat.le_refl _
      | cons x C ihc => intro H h; exact Nat.le_trans h.1 (ihc h.2)
    by_cases hn : ∃ v b, c.k = .new v b
    · obtain ⟨v', b', hk⟩ := hn
      have h2 := hle (Mono.append hm.2).1
      have hm2 := hm.2
      rw [hk] at h2 hm2 ih
      simp only [K.heap, AHeap.next_push] at h2 ih
      simp only [List.cons_append, pendOf, hk, hAfter, K.heap]
      rw [if_neg (by omega)]
      exact ih
    · rw [List.cons_append, pendOf_skip fun v b h => hn ⟨v, b, h⟩, hAfter]
      exact ih
theorem hAfter_get {l : Nat} : ∀ {C : List TE} {H : AHeap}, (∀ x ∈ C, noEff x.k = true) → l < H.next → (hAfter C H).get l = H.get l
  | [], H, _, _ => rfl
  | c :: C, H, hC, hl => by
    have h0 := hC c (by simp)
    rw [hAfter]
    cases hk : c.k with
    | new v b =>
      rw [hAfter_get (fun x hx => hC x (by simp [hx])) (by simp only [K.heap, AHeap.next_push]; omega)]
      exact AHeap.get_push_other (by omega)
    | eff v H' => rw [hk] at h0; cases h0
    | _ => exact hAfter_get (fun x hx => hC x (by simp [hx])) hl
theorem Rel.of_only {ρ : Env} {H : AHeap} {w : World} {b : ABlk} (h : b ≠ .dead → ∃ loc, ρ H.next = some loc ∧ BlkOk ρ w loc b) : Rel ρ (H.push b).only w where
  row l ro esz els hg := by
    obtain ⟨rfl, rfl⟩ := AHeap.only_get hg
    obtain ⟨loc, h1, h2⟩ := h (by intro e; cases e)
    exact ⟨loc, h1, h2⟩
  map l es hg := by
    obtain ⟨rfl, rfl⟩ := AHeap.only_get hg
    obtain ⟨loc, h1, h2⟩ := h (by intro e; cases e)
    exact ⟨loc, h1, h2⟩
  apart l l' loc loc' h1 h2 hne _ _ := by
    exfalso
    have a1 : ∃ x, (H.push b).only.get l = some x := by
      unfold AHeap.rw at h1
      cases hg : (H.push b).only.get l with
      | none => simp [hg] at h1
      | some x => exact ⟨x, rfl⟩
    have a2 : ∃ x, (H.push b).only.get l' = some x := by
      unfold AHeap.live at h2
      cases hg : (H.push b).only.get l' with
      | none => simp [hg] at h2
      | some x => exact ⟨x, rfl⟩
    obtain ⟨x, a1⟩ := a1
    obtain ⟨y, a2⟩ := a2
    exact hne ((AHeap.only_get a1).1.trans (AHeap.only_get a2).1.symm)
theorem Ctx.any (c : Ctx P call ops ord R0 H0 T Rf Hf) (hcall : CallOk E P call) (hE : E.le ρ0) (hQ : ∀ ρ a w, RRel ρ Rf a → Step ρ0 H0 w0 ρ Hf w → Q .normal a w) :
    ∀ (fuel : Nat) (listed : Array Bool) (a : Act) (w : World), Inv ops R0 H0 T Hf.next ρ0 w0 listed a w → (List.range ops.size).countP (fun j => !lst listed j) ≤ fuel → wpAny P .any ops Q fuel listed a w := by
  have hfin : ∀ listed a w, Inv ops R0 H0 T Hf.next ρ0 w0 listed a w → Region.ready .any ops listed = [] → Q .normal a w := by
    intro listed a w hi hr
    obtain ⟨ρ, h1, h2⟩ := c.final hi (c.all_of_none hi.size hr)
    exact hQ ρ a w h1 h2
  intro fuel
  induction fuel with
  | zero =>
    intro listed a w hi hcnt
    have hr : Region.ready .any ops listed = [] := by
      rw [List.eq_nil_iff_forall_not_mem]
      intro i hin
      obtain ⟨o, h1, h2, h3, h4⟩ := ready_spec hin hi.size
      have hpos : 0 < (List.range ops.size).countP (fun j => !lst listed j) := List.countP_pos_iff.2 ⟨i, by simpa using h4, by simp [h2]⟩
      omega
    exact ⟨hr, hfin _ _ _ hi hr⟩
  | succ fuel ih =>
    intro listed a w hi hcnt
    refine ⟨fun hr => hfin _ _ _ hi hr, fun i hin => ?_⟩
    obtain ⟨o, ho, hl, hw, hlt⟩ := ready_spec hin hi.size
    have hplan := c.plan
    simp only [planOk, Bool.and_eq_true, List.all_eq_true, List.mem_range] at hplan
    have hmem := hplan.1 i hlt
    rw [List.contains_iff_mem, ← (canRun_regs c.hT).1, List.mem_map] at hmem
    obtain ⟨t, ht, rfl⟩ := hmem
    have hto := c.mem ht
    obtain rfl : t.o = o := Option.some.inj (hto.symm.trans ho)
    obtain ⟨ρ, T1, T2, e1, e2, e3, m, RL, r1, r2, r3⟩ := hi.mid
    have hsz : t.i < listed.size := by rw [hi.size]; exact hlt
    have hL' : lst (listed.setIfInBounds t.i true) t.i = true := by rw [lst_set hsz]; simp
    have hLo : ∀ j, j ≠ t.i → lst (listed.setIfInBounds t.i true) j = lst listed j := fun j hj => by rw [lst_set hsz]; simp [hj]
    have hcnt' : (List.range ops.size).countP (fun j => !lst (listed.setIfInBounds t.i true) j) ≤ fuel := by
      have := countP_lt (p := fun j => !lst listed j) (q := fun j => !lst (listed.setIfInBounds t.i true) j) (i := t.i) (l := List.range ops.size) (by simpa using hlt)
        (fun j hj => by
          by_cases e : j = t.i
          · rw [e, hL'] at hj; cases hj
          · simp only [hLo j e] at hj; exact hj) (by simp [hl]) (by simp [hL'])
      omega
    obtain ⟨A0, B0, h0⟩ := List.append_of_mem ht
    have hlooks : ∀ d ∈ t.o.looksAt ops, RL.get d = t.R.get d := fun d hd => by rw [r3 d]; exact c.looks h0 hi.closed hw hl d hd
    have hvals := aval_congr_looks hlooks
    have hwant : Region.wanted t.o (yielded ops a.tmps) = awanted ops t.R t.o := (awanted_sound r1 t.o).trans (awanted_congr hlooks)
    unfold wpOp
    rw [ho]
    simp only [hwant]
    have still : t.k.isHeap = false → ∀ x, VRel ρ t.k.val x → wpAny P .any ops Q fuel (listed.setIfInBounds t.i true) (a.put t.o.dst x) w := by
      intro hh x hx
      refine ih _ _ _ (c.next h0 hi.size hi.closed hl hw r1 r2 r3 hx (T1 := T1) (T2 := T2) ⟨e1, fun u hu huh => ?_, fun u hu hue => ?_, ?_⟩) hcnt'
      · have := e2 u hu huh
        by_cases e : u.i = t.i
        · rw [e]; exact hL'
        · rw [hLo _ e]; exact this
      · have hne : u.i ≠ t.i := fun e => by
          have := c.uniq h0 (by rw [e1]; simp [hu]) e
          subst this
          obtain ⟨v, H, hk⟩ := hue
          rw [hk] at hh; cases hh
        rw [hLo _ hne]; exact e3 u hu hue
      · rw [pendOf_congr (L' := lst listed) fun u hu v b hk => hLo _ fun e => by
          have := c.uniq h0 (by rw [e1]; simp [hu]) e
          subst this
          rw [hk] at hh; cases hh]
        exact m
    rcases kind1_ok (c.at h0).2.2.1 with ⟨hwt, hk⟩ | ⟨hwt, hk⟩
    · rw [hwt]
      simp only [if_true]
      refine .inl ?_
      have hT2 : t.k.isHeap = true → ∃ C D, T2 = C ++ t :: D := fun hh => by
        rw [e1] at ht
        rcases List.mem_append.1 ht with ht | ht
        · have := e2 t ht hh; rw [hl] at this; cases this
        · exact List.append_of_mem ht
      have hmono := canRun_mono c.hT
      cases hkk : t.k with
      | skip => rw [hkk] at hk; exact hk.elim
      | pure v =>
        rw [hkk] at hk
        have hk' := KOk.congr (fun x hx => (hvals x hx).symm) hk
        exact pure_wp hk' r1 fun x hx => still (by rw [hkk]; rfl) x (by rw [hkk]; exact hx)
      | read v =>
        obtain ⟨T1', T2', ⟨f1, f2, f3, f4⟩, f5⟩ := c.norm (ρ0 := ρ0) (w0 := w0) (N := Hf.next) (L := lst listed) (ρ := ρ) (w := w) (T2 := T2) (T1 := T1) ⟨e1, e2, e3, m⟩
        have hrd : ∃ Hx, Rel ρ Hx w ∧ aread P t.o.op t.R Hx = some v := by
          rcases winsOk_at hkk c.win ht with hez | hsee
          ·
            refine ⟨_, f4.rel, ?_⟩
            have hkr : aread P t.o.op t.R (hAfter A0 H0) = some v := by
              rcases kind1_ok (c.at h0).2.2.1 with ⟨_, hk2⟩ | ⟨hx, _⟩
              · rw [hkk] at hk2; exact hk2
              · rw [hwt] at hx; cases hx
            have hheap : ∀ u ∈ T, u.k.isHeap = true → u.i ≠ t.i ∧ (bfOf (masks ops) u.i t.i = true ∨ bfOf (masks ops) t.i u.i = true) := fun u hu hh => by
              have hne : u.i ≠ t.i := fun e => by
                have := c.uniq h0 hu e
                subst this
                rw [hkk] at hh; cases hh
              obtain ⟨A1, B1, h1⟩ := List.append_of_mem hu
              refine ⟨hne, tied_spec hez ?_ hne (c.at h1).1 (kind1_heap (c.at h1).2.2.1 hh)⟩
              rw [← (canRun_regs c.hT).1, List.mem_map]; exact ⟨u, hu, rfl⟩
            have hlow : ∀ u ∈ A0, u.k.isHeap = true → lst listed u.i = true := fun u hu hh => by
              rcases (hheap u (by rw [h0]; simp [hu]) hh).2 with h1 | h1
              · exact bf_listed hi.closed _ _ ho hw _ h1
              · have := (c.before h0 hu).2.1; rw [h1] at this; cases this
            have hhigh : ∀ u ∈ B0, u.k.isHeap = true → lst listed u.i = false := fun u hu hh => by
              have humem : u ∈ T := by rw [h0]; simp [hu]
              rcases (hheap u humem hh).2 with h1 | h1
              · have := (c.after h0 hu).2.1; rw [h1] at this; cases this
              · cases hlu : lst listed u.i with
                | false => rfl
                | true =>
                  have hou := c.mem humem
                  have := bf_listed hi.closed _ _ hou (hi.closed _ _ hou hlu) _ h1
                  rw [hl] at this; cases this
            have hsplit : T1' ++ T2' = A0 ++ t :: B0 := by rw [← f1, ← h0]
            rcases List.append_eq_append_iff.1 hsplit with ⟨a', ha1, ha2⟩ | ⟨c', hc1, hc2⟩
            · cases a' with
              | nil => rw [List.append_nil] at ha1; rw [← ha1]; exact hkr
              | cons u a'' =>
                obtain ⟨g1, g2⟩ := f5 u (a'' ++ t :: B0) ha2
                have := hlow u (by rw [ha1]; simp) g1
                rw [g2] at this; cases this
            · have hst : ∀ (X : List TE) (H : AHeap), (∀ u ∈ X, u.k.isHeap = false) → hAfter X H = H := by
                intro X
                induction X with
                | nil => intro H _; rfl
                | cons u X ih => intro H hX; rw [hAfter, heap_still (hX u (by simp))]; exact ih H fun u hu => hX u (by simp [hu])
              rw [hc1, hAfter_append, hst c' _ ?_]
              · exact hkr
              · intro u hu
                cases hh : u.k.isHeap with
                | false => rfl
                | true =>
                  have h1 := f2 u (by rw [hc1]; simp [hu]) hh
                  have h2 : u ∈ t :: B0 := by rw [hc2]; simp [hu]
                  rcases List.mem_cons.1 h2 with rfl | h2
                  · rw [hkk] at hh; cases hh
                  · have := hhigh u h2 hh; rw [h1] at this; cases this
          · rcases seeOk_at hsee with hwin | hnew
            rotate_left
            · obtain ⟨A, u, B, v', b, g1, g2, g3, g4, g5⟩ := newOk_at hnew
              refine ⟨_, Rel.of_only fun hb => ?_, readIs_eq g5⟩
              have hlu := bf_listed hi.closed _ _ ho hw _ g3
              have hsplit : T1' ++ T2' = A ++ u :: B := by rw [← f1, ← g1]
              rcases List.append_eq_append_iff.1 hsplit with ⟨a', ha1, ha2⟩ | ⟨c', hc1, hc2⟩
              · have hp := f4.pends (hAfter A H0).next b (by
                  rw [f1] at hmono
                  have hm2 := (Mono.append hmono).2
                  rw [ha2] at hm2 ⊢
                  rw [ha1, hAfter_append]
                  exact pendOf_at g2 hlu hm2)
                obtain ⟨_, _, _, loc, p1, p2, _⟩ := hp
                exact ⟨loc, p1, p2⟩
              · cases c' with
                | nil =>
                  have hp := f4.pends (hAfter A H0).next b (by
                    rw [f1] at hmono
                    have hm2 := (Mono.append hmono).2
                    rw [List.nil_append] at hc2
                    rw [List.append_nil] at hc1
                    rw [← hc2] at hm2 ⊢
                    rw [hc1] at hm2 ⊢
                    exact pendOf_at (C := []) g2 hlu hm2)
                  obtain ⟨_, _, _, loc, p1, p2, _⟩ := hp
                  exact ⟨loc, p1, p2⟩
                | cons x c'' =>
                  simp only [List.cons_append, List.cons.injEq] at hc2
                  obtain ⟨rfl, hc2⟩ := hc2
                  have hget : (hAfter T1' H0).get (hAfter A H0).next = some b := by
                    rw [hc1, hAfter_append, hAfter, g2]
                    rw [hAfter_get (fun x hx => g4 x (by rw [hc2]; simp [hx])) (by simp [K.heap])]
                    exact AHeap.get_push_same _ b
                  cases b with
                  | row ro esz els => exact f4.rel.row _ _ _ _ hget
                  | map es => exact f4.rel.map _ _ hget
                  | dead => exact absurd rfl hb
            refine ⟨_, f4.rel, ?_⟩
            rw [show winOk (masks ops) (readIs P t.o.op t.R v) t.i T H0 = winOk (masks ops) (readIs P t.o.op t.R v) t.i (T1' ++ T2') H0 by rw [← f1]] at hwin
            exact readIs_eq (winOk_at hwin (fun u hu huh => by
              cases hb : bfOf (masks ops) t.i u.i with
              | false => rfl
              | true =>
                have hou := c.mem (t := u) (by rw [f1]; simp [hu])
                have := bf_listed hi.closed _ _ hou (hi.closed _ _ hou (f2 u hu huh)) _ hb
                rw [hl] at this; cases this) (fun u B' hu => by
              obtain ⟨g1, g2⟩ := f5 u B' hu
              refine ⟨g1, ?_⟩
              cases hb : bfOf (masks ops) u.i t.i with
              | false => rfl
              | true =>
                have := bf_listed hi.closed _ _ ho hw _ hb
                rw [g2] at this; cases this))
        obtain ⟨Hx, hx1, hrd⟩ := hrd
        rw [← aread_congr hvals] at hrd
        exact read_wp hx1 hrd r1 fun x hx => still (by rw [hkk]; rfl) x (by rw [hkk]; exact hx)
      | new v b =>
        obtain ⟨C, D, hCD⟩ := hT2 (by rw [hkk]; rfl)
        have h1 : T = (T1 ++ C) ++ t :: D := by rw [e1, hCD]; simp
        have hkind := (c.at h1).2.2.1
        rcases kind1_ok hkind with ⟨_, hk1⟩ | ⟨hx, _⟩
        · rw [hkk] at hk1
          have hk' := KOk.congr (fun x hx => (hvals x hx).symm) hk1
          have hm2 : Mono (hAfter T1 H0) (C ++ t :: D) := by
            have := hmono; rw [e1, hCD] at this; exact (Mono.append this).2
          obtain ⟨p1, p2⟩ := pendOf_add (L := lst listed) (L' := lst (listed.setIfInBounds t.i true)) hkk hl hL' hm2
            (fun u hu => (hLo _ (c.before h1 (by simp [hu])).1).symm) (fun u hu => (hLo _ (Ne.symm (c.after h1 hu).1)).symm)
          have hge : (hAfter T1 H0).next ≤ (hAfter C (hAfter T1 H0)).next := (Mono.append hm2).1.le
          have hlN : (hAfter C (hAfter T1 H0)).next < Hf.next := by
            have h2 := (Mono.append hm2).2
            have h3 := h2.2.le
            rw [hkk] at h3
            have h4 : Hf = hAfter D (K.heap (hAfter C (hAfter T1 H0)) (.new v b)) := by
              rw [(canRun_regs c.hT).2.1, h1, hAfter_append, hAfter_append, hAfter, hkk]
            rw [h4]
            simp only [K.heap, AHeap.next_push] at h3 ⊢
            omega
          rw [hCD] at m
          have hk'' : anew P t.o.op RL (hAfter C (hAfter T1 H0)).next = some (v, b) := by rw [← hAfter_append]; exact hk'
          refine new_wp hk'' r1 (m.fresh _ hge hlN p2) fun x w' ρ' loc q1 q2 q3 q4 q5 q6 q7 q8 q9 q10 q11 q12 => ?_
          have m' := m.early hge hlN p2 q2 q3 q4 q5 q6 q7 q8 q9 q10 q11 q12
          rw [← p1] at m'
          refine ih _ _ _ (c.next h0 hi.size hi.closed hl hw (r1.mono q2) r2 r3 (by rw [hkk]; exact q1) (T1 := T1) (T2 := C ++ t :: D) ⟨by rw [e1, hCD], fun u hu huh => ?_, fun u hu hue => ?_, m'⟩) hcnt'
          · have := e2 u hu huh
            by_cases e : u.i = t.i
            · rw [e]; exact hL'
            · rw [hLo _ e]; exact this
          · have hne : u.i ≠ t.i := fun e => by
              have := c.uniq h0 (by rw [e1, hCD]; simp at hu ⊢; exact .inr hu) e
              subst this
              obtain ⟨v', H, hk'⟩ := hue
              rw [hkk] at hk'; cases hk'
            rw [hLo _ hne]; exact e3 u (by rw [hCD]; exact hu) hue
        · rw [hwt] at hx; cases hx
      | eff v H' =>
        obtain ⟨C, D, hCD⟩ := hT2 (by rw [hkk]; rfl)
        have h1 : T = (T1 ++ C) ++ t :: D := by rw [e1, hCD]; simp
        have hkind := (c.at h1).2.2.1
        rcases kind1_ok hkind with ⟨_, hk1⟩ | ⟨hx, _⟩
        · rw [hkk] at hk1
          have hk' := KOk.congr (fun x hx => (hvals x hx).symm) hk1
          have hm2 : Mono (hAfter T1 H0) (C ++ t :: D) := by
            have := hmono; rw [e1, hCD] at this; exact (Mono.append this).2
          have heff := c.eff
          rw [h1] at heff
          have hbefore := (effOk_at heff hkk).2
          rw [hCD] at m
          have m1 := Mid.turns (C := C) (D := t :: D) (L := lst listed) hm2 (fun u hu hh => by
            have hlu := bf_listed hi.closed _ _ ho hw _ (hbefore u (by simp [hu]) hh)
            refine ⟨hlu, ?_⟩
            cases hku : u.k with
            | new x b => exact ⟨x, b, rfl⟩
            | eff x H => rw [e3 u (by rw [hCD]; simp [hu]) ⟨x, H, hku⟩] at hlu; cases hlu
            | _ => rw [hku] at hh; cases hh) m
          rw [pendOf_skip (fun v b h => by rw [hkk] at h; cases h), hkk] at m1
          simp only [K.heap] at m1
          have hm3 : Mono H' D := by have := (Mono.append hm2).2.2; rw [hkk] at this; exact this
          have hHf : Hf = hAfter D H' := by rw [(canRun_regs c.hT).2.1, h1, hAfter_append, hAfter, hkk]; rfl
          have hN : H'.next ≤ Hf.next := by rw [hHf]; exact hm3.le
          rw [hAfter_append] at hk'
          refine eff_wp (H := hAfter C (hAfter T1 H0)) (H' := H') hcall m1.rel ⟨fun l g1 g2 => m1.fresh l g1 (by omega) ?_, Env.le_trans hE m1.le⟩ hk' r1 fun x w' ρ' g1 g2 => ?_
          · cases hq : pendOf (lst listed) D H' l with
            | none => rfl
            | some b => have := pendOf_ge hm3 hq; omega
          · have m2 := m1.step g2 hN (fun l b hq => pendOf_ge hm3 hq)
            refine ih _ _ _ (c.next h0 hi.size hi.closed hl hw (r1.mono g2.le) r2 r3 (by rw [hkk]; exact g1) (T1 := T1 ++ C ++ [t]) (T2 := D) ⟨by rw [h1]; simp, fun u hu huh => ?_, fun u hu hue => ?_, ?_⟩) hcnt'
            · by_cases e : u.i = t.i
              · rw [e]; exact hL'
              · rw [hLo _ e]
                simp only [List.mem_append, List.mem_singleton] at hu
                rcases hu with (hu | hu) | rfl
                · exact e2 u hu huh
                · exact bf_listed hi.closed _ _ ho hw _ (hbefore u (by simp [hu]) huh)
                · exact absurd rfl e
            · rw [hLo _ (Ne.symm (c.after h1 hu).1)]
              exact e3 u (by rw [hCD]; simp [hu]) hue
            · have hH : hAfter (T1 ++ C ++ [t]) H0 = H' := by rw [hAfter_append, hAfter, hkk]; rfl
              rw [hH, pendOf_congr (L' := lst listed) fun u hu v b hk => hLo _ (Ne.symm (c.after h1 hu).1)]
              exact m2
        · rw [hwt] at hx; cases hx
    · rw [hwt]
      simp only [Bool.false_eq_true, if_false]
      exact still (by rw [hk]; rfl) undef (by rw [hk]; exact .tuple [] [] .nil)
theorem wp_drawn {id : Nat} {a : Act} {w : World} (hm : P.follows .mixedOrders = true) (hcall : CallOk E P call) (c : Ctx P call ops ord R0 H0 T Rf Hf) (hR : Rel ρ0 H0 w) (hf : Fresh E ρ0 H0.next Hf.next) (hr : RRel ρ0 R0 a)
    (hQ : ∀ ρ a w', RRel ρ Rf a → Step ρ0 H0 w ρ Hf w' → Q .normal a w') : (Code.region id ops true).wp P Q a w := by
  have hlst : ∀ j, lst (Array.replicate ops.size false) j = false := fun j => by
    unfold lst; rw [Array.getD_eq_getD_getElem?]
    by_cases h : j < ops.size <;> simp [h]
  refine wp_region_any hm (c.any (ρ0 := ρ0) (w0 := w.drew) hcall hf.le (fun ρ a w' h1 h2 => hQ ρ a w' h1 ?_) _ _ _ _ ⟨by simp, fun i o _ hl => absurd hl (by rw [hlst]; simp), ρ0, [], T, rfl, by simp, fun t _ _ => hlst _, ?_, R0, hr, rfl, fun d => ?_⟩ ?_)
  · exact ⟨h2.le, h2.next, h2.keep, h2.rel, h2.os, h2.tape, h2.output, h2.size, h2.frame, h2.own, h2.ro⟩
  · have hp : pendOf (lst (Array.replicate ops.size false)) T (hAfter [] H0) = fun _ => none := by
      have : ∀ (T : List TE) (H : AHeap), pendOf (lst (Array.replicate ops.size false)) T H = fun _ => none := by
        intro T
        induction T with
        | nil => intro H; rfl
        | cons t T ih =>
          intro H
          funext l
          unfold pendOf
          split
          · rw [ih, hlst]; simp
          · rw [ih]
      exact this T _
    rw [hp]
    exact Mid.start hR.drew hf.new
  · rw [regAt_none fun t _ _ => hlst _]
  · refine Nat.le_trans List.countP_le_length ?_
    simp
end
end Go.Ev


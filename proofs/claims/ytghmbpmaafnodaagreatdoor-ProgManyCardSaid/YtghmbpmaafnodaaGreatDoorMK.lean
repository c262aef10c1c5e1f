/-
  Texts of one proof, laid together: E1 Ms E2 Z12 Zb ShS U1 U2.
-/
import Derived.Test.YtghmbpmaafnodaaGreatDoorMH
import Derived.Test.YtghmbpmaafnodaaGreatDoorMJ
import Derived.Test.YtghmbpmaafnodaaGreatDoorMF
import Derived.Test.YtghmbpmaafnodaaGreatDoorMD
set_option linter.unusedVariables false
set_option linter.unusedSimpArgs false
namespace Go.Proofs.YtghmbpmaafnodaaGreatDoor
open Go.Ev
theorem map_and2 (x y : Bool) : Option.map AV.bool (bif x then (bif y then some true else some false) else some false) = some (.bool (x && y)) := by cases x <;> cases y <;> rfl
theorem map_and3 (x y z : Bool) : Option.map AV.bool (bif x then (bif y then (bif z then some true else some false) else some false) else some false) = some (.bool (x && (y && z))) := by cases x <;> cases y <;> cases z <;> rfl
theorem eq32 {c : Bool} (a a' : List UInt8) (b b' : Int) : fbin P .eql 43 c (.agg [.str a, .int .i64 b]) (.agg [.str a', .int .i64 b']) = some (.bool (a == a' && b == b')) :=
 Eq.trans (by kernel_rfl) (map_and2 (a == a') (b == b'))
theorem eq37 {c : Bool} (a a' : Int) (b b' : Int) (d d' : Int) : fbin P .eql 101 c (.agg [.int .i64 a, .int .i64 b, .int .i64 d]) (.agg [.int .i64 a', .int .i64 b', .int .i64 d']) = some (.bool (a == a' && (b == b' && d == d'))) :=
 Eq.trans (by kernel_rfl) (map_and3 (a == a') (b == b') (d == d'))
theorem rdIs3 (a b c : Int) : rdIs (some (.agg [.int .i64 a, .int .i64 b, .int .i64 c])) (.agg [.int .i64 a, .int .i64 b, .int .i64 c]) = true := by simp [rdIs, AV.beq, AVs.beq]
mutual
def sameE : Ex → Ex → Bool
 | .mk a ks, .mk b ls => a.kind == b.kind && (a.n == b.n && (a.name == b.name && ((a.ofn == b.ofn && a.ofd == b.ofd) && ((a.tb == b.tb && (a.tr == b.tr && a.td == b.td)) && (a.ref == b.ref && sameL ks ls)))))
def sameL : List Ex → List Ex → Bool
 | [], [] => true
 | [], _ :: _ => false
 | _ :: _, [] => false
 | e :: es, f :: fs => sameE e f && sameL es fs
end
mutual
def Sm (B : Nat) : Ex → Prop
 | .mk _ ks => ks.length ≤ B ∧ SmL B ks
def SmL (B : Nat) : List Ex → Prop
 | [] => True
 | e :: es => Sm B e ∧ SmL B es
end
theorem sameL_length : ∀ (es fs : List Ex), es.length ≠ fs.length → sameL es fs = false
 | [], [], h => absurd rfl h
 | [], _ :: _, _ => by rw [sameL]
 | _ :: _, [], _ => by rw [sameL]
 | e :: es, f :: fs, h => by rw [sameL, sameL_length es fs (by simpa using h), Bool.and_false]
theorem KsV.oneAV {H : AHeap} {ok : Nat → Prop} {ks : List Ex} {kv : AV} (h : KsV H ok ks kv) : kv.one = true := by
 rcases h with ⟨rfl, _⟩ | ⟨l, i, cap, ro, els, rfl, _⟩ | ⟨l, i, cap, rfl, _⟩ <;> rfl
theorem KsV.pur {H H' : AHeap} {ok : Nat → Prop} {ks : List Ex} {kv : AV} (h : KsV H ok ks kv) (p : Pur H H') : KsV H' ok ks kv := h.keep (Keep.pur p fun _ h => h)
theorem ExV.pur {H H' : AHeap} {ok : Nat → Prop} {e : Ex} {v : AV} (h : ExV H ok e v) (p : Pur H H') : ExV H' ok e v := ExV.keep (Keep.pur p fun _ h => h) e v h
theorem ElsV.cons {H : AHeap} {ok : Nat → Prop} {e : Ex} {es : List Ex} {els : List (List AV)} {k : Nat} (h : ElsV H ok (e :: es) (els.drop k)) : ∃ cs, els[k]? = some cs ∧ ExV H ok e (.agg cs) ∧ ElsV H ok es (els.drop (k + 1)) := by
 cases hd : els.drop k with
 | nil => rw [hd, ElsV] at h; exact h.elim
 | cons cs css =>
  rw [hd, ElsV] at h
  have h1 : els[k]? = some cs := by
   have := List.getElem?_drop (xs := els) (i := k) (j := 0)
   rw [hd] at this
   simpa using this.symm
  have h2 : els.drop (k + 1) = css := by
   have : (els.drop k).drop 1 = css := by rw [hd]; rfl
   rwa [List.drop_drop] at this
  exact ⟨cs, h1, h.1, by rw [h2]; exact h.2⟩
theorem same24 {H : AHeap} {a b : Ea} {ks ls : List Ex} {kv lv : AV} (h1 : kv.one = true) (h2 : lv.one = true)
  (hl : ∀ H', Pur H H' → W (evw P orc 91 [kv, lv, .func (.func 92) [] []] H') fun r H'' => r = .bool (sameL ks ls) ∧ Pur H' H'') :
  W (evw P orc 92 [.agg (a.cells kv), .agg (b.cells lv)] H) fun r H' => r = .bool (sameE (.mk a ks) (.mk b ls)) ∧ Pur H H' := by
 refine W_of (fun _ => run92 0) ?_
 have hb1 : ∀ l, boxOf l (.agg (a.cells kv)) = some (.ptr l 0 0, .row false 11 [a.cells kv]) := fun l => boxOf_agg l _ (by simp only [Ea.cells, List.all_cons, List.all_nil, one_int, one_str, h1, Bool.and_self])
 have hb2 : ∀ l, boxOf l (.agg (b.cells lv)) = some (.ptr l 0 0, .row false 11 [b.cells lv]) := fun l => boxOf_agg l _ (by simp only [Ea.cells, List.all_cons, List.all_nil, one_int, one_str, h2, Bool.and_self])
 have p2 := (Pur.push H (.row false 11 [a.cells kv])).then_push (.row false 11 [b.cells lv])
 rw [sameE]
 simp only [Ea.cells] at hb1 hb2 p2 ⊢
 cases c0 : a.kind == b.kind with
 | false =>
  simp -implicitDefEqProofs (disch := first | assumption | omega | (simp only [nxB]; omega) | (simp only [oneB])) only [s92, xlen, AV.cells, splice, aload, astore, Nat.reduceAdd, Nat.reduceLeDiff, reduceIte, allB, hb1, hb2, eq32, eq37, rdIs3, c0]
  exact W_some.2 ⟨by simp only [Bool.false_and, Bool.and_false], p2⟩
 | true =>
  cases c1 : a.n == b.n with
  | false =>
   simp -implicitDefEqProofs (disch := first | assumption | omega | (simp only [nxB]; omega) | (simp only [oneB])) only [s92, xlen, AV.cells, splice, aload, astore, Nat.reduceAdd, Nat.reduceLeDiff, reduceIte, allB, hb1, hb2, eq32, eq37, rdIs3, c0, c1]
   exact W_some.2 ⟨by simp only [Bool.false_and, Bool.and_false], p2⟩
  | true =>
   cases c2 : a.name == b.name with
   | false =>
    simp -implicitDefEqProofs (disch := first | assumption | omega | (simp only [nxB]; omega) | (simp only [oneB])) only [s92, xlen, AV.cells, splice, aload, astore, Nat.reduceAdd, Nat.reduceLeDiff, reduceIte, allB, hb1, hb2, eq32, eq37, rdIs3, c0, c1, c2]
    exact W_some.2 ⟨by simp only [Bool.false_and, Bool.and_false], p2⟩
   | true =>
    cases c3 : (a.ofn == b.ofn && a.ofd == b.ofd) with
    | false =>
     simp -implicitDefEqProofs (disch := first | assumption | omega | (simp only [nxB]; omega) | (simp only [oneB])) only [s92, xlen, AV.cells, splice, aload, astore, Nat.reduceAdd, Nat.reduceLeDiff, reduceIte, allB, hb1, hb2, eq32, eq37, rdIs3, c0, c1, c2, c3]
     exact W_some.2 ⟨by simp only [Bool.false_and, Bool.and_false], p2⟩
    | true =>
     cases c4 : (a.tb == b.tb && (a.tr == b.tr && a.td == b.td)) with
     | false =>
      simp -implicitDefEqProofs (disch := first | assumption | omega | (simp only [nxB]; omega) | (simp only [oneB])) only [s92, xlen, AV.cells, splice, aload, astore, Nat.reduceAdd, Nat.reduceLeDiff, reduceIte, allB, hb1, hb2, eq32, eq37, rdIs3, c0, c1, c2, c3, c4]
      exact W_some.2 ⟨by simp only [Bool.false_and, Bool.and_false], p2⟩
     | true =>
      cases c5 : a.ref == b.ref with
      | false =>
       simp -implicitDefEqProofs (disch := first | assumption | omega | (simp only [nxB]; omega) | (simp only [oneB])) only [s92, xlen, AV.cells, splice, aload, astore, Nat.reduceAdd, Nat.reduceLeDiff, reduceIte, allB, hb1, hb2, eq32, eq37, rdIs3, c0, c1, c2, c3, c4, c5]
       exact W_some.2 ⟨by simp only [Bool.false_and, Bool.and_false], p2⟩
      | true =>
       simp -implicitDefEqProofs (disch := first | assumption | omega | (simp only [nxB]; omega) | (simp only [oneB])) only [s92, xlen, AV.cells, splice, aload, astore, Nat.reduceAdd, Nat.reduceLeDiff, reduceIte, allB, hb1, hb2, eq32, eq37, rdIs3, c0, c1, c2, c3, c4, c5]
       refine W_eff (hl _ p2) ?_
       rintro _ H3 ⟨rfl, p3⟩
       refine ⟨p3.1, ?_⟩
       simp -implicitDefEqProofs (disch := first | assumption | omega | (simp only [nxB]; omega) | (simp only [oneB])) only [s92, xlen, evB]
       exact W_some.2 ⟨by simp only [Bool.true_and], p2.trans p3⟩
end Go.Proofs.YtghmbpmaafnodaaGreatDoor

namespace Go.Proofs.YtghmbpmaafnodaaGreatDoor
open Go.Ev
def Sa.cells (a : Sa) (ev bv cv : AV) : List AV := [.int .i64 a.kind, .str a.name, .str a.ofn, .int .i64 a.ofd, ev, bv, cv, .int .i64 a.pos, .int .i64 a.ref]
mutual
def StV (H : AHeap) (ok : Nat → Prop) : Stm → AV → Prop
 | .mk a es b c, v => ∃ ev bv cv, v = .agg (a.cells ev bv cv) ∧ KsV H ok es ev ∧
   ((bv = .nilSl ∧ b.length = 0) ∨ (∃ l i cap ro els, bv = .sl l i b.length 9 (Option.map (· + b.length) cap) ∧ ok l ∧ H.get l = some (.row ro 9 els) ∧ SlsV H ok b (els.drop i)) ∨ ∃ l i cap, bv = .sl l i 0 9 cap ∧ b.length = 0) ∧
   ((cv = .nilSl ∧ c.length = 0) ∨ (∃ l i cap ro els, cv = .sl l i c.length 9 (Option.map (· + c.length) cap) ∧ ok l ∧ H.get l = some (.row ro 9 els) ∧ SlsV H ok c (els.drop i)) ∨ ∃ l i cap, cv = .sl l i 0 9 cap ∧ c.length = 0)
def SlsV (H : AHeap) (ok : Nat → Prop) : List Stm → List (List AV) → Prop
 | [], _ => True
 | _ :: _, [] => False
 | e :: es, cs :: css => StV H ok e (.agg cs) ∧ SlsV H ok es css
end
def SsV (H : AHeap) (ok : Nat → Prop) (b : List Stm) (bv : AV) : Prop := (bv = .nilSl ∧ b.length = 0) ∨ (∃ l i cap ro els, bv = .sl l i b.length 9 (Option.map (· + b.length) cap) ∧ ok l ∧ H.get l = some (.row ro 9 els) ∧ SlsV H ok b (els.drop i)) ∨ ∃ l i cap, bv = .sl l i 0 9 cap ∧ b.length = 0
theorem StV_mk {H : AHeap} {ok : Nat → Prop} {a : Sa} {es : List Ex} {b c : List Stm} {v : AV} : StV H ok (.mk a es b c) v ↔ ∃ ev bv cv, v = .agg (a.cells ev bv cv) ∧ KsV H ok es ev ∧ SsV H ok b bv ∧ SsV H ok c cv := by
 rw [StV]; rfl
structure KeepS (H : AHeap) (ok : Nat → Prop) (H' : AHeap) (ok' : Nat → Prop) : Prop where
 ex : Keep H ok H' ok'
 st : ∀ l ro els, ok l → H.get l = some (.row ro 9 els) → ok' l ∧ H'.get l = some (.row ro 9 els)
section
variable {H H' : AHeap} {ok ok' : Nat → Prop}
mutual
theorem StV.keep (p : KeepS H ok H' ok') : ∀ (e : Stm) (v : AV), StV H ok e v → StV H' ok' e v
 | .mk a es b c, v, h => by
  rw [StV] at h ⊢
  obtain ⟨ev, bv, cv, h1, h2, h3, h4⟩ := h
  refine ⟨ev, bv, cv, h1, h2.keep p.ex, ?_, ?_⟩
  ·rcases h3 with h3 | ⟨l, i, cap, ro, els, e1, e2, e3, e4⟩ | h3
   ·exact .inl h3
   ·obtain ⟨q1, q2⟩ := p.st l ro els e2 e3
    exact .inr (.inl ⟨l, i, cap, ro, els, e1, q1, q2, SlsV.keep p b _ e4⟩)
   ·exact .inr (.inr h3)
  ·rcases h4 with h3 | ⟨l, i, cap, ro, els, e1, e2, e3, e4⟩ | h3
   ·exact .inl h3
   ·obtain ⟨q1, q2⟩ := p.st l ro els e2 e3
    exact .inr (.inl ⟨l, i, cap, ro, els, e1, q1, q2, SlsV.keep p c _ e4⟩)
   ·exact .inr (.inr h3)
theorem SlsV.keep (p : KeepS H ok H' ok') : ∀ (es : List Stm) (cs : List (List AV)), SlsV H ok es cs → SlsV H' ok' es cs
 | [], _, _ => by rw [SlsV]; trivial
 | e :: es, [], h => by rw [SlsV] at h; exact h.elim
 | e :: es, cs :: css, h => by
  rw [SlsV] at h ⊢
  exact ⟨StV.keep p e _ h.1, SlsV.keep p es css h.2⟩
end
theorem SsV.keep (p : KeepS H ok H' ok') {b : List Stm} {v : AV} (h : SsV H ok b v) : SsV H' ok' b v := by
 rcases h with h3 | ⟨l, i, cap, ro, els, e1, e2, e3, e4⟩ | h3
 ·exact .inl h3
 ·obtain ⟨q1, q2⟩ := p.st l ro els e2 e3
  exact .inr (.inl ⟨l, i, cap, ro, els, e1, q1, q2, SlsV.keep p b _ e4⟩)
 ·exact .inr (.inr h3)
theorem KeepS.mut {r : Nat} (m : Mt r H H') (hr : ¬ ok r) (hl : ∀ l, ok l → ok' l) : KeepS H ok H' ok' := ⟨Keep.mut m hr hl, fun l ro els h e => ⟨hl l h, m.get e (by rintro rfl; exact hr h)⟩⟩
theorem KeepS.pur (m : Pur H H') (hl : ∀ l, ok l → ok' l) : KeepS H ok H' ok' := ⟨Keep.pur m hl, fun l ro els h e => ⟨hl l h, m.get e⟩⟩
theorem KeepS.set {l : Nat} (b : ABlk) (h : ¬ ok l) (hl : ∀ l, ok l → ok' l) : KeepS H ok (H.set l b) ok' := ⟨Keep.set b h hl, fun j ro els hj e => ⟨hl j hj, by rw [AHeap.get_set_other (by rintro rfl; exact h hj)]; exact e⟩⟩
theorem KeepS.le' (h : ∀ l, ok l → ok' l) : KeepS H ok H ok' := ⟨Keep.le' h, fun l ro els hl e => ⟨h l hl, e⟩⟩
theorem SsV.oneAV {b : List Stm} {v : AV} (h : SsV H ok b v) : v.one = true := by
 rcases h with ⟨rfl, _⟩ | ⟨l, i, cap, ro, els, rfl, _⟩ | ⟨l, i, cap, rfl, _⟩ <;> rfl
theorem SsV.nil (H : AHeap) (ok : Nat → Prop) : SsV H ok [] .nilSl := .inl ⟨rfl, rfl⟩
theorem StV.cells {e : Stm} {v : AV} (h : StV H ok e v) : ∃ cs, v = .agg cs ∧ cs.length = 9 ∧ cs.all AV.one = true := by
 cases e with | mk a es b c =>
 rw [StV_mk] at h
 obtain ⟨ev, bv, cv, rfl, h1, h2, h3⟩ := h
 refine ⟨_, rfl, rfl, ?_⟩
 simp only [Sa.cells, List.all_cons, List.all_nil, one_int, one_str, h1.oneAV, h2.oneAV, h3.oneAV, Bool.and_self]
theorem StV.leaf (H : AHeap) (ok : Nat → Prop) (a : Sa) : StV H ok (.mk a [] [] []) (.agg (a.cells .nilSl .nilSl .nilSl)) :=
 StV_mk.2 ⟨_, _, _, rfl, .inl ⟨rfl, rfl⟩, .inl ⟨rfl, rfl⟩, .inl ⟨rfl, rfl⟩⟩
theorem StV.mut {r : Nat} {e : Stm} {v : AV} (h : StV H ok e v) (m : Mt r H H') (hr : ¬ ok r) (hl : ∀ l, ok l → ok' l) : StV H' ok' e v := StV.keep (KeepS.mut m hr hl) e v h
theorem KeepS.new {n : Nat} (m : Mut (· < n) H H') (hl : ∀ l, n ≤ l → ok l) : KeepS H (Ge n) H' ok :=
 ⟨fun l ro els hl' g => ⟨hl l hl', m.get g (Nat.not_lt.2 hl')⟩, fun l ro els hl' g => ⟨hl l hl', m.get g (Nat.not_lt.2 hl')⟩⟩
end
def QostM (ok : Nat → Prop) (H : AHeap) (r : Nat) (T : List Tok) (tv : AV) (e : Stm) (s' : St) (v : AV) (H' : AHeap) : Prop := Mt r H H' ∧ Ry H' r T tv s' ∧ StV H' ok e v
abbrev QostS (H : AHeap) := QostM (Ge H.next) H
theorem QostS.fin {H Hf : AHeap} {r : Nat} {T : List Tok} {tv : AV} {s s' : St} {a : Sa} {es : List Ex} {b c : List Stm} {ev bv cv : AV} {x lo : Nat} (hx : Ry H r T tv s) (m : Mt r H Hf) (hd : Rd5 Hf r tv s') (h1 : KsV Hf (Ge lo) es ev) (h2 : SsV Hf (Ge lo) b bv) (h3 : SsV Hf (Ge lo) c cv) (hb : H.next ≤ x) (hlo : x < lo) (blk : ABlk) :
  QostS H r T tv (.mk a es b c) s' (.agg (a.cells ev bv cv)) (Hf.set x blk) := by
 have hl := hx.rd.lt
 have m' := m.then_set (.inr hb) blk
 have k : KeepS Hf (Ge lo) (Hf.set x blk) (Ge H.next) := KeepS.set _ (by unfold Ge; omega) fun l hl => by unfold Ge at *; omega
 refine ⟨m', hx.mut m' ?_, StV_mk.2 ⟨ev, bv, cv, rfl, h1.keep k.ex, h2.keep k, h3.keep k⟩⟩
 unfold Rd5 at hd ⊢
 rw [AHeap.get_set_other (by omega)]; exact hd
theorem QostS.ret {H H2 : AHeap} {r : Nat} {T : List Tok} {tv : AV} {s s' : St} {e : Stm} {v : AV} {b n : Nat} (hx : Ry H r T tv s) (m : Mt r H H2) (hd : Rd5 H2 r tv s') (hb : H.next ≤ b) (he : StV H2 (Ge n) e v) (hn : b < n) (blk : ABlk) : QostS H r T tv e s' v (H2.set b blk) := by
 have hl := hx.rd.lt
 have m' := m.then_set (.inr hb) blk
 refine ⟨m', hx.mut m' ?_, StV.keep (KeepS.set _ (by unfold Ge; omega) fun l hl => by unfold Ge at *; omega) e v he⟩
 unfold Rd5 at hd ⊢
 rw [AHeap.get_set_other (by omega)]; exact hd
theorem StV.at {H : AHeap} {ok : Nat → Prop} {e : Stm} {cs : List AV} (h : StV H ok e (.agg cs)) (p : Int) : StV H ok (e.at p) (.agg (cs.set 7 (.int .i64 p))) := by
 cases e with | mk a es b c =>
 rw [StV_mk] at h
 obtain ⟨ev, bv, cv, h0, h1, h2, h3⟩ := h
 cases h0
 exact StV_mk.2 ⟨ev, bv, cv, rfl, h1, h2, h3⟩
set_option linter.defProp false
def tyC := And.intro ta98 (And.intro ts98 (And.intro ta44 ts44))
end Go.Proofs.YtghmbpmaafnodaaGreatDoor

namespace Go.Proofs.YtghmbpmaafnodaaGreatDoor
open Go.Ev
theorem KsV.cnt {H : AHeap} {ok : Nat → Prop} {ks : List Ex} {x : AV} (hx : KsV H ok ks x) (H' : AHeap) : abuiltin P H' .len [96] [x] = some (.int .i64 ks.length) := by
 rcases hx with ⟨rfl, e1⟩ | ⟨l1, i1, c1, r1, el1, rfl, _⟩ | ⟨l1, i1, c1, rfl, e1⟩
 ·rw [e1]; exact ln96n
 ·exact ln96
 ·rw [e1]; exact ln96
theorem KsV.row {H : AHeap} {ok : Nat → Prop} {ks : List Ex} {x : AV} (hx : KsV H ok ks x) (h : ¬ ks.length = 0) : ∃ l i cap ro els, x = .sl l i ks.length 11 cap ∧ ok l ∧ H.get l = some (.row ro 11 els) ∧ ElsV H ok ks (els.drop i) := by
 rcases hx with ⟨_, e1⟩ | h1 | ⟨_, _, _, _, e1⟩
 ·exact absurd e1 h
 ·exact h1
 ·exact absurd e1 h
def SameOk (F : Nat) (B : Nat) (e : Ex) : Prop := Sm B e → ∀ (f : Ex) (v w : AV) (H : AHeap) (ok ok' : Nat → Prop), ExV H ok e v → ExV H ok' f w → W (evw P orc F [v, w] H) fun r H' => r = .bool (sameE e f) ∧ Pur H H'
theorem SmL.mem {B : Nat} : ∀ {es : List Ex}, SmL B es → ∀ e ∈ es, Sm B e
 | [], _, e, he => by simp at he
 | x :: xs, h, e, he => by
  rw [SmL] at h
  rcases List.mem_cons.1 he with rfl | he
  ·exact h.1
  ·exact SmL.mem h.2 e he
theorem Ex.sizeOf_kid {a : Ea} {ks : List Ex} {e : Ex} (h : e ∈ ks) : SizeOf.sizeOf e < SizeOf.sizeOf (Ex.mk a ks) := by
 have := List.sizeOf_lt_of_mem h
 simp only [Ex.mk.sizeOf_spec]
 omega
theorem loop43 {N B : Nat} {kl ki ll li : Nat} {kc lc : Option Nat} {kro lro : Bool} {kels lels : List (List AV)} {ok ok' : Nat → Prop} : ∀ (es fs : List Ex) (j kn n : Nat) (H : AHeap), (∀ e ∈ es, SameOk 92 B e) → SmL B es → ElsV H ok es (kels.drop (ki + j)) → ElsV H ok' fs (lels.drop (li + j)) → es.length = fs.length → kn = j + es.length → kn ≤ 1000000000000 → H.get kl = some (.row kro 11 kels) → H.get ll = some (.row lro 11 lels) → es.length < n →
  W (s91_l1 (evw P orc) N n (.sl ll li kn 11 lc) (.func (.func 92) [] []) (.sl kl ki kn 11 kc) (.int .i64 kn) (.int .i64 j) H) fun r H' => r = .bool (sameL es fs) ∧ Pur H H'
 | _, _, _, _, 0, _, _, _, _, _, _, _, _, _, _, hn => by omega
 | [], [], j, kn, n + 1, H, hs, hsm, h1, h2, h3, h4, h5, h6, h7, hn => by
  have hj : ¬ ((j : Int) < (kn : Int)) := by simp at h4; omega
  simp -implicitDefEqProofs (disch := first | assumption | omega | (simp only [nxB]; omega) | (simp only [oneB])) only [s91_l1, s91_j0, s91_b1, s91, xlen, AV.cells, splice, aload, astore, Nat.reduceAdd, Nat.reduceLeDiff, reduceIte, allB, hj, decide_false]
  exact W_some.2 ⟨by rw [sameL], .refl _⟩
 | [], _ :: _, j, kn, n + 1, H, hs, hsm, h1, h2, h3, h4, h5, h6, h7, hn => by simp at h3
 | _ :: _, [], j, kn, n + 1, H, hs, hsm, h1, h2, h3, h4, h5, h6, h7, hn => by simp at h3
 | e :: es, f :: fs, j, kn, n + 1, H, hs, hsm, h1, h2, h3, h4, h5, h6, h7, hn => by
  simp only [List.length_cons] at h3 h4 hn
  have hj : (j : Int) < (kn : Int) := by omega
  have h0 : (0 : Int) ≤ (j : Int) := by omega
  have ht : ((j : Int)).toNat = j := by omega
  obtain ⟨cs, g1, g2, g3⟩ := h1.cons
  obtain ⟨ds, g4, g5, g6⟩ := h2.cons
  obtain ⟨_, q1, q2, q3⟩ := g2.cells
  cases q1
  obtain ⟨_, q4, q5, q6⟩ := g5.cells
  cases q4
  have tk1 : List.take 11 cs = cs := List.take_of_length_le (by omega)
  have tk2 : List.take 11 ds = ds := List.take_of_length_le (by omega)
  have l1 := AHeap.get_lt h6
  have l2 := AHeap.get_lt h7
  rw [SmL] at hsm
  have hw : IntKind.i64.wrap ((j : Int) + 1) = ((j + 1 : Nat) : Int) := by rw [wrap_i64 (by omega) (by omega)]; omega
  simp -implicitDefEqProofs (disch := first | assumption | omega | (simp only [nxB]; omega) | (simp only [oneB])) only [s91_l1, s91_j0, s91_b1, s91, xlen, AV.cells, splice, aload, astore, Nat.reduceAdd, Nat.reduceLeDiff, reduceIte, allB, hj, decide_true, ht, h6, h7, g1, g4, tk1, tk2, q2, q3, q5, q6, List.append_nil]
  have p1 := (Pur.push H (.row false 11 [cs])).then_push (.row false 11 [ds])
  refine W_apply ?_
  refine W_call (hs e (by simp) hsm.1 f _ _ _ ok ok' (g2.pur p1) (g5.pur p1)) ?_
  rintro _ H2 ⟨rfl, p2⟩
  refine ⟨p2.1, ?_⟩
  replace p2 := p1.trans p2
  cases hc : sameE e f with
  | false =>
   simp -implicitDefEqProofs (disch := first | assumption | omega | (simp only [nxB]; omega) | (simp only [oneB])) only [s91_j0, s91_b1, s91, xlen, evB, Bool.not_false]
   exact W_some.2 ⟨by rw [sameL, hc, Bool.false_and], p2⟩
  | true =>
   simp -implicitDefEqProofs (disch := first | assumption | omega | (simp only [nxB]; omega) | (simp only [oneB])) only [s91_j0, s91_b1, s91, xlen, evB, binB, Bool.not_true, hw]
   refine (loop43 es fs (j + 1) kn n H2 (fun e' he' => hs e' (by simp [he'])) hsm.2 (ElsV.keep (Keep.pur p2 fun _ h => h) _ _ g3) (ElsV.keep (Keep.pur p2 fun _ h => h) _ _ g6) (by omega) (by omega) h5 (p2.get h6) (p2.get h7) (by omega)).mono ?_
   rintro v H' ⟨rfl, q⟩
   exact ⟨by rw [sameL, hc, Bool.true_and], p2.trans q⟩
theorem list43 {B : Nat} (hB : B ≤ 1000000000000) {H : AHeap} {ok ok' : Nat → Prop} {ks ls : List Ex} {kv lv : AV} (hs : ∀ e ∈ ks, SameOk 92 B e) (hsm : ks.length ≤ B ∧ SmL B ks) (h1 : KsV H ok ks kv) (h2 : KsV H ok' ls lv) : W (evw P orc 91 [kv, lv, .func (.func 92) [] []] H) fun r H' => r = .bool (sameL ks ls) ∧ Pur H H' := by
 refine W_of (fun _ => run91 (ks.length + 1)) ?_
 have neq : ∀ m k : Nat, m ≠ k → ((m : Int) != (k : Int)) = true := fun m k h => by simp; omega
 have neq' : ∀ m : Nat, ((m : Int) != (m : Int)) = false := fun m => by simp
 have z0 : ((0 : Nat) : Int) = 0 := rfl
 have c1 := h1.cnt
 have c2 := h2.cnt
 by_cases hn : ks.length = ls.length
 ·by_cases hz : ks.length = 0
  ·have hz2 : ls.length = 0 := by omega
   obtain rfl := List.length_eq_zero_iff.1 hz
   obtain rfl := List.length_eq_zero_iff.1 hz2
   simp -implicitDefEqProofs (disch := first | assumption | omega | (simp only [nxB]; omega) | (simp only [oneB])) only [s91_l1, s91_j0, s91_b1, s91, xlen, AV.cells, splice, aload, astore, Nat.reduceAdd, Nat.reduceLeDiff, reduceIte, allB, c1, c2, List.length_nil, z0, bne_self_eq_false, Int.lt_irrefl, decide_false]
   exact W_some.2 ⟨by rw [sameL], .refl _⟩
  ·obtain ⟨l1, i1, k1, r1, el1, rfl, o1, g1, w1⟩ := h1.row hz
   obtain ⟨l2, i2, k2, r2, el2, rfl, o2, g2, w2⟩ := h2.row (by omega)
   rw [← hn]
   simp -implicitDefEqProofs (disch := first | assumption | omega | (simp only [nxB]; omega) | (simp only [oneB])) only [s91_j0, s91, xlen, evB, tabB, binB, neq' ks.length]
   exact loop43 ks ls 0 ks.length (ks.length + 1) H hs hsm.2 w1 w2 hn (by omega) (by omega) g1 g2 (by omega)
 ·have hn' := neq _ _ hn
  simp -implicitDefEqProofs (disch := first | assumption | omega | (simp only [nxB]; omega) | (simp only [oneB])) only [s91_j0, s91_b1, s91, xlen, evB, binB, c1, c2, hn']
  exact W_some.2 ⟨by rw [sameL_length _ _ hn], .refl _⟩
theorem spec24 {B : Nat} (hB : B ≤ 1000000000000) : ∀ (e : Ex), SameOk 92 B e
 | .mk a ks => by
  intro hsm f v w H ok ok' h1 h2
  cases f with | mk b ls =>
  rw [ExV_mk] at h1 h2
  obtain ⟨kv, rfl, h1⟩ := h1
  obtain ⟨lv, rfl, h2⟩ := h2
  rw [Sm] at hsm
  have hs : ∀ e ∈ ks, SameOk 92 B e := fun e he => spec24 hB e
  exact same24 h1.oneAV h2.oneAV fun H' p => list43 hB hs hsm (h1.pur p) (h2.pur p)
 termination_by e => SizeOf.sizeOf e
 decreasing_by exact Ex.sizeOf_kid he
end Go.Proofs.YtghmbpmaafnodaaGreatDoor

namespace Go.Proofs.YtghmbpmaafnodaaGreatDoor
open Go.Ev
theorem Sm.leaf {B : Nat} (a : Ea) : Sm B (.mk a []) := by rw [Sm, SmL]; exact ⟨Nat.zero_le _, trivial⟩
theorem Sm.one {B : Nat} (hB : 2 ≤ B) (a : Ea) {e : Ex} (h : Sm B e) : Sm B (.mk a [e]) := by
 rw [Sm, SmL, SmL]; exact ⟨by simp; omega, h, trivial⟩
theorem Sm.two {B : Nat} (hB : 2 ≤ B) (a : Ea) {e f : Ex} (h : Sm B e) (h' : Sm B f) : Sm B (.mk a [e, f]) := by
 rw [Sm, SmL, SmL, SmL]; exact ⟨by simp; omega, h, h', trivial⟩
theorem SmL.append {B : Nat} {e : Ex} (h : Sm B e) : ∀ {l : List Ex}, SmL B l → SmL B (l ++ [e])
 | [], _ => by simp only [List.nil_append]; rw [SmL, SmL]; exact ⟨h, trivial⟩
 | x :: xs, hl => by
  rw [SmL] at hl
  simp only [List.cons_append]
  rw [SmL]; exact ⟨hl.1, SmL.append h hl.2⟩
structure SmAll (T : List Tok) (B n : Nat) : Prop where
 row : ∀ lev s p, rowF T n lev s = some p → Sm B p.1
 rowL : ∀ lev e s p, Sm B e → rowL T n lev e s = some p → Sm B p.1
 unary : ∀ s p, unaryF T n s = some p → Sm B p.1
 sign : ∀ x k s p, signF T n x k s = some p → Sm B p.1
 chain : ∀ s p, chainF T n s = some p → Sm B p.1
 chainL : ∀ e s p, Sm B e → chainL T n e s = some p → Sm B p.1
 single : ∀ b c s p, singleF T n b c s = some p → Sm B p.1
 first : ∀ s p, firstF T n s = some p → Sm B p.1
 name : ∀ s p, nameF T n s = some p → Sm B p.1
 fresh : ∀ s p, freshF T n s = some p → Sm B p.1
 list : ∀ s p, listF T n s = some p → p.1.length ≤ B ∧ SmL B p.1
 listL : ∀ l s p, l.length + n ≤ B → SmL B l → listL T n l s = some p → p.1.length ≤ B ∧ SmL B p.1
theorem bindS {α β : Type} {x : Option α} {f : α → Option β} {b : β} (h : x.bind f = some b) : ∃ a, x = some a ∧ f a = some b := Option.bind_eq_some_iff.1 h
theorem sm_all (T : List Tok) (B : Nat) : ∀ n, n + 2 ≤ B → SmAll T B n
 | 0, _ => by
  constructor <;> intros <;> rename_i h <;> cases h
 | n + 1, hB => by
  have ih := sm_all T B n (by omega)
  have h2 : 2 ≤ B := by omega
  refine ⟨?_, ?_, ?_, ?_, ?_, ?_, ?_, ?_, ?_, ?_, ?_, ?_⟩
  ·intro lev s p h
   simp only [rowF] at h
   split at h
   ·exact ih.unary _ _ h
   ·obtain ⟨q, g1, g2⟩ := bindS h
    exact ih.rowL _ _ _ _ (ih.row _ _ _ g1) g2
  ·intro lev e s p he h
   simp only [Go.Proofs.YtghmbpmaafnodaaGreatDoor.rowL] at h
   split at h
   ·cases h; exact he
   ·obtain ⟨q, g1, g2⟩ := bindS h
    exact ih.rowL _ _ _ _ (Sm.two h2 _ he (ih.row _ _ _ g1)) g2
  ·intro s p h
   simp only [unaryF, Bool.cond_eq_ite] at h
   split at h
   ·exact ih.sign _ _ _ _ h
   ·split at h
    ·exact ih.sign _ _ _ _ h
    ·exact ih.chain _ _ h
  ·intro x k s p h
   simp only [signF, Bool.cond_eq_ite] at h
   split at h
   ·obtain ⟨q, g1, g2⟩ := bindS h
    cases g2
    exact Sm.one h2 _ (ih.unary _ _ g1)
   ·cases h; exact Sm.leaf _
  ·intro s p h
   simp only [chainF] at h
   obtain ⟨q, g1, g2⟩ := bindS h
   exact ih.chainL _ _ _ (ih.first _ _ g1) g2
  ·intro e s p he h
   simp only [Go.Proofs.YtghmbpmaafnodaaGreatDoor.chainL, Bool.cond_eq_ite] at h
   split at h
   ·split at h
    ·exact ih.chainL _ _ _ (Sm.one h2 _ he) h
    ·split at h
     ·obtain ⟨q, g1, g2⟩ := bindS h
      exact ih.chainL _ _ _ (Sm.two h2 _ he (ih.single _ _ _ _ g1)) g2
     ·cases h; exact he
   ·cases h; exact he
  ·intro b c s p h
   simp only [singleF, Bool.cond_eq_ite] at h
   split at h
   ·obtain ⟨q, g1, g2⟩ := bindS h
    cases g2
    exact ih.row _ _ q g1
   ·cases h; exact Sm.leaf _
  ·intro s p h
   simp only [firstF, Bool.cond_eq_ite] at h
   split at h
   ·cases h; exact Sm.leaf _
   ·split at h
    ·cases h; exact Sm.leaf _
    ·split at h
     ·exact ih.name _ _ h
     ·split at h
      ·split at h
       ·split at h
        ·exact ih.single _ _ _ _ h
        ·cases h; exact Sm.leaf _
       ·split at h
        ·cases h; exact Sm.leaf _
        ·split at h
         ·cases h; exact Sm.leaf _
         ·split at h
          ·exact ih.fresh _ _ h
          ·split at h
           ·obtain ⟨q, g1, g2⟩ := bindS h
            cases g2
            exact Sm.one h2 _ (ih.single _ _ _ _ g1)
           ·split at h
            ·cases h; exact Sm.leaf _
            ·cases h; exact Sm.leaf _
      ·cases h; exact Sm.leaf _
  ·intro s p h
   simp only [nameF, Bool.cond_eq_ite] at h
   split at h
   ·obtain ⟨q, g1, g2⟩ := bindS h
    cases g2
    rw [Sm]; exact ih.list _ _ g1
   ·cases h; exact Sm.leaf _
  ·intro s p h
   simp only [freshF, Bool.cond_eq_ite] at h
   split at h
   ·obtain ⟨q, g1, g2⟩ := bindS h
    cases g2
    exact Sm.one h2 _ (ih.single _ _ _ _ g1)
   ·cases h; exact Sm.leaf _
  ·intro s p h
   simp only [listF, Bool.cond_eq_ite] at h
   split at h
   ·split at h
    ·cases h; exact ⟨Nat.zero_le _, by rw [SmL]; trivial⟩
    ·obtain ⟨q, g1, g2⟩ := bindS h
     exact ih.listL _ _ _ (by simp; omega) (by rw [SmL, SmL]; exact ⟨ih.row _ _ _ g1, trivial⟩) g2
   ·cases h; exact ⟨Nat.zero_le _, by rw [SmL]; trivial⟩
  ·intro l s p hl hsm h
   simp only [Go.Proofs.YtghmbpmaafnodaaGreatDoor.listL, Bool.cond_eq_ite] at h
   split at h
   ·obtain ⟨q, g1, g2⟩ := bindS h
    exact ih.listL _ _ _ (by simp; omega) (SmL.append (ih.row _ _ _ g1) hsm) g2
   ·cases h; exact ⟨by show l.length ≤ B; omega, hsm⟩
end Go.Proofs.YtghmbpmaafnodaaGreatDoor

namespace Go.Proofs.YtghmbpmaafnodaaGreatDoor
open Go.Ev
theorem left_le (T : List Tok) (s : St) : left T s ≤ T.length := by unfold left; split <;> omega
theorem both_read {T : List Tok} (hT : T.length ≤ 20000000) (at_ opn : Int) : ∃ e s e' s', rowF T 800000000 0 (startS at_ opn) = some (e, s) ∧ exprR T 800000000 0 (startS at_ opn) = some (e', s') ∧ parseS e' s' = parseS e s ∧ Sm 1000000000 (parseS e s).1 := by
 obtain ⟨p, q, h1, h2, h3, h4⟩ := rows_both (T := T) (by omega) T.length (startS at_ opn) (left_le _ _) 0 800000000 800000000 (by omega) (by omega) (by omega)
 refine ⟨p.1, p.2, q.1, q.2, h1, h2, ?_, ?_⟩
 ·rcases h3 with ⟨h, rfl⟩ | ⟨h, ha, hb⟩
  ·rfl
  ·have h' : ¬ q.2.fe = 0 := by rw [ha]; exact h
   simp only [parseS, if_neg h, if_neg h', ha, hb]
 ·unfold parseS
  split
  ·exact (sm_all T 1000000000 800000000 (by omega)).row _ _ _ h1
  ·exact Sm.leaf _
end Go.Proofs.YtghmbpmaafnodaaGreatDoor

namespace Go.Proofs.YtghmbpmaafnodaaGreatDoor
open Go.Ev
set_option maxRecDepth 100000
noncomputable section
def s123 (G : CallT) (x0 : AV) (H : AHeap) : O :=
 xalloc H [(.int .i64 0), (.str []), (.int .i64 0), (.int .i64 0)] fun x2 h1 =>
 xb (anil x0) fun x4 =>
 xb (afieldAddr P 112 x4 1) fun x5 =>
 xb (aload P h1 3 x5) fun x6 =>
 xb (fbin P .lss 3 true x6 (.int .i64 0)) fun x7 =>
 xg x7 false h1 (qv x0) fun x9 h2 =>
 xg x7 false h2 (qp (anil x9)) fun x10 h3 =>
 xg x7 false h3 (qp (afieldAddr P 112 x10 1)) fun x11 h4 =>
 xg x7 false h4 (qr (aload P h4 3 x11)) fun x12 h5 =>
 xg x7 false h5 (qv x0) fun x13 h6 =>
 xg x7 false h6 (qp (anil x13)) fun x14 h7 =>
 xg x7 false h7 (qp (afieldAddr P 112 x14 0)) fun x15 h8 =>
 xg x7 false h8 (qr (aload P h8 50 x15)) fun x16 h9 =>
 xg x7 false h9 (fun q => xboth (abuiltin P .empty .len [50] [x16]) (abuiltin P h9 .len [50] [x16]) q) fun x17 h10 =>
 xg x7 false h10 (qp (fbin P .geq 3 false x12 x17)) fun x18 h11 =>
 xb (pickOf x7 (some (.bool true)) (some x18)) fun x19 =>
 xif (some x19) (xstore h11 (astore P h11 57 x2 (.agg [(.int .i64 0), (.str []), (.int .i64 0), (.int .i64 0)])) fun h12 =>
 xb (aload P h12 57 x2) fun r =>
 some (r, h12)) (xb (anil x0) fun x22 =>
 xb (afieldAddr P 112 x22 0) fun x23 =>
 xb (aload P h11 50 x23) fun x24 =>
 xb (anil x0) fun x26 =>
 xb (afieldAddr P 112 x26 1) fun x27 =>
 xb (aload P h11 3 x27) fun x28 =>
 xb (aindexAddr P 50 x24 x28) fun x29 =>
 xb (aload P h11 57 x29) fun x30 =>
 xstore h11 (astore P h11 57 x2 x30) fun h12 =>
 xb (aload P h12 57 x2) fun r =>
 some (r, h12))
theorem s123_eq (G : CallT) (N : Nat) (x0 : AV) (H : AHeap) : cF Tryz.f123 G N (argsF [x0]) H = s123 G x0 H := by
 refine via_top (A := cF Tryz.f123 G N) (via_leaf _) ?_
 delta s123
 kernel_rfl
theorem run123 (N : Nat) {x0 : AV} {H : AHeap} {r : AV × AHeap} (h : s123 (evw P orc) x0 H = some r) : evw P orc 123 [x0] H = some r :=
 runF (by kernel_rfl) Tryz.func123 (by kernel_rfl) (by kernel_rfl) (by kernel_rfl) ((s123_eq (evw P orc) N x0 H).trans h)
def s75 (G : CallT) (x0 : AV) (H : AHeap) : O :=
 xb (anil x0) fun x4 =>
 xb (afieldAddr P 112 x4 3) fun x5 =>
 xb (afieldAddr P 29 x5 0) fun x6 =>
 xb (aload P H 27 x6) fun x7 =>
 xb (fbin P .neq 27 true x7 (.int .i64 0)) fun x8 =>
 some (x8, H)
theorem s75_eq (G : CallT) (N : Nat) (x0 : AV) (H : AHeap) : cF Tryz.f75 G N (argsF [x0]) H = s75 G x0 H := by
 refine via_top (A := cF Tryz.f75 G N) (via_leaf _) ?_
 delta s75
 kernel_rfl
theorem run75 (N : Nat) {x0 : AV} {H : AHeap} {r : AV × AHeap} (h : s75 (evw P orc) x0 H = some r) : evw P orc 75 [x0] H = some r :=
 runF (by kernel_rfl) Tryz.func75 (by kernel_rfl) (by kernel_rfl) (by kernel_rfl) ((s75_eq (evw P orc) N x0 H).trans h)
def s104 (G : CallT) (x0 x1 : AV) (H : AHeap) : O :=
 xcall H (G 75 [x0] H) fun x5 h1 =>
 xb (aun .not x5) fun x6 =>
 xif (some x6) (xcall h1 (G 123 [x0] h1) fun x10 h2 =>
 xb (afield P 57 x10 3) fun x11 =>
 xb (abuild P 29 [(0, x1), (1, x11)]) fun x12 =>
 xb (anil x0) fun x13 =>
 xb (afieldAddr P 112 x13 3) fun x14 =>
 xstore h2 (astore P h2 29 x14 x12) fun h3 =>
 some (.tuple [], h3)) (some (.tuple [], h1))
theorem s104_eq (G : CallT) (N : Nat) (x0 : AV) (x1 : AV) (H : AHeap) : cF Tryz.f104 G N (argsF [x0, x1]) H = s104 G x0 x1 H := by
 refine via_top (A := cF Tryz.f104 G N) (via_leaf _) ?_
 delta s104
 kernel_rfl
theorem run104 (N : Nat) {x0 x1 : AV} {H : AHeap} {r : AV × AHeap} (h : s104 (evw P orc) x0 x1 H = some r) : evw P orc 104 [x0, x1] H = some r :=
 runF (by kernel_rfl) Tryz.func104 (by kernel_rfl) (by kernel_rfl) (by kernel_rfl) ((s104_eq (evw P orc) N x0 x1 H).trans h)
def s103 (G : CallT) (x0 x1 x2 : AV) (H : AHeap) : O :=
 xcall H (G 123 [x0] H) fun x9 h1 =>
 xalloc h1 [(.int .i64 0), (.str []), (.int .i64 0), (.int .i64 0)] fun x7 h2 =>
 xstore h2 (astore P h2 57 x7 x9) fun h3 =>
 xcall h3 (G 75 [x0] h3) fun x11 h4 =>
 xb (aun .not x11) fun x12 =>
 xg x12 true h4 (qp (afieldAddr P 57 x7 0)) fun x14 h5 =>
 xg x12 true h5 (qr (aload P h5 3 x14)) fun x15 h6 =>
 xg x12 true h6 (qv x1) fun x16 h7 =>
 xg x12 true h7 (qp (fbin P .eql 3 false x15 x16)) fun x17 h8 =>
 xb (pickOf x12 (some x17) (some (.bool false))) fun x18 =>
 xg x18 true h8 (qp (afieldAddr P 57 x7 1)) fun x20 h9 =>
 xg x18 true h9 (qr (aload P h9 9 x20)) fun x21 h10 =>
 xg x18 true h10 (qv x2) fun x22 h11 =>
 xg x18 true h11 (qp (fbin P .eql 9 false x21 x22)) fun x23 h12 =>
 xb (pickOf x18 (some x23) (some (.bool false))) fun x24 =>
 some (x24, h12)
theorem s103_eq (G : CallT) (N : Nat) (x0 : AV) (x1 : AV) (x2 : AV) (H : AHeap) : cF Tryz.f103 G N (argsF [x0, x1, x2]) H = s103 G x0 x1 x2 H := by
 refine via_top (A := cF Tryz.f103 G N) (via_leaf _) ?_
 delta s103
 kernel_rfl
theorem run103 (N : Nat) {x0 x1 x2 : AV} {H : AHeap} {r : AV × AHeap} (h : s103 (evw P orc) x0 x1 x2 H = some r) : evw P orc 103 [x0, x1, x2] H = some r :=
 runF (by kernel_rfl) Tryz.func103 (by kernel_rfl) (by kernel_rfl) (by kernel_rfl) ((s103_eq (evw P orc) N x0 x1 x2 H).trans h)
def s126 (G : CallT) (x0 x1 x2 : AV) (H : AHeap) : O :=
 xcall H (G 103 [x0, x1, x2] H) fun x10 h1 =>
 xb (aun .not x10) fun x11 =>
 xif (some x11) (some ((.bool false), h1)) (xb (anil x0) fun x13 =>
 xb (afieldAddr P 112 x13 1) fun x14 =>
 xb (aload P h1 3 x14) fun x15 =>
 xb (fbin P .add 3 true x15 (.int .i64 1)) fun x16 =>
 xb (anil x0) fun x17 =>
 xb (afieldAddr P 112 x17 1) fun x18 =>
 xstore h1 (astore P h1 3 x18 x16) fun h2 =>
 some ((.bool true), h2))
theorem s126_eq (G : CallT) (N : Nat) (x0 : AV) (x1 : AV) (x2 : AV) (H : AHeap) : cF Tryz.f126 G N (argsF [x0, x1, x2]) H = s126 G x0 x1 x2 H := by
 refine via_top (A := cF Tryz.f126 G N) (via_leaf _) ?_
 delta s126
 kernel_rfl
theorem run126 (N : Nat) {x0 x1 x2 : AV} {H : AHeap} {r : AV × AHeap} (h : s126 (evw P orc) x0 x1 x2 H = some r) : evw P orc 126 [x0, x1, x2] H = some r :=
 runF (by kernel_rfl) Tryz.func126 (by kernel_rfl) (by kernel_rfl) (by kernel_rfl) ((s126_eq (evw P orc) N x0 x1 x2 H).trans h)
def s107 (G : CallT) (x0 x1 : AV) (H : AHeap) : O :=
 xcall H (G 126 [x0, (.int .i64 4), x1] H) fun x6 h1 =>
 xb (aun .not x6) fun x7 =>
 xif (some x7) (xcall h1 (G 104 [x0, (.int .i64 2)] h1) fun x9 h2 =>
 some (.tuple [], h2)) (some (.tuple [], h1))
theorem s107_eq (G : CallT) (N : Nat) (x0 : AV) (x1 : AV) (H : AHeap) : cF Tryz.f107 G N (argsF [x0, x1]) H = s107 G x0 x1 H := by
 refine via_top (A := cF Tryz.f107 G N) (via_leaf _) ?_
 delta s107
 kernel_rfl
theorem run107 (N : Nat) {x0 x1 : AV} {H : AHeap} {r : AV × AHeap} (h : s107 (evw P orc) x0 x1 H = some r) : evw P orc 107 [x0, x1] H = some r :=
 runF (by kernel_rfl) Tryz.func107 (by kernel_rfl) (by kernel_rfl) (by kernel_rfl) ((s107_eq (evw P orc) N x0 x1 H).trans h)
def s154 (G : CallT) (x0 x1 x2 : AV) (H : AHeap) : O :=
 xmake H (boxOf (H).next x2) fun x5 h1 =>
 xb (afieldAddr P 29 x5 0) fun x6 =>
 xb (aload P h1 27 x6) fun x7 =>
 xb (fbin P .neq 27 true x7 (.int .i64 0)) fun x8 =>
 xif (some x8) (xb (aload P h1 29 x5) fun x10 =>
 xb (anil x0) fun x11 =>
 xb (afieldAddr P 112 x11 3) fun x12 =>
 xstore h1 (astore P h1 29 x12 x10) fun h2 =>
 some (.tuple [], h2)) (xb (anil x0) fun x15 =>
 xb (afieldAddr P 112 x15 1) fun x16 =>
 xstore h1 (astore P h1 3 x16 x1) fun h2 =>
 some (.tuple [], h2))
theorem s154_eq (G : CallT) (N : Nat) (x0 : AV) (x1 : AV) (x2 : AV) (H : AHeap) : cF Tryz.f154 G N (argsF [x0, x1, x2]) H = s154 G x0 x1 x2 H := by
 refine via_top (A := cF Tryz.f154 G N) (via_leaf _) ?_
 delta s154
 kernel_rfl
theorem run154 (N : Nat) {x0 x1 x2 : AV} {H : AHeap} {r : AV × AHeap} (h : s154 (evw P orc) x0 x1 x2 H = some r) : evw P orc 154 [x0, x1, x2] H = some r :=
 runF (by kernel_rfl) Tryz.func154 (by kernel_rfl) (by kernel_rfl) (by kernel_rfl) ((s154_eq (evw P orc) N x0 x1 x2 H).trans h)
def s137 (G : CallT) (x0 : AV) (H : AHeap) : O :=
 xalloc H [(.int .i64 0), (.int .i64 0), (.str []), (.str []), (.int .i64 0), AV.nilSl, (.int .i64 0), (.int .i64 0), (.int .i64 0), (.int .i64 0), (.int .i64 0)] fun x2 h1 =>
 xcall h1 (G 75 [x0] h1) fun x7 h2 =>
 xif (some x7) (xstore h2 (astore P h2 103 x2 (.agg [(.int .i64 0), (.int .i64 0), (.str []), (.str []), (.int .i64 0), AV.nilSl, (.int .i64 0), (.int .i64 0), (.int .i64 0), (.int .i64 0), (.int .i64 0)])) fun h3 =>
 xb (aload P h3 103 x2) fun r =>
 some (r, h3)) (xb (anil x0) fun x11 =>
 xb (afieldAddr P 112 x11 0) fun x12 =>
 xb (aload P h2 50 x12) fun x13 =>
 xb (anil x0) fun x15 =>
 xb (afieldAddr P 112 x15 1) fun x16 =>
 xb (aload P h2 3 x16) fun x17 =>
 xb (anil x0) fun x19 =>
 xb (afieldAddr P 112 x19 2) fun x20 =>
 xb (aload P h2 3 x20) fun x21 =>
 xcall h2 (G 153 [x13, x17, x21] h2) fun x22 h3 =>
 xb (aextract x22 0) fun x23 =>
 xalloc h3 [(.int .i64 0), (.int .i64 0), (.str []), (.str []), (.int .i64 0), AV.nilSl, (.int .i64 0), (.int .i64 0), (.int .i64 0), (.int .i64 0), (.int .i64 0)] fun x3 h4 =>
 xalloc h4 [(.int .i64 0), (.int .i64 0)] fun x5 h5 =>
 xstore h5 (astore P h5 103 x3 x23) fun h6 =>
 xb (aextract x22 1) fun x24 =>
 xb (aextract x22 2) fun x25 =>
 xstore h6 (astore P h6 29 x5 x25) fun h7 =>
 bif ((rdIs (aload P h2 50 x12) x13 && true) && ((rdIs (aload P h2 3 x16) x17 && true) && ((rdIs (aload P h2 3 x20) x21 && true) && true))) then (xb (aload P h7 29 x5) fun x28 =>
 xcall h7 (G 154 [x0, x24, x28] h7) fun x29 h8 =>
 xb (aload P h8 103 x3) fun x30 =>
 xstore h8 (astore P h8 103 x2 x30) fun h9 =>
 xb (aload P h9 103 x2) fun r =>
 some (r, h9)) else none)
theorem s137_eq (G : CallT) (N : Nat) (x0 : AV) (H : AHeap) : cF Tryz.f137 G N (argsF [x0]) H = s137 G x0 H := by
 refine via_top (A := cF Tryz.f137 G N) (via_leaf _) ?_
 delta s137
 kernel_rfl
theorem run137 (N : Nat) {x0 : AV} {H : AHeap} {r : AV × AHeap} (h : s137 (evw P orc) x0 H = some r) : evw P orc 137 [x0] H = some r :=
 runF (by kernel_rfl) Tryz.func137 (by kernel_rfl) (by kernel_rfl) (by kernel_rfl) ((s137_eq (evw P orc) N x0 H).trans h)
def s155_j0 (G : CallT) (x0 x3 x4 : AV) (H : AHeap) : O :=
 xb (anil x0) fun x16 =>
 xb (afieldAddr P 112 x16 1) fun x17 =>
 xb (aload P H 3 x17) fun x18 =>
 xb (fbin P .add 3 true x18 (.int .i64 1)) fun x19 =>
 xb (anil x0) fun x20 =>
 xb (afieldAddr P 112 x20 1) fun x21 =>
 xstore H (astore P H 3 x21 x19) fun h1 =>
 xcall h1 (G 107 [x0, (.str [58])] h1) fun x23 h2 =>
 xcall h2 (G 75 [x0] h2) fun x25 h3 =>
 xif (some x25) (xstore h3 (astore P h3 43 x3 (.agg [(.str []), (.int .i64 0)])) fun h4 =>
 xb (aload P h4 43 x3) fun r =>
 some (.tuple [(.str []), r], h4)) (xb (anil x0) fun x29 =>
 xb (afieldAddr P 112 x29 0) fun x30 =>
 xb (aload P h3 50 x30) fun x31 =>
 xb (anil x0) fun x33 =>
 xb (afieldAddr P 112 x33 1) fun x34 =>
 xb (aload P h3 3 x34) fun x35 =>
 xcall h3 (G 73 [x31, x35] h3) fun x36 h4 =>
 xb (aextract x36 0) fun x37 =>
 xalloc h4 [(.str []), (.int .i64 0)] fun x5 h5 =>
 xalloc h5 [(.int .i64 0), (.int .i64 0)] fun x7 h6 =>
 xstore h6 (astore P h6 43 x5 x37) fun h7 =>
 xb (aextract x36 1) fun x38 =>
 xb (aextract x36 2) fun x39 =>
 xstore h7 (astore P h7 29 x7 x39) fun h8 =>
 bif ((rdIs (aload P h3 50 x30) x31 && true) && ((rdIs (aload P h3 3 x34) x35 && true) && true)) then (xb (aload P h8 29 x7) fun x42 =>
 xcall h8 (G 154 [x0, x38, x42] h8) fun x43 h9 =>
 xb (afieldAddr P 57 x4 1) fun x44 =>
 xb (aload P h9 9 x44) fun x45 =>
 xb (aload P h9 43 x5) fun x46 =>
 xstore h9 (astore P h9 43 x3 x46) fun h10 =>
 xb (aload P h10 43 x3) fun r =>
 some (.tuple [x45, r], h10)) else none)
theorem s155_j0_eq (G : CallT) (N : Nat) : ∀ R H, codeC P G N (Code.snd (Code.snd (Code.snd (bodyOf Tryz.f155)))) (rC Tryz.f155) [] (rC Tryz.f155) R H = s155_j0 G (R 0) (R 3) (R 4) H := by
 refine via_trans (via_leaf _) fun R H => ?_
 delta s155_j0
 kernel_rfl
def s155 (G : CallT) (x0 : AV) (H : AHeap) : O :=
 xalloc H [(.str []), (.int .i64 0)] fun x3 h1 =>
 xcall h1 (G 123 [x0] h1) fun x9 h2 =>
 xalloc h2 [(.int .i64 0), (.str []), (.int .i64 0), (.int .i64 0)] fun x4 h3 =>
 xstore h3 (astore P h3 57 x4 x9) fun h4 =>
 xb (afieldAddr P 57 x4 0) fun x10 =>
 xb (aload P h4 3 x10) fun x11 =>
 xb (fbin P .neq 3 true x11 (.int .i64 1)) fun x12 =>
 xif (some x12) (xcall h4 (G 104 [x0, (.int .i64 2)] h4) fun x14 h5 =>
 s155_j0 G x0 x3 x4 h5) (s155_j0 G x0 x3 x4 h4)
theorem s155_eq (G : CallT) (N : Nat) (x0 : AV) (H : AHeap) : cF Tryz.f155 G N (argsF [x0]) H = s155 G x0 H := by
 refine via_top (A := cF Tryz.f155 G N) ((via_seq (by kernel_rfl) ((via_seq (by kernel_rfl) ((via_seq (by kernel_rfl) (s155_j0_eq G N) (via_leaf _))) (via_leaf _))) (via_leaf _))) ?_
 delta s155
 generalize s155_j0 G = J0
 revert J0
 refine id ?_
 intro J0
 kernel_rfl
theorem run155 (N : Nat) {x0 : AV} {H : AHeap} {r : AV × AHeap} (h : s155 (evw P orc) x0 H = some r) : evw P orc 155 [x0] H = some r :=
 runF (by kernel_rfl) Tryz.func155 (by kernel_rfl) (by kernel_rfl) (by kernel_rfl) ((s155_eq (evw P orc) N x0 H).trans h)
def s105_j0 (G : CallT) (N : Nat) (x7 : AV) (H : AHeap) : O :=
 some (x7, H)
theorem s105_j0_eq (G : CallT) (N : Nat) : ∀ R H, codeC P G N (Code.snd (Code.snd (Code.snd (bodyOf Tryz.f105)))) (rC Tryz.f105) [] (rC Tryz.f105) R H = s105_j0 G N (R 7) H := by
 refine via_trans (via_leaf _) fun R H => ?_
 delta s105_j0
 kernel_rfl
def s105_b1 (G : CallT) (N : Nat) (L1 : AV → AV → AV → AV → AHeap → O) (x0 x1 : AV) (x2 x7 : AV) (H : AHeap) : O :=
 xcall H (G 75 [x0] H) fun x9 h1 =>
 xb (aun .not x9) fun x10 =>
 xg x10 true h1 (qv x0) fun x12 h2 =>
 xg x10 true h2 (qv x1) fun x13 h3 =>
 xg x10 true h3 (fun q => xeff h3 (G 103 [x12, (.int .i64 4), x13] h3) q) fun x14 h4 =>
 xg x10 true h4 (qp (aun .not x14)) fun x15 h5 =>
 xb (pickOf x10 (some x15) (some (.bool false))) fun x16 =>
 xif (some x16) (xapply G h5 x2 [] fun x19 h6 =>
 xmake h6 (sliceOf P (h6).next 44 1 [(0, x19)]) fun x20 h7 =>
 xcall h7 (aappend P h7 [44, 44] x7 x20) fun x21 h8 =>
 L1 x0 x1 x2 x21 h8) (s105_j0 G N x7 h5)
def s105_l1 (G : CallT) (N : Nat) : Nat → AV → AV → AV → AV → AHeap → O
 | 0, _, _, _, _, _ => none
 | n + 1, x0, x1, x2, x7, H => s105_b1 G N (s105_l1 G N n) x0 x1 x2 x7 H
theorem s105_b1_eq (G : CallT) (N : Nat) (L1 : AV → AV → AV → AV → AHeap → O) : ∀ R H, codeC P G N (Code.fst (Code.fst (Code.fst (Code.snd (Code.snd (bodyOf Tryz.f105)))))) (fun R H => L1 (R 0) (R 1) (R 2) (R 7) H) [(0, (fun R H => s105_j0 G N (R 7) H))] (rC Tryz.f105) R H = s105_b1 G N L1 (R 0) (R 1) (R 2) (R 7) H := by
 refine via_trans (via_leaf _) fun R H => ?_
 delta s105_b1
 generalize s105_j0 G N = J0
 revert J0
 refine id ?_
 intro J0
 kernel_rfl
def s105 (G : CallT) (N : Nat) (x0 x1 x2 : AV) (H : AHeap) : O :=
 s105_l1 G N N x0 x1 x2 AV.nilSl H
theorem s105_eq (G : CallT) (N : Nat) (x0 : AV) (x1 : AV) (x2 : AV) (H : AHeap) : cF Tryz.f105 G N (argsF [x0, x1, x2]) H = s105 G N x0 x1 x2 H := by
 refine via_top (A := cF Tryz.f105 G N) ((via_seq (by kernel_rfl) ((via_seq (by kernel_rfl) ((via_seq (by kernel_rfl) (s105_j0_eq G N) ((via_block (by kernel_rfl) ((via_loop (k := fun m R H => s105_l1 G N m (R 0) (R 1) (R 2) (R 7) H) (by kernel_rfl) (fun R H => by kernel_rfl) (fun m => s105_b1_eq G N (s105_l1 G N m)))))))) (via_leaf _))) (via_leaf _))) ?_
 delta s105
 generalize s105_l1 G N N = J0
 revert J0
 refine id ?_
 intro J0
 kernel_rfl
theorem run105 (N : Nat) {x0 x1 x2 : AV} {H : AHeap} {r : AV × AHeap} (h : s105 (evw P orc) N x0 x1 x2 H = some r) : evw P orc 105 [x0, x1, x2] H = some r :=
 runF (by kernel_rfl) Tryz.func105 (by kernel_rfl) (by kernel_rfl) (by kernel_rfl) ((s105_eq (evw P orc) N x0 x1 x2 H).trans h)
def s74 (G : CallT) (x0 : AV) (H : AHeap) : O :=
 xcall H (G 103 [x0, (.int .i64 4), (.str [123])] H) fun x6 h1 =>
 xb (aun .not x6) fun x7 =>
 xif (some x7) (xcall h1 (G 104 [x0, (.int .i64 2)] h1) fun x9 h2 =>
 some (AV.nilSl, h2)) (xb (anil x0) fun x12 =>
 xb (afieldAddr P 112 x12 2) fun x13 =>
 xb (aload P h1 3 x13) fun x14 =>
 xb (fbin P .geq 3 true x14 (.int .i64 50)) fun x15 =>
 xif (some x15) (xcall h1 (G 104 [x0, (.int .i64 4)] h1) fun x17 h2 =>
 some (AV.nilSl, h2)) (xb (anil x0) fun x19 =>
 xb (afieldAddr P 112 x19 1) fun x20 =>
 xb (aload P h1 3 x20) fun x21 =>
 xb (fbin P .add 3 true x21 (.int .i64 1)) fun x22 =>
 xb (anil x0) fun x23 =>
 xb (afieldAddr P 112 x23 1) fun x24 =>
 xstore h1 (astore P h1 3 x24 x22) fun h2 =>
 xb (anil x0) fun x26 =>
 xb (afieldAddr P 112 x26 2) fun x27 =>
 xb (aload P h2 3 x27) fun x28 =>
 xb (fbin P .add 3 true x28 (.int .i64 1)) fun x29 =>
 xb (anil x0) fun x30 =>
 xb (afieldAddr P 112 x30 2) fun x31 =>
 xstore h2 (astore P h2 3 x31 x29) fun h3 =>
 xcall h3 (G 105 [x0, (.str [125]), (.func (.func 106) [x0] [])] h3) fun x35 h4 =>
 xb (anil x0) fun x37 =>
 xb (afieldAddr P 112 x37 2) fun x38 =>
 xb (aload P h4 3 x38) fun x39 =>
 xb (fbin P .sub 3 true x39 (.int .i64 1)) fun x40 =>
 xb (anil x0) fun x41 =>
 xb (afieldAddr P 112 x41 2) fun x42 =>
 xstore h4 (astore P h4 3 x42 x40) fun h5 =>
 xcall h5 (G 107 [x0, (.str [125])] h5) fun x44 h6 =>
 some (x35, h6)))
theorem s74_eq (G : CallT) (N : Nat) (x0 : AV) (H : AHeap) : cF Tryz.f74 G N (argsF [x0]) H = s74 G x0 H := by
 refine via_top (A := cF Tryz.f74 G N) (via_leaf _) ?_
 delta s74
 kernel_rfl
theorem run74 (N : Nat) {x0 : AV} {H : AHeap} {r : AV × AHeap} (h : s74 (evw P orc) x0 H = some r) : evw P orc 74 [x0] H = some r :=
 runF (by kernel_rfl) Tryz.func74 (by kernel_rfl) (by kernel_rfl) (by kernel_rfl) ((s74_eq (evw P orc) N x0 H).trans h)
def s106_j0 (G : CallT) (x0 x2 : AV) (x3 x4 : AV) (H : AHeap) : O :=
 xapply G H x4 [x0] fun x28 h1 =>
 xalloc h1 [(.int .i64 0), (.str []), (.str []), (.int .i64 0), AV.nilSl, AV.nilSl, AV.nilSl, (.int .i64 0), (.int .i64 0)] fun x6 h2 =>
 xstore h2 (astore P h2 98 x6 x28) fun h3 =>
 xb (afieldAddr P 57 x3 3) fun x29 =>
 xb (aload P h3 3 x29) fun x30 =>
 xb (afieldAddr P 98 x6 6) fun x31 =>
 xstore h3 (astore P h3 3 x31 x30) fun h4 =>
 xb (aload P h4 98 x6) fun x32 =>
 xstore h4 (astore P h4 98 x2 x32) fun h5 =>
 xb (aload P h5 98 x2) fun r =>
 some (r, h5)
theorem s106_j0_eq (G : CallT) (N : Nat) : ∀ R H, codeC P G N (Code.snd (Code.snd (Code.snd (Code.snd (bodyOf Tryz.f106))))) (rC Tryz.f106) [] (rC Tryz.f106) R H = s106_j0 G (R 0) (R 2) (R 3) (R 4) H := by
 refine via_trans (via_leaf _) fun R H => ?_
 delta s106_j0
 kernel_rfl
def s106 (G : CallT) (x0 : AV) (H : AHeap) : O :=
 xalloc H [(.int .i64 0), (.str []), (.str []), (.int .i64 0), AV.nilSl, AV.nilSl, AV.nilSl, (.int .i64 0), (.int .i64 0)] fun x2 h1 =>
 xcall h1 (G 123 [x0] h1) fun x8 h2 =>
 xalloc h2 [(.int .i64 0), (.str []), (.int .i64 0), (.int .i64 0)] fun x3 h3 =>
 xstore h3 (astore P h3 57 x3 x8) fun h4 =>
 xb (afieldAddr P 57 x3 0) fun x9 =>
 xb (aload P h4 3 x9) fun x10 =>
 xb (fbin P .eql 3 true x10 (.int .i64 3)) fun x11 =>
 xif (some x11) (xcall h4 (G 125 [] h4) fun x12 h5 =>
 xb (afieldAddr P 57 x3 1) fun x13 =>
 xb (aload P h5 9 x13) fun x14 =>
 xb (alookup P h5 144 x12 x14 false) fun x15 =>
 bif ((rdIs (aload P h4 9 x13) x14 && rdIs (aload P h5 9 x13) x14) && true) then (xb (fbin P .neq 143 true x15 AV.nilFunc) fun x17 =>
 xif (some x17) (xb (anil x0) fun x19 =>
 xb (afieldAddr P 112 x19 1) fun x20 =>
 xb (aload P h5 3 x20) fun x21 =>
 xb (fbin P .add 3 true x21 (.int .i64 1)) fun x22 =>
 xb (anil x0) fun x23 =>
 xb (afieldAddr P 112 x23 1) fun x24 =>
 xstore h5 (astore P h5 3 x24 x22) fun h6 =>
 s106_j0 G x0 x2 x3 x15 h6) (s106_j0 G x0 x2 x3 (.func (.func 124) [] []) h5)) else none) (s106_j0 G x0 x2 x3 (.func (.func 124) [] []) h4)
theorem s106_eq (G : CallT) (N : Nat) (x0 : AV) (H : AHeap) : cF Tryz.f106 G N (argsF [x0]) H = s106 G x0 H := by
 refine via_top (A := cF Tryz.f106 G N) ((via_seq (by kernel_rfl) ((via_seq (by kernel_rfl) ((via_seq (by kernel_rfl) ((via_seq (by kernel_rfl) (s106_j0_eq G N) (via_leaf _))) (via_leaf _))) (via_leaf _))) (via_leaf _))) ?_
 delta s106
 generalize s106_j0 G = J0
 revert J0
 refine id ?_
 intro J0
 kernel_rfl
theorem run106 (N : Nat) {x0 : AV} {H : AHeap} {r : AV × AHeap} (h : s106 (evw P orc) x0 H = some r) : evw P orc 106 [x0] H = some r :=
 runF (by kernel_rfl) Tryz.func106 (by kernel_rfl) (by kernel_rfl) (by kernel_rfl) ((s106_eq (evw P orc) N x0 H).trans h)
def s125 (G : CallT) (H : AHeap) : O :=
 xmake H (some (.map (H).next, .map [])) fun x1 h1 =>
 xstore h1 (amapUpdate P h1 144 x1 (.str [118, 97, 114]) (.func (.func 139) [] [])) fun h2 =>
 xstore h2 (amapUpdate P h2 144 x1 (.str [108, 101, 116]) (.func (.func 140) [] [])) fun h3 =>
 xstore h3 (amapUpdate P h3 144 x1 (.str [105, 102]) (.func (.func 141) [] [])) fun h4 =>
 xstore h4 (amapUpdate P h4 144 x1 (.str [119, 104, 105, 108, 101]) (.func (.func 142) [] [])) fun h5 =>
 xstore h5 (amapUpdate P h5 144 x1 (.str [114, 101, 116, 117, 114, 110]) (.func (.func 143) [] [])) fun h6 =>
 xstore h6 (amapUpdate P h6 144 x1 (.str [112, 114, 105, 110, 116]) (.func (.func 144) [] [])) fun h7 =>
 some (x1, h7)
theorem s125_eq (G : CallT) (N : Nat) (H : AHeap) : cF Tryz.f125 G N (argsF []) H = s125 G H := by
 refine via_top (A := cF Tryz.f125 G N) (via_leaf _) ?_
 delta s125
 kernel_rfl
theorem run125 (N : Nat) {H : AHeap} {r : AV × AHeap} (h : s125 (evw P orc) H = some r) : evw P orc 125 [] H = some r :=
 runF (by kernel_rfl) Tryz.func125 (by kernel_rfl) (by kernel_rfl) (by kernel_rfl) ((s125_eq (evw P orc) N H).trans h)
def s139 (G : CallT) (x0 : AV) (H : AHeap) : O :=
 xalloc H [(.int .i64 0), (.str []), (.str []), (.int .i64 0), AV.nilSl, AV.nilSl, AV.nilSl, (.int .i64 0), (.int .i64 0)] fun x2 h1 =>
 xcall h1 (G 155 [x0] h1) fun x7 h2 =>
 xb (aextract x7 0) fun x8 =>
 xb (aextract x7 1) fun x9 =>
 xalloc h2 [(.str []), (.int .i64 0)] fun x4 h3 =>
 xstore h3 (astore P h3 43 x4 x9) fun h4 =>
 xcall h4 (G 107 [x0, (.str [59])] h4) fun x11 h5 =>
 xb (aload P h5 43 x4) fun x13 =>
 xb (abuild P 98 [(0, (.int .i64 1)), (1, x8), (2, x13)]) fun x14 =>
 xstore h5 (astore P h5 98 x2 x14) fun h6 =>
 xb (aload P h6 98 x2) fun r =>
 some (r, h6)
theorem s139_eq (G : CallT) (N : Nat) (x0 : AV) (H : AHeap) : cF Tryz.f139 G N (argsF [x0]) H = s139 G x0 H := by
 refine via_top (A := cF Tryz.f139 G N) (via_leaf _) ?_
 delta s139
 kernel_rfl
theorem run139 (N : Nat) {x0 : AV} {H : AHeap} {r : AV × AHeap} (h : s139 (evw P orc) x0 H = some r) : evw P orc 139 [x0] H = some r :=
 runF (by kernel_rfl) Tryz.func139 (by kernel_rfl) (by kernel_rfl) (by kernel_rfl) ((s139_eq (evw P orc) N x0 H).trans h)
def s140 (G : CallT) (x0 : AV) (H : AHeap) : O :=
 xalloc H [(.int .i64 0), (.str []), (.str []), (.int .i64 0), AV.nilSl, AV.nilSl, AV.nilSl, (.int .i64 0), (.int .i64 0)] fun x2 h1 =>
 xcall h1 (G 155 [x0] h1) fun x8 h2 =>
 xb (aextract x8 0) fun x9 =>
 xb (aextract x8 1) fun x10 =>
 xalloc h2 [(.str []), (.int .i64 0)] fun x4 h3 =>
 xstore h3 (astore P h3 43 x4 x10) fun h4 =>
 xcall h4 (G 107 [x0, (.str [61])] h4) fun x12 h5 =>
 xcall h5 (G 137 [x0] h5) fun x14 h6 =>
 xalloc h6 [(.int .i64 0), (.int .i64 0), (.str []), (.str []), (.int .i64 0), AV.nilSl, (.int .i64 0), (.int .i64 0), (.int .i64 0), (.int .i64 0), (.int .i64 0)] fun x5 h7 =>
 xstore h7 (astore P h7 103 x5 x14) fun h8 =>
 xcall h8 (G 107 [x0, (.str [59])] h8) fun x16 h9 =>
 xb (aload P h9 43 x4) fun x18 =>
 xb (aload P h9 103 x5) fun x19 =>
 xmake h9 (sliceOf P (h9).next 96 1 [(0, x19)]) fun x20 h10 =>
 xb (abuild P 98 [(0, (.int .i64 2)), (1, x9), (2, x18), (3, x20)]) fun x21 =>
 xstore h10 (astore P h10 98 x2 x21) fun h11 =>
 xb (aload P h11 98 x2) fun r =>
 some (r, h11)
theorem s140_eq (G : CallT) (N : Nat) (x0 : AV) (H : AHeap) : cF Tryz.f140 G N (argsF [x0]) H = s140 G x0 H := by
 refine via_top (A := cF Tryz.f140 G N) (via_leaf _) ?_
 delta s140
 kernel_rfl
theorem run140 (N : Nat) {x0 : AV} {H : AHeap} {r : AV × AHeap} (h : s140 (evw P orc) x0 H = some r) : evw P orc 140 [x0] H = some r :=
 runF (by kernel_rfl) Tryz.func140 (by kernel_rfl) (by kernel_rfl) (by kernel_rfl) ((s140_eq (evw P orc) N x0 H).trans h)
def s141_j0 (G : CallT) (x2 x3 : AV) (H : AHeap) : O :=
 xb (aload P H 98 x3) fun x15 =>
 xstore H (astore P H 98 x2 x15) fun h1 =>
 xb (aload P h1 98 x2) fun r =>
 some (r, h1)
theorem s141_j0_eq (G : CallT) (N : Nat) : ∀ R H, codeC P G N (Code.snd (Code.snd (Code.snd (bodyOf Tryz.f141)))) (rC Tryz.f141) [] (rC Tryz.f141) R H = s141_j0 G (R 2) (R 3) H := by
 refine via_trans (via_leaf _) fun R H => ?_
 delta s141_j0
 kernel_rfl
def s141 (G : CallT) (x0 : AV) (H : AHeap) : O :=
 xalloc H [(.int .i64 0), (.str []), (.str []), (.int .i64 0), AV.nilSl, AV.nilSl, AV.nilSl, (.int .i64 0), (.int .i64 0)] fun x2 h1 =>
 xcall h1 (G 137 [x0] h1) fun x5 h2 =>
 xmake h2 (sliceOf P (h2).next 96 1 [(0, x5)]) fun x6 h3 =>
 xcall h3 (G 74 [x0] h3) fun x8 h4 =>
 xb (abuild P 98 [(0, (.int .i64 5)), (3, x6), (4, x8)]) fun x9 =>
 xalloc h4 [(.int .i64 0), (.str []), (.str []), (.int .i64 0), AV.nilSl, AV.nilSl, AV.nilSl, (.int .i64 0), (.int .i64 0)] fun x3 h5 =>
 xstore h5 (astore P h5 98 x3 x9) fun h6 =>
 xcall h6 (G 126 [x0, (.int .i64 3), (.str [101, 108, 115, 101])] h6) fun x11 h7 =>
 xif (some x11) (xcall h7 (G 74 [x0] h7) fun x13 h8 =>
 xb (afieldAddr P 98 x3 5) fun x14 =>
 xstore h8 (astore P h8 44 x14 x13) fun h9 =>
 s141_j0 G x2 x3 h9) (s141_j0 G x2 x3 h7)
theorem s141_eq (G : CallT) (N : Nat) (x0 : AV) (H : AHeap) : cF Tryz.f141 G N (argsF [x0]) H = s141 G x0 H := by
 refine via_top (A := cF Tryz.f141 G N) ((via_seq (by kernel_rfl) ((via_seq (by kernel_rfl) ((via_seq (by kernel_rfl) (s141_j0_eq G N) (via_leaf _))) (via_leaf _))) (via_leaf _))) ?_
 delta s141
 generalize s141_j0 G = J0
 revert J0
 refine id ?_
 intro J0
 kernel_rfl
theorem run141 (N : Nat) {x0 : AV} {H : AHeap} {r : AV × AHeap} (h : s141 (evw P orc) x0 H = some r) : evw P orc 141 [x0] H = some r :=
 runF (by kernel_rfl) Tryz.func141 (by kernel_rfl) (by kernel_rfl) (by kernel_rfl) ((s141_eq (evw P orc) N x0 H).trans h)
def s142 (G : CallT) (x0 : AV) (H : AHeap) : O :=
 xalloc H [(.int .i64 0), (.str []), (.str []), (.int .i64 0), AV.nilSl, AV.nilSl, AV.nilSl, (.int .i64 0), (.int .i64 0)] fun x2 h1 =>
 xcall h1 (G 137 [x0] h1) fun x4 h2 =>
 xmake h2 (sliceOf P (h2).next 96 1 [(0, x4)]) fun x5 h3 =>
 xcall h3 (G 74 [x0] h3) fun x7 h4 =>
 xb (abuild P 98 [(0, (.int .i64 6)), (3, x5), (4, x7)]) fun x8 =>
 xstore h4 (astore P h4 98 x2 x8) fun h5 =>
 xb (aload P h5 98 x2) fun r =>
 some (r, h5)
theorem s142_eq (G : CallT) (N : Nat) (x0 : AV) (H : AHeap) : cF Tryz.f142 G N (argsF [x0]) H = s142 G x0 H := by
 refine via_top (A := cF Tryz.f142 G N) (via_leaf _) ?_
 delta s142
 kernel_rfl
theorem run142 (N : Nat) {x0 : AV} {H : AHeap} {r : AV × AHeap} (h : s142 (evw P orc) x0 H = some r) : evw P orc 142 [x0] H = some r :=
 runF (by kernel_rfl) Tryz.func142 (by kernel_rfl) (by kernel_rfl) (by kernel_rfl) ((s142_eq (evw P orc) N x0 H).trans h)
def s143_j0 (G : CallT) (x0 x2 x3 : AV) (H : AHeap) : O :=
 xcall H (G 107 [x0, (.str [59])] H) fun x13 h1 =>
 xb (aload P h1 98 x3) fun x14 =>
 xstore h1 (astore P h1 98 x2 x14) fun h2 =>
 xb (aload P h2 98 x2) fun r =>
 some (r, h2)
theorem s143_j0_eq (G : CallT) (N : Nat) : ∀ R H, codeC P G N (Code.snd (Code.snd (Code.snd (bodyOf Tryz.f143)))) (rC Tryz.f143) [] (rC Tryz.f143) R H = s143_j0 G (R 0) (R 2) (R 3) H := by
 refine via_trans (via_leaf _) fun R H => ?_
 delta s143_j0
 kernel_rfl
def s143 (G : CallT) (x0 : AV) (H : AHeap) : O :=
 xalloc H [(.int .i64 0), (.str []), (.str []), (.int .i64 0), AV.nilSl, AV.nilSl, AV.nilSl, (.int .i64 0), (.int .i64 0)] fun x2 h1 =>
 xalloc h1 [(.int .i64 0), (.str []), (.str []), (.int .i64 0), AV.nilSl, AV.nilSl, AV.nilSl, (.int .i64 0), (.int .i64 0)] fun x3 h2 =>
 xstore h2 (astore P h2 98 x3 (.agg [(.int .i64 7), (.str []), (.str []), (.int .i64 0), AV.nilSl, AV.nilSl, AV.nilSl, (.int .i64 0), (.int .i64 0)])) fun h3 =>
 xcall h3 (G 103 [x0, (.int .i64 4), (.str [59])] h3) fun x6 h4 =>
 xb (aun .not x6) fun x7 =>
 xif (some x7) (xcall h4 (G 137 [x0] h4) fun x9 h5 =>
 xmake h5 (sliceOf P (h5).next 96 1 [(0, x9)]) fun x10 h6 =>
 xb (afieldAddr P 98 x3 3) fun x11 =>
 xstore h6 (astore P h6 96 x11 x10) fun h7 =>
 s143_j0 G x0 x2 x3 h7) (s143_j0 G x0 x2 x3 h4)
theorem s143_eq (G : CallT) (N : Nat) (x0 : AV) (H : AHeap) : cF Tryz.f143 G N (argsF [x0]) H = s143 G x0 H := by
 refine via_top (A := cF Tryz.f143 G N) ((via_seq (by kernel_rfl) ((via_seq (by kernel_rfl) ((via_seq (by kernel_rfl) (s143_j0_eq G N) (via_leaf _))) (via_leaf _))) (via_leaf _))) ?_
 delta s143
 generalize s143_j0 G = J0
 revert J0
 refine id ?_
 intro J0
 kernel_rfl
theorem run143 (N : Nat) {x0 : AV} {H : AHeap} {r : AV × AHeap} (h : s143 (evw P orc) x0 H = some r) : evw P orc 143 [x0] H = some r :=
 runF (by kernel_rfl) Tryz.func143 (by kernel_rfl) (by kernel_rfl) (by kernel_rfl) ((s143_eq (evw P orc) N x0 H).trans h)
def s144 (G : CallT) (x0 : AV) (H : AHeap) : O :=
 xalloc H [(.int .i64 0), (.str []), (.str []), (.int .i64 0), AV.nilSl, AV.nilSl, AV.nilSl, (.int .i64 0), (.int .i64 0)] fun x2 h1 =>
 xcall h1 (G 137 [x0] h1) fun x5 h2 =>
 xalloc h2 [(.int .i64 0), (.int .i64 0), (.str []), (.str []), (.int .i64 0), AV.nilSl, (.int .i64 0), (.int .i64 0), (.int .i64 0), (.int .i64 0), (.int .i64 0)] fun x3 h3 =>
 xstore h3 (astore P h3 103 x3 x5) fun h4 =>
 xcall h4 (G 107 [x0, (.str [59])] h4) fun x7 h5 =>
 xb (aload P h5 103 x3) fun x8 =>
 xmake h5 (sliceOf P (h5).next 96 1 [(0, x8)]) fun x9 h6 =>
 xb (abuild P 98 [(0, (.int .i64 8)), (3, x9)]) fun x10 =>
 xstore h6 (astore P h6 98 x2 x10) fun h7 =>
 xb (aload P h7 98 x2) fun r =>
 some (r, h7)
theorem s144_eq (G : CallT) (N : Nat) (x0 : AV) (H : AHeap) : cF Tryz.f144 G N (argsF [x0]) H = s144 G x0 H := by
 refine via_top (A := cF Tryz.f144 G N) (via_leaf _) ?_
 delta s144
 kernel_rfl
theorem run144 (N : Nat) {x0 : AV} {H : AHeap} {r : AV × AHeap} (h : s144 (evw P orc) x0 H = some r) : evw P orc 144 [x0] H = some r :=
 runF (by kernel_rfl) Tryz.func144 (by kernel_rfl) (by kernel_rfl) (by kernel_rfl) ((s144_eq (evw P orc) N x0 H).trans h)
def s124_j0 (G : CallT) (x0 x2 x3 : AV) (H : AHeap) : O :=
 xcall H (G 107 [x0, (.str [59])] H) fun x21 h1 =>
 xb (aload P h1 103 x3) fun x22 =>
 xmake h1 (sliceOf P (h1).next 96 1 [(0, x22)]) fun x23 h2 =>
 xb (abuild P 98 [(0, (.int .i64 9)), (3, x23)]) fun x24 =>
 xstore h2 (astore P h2 98 x2 x24) fun h3 =>
 xb (aload P h3 98 x2) fun r =>
 some (r, h3)
theorem s124_j0_eq (G : CallT) (N : Nat) : ∀ R H, codeC P G N (Code.snd (Code.snd (Code.snd (Code.snd (bodyOf Tryz.f124))))) (rC Tryz.f124) [] (rC Tryz.f124) R H = s124_j0 G (R 0) (R 2) (R 3) H := by
 refine via_trans (via_leaf _) fun R H => ?_
 delta s124_j0
 kernel_rfl
def s124 (G : CallT) (x0 : AV) (H : AHeap) : O :=
 xalloc H [(.int .i64 0), (.str []), (.str []), (.int .i64 0), AV.nilSl, AV.nilSl, AV.nilSl, (.int .i64 0), (.int .i64 0)] fun x2 h1 =>
 xcall h1 (G 137 [x0] h1) fun x5 h2 =>
 xalloc h2 [(.int .i64 0), (.int .i64 0), (.str []), (.str []), (.int .i64 0), AV.nilSl, (.int .i64 0), (.int .i64 0), (.int .i64 0), (.int .i64 0), (.int .i64 0)] fun x3 h3 =>
 xstore h3 (astore P h3 103 x3 x5) fun h4 =>
 xcall h4 (G 103 [x0, (.int .i64 4), (.str [61])] h4) fun x7 h5 =>
 xif (some x7) (xb (aload P h5 103 x3) fun x9 =>
 xcall h5 (G 138 [x0, x9] h5) fun x10 h6 =>
 xstore h6 (astore P h6 98 x2 x10) fun h7 =>
 xb (aload P h7 98 x2) fun r =>
 some (r, h7)) (xcall h5 (G 103 [x0, (.int .i64 4), (.str [59])] h5) fun x12 h6 =>
 xg x12 true h6 (qp (afieldAddr P 103 x3 0)) fun x14 h7 =>
 xg x12 true h7 (qr (aload P h7 3 x14)) fun x15 h8 =>
 xg x12 true h8 (qp (fbin P .neq 3 true x15 (.int .i64 7))) fun x16 h9 =>
 xb (pickOf x12 (some x16) (some (.bool false))) fun x17 =>
 xif (some x17) (xcall h9 (G 104 [x0, (.int .i64 2)] h9) fun x19 h10 =>
 s124_j0 G x0 x2 x3 h10) (s124_j0 G x0 x2 x3 h9))
theorem s124_eq (G : CallT) (N : Nat) (x0 : AV) (H : AHeap) : cF Tryz.f124 G N (argsF [x0]) H = s124 G x0 H := by
 refine via_top (A := cF Tryz.f124 G N) ((via_seq (by kernel_rfl) ((via_seq (by kernel_rfl) ((via_seq (by kernel_rfl) ((via_seq (by kernel_rfl) (s124_j0_eq G N) (via_leaf _))) (via_leaf _))) (via_leaf _))) (via_leaf _))) ?_
 delta s124
 generalize s124_j0 G = J0
 revert J0
 refine id ?_
 intro J0
 kernel_rfl
theorem run124 (N : Nat) {x0 : AV} {H : AHeap} {r : AV × AHeap} (h : s124 (evw P orc) x0 H = some r) : evw P orc 124 [x0] H = some r :=
 runF (by kernel_rfl) Tryz.func124 (by kernel_rfl) (by kernel_rfl) (by kernel_rfl) ((s124_eq (evw P orc) N x0 H).trans h)
def s138_j0 (G : CallT) (x0 x3 x4 : AV) (H : AHeap) : O :=
 xcall H (G 107 [x0, (.str [61])] H) fun x22 h1 =>
 xcall h1 (G 137 [x0] h1) fun x24 h2 =>
 xalloc h2 [(.int .i64 0), (.int .i64 0), (.str []), (.str []), (.int .i64 0), AV.nilSl, (.int .i64 0), (.int .i64 0), (.int .i64 0), (.int .i64 0), (.int .i64 0)] fun x5 h3 =>
 xstore h3 (astore P h3 103 x5 x24) fun h4 =>
 xcall h4 (G 107 [x0, (.str [59])] h4) fun x26 h5 =>
 xb (afieldAddr P 103 x3 0) fun x27 =>
 xb (aload P h5 3 x27) fun x28 =>
 xb (fbin P .eql 3 true x28 (.int .i64 4)) fun x29 =>
 xif (some x29) (xb (afieldAddr P 103 x3 2) fun x30 =>
 xb (aload P h5 9 x30) fun x31 =>
 xb (aload P h5 103 x5) fun x32 =>
 xmake h5 (sliceOf P (h5).next 96 1 [(0, x32)]) fun x33 h6 =>
 xb (abuild P 98 [(0, (.int .i64 3)), (1, x31), (3, x33)]) fun x34 =>
 xstore h6 (astore P h6 98 x4 x34) fun h7 =>
 xb (aload P h7 98 x4) fun r =>
 some (r, h7)) (xb (aload P h5 103 x3) fun x35 =>
 xb (aload P h5 103 x5) fun x36 =>
 xmake h5 (sliceOf P (h5).next 96 2 [(0, x35), (1, x36)]) fun x37 h6 =>
 xb (abuild P 98 [(0, (.int .i64 4)), (3, x37)]) fun x38 =>
 xstore h6 (astore P h6 98 x4 x38) fun h7 =>
 xb (aload P h7 98 x4) fun r =>
 some (r, h7))
theorem s138_j0_eq (G : CallT) (N : Nat) : ∀ R H, codeC P G N (Code.snd (Code.snd (bodyOf Tryz.f138))) (rC Tryz.f138) [] (rC Tryz.f138) R H = s138_j0 G (R 0) (R 3) (R 4) H := by
 refine via_trans (via_leaf _) fun R H => ?_
 delta s138_j0
 kernel_rfl
def s138 (G : CallT) (x0 x1 : AV) (H : AHeap) : O :=
 xmake H (boxOf (H).next x1) fun x3 h1 =>
 xalloc h1 [(.int .i64 0), (.str []), (.str []), (.int .i64 0), AV.nilSl, AV.nilSl, AV.nilSl, (.int .i64 0), (.int .i64 0)] fun x4 h2 =>
 xb (afieldAddr P 103 x3 0) fun x6 =>
 xb (aload P h2 3 x6) fun x7 =>
 xb (fbin P .neq 3 true x7 (.int .i64 4)) fun x8 =>
 xg x8 true h2 (qp (afieldAddr P 103 x3 0)) fun x10 h3 =>
 xg x8 true h3 (qr (aload P h3 3 x10)) fun x11 h4 =>
 xg x8 true h4 (qp (fbin P .neq 3 true x11 (.int .i64 5))) fun x12 h5 =>
 xb (pickOf x8 (some x12) (some (.bool false))) fun x13 =>
 xg x13 true h5 (qp (afieldAddr P 103 x3 0)) fun x15 h6 =>
 xg x13 true h6 (qr (aload P h6 3 x15)) fun x16 h7 =>
 xg x13 true h7 (qp (fbin P .neq 3 true x16 (.int .i64 6))) fun x17 h8 =>
 xb (pickOf x13 (some x17) (some (.bool false))) fun x18 =>
 xif (some x18) (xcall h8 (G 104 [x0, (.int .i64 2)] h8) fun x20 h9 =>
 s138_j0 G x0 x3 x4 h9) (s138_j0 G x0 x3 x4 h8)
theorem s138_eq (G : CallT) (N : Nat) (x0 : AV) (x1 : AV) (H : AHeap) : cF Tryz.f138 G N (argsF [x0, x1]) H = s138 G x0 x1 H := by
 refine via_top (A := cF Tryz.f138 G N) ((via_seq (by kernel_rfl) ((via_seq (by kernel_rfl) (s138_j0_eq G N) (via_leaf _))) (via_leaf _))) ?_
 delta s138
 generalize s138_j0 G = J0
 revert J0
 refine id ?_
 intro J0
 kernel_rfl
theorem run138 (N : Nat) {x0 x1 : AV} {H : AHeap} {r : AV × AHeap} (h : s138 (evw P orc) x0 x1 H = some r) : evw P orc 138 [x0, x1] H = some r :=
 runF (by kernel_rfl) Tryz.func138 (by kernel_rfl) (by kernel_rfl) (by kernel_rfl) ((s138_eq (evw P orc) N x0 x1 H).trans h)
def s55 (G : CallT) (x0 x1 x2 : AV) (H : AHeap) : O :=
 xalloc H [(.int .i64 0), (.int .i64 0)] fun x8 h1 =>
 xlen P .max [3, 3] [x2, (.int .i64 0)] h1 fun x14 =>
 xb (abuild P 112 [(0, x0), (1, x1), (2, x14)]) fun x15 =>
 xmake h1 (boxOf (h1).next x15) fun x16 h2 =>
 xcall h2 (G 74 [x16] h2) fun x18 h3 =>
 xcall h3 (G 75 [x16] h3) fun x20 h4 =>
 xif (some x20) (xb (anil x16) fun x22 =>
 xb (afieldAddr P 112 x22 3) fun x23 =>
 xb (aload P h4 29 x23) fun x24 =>
 xstore h4 (astore P h4 29 x8 x24) fun h5 =>
 xb (aload P h5 29 x8) fun r =>
 some (.tuple [AV.nilSl, (.int .i64 0), r], h5)) (xb (anil x16) fun x27 =>
 xb (afieldAddr P 112 x27 1) fun x28 =>
 xb (aload P h4 3 x28) fun x29 =>
 xstore h4 (astore P h4 29 x8 (.agg [(.int .i64 0), (.int .i64 0)])) fun h5 =>
 xb (aload P h5 29 x8) fun r =>
 some (.tuple [x18, x29, r], h5))
theorem s55_eq (G : CallT) (N : Nat) (x0 : AV) (x1 : AV) (x2 : AV) (H : AHeap) : cF Tryz.f55 G N (argsF [x0, x1, x2]) H = s55 G x0 x1 x2 H := by
 refine via_top (A := cF Tryz.f55 G N) (via_leaf _) ?_
 delta s55
 kernel_rfl
theorem run55 (N : Nat) {x0 x1 x2 : AV} {H : AHeap} {r : AV × AHeap} (h : s55 (evw P orc) x0 x1 x2 H = some r) : evw P orc 55 [x0, x1, x2] H = some r :=
 runF (by kernel_rfl) Tryz.func55 (by kernel_rfl) (by kernel_rfl) (by kernel_rfl) ((s55_eq (evw P orc) N x0 x1 x2 H).trans h)
end
end Go.Proofs.YtghmbpmaafnodaaGreatDoor
namespace Go.Proofs.YtghmbpmaafnodaaGreatDoor
open Go.Ev
theorem ktok_spec {H : AHeap} {r : Nat} {tv : AV} {s : St} {T : List Tok} (hr : Rd5 H r tv s) (ht : TokSl H tv T) : W (evw P orc 123 [.ptr r 0 0] H) fun v H' => v = (tokAt T s.at_).v ∧ Pur H H' := by
 unfold Rd5 at hr
 have hl := AHeap.get_lt hr
 refine W_of (fun _ => run123 0) ?_
 by_cases h0 : s.at_ < 0
 ·simp -implicitDefEqProofs (disch := first | assumption | omega | (simp only [nxB]; omega) | (simp only [oneB])) only [s123, xlen, AV.cells, splice, aload, astore, Nat.reduceAdd, Nat.reduceLeDiff, reduceIte, allB, hr, h0, decide_true, W_some]
  exact ⟨by simp [tokAt, h0, Tok.v, Tok.none], Pur.push _ _⟩
 ·rcases ht with ⟨rfl, rfl⟩ | ⟨l, i, cap, rfl, h23⟩
  ·have h1 : (0 : Int) ≤ s.at_ := by omega
   simp -implicitDefEqProofs (disch := first | assumption | omega | (simp only [nxB]; omega) | (simp only [oneB])) only [s123, xlen, AV.cells, splice, aload, astore, Nat.reduceAdd, Nat.reduceLeDiff, reduceIte, allB, hr, h0, h1, decide_true, decide_false, W_some, ln50n]
   exact ⟨by simp [tokAt, h0, Tok.v, Tok.none, h1], Pur.push _ _⟩
  ·by_cases h1 : (T.length : Int) ≤ s.at_
   ·simp -implicitDefEqProofs (disch := first | assumption | omega | (simp only [nxB]; omega) | (simp only [oneB])) only [s123, xlen, AV.cells, splice, aload, astore, Nat.reduceAdd, Nat.reduceLeDiff, reduceIte, allB, hr, h0, h1, decide_true, decide_false, W_some, ln50]
    exact ⟨by simp [tokAt, h0, Tok.v, Tok.none, h1], Pur.push _ _⟩
   ·have hlt : s.at_.toNat < T.length := by omega
    obtain ⟨ro, els, h2, h3⟩ := h23.resolve_left (by rintro rfl; simp at hlt)
    have hl2 := AHeap.get_lt h2
    have h4 := h3 s.at_.toNat T[s.at_.toNat] (by simp [hlt])
    simp only [Tok.cells] at h4
    simp -implicitDefEqProofs (disch := first | assumption | omega | (simp only [nxB]; omega) | (simp only [oneB])) only [s123, xlen, AV.cells, splice, aload, astore, Nat.reduceAdd, Nat.reduceLeDiff, reduceIte, allB, hr, h0, h1, decide_true, decide_false, W_some, ln50, ia50, h2, h4]
    refine ⟨?_, Pur.push _ _⟩
    simp [tokAt, h0, h1, Tok.v, hlt]
theorem kfailed_spec {H : AHeap} {r : Nat} {tv : AV} {s : St} (hr : Rd5 H r tv s) : W (evw P orc 75 [.ptr r 0 0] H) fun v H' => v = .bool (s.fe != 0) ∧ H' = H := by
 unfold Rd5 at hr
 refine W_of (fun _ => run75 0) ?_
 simp -implicitDefEqProofs (disch := first | assumption | omega | (simp only [nxB]; omega) | (simp only [oneB])) only [s75, xlen, AV.cells, splice, aload, astore, Nat.reduceAdd, Nat.reduceLeDiff, reduceIte, allB, hr]
 exact W_some.2 ⟨rfl, rfl⟩
theorem kfail_spec {H : AHeap} {r : Nat} {T : List Tok} {tv : AV} {s : St} (hx : Ry H r T tv s) (e : Int) : W (evw P orc 104 [.ptr r 0 0, .int .i64 e] H) fun v H' => v = .tuple [] ∧ Mt r H H' ∧ Ry H' r T tv (failS T e s) := by
 refine W_of (fun _ => run104 0) ?_
 have hr := hx.rd
 have ho1 := hx.tk.one
 rw [s104]
 refine W_call (kfailed_spec hr) ?_
 rintro _ H1 ⟨rfl, rfl⟩
 refine ⟨Nat.le_refl _, ?_⟩
 by_cases h1 : s.fe = 0
 ·rw [show failS T e s = { s with fe := e, fa := (tokAt T s.at_).pos } by simp [failS, h1]]
  simp -implicitDefEqProofs (disch := first | assumption | omega | (simp only [nxB]; omega) | (simp only [oneB])) only [s104, xlen, evB, h1, bne_self_eq_false]
  refine W_call (ktok_spec hr hx.tk) ?_
  rintro _ H2 ⟨rfl, p2⟩
  refine ⟨p2.1, ?_⟩
  have hr2 : Rd5 H2 r tv s := hr.pur p2
  have hr2' := hr2
  unfold Rd5 at hr2'
  simp -implicitDefEqProofs (disch := first | assumption | omega | (simp only [nxB]; omega) | (simp only [oneB])) only [s104, xlen, AV.cells, splice, aload, astore, Nat.reduceAdd, Nat.reduceLeDiff, reduceIte, allB, Tok.v, hr2', ho1]
  obtain ⟨m, hd⟩ := rset hr2 { s with fe := e, fa := (tokAt T s.at_).pos }
  exact W_some.2 ⟨rfl, (p2.mut _).trans m, hx.mut ((p2.mut _).trans m) hd⟩
 ·have h1' : (s.fe != 0) = true := by simpa using h1
  rw [show failS T e s = s by simp [failS, h1]]
  simp -implicitDefEqProofs (disch := first | assumption | omega | (simp only [nxB]; omega) | (simp only [oneB])) only [s104, xlen, evB, h1']
  exact W_some.2 ⟨rfl, Mut.refl _ _, hx⟩
theorem kis_spec {H : AHeap} {r : Nat} {tv : AV} {s : St} {T : List Tok} (hr : Rd5 H r tv s) (ht : TokSl H tv T) (k : Int) (x : List UInt8) : W (evw P orc 103 [.ptr r 0 0, .int .i64 k, .str x] H) fun v H' => v = .bool (isB T s k x) ∧ Pur H H' := by
 refine W_of (fun _ => run103 0) ?_
 rw [s103]
 refine W_call (ktok_spec hr ht) ?_
 rintro _ H1 ⟨rfl, p1⟩
 refine ⟨p1.1, ?_⟩
 simp -implicitDefEqProofs (disch := first | assumption | omega | (simp only [nxB]; omega) | (simp only [oneB])) only [s103, xlen, AV.cells, splice, aload, astore, Nat.reduceAdd, Nat.reduceLeDiff, reduceIte, allB, Tok.v]
 refine W_call (kfailed_spec (hr.pur (p1.then_push _))) ?_
 rintro _ H2 ⟨rfl, rfl⟩
 refine ⟨Nat.le_refl _, ?_⟩
 by_cases h1 : s.fe = 0
 ·by_cases h2 : (tokAt T s.at_).kind = k
  ·simp -implicitDefEqProofs (disch := first | assumption | omega | (simp only [nxB]; omega) | (simp only [oneB])) only [s103, xlen, AV.cells, splice, aload, astore, Nat.reduceAdd, Nat.reduceLeDiff, reduceIte, allB, W_some, h1, h2, bne_self_eq_false, Bool.not_false, beq_self_eq_true]
   exact ⟨by simp [isB, h1, h2], p1.then_push _⟩
  ·have h2' : ((tokAt T s.at_).kind == k) = false := by simpa using h2
   simp -implicitDefEqProofs (disch := first | assumption | omega | (simp only [nxB]; omega) | (simp only [oneB])) only [s103, xlen, AV.cells, splice, aload, astore, Nat.reduceAdd, Nat.reduceLeDiff, reduceIte, allB, W_some, h1, h2', bne_self_eq_false, Bool.not_false]
   exact ⟨by simp [isB, h2], p1.then_push _⟩
 ·have h1' : (s.fe != 0) = true := by simpa using h1
  simp -implicitDefEqProofs (disch := first | assumption | omega | (simp only [nxB]; omega) | (simp only [oneB])) only [s103, xlen, AV.cells, splice, aload, astore, Nat.reduceAdd, Nat.reduceLeDiff, reduceIte, allB, W_some, h1', Bool.not_true]
  exact ⟨by simp [isB, h1], p1.then_push _⟩
theorem ktakes_spec {H : AHeap} {r : Nat} {T : List Tok} {tv : AV} {s : St} (hx : Ry H r T tv s) (k : Int) (x : List UInt8) : W (evw P orc 126 [.ptr r 0 0, .int .i64 k, .str x] H) fun v H' => v = .bool (takesS T k x s).1 ∧ Mt r H H' ∧ Ry H' r T tv (takesS T k x s).2 := by
 refine W_of (fun _ => run126 0) ?_
 have ho1 := hx.tk.one
 rw [s126]
 refine W_call (kis_spec hx.rd hx.tk k x) ?_
 rintro _ H1 ⟨rfl, p1⟩
 refine ⟨p1.1, ?_⟩
 have hr2 := hx.rd.pur p1
 have hr2' := hr2
 unfold Rd5 at hr2'
 cases hb : isB T s k x with
 | false =>
  rw [show takesS T k x s = (false, s) by simp [takesS, hb]]
  simp -implicitDefEqProofs (disch := first | assumption | omega | (simp only [nxB]; omega) | (simp only [oneB])) only [s126, xlen, AV.cells, splice, aload, astore, Nat.reduceAdd, Nat.reduceLeDiff, reduceIte, allB, Bool.not_false]
  exact W_some.2 ⟨rfl, p1.mut _, hx.pur p1⟩
 | true =>
  rw [show takesS T k x s = (true, goS s) by simp [takesS, hb]]
  simp -implicitDefEqProofs (disch := first | assumption | omega | (simp only [nxB]; omega) | (simp only [oneB])) only [s126, xlen, AV.cells, splice, aload, astore, Nat.reduceAdd, Nat.reduceLeDiff, reduceIte, allB, hr2', ho1, Bool.not_true]
  obtain ⟨m, hd⟩ := rset hr2 (goS s)
  exact W_some.2 ⟨rfl, (p1.mut _).trans m, hx.mut ((p1.mut _).trans m) hd⟩
theorem kwants_spec {H : AHeap} {r : Nat} {T : List Tok} {tv : AV} {s : St} (hx : Ry H r T tv s) (x : List UInt8) : W (evw P orc 107 [.ptr r 0 0, .str x] H) fun v H' => v = .tuple [] ∧ Mt r H H' ∧ Ry H' r T tv (wantsS T x s).2 := by
 refine W_of (fun _ => run107 0) ?_
 rw [s107]
 refine W_call (ktakes_spec hx 4 x) ?_
 rintro _ H1 ⟨rfl, m1, hx1⟩
 refine ⟨m1.1, ?_⟩
 cases hb : isB T s 4 x with
 | false =>
  rw [show takesS T 4 x s = (false, s) by simp [takesS, hb]] at hx1 ⊢
  rw [show wantsS T x s = (false, failS T 2 s) by simp [wantsS, hb]]
  simp -implicitDefEqProofs (disch := first | assumption | omega | (simp only [nxB]; omega) | (simp only [oneB])) only [s107, xlen, AV.cells, splice, aload, astore, Nat.reduceAdd, Nat.reduceLeDiff, reduceIte, allB, Bool.not_false]
  refine W_call (kfail_spec hx1 2) ?_
  rintro _ H2 ⟨rfl, m2, hx2⟩
  refine ⟨m2.1, ?_⟩
  exact W_some.2 ⟨rfl, m1.trans m2, hx2⟩
 | true =>
  rw [show takesS T 4 x s = (true, goS s) by simp [takesS, hb]] at hx1 ⊢
  rw [show wantsS T x s = (true, goS s) by simp [wantsS, hb]]
  simp -implicitDefEqProofs (disch := first | assumption | omega | (simp only [nxB]; omega) | (simp only [oneB])) only [s107, xlen, AV.cells, splice, aload, astore, Nat.reduceAdd, Nat.reduceLeDiff, reduceIte, allB, Bool.not_true]
  exact W_some.2 ⟨rfl, m1, hx1⟩
def goesS (at_ e a : Int) (s : St) : St := if e ≠ 0 then { s with fe := e, fa := a } else { s with at_ := at_ }
theorem kgoes_spec {H : AHeap} {r : Nat} {T : List Tok} {tv : AV} {s : St} (hx : Ry H r T tv s) (at_ e a : Int) : W (evw P orc 154 [.ptr r 0 0, .int .i64 at_, .agg [.int .i64 e, .int .i64 a]] H) fun v H' => v = .tuple [] ∧ Mt r H H' ∧ Ry H' r T tv (goesS at_ e a s) := by
 refine W_of (fun _ => run154 0) ?_
 have ho1 := hx.tk.one
 have hl := hx.rd.lt
 have hbx : ∀ l, boxOf l (.agg [.int .i64 e, .int .i64 a]) = some (.ptr l 0 0, .row false 2 [[.int .i64 e, .int .i64 a]]) := fun l => boxOf_agg l _ rfl
 have p1 := Pur.push H (.row false 2 [[.int .i64 e, .int .i64 a]])
 have hr2 := hx.rd.pur p1
 have hr2' := hr2
 unfold Rd5 at hr2'
 by_cases he : e = 0
 ·have hb : (e != 0) = false := by simp [he]
  rw [show goesS at_ e a s = { s with at_ := at_ } by simp [goesS, he]]
  obtain ⟨m, hd⟩ := rset hr2 { s with at_ := at_ }
  simp -implicitDefEqProofs (disch := first | assumption | omega | (simp only [nxB]; omega) | (simp only [oneB])) only [s154, xlen, AV.cells, splice, aload, astore, Nat.reduceAdd, Nat.reduceLeDiff, reduceIte, allB, hbx, hb, hr2', ho1]
  exact W_some.2 ⟨rfl, (p1.mut _).trans m, hx.mut ((p1.mut _).trans m) hd⟩
 ·have hb : (e != 0) = true := by simpa using he
  rw [show goesS at_ e a s = { s with fe := e, fa := a } by simp [goesS, he]]
  obtain ⟨m, hd⟩ := rset hr2 { s with fe := e, fa := a }
  simp -implicitDefEqProofs (disch := first | assumption | omega | (simp only [nxB]; omega) | (simp only [oneB])) only [s154, xlen, AV.cells, splice, aload, astore, Nat.reduceAdd, Nat.reduceLeDiff, reduceIte, allB, hbx, hb, hr2', ho1]
  exact W_some.2 ⟨rfl, (p1.mut _).trans m, hx.mut ((p1.mut _).trans m) hd⟩
end Go.Proofs.YtghmbpmaafnodaaGreatDoor

namespace Go.Proofs.YtghmbpmaafnodaaGreatDoor
open Go.Ev
theorem TokSl.same {H : AHeap} {v : AV} {T : List Tok} (h : TokSl H v T) : rdIs (some v) v = true := by
 rcases h with ⟨rfl, _⟩ | ⟨l, i, cap, rfl, _⟩
 ·exact rdIs_nilSl
 ·exact rdIs_sl _ _ _ _ _
theorem exprP_good {T : List Tok} {s sr : St} {e : Ex} (hf : s.fe = 0) (h : rowF T 800000000 0 (startS s.at_ s.opn) = some (e, sr)) : exprP T s = ((parseS e sr).1, goesS (parseS e sr).2.1 (parseS e sr).2.2.1 (parseS e sr).2.2.2 s) := by
 unfold exprP
 rw [if_neg (by simp [hf]), h]
 by_cases h2 : sr.fe = 0
 ·simp [parseS, goesS, h2]
 ·simp [parseS, goesS, h2]
theorem kexpr_spec {H : AHeap} {r : Nat} {T : List Tok} {tv : AV} {s : St} (hT : T.length ≤ 20000000) (hx : Ry H r T tv s) : W (evw P orc 137 [.ptr r 0 0] H) (QostE H r T tv (exprP T s).1 (exprP T s).2) := by
 refine W_of (fun _ => run137 0) ?_
 have hl := hx.rd.lt
 have ho1 := hx.tk.one
 have p1 := Pur.push H (.row false 11 [[.int .i64 0, .int .i64 0, .str [], .str [], .int .i64 0, .nilSl, .int .i64 0, .int .i64 0, .int .i64 0, .int .i64 0, .int .i64 0]])
 simp -implicitDefEqProofs (disch := first | assumption | omega | (simp only [nxB]; omega) | (simp only [oneB])) only [s137, xlen, AV.cells, splice, aload, astore, Nat.reduceAdd, Nat.reduceLeDiff, reduceIte, allB]
 refine W_call (kfailed_spec (hx.rd.pur p1)) ?_
 rintro _ H1 ⟨rfl, rfl⟩
 refine ⟨Nat.le_refl _, ?_⟩
 have hx1 := hx.pur p1
 by_cases hf : s.fe = 0
 ·obtain ⟨e, sr, -, -, h1, -, -, -⟩ := both_read hT s.at_ s.opn
  rw [exprP_good hf h1]
  have hr' := hx1.rd
  unfold Rd5 at hr'
  simp -implicitDefEqProofs (disch := first | assumption | omega | (simp only [nxB]; omega) | (simp only [oneB])) only [s137, xlen, AV.cells, splice, aload, astore, Nat.reduceAdd, Nat.reduceLeDiff, reduceIte, allB, hf, bne_self_eq_false, hr']
  refine W_call (parse_spec (by omega) hx1.tk s.at_ s.opn h1) ?_
  rintro _ H2 ⟨v, rfl, hv, p2⟩
  refine ⟨p2.1, ?_⟩
  have b2 := p2.1
  simp only [AHeap.next_push] at b2
  obtain ⟨cs, rfl, n1, o1⟩ := hv.cells
  have hsame := hx.tk.same
  generalize parseS e sr = q at hv ⊢
  have t1 : List.take 11 cs = cs := List.take_of_length_le (by omega)
  simp -implicitDefEqProofs (disch := first | assumption | omega | (simp only [nxB]; omega) | (simp only [oneB])) only [s137, xlen, AV.cells, splice, aload, astore, Nat.reduceAdd, Nat.reduceLeDiff, reduceIte, allB, AHeap.push_set_lt, n1, o1, List.append_nil, hr', hsame, Bool.and_self]
  have p3 := (Pur.push H2 (.row false 11 [cs])).then_push (.row false 2 [[.int .i64 q.2.2.1, .int .i64 q.2.2.2]])
  refine W_call (kgoes_spec ((hx1.pur p2).pur p3) q.2.1 q.2.2.1 q.2.2.2) ?_
  rintro _ H3 ⟨rfl, m3, hx3⟩
  refine ⟨m3.1, ?_⟩
  have b3 := m3.1
  simp only [AHeap.next_push] at b3
  have g3 : H3.get H2.next = some (.row false 11 [cs]) := m3.get (by simp -implicitDefEqProofs (disch := first | assumption | omega | (simp only [nxB]; omega) | (simp only [oneB])) only [heapB]) (by omega)
  have g2 := m3.get (p3.get (p2.get (AHeap.get_push_same H (.row false 11 [[.int .i64 0, .int .i64 0, .str [], .str [], .int .i64 0, .nilSl, .int .i64 0, .int .i64 0, .int .i64 0, .int .i64 0, .int .i64 0]])))) (by omega)
  have l2 := AHeap.get_lt g2
  simp -implicitDefEqProofs (disch := first | assumption | omega | (simp only [nxB]; omega) | (simp only [oneB])) only [s137, xlen, AV.cells, splice, aload, astore, Nat.reduceAdd, Nat.reduceLeDiff, reduceIte, allB, g2, g3, n1, o1, t1, List.append_nil]
  refine W_some.2 (QostE.ret hx ((((p1.trans p2).trans p3).mut _).trans m3) hx3.rd (Nat.le_refl _) (n := H.next + 1) ((hv.mut (r := r) (ok' := Ge (H.next + 1)) ((p3.mut _).trans m3) (by unfold Ge; simp only [AHeap.next_push]; omega) fun l hl => by unfold Ge at *; simp only [AHeap.next_push] at hl; omega)) (Nat.lt_succ_self _) _)
 ·have hf' : (s.fe != 0) = true := by simpa using hf
  have hg := AHeap.get_push_same H (.row false 11 [[.int .i64 0, .int .i64 0, .str [], .str [], .int .i64 0, .nilSl, .int .i64 0, .int .i64 0, .int .i64 0, .int .i64 0, .int .i64 0]])
  rw [show exprP T s = (.zero, s) by simp [exprP, hf]]
  simp -implicitDefEqProofs (disch := first | assumption | omega | (simp only [nxB]; omega) | (simp only [oneB])) only [s137, xlen, AV.cells, splice, aload, astore, Nat.reduceAdd, Nat.reduceLeDiff, reduceIte, allB, hf']
  exact W_some.2 ⟨p1.mut _, hx1, ExV.leaf _ _ { kind := 0 }⟩
theorem ofT_good (T : List Tok) (s : St) : ofT T s = ((YtghmbpmaafnodaaGreatDoor.ofP (ofS T ⟨s.at_, 0, 0, 0⟩)).1, goesS (YtghmbpmaafnodaaGreatDoor.ofP (ofS T ⟨s.at_, 0, 0, 0⟩)).2.1 (YtghmbpmaafnodaaGreatDoor.ofP (ofS T ⟨s.at_, 0, 0, 0⟩)).2.2.1 (YtghmbpmaafnodaaGreatDoor.ofP (ofS T ⟨s.at_, 0, 0, 0⟩)).2.2.2 s) := by
 generalize hq : ofS T ⟨s.at_, 0, 0, 0⟩ = q
 by_cases h2 : q.2.fe = 0
 ·simp [ofT, hq, YtghmbpmaafnodaaGreatDoor.ofP, goesS, h2]
 ·simp [ofT, hq, YtghmbpmaafnodaaGreatDoor.ofP, goesS, h2]
theorem typed_end {H0 H : AHeap} {r : Nat} {T : List Tok} {tv : AV} {s0 s : St} (hx0 : Ry H0 r T tv s0) (mb : Mt r H0 H) (hrd : Rd5 H r tv s) {b : Nat} {x : Bs} {k n q : Int} (hg : H.get H0.next = some (.row false 2 [[.str [], .int .i64 0]])) (hb : H.get b = some (.row false 4 [[.int .i64 k, .str x, .int .i64 n, .int .i64 q]])) (hbn : H0.next < b) :
  W (s155_j0 (evw P orc) (.ptr r 0 0) (.ptr H0.next 0 0) (.ptr b 0 0) H) fun v H' => v = .tuple [.str (if (wantsS T [58] (goS s)).2.fe ≠ 0 then [] else x), .agg [.str (if (wantsS T [58] (goS s)).2.fe ≠ 0 then ([], 0) else (ofT T (wantsS T [58] (goS s)).2).1).1, .int .i64 (if (wantsS T [58] (goS s)).2.fe ≠ 0 then ([], 0) else (ofT T (wantsS T [58] (goS s)).2).1).2]] ∧ Mt r H0 H' ∧ Ry H' r T tv (if (wantsS T [58] (goS s)).2.fe ≠ 0 then (wantsS T [58] (goS s)).2 else (ofT T (wantsS T [58] (goS s)).2).2) := by
 have hl := hx0.rd.lt
 have ho1 := hx0.tk.one
 have hr := hrd
 unfold Rd5 at hr
 have lg := AHeap.get_lt hg
 have lb := AHeap.get_lt hb
 have hlr := hrd.lt
 obtain ⟨m1, hd1⟩ := rset hrd (goS s)
 simp -implicitDefEqProofs (disch := first | assumption | omega | (simp only [nxB]; omega) | (simp only [oneB])) only [s155, xlen, AV.cells, splice, aload, astore, Nat.reduceAdd, Nat.reduceLeDiff, reduceIte, allB, s155_j0, hr, ho1]
 refine W_call (kwants_spec (hx0.mut (mb.trans m1) hd1) [58]) ?_
 rintro _ H2 ⟨rfl, m2, hx2⟩
 refine ⟨m2.1, ?_⟩
 generalize (wantsS T [58] (goS s)).2 = s2 at hx2 ⊢
 have g2 := m2.get (m1.get hg (by omega)) (by omega)
 have b2 := m2.get (m1.get hb (by omega)) (by omega)
 have mb2 := (mb.trans m1).trans m2
 simp -implicitDefEqProofs (disch := first | assumption | omega | (simp only [nxB]; omega) | (simp only [oneB])) only [s155, xlen, AV.cells, splice, aload, astore, Nat.reduceAdd, Nat.reduceLeDiff, reduceIte, allB]
 refine W_call (kfailed_spec hx2.rd) ?_
 rintro _ H3 ⟨rfl, rfl⟩
 refine ⟨Nat.le_refl _, ?_⟩
 have lg2 := AHeap.get_lt g2
 have lb2 := AHeap.get_lt b2
 by_cases hf : s2.fe = 0
 ·have hr2 := hx2.rd
  unfold Rd5 at hr2
  simp -implicitDefEqProofs (disch := first | assumption | omega | (simp only [nxB]; omega) | (simp only [oneB])) only [s155, xlen, AV.cells, splice, aload, astore, Nat.reduceAdd, Nat.reduceLeDiff, reduceIte, allB, hf, bne_self_eq_false, hr2]
  refine W_call (Of_spec hx2.tk s2.at_) ?_
  rintro _ H4 ⟨rfl, p4⟩
  refine ⟨p4.1, ?_⟩
  have hq := ofT_good T s2
  generalize YtghmbpmaafnodaaGreatDoor.ofP (ofS T ⟨s2.at_, 0, 0, 0⟩) = q4 at hq ⊢
  have hsame := hx2.tk.same
  have n4 := p4.1
  simp -implicitDefEqProofs (disch := first | assumption | omega | (simp only [nxB]; omega) | (simp only [oneB])) only [s155, xlen, AV.cells, splice, aload, astore, Nat.reduceAdd, Nat.reduceLeDiff, reduceIte, allB, AHeap.push_set_lt, List.append_nil, hr2, hsame, Bool.and_self]
  have p5 := (Pur.push H4 (.row false 2 [[.str q4.1.1, .int .i64 q4.1.2]])).then_push (.row false 2 [[.int .i64 q4.2.2.1, .int .i64 q4.2.2.2]])
  refine W_call (kgoes_spec ((hx2.pur p4).pur p5) q4.2.1 q4.2.2.1 q4.2.2.2) ?_
  rintro _ H6 ⟨rfl, m6, hx6⟩
  refine ⟨m6.1, ?_⟩
  have n6 := m6.1
  simp only [AHeap.next_push] at n6
  have g6 := m6.get (p5.get (p4.get g2)) (by omega)
  have b6 := m6.get (p5.get (p4.get b2)) (by omega)
  have q6 : H6.get H4.next = some (.row false 2 [[.str q4.1.1, .int .i64 q4.1.2]]) := m6.get (by simp -implicitDefEqProofs (disch := first | assumption | omega | (simp only [nxB]; omega) | (simp only [oneB])) only [heapB]) (by omega)
  have lg6 := AHeap.get_lt g6
  simp -implicitDefEqProofs (disch := first | assumption | omega | (simp only [nxB]; omega) | (simp only [oneB])) only [s155, xlen, AV.cells, splice, aload, astore, Nat.reduceAdd, Nat.reduceLeDiff, reduceIte, allB, g6, b6, q6, hf]
  have mf := ((mb2.trans (p4.mut _)).trans (p5.mut _)).trans m6
  have hr6 := hx6.rd
  refine W_some.2 ⟨by rw [hq]; rfl, mf.then_set (.inr (Nat.le_refl _)) _, hx0.mut (mf.then_set (.inr (Nat.le_refl _)) _) ?_⟩
  simp only [ne_eq, not_true_eq_false, if_false, hq]
  unfold Rd5 at hr6 ⊢
  rw [AHeap.get_set_other (by omega)]; exact hr6
 ·have hf' : (s2.fe != 0) = true := by simpa using hf
  simp -implicitDefEqProofs (disch := first | assumption | omega | (simp only [nxB]; omega) | (simp only [oneB])) only [s155, xlen, AV.cells, splice, aload, astore, Nat.reduceAdd, Nat.reduceLeDiff, reduceIte, allB, hf', g2]
  have hr6 := hx2.rd
  refine W_some.2 ⟨by simp [hf], mb2.then_set (.inr (Nat.le_refl _)) _, hx0.mut (mb2.then_set (.inr (Nat.le_refl _)) _) ?_⟩
  simp only [ne_eq, hf, not_false_eq_true, if_true]
  unfold Rd5 at hr6 ⊢
  rw [AHeap.get_set_other (by omega)]; exact hr6
theorem ktyped_spec {H : AHeap} {r : Nat} {T : List Tok} {tv : AV} {s : St} (hx : Ry H r T tv s) : W (evw P orc 155 [.ptr r 0 0] H) fun v H' => v = .tuple [.str (typedS T s).1.1, .agg [.str (typedS T s).1.2.1, .int .i64 (typedS T s).1.2.2]] ∧ Mt r H H' ∧ Ry H' r T tv (typedS T s).2 := by
 refine W_of (fun _ => run155 0) ?_
 have hl := hx.rd.lt
 have p1 := Pur.push H (.row false 2 [[.str [], .int .i64 0]])
 simp -implicitDefEqProofs (disch := first | assumption | omega | (simp only [nxB]; omega) | (simp only [oneB])) only [s155, xlen, AV.cells, splice, aload, astore, Nat.reduceAdd, Nat.reduceLeDiff, reduceIte, allB]
 refine W_call (ktok_spec (hx.rd.pur p1) (hx.tk.pur p1)) ?_
 rintro _ H2 ⟨rfl, p2⟩
 refine ⟨p2.1, ?_⟩
 have n2 := p2.1
 simp only [AHeap.next_push] at n2
 have p3 := Pur.push H2 (.row false 4 [[.int .i64 (tokAt T s.at_).kind, .str (tokAt T s.at_).text, .int .i64 (tokAt T s.at_).n, .int .i64 (tokAt T s.at_).pos]])
 have g3 := p3.get (p2.get (AHeap.get_push_same H (.row false 2 [[.str [], .int .i64 0]])))
 have b3 := AHeap.get_push_same H2 (.row false 4 [[.int .i64 (tokAt T s.at_).kind, .str (tokAt T s.at_).text, .int .i64 (tokAt T s.at_).n, .int .i64 (tokAt T s.at_).pos]])
 have hx3 := hx.pur ((p1.trans p2).trans p3)
 have fin : ∀ (H5 : AHeap) (s1 : St), s1 = (bif (tokAt T s.at_).kind != 1 then failS T 2 s else s) → Mt r H H5 → Rd5 H5 r tv s1 → H5.get H.next = some (.row false 2 [[.str [], .int .i64 0]]) → H5.get H2.next = some (.row false 4 [[.int .i64 (tokAt T s.at_).kind, .str (tokAt T s.at_).text, .int .i64 (tokAt T s.at_).n, .int .i64 (tokAt T s.at_).pos]]) →
   W (s155_j0 (evw P orc) (.ptr r 0 0) (.ptr H.next 0 0) (.ptr H2.next 0 0) H5) fun v H' => v = .tuple [.str (typedS T s).1.1, .agg [.str (typedS T s).1.2.1, .int .i64 (typedS T s).1.2.2]] ∧ Mt r H H' ∧ Ry H' r T tv (typedS T s).2 := by
  intro H5 s1 hs1 m5 hd5 hg hb
  refine (typed_end hx m5 hd5 hg hb (by omega)).mono ?_
  rintro v H' ⟨rfl, q1, q2⟩
  have hc : (wantsS T [58] (goS s1)).2 = colonS T s := by rw [hs1]; rfl
  rw [hc] at q2 ⊢
  unfold typedS
  by_cases hz : (colonS T s).fe ≠ 0
  ·simp only [if_pos hz] at q2 ⊢
   exact ⟨trivial, q1, q2⟩
  ·simp only [if_neg hz] at q2 ⊢
   exact ⟨trivial, q1, q2⟩
 cases hk : ((tokAt T s.at_).kind != 1) with
 | true =>
  simp -implicitDefEqProofs (disch := first | assumption | omega | (simp only [nxB]; omega) | (simp only [oneB])) only [s155, xlen, AV.cells, splice, aload, astore, Nat.reduceAdd, Nat.reduceLeDiff, reduceIte, allB, Tok.v, hk]
  refine W_call (kfail_spec hx3 2) ?_
  rintro _ H5 ⟨rfl, m5, hx5⟩
  refine ⟨m5.1, ?_⟩
  exact fin H5 _ (by rw [hk]; rfl) ((((p1.trans p2).trans p3).mut _).trans m5) hx5.rd (m5.get g3 (by omega)) (m5.get b3 (by omega))
 | false =>
  simp -implicitDefEqProofs (disch := first | assumption | omega | (simp only [nxB]; omega) | (simp only [oneB])) only [s155, xlen, AV.cells, splice, aload, astore, Nat.reduceAdd, Nat.reduceLeDiff, reduceIte, allB, Tok.v, hk]
  exact fin _ _ (by rw [hk]; rfl) (((p1.trans p2).trans p3).mut _) hx3.rd g3 b3
end Go.Proofs.YtghmbpmaafnodaaGreatDoor


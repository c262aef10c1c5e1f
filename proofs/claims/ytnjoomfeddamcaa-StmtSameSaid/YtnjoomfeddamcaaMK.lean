/-
  Texts of one proof, laid together: E1 Ms E2 ShU Ds N1 ShUa N1b.
-/
import Derived.Test.YtnjoomfeddamcaaMH
import Derived.Test.YtnjoomfeddamcaaMJ
import Derived.Test.YtnjoomfeddamcaaMD
import Derived.Test.YtnjoomfeddamcaaMF
import Derived.Test.YtnjoomfeddamcaaMG
set_option linter.unusedVariables false
set_option linter.unusedSimpArgs false
namespace Go.Proofs.Ytnjoomfeddamcaa
open Go.Ev
theorem map_and2 (x y : Bool) : Option.map AV.bool (bif x then (bif y then some true else some false) else some false) = some (.bool (x && y)) := by cases x <;> cases y <;> rfl
theorem map_and3 (x y z : Bool) : Option.map AV.bool (bif x then (bif y then (bif z then some true else some false) else some false) else some false) = some (.bool (x && (y && z))) := by cases x <;> cases y <;> cases z <;> rfl
theorem eq32 {c : Bool} (a a' : List UInt8) (b b' : Int) : fbin P .eql 32 c (.agg [.str a, .int .i64 b]) (.agg [.str a', .int .i64 b']) = some (.bool (a == a' && b == b')) :=
 Eq.trans (by kernel_rfl) (map_and2 (a == a') (b == b'))
theorem eq25 {c : Bool} (a a' : Int) (b b' : Int) : fbin P .eql 25 c (.agg [.int .i64 a, .int .i64 b]) (.agg [.int .i64 a', .int .i64 b']) = some (.bool (a == a' && b == b')) :=
 Eq.trans (by kernel_rfl) (map_and2 (a == a') (b == b'))
theorem eq37 {c : Bool} (a a' : Int) (b b' : Int) (d d' : Int) : fbin P .eql 37 c (.agg [.int .i64 a, .int .i64 b, .int .i64 d]) (.agg [.int .i64 a', .int .i64 b', .int .i64 d']) = some (.bool (a == a' && (b == b' && d == d'))) :=
 Eq.trans (by kernel_rfl) (map_and3 (a == a') (b == b') (d == d'))
theorem rdIs3 (a b c : Int) : rdIs (some (.agg [.int .i64 a, .int .i64 b, .int .i64 c])) (.agg [.int .i64 a, .int .i64 b, .int .i64 c]) = true := by simp [rdIs, AV.beq, AVs.beq]
mutual
def sameE : Ex → Ex → Bool
 | .mk a ks, .mk b ls => a.kind == b.kind && (a.n == b.n && (a.name == b.name && ((a.ofn == b.ofn && a.ofd == b.ofd) && ((a.tb == b.tb && (a.tr == b.tr && a.td == b.td)) && (a.ref == b.ref && sameL ks ls)))))
def sameL : List Ex → List Ex → Bool
 | [], [] => true
 | [], _ :: _ => false
 | _ :: _, [] => false
 | e :: es, f :: fs => sameE e f && sameL es fs
end
mutual
def Sm (B : Nat) : Ex → Prop
 | .mk _ ks => ks.length ≤ B ∧ SmL B ks
def SmL (B : Nat) : List Ex → Prop
 | [] => True
 | e :: es => Sm B e ∧ SmL B es
end
theorem sameL_length : ∀ (es fs : List Ex), es.length ≠ fs.length → sameL es fs = false
 | [], [], h => absurd rfl h
 | [], _ :: _, _ => by rw [sameL]
 | _ :: _, [], _ => by rw [sameL]
 | e :: es, f :: fs, h => by rw [sameL, sameL_length es fs (by simpa using h), Bool.and_false]
theorem KsV.oneAV {H : AHeap} {ok : Nat → Prop} {ks : List Ex} {kv : AV} (h : KsV H ok ks kv) : kv.one = true := by
 rcases h with ⟨rfl, _⟩ | ⟨l, i, cap, ro, els, rfl, _⟩ | ⟨l, i, cap, rfl, _⟩ <;> rfl
theorem KsV.pur {H H' : AHeap} {ok : Nat → Prop} {ks : List Ex} {kv : AV} (h : KsV H ok ks kv) (p : Pur H H') : KsV H' ok ks kv := h.keep (Keep.pur p fun _ h => h)
theorem ExV.pur {H H' : AHeap} {ok : Nat → Prop} {e : Ex} {v : AV} (h : ExV H ok e v) (p : Pur H H') : ExV H' ok e v := ExV.keep (Keep.pur p fun _ h => h) e v h
theorem ElsV.cons {H : AHeap} {ok : Nat → Prop} {e : Ex} {es : List Ex} {els : List (List AV)} {k : Nat} (h : ElsV H ok (e :: es) (els.drop k)) : ∃ cs, els[k]? = some cs ∧ ExV H ok e (.agg cs) ∧ ElsV H ok es (els.drop (k + 1)) := by
 cases hd : els.drop k with
 | nil => rw [hd, ElsV] at h; exact h.elim
 | cons cs css =>
  rw [hd, ElsV] at h
  have h1 : els[k]? = some cs := by
   have := List.getElem?_drop (xs := els) (i := k) (j := 0)
   rw [hd] at this
   simpa using this.symm
  have h2 : els.drop (k + 1) = css := by
   have : (els.drop k).drop 1 = css := by rw [hd]; rfl
   rwa [List.drop_drop] at this
  exact ⟨cs, h1, h.1, by rw [h2]; exact h.2⟩
theorem same22 {H : AHeap} {a b : Ea} {ks ls : List Ex} {kv lv : AV} (h1 : kv.one = true) (h2 : lv.one = true)
  (hl : ∀ H', Pur H H' → W (evw P 42 [kv, lv] H') fun r H'' => r = .bool (sameL ks ls) ∧ Pur H' H'') :
  W (evw P 22 [.agg (a.cells kv), .agg (b.cells lv)] H) fun r H' => r = .bool (sameE (.mk a ks) (.mk b ls)) ∧ Pur H H' := by
 refine W_of (fun _ => run22 0) ?_
 have hb1 : ∀ l, boxOf l (.agg (a.cells kv)) = some (.ptr l 0 0, .row false 11 [a.cells kv]) := fun l => boxOf_agg l _ (by simp only [Ea.cells, List.all_cons, List.all_nil, one_int, one_str, h1, Bool.and_self])
 have hb2 : ∀ l, boxOf l (.agg (b.cells lv)) = some (.ptr l 0 0, .row false 11 [b.cells lv]) := fun l => boxOf_agg l _ (by simp only [Ea.cells, List.all_cons, List.all_nil, one_int, one_str, h2, Bool.and_self])
 have p2 := (Pur.push H (.row false 11 [a.cells kv])).then_push (.row false 11 [b.cells lv])
 rw [sameE]
 simp only [Ea.cells] at hb1 hb2 p2 ⊢
 cases c0 : a.kind == b.kind with
 | false =>
  simp -implicitDefEqProofs (disch := first | assumption | omega | (simp only [nxB]; omega) | (simp only [oneB])) only [s22, xlen, AV.cells, splice, aload, astore, Nat.reduceAdd, Nat.reduceLeDiff, reduceIte, allB, hb1, hb2, eq32, eq37, rdIs3, c0]
  exact W_some.2 ⟨by simp only [Bool.false_and, Bool.and_false], p2⟩
 | true =>
  cases c1 : a.n == b.n with
  | false =>
   simp -implicitDefEqProofs (disch := first | assumption | omega | (simp only [nxB]; omega) | (simp only [oneB])) only [s22, xlen, AV.cells, splice, aload, astore, Nat.reduceAdd, Nat.reduceLeDiff, reduceIte, allB, hb1, hb2, eq32, eq37, rdIs3, c0, c1]
   exact W_some.2 ⟨by simp only [Bool.false_and, Bool.and_false], p2⟩
  | true =>
   cases c2 : a.name == b.name with
   | false =>
    simp -implicitDefEqProofs (disch := first | assumption | omega | (simp only [nxB]; omega) | (simp only [oneB])) only [s22, xlen, AV.cells, splice, aload, astore, Nat.reduceAdd, Nat.reduceLeDiff, reduceIte, allB, hb1, hb2, eq32, eq37, rdIs3, c0, c1, c2]
    exact W_some.2 ⟨by simp only [Bool.false_and, Bool.and_false], p2⟩
   | true =>
    cases c3 : (a.ofn == b.ofn && a.ofd == b.ofd) with
    | false =>
     simp -implicitDefEqProofs (disch := first | assumption | omega | (simp only [nxB]; omega) | (simp only [oneB])) only [s22, xlen, AV.cells, splice, aload, astore, Nat.reduceAdd, Nat.reduceLeDiff, reduceIte, allB, hb1, hb2, eq32, eq37, rdIs3, c0, c1, c2, c3]
     exact W_some.2 ⟨by simp only [Bool.false_and, Bool.and_false], p2⟩
    | true =>
     cases c4 : (a.tb == b.tb && (a.tr == b.tr && a.td == b.td)) with
     | false =>
      simp -implicitDefEqProofs (disch := first | assumption | omega | (simp only [nxB]; omega) | (simp only [oneB])) only [s22, xlen, AV.cells, splice, aload, astore, Nat.reduceAdd, Nat.reduceLeDiff, reduceIte, allB, hb1, hb2, eq32, eq37, rdIs3, c0, c1, c2, c3, c4]
      exact W_some.2 ⟨by simp only [Bool.false_and, Bool.and_false], p2⟩
     | true =>
      cases c5 : a.ref == b.ref with
      | false =>
       simp -implicitDefEqProofs (disch := first | assumption | omega | (simp only [nxB]; omega) | (simp only [oneB])) only [s22, xlen, AV.cells, splice, aload, astore, Nat.reduceAdd, Nat.reduceLeDiff, reduceIte, allB, hb1, hb2, eq32, eq37, rdIs3, c0, c1, c2, c3, c4, c5]
       exact W_some.2 ⟨by simp only [Bool.false_and, Bool.and_false], p2⟩
      | true =>
       simp -implicitDefEqProofs (disch := first | assumption | omega | (simp only [nxB]; omega) | (simp only [oneB])) only [s22, xlen, AV.cells, splice, aload, astore, Nat.reduceAdd, Nat.reduceLeDiff, reduceIte, allB, hb1, hb2, eq32, eq37, rdIs3, c0, c1, c2, c3, c4, c5]
       refine W_eff (hl _ p2) ?_
       rintro _ H3 ⟨rfl, p3⟩
       refine ⟨p3.1, ?_⟩
       simp -implicitDefEqProofs (disch := first | assumption | omega | (simp only [nxB]; omega) | (simp only [oneB])) only [s22, xlen, evB]
       exact W_some.2 ⟨by simp only [Bool.true_and], p2.trans p3⟩
theorem same24 {H : AHeap} {a b : Ea} {ks ls : List Ex} {kv lv : AV} (h1 : kv.one = true) (h2 : lv.one = true)
  (hl : ∀ H', Pur H H' → W (evw P 43 [kv, lv, .func (.func 24) [] []] H') fun r H'' => r = .bool (sameL ks ls) ∧ Pur H' H'') :
  W (evw P 24 [.agg (a.cells kv), .agg (b.cells lv)] H) fun r H' => r = .bool (sameE (.mk a ks) (.mk b ls)) ∧ Pur H H' := by
 refine W_of (fun _ => run24 0) ?_
 have hb1 : ∀ l, boxOf l (.agg (a.cells kv)) = some (.ptr l 0 0, .row false 11 [a.cells kv]) := fun l => boxOf_agg l _ (by simp only [Ea.cells, List.all_cons, List.all_nil, one_int, one_str, h1, Bool.and_self])
 have hb2 : ∀ l, boxOf l (.agg (b.cells lv)) = some (.ptr l 0 0, .row false 11 [b.cells lv]) := fun l => boxOf_agg l _ (by simp only [Ea.cells, List.all_cons, List.all_nil, one_int, one_str, h2, Bool.and_self])
 have p2 := (Pur.push H (.row false 11 [a.cells kv])).then_push (.row false 11 [b.cells lv])
 rw [sameE]
 simp only [Ea.cells] at hb1 hb2 p2 ⊢
 cases c0 : a.kind == b.kind with
 | false =>
  simp -implicitDefEqProofs (disch := first | assumption | omega | (simp only [nxB]; omega) | (simp only [oneB])) only [s24, xlen, AV.cells, splice, aload, astore, Nat.reduceAdd, Nat.reduceLeDiff, reduceIte, allB, hb1, hb2, eq32, eq37, rdIs3, c0]
  exact W_some.2 ⟨by simp only [Bool.false_and, Bool.and_false], p2⟩
 | true =>
  cases c1 : a.n == b.n with
  | false =>
   simp -implicitDefEqProofs (disch := first | assumption | omega | (simp only [nxB]; omega) | (simp only [oneB])) only [s24, xlen, AV.cells, splice, aload, astore, Nat.reduceAdd, Nat.reduceLeDiff, reduceIte, allB, hb1, hb2, eq32, eq37, rdIs3, c0, c1]
   exact W_some.2 ⟨by simp only [Bool.false_and, Bool.and_false], p2⟩
  | true =>
   cases c2 : a.name == b.name with
   | false =>
    simp -implicitDefEqProofs (disch := first | assumption | omega | (simp only [nxB]; omega) | (simp only [oneB])) only [s24, xlen, AV.cells, splice, aload, astore, Nat.reduceAdd, Nat.reduceLeDiff, reduceIte, allB, hb1, hb2, eq32, eq37, rdIs3, c0, c1, c2]
    exact W_some.2 ⟨by simp only [Bool.false_and, Bool.and_false], p2⟩
   | true =>
    cases c3 : (a.ofn == b.ofn && a.ofd == b.ofd) with
    | false =>
     simp -implicitDefEqProofs (disch := first | assumption | omega | (simp only [nxB]; omega) | (simp only [oneB])) only [s24, xlen, AV.cells, splice, aload, astore, Nat.reduceAdd, Nat.reduceLeDiff, reduceIte, allB, hb1, hb2, eq32, eq37, rdIs3, c0, c1, c2, c3]
     exact W_some.2 ⟨by simp only [Bool.false_and, Bool.and_false], p2⟩
    | true =>
     cases c4 : (a.tb == b.tb && (a.tr == b.tr && a.td == b.td)) with
     | false =>
      simp -implicitDefEqProofs (disch := first | assumption | omega | (simp only [nxB]; omega) | (simp only [oneB])) only [s24, xlen, AV.cells, splice, aload, astore, Nat.reduceAdd, Nat.reduceLeDiff, reduceIte, allB, hb1, hb2, eq32, eq37, rdIs3, c0, c1, c2, c3, c4]
      exact W_some.2 ⟨by simp only [Bool.false_and, Bool.and_false], p2⟩
     | true =>
      cases c5 : a.ref == b.ref with
      | false =>
       simp -implicitDefEqProofs (disch := first | assumption | omega | (simp only [nxB]; omega) | (simp only [oneB])) only [s24, xlen, AV.cells, splice, aload, astore, Nat.reduceAdd, Nat.reduceLeDiff, reduceIte, allB, hb1, hb2, eq32, eq37, rdIs3, c0, c1, c2, c3, c4, c5]
       exact W_some.2 ⟨by simp only [Bool.false_and, Bool.and_false], p2⟩
      | true =>
       simp -implicitDefEqProofs (disch := first | assumption | omega | (simp only [nxB]; omega) | (simp only [oneB])) only [s24, xlen, AV.cells, splice, aload, astore, Nat.reduceAdd, Nat.reduceLeDiff, reduceIte, allB, hb1, hb2, eq32, eq37, rdIs3, c0, c1, c2, c3, c4, c5]
       refine W_eff (hl _ p2) ?_
       rintro _ H3 ⟨rfl, p3⟩
       refine ⟨p3.1, ?_⟩
       simp -implicitDefEqProofs (disch := first | assumption | omega | (simp only [nxB]; omega) | (simp only [oneB])) only [s24, xlen, evB]
       exact W_some.2 ⟨by simp only [Bool.true_and], p2.trans p3⟩
end Go.Proofs.Ytnjoomfeddamcaa

namespace Go.Proofs.Ytnjoomfeddamcaa
open Go.Ev
def Sa.cells (a : Sa) (ev bv cv : AV) : List AV := [.int .i64 a.kind, .str a.name, .str a.ofn, .int .i64 a.ofd, ev, bv, cv, .int .i64 a.pos, .int .i64 a.ref]
mutual
def StV (H : AHeap) (ok : Nat → Prop) : Stm → AV → Prop
 | .mk a es b c, v => ∃ ev bv cv, v = .agg (a.cells ev bv cv) ∧ KsV H ok es ev ∧
   ((bv = .nilSl ∧ b.length = 0) ∨ (∃ l i cap ro els, bv = .sl l i b.length 9 (Option.map (· + b.length) cap) ∧ ok l ∧ H.get l = some (.row ro 9 els) ∧ SlsV H ok b (els.drop i)) ∨ ∃ l i cap, bv = .sl l i 0 9 cap ∧ b.length = 0) ∧
   ((cv = .nilSl ∧ c.length = 0) ∨ (∃ l i cap ro els, cv = .sl l i c.length 9 (Option.map (· + c.length) cap) ∧ ok l ∧ H.get l = some (.row ro 9 els) ∧ SlsV H ok c (els.drop i)) ∨ ∃ l i cap, cv = .sl l i 0 9 cap ∧ c.length = 0)
def SlsV (H : AHeap) (ok : Nat → Prop) : List Stm → List (List AV) → Prop
 | [], _ => True
 | _ :: _, [] => False
 | e :: es, cs :: css => StV H ok e (.agg cs) ∧ SlsV H ok es css
end
def SsV (H : AHeap) (ok : Nat → Prop) (b : List Stm) (bv : AV) : Prop := (bv = .nilSl ∧ b.length = 0) ∨ (∃ l i cap ro els, bv = .sl l i b.length 9 (Option.map (· + b.length) cap) ∧ ok l ∧ H.get l = some (.row ro 9 els) ∧ SlsV H ok b (els.drop i)) ∨ ∃ l i cap, bv = .sl l i 0 9 cap ∧ b.length = 0
theorem StV_mk {H : AHeap} {ok : Nat → Prop} {a : Sa} {es : List Ex} {b c : List Stm} {v : AV} : StV H ok (.mk a es b c) v ↔ ∃ ev bv cv, v = .agg (a.cells ev bv cv) ∧ KsV H ok es ev ∧ SsV H ok b bv ∧ SsV H ok c cv := by
 rw [StV]; rfl
structure KeepS (H : AHeap) (ok : Nat → Prop) (H' : AHeap) (ok' : Nat → Prop) : Prop where
 ex : Keep H ok H' ok'
 st : ∀ l ro els, ok l → H.get l = some (.row ro 9 els) → ok' l ∧ H'.get l = some (.row ro 9 els)
section
variable {H H' : AHeap} {ok ok' : Nat → Prop}
mutual
theorem StV.keep (p : KeepS H ok H' ok') : ∀ (e : Stm) (v : AV), StV H ok e v → StV H' ok' e v
 | .mk a es b c, v, h => by
  rw [StV] at h ⊢
  obtain ⟨ev, bv, cv, h1, h2, h3, h4⟩ := h
  refine ⟨ev, bv, cv, h1, h2.keep p.ex, ?_, ?_⟩
  ·rcases h3 with h3 | ⟨l, i, cap, ro, els, e1, e2, e3, e4⟩ | h3
   ·exact .inl h3
   ·obtain ⟨q1, q2⟩ := p.st l ro els e2 e3
    exact .inr (.inl ⟨l, i, cap, ro, els, e1, q1, q2, SlsV.keep p b _ e4⟩)
   ·exact .inr (.inr h3)
  ·rcases h4 with h3 | ⟨l, i, cap, ro, els, e1, e2, e3, e4⟩ | h3
   ·exact .inl h3
   ·obtain ⟨q1, q2⟩ := p.st l ro els e2 e3
    exact .inr (.inl ⟨l, i, cap, ro, els, e1, q1, q2, SlsV.keep p c _ e4⟩)
   ·exact .inr (.inr h3)
theorem SlsV.keep (p : KeepS H ok H' ok') : ∀ (es : List Stm) (cs : List (List AV)), SlsV H ok es cs → SlsV H' ok' es cs
 | [], _, _ => by rw [SlsV]; trivial
 | e :: es, [], h => by rw [SlsV] at h; exact h.elim
 | e :: es, cs :: css, h => by
  rw [SlsV] at h ⊢
  exact ⟨StV.keep p e _ h.1, SlsV.keep p es css h.2⟩
end
theorem SsV.keep (p : KeepS H ok H' ok') {b : List Stm} {v : AV} (h : SsV H ok b v) : SsV H' ok' b v := by
 rcases h with h3 | ⟨l, i, cap, ro, els, e1, e2, e3, e4⟩ | h3
 ·exact .inl h3
 ·obtain ⟨q1, q2⟩ := p.st l ro els e2 e3
  exact .inr (.inl ⟨l, i, cap, ro, els, e1, q1, q2, SlsV.keep p b _ e4⟩)
 ·exact .inr (.inr h3)
theorem KeepS.mut {r : Nat} (m : Mt r H H') (hr : ¬ ok r) (hl : ∀ l, ok l → ok' l) : KeepS H ok H' ok' := ⟨Keep.mut m hr hl, fun l ro els h e => ⟨hl l h, m.get e (by rintro rfl; exact hr h)⟩⟩
theorem KeepS.pur (m : Pur H H') (hl : ∀ l, ok l → ok' l) : KeepS H ok H' ok' := ⟨Keep.pur m hl, fun l ro els h e => ⟨hl l h, m.get e⟩⟩
theorem KeepS.set {l : Nat} (b : ABlk) (h : ¬ ok l) (hl : ∀ l, ok l → ok' l) : KeepS H ok (H.set l b) ok' := ⟨Keep.set b h hl, fun j ro els hj e => ⟨hl j hj, by rw [AHeap.get_set_other (by rintro rfl; exact h hj)]; exact e⟩⟩
theorem KeepS.le' (h : ∀ l, ok l → ok' l) : KeepS H ok H ok' := ⟨Keep.le' h, fun l ro els hl e => ⟨h l hl, e⟩⟩
theorem SsV.oneAV {b : List Stm} {v : AV} (h : SsV H ok b v) : v.one = true := by
 rcases h with ⟨rfl, _⟩ | ⟨l, i, cap, ro, els, rfl, _⟩ | ⟨l, i, cap, rfl, _⟩ <;> rfl
theorem SsV.nil (H : AHeap) (ok : Nat → Prop) : SsV H ok [] .nilSl := .inl ⟨rfl, rfl⟩
theorem StV.cells {e : Stm} {v : AV} (h : StV H ok e v) : ∃ cs, v = .agg cs ∧ cs.length = 9 ∧ cs.all AV.one = true := by
 cases e with | mk a es b c =>
 rw [StV_mk] at h
 obtain ⟨ev, bv, cv, rfl, h1, h2, h3⟩ := h
 refine ⟨_, rfl, rfl, ?_⟩
 simp only [Sa.cells, List.all_cons, List.all_nil, one_int, one_str, h1.oneAV, h2.oneAV, h3.oneAV, Bool.and_self]
theorem StV.leaf (H : AHeap) (ok : Nat → Prop) (a : Sa) : StV H ok (.mk a [] [] []) (.agg (a.cells .nilSl .nilSl .nilSl)) :=
 StV_mk.2 ⟨_, _, _, rfl, .inl ⟨rfl, rfl⟩, .inl ⟨rfl, rfl⟩, .inl ⟨rfl, rfl⟩⟩
theorem StV.mut {r : Nat} {e : Stm} {v : AV} (h : StV H ok e v) (m : Mt r H H') (hr : ¬ ok r) (hl : ∀ l, ok l → ok' l) : StV H' ok' e v := StV.keep (KeepS.mut m hr hl) e v h
theorem KeepS.new {n : Nat} (m : Mut (· < n) H H') (hl : ∀ l, n ≤ l → ok l) : KeepS H (Ge n) H' ok :=
 ⟨fun l ro els hl' g => ⟨hl l hl', m.get g (Nat.not_lt.2 hl')⟩, fun l ro els hl' g => ⟨hl l hl', m.get g (Nat.not_lt.2 hl')⟩⟩
end
def QostM (ok : Nat → Prop) (H : AHeap) (r : Nat) (T : List Tok) (tv : AV) (e : Stm) (s' : St) (v : AV) (H' : AHeap) : Prop := Mt r H H' ∧ Ry H' r T tv s' ∧ StV H' ok e v
abbrev QostS (H : AHeap) := QostM (Ge H.next) H
theorem QostS.fin {H Hf : AHeap} {r : Nat} {T : List Tok} {tv : AV} {s s' : St} {a : Sa} {es : List Ex} {b c : List Stm} {ev bv cv : AV} {x lo : Nat} (hx : Ry H r T tv s) (m : Mt r H Hf) (hd : Rd5 Hf r tv s') (h1 : KsV Hf (Ge lo) es ev) (h2 : SsV Hf (Ge lo) b bv) (h3 : SsV Hf (Ge lo) c cv) (hb : H.next ≤ x) (hlo : x < lo) (blk : ABlk) :
  QostS H r T tv (.mk a es b c) s' (.agg (a.cells ev bv cv)) (Hf.set x blk) := by
 have hl := hx.rd.lt
 have m' := m.then_set (.inr hb) blk
 have k : KeepS Hf (Ge lo) (Hf.set x blk) (Ge H.next) := KeepS.set _ (by unfold Ge; omega) fun l hl => by unfold Ge at *; omega
 refine ⟨m', hx.mut m' ?_, StV_mk.2 ⟨ev, bv, cv, rfl, h1.keep k.ex, h2.keep k, h3.keep k⟩⟩
 unfold Rd5 at hd ⊢
 rw [AHeap.get_set_other (by omega)]; exact hd
theorem QostS.ret {H H2 : AHeap} {r : Nat} {T : List Tok} {tv : AV} {s s' : St} {e : Stm} {v : AV} {b n : Nat} (hx : Ry H r T tv s) (m : Mt r H H2) (hd : Rd5 H2 r tv s') (hb : H.next ≤ b) (he : StV H2 (Ge n) e v) (hn : b < n) (blk : ABlk) : QostS H r T tv e s' v (H2.set b blk) := by
 have hl := hx.rd.lt
 have m' := m.then_set (.inr hb) blk
 refine ⟨m', hx.mut m' ?_, StV.keep (KeepS.set _ (by unfold Ge; omega) fun l hl => by unfold Ge at *; omega) e v he⟩
 unfold Rd5 at hd ⊢
 rw [AHeap.get_set_other (by omega)]; exact hd
theorem Stm.at_cells (a : Sa) (p : Int) (ev bv cv : AV) : Sa.cells { a with pos := p } ev bv cv = [.int .i64 a.kind, .str a.name, .str a.ofn, .int .i64 a.ofd, ev, bv, cv, .int .i64 p, .int .i64 a.ref] := rfl
theorem StV.at {H : AHeap} {ok : Nat → Prop} {e : Stm} {cs : List AV} (h : StV H ok e (.agg cs)) (p : Int) : StV H ok (e.at p) (.agg (cs.set 7 (.int .i64 p))) := by
 cases e with | mk a es b c =>
 rw [StV_mk] at h
 obtain ⟨ev, bv, cv, h0, h1, h2, h3⟩ := h
 cases h0
 exact StV_mk.2 ⟨ev, bv, cv, rfl, h1, h2, h3⟩
set_option linter.defProp false
def tyC := And.intro ta54 (And.intro ts54 (And.intro ta50 ts50))
end Go.Proofs.Ytnjoomfeddamcaa

namespace Go.Proofs.Ytnjoomfeddamcaa
open Go.Ev
theorem KsV.cnt {H : AHeap} {ok : Nat → Prop} {ks : List Ex} {x : AV} (hx : KsV H ok ks x) (H' : AHeap) : abuiltin P H' .len [35] [x] = some (.int .i64 ks.length) := by
 rcases hx with ⟨rfl, e1⟩ | ⟨l1, i1, c1, r1, el1, rfl, _⟩ | ⟨l1, i1, c1, rfl, e1⟩
 ·rw [e1]; exact ln35n
 ·exact ln35
 ·rw [e1]; exact ln35
theorem KsV.row {H : AHeap} {ok : Nat → Prop} {ks : List Ex} {x : AV} (hx : KsV H ok ks x) (h : ¬ ks.length = 0) : ∃ l i cap ro els, x = .sl l i ks.length 11 cap ∧ ok l ∧ H.get l = some (.row ro 11 els) ∧ ElsV H ok ks (els.drop i) := by
 rcases hx with ⟨_, e1⟩ | h1 | ⟨_, _, _, _, e1⟩
 ·exact absurd e1 h
 ·exact h1
 ·exact absurd e1 h
def SameOk (F : Nat) (B : Nat) (e : Ex) : Prop := Sm B e → ∀ (f : Ex) (v w : AV) (H : AHeap) (ok ok' : Nat → Prop), ExV H ok e v → ExV H ok' f w → W (evw P F [v, w] H) fun r H' => r = .bool (sameE e f) ∧ Pur H H'
theorem SmL.mem {B : Nat} : ∀ {es : List Ex}, SmL B es → ∀ e ∈ es, Sm B e
 | [], _, e, he => by simp at he
 | x :: xs, h, e, he => by
  rw [SmL] at h
  rcases List.mem_cons.1 he with rfl | he
  ·exact h.1
  ·exact SmL.mem h.2 e he
theorem Ex.sizeOf_kid {a : Ea} {ks : List Ex} {e : Ex} (h : e ∈ ks) : SizeOf.sizeOf e < SizeOf.sizeOf (Ex.mk a ks) := by
 have := List.sizeOf_lt_of_mem h
 simp only [Ex.mk.sizeOf_spec]
 omega
theorem loop42 {N B : Nat} {kl ki ll li : Nat} {kc lc : Option Nat} {kro lro : Bool} {kels lels : List (List AV)} {ok ok' : Nat → Prop} : ∀ (es fs : List Ex) (j kn n : Nat) (H : AHeap), (∀ e ∈ es, SameOk 22 B e) → SmL B es → ElsV H ok es (kels.drop (ki + j)) → ElsV H ok' fs (lels.drop (li + j)) → es.length = fs.length → kn = j + es.length → kn ≤ 1000000000000 → H.get kl = some (.row kro 11 kels) → H.get ll = some (.row lro 11 lels) → es.length < n →
  W (s42_l1 (evw P) N n (.sl kl ki kn 11 kc) (.sl ll li kn 11 lc) (.int .i64 j) H) fun r H' => r = .bool (sameL es fs) ∧ Pur H H'
 | _, _, _, _, 0, _, _, _, _, _, _, _, _, _, _, hn => by omega
 | [], [], j, kn, n + 1, H, hs, hsm, h1, h2, h3, h4, h5, h6, h7, hn => by
  have hj : ¬ ((j : Int) < (kn : Int)) := by simp at h4; omega
  simp -implicitDefEqProofs (disch := first | assumption | omega | (simp only [nxB]; omega) | (simp only [oneB])) only [s42_l1, s42_j0, s42_b1, s42, xlen, AV.cells, splice, aload, astore, Nat.reduceAdd, Nat.reduceLeDiff, reduceIte, allB, hj, decide_false]
  exact W_some.2 ⟨by rw [sameL], .refl _⟩
 | [], _ :: _, j, kn, n + 1, H, hs, hsm, h1, h2, h3, h4, h5, h6, h7, hn => by simp at h3
 | _ :: _, [], j, kn, n + 1, H, hs, hsm, h1, h2, h3, h4, h5, h6, h7, hn => by simp at h3
 | e :: es, f :: fs, j, kn, n + 1, H, hs, hsm, h1, h2, h3, h4, h5, h6, h7, hn => by
  simp only [List.length_cons] at h3 h4 hn
  have hj : (j : Int) < (kn : Int) := by omega
  have h0 : (0 : Int) ≤ (j : Int) := by omega
  have ht : ((j : Int)).toNat = j := by omega
  obtain ⟨cs, g1, g2, g3⟩ := h1.cons
  obtain ⟨ds, g4, g5, g6⟩ := h2.cons
  obtain ⟨_, q1, q2, q3⟩ := g2.cells
  cases q1
  obtain ⟨_, q4, q5, q6⟩ := g5.cells
  cases q4
  have tk1 : List.take 11 cs = cs := List.take_of_length_le (by omega)
  have tk2 : List.take 11 ds = ds := List.take_of_length_le (by omega)
  have l1 := AHeap.get_lt h6
  have l2 := AHeap.get_lt h7
  rw [SmL] at hsm
  have hw : IntKind.i64.wrap ((j : Int) + 1) = ((j + 1 : Nat) : Int) := by rw [wrap_i64 (by omega) (by omega)]; omega
  simp -implicitDefEqProofs (disch := first | assumption | omega | (simp only [nxB]; omega) | (simp only [oneB])) only [s42_l1, s42_j0, s42_b1, s42, xlen, AV.cells, splice, aload, astore, Nat.reduceAdd, Nat.reduceLeDiff, reduceIte, allB, hj, decide_true, ht, h6, h7, g1, g4, tk1, tk2]
  refine W_call (hs e (by simp) hsm.1 f _ _ _ ok ok' g2 g5) ?_
  rintro _ H2 ⟨rfl, p2⟩
  refine ⟨p2.1, ?_⟩
  cases hc : sameE e f with
  | false =>
   simp -implicitDefEqProofs (disch := first | assumption | omega | (simp only [nxB]; omega) | (simp only [oneB])) only [s42_j0, s42_b1, s42, xlen, evB, Bool.not_false]
   exact W_some.2 ⟨by rw [sameL, hc, Bool.false_and], p2⟩
  | true =>
   simp -implicitDefEqProofs (disch := first | assumption | omega | (simp only [nxB]; omega) | (simp only [oneB])) only [s42_j0, s42_b1, s42, xlen, evB, binB, Bool.not_true, hw]
   refine (loop42 es fs (j + 1) kn n H2 (fun e' he' => hs e' (by simp [he'])) hsm.2 (ElsV.keep (Keep.pur p2 fun _ h => h) _ _ g3) (ElsV.keep (Keep.pur p2 fun _ h => h) _ _ g6) (by omega) (by omega) h5 (p2.get h6) (p2.get h7) (by omega)).mono ?_
   rintro v H' ⟨rfl, q⟩
   exact ⟨by rw [sameL, hc, Bool.true_and], p2.trans q⟩
theorem list42 {B : Nat} (hB : B ≤ 1000000000000) {H : AHeap} {ok ok' : Nat → Prop} {ks ls : List Ex} {kv lv : AV} (hs : ∀ e ∈ ks, SameOk 22 B e) (hsm : ks.length ≤ B ∧ SmL B ks) (h1 : KsV H ok ks kv) (h2 : KsV H ok' ls lv) : W (evw P 42 [kv, lv] H) fun r H' => r = .bool (sameL ks ls) ∧ Pur H H' := by
 refine W_of (fun _ => run42 (ks.length + 1)) ?_
 have neq : ∀ m k : Nat, m ≠ k → ((m : Int) != (k : Int)) = true := fun m k h => by simp; omega
 have neq' : ∀ m : Nat, ((m : Int) != (m : Int)) = false := fun m => by simp
 have z0 : ((0 : Nat) : Int) = 0 := rfl
 have c1 := h1.cnt
 have c2 := h2.cnt
 by_cases hn : ks.length = ls.length
 ·by_cases hz : ks.length = 0
  ·have hz2 : ls.length = 0 := by omega
   obtain rfl := List.length_eq_zero_iff.1 hz
   obtain rfl := List.length_eq_zero_iff.1 hz2
   simp -implicitDefEqProofs (disch := first | assumption | omega | (simp only [nxB]; omega) | (simp only [oneB])) only [s42_l1, s42_j0, s42_b1, s42, xlen, AV.cells, splice, aload, astore, Nat.reduceAdd, Nat.reduceLeDiff, reduceIte, allB, c1, c2, List.length_nil, z0, bne_self_eq_false, Int.lt_irrefl, decide_false]
   exact W_some.2 ⟨by rw [sameL], .refl _⟩
  ·obtain ⟨l1, i1, k1, r1, el1, rfl, o1, g1, w1⟩ := h1.row hz
   obtain ⟨l2, i2, k2, r2, el2, rfl, o2, g2, w2⟩ := h2.row (by omega)
   rw [← hn]
   simp -implicitDefEqProofs (disch := first | assumption | omega | (simp only [nxB]; omega) | (simp only [oneB])) only [s42_j0, s42, xlen, evB, tabB, binB, neq' ks.length]
   exact loop42 ks ls 0 ks.length (ks.length + 1) H hs hsm.2 w1 w2 hn (by omega) (by omega) g1 g2 (by omega)
 ·have hn' := neq _ _ hn
  simp -implicitDefEqProofs (disch := first | assumption | omega | (simp only [nxB]; omega) | (simp only [oneB])) only [s42_j0, s42_b1, s42, xlen, evB, binB, c1, c2, hn']
  exact W_some.2 ⟨by rw [sameL_length _ _ hn], .refl _⟩
theorem spec22 {B : Nat} (hB : B ≤ 1000000000000) : ∀ (e : Ex), SameOk 22 B e
 | .mk a ks => by
  intro hsm f v w H ok ok' h1 h2
  cases f with | mk b ls =>
  rw [ExV_mk] at h1 h2
  obtain ⟨kv, rfl, h1⟩ := h1
  obtain ⟨lv, rfl, h2⟩ := h2
  rw [Sm] at hsm
  have hs : ∀ e ∈ ks, SameOk 22 B e := fun e he => spec22 hB e
  exact same22 h1.oneAV h2.oneAV fun H' p => list42 hB hs hsm (h1.pur p) (h2.pur p)
 termination_by e => SizeOf.sizeOf e
 decreasing_by exact Ex.sizeOf_kid he
theorem loop43 {N B : Nat} {kl ki ll li : Nat} {kc lc : Option Nat} {kro lro : Bool} {kels lels : List (List AV)} {ok ok' : Nat → Prop} : ∀ (es fs : List Ex) (j kn n : Nat) (H : AHeap), (∀ e ∈ es, SameOk 24 B e) → SmL B es → ElsV H ok es (kels.drop (ki + j)) → ElsV H ok' fs (lels.drop (li + j)) → es.length = fs.length → kn = j + es.length → kn ≤ 1000000000000 → H.get kl = some (.row kro 11 kels) → H.get ll = some (.row lro 11 lels) → es.length < n →
  W (s43_l1 (evw P) N n (.sl ll li kn 11 lc) (.func (.func 24) [] []) (.sl kl ki kn 11 kc) (.int .i64 kn) (.int .i64 j) H) fun r H' => r = .bool (sameL es fs) ∧ Pur H H'
 | _, _, _, _, 0, _, _, _, _, _, _, _, _, _, _, hn => by omega
 | [], [], j, kn, n + 1, H, hs, hsm, h1, h2, h3, h4, h5, h6, h7, hn => by
  have hj : ¬ ((j : Int) < (kn : Int)) := by simp at h4; omega
  simp -implicitDefEqProofs (disch := first | assumption | omega | (simp only [nxB]; omega) | (simp only [oneB])) only [s43_l1, s43_j0, s43_b1, s43, xlen, AV.cells, splice, aload, astore, Nat.reduceAdd, Nat.reduceLeDiff, reduceIte, allB, hj, decide_false]
  exact W_some.2 ⟨by rw [sameL], .refl _⟩
 | [], _ :: _, j, kn, n + 1, H, hs, hsm, h1, h2, h3, h4, h5, h6, h7, hn => by simp at h3
 | _ :: _, [], j, kn, n + 1, H, hs, hsm, h1, h2, h3, h4, h5, h6, h7, hn => by simp at h3
 | e :: es, f :: fs, j, kn, n + 1, H, hs, hsm, h1, h2, h3, h4, h5, h6, h7, hn => by
  simp only [List.length_cons] at h3 h4 hn
  have hj : (j : Int) < (kn : Int) := by omega
  have h0 : (0 : Int) ≤ (j : Int) := by omega
  have ht : ((j : Int)).toNat = j := by omega
  obtain ⟨cs, g1, g2, g3⟩ := h1.cons
  obtain ⟨ds, g4, g5, g6⟩ := h2.cons
  obtain ⟨_, q1, q2, q3⟩ := g2.cells
  cases q1
  obtain ⟨_, q4, q5, q6⟩ := g5.cells
  cases q4
  have tk1 : List.take 11 cs = cs := List.take_of_length_le (by omega)
  have tk2 : List.take 11 ds = ds := List.take_of_length_le (by omega)
  have l1 := AHeap.get_lt h6
  have l2 := AHeap.get_lt h7
  rw [SmL] at hsm
  have hw : IntKind.i64.wrap ((j : Int) + 1) = ((j + 1 : Nat) : Int) := by rw [wrap_i64 (by omega) (by omega)]; omega
  simp -implicitDefEqProofs (disch := first | assumption | omega | (simp only [nxB]; omega) | (simp only [oneB])) only [s43_l1, s43_j0, s43_b1, s43, xlen, AV.cells, splice, aload, astore, Nat.reduceAdd, Nat.reduceLeDiff, reduceIte, allB, hj, decide_true, ht, h6, h7, g1, g4, tk1, tk2, q2, q3, q5, q6, List.append_nil]
  have p1 := (Pur.push H (.row false 11 [cs])).then_push (.row false 11 [ds])
  refine W_apply ?_
  refine W_call (hs e (by simp) hsm.1 f _ _ _ ok ok' (g2.pur p1) (g5.pur p1)) ?_
  rintro _ H2 ⟨rfl, p2⟩
  refine ⟨p2.1, ?_⟩
  replace p2 := p1.trans p2
  cases hc : sameE e f with
  | false =>
   simp -implicitDefEqProofs (disch := first | assumption | omega | (simp only [nxB]; omega) | (simp only [oneB])) only [s43_j0, s43_b1, s43, xlen, evB, Bool.not_false]
   exact W_some.2 ⟨by rw [sameL, hc, Bool.false_and], p2⟩
  | true =>
   simp -implicitDefEqProofs (disch := first | assumption | omega | (simp only [nxB]; omega) | (simp only [oneB])) only [s43_j0, s43_b1, s43, xlen, evB, binB, Bool.not_true, hw]
   refine (loop43 es fs (j + 1) kn n H2 (fun e' he' => hs e' (by simp [he'])) hsm.2 (ElsV.keep (Keep.pur p2 fun _ h => h) _ _ g3) (ElsV.keep (Keep.pur p2 fun _ h => h) _ _ g6) (by omega) (by omega) h5 (p2.get h6) (p2.get h7) (by omega)).mono ?_
   rintro v H' ⟨rfl, q⟩
   exact ⟨by rw [sameL, hc, Bool.true_and], p2.trans q⟩
theorem list43 {B : Nat} (hB : B ≤ 1000000000000) {H : AHeap} {ok ok' : Nat → Prop} {ks ls : List Ex} {kv lv : AV} (hs : ∀ e ∈ ks, SameOk 24 B e) (hsm : ks.length ≤ B ∧ SmL B ks) (h1 : KsV H ok ks kv) (h2 : KsV H ok' ls lv) : W (evw P 43 [kv, lv, .func (.func 24) [] []] H) fun r H' => r = .bool (sameL ks ls) ∧ Pur H H' := by
 refine W_of (fun _ => run43 (ks.length + 1)) ?_
 have neq : ∀ m k : Nat, m ≠ k → ((m : Int) != (k : Int)) = true := fun m k h => by simp; omega
 have neq' : ∀ m : Nat, ((m : Int) != (m : Int)) = false := fun m => by simp
 have z0 : ((0 : Nat) : Int) = 0 := rfl
 have c1 := h1.cnt
 have c2 := h2.cnt
 by_cases hn : ks.length = ls.length
 ·by_cases hz : ks.length = 0
  ·have hz2 : ls.length = 0 := by omega
   obtain rfl := List.length_eq_zero_iff.1 hz
   obtain rfl := List.length_eq_zero_iff.1 hz2
   simp -implicitDefEqProofs (disch := first | assumption | omega | (simp only [nxB]; omega) | (simp only [oneB])) only [s43_l1, s43_j0, s43_b1, s43, xlen, AV.cells, splice, aload, astore, Nat.reduceAdd, Nat.reduceLeDiff, reduceIte, allB, c1, c2, List.length_nil, z0, bne_self_eq_false, Int.lt_irrefl, decide_false]
   exact W_some.2 ⟨by rw [sameL], .refl _⟩
  ·obtain ⟨l1, i1, k1, r1, el1, rfl, o1, g1, w1⟩ := h1.row hz
   obtain ⟨l2, i2, k2, r2, el2, rfl, o2, g2, w2⟩ := h2.row (by omega)
   rw [← hn]
   simp -implicitDefEqProofs (disch := first | assumption | omega | (simp only [nxB]; omega) | (simp only [oneB])) only [s43_j0, s43, xlen, evB, tabB, binB, neq' ks.length]
   exact loop43 ks ls 0 ks.length (ks.length + 1) H hs hsm.2 w1 w2 hn (by omega) (by omega) g1 g2 (by omega)
 ·have hn' := neq _ _ hn
  simp -implicitDefEqProofs (disch := first | assumption | omega | (simp only [nxB]; omega) | (simp only [oneB])) only [s43_j0, s43_b1, s43, xlen, evB, binB, c1, c2, hn']
  exact W_some.2 ⟨by rw [sameL_length _ _ hn], .refl _⟩
theorem spec24 {B : Nat} (hB : B ≤ 1000000000000) : ∀ (e : Ex), SameOk 24 B e
 | .mk a ks => by
  intro hsm f v w H ok ok' h1 h2
  cases f with | mk b ls =>
  rw [ExV_mk] at h1 h2
  obtain ⟨kv, rfl, h1⟩ := h1
  obtain ⟨lv, rfl, h2⟩ := h2
  rw [Sm] at hsm
  have hs : ∀ e ∈ ks, SameOk 24 B e := fun e he => spec24 hB e
  exact same24 h1.oneAV h2.oneAV fun H' p => list43 hB hs hsm (h1.pur p) (h2.pur p)
 termination_by e => SizeOf.sizeOf e
 decreasing_by exact Ex.sizeOf_kid he
end Go.Proofs.Ytnjoomfeddamcaa

namespace Go.Proofs.Ytnjoomfeddamcaa
open Go.Ev
set_option maxRecDepth 100000
noncomputable section
def s31 (G : CallT) (x0 x1 : AV) (H : AHeap) : O :=
 xmake H (boxOf (H).next x0) fun x2 h1 =>
 xmake h1 (boxOf (h1).next x1) fun x3 h2 =>
 xb (afieldAddr P 54 x2 0) fun x5 =>
 xb (aload P h2 3 x5) fun x6 =>
 xb (afieldAddr P 54 x3 0) fun x7 =>
 xb (aload P h2 3 x7) fun x8 =>
 xb (fbin P .eql 3 false x6 x8) fun x9 =>
 xg x9 true h2 (qp (afieldAddr P 54 x2 1)) fun x11 h3 =>
 xg x9 true h3 (qr (aload P h3 9 x11)) fun x12 h4 =>
 xg x9 true h4 (qp (afieldAddr P 54 x3 1)) fun x13 h5 =>
 xg x9 true h5 (qr (aload P h5 9 x13)) fun x14 h6 =>
 xg x9 true h6 (qp (fbin P .eql 9 false x12 x14)) fun x15 h7 =>
 xb (pickOf x9 (some x15) (some (.bool false))) fun x16 =>
 xg x16 true h7 (qp (afieldAddr P 54 x2 2)) fun x18 h8 =>
 xg x16 true h8 (qr (aload P h8 32 x18)) fun x19 h9 =>
 xg x16 true h9 (qp (afieldAddr P 54 x3 2)) fun x20 h10 =>
 xg x16 true h10 (qr (aload P h10 32 x20)) fun x21 h11 =>
 xg x16 true h11 (qp (fbin P .eql 32 false x19 x21)) fun x22 h12 =>
 xb (pickOf x16 (some x22) (some (.bool false))) fun x23 =>
 xg x23 true h12 (qp (afieldAddr P 54 x2 7)) fun x25 h13 =>
 xg x23 true h13 (qr (aload P h13 3 x25)) fun x26 h14 =>
 xg x23 true h14 (qp (afieldAddr P 54 x3 7)) fun x27 h15 =>
 xg x23 true h15 (qr (aload P h15 3 x27)) fun x28 h16 =>
 xg x23 true h16 (qp (fbin P .eql 3 false x26 x28)) fun x29 h17 =>
 xb (pickOf x23 (some x29) (some (.bool false))) fun x30 =>
 xg x30 true h17 (qp (afieldAddr P 54 x2 3)) fun x32 h18 =>
 xg x30 true h18 (qr (aload P h18 35 x32)) fun x33 h19 =>
 xg x30 true h19 (qp (afieldAddr P 54 x3 3)) fun x34 h20 =>
 xg x30 true h20 (qr (aload P h20 35 x34)) fun x35 h21 =>
 xg x30 true h21 (fun q => xeff h21 (G 42 [x33, x35] h21) q) fun x36 h22 =>
 xb (pickOf x30 (some x36) (some (.bool false))) fun x37 =>
 xg x37 true h22 (qp (afieldAddr P 54 x2 4)) fun x39 h23 =>
 xg x37 true h23 (qr (aload P h23 50 x39)) fun x40 h24 =>
 xg x37 true h24 (qp (afieldAddr P 54 x3 4)) fun x41 h25 =>
 xg x37 true h25 (qr (aload P h25 50 x41)) fun x42 h26 =>
 xg x37 true h26 (fun q => xeff h26 (G 52 [x40, x42] h26) q) fun x43 h27 =>
 xb (pickOf x37 (some x43) (some (.bool false))) fun x44 =>
 xg x44 true h27 (qp (afieldAddr P 54 x2 5)) fun x46 h28 =>
 xg x44 true h28 (qr (aload P h28 50 x46)) fun x47 h29 =>
 xg x44 true h29 (qp (afieldAddr P 54 x3 5)) fun x48 h30 =>
 xg x44 true h30 (qr (aload P h30 50 x48)) fun x49 h31 =>
 xg x44 true h31 (fun q => xeff h31 (G 52 [x47, x49] h31) q) fun x50 h32 =>
 xb (pickOf x44 (some x50) (some (.bool false))) fun x51 =>
 some (x51, h32)
theorem s31_eq (G : CallT) (N : Nat) (x0 : AV) (x1 : AV) (H : AHeap) : cF Try.f31 G N (argsF [x0, x1]) H = s31 G x0 x1 H := by
 refine via_top (A := cF Try.f31 G N) (via_leaf _) ?_
 delta s31
 kernel_rfl
theorem run31 (N : Nat) {x0 x1 : AV} {H : AHeap} {r : AV × AHeap} (h : s31 (evw P) x0 x1 H = some r) : evw P 31 [x0, x1] H = some r :=
 runF Try.func31 (by kernel_rfl) (by kernel_rfl) (by kernel_rfl) ((s31_eq (evw P) N x0 x1 H).trans h)
def s52_j0 (G : CallT) (N : Nat) (H : AHeap) : O :=
 some ((.bool true), H)
theorem s52_j0_eq (G : CallT) (N : Nat) : ∀ R H, codeC P G N (Code.snd (Code.snd (Code.snd (bodyOf Try.f52)))) (rC Try.f52) [] (rC Try.f52) R H = s52_j0 G N H := by
 refine via_trans (via_leaf _) fun R H => ?_
 delta s52_j0
 kernel_rfl
def s52_b1 (G : CallT) (N : Nat) (L1 : AV → AV → AV → AHeap → O) (x0 x1 x5 : AV) (H : AHeap) : O :=
 xlen P .len [50] [x0] H fun x13 =>
 xb (fbin P .lss 3 false x5 x13) fun x14 =>
 xif (some x14) (xb (aindexAddr P 50 x0 x5) fun x19 =>
 xb (aload P H 54 x19) fun x20 =>
 xb (aindexAddr P 50 x1 x5) fun x23 =>
 xb (aload P H 54 x23) fun x24 =>
 xcall H (G 31 [x20, x24] H) fun x25 h1 =>
 xb (aun .not x25) fun x26 =>
 xif (some x26) (some ((.bool false), h1)) (xb (fbin P .add 3 true x5 (.int .i64 1)) fun x16 =>
 L1 x0 x1 x16 h1)) (s52_j0 G N H)
def s52_l1 (G : CallT) (N : Nat) : Nat → AV → AV → AV → AHeap → O
 | 0, _, _, _, _ => none
 | n + 1, x0, x1, x5, H => s52_b1 G N (s52_l1 G N n) x0 x1 x5 H
theorem s52_b1_eq (G : CallT) (N : Nat) (L1 : AV → AV → AV → AHeap → O) : ∀ R H, codeC P G N (Code.fst (Code.fst (Code.snd (Code.fst (Code.snd (Code.snd (bodyOf Try.f52))))))) (fun R H => L1 (R 0) (R 1) (R 5) H) [(0, (fun R H => s52_j0 G N H))] (rC Try.f52) R H = s52_b1 G N L1 (R 0) (R 1) (R 5) H := by
 refine via_trans (via_leaf _) fun R H => ?_
 delta s52_b1
 generalize s52_j0 G N = J0
 revert J0
 refine id ?_
 intro J0
 kernel_rfl
def s52 (G : CallT) (N : Nat) (x0 x1 : AV) (H : AHeap) : O :=
 xlen P .len [50] [x0] H fun x7 =>
 xlen P .len [50] [x1] H fun x9 =>
 xb (fbin P .neq 3 false x7 x9) fun x10 =>
 xif (some x10) (some ((.bool false), H)) (s52_l1 G N N x0 x1 (.int .i64 0) H)
theorem s52_eq (G : CallT) (N : Nat) (x0 : AV) (x1 : AV) (H : AHeap) : cF Try.f52 G N (argsF [x0, x1]) H = s52 G N x0 x1 H := by
 refine via_top (A := cF Try.f52 G N) ((via_seq (by kernel_rfl) ((via_seq (by kernel_rfl) ((via_seq (by kernel_rfl) (s52_j0_eq G N) ((via_seq (by kernel_rfl) ((via_block (by kernel_rfl) ((via_loop (k := fun m R H => s52_l1 G N m (R 0) (R 1) (R 5) H) (by kernel_rfl) (fun R H => by kernel_rfl) (fun m => s52_b1_eq G N (s52_l1 G N m)))))) (via_leaf _))))) (via_leaf _))) (via_leaf _))) ?_
 delta s52
 generalize s52_l1 G N N = J0
 revert J0
 refine id ?_
 intro J0
 kernel_rfl
theorem run52 (N : Nat) {x0 x1 : AV} {H : AHeap} {r : AV × AHeap} (h : s52 (evw P) N x0 x1 H = some r) : evw P 52 [x0, x1] H = some r :=
 runF Try.func52 (by kernel_rfl) (by kernel_rfl) (by kernel_rfl) ((s52_eq (evw P) N x0 x1 H).trans h)
def s29_j0 (G : CallT) (N : Nat) (H : AHeap) : O :=
 some ((.bool true), H)
theorem s29_j0_eq (G : CallT) (N : Nat) : ∀ R H, codeC P G N (Code.snd (Code.snd (Code.snd (bodyOf Try.f29)))) (rC Try.f29) [] (rC Try.f29) R H = s29_j0 G N H := by
 refine via_trans (via_leaf _) fun R H => ?_
 delta s29_j0
 kernel_rfl
def s29_b1 (G : CallT) (N : Nat) (L1 : AV → AV → AV → AHeap → O) (x0 x1 x5 : AV) (H : AHeap) : O :=
 xlen P .len [50] [x0] H fun x13 =>
 xb (fbin P .lss 3 false x5 x13) fun x14 =>
 xif (some x14) (xb (aindexAddr P 50 x0 x5) fun x19 =>
 xb (afieldAddr P 54 x19 6) fun x20 =>
 xb (aload P H 3 x20) fun x21 =>
 xb (aindexAddr P 50 x1 x5) fun x24 =>
 xb (afieldAddr P 54 x24 6) fun x25 =>
 xb (aload P H 3 x25) fun x26 =>
 xb (fbin P .neq 3 false x21 x26) fun x27 =>
 xguard x27 false (qv x0) fun k_ =>
 xguard x27 false (qv x5) fun k__1 =>
 xguard x27 false (qp (aindexAddr P 50 k_.val k__1.val)) fun k__2 =>
 xguard x27 false (qr (aload P (k__2.heap (k__1.heap (k_.heap H))) 54 k__2.val)) fun k__3 =>
 xguard x27 false (qv x1) fun k__4 =>
 xguard x27 false (qv x5) fun k__5 =>
 xguard x27 false (qp (aindexAddr P 50 k__4.val k__5.val)) fun k__6 =>
 xguard x27 false (qr (aload P (k__6.heap (k__5.heap (k__4.heap (k__3.heap (k__2.heap (k__1.heap (k_.heap H))))))) 54 k__6.val)) fun k__7 =>
 xguard x27 false (fun q => xeff (k__7.heap (k__6.heap (k__5.heap (k__4.heap (k__3.heap (k__2.heap (k__1.heap (k_.heap H)))))))) (G 31 [k__3.val, k__7.val] (k__7.heap (k__6.heap (k__5.heap (k__4.heap (k__3.heap (k__2.heap (k__1.heap (k_.heap H))))))))) q) fun k__8 =>
 xguard x27 false (qp (aun .not k__8.val)) fun k__9 =>
 xb (pickOf x27 (some (.bool true)) (some k__9.val)) fun x39 =>
 xguard x39 false (qv x0) fun k__10 =>
 xguard x39 false (qv x5) fun k__11 =>
 xguard x39 false (qp (aindexAddr P 50 k__10.val k__11.val)) fun k__12 =>
 xguard x39 false (qp (afieldAddr P 54 k__12.val 3)) fun k__13 =>
 xguard x39 false (qr (aload P (k__13.heap (k__12.heap (k__11.heap (k__10.heap (k__9.heap (k__8.heap (k__7.heap (k__6.heap (k__5.heap (k__4.heap (k__3.heap (k__2.heap (k__1.heap (k_.heap H)))))))))))))) 35 k__13.val)) fun k__14 =>
 xguard x39 false (qv x1) fun k__15 =>
 xguard x39 false (qv x5) fun k__16 =>
 xguard x39 false (qp (aindexAddr P 50 k__15.val k__16.val)) fun k__17 =>
 xguard x39 false (qp (afieldAddr P 54 k__17.val 3)) fun k__18 =>
 xguard x39 false (qr (aload P (k__18.heap (k__17.heap (k__16.heap (k__15.heap (k__14.heap (k__13.heap (k__12.heap (k__11.heap (k__10.heap (k__9.heap (k__8.heap (k__7.heap (k__6.heap (k__5.heap (k__4.heap (k__3.heap (k__2.heap (k__1.heap (k_.heap H))))))))))))))))))) 35 k__18.val)) fun k__19 =>
 xguard x39 false (fun q => xeff (k__19.heap (k__18.heap (k__17.heap (k__16.heap (k__15.heap (k__14.heap (k__13.heap (k__12.heap (k__11.heap (k__10.heap (k__9.heap (k__8.heap (k__7.heap (k__6.heap (k__5.heap (k__4.heap (k__3.heap (k__2.heap (k__1.heap (k_.heap H)))))))))))))))))))) (G 50 [k__14.val, k__19.val] (k__19.heap (k__18.heap (k__17.heap (k__16.heap (k__15.heap (k__14.heap (k__13.heap (k__12.heap (k__11.heap (k__10.heap (k__9.heap (k__8.heap (k__7.heap (k__6.heap (k__5.heap (k__4.heap (k__3.heap (k__2.heap (k__1.heap (k_.heap H))))))))))))))))))))) q) fun k__20 =>
 xguard x39 false (qp (aun .not k__20.val)) fun k__21 =>
 xb (pickOf x39 (some (.bool true)) (some k__21.val)) fun x53 =>
 xguard x53 false (qv x0) fun k__22 =>
 xguard x53 false (qv x5) fun k__23 =>
 xguard x53 false (qp (aindexAddr P 50 k__22.val k__23.val)) fun k__24 =>
 xguard x53 false (qp (afieldAddr P 54 k__24.val 4)) fun k__25 =>
 xguard x53 false (qr (aload P (k__25.heap (k__24.heap (k__23.heap (k__22.heap (k__21.heap (k__20.heap (k__19.heap (k__18.heap (k__17.heap (k__16.heap (k__15.heap (k__14.heap (k__13.heap (k__12.heap (k__11.heap (k__10.heap (k__9.heap (k__8.heap (k__7.heap (k__6.heap (k__5.heap (k__4.heap (k__3.heap (k__2.heap (k__1.heap (k_.heap H)))))))))))))))))))))))))) 50 k__25.val)) fun k__26 =>
 xguard x53 false (qv x1) fun k__27 =>
 xguard x53 false (qv x5) fun k__28 =>
 xguard x53 false (qp (aindexAddr P 50 k__27.val k__28.val)) fun k__29 =>
 xguard x53 false (qp (afieldAddr P 54 k__29.val 4)) fun k__30 =>
 xguard x53 false (qr (aload P (k__30.heap (k__29.heap (k__28.heap (k__27.heap (k__26.heap (k__25.heap (k__24.heap (k__23.heap (k__22.heap (k__21.heap (k__20.heap (k__19.heap (k__18.heap (k__17.heap (k__16.heap (k__15.heap (k__14.heap (k__13.heap (k__12.heap (k__11.heap (k__10.heap (k__9.heap (k__8.heap (k__7.heap (k__6.heap (k__5.heap (k__4.heap (k__3.heap (k__2.heap (k__1.heap (k_.heap H))))))))))))))))))))))))))))))) 50 k__30.val)) fun k__31 =>
 xguard x53 false (fun q => xeff (k__31.heap (k__30.heap (k__29.heap (k__28.heap (k__27.heap (k__26.heap (k__25.heap (k__24.heap (k__23.heap (k__22.heap (k__21.heap (k__20.heap (k__19.heap (k__18.heap (k__17.heap (k__16.heap (k__15.heap (k__14.heap (k__13.heap (k__12.heap (k__11.heap (k__10.heap (k__9.heap (k__8.heap (k__7.heap (k__6.heap (k__5.heap (k__4.heap (k__3.heap (k__2.heap (k__1.heap (k_.heap H)))))))))))))))))))))))))))))))) (G 29 [k__26.val, k__31.val] (k__31.heap (k__30.heap (k__29.heap (k__28.heap (k__27.heap (k__26.heap (k__25.heap (k__24.heap (k__23.heap (k__22.heap (k__21.heap (k__20.heap (k__19.heap (k__18.heap (k__17.heap (k__16.heap (k__15.heap (k__14.heap (k__13.heap (k__12.heap (k__11.heap (k__10.heap (k__9.heap (k__8.heap (k__7.heap (k__6.heap (k__5.heap (k__4.heap (k__3.heap (k__2.heap (k__1.heap (k_.heap H))))))))))))))))))))))))))))))))) q) fun k__32 =>
 xguard x53 false (qp (aun .not k__32.val)) fun k__33 =>
 xb (pickOf x53 (some (.bool true)) (some k__33.val)) fun x67 =>
 xguard x67 false (qv x0) fun k__34 =>
 xguard x67 false (qv x5) fun k__35 =>
 xguard x67 false (qp (aindexAddr P 50 k__34.val k__35.val)) fun k__36 =>
 xguard x67 false (qp (afieldAddr P 54 k__36.val 5)) fun k__37 =>
 xguard x67 false (qr (aload P (k__37.heap (k__36.heap (k__35.heap (k__34.heap (k__33.heap (k__32.heap (k__31.heap (k__30.heap (k__29.heap (k__28.heap (k__27.heap (k__26.heap (k__25.heap (k__24.heap (k__23.heap (k__22.heap (k__21.heap (k__20.heap (k__19.heap (k__18.heap (k__17.heap (k__16.heap (k__15.heap (k__14.heap (k__13.heap (k__12.heap (k__11.heap (k__10.heap (k__9.heap (k__8.heap (k__7.heap (k__6.heap (k__5.heap (k__4.heap (k__3.heap (k__2.heap (k__1.heap (k_.heap H)))))))))))))))))))))))))))))))))))))) 50 k__37.val)) fun k__38 =>
 xguard x67 false (qv x1) fun k__39 =>
 xguard x67 false (qv x5) fun k__40 =>
 xguard x67 false (qp (aindexAddr P 50 k__39.val k__40.val)) fun k__41 =>
 xguard x67 false (qp (afieldAddr P 54 k__41.val 5)) fun k__42 =>
 xguard x67 false (qr (aload P (k__42.heap (k__41.heap (k__40.heap (k__39.heap (k__38.heap (k__37.heap (k__36.heap (k__35.heap (k__34.heap (k__33.heap (k__32.heap (k__31.heap (k__30.heap (k__29.heap (k__28.heap (k__27.heap (k__26.heap (k__25.heap (k__24.heap (k__23.heap (k__22.heap (k__21.heap (k__20.heap (k__19.heap (k__18.heap (k__17.heap (k__16.heap (k__15.heap (k__14.heap (k__13.heap (k__12.heap (k__11.heap (k__10.heap (k__9.heap (k__8.heap (k__7.heap (k__6.heap (k__5.heap (k__4.heap (k__3.heap (k__2.heap (k__1.heap (k_.heap H))))))))))))))))))))))))))))))))))))))))))) 50 k__42.val)) fun k__43 =>
 xguard x67 false (fun q => xeff (k__43.heap (k__42.heap (k__41.heap (k__40.heap (k__39.heap (k__38.heap (k__37.heap (k__36.heap (k__35.heap (k__34.heap (k__33.heap (k__32.heap (k__31.heap (k__30.heap (k__29.heap (k__28.heap (k__27.heap (k__26.heap (k__25.heap (k__24.heap (k__23.heap (k__22.heap (k__21.heap (k__20.heap (k__19.heap (k__18.heap (k__17.heap (k__16.heap (k__15.heap (k__14.heap (k__13.heap (k__12.heap (k__11.heap (k__10.heap (k__9.heap (k__8.heap (k__7.heap (k__6.heap (k__5.heap (k__4.heap (k__3.heap (k__2.heap (k__1.heap (k_.heap H)))))))))))))))))))))))))))))))))))))))))))) (G 29 [k__38.val, k__43.val] (k__43.heap (k__42.heap (k__41.heap (k__40.heap (k__39.heap (k__38.heap (k__37.heap (k__36.heap (k__35.heap (k__34.heap (k__33.heap (k__32.heap (k__31.heap (k__30.heap (k__29.heap (k__28.heap (k__27.heap (k__26.heap (k__25.heap (k__24.heap (k__23.heap (k__22.heap (k__21.heap (k__20.heap (k__19.heap (k__18.heap (k__17.heap (k__16.heap (k__15.heap (k__14.heap (k__13.heap (k__12.heap (k__11.heap (k__10.heap (k__9.heap (k__8.heap (k__7.heap (k__6.heap (k__5.heap (k__4.heap (k__3.heap (k__2.heap (k__1.heap (k_.heap H))))))))))))))))))))))))))))))))))))))))))))) q) fun k__44 =>
 xguard x67 false (qp (aun .not k__44.val)) fun k__45 =>
 xb (pickOf x67 (some (.bool true)) (some k__45.val)) fun x81 =>
 bif dchk [0, 0, 3, 7, 15, 0, 0, 96, 224, 480, 1023, 2047, 4095, 4095, 16383, 32767, 4095, 4095, 200703, 462847, 1048575, 2097151, 4194303, 8388607, 16777215, 16777215, 67108863, 134217727, 268435455, 16777215, 16777215, 1627389951, 3774873599, 8069840895, 17179869183, 34359738367, 68719476735, 137438953471, 274877906943, 274877906943, 1099511627775, 2199023255551, 4398046511103, 274877906943, 274877906943, 26663156973567, 61847529062399, 132216273240063, 281474976710655, 562949953421311, 1125899906842623, 2251799813685247, 4503599627370495, 4503599627370495, 18014398509481983, 36028797018963967, 72057594037927935, 4503599627370495, 4503599627370495, 436849163854938111, 1013309916158361599, 2166231420765208575, 4611686018427387903, 9223372036854775807, 18446744073709551615] [0, 1, 2, 3, 4, 5, 6, 7, 8, 9, 10, 11, 12, 13, 14, 15, 16, 17, 18, 19, 20, 21, 22, 23, 24, 25, 26, 27, 28, 29, 30, 31, 32, 33, 34, 35, 36, 37, 38, 39, 40, 41, 42, 43, 44, 45, 46, 47, 48, 49, 50, 51, 52, 53, 54, 55, 56, 57, 58, 59, 60, 61, 62, 63, 64] [⟨0, (.pure x0), fun H => none⟩, ⟨1, (.pure x5), fun H => none⟩, ⟨2, (.pure x19), fun H => none⟩, ⟨3, (.pure x20), fun H => none⟩, ⟨4, (.read x21), fun H => aload P H 3 x20⟩, ⟨5, (.pure x1), fun H => none⟩, ⟨6, (.pure x5), fun H => none⟩, ⟨7, (.pure x24), fun H => none⟩, ⟨8, (.pure x25), fun H => none⟩, ⟨9, (.read x26), fun H => aload P H 3 x25⟩, ⟨10, (.pure x27), fun H => none⟩, ⟨11, (.pure x27), fun H => none⟩, ⟨12, k_, fun H => none⟩, ⟨13, k__1, fun H => none⟩, ⟨14, k__2, fun H => none⟩, ⟨15, k__3, fun H => aload P H 54 k__2.val⟩, ⟨16, k__4, fun H => none⟩, ⟨17, k__5, fun H => none⟩, ⟨18, k__6, fun H => none⟩, ⟨19, k__7, fun H => aload P H 54 k__6.val⟩, ⟨20, k__8, fun H => none⟩, ⟨21, k__9, fun H => none⟩, ⟨22, (.pure x39), fun H => none⟩, ⟨23, (.pure x39), fun H => none⟩, ⟨24, k__10, fun H => none⟩, ⟨25, k__11, fun H => none⟩, ⟨26, k__12, fun H => none⟩, ⟨27, k__13, fun H => none⟩, ⟨28, k__14, fun H => aload P H 35 k__13.val⟩, ⟨29, k__15, fun H => none⟩, ⟨30, k__16, fun H => none⟩, ⟨31, k__17, fun H => none⟩, ⟨32, k__18, fun H => none⟩, ⟨33, k__19, fun H => aload P H 35 k__18.val⟩, ⟨34, k__20, fun H => none⟩, ⟨35, k__21, fun H => none⟩, ⟨36, (.pure x53), fun H => none⟩, ⟨37, (.pure x53), fun H => none⟩, ⟨38, k__22, fun H => none⟩, ⟨39, k__23, fun H => none⟩, ⟨40, k__24, fun H => none⟩, ⟨41, k__25, fun H => none⟩, ⟨42, k__26, fun H => aload P H 50 k__25.val⟩, ⟨43, k__27, fun H => none⟩, ⟨44, k__28, fun H => none⟩, ⟨45, k__29, fun H => none⟩, ⟨46, k__30, fun H => none⟩, ⟨47, k__31, fun H => aload P H 50 k__30.val⟩, ⟨48, k__32, fun H => none⟩, ⟨49, k__33, fun H => none⟩, ⟨50, (.pure x67), fun H => none⟩, ⟨51, (.pure x67), fun H => none⟩, ⟨52, k__34, fun H => none⟩, ⟨53, k__35, fun H => none⟩, ⟨54, k__36, fun H => none⟩, ⟨55, k__37, fun H => none⟩, ⟨56, k__38, fun H => aload P H 50 k__37.val⟩, ⟨57, k__39, fun H => none⟩, ⟨58, k__40, fun H => none⟩, ⟨59, k__41, fun H => none⟩, ⟨60, k__42, fun H => none⟩, ⟨61, k__43, fun H => aload P H 50 k__42.val⟩, ⟨62, k__44, fun H => none⟩, ⟨63, k__45, fun H => none⟩, ⟨64, (.pure x81), fun H => none⟩] H then (xif (some x81) (some ((.bool false), (k__45.heap (k__44.heap (k__43.heap (k__42.heap (k__41.heap (k__40.heap (k__39.heap (k__38.heap (k__37.heap (k__36.heap (k__35.heap (k__34.heap (k__33.heap (k__32.heap (k__31.heap (k__30.heap (k__29.heap (k__28.heap (k__27.heap (k__26.heap (k__25.heap (k__24.heap (k__23.heap (k__22.heap (k__21.heap (k__20.heap (k__19.heap (k__18.heap (k__17.heap (k__16.heap (k__15.heap (k__14.heap (k__13.heap (k__12.heap (k__11.heap (k__10.heap (k__9.heap (k__8.heap (k__7.heap (k__6.heap (k__5.heap (k__4.heap (k__3.heap (k__2.heap (k__1.heap (k_.heap H)))))))))))))))))))))))))))))))))))))))))))))))) (xb (fbin P .add 3 true x5 (.int .i64 1)) fun x16 =>
 L1 x0 x1 x16 (k__45.heap (k__44.heap (k__43.heap (k__42.heap (k__41.heap (k__40.heap (k__39.heap (k__38.heap (k__37.heap (k__36.heap (k__35.heap (k__34.heap (k__33.heap (k__32.heap (k__31.heap (k__30.heap (k__29.heap (k__28.heap (k__27.heap (k__26.heap (k__25.heap (k__24.heap (k__23.heap (k__22.heap (k__21.heap (k__20.heap (k__19.heap (k__18.heap (k__17.heap (k__16.heap (k__15.heap (k__14.heap (k__13.heap (k__12.heap (k__11.heap (k__10.heap (k__9.heap (k__8.heap (k__7.heap (k__6.heap (k__5.heap (k__4.heap (k__3.heap (k__2.heap (k__1.heap (k_.heap H)))))))))))))))))))))))))))))))))))))))))))))))) else none) (s29_j0 G N H)
def s29_l1 (G : CallT) (N : Nat) : Nat → AV → AV → AV → AHeap → O
 | 0, _, _, _, _ => none
 | n + 1, x0, x1, x5, H => s29_b1 G N (s29_l1 G N n) x0 x1 x5 H
theorem s29_b1_eq (G : CallT) (N : Nat) (L1 : AV → AV → AV → AHeap → O) : ∀ R H, codeC P G N (Code.fst (Code.fst (Code.snd (Code.fst (Code.snd (Code.snd (bodyOf Try.f29))))))) (fun R H => L1 (R 0) (R 1) (R 5) H) [(0, (fun R H => s29_j0 G N H))] (rC Try.f29) R H = s29_b1 G N L1 (R 0) (R 1) (R 5) H := by
 refine via_trans (via_leaf _) fun R H => ?_
 delta s29_b1
 generalize s29_j0 G N = J0
 revert J0
 refine id ?_
 intro J0
 kernel_rfl
def s29 (G : CallT) (N : Nat) (x0 x1 : AV) (H : AHeap) : O :=
 xlen P .len [50] [x0] H fun x7 =>
 xlen P .len [50] [x1] H fun x9 =>
 xb (fbin P .neq 3 false x7 x9) fun x10 =>
 xif (some x10) (some ((.bool false), H)) (s29_l1 G N N x0 x1 (.int .i64 0) H)
theorem s29_eq (G : CallT) (N : Nat) (x0 : AV) (x1 : AV) (H : AHeap) : cF Try.f29 G N (argsF [x0, x1]) H = s29 G N x0 x1 H := by
 refine via_top (A := cF Try.f29 G N) ((via_seq (by kernel_rfl) ((via_seq (by kernel_rfl) ((via_seq (by kernel_rfl) (s29_j0_eq G N) ((via_seq (by kernel_rfl) ((via_block (by kernel_rfl) ((via_loop (k := fun m R H => s29_l1 G N m (R 0) (R 1) (R 5) H) (by kernel_rfl) (fun R H => by kernel_rfl) (fun m => s29_b1_eq G N (s29_l1 G N m)))))) (via_leaf _))))) (via_leaf _))) (via_leaf _))) ?_
 delta s29
 generalize s29_l1 G N N = J0
 revert J0
 refine id ?_
 intro J0
 kernel_rfl
theorem run29 (N : Nat) {x0 x1 : AV} {H : AHeap} {r : AV × AHeap} (h : s29 (evw P) N x0 x1 H = some r) : evw P 29 [x0, x1] H = some r :=
 runF Try.func29 (by kernel_rfl) (by kernel_rfl) (by kernel_rfl) ((s29_eq (evw P) N x0 x1 H).trans h)
def s50_j0 (G : CallT) (N : Nat) (H : AHeap) : O :=
 some ((.bool true), H)
theorem s50_j0_eq (G : CallT) (N : Nat) : ∀ R H, codeC P G N (Code.snd (Code.snd (bodyOf Try.f50))) (rC Try.f50) [] (rC Try.f50) R H = s50_j0 G N H := by
 refine via_trans (via_leaf _) fun R H => ?_
 delta s50_j0
 kernel_rfl
def s50_b1 (G : CallT) (N : Nat) (L1 : AV → AV → AV → AHeap → O) (x0 x1 x5 : AV) (H : AHeap) : O :=
 xlen P .len [35] [x0] H fun x8 =>
 xb (fbin P .lss 3 false x5 x8) fun x9 =>
 xif (some x9) (xb (aindexAddr P 35 x0 x5) fun x14 =>
 xb (afieldAddr P 39 x14 5) fun x15 =>
 xb (aload P H 3 x15) fun x16 =>
 xb (aindexAddr P 35 x1 x5) fun x19 =>
 xb (afieldAddr P 39 x19 5) fun x20 =>
 xb (aload P H 3 x20) fun x21 =>
 xb (fbin P .neq 3 false x16 x21) fun x22 =>
 xguard x22 false (qv x0) fun k_ =>
 xguard x22 false (qv x5) fun k__1 =>
 xguard x22 false (qp (aindexAddr P 35 k_.val k__1.val)) fun k__2 =>
 xguard x22 false (qp (afieldAddr P 39 k__2.val 4)) fun k__3 =>
 xguard x22 false (qr (aload P (k__3.heap (k__2.heap (k__1.heap (k_.heap H)))) 35 k__3.val)) fun k__4 =>
 xguard x22 false (qv x1) fun k__5 =>
 xguard x22 false (qv x5) fun k__6 =>
 xguard x22 false (qp (aindexAddr P 35 k__5.val k__6.val)) fun k__7 =>
 xguard x22 false (qp (afieldAddr P 39 k__7.val 4)) fun k__8 =>
 xguard x22 false (qr (aload P (k__8.heap (k__7.heap (k__6.heap (k__5.heap (k__4.heap (k__3.heap (k__2.heap (k__1.heap (k_.heap H))))))))) 35 k__8.val)) fun k__9 =>
 xguard x22 false (fun q => xeff (k__9.heap (k__8.heap (k__7.heap (k__6.heap (k__5.heap (k__4.heap (k__3.heap (k__2.heap (k__1.heap (k_.heap H)))))))))) (G 50 [k__4.val, k__9.val] (k__9.heap (k__8.heap (k__7.heap (k__6.heap (k__5.heap (k__4.heap (k__3.heap (k__2.heap (k__1.heap (k_.heap H))))))))))) q) fun k__10 =>
 xguard x22 false (qp (aun .not k__10.val)) fun k__11 =>
 xb (pickOf x22 (some (.bool true)) (some k__11.val)) fun x36 =>
 bif dchk [0, 0, 3, 7, 15, 0, 0, 96, 224, 480, 1023, 2047, 4095, 4095, 16383, 32767, 65535, 4095, 4095, 397311, 921599, 1970175, 4194303, 8388607, 16777215] [0, 1, 2, 3, 4, 5, 6, 7, 8, 9, 10, 11, 12, 13, 14, 15, 16, 17, 18, 19, 20, 21, 22, 23, 24] [⟨0, (.pure x0), fun H => none⟩, ⟨1, (.pure x5), fun H => none⟩, ⟨2, (.pure x14), fun H => none⟩, ⟨3, (.pure x15), fun H => none⟩, ⟨4, (.read x16), fun H => aload P H 3 x15⟩, ⟨5, (.pure x1), fun H => none⟩, ⟨6, (.pure x5), fun H => none⟩, ⟨7, (.pure x19), fun H => none⟩, ⟨8, (.pure x20), fun H => none⟩, ⟨9, (.read x21), fun H => aload P H 3 x20⟩, ⟨10, (.pure x22), fun H => none⟩, ⟨11, (.pure x22), fun H => none⟩, ⟨12, k_, fun H => none⟩, ⟨13, k__1, fun H => none⟩, ⟨14, k__2, fun H => none⟩, ⟨15, k__3, fun H => none⟩, ⟨16, k__4, fun H => aload P H 35 k__3.val⟩, ⟨17, k__5, fun H => none⟩, ⟨18, k__6, fun H => none⟩, ⟨19, k__7, fun H => none⟩, ⟨20, k__8, fun H => none⟩, ⟨21, k__9, fun H => aload P H 35 k__8.val⟩, ⟨22, k__10, fun H => none⟩, ⟨23, k__11, fun H => none⟩, ⟨24, (.pure x36), fun H => none⟩] H then (xif (some x36) (some ((.bool false), (k__11.heap (k__10.heap (k__9.heap (k__8.heap (k__7.heap (k__6.heap (k__5.heap (k__4.heap (k__3.heap (k__2.heap (k__1.heap (k_.heap H)))))))))))))) (xb (fbin P .add 3 true x5 (.int .i64 1)) fun x11 =>
 L1 x0 x1 x11 (k__11.heap (k__10.heap (k__9.heap (k__8.heap (k__7.heap (k__6.heap (k__5.heap (k__4.heap (k__3.heap (k__2.heap (k__1.heap (k_.heap H)))))))))))))) else none) (s50_j0 G N H)
def s50_l1 (G : CallT) (N : Nat) : Nat → AV → AV → AV → AHeap → O
 | 0, _, _, _, _ => none
 | n + 1, x0, x1, x5, H => s50_b1 G N (s50_l1 G N n) x0 x1 x5 H
theorem s50_b1_eq (G : CallT) (N : Nat) (L1 : AV → AV → AV → AHeap → O) : ∀ R H, codeC P G N (Code.fst (Code.fst (Code.snd (Code.fst (Code.snd (bodyOf Try.f50)))))) (fun R H => L1 (R 0) (R 1) (R 5) H) [(0, (fun R H => s50_j0 G N H))] (rC Try.f50) R H = s50_b1 G N L1 (R 0) (R 1) (R 5) H := by
 refine via_trans (via_leaf _) fun R H => ?_
 delta s50_b1
 generalize s50_j0 G N = J0
 revert J0
 refine id ?_
 intro J0
 kernel_rfl
def s50 (G : CallT) (N : Nat) (x0 x1 : AV) (H : AHeap) : O :=
 s50_l1 G N N x0 x1 (.int .i64 0) H
theorem s50_eq (G : CallT) (N : Nat) (x0 : AV) (x1 : AV) (H : AHeap) : cF Try.f50 G N (argsF [x0, x1]) H = s50 G N x0 x1 H := by
 refine via_top (A := cF Try.f50 G N) ((via_seq (by kernel_rfl) ((via_seq (by kernel_rfl) (s50_j0_eq G N) ((via_seq (by kernel_rfl) ((via_block (by kernel_rfl) ((via_loop (k := fun m R H => s50_l1 G N m (R 0) (R 1) (R 5) H) (by kernel_rfl) (fun R H => by kernel_rfl) (fun m => s50_b1_eq G N (s50_l1 G N m)))))) (via_leaf _))))) (via_leaf _))) ?_
 delta s50
 generalize s50_l1 G N N = J0
 revert J0
 refine id ?_
 intro J0
 kernel_rfl
theorem run50 (N : Nat) {x0 x1 : AV} {H : AHeap} {r : AV × AHeap} (h : s50 (evw P) N x0 x1 H = some r) : evw P 50 [x0, x1] H = some r :=
 runF Try.func50 (by kernel_rfl) (by kernel_rfl) (by kernel_rfl) ((s50_eq (evw P) N x0 x1 H).trans h)
def s46 (G : CallT) (x0 x1 : AV) (H : AHeap) : O :=
 xmake H (boxOf (H).next x0) fun x2 h1 =>
 xmake h1 (boxOf (h1).next x1) fun x3 h2 =>
 xb (afieldAddr P 25 x3 0) fun x5 =>
 xb (aload P h2 23 x5) fun x6 =>
 xb (fbin P .neq 23 true x6 (.int .i64 0)) fun x7 =>
 xif (some x7) (some (AV.nilSl, h2)) (xb (aload P h2 54 x2) fun x8 =>
 xmake h2 (sliceOf P (h2).next 50 1 [(0, x8)]) fun x9 h3 =>
 some (x9, h3))
theorem s46_eq (G : CallT) (N : Nat) (x0 : AV) (x1 : AV) (H : AHeap) : cF Try.f46 G N (argsF [x0, x1]) H = s46 G x0 x1 H := by
 refine via_top (A := cF Try.f46 G N) (via_leaf _) ?_
 delta s46
 kernel_rfl
theorem run46 (N : Nat) {x0 x1 : AV} {H : AHeap} {r : AV × AHeap} (h : s46 (evw P) x0 x1 H = some r) : evw P 46 [x0, x1] H = some r :=
 runF Try.func46 (by kernel_rfl) (by kernel_rfl) (by kernel_rfl) ((s46_eq (evw P) N x0 x1 H).trans h)
def s25 (G : CallT) (x0 x1 x2 : AV) (H : AHeap) : O :=
 xcall H (G 28 [x0, x1, x2] H) fun x23 h1 =>
 xb (aextract x23 0) fun x24 =>
 xb (aextract x23 1) fun x25 =>
 xb (aextract x23 2) fun x26 =>
 xalloc h1 [(.int .i64 0), (.str []), (.str []), (.int .i64 0), AV.nilSl, AV.nilSl, AV.nilSl, (.int .i64 0), (.int .i64 0)] fun x7 h2 =>
 xalloc h2 [(.int .i64 0), (.int .i64 0)] fun x9 h3 =>
 xstore h3 (astore P h3 54 x7 x24) fun h4 =>
 xstore h4 (astore P h4 25 x9 x26) fun h5 =>
 xcall h5 (G 44 [x0, x1, x2] h5) fun x31 h6 =>
 xb (aextract x31 0) fun x32 =>
 xb (aextract x31 1) fun x33 =>
 xb (aextract x31 2) fun x34 =>
 xalloc h6 [(.int .i64 0), (.str []), (.str []), (.int .i64 0), AV.nilSl, AV.nilSl, AV.nilSl, (.int .i64 0), (.int .i64 0)] fun x10 h7 =>
 xalloc h7 [(.int .i64 0), (.int .i64 0)] fun x12 h8 =>
 xstore h8 (astore P h8 54 x10 x32) fun h9 =>
 xstore h9 (astore P h9 25 x12 x34) fun h10 =>
 xcall h10 (G 45 [x0, x1, x2] h10) fun x39 h11 =>
 xb (aextract x39 0) fun x40 =>
 xb (aextract x39 1) fun x41 =>
 xb (aextract x39 2) fun x42 =>
 xalloc h11 [(.int .i64 0), (.int .i64 0)] fun x15 h12 =>
 xstore h12 (astore P h12 25 x15 x42) fun h13 =>
 xcall h13 (G 27 [x0, x1, x2] h13) fun x47 h14 =>
 xb (aextract x47 0) fun x48 =>
 xb (aextract x47 1) fun x49 =>
 xb (aextract x47 2) fun x50 =>
 xalloc h14 [(.int .i64 0), (.int .i64 0)] fun x18 h15 =>
 xstore h15 (astore P h15 25 x18 x50) fun h16 =>
 xb (aload P h16 25 x9) fun x51 =>
 xb (aload P h16 25 x12) fun x52 =>
 xb (fbin P .eql 25 false x51 x52) fun x53 =>
 xguard x53 true (qr (aload P h16 25 x15)) fun k_ =>
 xguard x53 true (qr (aload P (k_.heap h16) 25 x18)) fun k__1 =>
 xguard x53 true (qp (fbin P .eql 25 false k_.val k__1.val)) fun k__2 =>
 xb (pickOf x53 (some k__2.val) (some (.bool false))) fun x58 =>
 xguard x58 true (qv x25) fun k__3 =>
 xguard x58 true (qv x33) fun k__4 =>
 xguard x58 true (qp (fbin P .eql 3 false k__3.val k__4.val)) fun k__5 =>
 xb (pickOf x58 (some k__5.val) (some (.bool false))) fun x63 =>
 xguard x63 true (qv x41) fun k__6 =>
 xguard x63 true (qv x49) fun k__7 =>
 xguard x63 true (qp (fbin P .eql 3 false k__6.val k__7.val)) fun k__8 =>
 xb (pickOf x63 (some k__8.val) (some (.bool false))) fun x68 =>
 xguard x68 true (qr (aload P (k__8.heap (k__7.heap (k__6.heap (k__5.heap (k__4.heap (k__3.heap (k__2.heap (k__1.heap (k_.heap h16))))))))) 54 x7)) fun k__9 =>
 xguard x68 true (qr (aload P (k__9.heap (k__8.heap (k__7.heap (k__6.heap (k__5.heap (k__4.heap (k__3.heap (k__2.heap (k__1.heap (k_.heap h16)))))))))) 25 x9)) fun k__10 =>
 xguard x68 true (fun q => xeff (k__10.heap (k__9.heap (k__8.heap (k__7.heap (k__6.heap (k__5.heap (k__4.heap (k__3.heap (k__2.heap (k__1.heap (k_.heap h16))))))))))) (G 46 [k__9.val, k__10.val] (k__10.heap (k__9.heap (k__8.heap (k__7.heap (k__6.heap (k__5.heap (k__4.heap (k__3.heap (k__2.heap (k__1.heap (k_.heap h16)))))))))))) q) fun k__11 =>
 xguard x68 true (qr (aload P (k__11.heap (k__10.heap (k__9.heap (k__8.heap (k__7.heap (k__6.heap (k__5.heap (k__4.heap (k__3.heap (k__2.heap (k__1.heap (k_.heap h16)))))))))))) 54 x10)) fun k__12 =>
 xguard x68 true (qr (aload P (k__12.heap (k__11.heap (k__10.heap (k__9.heap (k__8.heap (k__7.heap (k__6.heap (k__5.heap (k__4.heap (k__3.heap (k__2.heap (k__1.heap (k_.heap h16))))))))))))) 25 x12)) fun k__13 =>
 xguard x68 true (fun q => xeff (k__13.heap (k__12.heap (k__11.heap (k__10.heap (k__9.heap (k__8.heap (k__7.heap (k__6.heap (k__5.heap (k__4.heap (k__3.heap (k__2.heap (k__1.heap (k_.heap h16)))))))))))))) (G 46 [k__12.val, k__13.val] (k__13.heap (k__12.heap (k__11.heap (k__10.heap (k__9.heap (k__8.heap (k__7.heap (k__6.heap (k__5.heap (k__4.heap (k__3.heap (k__2.heap (k__1.heap (k_.heap h16))))))))))))))) q) fun k__14 =>
 xguard x68 true (fun q => xeff (k__14.heap (k__13.heap (k__12.heap (k__11.heap (k__10.heap (k__9.heap (k__8.heap (k__7.heap (k__6.heap (k__5.heap (k__4.heap (k__3.heap (k__2.heap (k__1.heap (k_.heap h16))))))))))))))) (G 29 [k__11.val, k__14.val] (k__14.heap (k__13.heap (k__12.heap (k__11.heap (k__10.heap (k__9.heap (k__8.heap (k__7.heap (k__6.heap (k__5.heap (k__4.heap (k__3.heap (k__2.heap (k__1.heap (k_.heap h16)))))))))))))))) q) fun k__15 =>
 xb (pickOf x68 (some k__15.val) (some (.bool false))) fun x77 =>
 xguard x77 true (qv x40) fun k__16 =>
 xguard x77 true (qv x48) fun k__17 =>
 xguard x77 true (fun q => xeff (k__17.heap (k__16.heap (k__15.heap (k__14.heap (k__13.heap (k__12.heap (k__11.heap (k__10.heap (k__9.heap (k__8.heap (k__7.heap (k__6.heap (k__5.heap (k__4.heap (k__3.heap (k__2.heap (k__1.heap (k_.heap h16)))))))))))))))))) (G 29 [k__16.val, k__17.val] (k__17.heap (k__16.heap (k__15.heap (k__14.heap (k__13.heap (k__12.heap (k__11.heap (k__10.heap (k__9.heap (k__8.heap (k__7.heap (k__6.heap (k__5.heap (k__4.heap (k__3.heap (k__2.heap (k__1.heap (k_.heap h16))))))))))))))))))) q) fun k__18 =>
 xb (pickOf x77 (some k__18.val) (some (.bool false))) fun x82 =>
 bif dchk [0, 0, 3, 7, 15, 15, 63, 127, 255, 511, 511, 2047, 4095, 8191, 16383, 16383, 65535, 131071, 262143, 524287, 524287, 2097151, 524287, 524287, 16777215, 33554431, 67108863, 134217727, 268435455, 268435455, 1073741823, 2147483647, 4294967295] [0, 1, 2, 3, 4, 5, 6, 7, 8, 9, 10, 11, 12, 13, 14, 15, 16, 17, 18, 19, 20, 21, 24, 25, 26, 27, 28, 29, 30, 31, 32] [⟨0, (.read x51), fun H => aload P H 25 x9⟩, ⟨1, (.read x52), fun H => aload P H 25 x12⟩, ⟨2, (.pure x53), fun H => none⟩, ⟨3, (.pure x53), fun H => none⟩, ⟨4, k_, fun H => aload P H 25 x15⟩, ⟨5, k__1, fun H => aload P H 25 x18⟩, ⟨6, k__2, fun H => none⟩, ⟨7, (.pure x58), fun H => none⟩, ⟨8, (.pure x58), fun H => none⟩, ⟨9, k__3, fun H => none⟩, ⟨10, k__4, fun H => none⟩, ⟨11, k__5, fun H => none⟩, ⟨12, (.pure x63), fun H => none⟩, ⟨13, (.pure x63), fun H => none⟩, ⟨14, k__6, fun H => none⟩, ⟨15, k__7, fun H => none⟩, ⟨16, k__8, fun H => none⟩, ⟨17, (.pure x68), fun H => none⟩, ⟨18, (.pure x68), fun H => none⟩, ⟨19, k__9, fun H => aload P H 54 x7⟩, ⟨20, k__10, fun H => aload P H 25 x9⟩, ⟨21, k__11, fun H => none⟩, ⟨22, k__12, fun H => aload P H 54 x10⟩, ⟨23, k__13, fun H => aload P H 25 x12⟩, ⟨24, k__14, fun H => none⟩, ⟨25, k__15, fun H => none⟩, ⟨26, (.pure x77), fun H => none⟩, ⟨27, (.pure x77), fun H => none⟩, ⟨28, k__16, fun H => none⟩, ⟨29, k__17, fun H => none⟩, ⟨30, k__18, fun H => none⟩, ⟨31, (.pure x82), fun H => none⟩, ⟨32, (.pure x82), fun H => none⟩] h16 then (some (x82, (k__18.heap (k__17.heap (k__16.heap (k__15.heap (k__14.heap (k__13.heap (k__12.heap (k__11.heap (k__10.heap (k__9.heap (k__8.heap (k__7.heap (k__6.heap (k__5.heap (k__4.heap (k__3.heap (k__2.heap (k__1.heap (k_.heap h16))))))))))))))))))))) else none
theorem s25_eq (G : CallT) (N : Nat) (x0 : AV) (x1 : AV) (x2 : AV) (H : AHeap) : cF Try.f25 G N (argsF [x0, x1, x2]) H = s25 G x0 x1 x2 H := by
 refine via_top (A := cF Try.f25 G N) (via_leaf _) ?_
 delta s25
 kernel_rfl
theorem run25 (N : Nat) {x0 x1 x2 : AV} {H : AHeap} {r : AV × AHeap} (h : s25 (evw P) x0 x1 x2 H = some r) : evw P 25 [x0, x1, x2] H = some r :=
 runF Try.func25 (by kernel_rfl) (by kernel_rfl) (by kernel_rfl) ((s25_eq (evw P) N x0 x1 x2 H).trans h)
end
end Go.Proofs.Ytnjoomfeddamcaa
namespace Go.Ev
 @[congr] theorem xalloc_cg {H H' : AHeap} {cs cs' : List AV} {k : AV → AHeap → O} {z : Nat} (d : H = H') (e : cs = cs') (_y : zA = z) : xalloc H cs k = xalloc H' cs' k := by rw [d, e]
 @[congr] theorem dchk_cg {ms ez : List Nat} {T : List Tc} {H : AHeap} {z : Nat} (_y : zA = z) : dchk ms ez T H = dchk ms ez T H := rfl
theorem winsC_tied {ms ez : List Nat} {T : List Tc} {H : AHeap} : ∀ S : List Tc, S.all (fun t => ez.contains t.i) = true → winsC ms ez T H S = true
  | [], _ => rfl
  | t :: ts, h => by
    simp only [List.all_cons, Bool.and_eq_true] at h
    rw [winsC, winsC_tied ts h.2, Bool.and_true]
    split
    · rw [h.1, Bool.true_or]
    · rfl
theorem dchk_tied {ms ez : List Nat} {T : List Tc} {H : AHeap} (h1 : effC ms T [] = true) (h2 : T.all (fun t => ez.contains t.i) = true) : dchk ms ez T H = true := by
  rw [dchk, h1, winsC_tied T h2]; rfl
def tiedOk (ez : List Nat) (t : Tc) : Bool := match t.k with
  | .read _ => ez.contains t.i
  | _ => true
theorem winsC_ok {ms ez : List Nat} {T : List Tc} {H : AHeap} : ∀ S : List Tc, S.all (tiedOk ez) = true → winsC ms ez T H S = true
  | [], _ => rfl
  | t :: ts, h => by
    simp only [List.all_cons, Bool.and_eq_true] at h
    rw [winsC, winsC_ok ts h.2, Bool.and_true]
    have h1 := h.1
    unfold tiedOk at h1
    split
    · rename_i v hk
      rw [hk] at h1
      simp only at h1
      rw [h1, Bool.true_or]
    · rfl
theorem winsC_app {ms ez : List Nat} {T : List Tc} {H : AHeap} : ∀ S S' : List Tc, winsC ms ez T H (S ++ S') = (winsC ms ez T H S && winsC ms ez T H S')
  | [], S' => by rw [List.nil_append, winsC, Bool.true_and]
  | t :: ts, S' => by rw [List.cons_append, winsC, winsC, winsC_app ts S', Bool.and_assoc]
def effPur (H : AHeap) (t : Tc) : Prop := match t.k with
  | .eff _ H' => Pur H H'
  | .new _ _ => False
  | _ => True
theorem trace_pur {H : AHeap} : ∀ (T : List Tc) (H0 : AHeap), Pur H H0 → (∀ t ∈ T, effPur H t) → ∀ H' ∈ traceH T H0, Pur H H'
  | [], H0, p, _, H', hm => by
    simp only [traceH, List.mem_cons, List.not_mem_nil, or_false] at hm
    rw [hm]; exact p
  | t :: ts, H0, p, h, H', hm => by
    simp only [traceH, List.mem_cons] at hm
    rcases hm with rfl | hm
    · exact p
    · refine trace_pur ts _ ?_ (fun u hu => h u (List.mem_cons_of_mem _ hu)) H' hm
      have h1 := h t List.mem_cons_self
      unfold effPur at h1
      cases hk : t.k with
      | pure v => exact p
      | read v => exact p
      | skip => exact p
      | eff v H2 => rw [hk] at h1; exact h1
      | new v b => rw [hk] at h1; exact h1.elim
theorem dchk_mid {ms ez : List Nat} {T : List Tc} {H : AHeap} (i : Nat) (h1 : effC ms T [] = true) (ha : (T.take i).all (tiedOk ez) = true) (hb : (T.drop (i + 2)).all (tiedOk ez) = true) {t u : Tc} (ht : T.drop i = t :: u :: T.drop (i + 2)) (hp : ∀ x ∈ T, effPur H x)
    (rt : ∀ v, t.k = .read v → ∀ H', Pur H H' → rdIs (t.rd H') v = true) (ru : ∀ v, u.k = .read v → ∀ H', Pur H H' → rdIs (u.rd H') v = true) : dchk ms ez T H = true := by
  have hw : winsC ms ez T H T = true := by
    have e : T = T.take i ++ (t :: u :: T.drop (i + 2)) := by rw [← ht, List.take_append_drop]
    have hall := trace_pur T H (.refl H) hp
    have h3 : winsC ms ez T H (t :: u :: T.drop (i + 2)) = true := by
      rw [winsC, winsC, winsC_ok _ hb, Bool.and_true]
      have ft : (match t.k with | .read v => ez.contains t.i || seeC ms (fun H => rdIs (t.rd H) v) t.i T H | _ => true) = true := by
        split
        · rename_i v hk
          rw [seeC_true fun H' hm => rt v hk H' (hall H' hm), Bool.or_true]
        · rfl
      have fu : (match u.k with | .read v => ez.contains u.i || seeC ms (fun H => rdIs (u.rd H) v) u.i T H | _ => true) = true := by
        split
        · rename_i v hk
          rw [seeC_true fun H' hm => ru v hk H' (hall H' hm), Bool.or_true]
        · rfl
      exact Bool.and_eq_true_iff.2 ⟨ft, fu⟩
    have h4 : winsC ms ez T H (T.take i ++ (t :: u :: T.drop (i + 2))) = true := by rw [winsC_app, winsC_ok _ ha, h3]; rfl
    rw [← e] at h4
    exact h4
  rw [dchk, h1, hw]; rfl
theorem dchk_tied2 {ms ez : List Nat} {T : List Tc} {H : AHeap} (h1 : effC ms T [] = true) (h2 : T.all (tiedOk ez) = true) : dchk ms ez T H = true := by
  rw [dchk, h1, winsC_ok T h2]; rfl
end Go.Ev

namespace Go.Proofs.Ytnjoomfeddamcaa
open Go.Ev
mutual
def sameM : Stm → Stm → Bool
 | .mk a es b c, .mk a' es' b' c' => a.kind == a'.kind && (a.name == a'.name && ((a.ofn == a'.ofn && a.ofd == a'.ofd) && (a.ref == a'.ref && (sameL es es' && (sameMs b b' && sameMs c c')))))
def sameMs : List Stm → List Stm → Bool
 | [], [] => true
 | [], _ :: _ => false
 | _ :: _, [] => false
 | e :: es, f :: fs => sameM e f && sameMs es fs
end
mutual
def SmM (B : Nat) : Stm → Prop
 | .mk _ es b c => (es.length ≤ B ∧ SmL B es) ∧ (b.length ≤ B ∧ SmMs B b) ∧ (c.length ≤ B ∧ SmMs B c)
def SmMs (B : Nat) : List Stm → Prop
 | [] => True
 | e :: es => SmM B e ∧ SmMs B es
end
theorem SmMs.mem {B : Nat} : ∀ {es : List Stm}, SmMs B es → ∀ e ∈ es, SmM B e
 | [], _, e, he => by simp at he
 | x :: xs, h, e, he => by
  rw [SmMs] at h
  rcases List.mem_cons.1 he with rfl | he
  ·exact h.1
  ·exact SmMs.mem h.2 e he
theorem sameMs_length : ∀ (es fs : List Stm), es.length ≠ fs.length → sameMs es fs = false
 | [], [], h => absurd rfl h
 | [], _ :: _, _ => by rw [sameMs]
 | _ :: _, [], _ => by rw [sameMs]
 | e :: es, f :: fs, h => by rw [sameMs, sameMs_length es fs (by simpa using h), Bool.and_false]
mutual
theorem sameE_refl4 : ∀ e : Ex, sameE e e = true
 | .mk a ks => by rw [sameE, sameL_refl4 ks]; simp
theorem sameL_refl4 : ∀ es : List Ex, sameL es es = true
 | [] => by rw [sameL]
 | e :: es => by rw [sameL, sameE_refl4 e, sameL_refl4 es]; rfl
end
mutual
theorem sameM_refl : ∀ e : Stm, sameM e e = true
 | .mk a es b c => by rw [sameM, sameMs_refl b, sameMs_refl c, sameL_refl4 es]; simp
theorem sameMs_refl : ∀ es : List Stm, sameMs es es = true
 | [] => by rw [sameMs]
 | e :: es => by rw [sameMs, sameM_refl e, sameMs_refl es]; rfl
end
theorem Stm.sizeOf_body {a : Sa} {es : List Ex} {b c : List Stm} {e : Stm} (h : e ∈ b) : SizeOf.sizeOf e < SizeOf.sizeOf (Stm.mk a es b c) := by
 have := List.sizeOf_lt_of_mem h
 simp only [Stm.mk.sizeOf_spec]
 omega
theorem Stm.sizeOf_els {a : Sa} {es : List Ex} {b c : List Stm} {e : Stm} (h : e ∈ c) : SizeOf.sizeOf e < SizeOf.sizeOf (Stm.mk a es b c) := by
 have := List.sizeOf_lt_of_mem h
 simp only [Stm.mk.sizeOf_spec]
 omega
theorem SsV.pur {H H' : AHeap} {ok : Nat → Prop} {ks : List Stm} {kv : AV} (h : SsV H ok ks kv) (p : Pur H H') : SsV H' ok ks kv := h.keep (KeepS.pur p fun _ h => h)
theorem StV.pur {H H' : AHeap} {ok : Nat → Prop} {e : Stm} {v : AV} (h : StV H ok e v) (p : Pur H H') : StV H' ok e v := StV.keep (KeepS.pur p fun _ h => h) e v h
theorem SlsV.cons {H : AHeap} {ok : Nat → Prop} {e : Stm} {es : List Stm} {els : List (List AV)} {k : Nat} (h : SlsV H ok (e :: es) (els.drop k)) : ∃ cs, els[k]? = some cs ∧ StV H ok e (.agg cs) ∧ SlsV H ok es (els.drop (k + 1)) := by
 cases hd : els.drop k with
 | nil => rw [hd, SlsV] at h; exact h.elim
 | cons cs css =>
  rw [hd, SlsV] at h
  have h1 : els[k]? = some cs := by
   have := List.getElem?_drop (xs := els) (i := k) (j := 0)
   rw [hd] at this
   simpa using this.symm
  have h2 : els.drop (k + 1) = css := by
   have : (els.drop k).drop 1 = css := by rw [hd]; rfl
   rwa [List.drop_drop] at this
  exact ⟨cs, h1, h.1, by rw [h2]; exact h.2⟩
theorem SsV.cnt {H : AHeap} {ok : Nat → Prop} {ks : List Stm} {x : AV} (hx : SsV H ok ks x) (H' : AHeap) : abuiltin P H' .len [50] [x] = some (.int .i64 ks.length) := by
 rcases hx with ⟨rfl, e1⟩ | ⟨l1, i1, c1, r1, el1, rfl, _⟩ | ⟨l1, i1, c1, rfl, e1⟩
 ·rw [e1]; exact ln50n
 ·exact ln50
 ·rw [e1]; exact ln50
theorem SsV.row {H : AHeap} {ok : Nat → Prop} {ks : List Stm} {x : AV} (hx : SsV H ok ks x) (h : ¬ ks.length = 0) : ∃ l i cap ro els, x = .sl l i ks.length 9 (Option.map (· + ks.length) cap) ∧ ok l ∧ H.get l = some (.row ro 9 els) ∧ SlsV H ok ks (els.drop i) := by
 rcases hx with ⟨_, e1⟩ | h1 | ⟨_, _, _, _, e1⟩
 ·exact absurd e1 h
 ·exact h1
 ·exact absurd e1 h
def SameMOk (F : Nat) (B : Nat) (e : Stm) : Prop := SmM B e → ∀ (f : Stm) (v w : AV) (H : AHeap) (ok ok' : Nat → Prop), StV H ok e v → StV H ok' f w → W (evw P F [v, w] H) fun r H' => r = .bool (sameM e f) ∧ Pur H H'
theorem neqI (m k : Nat) (h : m ≠ k) : ((m : Int) != (k : Int)) = true := by simp; omega
theorem neqS (m : Nat) : ((m : Int) != (m : Int)) = false := by simp
theorem sameM31 {H : AHeap} {a a' : Sa} {es es' : List Ex} {b b' c c' : List Stm} {ev ev' bv bv' cv cv' : AV} (h1 : ev.one = true) (h1' : ev'.one = true) (h2 : bv.one = true) (h2' : bv'.one = true) (h3 : cv.one = true) (h3' : cv'.one = true)
  (he : ∀ H', Pur H H' → W (evw P 42 [ev, ev'] H') fun r H'' => r = .bool (sameL es es') ∧ Pur H' H'')
  (hb : ∀ H', Pur H H' → W (evw P 52 [bv, bv'] H') fun r H'' => r = .bool (sameMs b b') ∧ Pur H' H'')
  (hc : ∀ H', Pur H H' → W (evw P 52 [cv, cv'] H') fun r H'' => r = .bool (sameMs c c') ∧ Pur H' H'') :
  W (evw P 31 [.agg (a.cells ev bv cv), .agg (a'.cells ev' bv' cv')] H) fun r H' => r = .bool (sameM (.mk a es b c) (.mk a' es' b' c')) ∧ Pur H H' := by
 refine W_of (fun _ => run31 0) ?_
 have hb1 : ∀ l, boxOf l (.agg (a.cells ev bv cv)) = some (.ptr l 0 0, .row false 9 [a.cells ev bv cv]) := fun l => boxOf_agg l _ (by simp only [Sa.cells, List.all_cons, List.all_nil, one_int, one_str, h1, h2, h3, Bool.and_self])
 have hb2 : ∀ l, boxOf l (.agg (a'.cells ev' bv' cv')) = some (.ptr l 0 0, .row false 9 [a'.cells ev' bv' cv']) := fun l => boxOf_agg l _ (by simp only [Sa.cells, List.all_cons, List.all_nil, one_int, one_str, h1', h2', h3', Bool.and_self])
 have p2 := (Pur.push H (.row false 9 [a.cells ev bv cv])).then_push (.row false 9 [a'.cells ev' bv' cv'])
 have g1 : ((H.push (.row false 9 [a.cells ev bv cv])).push (.row false 9 [a'.cells ev' bv' cv'])).get H.next = some (.row false 9 [a.cells ev bv cv]) := by simp -implicitDefEqProofs (disch := first | assumption | omega | (simp only [nxB]; omega) | (simp only [oneB])) only [heapB]
 have g2 : ((H.push (.row false 9 [a.cells ev bv cv])).push (.row false 9 [a'.cells ev' bv' cv'])).get (H.next + 1) = some (.row false 9 [a'.cells ev' bv' cv']) := by simp -implicitDefEqProofs (disch := first | assumption | omega | (simp only [nxB]; omega) | (simp only [oneB])) only [heapB]
 rw [sameM]
 simp only [Sa.cells] at hb1 hb2 p2 g1 g2 ⊢
 cases c0 : a.kind == a'.kind with
 | false =>
  simp -implicitDefEqProofs (disch := first | assumption | omega | (simp only [nxB]; omega) | (simp only [oneB])) only [s31, xlen, AV.cells, splice, aload, astore, Nat.reduceAdd, Nat.reduceLeDiff, reduceIte, allB, tyC, hb1, hb2, eq32, c0]
  exact W_some.2 ⟨by simp only [Bool.false_and, Bool.and_false], p2⟩
 | true =>
 cases c2 : a.name == a'.name with
 | false =>
  simp -implicitDefEqProofs (disch := first | assumption | omega | (simp only [nxB]; omega) | (simp only [oneB])) only [s31, xlen, AV.cells, splice, aload, astore, Nat.reduceAdd, Nat.reduceLeDiff, reduceIte, allB, tyC, hb1, hb2, eq32, c0, c2]
  exact W_some.2 ⟨by simp only [Bool.false_and, Bool.and_false], p2⟩
 | true =>
 cases c3 : (a.ofn == a'.ofn && a.ofd == a'.ofd) with
 | false =>
  simp -implicitDefEqProofs (disch := first | assumption | omega | (simp only [nxB]; omega) | (simp only [oneB])) only [s31, xlen, AV.cells, splice, aload, astore, Nat.reduceAdd, Nat.reduceLeDiff, reduceIte, allB, tyC, hb1, hb2, eq32, c0, c2, c3]
  exact W_some.2 ⟨by simp only [Bool.false_and, Bool.and_false], p2⟩
 | true =>
 cases c5 : a.ref == a'.ref with
 | false =>
  simp -implicitDefEqProofs (disch := first | assumption | omega | (simp only [nxB]; omega) | (simp only [oneB])) only [s31, xlen, AV.cells, splice, aload, astore, Nat.reduceAdd, Nat.reduceLeDiff, reduceIte, allB, tyC, hb1, hb2, eq32, c0, c2, c3, c5]
  exact W_some.2 ⟨by simp only [Bool.false_and, Bool.and_false], p2⟩
 | true =>
 simp -implicitDefEqProofs (disch := first | assumption | omega | (simp only [nxB]; omega) | (simp only [oneB])) only [s31, xlen, AV.cells, splice, aload, astore, Nat.reduceAdd, Nat.reduceLeDiff, reduceIte, allB, tyC, hb1, hb2, eq32, c0, c2, c3, c5]
 refine W_eff (he _ p2) ?_
 rintro _ H3 ⟨rfl, p3⟩
 refine ⟨p3.1, ?_⟩
 have g31 := p3.get g1
 have g32 := p3.get g2
 cases d1 : sameL es es' with
 | false =>
  simp -implicitDefEqProofs (disch := first | assumption | omega | (simp only [nxB]; omega) | (simp only [oneB])) only [xlen, AV.cells, splice, aload, astore, Nat.reduceAdd, Nat.reduceLeDiff, reduceIte, allB]
  exact W_some.2 ⟨by simp only [Bool.false_and, Bool.and_false], p2.trans p3⟩
 | true =>
 simp -implicitDefEqProofs (disch := first | assumption | omega | (simp only [nxB]; omega) | (simp only [oneB])) only [xlen, AV.cells, splice, aload, astore, Nat.reduceAdd, Nat.reduceLeDiff, reduceIte, allB, tyC, g31, g32]
 refine W_eff (hb _ (p2.trans p3)) ?_
 rintro _ H4 ⟨rfl, p4⟩
 refine ⟨p4.1, ?_⟩
 have g41 := p4.get g31
 have g42 := p4.get g32
 cases d2 : sameMs b b' with
 | false =>
  simp -implicitDefEqProofs (disch := first | assumption | omega | (simp only [nxB]; omega) | (simp only [oneB])) only [xlen, AV.cells, splice, aload, astore, Nat.reduceAdd, Nat.reduceLeDiff, reduceIte, allB]
  exact W_some.2 ⟨by simp only [Bool.false_and, Bool.and_false], (p2.trans p3).trans p4⟩
 | true =>
 simp -implicitDefEqProofs (disch := first | assumption | omega | (simp only [nxB]; omega) | (simp only [oneB])) only [xlen, AV.cells, splice, aload, astore, Nat.reduceAdd, Nat.reduceLeDiff, reduceIte, allB, tyC, g41, g42]
 refine W_eff (hc _ ((p2.trans p3).trans p4)) ?_
 rintro _ H5 ⟨rfl, p5⟩
 refine ⟨p5.1, ?_⟩
 simp -implicitDefEqProofs (disch := first | assumption | omega | (simp only [nxB]; omega) | (simp only [oneB])) only [xlen, AV.cells, splice, aload, astore, Nat.reduceAdd, Nat.reduceLeDiff, reduceIte, allB]
 exact W_some.2 ⟨by simp only [Bool.true_and], ((p2.trans p3).trans p4).trans p5⟩
theorem loop52 {N B : Nat} {kl ki ll li : Nat} {kc lc : Option Nat} {kro lro : Bool} {kels lels : List (List AV)} {ok ok' : Nat → Prop} : ∀ (es fs : List Stm) (j kn n : Nat) (H : AHeap), (∀ e ∈ es, SameMOk 31 B e) → SmMs B es → SlsV H ok es (kels.drop (ki + j)) → SlsV H ok' fs (lels.drop (li + j)) → es.length = fs.length → kn = j + es.length → kn ≤ 1000000000000 → H.get kl = some (.row kro 9 kels) → H.get ll = some (.row lro 9 lels) → es.length < n →
  W (s52_l1 (evw P) N n (.sl kl ki kn 9 kc) (.sl ll li kn 9 lc) (.int .i64 j) H) fun r H' => r = .bool (sameMs es fs) ∧ Pur H H'
 | _, _, _, _, 0, _, _, _, _, _, _, _, _, _, _, hn => by omega
 | [], [], j, kn, n + 1, H, hs, hsm, h1, h2, h3, h4, h5, h6, h7, hn => by
  have hj : ¬ ((j : Int) < (kn : Int)) := by simp at h4; omega
  simp -implicitDefEqProofs (disch := first | assumption | omega | (simp only [nxB]; omega) | (simp only [oneB])) only [s52_l1, s52_j0, s52_b1, s52, xlen, AV.cells, splice, aload, astore, Nat.reduceAdd, Nat.reduceLeDiff, reduceIte, allB, hj, decide_false]
  exact W_some.2 ⟨by rw [sameMs], .refl _⟩
 | [], _ :: _, j, kn, n + 1, H, hs, hsm, h1, h2, h3, h4, h5, h6, h7, hn => by simp at h3
 | _ :: _, [], j, kn, n + 1, H, hs, hsm, h1, h2, h3, h4, h5, h6, h7, hn => by simp at h3
 | e :: es, f :: fs, j, kn, n + 1, H, hs, hsm, h1, h2, h3, h4, h5, h6, h7, hn => by
  simp only [List.length_cons] at h3 h4 hn
  have hj : (j : Int) < (kn : Int) := by omega
  have h0 : (0 : Int) ≤ (j : Int) := by omega
  have ht : ((j : Int)).toNat = j := by omega
  obtain ⟨cs, g1, g2, g3⟩ := h1.cons
  obtain ⟨ds, g4, g5, g6⟩ := h2.cons
  obtain ⟨_, q1, q2, q3⟩ := g2.cells
  cases q1
  obtain ⟨_, q4, q5, q6⟩ := g5.cells
  cases q4
  have tk1 : List.take 9 cs = cs := List.take_of_length_le (by omega)
  have tk2 : List.take 9 ds = ds := List.take_of_length_le (by omega)
  have l1 := AHeap.get_lt h6
  have l2 := AHeap.get_lt h7
  rw [SmMs] at hsm
  have hw : IntKind.i64.wrap ((j : Int) + 1) = ((j + 1 : Nat) : Int) := by rw [wrap_i64 (by omega) (by omega)]; omega
  simp -implicitDefEqProofs (disch := first | assumption | omega | (simp only [nxB]; omega) | (simp only [oneB])) only [s52_l1, s52_j0, s52_b1, s52, xlen, AV.cells, splice, aload, astore, Nat.reduceAdd, Nat.reduceLeDiff, reduceIte, allB, tyC, hj, decide_true, ht, h6, h7, g1, g4, tk1, tk2]
  refine W_call (hs e (by simp) hsm.1 f _ _ _ ok ok' g2 g5) ?_
  rintro _ H2 ⟨rfl, p2⟩
  refine ⟨p2.1, ?_⟩
  cases hc : sameM e f with
  | false =>
   simp -implicitDefEqProofs (disch := first | assumption | omega | (simp only [nxB]; omega) | (simp only [oneB])) only [xlen, evB, Bool.not_false]
   exact W_some.2 ⟨by rw [sameMs, hc, Bool.false_and], p2⟩
  | true =>
   simp -implicitDefEqProofs (disch := first | assumption | omega | (simp only [nxB]; omega) | (simp only [oneB])) only [xlen, evB, binB, Bool.not_true, hw]
   refine (loop52 es fs (j + 1) kn n H2 (fun e' he' => hs e' (by simp [he'])) hsm.2 (SlsV.keep (KeepS.pur (p2) fun _ h => h) _ _ g3) (SlsV.keep (KeepS.pur (p2) fun _ h => h) _ _ g6) (by omega) (by omega) h5 ((p2).get h6) ((p2).get h7) (by omega)).mono ?_
   rintro v H' ⟨rfl, q⟩
   exact ⟨by rw [sameMs, hc, Bool.true_and], (p2).trans q⟩
theorem list52 {B : Nat} (hB : B ≤ 1000000000000) {H : AHeap} {ok ok' : Nat → Prop} {ks ls : List Stm} {bv bv' : AV} (hs : ∀ e ∈ ks, SameMOk 31 B e) (hsm : ks.length ≤ B ∧ SmMs B ks) (h1 : SsV H ok ks bv) (h2 : SsV H ok' ls bv') : W (evw P 52 [bv, bv'] H) fun r H' => r = .bool (sameMs ks ls) ∧ Pur H H' := by
 refine W_of (fun _ => run52 (ks.length + 1)) ?_
 have z0 : ((0 : Nat) : Int) = 0 := rfl
 have c1 := h1.cnt
 have c2 := h2.cnt
 by_cases hn : ks.length = ls.length
 ·by_cases hz : ks.length = 0
  ·have hz2 : ls.length = 0 := by omega
   obtain rfl := List.length_eq_zero_iff.1 hz
   obtain rfl := List.length_eq_zero_iff.1 hz2
   simp -implicitDefEqProofs (disch := first | assumption | omega | (simp only [nxB]; omega) | (simp only [oneB])) only [s52_l1, s52_j0, s52_b1, s52, xlen, AV.cells, splice, aload, astore, Nat.reduceAdd, Nat.reduceLeDiff, reduceIte, allB, c1, c2, List.length_nil, z0, bne_self_eq_false, Int.lt_irrefl, decide_false]
   exact W_some.2 ⟨by rw [sameMs], .refl _⟩
  ·obtain ⟨l1, i1, k1, r1, el1, rfl, o1, g1, w1⟩ := h1.row hz
   obtain ⟨l2, i2, k2, r2, el2, rfl, o2, g2, w2⟩ := h2.row (by omega)
   rw [← hn]
   simp -implicitDefEqProofs (disch := first | assumption | omega | (simp only [nxB]; omega) | (simp only [oneB])) only [s52_j0, s52, xlen, xlen, evB, tabB, binB, neqS ks.length]
   exact loop52 ks ls 0 ks.length (ks.length + 1) H hs hsm.2 w1 w2 hn (by omega) (by omega) g1 g2 (by omega)
 ·have hn' := neqI _ _ hn
  simp -implicitDefEqProofs (disch := first | assumption | omega | (simp only [nxB]; omega) | (simp only [oneB])) only [s52_j0, s52_b1, s52, xlen, xlen, evB, binB, c1, c2, hn']
  exact W_some.2 ⟨by rw [sameMs_length _ _ hn], .refl _⟩
theorem specM31 {B : Nat} (hB : B ≤ 1000000000000) : ∀ (e : Stm), SameMOk 31 B e
 | .mk a es b c => by
  intro hsm f v w H ok ok' h1 h2
  cases f with | mk a' es' b' c' =>
  rw [StV_mk] at h1 h2
  obtain ⟨ev, bv, cv, rfl, e1, e2, e3⟩ := h1
  obtain ⟨ev', bv', cv', rfl, f1, f2, f3⟩ := h2
  rw [SmM] at hsm
  have hs1 : ∀ e ∈ b, SameMOk 31 B e := fun e he => specM31 hB e
  have hs2 : ∀ e ∈ c, SameMOk 31 B e := fun e he => specM31 hB e
  exact sameM31 e1.oneAV f1.oneAV e2.oneAV f2.oneAV e3.oneAV f3.oneAV (fun H' p => list42 hB (fun e _ => spec22 hB e) hsm.1 (e1.pur p) (f1.pur p))
   (fun H' p => list52 hB hs1 hsm.2.1 (e2.pur p) (f2.pur p)) (fun H' p => list52 hB hs2 hsm.2.2 (e3.pur p) (f3.pur p))
 termination_by e => SizeOf.sizeOf e
 decreasing_by
  ·exact Stm.sizeOf_body he
  ·exact Stm.sizeOf_els he
end Go.Proofs.Ytnjoomfeddamcaa

namespace Go.Proofs.Ytnjoomfeddamcaa
open Go.Ev
set_option maxRecDepth 100000
noncomputable section
def s30 (G : CallT) (x0 x1 : AV) (H : AHeap) : O :=
 xmake H (boxOf (H).next x0) fun x2 h1 =>
 xmake h1 (boxOf (h1).next x1) fun x3 h2 =>
 xb (afieldAddr P 54 x2 0) fun x5 =>
 xb (aload P h2 3 x5) fun x6 =>
 xb (afieldAddr P 54 x3 0) fun x7 =>
 xb (aload P h2 3 x7) fun x8 =>
 xb (fbin P .eql 3 false x6 x8) fun x9 =>
 xg x9 true h2 (qp (afieldAddr P 54 x2 1)) fun x11 h3 =>
 xg x9 true h3 (qr (aload P h3 9 x11)) fun x12 h4 =>
 xg x9 true h4 (qp (afieldAddr P 54 x3 1)) fun x13 h5 =>
 xg x9 true h5 (qr (aload P h5 9 x13)) fun x14 h6 =>
 xg x9 true h6 (qp (fbin P .eql 9 false x12 x14)) fun x15 h7 =>
 xb (pickOf x9 (some x15) (some (.bool false))) fun x16 =>
 xg x16 true h7 (qp (afieldAddr P 54 x2 2)) fun x18 h8 =>
 xg x16 true h8 (qr (aload P h8 32 x18)) fun x19 h9 =>
 xg x16 true h9 (qp (afieldAddr P 54 x3 2)) fun x20 h10 =>
 xg x16 true h10 (qr (aload P h10 32 x20)) fun x21 h11 =>
 xg x16 true h11 (qp (fbin P .eql 32 false x19 x21)) fun x22 h12 =>
 xb (pickOf x16 (some x22) (some (.bool false))) fun x23 =>
 xg x23 true h12 (qp (afieldAddr P 54 x2 7)) fun x25 h13 =>
 xg x23 true h13 (qr (aload P h13 3 x25)) fun x26 h14 =>
 xg x23 true h14 (qp (afieldAddr P 54 x3 7)) fun x27 h15 =>
 xg x23 true h15 (qr (aload P h15 3 x27)) fun x28 h16 =>
 xg x23 true h16 (qp (fbin P .eql 3 false x26 x28)) fun x29 h17 =>
 xb (pickOf x23 (some x29) (some (.bool false))) fun x30 =>
 xg x30 true h17 (qp (afieldAddr P 54 x2 3)) fun x32 h18 =>
 xg x30 true h18 (qr (aload P h18 35 x32)) fun x33 h19 =>
 xg x30 true h19 (qp (afieldAddr P 54 x3 3)) fun x34 h20 =>
 xg x30 true h20 (qr (aload P h20 35 x34)) fun x35 h21 =>
 xg x30 true h21 (fun q => xeff h21 (G 43 [x33, x35, (.func (.func 24) [] [])] h21) q) fun x36 h22 =>
 xb (pickOf x30 (some x36) (some (.bool false))) fun x37 =>
 xg x37 true h22 (qp (afieldAddr P 54 x2 4)) fun x39 h23 =>
 xg x37 true h23 (qr (aload P h23 50 x39)) fun x40 h24 =>
 xg x37 true h24 (qp (afieldAddr P 54 x3 4)) fun x41 h25 =>
 xg x37 true h25 (qr (aload P h25 50 x41)) fun x42 h26 =>
 xg x37 true h26 (fun q => xeff h26 (G 51 [x40, x42, (.func (.func 30) [] [])] h26) q) fun x43 h27 =>
 xb (pickOf x37 (some x43) (some (.bool false))) fun x44 =>
 xg x44 true h27 (qp (afieldAddr P 54 x2 5)) fun x46 h28 =>
 xg x44 true h28 (qr (aload P h28 50 x46)) fun x47 h29 =>
 xg x44 true h29 (qp (afieldAddr P 54 x3 5)) fun x48 h30 =>
 xg x44 true h30 (qr (aload P h30 50 x48)) fun x49 h31 =>
 xg x44 true h31 (fun q => xeff h31 (G 51 [x47, x49, (.func (.func 30) [] [])] h31) q) fun x50 h32 =>
 xb (pickOf x44 (some x50) (some (.bool false))) fun x51 =>
 some (x51, h32)
theorem s30_eq (G : CallT) (N : Nat) (x0 : AV) (x1 : AV) (H : AHeap) : cF Try.f30 G N (argsF [x0, x1]) H = s30 G x0 x1 H := by
 refine via_top (A := cF Try.f30 G N) (via_leaf _) ?_
 delta s30
 kernel_rfl
theorem run30 (N : Nat) {x0 x1 : AV} {H : AHeap} {r : AV × AHeap} (h : s30 (evw P) x0 x1 H = some r) : evw P 30 [x0, x1] H = some r :=
 runF Try.func30 (by kernel_rfl) (by kernel_rfl) (by kernel_rfl) ((s30_eq (evw P) N x0 x1 H).trans h)
def s51_j0 (G : CallT) (N : Nat) (H : AHeap) : O :=
 some ((.bool true), H)
theorem s51_j0_eq (G : CallT) (N : Nat) : ∀ R H, codeC P G N (Code.snd (Code.snd (Code.snd (bodyOf Try.f51)))) (rC Try.f51) [] (rC Try.f51) R H = s51_j0 G N H := by
 refine via_trans (via_leaf _) fun R H => ?_
 delta s51_j0
 kernel_rfl
def s51_b1 (G : CallT) (N : Nat) (L1 : AV → AV → AV → AV → AV → AHeap → O) (x1 x2 : AV) (x15 x16 x17 : AV) (H : AHeap) : O :=
 xb (fbin P .lss 3 false x17 x16) fun x18 =>
 xif (some x18) (xb (aindexAddr P 50 x15 x17) fun x20 =>
 xb (aload P H 54 x20) fun x21 =>
 xalloc H [(.int .i64 0), (.str []), (.str []), (.int .i64 0), AV.nilSl, AV.nilSl, AV.nilSl, (.int .i64 0), (.int .i64 0)] fun x8 h1 =>
 xstore h1 (astore P h1 54 x8 x21) fun h2 =>
 xb (aindexAddr P 50 x1 x17) fun x24 =>
 xb (aload P h2 54 x24) fun x25 =>
 xalloc h2 [(.int .i64 0), (.str []), (.str []), (.int .i64 0), AV.nilSl, AV.nilSl, AV.nilSl, (.int .i64 0), (.int .i64 0)] fun x9 h3 =>
 xstore h3 (astore P h3 54 x9 x25) fun h4 =>
 xb (aload P h4 54 x8) fun x27 =>
 xb (aload P h4 54 x9) fun x28 =>
 xapply G h4 x2 [x27, x28] fun x29 h5 =>
 xb (aun .not x29) fun x30 =>
 xif (some x30) (some ((.bool false), h5)) (xb (fbin P .add 3 true x17 (.int .i64 1)) fun x31 =>
 L1 x1 x2 x15 x16 x31 h5)) (s51_j0 G N H)
def s51_l1 (G : CallT) (N : Nat) : Nat → AV → AV → AV → AV → AV → AHeap → O
 | 0, _, _, _, _, _, _ => none
 | n + 1, x1, x2, x15, x16, x17, H => s51_b1 G N (s51_l1 G N n) x1 x2 x15 x16 x17 H
theorem s51_b1_eq (G : CallT) (N : Nat) (L1 : AV → AV → AV → AV → AV → AHeap → O) : ∀ R H, codeC P G N (Code.fst (Code.fst (Code.snd (Code.fst (Code.snd (Code.snd (bodyOf Try.f51))))))) (fun R H => L1 (R 1) (R 2) (R 15) (R 16) (R 17) H) [(0, (fun R H => s51_j0 G N H))] (rC Try.f51) R H = s51_b1 G N L1 (R 1) (R 2) (R 15) (R 16) (R 17) H := by
 refine via_trans (via_leaf _) fun R H => ?_
 delta s51_b1
 generalize s51_j0 G N = J0
 revert J0
 refine id ?_
 intro J0
 kernel_rfl
def s51 (G : CallT) (N : Nat) (x0 x1 x2 : AV) (H : AHeap) : O :=
 xlen P .len [50] [x0] H fun x11 =>
 xlen P .len [50] [x1] H fun x13 =>
 xb (fbin P .neq 3 false x11 x13) fun x14 =>
 xif (some x14) (some ((.bool false), H)) (xlen P .len [50] [x0] H fun x16 =>
 s51_l1 G N N x1 x2 x0 x16 (.int .i64 0) H)
theorem s51_eq (G : CallT) (N : Nat) (x0 : AV) (x1 : AV) (x2 : AV) (H : AHeap) : cF Try.f51 G N (argsF [x0, x1, x2]) H = s51 G N x0 x1 x2 H := by
 refine via_top (A := cF Try.f51 G N) ((via_seq (by kernel_rfl) ((via_seq (by kernel_rfl) ((via_seq (by kernel_rfl) (s51_j0_eq G N) ((via_seq (by kernel_rfl) ((via_block (by kernel_rfl) ((via_loop (k := fun m R H => s51_l1 G N m (R 1) (R 2) (R 15) (R 16) (R 17) H) (by kernel_rfl) (fun R H => by kernel_rfl) (fun m => s51_b1_eq G N (s51_l1 G N m)))))) (via_leaf _))))) (via_leaf _))) (via_leaf _))) ?_
 delta s51
 generalize s51_l1 G N N = J0
 revert J0
 refine id ?_
 intro J0
 kernel_rfl
theorem run51 (N : Nat) {x0 x1 x2 : AV} {H : AHeap} {r : AV × AHeap} (h : s51 (evw P) N x0 x1 x2 H = some r) : evw P 51 [x0, x1, x2] H = some r :=
 runF Try.func51 (by kernel_rfl) (by kernel_rfl) (by kernel_rfl) ((s51_eq (evw P) N x0 x1 x2 H).trans h)
end
end Go.Proofs.Ytnjoomfeddamcaa
namespace Go.Proofs.Ytnjoomfeddamcaa
open Go.Ev
theorem sameM30 {H : AHeap} {a a' : Sa} {es es' : List Ex} {b b' c c' : List Stm} {ev ev' bv bv' cv cv' : AV} (h1 : ev.one = true) (h1' : ev'.one = true) (h2 : bv.one = true) (h2' : bv'.one = true) (h3 : cv.one = true) (h3' : cv'.one = true)
  (he : ∀ H', Pur H H' → W (evw P 43 [ev, ev', .func (.func 24) [] []] H') fun r H'' => r = .bool (sameL es es') ∧ Pur H' H'')
  (hb : ∀ H', Pur H H' → W (evw P 51 [bv, bv', .func (.func 30) [] []] H') fun r H'' => r = .bool (sameMs b b') ∧ Pur H' H'')
  (hc : ∀ H', Pur H H' → W (evw P 51 [cv, cv', .func (.func 30) [] []] H') fun r H'' => r = .bool (sameMs c c') ∧ Pur H' H'') :
  W (evw P 30 [.agg (a.cells ev bv cv), .agg (a'.cells ev' bv' cv')] H) fun r H' => r = .bool (sameM (.mk a es b c) (.mk a' es' b' c')) ∧ Pur H H' := by
 refine W_of (fun _ => run30 0) ?_
 have hb1 : ∀ l, boxOf l (.agg (a.cells ev bv cv)) = some (.ptr l 0 0, .row false 9 [a.cells ev bv cv]) := fun l => boxOf_agg l _ (by simp only [Sa.cells, List.all_cons, List.all_nil, one_int, one_str, h1, h2, h3, Bool.and_self])
 have hb2 : ∀ l, boxOf l (.agg (a'.cells ev' bv' cv')) = some (.ptr l 0 0, .row false 9 [a'.cells ev' bv' cv']) := fun l => boxOf_agg l _ (by simp only [Sa.cells, List.all_cons, List.all_nil, one_int, one_str, h1', h2', h3', Bool.and_self])
 have p2 := (Pur.push H (.row false 9 [a.cells ev bv cv])).then_push (.row false 9 [a'.cells ev' bv' cv'])
 have g1 : ((H.push (.row false 9 [a.cells ev bv cv])).push (.row false 9 [a'.cells ev' bv' cv'])).get H.next = some (.row false 9 [a.cells ev bv cv]) := by simp -implicitDefEqProofs (disch := first | assumption | omega | (simp only [nxB]; omega) | (simp only [oneB])) only [heapB]
 have g2 : ((H.push (.row false 9 [a.cells ev bv cv])).push (.row false 9 [a'.cells ev' bv' cv'])).get (H.next + 1) = some (.row false 9 [a'.cells ev' bv' cv']) := by simp -implicitDefEqProofs (disch := first | assumption | omega | (simp only [nxB]; omega) | (simp only [oneB])) only [heapB]
 rw [sameM]
 simp only [Sa.cells] at hb1 hb2 p2 g1 g2 ⊢
 cases c0 : a.kind == a'.kind with
 | false =>
  simp -implicitDefEqProofs (disch := first | assumption | omega | (simp only [nxB]; omega) | (simp only [oneB])) only [s30, xlen, AV.cells, splice, aload, astore, Nat.reduceAdd, Nat.reduceLeDiff, reduceIte, allB, tyC, hb1, hb2, eq32, c0]
  exact W_some.2 ⟨by simp only [Bool.false_and, Bool.and_false], p2⟩
 | true =>
 cases c2 : a.name == a'.name with
 | false =>
  simp -implicitDefEqProofs (disch := first | assumption | omega | (simp only [nxB]; omega) | (simp only [oneB])) only [s30, xlen, AV.cells, splice, aload, astore, Nat.reduceAdd, Nat.reduceLeDiff, reduceIte, allB, tyC, hb1, hb2, eq32, c0, c2]
  exact W_some.2 ⟨by simp only [Bool.false_and, Bool.and_false], p2⟩
 | true =>
 cases c3 : (a.ofn == a'.ofn && a.ofd == a'.ofd) with
 | false =>
  simp -implicitDefEqProofs (disch := first | assumption | omega | (simp only [nxB]; omega) | (simp only [oneB])) only [s30, xlen, AV.cells, splice, aload, astore, Nat.reduceAdd, Nat.reduceLeDiff, reduceIte, allB, tyC, hb1, hb2, eq32, c0, c2, c3]
  exact W_some.2 ⟨by simp only [Bool.false_and, Bool.and_false], p2⟩
 | true =>
 cases c5 : a.ref == a'.ref with
 | false =>
  simp -implicitDefEqProofs (disch := first | assumption | omega | (simp only [nxB]; omega) | (simp only [oneB])) only [s30, xlen, AV.cells, splice, aload, astore, Nat.reduceAdd, Nat.reduceLeDiff, reduceIte, allB, tyC, hb1, hb2, eq32, c0, c2, c3, c5]
  exact W_some.2 ⟨by simp only [Bool.false_and, Bool.and_false], p2⟩
 | true =>
 simp -implicitDefEqProofs (disch := first | assumption | omega | (simp only [nxB]; omega) | (simp only [oneB])) only [s30, xlen, AV.cells, splice, aload, astore, Nat.reduceAdd, Nat.reduceLeDiff, reduceIte, allB, tyC, hb1, hb2, eq32, c0, c2, c3, c5]
 refine W_eff (he _ p2) ?_
 rintro _ H3 ⟨rfl, p3⟩
 refine ⟨p3.1, ?_⟩
 have g31 := p3.get g1
 have g32 := p3.get g2
 cases d1 : sameL es es' with
 | false =>
  simp -implicitDefEqProofs (disch := first | assumption | omega | (simp only [nxB]; omega) | (simp only [oneB])) only [xlen, AV.cells, splice, aload, astore, Nat.reduceAdd, Nat.reduceLeDiff, reduceIte, allB]
  exact W_some.2 ⟨by simp only [Bool.false_and, Bool.and_false], p2.trans p3⟩
 | true =>
 simp -implicitDefEqProofs (disch := first | assumption | omega | (simp only [nxB]; omega) | (simp only [oneB])) only [xlen, AV.cells, splice, aload, astore, Nat.reduceAdd, Nat.reduceLeDiff, reduceIte, allB, tyC, g31, g32]
 refine W_eff (hb _ (p2.trans p3)) ?_
 rintro _ H4 ⟨rfl, p4⟩
 refine ⟨p4.1, ?_⟩
 have g41 := p4.get g31
 have g42 := p4.get g32
 cases d2 : sameMs b b' with
 | false =>
  simp -implicitDefEqProofs (disch := first | assumption | omega | (simp only [nxB]; omega) | (simp only [oneB])) only [xlen, AV.cells, splice, aload, astore, Nat.reduceAdd, Nat.reduceLeDiff, reduceIte, allB]
  exact W_some.2 ⟨by simp only [Bool.false_and, Bool.and_false], (p2.trans p3).trans p4⟩
 | true =>
 simp -implicitDefEqProofs (disch := first | assumption | omega | (simp only [nxB]; omega) | (simp only [oneB])) only [xlen, AV.cells, splice, aload, astore, Nat.reduceAdd, Nat.reduceLeDiff, reduceIte, allB, tyC, g41, g42]
 refine W_eff (hc _ ((p2.trans p3).trans p4)) ?_
 rintro _ H5 ⟨rfl, p5⟩
 refine ⟨p5.1, ?_⟩
 simp -implicitDefEqProofs (disch := first | assumption | omega | (simp only [nxB]; omega) | (simp only [oneB])) only [xlen, AV.cells, splice, aload, astore, Nat.reduceAdd, Nat.reduceLeDiff, reduceIte, allB]
 exact W_some.2 ⟨by simp only [Bool.true_and], ((p2.trans p3).trans p4).trans p5⟩
theorem loop51 {N B : Nat} {kl ki ll li : Nat} {kc lc : Option Nat} {kro lro : Bool} {kels lels : List (List AV)} {ok ok' : Nat → Prop} : ∀ (es fs : List Stm) (j kn n : Nat) (H : AHeap), (∀ e ∈ es, SameMOk 30 B e) → SmMs B es → SlsV H ok es (kels.drop (ki + j)) → SlsV H ok' fs (lels.drop (li + j)) → es.length = fs.length → kn = j + es.length → kn ≤ 1000000000000 → H.get kl = some (.row kro 9 kels) → H.get ll = some (.row lro 9 lels) → es.length < n →
  W (s51_l1 (evw P) N n (.sl ll li kn 9 lc) (.func (.func 30) [] []) (.sl kl ki kn 9 kc) (.int .i64 kn) (.int .i64 j) H) fun r H' => r = .bool (sameMs es fs) ∧ Pur H H'
 | _, _, _, _, 0, _, _, _, _, _, _, _, _, _, _, hn => by omega
 | [], [], j, kn, n + 1, H, hs, hsm, h1, h2, h3, h4, h5, h6, h7, hn => by
  have hj : ¬ ((j : Int) < (kn : Int)) := by simp at h4; omega
  simp -implicitDefEqProofs (disch := first | assumption | omega | (simp only [nxB]; omega) | (simp only [oneB])) only [s51_l1, s51_j0, s51_b1, s51, xlen, AV.cells, splice, aload, astore, Nat.reduceAdd, Nat.reduceLeDiff, reduceIte, allB, hj, decide_false]
  exact W_some.2 ⟨by rw [sameMs], .refl _⟩
 | [], _ :: _, j, kn, n + 1, H, hs, hsm, h1, h2, h3, h4, h5, h6, h7, hn => by simp at h3
 | _ :: _, [], j, kn, n + 1, H, hs, hsm, h1, h2, h3, h4, h5, h6, h7, hn => by simp at h3
 | e :: es, f :: fs, j, kn, n + 1, H, hs, hsm, h1, h2, h3, h4, h5, h6, h7, hn => by
  simp only [List.length_cons] at h3 h4 hn
  have hj : (j : Int) < (kn : Int) := by omega
  have h0 : (0 : Int) ≤ (j : Int) := by omega
  have ht : ((j : Int)).toNat = j := by omega
  obtain ⟨cs, g1, g2, g3⟩ := h1.cons
  obtain ⟨ds, g4, g5, g6⟩ := h2.cons
  obtain ⟨_, q1, q2, q3⟩ := g2.cells
  cases q1
  obtain ⟨_, q4, q5, q6⟩ := g5.cells
  cases q4
  have tk1 : List.take 9 cs = cs := List.take_of_length_le (by omega)
  have tk2 : List.take 9 ds = ds := List.take_of_length_le (by omega)
  have l1 := AHeap.get_lt h6
  have l2 := AHeap.get_lt h7
  rw [SmMs] at hsm
  have hw : IntKind.i64.wrap ((j : Int) + 1) = ((j + 1 : Nat) : Int) := by rw [wrap_i64 (by omega) (by omega)]; omega
  have pa := (Pur.push H (.row false 9 [cs])).then_push (.row false 9 [ds])
  simp -implicitDefEqProofs (disch := first | assumption | omega | (simp only [nxB]; omega) | (simp only [oneB])) only [s51_l1, s51_j0, s51_b1, s51, xlen, AV.cells, splice, aload, astore, Nat.reduceAdd, Nat.reduceLeDiff, reduceIte, allB, tyC, hj, decide_true, ht, h6, h7, g1, g4, tk1, tk2, q2, q3, q5, q6, List.append_nil, xapply_fn, List.nil_append]
  refine W_call (hs e (by simp) hsm.1 f _ _ _ ok ok' (g2.pur pa) (g5.pur pa)) ?_
  rintro _ H2 ⟨rfl, p2⟩
  refine ⟨p2.1, ?_⟩
  cases hc : sameM e f with
  | false =>
   simp -implicitDefEqProofs (disch := first | assumption | omega | (simp only [nxB]; omega) | (simp only [oneB])) only [xlen, evB, Bool.not_false]
   exact W_some.2 ⟨by rw [sameMs, hc, Bool.false_and], pa.trans p2⟩
  | true =>
   simp -implicitDefEqProofs (disch := first | assumption | omega | (simp only [nxB]; omega) | (simp only [oneB])) only [xlen, evB, binB, Bool.not_true, hw]
   refine (loop51 es fs (j + 1) kn n H2 (fun e' he' => hs e' (by simp [he'])) hsm.2 (SlsV.keep (KeepS.pur (pa.trans p2) fun _ h => h) _ _ g3) (SlsV.keep (KeepS.pur (pa.trans p2) fun _ h => h) _ _ g6) (by omega) (by omega) h5 ((pa.trans p2).get h6) ((pa.trans p2).get h7) (by omega)).mono ?_
   rintro v H' ⟨rfl, q⟩
   exact ⟨by rw [sameMs, hc, Bool.true_and], (pa.trans p2).trans q⟩
theorem list51 {B : Nat} (hB : B ≤ 1000000000000) {H : AHeap} {ok ok' : Nat → Prop} {ks ls : List Stm} {bv bv' : AV} (hs : ∀ e ∈ ks, SameMOk 30 B e) (hsm : ks.length ≤ B ∧ SmMs B ks) (h1 : SsV H ok ks bv) (h2 : SsV H ok' ls bv') : W (evw P 51 [bv, bv', .func (.func 30) [] []] H) fun r H' => r = .bool (sameMs ks ls) ∧ Pur H H' := by
 refine W_of (fun _ => run51 (ks.length + 1)) ?_
 have z0 : ((0 : Nat) : Int) = 0 := rfl
 have c1 := h1.cnt
 have c2 := h2.cnt
 by_cases hn : ks.length = ls.length
 ·by_cases hz : ks.length = 0
  ·have hz2 : ls.length = 0 := by omega
   obtain rfl := List.length_eq_zero_iff.1 hz
   obtain rfl := List.length_eq_zero_iff.1 hz2
   simp -implicitDefEqProofs (disch := first | assumption | omega | (simp only [nxB]; omega) | (simp only [oneB])) only [s51_l1, s51_j0, s51_b1, s51, xlen, AV.cells, splice, aload, astore, Nat.reduceAdd, Nat.reduceLeDiff, reduceIte, allB, c1, c2, List.length_nil, z0, bne_self_eq_false, Int.lt_irrefl, decide_false]
   exact W_some.2 ⟨by rw [sameMs], .refl _⟩
  ·obtain ⟨l1, i1, k1, r1, el1, rfl, o1, g1, w1⟩ := h1.row hz
   obtain ⟨l2, i2, k2, r2, el2, rfl, o2, g2, w2⟩ := h2.row (by omega)
   rw [← hn]
   simp -implicitDefEqProofs (disch := first | assumption | omega | (simp only [nxB]; omega) | (simp only [oneB])) only [s51_j0, s51, xlen, xlen, evB, tabB, binB, neqS ks.length]
   exact loop51 ks ls 0 ks.length (ks.length + 1) H hs hsm.2 w1 w2 hn (by omega) (by omega) g1 g2 (by omega)
 ·have hn' := neqI _ _ hn
  simp -implicitDefEqProofs (disch := first | assumption | omega | (simp only [nxB]; omega) | (simp only [oneB])) only [s51_j0, s51_b1, s51, xlen, xlen, evB, binB, c1, c2, hn']
  exact W_some.2 ⟨by rw [sameMs_length _ _ hn], .refl _⟩
theorem specM30 {B : Nat} (hB : B ≤ 1000000000000) : ∀ (e : Stm), SameMOk 30 B e
 | .mk a es b c => by
  intro hsm f v w H ok ok' h1 h2
  cases f with | mk a' es' b' c' =>
  rw [StV_mk] at h1 h2
  obtain ⟨ev, bv, cv, rfl, e1, e2, e3⟩ := h1
  obtain ⟨ev', bv', cv', rfl, f1, f2, f3⟩ := h2
  rw [SmM] at hsm
  have hs1 : ∀ e ∈ b, SameMOk 30 B e := fun e he => specM30 hB e
  have hs2 : ∀ e ∈ c, SameMOk 30 B e := fun e he => specM30 hB e
  exact sameM30 e1.oneAV f1.oneAV e2.oneAV f2.oneAV e3.oneAV f3.oneAV (fun H' p => list43 hB (fun e _ => spec24 hB e) hsm.1 (e1.pur p) (f1.pur p))
   (fun H' p => list51 hB hs1 hsm.2.1 (e2.pur p) (f2.pur p)) (fun H' p => list51 hB hs2 hsm.2.2 (e3.pur p) (f3.pur p))
 termination_by e => SizeOf.sizeOf e
 decreasing_by
  ·exact Stm.sizeOf_body he
  ·exact Stm.sizeOf_els he
end Go.Proofs.Ytnjoomfeddamcaa


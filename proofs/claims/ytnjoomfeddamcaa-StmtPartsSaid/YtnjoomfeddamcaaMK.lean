/-
  Texts of one proof, laid together: E1 E2 Z12 Zb T2 T3 T4 T5 Pp Ms.
-/
import Derived.Test.YtnjoomfeddamcaaMH
import Derived.Test.YtnjoomfeddamcaaMJ
import Derived.Test.YtnjoomfeddamcaaMG
set_option linter.unusedVariables false
set_option linter.unusedSimpArgs false
namespace Go.Proofs.Ytnjoomfeddamcaa
open Go.Ev
theorem map_and2 (x y : Bool) : Option.map AV.bool (bif x then (bif y then some true else some false) else some false) = some (.bool (x && y)) := by cases x <;> cases y <;> rfl
theorem map_and3 (x y z : Bool) : Option.map AV.bool (bif x then (bif y then (bif z then some true else some false) else some false) else some false) = some (.bool (x && (y && z))) := by cases x <;> cases y <;> cases z <;> rfl
theorem eq32 {c : Bool} (a a' : List UInt8) (b b' : Int) : fbin P .eql 32 c (.agg [.str a, .int .i64 b]) (.agg [.str a', .int .i64 b']) = some (.bool (a == a' && b == b')) :=
 Eq.trans (by kernel_rfl) (map_and2 (a == a') (b == b'))
theorem eq25 {c : Bool} (a a' : Int) (b b' : Int) : fbin P .eql 25 c (.agg [.int .i64 a, .int .i64 b]) (.agg [.int .i64 a', .int .i64 b']) = some (.bool (a == a' && b == b')) :=
 Eq.trans (by kernel_rfl) (map_and2 (a == a') (b == b'))
theorem eq37 {c : Bool} (a a' : Int) (b b' : Int) (d d' : Int) : fbin P .eql 37 c (.agg [.int .i64 a, .int .i64 b, .int .i64 d]) (.agg [.int .i64 a', .int .i64 b', .int .i64 d']) = some (.bool (a == a' && (b == b' && d == d'))) :=
 Eq.trans (by kernel_rfl) (map_and3 (a == a') (b == b') (d == d'))
theorem rdIs3 (a b c : Int) : rdIs (some (.agg [.int .i64 a, .int .i64 b, .int .i64 c])) (.agg [.int .i64 a, .int .i64 b, .int .i64 c]) = true := by simp [rdIs, AV.beq, AVs.beq]
mutual
def sameE : Ex → Ex → Bool
 | .mk a ks, .mk b ls => a.kind == b.kind && (a.n == b.n && (a.name == b.name && ((a.ofn == b.ofn && a.ofd == b.ofd) && ((a.tb == b.tb && (a.tr == b.tr && a.td == b.td)) && (a.ref == b.ref && sameL ks ls)))))
def sameL : List Ex → List Ex → Bool
 | [], [] => true
 | [], _ :: _ => false
 | _ :: _, [] => false
 | e :: es, f :: fs => sameE e f && sameL es fs
end
mutual
def Sm (B : Nat) : Ex → Prop
 | .mk _ ks => ks.length ≤ B ∧ SmL B ks
def SmL (B : Nat) : List Ex → Prop
 | [] => True
 | e :: es => Sm B e ∧ SmL B es
end
theorem sameL_length : ∀ (es fs : List Ex), es.length ≠ fs.length → sameL es fs = false
 | [], [], h => absurd rfl h
 | [], _ :: _, _ => by rw [sameL]
 | _ :: _, [], _ => by rw [sameL]
 | e :: es, f :: fs, h => by rw [sameL, sameL_length es fs (by simpa using h), Bool.and_false]
theorem KsV.oneAV {H : AHeap} {ok : Nat → Prop} {ks : List Ex} {kv : AV} (h : KsV H ok ks kv) : kv.one = true := by
 rcases h with ⟨rfl, _⟩ | ⟨l, i, cap, ro, els, rfl, _⟩ | ⟨l, i, cap, rfl, _⟩ <;> rfl
theorem KsV.pur {H H' : AHeap} {ok : Nat → Prop} {ks : List Ex} {kv : AV} (h : KsV H ok ks kv) (p : Pur H H') : KsV H' ok ks kv := h.keep (Keep.pur p fun _ h => h)
theorem ExV.pur {H H' : AHeap} {ok : Nat → Prop} {e : Ex} {v : AV} (h : ExV H ok e v) (p : Pur H H') : ExV H' ok e v := ExV.keep (Keep.pur p fun _ h => h) e v h
theorem ElsV.cons {H : AHeap} {ok : Nat → Prop} {e : Ex} {es : List Ex} {els : List (List AV)} {k : Nat} (h : ElsV H ok (e :: es) (els.drop k)) : ∃ cs, els[k]? = some cs ∧ ExV H ok e (.agg cs) ∧ ElsV H ok es (els.drop (k + 1)) := by
 cases hd : els.drop k with
 | nil => rw [hd, ElsV] at h; exact h.elim
 | cons cs css =>
  rw [hd, ElsV] at h
  have h1 : els[k]? = some cs := by
   have := List.getElem?_drop (xs := els) (i := k) (j := 0)
   rw [hd] at this
   simpa using this.symm
  have h2 : els.drop (k + 1) = css := by
   have : (els.drop k).drop 1 = css := by rw [hd]; rfl
   rwa [List.drop_drop] at this
  exact ⟨cs, h1, h.1, by rw [h2]; exact h.2⟩
theorem same22 {H : AHeap} {a b : Ea} {ks ls : List Ex} {kv lv : AV} (h1 : kv.one = true) (h2 : lv.one = true)
  (hl : ∀ H', Pur H H' → W (evw P 42 [kv, lv] H') fun r H'' => r = .bool (sameL ks ls) ∧ Pur H' H'') :
  W (evw P 22 [.agg (a.cells kv), .agg (b.cells lv)] H) fun r H' => r = .bool (sameE (.mk a ks) (.mk b ls)) ∧ Pur H H' := by
 refine W_of (fun _ => run22 0) ?_
 have hb1 : ∀ l, boxOf l (.agg (a.cells kv)) = some (.ptr l 0 0, .row false 11 [a.cells kv]) := fun l => boxOf_agg l _ (by simp only [Ea.cells, List.all_cons, List.all_nil, one_int, one_str, h1, Bool.and_self])
 have hb2 : ∀ l, boxOf l (.agg (b.cells lv)) = some (.ptr l 0 0, .row false 11 [b.cells lv]) := fun l => boxOf_agg l _ (by simp only [Ea.cells, List.all_cons, List.all_nil, one_int, one_str, h2, Bool.and_self])
 have p2 := (Pur.push H (.row false 11 [a.cells kv])).then_push (.row false 11 [b.cells lv])
 rw [sameE]
 simp only [Ea.cells] at hb1 hb2 p2 ⊢
 cases c0 : a.kind == b.kind with
 | false =>
  simp -implicitDefEqProofs (disch := first | assumption | omega | (simp only [nxB]; omega) | (simp only [oneB])) only [s22, xlen, AV.cells, splice, aload, astore, Nat.reduceAdd, Nat.reduceLeDiff, reduceIte, allB, hb1, hb2, eq32, eq37, rdIs3, c0]
  exact W_some.2 ⟨by simp only [Bool.false_and, Bool.and_false], p2⟩
 | true =>
  cases c1 : a.n == b.n with
  | false =>
   simp -implicitDefEqProofs (disch := first | assumption | omega | (simp only [nxB]; omega) | (simp only [oneB])) only [s22, xlen, AV.cells, splice, aload, astore, Nat.reduceAdd, Nat.reduceLeDiff, reduceIte, allB, hb1, hb2, eq32, eq37, rdIs3, c0, c1]
   exact W_some.2 ⟨by simp only [Bool.false_and, Bool.and_false], p2⟩
  | true =>
   cases c2 : a.name == b.name with
   | false =>
    simp -implicitDefEqProofs (disch := first | assumption | omega | (simp only [nxB]; omega) | (simp only [oneB])) only [s22, xlen, AV.cells, splice, aload, astore, Nat.reduceAdd, Nat.reduceLeDiff, reduceIte, allB, hb1, hb2, eq32, eq37, rdIs3, c0, c1, c2]
    exact W_some.2 ⟨by simp only [Bool.false_and, Bool.and_false], p2⟩
   | true =>
    cases c3 : (a.ofn == b.ofn && a.ofd == b.ofd) with
    | false =>
     simp -implicitDefEqProofs (disch := first | assumption | omega | (simp only [nxB]; omega) | (simp only [oneB])) only [s22, xlen, AV.cells, splice, aload, astore, Nat.reduceAdd, Nat.reduceLeDiff, reduceIte, allB, hb1, hb2, eq32, eq37, rdIs3, c0, c1, c2, c3]
     exact W_some.2 ⟨by simp only [Bool.false_and, Bool.and_false], p2⟩
    | true =>
     cases c4 : (a.tb == b.tb && (a.tr == b.tr && a.td == b.td)) with
     | false =>
      simp -implicitDefEqProofs (disch := first | assumption | omega | (simp only [nxB]; omega) | (simp only [oneB])) only [s22, xlen, AV.cells, splice, aload, astore, Nat.reduceAdd, Nat.reduceLeDiff, reduceIte, allB, hb1, hb2, eq32, eq37, rdIs3, c0, c1, c2, c3, c4]
      exact W_some.2 ⟨by simp only [Bool.false_and, Bool.and_false], p2⟩
     | true =>
      cases c5 : a.ref == b.ref with
      | false =>
       simp -implicitDefEqProofs (disch := first | assumption | omega | (simp only [nxB]; omega) | (simp only [oneB])) only [s22, xlen, AV.cells, splice, aload, astore, Nat.reduceAdd, Nat.reduceLeDiff, reduceIte, allB, hb1, hb2, eq32, eq37, rdIs3, c0, c1, c2, c3, c4, c5]
       exact W_some.2 ⟨by simp only [Bool.false_and, Bool.and_false], p2⟩
      | true =>
       simp -implicitDefEqProofs (disch := first | assumption | omega | (simp only [nxB]; omega) | (simp only [oneB])) only [s22, xlen, AV.cells, splice, aload, astore, Nat.reduceAdd, Nat.reduceLeDiff, reduceIte, allB, hb1, hb2, eq32, eq37, rdIs3, c0, c1, c2, c3, c4, c5]
       refine W_eff (hl _ p2) ?_
       rintro _ H3 ⟨rfl, p3⟩
       refine ⟨p3.1, ?_⟩
       simp -implicitDefEqProofs (disch := first | assumption | omega | (simp only [nxB]; omega) | (simp only [oneB])) only [s22, xlen, evB]
       exact W_some.2 ⟨by simp only [Bool.true_and], p2.trans p3⟩
theorem same24 {H : AHeap} {a b : Ea} {ks ls : List Ex} {kv lv : AV} (h1 : kv.one = true) (h2 : lv.one = true)
  (hl : ∀ H', Pur H H' → W (evw P 43 [kv, lv, .func (.func 24) [] []] H') fun r H'' => r = .bool (sameL ks ls) ∧ Pur H' H'') :
  W (evw P 24 [.agg (a.cells kv), .agg (b.cells lv)] H) fun r H' => r = .bool (sameE (.mk a ks) (.mk b ls)) ∧ Pur H H' := by
 refine W_of (fun _ => run24 0) ?_
 have hb1 : ∀ l, boxOf l (.agg (a.cells kv)) = some (.ptr l 0 0, .row false 11 [a.cells kv]) := fun l => boxOf_agg l _ (by simp only [Ea.cells, List.all_cons, List.all_nil, one_int, one_str, h1, Bool.and_self])
 have hb2 : ∀ l, boxOf l (.agg (b.cells lv)) = some (.ptr l 0 0, .row false 11 [b.cells lv]) := fun l => boxOf_agg l _ (by simp only [Ea.cells, List.all_cons, List.all_nil, one_int, one_str, h2, Bool.and_self])
 have p2 := (Pur.push H (.row false 11 [a.cells kv])).then_push (.row false 11 [b.cells lv])
 rw [sameE]
 simp only [Ea.cells] at hb1 hb2 p2 ⊢
 cases c0 : a.kind == b.kind with
 | false =>
  simp -implicitDefEqProofs (disch := first | assumption | omega | (simp only [nxB]; omega) | (simp only [oneB])) only [s24, xlen, AV.cells, splice, aload, astore, Nat.reduceAdd, Nat.reduceLeDiff, reduceIte, allB, hb1, hb2, eq32, eq37, rdIs3, c0]
  exact W_some.2 ⟨by simp only [Bool.false_and, Bool.and_false], p2⟩
 | true =>
  cases c1 : a.n == b.n with
  | false =>
   simp -implicitDefEqProofs (disch := first | assumption | omega | (simp only [nxB]; omega) | (simp only [oneB])) only [s24, xlen, AV.cells, splice, aload, astore, Nat.reduceAdd, Nat.reduceLeDiff, reduceIte, allB, hb1, hb2, eq32, eq37, rdIs3, c0, c1]
   exact W_some.2 ⟨by simp only [Bool.false_and, Bool.and_false], p2⟩
  | true =>
   cases c2 : a.name == b.name with
   | false =>
    simp -implicitDefEqProofs (disch := first | assumption | omega | (simp only [nxB]; omega) | (simp only [oneB])) only [s24, xlen, AV.cells, splice, aload, astore, Nat.reduceAdd, Nat.reduceLeDiff, reduceIte, allB, hb1, hb2, eq32, eq37, rdIs3, c0, c1, c2]
    exact W_some.2 ⟨by simp only [Bool.false_and, Bool.and_false], p2⟩
   | true =>
    cases c3 : (a.ofn == b.ofn && a.ofd == b.ofd) with
    | false =>
     simp -implicitDefEqProofs (disch := first | assumption | omega | (simp only [nxB]; omega) | (simp only [oneB])) only [s24, xlen, AV.cells, splice, aload, astore, Nat.reduceAdd, Nat.reduceLeDiff, reduceIte, allB, hb1, hb2, eq32, eq37, rdIs3, c0, c1, c2, c3]
     exact W_some.2 ⟨by simp only [Bool.false_and, Bool.and_false], p2⟩
    | true =>
     cases c4 : (a.tb == b.tb && (a.tr == b.tr && a.td == b.td)) with
     | false =>
      simp -implicitDefEqProofs (disch := first | assumption | omega | (simp only [nxB]; omega) | (simp only [oneB])) only [s24, xlen, AV.cells, splice, aload, astore, Nat.reduceAdd, Nat.reduceLeDiff, reduceIte, allB, hb1, hb2, eq32, eq37, rdIs3, c0, c1, c2, c3, c4]
      exact W_some.2 ⟨by simp only [Bool.false_and, Bool.and_false], p2⟩
     | true =>
      cases c5 : a.ref == b.ref with
      | false =>
       simp -implicitDefEqProofs (disch := first | assumption | omega | (simp only [nxB]; omega) | (simp only [oneB])) only [s24, xlen, AV.cells, splice, aload, astore, Nat.reduceAdd, Nat.reduceLeDiff, reduceIte, allB, hb1, hb2, eq32, eq37, rdIs3, c0, c1, c2, c3, c4, c5]
       exact W_some.2 ⟨by simp only [Bool.false_and, Bool.and_false], p2⟩
      | true =>
       simp -implicitDefEqProofs (disch := first | assumption | omega | (simp only [nxB]; omega) | (simp only [oneB])) only [s24, xlen, AV.cells, splice, aload, astore, Nat.reduceAdd, Nat.reduceLeDiff, reduceIte, allB, hb1, hb2, eq32, eq37, rdIs3, c0, c1, c2, c3, c4, c5]
       refine W_eff (hl _ p2) ?_
       rintro _ H3 ⟨rfl, p3⟩
       refine ⟨p3.1, ?_⟩
       simp -implicitDefEqProofs (disch := first | assumption | omega | (simp only [nxB]; omega) | (simp only [oneB])) only [s24, xlen, evB]
       exact W_some.2 ⟨by simp only [Bool.true_and], p2.trans p3⟩
end Go.Proofs.Ytnjoomfeddamcaa

namespace Go.Proofs.Ytnjoomfeddamcaa
open Go.Ev
theorem KsV.cnt {H : AHeap} {ok : Nat → Prop} {ks : List Ex} {x : AV} (hx : KsV H ok ks x) (H' : AHeap) : abuiltin P H' .len [35] [x] = some (.int .i64 ks.length) := by
 rcases hx with ⟨rfl, e1⟩ | ⟨l1, i1, c1, r1, el1, rfl, _⟩ | ⟨l1, i1, c1, rfl, e1⟩
 ·rw [e1]; exact ln35n
 ·exact ln35
 ·rw [e1]; exact ln35
theorem KsV.row {H : AHeap} {ok : Nat → Prop} {ks : List Ex} {x : AV} (hx : KsV H ok ks x) (h : ¬ ks.length = 0) : ∃ l i cap ro els, x = .sl l i ks.length 11 cap ∧ ok l ∧ H.get l = some (.row ro 11 els) ∧ ElsV H ok ks (els.drop i) := by
 rcases hx with ⟨_, e1⟩ | h1 | ⟨_, _, _, _, e1⟩
 ·exact absurd e1 h
 ·exact h1
 ·exact absurd e1 h
def SameOk (F : Nat) (B : Nat) (e : Ex) : Prop := Sm B e → ∀ (f : Ex) (v w : AV) (H : AHeap) (ok ok' : Nat → Prop), ExV H ok e v → ExV H ok' f w → W (evw P F [v, w] H) fun r H' => r = .bool (sameE e f) ∧ Pur H H'
theorem SmL.mem {B : Nat} : ∀ {es : List Ex}, SmL B es → ∀ e ∈ es, Sm B e
 | [], _, e, he => by simp at he
 | x :: xs, h, e, he => by
  rw [SmL] at h
  rcases List.mem_cons.1 he with rfl | he
  ·exact h.1
  ·exact SmL.mem h.2 e he
theorem Ex.sizeOf_kid {a : Ea} {ks : List Ex} {e : Ex} (h : e ∈ ks) : SizeOf.sizeOf e < SizeOf.sizeOf (Ex.mk a ks) := by
 have := List.sizeOf_lt_of_mem h
 simp only [Ex.mk.sizeOf_spec]
 omega
theorem loop42 {N B : Nat} {kl ki ll li : Nat} {kc lc : Option Nat} {kro lro : Bool} {kels lels : List (List AV)} {ok ok' : Nat → Prop} : ∀ (es fs : List Ex) (j kn n : Nat) (H : AHeap), (∀ e ∈ es, SameOk 22 B e) → SmL B es → ElsV H ok es (kels.drop (ki + j)) → ElsV H ok' fs (lels.drop (li + j)) → es.length = fs.length → kn = j + es.length → kn ≤ 1000000000000 → H.get kl = some (.row kro 11 kels) → H.get ll = some (.row lro 11 lels) → es.length < n →
  W (s42_l1 (evw P) N n (.sl kl ki kn 11 kc) (.sl ll li kn 11 lc) (.int .i64 j) H) fun r H' => r = .bool (sameL es fs) ∧ Pur H H'
 | _, _, _, _, 0, _, _, _, _, _, _, _, _, _, _, hn => by omega
 | [], [], j, kn, n + 1, H, hs, hsm, h1, h2, h3, h4, h5, h6, h7, hn => by
  have hj : ¬ ((j : Int) < (kn : Int)) := by simp at h4; omega
  simp -implicitDefEqProofs (disch := first | assumption | omega | (simp only [nxB]; omega) | (simp only [oneB])) only [s42_l1, s42_j0, s42_b1, s42, xlen, AV.cells, splice, aload, astore, Nat.reduceAdd, Nat.reduceLeDiff, reduceIte, allB, hj, decide_false]
  exact W_some.2 ⟨by rw [sameL], .refl _⟩
 | [], _ :: _, j, kn, n + 1, H, hs, hsm, h1, h2, h3, h4, h5, h6, h7, hn => by simp at h3
 | _ :: _, [], j, kn, n + 1, H, hs, hsm, h1, h2, h3, h4, h5, h6, h7, hn => by simp at h3
 | e :: es, f :: fs, j, kn, n + 1, H, hs, hsm, h1, h2, h3, h4, h5, h6, h7, hn => by
  simp only [List.length_cons] at h3 h4 hn
  have hj : (j : Int) < (kn : Int) := by omega
  have h0 : (0 : Int) ≤ (j : Int) := by omega
  have ht : ((j : Int)).toNat = j := by omega
  obtain ⟨cs, g1, g2, g3⟩ := h1.cons
  obtain ⟨ds, g4, g5, g6⟩ := h2.cons
  obtain ⟨_, q1, q2, q3⟩ := g2.cells
  cases q1
  obtain ⟨_, q4, q5, q6⟩ := g5.cells
  cases q4
  have tk1 : List.take 11 cs = cs := List.take_of_length_le (by omega)
  have tk2 : List.take 11 ds = ds := List.take_of_length_le (by omega)
  have l1 := AHeap.get_lt h6
  have l2 := AHeap.get_lt h7
  rw [SmL] at hsm
  have hw : IntKind.i64.wrap ((j : Int) + 1) = ((j + 1 : Nat) : Int) := by rw [wrap_i64 (by omega) (by omega)]; omega
  simp -implicitDefEqProofs (disch := first | assumption | omega | (simp only [nxB]; omega) | (simp only [oneB])) only [s42_l1, s42_j0, s42_b1, s42, xlen, AV.cells, splice, aload, astore, Nat.reduceAdd, Nat.reduceLeDiff, reduceIte, allB, hj, decide_true, ht, h6, h7, g1, g4, tk1, tk2]
  refine W_call (hs e (by simp) hsm.1 f _ _ _ ok ok' g2 g5) ?_
  rintro _ H2 ⟨rfl, p2⟩
  refine ⟨p2.1, ?_⟩
  cases hc : sameE e f with
  | false =>
   simp -implicitDefEqProofs (disch := first | assumption | omega | (simp only [nxB]; omega) | (simp only [oneB])) only [s42_j0, s42_b1, s42, xlen, evB, Bool.not_false]
   exact W_some.2 ⟨by rw [sameL, hc, Bool.false_and], p2⟩
  | true =>
   simp -implicitDefEqProofs (disch := first | assumption | omega | (simp only [nxB]; omega) | (simp only [oneB])) only [s42_j0, s42_b1, s42, xlen, evB, binB, Bool.not_true, hw]
   refine (loop42 es fs (j + 1) kn n H2 (fun e' he' => hs e' (by simp [he'])) hsm.2 (ElsV.keep (Keep.pur p2 fun _ h => h) _ _ g3) (ElsV.keep (Keep.pur p2 fun _ h => h) _ _ g6) (by omega) (by omega) h5 (p2.get h6) (p2.get h7) (by omega)).mono ?_
   rintro v H' ⟨rfl, q⟩
   exact ⟨by rw [sameL, hc, Bool.true_and], p2.trans q⟩
theorem list42 {B : Nat} (hB : B ≤ 1000000000000) {H : AHeap} {ok ok' : Nat → Prop} {ks ls : List Ex} {kv lv : AV} (hs : ∀ e ∈ ks, SameOk 22 B e) (hsm : ks.length ≤ B ∧ SmL B ks) (h1 : KsV H ok ks kv) (h2 : KsV H ok' ls lv) : W (evw P 42 [kv, lv] H) fun r H' => r = .bool (sameL ks ls) ∧ Pur H H' := by
 refine W_of (fun _ => run42 (ks.length + 1)) ?_
 have neq : ∀ m k : Nat, m ≠ k → ((m : Int) != (k : Int)) = true := fun m k h => by simp; omega
 have neq' : ∀ m : Nat, ((m : Int) != (m : Int)) = false := fun m => by simp
 have z0 : ((0 : Nat) : Int) = 0 := rfl
 have c1 := h1.cnt
 have c2 := h2.cnt
 by_cases hn : ks.length = ls.length
 ·by_cases hz : ks.length = 0
  ·have hz2 : ls.length = 0 := by omega
   obtain rfl := List.length_eq_zero_iff.1 hz
   obtain rfl := List.length_eq_zero_iff.1 hz2
   simp -implicitDefEqProofs (disch := first | assumption | omega | (simp only [nxB]; omega) | (simp only [oneB])) only [s42_l1, s42_j0, s42_b1, s42, xlen, AV.cells, splice, aload, astore, Nat.reduceAdd, Nat.reduceLeDiff, reduceIte, allB, c1, c2, List.length_nil, z0, bne_self_eq_false, Int.lt_irrefl, decide_false]
   exact W_some.2 ⟨by rw [sameL], .refl _⟩
  ·obtain ⟨l1, i1, k1, r1, el1, rfl, o1, g1, w1⟩ := h1.row hz
   obtain ⟨l2, i2, k2, r2, el2, rfl, o2, g2, w2⟩ := h2.row (by omega)
   rw [← hn]
   simp -implicitDefEqProofs (disch := first | assumption | omega | (simp only [nxB]; omega) | (simp only [oneB])) only [s42_j0, s42, xlen, evB, tabB, binB, neq' ks.length]
   exact loop42 ks ls 0 ks.length (ks.length + 1) H hs hsm.2 w1 w2 hn (by omega) (by omega) g1 g2 (by omega)
 ·have hn' := neq _ _ hn
  simp -implicitDefEqProofs (disch := first | assumption | omega | (simp only [nxB]; omega) | (simp only [oneB])) only [s42_j0, s42_b1, s42, xlen, evB, binB, c1, c2, hn']
  exact W_some.2 ⟨by rw [sameL_length _ _ hn], .refl _⟩
theorem spec22 {B : Nat} (hB : B ≤ 1000000000000) : ∀ (e : Ex), SameOk 22 B e
 | .mk a ks => by
  intro hsm f v w H ok ok' h1 h2
  cases f with | mk b ls =>
  rw [ExV_mk] at h1 h2
  obtain ⟨kv, rfl, h1⟩ := h1
  obtain ⟨lv, rfl, h2⟩ := h2
  rw [Sm] at hsm
  have hs : ∀ e ∈ ks, SameOk 22 B e := fun e he => spec22 hB e
  exact same22 h1.oneAV h2.oneAV fun H' p => list42 hB hs hsm (h1.pur p) (h2.pur p)
 termination_by e => SizeOf.sizeOf e
 decreasing_by exact Ex.sizeOf_kid he
theorem loop43 {N B : Nat} {kl ki ll li : Nat} {kc lc : Option Nat} {kro lro : Bool} {kels lels : List (List AV)} {ok ok' : Nat → Prop} : ∀ (es fs : List Ex) (j kn n : Nat) (H : AHeap), (∀ e ∈ es, SameOk 24 B e) → SmL B es → ElsV H ok es (kels.drop (ki + j)) → ElsV H ok' fs (lels.drop (li + j)) → es.length = fs.length → kn = j + es.length → kn ≤ 1000000000000 → H.get kl = some (.row kro 11 kels) → H.get ll = some (.row lro 11 lels) → es.length < n →
  W (s43_l1 (evw P) N n (.sl ll li kn 11 lc) (.func (.func 24) [] []) (.sl kl ki kn 11 kc) (.int .i64 kn) (.int .i64 j) H) fun r H' => r = .bool (sameL es fs) ∧ Pur H H'
 | _, _, _, _, 0, _, _, _, _, _, _, _, _, _, _, hn => by omega
 | [], [], j, kn, n + 1, H, hs, hsm, h1, h2, h3, h4, h5, h6, h7, hn => by
  have hj : ¬ ((j : Int) < (kn : Int)) := by simp at h4; omega
  simp -implicitDefEqProofs (disch := first | assumption | omega | (simp only [nxB]; omega) | (simp only [oneB])) only [s43_l1, s43_j0, s43_b1, s43, xlen, AV.cells, splice, aload, astore, Nat.reduceAdd, Nat.reduceLeDiff, reduceIte, allB, hj, decide_false]
  exact W_some.2 ⟨by rw [sameL], .refl _⟩
 | [], _ :: _, j, kn, n + 1, H, hs, hsm, h1, h2, h3, h4, h5, h6, h7, hn => by simp at h3
 | _ :: _, [], j, kn, n + 1, H, hs, hsm, h1, h2, h3, h4, h5, h6, h7, hn => by simp at h3
 | e :: es, f :: fs, j, kn, n + 1, H, hs, hsm, h1, h2, h3, h4, h5, h6, h7, hn => by
  simp only [List.length_cons] at h3 h4 hn
  have hj : (j : Int) < (kn : Int) := by omega
  have h0 : (0 : Int) ≤ (j : Int) := by omega
  have ht : ((j : Int)).toNat = j := by omega
  obtain ⟨cs, g1, g2, g3⟩ := h1.cons
  obtain ⟨ds, g4, g5, g6⟩ := h2.cons
  obtain ⟨_, q1, q2, q3⟩ := g2.cells
  cases q1
  obtain ⟨_, q4, q5, q6⟩ := g5.cells
  cases q4
  have tk1 : List.take 11 cs = cs := List.take_of_length_le (by omega)
  have tk2 : List.take 11 ds = ds := List.take_of_length_le (by omega)
  have l1 := AHeap.get_lt h6
  have l2 := AHeap.get_lt h7
  rw [SmL] at hsm
  have hw : IntKind.i64.wrap ((j : Int) + 1) = ((j + 1 : Nat) : Int) := by rw [wrap_i64 (by omega) (by omega)]; omega
  simp -implicitDefEqProofs (disch := first | assumption | omega | (simp only [nxB]; omega) | (simp only [oneB])) only [s43_l1, s43_j0, s43_b1, s43, xlen, AV.cells, splice, aload, astore, Nat.reduceAdd, Nat.reduceLeDiff, reduceIte, allB, hj, decide_true, ht, h6, h7, g1, g4, tk1, tk2, q2, q3, q5, q6, List.append_nil]
  have p1 := (Pur.push H (.row false 11 [cs])).then_push (.row false 11 [ds])
  refine W_apply ?_
  refine W_call (hs e (by simp) hsm.1 f _ _ _ ok ok' (g2.pur p1) (g5.pur p1)) ?_
  rintro _ H2 ⟨rfl, p2⟩
  refine ⟨p2.1, ?_⟩
  replace p2 := p1.trans p2
  cases hc : sameE e f with
  | false =>
   simp -implicitDefEqProofs (disch := first | assumption | omega | (simp only [nxB]; omega) | (simp only [oneB])) only [s43_j0, s43_b1, s43, xlen, evB, Bool.not_false]
   exact W_some.2 ⟨by rw [sameL, hc, Bool.false_and], p2⟩
  | true =>
   simp -implicitDefEqProofs (disch := first | assumption | omega | (simp only [nxB]; omega) | (simp only [oneB])) only [s43_j0, s43_b1, s43, xlen, evB, binB, Bool.not_true, hw]
   refine (loop43 es fs (j + 1) kn n H2 (fun e' he' => hs e' (by simp [he'])) hsm.2 (ElsV.keep (Keep.pur p2 fun _ h => h) _ _ g3) (ElsV.keep (Keep.pur p2 fun _ h => h) _ _ g6) (by omega) (by omega) h5 (p2.get h6) (p2.get h7) (by omega)).mono ?_
   rintro v H' ⟨rfl, q⟩
   exact ⟨by rw [sameL, hc, Bool.true_and], p2.trans q⟩
theorem list43 {B : Nat} (hB : B ≤ 1000000000000) {H : AHeap} {ok ok' : Nat → Prop} {ks ls : List Ex} {kv lv : AV} (hs : ∀ e ∈ ks, SameOk 24 B e) (hsm : ks.length ≤ B ∧ SmL B ks) (h1 : KsV H ok ks kv) (h2 : KsV H ok' ls lv) : W (evw P 43 [kv, lv, .func (.func 24) [] []] H) fun r H' => r = .bool (sameL ks ls) ∧ Pur H H' := by
 refine W_of (fun _ => run43 (ks.length + 1)) ?_
 have neq : ∀ m k : Nat, m ≠ k → ((m : Int) != (k : Int)) = true := fun m k h => by simp; omega
 have neq' : ∀ m : Nat, ((m : Int) != (m : Int)) = false := fun m => by simp
 have z0 : ((0 : Nat) : Int) = 0 := rfl
 have c1 := h1.cnt
 have c2 := h2.cnt
 by_cases hn : ks.length = ls.length
 ·by_cases hz : ks.length = 0
  ·have hz2 : ls.length = 0 := by omega
   obtain rfl := List.length_eq_zero_iff.1 hz
   obtain rfl := List.length_eq_zero_iff.1 hz2
   simp -implicitDefEqProofs (disch := first | assumption | omega | (simp only [nxB]; omega) | (simp only [oneB])) only [s43_l1, s43_j0, s43_b1, s43, xlen, AV.cells, splice, aload, astore, Nat.reduceAdd, Nat.reduceLeDiff, reduceIte, allB, c1, c2, List.length_nil, z0, bne_self_eq_false, Int.lt_irrefl, decide_false]
   exact W_some.2 ⟨by rw [sameL], .refl _⟩
  ·obtain ⟨l1, i1, k1, r1, el1, rfl, o1, g1, w1⟩ := h1.row hz
   obtain ⟨l2, i2, k2, r2, el2, rfl, o2, g2, w2⟩ := h2.row (by omega)
   rw [← hn]
   simp -implicitDefEqProofs (disch := first | assumption | omega | (simp only [nxB]; omega) | (simp only [oneB])) only [s43_j0, s43, xlen, evB, tabB, binB, neq' ks.length]
   exact loop43 ks ls 0 ks.length (ks.length + 1) H hs hsm.2 w1 w2 hn (by omega) (by omega) g1 g2 (by omega)
 ·have hn' := neq _ _ hn
  simp -implicitDefEqProofs (disch := first | assumption | omega | (simp only [nxB]; omega) | (simp only [oneB])) only [s43_j0, s43_b1, s43, xlen, evB, binB, c1, c2, hn']
  exact W_some.2 ⟨by rw [sameL_length _ _ hn], .refl _⟩
theorem spec24 {B : Nat} (hB : B ≤ 1000000000000) : ∀ (e : Ex), SameOk 24 B e
 | .mk a ks => by
  intro hsm f v w H ok ok' h1 h2
  cases f with | mk b ls =>
  rw [ExV_mk] at h1 h2
  obtain ⟨kv, rfl, h1⟩ := h1
  obtain ⟨lv, rfl, h2⟩ := h2
  rw [Sm] at hsm
  have hs : ∀ e ∈ ks, SameOk 24 B e := fun e he => spec24 hB e
  exact same24 h1.oneAV h2.oneAV fun H' p => list43 hB hs hsm (h1.pur p) (h2.pur p)
 termination_by e => SizeOf.sizeOf e
 decreasing_by exact Ex.sizeOf_kid he
end Go.Proofs.Ytnjoomfeddamcaa

namespace Go.Proofs.Ytnjoomfeddamcaa
open Go.Ev
theorem Sm.leaf {B : Nat} (a : Ea) : Sm B (.mk a []) := by rw [Sm, SmL]; exact ⟨Nat.zero_le _, trivial⟩
theorem Sm.one {B : Nat} (hB : 2 ≤ B) (a : Ea) {e : Ex} (h : Sm B e) : Sm B (.mk a [e]) := by
 rw [Sm, SmL, SmL]; exact ⟨by simp; omega, h, trivial⟩
theorem Sm.two {B : Nat} (hB : 2 ≤ B) (a : Ea) {e f : Ex} (h : Sm B e) (h' : Sm B f) : Sm B (.mk a [e, f]) := by
 rw [Sm, SmL, SmL, SmL]; exact ⟨by simp; omega, h, h', trivial⟩
theorem SmL.append {B : Nat} {e : Ex} (h : Sm B e) : ∀ {l : List Ex}, SmL B l → SmL B (l ++ [e])
 | [], _ => by simp only [List.nil_append]; rw [SmL, SmL]; exact ⟨h, trivial⟩
 | x :: xs, hl => by
  rw [SmL] at hl
  simp only [List.cons_append]
  rw [SmL]; exact ⟨hl.1, SmL.append h hl.2⟩
structure SmAll (T : List Tok) (B n : Nat) : Prop where
 row : ∀ lev s p, rowF T n lev s = some p → Sm B p.1
 rowL : ∀ lev e s p, Sm B e → rowL T n lev e s = some p → Sm B p.1
 unary : ∀ s p, unaryF T n s = some p → Sm B p.1
 sign : ∀ x k s p, signF T n x k s = some p → Sm B p.1
 chain : ∀ s p, chainF T n s = some p → Sm B p.1
 chainL : ∀ e s p, Sm B e → chainL T n e s = some p → Sm B p.1
 single : ∀ b c s p, singleF T n b c s = some p → Sm B p.1
 first : ∀ s p, firstF T n s = some p → Sm B p.1
 name : ∀ s p, nameF T n s = some p → Sm B p.1
 fresh : ∀ s p, freshF T n s = some p → Sm B p.1
 list : ∀ s p, listF T n s = some p → p.1.length ≤ B ∧ SmL B p.1
 listL : ∀ l s p, l.length + n ≤ B → SmL B l → listL T n l s = some p → p.1.length ≤ B ∧ SmL B p.1
theorem bindS {α β : Type} {x : Option α} {f : α → Option β} {b : β} (h : x.bind f = some b) : ∃ a, x = some a ∧ f a = some b := Option.bind_eq_some_iff.1 h
theorem sm_all (T : List Tok) (B : Nat) : ∀ n, n + 2 ≤ B → SmAll T B n
 | 0, _ => by
  constructor <;> intros <;> rename_i h <;> cases h
 | n + 1, hB => by
  have ih := sm_all T B n (by omega)
  have h2 : 2 ≤ B := by omega
  refine ⟨?_, ?_, ?_, ?_, ?_, ?_, ?_, ?_, ?_, ?_, ?_, ?_⟩
  ·intro lev s p h
   simp only [rowF] at h
   split at h
   ·exact ih.unary _ _ h
   ·obtain ⟨q, g1, g2⟩ := bindS h
    exact ih.rowL _ _ _ _ (ih.row _ _ _ g1) g2
  ·intro lev e s p he h
   simp only [Go.Proofs.Ytnjoomfeddamcaa.rowL] at h
   split at h
   ·cases h; exact he
   ·obtain ⟨q, g1, g2⟩ := bindS h
    exact ih.rowL _ _ _ _ (Sm.two h2 _ he (ih.row _ _ _ g1)) g2
  ·intro s p h
   simp only [unaryF, Bool.cond_eq_ite] at h
   split at h
   ·exact ih.sign _ _ _ _ h
   ·split at h
    ·exact ih.sign _ _ _ _ h
    ·exact ih.chain _ _ h
  ·intro x k s p h
   simp only [signF, Bool.cond_eq_ite] at h
   split at h
   ·obtain ⟨q, g1, g2⟩ := bindS h
    cases g2
    exact Sm.one h2 _ (ih.unary _ _ g1)
   ·cases h; exact Sm.leaf _
  ·intro s p h
   simp only [chainF] at h
   obtain ⟨q, g1, g2⟩ := bindS h
   exact ih.chainL _ _ _ (ih.first _ _ g1) g2
  ·intro e s p he h
   simp only [Go.Proofs.Ytnjoomfeddamcaa.chainL, Bool.cond_eq_ite] at h
   split at h
   ·split at h
    ·exact ih.chainL _ _ _ (Sm.one h2 _ he) h
    ·split at h
     ·obtain ⟨q, g1, g2⟩ := bindS h
      exact ih.chainL _ _ _ (Sm.two h2 _ he (ih.single _ _ _ _ g1)) g2
     ·cases h; exact he
   ·cases h; exact he
  ·intro b c s p h
   simp only [singleF, Bool.cond_eq_ite] at h
   split at h
   ·obtain ⟨q, g1, g2⟩ := bindS h
    cases g2
    exact ih.row _ _ q g1
   ·cases h; exact Sm.leaf _
  ·intro s p h
   simp only [firstF, Bool.cond_eq_ite] at h
   split at h
   ·cases h; exact Sm.leaf _
   ·split at h
    ·cases h; exact Sm.leaf _
    ·split at h
     ·exact ih.name _ _ h
     ·split at h
      ·split at h
       ·split at h
        ·exact ih.single _ _ _ _ h
        ·cases h; exact Sm.leaf _
       ·split at h
        ·cases h; exact Sm.leaf _
        ·split at h
         ·cases h; exact Sm.leaf _
         ·split at h
          ·exact ih.fresh _ _ h
          ·split at h
           ·obtain ⟨q, g1, g2⟩ := bindS h
            cases g2
            exact Sm.one h2 _ (ih.single _ _ _ _ g1)
           ·split at h
            ·cases h; exact Sm.leaf _
            ·cases h; exact Sm.leaf _
      ·cases h; exact Sm.leaf _
  ·intro s p h
   simp only [nameF, Bool.cond_eq_ite] at h
   split at h
   ·obtain ⟨q, g1, g2⟩ := bindS h
    cases g2
    rw [Sm]; exact ih.list _ _ g1
   ·cases h; exact Sm.leaf _
  ·intro s p h
   simp only [freshF, Bool.cond_eq_ite] at h
   split at h
   ·obtain ⟨q, g1, g2⟩ := bindS h
    cases g2
    exact Sm.one h2 _ (ih.single _ _ _ _ g1)
   ·cases h; exact Sm.leaf _
  ·intro s p h
   simp only [listF, Bool.cond_eq_ite] at h
   split at h
   ·split at h
    ·cases h; exact ⟨Nat.zero_le _, by rw [SmL]; trivial⟩
    ·obtain ⟨q, g1, g2⟩ := bindS h
     exact ih.listL _ _ _ (by simp; omega) (by rw [SmL, SmL]; exact ⟨ih.row _ _ _ g1, trivial⟩) g2
   ·cases h; exact ⟨Nat.zero_le _, by rw [SmL]; trivial⟩
  ·intro l s p hl hsm h
   simp only [Go.Proofs.Ytnjoomfeddamcaa.listL, Bool.cond_eq_ite] at h
   split at h
   ·obtain ⟨q, g1, g2⟩ := bindS h
    exact ih.listL _ _ _ (by simp; omega) (SmL.append (ih.row _ _ _ g1) hsm) g2
   ·cases h; exact ⟨by show l.length ≤ B; omega, hsm⟩
end Go.Proofs.Ytnjoomfeddamcaa

namespace Go.Proofs.Ytnjoomfeddamcaa
open Go.Ev
theorem left_le (T : List Tok) (s : St) : left T s ≤ T.length := by unfold left; split <;> omega
theorem both_read {T : List Tok} (hT : T.length ≤ 20000000) (at_ opn : Int) : ∃ e s e' s', rowF T 800000000 0 (startS at_ opn) = some (e, s) ∧ exprR T 800000000 0 (startS at_ opn) = some (e', s') ∧ parseS e' s' = parseS e s ∧ Sm 1000000000 (parseS e s).1 := by
 obtain ⟨p, q, h1, h2, h3, h4⟩ := rows_both (T := T) (by omega) T.length (startS at_ opn) (left_le _ _) 0 800000000 800000000 (by omega) (by omega) (by omega)
 refine ⟨p.1, p.2, q.1, q.2, h1, h2, ?_, ?_⟩
 ·rcases h3 with ⟨h, rfl⟩ | ⟨h, ha, hb⟩
  ·rfl
  ·have h' : ¬ q.2.fe = 0 := by rw [ha]; exact h
   simp only [parseS, if_neg h, if_neg h', ha, hb]
 ·unfold parseS
  split
  ·exact (sm_all T 1000000000 800000000 (by omega)).row _ _ _ h1
  ·exact Sm.leaf _
end Go.Proofs.Ytnjoomfeddamcaa

namespace Go.Proofs.Ytnjoomfeddamcaa
open Go.Ev
def Lv {α : Type} (F : St → R α) : Prop := ∀ s x, F s = some x → x.2.fe = 0 → s.fe = 0 ∧ (0 ≤ s.opn → x.2.opn = s.opn ∧ x.2.fa = s.fa)
def Lv1 (f : St → St) : Prop := ∀ s, (f s).fe = 0 → s.fe = 0 ∧ (f s).opn = s.opn ∧ (f s).fa = s.fa
theorem Lv.bind {α β : Type} {F : St → R α} {G : α → St → R β} (h : Lv F) (hg : ∀ x, Lv (G x)) : Lv fun s => (F s).bind fun p => G p.1 p.2 := by
 intro s x hx hf
 obtain ⟨p, h1, h2⟩ := bindS hx
 obtain ⟨g1, g2⟩ := hg p.1 p.2 x h2 hf
 obtain ⟨f1, f2⟩ := h s p h1 g1
 refine ⟨f1, fun ho => ?_⟩
 obtain ⟨e1, e2⟩ := f2 ho
 obtain ⟨e3, e4⟩ := g2 (by rw [e1]; exact ho)
 exact ⟨e3.trans e1, e4.trans e2⟩
theorem Lv.none {α : Type} {F : St → R α} (h : ∀ s, F s = none) : Lv F := fun s x hx => by rw [h] at hx; cases hx
theorem Lv.of1 {α : Type} {f : St → α × St} (h : Lv1 fun s => (f s).2) : Lv fun s => some (f s) := fun s x hx hf => by
 cases hx
 obtain ⟨h1, h2⟩ := h s hf
 exact ⟨h1, fun _ => h2⟩
theorem Lv1.comp {f g : St → St} (h : Lv1 f) (k : Lv1 g) : Lv1 fun s => g (f s) := fun s hs => by
 obtain ⟨a1, a2, a3⟩ := k _ hs
 obtain ⟨b1, b2, b3⟩ := h _ a1
 exact ⟨b1, a2.trans b2, a3.trans b3⟩
theorem Lv.pre {α : Type} {F : St → R α} {f : St → St} (h : Lv1 f) (k : Lv F) : Lv fun s => F (f s) := fun s x hx hf => by
 obtain ⟨a1, a2⟩ := k _ x hx hf
 obtain ⟨b1, b2, b3⟩ := h s a1
 refine ⟨b1, fun ho => ?_⟩
 obtain ⟨c1, c2⟩ := a2 (by rw [b2]; exact ho)
 exact ⟨c1.trans b2, c2.trans b3⟩
theorem Lv1.go : Lv1 goS := fun s h => ⟨h, rfl, rfl⟩
theorem Lv1.id : Lv1 fun s => s := fun s h => ⟨h, rfl, rfl⟩
variable {T : List Tok}
theorem failS_no {s : St} {e : Int} (he : e ≠ 0) (h : (failS T e s).fe = 0) : False := by
 unfold failS at h
 split at h
 ·exact he h
 ·rename_i hs; exact hs h
theorem Lv1.wants (x : Bs) : Lv1 fun s => (wantsS T x s).2 := fun s h => by
 have h : (wantsS T x s).2.fe = 0 := h
 show s.fe = 0 ∧ (wantsS T x s).2.opn = s.opn ∧ (wantsS T x s).2.fa = s.fa
 cases hb : isB T s 4 x with
 | true =>
  have e : (wantsS T x s).2 = goS s := by simp [wantsS, hb]
  rw [e] at h ⊢
  exact ⟨h, rfl, rfl⟩
 | false =>
  have e : (wantsS T x s).2 = failS T 2 s := by simp [wantsS, hb]
  rw [e] at h
  exact (failS_no (by decide) h).elim
theorem Lv1.wantN (x : Bs) : ∀ n : Nat, Lv1 (wantN T x n)
 | 0 => Lv1.id
 | n + 1 => Lv1.comp (f := fun s => (wantsS T x s).2) (g := Ytnjoomfeddamcaa.wantN T x n) (Lv1.wants x) (Lv1.wantN x n)
theorem lv_ofL : ∀ (n : Nat) (d : Int) (s : St), (∀ d' s', ofL T n d s = .inl (d', s') → s'.fe = 0 → s.fe = 0 ∧ s'.opn = s.opn ∧ s'.fa = s.fa) ∧ ∀ s', ofL T n d s = .inr s' → s'.fe ≠ 0
 | 0, d, s => by
  simp only [ofL]
  cases isB T s 4 [91] with
  | true => exact ⟨fun _ _ h => (by cases h), fun s' h h0 => by cases h; exact failS_no (by decide) h0⟩
  | false => exact ⟨fun _ _ h hf => (by cases h; exact ⟨hf, rfl, rfl⟩), fun _ h => (by cases h)⟩
 | n + 1, d, s => by
  simp only [ofL]
  cases isB T s 4 [91] with
  | true => exact lv_ofL n (d + 1) (goS s)
  | false => exact ⟨fun _ _ h hf => (by cases h; exact ⟨hf, rfl, rfl⟩), fun _ h => (by cases h)⟩
theorem Lv1.of : Lv1 fun s => (ofS T s).2 := fun s h => by
 obtain ⟨i1, i2⟩ := lv_ofL (T := T) 3 0 s
 have h' : (ofS T s).2.fe = 0 := h
 show s.fe = 0 ∧ (ofS T s).2.opn = s.opn ∧ (ofS T s).2.fa = s.fa
 unfold ofS at h' ⊢
 cases hl : ofL T 3 0 s with
 | inr s' => rw [hl] at h'; exact absurd h' (i2 s' hl)
 | inl p =>
  obtain ⟨d, s1⟩ := p
  rw [hl] at h'
  simp only at h' ⊢
  cases hc : ((tokAt T s1.at_).kind != 1 && (!isB T s1 3 [105, 110, 116] && !isB T s1 3 [98, 111, 111, 108])) with
  | true =>
   simp only [ofE, hc, cond_true] at h'
   exact (failS_no (by decide) h').elim
  | false =>
   simp only [ofE, hc, cond_false] at h' ⊢
   obtain ⟨a1, a2, a3⟩ := Lv1.comp Lv1.go (Lv1.wantN [93] d.toNat) s1 h'
   obtain ⟨b1, b2, b3⟩ := i1 d s1 hl a1
   exact ⟨b1, a2.trans b2, a3.trans b3⟩
theorem lv_open {s : St} {x : Bs} (h : (opensS T x s).1 = true) : s.fe = 0 ∧ s.opn < 50 ∧ (opensS T x s).2 = { s with at_ := w64 (s.at_ + 1), opn := w64 (s.opn + 1) } := by
 unfold opensS at h ⊢
 cases hb : isB T s 4 x with
 | false => rw [hb] at h; cases h
 | true =>
  rw [hb] at h
  simp only [cond_true] at h ⊢
  split at h
  ·cases h
  ·rename_i ho
   rw [if_neg ho]
   exact ⟨(isB_kind hb).1, by omega, rfl⟩
theorem lv_noopen {s : St} {x : Bs} (h : (opensS T x s).1 = false) : (opensS T x s).2.fe ≠ 0 := by
 unfold opensS at h ⊢
 cases hb : isB T s 4 x with
 | false => exact fun h0 => failS_no (by decide) h0
 | true =>
  rw [hb] at h
  simp only [cond_true] at h ⊢
  split at h
  ·rename_i ho
   rw [if_pos ho]
   exact fun h0 => failS_no (by decide) h0
  ·cases h
theorem w64_io {o : Int} (h0 : 0 ≤ o) (h1 : o < 50) : w64 (o + 1) = o + 1 ∧ w64 (o + 1 - 1) = o := ⟨wrap_i64 (by omega) (by omega), by rw [show o + 1 - 1 = o by omega]; exact wrap_i64 (by omega) (by omega)⟩
theorem Lv.within {α β : Type} {F : St → R α} {g : St → α → β} {v : β} {w : St → St} {x : Bs} (h : Lv F) (hw : ∀ s, (w s).fe = 0 → s.fe = 0 ∧ (w s).opn = w64 (s.opn - 1) ∧ (w s).fa = s.fa) :
  Lv fun s => bif (opensS T x s).1 then (F (opensS T x s).2).bind fun p => some (g s p.1, w p.2) else some (v, (opensS T x s).2) := by
 intro s y hy hf
 cases ho : (opensS T x s).1 with
 | false =>
  simp only [ho, cond_false, Option.some.injEq] at hy
  subst hy
  exact absurd hf (lv_noopen ho)
 | true =>
  obtain ⟨o1, o2, o3⟩ := lv_open ho
  simp only [ho, cond_true] at hy
  obtain ⟨p, h1, h2⟩ := bindS hy
  simp only [Option.some.injEq] at h2
  subst h2
  obtain ⟨a1, a2, a3⟩ := hw p.2 hf
  obtain ⟨b1, b2⟩ := h _ p h1 a1
  refine ⟨o1, fun h0 => ?_⟩
  obtain ⟨c1, c2⟩ := w64_io h0 o2
  rw [o3] at b2
  obtain ⟨d1, d2⟩ := b2 (by simp only; rw [c1]; omega)
  refine ⟨?_, a3.trans d2⟩
  show (w p.2).opn = s.opn
  rw [a2, d1]
  simp only
  rw [c1, c2]
theorem lv_closes (y : Bs) (s : St) (h : (closesS T y s).2.fe = 0) : s.fe = 0 ∧ (closesS T y s).2.opn = w64 (s.opn - 1) ∧ (closesS T y s).2.fa = s.fa := by
 obtain ⟨a1, a2, a3⟩ := Lv1.wants (T := T) y (outS s) h
 exact ⟨a1, a2, a3⟩
structure LvAll (T : List Tok) (n : Nat) : Prop where
 row : ∀ lev, Lv (rowF T n lev)
 rowL : ∀ lev e, Lv (rowL T n lev e)
 unary : Lv (unaryF T n)
 sign : ∀ x q, Lv (signF T n x q)
 chain : Lv (chainF T n)
 chainL : ∀ e, Lv (chainL T n e)
 single : ∀ x y, Lv (singleF T n x y)
 first : Lv (firstF T n)
 name : Lv (nameF T n)
 fresh : Lv (freshF T n)
 list : Lv (listF T n)
 listL : ∀ l s x, listL T n l s = some x → x.2.fe = 0 → s.fe = 0 ∧ (1 ≤ s.opn ∧ s.opn ≤ 50 → x.2.opn = s.opn - 1 ∧ x.2.fa = s.fa)
theorem Lv.ite {α : Type} {F G : St → R α} (c : St → Bool) (h : Lv F) (k : Lv G) : Lv fun s => bif c s then F s else G s := fun s x hx => by
 cases hc : c s with
 | true => simp only [hc, cond_true] at hx; exact h s x hx
 | false => simp only [hc, cond_false] at hx; exact k s x hx
theorem Lv.bad {α : Type} {v : α} : Lv fun s => some (v, failS T 2 s) := fun s x hx hf => by
 cases hx; exact (failS_no (by decide) hf).elim
theorem Lv.eq {α : Type} {F G : St → R α} (h : Lv F) (e : ∀ s, G s = F s) : Lv G := fun s x hx => h s x (by rw [← e]; exact hx)
theorem lvAll (T : List Tok) : ∀ n, LvAll T n
 | 0 => by
  refine ⟨?_, ?_, ?_, ?_, ?_, ?_, ?_, ?_, ?_, ?_, ?_, ?_⟩
  all_goals intros
  all_goals first | exact Lv.none fun _ => rfl | (rename_i h _; cases h)
 | n + 1 => by
  have ih := lvAll T n
  refine ⟨fun lev => ?_, fun lev e => ?_, ?_, fun x q => ?_, ?_, fun e => ?_, fun x y => ?_, ?_, ?_, ?_, ?_, fun l => ?_⟩
  ·by_cases h5 : lev = 5
   ·exact ih.unary.eq fun s => by rw [rowF, if_pos h5]
   ·exact (Lv.bind (ih.row (lev + 1)) fun e => ih.rowL lev e).eq fun s => by rw [rowF, if_neg h5]
  ·intro s x hx hf
   rw [rowL] at hx
   by_cases hk : kindS T lev s = 0
   ·rw [if_pos hk] at hx; cases hx; exact ⟨hf, fun _ => ⟨rfl, rfl⟩⟩
   ·rw [if_neg hk] at hx
    exact Lv.pre Lv1.go (Lv.bind (ih.row (lev + 1)) fun b => ih.rowL lev (.mk { kind := kindS T lev s, pos := (tokAt T s.at_).pos } [e, b])) s x hx hf
  ·exact (Lv.ite (fun s => isB T s 4 [45]) (ih.sign [45] 12) (Lv.ite (fun s => isB T s 4 [33]) (ih.sign [33] 13) ih.chain)).eq fun s => by rw [unaryF]
  ·exact (Lv.within (T := T) (x := x) (g := fun s a => .mk { kind := q, pos := (tokAt T s.at_).pos } [a]) (v := Ex.zero) (w := outS) ih.unary fun s h => ⟨h, rfl, rfl⟩).eq fun s => by rw [signF]
  ·exact (Lv.bind ih.first fun e => ih.chainL e).eq fun s => by rw [chainF]
  ·intro s x hx hf
   rw [chainL] at hx
   cases hc : (s.fe == 0 && (tokAt T s.at_).kind == 4) with
   | false => simp only [hc, cond_false, Option.some.injEq] at hx; subst hx; exact ⟨hf, fun _ => ⟨rfl, rfl⟩⟩
   | true =>
    simp only [hc, cond_true] at hx
    cases hd : (tokAt T s.at_).text == [46] with
    | true =>
     simp only [hd, cond_true] at hx
     obtain ⟨a1, a2⟩ := ih.chainL _ _ x hx hf
     have hfl : (fieldS T e s).2.fe = 0 → s.fe = 0 ∧ (fieldS T e s).2.opn = s.opn ∧ (fieldS T e s).2.fa = s.fa := by
      unfold fieldS
      cases hk : ((tokAt T (goS s).at_).kind != 1) with
      | true => exact fun h => (failS_no (T := T) (s := goS s) (e := 2) (by decide) h).elim
      | false => exact fun h => ⟨h, rfl, rfl⟩
     obtain ⟨b1, b2, b3⟩ := hfl a1
     refine ⟨b1, fun ho => ?_⟩
     obtain ⟨c1, c2⟩ := a2 (by rw [b2]; exact ho)
     exact ⟨c1.trans b2, c2.trans b3⟩
    | false =>
     simp only [hd, cond_false] at hx
     cases hd2 : (tokAt T s.at_).text == [91] with
     | true =>
      simp only [hd2, cond_true] at hx
      exact Lv.bind (ih.single [91] [93]) (fun b => ih.chainL (.mk { kind := 6, pos := (tokAt T s.at_).pos } [e, b])) s x hx hf
     | false => simp only [hd2, cond_false, Option.some.injEq] at hx; subst hx; exact ⟨hf, fun _ => ⟨rfl, rfl⟩⟩
  ·exact (Lv.within (T := T) (x := x) (g := fun _ a => a) (v := Ex.zero) (w := fun s => (closesS T y s).2) (ih.row 0) (lv_closes y)).eq fun s => by rw [singleF]
  ·intro s x hx hf
   rw [firstF] at hx
   by_cases hfe : s.fe = 0
   ·rw [if_neg (by simp [hfe])] at hx
    by_cases k2 : (tokAt T s.at_).kind = 2
    ·rw [if_pos k2] at hx; cases hx; exact ⟨hf, fun _ => ⟨rfl, rfl⟩⟩
    ·rw [if_neg k2] at hx
     by_cases k1 : (tokAt T s.at_).kind = 1
     ·rw [if_pos k1] at hx; exact ih.name s x hx hf
     ·rw [if_neg k1] at hx
      by_cases k34 : (tokAt T s.at_).kind = 3 ∨ (tokAt T s.at_).kind = 4
      ·rw [if_pos k34] at hx
       have htruth : Lv fun s => some (truthS T s) := Lv.of1 fun s h => ⟨h, rfl, rfl⟩
       have hnull : Lv fun s => some (nullS T s) := Lv.of1 (Lv1.comp Lv1.go (Lv1.of (T := T)))
       have hread : Lv fun s => some (readS T s) := by
        refine Lv.eq (F := fun s => (fun s => bif (opensS T [40] s).1 then (some ((), (opensS T [40] s).2)).bind fun p => some ((), (closesS T [41] p.2).2) else some ((), (opensS T [40] s).2)) (goS s) |>.bind fun p => some (.mk { kind := 11, pos := (tokAt T s.at_).pos } [], p.2)) ?_ fun s => ?_
        ·intro s y hy hyf
         obtain ⟨p, p1, p2⟩ := bindS hy
         cases p2
         exact Lv.pre Lv1.go (Lv.within (T := T) (x := [40]) (F := fun s => some ((), s)) (g := fun _ _ => ()) (v := ()) (w := fun s => (closesS T [41] s).2) (fun s z hz hzf => by cases hz; exact ⟨hzf, fun _ => ⟨rfl, rfl⟩⟩) (lv_closes [41])) s p p1 hyf
        ·simp only [readS]
         cases (opensS T [40] (goS s)).1 <;> rfl
       have hlen : Lv fun s => (singleF T n [40] [41] (goS s)).bind fun p => some (Ex.mk { kind := 10, pos := (tokAt T s.at_).pos } [p.1], p.2) := by
        intro s y hy hyf
        obtain ⟨p, p1, p2⟩ := bindS hy
        cases p2
        exact Lv.pre Lv1.go (ih.single [40] [41]) s p p1 hyf
       exact Lv.ite (fun s => (tokAt T s.at_).kind == 4) (Lv.ite (fun s => (tokAt T s.at_).text == [40]) (ih.single [40] [41]) Lv.bad)
        (Lv.ite (fun s => (tokAt T s.at_).text == [116, 114, 117, 101] || (tokAt T s.at_).text == [102, 97, 108, 115, 101]) htruth (Lv.ite (fun s => (tokAt T s.at_).text == [110, 117, 108, 108]) hnull
         (Lv.ite (fun s => (tokAt T s.at_).text == [110, 101, 119]) ih.fresh (Lv.ite (fun s => (tokAt T s.at_).text == [108, 101, 110]) hlen (Lv.ite (fun s => (tokAt T s.at_).text == [114, 101, 97, 100]) hread Lv.bad))))) s x hx hf
      ·rw [if_neg k34] at hx; exact Lv.bad s x hx hf
   ·rw [if_pos (by simpa using hfe)] at hx; cases hx; exact absurd hf hfe
  ·intro s x hx hf
   rw [nameF] at hx
   cases hb : isB T (goS s) 4 [40] with
   | true =>
    simp only [hb, cond_true] at hx
    obtain ⟨p, p1, p2⟩ := bindS hx
    cases p2
    exact Lv.pre Lv1.go ih.list s p p1 hf
   | false => simp only [hb, cond_false, Option.some.injEq] at hx; subst hx; exact Lv1.go s hf |>.imp id fun h _ => h
  ·intro s x hx hf
   rw [freshF] at hx
   cases hb : isB T (goS s) 4 [91] with
   | true =>
    simp only [hb, cond_true] at hx
    obtain ⟨p, p1, p2⟩ := bindS hx
    cases p2
    exact Lv.pre (Lv1.comp (Lv1.comp (Lv1.comp Lv1.go Lv1.go) (Lv1.of (T := T))) (Lv1.wants (T := T) [93])) (ih.single [40] [41]) s p p1 hf
   | false =>
    simp only [hb, cond_false, Option.some.injEq] at hx
    subst hx
    cases hk : ((tokAt T (goS s).at_).kind != 1) with
    | true =>
     simp only [hk, cond_true] at hf
     exact (failS_no (T := T) (s := goS s) (e := 2) (by decide) hf).elim
    | false => simp only [hk, cond_false] at hf ⊢; exact ⟨hf, fun _ => ⟨rfl, rfl⟩⟩
  ·intro s x hx hf
   rw [listF] at hx
   cases ho : (opensS T [40] s).1 with
   | false => simp only [ho, cond_false, Option.some.injEq] at hx; subst hx; exact absurd hf (lv_noopen ho)
   | true =>
    obtain ⟨o1, o2, o3⟩ := lv_open ho
    simp only [ho, cond_true] at hx
    cases hb : isB T (opensS T [40] s).2 4 [41] with
    | true =>
     simp only [hb, cond_true, Option.some.injEq] at hx
     subst hx
     obtain ⟨a1, a2, a3⟩ := lv_closes [41] _ hf
     refine ⟨o1, fun h0 => ?_⟩
     obtain ⟨c1, c2⟩ := w64_io h0 o2
     rw [o3] at a2 a3
     simp only [c1] at a2 a3
     rw [c2] at a2
     rw [o3]
     simp only [c1]
     exact ⟨a2, a3⟩
    | false =>
     simp only [hb, cond_false] at hx
     obtain ⟨p, p1, p2⟩ := bindS hx
     obtain ⟨a1, a2⟩ := ih.listL [p.1] p.2 x p2 hf
     obtain ⟨b1, b2⟩ := ih.row 0 _ p p1 a1
     refine ⟨o1, fun h0 => ?_⟩
     obtain ⟨c1, c2⟩ := w64_io h0 o2
     rw [o3] at b2
     simp only [c1] at b2
     obtain ⟨d1, d2⟩ := b2 (by omega)
     obtain ⟨e1, e2⟩ := a2 (by rw [d1]; omega)
     exact ⟨by rw [e1, d1]; omega, e2.trans d2⟩
  ·intro s x hx hf
   rw [listL] at hx
   cases ht : (takesS T 4 [44] s).1 with
   | false =>
    simp only [ht, cond_false, Option.some.injEq] at hx
    subst hx
    have hts : (takesS T 4 [44] s).2 = s := by
     unfold takesS at ht ⊢
     cases hb : isB T s 4 [44] with
     | true => rw [hb] at ht; cases ht
     | false => rfl
    simp only [hts] at hf ⊢
    obtain ⟨a1, a2, a3⟩ := lv_closes [41] s hf
    exact ⟨a1, fun h => ⟨by rw [a2]; exact wrap_i64 (by omega) (by omega), a3⟩⟩
   | true =>
    simp only [ht, cond_true] at hx
    obtain ⟨p, p1, p2⟩ := bindS hx
    have hts : (takesS T 4 [44] s).2 = goS s := by
     unfold takesS at ht ⊢
     cases hb : isB T s 4 [44] with
     | true => rfl
     | false => rw [hb] at ht; cases ht
    rw [hts] at p1
    obtain ⟨a1, a2⟩ := ih.listL _ p.2 x p2 hf
    obtain ⟨b1, b2⟩ := ih.row 0 _ p p1 a1
    refine ⟨b1, fun h => ?_⟩
    obtain ⟨d1, d2⟩ := b2 (by show (0 : Int) ≤ s.opn; omega)
    have d1' : p.2.opn = s.opn := d1
    obtain ⟨e1, e2⟩ := a2 (by rw [d1']; exact h)
    exact ⟨by rw [e1, d1'], e2.trans d2⟩
end Go.Proofs.Ytnjoomfeddamcaa

namespace Go.Proofs.Ytnjoomfeddamcaa
open Go.Ev
def parseM (e : Stm) (s : St) : Stm × Int × Int × Int := if s.fe = 0 then (e, s.at_, 0, 0) else (.zero, 0, s.fe, s.fa)
def parseB (l : List Stm) (s : St) : List Stm × Int × Int × Int := if s.fe = 0 then (l, s.at_, 0, 0) else ([], 0, s.fe, s.fa)
end Go.Proofs.Ytnjoomfeddamcaa

namespace Go.Proofs.Ytnjoomfeddamcaa
open Go.Ev
def AgS (T : List Tok) (s x y : St) : Prop := SameS x y ∧ (x.fe = 0 → x.opn = s.opn ∧ x.fa = s.fa ∧ left T x ≤ left T s)
def Ag {α : Type} (T : List Tok) (s : St) (x y : α × St) : Prop := Same x y ∧ (x.2.fe = 0 → x.2.opn = s.opn ∧ x.2.fa = s.fa ∧ left T x.2 ≤ left T s)
theorem Same.eq {α : Type} {p q : α × St} (h : Same p q) (hf : p.2.fe = 0) : q = p := by
 rcases h with h | h
 ·exact h.2
 ·exact absurd hf h.1
theorem Same.st4 {α : Type} {p q : α × St} (h : Same p q) : SameS p.2 q.2 := by
 rcases h with ⟨h, rfl⟩ | ⟨h1, h2, h3⟩
 ·exact .inl ⟨h, rfl⟩
 ·exact .inr ⟨h1, h2, h3⟩
theorem Same.of4 {α : Type} {p q : α × St} (h : SameS p.2 q.2) (hv : p.2.fe = 0 → q.1 = p.1) : Same p q := by
 rcases h with ⟨h, e⟩ | ⟨h1, h2, h3⟩
 ·exact .inl ⟨h, Prod.ext (hv h) e⟩
 ·exact .inr ⟨h1, h2, h3⟩
theorem Ag.st {α : Type} {T : List Tok} {s : St} {x y : α × St} (h : Ag T s x y) : AgS T s x.2 y.2 := ⟨h.1.st4, h.2⟩
theorem SameS.eq {x y : St} (h : SameS x y) (hf : x.fe = 0) : y = x := by
 rcases h with h | h
 ·exact h.2
 ·exact absurd hf h.1
theorem SameS.ne {x y : St} (h : SameS x y) (hf : x.fe ≠ 0) : y.fe ≠ 0 := by
 rcases h with h | h
 ·exact absurd h.1 hf
 ·rw [h.2.1]; exact hf
section
variable {T : List Tok} (hT : T.length ≤ 20000000)
include hT
theorem ag_wants {s x y : St} (h : AgS T s x y) {z : Bs} (hz : kw z = 4) : AgS T s (wantsS T z x).2 (takeR T z y) := by
 refine ⟨wants_same h.1 hz, fun hf => ?_⟩
 obtain ⟨a1, a2, a3⟩ := Lv1.wants z x hf
 obtain ⟨b1, b2, b3⟩ := h.2 a1
 exact ⟨a2.trans b1, a3.trans b2, Nat.le_trans (left_wants (by omega) x z) b3⟩
theorem wants_strict {x : St} {z : Bs} (hf : (wantsS T z x).2.fe = 0) : left T (wantsS T z x).2 + 1 ≤ left T x := by
 cases hb : isB T x 4 z with
 | true =>
  have : (wantsS T z x).2 = goS x := by simp [wantsS, hb]
  rw [this]; exact left_is (by omega) (by decide) hb
 | false =>
  have : (wantsS T z x).2 = failS T 2 x := by simp [wantsS, hb]
  rw [this] at hf
  exact (failS_no (by decide) hf).elim
theorem ag_semi {α : Type} {s x y : St} (h : AgS T s x y) {v v' : α} (hv : x.fe = 0 → v' = v) : Ag T s (v, (wantsS T [59] x).2) (v', takeR T [59] y) ∧ ((wantsS T [59] x).2.fe = 0 → left T (wantsS T [59] x).2 + 1 ≤ left T s) := by
 have hw := ag_wants hT h (z := [59]) (by decide)
 refine ⟨⟨Same.of4 hw.1 fun hf => hv (Lv1.wants [59] x hf).1, hw.2⟩, fun hf => ?_⟩
 have := wants_strict hT hf
 have := (h.2 (Lv1.wants [59] x hf).1).2.2
 omega
omit hT in
theorem startS_self {x : St} (h0 : x.fe = 0) (h1 : x.fa = 0) (h2 : 0 ≤ x.opn) : startS x.at_ x.opn = x := by
 cases x
 simp only at h0 h1 h2
 subst h0 h1
 simp only [startS]
 rw [if_neg (by omega)]
theorem ag_expr {s x y : St} (h : AgS T s x y) (ha : s.fa = 0) (ho : 0 ≤ s.opn) : Ag T s (exprP T x) (exprQ T y) := by
 by_cases hf : x.fe = 0
 ·obtain rfl := h.1.eq hf
  obtain ⟨b1, b2, b3⟩ := h.2 hf
  obtain ⟨p, q, h1, h2, h3, h4⟩ := rows_both (T := T) (by omega) T.length y (left_le _ _) 0 800000000 800000000 (by omega) (by omega) (by omega)
  have hq : exprQ T y = q := by simp only [exprQ, h2]
  rw [hq]
  have hs := startS_self hf (b2.trans ha) (by rw [b1]; exact ho)
  by_cases hp : p.2.fe = 0
  ·obtain ⟨-, e⟩ := (lvAll T 800000000).row 0 y p h1 hp
   obtain ⟨e1, e2⟩ := e (by rw [b1]; exact ho)
   have hpp : exprP T y = p := by
    unfold exprP
    rw [if_neg (by simp [hf]), hs, h1]
    simp only [hp, if_true]
    refine Prod.ext rfl ?_
    rw [show p.2 = ⟨p.2.at_, p.2.opn, p.2.fe, p.2.fa⟩ from rfl, e1, e2, hp, ← hf]
   rw [hpp]
   exact ⟨h3, fun _ => ⟨e1.trans b1, e2.trans b2, Nat.le_trans h4 b3⟩⟩
  ·have hpp : exprP T y = (.zero, { y with fe := p.2.fe, fa := p.2.fa }) := by
    unfold exprP
    rw [if_neg (by simp [hf]), hs, h1]
    simp only [hp, if_false]
   rw [hpp]
   rcases h3 with h3 | ⟨h5, h6, h7⟩
   ·exact absurd h3.1 hp
   ·exact ⟨.inr ⟨h5, h6, h7⟩, fun h => absurd h hp⟩
 ·have hy := h.1.ne hf
  have hp : exprP T x = (.zero, x) := by simp [exprP, hf]
  have hq : exprQ T y = (deadE T y, y) := by simp only [exprQ, exprR_failed hy 800000000 0 (by omega) (by omega)]
  rw [hp, hq]
  refine ⟨Same.of4 h.1 fun h0 => absurd h0 hf, fun h0 => absurd h0 hf⟩
omit hT in
theorem wantN_opn (x : Bs) (o : Int) : ∀ (n : Nat) (s : St), wantN T x n { s with opn := o } = { wantN T x n s with opn := o }
 | 0, s => rfl
 | n + 1, s => by
  have : (wantsS T x { s with opn := o }).2 = { (wantsS T x s).2 with opn := o } := by
   have hb : isB T { s with opn := o } 4 x = isB T s 4 x := rfl
   simp only [wantsS, hb]
   cases isB T s 4 x with
   | true => rfl
   | false =>
    simp only [cond_false, failS]
    split <;> rfl
  simp only [Ytnjoomfeddamcaa.wantN, this]
  exact wantN_opn x o n _
omit hT in
theorem ofL_opn (o : Int) : ∀ (n : Nat) (d : Int) (s : St), ofL T n d { s with opn := o } = match ofL T n d s with
  | .inl p => .inl (p.1, { p.2 with opn := o })
  | .inr s' => .inr { s' with opn := o }
 | 0, d, s => by
  have hb : isB T { s with opn := o } 4 [91] = isB T s 4 [91] := rfl
  simp only [ofL, hb]
  cases isB T s 4 [91] with
  | true => simp only [cond_true, failS]; split <;> rfl
  | false => rfl
 | n + 1, d, s => by
  have hb : isB T { s with opn := o } 4 [91] = isB T s 4 [91] := rfl
  simp only [ofL, hb]
  cases isB T s 4 [91] with
  | true => exact ofL_opn o n (d + 1) (goS s)
  | false => rfl
omit hT in
theorem of_opn (o : Int) (s : St) : ofS T { s with opn := o } = ((ofS T s).1, { (ofS T s).2 with opn := o }) := by
 unfold ofS
 rw [ofL_opn]
 cases ofL T 3 0 s with
 | inr s' => rfl
 | inl p =>
  have hb : ∀ x, isB T { p.2 with opn := o } 3 x = isB T p.2 3 x := fun _ => rfl
  simp only [ofE, hb]
  cases ((tokAt T p.2.at_).kind != 1 && (!isB T p.2 3 [105, 110, 116] && !isB T p.2 3 [98, 111, 111, 108])) with
  | true => simp only [cond_true, failS]; split <;> rfl
  | false =>
   simp only [cond_false]
   exact Prod.ext rfl (wantN_opn [93] o p.1.toNat (goS p.2))
omit hT in
theorem ofR_failed {y : St} (h : y.fe ≠ 0) : ofR T y = (([], 0), y) := by
 simp only [ofR, ofRL, isR_failed h, cond_false, ofRE, Bool.or_self, nameR_failed h]
 rfl
theorem ag_of {s x : St} (hf : x.fe = 0) (h : x.opn = s.opn ∧ x.fa = s.fa ∧ left T x ≤ left T s) (ha : s.fa = 0) : Ag T s (ofT T x) (ofR T x) := by
 obtain ⟨b1, b2, b3⟩ := h
 have hx : x = { (⟨x.at_, 0, 0, 0⟩ : St) with opn := x.opn } := by
  cases x
  simp only at hf b2 ⊢
  rw [hf, b2, ha]
 have ho := of_opn (T := T) x.opn ⟨x.at_, 0, 0, 0⟩
 rw [← hx] at ho
 have hs := of_same T x
 rw [ho] at hs
 unfold ofT
 by_cases hq : (ofS T ⟨x.at_, 0, 0, 0⟩).2.fe = 0
 ·obtain ⟨-, c1, c2⟩ := Lv1.of (T := T) ⟨x.at_, 0, 0, 0⟩ hq
  rw [if_pos hq]
  have e : ({ x with at_ := (ofS T ⟨x.at_, 0, 0, 0⟩).2.at_ } : St) = { (ofS T ⟨x.at_, 0, 0, 0⟩).2 with opn := x.opn } := by
   have c2' : (ofS T ⟨x.at_, 0, 0, 0⟩).2.fa = 0 := c2
   show _ = (⟨(ofS T ⟨x.at_, 0, 0, 0⟩).2.at_, x.opn, (ofS T ⟨x.at_, 0, 0, 0⟩).2.fe, (ofS T ⟨x.at_, 0, 0, 0⟩).2.fa⟩ : St)
   rw [hf, hq, c2', b2, ha]
  rw [e]
  have hl := left_of (T := T) (by omega) ⟨x.at_, 0, 0, 0⟩
  refine ⟨hs, fun _ => ⟨b1, ?_, ?_⟩⟩
  ·show (ofS T ⟨x.at_, 0, 0, 0⟩).2.fa = s.fa
   rw [ha]; exact c2
  ·refine Nat.le_trans (Nat.le_trans hl ?_) b3
   unfold left
   simp [hf]
 ·rw [if_neg hq]
  rcases hs with hs | ⟨g1, g2, g3⟩
  ·exact absurd hs.1 hq
  ·exact ⟨.inr ⟨g1, g2, g3⟩, fun h => absurd h hq⟩
theorem ag_typed {s x : St} (hf : x.fe = 0) (h : x.opn = s.opn ∧ x.fa = s.fa ∧ left T x ≤ left T s) (ha : s.fa = 0) : Ag T s (typedS T x) (typedR T x) := by
 have hfb : (x.fe == 0) = true := by simp [hf]
 have base : AgS T s (goS (bif (tokAt T x.at_).kind != 1 then failS T 2 x else x)) (nameR T x).2 ∧ ((goS (bif (tokAt T x.at_).kind != 1 then failS T 2 x else x)).fe = 0 → (nameR T x).1 = (tokAt T x.at_).text) := by
  by_cases hk : (tokAt T x.at_).kind = 1
  ·have h1 : ((tokAt T x.at_).kind != 1) = false := by simp [hk]
   have h2 : ((tokAt T x.at_).kind == 1) = true := by simp [hk]
   simp only [h1, cond_false, nameR, hfb, h2, Bool.and_self, cond_true]
   have hl := left_go (T := T) (by omega) hf (by rw [hk]; decide)
   exact ⟨⟨SameS.refl _, fun _ => ⟨h.1, h.2.1, by omega⟩⟩, fun _ => trivial⟩
  ·have h1 : ((tokAt T x.at_).kind != 1) = true := by simpa using hk
   have h2 : ((tokAt T x.at_).kind == 1) = false := by simpa using hk
   simp only [h1, cond_true, nameR, h2, Bool.and_false, cond_false]
   have hz : (failS T 2 x).fe ≠ 0 := fun h0 => failS_no (by decide) h0
   exact ⟨⟨.inr ⟨hz, rfl, rfl⟩, fun h0 => absurd h0 hz⟩, fun h0 => absurd h0 hz⟩
 have hc : AgS T s (colonS T x) (takeR T [58] (nameR T x).2) := ag_wants hT base.1 (z := [58]) (by decide)
 unfold typedS typedR
 by_cases hz : (colonS T x).fe = 0
 ·rw [if_neg (by simp [hz])]
  have hn := base.2 (Lv1.wants [58] _ hz).1
  rw [hc.1.eq hz, hn]
  have ho := ag_of hT hz (hc.2 hz) ha
  exact ⟨Same.of4 ho.1.st4 fun h0 => by rw [ho.1.eq h0], ho.2⟩
 ·rw [if_pos hz]
  have hy := hc.1.ne hz
  rw [ofR_failed hy]
  exact ⟨Same.of4 hc.1 fun h0 => absurd h0 hz, fun h0 => absurd h0 hz⟩
def Strict {α : Type} (T : List Tok) (s : St) (p : α × St) : Prop := p.2.fe = 0 → left T p.2 + 1 ≤ left T s
theorem ag_decl {s x : St} (hf : x.fe = 0) (h : x.opn = s.opn ∧ x.fa = s.fa ∧ left T x ≤ left T s) (ha : s.fa = 0) : Ag T s (declS T x) (declR T x) := by
 have ht := ag_typed hT hf h ha
 exact (ag_semi hT ht.st fun h0 => by rw [ht.1.eq h0]).1
theorem ag_lets {s x : St} (hf : x.fe = 0) (h : x.opn = s.opn ∧ x.fa = s.fa ∧ left T x ≤ left T s) (ha : s.fa = 0) (ho : 0 ≤ s.opn) : Ag T s (letsS T x) (letsR T x) := by
 have ht := ag_typed hT hf h ha
 have he := ag_expr hT (ag_wants hT ht.st (z := [61]) (by decide)) ha ho
 refine (ag_semi hT he.st fun h0 => ?_).1
 have h1 : (wantsS T [61] (typedS T x).2).2.fe = 0 := by
  by_cases hz : (wantsS T [61] (typedS T x).2).2.fe = 0
  ·exact hz
  ·rw [show exprP T (wantsS T [61] (typedS T x).2).2 = (.zero, (wantsS T [61] (typedS T x).2).2) by simp [exprP, hz]] at h0
   exact absurd h0 hz
 have h2 := (Lv1.wants [61] _ h1).1
 rw [he.1.eq h0, ht.1.eq h2]
theorem ag_print {s x : St} (h : AgS T s x x) (ha : s.fa = 0) (ho : 0 ≤ s.opn) : Ag T s (printS T x) (printR T x) := by
 have he := ag_expr hT h ha ho
 exact (ag_semi hT he.st fun h0 => by rw [he.1.eq h0]).1
omit hT in
theorem isR4 (s : St) (x : Bs) (h : kw x = 4) : isR T s x = isB T s 4 x := by rw [isR, h]
theorem ag_rets {s x : St} (h : AgS T s x x) (ha : s.fa = 0) (ho : 0 ≤ s.opn) : Ag T s (retsS T x) (retsR T x) := by
 unfold retsS retsR
 rw [isR4 x [59] (by decide)]
 cases isB T x 4 [59] with
 | true => exact (ag_semi hT h fun _ => rfl).1
 | false =>
  have he := ag_expr hT h ha ho
  exact (ag_semi hT he.st fun h0 => by rw [he.1.eq h0]).1
theorem ag_sets {s x : St} (h : AgS T s x x) (e : Ex) (ha : s.fa = 0) (ho : 0 ≤ s.opn) : Ag T s (setsS T e x) (setsR T e x) ∧ Strict T s (setsS T e x) := by
 have hb : AgS T s (bif exK e then failS T 2 x else x) (bif exK e then failS T 2 x else x) := by
  cases exK e with
  | false => exact h
  | true => exact ⟨SameS.refl _, fun h0 => (failS_no (T := T) (s := x) (e := 2) (by decide) h0).elim⟩
 have he := ag_expr hT (ag_wants hT hb (z := [61]) (by decide)) ha ho
 exact ag_semi hT he.st fun h0 => by rw [show exprQ T (eqR T e x) = exprP T (eqS T e x) from he.1.eq h0]
theorem ag_plain {s x : St} (h : AgS T s x x) (ha : s.fa = 0) (ho : 0 ≤ s.opn) : Ag T s (plainS T x) (plainR T x) ∧ Strict T s (plainS T x) := by
 have he := ag_expr hT h ha ho
 unfold plainS plainR
 rw [isR4 _ [61] (by decide), isR4 _ [59] (by decide)]
 by_cases hf : (exprP T x).2.fe = 0
 ·rw [he.1.eq hf]
  have hx : AgS T s (exprP T x).2 (exprP T x).2 := ⟨SameS.refl _, he.2⟩
  cases isB T (exprP T x).2 4 [61] with
  | true => exact ag_sets hT hx _ ha ho
  | false =>
   refine ag_semi hT ?_ fun _ => rfl
   cases (isB T (exprP T x).2 4 [59] && (exprP T x).1.kind != 7) with
   | false => exact hx
   | true => exact ⟨SameS.refl _, fun h0 => (failS_no (T := T) (s := (exprP T x).2) (e := 2) (by decide) h0).elim⟩
 ·have hy := he.1.st4.ne hf
  simp only [isB_failed hf, isB_failed hy, cond_false, Bool.false_and]
  exact ag_semi hT he.st fun h0 => absurd h0 hf
end
end Go.Proofs.Ytnjoomfeddamcaa

namespace Go.Proofs.Ytnjoomfeddamcaa
open Go.Ev
set_option linter.unusedSectionVars false
def StmtB (T : List Tok) (k : Nat) : Prop := ∀ s : St, s.fe = 0 → s.fa = 0 → 0 ≤ s.opn → left T s ≤ k → ∀ n n', 10 * k + 10 ≤ n → 10 * k + 10 ≤ n' → ∃ p q, stmtF T n s = some p ∧ stmtR T n' s = some q ∧ Ag T s p q ∧ Strict T s p
def BlockB (T : List Tok) (k : Nat) : Prop := ∀ s x y : St, AgS T s x y → s.fa = 0 → 0 ≤ s.opn → left T x ≤ k → ∀ n n', 10 * k + 5 ≤ n → 10 * k + 5 ≤ n' → ∃ p q, blockF T n x = some p ∧ blockR T n' y = some q ∧ Ag T s p q ∧ Strict T x p
section
variable {T : List Tok} (hT : T.length ≤ 20000000)
theorem until_failed {x : St} (h : x.fe ≠ 0) (n : Nat) (l : List Stm) : untilF T (n + 1) l x = some (l, x) := by
  have hb : (x.fe == 0) = false := by simpa using h
  simp [untilF, hb]
theorem loopR_failed {x : St} (h : x.fe ≠ 0) (n : Nat) (l : List Stm) : loopR T (n + 1) l x = some (l, x) := by
  have hb : (x.fe == 0) = false := by simpa using h
  simp [loopR, hb]
include hT
theorem ag_loop {K : Nat} (ih : ∀ j, j ≤ K → StmtB T j) : ∀ (c : Nat), c ≤ K → ∀ (s x y : St), AgS T s x y → s.fa = 0 → 0 ≤ s.opn → left T x ≤ c → ∀ n n', 10 * c + 12 ≤ n → 10 * c + 12 ≤ n' → ∀ l l', (x.fe = 0 → l' = l) →
    ∃ p q, untilF T n l x = some p ∧ loopR T n' l' y = some q ∧ Ag T s p q := by
  intro c
  induction c with
  | zero =>
    intro hc s x y h ha ho hl n n' hn hn' l l' he
    obtain ⟨n, rfl⟩ : ∃ m, n = m + 2 := ⟨n - 2, by omega⟩
    obtain ⟨n', rfl⟩ : ∃ m, n' = m + 2 := ⟨n' - 2, by omega⟩
    by_cases hf : x.fe = 0
    · obtain rfl := h.1.eq hf
      rw [he hf]
      obtain ⟨b1, b2, b3⟩ := h.2 hf
      have hb : (y.fe == 0) = true := by simp [hf]
      simp only [untilF, loopR, hb, isR4 y [125] (by decide), Bool.true_and]
      cases isB T y 4 [125] with
      | true => exact ⟨_, _, rfl, rfl, .inl ⟨hf, rfl⟩, h.2⟩
      | false =>
        simp only [Bool.not_false, cond_true]
        obtain ⟨p, q, h1, h2, h3, h4⟩ := ih 0 (by omega) y hf (b2.trans ha) (by rw [b1]; exact ho) hl (n + 1) (n' + 1) (by omega) (by omega)
        rw [h1, h2]
        simp only [Option.bind_some]
        have hp : p.2.fe ≠ 0 := fun h0 => by have := h4 h0; omega
        have hq := h3.1.st4.ne hp
        have u1 := until_failed (T := T) hp n (l ++ [p.1])
        have u2 := loopR_failed (T := T) hq n' (l ++ [q.1])
        simp only [untilF] at u1
        simp only [loopR] at u2
        rw [u1, u2]
        exact ⟨_, _, rfl, rfl, Same.of4 h3.1.st4 fun h0 => absurd h0 hp, fun h0 => absurd h0 hp⟩
    · exact ⟨_, _, until_failed hf _ _, loopR_failed (h.1.ne hf) _ _, Same.of4 h.1 fun h0 => absurd h0 hf, fun h0 => absurd h0 hf⟩
  | succ c ihc =>
    intro hc s x y h ha ho hl n n' hn hn' l l' he
    obtain ⟨n, rfl⟩ : ∃ m, n = m + 2 := ⟨n - 2, by omega⟩
    obtain ⟨n', rfl⟩ : ∃ m, n' = m + 2 := ⟨n' - 2, by omega⟩
    by_cases hf : x.fe = 0
    · obtain rfl := h.1.eq hf
      rw [he hf]
      obtain ⟨b1, b2, b3⟩ := h.2 hf
      have hb : (y.fe == 0) = true := by simp [hf]
      rw [untilF, loopR]
      simp only [hb, isR4 y [125] (by decide), Bool.true_and]
      cases isB T y 4 [125] with
      | true => exact ⟨_, _, rfl, rfl, .inl ⟨hf, rfl⟩, h.2⟩
      | false =>
        simp only [Bool.not_false, cond_true]
        obtain ⟨p, q, h1, h2, h3, h4⟩ := ih (c + 1) hc y hf (b2.trans ha) (by rw [b1]; exact ho) hl (n + 1) (n' + 1) (by omega) (by omega)
        rw [h1, h2]
        simp only [Option.bind_some]
        by_cases hp : p.2.fe = 0
        · have hq := h3.1.eq hp
          have hlt := h4 hp
          obtain ⟨d1, d2, d3⟩ := h3.2 hp
          rw [hq]
          exact ihc (by omega) s p.2 p.2 ⟨SameS.refl _, fun _ => ⟨d1.trans b1, d2.trans b2, Nat.le_trans d3 b3⟩⟩ ha ho (by omega) (n + 1) (n' + 1) (by omega) (by omega) _ _ fun _ => rfl
        · have hq := h3.1.st4.ne hp
          exact ⟨_, _, until_failed hp _ _, loopR_failed hq _ _, Same.of4 h3.1.st4 fun h0 => absurd h0 hp, fun h0 => absurd h0 hp⟩
    · exact ⟨_, _, until_failed hf _ _, loopR_failed (h.1.ne hf) _ _, Same.of4 h.1 fun h0 => absurd h0 hf, fun h0 => absurd h0 hf⟩
theorem ag_noblock {s x y : St} {e : Int} (he : e ≠ 0) (n' : Nat) (hF : SameS (failS T e x) (opensR T [123] y)) (hn : 2 ≤ n') :
    ∃ p q, some (([] : List Stm), failS T e x) = some p ∧ blockR T n' y = some q ∧ Ag T s p q ∧ Strict T x p := by
  obtain ⟨n', rfl⟩ : ∃ m, n' = m + 2 := ⟨n' - 2, by omega⟩
  have h1 : (failS T e x).fe ≠ 0 := fun h0 => failS_no he h0
  have h2 := hF.ne h1
  rw [blockR, loopR_failed h2, Option.bind_some]
  have h3 : closesR T [125] (opensR T [123] y) = outS (opensR T [123] y) := by
    simp only [closesR, takeR, isR_failed h2, cond_false, failS_failed h2]
  refine ⟨_, _, rfl, rfl, ⟨?_, fun h0 => absurd h0 h1⟩, fun h0 => absurd h0 h1⟩
  simp only [h3]
  rcases hF with hF | ⟨g1, g2, g3⟩
  · exact absurd hF.1 h1
  · exact .inr ⟨g1, g2, g3⟩
theorem ag_block {k : Nat} (ih : ∀ j, j < k → StmtB T j) : BlockB T k := by
  intro s x y h ha ho hl n n' hn hn'
  obtain ⟨n, rfl⟩ : ∃ m, n = m + 1 := ⟨n - 1, by omega⟩
  rw [blockF]
  by_cases hf : x.fe = 0
  · obtain rfl := h.1.eq hf
    obtain ⟨b1, b2, b3⟩ := h.2 hf
    cases hi : isB T y 4 [123] with
    | false =>
      refine ag_noblock hT (by decide) n' ?_ (by omega)
      have : opensR T [123] y = inS (failS T 2 y) := by simp [opensR, takeR, isR4 y [123] (by decide), hi]
      rw [this]
      exact .inr ⟨fun h0 => failS_no (by decide) h0, rfl, rfl⟩
    | true =>
      simp only [cond_true]
      by_cases h5 : 50 ≤ y.opn
      · rw [if_pos h5]
        refine ag_noblock hT (by decide) n' ?_ (by omega)
        have : opensR T [123] y = failS T 4 y := by simp [opensR, isR4 y [123] (by decide), hi, h5]
        rw [this]
        exact .refl _
      · rw [if_neg h5]
        have hop : opensR T [123] y = { y with at_ := w64 (y.at_ + 1), opn := w64 (y.opn + 1) } := by
          simp only [opensR, takeR, isR4 y [123] (by decide), hi, h5, decide_false, Bool.and_false, cond_false, cond_true]
          rfl
        have hk : 1 ≤ k := by
          have := left_is (T := T) (by omega) (s := y) (by decide) hi
          omega
        have hgo := left_is (T := T) (by omega) (s := y) (by decide) hi
        obtain ⟨n', rfl⟩ : ∃ m, n' = m + 1 := ⟨n' - 1, by omega⟩
        rw [blockR, hop]
        obtain ⟨c1, c2⟩ := w64_io (o := y.opn) (by rw [b1]; exact ho) (by omega)
        have hl1 : left T { y with at_ := w64 (y.at_ + 1), opn := w64 (y.opn + 1) } + 1 ≤ left T y := hgo
        obtain ⟨p, q, h1, h2, h3⟩ := ag_loop hT (K := k - 1) (fun j hj => ih j (by omega)) (k - 1) (Nat.le_refl _) { y with at_ := w64 (y.at_ + 1), opn := w64 (y.opn + 1) } _ _ ⟨SameS.refl _, fun _ => ⟨rfl, rfl, Nat.le_refl _⟩⟩ (b2.trans ha) (by show (0 : Int) ≤ w64 (y.opn + 1); rw [c1, b1]; omega) (by omega) n n' (by omega) (by omega) [] [] fun _ => rfl
        rw [h1, h2]
        simp only [Option.bind_some]
        have hcl := closes_same (T := T) h3.1.st4 (x := [125]) (by decide)
        have hcl' : SameS (wantsS T [125] (outS p.2)).2 (closesR T [125] q.2) := hcl
        refine ⟨_, _, rfl, rfl, ⟨Same.of4 hcl' fun h0 => ?_, fun h0 => ?_⟩, fun h0 => ?_⟩
        · have := (Lv1.wants [125] _ h0).1
          rw [h3.1.eq this]
        · obtain ⟨d1, d2, d3⟩ := Lv1.wants [125] _ h0
          obtain ⟨e1, e2, e3⟩ := h3.2 d1
          refine ⟨?_, d3.trans (e2.trans b2), ?_⟩
          · rw [d2]
            show w64 (p.2.opn - 1) = s.opn
            rw [e1]
            show w64 (w64 (y.opn + 1) - 1) = s.opn
            rw [c1, c2, b1]
          · have hw := left_wants (T := T) (by omega) (outS p.2) [125]
            rw [left_out] at hw
            have hs : left T (wantsS T [125] (outS p.2)).2 ≤ left T s := by omega
            exact hs
        · obtain ⟨d1, d2, d3⟩ := Lv1.wants [125] _ h0
          obtain ⟨e1, e2, e3⟩ := h3.2 d1
          have hw := left_wants (T := T) (by omega) (outS p.2) [125]
          rw [left_out] at hw
          have hs : left T (wantsS T [125] (outS p.2)).2 + 1 ≤ left T y := by omega
          exact hs
  · rw [isB_failed hf, cond_false]
    refine ag_noblock hT (by decide) n' ?_ (by omega)
    have hy := h.1.ne hf
    have : opensR T [123] y = inS y := by simp [opensR, takeR, isR_failed hy, failS_failed hy]
    rw [this, failS_failed hf]
    rcases h.1 with h1 | ⟨g1, g2, g3⟩
    · exact absurd h1.1 hf
    · exact .inr ⟨g1, g2, g3⟩
omit hT in
theorem kindW {s : St} (hf : s.fe = 0) {x : Bs} (hx : kw x = 3) : isR T s x = ((tokAt T s.at_).kind == 3 && (tokAt T s.at_).text == x) := by
  simp [isR, hx, isB, hf]
theorem ag_at {s : St} {p q : Stm × St} (pos : Int) (h : Ag T s p q) : Ag T s (p.1.at pos, p.2) (q.1.at pos, q.2) := ⟨Same.of4 h.1.st4 fun h0 => by rw [h.1.eq h0], h.2⟩
theorem ag_stmt {k : Nat} (ihB : ∀ j, j < k → BlockB T j) : StmtB T k := by
  intro s hf ha ho hl n n' hn hn'
  obtain ⟨n, rfl⟩ : ∃ m, n = m + 2 := ⟨n - 2, by omega⟩
  obtain ⟨n', rfl⟩ : ∃ m, n' = m + 2 := ⟨n' - 2, by omega⟩
  have self : AgS T s s s := ⟨SameS.refl _, fun _ => ⟨rfl, rfl, Nat.le_refl _⟩⟩
  rw [stmtF, stmtR]
  simp only [kindW hf (x := [118, 97, 114]) (by decide), kindW hf (x := [108, 101, 116]) (by decide), kindW hf (x := [105, 102]) (by decide), kindW hf (x := [119, 104, 105, 108, 101]) (by decide), kindW hf (x := [114, 101, 116, 117, 114, 110]) (by decide), kindW hf (x := [112, 114, 105, 110, 116]) (by decide)]
  have plain : ∃ p q, (some (plainS T s)).bind (fun p => some (p.1.at (tokAt T s.at_).pos, p.2)) = some p ∧ (some (plainR T s)).bind (fun p => some (p.1.at (tokAt T s.at_).pos, p.2)) = some q ∧ Ag T s p q ∧ Strict T s p := by
    obtain ⟨h1, h2⟩ := ag_plain hT self ha ho
    exact ⟨_, _, rfl, rfl, ag_at hT _ h1, h2⟩
  cases hk : (tokAt T s.at_).kind == 3 with
  | false =>
    simp only [cond_false, Bool.false_and, Bool.or_self]
    exact plain
  | true =>
    simp only [cond_true, Bool.true_and]
    have hk3 : (tokAt T s.at_).kind = 3 := by simpa using hk
    have hg := left_go (T := T) (by omega) hf (by rw [hk3]; decide)
    have gs : AgS T (goS s) (goS s) (goS s) := ⟨SameS.refl _, fun _ => ⟨rfl, rfl, Nat.le_refl _⟩⟩
    have up : ∀ {p q : Stm × St}, Ag T (goS s) p q → ∃ p' q', (some p).bind (fun p => some (p.1.at (tokAt T s.at_).pos, p.2)) = some p' ∧ (some q).bind (fun p => some (p.1.at (tokAt T s.at_).pos, p.2)) = some q' ∧ Ag T s p' q' ∧ Strict T s p' := fun {p q} h => by
      refine ⟨_, _, rfl, rfl, ag_at hT _ ⟨h.1, fun h0 => ?_⟩, fun h0 => ?_⟩
      · obtain ⟨e1, e2, e3⟩ := h.2 h0
        exact ⟨e1, e2, by omega⟩
      · obtain ⟨e1, e2, e3⟩ := h.2 h0
        show left T p.2 + 1 ≤ left T s
        omega
    have gok := gs.2 hf
    cases t1 : (tokAt T s.at_).text == [118, 97, 114] with
    | true =>
      have t2 : ((tokAt T s.at_).text == [108, 101, 116]) = false := by
        have : (tokAt T s.at_).text = [118, 97, 114] := by simpa using t1
        rw [this]; rfl
      simp only [cond_true, Bool.true_or, t2, cond_false]
      exact up (ag_decl hT hf gok ha)
    | false =>
      simp only [cond_false, Bool.false_or]
      cases t2 : (tokAt T s.at_).text == [108, 101, 116] with
      | true =>
        simp only [cond_true]
        exact up (ag_lets hT hf gok ha ho)
      | false =>
        simp only [cond_false]
        cases t3 : (tokAt T s.at_).text == [105, 102] with
        | true =>
          simp only [cond_true]
          have he := ag_expr hT gs ha ho
          rw [chooseF]
          have hle : left T (exprP T (goS s)).2 ≤ k - 1 := by
            by_cases h0 : (exprP T (goS s)).2.fe = 0
            · have := (he.2 h0).2.2; omega
            · rw [left_failed h0]; omega
          obtain ⟨p, q, h1, h2, h3, h4⟩ := ihB (k - 1) (by omega) (goS s) _ _ he.st ha ho hle n (n' + 1) (by omega) (by omega)
          rw [h1, h2]
          simp only [Option.bind_some]
          by_cases hp : p.2.fe = 0
          · have hq := h3.1.eq hp
            have hst := h4 hp
            have hee : (exprP T (goS s)).2.fe = 0 := by
              by_cases h0 : (exprP T (goS s)).2.fe = 0
              · exact h0
              · rw [left_failed h0] at hst; omega
            rw [hq, he.1.eq hee, kindW hp (x := [101, 108, 115, 101]) (by decide)]
            have hbb : isB T p.2 3 [101, 108, 115, 101] = ((tokAt T p.2.at_).kind == 3 && (tokAt T p.2.at_).text == [101, 108, 115, 101]) := by simp [isB, hp]
            rw [← hbb]
            cases hel : isB T p.2 3 [101, 108, 115, 101] with
            | false =>
              simp only [cond_false]
              exact up ⟨.inl ⟨hp, rfl⟩, h3.2⟩
            | true =>
              simp only [cond_true]
              have hg2 := left_is (T := T) (by omega) (s := p.2) (by decide) hel
              obtain ⟨f1, f2, f3⟩ := h3.2 hp
              obtain ⟨p2, q2, g1, g2, g3, g4⟩ := ihB (k - 1) (by omega) (goS s) (goS p.2) (goS p.2) ⟨SameS.refl _, fun _ => ⟨f1, f2, by omega⟩⟩ ha ho (by omega) n (n' + 1) (by omega) (by omega)
              rw [g1, g2]
              simp only [Option.bind_some]
              refine up (p := (Stm.mk { kind := 5 } [(exprP T (goS s)).1] p.1 p2.1, p2.2)) (q := (Stm.mk { kind := 5 } [(exprP T (goS s)).1] p.1 q2.1, q2.2)) ?_
              exact ⟨Same.of4 g3.1.st4 fun h0 => by simp only [g3.1.eq h0], g3.2⟩
          · have hq := h3.1.st4.ne hp
            rw [isB_failed hp, isR_failed hq]
            simp only [cond_false]
            exact up ⟨Same.of4 h3.1.st4 fun h0 => absurd h0 hp, fun h0 => absurd h0 hp⟩
        | false =>
          simp only [cond_false]
          cases t4 : (tokAt T s.at_).text == [119, 104, 105, 108, 101] with
          | true =>
            simp only [cond_true]
            have he := ag_expr hT gs ha ho
            rw [repeatF]
            have hle : left T (exprP T (goS s)).2 ≤ k - 1 := by
              by_cases h0 : (exprP T (goS s)).2.fe = 0
              · have := (he.2 h0).2.2; omega
              · rw [left_failed h0]; omega
            obtain ⟨p, q, h1, h2, h3, h4⟩ := ihB (k - 1) (by omega) (goS s) _ _ he.st ha ho hle n (n' + 1) (by omega) (by omega)
            rw [h1, h2]
            simp only [Option.bind_some]
            refine up (p := (Stm.mk { kind := 6 } [(exprP T (goS s)).1] p.1 [], p.2)) (q := (Stm.mk { kind := 6 } [(exprQ T (goS s)).1] q.1 [], q.2)) ?_
            refine ⟨Same.of4 h3.1.st4 fun h0 => ?_, h3.2⟩
            have hst := h4 h0
            have hee : (exprP T (goS s)).2.fe = 0 := by
              by_cases h9 : (exprP T (goS s)).2.fe = 0
              · exact h9
              · rw [left_failed h9] at hst; omega
            simp only [h3.1.eq h0, he.1.eq hee]
          | false =>
            simp only [cond_false]
            cases t5 : (tokAt T s.at_).text == [114, 101, 116, 117, 114, 110] with
            | true =>
              simp only [cond_true]
              exact up (ag_rets hT gs ha ho)
            | false =>
              simp only [cond_false]
              cases t6 : (tokAt T s.at_).text == [112, 114, 105, 110, 116] with
              | true =>
                simp only [cond_true]
                exact up (ag_print hT gs ha ho)
              | false =>
                simp only [cond_false]
                exact plain
theorem stmtB : ∀ k, StmtB T k := by
  intro k
  induction k using Nat.strongRecOn with
  | _ k ih => exact ag_stmt hT fun j hj => ag_block hT fun i hi => ih i (by omega)
theorem blockB (k : Nat) : BlockB T k := ag_block hT fun j _ => stmtB hT j
theorem both_stmt (at_ opn : Int) : ∃ p q, stmtF T 800000000 (startS at_ opn) = some p ∧ stmtR T 800000000 (startS at_ opn) = some q ∧ parseM q.1 q.2 = parseM p.1 p.2 ∧ Ag T (startS at_ opn) p q ∧ Strict T (startS at_ opn) p := by
  have ho : (0 : Int) ≤ (startS at_ opn).opn := by
    show (0 : Int) ≤ if opn < 0 then 0 else opn
    split <;> omega
  obtain ⟨p, q, h1, h2, h3, h4⟩ := stmtB hT T.length (startS at_ opn) rfl rfl ho (left_le _ _) 800000000 800000000 (by omega) (by omega)
  refine ⟨p, q, h1, h2, ?_, h3, h4⟩
  rcases h3.1 with ⟨h, rfl⟩ | ⟨h, ha, hb⟩
  · rfl
  · have h' : ¬ q.2.fe = 0 := by rw [ha]; exact h
    simp only [parseM, if_neg h, if_neg h', ha, hb]
theorem both_block (at_ opn : Int) : ∃ p q, blockF T 800000000 (startS at_ opn) = some p ∧ blockR T 800000000 (startS at_ opn) = some q ∧ parseB q.1 q.2 = parseB p.1 p.2 ∧ Ag T (startS at_ opn) p q := by
  have ho : (0 : Int) ≤ (startS at_ opn).opn := by
    show (0 : Int) ≤ if opn < 0 then 0 else opn
    split <;> omega
  obtain ⟨p, q, h1, h2, h3, -⟩ := blockB hT T.length (startS at_ opn) _ _ ⟨SameS.refl _, fun _ => ⟨rfl, rfl, Nat.le_refl _⟩⟩ rfl ho (left_le _ _) 800000000 800000000 (by omega) (by omega)
  refine ⟨p, q, h1, h2, ?_, h3⟩
  rcases h3.1 with ⟨h, rfl⟩ | ⟨h, ha, hb⟩
  · rfl
  · have h' : ¬ q.2.fe = 0 := by rw [ha]; exact h
    simp only [parseB, if_neg h, if_neg h', ha, hb]
end
end Go.Proofs.Ytnjoomfeddamcaa

namespace Go.Proofs.Ytnjoomfeddamcaa
open Go.Ev
inductive Parts (T : List Tok) : Int → List Stm → Int → Prop
 | nil (a : Int) : Parts T a [] a
 | cons {a a' b : Int} {m : Stm} {ms : List Stm} {n : Nat} (hn : n ≤ 900000000) (h : stmtF T n ⟨a, 1, 0, 0⟩ = some (m, ⟨a', 1, 0, 0⟩)) (hlt : a < a') (ht : Parts T a' ms b) : Parts T a (m :: ms) b
theorem left_in1 {T : List Tok} {a o : Int} (h : 1 ≤ left T ⟨a, o, 0, 0⟩) : 0 ≤ a ∧ a < T.length ∧ (left T ⟨a, o, 0, 0⟩ : Int) = T.length - a := by
 unfold left at h ⊢
 split at h
 ·rename_i hc
  rw [if_pos hc]
  obtain ⟨-, h1, h2⟩ := hc
  simp only at h1 h2
  refine ⟨h1, h2, ?_⟩
  simp only
  omega
 ·omega
theorem parts_of {T : List Tok} (hT : T.length ≤ 20000000) : ∀ (c n : Nat) (a : Int) (l0 l : List Stm) (t : St), untilF T n l0 ⟨a, 1, 0, 0⟩ = some (l, t) → t.fe = 0 → left T ⟨a, 1, 0, 0⟩ ≤ c → 10 * c + 12 ≤ n → n ≤ 900000000 →
  ∃ ms b, l = l0 ++ ms ∧ t = ⟨b, 1, 0, 0⟩ ∧ Parts T a ms b ∧ 1 ≤ left T ⟨a, 1, 0, 0⟩ := by
 intro c
 induction c with
 | zero =>
  intro n a l0 l t h hf hl hn hn'
  obtain ⟨n, rfl⟩ : ∃ m, n = m + 2 := ⟨n - 2, by omega⟩
  rw [untilF] at h
  cases hb : isB T ⟨a, 1, 0, 0⟩ 4 [125] with
  | true =>
   have := left_is (T := T) (by omega) (s := ⟨a, 1, 0, 0⟩) (by decide) hb
   omega
  | false =>
   simp only [hb, beq_self_eq_true, Bool.not_false, Bool.and_self, cond_true] at h
   obtain ⟨p, h1, h2⟩ := bindS h
   obtain ⟨p', q, g1, g2, g3, g4⟩ := stmtB hT 0 ⟨a, 1, 0, 0⟩ rfl rfl (by show (0 : Int) ≤ 1; omega) hl (n + 1) (n + 1) (by omega) (by omega)
   rw [h1] at g1
   cases g1
   by_cases hp : p.2.fe = 0
   ·have := g4 hp; omega
   ·rw [until_failed hp] at h2
    cases h2
    exact absurd hf hp
 | succ c ih =>
  intro n a l0 l t h hf hl hn hn'
  obtain ⟨n, rfl⟩ : ∃ m, n = m + 2 := ⟨n - 2, by omega⟩
  rw [untilF] at h
  cases hb : isB T ⟨a, 1, 0, 0⟩ 4 [125] with
  | true =>
   have := left_is (T := T) (by omega) (s := ⟨a, 1, 0, 0⟩) (by decide) hb
   simp only [hb, beq_self_eq_true, Bool.not_true, Bool.and_false, cond_false, Option.some.injEq, Prod.mk.injEq] at h
   obtain ⟨rfl, rfl⟩ := h
   exact ⟨[], a, by simp, rfl, .nil a, by omega⟩
  | false =>
   simp only [hb, beq_self_eq_true, Bool.not_false, Bool.and_self, cond_true] at h
   obtain ⟨p, h1, h2⟩ := bindS h
   obtain ⟨p', q, g1, g2, g3, g4⟩ := stmtB hT (c + 1) ⟨a, 1, 0, 0⟩ rfl rfl (by show (0 : Int) ≤ 1; omega) hl (n + 1) (n + 1) (by omega) (by omega)
   rw [h1] at g1
   cases g1
   by_cases hp : p.2.fe = 0
   ·have hlt := g4 hp
    obtain ⟨e1, e2, e3⟩ := g3.2 hp
    obtain ⟨m, s1⟩ := p
    obtain ⟨a', o', f', g'⟩ := s1
    simp only at hp e1 e2 hlt h2
    subst hp e1 e2
    obtain ⟨ms, b, k1, k2, k3, k4⟩ := ih (n + 1) a' (l0 ++ [m]) l t h2 hf (by omega) (by omega) (by omega)
    have i1 := left_in1 (T := T) (a := a) (o := 1) (by omega)
    have i2 := left_in1 k4
    refine ⟨m :: ms, b, by rw [k1]; simp, k2, .cons (n := n + 1) (by omega) h1 (by omega) k3, by omega⟩
   ·rw [until_failed hp] at h2
    cases h2
    exact absurd hf hp
theorem block_parts {T : List Tok} (hT : T.length ≤ 20000000) {l : List Stm} {s : St} (h : blockF T 800000000 (startS 0 0) = some (l, s)) (hf : s.fe = 0) : ∃ b, Parts T 1 l b ∧ s.at_ = w64 (b + 1) ∧ 0 ≤ b ∧ b < T.length := by
 have hs0 : startS 0 0 = ⟨0, 0, 0, 0⟩ := by simp [startS]
 rw [hs0, show 800000000 = 799999999 + 1 from rfl, blockF] at h
 cases hb : isB T ⟨0, 0, 0, 0⟩ 4 [123] with
 | false =>
  rw [hb, cond_false] at h
  cases h
  exact (failS_no (by decide) hf).elim
 | true =>
  rw [hb, cond_true, if_neg (by decide)] at h
  obtain ⟨p, h1, h2⟩ := bindS h
  cases h2
  obtain ⟨w1, -, -⟩ := Lv1.wants (T := T) [125] (outS p.2) hf
  have hin : (⟨w64 (0 + 1), w64 (0 + 1), 0, 0⟩ : St) = ⟨1, 1, 0, 0⟩ := by
   have : w64 (0 + 1) = 1 := wrap_i64 (by omega) (by omega)
   rw [this]
  simp only [hin] at h1
  obtain ⟨ms, b, k1, k2, k3, k4⟩ := parts_of hT T.length 799999999 1 [] p.1 p.2 h1 w1 (left_le _ _) (by omega) (by omega)
  have hc : isB T (outS p.2) 4 [125] = true := by
   cases hc : isB T (outS p.2) 4 [125] with
   | true => rfl
   | false =>
    have : (wantsS T [125] (outS p.2)).2 = failS T 2 (outS p.2) := by simp [wantsS, hc]
    rw [this] at hf
    exact (failS_no (by decide) hf).elim
  have hw : (wantsS T [125] (outS p.2)).2 = goS (outS p.2) := by simp [wantsS, hc]
  have hl := left_is (T := T) (by omega) (s := outS p.2) (by decide) hc
  rw [k2] at hl hw hc
  have h0 : left T (outS ⟨b, 1, 0, 0⟩) = left T ⟨b, 1, 0, 0⟩ := rfl
  have i := left_in1 (T := T) (a := b) (o := 1) (by omega)
  refine ⟨b, ?_, ?_, i.1, i.2.1⟩
  ·have : p.1 = ms := by simpa using k1
   rw [this]; exact k3
  ·rw [k2, hw]; rfl
end Go.Proofs.Ytnjoomfeddamcaa

namespace Go.Proofs.Ytnjoomfeddamcaa
open Go.Ev
def Sa.cells (a : Sa) (ev bv cv : AV) : List AV := [.int .i64 a.kind, .str a.name, .str a.ofn, .int .i64 a.ofd, ev, bv, cv, .int .i64 a.pos, .int .i64 a.ref]
mutual
def StV (H : AHeap) (ok : Nat → Prop) : Stm → AV → Prop
 | .mk a es b c, v => ∃ ev bv cv, v = .agg (a.cells ev bv cv) ∧ KsV H ok es ev ∧
   ((bv = .nilSl ∧ b.length = 0) ∨ (∃ l i cap ro els, bv = .sl l i b.length 9 (Option.map (· + b.length) cap) ∧ ok l ∧ H.get l = some (.row ro 9 els) ∧ SlsV H ok b (els.drop i)) ∨ ∃ l i cap, bv = .sl l i 0 9 cap ∧ b.length = 0) ∧
   ((cv = .nilSl ∧ c.length = 0) ∨ (∃ l i cap ro els, cv = .sl l i c.length 9 (Option.map (· + c.length) cap) ∧ ok l ∧ H.get l = some (.row ro 9 els) ∧ SlsV H ok c (els.drop i)) ∨ ∃ l i cap, cv = .sl l i 0 9 cap ∧ c.length = 0)
def SlsV (H : AHeap) (ok : Nat → Prop) : List Stm → List (List AV) → Prop
 | [], _ => True
 | _ :: _, [] => False
 | e :: es, cs :: css => StV H ok e (.agg cs) ∧ SlsV H ok es css
end
def SsV (H : AHeap) (ok : Nat → Prop) (b : List Stm) (bv : AV) : Prop := (bv = .nilSl ∧ b.length = 0) ∨ (∃ l i cap ro els, bv = .sl l i b.length 9 (Option.map (· + b.length) cap) ∧ ok l ∧ H.get l = some (.row ro 9 els) ∧ SlsV H ok b (els.drop i)) ∨ ∃ l i cap, bv = .sl l i 0 9 cap ∧ b.length = 0
theorem StV_mk {H : AHeap} {ok : Nat → Prop} {a : Sa} {es : List Ex} {b c : List Stm} {v : AV} : StV H ok (.mk a es b c) v ↔ ∃ ev bv cv, v = .agg (a.cells ev bv cv) ∧ KsV H ok es ev ∧ SsV H ok b bv ∧ SsV H ok c cv := by
 rw [StV]; rfl
structure KeepS (H : AHeap) (ok : Nat → Prop) (H' : AHeap) (ok' : Nat → Prop) : Prop where
 ex : Keep H ok H' ok'
 st : ∀ l ro els, ok l → H.get l = some (.row ro 9 els) → ok' l ∧ H'.get l = some (.row ro 9 els)
section
variable {H H' : AHeap} {ok ok' : Nat → Prop}
mutual
theorem StV.keep (p : KeepS H ok H' ok') : ∀ (e : Stm) (v : AV), StV H ok e v → StV H' ok' e v
 | .mk a es b c, v, h => by
  rw [StV] at h ⊢
  obtain ⟨ev, bv, cv, h1, h2, h3, h4⟩ := h
  refine ⟨ev, bv, cv, h1, h2.keep p.ex, ?_, ?_⟩
  ·rcases h3 with h3 | ⟨l, i, cap, ro, els, e1, e2, e3, e4⟩ | h3
   ·exact .inl h3
   ·obtain ⟨q1, q2⟩ := p.st l ro els e2 e3
    exact .inr (.inl ⟨l, i, cap, ro, els, e1, q1, q2, SlsV.keep p b _ e4⟩)
   ·exact .inr (.inr h3)
  ·rcases h4 with h3 | ⟨l, i, cap, ro, els, e1, e2, e3, e4⟩ | h3
   ·exact .inl h3
   ·obtain ⟨q1, q2⟩ := p.st l ro els e2 e3
    exact .inr (.inl ⟨l, i, cap, ro, els, e1, q1, q2, SlsV.keep p c _ e4⟩)
   ·exact .inr (.inr h3)
theorem SlsV.keep (p : KeepS H ok H' ok') : ∀ (es : List Stm) (cs : List (List AV)), SlsV H ok es cs → SlsV H' ok' es cs
 | [], _, _ => by rw [SlsV]; trivial
 | e :: es, [], h => by rw [SlsV] at h; exact h.elim
 | e :: es, cs :: css, h => by
  rw [SlsV] at h ⊢
  exact ⟨StV.keep p e _ h.1, SlsV.keep p es css h.2⟩
end
theorem SsV.keep (p : KeepS H ok H' ok') {b : List Stm} {v : AV} (h : SsV H ok b v) : SsV H' ok' b v := by
 rcases h with h3 | ⟨l, i, cap, ro, els, e1, e2, e3, e4⟩ | h3
 ·exact .inl h3
 ·obtain ⟨q1, q2⟩ := p.st l ro els e2 e3
  exact .inr (.inl ⟨l, i, cap, ro, els, e1, q1, q2, SlsV.keep p b _ e4⟩)
 ·exact .inr (.inr h3)
theorem KeepS.mut {r : Nat} (m : Mt r H H') (hr : ¬ ok r) (hl : ∀ l, ok l → ok' l) : KeepS H ok H' ok' := ⟨Keep.mut m hr hl, fun l ro els h e => ⟨hl l h, m.get e (by rintro rfl; exact hr h)⟩⟩
theorem KeepS.pur (m : Pur H H') (hl : ∀ l, ok l → ok' l) : KeepS H ok H' ok' := ⟨Keep.pur m hl, fun l ro els h e => ⟨hl l h, m.get e⟩⟩
theorem KeepS.set {l : Nat} (b : ABlk) (h : ¬ ok l) (hl : ∀ l, ok l → ok' l) : KeepS H ok (H.set l b) ok' := ⟨Keep.set b h hl, fun j ro els hj e => ⟨hl j hj, by rw [AHeap.get_set_other (by rintro rfl; exact h hj)]; exact e⟩⟩
theorem KeepS.le' (h : ∀ l, ok l → ok' l) : KeepS H ok H ok' := ⟨Keep.le' h, fun l ro els hl e => ⟨h l hl, e⟩⟩
theorem SsV.oneAV {b : List Stm} {v : AV} (h : SsV H ok b v) : v.one = true := by
 rcases h with ⟨rfl, _⟩ | ⟨l, i, cap, ro, els, rfl, _⟩ | ⟨l, i, cap, rfl, _⟩ <;> rfl
theorem SsV.nil (H : AHeap) (ok : Nat → Prop) : SsV H ok [] .nilSl := .inl ⟨rfl, rfl⟩
theorem StV.cells {e : Stm} {v : AV} (h : StV H ok e v) : ∃ cs, v = .agg cs ∧ cs.length = 9 ∧ cs.all AV.one = true := by
 cases e with | mk a es b c =>
 rw [StV_mk] at h
 obtain ⟨ev, bv, cv, rfl, h1, h2, h3⟩ := h
 refine ⟨_, rfl, rfl, ?_⟩
 simp only [Sa.cells, List.all_cons, List.all_nil, one_int, one_str, h1.oneAV, h2.oneAV, h3.oneAV, Bool.and_self]
theorem StV.leaf (H : AHeap) (ok : Nat → Prop) (a : Sa) : StV H ok (.mk a [] [] []) (.agg (a.cells .nilSl .nilSl .nilSl)) :=
 StV_mk.2 ⟨_, _, _, rfl, .inl ⟨rfl, rfl⟩, .inl ⟨rfl, rfl⟩, .inl ⟨rfl, rfl⟩⟩
theorem StV.mut {r : Nat} {e : Stm} {v : AV} (h : StV H ok e v) (m : Mt r H H') (hr : ¬ ok r) (hl : ∀ l, ok l → ok' l) : StV H' ok' e v := StV.keep (KeepS.mut m hr hl) e v h
theorem KeepS.new {n : Nat} (m : Mut (· < n) H H') (hl : ∀ l, n ≤ l → ok l) : KeepS H (Ge n) H' ok :=
 ⟨fun l ro els hl' g => ⟨hl l hl', m.get g (Nat.not_lt.2 hl')⟩, fun l ro els hl' g => ⟨hl l hl', m.get g (Nat.not_lt.2 hl')⟩⟩
end
def QostM (ok : Nat → Prop) (H : AHeap) (r : Nat) (T : List Tok) (tv : AV) (e : Stm) (s' : St) (v : AV) (H' : AHeap) : Prop := Mt r H H' ∧ Ry H' r T tv s' ∧ StV H' ok e v
abbrev QostS (H : AHeap) := QostM (Ge H.next) H
theorem QostS.fin {H Hf : AHeap} {r : Nat} {T : List Tok} {tv : AV} {s s' : St} {a : Sa} {es : List Ex} {b c : List Stm} {ev bv cv : AV} {x lo : Nat} (hx : Ry H r T tv s) (m : Mt r H Hf) (hd : Rd5 Hf r tv s') (h1 : KsV Hf (Ge lo) es ev) (h2 : SsV Hf (Ge lo) b bv) (h3 : SsV Hf (Ge lo) c cv) (hb : H.next ≤ x) (hlo : x < lo) (blk : ABlk) :
  QostS H r T tv (.mk a es b c) s' (.agg (a.cells ev bv cv)) (Hf.set x blk) := by
 have hl := hx.rd.lt
 have m' := m.then_set (.inr hb) blk
 have k : KeepS Hf (Ge lo) (Hf.set x blk) (Ge H.next) := KeepS.set _ (by unfold Ge; omega) fun l hl => by unfold Ge at *; omega
 refine ⟨m', hx.mut m' ?_, StV_mk.2 ⟨ev, bv, cv, rfl, h1.keep k.ex, h2.keep k, h3.keep k⟩⟩
 unfold Rd5 at hd ⊢
 rw [AHeap.get_set_other (by omega)]; exact hd
theorem QostS.ret {H H2 : AHeap} {r : Nat} {T : List Tok} {tv : AV} {s s' : St} {e : Stm} {v : AV} {b n : Nat} (hx : Ry H r T tv s) (m : Mt r H H2) (hd : Rd5 H2 r tv s') (hb : H.next ≤ b) (he : StV H2 (Ge n) e v) (hn : b < n) (blk : ABlk) : QostS H r T tv e s' v (H2.set b blk) := by
 have hl := hx.rd.lt
 have m' := m.then_set (.inr hb) blk
 refine ⟨m', hx.mut m' ?_, StV.keep (KeepS.set _ (by unfold Ge; omega) fun l hl => by unfold Ge at *; omega) e v he⟩
 unfold Rd5 at hd ⊢
 rw [AHeap.get_set_other (by omega)]; exact hd
theorem Stm.at_cells (a : Sa) (p : Int) (ev bv cv : AV) : Sa.cells { a with pos := p } ev bv cv = [.int .i64 a.kind, .str a.name, .str a.ofn, .int .i64 a.ofd, ev, bv, cv, .int .i64 p, .int .i64 a.ref] := rfl
theorem StV.at {H : AHeap} {ok : Nat → Prop} {e : Stm} {cs : List AV} (h : StV H ok e (.agg cs)) (p : Int) : StV H ok (e.at p) (.agg (cs.set 7 (.int .i64 p))) := by
 cases e with | mk a es b c =>
 rw [StV_mk] at h
 obtain ⟨ev, bv, cv, h0, h1, h2, h3⟩ := h
 cases h0
 exact StV_mk.2 ⟨ev, bv, cv, rfl, h1, h2, h3⟩
set_option linter.defProp false
def tyC := And.intro ta54 (And.intro ts54 (And.intro ta50 ts50))
end Go.Proofs.Ytnjoomfeddamcaa


/-
  Texts of one proof, laid together: E1 E2 E3 Z12 E4.
-/
import Derived.Test.YtnjoomfeddamcaaMJ
import Derived.Test.YtnjoomfeddamcaaMK
import Derived.Test.YtnjoomfeddamcaaMH
import Derived.Test.YtnjoomfeddamcaaMI
import Derived.Test.YtnjoomfeddamcaaME
set_option linter.unusedVariables false
set_option linter.unusedSimpArgs false
namespace Go.Proofs.Ytnjoomfeddamcaa
open Go.Ev
theorem map_and2 (x y : Bool) : Option.map AV.bool (bif x then (bif y then some true else some false) else some false) = some (.bool (x && y)) := by cases x <;> cases y <;> rfl
theorem map_and3 (x y z : Bool) : Option.map AV.bool (bif x then (bif y then (bif z then some true else some false) else some false) else some false) = some (.bool (x && (y && z))) := by cases x <;> cases y <;> cases z <;> rfl
theorem eq32 {c : Bool} (a a' : List UInt8) (b b' : Int) : fbin P .eql 32 c (.agg [.str a, .int .i64 b]) (.agg [.str a', .int .i64 b']) = some (.bool (a == a' && b == b')) :=
  Eq.trans (by kernel_rfl) (map_and2 (a == a') (b == b'))
theorem eq25 {c : Bool} (a a' : Int) (b b' : Int) : fbin P .eql 25 c (.agg [.int .i64 a, .int .i64 b]) (.agg [.int .i64 a', .int .i64 b']) = some (.bool (a == a' && b == b')) :=
  Eq.trans (by kernel_rfl) (map_and2 (a == a') (b == b'))
theorem eq37 {c : Bool} (a a' : Int) (b b' : Int) (d d' : Int) : fbin P .eql 37 c (.agg [.int .i64 a, .int .i64 b, .int .i64 d]) (.agg [.int .i64 a', .int .i64 b', .int .i64 d']) = some (.bool (a == a' && (b == b' && d == d'))) :=
  Eq.trans (by kernel_rfl) (map_and3 (a == a') (b == b') (d == d'))
theorem rdIs3 (a b c : Int) : rdIs (some (.agg [.int .i64 a, .int .i64 b, .int .i64 c])) (.agg [.int .i64 a, .int .i64 b, .int .i64 c]) = true := by simp [rdIs, AV.beq, AVs.beq]
mutual
def sameE : Ex → Ex → Bool
  | .mk a ks, .mk b ls => a.kind == b.kind && (a.n == b.n && (a.name == b.name && ((a.ofn == b.ofn && a.ofd == b.ofd) && ((a.tb == b.tb && (a.tr == b.tr && a.td == b.td)) && (a.ref == b.ref && sameL ks ls)))))
def sameL : List Ex → List Ex → Bool
  | [], [] => true
  | [], _ :: _ => false
  | _ :: _, [] => false
  | e :: es, f :: fs => sameE e f && sameL es fs
end
mutual
def Sm (B : Nat) : Ex → Prop
  | .mk _ ks => ks.length ≤ B ∧ SmL B ks
def SmL (B : Nat) : List Ex → Prop
  | [] => True
  | e :: es => Sm B e ∧ SmL B es
end
theorem sameL_length : ∀ (es fs : List Ex), es.length ≠ fs.length → sameL es fs = false
  | [], [], h => absurd rfl h
  | [], _ :: _, _ => by rw [sameL]
  | _ :: _, [], _ => by rw [sameL]
  | e :: es, f :: fs, h => by rw [sameL, sameL_length es fs (by simpa using h), Bool.and_false]
theorem KsV.oneAV {H : AHeap} {ok : Nat → Prop} {ks : List Ex} {kv : AV} (h : KsV H ok ks kv) : kv.one = true := by
  rcases h with ⟨rfl, _⟩ | ⟨l, i, cap, ro, els, rfl, _⟩ | ⟨l, i, cap, rfl, _⟩ <;> rfl
theorem KsV.pur {H H' : AHeap} {ok : Nat → Prop} {ks : List Ex} {kv : AV} (h : KsV H ok ks kv) (p : Pur H H') : KsV H' ok ks kv := h.keep (Keep.pur p fun _ h => h)
theorem ExV.pur {H H' : AHeap} {ok : Nat → Prop} {e : Ex} {v : AV} (h : ExV H ok e v) (p : Pur H H') : ExV H' ok e v := ExV.keep (Keep.pur p fun _ h => h) e v h
theorem ElsV.cons {H : AHeap} {ok : Nat → Prop} {e : Ex} {es : List Ex} {els : List (List AV)} {k : Nat} (h : ElsV H ok (e :: es) (els.drop k)) : ∃ cs, els[k]? = some cs ∧ ExV H ok e (.agg cs) ∧ ElsV H ok es (els.drop (k + 1)) := by
  cases hd : els.drop k with
  | nil => rw [hd, ElsV] at h; exact h.elim
  | cons cs css =>
    rw [hd, ElsV] at h
    have h1 : els[k]? = some cs := by
      have := List.getElem?_drop (xs := els) (i := k) (j := 0)
      rw [hd] at this
      simpa using this.symm
    have h2 : els.drop (k + 1) = css := by
      have : (els.drop k).drop 1 = css := by rw [hd]; rfl
      rwa [List.drop_drop] at this
    exact ⟨cs, h1, h.1, by rw [h2]; exact h.2⟩
theorem same22 {H : AHeap} {a b : Ea} {ks ls : List Ex} {kv lv : AV} (h1 : kv.one = true) (h2 : lv.one = true)
    (hl : ∀ H', Pur H H' → W (evw P 42 [kv, lv] H') fun r H'' => r = .bool (sameL ks ls) ∧ Pur H' H'') :
    W (evw P 22 [.agg (a.cells kv), .agg (b.cells lv)] H) fun r H' => r = .bool (sameE (.mk a ks) (.mk b ls)) ∧ Pur H H' := by
  refine W_of (fun _ => run22 0) ?_
  have hb1 : ∀ l, boxOf l (.agg (a.cells kv)) = some (.ptr l 0 0, .row false 11 [a.cells kv]) := fun l => boxOf_agg l _ (by simp only [Ea.cells, List.all_cons, List.all_nil, one_int, one_str, h1, Bool.and_self])
  have hb2 : ∀ l, boxOf l (.agg (b.cells lv)) = some (.ptr l 0 0, .row false 11 [b.cells lv]) := fun l => boxOf_agg l _ (by simp only [Ea.cells, List.all_cons, List.all_nil, one_int, one_str, h2, Bool.and_self])
  have p2 := (Pur.push H (.row false 11 [a.cells kv])).then_push (.row false 11 [b.cells lv])
  rw [sameE]
  simp only [Ea.cells] at hb1 hb2 p2 ⊢
  cases c0 : a.kind == b.kind with
  | false =>
    simp -implicitDefEqProofs (disch := first | assumption | omega | (simp only [nxB]; omega) | (simp only [oneB])) only [s22, xlen, AV.cells, splice, aload, astore, Nat.reduceAdd, Nat.reduceLeDiff, reduceIte, allB, hb1, hb2, eq32, eq37, rdIs3, c0]
    exact W_some.2 ⟨by simp only [Bool.false_and, Bool.and_false], p2⟩
  | true =>
    cases c1 : a.n == b.n with
    | false =>
      simp -implicitDefEqProofs (disch := first | assumption | omega | (simp only [nxB]; omega) | (simp only [oneB])) only [s22, xlen, AV.cells, splice, aload, astore, Nat.reduceAdd, Nat.reduceLeDiff, reduceIte, allB, hb1, hb2, eq32, eq37, rdIs3, c0, c1]
      exact W_some.2 ⟨by simp only [Bool.false_and, Bool.and_false], p2⟩
    | true =>
      cases c2 : a.name == b.name with
      | false =>
        simp -implicitDefEqProofs (disch := first | assumption | omega | (simp only [nxB]; omega) | (simp only [oneB])) only [s22, xlen, AV.cells, splice, aload, astore, Nat.reduceAdd, Nat.reduceLeDiff, reduceIte, allB, hb1, hb2, eq32, eq37, rdIs3, c0, c1, c2]
        exact W_some.2 ⟨by simp only [Bool.false_and, Bool.and_false], p2⟩
      | true =>
        cases c3 : (a.ofn == b.ofn && a.ofd == b.ofd) with
        | false =>
          simp -implicitDefEqProofs (disch := first | assumption | omega | (simp only [nxB]; omega) | (simp only [oneB])) only [s22, xlen, AV.cells, splice, aload, astore, Nat.reduceAdd, Nat.reduceLeDiff, reduceIte, allB, hb1, hb2, eq32, eq37, rdIs3, c0, c1, c2, c3]
          exact W_some.2 ⟨by simp only [Bool.false_and, Bool.and_false], p2⟩
        | true =>
          cases c4 : (a.tb == b.tb && (a.tr == b.tr && a.td == b.td)) with
          | false =>
            simp -implicitDefEqProofs (disch := first | assumption | omega | (simp only [nxB]; omega) | (simp only [oneB])) only [s22, xlen, AV.cells, splice, aload, astore, Nat.reduceAdd, Nat.reduceLeDiff, reduceIte, allB, hb1, hb2, eq32, eq37, rdIs3, c0, c1, c2, c3, c4]
            exact W_some.2 ⟨by simp only [Bool.false_and, Bool.and_false], p2⟩
          | true =>
            cases c5 : a.ref == b.ref with
            | false =>
              simp -implicitDefEqProofs (disch := first | assumption | omega | (simp only [nxB]; omega) | (simp only [oneB])) only [s22, xlen, AV.cells, splice, aload, astore, Nat.reduceAdd, Nat.reduceLeDiff, reduceIte, allB, hb1, hb2, eq32, eq37, rdIs3, c0, c1, c2, c3, c4, c5]
              exact W_some.2 ⟨by simp only [Bool.false_and, Bool.and_false], p2⟩
            | true =>
              simp -implicitDefEqProofs (disch := first | assumption | omega | (simp only [nxB]; omega) | (simp only [oneB])) only [s22, xlen, AV.cells, splice, aload, astore, Nat.reduceAdd, Nat.reduceLeDiff, reduceIte, allB, hb1, hb2, eq32, eq37, rdIs3, c0, c1, c2, c3, c4, c5]
              refine W_eff (hl _ p2) ?_
              rintro _ H3 ⟨rfl, p3⟩
              refine ⟨p3.1, ?_⟩
              simp -implicitDefEqProofs (disch := first | assumption | omega | (simp only [nxB]; omega) | (simp only [oneB])) only [s22, xlen, evB]
              exact W_some.2 ⟨by simp only [Bool.true_and], p2.trans p3⟩
theorem same24 {H : AHeap} {a b : Ea} {ks ls : List Ex} {kv lv : AV} (h1 : kv.one = true) (h2 : lv.one = true)
    (hl : ∀ H', Pur H H' → W (evw P 43 [kv, lv, .func (.func 24) [] []] H') fun r H'' => r = .bool (sameL ks ls) ∧ Pur H' H'') :
    W (evw P 24 [.agg (a.cells kv), .agg (b.cells lv)] H) fun r H' => r = .bool (sameE (.mk a ks) (.mk b ls)) ∧ Pur H H' := by
  refine W_of (fun _ => run24 0) ?_
  have hb1 : ∀ l, boxOf l (.agg (a.cells kv)) = some (.ptr l 0 0, .row false 11 [a.cells kv]) := fun l => boxOf_agg l _ (by simp only [Ea.cells, List.all_cons, List.all_nil, one_int, one_str, h1, Bool.and_self])
  have hb2 : ∀ l, boxOf l (.agg (b.cells lv)) = some (.ptr l 0 0, .row false 11 [b.cells lv]) := fun l => boxOf_agg l _ (by simp only [Ea.cells, List.all_cons, List.all_nil, one_int, one_str, h2, Bool.and_self])
  have p2 := (Pur.push H (.row false 11 [a.cells kv])).then_push (.row false 11 [b.cells lv])
  rw [sameE]
  simp only [Ea.cells] at hb1 hb2 p2 ⊢
  cases c0 : a.kind == b.kind with
  | false =>
    simp -implicitDefEqProofs (disch := first | assumption | omega | (simp only [nxB]; omega) | (simp only [oneB])) only [s24, xlen, AV.cells, splice, aload, astore, Nat.reduceAdd, Nat.reduceLeDiff, reduceIte, allB, hb1, hb2, eq32, eq37, rdIs3, c0]
    exact W_some.2 ⟨by simp only [Bool.false_and, Bool.and_false], p2⟩
  | true =>
    cases c1 : a.n == b.n with
    | false =>
      simp -implicitDefEqProofs (disch := first | assumption | omega | (simp only [nxB]; omega) | (simp only [oneB])) only [s24, xlen, AV.cells, splice, aload, astore, Nat.reduceAdd, Nat.reduceLeDiff, reduceIte, allB, hb1, hb2, eq32, eq37, rdIs3, c0, c1]
      exact W_some.2 ⟨by simp only [Bool.false_and, Bool.and_false], p2⟩
    | true =>
      cases c2 : a.name == b.name with
      | false =>
        simp -implicitDefEqProofs (disch := first | assumption | omega | (simp only [nxB]; omega) | (simp only [oneB])) only [s24, xlen, AV.cells, splice, aload, astore, Nat.reduceAdd, Nat.reduceLeDiff, reduceIte, allB, hb1, hb2, eq32, eq37, rdIs3, c0, c1, c2]
        exact W_some.2 ⟨by simp only [Bool.false_and, Bool.and_false], p2⟩
      | true =>
        cases c3 : (a.ofn == b.ofn && a.ofd == b.ofd) with
        | false =>
          simp -implicitDefEqProofs (disch := first | assumption | omega | (simp only [nxB]; omega) | (simp only [oneB])) only [s24, xlen, AV.cells, splice, aload, astore, Nat.reduceAdd, Nat.reduceLeDiff, reduceIte, allB, hb1, hb2, eq32, eq37, rdIs3, c0, c1, c2, c3]
          exact W_some.2 ⟨by simp only [Bool.false_and, Bool.and_false], p2⟩
        | true =>
          cases c4 : (a.tb == b.tb && (a.tr == b.tr && a.td == b.td)) with
          | false =>
            simp -implicitDefEqProofs (disch := first | assumption | omega | (simp only [nxB]; omega) | (simp only [oneB])) only [s24, xlen, AV.cells, splice, aload, astore, Nat.reduceAdd, Nat.reduceLeDiff, reduceIte, allB, hb1, hb2, eq32, eq37, rdIs3, c0, c1, c2, c3, c4]
            exact W_some.2 ⟨by simp only [Bool.false_and, Bool.and_false], p2⟩
          | true =>
            cases c5 : a.ref == b.ref with
            | false =>
              simp -implicitDefEqProofs (disch := first | assumption | omega | (simp only [nxB]; omega) | (simp only [oneB])) only [s24, xlen, AV.cells, splice, aload, astore, Nat.reduceAdd, Nat.reduceLeDiff, reduceIte, allB, hb1, hb2, eq32, eq37, rdIs3, c0, c1, c2, c3, c4, c5]
              exact W_some.2 ⟨by simp only [Bool.false_and, Bool.and_false], p2⟩
            | true =>
              simp -implicitDefEqProofs (disch := first | assumption | omega | (simp only [nxB]; omega) | (simp only [oneB])) only [s24, xlen, AV.cells, splice, aload, astore, Nat.reduceAdd, Nat.reduceLeDiff, reduceIte, allB, hb1, hb2, eq32, eq37, rdIs3, c0, c1, c2, c3, c4, c5]
              refine W_eff (hl _ p2) ?_
              rintro _ H3 ⟨rfl, p3⟩
              refine ⟨p3.1, ?_⟩
              simp -implicitDefEqProofs (disch := first | assumption | omega | (simp only [nxB]; omega) | (simp only [oneB])) only [s24, xlen, evB]
              exact W_some.2 ⟨by simp only [Bool.true_and], p2.trans p3⟩
end Go.Proofs.Ytnjoomfeddamcaa

namespace Go.Proofs.Ytnjoomfeddamcaa
open Go.Ev
theorem KsV.cnt {H : AHeap} {ok : Nat → Prop} {ks : List Ex} {x : AV} (hx : KsV H ok ks x) (H' : AHeap) : abuiltin P H' .len [35] [x] = some (.int .i64 ks.length) := by
  rcases hx with ⟨rfl, e1⟩ | ⟨l1, i1, c1, r1, el1, rfl, _⟩ | ⟨l1, i1, c1, rfl, e1⟩
  · rw [e1]; exact ln35n
  · exact ln35
  · rw [e1]; exact ln35
theorem KsV.row {H : AHeap} {ok : Nat → Prop} {ks : List Ex} {x : AV} (hx : KsV H ok ks x) (h : ¬ ks.length = 0) : ∃ l i cap ro els, x = .sl l i ks.length 11 cap ∧ ok l ∧ H.get l = some (.row ro 11 els) ∧ ElsV H ok ks (els.drop i) := by
  rcases hx with ⟨_, e1⟩ | h1 | ⟨_, _, _, _, e1⟩
  · exact absurd e1 h
  · exact h1
  · exact absurd e1 h
def SameOk (F : Nat) (B : Nat) (e : Ex) : Prop := Sm B e → ∀ (f : Ex) (v w : AV) (H : AHeap) (ok ok' : Nat → Prop), ExV H ok e v → ExV H ok' f w → W (evw P F [v, w] H) fun r H' => r = .bool (sameE e f) ∧ Pur H H'
theorem SmL.mem {B : Nat} : ∀ {es : List Ex}, SmL B es → ∀ e ∈ es, Sm B e
  | [], _, e, he => by simp at he
  | x :: xs, h, e, he => by
    rw [SmL] at h
    rcases List.mem_cons.1 he with rfl | he
    · exact h.1
    · exact SmL.mem h.2 e he
theorem Ex.sizeOf_kid {a : Ea} {ks : List Ex} {e : Ex} (h : e ∈ ks) : SizeOf.sizeOf e < SizeOf.sizeOf (Ex.mk a ks) := by
  have := List.sizeOf_lt_of_mem h
  simp only [Ex.mk.sizeOf_spec]
  omega
theorem loop42 {N B : Nat} {kl ki ll li : Nat} {kc lc : Option Nat} {kro lro : Bool} {kels lels : List (List AV)} {ok ok' : Nat → Prop} : ∀ (es fs : List Ex) (j kn n : Nat) (H : AHeap), (∀ e ∈ es, SameOk 22 B e) → SmL B es → ElsV H ok es (kels.drop (ki + j)) → ElsV H ok' fs (lels.drop (li + j)) → es.length = fs.length → kn = j + es.length → kn ≤ 1000000000000 → H.get kl = some (.row kro 11 kels) → H.get ll = some (.row lro 11 lels) → es.length < n →
    W (s42_l1 (evw P) N n (.sl kl ki kn 11 kc) (.sl ll li kn 11 lc) (.int .i64 j) H) fun r H' => r = .bool (sameL es fs) ∧ Pur H H'
  | _, _, _, _, 0, _, _, _, _, _, _, _, _, _, _, hn => by omega
  | [], [], j, kn, n + 1, H, hs, hsm, h1, h2, h3, h4, h5, h6, h7, hn => by
    have hj : ¬ ((j : Int) < (kn : Int)) := by simp at h4; omega
    simp -implicitDefEqProofs (disch := first | assumption | omega | (simp only [nxB]; omega) | (simp only [oneB])) only [s42_l1, s42_j0, s42_b1, s42, xlen, AV.cells, splice, aload, astore, Nat.reduceAdd, Nat.reduceLeDiff, reduceIte, allB, hj, decide_false]
    exact W_some.2 ⟨by rw [sameL], .refl _⟩
  | [], _ :: _, j, kn, n + 1, H, hs, hsm, h1, h2, h3, h4, h5, h6, h7, hn => by simp at h3
  | _ :: _, [], j, kn, n + 1, H, hs, hsm, h1, h2, h3, h4, h5, h6, h7, hn => by simp at h3
  | e :: es, f :: fs, j, kn, n + 1, H, hs, hsm, h1, h2, h3, h4, h5, h6, h7, hn => by
    simp only [List.length_cons] at h3 h4 hn
    have hj : (j : Int) < (kn : Int) := by omega
    have h0 : (0 : Int) ≤ (j : Int) := by omega
    have ht : ((j : Int)).toNat = j := by omega
    obtain ⟨cs, g1, g2, g3⟩ := h1.cons
    obtain ⟨ds, g4, g5, g6⟩ := h2.cons
    obtain ⟨_, q1, q2, q3⟩ := g2.cells
    cases q1
    obtain ⟨_, q4, q5, q6⟩ := g5.cells
    cases q4
    have tk1 : List.take 11 cs = cs := List.take_of_length_le (by omega)
    have tk2 : List.take 11 ds = ds := List.take_of_length_le (by omega)
    have l1 := AHeap.get_lt h6
    have l2 := AHeap.get_lt h7
    rw [SmL] at hsm
    have hw : IntKind.i64.wrap ((j : Int) + 1) = ((j + 1 : Nat) : Int) := by rw [wrap_i64 (by omega) (by omega)]; omega
    simp -implicitDefEqProofs (disch := first | assumption | omega | (simp only [nxB]; omega) | (simp only [oneB])) only [s42_l1, s42_j0, s42_b1, s42, xlen, AV.cells, splice, aload, astore, Nat.reduceAdd, Nat.reduceLeDiff, reduceIte, allB, hj, decide_true, ht, h6, h7, g1, g4, tk1, tk2]
    refine W_call (hs e (by simp) hsm.1 f _ _ _ ok ok' g2 g5) ?_
    rintro _ H2 ⟨rfl, p2⟩
    refine ⟨p2.1, ?_⟩
    cases hc : sameE e f with
    | false =>
      simp -implicitDefEqProofs (disch := first | assumption | omega | (simp only [nxB]; omega) | (simp only [oneB])) only [s42_j0, s42_b1, s42, xlen, evB, Bool.not_false]
      exact W_some.2 ⟨by rw [sameL, hc, Bool.false_and], p2⟩
    | true =>
      simp -implicitDefEqProofs (disch := first | assumption | omega | (simp only [nxB]; omega) | (simp only [oneB])) only [s42_j0, s42_b1, s42, xlen, evB, binB, Bool.not_true, hw]
      refine (loop42 es fs (j + 1) kn n H2 (fun e' he' => hs e' (by simp [he'])) hsm.2 (ElsV.keep (Keep.pur p2 fun _ h => h) _ _ g3) (ElsV.keep (Keep.pur p2 fun _ h => h) _ _ g6) (by omega) (by omega) h5 (p2.get h6) (p2.get h7) (by omega)).mono ?_
      rintro v H' ⟨rfl, q⟩
      exact ⟨by rw [sameL, hc, Bool.true_and], p2.trans q⟩
theorem list42 {B : Nat} (hB : B ≤ 1000000000000) {H : AHeap} {ok ok' : Nat → Prop} {ks ls : List Ex} {kv lv : AV} (hs : ∀ e ∈ ks, SameOk 22 B e) (hsm : ks.length ≤ B ∧ SmL B ks) (h1 : KsV H ok ks kv) (h2 : KsV H ok' ls lv) : W (evw P 42 [kv, lv] H) fun r H' => r = .bool (sameL ks ls) ∧ Pur H H' := by
  refine W_of (fun _ => run42 (ks.length + 1)) ?_
  have neq : ∀ m k : Nat, m ≠ k → ((m : Int) != (k : Int)) = true := fun m k h => by simp; omega
  have neq' : ∀ m : Nat, ((m : Int) != (m : Int)) = false := fun m => by simp
  have z0 : ((0 : Nat) : Int) = 0 := rfl
  have c1 := h1.cnt
  have c2 := h2.cnt
  by_cases hn : ks.length = ls.length
  · by_cases hz : ks.length = 0
    · have hz2 : ls.length = 0 := by omega
      obtain rfl := List.length_eq_zero_iff.1 hz
      obtain rfl := List.length_eq_zero_iff.1 hz2
      simp -implicitDefEqProofs (disch := first | assumption | omega | (simp only [nxB]; omega) | (simp only [oneB])) only [s42_l1, s42_j0, s42_b1, s42, xlen, AV.cells, splice, aload, astore, Nat.reduceAdd, Nat.reduceLeDiff, reduceIte, allB, c1, c2, List.length_nil, z0, bne_self_eq_false, Int.lt_irrefl, decide_false]
      exact W_some.2 ⟨by rw [sameL], .refl _⟩
    · obtain ⟨l1, i1, k1, r1, el1, rfl, o1, g1, w1⟩ := h1.row hz
      obtain ⟨l2, i2, k2, r2, el2, rfl, o2, g2, w2⟩ := h2.row (by omega)
      rw [← hn]
      simp -implicitDefEqProofs (disch := first | assumption | omega | (simp only [nxB]; omega) | (simp only [oneB])) only [s42_j0, s42, xlen, evB, tabB, binB, neq' ks.length]
      exact loop42 ks ls 0 ks.length (ks.length + 1) H hs hsm.2 w1 w2 hn (by omega) (by omega) g1 g2 (by omega)
  · have hn' := neq _ _ hn
    simp -implicitDefEqProofs (disch := first | assumption | omega | (simp only [nxB]; omega) | (simp only [oneB])) only [s42_j0, s42_b1, s42, xlen, evB, binB, c1, c2, hn']
    exact W_some.2 ⟨by rw [sameL_length _ _ hn], .refl _⟩
theorem spec22 {B : Nat} (hB : B ≤ 1000000000000) : ∀ (e : Ex), SameOk 22 B e
  | .mk a ks => by
    intro hsm f v w H ok ok' h1 h2
    cases f with | mk b ls =>
    rw [ExV_mk] at h1 h2
    obtain ⟨kv, rfl, h1⟩ := h1
    obtain ⟨lv, rfl, h2⟩ := h2
    rw [Sm] at hsm
    have hs : ∀ e ∈ ks, SameOk 22 B e := fun e he => spec22 hB e
    exact same22 h1.oneAV h2.oneAV fun H' p => list42 hB hs hsm (h1.pur p) (h2.pur p)
  termination_by e => SizeOf.sizeOf e
  decreasing_by exact Ex.sizeOf_kid he
theorem loop43 {N B : Nat} {kl ki ll li : Nat} {kc lc : Option Nat} {kro lro : Bool} {kels lels : List (List AV)} {ok ok' : Nat → Prop} : ∀ (es fs : List Ex) (j kn n : Nat) (H : AHeap), (∀ e ∈ es, SameOk 24 B e) → SmL B es → ElsV H ok es (kels.drop (ki + j)) → ElsV H ok' fs (lels.drop (li + j)) → es.length = fs.length → kn = j + es.length → kn ≤ 1000000000000 → H.get kl = some (.row kro 11 kels) → H.get ll = some (.row lro 11 lels) → es.length < n →
    W (s43_l1 (evw P) N n (.sl ll li kn 11 lc) (.func (.func 24) [] []) (.sl kl ki kn 11 kc) (.int .i64 kn) (.int .i64 j) H) fun r H' => r = .bool (sameL es fs) ∧ Pur H H'
  | _, _, _, _, 0, _, _, _, _, _, _, _, _, _, _, hn => by omega
  | [], [], j, kn, n + 1, H, hs, hsm, h1, h2, h3, h4, h5, h6, h7, hn => by
    have hj : ¬ ((j : Int) < (kn : Int)) := by simp at h4; omega
    simp -implicitDefEqProofs (disch := first | assumption | omega | (simp only [nxB]; omega) | (simp only [oneB])) only [s43_l1, s43_j0, s43_b1, s43, xlen, AV.cells, splice, aload, astore, Nat.reduceAdd, Nat.reduceLeDiff, reduceIte, allB, hj, decide_false]
    exact W_some.2 ⟨by rw [sameL], .refl _⟩
  | [], _ :: _, j, kn, n + 1, H, hs, hsm, h1, h2, h3, h4, h5, h6, h7, hn => by simp at h3
  | _ :: _, [], j, kn, n + 1, H, hs, hsm, h1, h2, h3, h4, h5, h6, h7, hn => by simp at h3
  | e :: es, f :: fs, j, kn, n + 1, H, hs, hsm, h1, h2, h3, h4, h5, h6, h7, hn => by
    simp only [List.length_cons] at h3 h4 hn
    have hj : (j : Int) < (kn : Int) := by omega
    have h0 : (0 : Int) ≤ (j : Int) := by omega
    have ht : ((j : Int)).toNat = j := by omega
    obtain ⟨cs, g1, g2, g3⟩ := h1.cons
    obtain ⟨ds, g4, g5, g6⟩ := h2.cons
    obtain ⟨_, q1, q2, q3⟩ := g2.cells
    cases q1
    obtain ⟨_, q4, q5, q6⟩ := g5.cells
    cases q4
    have tk1 : List.take 11 cs = cs := List.take_of_length_le (by omega)
    have tk2 : List.take 11 ds = ds := List.take_of_length_le (by omega)
    have l1 := AHeap.get_lt h6
    have l2 := AHeap.get_lt h7
    rw [SmL] at hsm
    have hw : IntKind.i64.wrap ((j : Int) + 1) = ((j + 1 : Nat) : Int) := by rw [wrap_i64 (by omega) (by omega)]; omega
    simp -implicitDefEqProofs (disch := first | assumption | omega | (simp only [nxB]; omega) | (simp only [oneB])) only [s43_l1, s43_j0, s43_b1, s43, xlen, AV.cells, splice, aload, astore, Nat.reduceAdd, Nat.reduceLeDiff, reduceIte, allB, hj, decide_true, ht, h6, h7, g1, g4, tk1, tk2, q2, q3, q5, q6, List.append_nil]
    have p1 := (Pur.push H (.row false 11 [cs])).then_push (.row false 11 [ds])
    refine W_apply ?_
    refine W_call (hs e (by simp) hsm.1 f _ _ _ ok ok' (g2.pur p1) (g5.pur p1)) ?_
    rintro _ H2 ⟨rfl, p2⟩
    refine ⟨p2.1, ?_⟩
    replace p2 := p1.trans p2
    cases hc : sameE e f with
    | false =>
      simp -implicitDefEqProofs (disch := first | assumption | omega | (simp only [nxB]; omega) | (simp only [oneB])) only [s43_j0, s43_b1, s43, xlen, evB, Bool.not_false]
      exact W_some.2 ⟨by rw [sameL, hc, Bool.false_and], p2⟩
    | true =>
      simp -implicitDefEqProofs (disch := first | assumption | omega | (simp only [nxB]; omega) | (simp only [oneB])) only [s43_j0, s43_b1, s43, xlen, evB, binB, Bool.not_true, hw]
      refine (loop43 es fs (j + 1) kn n H2 (fun e' he' => hs e' (by simp [he'])) hsm.2 (ElsV.keep (Keep.pur p2 fun _ h => h) _ _ g3) (ElsV.keep (Keep.pur p2 fun _ h => h) _ _ g6) (by omega) (by omega) h5 (p2.get h6) (p2.get h7) (by omega)).mono ?_
      rintro v H' ⟨rfl, q⟩
      exact ⟨by rw [sameL, hc, Bool.true_and], p2.trans q⟩
theorem list43 {B : Nat} (hB : B ≤ 1000000000000) {H : AHeap} {ok ok' : Nat → Prop} {ks ls : List Ex} {kv lv : AV} (hs : ∀ e ∈ ks, SameOk 24 B e) (hsm : ks.length ≤ B ∧ SmL B ks) (h1 : KsV H ok ks kv) (h2 : KsV H ok' ls lv) : W (evw P 43 [kv, lv, .func (.func 24) [] []] H) fun r H' => r = .bool (sameL ks ls) ∧ Pur H H' := by
  refine W_of (fun _ => run43 (ks.length + 1)) ?_
  have neq : ∀ m k : Nat, m ≠ k → ((m : Int) != (k : Int)) = true := fun m k h => by simp; omega
  have neq' : ∀ m : Nat, ((m : Int) != (m : Int)) = false := fun m => by simp
  have z0 : ((0 : Nat) : Int) = 0 := rfl
  have c1 := h1.cnt
  have c2 := h2.cnt
  by_cases hn : ks.length = ls.length
  · by_cases hz : ks.length = 0
    · have hz2 : ls.length = 0 := by omega
      obtain rfl := List.length_eq_zero_iff.1 hz
      obtain rfl := List.length_eq_zero_iff.1 hz2
      simp -implicitDefEqProofs (disch := first | assumption | omega | (simp only [nxB]; omega) | (simp only [oneB])) only [s43_l1, s43_j0, s43_b1, s43, xlen, AV.cells, splice, aload, astore, Nat.reduceAdd, Nat.reduceLeDiff, reduceIte, allB, c1, c2, List.length_nil, z0, bne_self_eq_false, Int.lt_irrefl, decide_false]
      exact W_some.2 ⟨by rw [sameL], .refl _⟩
    · obtain ⟨l1, i1, k1, r1, el1, rfl, o1, g1, w1⟩ := h1.row hz
      obtain ⟨l2, i2, k2, r2, el2, rfl, o2, g2, w2⟩ := h2.row (by omega)
      rw [← hn]
      simp -implicitDefEqProofs (disch := first | assumption | omega | (simp only [nxB]; omega) | (simp only [oneB])) only [s43_j0, s43, xlen, evB, tabB, binB, neq' ks.length]
      exact loop43 ks ls 0 ks.length (ks.length + 1) H hs hsm.2 w1 w2 hn (by omega) (by omega) g1 g2 (by omega)
  · have hn' := neq _ _ hn
    simp -implicitDefEqProofs (disch := first | assumption | omega | (simp only [nxB]; omega) | (simp only [oneB])) only [s43_j0, s43_b1, s43, xlen, evB, binB, c1, c2, hn']
    exact W_some.2 ⟨by rw [sameL_length _ _ hn], .refl _⟩
theorem spec24 {B : Nat} (hB : B ≤ 1000000000000) : ∀ (e : Ex), SameOk 24 B e
  | .mk a ks => by
    intro hsm f v w H ok ok' h1 h2
    cases f with | mk b ls =>
    rw [ExV_mk] at h1 h2
    obtain ⟨kv, rfl, h1⟩ := h1
    obtain ⟨lv, rfl, h2⟩ := h2
    rw [Sm] at hsm
    have hs : ∀ e ∈ ks, SameOk 24 B e := fun e he => spec24 hB e
    exact same24 h1.oneAV h2.oneAV fun H' p => list43 hB hs hsm (h1.pur p) (h2.pur p)
  termination_by e => SizeOf.sizeOf e
  decreasing_by exact Ex.sizeOf_kid he
end Go.Proofs.Ytnjoomfeddamcaa

namespace Go.Proofs.Ytnjoomfeddamcaa
open Go.Ev
mutual
theorem sameE_refl : ∀ e : Ex, sameE e e = true
  | .mk a ks => by rw [sameE, sameL_refl ks]; simp
theorem sameL_refl : ∀ es : List Ex, sameL es es = true
  | [] => by rw [sameL]
  | e :: es => by rw [sameL, sameE_refl e, sameL_refl es]; rfl
end
def AlikeOk (B : Nat) (e : Ex) : Prop := Sm B e → ∀ (v w : AV) (H : AHeap) (ok ok' : Nat → Prop), ExV H ok e v → ExV H ok' e w → W (evw P 34 [v, w] H) fun r H' => r = .bool true ∧ Pur H H'
theorem loop34 {N B : Nat} {kl ki ll li : Nat} {kc lc : Option Nat} {kro lro : Bool} {kels lels : List (List AV)} {ok ok' : Nat → Prop} {a : Ea} {b1 b2 : Nat} : ∀ (es : List Ex) (j kn n : Nat) (H : AHeap), (∀ e ∈ es, AlikeOk B e) → SmL B es → ElsV H ok es (kels.drop (ki + j)) → ElsV H ok' es (lels.drop (li + j)) → kn = j + es.length → kn ≤ 1000000000000 → H.get kl = some (.row kro 11 kels) → H.get ll = some (.row lro 11 lels) →
    H.get b1 = some (.row false 11 [a.cells (.sl kl ki kn 11 kc)]) → H.get b2 = some (.row false 11 [a.cells (.sl ll li kn 11 lc)]) → es.length < n →
    W (s34_l1 (evw P) N n (.ptr b1 0 0) (.ptr b2 0 0) (.int .i64 j) H) fun r H' => r = .bool true ∧ Pur H H'
  | _, _, _, 0, _, _, _, _, _, _, _, _, _, _, _, hn => by omega
  | [], j, kn, n + 1, H, hs, hsm, h1, h2, h4, h5, h6, h7, h8, h9, hn => by
    have hj : ¬ ((j : Int) < (kn : Int)) := by simp at h4; omega
    simp only [Ea.cells] at h8 h9
    simp -implicitDefEqProofs (disch := first | assumption | omega | (simp only [nxB]; omega) | (simp only [oneB])) only [s34_l1, s34_j0, s34_b1, s34, xlen, AV.cells, splice, aload, astore, Nat.reduceAdd, Nat.reduceLeDiff, reduceIte, allB, hj, decide_false, h8, h9]
    exact W_some.2 ⟨rfl, .refl _⟩
  | e :: es, j, kn, n + 1, H, hs, hsm, h1, h2, h4, h5, h6, h7, h8, h9, hn => by
    simp only [List.length_cons] at h4 hn
    have hj : (j : Int) < (kn : Int) := by omega
    have h0 : (0 : Int) ≤ (j : Int) := by omega
    have ht : ((j : Int)).toNat = j := by omega
    obtain ⟨cs, g1, g2, g3⟩ := h1.cons
    obtain ⟨ds, g4, g5, g6⟩ := h2.cons
    obtain ⟨_, q1, q2, q3⟩ := g2.cells
    cases q1
    obtain ⟨_, q4, q5, q6⟩ := g5.cells
    cases q4
    have tk1 : List.take 11 cs = cs := List.take_of_length_le (by omega)
    have tk2 : List.take 11 ds = ds := List.take_of_length_le (by omega)
    have l1 := AHeap.get_lt h6
    have l2 := AHeap.get_lt h7
    rw [SmL] at hsm
    have hw : IntKind.i64.wrap ((j : Int) + 1) = ((j + 1 : Nat) : Int) := by rw [wrap_i64 (by omega) (by omega)]; omega
    have h8' := h8
    have h9' := h9
    simp only [Ea.cells] at h8' h9'
    simp -implicitDefEqProofs (disch := first | assumption | omega | (simp only [nxB]; omega) | (simp only [oneB])) only [s34_l1, s34_j0, s34_b1, s34, xlen, AV.cells, splice, aload, astore, Nat.reduceAdd, Nat.reduceLeDiff, reduceIte, allB, hj, decide_true, ht, h6, h7, h8', h9', g1, g4, tk1, tk2]
    refine W_call (hs e (by simp) hsm.1 _ _ _ ok ok' g2 g5) ?_
    rintro _ H2 ⟨rfl, p2⟩
    refine ⟨p2.1, ?_⟩
    simp -implicitDefEqProofs (disch := first | assumption | omega | (simp only [nxB]; omega) | (simp only [oneB])) only [s34_j0, s34_b1, s34, xlen, evB, binB, Bool.not_true, hw]
    refine (loop34 es (j + 1) kn n H2 (fun e' he' => hs e' (by simp [he'])) hsm.2 (ElsV.keep (Keep.pur p2 fun _ h => h) _ _ g3) (ElsV.keep (Keep.pur p2 fun _ h => h) _ _ g6) (by omega) h5 (p2.get h6) (p2.get h7) (p2.get h8) (p2.get h9) (by omega)).mono ?_
    rintro v H' ⟨rfl, q⟩
    exact ⟨rfl, p2.trans q⟩
theorem alike_spec {B : Nat} (hB : B ≤ 1000000000000) : ∀ (e : Ex), AlikeOk B e
  | .mk a ks => by
    intro hsm v w H ok ok' h1 h2
    have hse := spec22 hB (.mk a ks) hsm (.mk a ks)
    rw [ExV_mk] at h1 h2
    obtain ⟨kv, rfl, h1⟩ := h1
    obtain ⟨lv, rfl, h2⟩ := h2
    rw [Sm] at hsm
    have hs : ∀ e ∈ ks, AlikeOk B e := fun e he => alike_spec hB e
    refine W_of (fun _ => run34 (ks.length + 1)) ?_
    have o1 := h1.oneAV
    have o2 := h2.oneAV
    have hb1 : ∀ l, boxOf l (.agg (a.cells kv)) = some (.ptr l 0 0, .row false 11 [a.cells kv]) := fun l => boxOf_agg l _ (by simp only [Ea.cells, List.all_cons, List.all_nil, one_int, one_str, o1, Bool.and_self])
    have hb2 : ∀ l, boxOf l (.agg (a.cells lv)) = some (.ptr l 0 0, .row false 11 [a.cells lv]) := fun l => boxOf_agg l _ (by simp only [Ea.cells, List.all_cons, List.all_nil, one_int, one_str, o2, Bool.and_self])
    have p2 := (Pur.push H (.row false 11 [a.cells kv])).then_push (.row false 11 [a.cells lv])
    have hk1 := h1.pur p2
    have hk2 := h2.pur p2
    have hc := hse (.agg (a.cells kv)) (.agg (a.cells lv)) _ ok ok' (by rw [ExV_mk]; exact ⟨_, rfl, hk1⟩) (by rw [ExV_mk]; exact ⟨_, rfl, hk2⟩)
    have neq' : ∀ m : Nat, ((m : Int) != (m : Int)) = false := fun m => by simp
    have z0 : ((0 : Nat) : Int) = 0 := rfl
    have hg1 : ((H.push (.row false 11 [a.cells kv])).push (.row false 11 [a.cells lv])).get H.next = some (.row false 11 [a.cells kv]) := by simp -implicitDefEqProofs (disch := first | assumption | omega | (simp only [nxB]; omega) | (simp only [oneB])) only [heapB]
    have hg2 : ((H.push (.row false 11 [a.cells kv])).push (.row false 11 [a.cells lv])).get (H.next + 1) = some (.row false 11 [a.cells lv]) := by simp -implicitDefEqProofs (disch := first | assumption | omega | (simp only [nxB]; omega) | (simp only [oneB])) only [heapB]
    have c1 := h1.cnt
    have c2 := h2.cnt
    simp only [Ea.cells] at hb1 hb2 hc ⊢
    simp -implicitDefEqProofs (disch := first | assumption | omega | (simp only [nxB]; omega) | (simp only [oneB])) only [s34_j0, s34, xlen, AV.cells, splice, aload, astore, Nat.reduceAdd, Nat.reduceLeDiff, reduceIte, allB, hb1, hb2, bne_self_eq_false, c1, c2]
    refine W_eff hc ?_
    rintro _ H3 ⟨rfl, p3⟩
    refine ⟨p3.1, ?_⟩
    rw [sameE_refl]
    simp -implicitDefEqProofs (disch := first | assumption | omega | (simp only [nxB]; omega) | (simp only [oneB])) only [s34_j0, s34, xlen, evB, Bool.not_true]
    have pf := p2.trans p3
    by_cases hz : ks.length = 0
    · obtain rfl := List.length_eq_zero_iff.1 hz
      have hg3 := p3.get hg1
      simp only [Ea.cells] at hg3
      simp -implicitDefEqProofs (disch := first | assumption | omega | (simp only [nxB]; omega) | (simp only [oneB])) only [s34_l1, s34_j0, s34_b1, s34, xlen, AV.cells, splice, aload, astore, Nat.reduceAdd, Nat.reduceLeDiff, reduceIte, allB, c1, List.length_nil, hg3, z0, Int.lt_irrefl, decide_false]
      exact W_some.2 ⟨rfl, pf⟩
    · obtain ⟨l1, i1, c1', r1, el1, rfl, o1', g1, w1⟩ := (h1.pur pf).row hz
      obtain ⟨l2, i2, c2', r2, el2, rfl, o2', g2, w2⟩ := (h2.pur pf).row hz
      refine (loop34 (a := a) ks 0 ks.length (ks.length + 1) H3 hs hsm.2 w1 w2 (by omega) (by omega) g1 g2 (p3.get hg1) (p3.get hg2) (by omega)).mono ?_
      rintro v H' ⟨rfl, q⟩
      exact ⟨rfl, pf.trans q⟩
  termination_by e => SizeOf.sizeOf e
  decreasing_by exact Ex.sizeOf_kid he
end Go.Proofs.Ytnjoomfeddamcaa

namespace Go.Proofs.Ytnjoomfeddamcaa
open Go.Ev
theorem Sm.leaf {B : Nat} (a : Ea) : Sm B (.mk a []) := by rw [Sm, SmL]; exact ⟨Nat.zero_le _, trivial⟩
theorem Sm.one {B : Nat} (hB : 2 ≤ B) (a : Ea) {e : Ex} (h : Sm B e) : Sm B (.mk a [e]) := by
  rw [Sm, SmL, SmL]; exact ⟨by simp; omega, h, trivial⟩
theorem Sm.two {B : Nat} (hB : 2 ≤ B) (a : Ea) {e f : Ex} (h : Sm B e) (h' : Sm B f) : Sm B (.mk a [e, f]) := by
  rw [Sm, SmL, SmL, SmL]; exact ⟨by simp; omega, h, h', trivial⟩
theorem SmL.append {B : Nat} {e : Ex} (h : Sm B e) : ∀ {l : List Ex}, SmL B l → SmL B (l ++ [e])
  | [], _ => by simp only [List.nil_append]; rw [SmL, SmL]; exact ⟨h, trivial⟩
  | x :: xs, hl => by
    rw [SmL] at hl
    simp only [List.cons_append]
    rw [SmL]; exact ⟨hl.1, SmL.append h hl.2⟩
structure SmAll (T : List Tok) (B n : Nat) : Prop where
  row : ∀ lev s p, rowF T n lev s = some p → Sm B p.1
  rowL : ∀ lev e s p, Sm B e → rowL T n lev e s = some p → Sm B p.1
  unary : ∀ s p, unaryF T n s = some p → Sm B p.1
  sign : ∀ x k s p, signF T n x k s = some p → Sm B p.1
  chain : ∀ s p, chainF T n s = some p → Sm B p.1
  chainL : ∀ e s p, Sm B e → chainL T n e s = some p → Sm B p.1
  single : ∀ b c s p, singleF T n b c s = some p → Sm B p.1
  first : ∀ s p, firstF T n s = some p → Sm B p.1
  name : ∀ s p, nameF T n s = some p → Sm B p.1
  fresh : ∀ s p, freshF T n s = some p → Sm B p.1
  list : ∀ s p, listF T n s = some p → p.1.length ≤ B ∧ SmL B p.1
  listL : ∀ l s p, l.length + n ≤ B → SmL B l → listL T n l s = some p → p.1.length ≤ B ∧ SmL B p.1
theorem bindS {α β : Type} {x : Option α} {f : α → Option β} {b : β} (h : x.bind f = some b) : ∃ a, x = some a ∧ f a = some b := Option.bind_eq_some_iff.1 h
theorem sm_all (T : List Tok) (B : Nat) : ∀ n, n + 2 ≤ B → SmAll T B n
  | 0, _ => by
    constructor <;> intros <;> rename_i h <;> cases h
  | n + 1, hB => by
    have ih := sm_all T B n (by omega)
    have h2 : 2 ≤ B := by omega
    refine ⟨?_, ?_, ?_, ?_, ?_, ?_, ?_, ?_, ?_, ?_, ?_, ?_⟩
    · intro lev s p h
      simp only [rowF] at h
      split at h
      · exact ih.unary _ _ h
      · obtain ⟨q, g1, g2⟩ := bindS h
        exact ih.rowL _ _ _ _ (ih.row _ _ _ g1) g2
    · intro lev e s p he h
      simp only [Go.Proofs.Ytnjoomfeddamcaa.rowL] at h
      split at h
      · cases h; exact he
      · obtain ⟨q, g1, g2⟩ := bindS h
        exact ih.rowL _ _ _ _ (Sm.two h2 _ he (ih.row _ _ _ g1)) g2
    · intro s p h
      simp only [unaryF, Bool.cond_eq_ite] at h
      split at h
      · exact ih.sign _ _ _ _ h
      · split at h
        · exact ih.sign _ _ _ _ h
        · exact ih.chain _ _ h
    · intro x k s p h
      simp only [signF, Bool.cond_eq_ite] at h
      split at h
      · obtain ⟨q, g1, g2⟩ := bindS h
        cases g2
        exact Sm.one h2 _ (ih.unary _ _ g1)
      · cases h; exact Sm.leaf _
    · intro s p h
      simp only [chainF] at h
      obtain ⟨q, g1, g2⟩ := bindS h
      exact ih.chainL _ _ _ (ih.first _ _ g1) g2
    · intro e s p he h
      simp only [Go.Proofs.Ytnjoomfeddamcaa.chainL, Bool.cond_eq_ite] at h
      split at h
      · split at h
        · exact ih.chainL _ _ _ (Sm.one h2 _ he) h
        · split at h
          · obtain ⟨q, g1, g2⟩ := bindS h
            exact ih.chainL _ _ _ (Sm.two h2 _ he (ih.single _ _ _ _ g1)) g2
          · cases h; exact he
      · cases h; exact he
    · intro b c s p h
      simp only [singleF, Bool.cond_eq_ite] at h
      split at h
      · obtain ⟨q, g1, g2⟩ := bindS h
        cases g2
        exact ih.row _ _ q g1
      · cases h; exact Sm.leaf _
    · intro s p h
      simp only [firstF, Bool.cond_eq_ite] at h
      split at h
      · cases h; exact Sm.leaf _
      · split at h
        · cases h; exact Sm.leaf _
        · split at h
          · exact ih.name _ _ h
          · split at h
            · split at h
              · split at h
                · exact ih.single _ _ _ _ h
                · cases h; exact Sm.leaf _
              · split at h
                · cases h; exact Sm.leaf _
                · split at h
                  · cases h; exact Sm.leaf _
                  · split at h
                    · exact ih.fresh _ _ h
                    · split at h
                      · obtain ⟨q, g1, g2⟩ := bindS h
                        cases g2
                        exact Sm.one h2 _ (ih.single _ _ _ _ g1)
                      · split at h
                        · cases h; exact Sm.leaf _
                        · cases h; exact Sm.leaf _
            · cases h; exact Sm.leaf _
    · intro s p h
      simp only [nameF, Bool.cond_eq_ite] at h
      split at h
      · obtain ⟨q, g1, g2⟩ := bindS h
        cases g2
        rw [Sm]; exact ih.list _ _ g1
      · cases h; exact Sm.leaf _
    · intro s p h
      simp only [freshF, Bool.cond_eq_ite] at h
      split at h
      · obtain ⟨q, g1, g2⟩ := bindS h
        cases g2
        exact Sm.one h2 _ (ih.single _ _ _ _ g1)
      · cases h; exact Sm.leaf _
    · intro s p h
      simp only [listF, Bool.cond_eq_ite] at h
      split at h
      · split at h
        · cases h; exact ⟨Nat.zero_le _, by rw [SmL]; trivial⟩
        · obtain ⟨q, g1, g2⟩ := bindS h
          exact ih.listL _ _ _ (by simp; omega) (by rw [SmL, SmL]; exact ⟨ih.row _ _ _ g1, trivial⟩) g2
      · cases h; exact ⟨Nat.zero_le _, by rw [SmL]; trivial⟩
    · intro l s p hl hsm h
      simp only [Go.Proofs.Ytnjoomfeddamcaa.listL, Bool.cond_eq_ite] at h
      split at h
      · obtain ⟨q, g1, g2⟩ := bindS h
        exact ih.listL _ _ _ (by simp; omega) (SmL.append (ih.row _ _ _ g1) hsm) g2
      · cases h; exact ⟨by show l.length ≤ B; omega, hsm⟩
end Go.Proofs.Ytnjoomfeddamcaa

namespace Go.Proofs.Ytnjoomfeddamcaa
open Go.Ev
theorem left_le (T : List Tok) (s : St) : left T s ≤ T.length := by unfold left; split <;> omega
theorem both_read {T : List Tok} (hT : T.length ≤ 20000000) (at_ opn : Int) : ∃ e s e' s', rowF T 800000000 0 (startS at_ opn) = some (e, s) ∧ exprR T 800000000 0 (startS at_ opn) = some (e', s') ∧ parseS e' s' = parseS e s ∧ Sm 1000000000 (parseS e s).1 := by
  obtain ⟨p, q, h1, h2, h3, h4⟩ := rows_both (T := T) (by omega) T.length (startS at_ opn) (left_le _ _) 0 800000000 800000000 (by omega) (by omega) (by omega)
  refine ⟨p.1, p.2, q.1, q.2, h1, h2, ?_, ?_⟩
  · rcases h3 with ⟨h, rfl⟩ | ⟨h, ha, hb⟩
    · rfl
    · have h' : ¬ q.2.fe = 0 := by rw [ha]; exact h
      simp only [parseS, if_neg h, if_neg h', ha, hb]
  · unfold parseS
    split
    · exact (sm_all T 1000000000 800000000 (by omega)).row _ _ _ h1
    · exact Sm.leaf _
theorem held_spec {H : AHeap} {T : List Tok} {tv : AV} (hT : T.length ≤ 20000000) (ht : TokSl H tv T) (at_ opn : Int) : W (evw P 16 [tv, .int .i64 at_, .int .i64 opn] H) fun v H' => v = .bool true ∧ Pur H H' := by
  obtain ⟨e, s, e', s', h1, h2, h3, h4⟩ := both_read hT at_ opn
  refine W_of (fun _ => run16 0) ?_
  rw [s16]
  refine W_call (parse_spec (by omega) ht at_ opn h1) ?_
  rintro _ H1 ⟨v1, rfl, hv1, p1⟩
  refine ⟨p1.1, ?_⟩
  obtain ⟨c1, rfl, n1, o1⟩ := hv1.cells
  have tk1 : List.take 11 c1 = c1 := List.take_of_length_le (by omega)
  simp -implicitDefEqProofs (disch := first | assumption | omega | (simp only [nxB]; omega) | (simp only [oneB])) only [s16, xlen, AV.cells, splice, aload, astore, Nat.reduceAdd, Nat.reduceLeDiff, reduceIte, allB, AHeap.push_set_lt, n1, o1, List.append_nil]
  generalize hq : parseS e s = q at hv1 h3 h4
  have pa := (p1.then_push (.row false 11 [c1])).then_push (.row false 2 [[.int .i64 q.2.2.1, .int .i64 q.2.2.2]])
  have hm1 := p1.1
  refine W_call (Expr_spec (by omega) (ht.pur pa) at_ opn h2) ?_
  rintro _ H2 ⟨v2, rfl, hv2, p2⟩
  refine ⟨p2.1, ?_⟩
  rw [h3] at hv2 ⊢
  have hm2 := p2.1
  simp only [AHeap.next_push] at hm2
  obtain ⟨c2, rfl, n2, o2⟩ := hv2.cells
  have tk2 : List.take 11 c2 = c2 := List.take_of_length_le (by omega)
  have g1 : H2.get H1.next = some (.row false 11 [c1]) := p2.get (by simp -implicitDefEqProofs (disch := first | assumption | omega | (simp only [nxB]; omega) | (simp only [oneB])) only [heapB])
  have g2 : H2.get (H1.next + 1) = some (.row false 2 [[.int .i64 q.2.2.1, .int .i64 q.2.2.2]]) := p2.get (by simp -implicitDefEqProofs (disch := first | assumption | omega | (simp only [nxB]; omega) | (simp only [oneB])) only [heapB])
  simp -implicitDefEqProofs (disch := first | assumption | omega | (simp only [nxB]; omega) | (simp only [oneB])) only [s16, xlen, AV.cells, splice, aload, astore, Nat.reduceAdd, Nat.reduceLeDiff, reduceIte, allB, AHeap.push_set_lt, n2, o2, List.append_nil, g1, g2, tk1, tk2]
  have pb := (Pur.push H2 (.row false 11 [c2])).then_push (.row false 2 [[.int .i64 q.2.2.1, .int .i64 q.2.2.2]])
  have hu1 : ExV _ _ q.1 (.agg c1) := (hv1.pur (((Pur.push _ _).then_push _).trans p2)).pur pb
  refine W_call (alike_spec (by omega) q.1 h4 _ _ _ _ _ hu1 (hv2.pur pb)) ?_
  rintro _ H3 ⟨rfl, p3⟩
  refine ⟨p3.1, ?_⟩
  have g3 := p3.get (pb.get g2)
  have g4 : H3.get (H2.next + 1) = some (.row false 2 [[.int .i64 q.2.2.1, .int .i64 q.2.2.2]]) := p3.get (by simp -implicitDefEqProofs (disch := first | assumption | omega | (simp only [nxB]; omega) | (simp only [oneB])) only [heapB])
  have hrd : rdIs (some (.agg [.int .i64 q.2.2.1, .int .i64 q.2.2.2])) (.agg [.int .i64 q.2.2.1, .int .i64 q.2.2.2]) = true := by simp [rdIs, AV.beq, AVs.beq]
  simp -implicitDefEqProofs (disch := first | assumption | omega | (simp only [nxB]; omega) | (simp only [oneB])) only [s16, xlen, AV.cells, splice, aload, astore, Nat.reduceAdd, Nat.reduceLeDiff, reduceIte, allB, AHeap.push_set_lt, beq_self_eq_true, g3, g4, eq25, Bool.and_self, hrd]
  exact W_some.2 ⟨rfl, ((pa.trans p2).trans pb).trans p3⟩
end Go.Proofs.Ytnjoomfeddamcaa


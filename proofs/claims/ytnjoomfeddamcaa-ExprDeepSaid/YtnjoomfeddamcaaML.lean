/-
  Texts of one proof, laid together: E1.
-/
import Derived.Test.YtnjoomfeddamcaaMJ
import Derived.Test.YtnjoomfeddamcaaMK
set_option linter.unusedVariables false
set_option linter.unusedSimpArgs false
/-
  Same of expr and SameExpr of the reference: both compute one plain function.
-/
namespace Go.Proofs.Ytnjoomfeddamcaa
open Go.Ev

theorem map_and2 (x y : Bool) : Option.map AV.bool (bif x then (bif y then some true else some false) else some false) = some (.bool (x && y)) := by cases x <;> cases y <;> rfl
theorem map_and3 (x y z : Bool) : Option.map AV.bool (bif x then (bif y then (bif z then some true else some false) else some false) else some false) = some (.bool (x && (y && z))) := by cases x <;> cases y <;> cases z <;> rfl
theorem eq32 {c : Bool} (a a' : List UInt8) (b b' : Int) : fbin P .eql 32 c (.agg [.str a, .int .i64 b]) (.agg [.str a', .int .i64 b']) = some (.bool (a == a' && b == b')) :=
  Eq.trans (by kernel_rfl) (map_and2 (a == a') (b == b'))
theorem eq25 {c : Bool} (a a' : Int) (b b' : Int) : fbin P .eql 25 c (.agg [.int .i64 a, .int .i64 b]) (.agg [.int .i64 a', .int .i64 b']) = some (.bool (a == a' && b == b')) :=
  Eq.trans (by kernel_rfl) (map_and2 (a == a') (b == b'))
theorem eq37 {c : Bool} (a a' : Int) (b b' : Int) (d d' : Int) : fbin P .eql 37 c (.agg [.int .i64 a, .int .i64 b, .int .i64 d]) (.agg [.int .i64 a', .int .i64 b', .int .i64 d']) = some (.bool (a == a' && (b == b' && d == d'))) :=
  Eq.trans (by kernel_rfl) (map_and3 (a == a') (b == b') (d == d'))
theorem rdIs3 (a b c : Int) : rdIs (some (.agg [.int .i64 a, .int .i64 b, .int .i64 c])) (.agg [.int .i64 a, .int .i64 b, .int .i64 c]) = true := by simp [rdIs, AV.beq, AVs.beq]

mutual
def sameE : Ex → Ex → Bool
  | .mk a ks, .mk b ls => a.kind == b.kind && (a.n == b.n && (a.name == b.name && ((a.ofn == b.ofn && a.ofd == b.ofd) && ((a.tb == b.tb && (a.tr == b.tr && a.td == b.td)) && (a.ref == b.ref && sameL ks ls)))))
def sameL : List Ex → List Ex → Bool
  | [], [] => true
  | [], _ :: _ => false
  | _ :: _, [] => false
  | e :: es, f :: fs => sameE e f && sameL es fs
end
mutual
/-- No list is longer than so. -/
def Sm (B : Nat) : Ex → Prop
  | .mk _ ks => ks.length ≤ B ∧ SmL B ks
def SmL (B : Nat) : List Ex → Prop
  | [] => True
  | e :: es => Sm B e ∧ SmL B es
end
theorem sameL_length : ∀ (es fs : List Ex), es.length ≠ fs.length → sameL es fs = false
  | [], [], h => absurd rfl h
  | [], _ :: _, _ => by rw [sameL]
  | _ :: _, [], _ => by rw [sameL]
  | e :: es, f :: fs, h => by rw [sameL, sameL_length es fs (by simpa using h), Bool.and_false]

theorem KsV.oneAV {H : AHeap} {ok : Nat → Prop} {ks : List Ex} {kv : AV} (h : KsV H ok ks kv) : kv.one = true := by
  rcases h with ⟨rfl, _⟩ | ⟨l, i, cap, ro, els, rfl, _⟩ | ⟨l, i, cap, rfl, _⟩ <;> rfl
theorem KsV.pur {H H' : AHeap} {ok : Nat → Prop} {ks : List Ex} {kv : AV} (h : KsV H ok ks kv) (p : Pur H H') : KsV H' ok ks kv := h.keep (Keep.pur p fun _ h => h)
theorem ExV.pur {H H' : AHeap} {ok : Nat → Prop} {e : Ex} {v : AV} (h : ExV H ok e v) (p : Pur H H') : ExV H' ok e v := ExV.keep (Keep.pur p fun _ h => h) e v h
theorem ElsV.cons {H : AHeap} {ok : Nat → Prop} {e : Ex} {es : List Ex} {els : List (List AV)} {k : Nat} (h : ElsV H ok (e :: es) (els.drop k)) : ∃ cs, els[k]? = some cs ∧ ExV H ok e (.agg cs) ∧ ElsV H ok es (els.drop (k + 1)) := by
  cases hd : els.drop k with
  | nil => rw [hd, ElsV] at h; exact h.elim
  | cons cs css =>
    rw [hd, ElsV] at h
    have h1 : els[k]? = some cs := by
      have := List.getElem?_drop (xs := els) (i := k) (j := 0)
      rw [hd] at this
      simpa using this.symm
    have h2 : els.drop (k + 1) = css := by
      have : (els.drop k).drop 1 = css := by rw [hd]; rfl
      rwa [List.drop_drop] at this
    exact ⟨cs, h1, h.1, by rw [h2]; exact h.2⟩
/-- Function 22, once its lists are known. -/
theorem same22 {H : AHeap} {a b : Ea} {ks ls : List Ex} {kv lv : AV} (h1 : kv.one = true) (h2 : lv.one = true)
    (hl : ∀ H', Pur H H' → W (evw P 42 [kv, lv] H') fun r H'' => r = .bool (sameL ks ls) ∧ Pur H' H'') :
    W (evw P 22 [.agg (a.cells kv), .agg (b.cells lv)] H) fun r H' => r = .bool (sameE (.mk a ks) (.mk b ls)) ∧ Pur H H' := by
  refine W_of (fun _ => run22 0) ?_
  have hb1 : ∀ l, boxOf l (.agg (a.cells kv)) = some (.ptr l 0 0, .row false 11 [a.cells kv]) := fun l => boxOf_agg l _ (by simp only [Ea.cells, List.all_cons, List.all_nil, one_int, one_str, h1, Bool.and_self])
  have hb2 : ∀ l, boxOf l (.agg (b.cells lv)) = some (.ptr l 0 0, .row false 11 [b.cells lv]) := fun l => boxOf_agg l _ (by simp only [Ea.cells, List.all_cons, List.all_nil, one_int, one_str, h2, Bool.and_self])
  have p2 := (Pur.push H (.row false 11 [a.cells kv])).then_push (.row false 11 [b.cells lv])
  rw [sameE]
  simp only [Ea.cells] at hb1 hb2 p2 ⊢
  cases c0 : a.kind == b.kind with
  | false =>
    simp -implicitDefEqProofs (disch := first | assumption | omega | (simp only [nxB]; omega) | (simp only [oneB])) only [s22_0, s22_1, s22_2, s22_3, s22_4, s22_5, s22_6, s22_7, s22_8, s22_9, s22_10, s22_11, s22_12, s22_13, s22_14, s22_15, s22_16, s22_17, s22_18, s22_19, s22_20, s22_21, s22_22, s22_23, s22_24, s22_25, s22_26, s22_27, s22_28, s22_29, s22_30, s22_31, s22_32, s22_33, s22_34, s22_35, s22_36, s22_37, s22_38, s22_39, s22_40, s22_41, s22_42, s22, xalloc, xlen, AV.cells, splice, aload, astore, Nat.reduceAdd, Nat.reduceLeDiff, reduceIte, allB, hb1, hb2, eq32, eq37, rdIs3, c0]
    exact W_some.2 ⟨by simp only [Bool.false_and, Bool.and_false], p2⟩
  | true =>
    cases c1 : a.n == b.n with
    | false =>
      simp -implicitDefEqProofs (disch := first | assumption | omega | (simp only [nxB]; omega) | (simp only [oneB])) only [s22_0, s22_1, s22_2, s22_3, s22_4, s22_5, s22_6, s22_7, s22_8, s22_9, s22_10, s22_11, s22_12, s22_13, s22_14, s22_15, s22_16, s22_17, s22_18, s22_19, s22_20, s22_21, s22_22, s22_23, s22_24, s22_25, s22_26, s22_27, s22_28, s22_29, s22_30, s22_31, s22_32, s22_33, s22_34, s22_35, s22_36, s22_37, s22_38, s22_39, s22_40, s22_41, s22_42, s22, xalloc, xlen, AV.cells, splice, aload, astore, Nat.reduceAdd, Nat.reduceLeDiff, reduceIte, allB, hb1, hb2, eq32, eq37, rdIs3, c0, c1]
      exact W_some.2 ⟨by simp only [Bool.false_and, Bool.and_false], p2⟩
    | true =>
      cases c2 : a.name == b.name with
      | false =>
        simp -implicitDefEqProofs (disch := first | assumption | omega | (simp only [nxB]; omega) | (simp only [oneB])) only [s22_0, s22_1, s22_2, s22_3, s22_4, s22_5, s22_6, s22_7, s22_8, s22_9, s22_10, s22_11, s22_12, s22_13, s22_14, s22_15, s22_16, s22_17, s22_18, s22_19, s22_20, s22_21, s22_22, s22_23, s22_24, s22_25, s22_26, s22_27, s22_28, s22_29, s22_30, s22_31, s22_32, s22_33, s22_34, s22_35, s22_36, s22_37, s22_38, s22_39, s22_40, s22_41, s22_42, s22, xalloc, xlen, AV.cells, splice, aload, astore, Nat.reduceAdd, Nat.reduceLeDiff, reduceIte, allB, hb1, hb2, eq32, eq37, rdIs3, c0, c1, c2]
        exact W_some.2 ⟨by simp only [Bool.false_and, Bool.and_false], p2⟩
      | true =>
        cases c3 : (a.ofn == b.ofn && a.ofd == b.ofd) with
        | false =>
          simp -implicitDefEqProofs (disch := first | assumption | omega | (simp only [nxB]; omega) | (simp only [oneB])) only [s22_0, s22_1, s22_2, s22_3, s22_4, s22_5, s22_6, s22_7, s22_8, s22_9, s22_10, s22_11, s22_12, s22_13, s22_14, s22_15, s22_16, s22_17, s22_18, s22_19, s22_20, s22_21, s22_22, s22_23, s22_24, s22_25, s22_26, s22_27, s22_28, s22_29, s22_30, s22_31, s22_32, s22_33, s22_34, s22_35, s22_36, s22_37, s22_38, s22_39, s22_40, s22_41, s22_42, s22, xalloc, xlen, AV.cells, splice, aload, astore, Nat.reduceAdd, Nat.reduceLeDiff, reduceIte, allB, hb1, hb2, eq32, eq37, rdIs3, c0, c1, c2, c3]
          exact W_some.2 ⟨by simp only [Bool.false_and, Bool.and_false], p2⟩
        | true =>
          cases c4 : (a.tb == b.tb && (a.tr == b.tr && a.td == b.td)) with
          | false =>
            simp -implicitDefEqProofs (disch := first | assumption | omega | (simp only [nxB]; omega) | (simp only [oneB])) only [s22_0, s22_1, s22_2, s22_3, s22_4, s22_5, s22_6, s22_7, s22_8, s22_9, s22_10, s22_11, s22_12, s22_13, s22_14, s22_15, s22_16, s22_17, s22_18, s22_19, s22_20, s22_21, s22_22, s22_23, s22_24, s22_25, s22_26, s22_27, s22_28, s22_29, s22_30, s22_31, s22_32, s22_33, s22_34, s22_35, s22_36, s22_37, s22_38, s22_39, s22_40, s22_41, s22_42, s22, xalloc, xlen, AV.cells, splice, aload, astore, Nat.reduceAdd, Nat.reduceLeDiff, reduceIte, allB, hb1, hb2, eq32, eq37, rdIs3, c0, c1, c2, c3, c4]
            exact W_some.2 ⟨by simp only [Bool.false_and, Bool.and_false], p2⟩
          | true =>
            cases c5 : a.ref == b.ref with
            | false =>
              simp -implicitDefEqProofs (disch := first | assumption | omega | (simp only [nxB]; omega) | (simp only [oneB])) only [s22_0, s22_1, s22_2, s22_3, s22_4, s22_5, s22_6, s22_7, s22_8, s22_9, s22_10, s22_11, s22_12, s22_13, s22_14, s22_15, s22_16, s22_17, s22_18, s22_19, s22_20, s22_21, s22_22, s22_23, s22_24, s22_25, s22_26, s22_27, s22_28, s22_29, s22_30, s22_31, s22_32, s22_33, s22_34, s22_35, s22_36, s22_37, s22_38, s22_39, s22_40, s22_41, s22_42, s22, xalloc, xlen, AV.cells, splice, aload, astore, Nat.reduceAdd, Nat.reduceLeDiff, reduceIte, allB, hb1, hb2, eq32, eq37, rdIs3, c0, c1, c2, c3, c4, c5]
              exact W_some.2 ⟨by simp only [Bool.false_and, Bool.and_false], p2⟩
            | true =>
              simp -implicitDefEqProofs (disch := first | assumption | omega | (simp only [nxB]; omega) | (simp only [oneB])) only [s22_0, s22_1, s22_2, s22_3, s22_4, s22_5, s22_6, s22_7, s22_8, s22_9, s22_10, s22_11, s22_12, s22_13, s22_14, s22_15, s22_16, s22_17, s22_18, s22_19, s22_20, s22_21, s22_22, s22_23, s22_24, s22_25, s22_26, s22_27, s22_28, s22_29, s22_30, s22_31, s22_32, s22_33, s22_34, s22_35, s22_36, s22_37, s22_38, s22_39, s22_40, s22_41, s22_42, s22, xalloc, xlen, AV.cells, splice, aload, astore, Nat.reduceAdd, Nat.reduceLeDiff, reduceIte, allB, hb1, hb2, eq32, eq37, rdIs3, c0, c1, c2, c3, c4, c5]
              refine W_eff (hl _ p2) ?_
              rintro _ H3 ⟨rfl, p3⟩
              refine ⟨p3.1, ?_⟩
              simp -implicitDefEqProofs (disch := first | assumption | omega | (simp only [nxB]; omega) | (simp only [oneB])) only [s22_0, s22_1, s22_2, s22_3, s22_4, s22_5, s22_6, s22_7, s22_8, s22_9, s22_10, s22_11, s22_12, s22_13, s22_14, s22_15, s22_16, s22_17, s22_18, s22_19, s22_20, s22_21, s22_22, s22_23, s22_24, s22_25, s22_26, s22_27, s22_28, s22_29, s22_30, s22_31, s22_32, s22_33, s22_34, s22_35, s22_36, s22_37, s22_38, s22_39, s22_40, s22_41, s22_42, s22, xalloc, xlen, evB]
              exact W_some.2 ⟨by simp only [Bool.true_and], p2.trans p3⟩
/-- Function 24, once its lists are known. -/
theorem same24 {H : AHeap} {a b : Ea} {ks ls : List Ex} {kv lv : AV} (h1 : kv.one = true) (h2 : lv.one = true)
    (hl : ∀ H', Pur H H' → W (evw P 43 [kv, lv, .func (.func 24) [] []] H') fun r H'' => r = .bool (sameL ks ls) ∧ Pur H' H'') :
    W (evw P 24 [.agg (a.cells kv), .agg (b.cells lv)] H) fun r H' => r = .bool (sameE (.mk a ks) (.mk b ls)) ∧ Pur H H' := by
  refine W_of (fun _ => run24 0) ?_
  have hb1 : ∀ l, boxOf l (.agg (a.cells kv)) = some (.ptr l 0 0, .row false 11 [a.cells kv]) := fun l => boxOf_agg l _ (by simp only [Ea.cells, List.all_cons, List.all_nil, one_int, one_str, h1, Bool.and_self])
  have hb2 : ∀ l, boxOf l (.agg (b.cells lv)) = some (.ptr l 0 0, .row false 11 [b.cells lv]) := fun l => boxOf_agg l _ (by simp only [Ea.cells, List.all_cons, List.all_nil, one_int, one_str, h2, Bool.and_self])
  have p2 := (Pur.push H (.row false 11 [a.cells kv])).then_push (.row false 11 [b.cells lv])
  rw [sameE]
  simp only [Ea.cells] at hb1 hb2 p2 ⊢
  cases c0 : a.kind == b.kind with
  | false =>
    simp -implicitDefEqProofs (disch := first | assumption | omega | (simp only [nxB]; omega) | (simp only [oneB])) only [s24_0, s24_1, s24_2, s24_3, s24_4, s24_5, s24_6, s24_7, s24_8, s24_9, s24_10, s24_11, s24_12, s24_13, s24_14, s24_15, s24_16, s24_17, s24_18, s24_19, s24_20, s24_21, s24_22, s24_23, s24_24, s24_25, s24_26, s24_27, s24_28, s24_29, s24_30, s24_31, s24_32, s24_33, s24_34, s24_35, s24_36, s24_37, s24_38, s24_39, s24_40, s24_41, s24_42, s24, xalloc, xlen, AV.cells, splice, aload, astore, Nat.reduceAdd, Nat.reduceLeDiff, reduceIte, allB, hb1, hb2, eq32, eq37, rdIs3, c0]
    exact W_some.2 ⟨by simp only [Bool.false_and, Bool.and_false], p2⟩
  | true =>
    cases c1 : a.n == b.n with
    | false =>
      simp -implicitDefEqProofs (disch := first | assumption | omega | (simp only [nxB]; omega) | (simp only [oneB])) only [s24_0, s24_1, s24_2, s24_3, s24_4, s24_5, s24_6, s24_7, s24_8, s24_9, s24_10, s24_11, s24_12, s24_13, s24_14, s24_15, s24_16, s24_17, s24_18, s24_19, s24_20, s24_21, s24_22, s24_23, s24_24, s24_25, s24_26, s24_27, s24_28, s24_29, s24_30, s24_31, s24_32, s24_33, s24_34, s24_35, s24_36, s24_37, s24_38, s24_39, s24_40, s24_41, s24_42, s24, xalloc, xlen, AV.cells, splice, aload, astore, Nat.reduceAdd, Nat.reduceLeDiff, reduceIte, allB, hb1, hb2, eq32, eq37, rdIs3, c0, c1]
      exact W_some.2 ⟨by simp only [Bool.false_and, Bool.and_false], p2⟩
    | true =>
      cases c2 : a.name == b.name with
      | false =>
        simp -implicitDefEqProofs (disch := first | assumption | omega | (simp only [nxB]; omega) | (simp only [oneB])) only [s24_0, s24_1, s24_2, s24_3, s24_4, s24_5, s24_6, s24_7, s24_8, s24_9, s24_10, s24_11, s24_12, s24_13, s24_14, s24_15, s24_16, s24_17, s24_18, s24_19, s24_20, s24_21, s24_22, s24_23, s24_24, s24_25, s24_26, s24_27, s24_28, s24_29, s24_30, s24_31, s24_32, s24_33, s24_34, s24_35, s24_36, s24_37, s24_38, s24_39, s24_40, s24_41, s24_42, s24, xalloc, xlen, AV.cells, splice, aload, astore, Nat.reduceAdd, Nat.reduceLeDiff, reduceIte, allB, hb1, hb2, eq32, eq37, rdIs3, c0, c1, c2]
        exact W_some.2 ⟨by simp only [Bool.false_and, Bool.and_false], p2⟩
      | true =>
        cases c3 : (a.ofn == b.ofn && a.ofd == b.ofd) with
        | false =>
          simp -implicitDefEqProofs (disch := first | assumption | omega | (simp only [nxB]; omega) | (simp only [oneB])) only [s24_0, s24_1, s24_2, s24_3, s24_4, s24_5, s24_6, s24_7, s24_8, s24_9, s24_10, s24_11, s24_12, s24_13, s24_14, s24_15, s24_16, s24_17, s24_18, s24_19, s24_20, s24_21, s24_22, s24_23, s24_24, s24_25, s24_26, s24_27, s24_28, s24_29, s24_30, s24_31, s24_32, s24_33, s24_34, s24_35, s24_36, s24_37, s24_38, s24_39, s24_40, s24_41, s24_42, s24, xalloc, xlen, AV.cells, splice, aload, astore, Nat.reduceAdd, Nat.reduceLeDiff, reduceIte, allB, hb1, hb2, eq32, eq37, rdIs3, c0, c1, c2, c3]
          exact W_some.2 ⟨by simp only [Bool.false_and, Bool.and_false], p2⟩
        | true =>
          cases c4 : (a.tb == b.tb && (a.tr == b.tr && a.td == b.td)) with
          | false =>
            simp -implicitDefEqProofs (disch := first | assumption | omega | (simp only [nxB]; omega) | (simp only [oneB])) only [s24_0, s24_1, s24_2, s24_3, s24_4, s24_5, s24_6, s24_7, s24_8, s24_9, s24_10, s24_11, s24_12, s24_13, s24_14, s24_15, s24_16, s24_17, s24_18, s24_19, s24_20, s24_21, s24_22, s24_23, s24_24, s24_25, s24_26, s24_27, s24_28, s24_29, s24_30, s24_31, s24_32, s24_33, s24_34, s24_35, s24_36, s24_37, s24_38, s24_39, s24_40, s24_41, s24_42, s24, xalloc, xlen, AV.cells, splice, aload, astore, Nat.reduceAdd, Nat.reduceLeDiff, reduceIte, allB, hb1, hb2, eq32, eq37, rdIs3, c0, c1, c2, c3, c4]
            exact W_some.2 ⟨by simp only [Bool.false_and, Bool.and_false], p2⟩
          | true =>
            cases c5 : a.ref == b.ref with
            | false =>
              simp -implicitDefEqProofs (disch := first | assumption | omega | (simp only [nxB]; omega) | (simp only [oneB])) only [s24_0, s24_1, s24_2, s24_3, s24_4, s24_5, s24_6, s24_7, s24_8, s24_9, s24_10, s24_11, s24_12, s24_13, s24_14, s24_15, s24_16, s24_17, s24_18, s24_19, s24_20, s24_21, s24_22, s24_23, s24_24, s24_25, s24_26, s24_27, s24_28, s24_29, s24_30, s24_31, s24_32, s24_33, s24_34, s24_35, s24_36, s24_37, s24_38, s24_39, s24_40, s24_41, s24_42, s24, xalloc, xlen, AV.cells, splice, aload, astore, Nat.reduceAdd, Nat.reduceLeDiff, reduceIte, allB, hb1, hb2, eq32, eq37, rdIs3, c0, c1, c2, c3, c4, c5]
              exact W_some.2 ⟨by simp only [Bool.false_and, Bool.and_false], p2⟩
            | true =>
              simp -implicitDefEqProofs (disch := first | assumption | omega | (simp only [nxB]; omega) | (simp only [oneB])) only [s24_0, s24_1, s24_2, s24_3, s24_4, s24_5, s24_6, s24_7, s24_8, s24_9, s24_10, s24_11, s24_12, s24_13, s24_14, s24_15, s24_16, s24_17, s24_18, s24_19, s24_20, s24_21, s24_22, s24_23, s24_24, s24_25, s24_26, s24_27, s24_28, s24_29, s24_30, s24_31, s24_32, s24_33, s24_34, s24_35, s24_36, s24_37, s24_38, s24_39, s24_40, s24_41, s24_42, s24, xalloc, xlen, AV.cells, splice, aload, astore, Nat.reduceAdd, Nat.reduceLeDiff, reduceIte, allB, hb1, hb2, eq32, eq37, rdIs3, c0, c1, c2, c3, c4, c5]
              refine W_eff (hl _ p2) ?_
              rintro _ H3 ⟨rfl, p3⟩
              refine ⟨p3.1, ?_⟩
              simp -implicitDefEqProofs (disch := first | assumption | omega | (simp only [nxB]; omega) | (simp only [oneB])) only [s24_0, s24_1, s24_2, s24_3, s24_4, s24_5, s24_6, s24_7, s24_8, s24_9, s24_10, s24_11, s24_12, s24_13, s24_14, s24_15, s24_16, s24_17, s24_18, s24_19, s24_20, s24_21, s24_22, s24_23, s24_24, s24_25, s24_26, s24_27, s24_28, s24_29, s24_30, s24_31, s24_32, s24_33, s24_34, s24_35, s24_36, s24_37, s24_38, s24_39, s24_40, s24_41, s24_42, s24, xalloc, xlen, evB]
              exact W_some.2 ⟨by simp only [Bool.true_and], p2.trans p3⟩
end Go.Proofs.Ytnjoomfeddamcaa


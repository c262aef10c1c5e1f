/-
  Texts of one proof, laid together: E7 E8 ExprSame.
-/
import Derived.Test.YtnjoomfeddamcaaML
import Derived.Test.YtnjoomfeddamcaaMN
import Derived.Test.YtnjoomfeddamcaaMHf
import Derived.Test.YtnjoomfeddamcaaMO
import Derived.Test.YtnjoomfeddamcaaRows
set_option linter.unusedVariables false
set_option linter.unusedSimpArgs false
/-
  The law ExprSame: Same and SameExpr of any two expressions.
-/
namespace Go.Proofs.Ytnjoomfeddamcaa
open Go.Ev

mutual
def smallE : Ex → Int → Int
  | .mk _ ks, n => smallL ks (n - 1)
def smallL : List Ex → Int → Int
  | [], n => n
  | e :: es, n => if 0 < n then smallL es (smallE e n) else n
end
mutual
theorem smallE_le : ∀ (e : Ex) (n : Int), 0 < n → 0 ≤ smallE e n ∧ smallE e n ≤ n - 1
  | .mk _ ks, n, h => by rw [smallE]; exact smallL_le ks (n - 1) (by omega)
theorem smallL_le : ∀ (es : List Ex) (n : Int), 0 ≤ n → 0 ≤ smallL es n ∧ smallL es n ≤ n
  | [], n, h => by rw [smallL]; omega
  | e :: es, n, h => by
    rw [smallL]
    split
    · rename_i hp
      have h1 := smallE_le e n hp
      have h2 := smallL_le es (smallE e n) h1.1
      omega
    · omega
end
mutual
theorem smallE_sm : ∀ (e : Ex) (n : Int) (B : Nat), 0 < n → n ≤ B → 0 < smallE e n → Sm B e
  | .mk _ ks, n, B, h, hB, hp => by
    rw [smallE] at hp
    rw [Sm]
    have := smallL_sm ks (n - 1) B (by omega) (by omega) hp
    exact ⟨by omega, this.2⟩
theorem smallL_sm : ∀ (es : List Ex) (n : Int) (B : Nat), 0 ≤ n → n ≤ B → 0 < smallL es n → (es.length : Int) ≤ n ∧ SmL B es
  | [], n, B, h, hB, hp => by rw [SmL]; simp; omega
  | e :: es, n, B, h, hB, hp => by
    rw [smallL] at hp
    rw [SmL]
    by_cases h0 : 0 < n
    · rw [if_pos h0] at hp
      have h1 := smallE_le e n h0
      have hpe : 0 < smallE e n := by
        by_cases hz : 0 < smallE e n
        · exact hz
        · have : smallE e n = 0 := by omega
          rw [this] at hp
          have := smallL_le es 0 (Int.le_refl _)
          omega
      have h2 := smallL_sm es (smallE e n) B (by omega) (by omega) hp
      refine ⟨by simp only [List.length_cons]; omega, smallE_sm e n B h0 hB hpe, h2.2⟩
    · rw [if_neg h0] at hp; omega
end
def SmallOk (e : Ex) : Prop := ∀ (n : Int) (v : AV) (H : AHeap) (ok : Nat → Prop), 0 < n → n ≤ 1000 → ExV H ok e v → W (evw P 23 [v, .int .i64 n] H) fun r H' => r = .int .i64 (smallE e n) ∧ Pur H H'
theorem loop23 {N : Nat} {kl ki kn : Nat} {kc : Option Nat} {kro : Bool} {kels : List (List AV)} {ok : Nat → Prop} {a : Ea} {b1 : Nat} : ∀ (es : List Ex) (j m : Nat) (n : Int) (H : AHeap), (∀ e ∈ es, SmallOk e) → ElsV H ok es (kels.drop (ki + j)) → kn = j + es.length → 0 ≤ n → n ≤ 1000 → (j : Int) + n ≤ 1000 → H.get kl = some (.row kro 11 kels) →
    H.get b1 = some (.row false 11 [a.cells (.sl kl ki kn 11 kc)]) → es.length < m →
    W (s23_l1 (evw P) N m (.int .i64 n) (.ptr b1 0 0) (.int .i64 j) H) fun r H' => r = .int .i64 (smallL es n) ∧ Pur H H'
  | _, _, 0, _, _, _, _, _, _, _, _, _, _, hm => by omega
  | [], j, m + 1, n, H, hs, h1, h4, hn, hn', hj', h6, h8, hm => by
    have hj : ¬ ((j : Int) < (kn : Int)) := by simp at h4; omega
    simp only [Ea.cells] at h8
    simp -implicitDefEqProofs (disch := first | assumption | omega | (simp only [nxB]; omega) | (simp only [oneB])) only [s23_l1, s23_j0, s23_0, s23_1, s23_2, s23_3, s23_4, s23_5, s23_6, s23_7, s23_8, s23_9, s23_10, s23_11, s23_12, s23_13, s23_14, s23_b1, s23_15, s23_16, s23, xalloc, xlen, AV.cells, splice, aload, astore, Nat.reduceAdd, Nat.reduceLeDiff, reduceIte, allB, hj, decide_false, h8]
    exact W_some.2 ⟨by rw [smallL], .refl _⟩
  | e :: es, j, m + 1, n, H, hs, h1, h4, hn, hn', hj', h6, h8, hm => by
    simp only [List.length_cons] at h4 hm
    have hj : (j : Int) < (kn : Int) := by omega
    have h0 : (0 : Int) ≤ (j : Int) := by omega
    have ht : ((j : Int)).toNat = j := by omega
    obtain ⟨cs, g1, g2, g3⟩ := h1.cons
    obtain ⟨_, q1, q2, q3⟩ := g2.cells
    cases q1
    have tk1 : List.take 11 cs = cs := List.take_of_length_le (by omega)
    have l1 := AHeap.get_lt h6
    have hw : IntKind.i64.wrap ((j : Int) + 1) = ((j + 1 : Nat) : Int) := by rw [wrap_i64 (by omega) (by omega)]; omega
    have h8' := h8
    simp only [Ea.cells] at h8'
    by_cases hp : 0 < n
    · simp -implicitDefEqProofs (disch := first | assumption | omega | (simp only [nxB]; omega) | (simp only [oneB])) only [s23_l1, s23_j0, s23_0, s23_1, s23_2, s23_3, s23_4, s23_5, s23_6, s23_7, s23_8, s23_9, s23_10, s23_11, s23_12, s23_13, s23_14, s23_b1, s23_15, s23_16, s23, xalloc, xlen, AV.cells, splice, aload, astore, Nat.reduceAdd, Nat.reduceLeDiff, reduceIte, allB, hj, hp, decide_true, ht, h6, h8', g1, tk1]
      refine W_call (hs e (by simp) n _ _ ok hp hn' g2) ?_
      rintro _ H2 ⟨rfl, p2⟩
      refine ⟨p2.1, ?_⟩
      have hle := smallE_le e n hp
      simp -implicitDefEqProofs (disch := first | assumption | omega | (simp only [nxB]; omega) | (simp only [oneB])) only [s23_j0, s23_0, s23_1, s23_2, s23_3, s23_4, s23_5, s23_6, s23_7, s23_8, s23_9, s23_10, s23_11, s23_12, s23_13, s23_14, s23_b1, s23_15, s23_16, s23, xalloc, xlen, evB, binB, hw]
      refine (loop23 es (j + 1) m (smallE e n) H2 (fun e' he' => hs e' (by simp [he'])) (ElsV.keep (Keep.pur p2 fun _ h => h) _ _ g3) (by omega) hle.1 (by omega) (by omega) (p2.get h6) (p2.get h8) (by omega)).mono ?_
      rintro v H' ⟨rfl, q⟩
      exact ⟨by rw [smallL, if_pos hp], p2.trans q⟩
    · simp -implicitDefEqProofs (disch := first | assumption | omega | (simp only [nxB]; omega) | (simp only [oneB])) only [s23_l1, s23_j0, s23_0, s23_1, s23_2, s23_3, s23_4, s23_5, s23_6, s23_7, s23_8, s23_9, s23_10, s23_11, s23_12, s23_13, s23_14, s23_b1, s23_15, s23_16, s23, xalloc, xlen, AV.cells, splice, aload, astore, Nat.reduceAdd, Nat.reduceLeDiff, reduceIte, allB, hj, hp, decide_true, decide_false, ht, h6, h8', g1, tk1]
      exact W_some.2 ⟨by rw [smallL, if_neg hp], .refl _⟩
theorem small_spec : ∀ (e : Ex), SmallOk e
  | .mk a ks => by
    intro n v H ok hn hn' h1
    rw [ExV_mk] at h1
    obtain ⟨kv, rfl, h1⟩ := h1
    have hs : ∀ e ∈ ks, SmallOk e := fun e he => small_spec e
    refine W_of (fun _ => run23 (ks.length + 1)) ?_
    have o1 := h1.oneAV
    have hb1 : ∀ l, boxOf l (.agg (a.cells kv)) = some (.ptr l 0 0, .row false 11 [a.cells kv]) := fun l => boxOf_agg l _ (by simp only [Ea.cells, List.all_cons, List.all_nil, one_int, one_str, o1, Bool.and_self])
    have p1 := Pur.push H (.row false 11 [a.cells kv])
    have w1 : IntKind.i64.wrap (n - 1) = n - 1 := wrap_i64 (by omega) (by omega)
    have c1 := h1.cnt
    have hg1 := AHeap.get_push_same H (.row false 11 [a.cells kv])
    have hb1' := hb1
    simp only [Ea.cells] at hb1 ⊢
    simp -implicitDefEqProofs (disch := first | assumption | omega | (simp only [nxB]; omega) | (simp only [oneB])) only [s23_j0, s23_0, s23_1, s23_2, s23_3, s23_4, s23_5, s23_6, s23_7, s23_8, s23_9, s23_10, s23_11, s23_12, s23_13, s23_14, s23_15, s23_16, s23, xalloc, xlen, AV.cells, splice, aload, astore, Nat.reduceAdd, Nat.reduceLeDiff, reduceIte, allB, hb1, w1]
    by_cases hz : ks.length = 0
    · obtain rfl := List.length_eq_zero_iff.1 hz
      have z0 : ((0 : Nat) : Int) = 0 := rfl
      simp -implicitDefEqProofs (disch := first | assumption | omega | (simp only [nxB]; omega) | (simp only [oneB])) only [s23_l1, s23_j0, s23_0, s23_1, s23_2, s23_3, s23_4, s23_5, s23_6, s23_7, s23_8, s23_9, s23_10, s23_11, s23_12, s23_13, s23_14, s23_b1, s23_15, s23_16, s23, xalloc, xlen, AV.cells, splice, aload, astore, Nat.reduceAdd, Nat.reduceLeDiff, reduceIte, allB, c1, List.length_nil, z0, Int.lt_irrefl, decide_false]
      exact W_some.2 ⟨by rw [smallE, smallL], p1⟩
    · obtain ⟨l1, i1, k1, r1, el1, rfl, o1', g1, w1'⟩ := (h1.pur p1).row hz
      refine (loop23 (a := a) ks 0 (ks.length + 1) (n - 1) _ hs w1' (by omega) (by omega) (by omega) (by omega) g1 hg1 (by omega)).mono ?_
      rintro v H' ⟨rfl, q⟩
      exact ⟨by rw [smallE], p1.trans q⟩
  termination_by e => SizeOf.sizeOf e
  decreasing_by exact Ex.sizeOf_kid he
theorem beq_symm {α : Type} [BEq α] [LawfulBEq α] (x y : α) : (x == y) = (y == x) := by
  rw [Bool.eq_iff_iff]; simp only [beq_iff_eq]; exact ⟨Eq.symm, Eq.symm⟩
mutual
theorem sameE_comm : ∀ (e f : Ex), sameE e f = sameE f e
  | .mk a ks, .mk b ls => by
    rw [sameE, sameE, sameL_comm ks ls, beq_symm a.kind, beq_symm a.n, beq_symm a.name, beq_symm a.ofn, beq_symm a.ofd, beq_symm a.tb, beq_symm a.tr, beq_symm a.td, beq_symm a.ref]
theorem sameL_comm : ∀ (es fs : List Ex), sameL es fs = sameL fs es
  | [], [] => rfl
  | [], _ :: _ => by rw [sameL, sameL]
  | _ :: _, [] => by rw [sameL, sameL]
  | e :: es, f :: fs => by rw [sameL, sameL, sameE_comm e f, sameL_comm es fs]
end
end Go.Proofs.Ytnjoomfeddamcaa

/-
  The law ExprSame: the walk.
-/
namespace Go.Proofs.Ytnjoomfeddamcaa
open Go.Ev

theorem same_run {H : AHeap} {e f : Ex} {v w : AV} (h1 : ExV H okT e v) (h2 : ExV H okT f w) (at_ : Int) : W (s6 (evb P 17 true) v w (.int .i64 at_) H) fun r H' => r = .bool true ∧ H.next ≤ H'.next := by
  obtain ⟨c1, rfl, n1, o1⟩ := h1.cells
  obtain ⟨c2, rfl, n2, o2⟩ := h2.cells
  have tk1 : List.take 11 c1 = c1 := List.take_of_length_le (by omega)
  have tk2 : List.take 11 c2 = c2 := List.take_of_length_le (by omega)
  have hb1 : ∀ l, boxOf l (.agg c1) = some (.ptr l 0 0, .row false 11 [c1]) := fun l => by rw [boxOf_agg l _ o1, n1]
  have hb2 : ∀ l, boxOf l (.agg c2) = some (.ptr l 0 0, .row false 11 [c2]) := fun l => by rw [boxOf_agg l _ o2, n2]
  have p2 := (Pur.push H (.row false 11 [c1])).then_push (.row false 11 [c2])
  simp -implicitDefEqProofs (disch := first | assumption | omega | (simp only [nxB]; omega) | (simp only [oneB])) only [s6_0, s6_1, s6_2, s6_3, s6_4, s6_5, s6_6, s6_7, s6_8, s6_9, s6_10, s6_11, s6_12, s6_13, s6_14, s6_15, s6_16, s6_17, s6_18, s6_19, s6_20, s6_21, s6_22, s6_23, s6_24, s6_25, s6_26, s6_27, s6_28, s6_29, s6_30, s6_31, s6_32, s6_33, s6_34, s6_35, s6_36, s6_37, s6, xalloc, xlen, AV.cells, splice, aload, astore, Nat.reduceAdd, Nat.reduceLeDiff, reduceIte, allB, hb1, hb2, tk1]
  rw [evb_other (by decide)]
  refine W_call (small_spec e 300 _ _ okT (by omega) (by omega) (h1.pur p2)) ?_
  rintro _ H3 ⟨rfl, p3⟩
  refine ⟨p3.1, ?_⟩
  have m3 := p3.1
  simp only [AHeap.next_push] at m3
  have g1 : H3.get H.next = some (.row false 11 [c1]) := p3.get (by simp -implicitDefEqProofs (disch := first | assumption | omega | (simp only [nxB]; omega) | (simp only [oneB])) only [heapB])
  have g2 : H3.get (H.next + 1) = some (.row false 11 [c2]) := p3.get (by simp -implicitDefEqProofs (disch := first | assumption | omega | (simp only [nxB]; omega) | (simp only [oneB])) only [heapB])
  have s1 := smallE_le e 300 (by omega)
  have s2 := smallE_le f 300 (by omega)
  by_cases z1 : smallE e 300 ≤ 0
  · simp -implicitDefEqProofs (disch := first | assumption | omega | (simp only [nxB]; omega) | (simp only [oneB])) only [s6_0, s6_1, s6_2, s6_3, s6_4, s6_5, s6_6, s6_7, s6_8, s6_9, s6_10, s6_11, s6_12, s6_13, s6_14, s6_15, s6_16, s6_17, s6_18, s6_19, s6_20, s6_21, s6_22, s6_23, s6_24, s6_25, s6_26, s6_27, s6_28, s6_29, s6_30, s6_31, s6_32, s6_33, s6_34, s6_35, s6_36, s6_37, s6, xalloc, xlen, AV.cells, splice, aload, astore, Nat.reduceAdd, Nat.reduceLeDiff, reduceIte, allB, z1, decide_true]
    exact W_some.2 ⟨rfl, by omega⟩
  simp -implicitDefEqProofs (disch := first | assumption | omega | (simp only [nxB]; omega) | (simp only [oneB])) only [s6_0, s6_1, s6_2, s6_3, s6_4, s6_5, s6_6, s6_7, s6_8, s6_9, s6_10, s6_11, s6_12, s6_13, s6_14, s6_15, s6_16, s6_17, s6_18, s6_19, s6_20, s6_21, s6_22, s6_23, s6_24, s6_25, s6_26, s6_27, s6_28, s6_29, s6_30, s6_31, s6_32, s6_33, s6_34, s6_35, s6_36, s6_37, s6, xalloc, xlen, AV.cells, splice, aload, astore, Nat.reduceAdd, Nat.reduceLeDiff, reduceIte, allB, z1, decide_false, g2, tk2]
  rw [evb_other (by decide)]
  refine W_eff (small_spec f 300 _ _ okT (by omega) (by omega) ((h2.pur p2).pur p3)) ?_
  rintro _ H4 ⟨rfl, p4⟩
  refine ⟨p4.1, ?_⟩
  have m4 := p4.1
  have g1' := p4.get g1
  have g2' := p4.get g2
  by_cases z2 : smallE f 300 ≤ 0
  · simp -implicitDefEqProofs (disch := first | assumption | omega | (simp only [nxB]; omega) | (simp only [oneB])) only [s6_0, s6_1, s6_2, s6_3, s6_4, s6_5, s6_6, s6_7, s6_8, s6_9, s6_10, s6_11, s6_12, s6_13, s6_14, s6_15, s6_16, s6_17, s6_18, s6_19, s6_20, s6_21, s6_22, s6_23, s6_24, s6_25, s6_26, s6_27, s6_28, s6_29, s6_30, s6_31, s6_32, s6_33, s6_34, s6_35, s6_36, s6_37, s6, xalloc, xlen, AV.cells, splice, aload, astore, Nat.reduceAdd, Nat.reduceLeDiff, reduceIte, allB, z2, decide_true]
    exact W_some.2 ⟨rfl, by omega⟩
  have hsm1 := smallE_sm e 300 300 (by omega) (by omega) (by omega)
  have hsm2 := smallE_sm f 300 300 (by omega) (by omega) (by omega)
  have l1 := AHeap.get_lt g1'
  have l2 := AHeap.get_lt g2'
  obtain ⟨a, ks⟩ := e
  have h1' := h1
  rw [ExV_mk] at h1'
  obtain ⟨kv, hkv, hks⟩ := h1'
  cases hkv
  have okv := hks.oneAV
  simp only [Ea.cells] at n1 o1 tk1 g1' ⊢
  simp -implicitDefEqProofs (disch := first | assumption | omega | (simp only [nxB]; omega) | (simp only [oneB])) only [s6_0, s6_1, s6_2, s6_3, s6_4, s6_5, s6_6, s6_7, s6_8, s6_9, s6_10, s6_11, s6_12, s6_13, s6_14, s6_15, s6_16, s6_17, s6_18, s6_19, s6_20, s6_21, s6_22, s6_23, s6_24, s6_25, s6_26, s6_27, s6_28, s6_29, s6_30, s6_31, s6_32, s6_33, s6_34, s6_35, s6_36, s6_37, s6, xalloc, xlen, AV.cells, splice, aload, astore, Nat.reduceAdd, Nat.reduceLeDiff, reduceIte, allB, z2, decide_false, g1', g2', okv, tk2]
  obtain ⟨B3, hB3⟩ : ∃ B3 : List AV, B3 = Ea.cells { a with pos := at_ } kv := ⟨_, rfl⟩
  have hB3' := hB3
  simp only [Ea.cells] at hB3'
  rw [← hB3']
  have p5 := Pur.push H4 (.row false 11 [B3])
  have pH : Pur H H4 := (p2.trans p3).trans p4
  have hA : ExV H okT (.mk a ks) (.agg (a.cells kv)) := h1
  have hC : ExV H okT (.mk { a with pos := at_ } ks) (.agg B3) := by rw [ExV_mk]; exact ⟨kv, by rw [hB3], hks⟩
  have hB : 300 ≤ 1000000000000 := by omega
  have sAC : sameE (.mk a ks) (.mk { a with pos := at_ } ks) = true := by rw [sameE, sameL_refl]; simp
  -- the first pair
  rw [evb_other (by decide)]
  refine W_call (spec24 hB _ hsm1 f _ _ _ okT okT (hA.pur (pH.trans p5)) (h2.pur (pH.trans p5))) ?_
  rintro _ H6 ⟨rfl, p6⟩
  refine ⟨p6.1, ?_⟩
  have g61 := p6.get (p5.get g1')
  have g62 := p6.get (p5.get g2')
  have g63 : H6.get H4.next = some (.row false 11 [B3]) := p6.get (AHeap.get_push_same _ _)
  have l61 := AHeap.get_lt g61
  have l62 := AHeap.get_lt g62
  have l63 := AHeap.get_lt g63
  have n3 : B3.length = 11 := by rw [hB3]; rfl
  have tk3 : List.take 11 B3 = B3 := List.take_of_length_le (by omega)
  have pa := (pH.trans p5).trans p6
  simp -implicitDefEqProofs (disch := first | assumption | omega | (simp only [nxB]; omega) | (simp only [oneB])) only [s6_0, s6_1, s6_2, s6_3, s6_4, s6_5, s6_6, s6_7, s6_8, s6_9, s6_10, s6_11, s6_12, s6_13, s6_14, s6_15, s6_16, s6_17, s6_18, s6_19, s6_20, s6_21, s6_22, s6_23, s6_24, s6_25, s6_26, s6_27, s6_28, s6_29, s6_30, s6_31, s6_32, s6_33, s6_34, s6_35, s6_36, s6_37, s6, xalloc, xlen, AV.cells, splice, aload, astore, Nat.reduceAdd, Nat.reduceLeDiff, reduceIte, allB, g61, g62, tk2]
  rw [evb_other (by decide)]
  refine W_call (spec22 hB _ hsm1 f _ _ _ okT okT (hA.pur pa) (h2.pur pa)) ?_
  rintro _ H7 ⟨rfl, p7⟩
  refine ⟨p7.1, ?_⟩
  have g71 := p7.get g61
  have g72 := p7.get g62
  have g73 := p7.get g63
  have l71 := AHeap.get_lt g71
  have l72 := AHeap.get_lt g72
  have l73 := AHeap.get_lt g73
  replace pa := pa.trans p7
  simp -implicitDefEqProofs (disch := first | assumption | omega | (simp only [nxB]; omega) | (simp only [oneB])) only [s6_0, s6_1, s6_2, s6_3, s6_4, s6_5, s6_6, s6_7, s6_8, s6_9, s6_10, s6_11, s6_12, s6_13, s6_14, s6_15, s6_16, s6_17, s6_18, s6_19, s6_20, s6_21, s6_22, s6_23, s6_24, s6_25, s6_26, s6_27, s6_28, s6_29, s6_30, s6_31, s6_32, s6_33, s6_34, s6_35, s6_36, s6_37, s6, xalloc, xlen, AV.cells, splice, aload, astore, Nat.reduceAdd, Nat.reduceLeDiff, reduceIte, allB, beq_self_eq_true, xguard_tt, g71, g73, tk3]
  rw [evb_other (by decide)]
  refine W_eff (spec24 hB _ hsm1 _ _ _ _ okT okT (hA.pur pa) (hC.pur pa)) ?_
  rintro _ H8 ⟨rfl, p8⟩
  refine ⟨p8.1, ?_⟩
  have g81 := p8.get g71
  have g82 := p8.get g72
  have l81 := AHeap.get_lt g81
  have l82 := AHeap.get_lt g82
  replace pa := pa.trans p8
  rw [sAC]
  simp -implicitDefEqProofs (disch := first | assumption | omega | (simp only [nxB]; omega) | (simp only [oneB])) only [s6_0, s6_1, s6_2, s6_3, s6_4, s6_5, s6_6, s6_7, s6_8, s6_9, s6_10, s6_11, s6_12, s6_13, s6_14, s6_15, s6_16, s6_17, s6_18, s6_19, s6_20, s6_21, s6_22, s6_23, s6_24, s6_25, s6_26, s6_27, s6_28, s6_29, s6_30, s6_31, s6_32, s6_33, s6_34, s6_35, s6_36, s6_37, s6, xalloc, xlen, AV.cells, splice, aload, astore, Nat.reduceAdd, Nat.reduceLeDiff, reduceIte, allB, xguard_tt, g81, g82, tk2]
  rw [evb_other (by decide)]
  refine W_eff (spec24 hB _ hsm2 _ _ _ _ okT okT (h2.pur pa) (hA.pur pa)) ?_
  rintro _ H9 ⟨rfl, p9⟩
  refine ⟨p9.1, ?_⟩
  have g91 := p9.get g81
  have g92 := p9.get g82
  have l91 := AHeap.get_lt g91
  have l92 := AHeap.get_lt g92
  replace pa := pa.trans p9
  simp -implicitDefEqProofs (disch := first | assumption | omega | (simp only [nxB]; omega) | (simp only [oneB])) only [s6_0, s6_1, s6_2, s6_3, s6_4, s6_5, s6_6, s6_7, s6_8, s6_9, s6_10, s6_11, s6_12, s6_13, s6_14, s6_15, s6_16, s6_17, s6_18, s6_19, s6_20, s6_21, s6_22, s6_23, s6_24, s6_25, s6_26, s6_27, s6_28, s6_29, s6_30, s6_31, s6_32, s6_33, s6_34, s6_35, s6_36, s6_37, s6, xalloc, xlen, AV.cells, splice, aload, astore, Nat.reduceAdd, Nat.reduceLeDiff, reduceIte, allB, xguard_tt, g91, g92, tk2]
  rw [evb_other (by decide)]
  refine W_eff (spec24 hB _ hsm1 _ _ _ _ okT okT (hA.pur pa) (h2.pur pa)) ?_
  rintro _ H10 ⟨rfl, p10⟩
  refine ⟨p10.1, ?_⟩
  replace pa := pa.trans p10
  rw [sameE_comm f]
  simp -implicitDefEqProofs (disch := first | assumption | omega | (simp only [nxB]; omega) | (simp only [oneB])) only [s6_0, s6_1, s6_3, s6_4, s6_5, s6_6, s6_7, s6_8, s6_9, s6_10, s6_11, s6_12, s6_13, s6_14, s6_15, s6_16, s6_17, s6_18, s6_19, s6_20, s6_21, s6_22, s6_23, s6_24, s6_25, s6_26, s6_27, s6_28, s6_29, s6_30, s6_31, s6_32, s6_33, s6_34, s6_35, s6_36, s6_37, s6, xalloc, xlen, AV.cells, splice, aload, astore, Nat.reduceAdd, Nat.reduceLeDiff, reduceIte, allB, xguard_tt, beq_self_eq_true, evb_self]
  simp only [xeff, Nat.le_refl, decide_true, cond_true, K_val_eff, K_heap_eff, s6_3, pickOf_t, xb_some, s6_2]
  have q5A : ∀ HH : AHeap, HH.get H.next = some (.row false 11 [[AV.int .i64 a.kind, .int .i64 a.n, .str a.name, .str a.ofn, .int .i64 a.ofd, kv, .int .i64 a.pos, .int .i64 a.tb, .int .i64 a.tr, .int .i64 a.td, .int .i64 a.ref]]) → rdIs (aload P HH 39 (.ptr H.next 0 0)) (.agg [AV.int .i64 a.kind, .int .i64 a.n, .str a.name, .str a.ofn, .int .i64 a.ofd, kv, .int .i64 a.pos, .int .i64 a.tb, .int .i64 a.tr, .int .i64 a.td, .int .i64 a.ref]) = true := fun HH hh => by
    simp -implicitDefEqProofs (disch := first | assumption | omega | (simp only [nxB]; omega) | (simp only [oneB])) only [aload, tyB, Nat.reduceAdd, Nat.reduceLeDiff, reduceIte, AV.cells, splice, lsB, hh]
    exact h1.same
  have q5B : ∀ HH : AHeap, HH.get (H.next + 1) = some (.row false 11 [c2]) → rdIs (aload P HH 39 (.ptr (H.next + 1) 0 0)) (.agg c2) = true := fun HH hh => by
    simp -implicitDefEqProofs (disch := first | assumption | omega | (simp only [nxB]; omega) | (simp only [oneB])) only [aload, tyB, Nat.reduceAdd, Nat.reduceLeDiff, reduceIte, AV.cells, splice, lsB, hh, tk2]
    exact h2.same
  refine W_bif (dchk_true (by kernel_rfl) ?_) ?_
  · generalize hT : ([_, _, _, _, _, _, _, _, _, _, _, _, _, _, _, _, _, _, _, _, _, _, _, _, _] : List Tc) = TT
    have hall : ∀ H' ∈ traceH TT (H4.push (.row false 11 [B3])), H'.get H.next = some (.row false 11 [[AV.int .i64 a.kind, .int .i64 a.n, .str a.name, .str a.ofn, .int .i64 a.ofd, kv, .int .i64 a.pos, .int .i64 a.tb, .int .i64 a.tr, .int .i64 a.td, .int .i64 a.ref]]) ∧ H'.get (H.next + 1) = some (.row false 11 [c2]) := by
      intro H' hm
      rw [← hT] at hm
      simp only [traceH, K_heap_pure, K_heap_read, K_heap_eff, List.mem_cons, List.not_mem_nil, or_false] at hm
      rcases hm with rfl | rfl | rfl | rfl | rfl | rfl | rfl | rfl | rfl | rfl | rfl | rfl | rfl | rfl | rfl | rfl | rfl | rfl | rfl | rfl | rfl | rfl | rfl | rfl | rfl | rfl <;> first | exact ⟨p5.get g1', p5.get g2'⟩ | exact ⟨g61, g62⟩ | exact ⟨g71, g72⟩ | exact ⟨g81, g82⟩ | exact ⟨g91, g92⟩ | exact ⟨p10.get g91, p10.get g92⟩
    rw [← hT] at hall ⊢
    simp only [winsP]
    exact ⟨(fun v hv => .inl rfl), (fun v hv => .inl rfl), (fun v hv => by cases hv), (fun v hv => .inr fun H' hm => by cases hv; exact q5A _ (hall H' hm).1), (fun v hv => .inr fun H' hm => by cases hv; exact q5B _ (hall H' hm).2), (fun v hv => by cases hv), (fun v hv => by cases hv), (fun v hv => by cases hv), (fun v hv => .inl rfl), (fun v hv => .inl rfl), (fun v hv => by cases hv), (fun v hv => by cases hv), (fun v hv => by cases hv), (fun v hv => .inl rfl), (fun v hv => .inl rfl), (fun v hv => by cases hv), (fun v hv => .inr fun H' hm => by cases hv; exact q5A _ (hall H' hm).1), (fun v hv => .inr fun H' hm => by cases hv; exact q5B _ (hall H' hm).2), (fun v hv => by cases hv), (fun v hv => by cases hv), (fun v hv => by cases hv), (fun v hv => by cases hv), (fun v hv => by cases hv), (fun v hv => by cases hv), (fun v hv => by cases hv), trivial⟩
  · simp only [s6_1, K_heap_pure, K_heap_read, K_heap_eff]
    exact W_some.2 ⟨rfl, pa.1⟩
set_option maxRecDepth 100000 in
theorem same_ok {H : AHeap} {e f : Ex} {v w : AV} (h1 : ExV H okT e v) (h2 : ExV H okT f w) (at_ : Int) : ∃ H', H.next ≤ H'.next ∧ CallOk1 P 6 [v, w, .int .i64 at_] H (.bool true) H' := by
  obtain ⟨_, H', h, rfl, p⟩ := same_run h1 h2 at_
  exact ⟨H', p, code_ok1 (c := bodyOf Try.f6) (M := 0) progOk (evb_ok progOk known3) Try.func6 (by kernel_rfl) (by kernel_rfl) (by kernel_rfl) (Eq.trans (s6_eq (evb P 17 true) 0 v w (.int .i64 at_) H) h)⟩
end Go.Proofs.Ytnjoomfeddamcaa

/-
  The law ExprSame, proved: it returns true for every input, and each argument reads afterwards as it read before. No conditions.
-/
namespace Go.Proofs.Ytnjoomfeddamcaa
open Go.Ev
open Go.ChangeShapes Go.WideShapes Go.ChangeAt Go.RowKit
open Go.ChangeMaps (open_string shut_string)

theorem und39 : ∃ fs, P.underlying 39 = some (.struct fs) := by
  have h : fldOf P 39 0 = some (3, 0) := by kernel_rfl
  unfold fldOf at h
  split at h
  · rename_i fs hf; exact ⟨fs, hf⟩
  · cases h
set_option maxRecDepth 100000 in
theorem agg39 {W : World} {r : Reach} {base : Nat} {v : Value} (hval : Value.okWide P W r base 39 v) : ∃ cs : List Value, v = .agg cs.toArray := by
  obtain ⟨fs, hu⟩ := und39
  unfold Value.okWide at hval
  rw [hu] at hval
  obtain ⟨cs, rfl, _⟩ := hval
  exact ⟨cs.toList, by simp⟩
set_option maxRecDepth 100000 in
theorem exprSame_law {H : Type} {enc : TypeId × Value → H} {W : World} {r r' : Reach} {base base' : Nat} {v w : Value} {d d' : DataW H} {ps ps' : List MemPlace} (hv : Value.okWide P W r base 39 v) (h : DataW.Trod enc P W 0 (fun _ => true) true 39 v d ps)
    (hw : Value.okWide P W r' base' 39 w) (h' : DataW.Trod enc P W 0 (fun _ => true) true 39 w d' ps') (at_ : Int) : LawOk P 6 [v, w, .int .i64 at_] W := by
  obtain ⟨cs, rfl⟩ := agg39 hv
  obtain ⟨ds, rfl⟩ := agg39 hw
  obtain ⟨n, hn⟩ := h
  obtain ⟨n', hn'⟩ := h'
  have e1 : (Value.agg cs.toArray).cells.toList = cs := by simp [Value.cells]
  have e2 : (Value.agg ds.toArray).cells.toList = ds := by simp [Value.cells]
  rw [e1] at hn
  rw [e2] at hn'
  obtain ⟨ρ1, H1, e, avs, s1, l1, p1, v1, _, _, x1⟩ := open_ex n _ _ cs _ (Seen.empty W) hn
  obtain ⟨ρ2, H2, f, bvs, s2, l2, p2, v2, _, _, x2⟩ := open_ex n' _ _ ds _ s1 hn'
  obtain ⟨H', h6, h7⟩ := same_ok (x1.pur' p2) x2 at_
  exact ⟨ρ2, H2, _, H', s2.rel, s2.ro, s2.top, h6, .cons _ _ _ _ (.agg _ _ (v1.mono l2)) (.cons _ _ _ _ (.agg _ _ v2) (.cons _ _ _ _ (.int _ _) .nil)), h7⟩
namespace exprSame
set_option maxRecDepth 100000 in
theorem lifted (os : Os) (started : os.Started) (H : Type) (enc : TypeId × Value → H) :
    ReturnsInHanded {} Try.checked os 6 .any (Rows.exprSameSpec.pre6 enc Try.prog Try.f6 Rows.exprSameRow.domain false) (Rows.exprSameSpec.post enc Try.prog Try.f6 false true false false) := by
  refine returnsInHanded_of_change (C := Try.checked) own started (by kernel_rfl) Try.func6
    (ChangeSpec.witness6 (enc := enc) (C := Try.checked) false ⟨#[], #[.agg #[.int .i64 0, .int .i64 0, .string ⟨#[]⟩, .string ⟨#[]⟩, .int .i64 0, .slice none 0 0, .int .i64 0, .int .i64 0, .int .i64 0, .int .i64 0, .int .i64 0], .agg #[.int .i64 0, .int .i64 0, .string ⟨#[]⟩, .string ⟨#[]⟩, .int .i64 0, .slice none 0 0, .int .i64 0, .int .i64 0, .int .i64 0, .int .i64 0, .int .i64 0], .int .i64 0], []⟩ 8 (by kernel_rfl) (by kernel_rfl) (by kernel_rfl) (by kernel_rfl)) ?_
  intro W base args ds gs before hval0 hW hcnd _
  have hval : ∀ (j : Nat) t v, Try.f6.params[j]? = some t → args[j]? = some v → Value.okWide Try.prog W .any base t v := hval0
  have hW' := hW
  obtain ⟨p, q, hA0, hV, rfl, hfz, hnd⟩ := hW
  have hA : DataW.TrodAll enc Try.prog W 0 (fun _ => true) true Try.f6.params.toList args.toList ds p := hA0
  have hpar : Try.f6.params = #[39, 39, 3] := by kernel_rfl
  rw [hpar] at hA hval
  obtain ⟨v0, vs0, d0, ds0, p0, q0, hargs, rfl, rfl, h0, r0⟩ := trodAll_cons hA
  obtain ⟨v1, vs1, d1, ds1, p1, q1, rfl, rfl, rfl, h1, r1⟩ := trodAll_cons r0
  obtain ⟨v2, vs2, d2, ds2, p2, q2, rfl, rfl, rfl, h2, r2⟩ := trodAll_cons r1
  obtain ⟨rfl, rfl, rfl⟩ := trodAll_nil r2
  obtain rfl : args = #[v0, v1, v2] := by cases args; simp_all
  obtain ⟨rfl, rfl⟩ := trodVars_none hV
  have g0 := (hval 0 39 v0 rfl rfl)
  have g1 := (hval 1 39 v1 rfl rfl)
  obtain ⟨a2, hv2, -, -, w2⟩ := open_int (P := P) und3 (hval 2 3 v2 rfl rfl) h2
  subst hv2
  have hlaw : LawOk P 6 [v0, v1, .int .i64 a2] W := exprSame_law g0 h0 g1 h1 a2
  refine (law_walk (c := bodyOf Try.f6) progOk Try.func6 (by kernel_rfl) hlaw).mono fun e W' ⟨he, bel⟩ => ?_
  subst he
  obtain ⟨pa, hpa⟩ := trodAll_below laidOut bel (ts := [39, 39, 3]) (fun t ht => by
    simp only [List.mem_cons, List.not_mem_nil, or_false] at ht
    rcases ht with rfl | rfl | rfl <;> exact ⟨by kernel_rfl, of_decide_eq_true (by kernel_rfl)⟩) hA
  exact ⟨_, rfl, _, _, _, [], pa, [], hW', trodAll_mk1 (shut_bool (P := P) und4 _), by rw [hpar]; exact hpa, rfl, bel.frame _, fun h => by cases h⟩
theorem over : Rows.exprSameRow.holds Try.pinned (OpenSpec.ofChange Rows.exprSameSpec) :=
  OpenClaim.holds_of_wide 6 Try.f6 rfl rfl rfl rfl rfl rfl rfl ⟨rfl, rfl, rfl, rfl, rfl⟩ rfl rfl rfl rfl rfl (by kernel_rfl) Try.func6 (by kernel_rfl)
    (of_decide_eq_true (by kernel_rfl)) (by unfold Func.isWrapper; first | (rw [if_pos (by decide +kernel)]; kernel_rfl) | (rw [if_neg (by decide +kernel)]; exact ⟨rfl, rfl⟩))
    (fun os started H enc _ => lifted os started H enc)
end exprSame
theorem exprSame_holds : Rows.ExprSameSaid := exprSame.over
end Go.Proofs.Ytnjoomfeddamcaa


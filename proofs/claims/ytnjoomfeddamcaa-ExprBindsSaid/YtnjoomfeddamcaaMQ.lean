/-
  Texts of one proof, laid together: B1 B2 ExprBinds.
-/
import Derived.Test.YtnjoomfeddamcaaMJ
import Derived.Test.YtnjoomfeddamcaaMNa
import Derived.Test.YtnjoomfeddamcaaMN
import Derived.Test.YtnjoomfeddamcaaMHe
import Derived.Test.YtnjoomfeddamcaaML
import Derived.Test.YtnjoomfeddamcaaRows
import Derived.Test.YtnjoomfeddamcaaMO
set_option linter.unusedVariables false
set_option linter.unusedSimpArgs false
/-
  The law ExprBinds: of two signs the one that binds more binds first.
-/
namespace Go.Proofs.Ytnjoomfeddamcaa
open Go.Ev

def binTbl : List (Bs × Int × Int) := [([124, 124], 24, 1), ([38, 38], 23, 2), ([60], 19, 3), ([60, 61], 20, 3), ([61, 61], 21, 3), ([33, 61], 22, 3), ([43], 14, 4), ([45], 15, 4), ([42], 16, 5), ([47], 17, 5), ([37], 18, 5)]
def binStr (x y : Bs) : Bs := [97, 32] ++ x ++ [32, 98, 32] ++ y ++ [32, 99]
def bindsOk (p q : Bs × Int × Int) : Bool := match rowF (tokensS (binStr p.1 q.1)).1 300 0 (startS 0 0) with
  | some (.mk a [.mk b _, .mk c _], s) => s.fe == 0 && (s.at_ == 5 && (bif decide (p.2.2 < q.2.2) then a.kind == p.2.1 && (b.name == [97] && c.kind == q.2.1) else a.kind == q.2.1 && (c.name == [99] && b.kind == p.2.1)))
  | _ => false
theorem binds_all : (binTbl.all fun p => binTbl.all fun q => bindsOk p q) = true := by decide +kernel
theorem binds_one {p q : Bs × Int × Int} (hp : p ∈ binTbl) (hq : q ∈ binTbl) : ∃ a b c kb kc s, rowF (tokensS (binStr p.1 q.1)).1 300 0 (startS 0 0) = some (.mk a [.mk b kb, .mk c kc], s) ∧ s.fe = 0 ∧ s.at_ = 5 ∧
    (p.2.2 < q.2.2 → a.kind = p.2.1 ∧ b.name = [97] ∧ c.kind = q.2.1) ∧ (¬ p.2.2 < q.2.2 → a.kind = q.2.1 ∧ c.name = [99] ∧ b.kind = p.2.1) := by
  have h := List.all_eq_true.1 (List.all_eq_true.1 binds_all p hp) q hq
  unfold bindsOk at h
  split at h
  · rename_i a b kb c kc s he
    refine ⟨a, b, c, kb, kc, s, he, ?_⟩
    simp only [Bool.and_eq_true, beq_iff_eq] at h
    refine ⟨h.1, h.2.1, fun hl => ?_, fun hl => ?_⟩
    · have := h.2.2; simp only [hl, decide_true, cond_true, Bool.and_eq_true, beq_iff_eq] at this; exact this
    · have := h.2.2; simp only [hl, decide_false, cond_false, Bool.and_eq_true, beq_iff_eq] at this; exact this
  · cases h
end Go.Proofs.Ytnjoomfeddamcaa

/-
  The law ExprBinds: the walk.
-/
namespace Go.Proofs.Ytnjoomfeddamcaa
open Go.Ev

theorem binds_mem {k : Nat} {p : Bs × Int × Int} (h : binTbl[k]? = some p) : p ∈ binTbl := List.mem_of_getElem? h
theorem binds_len {p : Bs × Int × Int} (h : p ∈ binTbl) : p.1.length ≤ 2 := by
  have : ∀ p ∈ binTbl, p.1.length ≤ 2 := by decide
  exact this p h
theorem binds_run (i j : Int) (H : AHeap) : W (s8 (evb P 17 true) (.int .i64 i) (.int .i64 j) H) fun v H' => v = .bool true ∧ H.next ≤ H'.next := by
  by_cases i0 : i < 0
  · simp -implicitDefEqProofs (disch := first | assumption | omega | (simp only [nxB]; omega) | (simp only [oneB])) only [s8_0, s8_1, s8_2, s8_3, s8_4, s8_5, s8_6, s8_7, s8_8, s8_9, s8_10, s8_11, s8_12, s8_13, s8_14, s8_15, s8_16, s8_17, s8_18, s8_19, s8_20, s8_21, s8_22, s8_23, s8_24, s8_25, s8_26, s8_27, s8_28, s8_29, s8_30, s8_31, s8_32, s8_33, s8_34, s8_35, s8_36, s8_37, s8_38, s8_39, s8_40, s8_41, s8_42, s8_43, s8_44, s8_45, s8_46, s8_47, s8_48, s8_49, s8_50, s8_51, s8_52, s8_53, s8_54, s8_55, s8_56, s8_57, s8_58, s8_59, s8_60, s8_61, s8_62, s8_63, s8_64, s8_65, s8_66, s8_67, s8_68, s8_69, s8_70, s8_71, s8_72, s8_73, s8_74, s8_75, s8_76, s8_77, s8_78, s8_79, s8_80, s8_81, s8_82, s8_83, s8_84, s8_85, s8_86, s8_87, s8_88, s8_89, s8_90, s8_91, s8_92, s8_93, s8_94, s8_95, s8_96, s8_97, s8_98, s8_99, s8_100, s8_101, s8_102, s8_103, s8_104, s8_105, s8_106, s8_107, s8_108, s8_109, s8_110, s8_111, s8_112, s8, xalloc, xlen, AV.cells, splice, aload, astore, Nat.reduceAdd, Nat.reduceLeDiff, reduceIte, allB, i0, decide_true]
    exact W_some.2 ⟨rfl, by simp only [AHeap.next_push]; omega⟩
  by_cases i1 : ((11 : Nat) : Int) ≤ i
  · simp -implicitDefEqProofs (disch := first | assumption | omega | (simp only [nxB]; omega) | (simp only [oneB])) only [s8_0, s8_1, s8_2, s8_3, s8_4, s8_5, s8_6, s8_7, s8_8, s8_9, s8_10, s8_11, s8_12, s8_13, s8_14, s8_15, s8_16, s8_17, s8_18, s8_19, s8_20, s8_21, s8_22, s8_23, s8_24, s8_25, s8_26, s8_27, s8_28, s8_29, s8_30, s8_31, s8_32, s8_33, s8_34, s8_35, s8_36, s8_37, s8_38, s8_39, s8_40, s8_41, s8_42, s8_43, s8_44, s8_45, s8_46, s8_47, s8_48, s8_49, s8_50, s8_51, s8_52, s8_53, s8_54, s8_55, s8_56, s8_57, s8_58, s8_59, s8_60, s8_61, s8_62, s8_63, s8_64, s8_65, s8_66, s8_67, s8_68, s8_69, s8_70, s8_71, s8_72, s8_73, s8_74, s8_75, s8_76, s8_77, s8_78, s8_79, s8_80, s8_81, s8_82, s8_83, s8_84, s8_85, s8_86, s8_87, s8_88, s8_89, s8_90, s8_91, s8_92, s8_93, s8_94, s8_95, s8_96, s8_97, s8_98, s8_99, s8_100, s8_101, s8_102, s8_103, s8_104, s8_105, s8_106, s8_107, s8_108, s8_109, s8_110, s8_111, s8_112, s8, xalloc, xlen, AV.cells, splice, aload, astore, Nat.reduceAdd, Nat.reduceLeDiff, reduceIte, allB, i0, i1, decide_true, decide_false]
    exact W_some.2 ⟨rfl, by simp only [AHeap.next_push]; omega⟩
  by_cases j0 : j < 0
  · simp -implicitDefEqProofs (disch := first | assumption | omega | (simp only [nxB]; omega) | (simp only [oneB])) only [s8_0, s8_1, s8_2, s8_3, s8_4, s8_5, s8_6, s8_7, s8_8, s8_9, s8_10, s8_11, s8_12, s8_13, s8_14, s8_15, s8_16, s8_17, s8_18, s8_19, s8_20, s8_21, s8_22, s8_23, s8_24, s8_25, s8_26, s8_27, s8_28, s8_29, s8_30, s8_31, s8_32, s8_33, s8_34, s8_35, s8_36, s8_37, s8_38, s8_39, s8_40, s8_41, s8_42, s8_43, s8_44, s8_45, s8_46, s8_47, s8_48, s8_49, s8_50, s8_51, s8_52, s8_53, s8_54, s8_55, s8_56, s8_57, s8_58, s8_59, s8_60, s8_61, s8_62, s8_63, s8_64, s8_65, s8_66, s8_67, s8_68, s8_69, s8_70, s8_71, s8_72, s8_73, s8_74, s8_75, s8_76, s8_77, s8_78, s8_79, s8_80, s8_81, s8_82, s8_83, s8_84, s8_85, s8_86, s8_87, s8_88, s8_89, s8_90, s8_91, s8_92, s8_93, s8_94, s8_95, s8_96, s8_97, s8_98, s8_99, s8_100, s8_101, s8_102, s8_103, s8_104, s8_105, s8_106, s8_107, s8_108, s8_109, s8_110, s8_111, s8_112, s8, xalloc, xlen, AV.cells, splice, aload, astore, Nat.reduceAdd, Nat.reduceLeDiff, reduceIte, allB, i0, i1, j0, decide_true, decide_false]
    exact W_some.2 ⟨rfl, by simp only [AHeap.next_push]; omega⟩
  by_cases j1 : ((11 : Nat) : Int) ≤ j
  · simp -implicitDefEqProofs (disch := first | assumption | omega | (simp only [nxB]; omega) | (simp only [oneB])) only [s8_0, s8_1, s8_2, s8_3, s8_4, s8_5, s8_6, s8_7, s8_8, s8_9, s8_10, s8_11, s8_12, s8_13, s8_14, s8_15, s8_16, s8_17, s8_18, s8_19, s8_20, s8_21, s8_22, s8_23, s8_24, s8_25, s8_26, s8_27, s8_28, s8_29, s8_30, s8_31, s8_32, s8_33, s8_34, s8_35, s8_36, s8_37, s8_38, s8_39, s8_40, s8_41, s8_42, s8_43, s8_44, s8_45, s8_46, s8_47, s8_48, s8_49, s8_50, s8_51, s8_52, s8_53, s8_54, s8_55, s8_56, s8_57, s8_58, s8_59, s8_60, s8_61, s8_62, s8_63, s8_64, s8_65, s8_66, s8_67, s8_68, s8_69, s8_70, s8_71, s8_72, s8_73, s8_74, s8_75, s8_76, s8_77, s8_78, s8_79, s8_80, s8_81, s8_82, s8_83, s8_84, s8_85, s8_86, s8_87, s8_88, s8_89, s8_90, s8_91, s8_92, s8_93, s8_94, s8_95, s8_96, s8_97, s8_98, s8_99, s8_100, s8_101, s8_102, s8_103, s8_104, s8_105, s8_106, s8_107, s8_108, s8_109, s8_110, s8_111, s8_112, s8, xalloc, xlen, AV.cells, splice, aload, astore, Nat.reduceAdd, Nat.reduceLeDiff, reduceIte, allB, i0, i1, j0, j1, decide_true, decide_false]
    exact W_some.2 ⟨rfl, by simp only [AHeap.next_push]; omega⟩
  obtain ⟨p, hp⟩ : ∃ p, binTbl[i.toNat]? = some p := ⟨binTbl[i.toNat]'(by simp [binTbl]; omega), by simp⟩
  obtain ⟨q, hq⟩ : ∃ p, binTbl[j.toNat]? = some p := ⟨binTbl[j.toNat]'(by simp [binTbl]; omega), by simp⟩
  have sg : ∀ (k : Nat) (r : Bs × Int × Int), binTbl[k]? = some r → ([[AV.str [124, 124]], [.str [38, 38]], [.str [60]], [.str [60, 61]], [.str [61, 61]], [.str [33, 61]], [.str [43]], [.str [45]], [.str [42]], [.str [47]], [.str [37]]] : List (List AV))[k]? = some [.str r.1] := fun k r h => by
    have : ([[AV.str [124, 124]], [.str [38, 38]], [.str [60]], [.str [60, 61]], [.str [61, 61]], [.str [33, 61]], [.str [43]], [.str [45]], [.str [42]], [.str [47]], [.str [37]]] : List (List AV)) = binTbl.map fun p => [AV.str p.1] := rfl
    rw [this, List.getElem?_map, h]; rfl
  have kd : ∀ (k : Nat) (r : Bs × Int × Int), binTbl[k]? = some r → ([[AV.int .i64 24], [.int .i64 23], [.int .i64 19], [.int .i64 20], [.int .i64 21], [.int .i64 22], [.int .i64 14], [.int .i64 15], [.int .i64 16], [.int .i64 17], [.int .i64 18]] : List (List AV))[k]? = some [.int .i64 r.2.1] := fun k r h => by
    have : ([[AV.int .i64 24], [.int .i64 23], [.int .i64 19], [.int .i64 20], [.int .i64 21], [.int .i64 22], [.int .i64 14], [.int .i64 15], [.int .i64 16], [.int .i64 17], [.int .i64 18]] : List (List AV)) = binTbl.map fun p => [AV.int .i64 p.2.1] := rfl
    rw [this, List.getElem?_map, h]; rfl
  have lv : ∀ (k : Nat) (r : Bs × Int × Int), binTbl[k]? = some r → ([[AV.int .i64 1], [.int .i64 2], [.int .i64 3], [.int .i64 3], [.int .i64 3], [.int .i64 3], [.int .i64 4], [.int .i64 4], [.int .i64 5], [.int .i64 5], [.int .i64 5]] : List (List AV))[k]? = some [.int .i64 r.2.2] := fun k r h => by
    have : ([[AV.int .i64 1], [.int .i64 2], [.int .i64 3], [.int .i64 3], [.int .i64 3], [.int .i64 3], [.int .i64 4], [.int .i64 4], [.int .i64 5], [.int .i64 5], [.int .i64 5]] : List (List AV)) = binTbl.map fun p => [AV.int .i64 p.2.2] := rfl
    rw [this, List.getElem?_map, h]; rfl
  have sp := sg _ _ hp
  have sq := sg _ _ hq
  have kp := kd _ _ hp
  have kq := kd _ _ hq
  have lp := lv _ _ hp
  have lq := lv _ _ hq
  have l1 := binds_len (binds_mem hp)
  have l2 := binds_len (binds_mem hq)
  obtain ⟨a, b, c, kb, kc, s, hrow, hfe, hat, hlt, hge⟩ := binds_one (binds_mem hp) (binds_mem hq)
  obtain ⟨s1, hs1⟩ : ∃ s1 : Bs, s1 = [97, 32] ++ p.1 := ⟨_, rfl⟩
  obtain ⟨s2, hs2⟩ : ∃ s2 : Bs, s2 = s1 ++ [32, 98, 32] := ⟨_, rfl⟩
  obtain ⟨s3, hs3⟩ : ∃ s3 : Bs, s3 = s2 ++ q.1 := ⟨_, rfl⟩
  obtain ⟨s4, hs4⟩ : ∃ s4 : Bs, s4 = s3 ++ [32, 99] := ⟨_, rfl⟩
  have n1 : s1.length ≤ 4 := by rw [hs1]; simp; omega
  have n2 : s2.length ≤ 7 := by rw [hs2]; simp; omega
  have n3 : s3.length ≤ 9 := by rw [hs3]; simp; omega
  have hs5 : binStr p.1 q.1 = s4 := by rw [hs4, hs3, hs2, hs1]; rfl
  have a1 : fbin P .add 9 true (.str [97, 32]) (.str p.1) = some (.str s1) := by rw [hs1]; exact fbin_sadd _ _ [97, 32] p.1 (by simp only [List.length_cons, List.length_nil]; omega)
  have a2 : fbin P .add 9 true (.str s1) (.str [32, 98, 32]) = some (.str s2) := by rw [hs2]; exact fbin_sadd _ _ s1 [32, 98, 32] (by simp only [List.length_cons, List.length_nil]; omega)
  have a3 : fbin P .add 9 false (.str s2) (.str q.1) = some (.str s3) := by rw [hs3]; exact fbin_sadd _ _ s2 q.1 (by omega)
  have a4 : fbin P .add 9 true (.str s3) (.str [32, 99]) = some (.str s4) := by rw [hs4]; exact fbin_sadd _ _ s3 [32, 99] (by simp only [List.length_cons, List.length_nil]; omega)
  rw [hs5] at hrow
  have i2 : 0 ≤ i := by omega
  have i3 : i < ((11 : Nat) : Int) := by omega
  have j2 : 0 ≤ j := by omega
  have j3 : j < ((11 : Nat) : Int) := by omega
  generalize hR1 : ([[AV.str [124, 124]], [.str [38, 38]], [.str [60]], [.str [60, 61]], [.str [61, 61]], [.str [33, 61]], [.str [43]], [.str [45]], [.str [42]], [.str [47]], [.str [37]]] : List (List AV)) = R1 at sp sq
  generalize hR2 : ([[AV.int .i64 24], [.int .i64 23], [.int .i64 19], [.int .i64 20], [.int .i64 21], [.int .i64 22], [.int .i64 14], [.int .i64 15], [.int .i64 16], [.int .i64 17], [.int .i64 18]] : List (List AV)) = R2 at kp kq
  generalize hR3 : ([[AV.int .i64 1], [.int .i64 2], [.int .i64 3], [.int .i64 3], [.int .i64 3], [.int .i64 3], [.int .i64 4], [.int .i64 4], [.int .i64 5], [.int .i64 5], [.int .i64 5]] : List (List AV)) = R3 at lp lq
  have p3 := ((Pur.push H (.row false 1 R1)).then_push (.row false 1 R2)).then_push (.row false 1 R3)
  simp -implicitDefEqProofs (disch := first | assumption | omega | (simp only [nxB]; omega) | (simp only [oneB])) only [s8_0, s8_1, s8_2, s8_3, s8_4, s8_5, s8_6, s8_7, s8_8, s8_9, s8_10, s8_11, s8_12, s8_13, s8_14, s8_15, s8_16, s8_17, s8_18, s8_19, s8_20, s8_21, s8_22, s8_23, s8_24, s8_25, s8_26, s8_27, s8_28, s8_29, s8_30, s8_31, s8_32, s8_33, s8_34, s8_35, s8_36, s8_37, s8_38, s8_39, s8_40, s8_41, s8_42, s8_43, s8_44, s8_45, s8_46, s8_47, s8_48, s8_49, s8_50, s8_51, s8_52, s8_53, s8_54, s8_55, s8_56, s8_57, s8_58, s8_59, s8_60, s8_61, s8_62, s8_63, s8_64, s8_65, s8_66, s8_67, s8_68, s8_69, s8_70, s8_71, s8_72, s8_73, s8_74, s8_75, s8_76, s8_77, s8_78, s8_79, s8_80, s8_81, s8_82, s8_83, s8_84, s8_85, s8_86, s8_87, s8_88, s8_89, s8_90, s8_91, s8_92, s8_93, s8_94, s8_95, s8_96, s8_97, s8_98, s8_99, s8_100, s8_101, s8_102, s8_103, s8_104, s8_105, s8_106, s8_107, s8_108, s8_109, s8_110, s8_111, s8_112, s8, xalloc, xlen, AV.cells, splice, aload, astore, Nat.reduceAdd, Nat.reduceLeDiff, reduceIte, allB, hR1, hR2, hR3, i0, i1, j0, j1, decide_false, sp, sq, a1, a2, a3, a4]
  rw [evb_other (by decide)]
  refine W_call (Tokens_spec _) ?_
  rintro _ H4 ⟨tv, rfl, ht, p4⟩
  refine ⟨p4.1, ?_⟩
  have n4 := p4.1
  simp only [AHeap.next_push] at n4
  have g2 : H4.get (H.next + 1) = some (.row false 1 R2) := p4.get (by simp -implicitDefEqProofs (disch := first | assumption | omega | (simp only [nxB]; omega) | (simp only [oneB])) only [heapB])
  have g3 : H4.get (H.next + 1 + 1) = some (.row false 1 R3) := p4.get (by simp -implicitDefEqProofs (disch := first | assumption | omega | (simp only [nxB]; omega) | (simp only [oneB])) only [heapB])
  simp -implicitDefEqProofs (disch := first | assumption | omega | (simp only [nxB]; omega) | (simp only [oneB])) only [s8_0, s8_1, s8_2, s8_3, s8_4, s8_5, s8_6, s8_7, s8_8, s8_9, s8_10, s8_11, s8_12, s8_13, s8_14, s8_15, s8_16, s8_17, s8_18, s8_19, s8_20, s8_21, s8_22, s8_23, s8_24, s8_25, s8_26, s8_27, s8_28, s8_29, s8_30, s8_31, s8_32, s8_33, s8_34, s8_35, s8_36, s8_37, s8_38, s8_39, s8_40, s8_41, s8_42, s8_43, s8_44, s8_45, s8_46, s8_47, s8_48, s8_49, s8_50, s8_51, s8_52, s8_53, s8_54, s8_55, s8_56, s8_57, s8_58, s8_59, s8_60, s8_61, s8_62, s8_63, s8_64, s8_65, s8_66, s8_67, s8_68, s8_69, s8_70, s8_71, s8_72, s8_73, s8_74, s8_75, s8_76, s8_77, s8_78, s8_79, s8_80, s8_81, s8_82, s8_83, s8_84, s8_85, s8_86, s8_87, s8_88, s8_89, s8_90, s8_91, s8_92, s8_93, s8_94, s8_95, s8_96, s8_97, s8_98, s8_99, s8_100, s8_101, s8_102, s8_103, s8_104, s8_105, s8_106, s8_107, s8_108, s8_109, s8_110, s8_111, s8_112, s8, xalloc, xlen, AV.cells, splice, aload, astore, Nat.reduceAdd, Nat.reduceLeDiff, reduceIte, allB, sp, sq]
  generalize hq1 : tokensS s4 = tk at ht hrow
  rw [evb_other (by decide)]
  refine W_call (parse_spec (by omega) (ht.pur (Pur.push H4 _)) 0 0 hrow) ?_
  rintro _ H5 ⟨v1, rfl, hv1, p5⟩
  refine ⟨p5.1, ?_⟩
  have n5 := p5.1
  simp only [AHeap.next_push] at n5
  rw [show parseS (.mk a [.mk b kb, .mk c kc]) s = (.mk a [.mk b kb, .mk c kc], 5, 0, 0) by simp [parseS, hfe, hat]] at hv1 ⊢
  simp only at hv1
  rw [ExV_mk] at hv1
  obtain ⟨kv, rfl, hk⟩ := hv1
  obtain ⟨l, ix, cap, ro, els, rfl, hok, hg, hels⟩ := hk.row (by simp)
  obtain ⟨c0, e0, v0, hels'⟩ := hels.cons
  obtain ⟨c1, e1, v1, _⟩ := hels'.cons
  rw [ExV_mk] at v0 v1
  obtain ⟨kv0, hc0, _⟩ := v0
  obtain ⟨kv1, hc1, _⟩ := v1
  cases hc0
  cases hc1
  simp only [Ea.cells] at e0 e1 ⊢
  have g2' := p5.get ((Pur.push H4 (.row false 2 [[.int .i64 tk.2.1, .int .i64 tk.2.2]])).get g2)
  have g3' := p5.get ((Pur.push H4 (.row false 2 [[.int .i64 tk.2.1, .int .i64 tk.2.2]])).get g3)
  have gl2 := AHeap.get_lt g2'
  have gl3 := AHeap.get_lt g3'
  have gl := AHeap.get_lt hg
  have z2 : ((2 : Nat) : Int) = 2 := rfl
  have i01 : (0 : Int) ≤ 1 := by decide
  have i02 : (0 : Int) < ((2 : Nat) : Int) := by decide
  have i12 : (1 : Int) < ((2 : Nat) : Int) := by decide
  have t0 : (0 : Int).toNat = 0 := rfl
  have t1 : (1 : Int).toNat = 1 := rfl
  have hf : decide (p.2.2 < q.2.2) = true ∨ decide (p.2.2 < q.2.2) = false := by cases decide (p.2.2 < q.2.2) <;> simp
  have htk : List.take 11 [AV.int .i64 a.kind, .int .i64 a.n, .str a.name, .str a.ofn, .int .i64 a.ofd, .sl l ix 2 11 cap, .int .i64 a.pos, .int .i64 a.tb, .int .i64 a.tr, .int .i64 a.td, .int .i64 a.ref] = [AV.int .i64 a.kind, .int .i64 a.n, .str a.name, .str a.ofn, .int .i64 a.ofd, .sl l ix 2 11 cap, .int .i64 a.pos, .int .i64 a.tb, .int .i64 a.tr, .int .i64 a.td, .int .i64 a.ref] := rfl
  rcases hf with hf | hf
  · obtain ⟨w1, w2, w3⟩ := hlt (of_decide_eq_true hf)
    simp -implicitDefEqProofs (disch := first | assumption | omega | (simp only [nxB]; omega) | (simp only [oneB])) only [s8_0, s8_1, s8_2, s8_3, s8_4, s8_5, s8_6, s8_7, s8_8, s8_9, s8_10, s8_11, s8_12, s8_13, s8_14, s8_15, s8_16, s8_17, s8_18, s8_19, s8_20, s8_21, s8_22, s8_23, s8_24, s8_25, s8_26, s8_27, s8_28, s8_29, s8_30, s8_31, s8_32, s8_33, s8_34, s8_35, s8_36, s8_37, s8_38, s8_39, s8_40, s8_41, s8_42, s8_43, s8_44, s8_45, s8_46, s8_47, s8_48, s8_49, s8_50, s8_51, s8_52, s8_53, s8_54, s8_55, s8_56, s8_57, s8_58, s8_59, s8_60, s8_61, s8_62, s8_63, s8_64, s8_65, s8_66, s8_67, s8_68, s8_69, s8_70, s8_71, s8_72, s8_73, s8_74, s8_75, s8_76, s8_77, s8_78, s8_79, s8_80, s8_81, s8_82, s8_83, s8_84, s8_85, s8_86, s8_87, s8_88, s8_89, s8_90, s8_91, s8_92, s8_93, s8_94, s8_95, s8_96, s8_97, s8_98, s8_99, s8_100, s8_101, s8_102, s8_103, s8_104, s8_105, s8_106, s8_107, s8_108, s8_109, s8_110, s8_111, s8_112, s8, xalloc, xlen, AV.cells, splice, aload, astore, Nat.reduceAdd, Nat.reduceLeDiff, reduceIte, allB, AHeap.push_set_lt, z2, bne_self_eq_false, g2', g3', lp, lq, kp, kq, hf, hg, e0, e1, t0, t1, w1, w2, w3, beq_self_eq_true, xguard_tt, evb_self]
    simp only [xeff, Nat.le_refl, decide_true, cond_true, s8_4, pickOf_t, xb_some, K_val_eff, s8_3]
    refine W_bif rfl ?_
    simp only [s8_2, K_heap_pure, K_heap_read, K_heap_eff]
    exact W_some.2 ⟨rfl, by simp only [AHeap.next_push]; omega⟩
  · obtain ⟨w1, w2, w3⟩ := hge (of_decide_eq_false hf)
    simp -implicitDefEqProofs (disch := first | assumption | omega | (simp only [nxB]; omega) | (simp only [oneB])) only [s8_0, s8_1, s8_2, s8_3, s8_4, s8_5, s8_6, s8_7, s8_8, s8_9, s8_10, s8_11, s8_12, s8_13, s8_14, s8_15, s8_16, s8_17, s8_18, s8_19, s8_20, s8_21, s8_22, s8_23, s8_24, s8_25, s8_26, s8_27, s8_28, s8_29, s8_30, s8_31, s8_32, s8_33, s8_34, s8_35, s8_36, s8_37, s8_38, s8_39, s8_40, s8_41, s8_42, s8_43, s8_44, s8_45, s8_46, s8_47, s8_48, s8_49, s8_50, s8_51, s8_52, s8_53, s8_54, s8_55, s8_56, s8_57, s8_58, s8_59, s8_60, s8_61, s8_62, s8_63, s8_64, s8_65, s8_66, s8_67, s8_68, s8_69, s8_70, s8_71, s8_72, s8_73, s8_74, s8_75, s8_76, s8_77, s8_78, s8_79, s8_80, s8_81, s8_82, s8_83, s8_84, s8_85, s8_86, s8_87, s8_88, s8_89, s8_90, s8_91, s8_92, s8_93, s8_94, s8_95, s8_96, s8_97, s8_98, s8_99, s8_100, s8_101, s8_102, s8_103, s8_104, s8_105, s8_106, s8_107, s8_108, s8_109, s8_110, s8_111, s8_112, s8, xalloc, xlen, AV.cells, splice, aload, astore, Nat.reduceAdd, Nat.reduceLeDiff, reduceIte, allB, AHeap.push_set_lt, z2, bne_self_eq_false, g2', g3', lp, lq, kp, kq, hf, hg, e0, e1, t0, t1, w1, w2, w3, beq_self_eq_true, xguard_tt, evb_self]
    simp only [xeff, Nat.le_refl, decide_true, cond_true, s8_31, pickOf_t, xb_some, K_val_eff, s8_30]
    refine W_bif rfl ?_
    simp only [s8_29, K_heap_pure, K_heap_read, K_heap_eff]
    exact W_some.2 ⟨rfl, by simp only [AHeap.next_push]; omega⟩
set_option maxRecDepth 100000 in
theorem binds_ok (i j : Int) : ∃ H', CallOk1 P 8 [.int .i64 i, .int .i64 j] AHeap.empty (.bool true) H' := by
  obtain ⟨_, H', h, rfl, p⟩ := binds_run i j AHeap.empty
  exact ⟨H', code_ok1 (c := bodyOf Try.f8) (M := 0) progOk (evb_ok progOk known3) Try.func8 (by kernel_rfl) (by kernel_rfl) (by kernel_rfl) (Eq.trans (s8_eq (evb P 17 true) 0 (.int .i64 i) (.int .i64 j) AHeap.empty) h)⟩
end Go.Proofs.Ytnjoomfeddamcaa

/-
  The law ExprBinds, proved: it returns true for every input, and each argument reads afterwards as it read before. No conditions.
-/
namespace Go.Proofs.Ytnjoomfeddamcaa
open Go.Ev
open Go.ChangeShapes Go.WideShapes Go.ChangeAt Go.RowKit
open Go.ChangeMaps (open_string shut_string)

set_option maxRecDepth 100000 in
theorem exprBinds_law {W : World} (i j : Int) : LawOk P 8 [.int .i64 i, .int .i64 j] W := by
  obtain ⟨H', h⟩ := binds_ok i j
  exact law_plain (.cons _ _ _ _ (.int _ _) (.cons _ _ _ _ (.int _ _) .nil)) h
namespace exprBinds
set_option maxRecDepth 100000 in
theorem lifted (os : Os) (started : os.Started) (H : Type) (enc : TypeId × Value → H) :
    ReturnsInHanded {} Try.checked os 8 .any (Rows.exprBindsSpec.pre6 enc Try.prog Try.f8 Rows.exprBindsRow.domain false) (Rows.exprBindsSpec.post enc Try.prog Try.f8 false true false false) := by
  refine returnsInHanded_of_change (C := Try.checked) own started (by kernel_rfl) Try.func8
    (ChangeSpec.witness6 (enc := enc) (C := Try.checked) false ⟨#[], #[.int .i64 0, .int .i64 0], []⟩ 8 (by kernel_rfl) (by kernel_rfl) (by kernel_rfl) (by kernel_rfl)) ?_
  intro W base args ds gs before hval0 hW hcnd _
  have hval : ∀ (j : Nat) t v, Try.f8.params[j]? = some t → args[j]? = some v → Value.okWide Try.prog W .any base t v := hval0
  have hW' := hW
  obtain ⟨p, q, hA0, hV, rfl, hfz, hnd⟩ := hW
  have hA : DataW.TrodAll enc Try.prog W 0 (fun _ => true) true Try.f8.params.toList args.toList ds p := hA0
  have hpar : Try.f8.params = #[3, 3] := by kernel_rfl
  rw [hpar] at hA hval
  obtain ⟨v0, vs0, d0, ds0, p0, q0, hargs, rfl, rfl, h0, r0⟩ := trodAll_cons hA
  obtain ⟨v1, vs1, d1, ds1, p1, q1, rfl, rfl, rfl, h1, r1⟩ := trodAll_cons r0
  obtain ⟨rfl, rfl, rfl⟩ := trodAll_nil r1
  obtain rfl : args = #[v0, v1] := by cases args; simp_all
  obtain ⟨rfl, rfl⟩ := trodVars_none hV
  obtain ⟨a0, hv0, -, -, w0⟩ := open_int (P := P) und3 (hval 0 3 v0 rfl rfl) h0
  obtain ⟨a1, hv1, -, -, w1⟩ := open_int (P := P) und3 (hval 1 3 v1 rfl rfl) h1
  subst hv0
  subst hv1
  have hlaw : LawOk P 8 [.int .i64 a0, .int .i64 a1] W := exprBinds_law a0 a1
  refine (law_walk (c := bodyOf Try.f8) progOk Try.func8 (by kernel_rfl) hlaw).mono fun e W' ⟨he, bel⟩ => ?_
  subst he
  obtain ⟨pa, hpa⟩ := trodAll_below laidOut bel (ts := [3, 3]) (fun t ht => by
    simp only [List.mem_cons, List.not_mem_nil, or_false] at ht
    rcases ht with rfl | rfl <;> exact ⟨by kernel_rfl, of_decide_eq_true (by kernel_rfl)⟩) hA
  exact ⟨_, rfl, _, _, _, [], pa, [], hW', trodAll_mk1 (shut_bool (P := P) und4 _), by rw [hpar]; exact hpa, rfl, bel.frame _, fun h => by cases h⟩
theorem over : Rows.exprBindsRow.holds Try.pinned (OpenSpec.ofChange Rows.exprBindsSpec) :=
  OpenClaim.holds_of_wide 8 Try.f8 rfl rfl rfl rfl rfl rfl rfl ⟨rfl, rfl, rfl, rfl, rfl⟩ rfl rfl rfl rfl rfl (by kernel_rfl) Try.func8 (by kernel_rfl)
    (of_decide_eq_true (by kernel_rfl)) (by unfold Func.isWrapper; first | (rw [if_pos (by decide +kernel)]; kernel_rfl) | (rw [if_neg (by decide +kernel)]; exact ⟨rfl, rfl⟩))
    (fun os started H enc _ => lifted os started H enc)
end exprBinds
theorem exprBinds_holds : Rows.ExprBindsSaid := exprBinds.over
end Go.Proofs.Ytnjoomfeddamcaa


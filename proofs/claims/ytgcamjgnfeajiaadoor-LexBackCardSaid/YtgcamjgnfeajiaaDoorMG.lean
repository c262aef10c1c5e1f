/-
  Texts of one proof, laid together: A2 A3 A4 A5 ShC Lz B1 ShD ShE B2 ShH ShI B3.
-/
import Derived.Test.YtgcamjgnfeajiaaDoorMF
import Derived.Test.YtgcamjgnfeajiaaDoorMD
set_option linter.unusedVariables false
set_option linter.unusedSimpArgs false
namespace Go.Proofs.YtgcamjgnfeajiaaDoor
open Go.Ev
theorem ib_spec {H : AHeap} (s : Bs) (c : UInt8) : evw P orc 30 [.str s, .int .u8 c.toNat] H = some (.int .i64 (Lib.indexByte s c), H) := by
 refine evw_orc ?_
 show some (AV.int .i64 (Lib.indexByte s (Int.toNat (c.toNat : Int)).toUInt8), H) = _
 have : (Int.toNat (c.toNat : Int)).toUInt8 = c := by simp
 rw [this]
theorem ib10 {H : AHeap} (s : Bs) : evw P orc 30 [.str s, .int .u8 10] H = some (.int .i64 (Lib.indexByte s 10), H) := ib_spec s 10
theorem blank_ib (c : UInt8) : decide (0 ≤ Lib.indexByte [32, 9, 10, 13] c) = isBlank c := by
 have h : ∀ n : Fin 256, decide (0 ≤ Lib.indexByte [32, 9, 10, 13] (UInt8.ofNat n.val)) = isBlank (UInt8.ofNat n.val) := by decide +kernel
 have := h ⟨c.toNat, c.toNat_lt⟩
 simpa using this
theorem ib_lt (s : Bs) : Lib.indexByte s 10 = -1 ∨ ∃ n : Nat, Lib.indexByte s 10 = n ∧ n < s.length := by
 induction s with
 | nil => exact .inl rfl
 | cons b l ih =>
  rw [Lib.indexByte]
  split
  ·exact .inr ⟨0, rfl, by simp⟩
  ·split
   ·exact .inl rfl
   ·rename_i h
    rcases ih with ih | ⟨n, e, hn⟩
    ·rw [ih] at h; exact absurd rfl h
    ·exact .inr ⟨n + 1, by omega, by simpa using hn⟩
theorem blank_true : ∀ (s : Bs), (Lib.indexByte s 10 = -1 → blankN true s = s.length) ∧ ∀ n : Nat, Lib.indexByte s 10 = n → blankN true s = n + blankN false (s.drop n)
 | [] => ⟨fun _ => rfl, fun n h => by simp [Lib.indexByte] at h⟩
 | b :: l => by
  obtain ⟨ih1, ih2⟩ := blank_true l
  rw [Lib.indexByte, blankN]
  by_cases hb : b = 10
  ·subst hb
   simp only [beq_self_eq_true, if_true]
   refine ⟨fun h => by omega, fun n h => ?_⟩
   obtain rfl : n = 0 := by omega
   have h1 : (UInt8.toNat 10 == 10) = true := rfl
   have h2 : isBlank 10 = true := rfl
   rw [List.drop_zero, blankN, h1, h2]
   simp
  ·have h1 : (b == 10) = false := by simpa using hb
   have h2 : (b.toNat == 10) = false := by
    have : b.toNat ≠ 10 := fun e => hb (UInt8.toNat_inj.1 (by rw [e]; rfl))
    simpa using this
   rw [h1, h2]
   simp only [Bool.false_eq_true, if_false, cond_false]
   rcases ib_lt l with h | ⟨k, h, hk⟩
   ·rw [h]
    simp only [beq_self_eq_true, if_true]
    refine ⟨fun _ => ?_, fun n e => ?_⟩
    ·rw [ih1 h, List.length_cons]
    ·exfalso; omega
   ·rw [h]
    have h3 : ((k : Int) == -1) = false := by simp
    rw [h3]
    simp only [Bool.false_eq_true, if_false]
    refine ⟨fun e => by omega, fun n e => ?_⟩
    obtain rfl : n = k + 1 := by omega
    rw [ih2 k h, List.drop_succ_cons]
    omega
theorem pre2 (c : UInt8) (r : Bs) : preB (c :: r) [47, 47] = (c == 47 && r.head? == some 47) := by
 cases r with
 | nil => simp [preB]
 | cons d q =>
  simp only [preB, List.length_cons, List.length_nil, List.take_succ_cons, List.take_zero, List.head?_cons]
  cases h1 : c == 47 <;> cases h2 : d == 47 <;> simp_all
theorem sl9_from {s : Bs} {a : Nat} (h : a ≤ s.length) : aslice P 9 (.str s) (some (.int .i64 (a : Int))) none none = some (.str (s.drop a)) := by
 have e2 : abound (some (.int .i64 (a : Int))) 0 s.length = some a := by simp [abound]; omega
 have e1 : abound none s.length s.length = some s.length := rfl
 simp only [aslice, une9, e1, e2]
 rw [List.take_of_length_le (by simp)]
theorem sl9_to {s : Bs} {b : Nat} (h : b ≤ s.length) : aslice P 9 (.str s) none (some (.int .i64 (b : Int))) none = some (.str (s.take b)) := by
 have e1 : abound (some (.int .i64 (b : Int))) s.length s.length = some b := by simp [abound]; omega
 have e2 : abound none 0 b = some 0 := rfl
 simp only [aslice, une9, e1, e2, List.drop_zero, Nat.sub_zero]
theorem passed_loop {H : AHeap} {s : Bs} (hs : s.length ≤ 1000000000000000000) (N : Nat) : ∀ (m : Nat) (rest : Bs) (at_ : Nat), s.drop at_ = rest → at_ ≤ s.length → rest.length < m →
  W (s18_l1 (evw P orc) N m (.str s) (.int .i64 at_) H) fun v H' => v = .int .i64 ((at_ + blankN false rest : Nat) : Int) ∧ H' = H
 | 0, _, _, _, _, hm => by omega
 | m + 1, [], at_, h, ha, hm => by
  have := drop_nil h
  have h1 : ¬ ((at_ : Int) < (s.length : Int)) := by omega
  simp -implicitDefEqProofs (disch := first | assumption | omega | (simp only [nxB]; omega) | (simp only [oneB])) only [s18_l1, s18_j0, s18_b1, s18, xlen, AV.cells, splice, aload, astore, Nat.reduceAdd, Nat.reduceLeDiff, reduceIte, allB, h1, decide_false]
  exact W_some.2 ⟨by simp [blankN], rfl⟩
 | m + 1, c :: r, at_, h, ha, hm => by
  obtain ⟨e1, e2, e3, e4⟩ := drop_cons h
  have h1 : ((at_ : Int) < (s.length : Int)) := by omega
  have e1' := jx9 e1
  have hsl := sl9_from (s := s) (a := at_) (by omega)
  rw [h] at hsl
  have hib := blank_ib c
  rw [blankN]
  simp only [List.length_cons] at hm
  simp -implicitDefEqProofs (disch := first | assumption | omega | (simp only [nxB]; omega) | (simp only [oneB])) only [s18_l1, s18_j0, s18_b1, s18, xlen, AV.cells, splice, aload, astore, Nat.reduceAdd, Nat.reduceLeDiff, reduceIte, allB, h1, decide_true, e1', ib_spec, xcall, Nat.le_refl, hib]
  cases hbl : isBlank c with
  | true =>
   simp -implicitDefEqProofs (disch := first | assumption | omega | (simp only [nxB]; omega) | (simp only [oneB])) only [xlen, evB, binB, wn1]
   refine (passed_loop (H := H) hs N m r (at_ + 1) e2 (by omega) (by omega)).mono ?_
   rintro v H' ⟨rfl, rfl⟩
   have e' : at_ + 1 + blankN false r = at_ + (blankN false r + 1) := by omega
   exact ⟨by rw [e'], rfl⟩
  | false =>
   simp -implicitDefEqProofs (disch := first | assumption | omega | (simp only [nxB]; omega) | (simp only [oneB])) only [xlen, evB, hsl]
   refine W_call0 (HasPrefix_spec _ _) ?_
   rw [pre2]
   cases hp : (c == 47 && r.head? == some 47) with
   | false =>
    simp -implicitDefEqProofs (disch := first | assumption | omega | (simp only [nxB]; omega) | (simp only [oneB])) only [xlen, evB]
    exact W_some.2 ⟨by simp, rfl⟩
   | true =>
    have hc : (c :: r).head? = some 47 := by
     have : c = 47 := by have := (Bool.and_eq_true _ _ ▸ hp).1; exact eq_of_beq this
     rw [this]; rfl
    have hbt : blankN true (c :: r) = blankN true r + 1 := by
     have : c = 47 := by simpa using hc
     subst this
     rw [blankN]; rfl
    rw [cond_true, ← hbt]
    obtain ⟨q1, q2⟩ := blank_true (c :: r)
    simp -implicitDefEqProofs (disch := first | assumption | omega | (simp only [nxB]; omega) | (simp only [oneB])) only [xlen, evB, hsl, ib10, xcall, Nat.le_refl, decide_true]
    rcases ib_lt (c :: r) with hi | ⟨n, hi, hn⟩
    ·have hlt : ((-1 : Int) < 0) := by omega
     rw [hi]
     simp -implicitDefEqProofs (disch := first | assumption | omega | (simp only [nxB]; omega) | (simp only [oneB])) only [xlen, AV.cells, splice, aload, astore, Nat.reduceAdd, Nat.reduceLeDiff, reduceIte, allB, hlt, decide_true]
     refine W_some.2 ⟨?_, rfl⟩
     rw [q1 hi]
     have : at_ + (c :: r).length = s.length := by simp only [List.length_cons]; omega
     rw [this]
    ·have hlt : ¬ ((n : Int) < 0) := by omega
     rw [hi]
     have hn0 : 1 ≤ n := by
      rcases Nat.eq_zero_or_pos n with rfl | h'
      ·exfalso
       have : c = 47 := by simpa using hc
       subst this
       rw [Lib.indexByte] at hi
       rw [if_neg (by decide)] at hi
       have := Lib.indexByte_ge r 10
       split at hi
       ·omega
       ·rename_i hx
        have : Lib.indexByte r 10 ≠ -1 := by simpa using hx
        omega
      ·exact h'
     have hdr : s.drop (at_ + n) = (c :: r).drop n := by rw [← List.drop_drop, h]
     simp only [List.length_cons] at hn
     simp -implicitDefEqProofs (disch := first | assumption | omega | (simp only [nxB]; omega) | (simp only [oneB])) only [xlen, AV.cells, splice, aload, astore, Nat.reduceAdd, Nat.reduceLeDiff, reduceIte, allB, hlt, decide_false, wnn]
     refine (passed_loop (H := H) hs N m ((c :: r).drop n) (at_ + n) hdr (by omega) (by simp; omega)).mono ?_
     rintro v H' ⟨rfl, rfl⟩
     rw [q2 n hi, Nat.add_assoc]
     exact ⟨rfl, rfl⟩
theorem passed_spec {H : AHeap} {s : Bs} (hs : s.length ≤ 1000000000000000000) {at_ : Nat} (ha : at_ ≤ s.length) : W (evw P orc 18 [.str s, .int .i64 at_] H) fun v H' => v = .int .i64 ((at_ + blankN false (s.drop at_) : Nat) : Int) ∧ H' = H := by
 refine W_of (fun _ => run18 (s.length + 1)) ?_
 rw [s18]
 exact passed_loop hs (s.length + 1) (s.length + 1) (s.drop at_) at_ rfl ha (by simp; omega)
end Go.Proofs.YtgcamjgnfeajiaaDoor

namespace Go.Proofs.YtgcamjgnfeajiaaDoor
open Go.Ev
theorem pu_more : ∀ (x : Bs) (a : Nat), (∀ c ∈ x, digB c = true) → Lib.parseUint10 a x = .range ∨ ∃ u, Lib.parseUint10 a x = .ok u ∧ a ≤ u
 | [], a, _ => .inr ⟨a, rfl, Nat.le_refl _⟩
 | c :: r, a, h => by
  have hd := h c (by simp)
  simp only [digB, diggI, Bool.and_eq_true, decide_eq_true_eq] at hd
  rw [Lib.parseUint10, if_pos ⟨by omega, by omega⟩]
  split
  ·exact .inl rfl
  ·split
   ·exact .inl rfl
   ·rcases pu_more r (a * 10 + (c.toNat - 48)) (fun d hd => h d (by simp [hd])) with h' | ⟨u, h1, h2⟩
    ·exact .inl h'
    ·exact .inr ⟨u, h1, by omega⟩
theorem pu_whole : ∀ (x : Bs) (a : Nat), (∀ c ∈ x, digB c = true) → a < 9223372036854775808 →
  (∀ v, wholeN a x = some v → ∃ u : Nat, Lib.parseUint10 a x = .ok u ∧ (u : Int) = v ∧ u < 9223372036854775808) ∧ (wholeN a x = none → Lib.parseUint10 a x = .range ∨ ∃ u, Lib.parseUint10 a x = .ok u ∧ 9223372036854775808 ≤ u)
 | [], a, _, ha => ⟨fun v h => by rw [wholeN] at h; cases h; exact ⟨a, rfl, rfl, ha⟩, fun h => by rw [wholeN] at h; cases h⟩
 | c :: r, a, h, ha => by
  have hd := h c (by simp)
  simp only [digB, diggI, Bool.and_eq_true, decide_eq_true_eq] at hd
  have hr : ∀ d ∈ r, digB d = true := fun d hd => h d (by simp [hd])
  have ep : Lib.parseUint10 a (c :: r) = if 1844674407370955162 ≤ a then .range else if 18446744073709551616 ≤ a * 10 + (c.toNat - 48) then .range else Lib.parseUint10 (a * 10 + (c.toNat - 48)) r := by
   rw [Lib.parseUint10, if_pos ⟨by omega, by omega⟩]
  rw [wholeN, ep]
  have e1 : (10 * (a : Int) + ((c.toNat : Int) - 48)) = ((a * 10 + (c.toNat - 48) : Nat) : Int) := by omega
  by_cases hover : (9223372036854775807 - ((c.toNat : Int) - 48)) / 10 < (a : Int)
  ·rw [if_pos hover]
   refine ⟨fun v h => (by cases h), fun _ => ?_⟩
   split
   ·exact .inl rfl
   ·split
    ·exact .inl rfl
    ·rcases pu_more r (a * 10 + (c.toNat - 48)) hr with h' | ⟨u, h1, h2⟩
     ·exact .inl h'
     ·exact .inr ⟨u, h1, by omega⟩
  ·rw [if_neg hover, if_neg (by omega), if_neg (by omega), e1]
   exact pu_whole r (a * 10 + (c.toNat - 48)) hr (by omega)
theorem atoi_dig {c : UInt8} {r : Bs} (h : ∀ d ∈ c :: r, digB d = true) : (∀ v, wholeN 0 (c :: r) = some v → Lib.atoiAll (c :: r) = .ok v) ∧ (wholeN 0 (c :: r) = none → Lib.atoiAll (c :: r) = .range) := by
 have hd := h c (by simp)
 simp only [digB, diggI, Bool.and_eq_true, decide_eq_true_eq] at hd
 have h43 : ¬ c.toNat = 43 := by omega
 have h45 : ¬ c.toNat = 45 := by omega
 obtain ⟨q1, q2⟩ := pu_whole (c :: r) 0 h (by omega)
 have e0 : ((0 : Nat) : Int) = 0 := rfl
 rw [e0] at q1 q2
 have hm : Lib.parseMag (c :: r) = Lib.parseUint10 0 (c :: r) := by rw [Lib.parseMag, if_neg (by simp)]
 constructor
 ·intro v hv
  obtain ⟨u, h1, h2, h3⟩ := q1 v hv
  have h3' : ¬ (9223372036854775808 ≤ u) := by omega
  simp only [Lib.atoiAll, h43, h45, or_self, if_false, hm, h1, h3', not_false_eq_true, true_and, false_and, and_false]
  rw [h2]
 ·intro hv
  rcases q2 hv with h1 | ⟨u, h1, h2⟩
  ·simp only [Lib.atoiAll, h43, h45, or_self, if_false, hm, h1]
  ·simp only [Lib.atoiAll, h43, h45, or_self, if_false, hm, h1, h45, not_false_eq_true, true_and]
   rw [if_pos h2]
theorem atoi_ok {H : AHeap} (hg : Gl H) {s : Bs} (hs : s.length ≤ 281474976710656) {v : Int} (h : Lib.atoiAll s = .ok v) : evw P orc 43 [.str s] H = some (.tuple [.int .i64 v, .nilIface], H) := by
 refine evw_orc ?_
 refine (if_pos ⟨hs, hg.err⟩).trans ?_
 rw [h]
theorem atoi_range {H : AHeap} (hg : Gl H) {s : Bs} (hs : s.length ≤ 281474976710656) (h : Lib.atoiAll s = .range) : evw P orc 43 [.str s] H = some (.tuple [.int .i64 (Lib.atoiSat s), .iface 73 (.ptr H.next 0 0)], H.push .dead) := by
 refine evw_orc ?_
 refine (if_pos ⟨hs, hg.err⟩).trans ?_
 rw [h]
theorem ne57n : fbin P .neq 57 true .nilIface .nilIface = some (.bool false) := by kernel_rfl
theorem ne57i (l : Nat) : fbin P .neq 57 true (.iface 73 (.ptr l 0 0)) .nilIface = some (.bool true) := by kernel_rfl
theorem run_digs : ∀ (s : Bs), ∀ c ∈ s.take (runN true s), digB c = true
 | [], c, h => by simp [runN] at h
 | b :: r, c, h => by
  rw [runN] at h
  cases hb : digB b with
  | false => rw [hb] at h; simp at h
  | true =>
   rw [hb] at h
   simp only [Bool.true_or, cond_true, List.take_succ_cons, List.mem_cons] at h
   rcases h with rfl | h
   ·exact hb
   ·exact run_digs r c h
theorem bd34lw (k : Int) (x : Bs) : abuild P 34 [(0, .int .i64 k), (1, .str x)] = some (.agg [.int .i64 k, .str x, .int .i64 0, .int .i64 0]) := by kernel_rfl
theorem bd34ln (k : Int) (z : Int) : abuild P 34 [(0, .int .i64 k), (2, .int .i64 z)] = some (.agg [.int .i64 k, .str [], .int .i64 z, .int .i64 0]) := by kernel_rfl
def numN (s : Bs) : Option (Int × Bs × Int × Nat) := match wholeN 0 (s.take (runN true s)) with
 | none => none
 | some v => bif (decide (1 < runN true s) && (s.headD 0).toNat == 48) || (decide (runN true s < s.length) && letB ((s[runN true s]?).getD 0)) then none else some (2, [], v, runN true s)
theorem number_spec {H : AHeap} (hg : Gl H) {s : Bs} (hs : s.length ≤ 281474976710656) {c : UInt8} {r : Bs} (hc : s = c :: r) (hd : digB c = true) : W (evw P orc 34 [.str s] H) fun v H' => v = oneV 0 (numN s) ∧ Pur H H' := by
 refine W_of (fun _ => run34 0) ?_
 have hg1 : Gl (H.push (.row false 4 [[.int .i64 0, .str [], .int .i64 0, .int .i64 0]])) := hg.pur (Pur.push _ _)
 have hle := runN_le true s
 have hpos : 1 ≤ runN true s := by rw [hc]; exact runN_pos true c r (by simp [hd])
 have hsl := sl9_to (s := s) (b := runN true s) hle
 have hz : s[0]? = some c := by rw [hc]; rfl
 have e0 := jx9_0 hz
 have hdig := run_digs s
 have hhd : s.headD 0 = c := by rw [hc]; rfl
 obtain ⟨r', hr'⟩ : ∃ r', s.take (runN true s) = c :: r' := by
  rw [hc] at hpos ⊢
  obtain ⟨k, hk⟩ : ∃ k, runN true (c :: r) = k + 1 := ⟨runN true (c :: r) - 1, by omega⟩
  rw [hk]
  exact ⟨_, rfl⟩
 rw [hr'] at hdig
 obtain ⟨q1, q2⟩ := atoi_dig hdig
 have hlt : (s.take (runN true s)).length ≤ 281474976710656 := by simp; omega
 simp -implicitDefEqProofs (disch := first | assumption | omega | (simp only [nxB]; omega) | (simp only [oneB])) only [s34, xlen, AV.cells, splice, aload, astore, Nat.reduceAdd, Nat.reduceLeDiff, reduceIte, allB]
 refine W_call0 (lrun_spec (s := s) (by omega) true) ?_
 generalize hH1 : H.push (.row false 4 [[.int .i64 0, .str [], .int .i64 0, .int .i64 0]]) = H1 at hg1 ⊢
 have p1 : Pur (H.push (.row false 4 [[.int .i64 0, .str [], .int .i64 0, .int .i64 0]])) H1 := by rw [hH1]; exact .refl _
 have g1 : H1.get H.next = some (.row false 4 [[.int .i64 0, .str [], .int .i64 0, .int .i64 0]]) := p1.get (AHeap.get_push_same _ _)
 have gl1 := AHeap.get_lt g1
 have pfin : ∀ b, Pur H (H1.set H.next b) := fun b => ((Pur.push _ _).trans p1).then_set (Nat.le_refl _) b
 cases hv : wholeN 0 (s.take (runN true s)) with
 | none =>
  have ha := atoi_range hg1 hlt (by rw [hr'] at hv ⊢; exact q2 hv)
  simp -implicitDefEqProofs (disch := first | assumption | omega | (simp only [nxB]; omega) | (simp only [oneB])) only [xlen, AV.cells, splice, aload, astore, Nat.reduceAdd, Nat.reduceLeDiff, reduceIte, allB, hsl, ha, xcall, Nat.le_succ, decide_true, ne57i, g1]
  have hN : numN s = none := by unfold numN; rw [hv]
  exact W_some.2 ⟨by rw [hN]; rfl, (((Pur.push _ _).trans p1).then_push _).then_set (Nat.le_refl _) _⟩
 | some v =>
  have ha := atoi_ok hg1 hlt (by rw [hr'] at hv ⊢; exact q1 v hv)
  simp -implicitDefEqProofs (disch := first | assumption | omega | (simp only [nxB]; omega) | (simp only [oneB])) only [xlen, AV.cells, splice, aload, astore, Nat.reduceAdd, Nat.reduceLeDiff, reduceIte, allB, hsl, ha, xcall, Nat.le_refl, decide_true, ne57n]
  have hn1 : decide ((1 : Int) < ((runN true s : Nat) : Int)) = decide (1 < runN true s) := by
   by_cases h : 1 < runN true s <;> simp [h] <;> omega
  have hn2 : decide (((runN true s : Nat) : Int) < (s.length : Int)) = decide (runN true s < s.length) := by
   by_cases h : runN true s < s.length <;> simp [h] <;> omega
  have h48 : (((c.toNat : Nat) : Int) == 48) = (c.toNat == 48) := by
   cases h : c.toNat == 48 with
   | true => have : c.toNat = 48 := eq_of_beq h; rw [this]; rfl
   | false =>
    have : c.toNat ≠ 48 := by simpa using h
    simp; omega
  have bad : ((decide (1 < runN true s) && (c.toNat == 48)) || (decide (runN true s < s.length) && letB ((s[runN true s]?).getD 0))) = true → numN s = none := by
   intro hx
   unfold numN; rw [hv]; simp only [hhd, hx, cond_true]
  have good : ((decide (1 < runN true s) && (c.toNat == 48)) || (decide (runN true s < s.length) && letB ((s[runN true s]?).getD 0))) = false → numN s = some (2, [], v, runN true s) := by
   intro hx
   unfold numN; rw [hv]; simp only [hhd, hx, cond_false]
  have hcase : (decide (1 < runN true s) = true ∧ (c.toNat == 48) = true) ∨ (decide (1 < runN true s) = true ∧ (c.toNat == 48) = false) ∨ decide (1 < runN true s) = false := by
   cases decide (1 < runN true s) <;> cases c.toNat == 48 <;> simp
  rcases hcase with ⟨b2, b3⟩ | ⟨b2, b3⟩ | b2
  ·simp -implicitDefEqProofs (disch := first | assumption | omega | (simp only [nxB]; omega) | (simp only [oneB])) only [xlen, AV.cells, splice, aload, astore, Nat.reduceAdd, Nat.reduceLeDiff, reduceIte, allB, hn1, b2, e0, h48, b3, g1]
   exact W_some.2 ⟨by rw [bad (by rw [b2, b3]; rfl)]; rfl, pfin _⟩
  ·rw [b2, b3] at bad good
   simp -implicitDefEqProofs (disch := first | assumption | omega | (simp only [nxB]; omega) | (simp only [oneB])) only [xlen, AV.cells, splice, aload, astore, Nat.reduceAdd, Nat.reduceLeDiff, reduceIte, allB, hn1, b2, e0, h48, b3, hn2]
   cases b4 : decide (runN true s < s.length) with
   | false =>
    rw [b4] at good
    simp -implicitDefEqProofs (disch := first | assumption | omega | (simp only [nxB]; omega) | (simp only [oneB])) only [xlen, AV.cells, splice, aload, astore, Nat.reduceAdd, Nat.reduceLeDiff, reduceIte, allB, bd34ln, g1]
    exact W_some.2 ⟨by rw [good rfl]; rfl, pfin _⟩
   | true =>
    rw [b4] at bad good
    have hlt4 : runN true s < s.length := of_decide_eq_true b4
    obtain ⟨d, e5⟩ : ∃ d, s[runN true s]? = some d := ⟨_, List.getElem?_eq_getElem hlt4⟩
    have e5' := jx9 e5
    rw [e5] at bad good
    simp -implicitDefEqProofs (disch := first | assumption | omega | (simp only [nxB]; omega) | (simp only [oneB])) only [xlen, AV.cells, splice, aload, astore, Nat.reduceAdd, Nat.reduceLeDiff, reduceIte, allB, e5']
    refine W_eff0 (isLetter_spec _) ?_
    have hh : letB ((some d).getD 0) = lettI (d.toNat : Int) := rfl
    rw [hh] at bad good
    cases h6 : lettI (d.toNat : Int) with
    | true =>
     rw [h6] at bad
     simp -implicitDefEqProofs (disch := first | assumption | omega | (simp only [nxB]; omega) | (simp only [oneB])) only [xlen, AV.cells, splice, aload, astore, Nat.reduceAdd, Nat.reduceLeDiff, reduceIte, allB, g1]
     exact W_some.2 ⟨by rw [bad rfl]; rfl, pfin _⟩
    | false =>
     rw [h6] at good
     simp -implicitDefEqProofs (disch := first | assumption | omega | (simp only [nxB]; omega) | (simp only [oneB])) only [xlen, AV.cells, splice, aload, astore, Nat.reduceAdd, Nat.reduceLeDiff, reduceIte, allB, bd34ln, g1]
     exact W_some.2 ⟨by rw [good rfl]; rfl, pfin _⟩
  ·rw [b2] at bad good
   simp -implicitDefEqProofs (disch := first | assumption | omega | (simp only [nxB]; omega) | (simp only [oneB])) only [xlen, AV.cells, splice, aload, astore, Nat.reduceAdd, Nat.reduceLeDiff, reduceIte, allB, hn1, b2, e0, h48, hn2]
   cases b4 : decide (runN true s < s.length) with
   | false =>
    rw [b4] at good
    simp -implicitDefEqProofs (disch := first | assumption | omega | (simp only [nxB]; omega) | (simp only [oneB])) only [xlen, AV.cells, splice, aload, astore, Nat.reduceAdd, Nat.reduceLeDiff, reduceIte, allB, bd34ln, g1]
    exact W_some.2 ⟨by rw [good rfl]; rfl, pfin _⟩
   | true =>
    rw [b4] at bad good
    have hlt4 : runN true s < s.length := of_decide_eq_true b4
    obtain ⟨d, e5⟩ : ∃ d, s[runN true s]? = some d := ⟨_, List.getElem?_eq_getElem hlt4⟩
    have e5' := jx9 e5
    rw [e5] at bad good
    simp -implicitDefEqProofs (disch := first | assumption | omega | (simp only [nxB]; omega) | (simp only [oneB])) only [xlen, AV.cells, splice, aload, astore, Nat.reduceAdd, Nat.reduceLeDiff, reduceIte, allB, e5']
    refine W_eff0 (isLetter_spec _) ?_
    have hh : letB ((some d).getD 0) = lettI (d.toNat : Int) := rfl
    rw [hh] at bad good
    cases h6 : lettI (d.toNat : Int) with
    | true =>
     rw [h6] at bad
     simp -implicitDefEqProofs (disch := first | assumption | omega | (simp only [nxB]; omega) | (simp only [oneB])) only [xlen, AV.cells, splice, aload, astore, Nat.reduceAdd, Nat.reduceLeDiff, reduceIte, allB, g1]
     exact W_some.2 ⟨by rw [bad rfl]; rfl, pfin _⟩
    | false =>
     rw [h6] at good
     simp -implicitDefEqProofs (disch := first | assumption | omega | (simp only [nxB]; omega) | (simp only [oneB])) only [xlen, AV.cells, splice, aload, astore, Nat.reduceAdd, Nat.reduceLeDiff, reduceIte, allB, bd34ln, g1]
     exact W_some.2 ⟨by rw [good rfl]; rfl, pfin _⟩
end Go.Proofs.YtgcamjgnfeajiaaDoor

namespace Go.Proofs.YtgcamjgnfeajiaaDoor
open Go.Ev
def namedN (s : Bs) : Option (Int × Bs × Int × Nat) := bif wordB (s.take (runN false s)) then some (3, s.take (runN false s), 0, runN false s) else bif nameB (s.take (runN false s)) then some (1, s.take (runN false s), 0, runN false s) else none
theorem named_spec {H : AHeap} (hg : Gl H) {s : Bs} (hs : s.length ≤ 281474976710656) : W (evw P orc 32 [.str s] H) fun v H' => v = oneV 0 (namedN s) ∧ Pur H H' := by
 refine W_of (fun _ => run32 0) ?_
 have hg1 : Gl (H.push (.row false 4 [[.int .i64 0, .str [], .int .i64 0, .int .i64 0]])) := hg.pur (Pur.push _ _)
 have hle := runN_le false s
 have hsl := sl9_to (s := s) (b := runN false s) hle
 have hlt : (s.take (runN false s)).length ≤ 1000000000000000000 := by simp; omega
 simp -implicitDefEqProofs (disch := first | assumption | omega | (simp only [nxB]; omega) | (simp only [oneB])) only [s32, xlen, AV.cells, splice, aload, astore, Nat.reduceAdd, Nat.reduceLeDiff, reduceIte, allB]
 refine W_call0 (lrun_spec (s := s) (by omega) false) ?_
 simp -implicitDefEqProofs (disch := first | assumption | omega | (simp only [nxB]; omega) | (simp only [oneB])) only [xlen, AV.cells, splice, aload, astore, Nat.reduceAdd, Nat.reduceLeDiff, reduceIte, allB, hsl]
 refine W_call (lWord_spec hg1 _) ?_
 rintro _ H2 ⟨rfl, p2⟩
 refine ⟨p2.1, ?_⟩
 have g2 : H2.get H.next = some (.row false 4 [[.int .i64 0, .str [], .int .i64 0, .int .i64 0]]) := p2.get (AHeap.get_push_same _ _)
 have gl2 := AHeap.get_lt g2
 have pf2 : ∀ b, Pur H (H2.set H.next b) := fun b => ((Pur.push _ _).trans p2).then_set (Nat.le_refl _) b
 cases hw : wordB (s.take (runN false s)) with
 | true =>
  simp -implicitDefEqProofs (disch := first | assumption | omega | (simp only [nxB]; omega) | (simp only [oneB])) only [xlen, AV.cells, splice, aload, astore, Nat.reduceAdd, Nat.reduceLeDiff, reduceIte, allB, bd34lw, g2]
  exact W_some.2 ⟨by rw [namedN, hw]; rfl, pf2 _⟩
 | false =>
  simp -implicitDefEqProofs (disch := first | assumption | omega | (simp only [nxB]; omega) | (simp only [oneB])) only [xlen, evB]
  refine W_call (lName_spec (hg1.pur p2) hlt) ?_
  rintro _ H3 ⟨rfl, p3⟩
  refine ⟨p3.1, ?_⟩
  have g3 := p3.get g2
  have gl3 := AHeap.get_lt g3
  have pf3 : ∀ b, Pur H (H3.set H.next b) := fun b => (((Pur.push _ _).trans p2).trans p3).then_set (Nat.le_refl _) b
  cases hn : nameB (s.take (runN false s)) with
  | true =>
   simp -implicitDefEqProofs (disch := first | assumption | omega | (simp only [nxB]; omega) | (simp only [oneB])) only [xlen, AV.cells, splice, aload, astore, Nat.reduceAdd, Nat.reduceLeDiff, reduceIte, allB, bd34lw, g3]
   exact W_some.2 ⟨by rw [namedN, hw, hn]; rfl, pf3 _⟩
  | false =>
   simp -implicitDefEqProofs (disch := first | assumption | omega | (simp only [nxB]; omega) | (simp only [oneB])) only [xlen, AV.cells, splice, aload, astore, Nat.reduceAdd, Nat.reduceLeDiff, reduceIte, allB, g3]
   exact W_some.2 ⟨by rw [namedN, hw, hn]; rfl, pf3 _⟩
def firstN (s : Bs) : List Bs → Option (Int × Bs × Int × Nat)
 | [] => none
 | y :: ys => bif preB s y then some (4, y, 0, y.length) else firstN s ys
theorem first_app (s : Bs) : ∀ (l m : List Bs), firstN s (l ++ m) = (firstN s l).or (firstN s m)
 | [], m => rfl
 | y :: ys, m => by
  rw [List.cons_append, firstN, firstN, first_app s ys m]
  cases preB s y <;> rfl
theorem first_two (s : Bs) : ∀ (l : List Bs), (∀ y ∈ l, y.length = 2) → firstN s l = bif decide (2 ≤ s.length) && memB (s.take 2) l then some (4, s.take 2, 0, 2) else none
 | [], _ => by simp [firstN, memB]
 | y :: ys, h => by
  have hy := h y (by simp)
  rw [firstN, memB, first_two s ys fun z hz => h z (by simp [hz]), preB, hy]
  cases h2 : decide (2 ≤ s.length) with
  | false => simp
  | true =>
   have hc : (s.take 2 == y) = (y == s.take 2) := by
    cases h' : y == s.take 2 with
    | true => rw [← eq_of_beq h']; simp
    | false =>
     have : y ≠ s.take 2 := by simpa using h'
     simpa using fun e : s.take 2 = y => this e.symm
   rw [hc]
   cases h3 : y == s.take 2 with
   | true => rw [← eq_of_beq h3]; simp
   | false => simp
theorem first_one (c : UInt8) (r : Bs) : ∀ (l : Bs), firstN (c :: r) (l.map fun y => [y]) = bif memC c l then some (4, [c], 0, 1) else none
 | [] => rfl
 | y :: ys => by
  rw [List.map_cons, firstN, memC, first_one c r ys]
  have hp : preB (c :: r) [y] = (c.toNat == y.toNat) := by
   simp only [preB, List.length_cons, List.length_nil, List.take_succ_cons, List.take_zero]
   cases h : c.toNat == y.toNat with
   | true =>
    have : c = y := UInt8.toNat_inj.1 (eq_of_beq h)
    simp [this]
   | false =>
    have : c ≠ y := by rintro rfl; simp at h
    simp [this]
  rw [hp]
  cases h : c.toNat == y.toNat with
  | true =>
   have : c = y := UInt8.toNat_inj.1 (eq_of_beq h)
   simp [this]
  | false => simp
theorem signs_first (c : UInt8) (r : Bs) : firstN (c :: r) signsL = bif signN (c :: r) == [] then none else some (4, signN (c :: r), 0, (signN (c :: r)).length) := by
 have e : signsL = twosL ++ onesL.map fun y => [y] := rfl
 rw [e, first_app, first_two _ twosL (by decide), first_one]
 unfold signN
 cases h : decide (2 ≤ (c :: r).length) && memB ((c :: r).take 2) twosL with
 | true =>
  have h2 : 2 ≤ (c :: r).length := of_decide_eq_true ((Bool.and_eq_true _ _).mp h).1
  cases r with
  | nil => simp at h2
  | cons d q => rfl
 | false =>
  cases hm : memC c onesL <;> simp [hm]
theorem sign_loop {H0 H : AHeap} {s : Bs} {L : Nat} (N : Nat) (all : List Bs) (hA : all.length ≤ 1000) (hg : H.get L = some (.row false 1 (all.map fun y => [AV.str y]))) (hx : H.get H0.next = some (.row false 4 [[.int .i64 0, .str [], .int .i64 0, .int .i64 0]])) (pf : ∀ b, Pur H0 (H.set H0.next b)) :
  ∀ (rest pre : List Bs), all = pre ++ rest → ∀ (m : Nat), rest.length < m →
  W (s19_l1 (evw P orc) N m (.str s) (.ptr H0.next 0 0) (.sl L 0 all.length 1 (some all.length)) (.int .i64 all.length) (.int .i64 pre.length) H) fun v H' => v = oneV 0 (firstN s rest) ∧ Pur H0 H'
 | _, _, _, 0, hm => by omega
 | [], pre, hp, m + 1, hm => by
  have h1 : ¬ ((pre.length : Int) < (all.length : Int)) := by rw [hp]; simp
  have gl := AHeap.get_lt hx
  simp -implicitDefEqProofs (disch := first | assumption | omega | (simp only [nxB]; omega) | (simp only [oneB])) only [s19_l1, s19_j0, s19_b1, s19, xlen, AV.cells, splice, aload, astore, Nat.reduceAdd, Nat.reduceLeDiff, reduceIte, allB, h1, decide_false, hx]
  exact W_some.2 ⟨rfl, pf _⟩
 | y :: ys, pre, hp, m + 1, hm => by
  have h1 : ((pre.length : Int) < (all.length : Int)) := by rw [hp]; simp; omega
  have h0 : (0 : Int) ≤ (pre.length : Int) := by omega
  have e1 : ((pre.length : Int)).toNat = pre.length := by omega
  have hle : pre.length < all.length := by omega
  have he : (all.map fun y => [AV.str y])[pre.length]? = some [AV.str y] := by rw [hp]; simp
  have hw : ((pre ++ [y]).length : Int) = ((pre.length + 1 : Nat) : Int) := by simp
  have gl := AHeap.get_lt hx
  simp -implicitDefEqProofs (disch := first | assumption | omega | (simp only [nxB]; omega) | (simp only [oneB])) only [s19_l1, s19_j0, s19_b1, s19, xlen, AV.cells, splice, aload, astore, Nat.reduceAdd, Nat.reduceLeDiff, reduceIte, allB, h1, decide_true, hg, e1, he]
  refine W_call0 (HasPrefix_spec s y) ?_
  cases hc : preB s y with
  | true =>
   simp -implicitDefEqProofs (disch := first | assumption | omega | (simp only [nxB]; omega) | (simp only [oneB])) only [xlen, AV.cells, splice, aload, astore, Nat.reduceAdd, Nat.reduceLeDiff, reduceIte, allB, bd34lw, hx]
   exact W_some.2 ⟨by rw [firstN, hc]; rfl, pf _⟩
  | false =>
   have ih := sign_loop (s := s) N all hA hg hx pf ys (pre ++ [y]) (by simp [hp]) m (by simp at hm; omega)
   rw [hw] at ih
   simp -implicitDefEqProofs (disch := first | assumption | omega | (simp only [nxB]; omega) | (simp only [oneB])) only [xlen, evB, binB, wn1]
   refine ih.mono ?_
   rintro v H' ⟨rfl, p⟩
   exact ⟨by rw [firstN, hc]; rfl, p⟩
theorem lone_spec {H : AHeap} (hg : Gl H) {s : Bs} (hs : s.length ≤ 281474976710656) {c : UInt8} {r : Bs} (hc : s = c :: r) : W (evw P orc 19 [.str s] H) fun v H' => v = oneV 0 (oneN s) ∧ Pur H H' := by
 refine W_of (fun _ => run19 24) ?_
 have hg1 : Gl (H.push (.row false 4 [[.int .i64 0, .str [], .int .i64 0, .int .i64 0]])) := hg.pur (Pur.push _ _)
 have e0 := jx9_0 (s := s) (b := c) (by rw [hc]; rfl)
 have hl' : letB c = lettI (c.toNat : Int) := rfl
 have hd' : digB c = diggI (c.toNat : Int) := rfl
 have put : ∀ {H2 : AHeap} (x : Option (Int × Bs × Int × Nat)), Pur (H.push (.row false 4 [[.int .i64 0, .str [], .int .i64 0, .int .i64 0]])) H2 → ∃ a b cc m, oneV 0 x = .tuple [.agg [.int .i64 a, .str b, .int .i64 cc, .int .i64 0], .int .i64 m] := fun x _ => by
  cases x with
  | none => exact ⟨0, [], 0, 0, rfl⟩
  | some q => exact ⟨q.1, q.2.1, q.2.2.1, q.2.2.2, rfl⟩
 simp -implicitDefEqProofs (disch := first | assumption | omega | (simp only [nxB]; omega) | (simp only [oneB])) only [s19_j0, s19_b1, s19, xlen, AV.cells, splice, aload, astore, Nat.reduceAdd, Nat.reduceLeDiff, reduceIte, allB, e0]
 refine W_call0 (isLetter_spec _) ?_
 cases hl : lettI (c.toNat : Int) with
 | true =>
  have ho : oneN s = namedN s := by rw [hc, oneN, hl', hl]; rfl
  rw [ho]
  simp -implicitDefEqProofs (disch := first | assumption | omega | (simp only [nxB]; omega) | (simp only [oneB])) only [xlen, evB]
  refine W_call (named_spec hg1 hs) ?_
  rintro _ H2 ⟨rfl, p2⟩
  refine ⟨p2.1, ?_⟩
  have g2 := p2.get (AHeap.get_push_same H (.row false 4 [[.int .i64 0, .str [], .int .i64 0, .int .i64 0]]))
  have gl2 := AHeap.get_lt g2
  obtain ⟨a, b, cc, m, hx⟩ := put (namedN s) p2
  rw [hx]
  simp -implicitDefEqProofs (disch := first | assumption | omega | (simp only [nxB]; omega) | (simp only [oneB])) only [xlen, AV.cells, splice, aload, astore, Nat.reduceAdd, Nat.reduceLeDiff, reduceIte, allB, g2]
  exact W_some.2 ⟨rfl, ((Pur.push _ _).trans p2).then_set (Nat.le_refl _) _⟩
 | false =>
  simp -implicitDefEqProofs (disch := first | assumption | omega | (simp only [nxB]; omega) | (simp only [oneB])) only [xlen, evB, e0]
  refine W_call0 (isDigit_spec _) ?_
  cases hd : diggI (c.toNat : Int) with
  | true =>
   have ho : oneN s = numN s := by
    rw [hc, oneN, hl', hl, hd', hd]
    rfl
   rw [ho]
   simp -implicitDefEqProofs (disch := first | assumption | omega | (simp only [nxB]; omega) | (simp only [oneB])) only [xlen, evB]
   refine W_call (number_spec hg1 hs hc (by rw [hd', hd])) ?_
   rintro _ H2 ⟨rfl, p2⟩
   refine ⟨p2.1, ?_⟩
   have g2 := p2.get (AHeap.get_push_same H (.row false 4 [[.int .i64 0, .str [], .int .i64 0, .int .i64 0]]))
   have gl2 := AHeap.get_lt g2
   obtain ⟨a, b, cc, m, hx⟩ := put (numN s) p2
   rw [hx]
   simp -implicitDefEqProofs (disch := first | assumption | omega | (simp only [nxB]; omega) | (simp only [oneB])) only [xlen, AV.cells, splice, aload, astore, Nat.reduceAdd, Nat.reduceLeDiff, reduceIte, allB, g2]
   exact W_some.2 ⟨rfl, ((Pur.push _ _).trans p2).then_set (Nat.le_refl _) _⟩
  | false =>
   have ho : oneN s = firstN s signsL := by
    rw [hc, signs_first, oneN, hl', hl, hd', hd]
    rfl
   rw [ho]
   simp -implicitDefEqProofs (disch := first | assumption | omega | (simp only [nxB]; omega) | (simp only [oneB])) only [xlen, evB]
   refine W_call (lsigns_spec hg1) ?_
   rintro _ _ ⟨rfl, rfl⟩
   refine ⟨(Pur.push _ _).1, ?_⟩
   simp -implicitDefEqProofs (disch := first | assumption | omega | (simp only [nxB]; omega) | (simp only [oneB])) only [xlen, tabB, xlen, evB]
   refine sign_loop (H0 := H) 24 signsL (by decide) (AHeap.get_push_same _ _) ?_ (fun b => ((Pur.push _ _).then_push _).then_set (Nat.le_refl _) b) signsL [] rfl 24 (by decide)
   simp -implicitDefEqProofs (disch := first | assumption | omega | (simp only [nxB]; omega) | (simp only [oneB])) only [heapB]
end Go.Proofs.YtgcamjgnfeajiaaDoor

namespace Go.Proofs.YtgcamjgnfeajiaaDoor
open Go.Ev
theorem ltok_loop {H0 : AHeap} (hg0 : Gl H0) {s : Bs} (hs : s.length ≤ 6000) (N : Nat) : ∀ (n : Nat) (rest : Bs) (at_ m : Nat) (T : List Tok) (v : AV) (H : AHeap), s.drop at_ = rest → at_ ≤ s.length → Bld (H0.push (.row false 2 [[.int .i64 0, .int .i64 0]])) H v T → Pur (H0.push (.row false 2 [[.int .i64 0, .int .i64 0]])) H → T.length ≤ at_ → rest.length < n → rest.length < m →
  W (s9_l1 (evw P orc) N m (.str s) (.ptr H0.next 0 0) v (.int .i64 at_) H) (TokPost H0 (lexR T (lexL n rest at_)))
 | 0, _, _, _, _, _, _, _, _, _, _, _, hn, _ => by omega
 | _, _, _, 0, _, _, _, _, _, _, _, _, _, hm => by omega
 | n + 1, [], at_, m + 1, T, v, H, h, ha, hb, p, hT, hn, hm => by
  have hlen := drop_nil h
  have h1 : ¬ ((at_ : Int) < (s.length : Int)) := by omega
  have hat : s.length = at_ := by omega
  have g : H.get H0.next = some (.row false 2 [[.int .i64 0, .int .i64 0]]) := p.get (AHeap.get_push_same _ _)
  have gl := AHeap.get_lt g
  obtain ⟨v', H', ea, hb', p', hnx, hkeep⟩ := app_tok hb p (by omega) ⟨0, [], 0, s.length⟩
  have hsl := sl22_1 H.next ⟨0, [], 0, s.length⟩
  simp only [Tok.v] at hsl
  simp -implicitDefEqProofs (disch := first | assumption | omega | (simp only [nxB]; omega) | (simp only [oneB])) only [s9_l1, s9_j0, s9_b1, s9, xlen, AV.cells, splice, aload, astore, Nat.reduceAdd, Nat.reduceLeDiff, reduceIte, allB, h1, decide_false, bd34e, hsl, ea, xcall_some]
  have g' : H'.get H0.next = some (.row false 2 [[.int .i64 0, .int .i64 0]]) := by
   rw [hkeep _ gl ?_]; exact g
   intro e he
   rcases hb with ⟨rfl, _⟩ | ⟨l, rfl, hl, _⟩
   ·cases he
   ·cases he; simp only [AHeap.next_push] at hl; omega
  have gl' := AHeap.get_lt g'
  have hrd : rdIs (some (.agg [.int .i64 0, .int .i64 0])) (.agg [.int .i64 0, .int .i64 0]) = true := by simp [rdIs, AV.beq, AVs.beq]
  simp -implicitDefEqProofs (disch := first | assumption | omega | (simp only [nxB]; omega) | (simp only [oneB])) only [s9_j0, s9_b1, s9, xlen, AV.cells, splice, aload, astore, Nat.reduceAdd, Nat.reduceLeDiff, reduceIte, allB, g', hrd]
  have p0 : Pur H0 H' := (Pur.push _ _).trans p'
  have ps : Pur H0 (H'.set H0.next (.row false 2 [[.int .i64 0, .int .i64 0]])) := p0.then_set (Nat.le_refl _) _
  refine W_some.2 ⟨v', rfl, ?_, ps⟩
  rw [lexL]
  simp only [lexR]
  rw [hat] at hb'
  exact hb'.tok.keep fun l ro els e => by
   rw [AHeap.get_set_other]; exact e
   rintro rfl
   rw [g'] at e; cases e
 | n + 1, c :: r, at_, m + 1, T, v, H, h, ha, hb, p, hT, hn, hm => by
  obtain ⟨e1, e2, e3, e4⟩ := drop_cons h
  have h1 : ((at_ : Int) < (s.length : Int)) := by omega
  have g : H.get H0.next = some (.row false 2 [[.int .i64 0, .int .i64 0]]) := p.get (AHeap.get_push_same _ _)
  have gl := AHeap.get_lt g
  simp -implicitDefEqProofs (disch := first | assumption | omega | (simp only [nxB]; omega) | (simp only [oneB])) only [s9_l1, s9_j0, s9_b1, s9, xlen, AV.cells, splice, aload, astore, Nat.reduceAdd, Nat.reduceLeDiff, reduceIte, allB, h1, decide_true]
  have hgH : Gl H := (hg0.pur (Pur.push _ _)).pur p
  have hsl0 := sl9_from (s := s) (a := at_) (by omega)
  rw [h] at hsl0
  simp -implicitDefEqProofs (disch := first | assumption | omega | (simp only [nxB]; omega) | (simp only [oneB])) only [xlen, evB, hsl0]
  refine W_call (lone_spec hgH (s := c :: r) (by simp only [List.length_cons]; omega) rfl) ?_
  rintro _ H2 ⟨rfl, p2⟩
  refine ⟨p2.1, ?_⟩
  have g2 := p2.get g
  have gl2 := AHeap.get_lt g2
  have hb2 := hb.pur p2
  replace p := p.trans p2
  rw [lexL]
  cases ho : oneN (c :: r) with
  | none =>
   simp only [oneV]
   simp -implicitDefEqProofs (disch := first | assumption | omega | (simp only [nxB]; omega) | (simp only [oneB])) only [s9_j0, s9_b1, s9, xlen, AV.cells, splice, aload, astore, Nat.reduceAdd, Nat.reduceLeDiff, reduceIte, allB, bd25w, beq_self_eq_true, g2, AHeap.push_set_lt]
   have hrd : rdIs (some (.agg [.int .i64 1, .int .i64 at_])) (.agg [.int .i64 1, .int .i64 at_]) = true := by simp [rdIs, AV.beq, AVs.beq]
   refine W_some.2 ⟨.nilSl, rfl, .inl ⟨rfl, rfl⟩, ?_⟩
   exact (((Pur.push _ _).trans p).then_set (Nat.le_refl _) _).then_push _
  | some q =>
   obtain ⟨k, t, z, b⟩ := q
   obtain ⟨b1, b2⟩ := oneN_len ho
   have hb0 : ((b : Int) == 0) = false := by simp; omega
   simp only [oneV]
   simp only [List.length_cons] at b2 hn hm
   obtain ⟨v', H', ea, hb', p', hnx, hkeep⟩ := app_tok (hb2.pur (Pur.push H2 (.row false 4 [Tok.cells ⟨k, t, z, at_⟩]))) (p.then_push _) (by omega) ⟨k, t, z, at_⟩
   have hsl := sl22_1 (H2.next + 1) ⟨k, t, z, at_⟩
   simp only [Tok.v] at hsl
   simp only [Tok.cells, AHeap.next_push] at ea hnx
   simp only [Tok.cells] at hsl
   have hrd : ∀ HH : AHeap, rdIs (some (.agg [.int .i64 k, .str t, .int .i64 z, .int .i64 at_])) (.agg [.int .i64 k, .str t, .int .i64 z, .int .i64 at_]) = true := fun _ => by simp [rdIs, AV.beq, AVs.beq]
   simp -implicitDefEqProofs (disch := first | assumption | omega | (simp only [nxB]; omega) | (simp only [oneB])) only [s9_j0, s9_b1, s9, xlen, AV.cells, splice, aload, astore, Nat.reduceAdd, Nat.reduceLeDiff, reduceIte, allB, hb0, hsl, ea, xcall_some, wnn]
   have hd2 : s.drop (at_ + b) = (c :: r).drop b := by rw [← List.drop_drop, h]
   have hbl := blankN_le ((c :: r).drop b) false
   simp only [List.length_drop, List.length_cons] at hbl
   refine W_call0 (passed_spec (by omega) (at_ := at_ + b) (by omega)) ?_
   rw [hd2]
   have hbl' : at_ + b + blankN false ((c :: r).drop b) ≤ s.length := by omega
   have ih := ltok_loop hg0 hs N n (s.drop (at_ + b + blankN false ((c :: r).drop b))) (at_ + b + blankN false ((c :: r).drop b)) m (T ++ [⟨k, t, z, at_⟩]) v' H' rfl hbl' hb' p' (by simp; omega) (by simp; omega) (by simp; omega)
   refine ih.mono ?_
   rintro w H'' ⟨tv, q1, q2, q3⟩
   have hdd : s.drop (at_ + b + blankN false ((c :: r).drop b)) = ((c :: r).drop b).drop (blankN false ((c :: r).drop b)) := by rw [← List.drop_drop, hd2]
   rw [hdd] at q1 q2
   have hE : lexR (T ++ [⟨k, t, z, at_⟩]) (lexL n (((c :: r).drop b).drop (blankN false ((c :: r).drop b))) (at_ + b + blankN false ((c :: r).drop b))) = lexR T (match lexL n (((c :: r).drop b).drop (blankN false ((c :: r).drop b))) (at_ + b + blankN false ((c :: r).drop b)) with
     | .inl e => .inl e
     | .inr l => .inr (⟨k, t, z, at_⟩ :: l)) := by
    cases lexL n (((c :: r).drop b).drop (blankN false ((c :: r).drop b))) (at_ + b + blankN false ((c :: r).drop b)) with
    | inl e => rfl
    | inr l => simp [lexR]
   rw [hE] at q1 q2
   exact ⟨tv, q1, q2, q3⟩
theorem lTokens_spec {H : AHeap} (hg : Gl H) (s : Bs) : W (evw P orc 9 [.str s] H) (TokPost H (tokensS s)) := by
 refine W_of (fun _ => run9 (s.length + 1)) ?_
 by_cases h6 : (6000 : Int) < (s.length : Int)
 ·have h6' : 6000 < s.length := by omega
  simp -implicitDefEqProofs (disch := first | assumption | omega | (simp only [nxB]; omega) | (simp only [oneB])) only [s9_j0, s9_b1, s9, xlen, AV.cells, splice, aload, astore, Nat.reduceAdd, Nat.reduceLeDiff, reduceIte, allB, h6, decide_true]
  refine W_some.2 ⟨.nilSl, by simp [tokensS, h6'], .inl ⟨rfl, by simp [tokensS, h6']⟩, Pur.push _ _⟩
 ·have h6' : ¬ 6000 < s.length := by omega
  simp -implicitDefEqProofs (disch := first | assumption | omega | (simp only [nxB]; omega) | (simp only [oneB])) only [s9_j0, s9, xlen, AV.cells, splice, aload, astore, Nat.reduceAdd, Nat.reduceLeDiff, reduceIte, allB, h6, decide_false]
  refine W_call0 (passed_spec (s := s) (by omega) (at_ := 0) (by omega)) ?_
  simp only [List.drop_zero, Nat.zero_add]
  have hbl := blankN_le s false
  refine (ltok_loop (H0 := H) hg (by omega) (s.length + 1) (s.length + 1) (s.drop (blankN false s)) (blankN false s) (s.length + 1) [] .nilSl _ rfl hbl (.inl ⟨rfl, rfl⟩) (.refl _) (by simp) (by simp; omega) (by simp; omega)).mono ?_
  rintro v H' ⟨tv, q1, q2, q3⟩
  have hE : lexR [] (lexL (s.length + 1) (s.drop (blankN false s)) (blankN false s)) = tokensS s := by
   simp only [tokensS, if_neg h6', lexS]
   cases lexL (s.length + 1) (s.drop (blankN false s)) (blankN false s) <;> rfl
  rw [hE] at q1 q2
  exact ⟨tv, q1, q2, q3⟩
end Go.Proofs.YtgcamjgnfeajiaaDoor

namespace Go.Proofs.YtgcamjgnfeajiaaDoor
open Go.Ev
set_option maxRecDepth 100000
noncomputable section
def s11_j0 (G : CallT) (N : Nat) (H : AHeap) : O :=
 some ((.bool true), H)
theorem s11_j0_eq (G : CallT) (N : Nat) : ∀ R H, codeC P G N (Code.snd (Code.snd (Code.snd (bodyOf Tryd.f11)))) (rC Tryd.f11) [] (rC Tryd.f11) R H = s11_j0 G N H := by
 refine via_trans (via_leaf _) fun R H => ?_
 delta s11_j0
 kernel_rfl
def s11_b1 (G : CallT) (N : Nat) (L1 : AV → AV → AV → AHeap → O) (x0 x1 x5 : AV) (H : AHeap) : O :=
 xlen P .len [22] [x0] H fun x13 =>
 xb (fbin P .lss 3 false x5 x13) fun x14 =>
 xif (some x14) (xb (aindexAddr P 22 x0 x5) fun x19 =>
 xb (aload P H 34 x19) fun x20 =>
 xb (aindexAddr P 22 x1 x5) fun x23 =>
 xb (aload P H 34 x23) fun x24 =>
 xb (fbin P .neq 34 false x20 x24) fun x25 =>
 xif (some x25) (some ((.bool false), H)) (xb (fbin P .add 3 true x5 (.int .i64 1)) fun x16 =>
 L1 x0 x1 x16 H)) (s11_j0 G N H)
def s11_l1 (G : CallT) (N : Nat) : Nat → AV → AV → AV → AHeap → O
 | 0, _, _, _, _ => none
 | n + 1, x0, x1, x5, H => s11_b1 G N (s11_l1 G N n) x0 x1 x5 H
theorem s11_b1_eq (G : CallT) (N : Nat) (L1 : AV → AV → AV → AHeap → O) : ∀ R H, codeC P G N (Code.fst (Code.fst (Code.snd (Code.fst (Code.snd (Code.snd (bodyOf Tryd.f11))))))) (fun R H => L1 (R 0) (R 1) (R 5) H) [(0, (fun R H => s11_j0 G N H))] (rC Tryd.f11) R H = s11_b1 G N L1 (R 0) (R 1) (R 5) H := by
 refine via_trans (via_leaf _) fun R H => ?_
 delta s11_b1
 generalize s11_j0 G N = J0
 revert J0
 refine id ?_
 intro J0
 kernel_rfl
def s11 (G : CallT) (N : Nat) (x0 x1 : AV) (H : AHeap) : O :=
 xlen P .len [22] [x0] H fun x7 =>
 xlen P .len [22] [x1] H fun x9 =>
 xb (fbin P .neq 3 false x7 x9) fun x10 =>
 xif (some x10) (some ((.bool false), H)) (s11_l1 G N N x0 x1 (.int .i64 0) H)
theorem s11_eq (G : CallT) (N : Nat) (x0 : AV) (x1 : AV) (H : AHeap) : cF Tryd.f11 G N (argsF [x0, x1]) H = s11 G N x0 x1 H := by
 refine via_top (A := cF Tryd.f11 G N) ((via_seq (by kernel_rfl) ((via_seq (by kernel_rfl) ((via_seq (by kernel_rfl) (s11_j0_eq G N) ((via_seq (by kernel_rfl) ((via_block (by kernel_rfl) ((via_loop (k := fun m R H => s11_l1 G N m (R 0) (R 1) (R 5) H) (by kernel_rfl) (fun R H => by kernel_rfl) (fun m => s11_b1_eq G N (s11_l1 G N m)))))) (via_leaf _))))) (via_leaf _))) (via_leaf _))) ?_
 delta s11
 generalize s11_l1 G N N = J0
 revert J0
 refine id ?_
 intro J0
 kernel_rfl
theorem run11 (N : Nat) {x0 x1 : AV} {H : AHeap} {r : AV × AHeap} (h : s11 (evw P orc) N x0 x1 H = some r) : evw P orc 11 [x0, x1] H = some r :=
 runF (by kernel_rfl) Tryd.func11 (by kernel_rfl) (by kernel_rfl) (by kernel_rfl) ((s11_eq (evw P orc) N x0 x1 H).trans h)
def s12 (G : CallT) (H : AHeap) : O :=
 xcall H (G 9 [(.str [97, 60, 61, 49, 32, 47, 47, 32, 98])] H) fun x5 h1 =>
 xb (aextract x5 0) fun x6 =>
 xb (aextract x5 1) fun x7 =>
 xalloc h1 [(.int .i64 0), (.int .i64 0)] fun x2 h2 =>
 xstore h2 (astore P h2 25 x2 x7) fun h3 =>
 xmake h3 (some (.sl (h3).next 0 4 4 (some 4), .row false 4 [[(.int .i64 1), (.str [97]), (.int .i64 0), (.int .i64 0)], [(.int .i64 4), (.str [60, 61]), (.int .i64 0), (.int .i64 1)], [(.int .i64 2), (.str []), (.int .i64 1), (.int .i64 3)], [(.int .i64 0), (.str []), (.int .i64 0), (.int .i64 9)]])) fun x12 h4 =>
 xb (afieldAddr P 25 x2 0) fun x13 =>
 xb (aload P h4 23 x13) fun x14 =>
 xb (fbin P .eql 23 true x14 (.int .i64 0)) fun x15 =>
 xg x15 true h4 (qv x6) fun x17 h5 =>
 xg x15 true h5 (qv x12) fun x18 h6 =>
 xg x15 true h6 (fun q => xeff h6 (G 11 [x17, x18] h6) q) fun x19 h7 =>
 xb (pickOf x15 (some x19) (some (.bool false))) fun x20 =>
 xg x20 true h7 (fun q => xeff h7 (G 13 [(.str [119, 104, 105, 108, 101])] h7) q) fun x22 h8 =>
 xb (pickOf x20 (some x22) (some (.bool false))) fun x23 =>
 xg x23 true h8 (fun q => xeff h8 (G 15 [(.str [119, 104, 105, 108, 101])] h8) q) fun x25 h9 =>
 xg x23 true h9 (qp (aun .not x25)) fun x26 h10 =>
 xb (pickOf x23 (some x26) (some (.bool false))) fun x27 =>
 xg x27 true h10 (fun q => xeff h10 (G 15 [(.str [97, 49])] h10) q) fun x29 h11 =>
 xb (pickOf x27 (some x29) (some (.bool false))) fun x30 =>
 some (x30, h11)
theorem s12_eq (G : CallT) (N : Nat) (H : AHeap) : cF Tryd.f12 G N (argsF []) H = s12 G H := by
 refine via_top (A := cF Tryd.f12 G N) (via_leaf _) ?_
 delta s12
 kernel_rfl
theorem run12 (N : Nat) {H : AHeap} {r : AV × AHeap} (h : s12 (evw P orc) H = some r) : evw P orc 12 [] H = some r :=
 runF (by kernel_rfl) Tryd.func12 (by kernel_rfl) (by kernel_rfl) (by kernel_rfl) ((s12_eq (evw P orc) N H).trans h)
def s17_j0 (G : CallT) (N : Nat) (x1 : AV) (H : AHeap) : O :=
 xb (afieldAddr P 34 x1 1) fun x27 =>
 xb (aload P H 9 x27) fun x28 =>
 some (x28, H)
theorem s17_j0_eq (G : CallT) (N : Nat) : ∀ R H, codeC P G N (Code.snd (Code.snd (bodyOf Tryd.f17))) (rC Tryd.f17) [] (rC Tryd.f17) R H = s17_j0 G N (R 1) H := by
 refine via_trans (via_leaf _) fun R H => ?_
 delta s17_j0
 kernel_rfl
def s17_j1 (G : CallT) (N : Nat) (x3 : AV) (H : AHeap) : O :=
 some (x3, H)
theorem s17_j1_eq (G : CallT) (N : Nat) : ∀ R H, codeC P G N (Code.snd (Code.snd (Code.fst (Code.snd (Code.fst (Code.snd (bodyOf Tryd.f17))))))) (fun R H => s17_j0 G N (R 1) H) [] (rC Tryd.f17) R H = s17_j1 G N (R 3) H := by
 refine via_trans (via_leaf _) fun R H => ?_
 delta s17_j1
 kernel_rfl
def s17_b2 (G : CallT) (N : Nat) (L2 : AV → AV → AHeap → O) (x3 x4 : AV) (H : AHeap) : O :=
 xb (fbin P .gtr 3 true x4 (.int .i64 0)) fun x11 =>
 xg x11 false H (qv x3) fun x13 h1 =>
 xg x11 false h1 (qp (fbin P .eql 9 true x13 (.str []))) fun x14 h2 =>
 xb (pickOf x11 (some (.bool true)) (some x14)) fun x15 =>
 xif (some x15) (xb (fbin P .rem 3 true x4 (.int .i64 10)) fun x19 =>
 xb (fbin P .add 3 true (.int .i64 48) x19) fun x20 =>
 xconv P 3 5 x20 h2 fun x21 =>
 xmake h2 (sliceOf P (h2).next 47 1 [(0, x21)]) fun x22 h3 =>
 xconv P 47 9 x22 h3 fun x23 =>
 xb (fbin P .add 9 false x23 x3) fun x25 =>
 xb (fbin P .quo 3 true x4 (.int .i64 10)) fun x17 =>
 L2 x25 x17 h3) (s17_j1 G N x3 h2)
def s17_l2 (G : CallT) (N : Nat) : Nat → AV → AV → AHeap → O
 | 0, _, _, _ => none
 | n + 1, x3, x4, H => s17_b2 G N (s17_l2 G N n) x3 x4 H
theorem s17_b2_eq (G : CallT) (N : Nat) (L2 : AV → AV → AHeap → O) : ∀ R H, codeC P G N (Code.fst (Code.fst (Code.snd (Code.fst (Code.snd (Code.fst (Code.snd (Code.fst (Code.snd (bodyOf Tryd.f17)))))))))) (fun R H => L2 (R 3) (R 4) H) [(0, (fun R H => s17_j1 G N (R 3) H))] (rC Tryd.f17) R H = s17_b2 G N L2 (R 3) (R 4) H := by
 refine via_trans (via_leaf _) fun R H => ?_
 delta s17_b2
 generalize s17_j1 G N = J0
 revert J0
 refine id ?_
 intro J0
 kernel_rfl
def s17 (G : CallT) (N : Nat) (x0 : AV) (H : AHeap) : O :=
 xmake H (boxOf (H).next x0) fun x1 h1 =>
 xb (afieldAddr P 34 x1 0) fun x5 =>
 xb (aload P h1 3 x5) fun x6 =>
 xb (fbin P .eql 3 true x6 (.int .i64 2)) fun x7 =>
 xif (some x7) (xb (afieldAddr P 34 x1 2) fun x8 =>
 xb (aload P h1 3 x8) fun x9 =>
 s17_l2 G N N (.str []) x9 h1) (s17_j0 G N x1 h1)
theorem s17_eq (G : CallT) (N : Nat) (x0 : AV) (H : AHeap) : cF Tryd.f17 G N (argsF [x0]) H = s17 G N x0 H := by
 refine via_top (A := cF Tryd.f17 G N) ((via_seq (by kernel_rfl) ((via_seq (by kernel_rfl) (s17_j0_eq G N) ((via_seq (by kernel_rfl) ((via_cond (by kernel_rfl) ((via_seq (by kernel_rfl) ((via_seq (by kernel_rfl) (s17_j1_eq G N) ((via_seq (by kernel_rfl) ((via_block (by kernel_rfl) ((via_loop (k := fun m R H => s17_l2 G N m (R 3) (R 4) H) (by kernel_rfl) (fun R H => by kernel_rfl) (fun m => s17_b2_eq G N (s17_l2 G N m)))))) (via_leaf _))))) (via_leaf _))) (via_leaf _))) (via_leaf _))))) (via_leaf _))) ?_
 delta s17
 generalize s17_j0 G N = J0
 generalize s17_l2 G N N = J1
 revert J0 J1
 refine id ?_
 intro J0 J1
 kernel_rfl
theorem run17 (N : Nat) {x0 : AV} {H : AHeap} {r : AV × AHeap} (h : s17 (evw P orc) N x0 H = some r) : evw P orc 17 [x0] H = some r :=
 runF (by kernel_rfl) Tryd.func17 (by kernel_rfl) (by kernel_rfl) (by kernel_rfl) ((s17_eq (evw P orc) N x0 H).trans h)
end
end Go.Proofs.YtgcamjgnfeajiaaDoor
namespace Go.Proofs.YtgcamjgnfeajiaaDoor
open Go.Ev
theorem lexL_len : ∀ (n : Nat) (rest : Bs) (p : Nat) (l : List Tok), lexL n rest p = .inr l → l.length ≤ rest.length + 1
 | 0, _, _, _, h => by simp [lexL] at h
 | n + 1, [], p, l, h => by simp [lexL] at h; subst h; simp
 | n + 1, c :: r, p, l, h => by
  rw [lexL] at h
  cases ho : oneN (c :: r) with
  | none => rw [ho] at h; simp at h
  | some q =>
   obtain ⟨k, t, z, b⟩ := q
   obtain ⟨b1, b2⟩ := oneN_len ho
   rw [ho] at h
   simp only at h
   cases hl : lexL n (((c :: r).drop b).drop (blankN false ((c :: r).drop b))) (p + b + blankN false ((c :: r).drop b)) with
   | inl e => rw [hl] at h; cases h
   | inr l' =>
    rw [hl] at h
    cases h
    have := lexL_len n _ _ l' hl
    simp only [List.length_drop, List.length_cons] at this b2 ⊢
    omega
theorem tokensS_len (s : Bs) : (tokensS s).1.length ≤ s.length + 1 := by
 unfold tokensS
 split
 ·simp
 ·cases h : lexS s with
  | inl e => simp
  | inr l =>
   have := lexL_len _ _ _ l h
   simp only [List.length_drop] at this
   simp only
   omega
end Go.Proofs.YtgcamjgnfeajiaaDoor

namespace Go.Proofs.YtgcamjgnfeajiaaDoor
open Go.Ev
theorem map_and2 (x y : Bool) : Option.map AV.bool (bif x then (bif y then some true else some false) else some false) = some (.bool (x && y)) := by cases x <;> cases y <;> rfl
theorem map_nand4 (x y z u : Bool) : Option.map (fun b => AV.bool (!b)) (bif x then (bif y then (bif z then (bif u then some true else some false) else some false) else some false) else some false) = some (.bool (!(x && (y && (z && u))))) := by cases x <;> cases y <;> cases z <;> cases u <;> rfl
theorem eq25 {c : Bool} (a a' : Int) (b b' : Int) : fbin P .eql 25 c (.agg [.int .i64 a, .int .i64 b]) (.agg [.int .i64 a', .int .i64 b']) = some (.bool (a == a' && b == b')) :=
 Eq.trans (by kernel_rfl) (map_and2 (a == a') (b == b'))
theorem ne34 {k : Bool} (a a' : Int) (b b' : Bs) (c c' d d' : Int) : fbin P .neq 34 k (.agg [.int .i64 a, .str b, .int .i64 c, .int .i64 d]) (.agg [.int .i64 a', .str b', .int .i64 c', .int .i64 d']) = some (.bool (!(a == a' && (b == b' && (c == c' && d == d'))))) :=
 Eq.trans (by kernel_rfl) (map_nand4 (a == a') (b == b') (c == c') (d == d'))
theorem Same_loop {H : AHeap} {N : Nat} {T : List Tok} (hT : T.length ≤ 1000000000) {kl ki ll li : Nat} {kc lc : Option Nat} {kro lro : Bool} {kels lels : List (List AV)} (g1 : H.get kl = some (.row kro 4 kels)) (g2 : H.get ll = some (.row lro 4 lels))
  (e1 : ∀ (k : Nat) (t : Tok), T[k]? = some t → kels[ki + k]? = some t.cells) (e2 : ∀ (k : Nat) (t : Tok), T[k]? = some t → lels[li + k]? = some t.cells) :
  ∀ (c j n : Nat), c + j = T.length → c < n → W (s11_l1 (evw P orc) N n (.sl kl ki T.length 4 kc) (.sl ll li T.length 4 lc) (.int .i64 (j : Int)) H) fun v H' => v = .bool true ∧ H' = H
 | _, _, 0, _, hn => by omega
 | 0, j, n + 1, hj, hn => by
  have h1 : ¬ ((j : Int) < (T.length : Int)) := by omega
  simp -implicitDefEqProofs (disch := first | assumption | omega | (simp only [nxB]; omega) | (simp only [oneB])) only [s11_l1, s11_j0, s11_b1, s11, xlen, AV.cells, splice, aload, astore, Nat.reduceAdd, Nat.reduceLeDiff, reduceIte, allB, h1, decide_false]
  exact W_some.2 ⟨rfl, rfl⟩
 | c + 1, j, n + 1, hj, hn => by
  have hlt : j < T.length := by omega
  have h1 : ((j : Int) < (T.length : Int)) := by omega
  have h0 : (0 : Int) ≤ (j : Int) := by omega
  have ht : ((j : Int)).toNat = j := by omega
  have q1 := e1 j T[j] (List.getElem?_eq_getElem hlt)
  have q2 := e2 j T[j] (List.getElem?_eq_getElem hlt)
  simp only [Tok.cells] at q1 q2
  have l1 := AHeap.get_lt g1
  have l2 := AHeap.get_lt g2
  simp -implicitDefEqProofs (disch := first | assumption | omega | (simp only [nxB]; omega) | (simp only [oneB])) only [s11_l1, s11_j0, s11_b1, s11, xlen, AV.cells, splice, aload, astore, Nat.reduceAdd, Nat.reduceLeDiff, reduceIte, allB, h1, decide_true, ht, g1, g2, q1, q2, ne34, beq_self_eq_true, Bool.and_self, Bool.not_true, wn1]
  exact Same_loop hT g1 g2 e1 e2 c (j + 1) n (by omega) (by omega)
theorem Same_spec {H : AHeap} {T : List Tok} (hT : T.length ≤ 1000000000) {v w : AV} (h1 : TokSl H v T) (h2 : TokSl H w T) : W (evw P orc 11 [v, w] H) fun r H' => r = .bool true ∧ H' = H := by
 refine W_of (fun _ => run11 (T.length + 1)) ?_
 have c1 : ∀ {v : AV}, TokSl H v T → ∀ H' : AHeap, abuiltin P H' .len [22] [v] = some (.int .i64 T.length) := by
  intro v h H'
  rcases h with ⟨rfl, rfl⟩ | ⟨l, i, cap, rfl, _⟩
  ·exact ln22n
  ·exact ln22
 have a1 := c1 h1
 have a2 := c1 h2
 have hz : (((T.length : Nat) : Int) != ((T.length : Nat) : Int)) = false := by simp
 by_cases hT0 : T = []
 ·have hl : T.length = 0 := by rw [hT0]; rfl
  have hlt : ¬ ((0 : Int) < (T.length : Int)) := by omega
  simp -implicitDefEqProofs (disch := first | assumption | omega | (simp only [nxB]; omega) | (simp only [oneB])) only [s11_l1, s11_j0, s11_b1, s11, xlen, AV.cells, splice, aload, astore, Nat.reduceAdd, Nat.reduceLeDiff, reduceIte, allB, a1, a2, hz, hlt, decide_false]
  exact W_some.2 ⟨rfl, rfl⟩
 ·rcases h1 with ⟨_, h⟩ | ⟨l, i, cap, rfl, h⟩
  ·exact absurd h hT0
  rcases h2 with ⟨_, h'⟩ | ⟨l', i', cap', rfl, h'⟩
  ·exact absurd h' hT0
  obtain ⟨ro, els, g1, e1⟩ := h.resolve_left hT0
  obtain ⟨ro', els', g2, e2⟩ := h'.resolve_left hT0
  simp -implicitDefEqProofs (disch := first | assumption | omega | (simp only [nxB]; omega) | (simp only [oneB])) only [s11_j0, s11, xlen, xlen, evB, binB, a1, a2, hz]
  exact Same_loop hT g1 g2 e1 e2 T.length 0 (T.length + 1) (by omega) (by omega)
theorem known_spec {H : AHeap} (hg : Gl H) : W (evw P orc 12 [] H) fun v H' => v = .bool true ∧ Pur H H' := by
 refine W_of (fun _ => run12 0) ?_
 have hk : tokensS [97, 60, 61, 49, 32, 47, 47, 32, 98] = ([⟨1, [97], 0, 0⟩, ⟨4, [60, 61], 0, 1⟩, ⟨2, [], 1, 3⟩, ⟨0, [], 0, 9⟩], 0, 0) := by rfl
 rw [s12]
 refine W_call (lTokens_spec hg _) ?_
 rintro _ H1 ⟨tv, rfl, ht, p1⟩
 refine ⟨p1.1, ?_⟩
 rw [hk] at ht ⊢
 simp only at ht ⊢
 have z0 : ((0 : Int) == 0) = true := rfl
 have pa := p1.then_push (.row false 2 [[.int .i64 0, .int .i64 0]])
 have pb := pa.then_push (.row false 4 [[(.int .i64 1), (.str [97]), (.int .i64 0), (.int .i64 0)], [(.int .i64 4), (.str [60, 61]), (.int .i64 0), (.int .i64 1)], [(.int .i64 2), (.str []), (.int .i64 1), (.int .i64 3)], [(.int .i64 0), (.str []), (.int .i64 0), (.int .i64 9)]])
 have hw : TokSl ((H1.push (.row false 2 [[.int .i64 0, .int .i64 0]])).push (.row false 4 [[(.int .i64 1), (.str [97]), (.int .i64 0), (.int .i64 0)], [(.int .i64 4), (.str [60, 61]), (.int .i64 0), (.int .i64 1)], [(.int .i64 2), (.str []), (.int .i64 1), (.int .i64 3)], [(.int .i64 0), (.str []), (.int .i64 0), (.int .i64 9)]])) (.sl (H1.next + 1) 0 4 4 (some 4)) [⟨1, [97], 0, 0⟩, ⟨4, [60, 61], 0, 1⟩, ⟨2, [], 1, 3⟩, ⟨0, [], 0, 9⟩] := by
  refine .inr ⟨_, 0, some 4, rfl, .inr ⟨false, _, AHeap.get_push_same _ _, fun k t hk => ?_⟩⟩
  rcases k with _ | _ | _ | _ | k
  ·cases hk; rfl
  ·cases hk; rfl
  ·cases hk; rfl
  ·cases hk; rfl
  ·simp at hk
 simp -implicitDefEqProofs (disch := first | assumption | omega | (simp only [nxB]; omega) | (simp only [oneB])) only [xlen, AV.cells, splice, aload, astore, Nat.reduceAdd, Nat.reduceLeDiff, reduceIte, allB, AHeap.push_set_lt, z0]
 refine W_eff0 (Same_spec (T := [⟨1, [97], 0, 0⟩, ⟨4, [60, 61], 0, 1⟩, ⟨2, [], 1, 3⟩, ⟨0, [], 0, 9⟩]) (by decide) (ht.pur ((Pur.push _ _).then_push _)) hw) ?_
 simp -implicitDefEqProofs (disch := first | assumption | omega | (simp only [nxB]; omega) | (simp only [oneB])) only [xlen, evB]
 refine W_eff (lWord_spec (hg.pur pb) _) ?_
 rintro _ H2 ⟨rfl, p2⟩
 refine ⟨p2.1, ?_⟩
 have w1 : wordB [119, 104, 105, 108, 101] = true := by rfl
 simp -implicitDefEqProofs (disch := first | assumption | omega | (simp only [nxB]; omega) | (simp only [oneB])) only [xlen, evB, w1]
 refine W_eff (lName_spec (hg.pur (pb.trans p2)) (by decide)) ?_
 rintro _ H3 ⟨rfl, p3⟩
 refine ⟨p3.1, ?_⟩
 have n1 : nameB [119, 104, 105, 108, 101] = false := by rfl
 simp -implicitDefEqProofs (disch := first | assumption | omega | (simp only [nxB]; omega) | (simp only [oneB])) only [xlen, evB, n1, Bool.not_false]
 refine W_eff (lName_spec (hg.pur ((pb.trans p2).trans p3)) (by decide)) ?_
 rintro _ H4 ⟨rfl, p4⟩
 refine ⟨p4.1, ?_⟩
 have n2 : nameB [97, 49] = true := by rfl
 simp -implicitDefEqProofs (disch := first | assumption | omega | (simp only [nxB]; omega) | (simp only [oneB])) only [xlen, evB, n2]
 exact W_some.2 ⟨rfl, ((pb.trans p2).trans p3).trans p4⟩
end Go.Proofs.YtgcamjgnfeajiaaDoor

namespace Go.Proofs.YtgcamjgnfeajiaaDoor
open Go.Ev
set_option maxRecDepth 100000
noncomputable section
def s3 (G : CallT) (x0 : AV) (H : AHeap) : O :=
 xlen P .len [9] [x0] H fun x8 =>
 xb (fbin P .gtr 3 true x8 (.int .i64 7000)) fun x9 =>
 xif (some x9) (some ((.bool true), H)) (xcall H (G 9 [x0] H) fun x12 h1 =>
 xb (aextract x12 0) fun x13 =>
 xb (aextract x12 1) fun x14 =>
 xalloc h1 [(.int .i64 0), (.int .i64 0)] fun x4 h2 =>
 xstore h2 (astore P h2 25 x4 x14) fun h3 =>
 xcall h3 (G 10 [x0] h3) fun x17 h4 =>
 xb (aextract x17 0) fun x18 =>
 xb (aextract x17 1) fun x19 =>
 xalloc h4 [(.int .i64 0), (.int .i64 0)] fun x6 h5 =>
 xstore h5 (astore P h5 25 x6 x19) fun h6 =>
 xcall h6 (G 11 [x13, x18] h6) fun x22 h7 =>
 xg x22 true h7 (qr (aload P h7 25 x4)) fun x24 h8 =>
 xg x22 true h8 (qr (aload P h8 25 x6)) fun x25 h9 =>
 xg x22 true h9 (qp (fbin P .eql 25 false x24 x25)) fun x26 h10 =>
 xb (pickOf x22 (some x26) (some (.bool false))) fun x27 =>
 xg x27 true h10 (fun q => xeff h10 (G 12 [] h10) q) fun x29 h11 =>
 xb (pickOf x27 (some x29) (some (.bool false))) fun x30 =>
 some (x30, h11))
theorem s3_eq (G : CallT) (N : Nat) (x0 : AV) (H : AHeap) : cF Tryd.f3 G N (argsF [x0]) H = s3 G x0 H := by
 refine via_top (A := cF Tryd.f3 G N) (via_leaf _) ?_
 delta s3
 kernel_rfl
theorem run3 (N : Nat) {x0 : AV} {H : AHeap} {r : AV × AHeap} (h : s3 (evw P orc) x0 H = some r) : evw P orc 3 [x0] H = some r :=
 runF (by kernel_rfl) Tryd.func3 (by kernel_rfl) (by kernel_rfl) (by kernel_rfl) ((s3_eq (evw P orc) N x0 H).trans h)
end
end Go.Proofs.YtgcamjgnfeajiaaDoor
namespace Go.Proofs.YtgcamjgnfeajiaaDoor
open Go.Ev
set_option maxRecDepth 100000
noncomputable section
def s4 (G : CallT) (x0 : AV) (H : AHeap) : O :=
 xlen P .len [9] [x0] H fun x4 =>
 xb (fbin P .gtr 3 true x4 (.int .i64 300)) fun x5 =>
 xif (some x5) (some ((.bool true), H)) (xcall H (G 13 [x0] H) fun x7 h1 =>
 xcall h1 (G 14 [x0] h1) fun x9 h2 =>
 xb (fbin P .eql 4 false x7 x9) fun x10 =>
 xg x10 true h2 (qv x0) fun x12 h3 =>
 xg x10 true h3 (fun q => xeff h3 (G 15 [x12] h3) q) fun x13 h4 =>
 xg x10 true h4 (qv x0) fun x14 h5 =>
 xg x10 true h5 (fun q => xeff h5 (G 16 [x14] h5) q) fun x15 h6 =>
 xg x10 true h6 (qp (fbin P .eql 4 false x13 x15)) fun x16 h7 =>
 xb (pickOf x10 (some x16) (some (.bool false))) fun x17 =>
 xg x17 true h7 (fun q => xeff h7 (G 12 [] h7) q) fun x19 h8 =>
 xb (pickOf x17 (some x19) (some (.bool false))) fun x20 =>
 some (x20, h8))
theorem s4_eq (G : CallT) (N : Nat) (x0 : AV) (H : AHeap) : cF Tryd.f4 G N (argsF [x0]) H = s4 G x0 H := by
 refine via_top (A := cF Tryd.f4 G N) (via_leaf _) ?_
 delta s4
 kernel_rfl
theorem run4 (N : Nat) {x0 : AV} {H : AHeap} {r : AV × AHeap} (h : s4 (evw P orc) x0 H = some r) : evw P orc 4 [x0] H = some r :=
 runF (by kernel_rfl) Tryd.func4 (by kernel_rfl) (by kernel_rfl) (by kernel_rfl) ((s4_eq (evw P orc) N x0 H).trans h)
end
end Go.Proofs.YtgcamjgnfeajiaaDoor
namespace Go.Proofs.YtgcamjgnfeajiaaDoor
open Go.Ev
theorem tokens_run {H : AHeap} (hg : Gl H) (s : Bs) : W (s3 (evw P orc) (.str s) H) fun v H' => v = .bool true ∧ Pur H H' := by
 by_cases h7 : (7000 : Int) < (s.length : Int)
 ·simp -implicitDefEqProofs (disch := first | assumption | omega | (simp only [nxB]; omega) | (simp only [oneB])) only [s3, xlen, AV.cells, splice, aload, astore, Nat.reduceAdd, Nat.reduceLeDiff, reduceIte, allB, h7, decide_true]
  exact W_some.2 ⟨rfl, .refl _⟩
 ·simp -implicitDefEqProofs (disch := first | assumption | omega | (simp only [nxB]; omega) | (simp only [oneB])) only [s3, xlen, AV.cells, splice, aload, astore, Nat.reduceAdd, Nat.reduceLeDiff, reduceIte, allB, h7, decide_false]
  refine W_call (lTokens_spec hg s) ?_
  rintro _ H1 ⟨tv, rfl, ht, p1⟩
  refine ⟨p1.1, ?_⟩
  have hlen := tokensS_len s
  simp -implicitDefEqProofs (disch := first | assumption | omega | (simp only [nxB]; omega) | (simp only [oneB])) only [xlen, AV.cells, splice, aload, astore, Nat.reduceAdd, Nat.reduceLeDiff, reduceIte, allB, AHeap.push_set_lt]
  refine W_call (Tokens_spec s) ?_
  rintro _ H2 ⟨tw, rfl, hu, p2⟩
  refine ⟨p2.1, ?_⟩
  generalize tokensS s = q at ht hu hlen p2
  have pa := p1.then_push (.row false 2 [[.int .i64 q.2.1, .int .i64 q.2.2]])
  have pb := (pa.trans p2).then_push (.row false 2 [[.int .i64 q.2.1, .int .i64 q.2.2]])
  have g4 : H2.get H1.next = some (.row false 2 [[.int .i64 q.2.1, .int .i64 q.2.2]]) := p2.get (AHeap.get_push_same _ _)
  have l4 := AHeap.get_lt g4
  have p2' := ((Pur.push H1 (.row false 2 [[.int .i64 q.2.1, .int .i64 q.2.2]])).trans p2).then_push (.row false 2 [[.int .i64 q.2.1, .int .i64 q.2.2]])
  simp -implicitDefEqProofs (disch := first | assumption | omega | (simp only [nxB]; omega) | (simp only [oneB])) only [xlen, AV.cells, splice, aload, astore, Nat.reduceAdd, Nat.reduceLeDiff, reduceIte, allB, AHeap.push_set_lt]
  refine W_call0 (Same_spec (T := q.1) (by omega) (ht.pur p2') (hu.pur (Pur.push _ _))) ?_
  simp -implicitDefEqProofs (disch := first | assumption | omega | (simp only [nxB]; omega) | (simp only [oneB])) only [xlen, AV.cells, splice, aload, astore, Nat.reduceAdd, Nat.reduceLeDiff, reduceIte, allB, g4, eq25, beq_self_eq_true, Bool.and_self]
  refine W_eff (known_spec (hg.pur pb)) ?_
  rintro _ H3 ⟨rfl, p3⟩
  refine ⟨p3.1, ?_⟩
  simp -implicitDefEqProofs (disch := first | assumption | omega | (simp only [nxB]; omega) | (simp only [oneB])) only [xlen, evB]
  exact W_some.2 ⟨rfl, pb.trans p3⟩
theorem words_run {H : AHeap} (hg : Gl H) (s : Bs) : W (s4 (evw P orc) (.str s) H) fun v H' => v = .bool true ∧ Pur H H' := by
 by_cases h7 : (300 : Int) < (s.length : Int)
 ·simp -implicitDefEqProofs (disch := first | assumption | omega | (simp only [nxB]; omega) | (simp only [oneB])) only [s4, xlen, AV.cells, splice, aload, astore, Nat.reduceAdd, Nat.reduceLeDiff, reduceIte, allB, h7, decide_true]
  exact W_some.2 ⟨rfl, .refl _⟩
 ·simp -implicitDefEqProofs (disch := first | assumption | omega | (simp only [nxB]; omega) | (simp only [oneB])) only [s4, xlen, AV.cells, splice, aload, astore, Nat.reduceAdd, Nat.reduceLeDiff, reduceIte, allB, h7, decide_false]
  refine W_call (lWord_spec hg s) ?_
  rintro _ H1 ⟨rfl, p1⟩
  refine ⟨p1.1, ?_⟩
  refine W_call (Word_spec s) ?_
  rintro _ H2 ⟨rfl, p2⟩
  refine ⟨p2.1, ?_⟩
  have pa := p1.trans p2
  simp -implicitDefEqProofs (disch := first | assumption | omega | (simp only [nxB]; omega) | (simp only [oneB])) only [xlen, AV.cells, splice, aload, astore, Nat.reduceAdd, Nat.reduceLeDiff, reduceIte, allB, beq_self_eq_true]
  refine W_eff (lName_spec (hg.pur pa) (by omega)) ?_
  rintro _ H3 ⟨rfl, p3⟩
  refine ⟨p3.1, ?_⟩
  simp -implicitDefEqProofs (disch := first | assumption | omega | (simp only [nxB]; omega) | (simp only [oneB])) only [xlen, evB]
  refine W_eff (Name_spec (by omega)) ?_
  rintro _ H4 ⟨rfl, p4⟩
  refine ⟨p4.1, ?_⟩
  have pb := (pa.trans p3).trans p4
  simp -implicitDefEqProofs (disch := first | assumption | omega | (simp only [nxB]; omega) | (simp only [oneB])) only [xlen, AV.cells, splice, aload, astore, Nat.reduceAdd, Nat.reduceLeDiff, reduceIte, allB, beq_self_eq_true]
  refine W_eff (known_spec (hg.pur pb)) ?_
  rintro _ H5 ⟨rfl, p5⟩
  refine ⟨p5.1, ?_⟩
  simp -implicitDefEqProofs (disch := first | assumption | omega | (simp only [nxB]; omega) | (simp only [oneB])) only [xlen, evB]
  exact W_some.2 ⟨rfl, pb.trans p5⟩
end Go.Proofs.YtgcamjgnfeajiaaDoor

namespace Go.Proofs.YtgcamjgnfeajiaaDoor
open Go.Ev
set_option maxRecDepth 100000
noncomputable section
def s7 (G : CallT) (x0 : AV) (H : AHeap) : O :=
 xmake H (some (.sl (H).next 0 10 1 (some 10), .row false 1 [[(.str [48, 48, 55])], [(.str [97, 32, 38, 32, 98])], [(.str [49, 120])], [(.str [57, 50, 50, 51, 51, 55, 50, 48, 51, 54, 56, 53, 52, 55, 55, 53, 56, 48, 56])], [(.str [97, 35])], [(.str [120, 32, 124])], [(.str [0])], [(.str [97, 46, 98, 255])], [(.str [97, 98, 99, 100, 101, 102, 103, 104, 105])], [(.str [47, 32, 47])]])) fun x7 h1 =>
 xmake h1 (some (.sl (h1).next 0 10 1 (some 10), .row false 1 [[(.int .i64 0)], [(.int .i64 2)], [(.int .i64 0)], [(.int .i64 0)], [(.int .i64 1)], [(.int .i64 2)], [(.int .i64 0)], [(.int .i64 3)], [(.int .i64 0)], [(.int .i64 (-1))]])) fun x8 h2 =>
 xb (fbin P .lss 3 true x0 (.int .i64 0)) fun x10 =>
 xg x10 false h2 (qv x0) fun x12 h3 =>
 xg x10 false h3 (qv x7) fun x13 h4 =>
 xg x10 false h4 (fun q => xboth (abuiltin P .empty .len [31] [x13]) (abuiltin P h4 .len [31] [x13]) q) fun x14 h5 =>
 xg x10 false h5 (qp (fbin P .geq 3 false x12 x14)) fun x15 h6 =>
 xb (pickOf x10 (some (.bool true)) (some x15)) fun x16 =>
 xif (some x16) (some ((.bool true), h6)) (xb (aindexAddr P 31 x7 x0) fun x20 =>
 xb (aload P h6 9 x20) fun x21 =>
 xcall h6 (G 9 [x21] h6) fun x22 h7 =>
 xb (aextract x22 0) fun x23 =>
 xb (aextract x22 1) fun x24 =>
 xalloc h7 [(.int .i64 0), (.int .i64 0)] fun x6 h8 =>
 xstore h8 (astore P h8 25 x6 x24) fun h9 =>
 xb (aindexAddr P 37 x8 x0) fun x27 =>
 xb (aload P h9 3 x27) fun x28 =>
 xb (fbin P .lss 3 true x28 (.int .i64 0)) fun x29 =>
 xif (some x29) (xb (afieldAddr P 25 x6 0) fun x30 =>
 xb (aload P h9 23 x30) fun x31 =>
 xb (fbin P .eql 23 true x31 (.int .i64 0)) fun x32 =>
 xg x32 true h9 (qv x23) fun x34 h10 =>
 xg x32 true h10 (fun q => xboth (abuiltin P .empty .len [22] [x34]) (abuiltin P h10 .len [22] [x34]) q) fun x35 h11 =>
 xg x32 true h11 (qp (fbin P .eql 3 true x35 (.int .i64 3))) fun x36 h12 =>
 xb (pickOf x32 (some x36) (some (.bool false))) fun x37 =>
 xg x37 true h12 (fun q => xeff h12 (G 12 [] h12) q) fun x39 h13 =>
 xb (pickOf x37 (some x39) (some (.bool false))) fun x40 =>
 some (x40, h13)) (xb (aload P h9 25 x6) fun x41 =>
 xb (aindexAddr P 37 x8 x0) fun x44 =>
 xb (aload P h9 3 x44) fun x45 =>
 xb (abuild P 25 [(0, (.int .i64 1)), (1, x45)]) fun x46 =>
 xb (fbin P .eql 25 false x41 x46) fun x47 =>
 xguard x47 true (qv x23) fun k_ =>
 xguard x47 true (fun q => xboth (abuiltin P .empty .len [22] [k_.val]) (abuiltin P (k_.heap h9) .len [22] [k_.val]) q) fun k__1 =>
 xguard x47 true (qp (fbin P .eql 3 true k__1.val (.int .i64 0))) fun k__2 =>
 xb (pickOf x47 (some k__2.val) (some (.bool false))) fun x52 =>
 xguard x52 true (fun q => xeff (k__2.heap (k__1.heap (k_.heap h9))) (G 12 [] (k__2.heap (k__1.heap (k_.heap h9)))) q) fun k__3 =>
 xb (pickOf x52 (some k__3.val) (some (.bool false))) fun x55 =>
 bif dchk [0, 0, 0, 6, 14, 30, 63, 127, 255, 511, 1023, 2047, 4095, 8191, 16383, 32767] [0, 1, 2, 3, 4, 5, 6, 7, 8, 9, 10, 11, 12, 13, 14, 15] [⟨0, (.read x41), fun H => aload P H 25 x6⟩, ⟨1, (.pure x8), fun H => none⟩, ⟨2, (.pure x0), fun H => none⟩, ⟨3, (.pure x44), fun H => none⟩, ⟨4, (.read x45), fun H => aload P H 3 x44⟩, ⟨5, (.pure x46), fun H => none⟩, ⟨6, (.pure x47), fun H => none⟩, ⟨7, (.pure x47), fun H => none⟩, ⟨8, k_, fun H => none⟩, ⟨9, k__1, fun H => abuiltin P H .len [22] [k_.val]⟩, ⟨10, k__2, fun H => none⟩, ⟨11, (.pure x52), fun H => none⟩, ⟨12, (.pure x52), fun H => none⟩, ⟨13, k__3, fun H => none⟩, ⟨14, (.pure x55), fun H => none⟩, ⟨15, (.pure x55), fun H => none⟩] h9 then (some (x55, (k__3.heap (k__2.heap (k__1.heap (k_.heap h9)))))) else none))
theorem s7_eq (G : CallT) (N : Nat) (x0 : AV) (H : AHeap) : cF Tryd.f7 G N (argsF [x0]) H = s7 G x0 H := by
 refine via_top (A := cF Tryd.f7 G N) (via_leaf _) ?_
 delta s7
 kernel_rfl
theorem run7 (N : Nat) {x0 : AV} {H : AHeap} {r : AV × AHeap} (h : s7 (evw P orc) x0 H = some r) : evw P orc 7 [x0] H = some r :=
 runF (by kernel_rfl) Tryd.func7 (by kernel_rfl) (by kernel_rfl) (by kernel_rfl) ((s7_eq (evw P orc) N x0 H).trans h)
end
end Go.Proofs.YtgcamjgnfeajiaaDoor
namespace Go.Proofs.YtgcamjgnfeajiaaDoor
open Go.Ev
set_option maxRecDepth 100000
noncomputable section
def s8_j0 (G : CallT) (N : Nat) (x0 x3 : AV) (x4 x5 : AV) (x6 x7 : AV) (H : AHeap) : O :=
 xb (afieldAddr P 25 x6 0) fun x40 =>
 xb (aload P H 23 x40) fun x41 =>
 xb (fbin P .eql 23 true x41 (.int .i64 0)) fun x42 =>
 xg x42 true H (qv x5) fun x44 h1 =>
 xg x42 true h1 (fun q => xboth (abuiltin P .empty .len [22] [x44]) (abuiltin P h1 .len [22] [x44]) q) fun x45 h2 =>
 xg x42 true h2 (qv x4) fun x46 h3 =>
 xg x42 true h3 (qv x0) fun x47 h4 =>
 xg x42 true h4 (qp (aindexAddr P 37 x46 x47)) fun x48 h5 =>
 xg x42 true h5 (qr (aload P h5 3 x48)) fun x49 h6 =>
 xg x42 true h6 (qp (fbin P .add 3 true x49 (.int .i64 1))) fun x50 h7 =>
 xg x42 true h7 (qp (fbin P .eql 3 false x45 x50)) fun x51 h8 =>
 xb (pickOf x42 (some x51) (some (.bool false))) fun x52 =>
 xg x52 true h8 (qv x7) fun x54 h9 =>
 xg x52 true h9 (qv x3) fun x55 h10 =>
 xg x52 true h10 (qv x0) fun x56 h11 =>
 xg x52 true h11 (qp (aindexAddr P 31 x55 x56)) fun x57 h12 =>
 xg x52 true h12 (qr (aload P h12 9 x57)) fun x58 h13 =>
 xg x52 true h13 (qp (fbin P .eql 9 false x54 x58)) fun x59 h14 =>
 xb (pickOf x52 (some x59) (some (.bool false))) fun x60 =>
 xg x60 true h14 (fun q => xeff h14 (G 12 [] h14) q) fun x62 h15 =>
 xb (pickOf x60 (some x62) (some (.bool false))) fun x63 =>
 some (x63, h15)
theorem s8_j0_eq (G : CallT) (N : Nat) : ∀ R H, codeC P G N (Code.snd (Code.snd (Code.snd (Code.snd (Code.snd (Code.snd (Code.snd (bodyOf Tryd.f8)))))))) (rC Tryd.f8) [] (rC Tryd.f8) R H = s8_j0 G N (R 0) (R 3) (R 4) (R 5) (R 6) (R 7) H := by
 refine via_trans (via_leaf _) fun R H => ?_
 delta s8_j0
 kernel_rfl
def s8_b1 (G : CallT) (N : Nat) (L1 : AV → AV → AV → AV → AV → AV → AV → AHeap → O) (x0 x3 : AV) (x4 x5 : AV) (x6 x7 x8 : AV) (H : AHeap) : O :=
 xlen P .len [22] [x5] H fun x29 =>
 xb (fbin P .lss 3 false x8 x29) fun x30 =>
 xif (some x30) (xb (aindexAddr P 22 x5 x8) fun x36 =>
 xb (afieldAddr P 34 x36 1) fun x37 =>
 xb (aload P H 9 x37) fun x38 =>
 xb (fbin P .add 9 false x7 x38) fun x39 =>
 xb (fbin P .add 3 true x8 (.int .i64 1)) fun x32 =>
 L1 x0 x3 x4 x5 x6 x39 x32 H) (s8_j0 G N x0 x3 x4 x5 x6 x7 H)
def s8_l1 (G : CallT) (N : Nat) : Nat → AV → AV → AV → AV → AV → AV → AV → AHeap → O
 | 0, _, _, _, _, _, _, _, _ => none
 | n + 1, x0, x3, x4, x5, x6, x7, x8, H => s8_b1 G N (s8_l1 G N n) x0 x3 x4 x5 x6 x7 x8 H
theorem s8_b1_eq (G : CallT) (N : Nat) (L1 : AV → AV → AV → AV → AV → AV → AV → AHeap → O) : ∀ R H, codeC P G N (Code.fst (Code.fst (Code.snd (Code.fst (Code.snd (Code.snd (Code.snd (Code.snd (Code.snd (Code.snd (bodyOf Tryd.f8))))))))))) (fun R H => L1 (R 0) (R 3) (R 4) (R 5) (R 6) (R 7) (R 8) H) [(0, (fun R H => s8_j0 G N (R 0) (R 3) (R 4) (R 5) (R 6) (R 7) H))] (rC Tryd.f8) R H = s8_b1 G N L1 (R 0) (R 3) (R 4) (R 5) (R 6) (R 7) (R 8) H := by
 refine via_trans (via_leaf _) fun R H => ?_
 delta s8_b1
 generalize s8_j0 G N = J0
 revert J0
 refine id ?_
 intro J0
 kernel_rfl
def s8 (G : CallT) (N : Nat) (x0 : AV) (H : AHeap) : O :=
 xmake H (some (.sl (H).next 0 12 1 (some 12), .row false 1 [[(.str [60, 61])], [(.str [61, 61])], [(.str [33, 61])], [(.str [38, 38])], [(.str [124, 124])], [(.str [60, 61, 61])], [(.str [61, 61, 61])], [(.str [33, 61, 61])], [(.str [61, 60, 61])], [(.str [45, 45])], [(.str [33, 33])], [(.str [60, 60, 61])]])) fun x9 h1 =>
 xmake h1 (some (.sl (h1).next 0 12 1 (some 12), .row false 1 [[(.int .i64 1)], [(.int .i64 1)], [(.int .i64 1)], [(.int .i64 1)], [(.int .i64 1)], [(.int .i64 2)], [(.int .i64 2)], [(.int .i64 2)], [(.int .i64 2)], [(.int .i64 2)], [(.int .i64 2)], [(.int .i64 2)]])) fun x10 h2 =>
 xb (fbin P .lss 3 true x0 (.int .i64 0)) fun x12 =>
 xg x12 false h2 (qv x0) fun x14 h3 =>
 xg x12 false h3 (qv x9) fun x15 h4 =>
 xg x12 false h4 (fun q => xboth (abuiltin P .empty .len [31] [x15]) (abuiltin P h4 .len [31] [x15]) q) fun x16 h5 =>
 xg x12 false h5 (qp (fbin P .geq 3 false x14 x16)) fun x17 h6 =>
 xb (pickOf x12 (some (.bool true)) (some x17)) fun x18 =>
 xif (some x18) (some ((.bool true), h6)) (xb (aindexAddr P 31 x9 x0) fun x22 =>
 xb (aload P h6 9 x22) fun x23 =>
 xcall h6 (G 9 [x23] h6) fun x24 h7 =>
 xb (aextract x24 0) fun x25 =>
 xb (aextract x24 1) fun x26 =>
 xalloc h7 [(.int .i64 0), (.int .i64 0)] fun x6 h8 =>
 xstore h8 (astore P h8 25 x6 x26) fun h9 =>
 s8_l1 G N N x0 x9 x10 x25 x6 (.str []) (.int .i64 0) h9)
theorem s8_eq (G : CallT) (N : Nat) (x0 : AV) (H : AHeap) : cF Tryd.f8 G N (argsF [x0]) H = s8 G N x0 H := by
 refine via_top (A := cF Tryd.f8 G N) ((via_seq (by kernel_rfl) ((via_seq (by kernel_rfl) ((via_seq (by kernel_rfl) ((via_seq (by kernel_rfl) ((via_seq (by kernel_rfl) ((via_seq (by kernel_rfl) ((via_seq (by kernel_rfl) (s8_j0_eq G N) ((via_seq (by kernel_rfl) ((via_block (by kernel_rfl) ((via_loop (k := fun m R H => s8_l1 G N m (R 0) (R 3) (R 4) (R 5) (R 6) (R 7) (R 8) H) (by kernel_rfl) (fun R H => by kernel_rfl) (fun m => s8_b1_eq G N (s8_l1 G N m)))))) (via_leaf _))))) (via_leaf _))) (via_leaf _))) (via_leaf _))) (via_leaf _))) (via_leaf _))) (via_leaf _))) ?_
 delta s8
 generalize s8_l1 G N N = J0
 revert J0
 refine id ?_
 intro J0
 kernel_rfl
theorem run8 (N : Nat) {x0 : AV} {H : AHeap} {r : AV × AHeap} (h : s8 (evw P orc) N x0 H = some r) : evw P orc 8 [x0] H = some r :=
 runF (by kernel_rfl) Tryd.func8 (by kernel_rfl) (by kernel_rfl) (by kernel_rfl) ((s8_eq (evw P orc) N x0 H).trans h)
end
end Go.Proofs.YtgcamjgnfeajiaaDoor
namespace Go.Proofs.YtgcamjgnfeajiaaDoor
open Go.Ev
theorem TokSl.len5 {H : AHeap} {tv : AV} {T : List Tok} (h : TokSl H tv T) (H' : AHeap) : abuiltin P H' .len [22] [tv] = some (.int .i64 T.length) := by
 rcases h with ⟨rfl, rfl⟩ | ⟨l, i, cap, rfl, _⟩
 ·exact ln22n
 ·exact ln22
theorem get_map {α : Type} {l : List α} {f : α → List AV} {k : Nat} {d : α} (h : k < l.length) : (l.map f)[k]? = some (f (l[k]?.getD d)) := by
 rw [List.getElem?_map]
 simp [h]
def oddT : List Bs := [[48, 48, 55], [97, 32, 38, 32, 98], [49, 120], [57, 50, 50, 51, 51, 55, 50, 48, 51, 54, 56, 53, 52, 55, 55, 53, 56, 48, 56], [97, 35], [120, 32, 124], [0], [97, 46, 98, 255], [97, 98, 99, 100, 101, 102, 103, 104, 105], [47, 32, 47]]
def oddA : List Int := [0, 2, 0, 0, 1, 2, 0, 3, 0, -1]
def oddOk (k : Nat) : Bool := bif decide ((oddA[k]?.getD 0) < 0) then (tokensS (oddT[k]?.getD [])).2.1 == 0 && (tokensS (oddT[k]?.getD [])).1.length == 3 else (tokensS (oddT[k]?.getD [])).2.1 == 1 && (tokensS (oddT[k]?.getD [])).2.2 == (oddA[k]?.getD 0) && (tokensS (oddT[k]?.getD [])).1.length == 0
theorem odd_all : (List.range 10).all oddOk = true := by decide +kernel
theorem odd_run {H : AHeap} (hg : Gl H) (i : Int) : W (s7 (evw P orc) (.int .i64 i) H) fun v H' => v = .bool true ∧ Pur H H' := by
 rw [s7]
 have eA : ([[AV.str [48, 48, 55]], [AV.str [97, 32, 38, 32, 98]], [AV.str [49, 120]], [AV.str [57, 50, 50, 51, 51, 55, 50, 48, 51, 54, 56, 53, 52, 55, 55, 53, 56, 48, 56]], [AV.str [97, 35]], [AV.str [120, 32, 124]], [AV.str [0]], [AV.str [97, 46, 98, 255]], [AV.str [97, 98, 99, 100, 101, 102, 103, 104, 105]], [AV.str [47, 32, 47]]] : List (List AV)) = oddT.map fun t => [.str t] := rfl
 have eB : ([[AV.int .i64 0], [AV.int .i64 2], [AV.int .i64 0], [AV.int .i64 0], [AV.int .i64 1], [AV.int .i64 2], [AV.int .i64 0], [AV.int .i64 3], [AV.int .i64 0], [AV.int .i64 (-1)]] : List (List AV)) = oddA.map fun t => [.int .i64 t] := rfl
 rw [eA, eB]
 have pH := (Pur.push H (.row false 1 (oddT.map fun t => [AV.str t]))).then_push (.row false 1 (oddA.map fun t => [AV.int .i64 t]))
 by_cases c1 : i < 0
 ·simp -implicitDefEqProofs (disch := first | assumption | omega | (simp only [nxB]; omega) | (simp only [oneB])) only [xlen, evB, binB, c1, decide_true]
  exact W_some.2 ⟨rfl, pH⟩
 have z20 : ((10 : Nat) : Int) = 10 := rfl
 by_cases c2 : 10 ≤ i
 ·simp -implicitDefEqProofs (disch := first | assumption | omega | (simp only [nxB]; omega) | (simp only [oneB])) only [xlen, AV.cells, splice, aload, astore, Nat.reduceAdd, Nat.reduceLeDiff, reduceIte, allB, c1, c2, z20, decide_true, decide_false]
  exact W_some.2 ⟨rfl, pH⟩
 obtain ⟨k, rfl⟩ : ∃ k : Nat, i = k := ⟨i.toNat, by omega⟩
 have hk : k < 10 := by omega
 have h0 : (0 : Int) ≤ (k : Int) := by omega
 have h20 : (k : Int) < ((10 : Nat) : Int) := by omega
 have hki : ((k : Int)).toNat = k := by omega
 have gA : (oddT.map fun t => [AV.str t])[k]? = some [.str (oddT[k]?.getD [])] := get_map (by simpa [oddT] using hk)
 have gB : (oddA.map fun t => [AV.int .i64 t])[k]? = some [.int .i64 (oddA[k]?.getD 0)] := get_map (by simpa [oddA] using hk)
 have hok := List.all_eq_true.1 odd_all k (List.mem_range.2 hk)
 generalize (oddT.map fun t => [AV.str t]) = RA at gA pH
 generalize (oddA.map fun t => [AV.int .i64 t]) = RB at gB pH
 unfold oddOk at hok
 generalize oddT[k]?.getD [] = tx at gA hok
 generalize oddA[k]?.getD 0 = pa at gB hok
 simp -implicitDefEqProofs (disch := first | assumption | omega | (simp only [nxB]; omega) | (simp only [oneB])) only [xlen, AV.cells, splice, aload, astore, Nat.reduceAdd, Nat.reduceLeDiff, reduceIte, allB, c1, c2, z20, decide_false, hki, gA]
 have r2 : ((H.push (.row false 1 RA)).push (.row false 1 RB)).get (H.next + 1) = some (.row false 1 RB) := by simp -implicitDefEqProofs (disch := first | assumption | omega | (simp only [nxB]; omega) | (simp only [oneB])) only [heapB]
 refine W_call (lTokens_spec (hg.pur pH) tx) ?_
 rintro _ H1 ⟨tv, rfl, ht, p1⟩
 refine ⟨p1.1, ?_⟩
 have hlen := fun H' => ht.len5 H'
 generalize tokensS tx = q at ht hok hlen
 have n1 := p1.1
 simp only [AHeap.next_push] at n1
 have pK := (pH.trans p1).then_push (.row false 2 [[.int .i64 q.2.1, .int .i64 q.2.2]])
 have r22 := p1.get r2
 by_cases hpa : pa < 0
 ·rw [decide_eq_true hpa, cond_true] at hok
  simp only [Bool.and_eq_true, beq_iff_eq] at hok
  obtain ⟨e1, e2⟩ := hok
  have h3 : ((q.1.length : Int) == 3) = true := by rw [e2]; rfl
  have z0 : ((0 : Int) == 0) = true := rfl
  rw [e1] at pK ⊢
  simp -implicitDefEqProofs (disch := first | assumption | omega | (simp only [nxB]; omega) | (simp only [oneB])) only [xlen, AV.cells, splice, aload, astore, Nat.reduceAdd, Nat.reduceLeDiff, reduceIte, allB, AHeap.push_set_lt, hki, r22, gB, hpa, decide_true, z0, hlen, h3]
  refine W_eff (known_spec (hg.pur pK)) ?_
  rintro _ H3 ⟨rfl, p3⟩
  refine ⟨p3.1, ?_⟩
  simp -implicitDefEqProofs (disch := first | assumption | omega | (simp only [nxB]; omega) | (simp only [oneB])) only [xlen, evB]
  exact W_some.2 ⟨rfl, pK.trans p3⟩
 ·rw [decide_eq_false hpa, cond_false] at hok
  simp only [Bool.and_eq_true, beq_iff_eq] at hok
  obtain ⟨⟨e1, e3⟩, e2⟩ := hok
  have h3 : ((q.1.length : Int) == 0) = true := by rw [e2]; rfl
  have z0 : ((1 : Int) == 1) = true := rfl
  rw [e1, e3] at pK ⊢
  simp -implicitDefEqProofs (disch := first | assumption | omega | (simp only [nxB]; omega) | (simp only [oneB])) only [xlen, AV.cells, splice, aload, astore, Nat.reduceAdd, Nat.reduceLeDiff, reduceIte, allB, AHeap.push_set_lt, hki, r22, gB, hpa, decide_false, z0, hlen, h3, eq25, beq_self_eq_true, xguard_tt]
  refine W_eff (known_spec (hg.pur pK)) ?_
  rintro _ H3 ⟨rfl, p3⟩
  refine ⟨p3.1, ?_⟩
  simp -implicitDefEqProofs (disch := first | assumption | omega | (simp only [nxB]; omega) | (simp only [oneB])) only [xlen, evB]
  refine W_bif (dchk_tied (by kernel_rfl) (by kernel_rfl)) ?_
  exact W_some.2 ⟨rfl, pK.trans p3⟩
def sigT : List Bs := [[60, 61], [61, 61], [33, 61], [38, 38], [124, 124], [60, 61, 61], [61, 61, 61], [33, 61, 61], [61, 60, 61], [45, 45], [33, 33], [60, 60, 61]]
def sigN : List Int := [1, 1, 1, 1, 1, 2, 2, 2, 2, 2, 2, 2]
def cat : List Tok → Bs
 | [] => []
 | t :: r => t.text ++ cat r
def sigOk (k : Nat) : Bool := (tokensS (sigT[k]?.getD [])).2.1 == 0 && decide (((tokensS (sigT[k]?.getD [])).1.length : Int) = (sigN[k]?.getD 0) + 1) && cat (tokensS (sigT[k]?.getD [])).1 == (sigT[k]?.getD []) && Nat.ble (sigT[k]?.getD []).length 100 && decide ((sigN[k]?.getD 0) ≤ 100) && decide (0 ≤ (sigN[k]?.getD 0))
theorem sig_all : (List.range 12).all sigOk = true := by decide +kernel
theorem sig_loop {Q : AV → AHeap → Prop} {G : CallT} {N : Nat} {x0 x3 x4 x6 : AV} {H : AHeap} {T : List Tok} (hl : (cat T).length ≤ 1000000) {v : AV} (hT : T.length ≤ 1000000000) (h : TokSl H v T) (hQ : W (s8_j0 G N x0 x3 x4 v x6 (.str (cat T)) H) Q) :
  ∀ (c j n : Nat) (a : Bs), c + j = T.length → c < n → a ++ cat (T.drop j) = cat T → W (s8_l1 G N n x0 x3 x4 v x6 (.str a) (.int .i64 (j : Int)) H) Q
 | _, _, 0, _, _, hn, _ => by omega
 | 0, j, n + 1, a, hj, hn, ha => by
  have h1 : ¬ ((j : Int) < (T.length : Int)) := by omega
  have hl5 := fun H' => h.len5 H'
  have e : T.drop j = [] := List.drop_eq_nil_of_le (by omega)
  rw [e] at ha
  simp only [cat, List.append_nil] at ha
  subst ha
  simp -implicitDefEqProofs (disch := first | assumption | omega | (simp only [nxB]; omega) | (simp only [oneB])) only [s8_l1, s8_b1, xlen, xlen, evB, binB, hl5, h1, decide_false]
  exact hQ
 | c + 1, j, n + 1, a, hj, hn, ha => by
  have hlt : j < T.length := by omega
  have h1 : ((j : Int) < (T.length : Int)) := by omega
  have h0 : (0 : Int) ≤ (j : Int) := by omega
  have ht : ((j : Int)).toNat = j := by omega
  have hl5 := fun H' => h.len5 H'
  have hd : T.drop j = T[j] :: T.drop (j + 1) := List.drop_eq_getElem_cons hlt
  rw [hd] at ha
  have hla : a.length + T[j].text.length ≤ 1000000 := by
   have := congrArg List.length ha
   simp only [cat, List.length_append] at this
   omega
  have ea : fbin P .add 9 false (.str a) (.str T[j].text) = some (.str (a ++ T[j].text)) := fbin_sadd _ _ _ _ (by omega)
  rcases id h with ⟨_, e⟩ | ⟨l, i, cap, rfl, e⟩
  ·rw [e] at hlt; simp at hlt
  obtain ⟨ro, els, g1, e1⟩ := e.resolve_left (by rintro rfl; simp at hlt)
  have q1 := e1 j T[j] (List.getElem?_eq_getElem hlt)
  simp only [Tok.cells] at q1
  simp -implicitDefEqProofs (disch := first | assumption | omega | (simp only [nxB]; omega) | (simp only [oneB])) only [s8_l1, s8_b1, xlen, AV.cells, splice, aload, astore, Nat.reduceAdd, Nat.reduceLeDiff, reduceIte, allB, h1, decide_true, ht, g1, q1, ea, wn1]
  exact sig_loop hl hT h hQ c (j + 1) n _ (by omega) (by omega) (by rw [List.append_assoc]; exact ha)
theorem sig_run {H : AHeap} (hg : Gl H) (i : Int) : W (s8 (evw P orc) 200 (.int .i64 i) H) fun v H' => v = .bool true ∧ Pur H H' := by
 rw [s8]
 have eA : ([[AV.str [60, 61]], [AV.str [61, 61]], [AV.str [33, 61]], [AV.str [38, 38]], [AV.str [124, 124]], [AV.str [60, 61, 61]], [AV.str [61, 61, 61]], [AV.str [33, 61, 61]], [AV.str [61, 60, 61]], [AV.str [45, 45]], [AV.str [33, 33]], [AV.str [60, 60, 61]]] : List (List AV)) = sigT.map fun t => [.str t] := rfl
 have eB : ([[AV.int .i64 1], [AV.int .i64 1], [AV.int .i64 1], [AV.int .i64 1], [AV.int .i64 1], [AV.int .i64 2], [AV.int .i64 2], [AV.int .i64 2], [AV.int .i64 2], [AV.int .i64 2], [AV.int .i64 2], [AV.int .i64 2]] : List (List AV)) = sigN.map fun t => [.int .i64 t] := rfl
 rw [eA, eB]
 have pH := (Pur.push H (.row false 1 (sigT.map fun t => [AV.str t]))).then_push (.row false 1 (sigN.map fun t => [AV.int .i64 t]))
 by_cases c1 : i < 0
 ·simp -implicitDefEqProofs (disch := first | assumption | omega | (simp only [nxB]; omega) | (simp only [oneB])) only [xlen, evB, binB, c1, decide_true]
  exact W_some.2 ⟨rfl, pH⟩
 have z20 : ((12 : Nat) : Int) = 12 := rfl
 by_cases c2 : 12 ≤ i
 ·simp -implicitDefEqProofs (disch := first | assumption | omega | (simp only [nxB]; omega) | (simp only [oneB])) only [xlen, AV.cells, splice, aload, astore, Nat.reduceAdd, Nat.reduceLeDiff, reduceIte, allB, c1, c2, z20, decide_true, decide_false]
  exact W_some.2 ⟨rfl, pH⟩
 obtain ⟨k, rfl⟩ : ∃ k : Nat, i = k := ⟨i.toNat, by omega⟩
 have hk : k < 12 := by omega
 have h0 : (0 : Int) ≤ (k : Int) := by omega
 have h20 : (k : Int) < ((12 : Nat) : Int) := by omega
 have hki : ((k : Int)).toNat = k := by omega
 have gA : (sigT.map fun t => [AV.str t])[k]? = some [.str (sigT[k]?.getD [])] := get_map (by simpa [sigT] using hk)
 have gB : (sigN.map fun t => [AV.int .i64 t])[k]? = some [.int .i64 (sigN[k]?.getD 0)] := get_map (by simpa [sigN] using hk)
 have hok := List.all_eq_true.1 sig_all k (List.mem_range.2 hk)
 generalize (sigT.map fun t => [AV.str t]) = RA at gA pH
 generalize (sigN.map fun t => [AV.int .i64 t]) = RB at gB pH
 unfold sigOk at hok
 generalize sigT[k]?.getD [] = tx at gA hok
 generalize sigN[k]?.getD 0 = pa at gB hok
 simp -implicitDefEqProofs (disch := first | assumption | omega | (simp only [nxB]; omega) | (simp only [oneB])) only [xlen, AV.cells, splice, aload, astore, Nat.reduceAdd, Nat.reduceLeDiff, reduceIte, allB, c1, c2, z20, decide_false, hki, gA]
 have r1 : ((H.push (.row false 1 RA)).push (.row false 1 RB)).get H.next = some (.row false 1 RA) := by simp -implicitDefEqProofs (disch := first | assumption | omega | (simp only [nxB]; omega) | (simp only [oneB])) only [heapB]
 have r2 : ((H.push (.row false 1 RA)).push (.row false 1 RB)).get (H.next + 1) = some (.row false 1 RB) := by simp -implicitDefEqProofs (disch := first | assumption | omega | (simp only [nxB]; omega) | (simp only [oneB])) only [heapB]
 refine W_call (lTokens_spec (hg.pur pH) tx) ?_
 rintro _ H1 ⟨tv, rfl, ht, p1⟩
 refine ⟨p1.1, ?_⟩
 generalize tokensS tx = q at ht hok
 have hlen := fun H' => ht.len5 H'
 have n1 := p1.1
 simp only [AHeap.next_push] at n1
 simp only [Bool.and_eq_true, beq_iff_eq, decide_eq_true_eq] at hok
 obtain ⟨⟨⟨⟨⟨e1, e2⟩, e3⟩, e4⟩, e5⟩, e6⟩ := hok
 have e4 := Nat.le_of_ble_eq_true e4
 rw [e1]
 have pK := (pH.trans p1).then_push (.row false 2 [[.int .i64 0, .int .i64 q.2.2]])
 have r22 := ((Pur.push H1 (.row false 2 [[.int .i64 0, .int .i64 q.2.2]])).get (p1.get r2))
 have r12 := ((Pur.push H1 (.row false 2 [[.int .i64 0, .int .i64 q.2.2]])).get (p1.get r1))
 have r3 := AHeap.get_push_same H1 (.row false 2 [[.int .i64 0, .int .i64 q.2.2]])
 simp -implicitDefEqProofs (disch := first | assumption | omega | (simp only [nxB]; omega) | (simp only [oneB])) only [xlen, evB, aload, tyB, astore, tyB, Nat.reduceAdd, Nat.reduceLeDiff, reduceIte, AV.cells, splice, lsB, heapB, AHeap.push_set_lt]
 have hq : q.1.length ≤ 101 := by omega
 refine sig_loop (T := q.1) (by rw [e3]; omega) (by omega) (ht.pur (Pur.push _ _)) ?_ q.1.length 0 200 [] (by omega) (by omega) (by simp)
 have z0 : ((0 : Int) == 0) = true := rfl
 have w1 : IntKind.i64.wrap (pa + 1) = q.1.length := by rw [e2]; exact IntWalk.i64_in _ ⟨by omega, by omega⟩
 simp -implicitDefEqProofs (disch := first | assumption | omega | (simp only [nxB]; omega) | (simp only [oneB])) only [s8_j0, xlen, AV.cells, splice, aload, astore, Nat.reduceAdd, Nat.reduceLeDiff, reduceIte, allB, r3, r22, r12, hki, gA, gB, z0, hlen, w1, e3, beq_self_eq_true]
 refine W_eff (known_spec (hg.pur pK)) ?_
 rintro _ H3 ⟨rfl, p3⟩
 refine ⟨p3.1, ?_⟩
 simp -implicitDefEqProofs (disch := first | assumption | omega | (simp only [nxB]; omega) | (simp only [oneB])) only [xlen, evB]
 exact W_some.2 ⟨rfl, pK.trans p3⟩
end Go.Proofs.YtgcamjgnfeajiaaDoor


/-
  Texts of one proof, laid together: A2 A3 A4 A5 Lz Qi Qj ShU N1 ShUa N1b.
-/
import Derived.Test.YtghmbpmaafnodaaGreatDoorMP
import Derived.Test.YtghmbpmaafnodaaGreatDoorMO
import Derived.Test.YtghmbpmaafnodaaGreatDoorMD
import Derived.Test.YtghmbpmaafnodaaGreatDoorMK
import Derived.Test.YtghmbpmaafnodaaGreatDoorMN
import Derived.Test.YtghmbpmaafnodaaGreatDoorMH
set_option linter.unusedVariables false
set_option linter.unusedSimpArgs false
namespace Go.Proofs.YtghmbpmaafnodaaGreatDoor.Lp
open Go.Ev
theorem ib_spec {H : AHeap} (s : Bs) (c : UInt8) : evw P orc 66 [.str s, .int .u8 c.toNat] H = some (.int .i64 (Lib.indexByte s c), H) := by
 refine evw_orc ?_
 show some (AV.int .i64 (Lib.indexByte s (Int.toNat (c.toNat : Int)).toUInt8), H) = _
 have : (Int.toNat (c.toNat : Int)).toUInt8 = c := by simp
 rw [this]
theorem ib10 {H : AHeap} (s : Bs) : evw P orc 66 [.str s, .int .u8 10] H = some (.int .i64 (Lib.indexByte s 10), H) := ib_spec s 10
theorem blank_ib (c : UInt8) : decide (0 ≤ Lib.indexByte [32, 9, 10, 13] c) = isBlank c := by
 have h : ∀ n : Fin 256, decide (0 ≤ Lib.indexByte [32, 9, 10, 13] (UInt8.ofNat n.val)) = isBlank (UInt8.ofNat n.val) := by decide +kernel
 have := h ⟨c.toNat, c.toNat_lt⟩
 simpa using this
theorem ib_lt (s : Bs) : Lib.indexByte s 10 = -1 ∨ ∃ n : Nat, Lib.indexByte s 10 = n ∧ n < s.length := by
 induction s with
 | nil => exact .inl rfl
 | cons b l ih =>
  rw [Lib.indexByte]
  split
  ·exact .inr ⟨0, rfl, by simp⟩
  ·split
   ·exact .inl rfl
   ·rename_i h
    rcases ih with ih | ⟨n, e, hn⟩
    ·rw [ih] at h; exact absurd rfl h
    ·exact .inr ⟨n + 1, by omega, by simpa using hn⟩
theorem blank_true : ∀ (s : Bs), (Lib.indexByte s 10 = -1 → blankN true s = s.length) ∧ ∀ n : Nat, Lib.indexByte s 10 = n → blankN true s = n + blankN false (s.drop n)
 | [] => ⟨fun _ => rfl, fun n h => by simp [Lib.indexByte] at h⟩
 | b :: l => by
  obtain ⟨ih1, ih2⟩ := blank_true l
  rw [Lib.indexByte, blankN]
  by_cases hb : b = 10
  ·subst hb
   simp only [beq_self_eq_true, if_true]
   refine ⟨fun h => by omega, fun n h => ?_⟩
   obtain rfl : n = 0 := by omega
   have h1 : (UInt8.toNat 10 == 10) = true := rfl
   have h2 : isBlank 10 = true := rfl
   rw [List.drop_zero, blankN, h1, h2]
   simp
  ·have h1 : (b == 10) = false := by simpa using hb
   have h2 : (b.toNat == 10) = false := by
    have : b.toNat ≠ 10 := fun e => hb (UInt8.toNat_inj.1 (by rw [e]; rfl))
    simpa using this
   rw [h1, h2]
   simp only [Bool.false_eq_true, if_false, cond_false]
   rcases ib_lt l with h | ⟨k, h, hk⟩
   ·rw [h]
    simp only [beq_self_eq_true, if_true]
    refine ⟨fun _ => ?_, fun n e => ?_⟩
    ·rw [ih1 h, List.length_cons]
    ·exfalso; omega
   ·rw [h]
    have h3 : ((k : Int) == -1) = false := by simp
    rw [h3]
    simp only [Bool.false_eq_true, if_false]
    refine ⟨fun e => by omega, fun n e => ?_⟩
    obtain rfl : n = k + 1 := by omega
    rw [ih2 k h, List.drop_succ_cons]
    omega
theorem pre2 (c : UInt8) (r : Bs) : preB (c :: r) [47, 47] = (c == 47 && r.head? == some 47) := by
 cases r with
 | nil => simp [preB]
 | cons d q =>
  simp only [preB, List.length_cons, List.length_nil, List.take_succ_cons, List.take_zero, List.head?_cons]
  cases h1 : c == 47 <;> cases h2 : d == 47 <;> simp_all
theorem sl9_from {s : Bs} {a : Nat} (h : a ≤ s.length) : aslice P 9 (.str s) (some (.int .i64 (a : Int))) none none = some (.str (s.drop a)) := by
 have e2 : abound (some (.int .i64 (a : Int))) 0 s.length = some a := by simp [abound]; omega
 have e1 : abound none s.length s.length = some s.length := rfl
 simp only [aslice, une9, e1, e2]
 rw [List.take_of_length_le (by simp)]
theorem sl9_to {s : Bs} {b : Nat} (h : b ≤ s.length) : aslice P 9 (.str s) none (some (.int .i64 (b : Int))) none = some (.str (s.take b)) := by
 have e1 : abound (some (.int .i64 (b : Int))) s.length s.length = some b := by simp [abound]; omega
 have e2 : abound none 0 b = some 0 := rfl
 simp only [aslice, une9, e1, e2, List.drop_zero, Nat.sub_zero]
theorem passed_loop {H : AHeap} {s : Bs} (hs : s.length ≤ 1000000000000000000) (N : Nat) : ∀ (m : Nat) (rest : Bs) (at_ : Nat), s.drop at_ = rest → at_ ≤ s.length → rest.length < m →
  W (s46_l1 (evw P orc) N m (.str s) (.int .i64 at_) H) fun v H' => v = .int .i64 ((at_ + blankN false rest : Nat) : Int) ∧ H' = H
 | 0, _, _, _, _, hm => by omega
 | m + 1, [], at_, h, ha, hm => by
  have := drop_nil h
  have h1 : ¬ ((at_ : Int) < (s.length : Int)) := by omega
  simp -implicitDefEqProofs (disch := first | assumption | omega | (simp only [nxB]; omega) | (simp only [oneB])) only [s46_l1, s46_j0, s46_b1, s46, xlen, AV.cells, splice, aload, astore, Nat.reduceAdd, Nat.reduceLeDiff, reduceIte, allB, h1, decide_false]
  exact W_some.2 ⟨by simp [blankN], rfl⟩
 | m + 1, c :: r, at_, h, ha, hm => by
  obtain ⟨e1, e2, e3, e4⟩ := drop_cons h
  have h1 : ((at_ : Int) < (s.length : Int)) := by omega
  have e1' := jx9 e1
  have hsl := sl9_from (s := s) (a := at_) (by omega)
  rw [h] at hsl
  have hib := blank_ib c
  rw [blankN]
  simp only [List.length_cons] at hm
  simp -implicitDefEqProofs (disch := first | assumption | omega | (simp only [nxB]; omega) | (simp only [oneB])) only [s46_l1, s46_j0, s46_b1, s46, xlen, AV.cells, splice, aload, astore, Nat.reduceAdd, Nat.reduceLeDiff, reduceIte, allB, h1, decide_true, e1', ib_spec, xcall, Nat.le_refl, hib]
  cases hbl : isBlank c with
  | true =>
   simp -implicitDefEqProofs (disch := first | assumption | omega | (simp only [nxB]; omega) | (simp only [oneB])) only [xlen, evB, binB, wn1]
   refine (passed_loop (H := H) hs N m r (at_ + 1) e2 (by omega) (by omega)).mono ?_
   rintro v H' ⟨rfl, rfl⟩
   have e' : at_ + 1 + blankN false r = at_ + (blankN false r + 1) := by omega
   exact ⟨by rw [e'], rfl⟩
  | false =>
   simp -implicitDefEqProofs (disch := first | assumption | omega | (simp only [nxB]; omega) | (simp only [oneB])) only [xlen, evB, hsl]
   refine W_call0 (HasPrefix_spec _ _) ?_
   rw [pre2]
   cases hp : (c == 47 && r.head? == some 47) with
   | false =>
    simp -implicitDefEqProofs (disch := first | assumption | omega | (simp only [nxB]; omega) | (simp only [oneB])) only [xlen, evB]
    exact W_some.2 ⟨by simp, rfl⟩
   | true =>
    have hc : (c :: r).head? = some 47 := by
     have : c = 47 := by have := (Bool.and_eq_true _ _ ▸ hp).1; exact eq_of_beq this
     rw [this]; rfl
    have hbt : blankN true (c :: r) = blankN true r + 1 := by
     have : c = 47 := by simpa using hc
     subst this
     rw [blankN]; rfl
    rw [cond_true, ← hbt]
    obtain ⟨q1, q2⟩ := blank_true (c :: r)
    simp -implicitDefEqProofs (disch := first | assumption | omega | (simp only [nxB]; omega) | (simp only [oneB])) only [xlen, evB, hsl, ib10, xcall, Nat.le_refl, decide_true]
    rcases ib_lt (c :: r) with hi | ⟨n, hi, hn⟩
    ·have hlt : ((-1 : Int) < 0) := by omega
     rw [hi]
     simp -implicitDefEqProofs (disch := first | assumption | omega | (simp only [nxB]; omega) | (simp only [oneB])) only [xlen, AV.cells, splice, aload, astore, Nat.reduceAdd, Nat.reduceLeDiff, reduceIte, allB, hlt, decide_true]
     refine W_some.2 ⟨?_, rfl⟩
     rw [q1 hi]
     have : at_ + (c :: r).length = s.length := by simp only [List.length_cons]; omega
     rw [this]
    ·have hlt : ¬ ((n : Int) < 0) := by omega
     rw [hi]
     have hn0 : 1 ≤ n := by
      rcases Nat.eq_zero_or_pos n with rfl | h'
      ·exfalso
       have : c = 47 := by simpa using hc
       subst this
       rw [Lib.indexByte] at hi
       rw [if_neg (by decide)] at hi
       have := Lib.indexByte_ge r 10
       split at hi
       ·omega
       ·rename_i hx
        have : Lib.indexByte r 10 ≠ -1 := by simpa using hx
        omega
      ·exact h'
     have hdr : s.drop (at_ + n) = (c :: r).drop n := by rw [← List.drop_drop, h]
     simp only [List.length_cons] at hn
     simp -implicitDefEqProofs (disch := first | assumption | omega | (simp only [nxB]; omega) | (simp only [oneB])) only [xlen, AV.cells, splice, aload, astore, Nat.reduceAdd, Nat.reduceLeDiff, reduceIte, allB, hlt, decide_false, wnn]
     refine (passed_loop (H := H) hs N m ((c :: r).drop n) (at_ + n) hdr (by omega) (by simp; omega)).mono ?_
     rintro v H' ⟨rfl, rfl⟩
     rw [q2 n hi, Nat.add_assoc]
     exact ⟨rfl, rfl⟩
theorem passed_spec {H : AHeap} {s : Bs} (hs : s.length ≤ 1000000000000000000) {at_ : Nat} (ha : at_ ≤ s.length) : W (evw P orc 46 [.str s, .int .i64 at_] H) fun v H' => v = .int .i64 ((at_ + blankN false (s.drop at_) : Nat) : Int) ∧ H' = H := by
 refine W_of (fun _ => run46 (s.length + 1)) ?_
 rw [s46]
 exact passed_loop hs (s.length + 1) (s.length + 1) (s.drop at_) at_ rfl ha (by simp; omega)
end Go.Proofs.YtghmbpmaafnodaaGreatDoor.Lp

namespace Go.Proofs.YtghmbpmaafnodaaGreatDoor.Lp
open Go.Ev
theorem pu_more : ∀ (x : Bs) (a : Nat), (∀ c ∈ x, digB c = true) → Lib.parseUint10 a x = .range ∨ ∃ u, Lib.parseUint10 a x = .ok u ∧ a ≤ u
 | [], a, _ => .inr ⟨a, rfl, Nat.le_refl _⟩
 | c :: r, a, h => by
  have hd := h c (by simp)
  simp only [digB, diggI, Bool.and_eq_true, decide_eq_true_eq] at hd
  rw [Lib.parseUint10, if_pos ⟨by omega, by omega⟩]
  split
  ·exact .inl rfl
  ·split
   ·exact .inl rfl
   ·rcases pu_more r (a * 10 + (c.toNat - 48)) (fun d hd => h d (by simp [hd])) with h' | ⟨u, h1, h2⟩
    ·exact .inl h'
    ·exact .inr ⟨u, h1, by omega⟩
theorem pu_whole : ∀ (x : Bs) (a : Nat), (∀ c ∈ x, digB c = true) → a < 9223372036854775808 →
  (∀ v, wholeN a x = some v → ∃ u : Nat, Lib.parseUint10 a x = .ok u ∧ (u : Int) = v ∧ u < 9223372036854775808) ∧ (wholeN a x = none → Lib.parseUint10 a x = .range ∨ ∃ u, Lib.parseUint10 a x = .ok u ∧ 9223372036854775808 ≤ u)
 | [], a, _, ha => ⟨fun v h => by rw [wholeN] at h; cases h; exact ⟨a, rfl, rfl, ha⟩, fun h => by rw [wholeN] at h; cases h⟩
 | c :: r, a, h, ha => by
  have hd := h c (by simp)
  simp only [digB, diggI, Bool.and_eq_true, decide_eq_true_eq] at hd
  have hr : ∀ d ∈ r, digB d = true := fun d hd => h d (by simp [hd])
  have ep : Lib.parseUint10 a (c :: r) = if 1844674407370955162 ≤ a then .range else if 18446744073709551616 ≤ a * 10 + (c.toNat - 48) then .range else Lib.parseUint10 (a * 10 + (c.toNat - 48)) r := by
   rw [Lib.parseUint10, if_pos ⟨by omega, by omega⟩]
  rw [wholeN, ep]
  have e1 : (10 * (a : Int) + ((c.toNat : Int) - 48)) = ((a * 10 + (c.toNat - 48) : Nat) : Int) := by omega
  by_cases hover : (9223372036854775807 - ((c.toNat : Int) - 48)) / 10 < (a : Int)
  ·rw [if_pos hover]
   refine ⟨fun v h => (by cases h), fun _ => ?_⟩
   split
   ·exact .inl rfl
   ·split
    ·exact .inl rfl
    ·rcases pu_more r (a * 10 + (c.toNat - 48)) hr with h' | ⟨u, h1, h2⟩
     ·exact .inl h'
     ·exact .inr ⟨u, h1, by omega⟩
  ·rw [if_neg hover, if_neg (by omega), if_neg (by omega), e1]
   exact pu_whole r (a * 10 + (c.toNat - 48)) hr (by omega)
theorem atoi_dig {c : UInt8} {r : Bs} (h : ∀ d ∈ c :: r, digB d = true) : (∀ v, wholeN 0 (c :: r) = some v → Lib.atoiAll (c :: r) = .ok v) ∧ (wholeN 0 (c :: r) = none → Lib.atoiAll (c :: r) = .range) := by
 have hd := h c (by simp)
 simp only [digB, diggI, Bool.and_eq_true, decide_eq_true_eq] at hd
 have h43 : ¬ c.toNat = 43 := by omega
 have h45 : ¬ c.toNat = 45 := by omega
 obtain ⟨q1, q2⟩ := pu_whole (c :: r) 0 h (by omega)
 have e0 : ((0 : Nat) : Int) = 0 := rfl
 rw [e0] at q1 q2
 have hm : Lib.parseMag (c :: r) = Lib.parseUint10 0 (c :: r) := by rw [Lib.parseMag, if_neg (by simp)]
 constructor
 ·intro v hv
  obtain ⟨u, h1, h2, h3⟩ := q1 v hv
  have h3' : ¬ (9223372036854775808 ≤ u) := by omega
  simp only [Lib.atoiAll, h43, h45, or_self, if_false, hm, h1, h3', not_false_eq_true, true_and, false_and, and_false]
  rw [h2]
 ·intro hv
  rcases q2 hv with h1 | ⟨u, h1, h2⟩
  ·simp only [Lib.atoiAll, h43, h45, or_self, if_false, hm, h1]
  ·simp only [Lib.atoiAll, h43, h45, or_self, if_false, hm, h1, h45, not_false_eq_true, true_and]
   rw [if_pos h2]
theorem atoi_ok {H : AHeap} (hg : Gl H) {s : Bs} (hs : s.length ≤ 281474976710656) {v : Int} (h : Lib.atoiAll s = .ok v) : evw P orc 99 [.str s] H = some (.tuple [.int .i64 v, .nilIface], H) := by
 refine evw_orc ?_
 refine (if_pos ⟨hs, hg.err⟩).trans ?_
 rw [h]
theorem atoi_range {H : AHeap} (hg : Gl H) {s : Bs} (hs : s.length ≤ 281474976710656) (h : Lib.atoiAll s = .range) : evw P orc 99 [.str s] H = some (.tuple [.int .i64 (Lib.atoiSat s), .iface 152 (.ptr H.next 0 0)], H.push .dead) := by
 refine evw_orc ?_
 refine (if_pos ⟨hs, hg.err⟩).trans ?_
 rw [h]
theorem ne57n : fbin P .neq 126 true .nilIface .nilIface = some (.bool false) := by kernel_rfl
theorem ne57i (l : Nat) : fbin P .neq 126 true (.iface 152 (.ptr l 0 0)) .nilIface = some (.bool true) := by kernel_rfl
theorem run_digs : ∀ (s : Bs), ∀ c ∈ s.take (runN true s), digB c = true
 | [], c, h => by simp [runN] at h
 | b :: r, c, h => by
  rw [runN] at h
  cases hb : digB b with
  | false => rw [hb] at h; simp at h
  | true =>
   rw [hb] at h
   simp only [Bool.true_or, cond_true, List.take_succ_cons, List.mem_cons] at h
   rcases h with rfl | h
   ·exact hb
   ·exact run_digs r c h
theorem bd34lw (k : Int) (x : Bs) : abuild P 57 [(0, .int .i64 k), (1, .str x)] = some (.agg [.int .i64 k, .str x, .int .i64 0, .int .i64 0]) := by kernel_rfl
theorem bd34ln (k : Int) (z : Int) : abuild P 57 [(0, .int .i64 k), (2, .int .i64 z)] = some (.agg [.int .i64 k, .str [], .int .i64 z, .int .i64 0]) := by kernel_rfl
def numN (s : Bs) : Option (Int × Bs × Int × Nat) := match wholeN 0 (s.take (runN true s)) with
 | none => none
 | some v => bif (decide (1 < runN true s) && (s.headD 0).toNat == 48) || (decide (runN true s < s.length) && letB ((s[runN true s]?).getD 0)) then none else some (2, [], v, runN true s)
theorem number_spec {H : AHeap} (hg : Gl H) {s : Bs} (hs : s.length ≤ 281474976710656) {c : UInt8} {r : Bs} (hc : s = c :: r) (hd : digB c = true) : W (evw P orc 71 [.str s] H) fun v H' => v = oneV 0 (numN s) ∧ Pur H H' := by
 refine W_of (fun _ => run71 0) ?_
 have hg1 : Gl (H.push (.row false 4 [[.int .i64 0, .str [], .int .i64 0, .int .i64 0]])) := hg.pur (Pur.push _ _)
 have hle := runN_le true s
 have hpos : 1 ≤ runN true s := by rw [hc]; exact runN_pos true c r (by simp [hd])
 have hsl := sl9_to (s := s) (b := runN true s) hle
 have hz : s[0]? = some c := by rw [hc]; rfl
 have e0 := jx9_0 hz
 have hdig := run_digs s
 have hhd : s.headD 0 = c := by rw [hc]; rfl
 obtain ⟨r', hr'⟩ : ∃ r', s.take (runN true s) = c :: r' := by
  rw [hc] at hpos ⊢
  obtain ⟨k, hk⟩ : ∃ k, runN true (c :: r) = k + 1 := ⟨runN true (c :: r) - 1, by omega⟩
  rw [hk]
  exact ⟨_, rfl⟩
 rw [hr'] at hdig
 obtain ⟨q1, q2⟩ := atoi_dig hdig
 have hlt : (s.take (runN true s)).length ≤ 281474976710656 := by simp; omega
 simp -implicitDefEqProofs (disch := first | assumption | omega | (simp only [nxB]; omega) | (simp only [oneB])) only [s71, xlen, AV.cells, splice, aload, astore, Nat.reduceAdd, Nat.reduceLeDiff, reduceIte, allB]
 refine W_call0 (lrun_spec (s := s) (by omega) true) ?_
 generalize hH1 : H.push (.row false 4 [[.int .i64 0, .str [], .int .i64 0, .int .i64 0]]) = H1 at hg1 ⊢
 have p1 : Pur (H.push (.row false 4 [[.int .i64 0, .str [], .int .i64 0, .int .i64 0]])) H1 := by rw [hH1]; exact .refl _
 have g1 : H1.get H.next = some (.row false 4 [[.int .i64 0, .str [], .int .i64 0, .int .i64 0]]) := p1.get (AHeap.get_push_same _ _)
 have gl1 := AHeap.get_lt g1
 have pfin : ∀ b, Pur H (H1.set H.next b) := fun b => ((Pur.push _ _).trans p1).then_set (Nat.le_refl _) b
 cases hv : wholeN 0 (s.take (runN true s)) with
 | none =>
  have ha := atoi_range hg1 hlt (by rw [hr'] at hv ⊢; exact q2 hv)
  simp -implicitDefEqProofs (disch := first | assumption | omega | (simp only [nxB]; omega) | (simp only [oneB])) only [xlen, AV.cells, splice, aload, astore, Nat.reduceAdd, Nat.reduceLeDiff, reduceIte, allB, hsl, ha, xcall, Nat.le_succ, decide_true, ne57i, g1]
  have hN : numN s = none := by unfold numN; rw [hv]
  exact W_some.2 ⟨by rw [hN]; rfl, (((Pur.push _ _).trans p1).then_push _).then_set (Nat.le_refl _) _⟩
 | some v =>
  have ha := atoi_ok hg1 hlt (by rw [hr'] at hv ⊢; exact q1 v hv)
  simp -implicitDefEqProofs (disch := first | assumption | omega | (simp only [nxB]; omega) | (simp only [oneB])) only [xlen, AV.cells, splice, aload, astore, Nat.reduceAdd, Nat.reduceLeDiff, reduceIte, allB, hsl, ha, xcall, Nat.le_refl, decide_true, ne57n]
  have hn1 : decide ((1 : Int) < ((runN true s : Nat) : Int)) = decide (1 < runN true s) := by
   by_cases h : 1 < runN true s <;> simp [h] <;> omega
  have hn2 : decide (((runN true s : Nat) : Int) < (s.length : Int)) = decide (runN true s < s.length) := by
   by_cases h : runN true s < s.length <;> simp [h] <;> omega
  have h48 : (((c.toNat : Nat) : Int) == 48) = (c.toNat == 48) := by
   cases h : c.toNat == 48 with
   | true => have : c.toNat = 48 := eq_of_beq h; rw [this]; rfl
   | false =>
    have : c.toNat ≠ 48 := by simpa using h
    simp; omega
  have bad : ((decide (1 < runN true s) && (c.toNat == 48)) || (decide (runN true s < s.length) && letB ((s[runN true s]?).getD 0))) = true → numN s = none := by
   intro hx
   unfold numN; rw [hv]; simp only [hhd, hx, cond_true]
  have good : ((decide (1 < runN true s) && (c.toNat == 48)) || (decide (runN true s < s.length) && letB ((s[runN true s]?).getD 0))) = false → numN s = some (2, [], v, runN true s) := by
   intro hx
   unfold numN; rw [hv]; simp only [hhd, hx, cond_false]
  have hcase : (decide (1 < runN true s) = true ∧ (c.toNat == 48) = true) ∨ (decide (1 < runN true s) = true ∧ (c.toNat == 48) = false) ∨ decide (1 < runN true s) = false := by
   cases decide (1 < runN true s) <;> cases c.toNat == 48 <;> simp
  rcases hcase with ⟨b2, b3⟩ | ⟨b2, b3⟩ | b2
  ·simp -implicitDefEqProofs (disch := first | assumption | omega | (simp only [nxB]; omega) | (simp only [oneB])) only [xlen, AV.cells, splice, aload, astore, Nat.reduceAdd, Nat.reduceLeDiff, reduceIte, allB, hn1, b2, e0, h48, b3, g1]
   exact W_some.2 ⟨by rw [bad (by rw [b2, b3]; rfl)]; rfl, pfin _⟩
  ·rw [b2, b3] at bad good
   simp -implicitDefEqProofs (disch := first | assumption | omega | (simp only [nxB]; omega) | (simp only [oneB])) only [xlen, AV.cells, splice, aload, astore, Nat.reduceAdd, Nat.reduceLeDiff, reduceIte, allB, hn1, b2, e0, h48, b3, hn2]
   cases b4 : decide (runN true s < s.length) with
   | false =>
    rw [b4] at good
    simp -implicitDefEqProofs (disch := first | assumption | omega | (simp only [nxB]; omega) | (simp only [oneB])) only [xlen, AV.cells, splice, aload, astore, Nat.reduceAdd, Nat.reduceLeDiff, reduceIte, allB, bd34ln, g1]
    exact W_some.2 ⟨by rw [good rfl]; rfl, pfin _⟩
   | true =>
    rw [b4] at bad good
    have hlt4 : runN true s < s.length := of_decide_eq_true b4
    obtain ⟨d, e5⟩ : ∃ d, s[runN true s]? = some d := ⟨_, List.getElem?_eq_getElem hlt4⟩
    have e5' := jx9 e5
    rw [e5] at bad good
    simp -implicitDefEqProofs (disch := first | assumption | omega | (simp only [nxB]; omega) | (simp only [oneB])) only [xlen, AV.cells, splice, aload, astore, Nat.reduceAdd, Nat.reduceLeDiff, reduceIte, allB, e5']
    refine W_eff0 (isLetter_spec _) ?_
    have hh : letB ((some d).getD 0) = lettI (d.toNat : Int) := rfl
    rw [hh] at bad good
    cases h6 : lettI (d.toNat : Int) with
    | true =>
     rw [h6] at bad
     simp -implicitDefEqProofs (disch := first | assumption | omega | (simp only [nxB]; omega) | (simp only [oneB])) only [xlen, AV.cells, splice, aload, astore, Nat.reduceAdd, Nat.reduceLeDiff, reduceIte, allB, g1]
     exact W_some.2 ⟨by rw [bad rfl]; rfl, pfin _⟩
    | false =>
     rw [h6] at good
     simp -implicitDefEqProofs (disch := first | assumption | omega | (simp only [nxB]; omega) | (simp only [oneB])) only [xlen, AV.cells, splice, aload, astore, Nat.reduceAdd, Nat.reduceLeDiff, reduceIte, allB, bd34ln, g1]
     exact W_some.2 ⟨by rw [good rfl]; rfl, pfin _⟩
  ·rw [b2] at bad good
   simp -implicitDefEqProofs (disch := first | assumption | omega | (simp only [nxB]; omega) | (simp only [oneB])) only [xlen, AV.cells, splice, aload, astore, Nat.reduceAdd, Nat.reduceLeDiff, reduceIte, allB, hn1, b2, e0, h48, hn2]
   cases b4 : decide (runN true s < s.length) with
   | false =>
    rw [b4] at good
    simp -implicitDefEqProofs (disch := first | assumption | omega | (simp only [nxB]; omega) | (simp only [oneB])) only [xlen, AV.cells, splice, aload, astore, Nat.reduceAdd, Nat.reduceLeDiff, reduceIte, allB, bd34ln, g1]
    exact W_some.2 ⟨by rw [good rfl]; rfl, pfin _⟩
   | true =>
    rw [b4] at bad good
    have hlt4 : runN true s < s.length := of_decide_eq_true b4
    obtain ⟨d, e5⟩ : ∃ d, s[runN true s]? = some d := ⟨_, List.getElem?_eq_getElem hlt4⟩
    have e5' := jx9 e5
    rw [e5] at bad good
    simp -implicitDefEqProofs (disch := first | assumption | omega | (simp only [nxB]; omega) | (simp only [oneB])) only [xlen, AV.cells, splice, aload, astore, Nat.reduceAdd, Nat.reduceLeDiff, reduceIte, allB, e5']
    refine W_eff0 (isLetter_spec _) ?_
    have hh : letB ((some d).getD 0) = lettI (d.toNat : Int) := rfl
    rw [hh] at bad good
    cases h6 : lettI (d.toNat : Int) with
    | true =>
     rw [h6] at bad
     simp -implicitDefEqProofs (disch := first | assumption | omega | (simp only [nxB]; omega) | (simp only [oneB])) only [xlen, AV.cells, splice, aload, astore, Nat.reduceAdd, Nat.reduceLeDiff, reduceIte, allB, g1]
     exact W_some.2 ⟨by rw [bad rfl]; rfl, pfin _⟩
    | false =>
     rw [h6] at good
     simp -implicitDefEqProofs (disch := first | assumption | omega | (simp only [nxB]; omega) | (simp only [oneB])) only [xlen, AV.cells, splice, aload, astore, Nat.reduceAdd, Nat.reduceLeDiff, reduceIte, allB, bd34ln, g1]
     exact W_some.2 ⟨by rw [good rfl]; rfl, pfin _⟩
end Go.Proofs.YtghmbpmaafnodaaGreatDoor.Lp

namespace Go.Proofs.YtghmbpmaafnodaaGreatDoor.Lp
open Go.Ev
def namedN (s : Bs) : Option (Int × Bs × Int × Nat) := bif wordB (s.take (runN false s)) then some (3, s.take (runN false s), 0, runN false s) else bif nameB (s.take (runN false s)) then some (1, s.take (runN false s), 0, runN false s) else none
theorem named_spec {H : AHeap} (hg : Gl H) {s : Bs} (hs : s.length ≤ 281474976710656) : W (evw P orc 69 [.str s] H) fun v H' => v = oneV 0 (namedN s) ∧ Pur H H' := by
 refine W_of (fun _ => run69 0) ?_
 have hg1 : Gl (H.push (.row false 4 [[.int .i64 0, .str [], .int .i64 0, .int .i64 0]])) := hg.pur (Pur.push _ _)
 have hle := runN_le false s
 have hsl := sl9_to (s := s) (b := runN false s) hle
 have hlt : (s.take (runN false s)).length ≤ 1000000000000000000 := by simp; omega
 simp -implicitDefEqProofs (disch := first | assumption | omega | (simp only [nxB]; omega) | (simp only [oneB])) only [s69, xlen, AV.cells, splice, aload, astore, Nat.reduceAdd, Nat.reduceLeDiff, reduceIte, allB]
 refine W_call0 (lrun_spec (s := s) (by omega) false) ?_
 simp -implicitDefEqProofs (disch := first | assumption | omega | (simp only [nxB]; omega) | (simp only [oneB])) only [xlen, AV.cells, splice, aload, astore, Nat.reduceAdd, Nat.reduceLeDiff, reduceIte, allB, hsl]
 refine W_call (lWord_spec hg1 _) ?_
 rintro _ H2 ⟨rfl, p2⟩
 refine ⟨p2.1, ?_⟩
 have g2 : H2.get H.next = some (.row false 4 [[.int .i64 0, .str [], .int .i64 0, .int .i64 0]]) := p2.get (AHeap.get_push_same _ _)
 have gl2 := AHeap.get_lt g2
 have pf2 : ∀ b, Pur H (H2.set H.next b) := fun b => ((Pur.push _ _).trans p2).then_set (Nat.le_refl _) b
 cases hw : wordB (s.take (runN false s)) with
 | true =>
  simp -implicitDefEqProofs (disch := first | assumption | omega | (simp only [nxB]; omega) | (simp only [oneB])) only [xlen, AV.cells, splice, aload, astore, Nat.reduceAdd, Nat.reduceLeDiff, reduceIte, allB, bd34lw, g2]
  exact W_some.2 ⟨by rw [namedN, hw]; rfl, pf2 _⟩
 | false =>
  simp -implicitDefEqProofs (disch := first | assumption | omega | (simp only [nxB]; omega) | (simp only [oneB])) only [xlen, evB]
  refine W_call (lName_spec (hg1.pur p2) hlt) ?_
  rintro _ H3 ⟨rfl, p3⟩
  refine ⟨p3.1, ?_⟩
  have g3 := p3.get g2
  have gl3 := AHeap.get_lt g3
  have pf3 : ∀ b, Pur H (H3.set H.next b) := fun b => (((Pur.push _ _).trans p2).trans p3).then_set (Nat.le_refl _) b
  cases hn : nameB (s.take (runN false s)) with
  | true =>
   simp -implicitDefEqProofs (disch := first | assumption | omega | (simp only [nxB]; omega) | (simp only [oneB])) only [xlen, AV.cells, splice, aload, astore, Nat.reduceAdd, Nat.reduceLeDiff, reduceIte, allB, bd34lw, g3]
   exact W_some.2 ⟨by rw [namedN, hw, hn]; rfl, pf3 _⟩
  | false =>
   simp -implicitDefEqProofs (disch := first | assumption | omega | (simp only [nxB]; omega) | (simp only [oneB])) only [xlen, AV.cells, splice, aload, astore, Nat.reduceAdd, Nat.reduceLeDiff, reduceIte, allB, g3]
   exact W_some.2 ⟨by rw [namedN, hw, hn]; rfl, pf3 _⟩
def firstN (s : Bs) : List Bs → Option (Int × Bs × Int × Nat)
 | [] => none
 | y :: ys => bif preB s y then some (4, y, 0, y.length) else firstN s ys
theorem first_app (s : Bs) : ∀ (l m : List Bs), firstN s (l ++ m) = (firstN s l).or (firstN s m)
 | [], m => rfl
 | y :: ys, m => by
  rw [List.cons_append, firstN, firstN, first_app s ys m]
  cases preB s y <;> rfl
theorem first_two (s : Bs) : ∀ (l : List Bs), (∀ y ∈ l, y.length = 2) → firstN s l = bif decide (2 ≤ s.length) && memB (s.take 2) l then some (4, s.take 2, 0, 2) else none
 | [], _ => by simp [firstN, memB]
 | y :: ys, h => by
  have hy := h y (by simp)
  rw [firstN, memB, first_two s ys fun z hz => h z (by simp [hz]), preB, hy]
  cases h2 : decide (2 ≤ s.length) with
  | false => simp
  | true =>
   have hc : (s.take 2 == y) = (y == s.take 2) := by
    cases h' : y == s.take 2 with
    | true => rw [← eq_of_beq h']; simp
    | false =>
     have : y ≠ s.take 2 := by simpa using h'
     simpa using fun e : s.take 2 = y => this e.symm
   rw [hc]
   cases h3 : y == s.take 2 with
   | true => rw [← eq_of_beq h3]; simp
   | false => simp
theorem first_one (c : UInt8) (r : Bs) : ∀ (l : Bs), firstN (c :: r) (l.map fun y => [y]) = bif memC c l then some (4, [c], 0, 1) else none
 | [] => rfl
 | y :: ys => by
  rw [List.map_cons, firstN, memC, first_one c r ys]
  have hp : preB (c :: r) [y] = (c.toNat == y.toNat) := by
   simp only [preB, List.length_cons, List.length_nil, List.take_succ_cons, List.take_zero]
   cases h : c.toNat == y.toNat with
   | true =>
    have : c = y := UInt8.toNat_inj.1 (eq_of_beq h)
    simp [this]
   | false =>
    have : c ≠ y := by rintro rfl; simp at h
    simp [this]
  rw [hp]
  cases h : c.toNat == y.toNat with
  | true =>
   have : c = y := UInt8.toNat_inj.1 (eq_of_beq h)
   simp [this]
  | false => simp
theorem signs_first (c : UInt8) (r : Bs) : firstN (c :: r) signsL = bif signN (c :: r) == [] then none else some (4, signN (c :: r), 0, (signN (c :: r)).length) := by
 have e : signsL = twosL ++ onesL.map fun y => [y] := rfl
 rw [e, first_app, first_two _ twosL (by decide), first_one]
 unfold signN
 cases h : decide (2 ≤ (c :: r).length) && memB ((c :: r).take 2) twosL with
 | true =>
  have h2 : 2 ≤ (c :: r).length := of_decide_eq_true ((Bool.and_eq_true _ _).mp h).1
  cases r with
  | nil => simp at h2
  | cons d q => rfl
 | false =>
  cases hm : memC c onesL <;> simp [hm]
theorem sign_loop {H0 H : AHeap} {s : Bs} {L : Nat} (N : Nat) (all : List Bs) (hA : all.length ≤ 1000) (hg : H.get L = some (.row false 1 (all.map fun y => [AV.str y]))) (hx : H.get H0.next = some (.row false 4 [[.int .i64 0, .str [], .int .i64 0, .int .i64 0]])) (pf : ∀ b, Pur H0 (H.set H0.next b)) :
  ∀ (rest pre : List Bs), all = pre ++ rest → ∀ (m : Nat), rest.length < m →
  W (s47_l1 (evw P orc) N m (.str s) (.ptr H0.next 0 0) (.sl L 0 all.length 1 (some all.length)) (.int .i64 all.length) (.int .i64 pre.length) H) fun v H' => v = oneV 0 (firstN s rest) ∧ Pur H0 H'
 | _, _, _, 0, hm => by omega
 | [], pre, hp, m + 1, hm => by
  have h1 : ¬ ((pre.length : Int) < (all.length : Int)) := by rw [hp]; simp
  have gl := AHeap.get_lt hx
  simp -implicitDefEqProofs (disch := first | assumption | omega | (simp only [nxB]; omega) | (simp only [oneB])) only [s47_l1, s47_j0, s47_b1, s47, xlen, AV.cells, splice, aload, astore, Nat.reduceAdd, Nat.reduceLeDiff, reduceIte, allB, h1, decide_false, hx]
  exact W_some.2 ⟨rfl, pf _⟩
 | y :: ys, pre, hp, m + 1, hm => by
  have h1 : ((pre.length : Int) < (all.length : Int)) := by rw [hp]; simp; omega
  have h0 : (0 : Int) ≤ (pre.length : Int) := by omega
  have e1 : ((pre.length : Int)).toNat = pre.length := by omega
  have hle : pre.length < all.length := by omega
  have he : (all.map fun y => [AV.str y])[pre.length]? = some [AV.str y] := by rw [hp]; simp
  have hw : ((pre ++ [y]).length : Int) = ((pre.length + 1 : Nat) : Int) := by simp
  have gl := AHeap.get_lt hx
  simp -implicitDefEqProofs (disch := first | assumption | omega | (simp only [nxB]; omega) | (simp only [oneB])) only [s47_l1, s47_j0, s47_b1, s47, xlen, AV.cells, splice, aload, astore, Nat.reduceAdd, Nat.reduceLeDiff, reduceIte, allB, h1, decide_true, hg, e1, he]
  refine W_call0 (HasPrefix_spec s y) ?_
  cases hc : preB s y with
  | true =>
   simp -implicitDefEqProofs (disch := first | assumption | omega | (simp only [nxB]; omega) | (simp only [oneB])) only [xlen, AV.cells, splice, aload, astore, Nat.reduceAdd, Nat.reduceLeDiff, reduceIte, allB, bd34lw, hx]
   exact W_some.2 ⟨by rw [firstN, hc]; rfl, pf _⟩
  | false =>
   have ih := sign_loop (s := s) N all hA hg hx pf ys (pre ++ [y]) (by simp [hp]) m (by simp at hm; omega)
   rw [hw] at ih
   simp -implicitDefEqProofs (disch := first | assumption | omega | (simp only [nxB]; omega) | (simp only [oneB])) only [xlen, evB, binB, wn1]
   refine ih.mono ?_
   rintro v H' ⟨rfl, p⟩
   exact ⟨by rw [firstN, hc]; rfl, p⟩
theorem lone_spec {H : AHeap} (hg : Gl H) {s : Bs} (hs : s.length ≤ 281474976710656) {c : UInt8} {r : Bs} (hc : s = c :: r) : W (evw P orc 47 [.str s] H) fun v H' => v = oneV 0 (oneN s) ∧ Pur H H' := by
 refine W_of (fun _ => run47 24) ?_
 have hg1 : Gl (H.push (.row false 4 [[.int .i64 0, .str [], .int .i64 0, .int .i64 0]])) := hg.pur (Pur.push _ _)
 have e0 := jx9_0 (s := s) (b := c) (by rw [hc]; rfl)
 have hl' : letB c = lettI (c.toNat : Int) := rfl
 have hd' : digB c = diggI (c.toNat : Int) := rfl
 have put : ∀ {H2 : AHeap} (x : Option (Int × Bs × Int × Nat)), Pur (H.push (.row false 4 [[.int .i64 0, .str [], .int .i64 0, .int .i64 0]])) H2 → ∃ a b cc m, oneV 0 x = .tuple [.agg [.int .i64 a, .str b, .int .i64 cc, .int .i64 0], .int .i64 m] := fun x _ => by
  cases x with
  | none => exact ⟨0, [], 0, 0, rfl⟩
  | some q => exact ⟨q.1, q.2.1, q.2.2.1, q.2.2.2, rfl⟩
 simp -implicitDefEqProofs (disch := first | assumption | omega | (simp only [nxB]; omega) | (simp only [oneB])) only [s47_j0, s47_b1, s47, xlen, AV.cells, splice, aload, astore, Nat.reduceAdd, Nat.reduceLeDiff, reduceIte, allB, e0]
 refine W_call0 (isLetter_spec _) ?_
 cases hl : lettI (c.toNat : Int) with
 | true =>
  have ho : oneN s = namedN s := by rw [hc, oneN, hl', hl]; rfl
  rw [ho]
  simp -implicitDefEqProofs (disch := first | assumption | omega | (simp only [nxB]; omega) | (simp only [oneB])) only [xlen, evB]
  refine W_call (named_spec hg1 hs) ?_
  rintro _ H2 ⟨rfl, p2⟩
  refine ⟨p2.1, ?_⟩
  have g2 := p2.get (AHeap.get_push_same H (.row false 4 [[.int .i64 0, .str [], .int .i64 0, .int .i64 0]]))
  have gl2 := AHeap.get_lt g2
  obtain ⟨a, b, cc, m, hx⟩ := put (namedN s) p2
  rw [hx]
  simp -implicitDefEqProofs (disch := first | assumption | omega | (simp only [nxB]; omega) | (simp only [oneB])) only [xlen, AV.cells, splice, aload, astore, Nat.reduceAdd, Nat.reduceLeDiff, reduceIte, allB, g2]
  exact W_some.2 ⟨rfl, ((Pur.push _ _).trans p2).then_set (Nat.le_refl _) _⟩
 | false =>
  simp -implicitDefEqProofs (disch := first | assumption | omega | (simp only [nxB]; omega) | (simp only [oneB])) only [xlen, evB, e0]
  refine W_call0 (isDigit_spec _) ?_
  cases hd : diggI (c.toNat : Int) with
  | true =>
   have ho : oneN s = numN s := by
    rw [hc, oneN, hl', hl, hd', hd]
    rfl
   rw [ho]
   simp -implicitDefEqProofs (disch := first | assumption | omega | (simp only [nxB]; omega) | (simp only [oneB])) only [xlen, evB]
   refine W_call (number_spec hg1 hs hc (by rw [hd', hd])) ?_
   rintro _ H2 ⟨rfl, p2⟩
   refine ⟨p2.1, ?_⟩
   have g2 := p2.get (AHeap.get_push_same H (.row false 4 [[.int .i64 0, .str [], .int .i64 0, .int .i64 0]]))
   have gl2 := AHeap.get_lt g2
   obtain ⟨a, b, cc, m, hx⟩ := put (numN s) p2
   rw [hx]
   simp -implicitDefEqProofs (disch := first | assumption | omega | (simp only [nxB]; omega) | (simp only [oneB])) only [xlen, AV.cells, splice, aload, astore, Nat.reduceAdd, Nat.reduceLeDiff, reduceIte, allB, g2]
   exact W_some.2 ⟨rfl, ((Pur.push _ _).trans p2).then_set (Nat.le_refl _) _⟩
  | false =>
   have ho : oneN s = firstN s signsL := by
    rw [hc, signs_first, oneN, hl', hl, hd', hd]
    rfl
   rw [ho]
   simp -implicitDefEqProofs (disch := first | assumption | omega | (simp only [nxB]; omega) | (simp only [oneB])) only [xlen, evB]
   refine W_call (lsigns_spec hg1) ?_
   rintro _ _ ⟨rfl, rfl⟩
   refine ⟨(Pur.push _ _).1, ?_⟩
   simp -implicitDefEqProofs (disch := first | assumption | omega | (simp only [nxB]; omega) | (simp only [oneB])) only [xlen, tabB, xlen, evB]
   refine sign_loop (H0 := H) 24 signsL (by decide) (AHeap.get_push_same _ _) ?_ (fun b => ((Pur.push _ _).then_push _).then_set (Nat.le_refl _) b) signsL [] rfl 24 (by decide)
   simp -implicitDefEqProofs (disch := first | assumption | omega | (simp only [nxB]; omega) | (simp only [oneB])) only [heapB]
end Go.Proofs.YtghmbpmaafnodaaGreatDoor.Lp

namespace Go.Proofs.YtghmbpmaafnodaaGreatDoor.Lp
open Go.Ev
theorem ltok_loop {H0 : AHeap} (hg0 : Gl H0) {s : Bs} (hs : s.length ≤ 6000) (N : Nat) : ∀ (n : Nat) (rest : Bs) (at_ m : Nat) (T : List Tok) (v : AV) (H : AHeap), s.drop at_ = rest → at_ ≤ s.length → Bld (H0.push (.row false 2 [[.int .i64 0, .int .i64 0]])) H v T → Pur (H0.push (.row false 2 [[.int .i64 0, .int .i64 0]])) H → T.length ≤ at_ → rest.length < n → rest.length < m →
  W (s16_l1 (evw P orc) N m (.str s) (.ptr H0.next 0 0) v (.int .i64 at_) H) (TokPost H0 (lexR T (lexL n rest at_)))
 | 0, _, _, _, _, _, _, _, _, _, _, _, hn, _ => by omega
 | _, _, _, 0, _, _, _, _, _, _, _, _, _, hm => by omega
 | n + 1, [], at_, m + 1, T, v, H, h, ha, hb, p, hT, hn, hm => by
  have hlen := drop_nil h
  have h1 : ¬ ((at_ : Int) < (s.length : Int)) := by omega
  have hat : s.length = at_ := by omega
  have g : H.get H0.next = some (.row false 2 [[.int .i64 0, .int .i64 0]]) := p.get (AHeap.get_push_same _ _)
  have gl := AHeap.get_lt g
  obtain ⟨v', H', ea, hb', p', hnx, hkeep⟩ := app_tok hb p (by omega) ⟨0, [], 0, s.length⟩
  have hsl := sl22_1 H.next ⟨0, [], 0, s.length⟩
  simp only [Tok.v] at hsl
  simp -implicitDefEqProofs (disch := first | assumption | omega | (simp only [nxB]; omega) | (simp only [oneB])) only [s16_l1, s16_j0, s16_b1, s16, xlen, AV.cells, splice, aload, astore, Nat.reduceAdd, Nat.reduceLeDiff, reduceIte, allB, h1, decide_false, bd57e, hsl, ea, xcall_some]
  have g' : H'.get H0.next = some (.row false 2 [[.int .i64 0, .int .i64 0]]) := by
   rw [hkeep _ gl ?_]; exact g
   intro e he
   rcases hb with ⟨rfl, _⟩ | ⟨l, rfl, hl, _⟩
   ·cases he
   ·cases he; simp only [AHeap.next_push] at hl; omega
  have gl' := AHeap.get_lt g'
  have hrd : rdIs (some (.agg [.int .i64 0, .int .i64 0])) (.agg [.int .i64 0, .int .i64 0]) = true := by simp [rdIs, AV.beq, AVs.beq]
  simp -implicitDefEqProofs (disch := first | assumption | omega | (simp only [nxB]; omega) | (simp only [oneB])) only [s16_j0, s16_b1, s16, xlen, AV.cells, splice, aload, astore, Nat.reduceAdd, Nat.reduceLeDiff, reduceIte, allB, g', hrd]
  have p0 : Pur H0 H' := (Pur.push _ _).trans p'
  have ps : Pur H0 (H'.set H0.next (.row false 2 [[.int .i64 0, .int .i64 0]])) := p0.then_set (Nat.le_refl _) _
  refine W_some.2 ⟨v', rfl, ?_, ps⟩
  rw [lexL]
  simp only [lexR]
  rw [hat] at hb'
  exact hb'.tok.keep fun l ro els e => by
   rw [AHeap.get_set_other]; exact e
   rintro rfl
   rw [g'] at e; cases e
 | n + 1, c :: r, at_, m + 1, T, v, H, h, ha, hb, p, hT, hn, hm => by
  obtain ⟨e1, e2, e3, e4⟩ := drop_cons h
  have h1 : ((at_ : Int) < (s.length : Int)) := by omega
  have g : H.get H0.next = some (.row false 2 [[.int .i64 0, .int .i64 0]]) := p.get (AHeap.get_push_same _ _)
  have gl := AHeap.get_lt g
  simp -implicitDefEqProofs (disch := first | assumption | omega | (simp only [nxB]; omega) | (simp only [oneB])) only [s16_l1, s16_j0, s16_b1, s16, xlen, AV.cells, splice, aload, astore, Nat.reduceAdd, Nat.reduceLeDiff, reduceIte, allB, h1, decide_true]
  have hgH : Gl H := (hg0.pur (Pur.push _ _)).pur p
  have hsl0 := sl9_from (s := s) (a := at_) (by omega)
  rw [h] at hsl0
  simp -implicitDefEqProofs (disch := first | assumption | omega | (simp only [nxB]; omega) | (simp only [oneB])) only [xlen, evB, hsl0]
  refine W_call (lone_spec hgH (s := c :: r) (by simp only [List.length_cons]; omega) rfl) ?_
  rintro _ H2 ⟨rfl, p2⟩
  refine ⟨p2.1, ?_⟩
  have g2 := p2.get g
  have gl2 := AHeap.get_lt g2
  have hb2 := hb.pur p2
  replace p := p.trans p2
  rw [lexL]
  cases ho : oneN (c :: r) with
  | none =>
   simp only [oneV]
   simp -implicitDefEqProofs (disch := first | assumption | omega | (simp only [nxB]; omega) | (simp only [oneB])) only [s16_j0, s16_b1, s16, xlen, AV.cells, splice, aload, astore, Nat.reduceAdd, Nat.reduceLeDiff, reduceIte, allB, bd29w, beq_self_eq_true, g2, AHeap.push_set_lt]
   have hrd : rdIs (some (.agg [.int .i64 1, .int .i64 at_])) (.agg [.int .i64 1, .int .i64 at_]) = true := by simp [rdIs, AV.beq, AVs.beq]
   refine W_some.2 ⟨.nilSl, rfl, .inl ⟨rfl, rfl⟩, ?_⟩
   exact (((Pur.push _ _).trans p).then_set (Nat.le_refl _) _).then_push _
  | some q =>
   obtain ⟨k, t, z, b⟩ := q
   obtain ⟨b1, b2⟩ := oneN_len ho
   have hb0 : ((b : Int) == 0) = false := by simp; omega
   simp only [oneV]
   simp only [List.length_cons] at b2 hn hm
   obtain ⟨v', H', ea, hb', p', hnx, hkeep⟩ := app_tok (hb2.pur (Pur.push H2 (.row false 4 [Tok.cells ⟨k, t, z, at_⟩]))) (p.then_push _) (by omega) ⟨k, t, z, at_⟩
   have hsl := sl22_1 (H2.next + 1) ⟨k, t, z, at_⟩
   simp only [Tok.v] at hsl
   simp only [Tok.cells, AHeap.next_push] at ea hnx
   simp only [Tok.cells] at hsl
   have hrd : ∀ HH : AHeap, rdIs (some (.agg [.int .i64 k, .str t, .int .i64 z, .int .i64 at_])) (.agg [.int .i64 k, .str t, .int .i64 z, .int .i64 at_]) = true := fun _ => by simp [rdIs, AV.beq, AVs.beq]
   simp -implicitDefEqProofs (disch := first | assumption | omega | (simp only [nxB]; omega) | (simp only [oneB])) only [s16_j0, s16_b1, s16, xlen, AV.cells, splice, aload, astore, Nat.reduceAdd, Nat.reduceLeDiff, reduceIte, allB, hb0, hsl, ea, xcall_some, wnn]
   have hd2 : s.drop (at_ + b) = (c :: r).drop b := by rw [← List.drop_drop, h]
   have hbl := blankN_le ((c :: r).drop b) false
   simp only [List.length_drop, List.length_cons] at hbl
   refine W_call0 (passed_spec (by omega) (at_ := at_ + b) (by omega)) ?_
   rw [hd2]
   have hbl' : at_ + b + blankN false ((c :: r).drop b) ≤ s.length := by omega
   have ih := ltok_loop hg0 hs N n (s.drop (at_ + b + blankN false ((c :: r).drop b))) (at_ + b + blankN false ((c :: r).drop b)) m (T ++ [⟨k, t, z, at_⟩]) v' H' rfl hbl' hb' p' (by simp; omega) (by simp; omega) (by simp; omega)
   refine ih.mono ?_
   rintro w H'' ⟨tv, q1, q2, q3⟩
   have hdd : s.drop (at_ + b + blankN false ((c :: r).drop b)) = ((c :: r).drop b).drop (blankN false ((c :: r).drop b)) := by rw [← List.drop_drop, hd2]
   rw [hdd] at q1 q2
   have hE : lexR (T ++ [⟨k, t, z, at_⟩]) (lexL n (((c :: r).drop b).drop (blankN false ((c :: r).drop b))) (at_ + b + blankN false ((c :: r).drop b))) = lexR T (match lexL n (((c :: r).drop b).drop (blankN false ((c :: r).drop b))) (at_ + b + blankN false ((c :: r).drop b)) with
     | .inl e => .inl e
     | .inr l => .inr (⟨k, t, z, at_⟩ :: l)) := by
    cases lexL n (((c :: r).drop b).drop (blankN false ((c :: r).drop b))) (at_ + b + blankN false ((c :: r).drop b)) with
    | inl e => rfl
    | inr l => simp [lexR]
   rw [hE] at q1 q2
   exact ⟨tv, q1, q2, q3⟩
theorem lTokens_spec {H : AHeap} (hg : Gl H) (s : Bs) : W (evw P orc 16 [.str s] H) (TokPost H (tokensS s)) := by
 refine W_of (fun _ => run16 (s.length + 1)) ?_
 by_cases h6 : (6000 : Int) < (s.length : Int)
 ·have h6' : 6000 < s.length := by omega
  simp -implicitDefEqProofs (disch := first | assumption | omega | (simp only [nxB]; omega) | (simp only [oneB])) only [s16_j0, s16_b1, s16, xlen, AV.cells, splice, aload, astore, Nat.reduceAdd, Nat.reduceLeDiff, reduceIte, allB, h6, decide_true]
  refine W_some.2 ⟨.nilSl, by simp [tokensS, h6'], .inl ⟨rfl, by simp [tokensS, h6']⟩, Pur.push _ _⟩
 ·have h6' : ¬ 6000 < s.length := by omega
  simp -implicitDefEqProofs (disch := first | assumption | omega | (simp only [nxB]; omega) | (simp only [oneB])) only [s16_j0, s16, xlen, AV.cells, splice, aload, astore, Nat.reduceAdd, Nat.reduceLeDiff, reduceIte, allB, h6, decide_false]
  refine W_call0 (passed_spec (s := s) (by omega) (at_ := 0) (by omega)) ?_
  simp only [List.drop_zero, Nat.zero_add]
  have hbl := blankN_le s false
  refine (ltok_loop (H0 := H) hg (by omega) (s.length + 1) (s.length + 1) (s.drop (blankN false s)) (blankN false s) (s.length + 1) [] .nilSl _ rfl hbl (.inl ⟨rfl, rfl⟩) (.refl _) (by simp) (by simp; omega) (by simp; omega)).mono ?_
  rintro v H' ⟨tv, q1, q2, q3⟩
  have hE : lexR [] (lexL (s.length + 1) (s.drop (blankN false s)) (blankN false s)) = tokensS s := by
   simp only [tokensS, if_neg h6', lexS]
   cases lexL (s.length + 1) (s.drop (blankN false s)) (blankN false s) <;> rfl
  rw [hE] at q1 q2
  exact ⟨tv, q1, q2, q3⟩
end Go.Proofs.YtghmbpmaafnodaaGreatDoor.Lp

namespace Go.Proofs.YtghmbpmaafnodaaGreatDoor
open Go.Ev
theorem lexL_len : ∀ (n : Nat) (rest : Bs) (p : Nat) (l : List Tok), lexL n rest p = .inr l → l.length ≤ rest.length + 1
 | 0, _, _, _, h => by simp [lexL] at h
 | n + 1, [], p, l, h => by simp [lexL] at h; subst h; simp
 | n + 1, c :: r, p, l, h => by
  rw [lexL] at h
  cases ho : oneN (c :: r) with
  | none => rw [ho] at h; simp at h
  | some q =>
   obtain ⟨k, t, z, b⟩ := q
   obtain ⟨b1, b2⟩ := oneN_len ho
   rw [ho] at h
   simp only at h
   cases hl : lexL n (((c :: r).drop b).drop (blankN false ((c :: r).drop b))) (p + b + blankN false ((c :: r).drop b)) with
   | inl e => rw [hl] at h; cases h
   | inr l' =>
    rw [hl] at h
    cases h
    have := lexL_len n _ _ l' hl
    simp only [List.length_drop, List.length_cons] at this b2 ⊢
    omega
theorem tokensS_len (s : Bs) : (tokensS s).1.length ≤ s.length + 1 := by
 unfold tokensS
 split
 ·simp
 ·cases h : lexS s with
  | inl e => simp
  | inr l =>
   have := lexL_len _ _ _ l h
   simp only [List.length_drop] at this
   simp only
   omega
end Go.Proofs.YtghmbpmaafnodaaGreatDoor

namespace Go.Proofs.YtghmbpmaafnodaaGreatDoor
open Go.Ev
theorem lexL_last : ∀ (n : Nat) (s : Bs) (p : Nat) (l : List Tok), lexL n s p = .inr l → ∃ L q, l = L ++ [⟨0, [], 0, q⟩]
 | 0, _, _, _, h => by cases h
 | n + 1, [], p, l, h => by cases h; exact ⟨[], _, rfl⟩
 | n + 1, c :: r, p, l, h => by
  rw [lexL] at h
  split at h
  ·cases h
  ·rename_i k t v m ho
   split at h
   ·cases h
   ·rename_i l' hl
    cases h
    obtain ⟨L, q, rfl⟩ := lexL_last n _ _ _ hl
    exact ⟨⟨k, t, v, p⟩ :: L, q, rfl⟩
theorem toks_of {s : Bs} (h : (tokensS s).2.1 = 0) : Toks (tokensS s).1 ∧ 1 ≤ (tokensS s).1.length := by
 have hl := tokensS_len s
 have ho := @tokens_ok s
 have h6 : s.length ≤ 6000 := by
  unfold tokensS at h
  split at h
  ·simp at h
  ·omega
 obtain ⟨L, q, e⟩ : ∃ L q, (tokensS s).1 = L ++ [⟨0, [], 0, q⟩] := by
  unfold tokensS at h ⊢
  rw [if_neg (by omega)] at h ⊢
  cases hx : lexS s with
  | inl e => rw [hx] at h; simp at h
  | inr l => exact lexL_last _ _ _ _ hx
 rw [e] at hl ho ⊢
 simp only [List.length_append, List.length_cons, List.length_nil] at hl ⊢
 refine ⟨⟨by simp; omega, by simp; omega, fun a ha => ?_, ho⟩, by omega⟩
 have hin := tok_in ha
 simp only [List.length_append, List.length_cons, List.length_nil] at hin ⊢
 by_cases hlt : a < L.length
 ·omega
 ·exfalso
  have ea : a.toNat = L.length := by omega
  apply ha
  unfold tokAt
  rw [if_neg (by simp; omega), ea, List.getElem?_append_right (Nat.le_refl _), Nat.sub_self]
  rfl
def progPL (T : List Tok) (N : Nat) : Nat → Pg → St → R Pg
 | 0, _, _ => none
 | n + 1, g, s => bif s.fe == 0 && (tokAt T s.at_).kind != 0 then
   (bif isB T s 3 [114, 101, 99, 111, 114, 100] then (recordP T N g s).bind fun p => progPL T N n p.1 p.2
   else bif isB T s 3 [103, 108, 111, 98, 97, 108] then progPL T N n (globalP T g s).1 (globalP T g s).2
   else bif isB T s 3 [102, 117, 110, 99] then (functionP T N g s).bind fun p => progPL T N n p.1 p.2
   else progPL T N n g (failS T 2 s))
   else some (g, s)
section
variable {H H' H1 : AHeap} {r : Nat} {T : List Tok} {tv rv gv fv : AV} {s s' : St}
theorem rec_len {n : Nat} {g g' : Pg} (h : recordP T n g s = some (g', s')) : g'.recs.length = g.recs.length + 1 ∧ g'.globals.length = g.globals.length ∧ g'.funcs.length = g.funcs.length := by
 obtain ⟨p, -, g2⟩ := bindS h
 cases g2; simp
theorem fun_len {n : Nat} {g g' : Pg} (h : functionP T n g s = some (g', s')) : g'.recs.length = g.recs.length ∧ g'.globals.length = g.globals.length ∧ g'.funcs.length ≤ g.funcs.length + 1 := by
 obtain ⟨p, -, g2⟩ := bindS h
 simp only [Option.some.injEq] at g2
 have ga := congrArg Prod.fst g2
 unfold fnEnd at ga
 split at ga
 ·simp only at ga; rw [← ga]; simp
 ·simp only at ga; rw [← ga]; simp
theorem prog_loop {N : Nat} (hT : Toks T) {Q : AV → AHeap → Prop} {x2 x3 : AV} {g' : Pg}
  (hQ : ∀ H, Mg r H1 H → Rs H r T tv g' s' → W (s8_j0 (evw P orc) N x2 x3 (.ptr r 0 0) H) Q) (M : Nat) (hM : M ≤ 800000000) :
  ∀ (n m : Nat) (H : AHeap) (s : St) (g : Pg), n < m → g.recs.length + n ≤ 900000000 → g.globals.length + n ≤ 900000000 → g.funcs.length + n ≤ 900000000 → Mg r H1 H → Rs H r T tv g s → progPL T M n g s = some (g', s') → W (s8_l1 (evw P orc) N m x2 x3 (.ptr r 0 0) H) Q
 | _, 0, _, _, _, hn, _, _, _, _, _, _ => by omega
 | 0, m + 1, _, _, _, _, _, _, _, _, _, hf => by cases hf
 | n + 1, m + 1, H, s, g, hn, l1, l2, l3, mm, h, hf => by
  rw [progPL] at hf
  rw [s8_l1]
  unfold s8_b1
  obtain ⟨rv, gv, fv, k1, k2, k3, rp, ht, b1, b2, b3, c1, c2, c3⟩ := id h
  refine W_call (pfailed_spec rp) ?_
  rintro _ H2 ⟨rfl, rfl⟩
  refine ⟨Nat.le_refl _, ?_⟩
  by_cases h0 : s.fe = 0
  ·have h0' : (s.fe != 0) = false := by simpa using h0
   have h0b : (s.fe == 0) = true := by simpa using h0
   rw [h0b, Bool.true_and] at hf
   simp -implicitDefEqProofs (disch := first | assumption | omega | (simp only [nxB]; omega) | (simp only [oneB])) only [xlen, evB, h0', Bool.not_false]
   refine W_eff (ptok_spec rp) ?_
   rintro _ H3 ⟨rfl, p3⟩
   refine ⟨p3.1, ?_⟩
   have rp3 := rp.pur p3
   have keep : ∀ {Hx : AHeap}, Pur H2 Hx → Rs Hx r T tv g s := fun p => Rs.mut ht b1 b2 b3 c1 c2 c3 (p.mut _) (rp.pur p)
   cases hk : ((tokAt T s.at_).kind != 0) with
   | false =>
    rw [hk, cond_false] at hf
    cases hf
    simp -implicitDefEqProofs (disch := first | assumption | omega | (simp only [nxB]; omega) | (simp only [oneB])) only [xlen, evB, binB, tabB, Tok.v, hk]
    exact hQ _ (mm.trans (p3.mut _)) (keep p3)
   | true =>
    rw [hk, cond_true] at hf
    have hk' : (tokAt T s.at_).kind ≠ 0 := by simpa using hk
    simp -implicitDefEqProofs (disch := first | assumption | omega | (simp only [nxB]; omega) | (simp only [oneB])) only [xlen, evB, binB, tabB, Tok.v, hk]
    refine W_call (pis_spec rp3 3 _) ?_
    rintro _ H4 ⟨rfl, p4⟩
    refine ⟨p4.1, ?_⟩
    have rp4 := rp3.pur p4
    have p34 := p3.trans p4
    cases hr : isB T s 3 [114, 101, 99, 111, 114, 100] with
    | true =>
     rw [hr, cond_true] at hf
     obtain ⟨⟨g2, s2⟩, e1, e2⟩ := bindS hf
     have hlen := rec_len e1
     simp -implicitDefEqProofs (disch := first | assumption | omega | (simp only [nxB]; omega) | (simp only [oneB])) only [xlen, evB]
     refine W_call (precord_spec hT (by omega) (keep p34) (by omega) hk' e1) ?_
     rintro _ H5 ⟨m5, h5⟩
     exact ⟨m5.1, prog_loop hT hQ M hM n m H5 s2 g2 (by omega) (by omega) (by omega) (by omega) ((mm.trans (p34.mut _)).trans m5) h5 e2⟩
    | false =>
     rw [hr, cond_false] at hf
     simp -implicitDefEqProofs (disch := first | assumption | omega | (simp only [nxB]; omega) | (simp only [oneB])) only [xlen, evB]
     refine W_call (pis_spec rp4 3 _) ?_
     rintro _ H5 ⟨rfl, p5⟩
     refine ⟨p5.1, ?_⟩
     have rp5 := rp4.pur p5
     have p35 := p34.trans p5
     cases hg : isB T s 3 [103, 108, 111, 98, 97, 108] with
     | true =>
      rw [hg, cond_true] at hf
      simp -implicitDefEqProofs (disch := first | assumption | omega | (simp only [nxB]; omega) | (simp only [oneB])) only [xlen, evB]
      refine W_call (pglobal_spec hT (keep p35) (by omega) hk') ?_
      rintro _ H6 ⟨m6, h6⟩
      exact ⟨m6.1, prog_loop hT hQ M hM n m H6 _ _ (by omega) (by simp only [globalP]; omega) (by simp only [globalP, List.length_append, List.length_cons, List.length_nil]; omega) (by simp only [globalP]; omega) ((mm.trans (p35.mut _)).trans m6) h6 hf⟩
     | false =>
      rw [hg, cond_false] at hf
      simp -implicitDefEqProofs (disch := first | assumption | omega | (simp only [nxB]; omega) | (simp only [oneB])) only [xlen, evB]
      refine W_call (pis_spec rp5 3 _) ?_
      rintro _ H6 ⟨rfl, p6⟩
      refine ⟨p6.1, ?_⟩
      have rp6 := rp5.pur p6
      have p36 := p35.trans p6
      cases hfn : isB T s 3 [102, 117, 110, 99] with
      | true =>
       rw [hfn, cond_true] at hf
       obtain ⟨⟨g2, s2⟩, e1, e2⟩ := bindS hf
       have hlen := fun_len e1
       simp -implicitDefEqProofs (disch := first | assumption | omega | (simp only [nxB]; omega) | (simp only [oneB])) only [xlen, evB]
       refine W_call (pfunction_spec hT hM (keep p36) (by omega) hk' e1) ?_
       rintro _ H7 ⟨m7, h7⟩
       exact ⟨m7.1, prog_loop hT hQ M hM n m H7 s2 g2 (by omega) (by omega) (by omega) (by omega) ((mm.trans (p36.mut _)).trans m7) h7 e2⟩
      | false =>
       rw [hfn, cond_false] at hf
       simp -implicitDefEqProofs (disch := first | assumption | omega | (simp only [nxB]; omega) | (simp only [oneB])) only [xlen, evB]
       refine W_call (pfail_spec rp6 (e := 2) (by decide)) ?_
       rintro _ H7 ⟨rfl, m7, rp7⟩
       refine ⟨m7.1, prog_loop hT hQ M hM n m H7 _ g (by omega) (by omega) (by omega) (by omega) ((mm.trans (p36.mut _)).trans m7.mg) ?_ hf⟩
       exact Rs.mut ht (b1.keep (KeepA.pur p36)) (b2.keep (KeepA.pur p36)) (b3.keep (KeepA.pur p36)) c1 c2 c3 m7 rp7
  ·have h0' : (s.fe != 0) = true := by simpa using h0
   have h0b : (s.fe == 0) = false := by simpa using h0
   rw [h0b] at hf
   cases hf
   simp -implicitDefEqProofs (disch := first | assumption | omega | (simp only [nxB]; omega) | (simp only [oneB])) only [xlen, evB, h0', Bool.not_true]
   exact hQ _ mm h
end
end Go.Proofs.YtghmbpmaafnodaaGreatDoor

namespace Go.Proofs.YtghmbpmaafnodaaGreatDoor
open Go.Ev
def ProgPost (H0 : AHeap) (x : Pg × Int × Int) (v : AV) (H' : AHeap) : Prop := ∃ rv gv fv, v = .tuple [.agg [rv, gv, fv], .agg [.int .i64 x.2.1, .int .i64 x.2.2]] ∧ Sl kRc H' (Ge H0.next) x.1.recs rv ∧ Sl kPm H' (Ge H0.next) x.1.globals gv ∧ Sl kFn H' (Ge H0.next) x.1.funcs fv ∧ Pur H0 H'
def progV (s : Bs) (g : Pg) (s' : St) : Pg × Int × Int := if (tokensS s).2.1 = 0 then progE g s' else (.none, (tokensS s).2.1, (tokensS s).2.2)
theorem bd55_tv {tv : AV} {T : List Tok} {H : AHeap} (h : TokSl H tv T) : abuild P 55 [(0, tv)] = some (.agg [tv, .int .i64 0, .nilSl, .nilSl, .nilSl, .int .i64 0, .int .i64 0]) := by
 rcases h with ⟨rfl, _⟩ | ⟨l, i, cap, rfl, _⟩ <;> kernel_rfl
theorem rdII (a b : Int) : rdIs (some (.agg [.int .i64 a, .int .i64 b])) (.agg [.int .i64 a, .int .i64 b]) = true := by simp [rdIs, AV.beq, AVs.beq]
section
variable {H : AHeap}
theorem pParse_spec (hg : Lp.Gl H) (s : Bs) {g' : Pg} {s' : St} {M n : Nat} (hM : M ≤ 800000000) (hn : n ≤ 800000000) (hp : (tokensS s).2.1 = 0 → progPL (tokensS s).1 M n .none ⟨0, 0, 0, 0⟩ = some (g', s')) : W (evw P orc 8 [.str s] H) (ProgPost H (progV s g' s')) := by
 refine W_of (fun _ => run8 (n + 1)) ?_
 have p0 := (Pur.push H (.row false 3 [[.nilSl, .nilSl, .nilSl]])).then_push (.row false 2 [[.int .i64 0, .int .i64 0]])
 simp -implicitDefEqProofs (disch := first | assumption | omega | (simp only [nxB]; omega) | (simp only [oneB])) only [s8, xlen, evB, List.length_cons, List.length_nil, Nat.zero_add, Nat.reduceAdd]
 refine W_call (Lp.lTokens_spec (hg.pur p0) s) ?_
 rintro _ H3 ⟨tv, rfl, htk, p3⟩
 refine ⟨p3.1, ?_⟩
 have ga := p3.get ((Pur.push (H.push (.row false 3 [[.nilSl, .nilSl, .nilSl]])) (.row false 2 [[.int .i64 0, .int .i64 0]])).get (AHeap.get_push_same H (.row false 3 [[.nilSl, .nilSl, .nilSl]])))
 have gb := p3.get (AHeap.get_push_same (H.push (.row false 3 [[.nilSl, .nilSl, .nilSl]])) (.row false 2 [[.int .i64 0, .int .i64 0]]))
 have n3 := p3.1
 simp only [AHeap.next_push] at n3 gb
 have htt := @toks_of s
 unfold progV
 generalize tokensS s = tk at htk hp htt ⊢
 obtain ⟨T, fe, fa⟩ := tk
 simp only at htk hp htt ⊢
 have q4 := Pur.push H3 (.row false 2 [[.int .i64 fe, .int .i64 fa]])
 have gc := AHeap.get_push_same H3 (.row false 2 [[.int .i64 fe, .int .i64 fa]])
 have ga4 := q4.get ga
 have gb4 := q4.get gb
 have n4 : (H3.push (.row false 2 [[.int .i64 fe, .int .i64 fa]])).next = H3.next + 1 := by simp only [AHeap.next_push]
 have p4 := (p0.trans p3).trans q4
 have ht4 := htk.pur q4
 by_cases hf : fe = 0
 ·subst hf
  have z0 : ((0 : Int) != 0) = false := rfl
  simp -implicitDefEqProofs (disch := first | assumption | omega | (simp only [nxB]; omega) | (simp only [oneB])) only [xlen, evB, aload, tyB, astore, tyB, Nat.reduceAdd, Nat.reduceLeDiff, reduceIte, AV.cells, splice, lsB, heapB, tabB, binB, AHeap.push_set_lt, z0]
  generalize H3.push (.row false 2 [[.int .i64 0, .int .i64 fa]]) = H4 at q4 gc ga4 gb4 n4 p4 ht4 ⊢
  obtain ⟨hT, hl⟩ := htt rfl
  have hbd := bd55_tv ht4
  have ho1 := ht4.one
  have hbx : ∀ l, boxOf l (.agg [tv, .int .i64 0, .nilSl, .nilSl, .nilSl, .int .i64 0, .int .i64 0]) = some (.ptr l 0 0, .row false 7 [[tv, .int .i64 0, .nilSl, .nilSl, .nilSl, .int .i64 0, .int .i64 0]]) := fun l => boxOf_agg l _ (by simp only [List.all_cons, List.all_nil, one_int, one_nilSl, ho1, Bool.and_self])
  have q5 := Pur.push H4 (.row false 7 [[tv, .int .i64 0, .nilSl, .nilSl, .nilSl, .int .i64 0, .int .i64 0]])
  have rs : Rs (H4.push (.row false 7 [[tv, .int .i64 0, .nilSl, .nilSl, .nilSl, .int .i64 0, .int .i64 0]])) H4.next T tv .none ⟨0, 0, 0, 0⟩ := by
   refine ⟨.nilSl, .nilSl, .nilSl, (fun _ => False), (fun _ => False), (fun _ => False), ⟨AHeap.get_push_same _ _, ht4.pur q5, Int.le_refl _, by (try simp only); omega, hT.n, fun _ => rfl, rfl, rfl, rfl, rfl⟩, ?_, Bl.nil, Bl.nil, Bl.nil, fun _ h => h.elim, fun _ h => h.elim, fun _ h => h.elim⟩
   intro l i m e c hv
   rcases ht4 with ⟨rfl, _⟩ | ⟨l', i', cap, rfl, hh⟩
   ·cases hv
   ·cases hv
    obtain ⟨ro, els, q1, -⟩ := hh.resolve_left (by rintro rfl; simp at hl)
    exact AHeap.get_lt q1
  simp -implicitDefEqProofs (disch := first | assumption | omega | (simp only [nxB]; omega) | (simp only [oneB])) only [xlen, evB, hbd, hbx]
  refine prog_loop (H1 := H4.push (.row false 7 [[tv, .int .i64 0, .nilSl, .nilSl, .nilSl, .int .i64 0, .int .i64 0]])) hT (fun H6 m6 h6 => ?_) M hM n (n + 1) _ _ .none (by omega) (by simp only [Pg.none, List.length_nil]; omega) (by simp only [Pg.none, List.length_nil]; omega) (by simp only [Pg.none, List.length_nil]; omega) (Mut.refl _ _) rs (hp rfl)
  obtain ⟨rv, gv, fv, k1, k2, k3, rp, ht, b1, b2, b3, c1, c2, c3⟩ := h6
  have n6 := m6.1
  simp only [AHeap.next_push] at n6
  have ga6 := m6.get (q5.get ga4) (by omega)
  have gb6 := m6.get (q5.get gb4) (by omega)
  have hr6 := rp.rd
  unfold r7 at hr6
  obtain ⟨o2, o3, o4⟩ := rp.one
  have la := AHeap.get_lt ga6
  have lb := AHeap.get_lt gb6
  have lr := AHeap.get_lt hr6
  have pf : Pur H H6 := ⟨by have := p4.1; omega, fun l hl => by
   have h4 := p4.1
   rw [m6.2 l (by simp only [AHeap.next_push]; omega) (by omega), q5.2 l (by omega)]; exact p4.2 l hl⟩
  rw [s8_j0]
  refine W_call (pfailed_spec rp) ?_
  rintro _ H7 ⟨rfl, rfl⟩
  refine ⟨Nat.le_refl _, ?_⟩
  unfold progE
  by_cases h0 : s'.fe = 0
  ·have h0' : (s'.fe != 0) = false := by simpa using h0
   simp -implicitDefEqProofs (disch := first | assumption | omega | (simp only [nxB]; omega) | (simp only [oneB])) only [xlen, AV.cells, splice, aload, astore, Nat.reduceAdd, Nat.reduceLeDiff, reduceIte, allB, h0', hr6, ga6, gb6, o2, o3, o4]
   rw [if_pos h0]
   have kp : ∀ ok : Nat → Prop, (∀ k, ok k → H4.next < k) → KeepA H7 ok ((H7.set H.next (.row false 3 [[rv, gv, fv]])).set (H.next + 1) (.row false 2 [[.int .i64 0, .int .i64 0]])) (Ge H.next) := fun ok hk k b ho g => by
    have := hk k ho
    have h4 := p4.1
    exact ⟨by unfold Ge; omega, by rw [AHeap.get_set_other (by omega), AHeap.get_set_other (by omega)]; exact g⟩
   exact W_some.2 ⟨rv, gv, fv, rfl, (b1.sl).keep (kp k1 fun k hk => (c1 k hk).1), (b2.sl).keep (kp k2 fun k hk => (c2 k hk).1), (b3.sl).keep (kp k3 c3), (pf.then_set (Nat.le_refl _) _).then_set (by omega) _⟩
  ·have h0' : (s'.fe != 0) = true := by simpa using h0
   simp -implicitDefEqProofs (disch := first | assumption | omega | (simp only [nxB]; omega) | (simp only [oneB])) only [xlen, AV.cells, splice, aload, astore, Nat.reduceAdd, Nat.reduceLeDiff, reduceIte, allB, h0', hr6, ga6, gb6, rdII]
   rw [if_neg h0]
   exact W_some.2 ⟨.nilSl, .nilSl, .nilSl, rfl, Sl.nil, Sl.nil, Sl.nil, (pf.then_set (Nat.le_refl _) _).then_set (by omega) _⟩
 ·have z0 : (fe != 0) = true := by simpa using hf
  have l4a := AHeap.get_lt ga4
  have l4b := AHeap.get_lt gb4
  rw [if_neg hf]
  have la := AHeap.get_lt ga
  have lb := AHeap.get_lt gb
  have p03 := p0.trans p3
  simp -implicitDefEqProofs (disch := first | assumption | omega | (simp only [nxB]; omega) | (simp only [oneB])) only [xlen, AV.cells, splice, aload, astore, Nat.reduceAdd, Nat.reduceLeDiff, reduceIte, allB, AHeap.push_set_lt, z0, ga, gb, rdII]
  refine W_some.2 ⟨.nilSl, .nilSl, .nilSl, rfl, Sl.nil, Sl.nil, Sl.nil, ?_⟩
  repeat (first | exact p03 | refine Pur.then_push ?_ _ | refine Pur.then_set ?_ (by omega) _)
end
end Go.Proofs.YtghmbpmaafnodaaGreatDoor

namespace Go.Proofs.YtghmbpmaafnodaaGreatDoor
open Go.Ev
set_option maxRecDepth 100000
noncomputable section
end
end Go.Proofs.YtghmbpmaafnodaaGreatDoor
namespace Go.Proofs.YtghmbpmaafnodaaGreatDoor
open Go.Ev
mutual
def sameM : Stm → Stm → Bool
 | .mk a es b c, .mk a' es' b' c' => a.kind == a'.kind && (a.name == a'.name && ((a.ofn == a'.ofn && a.ofd == a'.ofd) && (a.ref == a'.ref && (sameL es es' && (sameMs b b' && sameMs c c')))))
def sameMs : List Stm → List Stm → Bool
 | [], [] => true
 | [], _ :: _ => false
 | _ :: _, [] => false
 | e :: es, f :: fs => sameM e f && sameMs es fs
end
mutual
def SmM (B : Nat) : Stm → Prop
 | .mk _ es b c => (es.length ≤ B ∧ SmL B es) ∧ (b.length ≤ B ∧ SmMs B b) ∧ (c.length ≤ B ∧ SmMs B c)
def SmMs (B : Nat) : List Stm → Prop
 | [] => True
 | e :: es => SmM B e ∧ SmMs B es
end
theorem SmMs.mem {B : Nat} : ∀ {es : List Stm}, SmMs B es → ∀ e ∈ es, SmM B e
 | [], _, e, he => by simp at he
 | x :: xs, h, e, he => by
  rw [SmMs] at h
  rcases List.mem_cons.1 he with rfl | he
  ·exact h.1
  ·exact SmMs.mem h.2 e he
theorem sameMs_length : ∀ (es fs : List Stm), es.length ≠ fs.length → sameMs es fs = false
 | [], [], h => absurd rfl h
 | [], _ :: _, _ => by rw [sameMs]
 | _ :: _, [], _ => by rw [sameMs]
 | e :: es, f :: fs, h => by rw [sameMs, sameMs_length es fs (by simpa using h), Bool.and_false]
mutual
theorem sameE_refl4 : ∀ e : Ex, sameE e e = true
 | .mk a ks => by rw [sameE, sameL_refl4 ks]; simp
theorem sameL_refl4 : ∀ es : List Ex, sameL es es = true
 | [] => by rw [sameL]
 | e :: es => by rw [sameL, sameE_refl4 e, sameL_refl4 es]; rfl
end
mutual
theorem sameM_refl : ∀ e : Stm, sameM e e = true
 | .mk a es b c => by rw [sameM, sameMs_refl b, sameMs_refl c, sameL_refl4 es]; simp
theorem sameMs_refl : ∀ es : List Stm, sameMs es es = true
 | [] => by rw [sameMs]
 | e :: es => by rw [sameMs, sameM_refl e, sameMs_refl es]; rfl
end
theorem Stm.sizeOf_body {a : Sa} {es : List Ex} {b c : List Stm} {e : Stm} (h : e ∈ b) : SizeOf.sizeOf e < SizeOf.sizeOf (Stm.mk a es b c) := by
 have := List.sizeOf_lt_of_mem h
 simp only [Stm.mk.sizeOf_spec]
 omega
theorem Stm.sizeOf_els {a : Sa} {es : List Ex} {b c : List Stm} {e : Stm} (h : e ∈ c) : SizeOf.sizeOf e < SizeOf.sizeOf (Stm.mk a es b c) := by
 have := List.sizeOf_lt_of_mem h
 simp only [Stm.mk.sizeOf_spec]
 omega
theorem SsV.pur {H H' : AHeap} {ok : Nat → Prop} {ks : List Stm} {kv : AV} (h : SsV H ok ks kv) (p : Pur H H') : SsV H' ok ks kv := h.keep (KeepS.pur p fun _ h => h)
theorem StV.pur {H H' : AHeap} {ok : Nat → Prop} {e : Stm} {v : AV} (h : StV H ok e v) (p : Pur H H') : StV H' ok e v := StV.keep (KeepS.pur p fun _ h => h) e v h
theorem SlsV.cons {H : AHeap} {ok : Nat → Prop} {e : Stm} {es : List Stm} {els : List (List AV)} {k : Nat} (h : SlsV H ok (e :: es) (els.drop k)) : ∃ cs, els[k]? = some cs ∧ StV H ok e (.agg cs) ∧ SlsV H ok es (els.drop (k + 1)) := by
 cases hd : els.drop k with
 | nil => rw [hd, SlsV] at h; exact h.elim
 | cons cs css =>
  rw [hd, SlsV] at h
  have h1 : els[k]? = some cs := by
   have := List.getElem?_drop (xs := els) (i := k) (j := 0)
   rw [hd] at this
   simpa using this.symm
  have h2 : els.drop (k + 1) = css := by
   have : (els.drop k).drop 1 = css := by rw [hd]; rfl
   rwa [List.drop_drop] at this
  exact ⟨cs, h1, h.1, by rw [h2]; exact h.2⟩
theorem SsV.cnt {H : AHeap} {ok : Nat → Prop} {ks : List Stm} {x : AV} (hx : SsV H ok ks x) (H' : AHeap) : abuiltin P H' .len [44] [x] = some (.int .i64 ks.length) := by
 rcases hx with ⟨rfl, e1⟩ | ⟨l1, i1, c1, r1, el1, rfl, _⟩ | ⟨l1, i1, c1, rfl, e1⟩
 ·rw [e1]; exact ln44n
 ·exact ln44
 ·rw [e1]; exact ln44
theorem SsV.row {H : AHeap} {ok : Nat → Prop} {ks : List Stm} {x : AV} (hx : SsV H ok ks x) (h : ¬ ks.length = 0) : ∃ l i cap ro els, x = .sl l i ks.length 9 (Option.map (· + ks.length) cap) ∧ ok l ∧ H.get l = some (.row ro 9 els) ∧ SlsV H ok ks (els.drop i) := by
 rcases hx with ⟨_, e1⟩ | h1 | ⟨_, _, _, _, e1⟩
 ·exact absurd e1 h
 ·exact h1
 ·exact absurd e1 h
def SameMOk (F : Nat) (B : Nat) (e : Stm) : Prop := SmM B e → ∀ (f : Stm) (v w : AV) (H : AHeap) (ok ok' : Nat → Prop), StV H ok e v → StV H ok' f w → W (evw P orc F [v, w] H) fun r H' => r = .bool (sameM e f) ∧ Pur H H'
theorem neqI (m k : Nat) (h : m ≠ k) : ((m : Int) != (k : Int)) = true := by simp; omega
theorem neqS (m : Nat) : ((m : Int) != (m : Int)) = false := by simp
end Go.Proofs.YtghmbpmaafnodaaGreatDoor

namespace Go.Proofs.YtghmbpmaafnodaaGreatDoor
open Go.Ev
set_option maxRecDepth 100000
noncomputable section
def s65 (G : CallT) (x0 x1 : AV) (H : AHeap) : O :=
 xmake H (boxOf (H).next x0) fun x2 h1 =>
 xmake h1 (boxOf (h1).next x1) fun x3 h2 =>
 xb (afieldAddr P 98 x2 0) fun x5 =>
 xb (aload P h2 3 x5) fun x6 =>
 xb (afieldAddr P 98 x3 0) fun x7 =>
 xb (aload P h2 3 x7) fun x8 =>
 xb (fbin P .eql 3 false x6 x8) fun x9 =>
 xg x9 true h2 (qp (afieldAddr P 98 x2 1)) fun x11 h3 =>
 xg x9 true h3 (qr (aload P h3 9 x11)) fun x12 h4 =>
 xg x9 true h4 (qp (afieldAddr P 98 x3 1)) fun x13 h5 =>
 xg x9 true h5 (qr (aload P h5 9 x13)) fun x14 h6 =>
 xg x9 true h6 (qp (fbin P .eql 9 false x12 x14)) fun x15 h7 =>
 xb (pickOf x9 (some x15) (some (.bool false))) fun x16 =>
 xg x16 true h7 (qp (afieldAddr P 98 x2 2)) fun x18 h8 =>
 xg x16 true h8 (qr (aload P h8 43 x18)) fun x19 h9 =>
 xg x16 true h9 (qp (afieldAddr P 98 x3 2)) fun x20 h10 =>
 xg x16 true h10 (qr (aload P h10 43 x20)) fun x21 h11 =>
 xg x16 true h11 (qp (fbin P .eql 43 false x19 x21)) fun x22 h12 =>
 xb (pickOf x16 (some x22) (some (.bool false))) fun x23 =>
 xg x23 true h12 (qp (afieldAddr P 98 x2 7)) fun x25 h13 =>
 xg x23 true h13 (qr (aload P h13 3 x25)) fun x26 h14 =>
 xg x23 true h14 (qp (afieldAddr P 98 x3 7)) fun x27 h15 =>
 xg x23 true h15 (qr (aload P h15 3 x27)) fun x28 h16 =>
 xg x23 true h16 (qp (fbin P .eql 3 false x26 x28)) fun x29 h17 =>
 xb (pickOf x23 (some x29) (some (.bool false))) fun x30 =>
 xg x30 true h17 (qp (afieldAddr P 98 x2 3)) fun x32 h18 =>
 xg x30 true h18 (qr (aload P h18 96 x32)) fun x33 h19 =>
 xg x30 true h19 (qp (afieldAddr P 98 x3 3)) fun x34 h20 =>
 xg x30 true h20 (qr (aload P h20 96 x34)) fun x35 h21 =>
 xg x30 true h21 (fun q => xeff h21 (G 91 [x33, x35, (.func (.func 92) [] [])] h21) q) fun x36 h22 =>
 xb (pickOf x30 (some x36) (some (.bool false))) fun x37 =>
 xg x37 true h22 (qp (afieldAddr P 98 x2 4)) fun x39 h23 =>
 xg x37 true h23 (qr (aload P h23 44 x39)) fun x40 h24 =>
 xg x37 true h24 (qp (afieldAddr P 98 x3 4)) fun x41 h25 =>
 xg x37 true h25 (qr (aload P h25 44 x41)) fun x42 h26 =>
 xg x37 true h26 (fun q => xeff h26 (G 64 [x40, x42, (.func (.func 65) [] [])] h26) q) fun x43 h27 =>
 xb (pickOf x37 (some x43) (some (.bool false))) fun x44 =>
 xg x44 true h27 (qp (afieldAddr P 98 x2 5)) fun x46 h28 =>
 xg x44 true h28 (qr (aload P h28 44 x46)) fun x47 h29 =>
 xg x44 true h29 (qp (afieldAddr P 98 x3 5)) fun x48 h30 =>
 xg x44 true h30 (qr (aload P h30 44 x48)) fun x49 h31 =>
 xg x44 true h31 (fun q => xeff h31 (G 64 [x47, x49, (.func (.func 65) [] [])] h31) q) fun x50 h32 =>
 xb (pickOf x44 (some x50) (some (.bool false))) fun x51 =>
 some (x51, h32)
theorem s65_eq (G : CallT) (N : Nat) (x0 : AV) (x1 : AV) (H : AHeap) : cF Tryz.f65 G N (argsF [x0, x1]) H = s65 G x0 x1 H := by
 refine via_top (A := cF Tryz.f65 G N) (via_leaf _) ?_
 delta s65
 kernel_rfl
theorem run65 (N : Nat) {x0 x1 : AV} {H : AHeap} {r : AV × AHeap} (h : s65 (evw P orc) x0 x1 H = some r) : evw P orc 65 [x0, x1] H = some r :=
 runF (by kernel_rfl) Tryz.func65 (by kernel_rfl) (by kernel_rfl) (by kernel_rfl) ((s65_eq (evw P orc) N x0 x1 H).trans h)
def s64_j0 (G : CallT) (N : Nat) (H : AHeap) : O :=
 some ((.bool true), H)
theorem s64_j0_eq (G : CallT) (N : Nat) : ∀ R H, codeC P G N (Code.snd (Code.snd (Code.snd (bodyOf Tryz.f64)))) (rC Tryz.f64) [] (rC Tryz.f64) R H = s64_j0 G N H := by
 refine via_trans (via_leaf _) fun R H => ?_
 delta s64_j0
 kernel_rfl
def s64_b1 (G : CallT) (N : Nat) (L1 : AV → AV → AV → AV → AV → AHeap → O) (x1 x2 : AV) (x15 x16 x17 : AV) (H : AHeap) : O :=
 xb (fbin P .lss 3 false x17 x16) fun x18 =>
 xif (some x18) (xb (aindexAddr P 44 x15 x17) fun x20 =>
 xb (aload P H 98 x20) fun x21 =>
 xalloc H [(.int .i64 0), (.str []), (.str []), (.int .i64 0), AV.nilSl, AV.nilSl, AV.nilSl, (.int .i64 0), (.int .i64 0)] fun x8 h1 =>
 xstore h1 (astore P h1 98 x8 x21) fun h2 =>
 xb (aindexAddr P 44 x1 x17) fun x24 =>
 xb (aload P h2 98 x24) fun x25 =>
 xalloc h2 [(.int .i64 0), (.str []), (.str []), (.int .i64 0), AV.nilSl, AV.nilSl, AV.nilSl, (.int .i64 0), (.int .i64 0)] fun x9 h3 =>
 xstore h3 (astore P h3 98 x9 x25) fun h4 =>
 xb (aload P h4 98 x8) fun x27 =>
 xb (aload P h4 98 x9) fun x28 =>
 xapply G h4 x2 [x27, x28] fun x29 h5 =>
 xb (aun .not x29) fun x30 =>
 xif (some x30) (some ((.bool false), h5)) (xb (fbin P .add 3 true x17 (.int .i64 1)) fun x31 =>
 L1 x1 x2 x15 x16 x31 h5)) (s64_j0 G N H)
def s64_l1 (G : CallT) (N : Nat) : Nat → AV → AV → AV → AV → AV → AHeap → O
 | 0, _, _, _, _, _, _ => none
 | n + 1, x1, x2, x15, x16, x17, H => s64_b1 G N (s64_l1 G N n) x1 x2 x15 x16 x17 H
theorem s64_b1_eq (G : CallT) (N : Nat) (L1 : AV → AV → AV → AV → AV → AHeap → O) : ∀ R H, codeC P G N (Code.fst (Code.fst (Code.snd (Code.fst (Code.snd (Code.snd (bodyOf Tryz.f64))))))) (fun R H => L1 (R 1) (R 2) (R 15) (R 16) (R 17) H) [(0, (fun R H => s64_j0 G N H))] (rC Tryz.f64) R H = s64_b1 G N L1 (R 1) (R 2) (R 15) (R 16) (R 17) H := by
 refine via_trans (via_leaf _) fun R H => ?_
 delta s64_b1
 generalize s64_j0 G N = J0
 revert J0
 refine id ?_
 intro J0
 kernel_rfl
def s64 (G : CallT) (N : Nat) (x0 x1 x2 : AV) (H : AHeap) : O :=
 xlen P .len [44] [x0] H fun x11 =>
 xlen P .len [44] [x1] H fun x13 =>
 xb (fbin P .neq 3 false x11 x13) fun x14 =>
 xif (some x14) (some ((.bool false), H)) (xlen P .len [44] [x0] H fun x16 =>
 s64_l1 G N N x1 x2 x0 x16 (.int .i64 0) H)
theorem s64_eq (G : CallT) (N : Nat) (x0 : AV) (x1 : AV) (x2 : AV) (H : AHeap) : cF Tryz.f64 G N (argsF [x0, x1, x2]) H = s64 G N x0 x1 x2 H := by
 refine via_top (A := cF Tryz.f64 G N) ((via_seq (by kernel_rfl) ((via_seq (by kernel_rfl) ((via_seq (by kernel_rfl) (s64_j0_eq G N) ((via_seq (by kernel_rfl) ((via_block (by kernel_rfl) ((via_loop (k := fun m R H => s64_l1 G N m (R 1) (R 2) (R 15) (R 16) (R 17) H) (by kernel_rfl) (fun R H => by kernel_rfl) (fun m => s64_b1_eq G N (s64_l1 G N m)))))) (via_leaf _))))) (via_leaf _))) (via_leaf _))) ?_
 delta s64
 generalize s64_l1 G N N = J0
 revert J0
 refine id ?_
 intro J0
 kernel_rfl
theorem run64 (N : Nat) {x0 x1 x2 : AV} {H : AHeap} {r : AV × AHeap} (h : s64 (evw P orc) N x0 x1 x2 H = some r) : evw P orc 64 [x0, x1, x2] H = some r :=
 runF (by kernel_rfl) Tryz.func64 (by kernel_rfl) (by kernel_rfl) (by kernel_rfl) ((s64_eq (evw P orc) N x0 x1 x2 H).trans h)
end
end Go.Proofs.YtghmbpmaafnodaaGreatDoor
namespace Go.Proofs.YtghmbpmaafnodaaGreatDoor
open Go.Ev
theorem sameM30 {H : AHeap} {a a' : Sa} {es es' : List Ex} {b b' c c' : List Stm} {ev ev' bv bv' cv cv' : AV} (h1 : ev.one = true) (h1' : ev'.one = true) (h2 : bv.one = true) (h2' : bv'.one = true) (h3 : cv.one = true) (h3' : cv'.one = true)
  (he : ∀ H', Pur H H' → W (evw P orc 91 [ev, ev', .func (.func 92) [] []] H') fun r H'' => r = .bool (sameL es es') ∧ Pur H' H'')
  (hb : ∀ H', Pur H H' → W (evw P orc 64 [bv, bv', .func (.func 65) [] []] H') fun r H'' => r = .bool (sameMs b b') ∧ Pur H' H'')
  (hc : ∀ H', Pur H H' → W (evw P orc 64 [cv, cv', .func (.func 65) [] []] H') fun r H'' => r = .bool (sameMs c c') ∧ Pur H' H'') :
  W (evw P orc 65 [.agg (a.cells ev bv cv), .agg (a'.cells ev' bv' cv')] H) fun r H' => r = .bool (sameM (.mk a es b c) (.mk a' es' b' c')) ∧ Pur H H' := by
 refine W_of (fun _ => run65 0) ?_
 have hb1 : ∀ l, boxOf l (.agg (a.cells ev bv cv)) = some (.ptr l 0 0, .row false 9 [a.cells ev bv cv]) := fun l => boxOf_agg l _ (by simp only [Sa.cells, List.all_cons, List.all_nil, one_int, one_str, h1, h2, h3, Bool.and_self])
 have hb2 : ∀ l, boxOf l (.agg (a'.cells ev' bv' cv')) = some (.ptr l 0 0, .row false 9 [a'.cells ev' bv' cv']) := fun l => boxOf_agg l _ (by simp only [Sa.cells, List.all_cons, List.all_nil, one_int, one_str, h1', h2', h3', Bool.and_self])
 have p2 := (Pur.push H (.row false 9 [a.cells ev bv cv])).then_push (.row false 9 [a'.cells ev' bv' cv'])
 have g1 : ((H.push (.row false 9 [a.cells ev bv cv])).push (.row false 9 [a'.cells ev' bv' cv'])).get H.next = some (.row false 9 [a.cells ev bv cv]) := by simp -implicitDefEqProofs (disch := first | assumption | omega | (simp only [nxB]; omega) | (simp only [oneB])) only [heapB]
 have g2 : ((H.push (.row false 9 [a.cells ev bv cv])).push (.row false 9 [a'.cells ev' bv' cv'])).get (H.next + 1) = some (.row false 9 [a'.cells ev' bv' cv']) := by simp -implicitDefEqProofs (disch := first | assumption | omega | (simp only [nxB]; omega) | (simp only [oneB])) only [heapB]
 rw [sameM]
 simp only [Sa.cells] at hb1 hb2 p2 g1 g2 ⊢
 cases c0 : a.kind == a'.kind with
 | false =>
  simp -implicitDefEqProofs (disch := first | assumption | omega | (simp only [nxB]; omega) | (simp only [oneB])) only [s65, xlen, AV.cells, splice, aload, astore, Nat.reduceAdd, Nat.reduceLeDiff, reduceIte, allB, tyC, hb1, hb2, eq32, c0]
  exact W_some.2 ⟨by simp only [Bool.false_and, Bool.and_false], p2⟩
 | true =>
 cases c2 : a.name == a'.name with
 | false =>
  simp -implicitDefEqProofs (disch := first | assumption | omega | (simp only [nxB]; omega) | (simp only [oneB])) only [s65, xlen, AV.cells, splice, aload, astore, Nat.reduceAdd, Nat.reduceLeDiff, reduceIte, allB, tyC, hb1, hb2, eq32, c0, c2]
  exact W_some.2 ⟨by simp only [Bool.false_and, Bool.and_false], p2⟩
 | true =>
 cases c3 : (a.ofn == a'.ofn && a.ofd == a'.ofd) with
 | false =>
  simp -implicitDefEqProofs (disch := first | assumption | omega | (simp only [nxB]; omega) | (simp only [oneB])) only [s65, xlen, AV.cells, splice, aload, astore, Nat.reduceAdd, Nat.reduceLeDiff, reduceIte, allB, tyC, hb1, hb2, eq32, c0, c2, c3]
  exact W_some.2 ⟨by simp only [Bool.false_and, Bool.and_false], p2⟩
 | true =>
 cases c5 : a.ref == a'.ref with
 | false =>
  simp -implicitDefEqProofs (disch := first | assumption | omega | (simp only [nxB]; omega) | (simp only [oneB])) only [s65, xlen, AV.cells, splice, aload, astore, Nat.reduceAdd, Nat.reduceLeDiff, reduceIte, allB, tyC, hb1, hb2, eq32, c0, c2, c3, c5]
  exact W_some.2 ⟨by simp only [Bool.false_and, Bool.and_false], p2⟩
 | true =>
 simp -implicitDefEqProofs (disch := first | assumption | omega | (simp only [nxB]; omega) | (simp only [oneB])) only [s65, xlen, AV.cells, splice, aload, astore, Nat.reduceAdd, Nat.reduceLeDiff, reduceIte, allB, tyC, hb1, hb2, eq32, c0, c2, c3, c5]
 refine W_eff (he _ p2) ?_
 rintro _ H3 ⟨rfl, p3⟩
 refine ⟨p3.1, ?_⟩
 have g31 := p3.get g1
 have g32 := p3.get g2
 cases d1 : sameL es es' with
 | false =>
  simp -implicitDefEqProofs (disch := first | assumption | omega | (simp only [nxB]; omega) | (simp only [oneB])) only [xlen, AV.cells, splice, aload, astore, Nat.reduceAdd, Nat.reduceLeDiff, reduceIte, allB]
  exact W_some.2 ⟨by simp only [Bool.false_and, Bool.and_false], p2.trans p3⟩
 | true =>
 simp -implicitDefEqProofs (disch := first | assumption | omega | (simp only [nxB]; omega) | (simp only [oneB])) only [xlen, AV.cells, splice, aload, astore, Nat.reduceAdd, Nat.reduceLeDiff, reduceIte, allB, tyC, g31, g32]
 refine W_eff (hb _ (p2.trans p3)) ?_
 rintro _ H4 ⟨rfl, p4⟩
 refine ⟨p4.1, ?_⟩
 have g41 := p4.get g31
 have g42 := p4.get g32
 cases d2 : sameMs b b' with
 | false =>
  simp -implicitDefEqProofs (disch := first | assumption | omega | (simp only [nxB]; omega) | (simp only [oneB])) only [xlen, AV.cells, splice, aload, astore, Nat.reduceAdd, Nat.reduceLeDiff, reduceIte, allB]
  exact W_some.2 ⟨by simp only [Bool.false_and, Bool.and_false], (p2.trans p3).trans p4⟩
 | true =>
 simp -implicitDefEqProofs (disch := first | assumption | omega | (simp only [nxB]; omega) | (simp only [oneB])) only [xlen, AV.cells, splice, aload, astore, Nat.reduceAdd, Nat.reduceLeDiff, reduceIte, allB, tyC, g41, g42]
 refine W_eff (hc _ ((p2.trans p3).trans p4)) ?_
 rintro _ H5 ⟨rfl, p5⟩
 refine ⟨p5.1, ?_⟩
 simp -implicitDefEqProofs (disch := first | assumption | omega | (simp only [nxB]; omega) | (simp only [oneB])) only [xlen, AV.cells, splice, aload, astore, Nat.reduceAdd, Nat.reduceLeDiff, reduceIte, allB]
 exact W_some.2 ⟨by simp only [Bool.true_and], ((p2.trans p3).trans p4).trans p5⟩
theorem loop51 {N B : Nat} {kl ki ll li : Nat} {kc lc : Option Nat} {kro lro : Bool} {kels lels : List (List AV)} {ok ok' : Nat → Prop} : ∀ (es fs : List Stm) (j kn n : Nat) (H : AHeap), (∀ e ∈ es, SameMOk 65 B e) → SmMs B es → SlsV H ok es (kels.drop (ki + j)) → SlsV H ok' fs (lels.drop (li + j)) → es.length = fs.length → kn = j + es.length → kn ≤ 1000000000000 → H.get kl = some (.row kro 9 kels) → H.get ll = some (.row lro 9 lels) → es.length < n →
  W (s64_l1 (evw P orc) N n (.sl ll li kn 9 lc) (.func (.func 65) [] []) (.sl kl ki kn 9 kc) (.int .i64 kn) (.int .i64 j) H) fun r H' => r = .bool (sameMs es fs) ∧ Pur H H'
 | _, _, _, _, 0, _, _, _, _, _, _, _, _, _, _, hn => by omega
 | [], [], j, kn, n + 1, H, hs, hsm, h1, h2, h3, h4, h5, h6, h7, hn => by
  have hj : ¬ ((j : Int) < (kn : Int)) := by simp at h4; omega
  simp -implicitDefEqProofs (disch := first | assumption | omega | (simp only [nxB]; omega) | (simp only [oneB])) only [s64_l1, s64_j0, s64_b1, s64, xlen, AV.cells, splice, aload, astore, Nat.reduceAdd, Nat.reduceLeDiff, reduceIte, allB, hj, decide_false]
  exact W_some.2 ⟨by rw [sameMs], .refl _⟩
 | [], _ :: _, j, kn, n + 1, H, hs, hsm, h1, h2, h3, h4, h5, h6, h7, hn => by simp at h3
 | _ :: _, [], j, kn, n + 1, H, hs, hsm, h1, h2, h3, h4, h5, h6, h7, hn => by simp at h3
 | e :: es, f :: fs, j, kn, n + 1, H, hs, hsm, h1, h2, h3, h4, h5, h6, h7, hn => by
  simp only [List.length_cons] at h3 h4 hn
  have hj : (j : Int) < (kn : Int) := by omega
  have h0 : (0 : Int) ≤ (j : Int) := by omega
  have ht : ((j : Int)).toNat = j := by omega
  obtain ⟨cs, g1, g2, g3⟩ := h1.cons
  obtain ⟨ds, g4, g5, g6⟩ := h2.cons
  obtain ⟨_, q1, q2, q3⟩ := g2.cells
  cases q1
  obtain ⟨_, q4, q5, q6⟩ := g5.cells
  cases q4
  have tk1 : List.take 9 cs = cs := List.take_of_length_le (by omega)
  have tk2 : List.take 9 ds = ds := List.take_of_length_le (by omega)
  have l1 := AHeap.get_lt h6
  have l2 := AHeap.get_lt h7
  rw [SmMs] at hsm
  have hw : IntKind.i64.wrap ((j : Int) + 1) = ((j + 1 : Nat) : Int) := by rw [wrap_i64 (by omega) (by omega)]; omega
  have pa := (Pur.push H (.row false 9 [cs])).then_push (.row false 9 [ds])
  simp -implicitDefEqProofs (disch := first | assumption | omega | (simp only [nxB]; omega) | (simp only [oneB])) only [s64_l1, s64_j0, s64_b1, s64, xlen, AV.cells, splice, aload, astore, Nat.reduceAdd, Nat.reduceLeDiff, reduceIte, allB, tyC, hj, decide_true, ht, h6, h7, g1, g4, tk1, tk2, q2, q3, q5, q6, List.append_nil, xapply_fn, List.nil_append]
  refine W_call (hs e (by simp) hsm.1 f _ _ _ ok ok' (g2.pur pa) (g5.pur pa)) ?_
  rintro _ H2 ⟨rfl, p2⟩
  refine ⟨p2.1, ?_⟩
  cases hc : sameM e f with
  | false =>
   simp -implicitDefEqProofs (disch := first | assumption | omega | (simp only [nxB]; omega) | (simp only [oneB])) only [xlen, evB, Bool.not_false]
   exact W_some.2 ⟨by rw [sameMs, hc, Bool.false_and], pa.trans p2⟩
  | true =>
   simp -implicitDefEqProofs (disch := first | assumption | omega | (simp only [nxB]; omega) | (simp only [oneB])) only [xlen, evB, binB, Bool.not_true, hw]
   refine (loop51 es fs (j + 1) kn n H2 (fun e' he' => hs e' (by simp [he'])) hsm.2 (SlsV.keep (KeepS.pur (pa.trans p2) fun _ h => h) _ _ g3) (SlsV.keep (KeepS.pur (pa.trans p2) fun _ h => h) _ _ g6) (by omega) (by omega) h5 ((pa.trans p2).get h6) ((pa.trans p2).get h7) (by omega)).mono ?_
   rintro v H' ⟨rfl, q⟩
   exact ⟨by rw [sameMs, hc, Bool.true_and], (pa.trans p2).trans q⟩
theorem list51 {B : Nat} (hB : B ≤ 1000000000000) {H : AHeap} {ok ok' : Nat → Prop} {ks ls : List Stm} {bv bv' : AV} (hs : ∀ e ∈ ks, SameMOk 65 B e) (hsm : ks.length ≤ B ∧ SmMs B ks) (h1 : SsV H ok ks bv) (h2 : SsV H ok' ls bv') : W (evw P orc 64 [bv, bv', .func (.func 65) [] []] H) fun r H' => r = .bool (sameMs ks ls) ∧ Pur H H' := by
 refine W_of (fun _ => run64 (ks.length + 1)) ?_
 have z0 : ((0 : Nat) : Int) = 0 := rfl
 have c1 := h1.cnt
 have c2 := h2.cnt
 by_cases hn : ks.length = ls.length
 ·by_cases hz : ks.length = 0
  ·have hz2 : ls.length = 0 := by omega
   obtain rfl := List.length_eq_zero_iff.1 hz
   obtain rfl := List.length_eq_zero_iff.1 hz2
   simp -implicitDefEqProofs (disch := first | assumption | omega | (simp only [nxB]; omega) | (simp only [oneB])) only [s64_l1, s64_j0, s64_b1, s64, xlen, AV.cells, splice, aload, astore, Nat.reduceAdd, Nat.reduceLeDiff, reduceIte, allB, c1, c2, List.length_nil, z0, bne_self_eq_false, Int.lt_irrefl, decide_false]
   exact W_some.2 ⟨by rw [sameMs], .refl _⟩
  ·obtain ⟨l1, i1, k1, r1, el1, rfl, o1, g1, w1⟩ := h1.row hz
   obtain ⟨l2, i2, k2, r2, el2, rfl, o2, g2, w2⟩ := h2.row (by omega)
   rw [← hn]
   simp -implicitDefEqProofs (disch := first | assumption | omega | (simp only [nxB]; omega) | (simp only [oneB])) only [s64_j0, s64, xlen, xlen, evB, tabB, binB, neqS ks.length]
   exact loop51 ks ls 0 ks.length (ks.length + 1) H hs hsm.2 w1 w2 hn (by omega) (by omega) g1 g2 (by omega)
 ·have hn' := neqI _ _ hn
  simp -implicitDefEqProofs (disch := first | assumption | omega | (simp only [nxB]; omega) | (simp only [oneB])) only [s64_j0, s64_b1, s64, xlen, xlen, evB, binB, c1, c2, hn']
  exact W_some.2 ⟨by rw [sameMs_length _ _ hn], .refl _⟩
theorem specM30 {B : Nat} (hB : B ≤ 1000000000000) : ∀ (e : Stm), SameMOk 65 B e
 | .mk a es b c => by
  intro hsm f v w H ok ok' h1 h2
  cases f with | mk a' es' b' c' =>
  rw [StV_mk] at h1 h2
  obtain ⟨ev, bv, cv, rfl, e1, e2, e3⟩ := h1
  obtain ⟨ev', bv', cv', rfl, f1, f2, f3⟩ := h2
  rw [SmM] at hsm
  have hs1 : ∀ e ∈ b, SameMOk 65 B e := fun e he => specM30 hB e
  have hs2 : ∀ e ∈ c, SameMOk 65 B e := fun e he => specM30 hB e
  exact sameM30 e1.oneAV f1.oneAV e2.oneAV f2.oneAV e3.oneAV f3.oneAV (fun H' p => list43 hB (fun e _ => spec24 hB e) hsm.1 (e1.pur p) (f1.pur p))
   (fun H' p => list51 hB hs1 hsm.2.1 (e2.pur p) (f2.pur p)) (fun H' p => list51 hB hs2 hsm.2.2 (e3.pur p) (f3.pur p))
 termination_by e => SizeOf.sizeOf e
 decreasing_by
  ·exact Stm.sizeOf_body he
  ·exact Stm.sizeOf_els he
end Go.Proofs.YtghmbpmaafnodaaGreatDoor


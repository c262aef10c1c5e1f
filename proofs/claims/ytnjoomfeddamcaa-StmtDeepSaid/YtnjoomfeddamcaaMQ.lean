/-
  Texts of one proof, laid together: L2 L3 L4 Lz ShW O5 StmtDeep.
-/
import Derived.Test.YtnjoomfeddamcaaMM
import Derived.Test.YtnjoomfeddamcaaMF
import Derived.Test.YtnjoomfeddamcaaMD
import Derived.Test.YtnjoomfeddamcaaML
import Derived.Test.YtnjoomfeddamcaaMK
import Derived.Test.YtnjoomfeddamcaaRows
set_option linter.unusedVariables false
set_option linter.unusedSimpArgs false
namespace Go.Proofs.Ytnjoomfeddamcaa
open Go.Ev
theorem Name_loop {H : AHeap} {s : Bs} (hs : s.length ≤ 1000000000000000000) (N : Nat) : ∀ (rest : Bs) (n m : Nat), s.drop n = rest → n ≤ s.length → rest.length < m →
  W (s56_l1 (evw P) N m (.str s) (.int .i64 n) H) fun v H' => v = .bool (allP rest) ∧ H' = H
 | _, _, 0, _, _, hm => by omega
 | [], n, m + 1, h, hn, hm => by
  have := drop_nil h
  have h1 : ¬ ((n : Int) < (s.length : Int)) := by omega
  simp -implicitDefEqProofs (disch := first | assumption | omega | (simp only [nxB]; omega) | (simp only [oneB])) only [s56_l1, s56_j0, s56_b1, s56, xlen, AV.cells, splice, aload, astore, Nat.reduceAdd, Nat.reduceLeDiff, reduceIte, allB, h1, decide_false]
  exact W_some.2 ⟨by simp [allP], rfl⟩
 | c :: r, n, m + 1, h, hn, hm => by
  obtain ⟨e1, e2, e3, e4⟩ := drop_cons h
  have h1 : ((n : Int) < (s.length : Int)) := by omega
  have ih := Name_loop (H := H) hs N r (n + 1) m e2 (by omega) (by simp at hm; omega)
  have e1' := jx9 e1
  simp -implicitDefEqProofs (disch := first | assumption | omega | (simp only [nxB]; omega) | (simp only [oneB])) only [s56_l1, s56_j0, s56_b1, s56, xlen, AV.cells, splice, aload, astore, Nat.reduceAdd, Nat.reduceLeDiff, reduceIte, allB, h1, decide_true, e1']
  refine W_call0 (letter_spec _) ?_
  cases hl : lettI (c.toNat : Int) with
  | true =>
   simp -implicitDefEqProofs (disch := first | assumption | omega | (simp only [nxB]; omega) | (simp only [oneB])) only [s56_j0, s56_b1, s56, xlen, evB, binB, Bool.not_true, wn1]
   refine ih.mono ?_
   rintro v H' ⟨rfl, e⟩
   exact ⟨by simp [allP, letB, hl], e⟩
  | false =>
   simp -implicitDefEqProofs (disch := first | assumption | omega | (simp only [nxB]; omega) | (simp only [oneB])) only [s56_j0, s56_b1, s56, xlen, AV.cells, splice, aload, astore, Nat.reduceAdd, Nat.reduceLeDiff, reduceIte, allB, Bool.not_false, e1']
   refine W_eff0 (digit_spec _) ?_
   cases hd : diggI (c.toNat : Int) with
   | true =>
    simp -implicitDefEqProofs (disch := first | assumption | omega | (simp only [nxB]; omega) | (simp only [oneB])) only [s56_j0, s56_b1, s56, xlen, evB, binB, Bool.not_true, wn1]
    refine ih.mono ?_
    rintro v H' ⟨rfl, e⟩
    exact ⟨by simp [allP, digB, hd], e⟩
   | false =>
    simp -implicitDefEqProofs (disch := first | assumption | omega | (simp only [nxB]; omega) | (simp only [oneB])) only [s56_j0, s56_b1, s56, xlen, evB, binB, Bool.not_false]
    exact W_some.2 ⟨by simp [allP, letB, digB, hl, hd], rfl⟩
theorem Name_spec {H : AHeap} {s : Bs} (hs : s.length ≤ 1000000000000000000) : W (evw P 56 [.str s] H) fun v H' => v = .bool (nameB s) ∧ Pur H H' := by
 refine W_of (fun _ => run56 (s.length + 1)) ?_
 cases hl : s with
 | nil =>
  have h1 : ((([] : Bs).length : Nat) : Int) < 1 := by simp
  simp -implicitDefEqProofs (disch := first | assumption | omega | (simp only [nxB]; omega) | (simp only [oneB])) only [s56_j0, s56_b1, s56, xlen, evB, tabB, binB, h1, decide_true]
  exact W_some.2 ⟨by simp [nameB], .refl _⟩
 | cons c r =>
  rw [← hl]
  have hpos : 1 ≤ s.length := by rw [hl]; simp
  have h1 : ¬ ((s.length : Int) < 1) := by omega
  have e0 : s[0]? = some c := by rw [hl]; rfl
  have e0' := jx9_0 e0
  have hh : s.headD 0 = c := by rw [hl]; rfl
  by_cases h8 : (8 : Int) < (s.length : Int)
  ·have h8' : ¬ s.length ≤ 8 := by omega
   simp -implicitDefEqProofs (disch := first | assumption | omega | (simp only [nxB]; omega) | (simp only [oneB])) only [s56_j0, s56_b1, s56, xlen, evB, tabB, binB, h1, h8, decide_true, decide_false]
   exact W_some.2 ⟨by simp [nameB, h8'], .refl _⟩
  ·have h8' : s.length ≤ 8 := by omega
   simp -implicitDefEqProofs (disch := first | assumption | omega | (simp only [nxB]; omega) | (simp only [oneB])) only [s56_j0, s56_b1, s56, xlen, evB, tabB, binB, h1, h8, decide_false, e0']
   refine W_eff0 (letter_spec _) ?_
   cases hc : lettI (c.toNat : Int) with
   | false =>
    simp -implicitDefEqProofs (disch := first | assumption | omega | (simp only [nxB]; omega) | (simp only [oneB])) only [s56_j0, s56_b1, s56, xlen, evB, Bool.not_false]
    exact W_some.2 ⟨by unfold nameB; rw [hh]; simp [letB, hc], .refl _⟩
   | true =>
    simp -implicitDefEqProofs (disch := first | assumption | omega | (simp only [nxB]; omega) | (simp only [oneB])) only [s56_j0, s56_b1, s56, xlen, evB, Bool.not_true]
    refine W_eff (Word_spec s) ?_
    rintro _ H2 ⟨rfl, p2⟩
    refine ⟨p2.1, ?_⟩
    cases hw : wordB s with
    | true =>
     simp -implicitDefEqProofs (disch := first | assumption | omega | (simp only [nxB]; omega) | (simp only [oneB])) only [s56_j0, s56_b1, s56, xlen, evB]
     exact W_some.2 ⟨by simp [nameB, hw], p2⟩
    | false =>
     simp -implicitDefEqProofs (disch := first | assumption | omega | (simp only [nxB]; omega) | (simp only [oneB])) only [s56_j0, s56, xlen, evB]
     refine (Name_loop (H := H2) hs (s.length + 1) s 0 (s.length + 1) rfl (by omega) (by omega)).mono ?_
     rintro v H' ⟨rfl, e⟩
     exact ⟨by unfold nameB; rw [hh]; simp [hpos, h8', letB, hc, hw], by rw [e]; exact p2⟩
theorem cv53 (n : Int) : aconv P 5 3 (.int .u8 n) = some (.int .i64 (IntKind.i64.wrap n)) := by kernel_rfl
theorem quo3 (t : Bool) (a : Int) : fbin P .quo 3 t (.int .i64 a) (.int .i64 10) = some (.int .i64 (IntKind.i64.wrap (a.tdiv 10))) := by simp [fbin, intBin]
theorem mul3 (t : Bool) (a b : Int) : fbin P .mul 3 t (.int .i64 a) (.int .i64 b) = some (.int .i64 (IntKind.i64.wrap (a * b))) := fbin_mul _ _ _ _ _
theorem wrap_u8 {n : Int} (h0 : 0 ≤ n) (h1 : n ≤ 255) : IntKind.u8.wrap n = n := by
 show n % 256 = n
 omega
theorem whole_loop {H : AHeap} {s : Bs} (hs : s.length ≤ 1000000000000000000) (N : Nat) : ∀ (rest : Bs) (n m : Nat) (acc : Int), s.drop n = rest → n ≤ s.length → rest.length < m → 0 ≤ acc → acc ≤ 9223372036854775807 → (∀ c ∈ rest, digB c = true) →
  W (s58_l1 (evw P) N m (.str s) (.int .i64 acc) (.int .i64 n) H) fun v H' => v = (match wholeN acc rest with | some z => .tuple [.int .i64 z, .bool true] | none => .tuple [.int .i64 0, .bool false]) ∧ H' = H
 | _, _, 0, _, _, _, hm, _, _, _ => by omega
 | [], n, m + 1, acc, h, hn, hm, ha, ha', hd => by
  have := drop_nil h
  have h1 : ¬ ((n : Int) < (s.length : Int)) := by omega
  simp -implicitDefEqProofs (disch := first | assumption | omega | (simp only [nxB]; omega) | (simp only [oneB])) only [s58_l1, s58_j0, s58_b1, s58, xlen, AV.cells, splice, aload, astore, Nat.reduceAdd, Nat.reduceLeDiff, reduceIte, allB, h1, decide_false]
  exact W_some.2 ⟨by simp [wholeN], rfl⟩
 | c :: r, n, m + 1, acc, h, hn, hm, ha, ha', hd => by
  obtain ⟨e1, e2, e3, e4⟩ := drop_cons h
  have h1 : ((n : Int) < (s.length : Int)) := by omega
  have e1' := jx9 e1
  have hc := hd c (by simp)
  simp only [digB, diggI, Bool.and_eq_true, decide_eq_true_eq] at hc
  have w1 : IntKind.u8.wrap ((c.toNat : Int) - 48) = (c.toNat : Int) - 48 := wrap_u8 (by omega) (by omega)
  have w2 : IntKind.i64.wrap ((c.toNat : Int) - 48) = (c.toNat : Int) - 48 := wrap_i64 (by omega) (by omega)
  have w3 : IntKind.i64.wrap (9223372036854775807 - ((c.toNat : Int) - 48)) = 9223372036854775807 - ((c.toNat : Int) - 48) := wrap_i64 (by omega) (by omega)
  have w4 : (9223372036854775807 - ((c.toNat : Int) - 48)).tdiv 10 = (9223372036854775807 - ((c.toNat : Int) - 48)) / 10 := Int.tdiv_eq_ediv_of_nonneg (by omega)
  have w5 : IntKind.i64.wrap ((9223372036854775807 - ((c.toNat : Int) - 48)) / 10) = (9223372036854775807 - ((c.toNat : Int) - 48)) / 10 := wrap_i64 (by omega) (by omega)
  by_cases hg : (9223372036854775807 - ((c.toNat : Int) - 48)) / 10 < acc
  ·simp -implicitDefEqProofs (disch := first | assumption | omega | (simp only [nxB]; omega) | (simp only [oneB])) only [s58_l1, s58_j0, s58_b1, s58, xlen, AV.cells, splice, aload, astore, Nat.reduceAdd, Nat.reduceLeDiff, reduceIte, allB, h1, decide_true, e1', w1, w2, w3, w4, w5, quo3, xconv, cv53, hg]
   exact W_some.2 ⟨by simp [wholeN, hg], rfl⟩
  ·have w6 : IntKind.i64.wrap (10 * acc) = 10 * acc := wrap_i64 (by omega) (by omega)
   have w7 : IntKind.i64.wrap (10 * acc + ((c.toNat : Int) - 48)) = 10 * acc + ((c.toNat : Int) - 48) := wrap_i64 (by omega) (by omega)
   have ih := whole_loop (H := H) hs N r (n + 1) m (10 * acc + ((c.toNat : Int) - 48)) e2 (by omega) (by simp at hm; omega) (by omega) (by omega) (fun c hc => hd c (by simp [hc]))
   simp -implicitDefEqProofs (disch := first | assumption | omega | (simp only [nxB]; omega) | (simp only [oneB])) only [s58_l1, s58_j0, s58_b1, s58, xlen, AV.cells, splice, aload, astore, Nat.reduceAdd, Nat.reduceLeDiff, reduceIte, allB, h1, decide_true, e1', w1, w2, w3, w4, w5, w6, w7, quo3, mul3, xconv, cv53, hg, decide_false, wn1]
   refine ih.mono ?_
   rintro v H' ⟨rfl, e⟩
   exact ⟨by rw [wholeN, if_neg hg], e⟩
theorem runN_dig : ∀ (s : Bs), ∀ c ∈ s.take (runN true s), digB c = true
 | [], c, h => by simp [runN] at h
 | x :: r, c, h => by
  rw [runN] at h
  cases hx : digB x with
  | true =>
   simp only [hx, Bool.true_or, cond_true, List.take_succ_cons, List.mem_cons] at h
   rcases h with rfl | h
   ·exact hx
   ·exact runN_dig r c h
  | false => simp [hx] at h
theorem whole_spec' {H : AHeap} {s : Bs} (hs : s.length ≤ 1000000000000000000) (hd : ∀ c ∈ s, digB c = true) : W (evw P 58 [.str s] H) fun v H' => v = (match wholeN 0 s with | some z => .tuple [.int .i64 z, .bool true] | none => .tuple [.int .i64 0, .bool false]) ∧ H' = H := by
 refine W_of (fun _ => run58 (s.length + 1)) ?_
 rw [s58]
 exact whole_loop hs (s.length + 1) s 0 (s.length + 1) 0 rfl (by omega) (by omega) (by omega) (by omega) hd
theorem une9 : P.underlying 9 = some .string := by kernel_rfl
theorem sl9 {s : List UInt8} {a b : Nat} (h1 : a ≤ b) (h2 : b ≤ s.length) : aslice P 9 (.str s) (some (.int .i64 (a : Int))) (some (.int .i64 (b : Int))) none = some (.str ((s.drop a).take (b - a))) := by
 have e1 : abound (some (.int .i64 (b : Int))) s.length s.length = some b := by simp [abound]; omega
 have e2 : abound (some (.int .i64 (a : Int))) 0 b = some a := by simp [abound]; omega
 simp only [aslice, une9, e1, e2]
def onesS (s : Bs) : Bs := match s with
 | c :: _ => bif memC c onesL then [c] else []
 | [] => []
theorem ones_loop {H : AHeap} {s : Bs} {at_ : Nat} {c : UInt8} (hc : s[at_]? = some c) (N : Nat) : ∀ (rest : Bs) (j m : Nat), onesL.drop j = rest → j ≤ 18 → rest.length < m →
  W (s59_l2 (evw P) N m (.str s) (.int .i64 at_) (.str onesL) (.int .i64 j) H) fun v H' => v = .str (bif memC c rest then [c] else []) ∧ H' = H
 | _, _, 0, _, _, hm => by omega
 | [], j, m + 1, h, hj, hm => by
  have := drop_nil h
  have hl : onesL.length = 18 := rfl
  have h1 : ¬ ((j : Int) < (onesL.length : Int)) := by omega
  simp -implicitDefEqProofs (disch := first | assumption | omega | (simp only [nxB]; omega) | (simp only [oneB])) only [s59_l2, s59_j1, s59_b2, s59_j0, s59_b3, s59_35, s59, xlen, AV.cells, splice, aload, astore, Nat.reduceAdd, Nat.reduceLeDiff, reduceIte, allB, h1, decide_false]
  exact W_some.2 ⟨by simp [memC], rfl⟩
 | y :: r, j, m + 1, h, hj, hm => by
  obtain ⟨e1, e2, e3, e4⟩ := drop_cons h
  have hl : onesL.length = 18 := rfl
  have h1 : ((j : Int) < (onesL.length : Int)) := by omega
  have e1' := jx9 e1
  have hc' := jx9 hc
  have ih := ones_loop (H := H) hc N r (j + 1) m e2 (by omega) (by simp at hm; omega)
  have hsl := sl9 (s := onesL) (a := j) (b := j + 1) (by omega) (by omega)
  have e5 : (onesL.drop j).take (j + 1 - j) = [y] := by rw [h, Nat.add_sub_cancel_left]; rfl
  rw [e5] at hsl
  cases he : ((c.toNat : Int) == (y.toNat : Int)) with
  | true =>
   have hcy : c = y := by
    have : (c.toNat : Int) = (y.toNat : Int) := by simpa using he
    exact UInt8.toNat_inj.1 (by omega)
   have he2 : (c.toNat == y.toNat) = true := by rw [hcy]; simp
   simp -implicitDefEqProofs (disch := first | assumption | omega | (simp only [nxB]; omega) | (simp only [oneB])) only [s59_l2, s59_j1, s59_b2, s59_j0, s59_b3, s59_35, s59, xlen, AV.cells, splice, aload, astore, Nat.reduceAdd, Nat.reduceLeDiff, reduceIte, allB, h1, decide_true, e1', hc', he, wn1, hsl]
   exact W_some.2 ⟨by simp [memC, he2, hcy], rfl⟩
  | false =>
   have he2 : (c.toNat == y.toNat) = false := by
    have : ¬ (c.toNat : Int) = (y.toNat : Int) := by simpa using he
    simp; omega
   simp -implicitDefEqProofs (disch := first | assumption | omega | (simp only [nxB]; omega) | (simp only [oneB])) only [s59_l2, s59_j1, s59_b2, s59_j0, s59_b3, s59_35, s59, xlen, AV.cells, splice, aload, astore, Nat.reduceAdd, Nat.reduceLeDiff, reduceIte, allB, h1, decide_true, e1', hc', he, wn1]
   refine ih.mono ?_
   rintro v H' ⟨rfl, e⟩
   exact ⟨by simp [memC, he2], e⟩
theorem ones_spec {H : AHeap} {s : Bs} {at_ : Nat} {c : UInt8} (hc : s[at_]? = some c) {N : Nat} (hN : 18 < N) : W (s59_j0 (evw P) N (.str s) (.int .i64 at_) H) fun v H' => v = .str (bif memC c onesL then [c] else []) ∧ H' = H := by
 rw [s59_j0]
 exact ones_loop hc N onesL 0 N rfl (by omega) (by simp [onesL]; omega)
theorem two_loop {H : AHeap} {s : Bs} (hs : s.length ≤ 1000000000000000000) {at_ : Nat} {c : UInt8} {r : Bs} (hd : s.drop at_ = c :: r) {l : Nat} {N : Nat} (hN : 18 < N) (hg : H.get l = some (.row false 1 (twosL.map fun y => [AV.str y]))) : ∀ (rest pre : List Bs), twosL = pre ++ rest → ∀ (m : Nat), rest.length < m →
  W (s59_l3 (evw P) N m (.str s) (.int .i64 at_) (.sl l 0 5 1 (some 5)) (.int .i64 pre.length) H) fun v H' => v = .str (bif decide (2 ≤ (s.drop at_).length) && memB ((s.drop at_).take 2) rest then (s.drop at_).take 2 else bif memC c onesL then [c] else []) ∧ H' = H
 | _, _, _, 0, hm => by omega
 | [], pre, hp, m + 1, hm => by
  have hl : pre.length = 5 := by have := congrArg List.length hp; simpa [twosL] using this.symm
  have h1 : ¬ ((pre.length : Int) < ((5 : Nat) : Int)) := by omega
  obtain ⟨e1, e2, e3, e4⟩ := drop_cons hd
  simp -implicitDefEqProofs (disch := first | assumption | omega | (simp only [nxB]; omega) | (simp only [oneB])) only [s59_l3, s59_j1, s59_b3, s59_35, s59, xlen, AV.cells, splice, aload, astore, Nat.reduceAdd, Nat.reduceLeDiff, reduceIte, allB, h1, decide_false]
  refine (ones_spec e1 hN).mono ?_
  rintro v H' ⟨rfl, e⟩
  exact ⟨by simp [memB], e⟩
 | y :: ys, pre, hp, m + 1, hm => by
  obtain ⟨e1, e2, e3, e4⟩ := drop_cons hd
  have hl : pre.length + (ys.length + 1) = 5 := by have := congrArg List.length hp; simpa [twosL] using this.symm
  have h1 : ((pre.length : Int) < ((5 : Nat) : Int)) := by omega
  have h0 : (0 : Int) ≤ (pre.length : Int) := by omega
  have t1 : ((pre.length : Int)).toNat = pre.length := by omega
  have he : (twosL.map fun y => [AV.str y])[pre.length]? = some [AV.str y] := by rw [hp]; simp
  have hw : ((pre ++ [y]).length : Int) = ((pre.length + 1 : Nat) : Int) := by simp
  have ih := two_loop (H := H) hs hd hN hg ys (pre ++ [y]) (by simp [hp]) m (by simp at hm; omega)
  rw [hw] at ih
  have hdl : (s.drop at_).length = s.length - at_ := by simp
  have wsb : IntKind.i64.wrap ((s.length : Int) - (at_ : Int)) = ((s.length - at_ : Nat) : Int) := wns s.length at_ (by omega) (by omega)
  have hgl := AHeap.get_lt hg
  by_cases h2 : (2 : Int) ≤ ((s.length - at_ : Nat) : Int)
  ·have h2' : decide (2 ≤ (s.drop at_).length) = true := by rw [hdl]; simp; omega
   have hsl := sl9 (s := s) (a := at_) (b := at_ + 2) (by omega) (by omega)
   rw [Nat.add_sub_cancel_left] at hsl
   cases hc : ((s.drop at_).take 2 == y) with
   | true =>
    have hy : (s.drop at_).take 2 = y := by simpa using hc
    have hyy : (y == (s.drop at_).take 2) = true := by rw [hy]; simp
    simp -implicitDefEqProofs (disch := first | assumption | omega | (simp only [nxB]; omega) | (simp only [oneB])) only [s59_l3, s59_j1, s59_b3, s59_35, s59, xlen, AV.cells, splice, aload, astore, Nat.reduceAdd, Nat.reduceLeDiff, reduceIte, allB, h1, decide_true, wsb, h2, wn2, hsl, hg, he, t1, hc]
    exact W_some.2 ⟨by rw [memB, h2', hyy]; rw [hy]; rfl, rfl⟩
   | false =>
    have hyy : (y == (s.drop at_).take 2) = false := by
     have : ¬ (s.drop at_).take 2 = y := by simpa using hc
     simp; exact fun e => this e.symm
    simp -implicitDefEqProofs (disch := first | assumption | omega | (simp only [nxB]; omega) | (simp only [oneB])) only [s59_l3, s59_j1, s59_b3, s59_35, s59, xlen, AV.cells, splice, aload, astore, Nat.reduceAdd, Nat.reduceLeDiff, reduceIte, allB, h1, decide_true, wsb, h2, wn2, hsl, hg, he, t1, hc, wn1]
    refine ih.mono ?_
    rintro v H' ⟨rfl, e⟩
    exact ⟨by simp only [memB, hyy, Bool.false_or], e⟩
  ·have h2' : decide (2 ≤ (s.drop at_).length) = false := by rw [hdl]; simp; omega
   simp -implicitDefEqProofs (disch := first | assumption | omega | (simp only [nxB]; omega) | (simp only [oneB])) only [s59_l3, s59_j1, s59_b3, s59_35, s59, xlen, AV.cells, splice, aload, astore, Nat.reduceAdd, Nat.reduceLeDiff, reduceIte, allB, h1, decide_true, wsb, h2, decide_false, wn1]
   refine ih.mono ?_
   rintro v H' ⟨rfl, e⟩
   exact ⟨by simp only [h2', Bool.false_and], e⟩
theorem sign_spec {H : AHeap} {s : Bs} (hs : s.length ≤ 1000000000000000000) {at_ : Nat} (ha : at_ < s.length) : W (evw P 59 [.str s, .int .i64 at_] H) fun v H' => v = .str (signN (s.drop at_)) ∧ Pur H H' := by
 refine W_of (fun _ => run59 30) ?_
 obtain ⟨c, r, hd⟩ : ∃ c r, s.drop at_ = c :: r := by
  cases h : s.drop at_ with
  | nil => have := drop_nil h; omega
  | cons c r => exact ⟨c, r, rfl⟩
 rw [s59]
 simp only [xmake_some]
 rw [s59_35]
 refine (two_loop (H := H.push _) hs hd (by omega) (AHeap.get_push_same _ _) twosL [] rfl 30 (by decide)).mono ?_
 rintro v H' ⟨rfl, rfl⟩
 refine ⟨?_, Pur.push _ _⟩
 rw [hd]; rfl
theorem rem_loop {H : AHeap} {s : Bs} (hs : s.length ≤ 1000000000000000000) (L1 : AV → AV → AHeap → O) (N : Nat) (Q : AV → AHeap → Prop) : ∀ (rest : Bs) (at_ m : Nat), s.drop at_ = rest → at_ ≤ s.length → rest.length < m →
  (∀ (k : Nat), (∀ c' r', rest = c' :: r' → c'.toNat ≠ 10 → 0 < k) → at_ + k ≤ s.length → (s.drop (at_ + k)).length ≤ rest.length → k + blankN false (s.drop (at_ + k)) = blankN true rest → W (L1 (.str s) (.int .i64 ((at_ + k : Nat) : Int)) H) Q) →
  W (s32_l2 (evw P) N L1 m (.str s) (.int .i64 at_) H) Q
 | _, _, 0, _, _, hm, _ => by omega
 | [], at_, m + 1, h, ha, hm, hk => by
  have := drop_nil h
  have h1 : ¬ ((at_ : Int) < (s.length : Int)) := by omega
  simp -implicitDefEqProofs (disch := first | assumption | omega | (simp only [nxB]; omega) | (simp only [oneB])) only [s32_l2, s32_j0, s32_b2, s32, xlen, AV.cells, splice, aload, astore, Nat.reduceAdd, Nat.reduceLeDiff, reduceIte, allB, h1, decide_false]
  exact hk 0 (fun _ _ e => by cases e) ha (by simpa using congrArg List.length h) (by simp [h, blankN])
 | c :: r, at_, m + 1, h, ha, hm, hk => by
  obtain ⟨e1, e2, e3, e4⟩ := drop_cons h
  have h1 : ((at_ : Int) < (s.length : Int)) := by omega
  have e1' := jx9 e1
  cases hc : ((c.toNat : Int) != 10) with
  | false =>
   have hc' : c.toNat = 10 := by
    have : (c.toNat : Int) = 10 := by simpa using hc
    omega
   simp -implicitDefEqProofs (disch := first | assumption | omega | (simp only [nxB]; omega) | (simp only [oneB])) only [s32_l2, s32_j0, s32_b2, s32, xlen, AV.cells, splice, aload, astore, Nat.reduceAdd, Nat.reduceLeDiff, reduceIte, allB, h1, decide_true, e1', hc]
   refine hk 0 (fun _ _ e hn => by cases e; exact absurd hc' hn) ha (by simp only [Nat.add_zero, h]; omega) ?_
   simp [h, blankN, isBlank, hc']
  | true =>
   have hc' : (c.toNat == 10) = false := by
    have : ¬ (c.toNat : Int) = 10 := by simpa using hc
    simp; omega
   simp -implicitDefEqProofs (disch := first | assumption | omega | (simp only [nxB]; omega) | (simp only [oneB])) only [s32_l2, s32_j0, s32_b2, s32, xlen, AV.cells, splice, aload, astore, Nat.reduceAdd, Nat.reduceLeDiff, reduceIte, allB, h1, decide_true, e1', hc, wn1]
   refine rem_loop hs L1 N Q r (at_ + 1) m e2 (by omega) (by simp at hm; omega) (fun k _ h1 h2 h3 => ?_)
   have hka : at_ + 1 + k = at_ + (k + 1) := by omega
   rw [hka] at h1 h2 h3 ⊢
   refine hk (k + 1) (fun _ _ _ _ => by omega) h1 (by simp only [List.length_cons]; omega) ?_
   simp only [blankN, hc', cond_false]
   omega
theorem blank_loop {H : AHeap} {s : Bs} (hs : s.length ≤ 1000000000000000000) (N : Nat) (hN : s.length < N) : ∀ (q : Nat) (rest : Bs) (at_ m : Nat), rest.length ≤ q → s.drop at_ = rest → at_ ≤ s.length → rest.length < m →
  W (s32_l1 (evw P) N m (.str s) (.int .i64 at_) H) fun v H' => v = .int .i64 ((at_ + blankN false rest : Nat) : Int) ∧ H' = H
 | _, _, _, 0, _, _, _, hm => by omega
 | _, [], at_, m + 1, _, h, ha, hm => by
  have := drop_nil h
  have h1 : ¬ ((at_ : Int) < (s.length : Int)) := by omega
  simp -implicitDefEqProofs (disch := first | assumption | omega | (simp only [nxB]; omega) | (simp only [oneB])) only [s32_l1, s32_j0, s32_b1, s32, xlen, AV.cells, splice, aload, astore, Nat.reduceAdd, Nat.reduceLeDiff, reduceIte, allB, h1, decide_false]
  exact W_some.2 ⟨by simp [blankN], rfl⟩
 | 0, c :: r, at_, m + 1, hq, h, ha, hm => by simp at hq
 | q + 1, c :: r, at_, m + 1, hq, h, ha, hm => by
  obtain ⟨e1, e2, e3, e4⟩ := drop_cons h
  have h1 : ((at_ : Int) < (s.length : Int)) := by omega
  have e1' := jx9 e1
  simp only [List.length_cons] at hq hm
  have ihn : isBlank c = true → W (s32_l1 (evw P) N m (.str s) (.int .i64 ((at_ + 1 : Nat) : Int)) H) fun v H' => v = .int .i64 ((at_ + blankN false (c :: r) : Nat) : Int) ∧ H' = H := by
   intro hb
   refine (blank_loop (H := H) hs N hN q r (at_ + 1) m (by omega) e2 (by omega) (by omega)).mono ?_
   rintro v H' ⟨rfl, e⟩
   have e' : at_ + 1 + blankN false r = at_ + blankN false (c :: r) := by
    rw [blankN, hb, cond_true]; omega
   exact ⟨by rw [e'], e⟩
  have q32 : ((c.toNat : Int) == 32) = (c.toNat == 32) := by rw [Bool.eq_iff_iff]; simp; omega
  have q9 : ((c.toNat : Int) == 9) = (c.toNat == 9) := by rw [Bool.eq_iff_iff]; simp; omega
  have q10 : ((c.toNat : Int) == 10) = (c.toNat == 10) := by rw [Bool.eq_iff_iff]; simp; omega
  have q13 : ((c.toNat : Int) == 13) = (c.toNat == 13) := by rw [Bool.eq_iff_iff]; simp; omega
  cases c32 : c.toNat == 32 with
  | true =>
   simp -implicitDefEqProofs (disch := first | assumption | omega | (simp only [nxB]; omega) | (simp only [oneB])) only [s32_l1, s32_j0, s32_b1, s32, xlen, AV.cells, splice, aload, astore, Nat.reduceAdd, Nat.reduceLeDiff, reduceIte, allB, h1, decide_true, e1', q32, c32, wn1]
   exact ihn (by simp only [isBlank, c32, Bool.true_or])
  | false =>
   cases c9 : c.toNat == 9 with
   | true =>
    simp -implicitDefEqProofs (disch := first | assumption | omega | (simp only [nxB]; omega) | (simp only [oneB])) only [s32_l1, s32_j0, s32_b1, s32, xlen, AV.cells, splice, aload, astore, Nat.reduceAdd, Nat.reduceLeDiff, reduceIte, allB, h1, decide_true, e1', q32, c32, q9, c9, wn1]
    exact ihn (by simp only [isBlank, c9, Bool.true_or, Bool.or_true])
   | false =>
    cases c10 : c.toNat == 10 with
    | true =>
     simp -implicitDefEqProofs (disch := first | assumption | omega | (simp only [nxB]; omega) | (simp only [oneB])) only [s32_l1, s32_j0, s32_b1, s32, xlen, AV.cells, splice, aload, astore, Nat.reduceAdd, Nat.reduceLeDiff, reduceIte, allB, h1, decide_true, e1', q32, c32, q9, c9, q10, c10, wn1]
     exact ihn (by simp only [isBlank, c10, Bool.true_or, Bool.or_true])
    | false =>
     cases c13 : c.toNat == 13 with
     | true =>
      simp -implicitDefEqProofs (disch := first | assumption | omega | (simp only [nxB]; omega) | (simp only [oneB])) only [s32_l1, s32_j0, s32_b1, s32, xlen, AV.cells, splice, aload, astore, Nat.reduceAdd, Nat.reduceLeDiff, reduceIte, allB, h1, decide_true, e1', q32, c32, q9, c9, q10, c10, q13, c13, wn1]
      exact ihn (by simp only [isBlank, c13, Bool.or_true])
     | false =>
      have hnb : isBlank c = false := by simp only [isBlank, c32, c9, c10, c13, Bool.or_self]
      have wsb : IntKind.i64.wrap ((s.length : Int) - (at_ : Int)) = ((s.length - at_ : Nat) : Int) := wns s.length at_ (by omega) (by omega)
      have hno : (c == 47 && r.head? == some 47) = false → blankN false (c :: r) = 0 := fun hh => by rw [blankN, hnb, cond_false, hh, cond_false]
      by_cases h2 : (2 : Int) ≤ ((s.length - at_ : Nat) : Int)
      ·have hsl := sl9 (s := s) (a := at_) (b := at_ + 2) (by omega) (by omega)
       rw [Nat.add_sub_cancel_left, h] at hsl
       obtain ⟨y, ys, rfl⟩ : ∃ y ys, r = y :: ys := by
        cases r with
        | nil => simp at e4; omega
        | cons y ys => exact ⟨y, ys, rfl⟩
       simp only [List.take_succ_cons, List.take_zero] at hsl
       cases hr : (([c, y] : Bs) == [47, 47]) with
       | true =>
        have hcy : c = 47 ∧ y = 47 := by simpa using hr
        obtain ⟨rfl, rfl⟩ := hcy
        simp -implicitDefEqProofs (disch := first | assumption | omega | (simp only [nxB]; omega) | (simp only [oneB])) only [s32_l1, s32_j0, s32_b1, s32, xlen, AV.cells, splice, aload, astore, Nat.reduceAdd, Nat.reduceLeDiff, reduceIte, allB, h1, decide_true, e1', q32, c32, q9, c9, q10, c10, q13, c13, wsb, h2, wn2, hsl, hr]
        refine rem_loop hs (s32_l1 (evw P) N m) N _ (47 :: 47 :: ys) at_ N h ha (by simp only [List.length_cons] at e4 ⊢; omega) (fun k k0 k1 k2 k3 => ?_)
        have kp := k0 47 _ rfl (by decide)
        have hle : (s.drop (at_ + k)).length ≤ q := by
         simp only [List.length_drop, List.length_cons] at hq e4 ⊢
         omega
        refine (blank_loop (H := H) hs N hN q (s.drop (at_ + k)) (at_ + k) m hle rfl k1 (by simp only [List.length_drop, List.length_cons] at hm e4 ⊢; omega)).mono ?_
        rintro v H' ⟨rfl, e⟩
        have hb : blankN false (47 :: 47 :: ys) = blankN true (47 :: 47 :: ys) := by
         have e1 : blankN false (47 :: 47 :: ys) = blankN true (47 :: ys) + 1 := rfl
         have e2 : blankN true (47 :: 47 :: ys) = blankN true (47 :: ys) + 1 := rfl
         rw [e1, e2]
        refine ⟨?_, e⟩
        rw [hb, ← k3, Nat.add_assoc]
       | false =>
        have hh : (c == 47 && (y :: ys).head? == some 47) = false := by
         have : ¬ (c = 47 ∧ y = 47) := by simpa using hr
         simpa using this
        simp -implicitDefEqProofs (disch := first | assumption | omega | (simp only [nxB]; omega) | (simp only [oneB])) only [s32_l1, s32_j0, s32_b1, s32, xlen, AV.cells, splice, aload, astore, Nat.reduceAdd, Nat.reduceLeDiff, reduceIte, allB, h1, decide_true, e1', q32, c32, q9, c9, q10, c10, q13, c13, wsb, h2, wn2, hsl, hr]
        exact W_some.2 ⟨by rw [hno hh, Nat.add_zero], rfl⟩
      ·have hr : r = [] := by
        cases r with
        | nil => rfl
        | cons y ys => simp only [List.length_cons] at e4; omega
       have hh : (c == 47 && r.head? == some 47) = false := by rw [hr]; simp
       simp -implicitDefEqProofs (disch := first | assumption | omega | (simp only [nxB]; omega) | (simp only [oneB])) only [s32_l1, s32_j0, s32_b1, s32, xlen, AV.cells, splice, aload, astore, Nat.reduceAdd, Nat.reduceLeDiff, reduceIte, allB, h1, decide_true, e1', q32, c32, q9, c9, q10, c10, q13, c13, wsb, h2, decide_false]
       exact W_some.2 ⟨by rw [hno hh, Nat.add_zero], rfl⟩
theorem blank_spec {H : AHeap} {s : Bs} (hs : s.length ≤ 1000000000000000000) {at_ : Nat} (ha : at_ ≤ s.length) : W (evw P 32 [.str s, .int .i64 at_] H) fun v H' => v = .int .i64 ((at_ + blankN false (s.drop at_) : Nat) : Int) ∧ H' = H := by
 refine W_of (fun _ => run32 (s.length + 1)) ?_
 rw [s32]
 exact blank_loop hs (s.length + 1) (by omega) s.length (s.drop at_) at_ (s.length + 1) (by simp) rfl ha (by simp; omega)
end Go.Proofs.Ytnjoomfeddamcaa

namespace Go.Proofs.Ytnjoomfeddamcaa
open Go.Ev
theorem bd65w (k : Int) (x : Bs) (p : Int) : abuild P 65 [(0, .int .i64 k), (1, .str x), (3, .int .i64 p)] = some (.agg [.int .i64 k, .str x, .int .i64 0, .int .i64 p]) := by kernel_rfl
theorem bd65n (k : Int) (z : Int) (p : Int) : abuild P 65 [(0, .int .i64 k), (2, .int .i64 z), (3, .int .i64 p)] = some (.agg [.int .i64 k, .str [], .int .i64 z, .int .i64 p]) := by kernel_rfl
theorem bd65e (k : Int) (p : Int) : abuild P 65 [(0, .int .i64 k), (3, .int .i64 p)] = some (.agg [.int .i64 k, .str [], .int .i64 0, .int .i64 p]) := by kernel_rfl
theorem runN_le (d : Bool) : ∀ s : Bs, runN d s ≤ s.length
 | [] => Nat.le_refl _
 | c :: r => by
  rw [runN]
  have := runN_le d r
  cases digB c || (!d && letB c) with
  | true => simp only [cond_true, List.length_cons]; omega
  | false => simp only [cond_false, List.length_cons]; omega
def oneV (p : Nat) : Option (Int × Bs × Int × Nat) → AV
 | none => .tuple [.agg [.int .i64 0, .str [], .int .i64 0, .int .i64 0], .int .i64 0]
 | some (k, t, v, m) => .tuple [.agg [.int .i64 k, .str t, .int .i64 v, .int .i64 p], .int .i64 m]
theorem one_spec {H : AHeap} {s : Bs} (hs : s.length ≤ 1000000000000000000) {at_ : Nat} (ha : at_ < s.length) : W (evw P 33 [.str s, .int .i64 at_] H) fun v H' => v = oneV at_ (oneN (s.drop at_)) ∧ Pur H H' := by
 refine W_of (fun _ => run33 0) ?_
 obtain ⟨c, r, hd⟩ : ∃ c r, s.drop at_ = c :: r := by
  cases h : s.drop at_ with
  | nil => have := drop_nil h; omega
  | cons c r => exact ⟨c, r, rfl⟩
 obtain ⟨e1, e2, e3, e4⟩ := drop_cons hd
 have e1' := jx9 e1
 have p1 := Pur.push H (.row false 4 [[.int .i64 0, .str [], .int .i64 0, .int .i64 0]])
 have hrl := fun d => runN_le d (s.drop at_)
 have hdl : (s.drop at_).length = s.length - at_ := by simp
 simp -implicitDefEqProofs (disch := first | assumption | omega | (simp only [nxB]; omega) | (simp only [oneB])) only [s33, xlen, AV.cells, splice, aload, astore, Nat.reduceAdd, Nat.reduceLeDiff, reduceIte, allB, e1']
 refine W_call0 (letter_spec _) ?_
 cases hl : lettI (c.toNat : Int) with
 | true =>
  simp -implicitDefEqProofs (disch := first | assumption | omega | (simp only [nxB]; omega) | (simp only [oneB])) only [s33, xlen, evB]
  refine W_call0 (run_spec hs at_ (by omega) false) ?_
  have hr := hrl false
  have hsl := sl9 (s := s) (a := at_) (b := at_ + runN false (s.drop at_)) (by omega) (by omega)
  rw [Nat.add_sub_cancel_left] at hsl
  simp -implicitDefEqProofs (disch := first | assumption | omega | (simp only [nxB]; omega) | (simp only [oneB])) only [s33, xlen, evB, binB, wnn, hsl]
  refine W_call (Word_spec _) ?_
  rintro _ H2 ⟨rfl, p2⟩
  refine ⟨p2.1, ?_⟩
  have g2 : H2.get H.next = some (.row false 4 [[.int .i64 0, .str [], .int .i64 0, .int .i64 0]]) := p2.get (AHeap.get_push_same _ _)
  have l2 := AHeap.get_lt g2
  have hone : oneN (s.drop at_) = (bif wordB ((s.drop at_).take (runN false (s.drop at_))) then some (3, (s.drop at_).take (runN false (s.drop at_)), 0, runN false (s.drop at_)) else bif nameB ((s.drop at_).take (runN false (s.drop at_))) then some (1, (s.drop at_).take (runN false (s.drop at_)), 0, runN false (s.drop at_)) else none) := by
   have hlb : letB c = true := hl
   simp only [hd, oneN, hlb, cond_true]
  cases hw : wordB ((s.drop at_).take (runN false (s.drop at_))) with
  | true =>
   rw [hone, hw]
   simp -implicitDefEqProofs (disch := first | assumption | omega | (simp only [nxB]; omega) | (simp only [oneB])) only [s33, xlen, AV.cells, splice, aload, astore, Nat.reduceAdd, Nat.reduceLeDiff, reduceIte, allB, bd65w, g2]
   exact W_some.2 ⟨rfl, (p1.trans p2).then_set (Nat.le_refl _) _⟩
  | false =>
   rw [hone, hw]
   simp -implicitDefEqProofs (disch := first | assumption | omega | (simp only [nxB]; omega) | (simp only [oneB])) only [s33, xlen, evB]
   refine W_call (Name_spec (by simp only [List.length_take]; omega)) ?_
   rintro _ H3 ⟨rfl, p3⟩
   refine ⟨p3.1, ?_⟩
   have g3 := p3.get g2
   have l3 := AHeap.get_lt g3
   cases hn : nameB ((s.drop at_).take (runN false (s.drop at_))) with
   | true =>
    simp -implicitDefEqProofs (disch := first | assumption | omega | (simp only [nxB]; omega) | (simp only [oneB])) only [s33, xlen, AV.cells, splice, aload, astore, Nat.reduceAdd, Nat.reduceLeDiff, reduceIte, allB, bd65w, g3]
    exact W_some.2 ⟨rfl, ((p1.trans p2).trans p3).then_set (Nat.le_refl _) _⟩
   | false =>
    simp -implicitDefEqProofs (disch := first | assumption | omega | (simp only [nxB]; omega) | (simp only [oneB])) only [s33, xlen, AV.cells, splice, aload, astore, Nat.reduceAdd, Nat.reduceLeDiff, reduceIte, allB, g3]
    exact W_some.2 ⟨rfl, ((p1.trans p2).trans p3).then_set (Nat.le_refl _) _⟩
 | false =>
  simp -implicitDefEqProofs (disch := first | assumption | omega | (simp only [nxB]; omega) | (simp only [oneB])) only [s33, xlen, evB, e1']
  refine W_call0 (digit_spec _) ?_
  have hlb : letB c = false := hl
  have g1 : (H.push (.row false 4 [[.int .i64 0, .str [], .int .i64 0, .int .i64 0]])).get H.next = some (.row false 4 [[.int .i64 0, .str [], .int .i64 0, .int .i64 0]]) := AHeap.get_push_same _ _
  cases hg : diggI (c.toNat : Int) with
  | true =>
   have hgb : digB c = true := hg
   simp -implicitDefEqProofs (disch := first | assumption | omega | (simp only [nxB]; omega) | (simp only [oneB])) only [s33, xlen, evB]
   refine W_call0 (run_spec hs at_ (by omega) true) ?_
   have hr := hrl true
   have hsl := sl9 (s := s) (a := at_) (b := at_ + runN true (s.drop at_)) (by omega) (by omega)
   rw [Nat.add_sub_cancel_left] at hsl
   simp -implicitDefEqProofs (disch := first | assumption | omega | (simp only [nxB]; omega) | (simp only [oneB])) only [s33, xlen, evB, binB, wnn, hsl]
   refine W_call0 (whole_spec' (by simp only [List.length_take]; omega) (fun c hc => runN_dig _ c hc)) ?_
   have hone : oneN (s.drop at_) = (match wholeN 0 ((s.drop at_).take (runN true (s.drop at_))) with
    | none => none
    | some v => bif (decide (1 < runN true (s.drop at_)) && c.toNat == 48) || (decide (runN true (s.drop at_) < (s.drop at_).length) && letB (((s.drop at_)[runN true (s.drop at_)]?).getD 0)) then none else some (2, [], v, runN true (s.drop at_))) := by
    simp only [hd, oneN, hlb, hgb, cond_true, cond_false] <;> rfl
   rw [hone]
   cases hv : wholeN 0 ((s.drop at_).take (runN true (s.drop at_))) with
   | none =>
    simp -implicitDefEqProofs (disch := first | assumption | omega | (simp only [nxB]; omega) | (simp only [oneB])) only [s33, xlen, AV.cells, splice, aload, astore, Nat.reduceAdd, Nat.reduceLeDiff, reduceIte, allB, Bool.not_false, g1]
    exact W_some.2 ⟨rfl, Pur.push _ _⟩
   | some z =>
    generalize hR : runN true (s.drop at_) = R at *
    have q1 : decide (1 < R) = decide ((1 : Int) < (R : Int)) := by rw [decide_eq_decide]; omega
    have q48 : ((c.toNat : Int) == 48) = (c.toNat == 48) := by rw [Bool.eq_iff_iff]; simp; omega
    have q2 : decide (R < (s.drop at_).length) = decide (((at_ + R : Nat) : Int) < (s.length : Int)) := by rw [decide_eq_decide, hdl]; omega
    rw [q1, q2]
    simp only
    cases h1 : decide ((1 : Int) < (R : Int)) with
    | true =>
     cases h48 : c.toNat == 48 with
     | true =>
      simp -implicitDefEqProofs (disch := first | assumption | omega | (simp only [nxB]; omega) | (simp only [oneB])) only [s33, xlen, AV.cells, splice, aload, astore, Nat.reduceAdd, Nat.reduceLeDiff, reduceIte, allB, Bool.not_true, h1, e1', q48, h48, g1]
      exact W_some.2 ⟨rfl, Pur.push _ _⟩
     | false =>
      cases h2 : decide (((at_ + R : Nat) : Int) < (s.length : Int)) with
      | false =>
       simp -implicitDefEqProofs (disch := first | assumption | omega | (simp only [nxB]; omega) | (simp only [oneB])) only [s33, xlen, AV.cells, splice, aload, astore, Nat.reduceAdd, Nat.reduceLeDiff, reduceIte, allB, Bool.not_true, h1, e1', q48, h48, wnn, h2, g1, bd65n]
       exact W_some.2 ⟨rfl, Pur.push _ _⟩
      | true =>
       obtain ⟨y, hy⟩ : ∃ y, s[at_ + R]? = some y := ⟨s[at_ + R]'(by have := of_decide_eq_true h2; omega), by simp⟩
       have hy' := jx9 hy
       have hy2 : (s.drop at_)[R]? = some y := by rw [List.getElem?_drop]; exact hy
       simp -implicitDefEqProofs (disch := first | assumption | omega | (simp only [nxB]; omega) | (simp only [oneB])) only [s33, xlen, AV.cells, splice, aload, astore, Nat.reduceAdd, Nat.reduceLeDiff, reduceIte, allB, Bool.not_true, h1, e1', q48, h48, wnn, h2, hy']
       refine W_eff0 (letter_spec _) ?_
       rw [hy2]
       cases hyl : lettI (y.toNat : Int) with
       | true =>
        have hyb : letB y = true := hyl
        simp -implicitDefEqProofs (disch := first | assumption | omega | (simp only [nxB]; omega) | (simp only [oneB])) only [s33, xlen, AV.cells, splice, aload, astore, Nat.reduceAdd, Nat.reduceLeDiff, reduceIte, allB, g1, Option.getD_some, hyb]
        exact W_some.2 ⟨rfl, Pur.push _ _⟩
       | false =>
        have hyb : letB y = false := hyl
        simp -implicitDefEqProofs (disch := first | assumption | omega | (simp only [nxB]; omega) | (simp only [oneB])) only [s33, xlen, AV.cells, splice, aload, astore, Nat.reduceAdd, Nat.reduceLeDiff, reduceIte, allB, g1, bd65n, Option.getD_some, hyb]
        exact W_some.2 ⟨rfl, Pur.push _ _⟩
    | false =>
     cases h2 : decide (((at_ + R : Nat) : Int) < (s.length : Int)) with
     | false =>
      simp -implicitDefEqProofs (disch := first | assumption | omega | (simp only [nxB]; omega) | (simp only [oneB])) only [s33, xlen, AV.cells, splice, aload, astore, Nat.reduceAdd, Nat.reduceLeDiff, reduceIte, allB, Bool.not_true, h1, wnn, h2, g1, bd65n]
      exact W_some.2 ⟨rfl, Pur.push _ _⟩
     | true =>
      obtain ⟨y, hy⟩ : ∃ y, s[at_ + R]? = some y := ⟨s[at_ + R]'(by have := of_decide_eq_true h2; omega), by simp⟩
      have hy' := jx9 hy
      have hy2 : (s.drop at_)[R]? = some y := by rw [List.getElem?_drop]; exact hy
      simp -implicitDefEqProofs (disch := first | assumption | omega | (simp only [nxB]; omega) | (simp only [oneB])) only [s33, xlen, AV.cells, splice, aload, astore, Nat.reduceAdd, Nat.reduceLeDiff, reduceIte, allB, Bool.not_true, h1, wnn, h2, hy']
      refine W_eff0 (letter_spec _) ?_
      rw [hy2]
      cases hyl : lettI (y.toNat : Int) with
      | true =>
       have hyb : letB y = true := hyl
       simp -implicitDefEqProofs (disch := first | assumption | omega | (simp only [nxB]; omega) | (simp only [oneB])) only [s33, xlen, AV.cells, splice, aload, astore, Nat.reduceAdd, Nat.reduceLeDiff, reduceIte, allB, g1, Option.getD_some, hyb]
       exact W_some.2 ⟨rfl, Pur.push _ _⟩
      | false =>
       have hyb : letB y = false := hyl
       simp -implicitDefEqProofs (disch := first | assumption | omega | (simp only [nxB]; omega) | (simp only [oneB])) only [s33, xlen, AV.cells, splice, aload, astore, Nat.reduceAdd, Nat.reduceLeDiff, reduceIte, allB, g1, bd65n, Option.getD_some, hyb]
       exact W_some.2 ⟨rfl, Pur.push _ _⟩
  | false =>
   have hgb : digB c = false := hg
   simp -implicitDefEqProofs (disch := first | assumption | omega | (simp only [nxB]; omega) | (simp only [oneB])) only [s33, xlen, evB]
   refine W_call (sign_spec hs ha) ?_
   rintro _ H2 ⟨rfl, p2⟩
   refine ⟨p2.1, ?_⟩
   have g2 : H2.get H.next = some (.row false 4 [[.int .i64 0, .str [], .int .i64 0, .int .i64 0]]) := p2.get (AHeap.get_push_same _ _)
   have l2 := AHeap.get_lt g2
   have hone : oneN (s.drop at_) = (bif signN (s.drop at_) == [] then none else some (4, signN (s.drop at_), 0, (signN (s.drop at_)).length)) := by
    simp only [hd, oneN, hlb, hgb, cond_false]
   rw [hone]
   cases hsg : signN (s.drop at_) == [] with
   | true =>
    simp -implicitDefEqProofs (disch := first | assumption | omega | (simp only [nxB]; omega) | (simp only [oneB])) only [s33, xlen, AV.cells, splice, aload, astore, Nat.reduceAdd, Nat.reduceLeDiff, reduceIte, allB, hsg, g2]
    exact W_some.2 ⟨rfl, (p1.trans p2).then_set (Nat.le_refl _) _⟩
   | false =>
    simp -implicitDefEqProofs (disch := first | assumption | omega | (simp only [nxB]; omega) | (simp only [oneB])) only [s33, xlen, AV.cells, splice, aload, astore, Nat.reduceAdd, Nat.reduceLeDiff, reduceIte, allB, hsg, g2, bd65w]
    exact W_some.2 ⟨rfl, (p1.trans p2).then_set (Nat.le_refl _) _⟩
theorem sl22_1 (l : Nat) (t : Tok) : sliceOf P l 22 1 [(0, t.v)] = some (.sl l 0 1 4 (some 1), .row false 4 [t.cells]) := by
 obtain ⟨k, x, n, p⟩ := t
 kernel_rfl
theorem un22 : P.underlying 22 = some (.slice 65) := by kernel_rfl
theorem by65 : tyBytes P 65 = some 40 := by kernel_rfl
theorem az65 : azero P 65 = some (.agg [.int .i64 0, .str [], .int .i64 0, .int .i64 0]) := by kernel_rfl
theorem ap22_nil {H : AHeap} {L : Nat} {cs : List AV} {cap : Option Nat} {ro : Bool} (hg : H.get L = some (.row ro 4 [cs])) : aappend P H [22, 22] .nilSl (.sl L 0 1 4 cap) = some (.sl H.next 0 1 4 none, H.push (.row false 4 [cs])) := by
 simp [aappend, un22, ts65, by65, az65, anews, aels, hg, AV.cells]
theorem ap22_sl {H : AHeap} {L l n : Nat} {cs : List AV} {els : List (List AV)} {cap : Option Nat} {ro : Bool} (hg : H.get L = some (.row ro 4 [cs])) (hl : H.get l = some (.row false 4 els)) (hn : els.length = n) (hb : n ≤ 1000000000) : aappend P H [22, 22] (.sl l 0 n 4 none) (.sl L 0 1 4 cap) = some (.sl H.next 0 (n + 1) 4 none, (H.set l .dead).push (.row false 4 (els ++ [cs]))) := by
 have h1 : (n + 1) * 40 ≤ 140737488355328 := by omega
 have h2 : n + 1 ≤ 9223372036854775807 := by omega
 simp [aappend, un22, ts65, by65, az65, anews, aels, hg, hl, AV.cells, hn, h1, h2]
 rw [List.take_of_length_le (by omega)]
def Bld (H0 H : AHeap) (v : AV) (T : List Tok) : Prop := (v = .nilSl ∧ T = []) ∨ ∃ l, v = .sl l 0 T.length 4 none ∧ H0.next ≤ l ∧ H.get l = some (.row false 4 (T.map Tok.cells))
theorem Bld.tok {H0 H : AHeap} {v : AV} {T : List Tok} (h : Bld H0 H v T) : TokSl H v T := by
 rcases h with h | ⟨l, rfl, _, h2⟩
 ·exact .inl h
 ·refine .inr ⟨l, 0, none, rfl, .inr ⟨false, _, h2, fun k t hk => ?_⟩⟩
  simp [hk]
theorem Bld.pur {H0 H H' : AHeap} {v : AV} {T : List Tok} (h : Bld H0 H v T) (p : Pur H H') : Bld H0 H' v T := by
 rcases h with h | ⟨l, e, h1, h2⟩
 ·exact .inl h
 ·exact .inr ⟨l, e, h1, p.get h2⟩
theorem app_tok {H0 H : AHeap} {v : AV} {T : List Tok} (h : Bld H0 H v T) (p : Pur H0 H) (hT : T.length ≤ 1000000) (t : Tok) : ∃ v' H', aappend P (H.push (.row false 4 [t.cells])) [22, 22] v (.sl H.next 0 1 4 (some 1)) = some (v', H') ∧ Bld H0 H' v' (T ++ [t]) ∧ Pur H0 H' ∧ (H.push (.row false 4 [t.cells])).next ≤ H'.next ∧ (∀ l, l < H.next → (∀ e, v ≠ .sl l 0 T.length 4 e) → H'.get l = H.get l) := by
 have hg : (H.push (.row false 4 [t.cells])).get H.next = some (.row false 4 [t.cells]) := AHeap.get_push_same _ _
 rcases h with ⟨rfl, rfl⟩ | ⟨l, rfl, h1, h2⟩
 ·refine ⟨_, _, ap22_nil hg, .inr ⟨_, rfl, ?_, ?_⟩, (p.then_push _).then_push _, by simp, fun l hl _ => ?_⟩
  ·have := p.1; simp only [AHeap.next_push]; omega
  ·exact AHeap.get_push_same (H.push (.row false 4 [t.cells])) _
  ·rw [AHeap.get_push_other (by simp only [AHeap.next_push]; omega), AHeap.get_push_other (by omega)]
 ·have hl := AHeap.get_lt h2
  have h2' : (H.push (.row false 4 [t.cells])).get l = some (.row false 4 (T.map Tok.cells)) := by rw [AHeap.get_push_other (by omega)]; exact h2
  refine ⟨_, _, ap22_sl hg h2' (by simp) (by omega), .inr ⟨(H.push (.row false 4 [t.cells])).next, by simp, ?_, ?_⟩, ?_, by simp, fun j hj hne => ?_⟩
  ·have := p.1; simp only [AHeap.next_push, AHeap.next_set]; omega
  ·have e : ((H.push (.row false 4 [t.cells])).set l .dead).next = (H.push (.row false 4 [t.cells])).next := rfl
   simp only [List.map_append, List.map_cons, List.map_nil]
   rw [← e]
   exact AHeap.get_push_same _ _
  ·exact ((p.then_push _).then_set h1 _).then_push _
  ·rw [AHeap.get_push_other (by simp only [AHeap.next_push, AHeap.next_set]; omega), AHeap.get_set_other (by rintro rfl; exact hne _ rfl), AHeap.get_push_other (by omega)]
end Go.Proofs.Ytnjoomfeddamcaa

namespace Go.Proofs.Ytnjoomfeddamcaa
open Go.Ev
theorem runN_pos (d : Bool) (c : UInt8) (r : Bs) (h : (digB c || (!d && letB c)) = true) : 1 ≤ runN d (c :: r) := by
 rw [runN, h]; simp
theorem signN_le (s : Bs) : (signN s).length ≤ s.length := by
 unfold signN
 cases decide (2 ≤ s.length) && memB (s.take 2) twosL with
 | true => simp only [cond_true, List.length_take]; omega
 | false =>
  simp only [cond_false]
  cases s with
  | nil => simp
  | cons c r => simp only [List.length_cons]; cases memC c onesL <;> simp
theorem oneN_len {s : Bs} {k : Int} {t : Bs} {v : Int} {m : Nat} (h : oneN s = some (k, t, v, m)) : 1 ≤ m ∧ m ≤ s.length := by
 cases s with
 | nil => simp [oneN] at h
 | cons c r =>
  have hr := fun d => runN_le d (c :: r)
  rw [oneN] at h
  cases hl : letB c with
  | true =>
   have hp := runN_pos false c r (by simp [hl])
   rw [hl, cond_true] at h
   cases hw : wordB ((c :: r).take (runN false (c :: r))) with
   | true => rw [hw, cond_true] at h; cases h; exact ⟨hp, hr false⟩
   | false =>
    rw [hw, cond_false] at h
    cases hn : nameB ((c :: r).take (runN false (c :: r))) with
    | true => rw [hn, cond_true] at h; cases h; exact ⟨hp, hr false⟩
    | false => rw [hn, cond_false] at h; cases h
  | false =>
   rw [hl, cond_false] at h
   cases hd : digB c with
   | true =>
    have hp := runN_pos true c r (by simp [hd])
    rw [hd, cond_true] at h
    split at h
    ·cases h
    ·rename_i z hz
     rw [Bool.cond_eq_ite] at h
     split at h
     ·cases h
     ·cases h; exact ⟨hp, hr true⟩
   | false =>
    rw [hd, cond_false] at h
    cases hs : signN (c :: r) == [] with
    | true => rw [hs, cond_true] at h; cases h
    | false =>
     rw [hs, cond_false] at h
     cases h
     have hne : ¬ signN (c :: r) = [] := by simpa using hs
     have := signN_le (c :: r)
     exact ⟨List.length_pos_iff.2 hne, this⟩
theorem blankN_le : ∀ (s : Bs) (b : Bool), blankN b s ≤ s.length
 | [], b => by cases b <;> simp [blankN]
 | c :: r, true => by
  have h1 := blankN_le r true
  have h2 := blankN_le r false
  rw [blankN]
  cases c.toNat == 10 <;> simp only [cond_true, cond_false, List.length_cons] <;> omega
 | c :: r, false => by
  have h1 := blankN_le r true
  have h2 := blankN_le r false
  rw [blankN]
  cases isBlank c
  ·cases (c == 47 && r.head? == some 47) <;> simp only [cond_true, cond_false, List.length_cons] <;> omega
  ·simp only [cond_true, List.length_cons]; omega
def TokPost (H0 : AHeap) (x : List Tok × Int × Int) (r : AV) (H' : AHeap) : Prop := ∃ tv, r = .tuple [tv, .agg [.int .i64 x.2.1, .int .i64 x.2.2]] ∧ TokSl H' tv x.1 ∧ Pur H0 H'
def lexR (T : List Tok) : Nat ⊕ List Tok → List Tok × Int × Int
 | .inl e => ([], 1, e)
 | .inr l => (T ++ l, 0, 0)
theorem bd25w (k p : Int) : abuild P 25 [(0, .int .i64 k), (1, .int .i64 p)] = some (.agg [.int .i64 k, .int .i64 p]) := by kernel_rfl
theorem tok_loop {H0 : AHeap} {s : Bs} (hs : s.length ≤ 100000) (N : Nat) : ∀ (n : Nat) (rest : Bs) (at_ m : Nat) (T : List Tok) (v : AV) (H : AHeap), s.drop at_ = rest → at_ ≤ s.length → Bld (H0.push (.row false 2 [[.int .i64 0, .int .i64 0]])) H v T → Pur (H0.push (.row false 2 [[.int .i64 0, .int .i64 0]])) H → T.length ≤ at_ → rest.length < n → rest.length < m →
  W (s15_l1 (evw P) N m (.str s) (.ptr H0.next 0 0) v (.int .i64 at_) H) (TokPost H0 (lexR T (lexL n rest at_)))
 | 0, _, _, _, _, _, _, _, _, _, _, _, hn, _ => by omega
 | _, _, _, 0, _, _, _, _, _, _, _, _, _, hm => by omega
 | n + 1, [], at_, m + 1, T, v, H, h, ha, hb, p, hT, hn, hm => by
  have hlen := drop_nil h
  have h1 : ¬ ((at_ : Int) < (s.length : Int)) := by omega
  have hat : s.length = at_ := by omega
  have g : H.get H0.next = some (.row false 2 [[.int .i64 0, .int .i64 0]]) := p.get (AHeap.get_push_same _ _)
  have gl := AHeap.get_lt g
  obtain ⟨v', H', ea, hb', p', hnx, hkeep⟩ := app_tok hb p (by omega) ⟨0, [], 0, s.length⟩
  have hsl := sl22_1 H.next ⟨0, [], 0, s.length⟩
  simp only [Tok.v] at hsl
  simp -implicitDefEqProofs (disch := first | assumption | omega | (simp only [nxB]; omega) | (simp only [oneB])) only [s15_l1, s15_j0, s15_13, s15_b1, s15_29, s15, xlen, AV.cells, splice, aload, astore, Nat.reduceAdd, Nat.reduceLeDiff, reduceIte, allB, h1, decide_false, bd65e, hsl, ea, xcall_some]
  have g' : H'.get H0.next = some (.row false 2 [[.int .i64 0, .int .i64 0]]) := by
   rw [hkeep _ gl ?_]; exact g
   intro e he
   rcases hb with ⟨rfl, _⟩ | ⟨l, rfl, hl, _⟩
   ·cases he
   ·cases he; simp only [AHeap.next_push] at hl; omega
  have gl' := AHeap.get_lt g'
  have hrd : rdIs (some (.agg [.int .i64 0, .int .i64 0])) (.agg [.int .i64 0, .int .i64 0]) = true := by simp [rdIs, AV.beq, AVs.beq]
  simp -implicitDefEqProofs (disch := first | assumption | omega | (simp only [nxB]; omega) | (simp only [oneB])) only [s15_j0, s15_13, s15_b1, s15_29, s15, xlen, AV.cells, splice, aload, astore, Nat.reduceAdd, Nat.reduceLeDiff, reduceIte, allB, g', hrd]
  have p0 : Pur H0 H' := (Pur.push _ _).trans p'
  have ps : Pur H0 (H'.set H0.next (.row false 2 [[.int .i64 0, .int .i64 0]])) := p0.then_set (Nat.le_refl _) _
  refine W_some.2 ⟨v', rfl, ?_, ps⟩
  rw [lexL]
  simp only [lexR]
  rw [hat] at hb'
  exact hb'.tok.keep fun l ro els e => by
   rw [AHeap.get_set_other]; exact e
   rintro rfl
   rw [g'] at e; cases e
 | n + 1, c :: r, at_, m + 1, T, v, H, h, ha, hb, p, hT, hn, hm => by
  obtain ⟨e1, e2, e3, e4⟩ := drop_cons h
  have h1 : ((at_ : Int) < (s.length : Int)) := by omega
  have g : H.get H0.next = some (.row false 2 [[.int .i64 0, .int .i64 0]]) := p.get (AHeap.get_push_same _ _)
  have gl := AHeap.get_lt g
  simp -implicitDefEqProofs (disch := first | assumption | omega | (simp only [nxB]; omega) | (simp only [oneB])) only [s15_l1, s15_j0, s15_13, s15_b1, s15_29, s15, xlen, AV.cells, splice, aload, astore, Nat.reduceAdd, Nat.reduceLeDiff, reduceIte, allB, h1, decide_true]
  refine W_call (one_spec (by omega) e3) ?_
  rintro _ H2 ⟨rfl, p2⟩
  refine ⟨p2.1, ?_⟩
  have g2 := p2.get g
  have gl2 := AHeap.get_lt g2
  have hb2 := hb.pur p2
  replace p := p.trans p2
  rw [h, lexL]
  cases ho : oneN (c :: r) with
  | none =>
   simp only [oneV]
   simp -implicitDefEqProofs (disch := first | assumption | omega | (simp only [nxB]; omega) | (simp only [oneB])) only [s15_j0, s15_13, s15_b1, s15_29, s15, xlen, AV.cells, splice, aload, astore, Nat.reduceAdd, Nat.reduceLeDiff, reduceIte, allB, bd25w, beq_self_eq_true, g2, AHeap.push_set_lt]
   have hrd : rdIs (some (.agg [.int .i64 1, .int .i64 at_])) (.agg [.int .i64 1, .int .i64 at_]) = true := by simp [rdIs, AV.beq, AVs.beq]
   refine W_some.2 ⟨.nilSl, rfl, .inl ⟨rfl, rfl⟩, ?_⟩
   exact (((Pur.push _ _).trans p).then_set (Nat.le_refl _) _).then_push _
  | some q =>
   obtain ⟨k, t, z, b⟩ := q
   obtain ⟨b1, b2⟩ := oneN_len ho
   have hb0 : ((b : Int) == 0) = false := by simp; omega
   simp only [oneV]
   simp only [List.length_cons] at b2 hn hm
   obtain ⟨v', H', ea, hb', p', hnx, hkeep⟩ := app_tok (hb2.pur (Pur.push H2 (.row false 4 [Tok.cells ⟨k, t, z, at_⟩]))) (p.then_push _) (by omega) ⟨k, t, z, at_⟩
   have hsl := sl22_1 (H2.next + 1) ⟨k, t, z, at_⟩
   simp only [Tok.v] at hsl
   simp only [Tok.cells, AHeap.next_push] at ea hnx
   simp only [Tok.cells] at hsl
   have hrd : ∀ HH : AHeap, rdIs (some (.agg [.int .i64 k, .str t, .int .i64 z, .int .i64 at_])) (.agg [.int .i64 k, .str t, .int .i64 z, .int .i64 at_]) = true := fun _ => by simp [rdIs, AV.beq, AVs.beq]
   simp -implicitDefEqProofs (disch := first | assumption | omega | (simp only [nxB]; omega) | (simp only [oneB])) only [s15_j0, s15_13, s15_b1, s15_29, s15, xlen, AV.cells, splice, aload, astore, Nat.reduceAdd, Nat.reduceLeDiff, reduceIte, allB, hb0, hsl, ea, xcall_some, wnn]
   have hd2 : s.drop (at_ + b) = (c :: r).drop b := by rw [← List.drop_drop, h]
   have hbl := blankN_le ((c :: r).drop b) false
   simp only [List.length_drop, List.length_cons] at hbl
   refine W_call0 (blank_spec (by omega) (at_ := at_ + b) (by omega)) ?_
   rw [hd2]
   simp only [s15_13]
   have hbl' : at_ + b + blankN false ((c :: r).drop b) ≤ s.length := by omega
   have ih := tok_loop hs N n (s.drop (at_ + b + blankN false ((c :: r).drop b))) (at_ + b + blankN false ((c :: r).drop b)) m (T ++ [⟨k, t, z, at_⟩]) v' H' rfl hbl' hb' p' (by simp; omega) (by simp; omega) (by simp; omega)
   refine ih.mono ?_
   rintro w H'' ⟨tv, q1, q2, q3⟩
   have hdd : s.drop (at_ + b + blankN false ((c :: r).drop b)) = ((c :: r).drop b).drop (blankN false ((c :: r).drop b)) := by rw [← List.drop_drop, hd2]
   rw [hdd] at q1 q2
   have hE : lexR (T ++ [⟨k, t, z, at_⟩]) (lexL n (((c :: r).drop b).drop (blankN false ((c :: r).drop b))) (at_ + b + blankN false ((c :: r).drop b))) = lexR T (match lexL n (((c :: r).drop b).drop (blankN false ((c :: r).drop b))) (at_ + b + blankN false ((c :: r).drop b)) with
     | .inl e => .inl e
     | .inr l => .inr (⟨k, t, z, at_⟩ :: l)) := by
    cases lexL n (((c :: r).drop b).drop (blankN false ((c :: r).drop b))) (at_ + b + blankN false ((c :: r).drop b)) with
    | inl e => rfl
    | inr l => simp [lexR]
   rw [hE] at q1 q2
   exact ⟨tv, q1, q2, q3⟩
theorem Tokens_spec {H : AHeap} (s : Bs) : W (evw P 15 [.str s] H) (TokPost H (tokensS s)) := by
 refine W_of (fun _ => run15 (s.length + 1)) ?_
 by_cases h6 : (6000 : Int) < (s.length : Int)
 ·have h6' : 6000 < s.length := by omega
  simp -implicitDefEqProofs (disch := first | assumption | omega | (simp only [nxB]; omega) | (simp only [oneB])) only [s15_j0, s15_13, s15_b1, s15_29, s15, xlen, AV.cells, splice, aload, astore, Nat.reduceAdd, Nat.reduceLeDiff, reduceIte, allB, h6, decide_true]
  refine W_some.2 ⟨.nilSl, by simp [tokensS, h6'], .inl ⟨rfl, by simp [tokensS, h6']⟩, Pur.push _ _⟩
 ·have h6' : ¬ 6000 < s.length := by omega
  simp -implicitDefEqProofs (disch := first | assumption | omega | (simp only [nxB]; omega) | (simp only [oneB])) only [s15_j0, s15_13, s15_29, s15, xlen, AV.cells, splice, aload, astore, Nat.reduceAdd, Nat.reduceLeDiff, reduceIte, allB, h6, decide_false]
  refine W_call0 (blank_spec (s := s) (by omega) (at_ := 0) (by omega)) ?_
  simp only [List.drop_zero, Nat.zero_add, s15_29]
  have hbl := blankN_le s false
  refine (tok_loop (H0 := H) (by omega) (s.length + 1) (s.length + 1) (s.drop (blankN false s)) (blankN false s) (s.length + 1) [] .nilSl _ rfl hbl (.inl ⟨rfl, rfl⟩) (.refl _) (by simp) (by simp; omega) (by simp; omega)).mono ?_
  rintro v H' ⟨tv, q1, q2, q3⟩
  have hE : lexR [] (lexL (s.length + 1) (s.drop (blankN false s)) (blankN false s)) = tokensS s := by
   simp only [tokensS, if_neg h6', lexS]
   cases lexL (s.length + 1) (s.drop (blankN false s)) (blankN false s) <;> rfl
  rw [hE] at q1 q2
  exact ⟨tv, q1, q2, q3⟩
end Go.Proofs.Ytnjoomfeddamcaa

namespace Go.Proofs.Ytnjoomfeddamcaa
open Go.Ev
theorem lexL_len : ∀ (n : Nat) (rest : Bs) (p : Nat) (l : List Tok), lexL n rest p = .inr l → l.length ≤ rest.length + 1
 | 0, _, _, _, h => by simp [lexL] at h
 | n + 1, [], p, l, h => by simp [lexL] at h; subst h; simp
 | n + 1, c :: r, p, l, h => by
  rw [lexL] at h
  cases ho : oneN (c :: r) with
  | none => rw [ho] at h; simp at h
  | some q =>
   obtain ⟨k, t, z, b⟩ := q
   obtain ⟨b1, b2⟩ := oneN_len ho
   rw [ho] at h
   simp only at h
   cases hl : lexL n (((c :: r).drop b).drop (blankN false ((c :: r).drop b))) (p + b + blankN false ((c :: r).drop b)) with
   | inl e => rw [hl] at h; cases h
   | inr l' =>
    rw [hl] at h
    cases h
    have := lexL_len n _ _ l' hl
    simp only [List.length_drop, List.length_cons] at this b2 ⊢
    omega
theorem tokensS_len (s : Bs) : (tokensS s).1.length ≤ s.length + 1 := by
 unfold tokensS
 split
 ·simp
 ·cases h : lexS s with
  | inl e => simp
  | inr l =>
   have := lexL_len _ _ _ l h
   simp only [List.length_drop] at this
   simp only
   omega
end Go.Proofs.Ytnjoomfeddamcaa

namespace Go.Proofs.Ytnjoomfeddamcaa
open Go.Ev
set_option maxRecDepth 100000
noncomputable section
def s13_j1 (G : CallT) (N : Nat) (x0 x5 : AV) (x6 x7 : AV) (H : AHeap) : O :=
 xb (fbin P .add 9 false x6 x7) fun x34 =>
 xcall H (G 15 [x34] H) fun x35 h1 =>
 xb (aextract x35 0) fun x36 =>
 xb (aextract x35 1) fun x37 =>
 xalloc h1 [(.int .i64 0), (.int .i64 0)] fun x10 h2 =>
 xstore h2 (astore P h2 25 x10 x37) fun h3 =>
 xcall h3 (G 28 [x36, (.int .i64 0), (.int .i64 0)] h3) fun x40 h4 =>
 xb (aextract x40 0) fun x41 =>
 xb (aextract x40 1) fun x42 =>
 xb (aextract x40 2) fun x43 =>
 xalloc h4 [(.int .i64 0), (.str []), (.str []), (.int .i64 0), AV.nilSl, AV.nilSl, AV.nilSl, (.int .i64 0), (.int .i64 0)] fun x11 h5 =>
 xalloc h5 [(.int .i64 0), (.int .i64 0)] fun x13 h6 =>
 xstore h6 (astore P h6 54 x11 x41) fun h7 =>
 xstore h7 (astore P h7 25 x13 x43) fun h8 =>
 xb (fbin P .leq 3 true x0 (.int .i64 50)) fun x45 =>
 xif (some x45) (xb (afieldAddr P 25 x13 0) fun x46 =>
 xb (aload P h8 23 x46) fun x47 =>
 xb (fbin P .eql 23 true x47 (.int .i64 0)) fun x48 =>
 xg x48 true h8 (qv x42) fun x50 h9 =>
 xg x48 true h9 (qv x36) fun x51 h10 =>
 xg x48 true h10 (fun q => xboth (abuiltin P .empty .len [22] [x51]) (abuiltin P h10 .len [22] [x51]) q) fun x52 h11 =>
 xg x48 true h11 (qp (fbin P .sub 3 true x52 (.int .i64 1))) fun x53 h12 =>
 xg x48 true h12 (qp (fbin P .eql 3 false x50 x53)) fun x54 h13 =>
 xb (pickOf x48 (some x54) (some (.bool false))) fun x55 =>
 xg x55 true h13 (qp (afieldAddr P 54 x11 3)) fun x57 h14 =>
 xg x55 true h14 (qr (aload P h14 35 x57)) fun x58 h15 =>
 xg x55 true h15 (fun q => xboth (abuiltin P .empty .len [35] [x58]) (abuiltin P h15 .len [35] [x58]) q) fun x59 h16 =>
 xg x55 true h16 (qp (fbin P .eql 3 true x59 (.int .i64 1))) fun x60 h17 =>
 xb (pickOf x55 (some x60) (some (.bool false))) fun x61 =>
 xg x61 true h17 (fun q => xeff h17 (G 26 [] h17) q) fun x63 h18 =>
 xb (pickOf x61 (some x63) (some (.bool false))) fun x64 =>
 some (x64, h18)) (xb (aload P h8 25 x13) fun x65 =>
 xlen P .len [9] [x5] h8 fun x67 =>
 xb (fbin P .mul 3 true (.int .i64 51) x67) fun x68 =>
 xb (fbin P .sub 3 true x68 (.int .i64 1)) fun x69 =>
 xb (abuild P 25 [(0, (.int .i64 4)), (1, x69)]) fun x70 =>
 xb (fbin P .eql 25 false x65 x70) fun x71 =>
 xg x71 true h8 (qv x42) fun x73 h9 =>
 xg x71 true h9 (qp (fbin P .eql 3 true x73 (.int .i64 0))) fun x74 h10 =>
 xb (pickOf x71 (some x74) (some (.bool false))) fun x75 =>
 xg x75 true h10 (fun q => xeff h10 (G 26 [] h10) q) fun x77 h11 =>
 xb (pickOf x75 (some x77) (some (.bool false))) fun x78 =>
 some (x78, h11))
theorem s13_j1_eq (G : CallT) (N : Nat) : ∀ R H, codeC P G N (Code.snd (Code.snd (Code.snd (Code.snd (Code.snd (Code.snd (bodyOf Try.f13))))))) (rC Try.f13) [] (rC Try.f13) R H = s13_j1 G N (R 0) (R 5) (R 6) (R 7) H := by
 refine via_trans (via_leaf _) fun R H => ?_
 delta s13_j1
 kernel_rfl
def s13_b2 (G : CallT) (N : Nat) (L2 : AV → AV → AV → AV → AV → AHeap → O) (x0 x5 : AV) (x6 x7 x8 : AV) (H : AHeap) : O :=
 xb (fbin P .lss 3 false x8 x0) fun x23 =>
 xif (some x23) (xb (fbin P .add 9 false x6 x5) fun x28 =>
 xb (fbin P .add 9 true x7 (.str [125])) fun x30 =>
 xb (fbin P .add 3 true x8 (.int .i64 1)) fun x25 =>
 L2 x0 x5 x28 x30 x25 H) (s13_j1 G N x0 x5 x6 x7 H)
def s13_l2 (G : CallT) (N : Nat) : Nat → AV → AV → AV → AV → AV → AHeap → O
 | 0, _, _, _, _, _, _ => none
 | n + 1, x0, x5, x6, x7, x8, H => s13_b2 G N (s13_l2 G N n) x0 x5 x6 x7 x8 H
theorem s13_b2_eq (G : CallT) (N : Nat) (L2 : AV → AV → AV → AV → AV → AHeap → O) : ∀ R H, codeC P G N (Code.fst (Code.fst (Code.snd (Code.fst (Code.snd (Code.snd (Code.snd (Code.snd (Code.snd (bodyOf Try.f13)))))))))) (fun R H => L2 (R 0) (R 5) (R 6) (R 7) (R 8) H) [(0, (fun R H => s13_j1 G N (R 0) (R 5) (R 6) (R 7) H))] (rC Try.f13) R H = s13_b2 G N L2 (R 0) (R 5) (R 6) (R 7) (R 8) H := by
 refine via_trans (via_leaf _) fun R H => ?_
 delta s13_b2
 generalize s13_j1 G N = J0
 revert J0
 refine id ?_
 intro J0
 kernel_rfl
def s13_j0 (G : CallT) (N : Nat) (x0 x5 : AV) (H : AHeap) : O :=
 s13_l2 G N N x0 x5 (.str []) (.str []) (.int .i64 0) H
theorem s13_j0_eq (G : CallT) (N : Nat) : ∀ R H, codeC P G N (Code.snd (Code.snd (Code.snd (Code.snd (bodyOf Try.f13))))) (rC Try.f13) [] (rC Try.f13) R H = s13_j0 G N (R 0) (R 5) H := by
 refine via_trans ((via_seq (by kernel_rfl) ((via_seq (by kernel_rfl) (s13_j1_eq G N) ((via_seq (by kernel_rfl) ((via_block (by kernel_rfl) ((via_loop (k := fun m R H => s13_l2 G N m (R 0) (R 5) (R 6) (R 7) (R 8) H) (by kernel_rfl) (fun R H => by kernel_rfl) (fun m => s13_b2_eq G N (s13_l2 G N m)))))) (via_leaf _))))) (via_leaf _))) fun R H => ?_
 delta s13_j0
 generalize s13_l2 G N N = J0
 revert J0
 refine id ?_
 intro J0
 kernel_rfl
def s13 (G : CallT) (N : Nat) (x0 x1 : AV) (H : AHeap) : O :=
 xb (fbin P .lss 3 true x0 (.int .i64 1)) fun x15 =>
 xg x15 false H (qv x0) fun x17 h1 =>
 xg x15 false h1 (qp (fbin P .gtr 3 true x17 (.int .i64 60))) fun x18 h2 =>
 xb (pickOf x15 (some (.bool true)) (some x18)) fun x19 =>
 xif (some x19) (some ((.bool true), h2)) (xif (some x1) (s13_j0 G N x0 (.str [119, 104, 105, 108, 101, 32, 98, 32, 123]) h2) (s13_j0 G N x0 (.str [105, 102, 32, 98, 32, 123]) h2))
theorem s13_eq (G : CallT) (N : Nat) (x0 : AV) (x1 : AV) (H : AHeap) : cF Try.f13 G N (argsF [x0, x1]) H = s13 G N x0 x1 H := by
 refine via_top (A := cF Try.f13 G N) ((via_seq (by kernel_rfl) ((via_seq (by kernel_rfl) ((via_seq (by kernel_rfl) ((via_seq (by kernel_rfl) (s13_j0_eq G N) (via_leaf _))) (via_leaf _))) (via_leaf _))) (via_leaf _))) ?_
 delta s13
 generalize s13_j0 G N = J0
 revert J0
 refine id ?_
 intro J0
 kernel_rfl
theorem run13 (N : Nat) {x0 x1 : AV} {H : AHeap} {r : AV × AHeap} (h : s13 (evw P) N x0 x1 H = some r) : evw P 13 [x0, x1] H = some r :=
 runF Try.func13 (by kernel_rfl) (by kernel_rfl) (by kernel_rfl) ((s13_eq (evw P) N x0 x1 H).trans h)
end
end Go.Proofs.Ytnjoomfeddamcaa
namespace Go.Proofs.Ytnjoomfeddamcaa
open Go.Ev
theorem TokSl.len6 {H : AHeap} {tv : AV} {T : List Tok} (h : TokSl H tv T) (H' : AHeap) : abuiltin P H' .len [22] [tv] = some (.int .i64 T.length) := by
 rcases h with ⟨rfl, rfl⟩ | ⟨l, i, cap, rfl, _⟩
 ·exact ln22n
 ·exact ln22
theorem deep4_loop {G : CallT} {N : Nat} {n : Nat} (hn : n ≤ 60) {a : Bs} (ha : a.length ≤ 9) {H : AHeap} {Q : AV → AHeap → Prop} (hQ : W (s13_j1 G N (.int .i64 n) (.str a) (.str (rep4 a n)) (.str (rep4 [125] n)) H) Q) :
  ∀ (j i m : Nat), i + j = n → j < m → W (s13_l2 G N m (.int .i64 n) (.str a) (.str (rep4 a i)) (.str (rep4 [125] i)) (.int .i64 i) H) Q
 | _, _, 0, _, hm => by omega
 | 0, i, m + 1, hij, hm => by
  obtain rfl : i = n := by omega
  have h1 : ¬ ((i : Int) < (i : Int)) := by omega
  simp -implicitDefEqProofs (disch := first | assumption | omega | (simp only [nxB]; omega) | (simp only [oneB])) only [s13_l2, s13_b2, xlen, evB, binB, h1, decide_false]
  exact hQ
 | j + 1, i, m + 1, hij, hm => by
  have h1 : ((i : Int) < (n : Int)) := by omega
  have l1 := rep4_len a i
  have l2 := rep4_len [125] i
  have m1 : i * a.length ≤ 60 * 9 := Nat.mul_le_mul (by omega) ha
  simp only [List.length_cons, List.length_nil] at l2
  have a1 : fbin P .add 9 false (.str (rep4 a i)) (.str a) = some (.str (rep4 a (i + 1))) := fbin_sadd _ _ (rep4 a i) a (by omega)
  have a2 : fbin P .add 9 true (.str (rep4 [125] i)) (.str [125]) = some (.str (rep4 [125] (i + 1))) := fbin_sadd _ _ (rep4 [125] i) [125] (by simp only [List.length_cons, List.length_nil]; omega)
  have hw : IntKind.i64.wrap ((i : Int) + 1) = ((i + 1 : Nat) : Int) := by rw [wrap_i64 (by omega) (by omega)]; omega
  simp -implicitDefEqProofs (disch := first | assumption | omega | (simp only [nxB]; omega) | (simp only [oneB])) only [s13_l2, s13_b2, xlen, evB, binB, h1, decide_true, a1, a2, hw]
  exact deep4_loop hn ha hQ j (i + 1) m (by omega) (by omega)
theorem deep4_end {H : AHeap} (b : Bool) {n : Nat} (hn : n ≤ 60) (h1 : 1 ≤ n) (N : Nat) : W (s13_j1 (evb P 26 true) N (.int .i64 n) (.str (deepA4 b)) (.str (rep4 (deepA4 b) n)) (.str (rep4 [125] n)) H) fun v H' => v = .bool true ∧ H.next ≤ H'.next := by
 have la : (deepA4 b).length ≤ 9 ∧ 6 ≤ (deepA4 b).length := by cases b <;> simp [deepA4]
 have l1 := rep4_len (deepA4 b) n
 have l2 := rep4_len [125] n
 have m1 : n * (deepA4 b).length ≤ 60 * 9 := Nat.mul_le_mul (by omega) la.1
 simp only [List.length_cons, List.length_nil] at l2
 have a1 : fbin P .add 9 false (.str (rep4 (deepA4 b) n)) (.str (rep4 [125] n)) = some (.str (rep4 (deepA4 b) n ++ rep4 [125] n)) := fbin_sadd _ _ _ _ (by omega)
 have htk := deep4_toks b hn
 obtain ⟨e, s, hst, hes, hres⟩ := deep4 b hn (n - 1) 0 300 (by omega) (by omega) (by omega)
 have hs0 : startS 0 0 = ⟨((3 * 0 : Nat) : Int), ((0 : Nat) : Int), 0, 0⟩ := by simp [startS]
 have hT : ((List.range (4 * n + 1)).map (tk4 b n)).length = 4 * n + 1 := by simp
 rw [s13_j1]
 simp -implicitDefEqProofs (disch := first | assumption | omega | (simp only [nxB]; omega) | (simp only [oneB])) only [xlen, evB, a1]
 rw [evb_other (by decide)]
 refine W_call (Tokens_spec _) ?_
 rintro _ H1 ⟨tv, rfl, ht, p1⟩
 refine ⟨p1.1, ?_⟩
 rw [htk] at ht
 generalize tokensS (rep4 (deepA4 b) n ++ rep4 [125] n) = tk at ht
 generalize (List.range (4 * n + 1)).map (tk4 b n) = T at ht hT hst
 simp -implicitDefEqProofs (disch := first | assumption | omega | (simp only [nxB]; omega) | (simp only [oneB])) only [xlen, AV.cells, splice, aload, astore, Nat.reduceAdd, Nat.reduceLeDiff, reduceIte, allB]
 rw [evb_other (by decide)]
 refine W_call (kstmt_spec (n := 300) (by omega) (by omega) (ht.pur (Pur.push H1 _)) 0 0 (by rw [hs0]; exact hst)) ?_
 rintro _ H2 ⟨v2, rfl, hv2, p2⟩
 refine ⟨p2.1, ?_⟩
 have hcnt := fun H' => ht.len6 H'
 have b1 := p1.1
 have b2 := p2.1
 simp only [AHeap.next_push] at b2
 by_cases h50 : n ≤ 50
 ·rw [if_pos h50] at hres
  have hps : parseM e s = (e, ((3 * n + (n - 0) : Nat) : Int), 0, 0) := by simp [parseM, hres]
  rw [hps] at hv2 ⊢
  cases e with | mk a es bb cc =>
  obtain ⟨ev, bv, cv, rfl, k1, k2, k3⟩ := StV_mk.1 hv2
  have o1 := k1.oneAV
  have o2 := k2.oneAV
  have o3 := k3.oneAV
  have hes' : es.length = 1 := hes
  have c35 := k1.cnt
  rw [hes'] at c35
  have hle : ((n : Int) ≤ 50) := by omega
  have w1 : IntKind.i64.wrap ((T.length : Int) - 1) = ((3 * n + (n - 0) : Nat) : Int) := by
   rw [hT, wrap_i64 (by omega) (by omega)]; omega
  have z1 : ((1 : Nat) : Int) = 1 := rfl
  simp only [Sa.cells]
  simp -implicitDefEqProofs (disch := first | assumption | omega | (simp only [nxB]; omega) | (simp only [oneB])) only [xlen, AV.cells, splice, aload, astore, Nat.reduceAdd, Nat.reduceLeDiff, reduceIte, allB, tyC, AHeap.push_set_lt, o1, o2, o3, List.append_nil, hle, decide_true, hcnt, w1, c35, z1, beq_self_eq_true, evb_self, xeff, Nat.le_refl]
  exact W_some.2 ⟨rfl, by simp only [AHeap.next_push]; omega⟩
 ·rw [if_neg h50] at hres
  obtain ⟨cs, rfl, n2, o2⟩ := hv2.cells
  have hne : s.fe ≠ 0 := by rw [hres.1]; decide
  have hps : parseM e s = (.zero, 0, 4, 51 * ((deepA4 b).length : Int) - 1) := by simp [parseM, hres]
  rw [hps]
  have hle : ¬ ((n : Int) ≤ 50) := by omega
  have mul3 : ∀ t : Bool, fbin P .mul 3 t (.int .i64 51) (.int .i64 ((deepA4 b).length : Int)) = some (.int .i64 (IntKind.i64.wrap (51 * ((deepA4 b).length : Int)))) := fun t => fbin_mul _ _ _ _ _
  have w1 : IntKind.i64.wrap (51 * ((deepA4 b).length : Int)) = 51 * ((deepA4 b).length : Int) := wrap_i64 (by omega) (by omega)
  have w2 : IntKind.i64.wrap (51 * ((deepA4 b).length : Int) - 1) = 51 * ((deepA4 b).length : Int) - 1 := wrap_i64 (by omega) (by omega)
  simp -implicitDefEqProofs (disch := first | assumption | omega | (simp only [nxB]; omega) | (simp only [oneB])) only [xlen, AV.cells, splice, aload, astore, Nat.reduceAdd, Nat.reduceLeDiff, reduceIte, allB, tyC, AHeap.push_set_lt, n2, o2, List.append_nil, hle, decide_false, mul3, w1, w2, eq25, beq_self_eq_true, Bool.and_self, evb_self, xeff, Nat.le_refl, decide_true]
  exact W_some.2 ⟨rfl, by simp only [AHeap.next_push]; omega⟩
theorem deep4_run {H : AHeap} (n : Int) (b : Bool) : W (s13 (evb P 26 true) 70 (.int .i64 n) (.bool b) H) fun v H' => v = .bool true ∧ H.next ≤ H'.next := by
 rw [s13]
 by_cases c1 : n < 1
 ·simp -implicitDefEqProofs (disch := first | assumption | omega | (simp only [nxB]; omega) | (simp only [oneB])) only [xlen, evB, binB, c1, decide_true]
  exact W_some.2 ⟨rfl, Nat.le_refl _⟩
 by_cases c2 : 60 < n
 ·simp -implicitDefEqProofs (disch := first | assumption | omega | (simp only [nxB]; omega) | (simp only [oneB])) only [xlen, evB, binB, c1, c2, decide_true, decide_false]
  exact W_some.2 ⟨rfl, Nat.le_refl _⟩
 obtain ⟨k, rfl⟩ : ∃ k : Nat, n = k := ⟨n.toNat, by omega⟩
 simp -implicitDefEqProofs (disch := first | assumption | omega | (simp only [nxB]; omega) | (simp only [oneB])) only [xlen, evB, binB, c1, c2, decide_false]
 have la : (deepA4 b).length ≤ 9 := by cases b <;> simp [deepA4]
 have go := deep4_loop (G := evb P 26 true) (N := 70) (n := k) (by omega) la (deep4_end (H := H) b (n := k) (by omega) (by omega) 70) k 0 70 (by omega) (by omega)
 cases b with
 | true => simp only [cond_true]; rw [s13_j0]; exact go
 | false => simp only [cond_false]; rw [s13_j0]; exact go
set_option maxRecDepth 100000 in
theorem deep4_ok (n : Int) (b : Bool) : ∃ H', CallOk1 P 13 [.int .i64 n, .bool b] AHeap.empty (.bool true) H' := by
 obtain ⟨_, H', h, rfl, p⟩ := deep4_run (H := AHeap.empty) n b
 exact ⟨H', code_ok1 (c := bodyOf Try.f13) (M := 70) progOk (evb_ok progOk known4) Try.func13 (by kernel_rfl) (by kernel_rfl) (by kernel_rfl) (Eq.trans (s13_eq (evb P 26 true) 70 (.int .i64 n) (.bool b) AHeap.empty) h)⟩
end Go.Proofs.Ytnjoomfeddamcaa

namespace Go.Proofs.Ytnjoomfeddamcaa
open Go.Ev
open Go.ChangeShapes Go.WideShapes Go.ChangeAt Go.RowKit
open Go.ChangeMaps (open_string shut_string)
namespace stmtDeep
set_option maxRecDepth 100000 in
theorem lifted (os : Os) (started : os.Started) (H : Type) (enc : TypeId × Value → H) :
  ReturnsInHanded {} Try.checked os 13 .any (Rows.stmtDeepSpec.pre6 enc Try.prog Try.f13 Rows.stmtDeepRow.domain false) (Rows.stmtDeepSpec.post enc Try.prog Try.f13 false true false false) := by
 refine returnsInHanded_of_change (C := Try.checked) own started (by kernel_rfl) Try.func13
  (ChangeSpec.witness6 (enc := enc) (C := Try.checked) false ⟨#[], #[.int .i64 0, .bool false], []⟩ 8 (by kernel_rfl) (by kernel_rfl) (by kernel_rfl) (by kernel_rfl)) ?_
 intro W base args ds gs before hval0 hW hcnd _
 have hval : ∀ (j : Nat) t v, Try.f13.params[j]? = some t → args[j]? = some v → Value.okWide Try.prog W .any base t v := hval0
 have hW' := hW
 obtain ⟨p, q, hA0, hV, rfl, hfz, hnd⟩ := hW
 have hA : DataW.TrodAll enc Try.prog W 0 (fun _ => true) true Try.f13.params.toList args.toList ds p := hA0
 have hpar : Try.f13.params = #[3, 4] := by kernel_rfl
 rw [hpar] at hA hval
 obtain ⟨v0, vs0, d0, ds0, p0, q0, hargs, rfl, rfl, h0, r0⟩ := trodAll_cons hA
 obtain ⟨v1, vs1, d1, ds1, p1, q1, rfl, rfl, rfl, h1, r1⟩ := trodAll_cons r0
 obtain ⟨rfl, rfl, rfl⟩ := trodAll_nil r1
 obtain rfl : args = #[v0, v1] := by cases args; simp_all
 obtain ⟨rfl, rfl⟩ := trodVars_none hV
 obtain ⟨a0, hv0, -, -, w0⟩ := open_int (P := P) und3 (hval 0 3 v0 rfl rfl) h0
 obtain ⟨a1, hv1, -, -⟩ := open_bool (P := P) und4 (hval 1 4 v1 rfl rfl) h1
 subst hv0
 subst hv1
 have hlaw : LawOk P 13 [.int .i64 a0, .bool a1] W := by obtain ⟨H', h⟩ := deep4_ok a0 a1; exact law_plain (.cons _ _ _ _ (.int _ _) (.cons _ _ _ _ (.bool _) .nil)) h
 refine (law_walk (c := bodyOf Try.f13) progOk Try.func13 (by kernel_rfl) hlaw).mono fun e W' ⟨he, bel⟩ => ?_
 subst he
 obtain ⟨pa, hpa⟩ := trodAll_below laidOut bel (ts := [3, 4]) (fun t ht => by
  simp only [List.mem_cons, List.not_mem_nil, or_false] at ht
  rcases ht with rfl | rfl <;> exact ⟨by kernel_rfl, of_decide_eq_true (by kernel_rfl)⟩) hA
 exact ⟨_, rfl, _, _, _, [], pa, [], hW', trodAll_mk1 (shut_bool (P := P) und4 _), by rw [hpar]; exact hpa, rfl, bel.frame _, fun h => by cases h⟩
theorem over : Rows.stmtDeepRow.holds Try.pinned (OpenSpec.ofChange Rows.stmtDeepSpec) :=
 OpenClaim.holds_of_wide 13 Try.f13 rfl rfl rfl rfl rfl rfl rfl ⟨rfl, rfl, rfl, rfl, rfl⟩ rfl rfl rfl rfl rfl (by kernel_rfl) Try.func13 (by kernel_rfl)
  (of_decide_eq_true (by kernel_rfl)) (by unfold Func.isWrapper; first | (rw [if_pos (by decide +kernel)]; kernel_rfl) | (rw [if_neg (by decide +kernel)]; exact ⟨rfl, rfl⟩))
  (fun os started H enc _ => lifted os started H enc)
end stmtDeep
theorem stmtDeep_holds : Rows.StmtDeepSaid := stmtDeep.over
end Go.Proofs.Ytnjoomfeddamcaa


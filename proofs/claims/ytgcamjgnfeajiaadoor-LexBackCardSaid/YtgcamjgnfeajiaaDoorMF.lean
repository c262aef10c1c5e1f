/-
  Texts of one proof, laid together: L2 L3 L4 ShB A1.
-/
import Derived.Test.YtgcamjgnfeajiaaDoorME
import Derived.Test.YtgcamjgnfeajiaaDoorMD
set_option linter.unusedVariables false
set_option linter.unusedSimpArgs false
namespace Go.Proofs.YtgcamjgnfeajiaaDoor
open Go.Ev
theorem Name_loop {H : AHeap} {s : Bs} (hs : s.length ≤ 1000000000000000000) (N : Nat) : ∀ (rest : Bs) (n m : Nat), s.drop n = rest → n ≤ s.length → rest.length < m →
  W (s16_l1 (evw P orc) N m (.str s) (.int .i64 n) H) fun v H' => v = .bool (allP rest) ∧ H' = H
 | _, _, 0, _, _, hm => by omega
 | [], n, m + 1, h, hn, hm => by
  have := drop_nil h
  have h1 : ¬ ((n : Int) < (s.length : Int)) := by omega
  simp -implicitDefEqProofs (disch := first | assumption | omega | (simp only [nxB]; omega) | (simp only [oneB])) only [s16_l1, s16_j0, s16_b1, s16, xlen, AV.cells, splice, aload, astore, Nat.reduceAdd, Nat.reduceLeDiff, reduceIte, allB, h1, decide_false]
  exact W_some.2 ⟨by simp [allP], rfl⟩
 | c :: r, n, m + 1, h, hn, hm => by
  obtain ⟨e1, e2, e3, e4⟩ := drop_cons h
  have h1 : ((n : Int) < (s.length : Int)) := by omega
  have ih := Name_loop (H := H) hs N r (n + 1) m e2 (by omega) (by simp at hm; omega)
  have e1' := jx9 e1
  simp -implicitDefEqProofs (disch := first | assumption | omega | (simp only [nxB]; omega) | (simp only [oneB])) only [s16_l1, s16_j0, s16_b1, s16, xlen, AV.cells, splice, aload, astore, Nat.reduceAdd, Nat.reduceLeDiff, reduceIte, allB, h1, decide_true, e1']
  refine W_call0 (letter_spec _) ?_
  cases hl : lettI (c.toNat : Int) with
  | true =>
   simp -implicitDefEqProofs (disch := first | assumption | omega | (simp only [nxB]; omega) | (simp only [oneB])) only [s16_j0, s16_b1, s16, xlen, evB, binB, Bool.not_true, wn1]
   refine ih.mono ?_
   rintro v H' ⟨rfl, e⟩
   exact ⟨by simp [allP, letB, hl], e⟩
  | false =>
   simp -implicitDefEqProofs (disch := first | assumption | omega | (simp only [nxB]; omega) | (simp only [oneB])) only [s16_j0, s16_b1, s16, xlen, AV.cells, splice, aload, astore, Nat.reduceAdd, Nat.reduceLeDiff, reduceIte, allB, Bool.not_false, e1']
   refine W_eff0 (digit_spec _) ?_
   cases hd : diggI (c.toNat : Int) with
   | true =>
    simp -implicitDefEqProofs (disch := first | assumption | omega | (simp only [nxB]; omega) | (simp only [oneB])) only [s16_j0, s16_b1, s16, xlen, evB, binB, Bool.not_true, wn1]
    refine ih.mono ?_
    rintro v H' ⟨rfl, e⟩
    exact ⟨by simp [allP, digB, hd], e⟩
   | false =>
    simp -implicitDefEqProofs (disch := first | assumption | omega | (simp only [nxB]; omega) | (simp only [oneB])) only [s16_j0, s16_b1, s16, xlen, evB, binB, Bool.not_false]
    exact W_some.2 ⟨by simp [allP, letB, digB, hl, hd], rfl⟩
theorem Name_spec {H : AHeap} {s : Bs} (hs : s.length ≤ 1000000000000000000) : W (evw P orc 16 [.str s] H) fun v H' => v = .bool (nameB s) ∧ Pur H H' := by
 refine W_of (fun _ => run16 (s.length + 1)) ?_
 cases hl : s with
 | nil =>
  have h1 : ((([] : Bs).length : Nat) : Int) < 1 := by simp
  simp -implicitDefEqProofs (disch := first | assumption | omega | (simp only [nxB]; omega) | (simp only [oneB])) only [s16_j0, s16_b1, s16, xlen, evB, tabB, binB, h1, decide_true]
  exact W_some.2 ⟨by simp [nameB], .refl _⟩
 | cons c r =>
  rw [← hl]
  have hpos : 1 ≤ s.length := by rw [hl]; simp
  have h1 : ¬ ((s.length : Int) < 1) := by omega
  have e0 : s[0]? = some c := by rw [hl]; rfl
  have e0' := jx9_0 e0
  have hh : s.headD 0 = c := by rw [hl]; rfl
  by_cases h8 : (8 : Int) < (s.length : Int)
  ·have h8' : ¬ s.length ≤ 8 := by omega
   simp -implicitDefEqProofs (disch := first | assumption | omega | (simp only [nxB]; omega) | (simp only [oneB])) only [s16_j0, s16_b1, s16, xlen, evB, tabB, binB, h1, h8, decide_true, decide_false]
   exact W_some.2 ⟨by simp [nameB, h8'], .refl _⟩
  ·have h8' : s.length ≤ 8 := by omega
   simp -implicitDefEqProofs (disch := first | assumption | omega | (simp only [nxB]; omega) | (simp only [oneB])) only [s16_j0, s16_b1, s16, xlen, evB, tabB, binB, h1, h8, decide_false, e0']
   refine W_eff0 (letter_spec _) ?_
   cases hc : lettI (c.toNat : Int) with
   | false =>
    simp -implicitDefEqProofs (disch := first | assumption | omega | (simp only [nxB]; omega) | (simp only [oneB])) only [s16_j0, s16_b1, s16, xlen, evB, Bool.not_false]
    exact W_some.2 ⟨by unfold nameB; rw [hh]; simp [letB, hc], .refl _⟩
   | true =>
    simp -implicitDefEqProofs (disch := first | assumption | omega | (simp only [nxB]; omega) | (simp only [oneB])) only [s16_j0, s16_b1, s16, xlen, evB, Bool.not_true]
    refine W_eff (Word_spec s) ?_
    rintro _ H2 ⟨rfl, p2⟩
    refine ⟨p2.1, ?_⟩
    cases hw : wordB s with
    | true =>
     simp -implicitDefEqProofs (disch := first | assumption | omega | (simp only [nxB]; omega) | (simp only [oneB])) only [s16_j0, s16_b1, s16, xlen, evB]
     exact W_some.2 ⟨by simp [nameB, hw], p2⟩
    | false =>
     simp -implicitDefEqProofs (disch := first | assumption | omega | (simp only [nxB]; omega) | (simp only [oneB])) only [s16_j0, s16, xlen, evB]
     refine (Name_loop (H := H2) hs (s.length + 1) s 0 (s.length + 1) rfl (by omega) (by omega)).mono ?_
     rintro v H' ⟨rfl, e⟩
     exact ⟨by unfold nameB; rw [hh]; simp [hpos, h8', letB, hc, hw], by rw [e]; exact p2⟩
theorem cv53 (n : Int) : aconv P 5 3 (.int .u8 n) = some (.int .i64 (IntKind.i64.wrap n)) := by kernel_rfl
theorem quo3 (t : Bool) (a : Int) : fbin P .quo 3 t (.int .i64 a) (.int .i64 10) = some (.int .i64 (IntKind.i64.wrap (a.tdiv 10))) := by simp [fbin, intBin]
theorem mul3 (t : Bool) (a b : Int) : fbin P .mul 3 t (.int .i64 a) (.int .i64 b) = some (.int .i64 (IntKind.i64.wrap (a * b))) := fbin_mul _ _ _ _ _
theorem wrap_u8 {n : Int} (h0 : 0 ≤ n) (h1 : n ≤ 255) : IntKind.u8.wrap n = n := by
 show n % 256 = n
 omega
theorem whole_loop {H : AHeap} {s : Bs} (hs : s.length ≤ 1000000000000000000) (N : Nat) : ∀ (rest : Bs) (n m : Nat) (acc : Int), s.drop n = rest → n ≤ s.length → rest.length < m → 0 ≤ acc → acc ≤ 9223372036854775807 → (∀ c ∈ rest, digB c = true) →
  W (s37_l1 (evw P orc) N m (.str s) (.int .i64 acc) (.int .i64 n) H) fun v H' => v = (match wholeN acc rest with | some z => .tuple [.int .i64 z, .bool true] | none => .tuple [.int .i64 0, .bool false]) ∧ H' = H
 | _, _, 0, _, _, _, hm, _, _, _ => by omega
 | [], n, m + 1, acc, h, hn, hm, ha, ha', hd => by
  have := drop_nil h
  have h1 : ¬ ((n : Int) < (s.length : Int)) := by omega
  simp -implicitDefEqProofs (disch := first | assumption | omega | (simp only [nxB]; omega) | (simp only [oneB])) only [s37_l1, s37_j0, s37_b1, s37, xlen, AV.cells, splice, aload, astore, Nat.reduceAdd, Nat.reduceLeDiff, reduceIte, allB, h1, decide_false]
  exact W_some.2 ⟨by simp [wholeN], rfl⟩
 | c :: r, n, m + 1, acc, h, hn, hm, ha, ha', hd => by
  obtain ⟨e1, e2, e3, e4⟩ := drop_cons h
  have h1 : ((n : Int) < (s.length : Int)) := by omega
  have e1' := jx9 e1
  have hc := hd c (by simp)
  simp only [digB, diggI, Bool.and_eq_true, decide_eq_true_eq] at hc
  have w1 : IntKind.u8.wrap ((c.toNat : Int) - 48) = (c.toNat : Int) - 48 := wrap_u8 (by omega) (by omega)
  have w2 : IntKind.i64.wrap ((c.toNat : Int) - 48) = (c.toNat : Int) - 48 := wrap_i64 (by omega) (by omega)
  have w3 : IntKind.i64.wrap (9223372036854775807 - ((c.toNat : Int) - 48)) = 9223372036854775807 - ((c.toNat : Int) - 48) := wrap_i64 (by omega) (by omega)
  have w4 : (9223372036854775807 - ((c.toNat : Int) - 48)).tdiv 10 = (9223372036854775807 - ((c.toNat : Int) - 48)) / 10 := Int.tdiv_eq_ediv_of_nonneg (by omega)
  have w5 : IntKind.i64.wrap ((9223372036854775807 - ((c.toNat : Int) - 48)) / 10) = (9223372036854775807 - ((c.toNat : Int) - 48)) / 10 := wrap_i64 (by omega) (by omega)
  by_cases hg : (9223372036854775807 - ((c.toNat : Int) - 48)) / 10 < acc
  ·simp -implicitDefEqProofs (disch := first | assumption | omega | (simp only [nxB]; omega) | (simp only [oneB])) only [s37_l1, s37_j0, s37_b1, s37, xlen, AV.cells, splice, aload, astore, Nat.reduceAdd, Nat.reduceLeDiff, reduceIte, allB, h1, decide_true, e1', w1, w2, w3, w4, w5, quo3, xconv, cv53, hg]
   exact W_some.2 ⟨by simp [wholeN, hg], rfl⟩
  ·have w6 : IntKind.i64.wrap (10 * acc) = 10 * acc := wrap_i64 (by omega) (by omega)
   have w7 : IntKind.i64.wrap (10 * acc + ((c.toNat : Int) - 48)) = 10 * acc + ((c.toNat : Int) - 48) := wrap_i64 (by omega) (by omega)
   have ih := whole_loop (H := H) hs N r (n + 1) m (10 * acc + ((c.toNat : Int) - 48)) e2 (by omega) (by simp at hm; omega) (by omega) (by omega) (fun c hc => hd c (by simp [hc]))
   simp -implicitDefEqProofs (disch := first | assumption | omega | (simp only [nxB]; omega) | (simp only [oneB])) only [s37_l1, s37_j0, s37_b1, s37, xlen, AV.cells, splice, aload, astore, Nat.reduceAdd, Nat.reduceLeDiff, reduceIte, allB, h1, decide_true, e1', w1, w2, w3, w4, w5, w6, w7, quo3, mul3, xconv, cv53, hg, decide_false, wn1]
   refine ih.mono ?_
   rintro v H' ⟨rfl, e⟩
   exact ⟨by rw [wholeN, if_neg hg], e⟩
theorem runN_dig : ∀ (s : Bs), ∀ c ∈ s.take (runN true s), digB c = true
 | [], c, h => by simp [runN] at h
 | x :: r, c, h => by
  rw [runN] at h
  cases hx : digB x with
  | true =>
   simp only [hx, Bool.true_or, cond_true, List.take_succ_cons, List.mem_cons] at h
   rcases h with rfl | h
   ·exact hx
   ·exact runN_dig r c h
  | false => simp [hx] at h
theorem whole_spec' {H : AHeap} {s : Bs} (hs : s.length ≤ 1000000000000000000) (hd : ∀ c ∈ s, digB c = true) : W (evw P orc 37 [.str s] H) fun v H' => v = (match wholeN 0 s with | some z => .tuple [.int .i64 z, .bool true] | none => .tuple [.int .i64 0, .bool false]) ∧ H' = H := by
 refine W_of (fun _ => run37 (s.length + 1)) ?_
 rw [s37]
 exact whole_loop hs (s.length + 1) s 0 (s.length + 1) 0 rfl (by omega) (by omega) (by omega) (by omega) hd
theorem une9 : P.underlying 9 = some .string := by kernel_rfl
theorem sl9 {s : List UInt8} {a b : Nat} (h1 : a ≤ b) (h2 : b ≤ s.length) : aslice P 9 (.str s) (some (.int .i64 (a : Int))) (some (.int .i64 (b : Int))) none = some (.str ((s.drop a).take (b - a))) := by
 have e1 : abound (some (.int .i64 (b : Int))) s.length s.length = some b := by simp [abound]; omega
 have e2 : abound (some (.int .i64 (a : Int))) 0 b = some a := by simp [abound]; omega
 simp only [aslice, une9, e1, e2]
def onesS (s : Bs) : Bs := match s with
 | c :: _ => bif memC c onesL then [c] else []
 | [] => []
theorem ones_loop {H : AHeap} {s : Bs} {at_ : Nat} {c : UInt8} (hc : s[at_]? = some c) (N : Nat) : ∀ (rest : Bs) (j m : Nat), onesL.drop j = rest → j ≤ 18 → rest.length < m →
  W (s38_l2 (evw P orc) N m (.str s) (.int .i64 at_) (.str onesL) (.int .i64 j) H) fun v H' => v = .str (bif memC c rest then [c] else []) ∧ H' = H
 | _, _, 0, _, _, hm => by omega
 | [], j, m + 1, h, hj, hm => by
  have := drop_nil h
  have hl : onesL.length = 18 := rfl
  have h1 : ¬ ((j : Int) < (onesL.length : Int)) := by omega
  simp -implicitDefEqProofs (disch := first | assumption | omega | (simp only [nxB]; omega) | (simp only [oneB])) only [s38_l2, s38_j1, s38_b2, s38_j0, s38_b3, s38_35, s38, xlen, AV.cells, splice, aload, astore, Nat.reduceAdd, Nat.reduceLeDiff, reduceIte, allB, h1, decide_false]
  exact W_some.2 ⟨by simp [memC], rfl⟩
 | y :: r, j, m + 1, h, hj, hm => by
  obtain ⟨e1, e2, e3, e4⟩ := drop_cons h
  have hl : onesL.length = 18 := rfl
  have h1 : ((j : Int) < (onesL.length : Int)) := by omega
  have e1' := jx9 e1
  have hc' := jx9 hc
  have ih := ones_loop (H := H) hc N r (j + 1) m e2 (by omega) (by simp at hm; omega)
  have hsl := sl9 (s := onesL) (a := j) (b := j + 1) (by omega) (by omega)
  have e5 : (onesL.drop j).take (j + 1 - j) = [y] := by rw [h, Nat.add_sub_cancel_left]; rfl
  rw [e5] at hsl
  cases he : ((c.toNat : Int) == (y.toNat : Int)) with
  | true =>
   have hcy : c = y := by
    have : (c.toNat : Int) = (y.toNat : Int) := by simpa using he
    exact UInt8.toNat_inj.1 (by omega)
   have he2 : (c.toNat == y.toNat) = true := by rw [hcy]; simp
   simp -implicitDefEqProofs (disch := first | assumption | omega | (simp only [nxB]; omega) | (simp only [oneB])) only [s38_l2, s38_j1, s38_b2, s38_j0, s38_b3, s38_35, s38, xlen, AV.cells, splice, aload, astore, Nat.reduceAdd, Nat.reduceLeDiff, reduceIte, allB, h1, decide_true, e1', hc', he, wn1, hsl]
   exact W_some.2 ⟨by simp [memC, he2, hcy], rfl⟩
  | false =>
   have he2 : (c.toNat == y.toNat) = false := by
    have : ¬ (c.toNat : Int) = (y.toNat : Int) := by simpa using he
    simp; omega
   simp -implicitDefEqProofs (disch := first | assumption | omega | (simp only [nxB]; omega) | (simp only [oneB])) only [s38_l2, s38_j1, s38_b2, s38_j0, s38_b3, s38_35, s38, xlen, AV.cells, splice, aload, astore, Nat.reduceAdd, Nat.reduceLeDiff, reduceIte, allB, h1, decide_true, e1', hc', he, wn1]
   refine ih.mono ?_
   rintro v H' ⟨rfl, e⟩
   exact ⟨by simp [memC, he2], e⟩
theorem ones_spec {H : AHeap} {s : Bs} {at_ : Nat} {c : UInt8} (hc : s[at_]? = some c) {N : Nat} (hN : 18 < N) : W (s38_j0 (evw P orc) N (.str s) (.int .i64 at_) H) fun v H' => v = .str (bif memC c onesL then [c] else []) ∧ H' = H := by
 rw [s38_j0]
 exact ones_loop hc N onesL 0 N rfl (by omega) (by simp [onesL]; omega)
theorem two_loop {H : AHeap} {s : Bs} (hs : s.length ≤ 1000000000000000000) {at_ : Nat} {c : UInt8} {r : Bs} (hd : s.drop at_ = c :: r) {l : Nat} {N : Nat} (hN : 18 < N) (hg : H.get l = some (.row false 1 (twosL.map fun y => [AV.str y]))) : ∀ (rest pre : List Bs), twosL = pre ++ rest → ∀ (m : Nat), rest.length < m →
  W (s38_l3 (evw P orc) N m (.str s) (.int .i64 at_) (.sl l 0 5 1 (some 5)) (.int .i64 pre.length) H) fun v H' => v = .str (bif decide (2 ≤ (s.drop at_).length) && memB ((s.drop at_).take 2) rest then (s.drop at_).take 2 else bif memC c onesL then [c] else []) ∧ H' = H
 | _, _, _, 0, hm => by omega
 | [], pre, hp, m + 1, hm => by
  have hl : pre.length = 5 := by have := congrArg List.length hp; simpa [twosL] using this.symm
  have h1 : ¬ ((pre.length : Int) < ((5 : Nat) : Int)) := by omega
  obtain ⟨e1, e2, e3, e4⟩ := drop_cons hd
  simp -implicitDefEqProofs (disch := first | assumption | omega | (simp only [nxB]; omega) | (simp only [oneB])) only [s38_l3, s38_j1, s38_b3, s38_35, s38, xlen, AV.cells, splice, aload, astore, Nat.reduceAdd, Nat.reduceLeDiff, reduceIte, allB, h1, decide_false]
  refine (ones_spec e1 hN).mono ?_
  rintro v H' ⟨rfl, e⟩
  exact ⟨by simp [memB], e⟩
 | y :: ys, pre, hp, m + 1, hm => by
  obtain ⟨e1, e2, e3, e4⟩ := drop_cons hd
  have hl : pre.length + (ys.length + 1) = 5 := by have := congrArg List.length hp; simpa [twosL] using this.symm
  have h1 : ((pre.length : Int) < ((5 : Nat) : Int)) := by omega
  have h0 : (0 : Int) ≤ (pre.length : Int) := by omega
  have t1 : ((pre.length : Int)).toNat = pre.length := by omega
  have he : (twosL.map fun y => [AV.str y])[pre.length]? = some [AV.str y] := by rw [hp]; simp
  have hw : ((pre ++ [y]).length : Int) = ((pre.length + 1 : Nat) : Int) := by simp
  have ih := two_loop (H := H) hs hd hN hg ys (pre ++ [y]) (by simp [hp]) m (by simp at hm; omega)
  rw [hw] at ih
  have hdl : (s.drop at_).length = s.length - at_ := by simp
  have wsb : IntKind.i64.wrap ((s.length : Int) - (at_ : Int)) = ((s.length - at_ : Nat) : Int) := wns s.length at_ (by omega) (by omega)
  have hgl := AHeap.get_lt hg
  by_cases h2 : (2 : Int) ≤ ((s.length - at_ : Nat) : Int)
  ·have h2' : decide (2 ≤ (s.drop at_).length) = true := by rw [hdl]; simp; omega
   have hsl := sl9 (s := s) (a := at_) (b := at_ + 2) (by omega) (by omega)
   rw [Nat.add_sub_cancel_left] at hsl
   cases hc : ((s.drop at_).take 2 == y) with
   | true =>
    have hy : (s.drop at_).take 2 = y := by simpa using hc
    have hyy : (y == (s.drop at_).take 2) = true := by rw [hy]; simp
    simp -implicitDefEqProofs (disch := first | assumption | omega | (simp only [nxB]; omega) | (simp only [oneB])) only [s38_l3, s38_j1, s38_b3, s38_35, s38, xlen, AV.cells, splice, aload, astore, Nat.reduceAdd, Nat.reduceLeDiff, reduceIte, allB, h1, decide_true, wsb, h2, wn2, hsl, hg, he, t1, hc]
    exact W_some.2 ⟨by rw [memB, h2', hyy]; rw [hy]; rfl, rfl⟩
   | false =>
    have hyy : (y == (s.drop at_).take 2) = false := by
     have : ¬ (s.drop at_).take 2 = y := by simpa using hc
     simp; exact fun e => this e.symm
    simp -implicitDefEqProofs (disch := first | assumption | omega | (simp only [nxB]; omega) | (simp only [oneB])) only [s38_l3, s38_j1, s38_b3, s38_35, s38, xlen, AV.cells, splice, aload, astore, Nat.reduceAdd, Nat.reduceLeDiff, reduceIte, allB, h1, decide_true, wsb, h2, wn2, hsl, hg, he, t1, hc, wn1]
    refine ih.mono ?_
    rintro v H' ⟨rfl, e⟩
    exact ⟨by simp only [memB, hyy, Bool.false_or], e⟩
  ·have h2' : decide (2 ≤ (s.drop at_).length) = false := by rw [hdl]; simp; omega
   simp -implicitDefEqProofs (disch := first | assumption | omega | (simp only [nxB]; omega) | (simp only [oneB])) only [s38_l3, s38_j1, s38_b3, s38_35, s38, xlen, AV.cells, splice, aload, astore, Nat.reduceAdd, Nat.reduceLeDiff, reduceIte, allB, h1, decide_true, wsb, h2, decide_false, wn1]
   refine ih.mono ?_
   rintro v H' ⟨rfl, e⟩
   exact ⟨by simp only [h2', Bool.false_and], e⟩
theorem sign_spec {H : AHeap} {s : Bs} (hs : s.length ≤ 1000000000000000000) {at_ : Nat} (ha : at_ < s.length) : W (evw P orc 38 [.str s, .int .i64 at_] H) fun v H' => v = .str (signN (s.drop at_)) ∧ Pur H H' := by
 refine W_of (fun _ => run38 30) ?_
 obtain ⟨c, r, hd⟩ : ∃ c r, s.drop at_ = c :: r := by
  cases h : s.drop at_ with
  | nil => have := drop_nil h; omega
  | cons c r => exact ⟨c, r, rfl⟩
 rw [s38]
 simp only [xmake_some]
 rw [s38_35]
 refine (two_loop (H := H.push _) hs hd (by omega) (AHeap.get_push_same _ _) twosL [] rfl 30 (by decide)).mono ?_
 rintro v H' ⟨rfl, rfl⟩
 refine ⟨?_, Pur.push _ _⟩
 rw [hd]; rfl
theorem rem_loop {H : AHeap} {s : Bs} (hs : s.length ≤ 1000000000000000000) (L1 : AV → AV → AHeap → O) (N : Nat) (Q : AV → AHeap → Prop) : ∀ (rest : Bs) (at_ m : Nat), s.drop at_ = rest → at_ ≤ s.length → rest.length < m →
  (∀ (k : Nat), (∀ c' r', rest = c' :: r' → c'.toNat ≠ 10 → 0 < k) → at_ + k ≤ s.length → (s.drop (at_ + k)).length ≤ rest.length → k + blankN false (s.drop (at_ + k)) = blankN true rest → W (L1 (.str s) (.int .i64 ((at_ + k : Nat) : Int)) H) Q) →
  W (s20_l2 (evw P orc) N L1 m (.str s) (.int .i64 at_) H) Q
 | _, _, 0, _, _, hm, _ => by omega
 | [], at_, m + 1, h, ha, hm, hk => by
  have := drop_nil h
  have h1 : ¬ ((at_ : Int) < (s.length : Int)) := by omega
  simp -implicitDefEqProofs (disch := first | assumption | omega | (simp only [nxB]; omega) | (simp only [oneB])) only [s20_l2, s20_j0, s20_b2, s20, xlen, AV.cells, splice, aload, astore, Nat.reduceAdd, Nat.reduceLeDiff, reduceIte, allB, h1, decide_false]
  exact hk 0 (fun _ _ e => by cases e) ha (by simpa using congrArg List.length h) (by simp [h, blankN])
 | c :: r, at_, m + 1, h, ha, hm, hk => by
  obtain ⟨e1, e2, e3, e4⟩ := drop_cons h
  have h1 : ((at_ : Int) < (s.length : Int)) := by omega
  have e1' := jx9 e1
  cases hc : ((c.toNat : Int) != 10) with
  | false =>
   have hc' : c.toNat = 10 := by
    have : (c.toNat : Int) = 10 := by simpa using hc
    omega
   simp -implicitDefEqProofs (disch := first | assumption | omega | (simp only [nxB]; omega) | (simp only [oneB])) only [s20_l2, s20_j0, s20_b2, s20, xlen, AV.cells, splice, aload, astore, Nat.reduceAdd, Nat.reduceLeDiff, reduceIte, allB, h1, decide_true, e1', hc]
   refine hk 0 (fun _ _ e hn => by cases e; exact absurd hc' hn) ha (by simp only [Nat.add_zero, h]; omega) ?_
   simp [h, blankN, isBlank, hc']
  | true =>
   have hc' : (c.toNat == 10) = false := by
    have : ¬ (c.toNat : Int) = 10 := by simpa using hc
    simp; omega
   simp -implicitDefEqProofs (disch := first | assumption | omega | (simp only [nxB]; omega) | (simp only [oneB])) only [s20_l2, s20_j0, s20_b2, s20, xlen, AV.cells, splice, aload, astore, Nat.reduceAdd, Nat.reduceLeDiff, reduceIte, allB, h1, decide_true, e1', hc, wn1]
   refine rem_loop hs L1 N Q r (at_ + 1) m e2 (by omega) (by simp at hm; omega) (fun k _ h1 h2 h3 => ?_)
   have hka : at_ + 1 + k = at_ + (k + 1) := by omega
   rw [hka] at h1 h2 h3 ⊢
   refine hk (k + 1) (fun _ _ _ _ => by omega) h1 (by simp only [List.length_cons]; omega) ?_
   simp only [blankN, hc', cond_false]
   omega
theorem blank_loop {H : AHeap} {s : Bs} (hs : s.length ≤ 1000000000000000000) (N : Nat) (hN : s.length < N) : ∀ (q : Nat) (rest : Bs) (at_ m : Nat), rest.length ≤ q → s.drop at_ = rest → at_ ≤ s.length → rest.length < m →
  W (s20_l1 (evw P orc) N m (.str s) (.int .i64 at_) H) fun v H' => v = .int .i64 ((at_ + blankN false rest : Nat) : Int) ∧ H' = H
 | _, _, _, 0, _, _, _, hm => by omega
 | _, [], at_, m + 1, _, h, ha, hm => by
  have := drop_nil h
  have h1 : ¬ ((at_ : Int) < (s.length : Int)) := by omega
  simp -implicitDefEqProofs (disch := first | assumption | omega | (simp only [nxB]; omega) | (simp only [oneB])) only [s20_l1, s20_j0, s20_b1, s20, xlen, AV.cells, splice, aload, astore, Nat.reduceAdd, Nat.reduceLeDiff, reduceIte, allB, h1, decide_false]
  exact W_some.2 ⟨by simp [blankN], rfl⟩
 | 0, c :: r, at_, m + 1, hq, h, ha, hm => by simp at hq
 | q + 1, c :: r, at_, m + 1, hq, h, ha, hm => by
  obtain ⟨e1, e2, e3, e4⟩ := drop_cons h
  have h1 : ((at_ : Int) < (s.length : Int)) := by omega
  have e1' := jx9 e1
  simp only [List.length_cons] at hq hm
  have ihn : isBlank c = true → W (s20_l1 (evw P orc) N m (.str s) (.int .i64 ((at_ + 1 : Nat) : Int)) H) fun v H' => v = .int .i64 ((at_ + blankN false (c :: r) : Nat) : Int) ∧ H' = H := by
   intro hb
   refine (blank_loop (H := H) hs N hN q r (at_ + 1) m (by omega) e2 (by omega) (by omega)).mono ?_
   rintro v H' ⟨rfl, e⟩
   have e' : at_ + 1 + blankN false r = at_ + blankN false (c :: r) := by
    rw [blankN, hb, cond_true]; omega
   exact ⟨by rw [e'], e⟩
  have q32 : ((c.toNat : Int) == 32) = (c.toNat == 32) := by rw [Bool.eq_iff_iff]; simp; omega
  have q9 : ((c.toNat : Int) == 9) = (c.toNat == 9) := by rw [Bool.eq_iff_iff]; simp; omega
  have q10 : ((c.toNat : Int) == 10) = (c.toNat == 10) := by rw [Bool.eq_iff_iff]; simp; omega
  have q13 : ((c.toNat : Int) == 13) = (c.toNat == 13) := by rw [Bool.eq_iff_iff]; simp; omega
  cases c32 : c.toNat == 32 with
  | true =>
   simp -implicitDefEqProofs (disch := first | assumption | omega | (simp only [nxB]; omega) | (simp only [oneB])) only [s20_l1, s20_j0, s20_b1, s20, xlen, AV.cells, splice, aload, astore, Nat.reduceAdd, Nat.reduceLeDiff, reduceIte, allB, h1, decide_true, e1', q32, c32, wn1]
   exact ihn (by simp only [isBlank, c32, Bool.true_or])
  | false =>
   cases c9 : c.toNat == 9 with
   | true =>
    simp -implicitDefEqProofs (disch := first | assumption | omega | (simp only [nxB]; omega) | (simp only [oneB])) only [s20_l1, s20_j0, s20_b1, s20, xlen, AV.cells, splice, aload, astore, Nat.reduceAdd, Nat.reduceLeDiff, reduceIte, allB, h1, decide_true, e1', q32, c32, q9, c9, wn1]
    exact ihn (by simp only [isBlank, c9, Bool.true_or, Bool.or_true])
   | false =>
    cases c10 : c.toNat == 10 with
    | true =>
     simp -implicitDefEqProofs (disch := first | assumption | omega | (simp only [nxB]; omega) | (simp only [oneB])) only [s20_l1, s20_j0, s20_b1, s20, xlen, AV.cells, splice, aload, astore, Nat.reduceAdd, Nat.reduceLeDiff, reduceIte, allB, h1, decide_true, e1', q32, c32, q9, c9, q10, c10, wn1]
     exact ihn (by simp only [isBlank, c10, Bool.true_or, Bool.or_true])
    | false =>
     cases c13 : c.toNat == 13 with
     | true =>
      simp -implicitDefEqProofs (disch := first | assumption | omega | (simp only [nxB]; omega) | (simp only [oneB])) only [s20_l1, s20_j0, s20_b1, s20, xlen, AV.cells, splice, aload, astore, Nat.reduceAdd, Nat.reduceLeDiff, reduceIte, allB, h1, decide_true, e1', q32, c32, q9, c9, q10, c10, q13, c13, wn1]
      exact ihn (by simp only [isBlank, c13, Bool.or_true])
     | false =>
      have hnb : isBlank c = false := by simp only [isBlank, c32, c9, c10, c13, Bool.or_self]
      have wsb : IntKind.i64.wrap ((s.length : Int) - (at_ : Int)) = ((s.length - at_ : Nat) : Int) := wns s.length at_ (by omega) (by omega)
      have hno : (c == 47 && r.head? == some 47) = false → blankN false (c :: r) = 0 := fun hh => by rw [blankN, hnb, cond_false, hh, cond_false]
      by_cases h2 : (2 : Int) ≤ ((s.length - at_ : Nat) : Int)
      ·have hsl := sl9 (s := s) (a := at_) (b := at_ + 2) (by omega) (by omega)
       rw [Nat.add_sub_cancel_left, h] at hsl
       obtain ⟨y, ys, rfl⟩ : ∃ y ys, r = y :: ys := by
        cases r with
        | nil => simp at e4; omega
        | cons y ys => exact ⟨y, ys, rfl⟩
       simp only [List.take_succ_cons, List.take_zero] at hsl
       cases hr : (([c, y] : Bs) == [47, 47]) with
       | true =>
        have hcy : c = 47 ∧ y = 47 := by simpa using hr
        obtain ⟨rfl, rfl⟩ := hcy
        simp -implicitDefEqProofs (disch := first | assumption | omega | (simp only [nxB]; omega) | (simp only [oneB])) only [s20_l1, s20_j0, s20_b1, s20, xlen, AV.cells, splice, aload, astore, Nat.reduceAdd, Nat.reduceLeDiff, reduceIte, allB, h1, decide_true, e1', q32, c32, q9, c9, q10, c10, q13, c13, wsb, h2, wn2, hsl, hr]
        refine rem_loop hs (s20_l1 (evw P orc) N m) N _ (47 :: 47 :: ys) at_ N h ha (by simp only [List.length_cons] at e4 ⊢; omega) (fun k k0 k1 k2 k3 => ?_)
        have kp := k0 47 _ rfl (by decide)
        have hle : (s.drop (at_ + k)).length ≤ q := by
         simp only [List.length_drop, List.length_cons] at hq e4 ⊢
         omega
        refine (blank_loop (H := H) hs N hN q (s.drop (at_ + k)) (at_ + k) m hle rfl k1 (by simp only [List.length_drop, List.length_cons] at hm e4 ⊢; omega)).mono ?_
        rintro v H' ⟨rfl, e⟩
        have hb : blankN false (47 :: 47 :: ys) = blankN true (47 :: 47 :: ys) := by
         have e1 : blankN false (47 :: 47 :: ys) = blankN true (47 :: ys) + 1 := rfl
         have e2 : blankN true (47 :: 47 :: ys) = blankN true (47 :: ys) + 1 := rfl
         rw [e1, e2]
        refine ⟨?_, e⟩
        rw [hb, ← k3, Nat.add_assoc]
       | false =>
        have hh : (c == 47 && (y :: ys).head? == some 47) = false := by
         have : ¬ (c = 47 ∧ y = 47) := by simpa using hr
         simpa using this
        simp -implicitDefEqProofs (disch := first | assumption | omega | (simp only [nxB]; omega) | (simp only [oneB])) only [s20_l1, s20_j0, s20_b1, s20, xlen, AV.cells, splice, aload, astore, Nat.reduceAdd, Nat.reduceLeDiff, reduceIte, allB, h1, decide_true, e1', q32, c32, q9, c9, q10, c10, q13, c13, wsb, h2, wn2, hsl, hr]
        exact W_some.2 ⟨by rw [hno hh, Nat.add_zero], rfl⟩
      ·have hr : r = [] := by
        cases r with
        | nil => rfl
        | cons y ys => simp only [List.length_cons] at e4; omega
       have hh : (c == 47 && r.head? == some 47) = false := by rw [hr]; simp
       simp -implicitDefEqProofs (disch := first | assumption | omega | (simp only [nxB]; omega) | (simp only [oneB])) only [s20_l1, s20_j0, s20_b1, s20, xlen, AV.cells, splice, aload, astore, Nat.reduceAdd, Nat.reduceLeDiff, reduceIte, allB, h1, decide_true, e1', q32, c32, q9, c9, q10, c10, q13, c13, wsb, h2, decide_false]
       exact W_some.2 ⟨by rw [hno hh, Nat.add_zero], rfl⟩
theorem blank_spec {H : AHeap} {s : Bs} (hs : s.length ≤ 1000000000000000000) {at_ : Nat} (ha : at_ ≤ s.length) : W (evw P orc 20 [.str s, .int .i64 at_] H) fun v H' => v = .int .i64 ((at_ + blankN false (s.drop at_) : Nat) : Int) ∧ H' = H := by
 refine W_of (fun _ => run20 (s.length + 1)) ?_
 rw [s20]
 exact blank_loop hs (s.length + 1) (by omega) s.length (s.drop at_) at_ (s.length + 1) (by simp) rfl ha (by simp; omega)
end Go.Proofs.YtgcamjgnfeajiaaDoor

namespace Go.Proofs.YtgcamjgnfeajiaaDoor
open Go.Ev
theorem bd34w (k : Int) (x : Bs) (p : Int) : abuild P 34 [(0, .int .i64 k), (1, .str x), (3, .int .i64 p)] = some (.agg [.int .i64 k, .str x, .int .i64 0, .int .i64 p]) := by kernel_rfl
theorem bd34n (k : Int) (z : Int) (p : Int) : abuild P 34 [(0, .int .i64 k), (2, .int .i64 z), (3, .int .i64 p)] = some (.agg [.int .i64 k, .str [], .int .i64 z, .int .i64 p]) := by kernel_rfl
theorem bd34e (k : Int) (p : Int) : abuild P 34 [(0, .int .i64 k), (3, .int .i64 p)] = some (.agg [.int .i64 k, .str [], .int .i64 0, .int .i64 p]) := by kernel_rfl
theorem runN_le (d : Bool) : ∀ s : Bs, runN d s ≤ s.length
 | [] => Nat.le_refl _
 | c :: r => by
  rw [runN]
  have := runN_le d r
  cases digB c || (!d && letB c) with
  | true => simp only [cond_true, List.length_cons]; omega
  | false => simp only [cond_false, List.length_cons]; omega
def oneV (p : Nat) : Option (Int × Bs × Int × Nat) → AV
 | none => .tuple [.agg [.int .i64 0, .str [], .int .i64 0, .int .i64 0], .int .i64 0]
 | some (k, t, v, m) => .tuple [.agg [.int .i64 k, .str t, .int .i64 v, .int .i64 p], .int .i64 m]
theorem one_spec {H : AHeap} {s : Bs} (hs : s.length ≤ 1000000000000000000) {at_ : Nat} (ha : at_ < s.length) : W (evw P orc 21 [.str s, .int .i64 at_] H) fun v H' => v = oneV at_ (oneN (s.drop at_)) ∧ Pur H H' := by
 refine W_of (fun _ => run21 0) ?_
 obtain ⟨c, r, hd⟩ : ∃ c r, s.drop at_ = c :: r := by
  cases h : s.drop at_ with
  | nil => have := drop_nil h; omega
  | cons c r => exact ⟨c, r, rfl⟩
 obtain ⟨e1, e2, e3, e4⟩ := drop_cons hd
 have e1' := jx9 e1
 have p1 := Pur.push H (.row false 4 [[.int .i64 0, .str [], .int .i64 0, .int .i64 0]])
 have hrl := fun d => runN_le d (s.drop at_)
 have hdl : (s.drop at_).length = s.length - at_ := by simp
 simp -implicitDefEqProofs (disch := first | assumption | omega | (simp only [nxB]; omega) | (simp only [oneB])) only [s21, xlen, AV.cells, splice, aload, astore, Nat.reduceAdd, Nat.reduceLeDiff, reduceIte, allB, e1']
 refine W_call0 (letter_spec _) ?_
 cases hl : lettI (c.toNat : Int) with
 | true =>
  simp -implicitDefEqProofs (disch := first | assumption | omega | (simp only [nxB]; omega) | (simp only [oneB])) only [s21, xlen, evB]
  refine W_call0 (run_spec hs at_ (by omega) false) ?_
  have hr := hrl false
  have hsl := sl9 (s := s) (a := at_) (b := at_ + runN false (s.drop at_)) (by omega) (by omega)
  rw [Nat.add_sub_cancel_left] at hsl
  simp -implicitDefEqProofs (disch := first | assumption | omega | (simp only [nxB]; omega) | (simp only [oneB])) only [s21, xlen, evB, binB, wnn, hsl]
  refine W_call (Word_spec _) ?_
  rintro _ H2 ⟨rfl, p2⟩
  refine ⟨p2.1, ?_⟩
  have g2 : H2.get H.next = some (.row false 4 [[.int .i64 0, .str [], .int .i64 0, .int .i64 0]]) := p2.get (AHeap.get_push_same _ _)
  have l2 := AHeap.get_lt g2
  have hone : oneN (s.drop at_) = (bif wordB ((s.drop at_).take (runN false (s.drop at_))) then some (3, (s.drop at_).take (runN false (s.drop at_)), 0, runN false (s.drop at_)) else bif nameB ((s.drop at_).take (runN false (s.drop at_))) then some (1, (s.drop at_).take (runN false (s.drop at_)), 0, runN false (s.drop at_)) else none) := by
   have hlb : letB c = true := hl
   simp only [hd, oneN, hlb, cond_true]
  cases hw : wordB ((s.drop at_).take (runN false (s.drop at_))) with
  | true =>
   rw [hone, hw]
   simp -implicitDefEqProofs (disch := first | assumption | omega | (simp only [nxB]; omega) | (simp only [oneB])) only [s21, xlen, AV.cells, splice, aload, astore, Nat.reduceAdd, Nat.reduceLeDiff, reduceIte, allB, bd34w, g2]
   exact W_some.2 ⟨rfl, (p1.trans p2).then_set (Nat.le_refl _) _⟩
  | false =>
   rw [hone, hw]
   simp -implicitDefEqProofs (disch := first | assumption | omega | (simp only [nxB]; omega) | (simp only [oneB])) only [s21, xlen, evB]
   refine W_call (Name_spec (by simp only [List.length_take]; omega)) ?_
   rintro _ H3 ⟨rfl, p3⟩
   refine ⟨p3.1, ?_⟩
   have g3 := p3.get g2
   have l3 := AHeap.get_lt g3
   cases hn : nameB ((s.drop at_).take (runN false (s.drop at_))) with
   | true =>
    simp -implicitDefEqProofs (disch := first | assumption | omega | (simp only [nxB]; omega) | (simp only [oneB])) only [s21, xlen, AV.cells, splice, aload, astore, Nat.reduceAdd, Nat.reduceLeDiff, reduceIte, allB, bd34w, g3]
    exact W_some.2 ⟨rfl, ((p1.trans p2).trans p3).then_set (Nat.le_refl _) _⟩
   | false =>
    simp -implicitDefEqProofs (disch := first | assumption | omega | (simp only [nxB]; omega) | (simp only [oneB])) only [s21, xlen, AV.cells, splice, aload, astore, Nat.reduceAdd, Nat.reduceLeDiff, reduceIte, allB, g3]
    exact W_some.2 ⟨rfl, ((p1.trans p2).trans p3).then_set (Nat.le_refl _) _⟩
 | false =>
  simp -implicitDefEqProofs (disch := first | assumption | omega | (simp only [nxB]; omega) | (simp only [oneB])) only [s21, xlen, evB, e1']
  refine W_call0 (digit_spec _) ?_
  have hlb : letB c = false := hl
  have g1 : (H.push (.row false 4 [[.int .i64 0, .str [], .int .i64 0, .int .i64 0]])).get H.next = some (.row false 4 [[.int .i64 0, .str [], .int .i64 0, .int .i64 0]]) := AHeap.get_push_same _ _
  cases hg : diggI (c.toNat : Int) with
  | true =>
   have hgb : digB c = true := hg
   simp -implicitDefEqProofs (disch := first | assumption | omega | (simp only [nxB]; omega) | (simp only [oneB])) only [s21, xlen, evB]
   refine W_call0 (run_spec hs at_ (by omega) true) ?_
   have hr := hrl true
   have hsl := sl9 (s := s) (a := at_) (b := at_ + runN true (s.drop at_)) (by omega) (by omega)
   rw [Nat.add_sub_cancel_left] at hsl
   simp -implicitDefEqProofs (disch := first | assumption | omega | (simp only [nxB]; omega) | (simp only [oneB])) only [s21, xlen, evB, binB, wnn, hsl]
   refine W_call0 (whole_spec' (by simp only [List.length_take]; omega) (fun c hc => runN_dig _ c hc)) ?_
   have hone : oneN (s.drop at_) = (match wholeN 0 ((s.drop at_).take (runN true (s.drop at_))) with
    | none => none
    | some v => bif (decide (1 < runN true (s.drop at_)) && c.toNat == 48) || (decide (runN true (s.drop at_) < (s.drop at_).length) && letB (((s.drop at_)[runN true (s.drop at_)]?).getD 0)) then none else some (2, [], v, runN true (s.drop at_))) := by
    simp only [hd, oneN, hlb, hgb, cond_true, cond_false] <;> rfl
   rw [hone]
   cases hv : wholeN 0 ((s.drop at_).take (runN true (s.drop at_))) with
   | none =>
    simp -implicitDefEqProofs (disch := first | assumption | omega | (simp only [nxB]; omega) | (simp only [oneB])) only [s21, xlen, AV.cells, splice, aload, astore, Nat.reduceAdd, Nat.reduceLeDiff, reduceIte, allB, Bool.not_false, g1]
    exact W_some.2 ⟨rfl, Pur.push _ _⟩
   | some z =>
    generalize hR : runN true (s.drop at_) = R at *
    have q1 : decide (1 < R) = decide ((1 : Int) < (R : Int)) := by rw [decide_eq_decide]; omega
    have q48 : ((c.toNat : Int) == 48) = (c.toNat == 48) := by rw [Bool.eq_iff_iff]; simp; omega
    have q2 : decide (R < (s.drop at_).length) = decide (((at_ + R : Nat) : Int) < (s.length : Int)) := by rw [decide_eq_decide, hdl]; omega
    rw [q1, q2]
    simp only
    cases h1 : decide ((1 : Int) < (R : Int)) with
    | true =>
     cases h48 : c.toNat == 48 with
     | true =>
      simp -implicitDefEqProofs (disch := first | assumption | omega | (simp only [nxB]; omega) | (simp only [oneB])) only [s21, xlen, AV.cells, splice, aload, astore, Nat.reduceAdd, Nat.reduceLeDiff, reduceIte, allB, Bool.not_true, h1, e1', q48, h48, g1]
      exact W_some.2 ⟨rfl, Pur.push _ _⟩
     | false =>
      cases h2 : decide (((at_ + R : Nat) : Int) < (s.length : Int)) with
      | false =>
       simp -implicitDefEqProofs (disch := first | assumption | omega | (simp only [nxB]; omega) | (simp only [oneB])) only [s21, xlen, AV.cells, splice, aload, astore, Nat.reduceAdd, Nat.reduceLeDiff, reduceIte, allB, Bool.not_true, h1, e1', q48, h48, wnn, h2, g1, bd34n]
       exact W_some.2 ⟨rfl, Pur.push _ _⟩
      | true =>
       obtain ⟨y, hy⟩ : ∃ y, s[at_ + R]? = some y := ⟨s[at_ + R]'(by have := of_decide_eq_true h2; omega), by simp⟩
       have hy' := jx9 hy
       have hy2 : (s.drop at_)[R]? = some y := by rw [List.getElem?_drop]; exact hy
       simp -implicitDefEqProofs (disch := first | assumption | omega | (simp only [nxB]; omega) | (simp only [oneB])) only [s21, xlen, AV.cells, splice, aload, astore, Nat.reduceAdd, Nat.reduceLeDiff, reduceIte, allB, Bool.not_true, h1, e1', q48, h48, wnn, h2, hy']
       refine W_eff0 (letter_spec _) ?_
       rw [hy2]
       cases hyl : lettI (y.toNat : Int) with
       | true =>
        have hyb : letB y = true := hyl
        simp -implicitDefEqProofs (disch := first | assumption | omega | (simp only [nxB]; omega) | (simp only [oneB])) only [s21, xlen, AV.cells, splice, aload, astore, Nat.reduceAdd, Nat.reduceLeDiff, reduceIte, allB, g1, Option.getD_some, hyb]
        exact W_some.2 ⟨rfl, Pur.push _ _⟩
       | false =>
        have hyb : letB y = false := hyl
        simp -implicitDefEqProofs (disch := first | assumption | omega | (simp only [nxB]; omega) | (simp only [oneB])) only [s21, xlen, AV.cells, splice, aload, astore, Nat.reduceAdd, Nat.reduceLeDiff, reduceIte, allB, g1, bd34n, Option.getD_some, hyb]
        exact W_some.2 ⟨rfl, Pur.push _ _⟩
    | false =>
     cases h2 : decide (((at_ + R : Nat) : Int) < (s.length : Int)) with
     | false =>
      simp -implicitDefEqProofs (disch := first | assumption | omega | (simp only [nxB]; omega) | (simp only [oneB])) only [s21, xlen, AV.cells, splice, aload, astore, Nat.reduceAdd, Nat.reduceLeDiff, reduceIte, allB, Bool.not_true, h1, wnn, h2, g1, bd34n]
      exact W_some.2 ⟨rfl, Pur.push _ _⟩
     | true =>
      obtain ⟨y, hy⟩ : ∃ y, s[at_ + R]? = some y := ⟨s[at_ + R]'(by have := of_decide_eq_true h2; omega), by simp⟩
      have hy' := jx9 hy
      have hy2 : (s.drop at_)[R]? = some y := by rw [List.getElem?_drop]; exact hy
      simp -implicitDefEqProofs (disch := first | assumption | omega | (simp only [nxB]; omega) | (simp only [oneB])) only [s21, xlen, AV.cells, splice, aload, astore, Nat.reduceAdd, Nat.reduceLeDiff, reduceIte, allB, Bool.not_true, h1, wnn, h2, hy']
      refine W_eff0 (letter_spec _) ?_
      rw [hy2]
      cases hyl : lettI (y.toNat : Int) with
      | true =>
       have hyb : letB y = true := hyl
       simp -implicitDefEqProofs (disch := first | assumption | omega | (simp only [nxB]; omega) | (simp only [oneB])) only [s21, xlen, AV.cells, splice, aload, astore, Nat.reduceAdd, Nat.reduceLeDiff, reduceIte, allB, g1, Option.getD_some, hyb]
       exact W_some.2 ⟨rfl, Pur.push _ _⟩
      | false =>
       have hyb : letB y = false := hyl
       simp -implicitDefEqProofs (disch := first | assumption | omega | (simp only [nxB]; omega) | (simp only [oneB])) only [s21, xlen, AV.cells, splice, aload, astore, Nat.reduceAdd, Nat.reduceLeDiff, reduceIte, allB, g1, bd34n, Option.getD_some, hyb]
       exact W_some.2 ⟨rfl, Pur.push _ _⟩
  | false =>
   have hgb : digB c = false := hg
   simp -implicitDefEqProofs (disch := first | assumption | omega | (simp only [nxB]; omega) | (simp only [oneB])) only [s21, xlen, evB]
   refine W_call (sign_spec hs ha) ?_
   rintro _ H2 ⟨rfl, p2⟩
   refine ⟨p2.1, ?_⟩
   have g2 : H2.get H.next = some (.row false 4 [[.int .i64 0, .str [], .int .i64 0, .int .i64 0]]) := p2.get (AHeap.get_push_same _ _)
   have l2 := AHeap.get_lt g2
   have hone : oneN (s.drop at_) = (bif signN (s.drop at_) == [] then none else some (4, signN (s.drop at_), 0, (signN (s.drop at_)).length)) := by
    simp only [hd, oneN, hlb, hgb, cond_false]
   rw [hone]
   cases hsg : signN (s.drop at_) == [] with
   | true =>
    simp -implicitDefEqProofs (disch := first | assumption | omega | (simp only [nxB]; omega) | (simp only [oneB])) only [s21, xlen, AV.cells, splice, aload, astore, Nat.reduceAdd, Nat.reduceLeDiff, reduceIte, allB, hsg, g2]
    exact W_some.2 ⟨rfl, (p1.trans p2).then_set (Nat.le_refl _) _⟩
   | false =>
    simp -implicitDefEqProofs (disch := first | assumption | omega | (simp only [nxB]; omega) | (simp only [oneB])) only [s21, xlen, AV.cells, splice, aload, astore, Nat.reduceAdd, Nat.reduceLeDiff, reduceIte, allB, hsg, g2, bd34w]
    exact W_some.2 ⟨rfl, (p1.trans p2).then_set (Nat.le_refl _) _⟩
theorem sl22_1 (l : Nat) (t : Tok) : sliceOf P l 22 1 [(0, t.v)] = some (.sl l 0 1 4 (some 1), .row false 4 [t.cells]) := by
 obtain ⟨k, x, n, p⟩ := t
 kernel_rfl
theorem un22 : P.underlying 22 = some (.slice 34) := by kernel_rfl
theorem by34 : tyBytes P 34 = some 40 := by kernel_rfl
theorem az34 : azero P 34 = some (.agg [.int .i64 0, .str [], .int .i64 0, .int .i64 0]) := by kernel_rfl
theorem ap22_nil {H : AHeap} {L : Nat} {cs : List AV} {cap : Option Nat} {ro : Bool} (hg : H.get L = some (.row ro 4 [cs])) : aappend P H [22, 22] .nilSl (.sl L 0 1 4 cap) = some (.sl H.next 0 1 4 none, H.push (.row false 4 [cs])) := by
 simp [aappend, un22, ts34, by34, az34, anews, aels, hg, AV.cells]
theorem ap22_sl {H : AHeap} {L l n : Nat} {cs : List AV} {els : List (List AV)} {cap : Option Nat} {ro : Bool} (hg : H.get L = some (.row ro 4 [cs])) (hl : H.get l = some (.row false 4 els)) (hn : els.length = n) (hb : n ≤ 1000000000) : aappend P H [22, 22] (.sl l 0 n 4 none) (.sl L 0 1 4 cap) = some (.sl H.next 0 (n + 1) 4 none, (H.set l .dead).push (.row false 4 (els ++ [cs]))) := by
 have h1 : (n + 1) * 40 ≤ 140737488355328 := by omega
 have h2 : n + 1 ≤ 9223372036854775807 := by omega
 simp [aappend, un22, ts34, by34, az34, anews, aels, hg, hl, AV.cells, hn, h1, h2]
 rw [List.take_of_length_le (by omega)]
def Bld (H0 H : AHeap) (v : AV) (T : List Tok) : Prop := (v = .nilSl ∧ T = []) ∨ ∃ l, v = .sl l 0 T.length 4 none ∧ H0.next ≤ l ∧ H.get l = some (.row false 4 (T.map Tok.cells))
theorem Bld.tok {H0 H : AHeap} {v : AV} {T : List Tok} (h : Bld H0 H v T) : TokSl H v T := by
 rcases h with h | ⟨l, rfl, _, h2⟩
 ·exact .inl h
 ·refine .inr ⟨l, 0, none, rfl, .inr ⟨false, _, h2, fun k t hk => ?_⟩⟩
  simp [hk]
theorem Bld.pur {H0 H H' : AHeap} {v : AV} {T : List Tok} (h : Bld H0 H v T) (p : Pur H H') : Bld H0 H' v T := by
 rcases h with h | ⟨l, e, h1, h2⟩
 ·exact .inl h
 ·exact .inr ⟨l, e, h1, p.get h2⟩
theorem app_tok {H0 H : AHeap} {v : AV} {T : List Tok} (h : Bld H0 H v T) (p : Pur H0 H) (hT : T.length ≤ 1000000) (t : Tok) : ∃ v' H', aappend P (H.push (.row false 4 [t.cells])) [22, 22] v (.sl H.next 0 1 4 (some 1)) = some (v', H') ∧ Bld H0 H' v' (T ++ [t]) ∧ Pur H0 H' ∧ (H.push (.row false 4 [t.cells])).next ≤ H'.next ∧ (∀ l, l < H.next → (∀ e, v ≠ .sl l 0 T.length 4 e) → H'.get l = H.get l) := by
 have hg : (H.push (.row false 4 [t.cells])).get H.next = some (.row false 4 [t.cells]) := AHeap.get_push_same _ _
 rcases h with ⟨rfl, rfl⟩ | ⟨l, rfl, h1, h2⟩
 ·refine ⟨_, _, ap22_nil hg, .inr ⟨_, rfl, ?_, ?_⟩, (p.then_push _).then_push _, by simp, fun l hl _ => ?_⟩
  ·have := p.1; simp only [AHeap.next_push]; omega
  ·exact AHeap.get_push_same (H.push (.row false 4 [t.cells])) _
  ·rw [AHeap.get_push_other (by simp only [AHeap.next_push]; omega), AHeap.get_push_other (by omega)]
 ·have hl := AHeap.get_lt h2
  have h2' : (H.push (.row false 4 [t.cells])).get l = some (.row false 4 (T.map Tok.cells)) := by rw [AHeap.get_push_other (by omega)]; exact h2
  refine ⟨_, _, ap22_sl hg h2' (by simp) (by omega), .inr ⟨(H.push (.row false 4 [t.cells])).next, by simp, ?_, ?_⟩, ?_, by simp, fun j hj hne => ?_⟩
  ·have := p.1; simp only [AHeap.next_push, AHeap.next_set]; omega
  ·have e : ((H.push (.row false 4 [t.cells])).set l .dead).next = (H.push (.row false 4 [t.cells])).next := rfl
   simp only [List.map_append, List.map_cons, List.map_nil]
   rw [← e]
   exact AHeap.get_push_same _ _
  ·exact ((p.then_push _).then_set h1 _).then_push _
  ·rw [AHeap.get_push_other (by simp only [AHeap.next_push, AHeap.next_set]; omega), AHeap.get_set_other (by rintro rfl; exact hne _ rfl), AHeap.get_push_other (by omega)]
end Go.Proofs.YtgcamjgnfeajiaaDoor

namespace Go.Proofs.YtgcamjgnfeajiaaDoor
open Go.Ev
theorem runN_pos (d : Bool) (c : UInt8) (r : Bs) (h : (digB c || (!d && letB c)) = true) : 1 ≤ runN d (c :: r) := by
 rw [runN, h]; simp
theorem signN_le (s : Bs) : (signN s).length ≤ s.length := by
 unfold signN
 cases decide (2 ≤ s.length) && memB (s.take 2) twosL with
 | true => simp only [cond_true, List.length_take]; omega
 | false =>
  simp only [cond_false]
  cases s with
  | nil => simp
  | cons c r => simp only [List.length_cons]; cases memC c onesL <;> simp
theorem oneN_len {s : Bs} {k : Int} {t : Bs} {v : Int} {m : Nat} (h : oneN s = some (k, t, v, m)) : 1 ≤ m ∧ m ≤ s.length := by
 cases s with
 | nil => simp [oneN] at h
 | cons c r =>
  have hr := fun d => runN_le d (c :: r)
  rw [oneN] at h
  cases hl : letB c with
  | true =>
   have hp := runN_pos false c r (by simp [hl])
   rw [hl, cond_true] at h
   cases hw : wordB ((c :: r).take (runN false (c :: r))) with
   | true => rw [hw, cond_true] at h; cases h; exact ⟨hp, hr false⟩
   | false =>
    rw [hw, cond_false] at h
    cases hn : nameB ((c :: r).take (runN false (c :: r))) with
    | true => rw [hn, cond_true] at h; cases h; exact ⟨hp, hr false⟩
    | false => rw [hn, cond_false] at h; cases h
  | false =>
   rw [hl, cond_false] at h
   cases hd : digB c with
   | true =>
    have hp := runN_pos true c r (by simp [hd])
    rw [hd, cond_true] at h
    split at h
    ·cases h
    ·rename_i z hz
     rw [Bool.cond_eq_ite] at h
     split at h
     ·cases h
     ·cases h; exact ⟨hp, hr true⟩
   | false =>
    rw [hd, cond_false] at h
    cases hs : signN (c :: r) == [] with
    | true => rw [hs, cond_true] at h; cases h
    | false =>
     rw [hs, cond_false] at h
     cases h
     have hne : ¬ signN (c :: r) = [] := by simpa using hs
     have := signN_le (c :: r)
     exact ⟨List.length_pos_iff.2 hne, this⟩
theorem blankN_le : ∀ (s : Bs) (b : Bool), blankN b s ≤ s.length
 | [], b => by cases b <;> simp [blankN]
 | c :: r, true => by
  have h1 := blankN_le r true
  have h2 := blankN_le r false
  rw [blankN]
  cases c.toNat == 10 <;> simp only [cond_true, cond_false, List.length_cons] <;> omega
 | c :: r, false => by
  have h1 := blankN_le r true
  have h2 := blankN_le r false
  rw [blankN]
  cases isBlank c
  ·cases (c == 47 && r.head? == some 47) <;> simp only [cond_true, cond_false, List.length_cons] <;> omega
  ·simp only [cond_true, List.length_cons]; omega
def TokPost (H0 : AHeap) (x : List Tok × Int × Int) (r : AV) (H' : AHeap) : Prop := ∃ tv, r = .tuple [tv, .agg [.int .i64 x.2.1, .int .i64 x.2.2]] ∧ TokSl H' tv x.1 ∧ Pur H0 H'
def lexR (T : List Tok) : Nat ⊕ List Tok → List Tok × Int × Int
 | .inl e => ([], 1, e)
 | .inr l => (T ++ l, 0, 0)
theorem bd25w (k p : Int) : abuild P 25 [(0, .int .i64 k), (1, .int .i64 p)] = some (.agg [.int .i64 k, .int .i64 p]) := by kernel_rfl
theorem tok_loop {H0 : AHeap} {s : Bs} (hs : s.length ≤ 100000) (N : Nat) : ∀ (n : Nat) (rest : Bs) (at_ m : Nat) (T : List Tok) (v : AV) (H : AHeap), s.drop at_ = rest → at_ ≤ s.length → Bld (H0.push (.row false 2 [[.int .i64 0, .int .i64 0]])) H v T → Pur (H0.push (.row false 2 [[.int .i64 0, .int .i64 0]])) H → T.length ≤ at_ → rest.length < n → rest.length < m →
  W (s10_l1 (evw P orc) N m (.str s) (.ptr H0.next 0 0) v (.int .i64 at_) H) (TokPost H0 (lexR T (lexL n rest at_)))
 | 0, _, _, _, _, _, _, _, _, _, _, _, hn, _ => by omega
 | _, _, _, 0, _, _, _, _, _, _, _, _, _, hm => by omega
 | n + 1, [], at_, m + 1, T, v, H, h, ha, hb, p, hT, hn, hm => by
  have hlen := drop_nil h
  have h1 : ¬ ((at_ : Int) < (s.length : Int)) := by omega
  have hat : s.length = at_ := by omega
  have g : H.get H0.next = some (.row false 2 [[.int .i64 0, .int .i64 0]]) := p.get (AHeap.get_push_same _ _)
  have gl := AHeap.get_lt g
  obtain ⟨v', H', ea, hb', p', hnx, hkeep⟩ := app_tok hb p (by omega) ⟨0, [], 0, s.length⟩
  have hsl := sl22_1 H.next ⟨0, [], 0, s.length⟩
  simp only [Tok.v] at hsl
  simp -implicitDefEqProofs (disch := first | assumption | omega | (simp only [nxB]; omega) | (simp only [oneB])) only [s10_l1, s10_j0, s10_13, s10_b1, s10_29, s10, xlen, AV.cells, splice, aload, astore, Nat.reduceAdd, Nat.reduceLeDiff, reduceIte, allB, h1, decide_false, bd34e, hsl, ea, xcall_some]
  have g' : H'.get H0.next = some (.row false 2 [[.int .i64 0, .int .i64 0]]) := by
   rw [hkeep _ gl ?_]; exact g
   intro e he
   rcases hb with ⟨rfl, _⟩ | ⟨l, rfl, hl, _⟩
   ·cases he
   ·cases he; simp only [AHeap.next_push] at hl; omega
  have gl' := AHeap.get_lt g'
  have hrd : rdIs (some (.agg [.int .i64 0, .int .i64 0])) (.agg [.int .i64 0, .int .i64 0]) = true := by simp [rdIs, AV.beq, AVs.beq]
  simp -implicitDefEqProofs (disch := first | assumption | omega | (simp only [nxB]; omega) | (simp only [oneB])) only [s10_j0, s10_13, s10_b1, s10_29, s10, xlen, AV.cells, splice, aload, astore, Nat.reduceAdd, Nat.reduceLeDiff, reduceIte, allB, g', hrd]
  have p0 : Pur H0 H' := (Pur.push _ _).trans p'
  have ps : Pur H0 (H'.set H0.next (.row false 2 [[.int .i64 0, .int .i64 0]])) := p0.then_set (Nat.le_refl _) _
  refine W_some.2 ⟨v', rfl, ?_, ps⟩
  rw [lexL]
  simp only [lexR]
  rw [hat] at hb'
  exact hb'.tok.keep fun l ro els e => by
   rw [AHeap.get_set_other]; exact e
   rintro rfl
   rw [g'] at e; cases e
 | n + 1, c :: r, at_, m + 1, T, v, H, h, ha, hb, p, hT, hn, hm => by
  obtain ⟨e1, e2, e3, e4⟩ := drop_cons h
  have h1 : ((at_ : Int) < (s.length : Int)) := by omega
  have g : H.get H0.next = some (.row false 2 [[.int .i64 0, .int .i64 0]]) := p.get (AHeap.get_push_same _ _)
  have gl := AHeap.get_lt g
  simp -implicitDefEqProofs (disch := first | assumption | omega | (simp only [nxB]; omega) | (simp only [oneB])) only [s10_l1, s10_j0, s10_13, s10_b1, s10_29, s10, xlen, AV.cells, splice, aload, astore, Nat.reduceAdd, Nat.reduceLeDiff, reduceIte, allB, h1, decide_true]
  refine W_call (one_spec (by omega) e3) ?_
  rintro _ H2 ⟨rfl, p2⟩
  refine ⟨p2.1, ?_⟩
  have g2 := p2.get g
  have gl2 := AHeap.get_lt g2
  have hb2 := hb.pur p2
  replace p := p.trans p2
  rw [h, lexL]
  cases ho : oneN (c :: r) with
  | none =>
   simp only [oneV]
   simp -implicitDefEqProofs (disch := first | assumption | omega | (simp only [nxB]; omega) | (simp only [oneB])) only [s10_j0, s10_13, s10_b1, s10_29, s10, xlen, AV.cells, splice, aload, astore, Nat.reduceAdd, Nat.reduceLeDiff, reduceIte, allB, bd25w, beq_self_eq_true, g2, AHeap.push_set_lt]
   have hrd : rdIs (some (.agg [.int .i64 1, .int .i64 at_])) (.agg [.int .i64 1, .int .i64 at_]) = true := by simp [rdIs, AV.beq, AVs.beq]
   refine W_some.2 ⟨.nilSl, rfl, .inl ⟨rfl, rfl⟩, ?_⟩
   exact (((Pur.push _ _).trans p).then_set (Nat.le_refl _) _).then_push _
  | some q =>
   obtain ⟨k, t, z, b⟩ := q
   obtain ⟨b1, b2⟩ := oneN_len ho
   have hb0 : ((b : Int) == 0) = false := by simp; omega
   simp only [oneV]
   simp only [List.length_cons] at b2 hn hm
   obtain ⟨v', H', ea, hb', p', hnx, hkeep⟩ := app_tok (hb2.pur (Pur.push H2 (.row false 4 [Tok.cells ⟨k, t, z, at_⟩]))) (p.then_push _) (by omega) ⟨k, t, z, at_⟩
   have hsl := sl22_1 (H2.next + 1) ⟨k, t, z, at_⟩
   simp only [Tok.v] at hsl
   simp only [Tok.cells, AHeap.next_push] at ea hnx
   simp only [Tok.cells] at hsl
   have hrd : ∀ HH : AHeap, rdIs (some (.agg [.int .i64 k, .str t, .int .i64 z, .int .i64 at_])) (.agg [.int .i64 k, .str t, .int .i64 z, .int .i64 at_]) = true := fun _ => by simp [rdIs, AV.beq, AVs.beq]
   simp -implicitDefEqProofs (disch := first | assumption | omega | (simp only [nxB]; omega) | (simp only [oneB])) only [s10_j0, s10_13, s10_b1, s10_29, s10, xlen, AV.cells, splice, aload, astore, Nat.reduceAdd, Nat.reduceLeDiff, reduceIte, allB, hb0, hsl, ea, xcall_some, wnn]
   have hd2 : s.drop (at_ + b) = (c :: r).drop b := by rw [← List.drop_drop, h]
   have hbl := blankN_le ((c :: r).drop b) false
   simp only [List.length_drop, List.length_cons] at hbl
   refine W_call0 (blank_spec (by omega) (at_ := at_ + b) (by omega)) ?_
   rw [hd2]
   simp only [s10_13]
   have hbl' : at_ + b + blankN false ((c :: r).drop b) ≤ s.length := by omega
   have ih := tok_loop hs N n (s.drop (at_ + b + blankN false ((c :: r).drop b))) (at_ + b + blankN false ((c :: r).drop b)) m (T ++ [⟨k, t, z, at_⟩]) v' H' rfl hbl' hb' p' (by simp; omega) (by simp; omega) (by simp; omega)
   refine ih.mono ?_
   rintro w H'' ⟨tv, q1, q2, q3⟩
   have hdd : s.drop (at_ + b + blankN false ((c :: r).drop b)) = ((c :: r).drop b).drop (blankN false ((c :: r).drop b)) := by rw [← List.drop_drop, hd2]
   rw [hdd] at q1 q2
   have hE : lexR (T ++ [⟨k, t, z, at_⟩]) (lexL n (((c :: r).drop b).drop (blankN false ((c :: r).drop b))) (at_ + b + blankN false ((c :: r).drop b))) = lexR T (match lexL n (((c :: r).drop b).drop (blankN false ((c :: r).drop b))) (at_ + b + blankN false ((c :: r).drop b)) with
     | .inl e => .inl e
     | .inr l => .inr (⟨k, t, z, at_⟩ :: l)) := by
    cases lexL n (((c :: r).drop b).drop (blankN false ((c :: r).drop b))) (at_ + b + blankN false ((c :: r).drop b)) with
    | inl e => rfl
    | inr l => simp [lexR]
   rw [hE] at q1 q2
   exact ⟨tv, q1, q2, q3⟩
theorem Tokens_spec {H : AHeap} (s : Bs) : W (evw P orc 10 [.str s] H) (TokPost H (tokensS s)) := by
 refine W_of (fun _ => run10 (s.length + 1)) ?_
 by_cases h6 : (6000 : Int) < (s.length : Int)
 ·have h6' : 6000 < s.length := by omega
  simp -implicitDefEqProofs (disch := first | assumption | omega | (simp only [nxB]; omega) | (simp only [oneB])) only [s10_j0, s10_13, s10_b1, s10_29, s10, xlen, AV.cells, splice, aload, astore, Nat.reduceAdd, Nat.reduceLeDiff, reduceIte, allB, h6, decide_true]
  refine W_some.2 ⟨.nilSl, by simp [tokensS, h6'], .inl ⟨rfl, by simp [tokensS, h6']⟩, Pur.push _ _⟩
 ·have h6' : ¬ 6000 < s.length := by omega
  simp -implicitDefEqProofs (disch := first | assumption | omega | (simp only [nxB]; omega) | (simp only [oneB])) only [s10_j0, s10_13, s10_29, s10, xlen, AV.cells, splice, aload, astore, Nat.reduceAdd, Nat.reduceLeDiff, reduceIte, allB, h6, decide_false]
  refine W_call0 (blank_spec (s := s) (by omega) (at_ := 0) (by omega)) ?_
  simp only [List.drop_zero, Nat.zero_add, s10_29]
  have hbl := blankN_le s false
  refine (tok_loop (H0 := H) (by omega) (s.length + 1) (s.length + 1) (s.drop (blankN false s)) (blankN false s) (s.length + 1) [] .nilSl _ rfl hbl (.inl ⟨rfl, rfl⟩) (.refl _) (by simp) (by simp; omega) (by simp; omega)).mono ?_
  rintro v H' ⟨tv, q1, q2, q3⟩
  have hE : lexR [] (lexL (s.length + 1) (s.drop (blankN false s)) (blankN false s)) = tokensS s := by
   simp only [tokensS, if_neg h6', lexS]
   cases lexL (s.length + 1) (s.drop (blankN false s)) (blankN false s) <;> rfl
  rw [hE] at q1 q2
  exact ⟨tv, q1, q2, q3⟩
end Go.Proofs.YtgcamjgnfeajiaaDoor

namespace Go.Proofs.YtgcamjgnfeajiaaDoor
open Go.Ev
set_option maxRecDepth 100000
noncomputable section
def s13 (G : CallT) (x0 : AV) (H : AHeap) : O :=
 xcall H (G 23 [] H) fun x3 h1 =>
 xcall h1 (G 22 [x3, x0] h1) fun x5 h2 =>
 some (x5, h2)
theorem s13_eq (G : CallT) (N : Nat) (x0 : AV) (H : AHeap) : cF Tryd.f13 G N (argsF [x0]) H = s13 G x0 H := by
 refine via_top (A := cF Tryd.f13 G N) (via_leaf _) ?_
 delta s13
 kernel_rfl
theorem run13 (N : Nat) {x0 : AV} {H : AHeap} {r : AV × AHeap} (h : s13 (evw P orc) x0 H = some r) : evw P orc 13 [x0] H = some r :=
 runF (by kernel_rfl) Tryd.func13 (by kernel_rfl) (by kernel_rfl) (by kernel_rfl) ((s13_eq (evw P orc) N x0 H).trans h)
def s15_13 (G : CallT) (x9 x0 x11 : AV) (h4 : AHeap) : O :=
 xg x9 true h4 (qp (aindex P 9 x11 (.int .i64 0))) fun x12 h5 =>
 xg x9 true h5 (fun q => xeff h5 (G 25 [x12] h5) q) fun x13 h6 =>
 xb (pickOf x9 (some x13) (some (.bool false))) fun x14 =>
 xg x14 true h6 (qv x0) fun x16 h7 =>
 xg x14 true h7 (fun q => xeff h7 (G 26 [x16, (.func (.func 27) [] [])] h7) q) fun x17 h8 =>
 xg x14 true h8 (qv x0) fun x18 h9 =>
 xg x14 true h9 (fun q => xboth (abuiltin P .empty .len [9] [x18]) (abuiltin P h9 .len [9] [x18]) q) fun x19 h10 =>
 xg x14 true h10 (qp (fbin P .eql 3 false x17 x19)) fun x20 h11 =>
 xb (pickOf x14 (some x20) (some (.bool false))) fun x21 =>
 xg x21 true h11 (qv x0) fun x23 h12 =>
 xg x21 true h12 (fun q => xeff h12 (G 13 [x23] h12) q) fun x24 h13 =>
 xg x21 true h13 (qp (aun .not x24)) fun x25 h14 =>
 xb (pickOf x21 (some x25) (some (.bool false))) fun x26 =>
 some (x26, h14)
def s15 (G : CallT) (x0 : AV) (H : AHeap) : O :=
 xb (fbin P .neq 9 true x0 (.str [])) fun x4 =>
 xg x4 true H (qv x0) fun x6 h1 =>
 xg x4 true h1 (fun q => xboth (abuiltin P .empty .len [9] [x6]) (abuiltin P h1 .len [9] [x6]) q) fun x7 h2 =>
 xg x4 true h2 (qp (fbin P .leq 3 true x7 (.int .i64 8))) fun x8 h3 =>
 xb (pickOf x4 (some x8) (some (.bool false))) fun x9 =>
 xg x9 true h3 (qv x0) (s15_13 G x9 x0)
theorem s15_eq (G : CallT) (N : Nat) (x0 : AV) (H : AHeap) : cF Tryd.f15 G N (argsF [x0]) H = s15 G x0 H := by
 refine via_top (A := cF Tryd.f15 G N) (via_leaf _) ?_
 delta s15 s15_13
 kernel_rfl
theorem run15 (N : Nat) {x0 : AV} {H : AHeap} {r : AV × AHeap} (h : s15 (evw P orc) x0 H = some r) : evw P orc 15 [x0] H = some r :=
 runF (by kernel_rfl) Tryd.func15 (by kernel_rfl) (by kernel_rfl) (by kernel_rfl) ((s15_eq (evw P orc) N x0 H).trans h)
def s18_j0 (G : CallT) (N : Nat) (x1 : AV) (H : AHeap) : O :=
 some (x1, H)
theorem s18_j0_eq (G : CallT) (N : Nat) : ∀ R H, codeC P G N (Code.snd (Code.snd (bodyOf Tryd.f18))) (rC Tryd.f18) [] (rC Tryd.f18) R H = s18_j0 G N (R 1) H := by
 refine via_trans (via_leaf _) fun R H => ?_
 delta s18_j0
 kernel_rfl
def s18_b1 (G : CallT) (N : Nat) (L1 : AV → AV → AHeap → O) (x0 x1 : AV) (H : AHeap) : O :=
 xlen P .len [9] [x0] H fun x8 =>
 xb (fbin P .lss 3 false x1 x8) fun x9 =>
 xif (some x9) (xb (aindex P 9 x0 x1) fun x14 =>
 xcall H (G 30 [(.str [32, 9, 10, 13]), x14] H) fun x15 h1 =>
 xb (fbin P .geq 3 true x15 (.int .i64 0)) fun x16 =>
 xif (some x16) (xb (fbin P .add 3 true x1 (.int .i64 1)) fun x18 =>
 L1 x0 x18 h1) (xb (aslice P 9 x0 (some x1) none none) fun x22 =>
 xcall h1 (G 31 [x22, (.str [47, 47])] h1) fun x23 h2 =>
 xif (some x23) (xb (aslice P 9 x0 (some x1) none none) fun x26 =>
 xcall h2 (G 30 [x26, (.int .u8 10)] h2) fun x27 h3 =>
 xb (fbin P .lss 3 true x27 (.int .i64 0)) fun x29 =>
 xif (some x29) (xlen P .len [9] [x0] h3 fun x31 =>
 some (x31, h3)) (xb (fbin P .add 3 false x1 x27) fun x34 =>
 L1 x0 x34 h3)) (some (x1, h2)))) (s18_j0 G N x1 H)
def s18_l1 (G : CallT) (N : Nat) : Nat → AV → AV → AHeap → O
 | 0, _, _, _ => none
 | n + 1, x0, x1, H => s18_b1 G N (s18_l1 G N n) x0 x1 H
theorem s18_b1_eq (G : CallT) (N : Nat) (L1 : AV → AV → AHeap → O) : ∀ R H, codeC P G N (Code.fst (Code.fst (Code.fst (Code.snd (bodyOf Tryd.f18))))) (fun R H => L1 (R 0) (R 1) H) [(0, (fun R H => s18_j0 G N (R 1) H))] (rC Tryd.f18) R H = s18_b1 G N L1 (R 0) (R 1) H := by
 refine via_trans (via_leaf _) fun R H => ?_
 delta s18_b1
 generalize s18_j0 G N = J0
 revert J0
 refine id ?_
 intro J0
 kernel_rfl
def s18 (G : CallT) (N : Nat) (x0 x1 : AV) (H : AHeap) : O :=
 s18_l1 G N N x0 x1 H
theorem s18_eq (G : CallT) (N : Nat) (x0 : AV) (x1 : AV) (H : AHeap) : cF Tryd.f18 G N (argsF [x0, x1]) H = s18 G N x0 x1 H := by
 refine via_top (A := cF Tryd.f18 G N) ((via_seq (by kernel_rfl) ((via_seq (by kernel_rfl) (s18_j0_eq G N) ((via_block (by kernel_rfl) ((via_loop (k := fun m R H => s18_l1 G N m (R 0) (R 1) H) (by kernel_rfl) (fun R H => by kernel_rfl) (fun m => s18_b1_eq G N (s18_l1 G N m)))))))) (via_leaf _))) ?_
 delta s18
 generalize s18_l1 G N N = J0
 revert J0
 refine id ?_
 intro J0
 kernel_rfl
theorem run18 (N : Nat) {x0 x1 : AV} {H : AHeap} {r : AV × AHeap} (h : s18 (evw P orc) N x0 x1 H = some r) : evw P orc 18 [x0, x1] H = some r :=
 runF (by kernel_rfl) Tryd.func18 (by kernel_rfl) (by kernel_rfl) (by kernel_rfl) ((s18_eq (evw P orc) N x0 x1 H).trans h)
def s19_j0 (G : CallT) (N : Nat) (x2 : AV) (H : AHeap) : O :=
 xstore H (astore P H 34 x2 (.agg [(.int .i64 0), (.str []), (.int .i64 0), (.int .i64 0)])) fun h1 =>
 xb (aload P h1 34 x2) fun r =>
 some (.tuple [r, (.int .i64 0)], h1)
theorem s19_j0_eq (G : CallT) (N : Nat) : ∀ R H, codeC P G N (Code.snd (Code.snd (Code.snd (bodyOf Tryd.f19)))) (rC Tryd.f19) [] (rC Tryd.f19) R H = s19_j0 G N (R 2) H := by
 refine via_trans (via_leaf _) fun R H => ?_
 delta s19_j0
 kernel_rfl
def s19_b1 (G : CallT) (N : Nat) (L1 : AV → AV → AV → AV → AV → AHeap → O) (x0 x2 : AV) (x22 x23 x24 : AV) (H : AHeap) : O :=
 xb (fbin P .lss 3 false x24 x23) fun x25 =>
 xif (some x25) (xb (aindexAddr P 31 x22 x24) fun x26 =>
 xb (aload P H 9 x26) fun x27 =>
 xcall H (G 31 [x0, x27] H) fun x30 h1 =>
 xif (some x30) (xb (abuild P 34 [(0, (.int .i64 4)), (1, x27)]) fun x32 =>
 xlen P .len [9] [x27] h1 fun x34 =>
 xstore h1 (astore P h1 34 x2 x32) fun h2 =>
 xb (aload P h2 34 x2) fun r =>
 some (.tuple [r, x34], h2)) (xb (fbin P .add 3 true x24 (.int .i64 1)) fun x35 =>
 L1 x0 x2 x22 x23 x35 h1)) (s19_j0 G N x2 H)
def s19_l1 (G : CallT) (N : Nat) : Nat → AV → AV → AV → AV → AV → AHeap → O
 | 0, _, _, _, _, _, _ => none
 | n + 1, x0, x2, x22, x23, x24, H => s19_b1 G N (s19_l1 G N n) x0 x2 x22 x23 x24 H
theorem s19_b1_eq (G : CallT) (N : Nat) (L1 : AV → AV → AV → AV → AV → AHeap → O) : ∀ R H, codeC P G N (Code.fst (Code.fst (Code.snd (Code.fst (Code.snd (Code.snd (bodyOf Tryd.f19))))))) (fun R H => L1 (R 0) (R 2) (R 22) (R 23) (R 24) H) [(1, (fun R H => s19_j0 G N (R 2) H))] (rC Tryd.f19) R H = s19_b1 G N L1 (R 0) (R 2) (R 22) (R 23) (R 24) H := by
 refine via_trans (via_leaf _) fun R H => ?_
 delta s19_b1
 generalize s19_j0 G N = J0
 revert J0
 refine id ?_
 intro J0
 kernel_rfl
def s19 (G : CallT) (N : Nat) (x0 : AV) (H : AHeap) : O :=
 xalloc H [(.int .i64 0), (.str []), (.int .i64 0), (.int .i64 0)] fun x2 h1 =>
 xb (aindex P 9 x0 (.int .i64 0)) fun x8 =>
 xcall h1 (G 25 [x8] h1) fun x9 h2 =>
 xif (some x9) (xcall h2 (G 32 [x0] h2) fun x11 h3 =>
 xb (aextract x11 0) fun x12 =>
 xb (aextract x11 1) fun x13 =>
 xstore h3 (astore P h3 34 x2 x12) fun h4 =>
 xb (aload P h4 34 x2) fun r =>
 some (.tuple [r, x13], h4)) (xb (aindex P 9 x0 (.int .i64 0)) fun x16 =>
 xcall h2 (G 33 [x16] h2) fun x17 h3 =>
 xif (some x17) (xcall h3 (G 34 [x0] h3) fun x19 h4 =>
 xb (aextract x19 0) fun x20 =>
 xb (aextract x19 1) fun x21 =>
 xstore h4 (astore P h4 34 x2 x20) fun h5 =>
 xb (aload P h5 34 x2) fun r =>
 some (.tuple [r, x21], h5)) (xcall h3 (G 35 [] h3) fun x22 h4 =>
 xlen P .len [31] [x22] h4 fun x23 =>
 s19_l1 G N N x0 x2 x22 x23 (.int .i64 0) h4))
theorem s19_eq (G : CallT) (N : Nat) (x0 : AV) (H : AHeap) : cF Tryd.f19 G N (argsF [x0]) H = s19 G N x0 H := by
 refine via_top (A := cF Tryd.f19 G N) ((via_seq (by kernel_rfl) ((via_seq (by kernel_rfl) ((via_seq (by kernel_rfl) (s19_j0_eq G N) ((via_seq (by kernel_rfl) ((via_block (by kernel_rfl) ((via_loop (k := fun m R H => s19_l1 G N m (R 0) (R 2) (R 22) (R 23) (R 24) H) (by kernel_rfl) (fun R H => by kernel_rfl) (fun m => s19_b1_eq G N (s19_l1 G N m)))))) (via_leaf _))))) (via_leaf _))) (via_leaf _))) ?_
 delta s19
 generalize s19_l1 G N N = J0
 revert J0
 refine id ?_
 intro J0
 kernel_rfl
theorem run19 (N : Nat) {x0 : AV} {H : AHeap} {r : AV × AHeap} (h : s19 (evw P orc) N x0 H = some r) : evw P orc 19 [x0] H = some r :=
 runF (by kernel_rfl) Tryd.func19 (by kernel_rfl) (by kernel_rfl) (by kernel_rfl) ((s19_eq (evw P orc) N x0 H).trans h)
def s22 (G : CallT) (x0 x1 : AV) (H : AHeap) : O :=
 xcall H (G 39 [x0, x1] H) fun x7 h1 =>
 xb (fbin P .geq 3 true x7 (.int .i64 0)) fun x8 =>
 some (x8, h1)
theorem s22_eq (G : CallT) (N : Nat) (x0 : AV) (x1 : AV) (H : AHeap) : cF Tryd.f22 G N (argsF [x0, x1]) H = s22 G x0 x1 H := by
 refine via_top (A := cF Tryd.f22 G N) (via_leaf _) ?_
 delta s22
 kernel_rfl
theorem run22 (N : Nat) {x0 x1 : AV} {H : AHeap} {r : AV × AHeap} (h : s22 (evw P orc) x0 x1 H = some r) : evw P orc 22 [x0, x1] H = some r :=
 runF (by kernel_rfl) Tryd.func22 (by kernel_rfl) (by kernel_rfl) (by kernel_rfl) ((s22_eq (evw P orc) N x0 x1 H).trans h)
def s23 (G : CallT) (H : AHeap) : O :=
 xcall H (G 40 [(.str [114, 101, 99, 111, 114, 100, 32, 103, 108, 111, 98, 97, 108, 32, 102, 117, 110, 99, 32, 118, 97, 114, 32, 108, 101, 116, 32, 105, 102, 32, 101, 108, 115, 101, 32, 119, 104, 105, 108, 101, 32, 114, 101, 116, 117, 114, 110, 32, 112, 114, 105, 110, 116, 32, 110, 117, 108, 108, 32, 110, 101, 119, 32, 108, 101, 110, 32, 114, 101, 97, 100, 32, 116, 114, 117, 101, 32, 102, 97, 108, 115, 101, 32, 105, 110, 116, 32, 98, 111, 111, 108])] H) fun x1 h1 =>
 some (x1, h1)
theorem s23_eq (G : CallT) (N : Nat) (H : AHeap) : cF Tryd.f23 G N (argsF []) H = s23 G H := by
 refine via_top (A := cF Tryd.f23 G N) (via_leaf _) ?_
 delta s23
 kernel_rfl
theorem run23 (N : Nat) {H : AHeap} {r : AV × AHeap} (h : s23 (evw P orc) H = some r) : evw P orc 23 [] H = some r :=
 runF (by kernel_rfl) Tryd.func23 (by kernel_rfl) (by kernel_rfl) (by kernel_rfl) ((s23_eq (evw P orc) N H).trans h)
def s25 (G : CallT) (x0 : AV) (H : AHeap) : O :=
 xb (fbin P .geq 5 true x0 (.int .u8 97)) fun x4 =>
 xg x4 true H (qv x0) fun x6 h1 =>
 xg x4 true h1 (qp (fbin P .leq 5 true x6 (.int .u8 122))) fun x7 h2 =>
 xb (pickOf x4 (some x7) (some (.bool false))) fun x8 =>
 xg x8 false h2 (qv x0) fun x10 h3 =>
 xg x8 false h3 (qp (fbin P .geq 5 true x10 (.int .u8 65))) fun x11 h4 =>
 xg x8 false h4 (qv x11) fun x12 h5 =>
 xg x12 true h5 (qv x0) fun x13 h6 =>
 xg x12 true h6 (qp (fbin P .leq 5 true x13 (.int .u8 90))) fun x14 h7 =>
 xg x8 false h7 (qp (pickOf x12 (some x14) (some (.bool false)))) fun x15 h8 =>
 xb (pickOf x8 (some (.bool true)) (some x15)) fun x16 =>
 some (x16, h8)
theorem s25_eq (G : CallT) (N : Nat) (x0 : AV) (H : AHeap) : cF Tryd.f25 G N (argsF [x0]) H = s25 G x0 H := by
 refine via_top (A := cF Tryd.f25 G N) (via_leaf _) ?_
 delta s25
 kernel_rfl
theorem run25 (N : Nat) {x0 : AV} {H : AHeap} {r : AV × AHeap} (h : s25 (evw P orc) x0 H = some r) : evw P orc 25 [x0] H = some r :=
 runF (by kernel_rfl) Tryd.func25 (by kernel_rfl) (by kernel_rfl) (by kernel_rfl) ((s25_eq (evw P orc) N x0 H).trans h)
def s26_j0 (G : CallT) (N : Nat) (x5 : AV) (H : AHeap) : O :=
 some (x5, H)
theorem s26_j0_eq (G : CallT) (N : Nat) : ∀ R H, codeC P G N (Code.snd (Code.snd (Code.snd (bodyOf Tryd.f26)))) (rC Tryd.f26) [] (rC Tryd.f26) R H = s26_j0 G N (R 5) H := by
 refine via_trans (via_leaf _) fun R H => ?_
 delta s26_j0
 kernel_rfl
def s26_b1 (G : CallT) (N : Nat) (L1 : AV → AV → AV → AHeap → O) (x0 x1 x5 : AV) (H : AHeap) : O :=
 xlen P .len [9] [x0] H fun x8 =>
 xb (fbin P .lss 3 false x5 x8) fun x9 =>
 xg x9 true H (qv x1) fun x11 h1 =>
 xg x9 true h1 (qv x0) fun x12 h2 =>
 xg x9 true h2 (qv x5) fun x13 h3 =>
 xg x9 true h3 (qp (aindex P 9 x12 x13)) fun x14 h4 =>
 xg x9 true h4 (fun q => (calleeOf x11 [x14]).bind fun p => xeff h4 (G p.1 p.2 h4) q) fun x15 h5 =>
 xb (pickOf x9 (some x15) (some (.bool false))) fun x16 =>
 xif (some x16) (xb (fbin P .add 3 true x5 (.int .i64 1)) fun x18 =>
 L1 x0 x1 x18 h5) (s26_j0 G N x5 h5)
def s26_l1 (G : CallT) (N : Nat) : Nat → AV → AV → AV → AHeap → O
 | 0, _, _, _, _ => none
 | n + 1, x0, x1, x5, H => s26_b1 G N (s26_l1 G N n) x0 x1 x5 H
theorem s26_b1_eq (G : CallT) (N : Nat) (L1 : AV → AV → AV → AHeap → O) : ∀ R H, codeC P G N (Code.fst (Code.fst (Code.fst (Code.snd (Code.snd (bodyOf Tryd.f26)))))) (fun R H => L1 (R 0) (R 1) (R 5) H) [(0, (fun R H => s26_j0 G N (R 5) H))] (rC Tryd.f26) R H = s26_b1 G N L1 (R 0) (R 1) (R 5) H := by
 refine via_trans (via_leaf _) fun R H => ?_
 delta s26_b1
 generalize s26_j0 G N = J0
 revert J0
 refine id ?_
 intro J0
 kernel_rfl
def s26 (G : CallT) (N : Nat) (x0 x1 : AV) (H : AHeap) : O :=
 s26_l1 G N N x0 x1 (.int .i64 0) H
theorem s26_eq (G : CallT) (N : Nat) (x0 : AV) (x1 : AV) (H : AHeap) : cF Tryd.f26 G N (argsF [x0, x1]) H = s26 G N x0 x1 H := by
 refine via_top (A := cF Tryd.f26 G N) ((via_seq (by kernel_rfl) ((via_seq (by kernel_rfl) ((via_seq (by kernel_rfl) (s26_j0_eq G N) ((via_block (by kernel_rfl) ((via_loop (k := fun m R H => s26_l1 G N m (R 0) (R 1) (R 5) H) (by kernel_rfl) (fun R H => by kernel_rfl) (fun m => s26_b1_eq G N (s26_l1 G N m)))))))) (via_leaf _))) (via_leaf _))) ?_
 delta s26
 generalize s26_l1 G N N = J0
 revert J0
 refine id ?_
 intro J0
 kernel_rfl
theorem run26 (N : Nat) {x0 x1 : AV} {H : AHeap} {r : AV × AHeap} (h : s26 (evw P orc) N x0 x1 H = some r) : evw P orc 26 [x0, x1] H = some r :=
 runF (by kernel_rfl) Tryd.func26 (by kernel_rfl) (by kernel_rfl) (by kernel_rfl) ((s26_eq (evw P orc) N x0 x1 H).trans h)
def s27 (G : CallT) (x0 : AV) (H : AHeap) : O :=
 xcall H (G 25 [x0] H) fun x4 h1 =>
 xg x4 false h1 (qv x0) fun x6 h2 =>
 xg x4 false h2 (fun q => xeff h2 (G 33 [x6] h2) q) fun x7 h3 =>
 xb (pickOf x4 (some (.bool true)) (some x7)) fun x8 =>
 some (x8, h3)
theorem s27_eq (G : CallT) (N : Nat) (x0 : AV) (H : AHeap) : cF Tryd.f27 G N (argsF [x0]) H = s27 G x0 H := by
 refine via_top (A := cF Tryd.f27 G N) (via_leaf _) ?_
 delta s27
 kernel_rfl
theorem run27 (N : Nat) {x0 : AV} {H : AHeap} {r : AV × AHeap} (h : s27 (evw P orc) x0 H = some r) : evw P orc 27 [x0] H = some r :=
 runF (by kernel_rfl) Tryd.func27 (by kernel_rfl) (by kernel_rfl) (by kernel_rfl) ((s27_eq (evw P orc) N x0 H).trans h)
def s31 (G : CallT) (x0 x1 : AV) (H : AHeap) : O :=
 xcall H (G 42 [x0, x1] H) fun x7 h1 =>
 some (x7, h1)
theorem s31_eq (G : CallT) (N : Nat) (x0 : AV) (x1 : AV) (H : AHeap) : cF Tryd.f31 G N (argsF [x0, x1]) H = s31 G x0 x1 H := by
 refine via_top (A := cF Tryd.f31 G N) (via_leaf _) ?_
 delta s31
 kernel_rfl
theorem run31 (N : Nat) {x0 x1 : AV} {H : AHeap} {r : AV × AHeap} (h : s31 (evw P orc) x0 x1 H = some r) : evw P orc 31 [x0, x1] H = some r :=
 runF (by kernel_rfl) Tryd.func31 (by kernel_rfl) (by kernel_rfl) (by kernel_rfl) ((s31_eq (evw P orc) N x0 x1 H).trans h)
def s32 (G : CallT) (x0 : AV) (H : AHeap) : O :=
 xalloc H [(.int .i64 0), (.str []), (.int .i64 0), (.int .i64 0)] fun x2 h1 =>
 xcall h1 (G 26 [x0, (.func (.func 27) [] [])] h1) fun x7 h2 =>
 xb (aslice P 9 x0 none (some x7) none) fun x10 =>
 xcall h2 (G 13 [x10] h2) fun x13 h3 =>
 xif (some x13) (xb (abuild P 34 [(0, (.int .i64 3)), (1, x10)]) fun x15 =>
 xstore h3 (astore P h3 34 x2 x15) fun h4 =>
 xb (aload P h4 34 x2) fun r =>
 some (.tuple [r, x7], h4)) (xcall h3 (G 15 [x10] h3) fun x19 h4 =>
 xif (some x19) (xb (abuild P 34 [(0, (.int .i64 1)), (1, x10)]) fun x21 =>
 xstore h4 (astore P h4 34 x2 x21) fun h5 =>
 xb (aload P h5 34 x2) fun r =>
 some (.tuple [r, x7], h5)) (xstore h4 (astore P h4 34 x2 (.agg [(.int .i64 0), (.str []), (.int .i64 0), (.int .i64 0)])) fun h5 =>
 xb (aload P h5 34 x2) fun r =>
 some (.tuple [r, (.int .i64 0)], h5)))
theorem s32_eq (G : CallT) (N : Nat) (x0 : AV) (H : AHeap) : cF Tryd.f32 G N (argsF [x0]) H = s32 G x0 H := by
 refine via_top (A := cF Tryd.f32 G N) (via_leaf _) ?_
 delta s32
 kernel_rfl
theorem run32 (N : Nat) {x0 : AV} {H : AHeap} {r : AV × AHeap} (h : s32 (evw P orc) x0 H = some r) : evw P orc 32 [x0] H = some r :=
 runF (by kernel_rfl) Tryd.func32 (by kernel_rfl) (by kernel_rfl) (by kernel_rfl) ((s32_eq (evw P orc) N x0 H).trans h)
def s33 (G : CallT) (x0 : AV) (H : AHeap) : O :=
 xb (fbin P .geq 5 true x0 (.int .u8 48)) fun x4 =>
 xg x4 true H (qv x0) fun x6 h1 =>
 xg x4 true h1 (qp (fbin P .leq 5 true x6 (.int .u8 57))) fun x7 h2 =>
 xb (pickOf x4 (some x7) (some (.bool false))) fun x8 =>
 some (x8, h2)
theorem s33_eq (G : CallT) (N : Nat) (x0 : AV) (H : AHeap) : cF Tryd.f33 G N (argsF [x0]) H = s33 G x0 H := by
 refine via_top (A := cF Tryd.f33 G N) (via_leaf _) ?_
 delta s33
 kernel_rfl
theorem run33 (N : Nat) {x0 : AV} {H : AHeap} {r : AV × AHeap} (h : s33 (evw P orc) x0 H = some r) : evw P orc 33 [x0] H = some r :=
 runF (by kernel_rfl) Tryd.func33 (by kernel_rfl) (by kernel_rfl) (by kernel_rfl) ((s33_eq (evw P orc) N x0 H).trans h)
def s34 (G : CallT) (x0 : AV) (H : AHeap) : O :=
 xalloc H [(.int .i64 0), (.str []), (.int .i64 0), (.int .i64 0)] fun x2 h1 =>
 xcall h1 (G 26 [x0, (.func (.func 33) [] [])] h1) fun x8 h2 =>
 xb (aslice P 9 x0 none (some x8) none) fun x12 =>
 xcall h2 (G 43 [x12] h2) fun x13 h3 =>
 xb (aextract x13 0) fun x14 =>
 xb (aextract x13 1) fun x15 =>
 xb (fbin P .neq 57 true x15 AV.nilIface) fun x17 =>
 xg x17 false h3 (qv x8) fun x19 h4 =>
 xg x17 false h4 (qp (fbin P .gtr 3 true x19 (.int .i64 1))) fun x20 h5 =>
 xg x17 false h5 (qv x20) fun x21 h6 =>
 xg x21 true h6 (qv x0) fun x22 h7 =>
 xg x21 true h7 (qp (aindex P 9 x22 (.int .i64 0))) fun x23 h8 =>
 xg x21 true h8 (qp (fbin P .eql 5 true x23 (.int .u8 48))) fun x24 h9 =>
 xg x17 false h9 (qp (pickOf x21 (some x24) (some (.bool false)))) fun x25 h10 =>
 xb (pickOf x17 (some (.bool true)) (some x25)) fun x26 =>
 xg x26 false h10 (qv x8) fun x28 h11 =>
 xg x26 false h11 (qv x0) fun x29 h12 =>
 xg x26 false h12 (fun q => xboth (abuiltin P .empty .len [9] [x29]) (abuiltin P h12 .len [9] [x29]) q) fun x30 h13 =>
 xg x26 false h13 (qp (fbin P .lss 3 false x28 x30)) fun x31 h14 =>
 xg x26 false h14 (qv x31) fun x32 h15 =>
 xg x32 true h15 (qv x0) fun x33 h16 =>
 xg x32 true h16 (qv x8) fun x34 h17 =>
 xg x32 true h17 (qp (aindex P 9 x33 x34)) fun x35 h18 =>
 xg x32 true h18 (fun q => xeff h18 (G 25 [x35] h18) q) fun x36 h19 =>
 xg x26 false h19 (qp (pickOf x32 (some x36) (some (.bool false)))) fun x37 h20 =>
 xb (pickOf x26 (some (.bool true)) (some x37)) fun x38 =>
 xif (some x38) (xstore h20 (astore P h20 34 x2 (.agg [(.int .i64 0), (.str []), (.int .i64 0), (.int .i64 0)])) fun h21 =>
 xb (aload P h21 34 x2) fun r =>
 some (.tuple [r, (.int .i64 0)], h21)) (xb (abuild P 34 [(0, (.int .i64 2)), (2, x14)]) fun x41 =>
 xstore h20 (astore P h20 34 x2 x41) fun h21 =>
 xb (aload P h21 34 x2) fun r =>
 some (.tuple [r, x8], h21))
theorem s34_eq (G : CallT) (N : Nat) (x0 : AV) (H : AHeap) : cF Tryd.f34 G N (argsF [x0]) H = s34 G x0 H := by
 refine via_top (A := cF Tryd.f34 G N) (via_leaf _) ?_
 delta s34
 kernel_rfl
theorem run34 (N : Nat) {x0 : AV} {H : AHeap} {r : AV × AHeap} (h : s34 (evw P orc) x0 H = some r) : evw P orc 34 [x0] H = some r :=
 runF (by kernel_rfl) Tryd.func34 (by kernel_rfl) (by kernel_rfl) (by kernel_rfl) ((s34_eq (evw P orc) N x0 H).trans h)
def s35 (G : CallT) (H : AHeap) : O :=
 xcall H (G 40 [(.str [60, 61, 32, 61, 61, 32, 33, 61, 32, 38, 38, 32, 124, 124, 32, 123, 32, 125, 32, 40, 32, 41, 32, 91, 32, 93, 32, 59, 32, 58, 32, 44, 32, 46, 32, 61, 32, 43, 32, 45, 32, 42, 32, 47, 32, 37, 32, 60, 32, 33])] H) fun x1 h1 =>
 some (x1, h1)
theorem s35_eq (G : CallT) (N : Nat) (H : AHeap) : cF Tryd.f35 G N (argsF []) H = s35 G H := by
 refine via_top (A := cF Tryd.f35 G N) (via_leaf _) ?_
 delta s35
 kernel_rfl
theorem run35 (N : Nat) {H : AHeap} {r : AV × AHeap} (h : s35 (evw P orc) H = some r) : evw P orc 35 [] H = some r :=
 runF (by kernel_rfl) Tryd.func35 (by kernel_rfl) (by kernel_rfl) (by kernel_rfl) ((s35_eq (evw P orc) N H).trans h)
def s39_j0 (G : CallT) (N : Nat) (H : AHeap) : O :=
 some ((.int .i64 (-1)), H)
theorem s39_j0_eq (G : CallT) (N : Nat) : ∀ R H, codeC P G N (Code.snd (Code.snd (bodyOf Tryd.f39))) (rC Tryd.f39) [] (rC Tryd.f39) R H = s39_j0 G N H := by
 refine via_trans (via_leaf _) fun R H => ?_
 delta s39_j0
 kernel_rfl
def s39_b1 (G : CallT) (N : Nat) (L1 : AV → AV → AV → AV → AHeap → O) (x0 x1 : AV) (x7 x8 : AV) (H : AHeap) : O :=
 xb (fbin P .lss 3 false x8 x7) fun x9 =>
 xif (some x9) (xb (aindexAddr P 31 x0 x8) fun x14 =>
 xb (aload P H 9 x14) fun x15 =>
 xb (fbin P .eql 9 false x1 x15) fun x16 =>
 xif (some x16) (some (x8, H)) (xb (fbin P .add 3 true x8 (.int .i64 1)) fun x18 =>
 L1 x0 x1 x7 x18 H)) (s39_j0 G N H)
def s39_l1 (G : CallT) (N : Nat) : Nat → AV → AV → AV → AV → AHeap → O
 | 0, _, _, _, _, _ => none
 | n + 1, x0, x1, x7, x8, H => s39_b1 G N (s39_l1 G N n) x0 x1 x7 x8 H
theorem s39_b1_eq (G : CallT) (N : Nat) (L1 : AV → AV → AV → AV → AHeap → O) : ∀ R H, codeC P G N (Code.fst (Code.fst (Code.snd (Code.fst (Code.snd (bodyOf Tryd.f39)))))) (fun R H => L1 (R 0) (R 1) (R 7) (R 8) H) [(0, (fun R H => s39_j0 G N H))] (rC Tryd.f39) R H = s39_b1 G N L1 (R 0) (R 1) (R 7) (R 8) H := by
 refine via_trans (via_leaf _) fun R H => ?_
 delta s39_b1
 generalize s39_j0 G N = J0
 revert J0
 refine id ?_
 intro J0
 kernel_rfl
def s39 (G : CallT) (N : Nat) (x0 x1 : AV) (H : AHeap) : O :=
 xlen P .len [31] [x0] H fun x7 =>
 s39_l1 G N N x0 x1 x7 (.int .i64 0) H
theorem s39_eq (G : CallT) (N : Nat) (x0 : AV) (x1 : AV) (H : AHeap) : cF Tryd.f39 G N (argsF [x0, x1]) H = s39 G N x0 x1 H := by
 refine via_top (A := cF Tryd.f39 G N) ((via_seq (by kernel_rfl) ((via_seq (by kernel_rfl) (s39_j0_eq G N) ((via_seq (by kernel_rfl) ((via_block (by kernel_rfl) ((via_loop (k := fun m R H => s39_l1 G N m (R 0) (R 1) (R 7) (R 8) H) (by kernel_rfl) (fun R H => by kernel_rfl) (fun m => s39_b1_eq G N (s39_l1 G N m)))))) (via_leaf _))))) (via_leaf _))) ?_
 delta s39
 generalize s39_l1 G N N = J0
 revert J0
 refine id ?_
 intro J0
 kernel_rfl
theorem run39 (N : Nat) {x0 x1 : AV} {H : AHeap} {r : AV × AHeap} (h : s39 (evw P orc) N x0 x1 H = some r) : evw P orc 39 [x0, x1] H = some r :=
 runF (by kernel_rfl) Tryd.func39 (by kernel_rfl) (by kernel_rfl) (by kernel_rfl) ((s39_eq (evw P orc) N x0 x1 H).trans h)
def s42 (G : CallT) (x0 x1 : AV) (H : AHeap) : O :=
 xlen P .len [9] [x0] H fun x6 =>
 xlen P .len [9] [x1] H fun x8 =>
 xb (fbin P .geq 3 false x6 x8) fun x9 =>
 xg x9 true H (qv x0) fun x11 h1 =>
 xg x9 true h1 (qv x1) fun x12 h2 =>
 xg x9 true h2 (fun q => xboth (abuiltin P .empty .len [9] [x12]) (abuiltin P h2 .len [9] [x12]) q) fun x13 h3 =>
 xg x9 true h3 (qp (aslice P 9 x11 none (some x13) none)) fun x14 h4 =>
 xg x9 true h4 (qv x1) fun x15 h5 =>
 xg x9 true h5 (qp (fbin P .eql 9 false x14 x15)) fun x16 h6 =>
 xb (pickOf x9 (some x16) (some (.bool false))) fun x17 =>
 some (x17, h6)
theorem s42_eq (G : CallT) (N : Nat) (x0 : AV) (x1 : AV) (H : AHeap) : cF Tryd.f42 G N (argsF [x0, x1]) H = s42 G x0 x1 H := by
 refine via_top (A := cF Tryd.f42 G N) (via_leaf _) ?_
 delta s42
 kernel_rfl
theorem run42 (N : Nat) {x0 x1 : AV} {H : AHeap} {r : AV × AHeap} (h : s42 (evw P orc) x0 x1 H = some r) : evw P orc 42 [x0, x1] H = some r :=
 runF (by kernel_rfl) Tryd.func42 (by kernel_rfl) (by kernel_rfl) (by kernel_rfl) ((s42_eq (evw P orc) N x0 x1 H).trans h)
def s9_j0 (G : CallT) (N : Nat) (x0 x3 x4 : AV) (H : AHeap) : O :=
 xlen P .len [9] [x0] H fun x42 =>
 xb (abuild P 34 [(0, (.int .i64 0)), (3, x42)]) fun x43 =>
 xmake H (sliceOf P (H).next 22 1 [(0, x43)]) fun x44 h1 =>
 xcall h1 (aappend P h1 [22, 22] x4 x44) fun x45 h2 =>
 xstore h2 (astore P h2 25 x3 (.agg [(.int .i64 0), (.int .i64 0)])) fun h3 =>
 xb (aload P h3 25 x3) fun r =>
 some (.tuple [x45, r], h3)
theorem s9_j0_eq (G : CallT) (N : Nat) : ∀ R H, codeC P G N (Code.snd (Code.snd (Code.snd (Code.snd (bodyOf Tryd.f9))))) (rC Tryd.f9) [] (rC Tryd.f9) R H = s9_j0 G N (R 0) (R 3) (R 4) H := by
 refine via_trans (via_leaf _) fun R H => ?_
 delta s9_j0
 kernel_rfl
def s9_b1 (G : CallT) (N : Nat) (L1 : AV → AV → AV → AV → AHeap → O) (x0 x3 : AV) (x4 x5 : AV) (H : AHeap) : O :=
 xlen P .len [9] [x0] H fun x16 =>
 xb (fbin P .lss 3 false x5 x16) fun x17 =>
 xif (some x17) (xb (aslice P 9 x0 (some x5) none none) fun x21 =>
 xcall H (G 19 [x21] H) fun x22 h1 =>
 xb (aextract x22 0) fun x23 =>
 xb (aextract x22 1) fun x24 =>
 xalloc h1 [(.int .i64 0), (.str []), (.int .i64 0), (.int .i64 0)] fun x6 h2 =>
 xstore h2 (astore P h2 34 x6 x23) fun h3 =>
 xb (fbin P .eql 3 true x24 (.int .i64 0)) fun x26 =>
 xif (some x26) (xb (abuild P 25 [(0, (.int .i64 1)), (1, x5)]) fun x28 =>
 xstore h3 (astore P h3 25 x3 x28) fun h4 =>
 xb (aload P h4 25 x3) fun r =>
 some (.tuple [AV.nilSl, r], h4)) (xb (afieldAddr P 34 x6 3) fun x30 =>
 xstore h3 (astore P h3 3 x30 x5) fun h4 =>
 xb (aload P h4 34 x6) fun x32 =>
 xmake h4 (sliceOf P (h4).next 22 1 [(0, x32)]) fun x33 h5 =>
 xcall h5 (aappend P h5 [22, 22] x4 x33) fun x34 h6 =>
 xb (fbin P .add 3 false x5 x24) fun x38 =>
 xcall h6 (G 18 [x0, x38] h6) fun x39 h7 =>
 L1 x0 x3 x34 x39 h7)) (s9_j0 G N x0 x3 x4 H)
def s9_l1 (G : CallT) (N : Nat) : Nat → AV → AV → AV → AV → AHeap → O
 | 0, _, _, _, _, _ => none
 | n + 1, x0, x3, x4, x5, H => s9_b1 G N (s9_l1 G N n) x0 x3 x4 x5 H
theorem s9_b1_eq (G : CallT) (N : Nat) (L1 : AV → AV → AV → AV → AHeap → O) : ∀ R H, codeC P G N (Code.fst (Code.fst (Code.snd (Code.fst (Code.snd (Code.snd (Code.snd (bodyOf Tryd.f9)))))))) (fun R H => L1 (R 0) (R 3) (R 4) (R 5) H) [(0, (fun R H => s9_j0 G N (R 0) (R 3) (R 4) H))] (rC Tryd.f9) R H = s9_b1 G N L1 (R 0) (R 3) (R 4) (R 5) H := by
 refine via_trans (via_leaf _) fun R H => ?_
 delta s9_b1
 generalize s9_j0 G N = J0
 revert J0
 refine id ?_
 intro J0
 kernel_rfl
def s9 (G : CallT) (N : Nat) (x0 : AV) (H : AHeap) : O :=
 xalloc H [(.int .i64 0), (.int .i64 0)] fun x3 h1 =>
 xlen P .len [9] [x0] h1 fun x9 =>
 xb (fbin P .gtr 3 true x9 (.int .i64 6000)) fun x10 =>
 xif (some x10) (xstore h1 (astore P h1 25 x3 (.agg [(.int .i64 4), (.int .i64 0)])) fun h2 =>
 xb (aload P h2 25 x3) fun r =>
 some (.tuple [AV.nilSl, r], h2)) (xcall h1 (G 18 [x0, (.int .i64 0)] h1) fun x13 h2 =>
 s9_l1 G N N x0 x3 AV.nilSl x13 h2)
theorem s9_eq (G : CallT) (N : Nat) (x0 : AV) (H : AHeap) : cF Tryd.f9 G N (argsF [x0]) H = s9 G N x0 H := by
 refine via_top (A := cF Tryd.f9 G N) ((via_seq (by kernel_rfl) ((via_seq (by kernel_rfl) ((via_seq (by kernel_rfl) ((via_seq (by kernel_rfl) (s9_j0_eq G N) ((via_seq (by kernel_rfl) ((via_block (by kernel_rfl) ((via_loop (k := fun m R H => s9_l1 G N m (R 0) (R 3) (R 4) (R 5) H) (by kernel_rfl) (fun R H => by kernel_rfl) (fun m => s9_b1_eq G N (s9_l1 G N m)))))) (via_leaf _))))) (via_leaf _))) (via_leaf _))) (via_leaf _))) ?_
 delta s9
 generalize s9_l1 G N N = J0
 revert J0
 refine id ?_
 intro J0
 kernel_rfl
theorem run9 (N : Nat) {x0 : AV} {H : AHeap} {r : AV × AHeap} (h : s9 (evw P orc) N x0 H = some r) : evw P orc 9 [x0] H = some r :=
 runF (by kernel_rfl) Tryd.func9 (by kernel_rfl) (by kernel_rfl) (by kernel_rfl) ((s9_eq (evw P orc) N x0 H).trans h)
end
end Go.Proofs.YtgcamjgnfeajiaaDoor
namespace Go.Proofs.YtgcamjgnfeajiaaDoor
open Go.Ev
structure Gl (H : AHeap) : Prop where
 tab : H.get 0 = some (.row true 1 tab0)
 err : H.get 1 = some (.row true 1 row1)
theorem Gl.pur {H H' : AHeap} (h : Gl H) (p : Pur H H') : Gl H' := ⟨p.get h.tab, p.get h.err⟩
theorem isLetter_spec {H : AHeap} (c : Int) : W (evw P orc 25 [.int .u8 c] H) fun v H' => v = .bool (lettI c) ∧ H' = H := by
 refine W_of (fun _ => run25 0) ?_
 unfold lettI
 cases h1 : decide (97 ≤ c) <;> cases h2 : decide (c ≤ 122) <;> cases h3 : decide (65 ≤ c) <;> cases h4 : decide (c ≤ 90) <;>
  (simp -implicitDefEqProofs (disch := first | assumption | omega | (simp only [nxB]; omega) | (simp only [oneB])) only [s25, xlen, evB, binB, h1, h2, h3, h4]; exact W_some.2 ⟨rfl, rfl⟩)
theorem isDigit_spec {H : AHeap} (c : Int) : W (evw P orc 33 [.int .u8 c] H) fun v H' => v = .bool (diggI c) ∧ H' = H := by
 refine W_of (fun _ => run33 0) ?_
 unfold diggI
 cases h1 : decide (48 ≤ c) <;> cases h2 : decide (c ≤ 57) <;>
  (simp -implicitDefEqProofs (disch := first | assumption | omega | (simp only [nxB]; omega) | (simp only [oneB])) only [s33, xlen, evB, binB, h1, h2]; exact W_some.2 ⟨rfl, rfl⟩)
theorem isPart_spec {H : AHeap} (c : Int) : W (evw P orc 27 [.int .u8 c] H) fun v H' => v = .bool (lettI c || diggI c) ∧ H' = H := by
 refine W_of (fun _ => run27 0) ?_
 rw [s27]
 refine W_call0 (isLetter_spec c) ?_
 cases h : lettI c with
 | true =>
  simp -implicitDefEqProofs (disch := first | assumption | omega | (simp only [nxB]; omega) | (simp only [oneB])) only [xlen, evB]
  exact W_some.2 ⟨rfl, rfl⟩
 | false =>
  simp -implicitDefEqProofs (disch := first | assumption | omega | (simp only [nxB]; omega) | (simp only [oneB])) only [xlen, evB]
  refine W_eff0 (isDigit_spec c) ?_
  simp -implicitDefEqProofs (disch := first | assumption | omega | (simp only [nxB]; omega) | (simp only [oneB])) only [xlen, evB]
  exact W_some.2 ⟨rfl, rfl⟩
def takesB (d : Bool) (c : UInt8) : Bool := digB c || (!d && letB c)
def isF (d : Bool) : Nat := if d then 33 else 27
theorem is_spec {H : AHeap} (d : Bool) (c : UInt8) : W (evw P orc (isF d) [.int .u8 c.toNat] H) fun v H' => v = .bool (takesB d c) ∧ H' = H := by
 cases d with
 | true =>
  refine (isDigit_spec (H := H) (c.toNat : Int)).mono ?_
  rintro v H' ⟨rfl, rfl⟩
  exact ⟨by simp [takesB, digB], rfl⟩
 | false =>
  refine (isPart_spec (H := H) (c.toNat : Int)).mono ?_
  rintro v H' ⟨rfl, rfl⟩
  exact ⟨by simp [takesB, digB, letB, Bool.or_comm], rfl⟩
theorem calleeOf_fn (g : Nat) (vs : List AV) : calleeOf (.func (.func g) [] []) vs = some (g, vs) := by simp [calleeOf]
theorem lrun_loop {H : AHeap} {s : Bs} (hs : s.length ≤ 1000000000000000000) (d : Bool) (N : Nat) : ∀ (rest : Bs) (n m : Nat), s.drop n = rest → n ≤ s.length → rest.length < m →
  W (s26_l1 (evw P orc) N m (.str s) (.func (.func (isF d)) [] []) (.int .i64 n) H) fun v H' => v = .int .i64 ((n + runN d rest : Nat) : Int) ∧ H' = H
 | _, _, 0, _, _, hm => by omega
 | [], n, m + 1, h, hn, hm => by
  have := drop_nil h
  have h1 : ¬ ((n : Int) < (s.length : Int)) := by omega
  simp -implicitDefEqProofs (disch := first | assumption | omega | (simp only [nxB]; omega) | (simp only [oneB])) only [s26_l1, s26_j0, s26_b1, s26, xlen, AV.cells, splice, aload, astore, Nat.reduceAdd, Nat.reduceLeDiff, reduceIte, allB, h1, decide_false]
  exact W_some.2 ⟨by simp [runN], rfl⟩
 | c :: r, n, m + 1, h, hn, hm => by
  obtain ⟨e1, e2, e3, e4⟩ := drop_cons h
  have h1 : ((n : Int) < (s.length : Int)) := by omega
  have e1' := jx9 e1
  simp -implicitDefEqProofs (disch := first | assumption | omega | (simp only [nxB]; omega) | (simp only [oneB])) only [s26_l1, s26_j0, s26_b1, s26, xlen, AV.cells, splice, aload, astore, Nat.reduceAdd, Nat.reduceLeDiff, reduceIte, allB, h1, decide_true, e1', calleeOf_fn]
  refine W_eff0 (is_spec d c) ?_
  cases hb : takesB d c with
  | true =>
   simp -implicitDefEqProofs (disch := first | assumption | omega | (simp only [nxB]; omega) | (simp only [oneB])) only [xlen, evB, binB, wn1]
   refine (lrun_loop (H := H) hs d N r (n + 1) m e2 (by omega) (by simp at hm; omega)).mono ?_
   rintro v H' ⟨rfl, rfl⟩
   have e : runN d (c :: r) = runN d r + 1 := by
    have : (digB c || (!d && letB c)) = true := hb
    rw [runN, this]; rfl
   have e' : n + 1 + runN d r = n + runN d (c :: r) := by rw [e]; omega
   exact ⟨by rw [e'], rfl⟩
  | false =>
   simp -implicitDefEqProofs (disch := first | assumption | omega | (simp only [nxB]; omega) | (simp only [oneB])) only [xlen, evB, s26_j0]
   have e : runN d (c :: r) = 0 := by
    have : (digB c || (!d && letB c)) = false := hb
    rw [runN, this]; rfl
   exact W_some.2 ⟨by rw [e]; rfl, rfl⟩
theorem lrun_spec {H : AHeap} {s : Bs} (hs : s.length ≤ 1000000000000000000) (d : Bool) : W (evw P orc 26 [.str s, .func (.func (isF d)) [] []] H) fun v H' => v = .int .i64 (runN d s : Nat) ∧ H' = H := by
 refine W_of (fun _ => run26 (s.length + 1)) ?_
 rw [s26]
 have := lrun_loop (H := H) hs d (s.length + 1) s 0 (s.length + 1) rfl (by omega) (by omega)
 simpa using this
theorem fields_spec {H : AHeap} (hg : Gl H) (s : Bs) (l : List Bs) (hs : s.length < 4294967281) (ha : ∀ (j : Nat) b, s[j]? = some b → b.toNat < 128) (hf : Lib.fields s = l) : evw P orc 40 [.str s] H = some (.sl H.next 0 l.length 1 (some l.length), H.push (.row false 1 (l.map fun x => [.str x]))) := by
 subst hf
 refine evw_orc ?_
 exact if_pos ⟨hs, ha, hg.tab⟩
def signsL : List Bs := twosL ++ [[123], [125], [40], [41], [91], [93], [59], [58], [44], [46], [61], [43], [45], [42], [47], [37], [60], [33]]
theorem ascii_of {s : Bs} (h : s.all (fun b => decide (b.toNat < 128)) = true) : ∀ (j : Nat) b, s[j]? = some b → b.toNat < 128 := fun j b hj => by
 have := List.all_eq_true.1 h b (List.mem_of_getElem? hj)
 simpa using this
theorem lwords_spec {H : AHeap} (hg : Gl H) : W (evw P orc 23 [] H) fun v H' => v = .sl H.next 0 wordsL.length 1 (some wordsL.length) ∧ H' = H.push (.row false 1 (wordsL.map fun y => [AV.str y])) := by
 refine W_of (fun _ => run23 0) ?_
 rw [s23, fields_spec hg _ wordsL (by decide) (ascii_of (by decide +kernel)) (by decide +kernel)]
 simp only [xcall, AHeap.next_push, Nat.le_succ, decide_true, cond_true]
 exact W_some.2 ⟨rfl, rfl⟩
theorem lsigns_spec {H : AHeap} (hg : Gl H) : W (evw P orc 35 [] H) fun v H' => v = .sl H.next 0 signsL.length 1 (some signsL.length) ∧ H' = H.push (.row false 1 (signsL.map fun y => [AV.str y])) := by
 refine W_of (fun _ => run35 0) ?_
 rw [s35, fields_spec hg _ signsL (by decide) (ascii_of (by decide +kernel)) (by decide +kernel)]
 simp only [xcall, AHeap.next_push, Nat.le_succ, decide_true, cond_true]
 exact W_some.2 ⟨rfl, rfl⟩
def posN (x : Bs) : List Bs → Nat → Int
 | [], _ => -1
 | y :: ys, n => bif x == y then n else posN x ys (n + 1)
theorem posN_mem (x : Bs) : ∀ (l : List Bs) (n : Nat), decide (0 ≤ posN x l n) = memB x l
 | [], n => rfl
 | y :: ys, n => by
  have hc : (y == x) = (x == y) := by
   cases h : x == y with
   | true => rw [eq_of_beq h]; simp
   | false =>
    have : x ≠ y := by simpa using h
    simpa using fun e : y = x => this e.symm
  rw [posN, memB, hc]
  cases h : x == y with
  | true =>
   simp only [cond_true, Bool.true_or, decide_eq_true_eq]
   omega
  | false =>
   simp only [cond_false, Bool.false_or]
   exact posN_mem x ys (n + 1)
theorem Index_loop {H : AHeap} {x : Bs} {l : Nat} (N : Nat) (all : List Bs) (hA : all.length ≤ 1000) (hg : H.get l = some (.row false 1 (all.map fun y => [AV.str y]))) : ∀ (rest pre : List Bs), all = pre ++ rest → ∀ (m : Nat), rest.length < m →
  W (s39_l1 (evw P orc) N m (.sl l 0 all.length 1 (some all.length)) (.str x) (.int .i64 all.length) (.int .i64 pre.length) H) fun v H' => v = .int .i64 (posN x rest pre.length) ∧ H' = H
 | _, _, _, 0, hm => by omega
 | [], pre, hp, m + 1, hm => by
  have h1 : ¬ ((pre.length : Int) < (all.length : Int)) := by rw [hp]; simp
  simp -implicitDefEqProofs (disch := first | assumption | omega | (simp only [nxB]; omega) | (simp only [oneB])) only [s39_l1, s39_j0, s39_b1, s39, xlen, AV.cells, splice, aload, astore, Nat.reduceAdd, Nat.reduceLeDiff, reduceIte, allB, h1, decide_false]
  exact W_some.2 ⟨rfl, rfl⟩
 | y :: ys, pre, hp, m + 1, hm => by
  have h1 : ((pre.length : Int) < (all.length : Int)) := by rw [hp]; simp; omega
  have h0 : (0 : Int) ≤ (pre.length : Int) := by omega
  have e1 : ((pre.length : Int)).toNat = pre.length := by omega
  have hle : pre.length < all.length := by omega
  have he : (all.map fun y => [AV.str y])[pre.length]? = some [AV.str y] := by rw [hp]; simp
  have hw : ((pre ++ [y]).length : Int) = ((pre.length + 1 : Nat) : Int) := by simp
  simp -implicitDefEqProofs (disch := first | assumption | omega | (simp only [nxB]; omega) | (simp only [oneB])) only [s39_l1, s39_j0, s39_b1, s39, xlen, AV.cells, splice, aload, astore, Nat.reduceAdd, Nat.reduceLeDiff, reduceIte, allB, h1, decide_true, hg, e1, he]
  cases hc : x == y with
  | true =>
   simp -implicitDefEqProofs (disch := first | assumption | omega | (simp only [nxB]; omega) | (simp only [oneB])) only [s39_j0, s39_b1, s39, xlen, evB]
   exact W_some.2 ⟨by simp [posN, hc], rfl⟩
  | false =>
   have ih := Index_loop (H := H) (x := x) N all hA hg ys (pre ++ [y]) (by simp [hp]) m (by simp at hm; omega)
   rw [hw] at ih
   simp -implicitDefEqProofs (disch := first | assumption | omega | (simp only [nxB]; omega) | (simp only [oneB])) only [s39_j0, s39_b1, s39, xlen, evB, binB, wn1]
   refine ih.mono ?_
   rintro v H' ⟨rfl, rfl⟩
   exact ⟨by simp [posN, hc], rfl⟩
theorem Contains_spec {H : AHeap} {x : Bs} {l : Nat} (all : List Bs) (hA : all.length ≤ 1000) (hg : H.get l = some (.row false 1 (all.map fun y => [AV.str y]))) :
  W (evw P orc 22 [.sl l 0 all.length 1 (some all.length), .str x] H) fun v H' => v = .bool (memB x all) ∧ H' = H := by
 refine W_of (fun _ => run22 0) ?_
 rw [s22]
 have hi : W (evw P orc 39 [.sl l 0 all.length 1 (some all.length), .str x] H) fun v H' => v = .int .i64 (posN x all 0) ∧ H' = H := by
  refine W_of (fun _ => run39 (all.length + 1)) ?_
  simp -implicitDefEqProofs (disch := first | assumption | omega | (simp only [nxB]; omega) | (simp only [oneB])) only [s39, xlen, AV.cells, splice, aload, astore, Nat.reduceAdd, Nat.reduceLeDiff, reduceIte, allB]
  exact Index_loop (H := H) (x := x) (all.length + 1) all hA hg all [] rfl (all.length + 1) (by omega)
 refine W_call0 hi ?_
 have := posN_mem x all 0
 simp -implicitDefEqProofs (disch := first | assumption | omega | (simp only [nxB]; omega) | (simp only [oneB])) only [xlen, evB, binB, this]
 exact W_some.2 ⟨rfl, rfl⟩
theorem lWord_spec {H : AHeap} (hg : Gl H) (x : Bs) : W (evw P orc 13 [.str x] H) fun v H' => v = .bool (wordB x) ∧ Pur H H' := by
 refine W_of (fun _ => run13 0) ?_
 rw [s13]
 refine W_call (lwords_spec hg) ?_
 rintro _ _ ⟨rfl, rfl⟩
 refine ⟨(Pur.push _ _).1, ?_⟩
 refine W_call0 (Contains_spec wordsL (by decide) (AHeap.get_push_same _ _)) ?_
 exact W_some.2 ⟨rfl, Pur.push _ _⟩
theorem allP_run : ∀ (x : Bs), allP x = (runN false x == x.length)
 | [] => rfl
 | c :: r => by
  have ih := allP_run r
  rw [allP, runN, ih, Bool.or_comm (letB c)]
  have hd : (digB c || (!false && letB c)) = (digB c || letB c) := by simp
  rw [hd]
  cases h : digB c || letB c with
  | true => simp
  | false => simp
theorem lName_spec {H : AHeap} (hg : Gl H) {x : Bs} (hx : x.length ≤ 1000000000000000000) : W (evw P orc 15 [.str x] H) fun v H' => v = .bool (nameB x) ∧ Pur H H' := by
 refine W_of (fun _ => run15 0) ?_
 unfold nameB
 cases x with
 | nil =>
  have h1 : (([] : List UInt8) == []) = true := rfl
  simp -implicitDefEqProofs (disch := first | assumption | omega | (simp only [nxB]; omega) | (simp only [oneB])) only [s15, s15_13, xlen, AV.cells, splice, aload, astore, Nat.reduceAdd, Nat.reduceLeDiff, reduceIte, allB, h1, Bool.not_true]
  exact W_some.2 ⟨by simp, .refl _⟩
 | cons c r =>
  have h1 : ((c :: r) == ([] : List UInt8)) = false := rfl
  have q1 : decide (1 ≤ (c :: r).length) = true := by simp
  have hz := jx9_0 (s := c :: r) (b := c) rfl
  rw [q1]
  by_cases h2 : (c :: r).length ≤ 8
  ·have h2' : (((c :: r).length : Nat) : Int) ≤ 8 := by omega
   generalize hy : c :: r = y at *
   simp -implicitDefEqProofs (disch := first | assumption | omega | (simp only [nxB]; omega) | (simp only [oneB])) only [s15, s15_13, xlen, AV.cells, splice, aload, astore, Nat.reduceAdd, Nat.reduceLeDiff, reduceIte, allB, h1, Bool.not_false, h2', decide_true, hz]
   refine W_eff0 (isLetter_spec _) ?_
   have hh : letB (y.headD 0) = lettI (c.toNat : Int) := by rw [← hy]; rfl
   rw [hh]
   cases h3 : lettI (c.toNat : Int) with
   | false =>
    simp -implicitDefEqProofs (disch := first | assumption | omega | (simp only [nxB]; omega) | (simp only [oneB])) only [xlen, evB]
    exact W_some.2 ⟨by simp, .refl _⟩
   | true =>
    simp -implicitDefEqProofs (disch := first | assumption | omega | (simp only [nxB]; omega) | (simp only [oneB])) only [xlen, evB]
    refine W_eff0 (lrun_spec hx false) ?_
    rw [allP_run]
    cases h4 : (runN false y == y.length) with
    | false =>
     have h4' : (((runN false y : Nat) : Int) == (y.length : Int)) = false := by
      have : runN false y ≠ y.length := by simpa using h4
      simp; omega
     simp -implicitDefEqProofs (disch := first | assumption | omega | (simp only [nxB]; omega) | (simp only [oneB])) only [xlen, AV.cells, splice, aload, astore, Nat.reduceAdd, Nat.reduceLeDiff, reduceIte, allB, h4']
     exact W_some.2 ⟨by simp, .refl _⟩
    | true =>
     have h4' : (((runN false y : Nat) : Int) == (y.length : Int)) = true := by
      have : runN false y = y.length := by simpa using h4
      simp; omega
     simp -implicitDefEqProofs (disch := first | assumption | omega | (simp only [nxB]; omega) | (simp only [oneB])) only [xlen, AV.cells, splice, aload, astore, Nat.reduceAdd, Nat.reduceLeDiff, reduceIte, allB, h4']
     refine W_eff (lWord_spec hg y) ?_
     rintro _ H2 ⟨rfl, p2⟩
     refine ⟨p2.1, ?_⟩
     simp -implicitDefEqProofs (disch := first | assumption | omega | (simp only [nxB]; omega) | (simp only [oneB])) only [xlen, evB]
     exact W_some.2 ⟨by simp [h2], p2⟩
  ·have h2' : ¬ ((((c :: r).length : Nat) : Int) ≤ 8) := by omega
   generalize hy : c :: r = y at *
   simp -implicitDefEqProofs (disch := first | assumption | omega | (simp only [nxB]; omega) | (simp only [oneB])) only [s15, s15_13, xlen, AV.cells, splice, aload, astore, Nat.reduceAdd, Nat.reduceLeDiff, reduceIte, allB, h1, Bool.not_false, h2', decide_false]
   exact W_some.2 ⟨by simp [h2], .refl _⟩
def preB (s p : Bs) : Bool := decide (p.length ≤ s.length) && s.take p.length == p
theorem HasPrefix_spec {H : AHeap} (s p : Bs) : W (evw P orc 31 [.str s, .str p] H) fun v H' => v = .bool (preB s p) ∧ H' = H := by
 refine W_of (fun _ => run31 0) ?_
 rw [s31]
 have hi : W (evw P orc 42 [.str s, .str p] H) fun v H' => v = .bool (preB s p) ∧ H' = H := by
  refine W_of (fun _ => run42 0) ?_
  by_cases h : p.length ≤ s.length
  ·have h1 : ((p.length : Int) ≤ (s.length : Int)) := by omega
   have hsl : aslice P 9 (.str s) none (some (.int .i64 (p.length : Int))) none = some (.str (s.take p.length)) := by
    have e1 : abound (some (.int .i64 (p.length : Int))) s.length s.length = some p.length := by simp [abound]; omega
    simp only [aslice, une9, e1]
    simp [abound]
   simp -implicitDefEqProofs (disch := first | assumption | omega | (simp only [nxB]; omega) | (simp only [oneB])) only [s42, xlen, AV.cells, splice, aload, astore, Nat.reduceAdd, Nat.reduceLeDiff, reduceIte, allB, h1, decide_true, hsl]
   exact W_some.2 ⟨by simp [preB, h], rfl⟩
  ·have h1 : ¬ ((p.length : Int) ≤ (s.length : Int)) := by omega
   simp -implicitDefEqProofs (disch := first | assumption | omega | (simp only [nxB]; omega) | (simp only [oneB])) only [s42, xlen, AV.cells, splice, aload, astore, Nat.reduceAdd, Nat.reduceLeDiff, reduceIte, allB, h1, decide_false]
   exact W_some.2 ⟨by simp [preB, h], rfl⟩
 refine W_call0 hi ?_
 exact W_some.2 ⟨rfl, rfl⟩
end Go.Proofs.YtgcamjgnfeajiaaDoor


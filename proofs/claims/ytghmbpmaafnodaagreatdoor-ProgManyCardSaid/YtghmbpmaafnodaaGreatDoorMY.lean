/-
  Texts of one proof, laid together: Qn.
-/
import Derived.Test.YtghmbpmaafnodaaGreatDoorMS
set_option linter.unusedVariables false
set_option linter.unusedSimpArgs false
namespace Go.Proofs.YtghmbpmaafnodaaGreatDoor
open Go.Ev
def manyS (a b : Bs) : Nat → Bs
 | 0 => []
 | n + 1 => manyS a b n ++ a ++ [UInt8.ofNat (97 + n)] ++ b
theorem cv35 (n : Int) : aconv P 3 5 (.int .i64 n) = some (.int .u8 (IntKind.u8.wrap n)) := by kernel_rfl
theorem cv81 (l i n e : Nat) (c : Option Nat) : aconv P 81 9 (.sl l i n e c) = none := by kernel_rfl
theorem sl81_1 (l : Nat) (k : Int) : sliceOf P l 81 1 [(0, .int .u8 k)] = some (.sl l 0 1 1 (some 1), .row false 1 [[.int .u8 k]]) := by kernel_rfl
theorem un81 : P.underlying 81 = some (.slice 5) := by kernel_rfl
theorem un5' : P.underlying 5 = some (.int .u8) := by kernel_rfl
theorem un9'' : P.underlying 9 = some .string := by kernel_rfl
theorem by81 {H : AHeap} {L : Nat} {k : Int} {cap : Option Nat} {ro : Bool} (hg : H.get L = some (.row ro 1 [[.int .u8 k]])) : abytesToStr P H 81 9 (.sl L 0 1 1 cap) = some (.str [UInt8.ofNat k.toNat]) := by
 simp [abytesToStr, un81, un5', un9'', aels, hg, bytesOf, Go.Ev.byteOf]
theorem many_len (a b : Bs) : ∀ n, (manyS a b n).length = n * (a.length + b.length + 1)
 | 0 => by simp [manyS]
 | n + 1 => by simp only [manyS, List.length_append, many_len a b n, List.length_cons, List.length_nil]; rw [Nat.succ_mul]; omega
theorem many_loop {N : Nat} {a b : Bs} (ha : a.length ≤ 10) (hb : b.length ≤ 10) {n : Nat} (hn : n ≤ 20) {H0 : AHeap} : ∀ (c j m : Nat) (H : AHeap), j + c = n → c < m → Pur H0 H →
  W (s15_l1 (evw P orc) N m (.int .i64 n) (.str a) (.str b) (.str (manyS a b j)) (.int .i64 j) H) fun v H' => v = .str (manyS a b n) ∧ Pur H0 H'
 | _, _, 0, _, _, hm, _ => by omega
 | 0, j, m + 1, H, hj, hm, pp => by
  obtain rfl : j = n := by omega
  have h1 : ¬ ((j : Int) < (j : Int)) := by omega
  simp -implicitDefEqProofs (disch := first | assumption | omega | (simp only [nxB]; omega) | (simp only [oneB])) only [s15_l1, s15_b1, s15_j0, xlen, evB, binB, h1, decide_false]
  exact W_some.2 ⟨rfl, pp⟩
 | c + 1, j, m + 1, H, hj, hm, pp => by
  have h1 : ((j : Int) < (n : Int)) := by omega
  have hl := many_len a b j
  have hmul : j * (a.length + b.length + 1) ≤ 20 * 21 := Nat.mul_le_mul (by omega) (by omega)
  have e1 : fbin P .add 9 false (.str (manyS a b j)) (.str a) = some (.str (manyS a b j ++ a)) := fbin_sadd _ _ _ _ (by omega)
  have e2 : fbin P .add 9 false (.str (manyS a b j ++ a)) (.str [UInt8.ofNat (97 + j)]) = some (.str (manyS a b j ++ a ++ [UInt8.ofNat (97 + j)])) := fbin_sadd _ _ _ _ (by simp only [List.length_append, List.length_cons, List.length_nil]; omega)
  have e3 : fbin P .add 9 false (.str (manyS a b j ++ a ++ [UInt8.ofNat (97 + j)])) (.str b) = some (.str (manyS a b (j + 1))) := fbin_sadd _ _ _ _ (by simp only [List.length_append, List.length_cons, List.length_nil]; omega)
  have w1 : IntKind.i64.wrap ((97 : Int) + (j : Int)) = ((97 + j : Nat) : Int) := by rw [wrap_i64 (by omega) (by omega)]; omega
  have w2 : IntKind.u8.wrap ((97 + j : Nat) : Int) = ((97 + j : Nat) : Int) := by show ((97 + j : Nat) : Int) % 256 = _; omega
  have hgp := AHeap.get_push_same H (.row false 1 [[.int .u8 ((97 + j : Nat) : Int)]])
  have hby := by81 (cap := some 1) hgp
  rw [Int.toNat_natCast] at hby
  simp -implicitDefEqProofs (disch := first | assumption | omega | (simp only [nxB]; omega) | (simp only [oneB])) only [s15_l1, s15_b1, xlen, evB, binB, h1, decide_true, e1, e2, e3, w1, w2, xconv, cv35, sl81_1, cv81, hby, wn1]
  exact many_loop ha hb hn c (j + 1) m _ (by omega) (by omega) (pp.then_push _)
theorem many_spec {H : AHeap} {a b : Bs} (ha : a.length ≤ 10) (hb : b.length ≤ 10) {n : Nat} (hn : n ≤ 20) : W (evw P orc 15 [.int .i64 n, .str a, .str b] H) fun v H' => v = .str (manyS a b n) ∧ Pur H H' := by
 refine W_of (fun _ => run15 30) ?_
 rw [s15]
 exact many_loop ha hb hn n 0 30 H (by omega) (by omega) (.refl _)
def goodOk (tx : Bs) (w k : Nat) : Bool := (tokensS tx).2.1 == 0 && (match progPL (tokensS tx).1 800000000 800000000 .none ⟨0, 0, 0, 0⟩ with
 | some (g, s) => s.fe == 0 && (bif w == 3 then g.recs.length == 1 && g.recs.all (fun x => x.fields.length == k) else bif w == 4 then g.funcs.length == 1 && g.funcs.all (fun x => x.params.length == k) else g.recs.length + g.globals.length + g.funcs.length == k && Nat.ble k 20)
 | none => false)
def manyT (w k : Nat) : Bs := match w with
 | 0 => manyS [114, 101, 99, 111, 114, 100, 32] [32, 123, 32, 125, 32] k
 | 1 => manyS [103, 108, 111, 98, 97, 108, 32] [58, 32, 105, 110, 116, 59, 32] k
 | 2 => manyS [102, 117, 110, 99, 32] [40, 41, 32, 123, 32, 125, 32] k
 | 3 => [114, 101, 99, 111, 114, 100, 32, 82, 32, 123, 32] ++ manyS [] [58, 32, 105, 110, 116, 59, 32] k ++ [125]
 | _ => [102, 117, 110, 99, 32, 102, 40] ++ (manyS [] [58, 32, 105, 110, 116, 44, 32] k).take ((manyS [] [58, 32, 105, 110, 116, 44, 32] k).length - 2) ++ [41, 32, 123, 32, 125]
def mostW (w : Nat) : Nat := match w with | 0 => 12 | 1 => 8 | 2 => 16 | 3 => 8 | _ => 6
def oneW (w : Nat) : Nat := match w with | 0 => 13 | 1 => 15 | 2 => 13 | 3 => 8 | _ => 8
def aheadW (w : Nat) : Nat := match w with | 0 => 0 | 1 => 0 | 2 => 0 | 3 => 11 | _ => 7
def manyOk (w k : Nat) : Bool := bif Nat.ble (mostW w + 1) k then badOk (manyT w k) 4 ((aheadW w + mostW w * oneW w : Nat) : Int) else goodOk (manyT w k) w k
set_option maxRecDepth 100000 in
theorem many_all : (List.range 5).all (fun w => (List.range 21).all fun k => manyOk w k) = true := by decide +kernel
theorem mul3' (t : Bool) (a b : Int) : fbin P .mul 3 t (.int .i64 a) (.int .i64 b) = some (.int .i64 (IntKind.i64.wrap (a * b))) := fbin_mul _ _ _ _ _
theorem many_end {H : AHeap} (hg : Lp.Gl H) {w k : Nat} (hw : w < 5) (hk : k ≤ 20) : W (s6_j0 (evw P orc) (.int .i64 w) (.int .i64 k) (.int .i64 (mostW w)) (.str (manyT w k)) (.int .i64 (oneW w)) (.int .i64 (aheadW w)) H) fun v H' => v = .bool true ∧ Pur H H' := by
 have hok := List.all_eq_true.1 (List.all_eq_true.1 many_all w (List.mem_range.2 hw)) k (List.mem_range.2 (by omega))
 have hb : mostW w ≤ 16 ∧ oneW w ≤ 15 ∧ aheadW w ≤ 11 := by
  have : w = 0 ∨ w = 1 ∨ w = 2 ∨ w = 3 ∨ w = 4 := by omega
  rcases this with rfl | rfl | rfl | rfl | rfl <;> decide
 have hmul : mostW w * oneW w ≤ 16 * 15 := Nat.mul_le_mul hb.1 hb.2.1
 unfold manyOk at hok
 generalize manyT w k = tx at hok ⊢
 generalize mostW w = mo at hok hb hmul ⊢
 generalize oneW w = on at hok hb hmul ⊢
 generalize aheadW w = ah at hok hb ⊢
 have w1 : IntKind.i64.wrap ((mo : Int) * (on : Int)) = ((mo * on : Nat) : Int) := by
  have e : (mo : Int) * (on : Int) = ((mo * on : Nat) : Int) := by simp
  rw [e, wrap_i64 (by omega) (by omega)]
 have w2 : IntKind.i64.wrap ((ah : Int) + ((mo * on : Nat) : Int)) = ((ah + mo * on : Nat) : Int) := by rw [wrap_i64 (by omega) (by omega)]; omega
 have z0 : ((0 : Int) == 0) = true := rfl
 have z1 : ((0 : Int) != 0) = false := rfl
 have w0 : IntKind.i64.wrap ((0 : Int) + 0) = 0 := rfl
 rw [s6_j0]
 by_cases hc : mo < k
 ·have hb1 : Nat.ble (mo + 1) k = true := Nat.ble_eq_true_of_le (by omega)
  rw [hb1, cond_true] at hok
  have hlt : ((mo : Int) < (k : Int)) := by omega
  refine W_call (bad_spec hg hok) ?_
  rintro _ H1 ⟨rv, gv, fv, rfl, ⟨o1, o2, o3⟩, l1, l2, l3, p1⟩
  refine ⟨p1.1, ?_⟩
  have pK := (p1.then_push (.row false 3 [[rv, gv, fv]])).then_push (.row false 2 [[.int .i64 4, .int .i64 ((ah + mo * on : Nat) : Int)]])
  simp -implicitDefEqProofs (disch := first | assumption | omega | (simp only [nxB]; omega) | (simp only [oneB])) only [xlen, AV.cells, splice, aload, astore, Nat.reduceAdd, Nat.reduceLeDiff, reduceIte, allB, AHeap.push_set_lt, hlt, decide_true, o1, o2, o3, l1, l2, l3, mul3', w1, w2, eq29, beq_self_eq_true, Bool.and_self, w0, z0]
  refine W_eff (known_spec (hg.pur pK)) ?_
  rintro _ H3 ⟨rfl, p3⟩
  refine ⟨p3.1, ?_⟩
  simp -implicitDefEqProofs (disch := first | assumption | omega | (simp only [nxB]; omega) | (simp only [oneB])) only [xlen, evB]
  exact W_some.2 ⟨rfl, pK.trans p3⟩
 ·have hb1 : Nat.ble (mo + 1) k = false := by rw [← Bool.not_eq_true, Nat.ble_eq]; omega
  rw [hb1, cond_false] at hok
  have hlt : ¬ ((mo : Int) < (k : Int)) := by omega
  unfold goodOk at hok
  simp only [Bool.and_eq_true, beq_iff_eq] at hok
  obtain ⟨hf, hok⟩ := hok
  split at hok
  ·rename_i g s hp
   simp only [Bool.and_eq_true, beq_iff_eq] at hok
   obtain ⟨h0, hok⟩ := hok
   refine W_call (pParse_spec hg tx (M := 800000000) (n := 800000000) (Nat.le_refl _) (Nat.le_refl _) (fun _ => hp)) ?_
   rintro _ H1 ⟨rv, gv, fv, rfl, r1, r2, r3, p1⟩
   refine ⟨p1.1, ?_⟩
   have ev : progV tx g s = (g, 0, 0) := by unfold progV progE; rw [if_pos hf, if_pos h0]
   rw [ev] at r1 r2 r3 ⊢
   simp only at r1 r2 r3 ⊢
   have c1 := fun H' => r1.len22 H'
   have c2 := fun H' => r2.len23 H'
   have c3 := fun H' => r3.len24 H'
   have o1 := r1.one
   have o2 := r2.one
   have o3 := r3.one
   have pK := (p1.then_push (.row false 3 [[rv, gv, fv]])).then_push (.row false 2 [[.int .i64 0, .int .i64 0]])
   have ht0 : ((0 : Int)).toNat = 0 := rfl
   have hle : (0 : Int) ≤ 0 := Int.le_refl _
   have hlt1 : (0 : Int) < ((1 : Nat) : Int) := by decide
   have e1 : (((1 : Nat) : Int) == 1) = true := rfl
   by_cases hw3 : w = 3
   ·subst hw3
    rw [show ((3 : Nat) == 3) = true from rfl, cond_true] at hok
    simp only [Bool.and_eq_true, beq_iff_eq] at hok
    obtain ⟨q1, q2⟩ := hok
    obtain ⟨b, hb⟩ := one_of q1
    rw [hb] at q2
    simp only [List.all_cons, List.all_nil, Bool.and_true, beq_iff_eq] at q2
    obtain ⟨L2, i2, cap2, ro2, els2, y1, y2, y3⟩ := r1.row (by omega)
    obtain ⟨cs2, x1, v2, rfl, hv2⟩ := y3 0 b (by rw [hb]; rfl)
    have kz3 : kRc.esz = 3 := rfl
    rw [q1, kz3] at y1
    rw [kz3] at y2
    rw [Nat.add_zero] at x1
    have lL2 := AHeap.get_lt y2
    have ix2 : aindexAddr P 22 rv (.int .i64 0) = some (.ptr L2 i2 0) := by rw [y1]; exact ia22 hle hlt1
    have cv := fun H' => hv2.len23 H'
    have z3 : (((3 : Nat) : Int) == 3) = true := rfl
    rw [q1] at c1
    rw [q2] at cv
    simp -implicitDefEqProofs (disch := first | assumption | omega | (simp only [nxB]; omega) | (simp only [oneB])) only [xlen, AV.cells, splice, aload, astore, Nat.reduceAdd, Nat.reduceLeDiff, reduceIte, allB, AHeap.push_set_lt, hlt, decide_false, o1, o2, o3, c1, c2, c3, z1, z3, e1, ix2, y2, x1, cv, beq_self_eq_true]
    refine W_eff (known_spec (hg.pur pK)) ?_
    rintro _ H3 ⟨rfl, p3⟩
    refine ⟨p3.1, ?_⟩
    simp -implicitDefEqProofs (disch := first | assumption | omega | (simp only [nxB]; omega) | (simp only [oneB])) only [xlen, evB]
    exact W_some.2 ⟨rfl, pK.trans p3⟩
   ·have n3 : (w == 3) = false := by simpa using hw3
    have n3' : ((w : Int) == 3) = false := by simp; omega
    rw [n3, cond_false] at hok
    by_cases hw4 : w = 4
    ·subst hw4
     rw [show ((4 : Nat) == 4) = true from rfl, cond_true] at hok
     simp only [Bool.and_eq_true, beq_iff_eq] at hok
     obtain ⟨q1, q2⟩ := hok
     obtain ⟨b, hb⟩ := one_of q1
     rw [hb] at q2
     simp only [List.all_cons, List.all_nil, Bool.and_true, beq_iff_eq] at q2
     obtain ⟨L2, i2, cap2, ro2, els2, y1, y2, y3⟩ := r3.row (by omega)
     obtain ⟨cs2, x1, v2, bv2, rfl, hv2, -⟩ := y3 0 b (by rw [hb]; rfl)
     have kz3 : kFn.esz = 7 := rfl
     rw [q1, kz3] at y1
     rw [kz3] at y2
     rw [Nat.add_zero] at x1
     have lL2 := AHeap.get_lt y2
     have ix2 : aindexAddr P 24 fv (.int .i64 0) = some (.ptr L2 i2 0) := by rw [y1]; exact ia24 hle hlt1
     have cv := fun H' => hv2.len23 H'
     have z4 : (((4 : Nat) : Int) == 3) = false := rfl
     have z5 : (((4 : Nat) : Int) == 4) = true := rfl
     rw [q1] at c3
     rw [q2] at cv
     simp -implicitDefEqProofs (disch := first | assumption | omega | (simp only [nxB]; omega) | (simp only [oneB])) only [xlen, AV.cells, splice, aload, astore, Nat.reduceAdd, Nat.reduceLeDiff, reduceIte, allB, AHeap.push_set_lt, hlt, decide_false, o1, o2, o3, c1, c2, c3, z1, z4, z5, e1, ix2, y2, x1, cv, beq_self_eq_true]
     refine W_eff (known_spec (hg.pur pK)) ?_
     rintro _ H3 ⟨rfl, p3⟩
     refine ⟨p3.1, ?_⟩
     simp -implicitDefEqProofs (disch := first | assumption | omega | (simp only [nxB]; omega) | (simp only [oneB])) only [xlen, evB]
     exact W_some.2 ⟨rfl, pK.trans p3⟩
    ·have n4 : (w == 4) = false := by simpa using hw4
     have n4' : ((w : Int) == 4) = false := by simp; omega
     rw [n4, cond_false] at hok
     simp only [Bool.and_eq_true, beq_iff_eq] at hok
     have hs := hok.1
     have v1 : IntKind.i64.wrap ((g.recs.length : Int) + (g.globals.length : Int)) = ((g.recs.length + g.globals.length : Nat) : Int) := by rw [wrap_i64 (by omega) (by omega)]; omega
     have v2 : IntKind.i64.wrap (((g.recs.length + g.globals.length : Nat) : Int) + (g.funcs.length : Int)) = (k : Int) := by rw [wrap_i64 (by omega) (by omega)]; omega
     simp -implicitDefEqProofs (disch := first | assumption | omega | (simp only [nxB]; omega) | (simp only [oneB])) only [xlen, AV.cells, splice, aload, astore, Nat.reduceAdd, Nat.reduceLeDiff, reduceIte, allB, AHeap.push_set_lt, hlt, decide_false, o1, o2, o3, c1, c2, c3, z1, n3', n4', v1, v2, beq_self_eq_true]
     refine W_eff (known_spec (hg.pur pK)) ?_
     rintro _ H3 ⟨rfl, p3⟩
     refine ⟨p3.1, ?_⟩
     simp -implicitDefEqProofs (disch := first | assumption | omega | (simp only [nxB]; omega) | (simp only [oneB])) only [xlen, evB]
     exact W_some.2 ⟨rfl, pK.trans p3⟩
  ·cases hok
theorem many_run {H : AHeap} (hg : Lp.Gl H) (i j : Int) : W (s6 (evw P orc) (.int .i64 i) (.int .i64 j) H) fun v H' => v = .bool true ∧ Pur H H' := by
 rw [s6]
 by_cases c1 : i < 0
 ·simp -implicitDefEqProofs (disch := first | assumption | omega | (simp only [nxB]; omega) | (simp only [oneB])) only [xlen, evB, binB, c1, decide_true]
  exact W_some.2 ⟨rfl, .refl _⟩
 by_cases c2 : 4 < i
 ·simp -implicitDefEqProofs (disch := first | assumption | omega | (simp only [nxB]; omega) | (simp only [oneB])) only [xlen, evB, binB, c1, c2, decide_true, decide_false]
  exact W_some.2 ⟨rfl, .refl _⟩
 by_cases c3 : j < 0
 ·simp -implicitDefEqProofs (disch := first | assumption | omega | (simp only [nxB]; omega) | (simp only [oneB])) only [xlen, evB, binB, c1, c2, c3, decide_true, decide_false]
  exact W_some.2 ⟨rfl, .refl _⟩
 by_cases c4 : 20 < j
 ·simp -implicitDefEqProofs (disch := first | assumption | omega | (simp only [nxB]; omega) | (simp only [oneB])) only [xlen, evB, binB, c1, c2, c3, c4, decide_true, decide_false]
  exact W_some.2 ⟨rfl, .refl _⟩
 obtain ⟨k, rfl⟩ : ∃ k : Nat, j = k := ⟨j.toNat, by omega⟩
 have hk : k ≤ 20 := by omega
 have pH := Pur.push H (.row false 1 [[.int .i64 12], [.int .i64 8], [.int .i64 16], [.int .i64 8], [.int .i64 6]])
 have hgH := hg.pur pH
 have fin : ∀ {H1 : AHeap} {w : Nat}, w < 5 → Pur (H.push (.row false 1 [[.int .i64 12], [.int .i64 8], [.int .i64 16], [.int .i64 8], [.int .i64 6]])) H1 → W (s6_j0 (evw P orc) (.int .i64 w) (.int .i64 k) (.int .i64 (mostW w)) (.str (manyT w k)) (.int .i64 (oneW w)) (.int .i64 (aheadW w)) H1) fun v H' => v = .bool true ∧ Pur H H' := fun hw p => (many_end (hgH.pur p) hw hk).mono fun v H' ⟨a, b⟩ => ⟨a, (pH.trans p).trans b⟩
 have hc : i = 0 ∨ i = 1 ∨ i = 2 ∨ i = 3 ∨ i = 4 := by omega
 have t0 : ((0 : Int)).toNat = 0 := rfl
 have t1 : ((1 : Int)).toNat = 1 := rfl
 have t2 : ((2 : Int)).toNat = 2 := rfl
 have t3 : ((3 : Int)).toNat = 3 := rfl
 have t4 : ((4 : Int)).toNat = 4 := rfl
 have l0 : ∀ i : Int, 0 ≤ i → i ≤ 4 → (0 : Int) ≤ i ∧ i < ((5 : Nat) : Int) := by omega
 have ix : ∀ i : Int, 0 ≤ i → i ≤ 4 → aindexAddr P 35 (.sl H.next 0 5 1 (some 5)) (.int .i64 i) = some (.ptr H.next (0 + i.toNat) 0) := fun i h h' => ia35 (l0 i h h').1 (l0 i h h').2
 rcases hc with rfl | rfl | rfl | rfl | rfl
 ·have e : ((0 : Int) == 0) = true := rfl
  simp -implicitDefEqProofs (disch := first | assumption | omega | (simp only [nxB]; omega) | (simp only [oneB])) only [xlen, evB, binB, aload, tyB, Nat.reduceAdd, Nat.reduceLeDiff, reduceIte, AV.cells, splice, lsB, heapB, c1, c2, c3, c4, decide_false, ix, t0, e]
  refine W_call (many_spec (by decide) (by decide) hk) ?_
  rintro _ H1 ⟨rfl, p1⟩
  exact ⟨p1.1, fin (w := 0) (by omega) p1⟩
 ·have e : ((1 : Int) == 0) = false := rfl
  have e1 : ((1 : Int) == 1) = true := rfl
  simp -implicitDefEqProofs (disch := first | assumption | omega | (simp only [nxB]; omega) | (simp only [oneB])) only [xlen, evB, binB, aload, tyB, Nat.reduceAdd, Nat.reduceLeDiff, reduceIte, AV.cells, splice, lsB, heapB, c1, c2, c3, c4, decide_false, ix, t1, e, e1]
  refine W_call (many_spec (by decide) (by decide) hk) ?_
  rintro _ H1 ⟨rfl, p1⟩
  exact ⟨p1.1, fin (w := 1) (by omega) p1⟩
 ·have e : ((2 : Int) == 0) = false := rfl
  have e1 : ((2 : Int) == 1) = false := rfl
  have e2 : ((2 : Int) == 2) = true := rfl
  simp -implicitDefEqProofs (disch := first | assumption | omega | (simp only [nxB]; omega) | (simp only [oneB])) only [xlen, evB, binB, aload, tyB, Nat.reduceAdd, Nat.reduceLeDiff, reduceIte, AV.cells, splice, lsB, heapB, c1, c2, c3, c4, decide_false, ix, t2, e, e1, e2]
  refine W_call (many_spec (by decide) (by decide) hk) ?_
  rintro _ H1 ⟨rfl, p1⟩
  exact ⟨p1.1, fin (w := 2) (by omega) p1⟩
 ·have e : ((3 : Int) == 0) = false := rfl
  have e1 : ((3 : Int) == 1) = false := rfl
  have e2 : ((3 : Int) == 2) = false := rfl
  have e3 : ((3 : Int) == 3) = true := rfl
  simp -implicitDefEqProofs (disch := first | assumption | omega | (simp only [nxB]; omega) | (simp only [oneB])) only [xlen, evB, binB, aload, tyB, Nat.reduceAdd, Nat.reduceLeDiff, reduceIte, AV.cells, splice, lsB, heapB, c1, c2, c3, c4, decide_false, ix, t3, e, e1, e2, e3]
  refine W_call (many_spec (a := []) (by decide) (by decide) hk) ?_
  rintro _ H1 ⟨rfl, p1⟩
  refine ⟨p1.1, ?_⟩
  have hl := many_len [] [58, 32, 105, 110, 116, 59, 32] k
  have hl' : (manyS [] [58, 32, 105, 110, 116, 59, 32] k).length ≤ 20 * 8 := by rw [hl]; exact Nat.mul_le_mul hk (by decide)
  have a1 : fbin P .add 9 true (.str [114, 101, 99, 111, 114, 100, 32, 82, 32, 123, 32]) (.str (manyS [] [58, 32, 105, 110, 116, 59, 32] k)) = some (.str ([114, 101, 99, 111, 114, 100, 32, 82, 32, 123, 32] ++ manyS [] [58, 32, 105, 110, 116, 59, 32] k)) := fbin_sadd _ _ _ _ (by simp only [List.length_cons, List.length_nil]; omega)
  have a2 : fbin P .add 9 true (.str ([114, 101, 99, 111, 114, 100, 32, 82, 32, 123, 32] ++ manyS [] [58, 32, 105, 110, 116, 59, 32] k)) (.str [125]) = some (.str (manyT 3 k)) := fbin_sadd _ _ _ _ (by simp only [List.length_append, List.length_cons, List.length_nil]; omega)
  rw [a1, xb_some, a2, xb_some]
  exact fin (w := 3) (by omega) p1
 ·have e : ((4 : Int) == 0) = false := rfl
  have e1 : ((4 : Int) == 1) = false := rfl
  have e2 : ((4 : Int) == 2) = false := rfl
  have e3 : ((4 : Int) == 3) = false := rfl
  have e4 : ((4 : Int) == 4) = true := rfl
  simp -implicitDefEqProofs (disch := first | assumption | omega | (simp only [nxB]; omega) | (simp only [oneB])) only [xlen, evB, binB, aload, tyB, Nat.reduceAdd, Nat.reduceLeDiff, reduceIte, AV.cells, splice, lsB, heapB, c1, c2, c3, c4, decide_false, ix, t4, e, e1, e2, e3, e4]
  refine W_call (many_spec (a := []) (by decide) (by decide) hk) ?_
  rintro _ H1 ⟨rfl, p1⟩
  refine ⟨p1.1, ?_⟩
  have hl := many_len [] [58, 32, 105, 110, 116, 44, 32] k
  have hl' : (manyS [] [58, 32, 105, 110, 116, 44, 32] k).length ≤ 20 * 8 := by rw [hl]; exact Nat.mul_le_mul hk (by decide)
  have key : W (s6_j1 (evw P orc) (.int .i64 4) (.int .i64 k) (.int .i64 6) (.str ((manyS [] [58, 32, 105, 110, 116, 44, 32] k).take ((manyS [] [58, 32, 105, 110, 116, 44, 32] k).length - 2))) H1) fun v H' => v = .bool true ∧ Pur H H' := by
   have ht : ((manyS [] [58, 32, 105, 110, 116, 44, 32] k).take ((manyS [] [58, 32, 105, 110, 116, 44, 32] k).length - 2)).length ≤ 20 * 8 := by rw [List.length_take]; omega
   have a1 : fbin P .add 9 true (.str [102, 117, 110, 99, 32, 102, 40]) (.str ((manyS [] [58, 32, 105, 110, 116, 44, 32] k).take ((manyS [] [58, 32, 105, 110, 116, 44, 32] k).length - 2))) = some (.str ([102, 117, 110, 99, 32, 102, 40] ++ (manyS [] [58, 32, 105, 110, 116, 44, 32] k).take ((manyS [] [58, 32, 105, 110, 116, 44, 32] k).length - 2))) := fbin_sadd _ _ _ _ (by simp only [List.length_cons, List.length_nil]; omega)
   have a2 : fbin P .add 9 true (.str ([102, 117, 110, 99, 32, 102, 40] ++ (manyS [] [58, 32, 105, 110, 116, 44, 32] k).take ((manyS [] [58, 32, 105, 110, 116, 44, 32] k).length - 2))) (.str [41, 32, 123, 32, 125]) = some (.str (manyT 4 k)) := fbin_sadd _ _ _ _ (by simp only [List.length_append, List.length_cons, List.length_nil]; omega)
   rw [s6_j1, a1, xb_some, a2, xb_some]
   exact fin (w := 4) (by omega) p1
  by_cases h0 : (0 : Int) < (k : Int)
  ·have hk1 : 1 ≤ k := by omega
   have h8 : 1 * 8 ≤ (manyS [] [58, 32, 105, 110, 116, 44, 32] k).length := by rw [hl]; exact Nat.mul_le_mul hk1 (by decide)
   have ws : IntKind.i64.wrap (((manyS [] [58, 32, 105, 110, 116, 44, 32] k).length : Int) - 2) = (((manyS [] [58, 32, 105, 110, 116, 44, 32] k).length - 2 : Nat) : Int) := by rw [wrap_i64 (by omega) (by omega)]; omega
   have hsl := Lp.sl9_to (s := manyS [] [58, 32, 105, 110, 116, 44, 32] k) (b := (manyS [] [58, 32, 105, 110, 116, 44, 32] k).length - 2) (by omega)
   generalize manyS [] [58, 32, 105, 110, 116, 44, 32] k = mm at *
   simp -implicitDefEqProofs (disch := first | assumption | omega | (simp only [nxB]; omega) | (simp only [oneB])) only [xlen, evB, binB, ln9, h0, decide_true, ws, hsl]
   exact key
  ·have hk0 : k = 0 := by omega
   subst hk0
   have h0' : ¬ ((0 : Int) < ((0 : Nat) : Int)) := by decide
   simp -implicitDefEqProofs (disch := first | assumption | omega | (simp only [nxB]; omega) | (simp only [oneB])) only [xlen, evB, binB, h0', decide_false]
   exact key
end Go.Proofs.YtghmbpmaafnodaaGreatDoor


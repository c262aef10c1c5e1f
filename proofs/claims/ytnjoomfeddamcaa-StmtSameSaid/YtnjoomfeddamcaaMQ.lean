/-
  Texts of one proof, laid together: ShQ R7 StmtSame.
-/
import Derived.Test.YtnjoomfeddamcaaMD
import Derived.Test.YtnjoomfeddamcaaMK
import Derived.Test.YtnjoomfeddamcaaML
import Derived.Test.YtnjoomfeddamcaaMN
import Derived.Test.YtnjoomfeddamcaaMO
import Derived.Test.YtnjoomfeddamcaaRows
import Derived.Test.YtnjoomfeddamcaaMF
import Derived.SizedLaws
set_option linter.unusedVariables false
set_option linter.unusedSimpArgs false
namespace Go.Proofs.Ytnjoomfeddamcaa
open Go.Ev
set_option maxRecDepth 100000
noncomputable section
def s12_j0 (G : CallT) (N : Nat) (H : AHeap) : O :=
 xcall H (G 26 [] H) fun x100 h1 =>
 some (x100, h1)
theorem s12_j0_eq (G : CallT) (N : Nat) : ∀ R H, codeC P G N (Code.snd (Code.snd (Code.snd (Code.snd (Code.snd (Code.snd (Code.snd (bodyOf Try.f12)))))))) (rC Try.f12) [] (rC Try.f12) R H = s12_j0 G N H := by
 refine via_trans (via_leaf _) fun R H => ?_
 delta s12_j0
 kernel_rfl
def s12_j2 (G : CallT) (N : Nat) (L1 : AV → AV → AV → AHeap → O) (x9 x12 x15 : AV) (H : AHeap) : O :=
 xb (fbin P .add 3 true x15 (.int .i64 1)) fun x70 =>
 L1 x9 x12 x70 H
theorem s12_j2_eq (G : CallT) (N : Nat) (L1 : AV → AV → AV → AHeap → O) : ∀ R H, codeC P G N (Code.snd (Code.snd (Code.fst (Code.fst (Code.snd (Code.fst (Code.snd (Code.snd (Code.snd (Code.snd (Code.snd (Code.snd (bodyOf Try.f12))))))))))))) (fun R H => L1 (R 9) (R 12) (R 15) H) [(0, (fun R H => s12_j0 G N H))] (rC Try.f12) R H = s12_j2 G N L1 (R 9) (R 12) (R 15) H := by
 refine via_trans (via_leaf _) fun R H => ?_
 delta s12_j2
 kernel_rfl
def s12_b3 (G : CallT) (N : Nat) (L1 : AV → AV → AV → AHeap → O) (L3 : AV → AV → AV → AV → AHeap → O) (x9 x12 : AV) (x15 x16 : AV) (H : AHeap) : O :=
 xlen P .len [50] [x12] H fun x73 =>
 xb (fbin P .lss 3 false x16 x73) fun x74 =>
 xg x74 true H (qv x16) fun x76 h1 =>
 xg x74 true h1 (qp (fbin P .lss 3 true x76 (.int .i64 12))) fun x77 h2 =>
 xb (pickOf x74 (some x77) (some (.bool false))) fun x78 =>
 xif (some x78) (xb (aindexAddr P 50 x9 x15) fun x83 =>
 xb (aload P h2 54 x83) fun x84 =>
 xb (aindexAddr P 50 x12 x16) fun x87 =>
 xb (aload P h2 54 x87) fun x88 =>
 xcall h2 (G 30 [x84, x88] h2) fun x89 h3 =>
 xb (aindexAddr P 50 x9 x15) fun x92 =>
 xb (aload P h3 54 x92) fun x93 =>
 xb (aindexAddr P 50 x12 x16) fun x96 =>
 xb (aload P h3 54 x96) fun x97 =>
 xcall h3 (G 31 [x93, x97] h3) fun x98 h4 =>
 xb (fbin P .neq 4 false x89 x98) fun x99 =>
 bif ((rdIs (aload P h2 54 x92) x93 && (rdIs (aload P h3 54 x92) x93 && true)) && ((rdIs (aload P h2 54 x96) x97 && (rdIs (aload P h3 54 x96) x97 && true)) && true)) then (xif (some x99) (some ((.bool false), h4)) (xb (fbin P .add 3 true x16 (.int .i64 1)) fun x80 =>
 L3 x9 x12 x15 x80 h4)) else none) (s12_j2 G N L1 x9 x12 x15 h2)
def s12_l3 (G : CallT) (N : Nat) (L1 : AV → AV → AV → AHeap → O) : Nat → AV → AV → AV → AV → AHeap → O
 | 0, _, _, _, _, _ => none
 | n + 1, x9, x12, x15, x16, H => s12_b3 G N L1 (s12_l3 G N L1 n) x9 x12 x15 x16 H
theorem s12_b3_eq (G : CallT) (N : Nat) (L1 : AV → AV → AV → AHeap → O) (L3 : AV → AV → AV → AV → AHeap → O) : ∀ R H, codeC P G N (Code.fst (Code.fst (Code.snd (Code.fst (Code.fst (Code.snd (Code.fst (Code.fst (Code.snd (Code.fst (Code.snd (Code.snd (Code.snd (Code.snd (Code.snd (Code.snd (bodyOf Try.f12))))))))))))))))) (fun R H => L3 (R 9) (R 12) (R 15) (R 16) H) [(2, (fun R H => s12_j2 G N L1 (R 9) (R 12) (R 15) H)), (1, (fun R H => s12_j2 G N L1 (R 9) (R 12) (R 15) H)), (0, (fun R H => s12_j0 G N H))] (rC Try.f12) R H = s12_b3 G N L1 L3 (R 9) (R 12) (R 15) (R 16) H := by
 refine via_trans (via_leaf _) fun R H => ?_
 delta s12_b3
 generalize s12_j2 G N L1 = J0
 revert J0
 refine id ?_
 intro J0
 kernel_rfl
def s12_b1 (G : CallT) (N : Nat) (L1 : AV → AV → AV → AHeap → O) (x9 x12 x15 : AV) (H : AHeap) : O :=
 xlen P .len [50] [x9] H fun x63 =>
 xb (fbin P .lss 3 false x15 x63) fun x64 =>
 xg x64 true H (qv x15) fun x66 h1 =>
 xg x64 true h1 (qp (fbin P .lss 3 true x66 (.int .i64 12))) fun x67 h2 =>
 xb (pickOf x64 (some x67) (some (.bool false))) fun x68 =>
 xif (some x68) (s12_l3 G N L1 N x9 x12 x15 (.int .i64 0) h2) (s12_j0 G N h2)
def s12_l1 (G : CallT) (N : Nat) : Nat → AV → AV → AV → AHeap → O
 | 0, _, _, _, _ => none
 | n + 1, x9, x12, x15, H => s12_b1 G N (s12_l1 G N n) x9 x12 x15 H
theorem s12_b1_eq (G : CallT) (N : Nat) (L1 : AV → AV → AV → AHeap → O) : ∀ R H, codeC P G N (Code.fst (Code.fst (Code.snd (Code.fst (Code.snd (Code.snd (Code.snd (Code.snd (Code.snd (Code.snd (bodyOf Try.f12))))))))))) (fun R H => L1 (R 9) (R 12) (R 15) H) [(0, (fun R H => s12_j0 G N H))] (rC Try.f12) R H = s12_b1 G N L1 (R 9) (R 12) (R 15) H := by
 refine via_trans ((via_seq (by kernel_rfl) ((via_seq (by kernel_rfl) (s12_j2_eq G N L1) ((via_block (by kernel_rfl) ((via_seq (by kernel_rfl) ((via_block (by kernel_rfl) ((via_loop (k := fun m R H => s12_l3 G N L1 m (R 9) (R 12) (R 15) (R 16) H) (by kernel_rfl) (fun R H => by kernel_rfl) (fun m => s12_b3_eq G N L1 (s12_l3 G N L1 m)))))) (via_leaf _))))))) (via_leaf _))) fun R H => ?_
 delta s12_b1
 generalize s12_j0 G N = J0
 generalize s12_l3 G N L1 N = J1
 revert J0 J1
 refine id ?_
 intro J0 J1
 kernel_rfl
def s12 (G : CallT) (N : Nat) (x0 x1 : AV) (H : AHeap) : O :=
 xb (fbin P .add 9 true (.str [123]) x0) fun x19 =>
 xb (fbin P .add 9 true x19 (.str [125])) fun x20 =>
 xcall H (G 15 [x20] H) fun x21 h1 =>
 xb (aextract x21 0) fun x22 =>
 xb (aextract x21 1) fun x23 =>
 xalloc h1 [(.int .i64 0), (.int .i64 0)] fun x6 h2 =>
 xstore h2 (astore P h2 25 x6 x23) fun h3 =>
 xb (fbin P .add 9 true (.str [123, 10]) x1) fun x26 =>
 xb (fbin P .add 9 true x26 (.str [125])) fun x27 =>
 xcall h3 (G 15 [x27] h3) fun x28 h4 =>
 xb (aextract x28 0) fun x29 =>
 xb (aextract x28 1) fun x30 =>
 xalloc h4 [(.int .i64 0), (.int .i64 0)] fun x8 h5 =>
 xstore h5 (astore P h5 25 x8 x30) fun h6 =>
 xlen P .len [9] [x0] h6 fun x32 =>
 xb (fbin P .gtr 3 true x32 (.int .i64 1000)) fun x33 =>
 xg x33 false h6 (qv x1) fun x35 h7 =>
 xg x33 false h7 (fun q => xboth (abuiltin P .empty .len [9] [x35]) (abuiltin P h7 .len [9] [x35]) q) fun x36 h8 =>
 xg x33 false h8 (qp (fbin P .gtr 3 true x36 (.int .i64 1000))) fun x37 h9 =>
 xb (pickOf x33 (some (.bool true)) (some x37)) fun x38 =>
 xg x38 false h9 (qp (afieldAddr P 25 x6 0)) fun x40 h10 =>
 xg x38 false h10 (qr (aload P h10 23 x40)) fun x41 h11 =>
 xg x38 false h11 (qp (fbin P .neq 23 true x41 (.int .i64 0))) fun x42 h12 =>
 xb (pickOf x38 (some (.bool true)) (some x42)) fun x43 =>
 xg x43 false h12 (qp (afieldAddr P 25 x8 0)) fun x45 h13 =>
 xg x43 false h13 (qr (aload P h13 23 x45)) fun x46 h14 =>
 xg x43 false h14 (qp (fbin P .neq 23 true x46 (.int .i64 0))) fun x47 h15 =>
 xb (pickOf x43 (some (.bool true)) (some x47)) fun x48 =>
 xif (some x48) (some ((.bool true), h15)) (xcall h15 (G 27 [x22, (.int .i64 0), (.int .i64 0)] h15) fun x51 h16 =>
 xb (aextract x51 0) fun x52 =>
 xb (aextract x51 1) fun x53 =>
 xb (aextract x51 2) fun x54 =>
 xalloc h16 [(.int .i64 0), (.int .i64 0)] fun x11 h17 =>
 xstore h17 (astore P h17 25 x11 x54) fun h18 =>
 xcall h18 (G 27 [x29, (.int .i64 0), (.int .i64 0)] h18) fun x57 h19 =>
 xb (aextract x57 0) fun x58 =>
 xb (aextract x57 1) fun x59 =>
 xb (aextract x57 2) fun x60 =>
 xalloc h19 [(.int .i64 0), (.int .i64 0)] fun x14 h20 =>
 xstore h20 (astore P h20 25 x14 x60) fun h21 =>
 s12_l1 G N N x52 x58 (.int .i64 0) h21)
theorem s12_eq (G : CallT) (N : Nat) (x0 : AV) (x1 : AV) (H : AHeap) : cF Try.f12 G N (argsF [x0, x1]) H = s12 G N x0 x1 H := by
 refine via_top (A := cF Try.f12 G N) ((via_seq (by kernel_rfl) ((via_seq (by kernel_rfl) ((via_seq (by kernel_rfl) ((via_seq (by kernel_rfl) ((via_seq (by kernel_rfl) ((via_seq (by kernel_rfl) ((via_seq (by kernel_rfl) (s12_j0_eq G N) ((via_seq (by kernel_rfl) ((via_block (by kernel_rfl) ((via_loop (k := fun m R H => s12_l1 G N m (R 9) (R 12) (R 15) H) (by kernel_rfl) (fun R H => by kernel_rfl) (fun m => s12_b1_eq G N (s12_l1 G N m)))))) (via_leaf _))))) (via_leaf _))) (via_leaf _))) (via_leaf _))) (via_leaf _))) (via_leaf _))) (via_leaf _))) ?_
 delta s12
 generalize s12_l1 G N N = J0
 revert J0
 refine id ?_
 intro J0
 kernel_rfl
theorem run12 (N : Nat) {x0 x1 : AV} {H : AHeap} {r : AV × AHeap} (h : s12 (evw P) N x0 x1 H = some r) : evw P 12 [x0, x1] H = some r :=
 runF Try.func12 (by kernel_rfl) (by kernel_rfl) (by kernel_rfl) ((s12_eq (evw P) N x0 x1 H).trans h)
end
end Go.Proofs.Ytnjoomfeddamcaa
namespace Go.Proofs.Ytnjoomfeddamcaa
open Go.Ev
theorem SlsV.at {H : AHeap} {ok : Nat → Prop} {els : List (List AV)} : ∀ (es : List Stm) (k j : Nat), SlsV H ok es (els.drop k) → j < es.length → ∃ e cs, e ∈ es ∧ els[k + j]? = some cs ∧ StV H ok e (.agg cs)
 | [], _, _, _, h => by simp at h
 | e :: es, k, 0, h, _ => by
  obtain ⟨cs, g1, g2, -⟩ := h.cons
  exact ⟨e, cs, by simp, g1, g2⟩
 | e :: es, k, j + 1, h, hj => by
  obtain ⟨cs, -, -, g3⟩ := h.cons
  obtain ⟨e', cs', m1, m2, m3⟩ := SlsV.at es (k + 1) j g3 (by simpa using hj)
  exact ⟨e', cs', by simp [m1], by rw [← m2]; congr 1; omega, m3⟩
theorem StV.same {H : AHeap} {ok : Nat → Prop} {e : Stm} {v : AV} (h : StV H ok e v) : AV.beq v v = true := by
 cases e with | mk a es b c =>
 obtain ⟨ev, bv, cv, rfl, k1, k2, k3⟩ := StV_mk.1 h
 have f1 : AV.beq ev ev = true := by rcases k1 with ⟨rfl, _⟩ | ⟨l, i, cap, ro, els, rfl, _⟩ | ⟨l, i, cap, rfl, _⟩ <;> simp [AV.beq]
 have f2 : AV.beq bv bv = true := by rcases k2 with ⟨rfl, _⟩ | ⟨l, i, cap, ro, els, rfl, _⟩ | ⟨l, i, cap, rfl, _⟩ <;> simp [AV.beq]
 have f3 : AV.beq cv cv = true := by rcases k3 with ⟨rfl, _⟩ | ⟨l, i, cap, ro, els, rfl, _⟩ | ⟨l, i, cap, rfl, _⟩ <;> simp [AV.beq]
 simp [Sa.cells, AV.beq, AVs.beq, f1, f2, f3]
theorem rdIs_some (v w : AV) : rdIs (some v) w = AV.beq v w := rfl
theorem same_in {N : Nat} {L1 : AV → AV → AV → AHeap → O} {a b : List Stm} (ha : a.length ≤ 1000000000) (sma : SmMs 1000000000 a) (hb : b.length ≤ 1000000000) {v9 v12 : AV} {i : Nat} (hi : i < a.length) {Q : AV → AHeap → Prop} :
  ∀ (c k n : Nat) (H : AHeap), c + k = 12 → c < n → SsV H (fun _ => True) a v9 → SsV H (fun _ => True) b v12 → (∀ H', Pur H H' → W (s12_j2 (evb P 26 true) N L1 v9 v12 (.int .i64 (i : Int)) H') Q) → W (s12_l3 (evb P 26 true) N L1 n v9 v12 (.int .i64 (i : Int)) (.int .i64 (k : Int)) H) Q
 | _, _, 0, _, _, hn, _, _, _ => by omega
 | c, k, n + 1, H, hk, hn, h1, h2, hQ => by
  have hc2 := fun H' => h2.cnt H'
  by_cases hkb : k < b.length
  ·have hk1 : (k : Int) < (b.length : Int) := by omega
   by_cases hk12 : k < 12
   ·have hk2 : (k : Int) < 12 := by omega
    obtain ⟨c, rfl⟩ : ∃ m, c = m + 1 := ⟨c - 1, by omega⟩
    have h1' := h1
    have h2' := h2
    obtain ⟨l1, i1, k1, r1, el1, rfl, o1, g1, w1⟩ := h1.row (by omega)
    obtain ⟨l2, i2, k2, r2, el2, rfl, o2, g2, w2⟩ := h2.row (by omega)
    obtain ⟨e, cs, me, e1, e2⟩ := SlsV.at a i1 i w1 hi
    obtain ⟨f, ds, mf, f1, f2⟩ := SlsV.at b i2 k w2 hkb
    have hsm := sma.mem e me
    obtain ⟨_, q1, q2, q3⟩ := e2.cells
    cases q1
    obtain ⟨_, q4, q5, q6⟩ := f2.cells
    cases q4
    have tk1 : List.take 9 cs = cs := List.take_of_length_le (by omega)
    have tk2 : List.take 9 ds = ds := List.take_of_length_le (by omega)
    have l1' := AHeap.get_lt g1
    have l2' := AHeap.get_lt g2
    have ti : ((i : Int)).toNat = i := by omega
    have tk : ((k : Int)).toNat = k := by omega
    have hi0 : (0 : Int) ≤ (i : Int) := by omega
    have hk0 : (0 : Int) ≤ (k : Int) := by omega
    have hia : (i : Int) < (a.length : Int) := by omega
    have hw : IntKind.i64.wrap ((k : Int) + 1) = ((k + 1 : Nat) : Int) := by rw [wrap_i64 (by omega) (by omega)]; omega
    have b1 := e2.same
    have b2 := f2.same
    simp -implicitDefEqProofs (disch := first | assumption | omega | (simp only [nxB]; omega) | (simp only [oneB])) only [s12_l3, s12_b3, xlen, AV.cells, splice, aload, astore, Nat.reduceAdd, Nat.reduceLeDiff, reduceIte, allB, tyC, hk1, hk2, hia, decide_true, ti, tk, g1, g2, e1, f1, tk1, tk2, hc2]
    rw [evb_other (by decide)]
    refine W_call (specM30 (B := 1000000000) (by omega) e hsm f _ _ _ _ _ e2 f2) ?_
    rintro _ H2 ⟨rfl, p2⟩
    refine ⟨p2.1, ?_⟩
    have g1' := p2.get g1
    have g2' := p2.get g2
    simp -implicitDefEqProofs (disch := first | assumption | omega | (simp only [nxB]; omega) | (simp only [oneB])) only [xlen, AV.cells, splice, aload, astore, Nat.reduceAdd, Nat.reduceLeDiff, reduceIte, allB, tyC, hk1, hk2, hia, decide_true, ti, tk, g1, g2, g1', g2', e1, f1, tk1, tk2, hc2]
    rw [evb_other (by decide)]
    refine W_call (specM31 (B := 1000000000) (by omega) e hsm f _ _ _ _ _ (e2.pur p2) (f2.pur p2)) ?_
    rintro _ H3 ⟨rfl, p3⟩
    refine ⟨p3.1, ?_⟩
    have p23 := p2.trans p3
    simp -implicitDefEqProofs (disch := first | assumption | omega | (simp only [nxB]; omega) | (simp only [oneB])) only [xlen, AV.cells, splice, aload, astore, Nat.reduceAdd, Nat.reduceLeDiff, reduceIte, allB, tyC, hk1, hk2, hia, decide_true, ti, tk, g1, g2, g1', g2', e1, f1, tk1, tk2, hc2, rdIs_some, b1, b2, Bool.and_self, Bool.true_and, beq_self_eq_true, Bool.not_true, hw]
    exact same_in ha sma hb hi c (k + 1) n H3 (by omega) (by omega) (h1'.keep (KeepS.pur p23 fun _ h => h)) (h2'.keep (KeepS.pur p23 fun _ h => h)) fun H' p => hQ H' (p23.trans p)
   ·have hk2 : ¬ ((k : Int) < 12) := by omega
    simp -implicitDefEqProofs (disch := first | assumption | omega | (simp only [nxB]; omega) | (simp only [oneB])) only [s12_l3, s12_b3, xlen, AV.cells, splice, aload, astore, Nat.reduceAdd, Nat.reduceLeDiff, reduceIte, allB, hc2, hk1, hk2, decide_true, decide_false]
    exact hQ H (.refl _)
  ·have hk1 : ¬ ((k : Int) < (b.length : Int)) := by omega
   simp -implicitDefEqProofs (disch := first | assumption | omega | (simp only [nxB]; omega) | (simp only [oneB])) only [s12_l3, s12_b3, xlen, AV.cells, splice, aload, astore, Nat.reduceAdd, Nat.reduceLeDiff, reduceIte, allB, hc2, hk1, decide_false]
   exact hQ H (.refl _)
theorem same_out {a b : List Stm} (ha : a.length ≤ 1000000000) (sma : SmMs 1000000000 a) (hb : b.length ≤ 1000000000) {v9 v12 : AV} :
  ∀ (c i n : Nat) (H : AHeap), c + i = 12 → c < n → SsV H (fun _ => True) a v9 → SsV H (fun _ => True) b v12 → W (s12_l1 (evb P 26 true) 14 n v9 v12 (.int .i64 (i : Int)) H) fun v H' => v = .bool true ∧ Pur H H'
 | _, _, 0, _, _, hn, _, _ => by omega
 | c, i, n + 1, H, hi, hn, h1, h2 => by
  have hc1 := fun H' => h1.cnt H'
  by_cases hia : i < a.length
  ·have hi1 : (i : Int) < (a.length : Int) := by omega
   by_cases hi12 : i < 12
   ·have hi2 : (i : Int) < 12 := by omega
    obtain ⟨c, rfl⟩ : ∃ m, c = m + 1 := ⟨c - 1, by omega⟩
    have hw : IntKind.i64.wrap ((i : Int) + 1) = ((i + 1 : Nat) : Int) := by rw [wrap_i64 (by omega) (by omega)]; omega
    simp -implicitDefEqProofs (disch := first | assumption | omega | (simp only [nxB]; omega) | (simp only [oneB])) only [s12_l1, s12_b1, xlen, AV.cells, splice, aload, astore, Nat.reduceAdd, Nat.reduceLeDiff, reduceIte, allB, hc1, hi1, hi2, decide_true]
    refine same_in ha sma hb hia 12 0 14 H (by omega) (by omega) h1 h2 fun H' p => ?_
    simp -implicitDefEqProofs (disch := first | assumption | omega | (simp only [nxB]; omega) | (simp only [oneB])) only [s12_j2, xlen, AV.cells, splice, aload, astore, Nat.reduceAdd, Nat.reduceLeDiff, reduceIte, allB, hw]
    refine (same_out ha sma hb c (i + 1) n H' (by omega) (by omega) (h1.keep (KeepS.pur p fun _ h => h)) (h2.keep (KeepS.pur p fun _ h => h))).mono ?_
    rintro v H'' ⟨rfl, q⟩
    exact ⟨rfl, p.trans q⟩
   ·have hi2 : ¬ ((i : Int) < 12) := by omega
    simp -implicitDefEqProofs (disch := first | assumption | omega | (simp only [nxB]; omega) | (simp only [oneB])) only [s12_l1, s12_b1, s12_j0, xlen, AV.cells, splice, aload, astore, Nat.reduceAdd, Nat.reduceLeDiff, reduceIte, allB, hc1, hi1, hi2, decide_true, decide_false, evb_self, xeff, xcall, Nat.le_refl]
    exact W_some.2 ⟨rfl, .refl _⟩
  ·have hi1 : ¬ ((i : Int) < (a.length : Int)) := by omega
   simp -implicitDefEqProofs (disch := first | assumption | omega | (simp only [nxB]; omega) | (simp only [oneB])) only [s12_l1, s12_b1, s12_j0, xlen, AV.cells, splice, aload, astore, Nat.reduceAdd, Nat.reduceLeDiff, reduceIte, allB, hc1, hi1, decide_false, decide_true, evb_self, xeff, xcall, Nat.le_refl]
   exact W_some.2 ⟨rfl, .refl _⟩
theorem parseB_sm' {T : List Tok} {l : List Stm} {s : St} {st : St} (h : blockF T 800000000 st = some (l, s)) : (parseB l s).1.length ≤ 1000000000 ∧ SmMs 1000000000 (parseB l s).1 := by
 unfold parseB
 split
 ·exact (smK T 800000000 (by omega)).block _ _ h
 ·rw [SmMs]; exact ⟨by simp, trivial⟩
theorem same4_run {H : AHeap} (s t : Bs) (hs : s.length ≤ 1000000000000000000) (ht' : t.length ≤ 1000000000000000000) : W (s12 (evb P 26 true) 14 (.str s) (.str t) H) fun v H' => v = .bool true ∧ Pur H H' := by
 obtain ⟨x1, a1, n1⟩ : ∃ x, fbin P .add 9 true (.str [123]) (.str s) = some (.str x) ∧ x.length = s.length + 1 := ⟨_, fbin_sadd _ _ [123] s (by simp only [List.length_cons, List.length_nil]; omega), by simp⟩
 obtain ⟨z1, a2, n2⟩ : ∃ x, fbin P .add 9 true (.str x1) (.str [125]) = some (.str x) ∧ x.length = s.length + 2 := ⟨_, fbin_sadd _ _ x1 [125] (by simp only [List.length_cons, List.length_nil]; omega), by simp [n1]⟩
 obtain ⟨x3, a3, n3⟩ : ∃ x, fbin P .add 9 true (.str [123, 10]) (.str t) = some (.str x) ∧ x.length = t.length + 2 := ⟨_, fbin_sadd _ _ [123, 10] t (by simp only [List.length_cons, List.length_nil]; omega), by simp⟩
 obtain ⟨z2, a4, n4⟩ : ∃ x, fbin P .add 9 true (.str x3) (.str [125]) = some (.str x) ∧ x.length = t.length + 3 := ⟨_, fbin_sadd _ _ x3 [125] (by simp only [List.length_cons, List.length_nil]; omega), by simp [n3]⟩
 have len1 := tokensS_len z1
 have len2 := tokensS_len z2
 rw [n2] at len1
 rw [n4] at len2
 rw [s12]
 simp -implicitDefEqProofs (disch := first | assumption | omega | (simp only [nxB]; omega) | (simp only [oneB])) only [xlen, evB, a1, a2]
 rw [evb_other (by decide)]
 refine W_call (Tokens_spec z1) ?_
 rintro _ H1 ⟨tv, rfl, ht, p1⟩
 refine ⟨p1.1, ?_⟩
 generalize tokensS z1 = q at ht len1
 have pa := p1.then_push (.row false 2 [[.int .i64 q.2.1, .int .i64 q.2.2]])
 simp -implicitDefEqProofs (disch := first | assumption | omega | (simp only [nxB]; omega) | (simp only [oneB])) only [xlen, AV.cells, splice, aload, astore, Nat.reduceAdd, Nat.reduceLeDiff, reduceIte, allB, a3, a4]
 rw [evb_other (by decide)]
 refine W_call (Tokens_spec z2) ?_
 rintro _ H2 ⟨tw, rfl, hu, p2⟩
 refine ⟨p2.1, ?_⟩
 have m2 := p2.1
 simp only [AHeap.next_push] at m2
 generalize tokensS z2 = r at hu len2
 have pb := (pa.trans p2).then_push (.row false 2 [[.int .i64 r.2.1, .int .i64 r.2.2]])
 have g6 : H2.get H1.next = some (.row false 2 [[.int .i64 q.2.1, .int .i64 q.2.2]]) := p2.get (AHeap.get_push_same _ _)
 have l6 := AHeap.get_lt g6
 have p2' := (Pur.push H1 (.row false 2 [[.int .i64 q.2.1, .int .i64 q.2.2]])).trans p2
 by_cases c1 : (1000 : Int) < (s.length : Int)
 ·simp -implicitDefEqProofs (disch := first | assumption | omega | (simp only [nxB]; omega) | (simp only [oneB])) only [xlen, AV.cells, splice, aload, astore, Nat.reduceAdd, Nat.reduceLeDiff, reduceIte, allB, c1, decide_true, g6]
  exact W_some.2 ⟨rfl, pb⟩
 by_cases c2 : (1000 : Int) < (t.length : Int)
 ·simp -implicitDefEqProofs (disch := first | assumption | omega | (simp only [nxB]; omega) | (simp only [oneB])) only [xlen, AV.cells, splice, aload, astore, Nat.reduceAdd, Nat.reduceLeDiff, reduceIte, allB, c1, c2, decide_true, decide_false, g6]
  exact W_some.2 ⟨rfl, pb⟩
 cases hq : (q.2.1 != 0) with
 | true =>
  simp -implicitDefEqProofs (disch := first | assumption | omega | (simp only [nxB]; omega) | (simp only [oneB])) only [xlen, AV.cells, splice, aload, astore, Nat.reduceAdd, Nat.reduceLeDiff, reduceIte, allB, c1, c2, decide_false, g6, hq]
  exact W_some.2 ⟨rfl, pb⟩
 | false =>
 cases hr : (r.2.1 != 0) with
 | true =>
  simp -implicitDefEqProofs (disch := first | assumption | omega | (simp only [nxB]; omega) | (simp only [oneB])) only [xlen, AV.cells, splice, aload, astore, Nat.reduceAdd, Nat.reduceLeDiff, reduceIte, allB, c1, c2, decide_false, g6, hq, hr]
  exact W_some.2 ⟨rfl, pb⟩
 | false =>
  have hT : q.1.length ≤ 20000000 := by omega
  have hU : r.1.length ≤ 20000000 := by omega
  obtain ⟨⟨a, t1⟩, ⟨a', t1'⟩, h4, h5, h6, -⟩ := both_block hT 0 0
  obtain ⟨⟨b, t2⟩, ⟨b', t2'⟩, k4, k5, k6, -⟩ := both_block hU 0 0
  have sm1 := parseB_sm' h4
  have sm2 := parseB_sm' k4
  simp only at h6 k6 sm1 sm2
  simp -implicitDefEqProofs (disch := first | assumption | omega | (simp only [nxB]; omega) | (simp only [oneB])) only [xlen, AV.cells, splice, aload, astore, Nat.reduceAdd, Nat.reduceLeDiff, reduceIte, allB, c1, c2, decide_false, g6, hq, hr]
  rw [evb_other (by decide)]
  refine W_call (rblock_spec (by omega) hT (ht.pur (p2'.then_push _)) 0 0 h5) ?_
  rintro _ H3 ⟨v3, rfl, hv3, p3⟩
  refine ⟨p3.1, ?_⟩
  rw [h6] at hv3 ⊢
  generalize parseB a t1 = y1 at hv3 sm1 ⊢
  have pc := (pb.trans p3).then_push (.row false 2 [[.int .i64 y1.2.2.1, .int .i64 y1.2.2.2]])
  have m3 := p3.1
  simp only [AHeap.next_push] at m3
  simp -implicitDefEqProofs (disch := first | assumption | omega | (simp only [nxB]; omega) | (simp only [oneB])) only [xlen, AV.cells, splice, aload, astore, Nat.reduceAdd, Nat.reduceLeDiff, reduceIte, allB, AHeap.push_set_lt]
  rw [evb_other (by decide)]
  refine W_call (rblock_spec (by omega) hU (hu.pur (((Pur.push H2 _).trans p3).then_push _)) 0 0 k5) ?_
  rintro _ H4 ⟨v4, rfl, hv4, p4⟩
  refine ⟨p4.1, ?_⟩
  rw [k6] at hv4 ⊢
  generalize parseB b t2 = y2 at hv4 sm2 ⊢
  have pd := (pc.trans p4).then_push (.row false 2 [[.int .i64 y2.2.2.1, .int .i64 y2.2.2.2]])
  simp -implicitDefEqProofs (disch := first | assumption | omega | (simp only [nxB]; omega) | (simp only [oneB])) only [xlen, AV.cells, splice, aload, astore, Nat.reduceAdd, Nat.reduceLeDiff, reduceIte, allB, AHeap.push_set_lt]
  refine (same_out sm1.1 sm1.2 sm2.1 12 0 14 _ (by omega) (by omega) (hv3.keep (KeepS.pur (((Pur.push H3 _).trans p4).then_push _) fun _ _ => trivial)) (hv4.keep (KeepS.pur (Pur.push H4 _) fun _ _ => trivial))).mono ?_
  rintro v H' ⟨rfl, z⟩
  exact ⟨rfl, pd.trans z⟩
set_option maxRecDepth 100000 in
theorem same4_ok (s t : Bs) (hs : s.length ≤ 1000000000000000000) (ht : t.length ≤ 1000000000000000000) : ∃ H', CallOk1 P 12 [.str s, .str t] AHeap.empty (.bool true) H' := by
 obtain ⟨_, H', h, rfl, p⟩ := same4_run (H := AHeap.empty) s t hs ht
 exact ⟨H', code_ok1 (c := bodyOf Try.f12) (M := 14) progOk (evb_ok progOk known4) Try.func12 (by kernel_rfl) (by kernel_rfl) (by kernel_rfl) (Eq.trans (s12_eq (evb P 26 true) 14 (.str s) (.str t) AHeap.empty) h)⟩
end Go.Proofs.Ytnjoomfeddamcaa

namespace Go.Proofs.Ytnjoomfeddamcaa
open Go.Ev
open Go.ChangeShapes Go.WideShapes Go.ChangeAt Go.RowKit
open Go.ChangeMaps (open_string shut_string)
namespace stmtSame
set_option maxRecDepth 100000 in
theorem lifted (os : Os) (started : os.Started) (H : Type) (enc : TypeId × Value → H) :
  ReturnsInHanded {} Try.checked os 12 .any (Rows.stmtSameSpec.pre6 enc Try.prog Try.f12 Rows.stmtSameRow.domain false) (Rows.stmtSameSpec.post enc Try.prog Try.f12 false true false false) := by
 refine returnsInHanded_of_change_sized (C := Try.checked) own started (by kernel_rfl) Try.func12
  (ChangeSpec.witness6 (enc := enc) (C := Try.checked) false ⟨#[], #[.string ⟨#[]⟩, .string ⟨#[]⟩], []⟩ 8 (by kernel_rfl) (by kernel_rfl) (by kernel_rfl) (by kernel_rfl)) ?_
 intro W base args ds gs before hval0 hW hcnd hsz _
 have hval : ∀ (j : Nat) t v, Try.f12.params[j]? = some t → args[j]? = some v → Value.okWide Try.prog W .any base t v := hval0
 have hW' := hW
 obtain ⟨p, q, hA0, hV, rfl, hfz, hnd⟩ := hW
 have hA : DataW.TrodAll enc Try.prog W 0 (fun _ => true) true Try.f12.params.toList args.toList ds p := hA0
 have hpar : Try.f12.params = #[9, 9] := by kernel_rfl
 rw [hpar] at hA hval
 obtain ⟨v0, vs0, d0, ds0, p0, q0, hargs, rfl, rfl, h0, r0⟩ := trodAll_cons hA
 obtain ⟨v1, vs1, d1, ds1, p1, q1, rfl, rfl, rfl, h1, r1⟩ := trodAll_cons r0
 obtain ⟨rfl, rfl, rfl⟩ := trodAll_nil r1
 obtain rfl : args = #[v0, v1] := by cases args; simp_all
 obtain ⟨rfl, rfl⟩ := trodVars_none hV
 obtain ⟨a0, hv0, hd0, -, w0⟩ := open_string (P := P) und9 (hval 0 9 v0 rfl rfl) h0
 obtain ⟨a1, hv1, hd1, -, w1⟩ := open_string (P := P) und9 (hval 1 9 v1 rfl rfl) h1
 subst hv0
 subst hv1
 have z0 : a0.data.toList.length ≤ 140737488351232 := by
  have q := sized_string hsz (j := 0) (t := 9) (bytes := a0.data.toList) (by rw [hpar]; rfl) (by rw [hd0]; rfl)
  simp only [reachBytes] at q; exact q
 have z1 : a1.data.toList.length ≤ 140737488351232 := by
  have q := sized_string hsz (j := 1) (t := 9) (bytes := a1.data.toList) (by rw [hpar]; rfl) (by rw [hd1]; rfl)
  simp only [reachBytes] at q; exact q
 have hlaw : LawOk P 12 [.string a0, .string a1] W := by obtain ⟨H', h⟩ := same4_ok a0.data.toList a1.data.toList (by omega) (by omega); exact law_plain (.cons _ _ _ _ (.str _) (.cons _ _ _ _ (.str _) .nil)) h
 refine (law_walk (c := bodyOf Try.f12) progOk Try.func12 (by kernel_rfl) hlaw).mono fun e W' ⟨he, bel⟩ => ?_
 subst he
 obtain ⟨pa, hpa⟩ := trodAll_below laidOut bel (ts := [9, 9]) (fun t ht => by
  simp only [List.mem_cons, List.not_mem_nil, or_false] at ht
  rcases ht with rfl | rfl <;> exact ⟨by kernel_rfl, of_decide_eq_true (by kernel_rfl)⟩) hA
 exact ⟨_, rfl, _, _, _, [], pa, [], hW', trodAll_mk1 (shut_bool (P := P) und4 _), by rw [hpar]; exact hpa, rfl, bel.frame _, fun h => by cases h⟩
theorem over : Rows.stmtSameRow.holds Try.pinned (OpenSpec.ofChange Rows.stmtSameSpec) :=
 OpenClaim.holds_of_wide 12 Try.f12 rfl rfl rfl rfl rfl rfl rfl ⟨rfl, rfl, rfl, rfl, rfl⟩ rfl rfl rfl rfl rfl (by kernel_rfl) Try.func12 (by kernel_rfl)
  (of_decide_eq_true (by kernel_rfl)) (by unfold Func.isWrapper; first | (rw [if_pos (by decide +kernel)]; kernel_rfl) | (rw [if_neg (by decide +kernel)]; exact ⟨rfl, rfl⟩))
  (fun os started H enc _ => lifted os started H enc)
end stmtSame
theorem stmtSame_holds : Rows.StmtSameSaid := stmtSame.over
end Go.Proofs.Ytnjoomfeddamcaa


/-
  Texts of one proof, laid together: L4 Lz ShP R6 StmtParts.
-/
import Derived.Test.YtnjoomfeddamcaaMO
import Derived.Test.YtnjoomfeddamcaaMD
import Derived.Test.YtnjoomfeddamcaaMK
import Derived.Test.YtnjoomfeddamcaaML
import Derived.Test.YtnjoomfeddamcaaMN
import Derived.Test.YtnjoomfeddamcaaRows
import Derived.Test.YtnjoomfeddamcaaMF
set_option linter.unusedVariables false
set_option linter.unusedSimpArgs false
namespace Go.Proofs.Ytnjoomfeddamcaa
open Go.Ev
theorem runN_pos (d : Bool) (c : UInt8) (r : Bs) (h : (digB c || (!d && letB c)) = true) : 1 ≤ runN d (c :: r) := by
 rw [runN, h]; simp
theorem signN_le (s : Bs) : (signN s).length ≤ s.length := by
 unfold signN
 cases decide (2 ≤ s.length) && memB (s.take 2) twosL with
 | true => simp only [cond_true, List.length_take]; omega
 | false =>
  simp only [cond_false]
  cases s with
  | nil => simp
  | cons c r => simp only [List.length_cons]; cases memC c onesL <;> simp
theorem oneN_len {s : Bs} {k : Int} {t : Bs} {v : Int} {m : Nat} (h : oneN s = some (k, t, v, m)) : 1 ≤ m ∧ m ≤ s.length := by
 cases s with
 | nil => simp [oneN] at h
 | cons c r =>
  have hr := fun d => runN_le d (c :: r)
  rw [oneN] at h
  cases hl : letB c with
  | true =>
   have hp := runN_pos false c r (by simp [hl])
   rw [hl, cond_true] at h
   cases hw : wordB ((c :: r).take (runN false (c :: r))) with
   | true => rw [hw, cond_true] at h; cases h; exact ⟨hp, hr false⟩
   | false =>
    rw [hw, cond_false] at h
    cases hn : nameB ((c :: r).take (runN false (c :: r))) with
    | true => rw [hn, cond_true] at h; cases h; exact ⟨hp, hr false⟩
    | false => rw [hn, cond_false] at h; cases h
  | false =>
   rw [hl, cond_false] at h
   cases hd : digB c with
   | true =>
    have hp := runN_pos true c r (by simp [hd])
    rw [hd, cond_true] at h
    split at h
    ·cases h
    ·rename_i z hz
     rw [Bool.cond_eq_ite] at h
     split at h
     ·cases h
     ·cases h; exact ⟨hp, hr true⟩
   | false =>
    rw [hd, cond_false] at h
    cases hs : signN (c :: r) == [] with
    | true => rw [hs, cond_true] at h; cases h
    | false =>
     rw [hs, cond_false] at h
     cases h
     have hne : ¬ signN (c :: r) = [] := by simpa using hs
     have := signN_le (c :: r)
     exact ⟨List.length_pos_iff.2 hne, this⟩
theorem blankN_le : ∀ (s : Bs) (b : Bool), blankN b s ≤ s.length
 | [], b => by cases b <;> simp [blankN]
 | c :: r, true => by
  have h1 := blankN_le r true
  have h2 := blankN_le r false
  rw [blankN]
  cases c.toNat == 10 <;> simp only [cond_true, cond_false, List.length_cons] <;> omega
 | c :: r, false => by
  have h1 := blankN_le r true
  have h2 := blankN_le r false
  rw [blankN]
  cases isBlank c
  ·cases (c == 47 && r.head? == some 47) <;> simp only [cond_true, cond_false, List.length_cons] <;> omega
  ·simp only [cond_true, List.length_cons]; omega
def TokPost (H0 : AHeap) (x : List Tok × Int × Int) (r : AV) (H' : AHeap) : Prop := ∃ tv, r = .tuple [tv, .agg [.int .i64 x.2.1, .int .i64 x.2.2]] ∧ TokSl H' tv x.1 ∧ Pur H0 H'
def lexR (T : List Tok) : Nat ⊕ List Tok → List Tok × Int × Int
 | .inl e => ([], 1, e)
 | .inr l => (T ++ l, 0, 0)
theorem bd25w (k p : Int) : abuild P 25 [(0, .int .i64 k), (1, .int .i64 p)] = some (.agg [.int .i64 k, .int .i64 p]) := by kernel_rfl
theorem tok_loop {H0 : AHeap} {s : Bs} (hs : s.length ≤ 100000) (N : Nat) : ∀ (n : Nat) (rest : Bs) (at_ m : Nat) (T : List Tok) (v : AV) (H : AHeap), s.drop at_ = rest → at_ ≤ s.length → Bld (H0.push (.row false 2 [[.int .i64 0, .int .i64 0]])) H v T → Pur (H0.push (.row false 2 [[.int .i64 0, .int .i64 0]])) H → T.length ≤ at_ → rest.length < n → rest.length < m →
  W (s15_l1 (evw P) N m (.str s) (.ptr H0.next 0 0) v (.int .i64 at_) H) (TokPost H0 (lexR T (lexL n rest at_)))
 | 0, _, _, _, _, _, _, _, _, _, _, _, hn, _ => by omega
 | _, _, _, 0, _, _, _, _, _, _, _, _, _, hm => by omega
 | n + 1, [], at_, m + 1, T, v, H, h, ha, hb, p, hT, hn, hm => by
  have hlen := drop_nil h
  have h1 : ¬ ((at_ : Int) < (s.length : Int)) := by omega
  have hat : s.length = at_ := by omega
  have g : H.get H0.next = some (.row false 2 [[.int .i64 0, .int .i64 0]]) := p.get (AHeap.get_push_same _ _)
  have gl := AHeap.get_lt g
  obtain ⟨v', H', ea, hb', p', hnx, hkeep⟩ := app_tok hb p (by omega) ⟨0, [], 0, s.length⟩
  have hsl := sl22_1 H.next ⟨0, [], 0, s.length⟩
  simp only [Tok.v] at hsl
  simp -implicitDefEqProofs (disch := first | assumption | omega | (simp only [nxB]; omega) | (simp only [oneB])) only [s15_l1, s15_j0, s15_13, s15_b1, s15_29, s15, xlen, AV.cells, splice, aload, astore, Nat.reduceAdd, Nat.reduceLeDiff, reduceIte, allB, h1, decide_false, bd65e, hsl, ea, xcall_some]
  have g' : H'.get H0.next = some (.row false 2 [[.int .i64 0, .int .i64 0]]) := by
   rw [hkeep _ gl ?_]; exact g
   intro e he
   rcases hb with ⟨rfl, _⟩ | ⟨l, rfl, hl, _⟩
   ·cases he
   ·cases he; simp only [AHeap.next_push] at hl; omega
  have gl' := AHeap.get_lt g'
  have hrd : rdIs (some (.agg [.int .i64 0, .int .i64 0])) (.agg [.int .i64 0, .int .i64 0]) = true := by simp [rdIs, AV.beq, AVs.beq]
  simp -implicitDefEqProofs (disch := first | assumption | omega | (simp only [nxB]; omega) | (simp only [oneB])) only [s15_j0, s15_13, s15_b1, s15_29, s15, xlen, AV.cells, splice, aload, astore, Nat.reduceAdd, Nat.reduceLeDiff, reduceIte, allB, g', hrd]
  have p0 : Pur H0 H' := (Pur.push _ _).trans p'
  have ps : Pur H0 (H'.set H0.next (.row false 2 [[.int .i64 0, .int .i64 0]])) := p0.then_set (Nat.le_refl _) _
  refine W_some.2 ⟨v', rfl, ?_, ps⟩
  rw [lexL]
  simp only [lexR]
  rw [hat] at hb'
  exact hb'.tok.keep fun l ro els e => by
   rw [AHeap.get_set_other]; exact e
   rintro rfl
   rw [g'] at e; cases e
 | n + 1, c :: r, at_, m + 1, T, v, H, h, ha, hb, p, hT, hn, hm => by
  obtain ⟨e1, e2, e3, e4⟩ := drop_cons h
  have h1 : ((at_ : Int) < (s.length : Int)) := by omega
  have g : H.get H0.next = some (.row false 2 [[.int .i64 0, .int .i64 0]]) := p.get (AHeap.get_push_same _ _)
  have gl := AHeap.get_lt g
  simp -implicitDefEqProofs (disch := first | assumption | omega | (simp only [nxB]; omega) | (simp only [oneB])) only [s15_l1, s15_j0, s15_13, s15_b1, s15_29, s15, xlen, AV.cells, splice, aload, astore, Nat.reduceAdd, Nat.reduceLeDiff, reduceIte, allB, h1, decide_true]
  refine W_call (one_spec (by omega) e3) ?_
  rintro _ H2 ⟨rfl, p2⟩
  refine ⟨p2.1, ?_⟩
  have g2 := p2.get g
  have gl2 := AHeap.get_lt g2
  have hb2 := hb.pur p2
  replace p := p.trans p2
  rw [h, lexL]
  cases ho : oneN (c :: r) with
  | none =>
   simp only [oneV]
   simp -implicitDefEqProofs (disch := first | assumption | omega | (simp only [nxB]; omega) | (simp only [oneB])) only [s15_j0, s15_13, s15_b1, s15_29, s15, xlen, AV.cells, splice, aload, astore, Nat.reduceAdd, Nat.reduceLeDiff, reduceIte, allB, bd25w, beq_self_eq_true, g2, AHeap.push_set_lt]
   have hrd : rdIs (some (.agg [.int .i64 1, .int .i64 at_])) (.agg [.int .i64 1, .int .i64 at_]) = true := by simp [rdIs, AV.beq, AVs.beq]
   refine W_some.2 ⟨.nilSl, rfl, .inl ⟨rfl, rfl⟩, ?_⟩
   exact (((Pur.push _ _).trans p).then_set (Nat.le_refl _) _).then_push _
  | some q =>
   obtain ⟨k, t, z, b⟩ := q
   obtain ⟨b1, b2⟩ := oneN_len ho
   have hb0 : ((b : Int) == 0) = false := by simp; omega
   simp only [oneV]
   simp only [List.length_cons] at b2 hn hm
   obtain ⟨v', H', ea, hb', p', hnx, hkeep⟩ := app_tok (hb2.pur (Pur.push H2 (.row false 4 [Tok.cells ⟨k, t, z, at_⟩]))) (p.then_push _) (by omega) ⟨k, t, z, at_⟩
   have hsl := sl22_1 (H2.next + 1) ⟨k, t, z, at_⟩
   simp only [Tok.v] at hsl
   simp only [Tok.cells, AHeap.next_push] at ea hnx
   simp only [Tok.cells] at hsl
   have hrd : ∀ HH : AHeap, rdIs (some (.agg [.int .i64 k, .str t, .int .i64 z, .int .i64 at_])) (.agg [.int .i64 k, .str t, .int .i64 z, .int .i64 at_]) = true := fun _ => by simp [rdIs, AV.beq, AVs.beq]
   simp -implicitDefEqProofs (disch := first | assumption | omega | (simp only [nxB]; omega) | (simp only [oneB])) only [s15_j0, s15_13, s15_b1, s15_29, s15, xlen, AV.cells, splice, aload, astore, Nat.reduceAdd, Nat.reduceLeDiff, reduceIte, allB, hb0, hsl, ea, xcall_some, wnn]
   have hd2 : s.drop (at_ + b) = (c :: r).drop b := by rw [← List.drop_drop, h]
   have hbl := blankN_le ((c :: r).drop b) false
   simp only [List.length_drop, List.length_cons] at hbl
   refine W_call0 (blank_spec (by omega) (at_ := at_ + b) (by omega)) ?_
   rw [hd2]
   simp only [s15_13]
   have hbl' : at_ + b + blankN false ((c :: r).drop b) ≤ s.length := by omega
   have ih := tok_loop hs N n (s.drop (at_ + b + blankN false ((c :: r).drop b))) (at_ + b + blankN false ((c :: r).drop b)) m (T ++ [⟨k, t, z, at_⟩]) v' H' rfl hbl' hb' p' (by simp; omega) (by simp; omega) (by simp; omega)
   refine ih.mono ?_
   rintro w H'' ⟨tv, q1, q2, q3⟩
   have hdd : s.drop (at_ + b + blankN false ((c :: r).drop b)) = ((c :: r).drop b).drop (blankN false ((c :: r).drop b)) := by rw [← List.drop_drop, hd2]
   rw [hdd] at q1 q2
   have hE : lexR (T ++ [⟨k, t, z, at_⟩]) (lexL n (((c :: r).drop b).drop (blankN false ((c :: r).drop b))) (at_ + b + blankN false ((c :: r).drop b))) = lexR T (match lexL n (((c :: r).drop b).drop (blankN false ((c :: r).drop b))) (at_ + b + blankN false ((c :: r).drop b)) with
     | .inl e => .inl e
     | .inr l => .inr (⟨k, t, z, at_⟩ :: l)) := by
    cases lexL n (((c :: r).drop b).drop (blankN false ((c :: r).drop b))) (at_ + b + blankN false ((c :: r).drop b)) with
    | inl e => rfl
    | inr l => simp [lexR]
   rw [hE] at q1 q2
   exact ⟨tv, q1, q2, q3⟩
theorem Tokens_spec {H : AHeap} (s : Bs) : W (evw P 15 [.str s] H) (TokPost H (tokensS s)) := by
 refine W_of (fun _ => run15 (s.length + 1)) ?_
 by_cases h6 : (6000 : Int) < (s.length : Int)
 ·have h6' : 6000 < s.length := by omega
  simp -implicitDefEqProofs (disch := first | assumption | omega | (simp only [nxB]; omega) | (simp only [oneB])) only [s15_j0, s15_13, s15_b1, s15_29, s15, xlen, AV.cells, splice, aload, astore, Nat.reduceAdd, Nat.reduceLeDiff, reduceIte, allB, h6, decide_true]
  refine W_some.2 ⟨.nilSl, by simp [tokensS, h6'], .inl ⟨rfl, by simp [tokensS, h6']⟩, Pur.push _ _⟩
 ·have h6' : ¬ 6000 < s.length := by omega
  simp -implicitDefEqProofs (disch := first | assumption | omega | (simp only [nxB]; omega) | (simp only [oneB])) only [s15_j0, s15_13, s15_29, s15, xlen, AV.cells, splice, aload, astore, Nat.reduceAdd, Nat.reduceLeDiff, reduceIte, allB, h6, decide_false]
  refine W_call0 (blank_spec (s := s) (by omega) (at_ := 0) (by omega)) ?_
  simp only [List.drop_zero, Nat.zero_add, s15_29]
  have hbl := blankN_le s false
  refine (tok_loop (H0 := H) (by omega) (s.length + 1) (s.length + 1) (s.drop (blankN false s)) (blankN false s) (s.length + 1) [] .nilSl _ rfl hbl (.inl ⟨rfl, rfl⟩) (.refl _) (by simp) (by simp; omega) (by simp; omega)).mono ?_
  rintro v H' ⟨tv, q1, q2, q3⟩
  have hE : lexR [] (lexL (s.length + 1) (s.drop (blankN false s)) (blankN false s)) = tokensS s := by
   simp only [tokensS, if_neg h6', lexS]
   cases lexL (s.length + 1) (s.drop (blankN false s)) (blankN false s) <;> rfl
  rw [hE] at q1 q2
  exact ⟨tv, q1, q2, q3⟩
end Go.Proofs.Ytnjoomfeddamcaa

namespace Go.Proofs.Ytnjoomfeddamcaa
open Go.Ev
theorem lexL_len : ∀ (n : Nat) (rest : Bs) (p : Nat) (l : List Tok), lexL n rest p = .inr l → l.length ≤ rest.length + 1
 | 0, _, _, _, h => by simp [lexL] at h
 | n + 1, [], p, l, h => by simp [lexL] at h; subst h; simp
 | n + 1, c :: r, p, l, h => by
  rw [lexL] at h
  cases ho : oneN (c :: r) with
  | none => rw [ho] at h; simp at h
  | some q =>
   obtain ⟨k, t, z, b⟩ := q
   obtain ⟨b1, b2⟩ := oneN_len ho
   rw [ho] at h
   simp only at h
   cases hl : lexL n (((c :: r).drop b).drop (blankN false ((c :: r).drop b))) (p + b + blankN false ((c :: r).drop b)) with
   | inl e => rw [hl] at h; cases h
   | inr l' =>
    rw [hl] at h
    cases h
    have := lexL_len n _ _ l' hl
    simp only [List.length_drop, List.length_cons] at this b2 ⊢
    omega
theorem tokensS_len (s : Bs) : (tokensS s).1.length ≤ s.length + 1 := by
 unfold tokensS
 split
 ·simp
 ·cases h : lexS s with
  | inl e => simp
  | inr l =>
   have := lexL_len _ _ _ l h
   simp only [List.length_drop] at this
   simp only
   omega
end Go.Proofs.Ytnjoomfeddamcaa

namespace Go.Proofs.Ytnjoomfeddamcaa
open Go.Ev
set_option maxRecDepth 100000
noncomputable section
def s11_j0 (G : CallT) (N : Nat) (x6 x8 : AV) (H : AHeap) : O :=
 xb (fbin P .add 3 true x8 (.int .i64 1)) fun x70 =>
 xb (fbin P .eql 3 false x70 x6) fun x72 =>
 xg x72 true H (fun q => xeff H (G 26 [] H) q) fun x74 h1 =>
 xb (pickOf x72 (some x74) (some (.bool false))) fun x75 =>
 some (x75, h1)
theorem s11_j0_eq (G : CallT) (N : Nat) : ∀ R H, codeC P G N (Code.snd (Code.snd (Code.snd (Code.snd (Code.snd (Code.snd (Code.snd (bodyOf Try.f11)))))))) (rC Try.f11) [] (rC Try.f11) R H = s11_j0 G N (R 6) (R 8) H := by
 refine via_trans (via_leaf _) fun R H => ?_
 delta s11_j0
 kernel_rfl
def s11_b1 (G : CallT) (N : Nat) (L1 : AV → AV → AV → AV → AV → AHeap → O) (x3 x5 : AV) (x6 x8 x9 : AV) (H : AHeap) : O :=
 xlen P .len [50] [x5] H fun x38 =>
 xb (fbin P .lss 3 false x9 x38) fun x39 =>
 xif (some x39) (xcall H (G 28 [x3, x8, (.int .i64 1)] H) fun x45 h1 =>
 xb (aextract x45 0) fun x46 =>
 xb (aextract x45 1) fun x47 =>
 xb (aextract x45 2) fun x48 =>
 xalloc h1 [(.int .i64 0), (.str []), (.str []), (.int .i64 0), AV.nilSl, AV.nilSl, AV.nilSl, (.int .i64 0), (.int .i64 0)] fun x10 h2 =>
 xalloc h2 [(.int .i64 0), (.int .i64 0)] fun x12 h3 =>
 xstore h3 (astore P h3 54 x10 x46) fun h4 =>
 xstore h4 (astore P h4 25 x12 x48) fun h5 =>
 xb (afieldAddr P 25 x12 0) fun x49 =>
 xb (aload P h5 23 x49) fun x50 =>
 xb (fbin P .neq 23 true x50 (.int .i64 0)) fun x51 =>
 xguard x51 false (qv x47) fun k_ =>
 xguard x51 false (qv x8) fun k__1 =>
 xguard x51 false (qp (fbin P .leq 3 false k_.val k__1.val)) fun k__2 =>
 xb (pickOf x51 (some (.bool true)) (some k__2.val)) fun x56 =>
 xguard x56 false (qr (aload P (k__2.heap (k__1.heap (k_.heap h5))) 54 x10)) fun k__3 =>
 xguard x56 false (fun q => xnew (sliceOf P ((k__3.heap (k__2.heap (k__1.heap (k_.heap h5))))).next 50 1 [(0, k__3.val)]) q) fun k__4 =>
 xguard x56 false (qv x5) fun k__5 =>
 xguard x56 false (qv x9) fun k__6 =>
 xguard x56 false (qv x9) fun k__7 =>
 xguard x56 false (qp (fbin P .add 3 true k__7.val (.int .i64 1))) fun k__8 =>
 xguard x56 false (qp (aslice P 50 k__5.val (some k__6.val) (some k__8.val) none)) fun k__9 =>
 xguard x56 false (fun q => xeff (k__9.heap (k__8.heap (k__7.heap (k__6.heap (k__5.heap (k__4.heap (k__3.heap (k__2.heap (k__1.heap (k_.heap h5)))))))))) (G 29 [k__4.val, k__9.val] (k__9.heap (k__8.heap (k__7.heap (k__6.heap (k__5.heap (k__4.heap (k__3.heap (k__2.heap (k__1.heap (k_.heap h5))))))))))) q) fun k__10 =>
 xguard x56 false (qp (aun .not k__10.val)) fun k__11 =>
 xb (pickOf x56 (some (.bool true)) (some k__11.val)) fun x67 =>
 bif dchk [0, 1, 3, 7, 15, 15, 63, 127, 255, 511, 1023, 511, 511, 511, 8703, 31231, 65535, 131071, 262143] [0, 1, 2, 3, 4, 5, 6, 7, 8, 9, 10, 16, 17, 18] [⟨0, (.pure x49), fun H => none⟩, ⟨1, (.read x50), fun H => aload P H 23 x49⟩, ⟨2, (.pure x51), fun H => none⟩, ⟨3, (.pure x51), fun H => none⟩, ⟨4, k_, fun H => none⟩, ⟨5, k__1, fun H => none⟩, ⟨6, k__2, fun H => none⟩, ⟨7, (.pure x56), fun H => none⟩, ⟨8, (.pure x56), fun H => none⟩, ⟨9, k__3, fun H => aload P H 54 x10⟩, ⟨10, k__4, fun H => none⟩, ⟨11, k__5, fun H => none⟩, ⟨12, k__6, fun H => none⟩, ⟨13, k__7, fun H => none⟩, ⟨14, k__8, fun H => none⟩, ⟨15, k__9, fun H => none⟩, ⟨16, k__10, fun H => none⟩, ⟨17, k__11, fun H => none⟩, ⟨18, (.pure x67), fun H => none⟩] h5 then (xif (some x67) (some ((.bool false), (k__11.heap (k__10.heap (k__9.heap (k__8.heap (k__7.heap (k__6.heap (k__5.heap (k__4.heap (k__3.heap (k__2.heap (k__1.heap (k_.heap h5)))))))))))))) (xb (fbin P .add 3 true x9 (.int .i64 1)) fun x41 =>
 L1 x3 x5 x6 x47 x41 (k__11.heap (k__10.heap (k__9.heap (k__8.heap (k__7.heap (k__6.heap (k__5.heap (k__4.heap (k__3.heap (k__2.heap (k__1.heap (k_.heap h5)))))))))))))) else none) (s11_j0 G N x6 x8 H)
def s11_l1 (G : CallT) (N : Nat) : Nat → AV → AV → AV → AV → AV → AHeap → O
 | 0, _, _, _, _, _, _ => none
 | n + 1, x3, x5, x6, x8, x9, H => s11_b1 G N (s11_l1 G N n) x3 x5 x6 x8 x9 H
theorem s11_b1_eq (G : CallT) (N : Nat) (L1 : AV → AV → AV → AV → AV → AHeap → O) : ∀ R H, codeC P G N (Code.fst (Code.fst (Code.snd (Code.fst (Code.snd (Code.snd (Code.snd (Code.snd (Code.snd (Code.snd (bodyOf Try.f11))))))))))) (fun R H => L1 (R 3) (R 5) (R 6) (R 8) (R 9) H) [(0, (fun R H => s11_j0 G N (R 6) (R 8) H))] (rC Try.f11) R H = s11_b1 G N L1 (R 3) (R 5) (R 6) (R 8) (R 9) H := by
 refine via_trans (via_leaf _) fun R H => ?_
 delta s11_b1
 generalize s11_j0 G N = J0
 revert J0
 refine id ?_
 intro J0
 kernel_rfl
def s11 (G : CallT) (N : Nat) (x0 : AV) (H : AHeap) : O :=
 xcall H (G 15 [x0] H) fun x15 h1 =>
 xb (aextract x15 0) fun x16 =>
 xb (aextract x15 1) fun x17 =>
 xalloc h1 [(.int .i64 0), (.int .i64 0)] fun x4 h2 =>
 xstore h2 (astore P h2 25 x4 x17) fun h3 =>
 xlen P .len [9] [x0] h3 fun x19 =>
 xb (fbin P .gtr 3 true x19 (.int .i64 2000)) fun x20 =>
 xg x20 false h3 (qp (afieldAddr P 25 x4 0)) fun x22 h4 =>
 xg x20 false h4 (qr (aload P h4 23 x22)) fun x23 h5 =>
 xg x20 false h5 (qp (fbin P .neq 23 true x23 (.int .i64 0))) fun x24 h6 =>
 xb (pickOf x20 (some (.bool true)) (some x24)) fun x25 =>
 xif (some x25) (some ((.bool true), h6)) (xcall h6 (G 27 [x16, (.int .i64 0), (.int .i64 0)] h6) fun x28 h7 =>
 xb (aextract x28 0) fun x29 =>
 xb (aextract x28 1) fun x30 =>
 xb (aextract x28 2) fun x31 =>
 xalloc h7 [(.int .i64 0), (.int .i64 0)] fun x7 h8 =>
 xstore h8 (astore P h8 25 x7 x31) fun h9 =>
 xb (afieldAddr P 25 x7 0) fun x32 =>
 xb (aload P h9 23 x32) fun x33 =>
 xb (fbin P .neq 23 true x33 (.int .i64 0)) fun x34 =>
 xif (some x34) (xcall h9 (G 26 [] h9) fun x35 h10 =>
 some (x35, h10)) (s11_l1 G N N x16 x29 x30 (.int .i64 1) (.int .i64 0) h9))
theorem s11_eq (G : CallT) (N : Nat) (x0 : AV) (H : AHeap) : cF Try.f11 G N (argsF [x0]) H = s11 G N x0 H := by
 refine via_top (A := cF Try.f11 G N) ((via_seq (by kernel_rfl) ((via_seq (by kernel_rfl) ((via_seq (by kernel_rfl) ((via_seq (by kernel_rfl) ((via_seq (by kernel_rfl) ((via_seq (by kernel_rfl) ((via_seq (by kernel_rfl) (s11_j0_eq G N) ((via_seq (by kernel_rfl) ((via_block (by kernel_rfl) ((via_loop (k := fun m R H => s11_l1 G N m (R 3) (R 5) (R 6) (R 8) (R 9) H) (by kernel_rfl) (fun R H => by kernel_rfl) (fun m => s11_b1_eq G N (s11_l1 G N m)))))) (via_leaf _))))) (via_leaf _))) (via_leaf _))) (via_leaf _))) (via_leaf _))) (via_leaf _))) (via_leaf _))) ?_
 delta s11
 generalize s11_l1 G N N = J0
 revert J0
 refine id ?_
 intro J0
 kernel_rfl
theorem run11 (N : Nat) {x0 : AV} {H : AHeap} {r : AV × AHeap} (h : s11 (evw P) N x0 H = some r) : evw P 11 [x0] H = some r :=
 runF Try.func11 (by kernel_rfl) (by kernel_rfl) (by kernel_rfl) ((s11_eq (evw P) N x0 H).trans h)
end
end Go.Proofs.Ytnjoomfeddamcaa
namespace Go.Proofs.Ytnjoomfeddamcaa
open Go.Ev
theorem xnew_some (v : AV) (b : ABlk) (k : K → O) : xnew (some (v, b)) k = k (.new v b) := rfl
theorem heap_new (H : AHeap) (v : AV) (b : ABlk) : (K.new v b).heap H = H.push b := rfl
theorem val_new (v : AV) (b : ABlk) : (K.new v b).val = v := rfl
theorem SlsV.mid {H : AHeap} {ok : Nat → Prop} {e : Stm} {post : List Stm} : ∀ (pre : List Stm) (css : List (List AV)), SlsV H ok (pre ++ e :: post) css → SlsV H ok [e] (css.drop pre.length)
 | [], [], h => by rw [List.nil_append, SlsV] at h; exact h.elim
 | [], cs :: css, h => by
  rw [List.nil_append, SlsV] at h
  rw [List.length_nil, List.drop_zero, SlsV, SlsV]; exact ⟨h.1, trivial⟩
 | _ :: _, [], h => by rw [List.cons_append, SlsV] at h; exact h.elim
 | p :: pre, cs :: css, h => by
  rw [List.cons_append, SlsV] at h
  rw [List.length_cons, List.drop_succ_cons]
  exact SlsV.mid pre css h.2
theorem sl50_mid {H : AHeap} {ok : Nat → Prop} {pre post : List Stm} {e : Stm} {bv : AV} (h : SsV H ok (pre ++ e :: post) bv) : ∃ w, aslice P 50 bv (some (.int .i64 ((pre.length : Nat) : Int))) (some (.int .i64 ((pre.length + 1 : Nat) : Int))) none = some w ∧ SsV H ok [e] w := by
 have hlen : (pre ++ e :: post).length = pre.length + 1 + post.length := by simp; omega
 rcases h with ⟨_, h⟩ | ⟨l, i, cap, ro, els, rfl, o1, g1, w1⟩ | ⟨l, i, cap, _, h⟩
 ·omega
 ·refine ⟨.sl l (i + pre.length) (pre.length + 1 - pre.length) 9 (Option.map (· - pre.length) (Option.map (· + (pre ++ e :: post).length) cap)), ?_, .inr (.inl ⟨l, i + pre.length, Option.map (· + post.length) cap, ro, els, ?_, o1, g1, ?_⟩)⟩
  ·have e2 : abound (some (.int .i64 ((pre.length : Nat) : Int))) 0 (pre.length + 1) = some pre.length := by simp [abound]; omega
   have e1 : ∀ y, pre.length + 1 ≤ y → abound (some (.int .i64 ((pre.length + 1 : Nat) : Int))) (pre ++ e :: post).length y = some (pre.length + 1) := fun y hy => by
    have : (0 : Int) ≤ ((pre.length + 1 : Nat) : Int) ∧ ((pre.length + 1 : Nat) : Int) ≤ (y : Int) := ⟨by omega, by omega⟩
    simp only [abound, this, and_self, if_true]
    rfl
   have e3 : pre.length + 1 ≤ (Option.map (· + (pre ++ e :: post).length) cap).getD (pre ++ e :: post).length := by
    cases cap with
    | none => show _ ≤ (pre ++ e :: post).length; omega
    | some c => show _ ≤ c + (pre ++ e :: post).length; omega
   have e4 : tySize P 54 = some 9 := ts54
   simp only [aslice, un50, e4, if_true, e1 _ e3, e2]
  ·have : pre.length + 1 - pre.length = 1 := by omega
   rw [this]
   cases cap with
   | none => rfl
   | some c =>
    have : c + (pre ++ e :: post).length - pre.length = c + post.length + 1 := by omega
    show AV.sl _ _ _ _ (some (c + (pre ++ e :: post).length - pre.length)) = AV.sl _ _ _ _ (some (c + post.length + 1))
    rw [this]; rfl
  ·have := SlsV.mid pre (els.drop i) w1
   rw [List.drop_drop] at this
   exact this
 ·omega
theorem Parts.mono {T : List Tok} {a b : Int} {ms : List Stm} (h : Parts T a ms b) : a + ms.length ≤ b := by
 induction h with
 | nil a => simp
 | cons hn h hlt ht ih => simp only [List.length_cons]; omega
theorem parts_loop {T : List Tok} {tv bv : AV} {b e : Int} {N : Nat} (hT : T.length ≤ 20000000) (hb : 0 ≤ b ∧ b < T.length) (he : e = b + 1) {all : List Stm} (hl : all.length ≤ 1000000000) :
  ∀ (ms pre : List Stm) (a : Int) (n : Nat) (H : AHeap), 0 ≤ a → all = pre ++ ms → Parts T a ms b → TokSl H tv T → SsV H (fun _ => True) all bv → ms.length < n →
   W (s11_l1 (evb P 26 true) N n tv bv (.int .i64 e) (.int .i64 a) (.int .i64 ((pre.length : Nat) : Int)) H) fun v H' => v = .bool true ∧ Pur H H'
 | _, _, _, 0, _, _, _, _, _, _, hn => by omega
 | [], pre, a, n + 1, H, ha, hall, hp, ht, hv, hn => by
  have hj : ¬ (((pre.length : Nat) : Int) < (all.length : Int)) := by rw [hall]; simp
  have hc := fun H' => hv.cnt H'
  have hab : a = b := by cases hp; rfl
  have hw : IntKind.i64.wrap (a + 1) = e := by rw [he, wrap_i64 (by omega) (by omega)]; omega
  simp -implicitDefEqProofs (disch := first | assumption | omega | (simp only [nxB]; omega) | (simp only [oneB])) only [s11_l1, s11_j0, s11_b1, s11, xlen, AV.cells, splice, aload, astore, Nat.reduceAdd, Nat.reduceLeDiff, reduceIte, allB, hc, hj, decide_false, hw, beq_self_eq_true, evb_self, xeff, xcall, Nat.le_refl, decide_true]
  exact W_some.2 ⟨rfl, .refl _⟩
 | m :: ms, pre, a, n + 1, H, ha, hall, hp, ht, hv, hn => by
  have hlen : all.length = pre.length + 1 + ms.length := by rw [hall]; simp; omega
  have hj : ((pre.length : Nat) : Int) < (all.length : Int) := by omega
  have hc := fun H' => hv.cnt H'
  cases hp with | @cons _ a' _ _ _ fu hfu hst hlt hrest =>
  have hs1 : startS a 1 = ⟨a, 1, 0, 0⟩ := by simp [startS]
  have hsm : SmM 1000000000 m := (smK T fu (by omega)).stmt _ _ hst
  have hpm : parseM m ⟨a', 1, 0, 0⟩ = (m, a', 0, 0) := by simp [parseM]
  simp only [List.length_cons] at hn
  simp -implicitDefEqProofs (disch := first | assumption | omega | (simp only [nxB]; omega) | (simp only [oneB])) only [s11_l1, s11_j0, s11_b1, s11, xlen, AV.cells, splice, aload, astore, Nat.reduceAdd, Nat.reduceLeDiff, reduceIte, allB, hc, hj, decide_true]
  rw [evb_other (by decide)]
  refine W_call (kstmt_spec hfu hT ht a 1 (by rw [hs1]; exact hst)) ?_
  rintro _ H1 ⟨v1, rfl, hv1, p1⟩
  refine ⟨p1.1, ?_⟩
  rw [hpm] at hv1 ⊢
  simp only at hv1 ⊢
  obtain ⟨c1, rfl, n1, o1⟩ := hv1.cells
  have t1 : List.take 9 c1 = c1 := List.take_of_length_le (by omega)
  have hs := fun l => sl50_1 l c1 n1 o1
  have hle : ¬ (a' ≤ a) := by omega
  have hw : IntKind.i64.wrap (((pre.length : Nat) : Int) + 1) = ((pre.length + 1 : Nat) : Int) := by rw [wrap_i64 (by omega) (by omega)]; omega
  have pa := (p1.then_push (.row false 9 [c1])).then_push (.row false 2 [[.int .i64 0, .int .i64 0]])
  have pb := pa.then_push (.row false 9 [c1])
  have hv' := hv
  rw [hall] at hv'
  obtain ⟨w, hsl, hw1⟩ := sl50_mid hv'
  have z0 : ((0 : Int) != 0) = false := rfl
  simp -implicitDefEqProofs (disch := first | assumption | omega | (simp only [nxB]; omega) | (simp only [oneB])) only [xlen, AV.cells, splice, aload, astore, Nat.reduceAdd, Nat.reduceLeDiff, reduceIte, allB, tyC, AHeap.push_set_lt, n1, o1, List.append_nil, z0, hle, decide_false, xguard_ff, t1, hs, hw, hsl, xnew_some, heap_new, val_new]
  rw [evb_other (by decide)]
  refine W_eff (alikeS_spec (B := 1000000000) (by omega) [m] (by simp) (by rw [SmMs, SmMs]; exact ⟨hsm, trivial⟩) _ w _ (fun _ => True) (fun _ => True) (.inr (.inl ⟨_, 0, some 0, false, [c1], rfl, trivial, AHeap.get_push_same _ _, ?_⟩)) (hw1.keep (KeepS.pur pb fun _ h => h))) ?_
  ·rw [List.drop_zero, SlsV, SlsV]
   exact ⟨StV.keep (KeepS.pur (((Pur.push H1 _).then_push _).then_push _) fun _ _ => trivial) m _ hv1, trivial⟩
  rintro _ H3 ⟨rfl, p3⟩
  refine ⟨p3.1, ?_⟩
  simp -implicitDefEqProofs (disch := first | assumption | omega | (simp only [nxB]; omega) | (simp only [oneB])) only [xlen, AV.cells, splice, aload, astore, Nat.reduceAdd, Nat.reduceLeDiff, reduceIte, allB, xguard_ff, Bool.not_true]
  refine W_bif (dchk_tied2 (by kernel_rfl) (by kernel_rfl)) ?_
  have p13 := pb.trans p3
  simp -implicitDefEqProofs (disch := first | assumption | omega | (simp only [nxB]; omega) | (simp only [oneB])) only [xlen, AV.cells, splice, aload, astore, Nat.reduceAdd, Nat.reduceLeDiff, reduceIte, allB, Bool.not_true, hw]
  have hpl : (pre ++ [m]).length = pre.length + 1 := by simp
  have go := parts_loop (N := N) hT hb he hl ms (pre ++ [m]) a' n H3 (by omega) (by rw [hall]; simp) hrest (ht.pur p13) (hv.keep (KeepS.pur p13 fun _ h => h)) (by omega)
  rw [hpl] at go
  refine go.mono ?_
  rintro v H' ⟨rfl, q⟩
  exact ⟨rfl, p13.trans q⟩
theorem parts4_run {H : AHeap} (s : Bs) : W (s11 (evb P 26 true) 3000 (.str s) H) fun v H' => v = .bool true ∧ Pur H H' := by
 rw [s11, evb_other (by decide)]
 refine W_call (Tokens_spec s) ?_
 rintro _ H1 ⟨tv, rfl, ht, p1⟩
 refine ⟨p1.1, ?_⟩
 have hlen := tokensS_len s
 generalize tokensS s = q at ht hlen
 have pa := p1.then_push (.row false 2 [[.int .i64 q.2.1, .int .i64 q.2.2]])
 by_cases h2 : (2000 : Int) < (s.length : Int)
 ·simp -implicitDefEqProofs (disch := first | assumption | omega | (simp only [nxB]; omega) | (simp only [oneB])) only [s11_j0, s11_b1, s11, xlen, AV.cells, splice, aload, astore, Nat.reduceAdd, Nat.reduceLeDiff, reduceIte, allB, h2, decide_true]
  exact W_some.2 ⟨rfl, pa⟩
 ·cases hq : (q.2.1 != 0) with
  | true =>
   simp -implicitDefEqProofs (disch := first | assumption | omega | (simp only [nxB]; omega) | (simp only [oneB])) only [s11_j0, s11_b1, s11, xlen, AV.cells, splice, aload, astore, Nat.reduceAdd, Nat.reduceLeDiff, reduceIte, allB, h2, decide_false, hq]
   exact W_some.2 ⟨rfl, pa⟩
  | false =>
   have hT : q.1.length ≤ 20000000 := by omega
   obtain ⟨⟨l, t⟩, ⟨l', t'⟩, h4, h5, h6, -⟩ := both_block hT 0 0
   simp -implicitDefEqProofs (disch := first | assumption | omega | (simp only [nxB]; omega) | (simp only [oneB])) only [s11_j0, s11_b1, s11, xlen, AV.cells, splice, aload, astore, Nat.reduceAdd, Nat.reduceLeDiff, reduceIte, allB, h2, decide_false, hq]
   rw [evb_other (by decide)]
   refine W_call (rblock_spec (by omega) hT (ht.pur (Pur.push _ _)) 0 0 h5) ?_
   rintro _ H2 ⟨v2, rfl, hv2, p2⟩
   refine ⟨p2.1, ?_⟩
   simp only at h6
   rw [h6] at hv2 ⊢
   have pb := (pa.trans p2).then_push (.row false 2 [[.int .i64 (parseB l t).2.2.1, .int .i64 (parseB l t).2.2.2]])
   have p2' := ((Pur.push H1 (.row false 2 [[.int .i64 q.2.1, .int .i64 q.2.2]])).trans p2).then_push (.row false 2 [[.int .i64 (parseB l t).2.2.1, .int .i64 (parseB l t).2.2.2]])
   by_cases hf : t.fe = 0
   ·have hpb : parseB l t = (l, t.at_, 0, 0) := by simp [parseB, hf]
    obtain ⟨b, hpt, hat, hb0, hb1⟩ := block_parts hT h4 hf
    have hmono := hpt.mono
    rw [hpb] at hv2 pb p2' ⊢
    have hw : w64 (b + 1) = b + 1 := wrap_i64 (by omega) (by omega)
    rw [hw] at hat
    have z0 : ((0 : Int) != 0) = false := rfl
    simp -implicitDefEqProofs (disch := first | assumption | omega | (simp only [nxB]; omega) | (simp only [oneB])) only [xlen, AV.cells, splice, aload, astore, Nat.reduceAdd, Nat.reduceLeDiff, reduceIte, allB, AHeap.push_set_lt, z0]
    refine (parts_loop hT ⟨hb0, hb1⟩ hat (all := l) (by omega) l [] 1 3000 _ (by omega) rfl hpt (ht.pur p2') (hv2.keep (KeepS.pur (Pur.push _ _) fun _ _ => trivial)) (by omega)).mono ?_
    rintro v H' ⟨rfl, q⟩
    exact ⟨rfl, pb.trans q⟩
   ·have hpb : parseB l t = ([], 0, t.fe, t.fa) := by simp [parseB, hf]
    rw [hpb] at pb ⊢
    have z1 : (t.fe != 0) = true := by simpa using hf
    simp -implicitDefEqProofs (disch := first | assumption | omega | (simp only [nxB]; omega) | (simp only [oneB])) only [xlen, AV.cells, splice, aload, astore, Nat.reduceAdd, Nat.reduceLeDiff, reduceIte, allB, AHeap.push_set_lt, z1, evb_self, xeff, xcall, Nat.le_refl, decide_true]
    exact W_some.2 ⟨rfl, pb⟩
set_option maxRecDepth 100000 in
theorem parts4_ok (s : Bs) : ∃ H', CallOk1 P 11 [.str s] AHeap.empty (.bool true) H' := by
 obtain ⟨_, H', h, rfl, p⟩ := parts4_run (H := AHeap.empty) s
 exact ⟨H', code_ok1 (c := bodyOf Try.f11) (M := 3000) progOk (evb_ok progOk known4) Try.func11 (by kernel_rfl) (by kernel_rfl) (by kernel_rfl) (Eq.trans (s11_eq (evb P 26 true) 3000 (.str s) AHeap.empty) h)⟩
end Go.Proofs.Ytnjoomfeddamcaa

namespace Go.Proofs.Ytnjoomfeddamcaa
open Go.Ev
open Go.ChangeShapes Go.WideShapes Go.ChangeAt Go.RowKit
open Go.ChangeMaps (open_string shut_string)
namespace stmtParts
set_option maxRecDepth 100000 in
theorem lifted (os : Os) (started : os.Started) (H : Type) (enc : TypeId × Value → H) :
  ReturnsInHanded {} Try.checked os 11 .any (Rows.stmtPartsSpec.pre6 enc Try.prog Try.f11 Rows.stmtPartsRow.domain false) (Rows.stmtPartsSpec.post enc Try.prog Try.f11 false true false false) := by
 refine returnsInHanded_of_change (C := Try.checked) own started (by kernel_rfl) Try.func11
  (ChangeSpec.witness6 (enc := enc) (C := Try.checked) false ⟨#[], #[.string ⟨#[]⟩], []⟩ 8 (by kernel_rfl) (by kernel_rfl) (by kernel_rfl) (by kernel_rfl)) ?_
 intro W base args ds gs before hval0 hW hcnd _
 have hval : ∀ (j : Nat) t v, Try.f11.params[j]? = some t → args[j]? = some v → Value.okWide Try.prog W .any base t v := hval0
 have hW' := hW
 obtain ⟨p, q, hA0, hV, rfl, hfz, hnd⟩ := hW
 have hA : DataW.TrodAll enc Try.prog W 0 (fun _ => true) true Try.f11.params.toList args.toList ds p := hA0
 have hpar : Try.f11.params = #[9] := by kernel_rfl
 rw [hpar] at hA hval
 obtain ⟨v0, vs0, d0, ds0, p0, q0, hargs, rfl, rfl, h0, r0⟩ := trodAll_cons hA
 obtain ⟨rfl, rfl, rfl⟩ := trodAll_nil r0
 obtain rfl : args = #[v0] := by cases args; simp_all
 obtain ⟨rfl, rfl⟩ := trodVars_none hV
 obtain ⟨a0, hv0, -, -, w0⟩ := open_string (P := P) und9 (hval 0 9 v0 rfl rfl) h0
 subst hv0
 have hlaw : LawOk P 11 [.string a0] W := by obtain ⟨H', h⟩ := parts4_ok a0.data.toList; exact law_plain (.cons _ _ _ _ (.str _) .nil) h
 refine (law_walk (c := bodyOf Try.f11) progOk Try.func11 (by kernel_rfl) hlaw).mono fun e W' ⟨he, bel⟩ => ?_
 subst he
 obtain ⟨pa, hpa⟩ := trodAll_below laidOut bel (ts := [9]) (fun t ht => by
  simp only [List.mem_cons, List.not_mem_nil, or_false] at ht
  rcases ht with rfl <;> exact ⟨by kernel_rfl, of_decide_eq_true (by kernel_rfl)⟩) hA
 exact ⟨_, rfl, _, _, _, [], pa, [], hW', trodAll_mk1 (shut_bool (P := P) und4 _), by rw [hpar]; exact hpa, rfl, bel.frame _, fun h => by cases h⟩
theorem over : Rows.stmtPartsRow.holds Try.pinned (OpenSpec.ofChange Rows.stmtPartsSpec) :=
 OpenClaim.holds_of_wide 11 Try.f11 rfl rfl rfl rfl rfl rfl rfl ⟨rfl, rfl, rfl, rfl, rfl⟩ rfl rfl rfl rfl rfl (by kernel_rfl) Try.func11 (by kernel_rfl)
  (of_decide_eq_true (by kernel_rfl)) (by unfold Func.isWrapper; first | (rw [if_pos (by decide +kernel)]; kernel_rfl) | (rw [if_neg (by decide +kernel)]; exact ⟨rfl, rfl⟩))
  (fun os started H enc _ => lifted os started H enc)
end stmtParts
theorem stmtParts_holds : Rows.StmtPartsSaid := stmtParts.over
end Go.Proofs.Ytnjoomfeddamcaa


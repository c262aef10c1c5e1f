/-
  Texts of one proof, laid together: E6 P5 ExprParens.
-/
import Derived.Test.YtnjoomfeddamcaaMN
import Derived.Test.YtnjoomfeddamcaaMNa
import Derived.Test.YtnjoomfeddamcaaMP
import Derived.Test.YtnjoomfeddamcaaML
import Derived.Test.YtnjoomfeddamcaaMH
import Derived.Test.YtnjoomfeddamcaaRows
import Derived.Test.YtnjoomfeddamcaaMO
set_option linter.unusedVariables false
set_option linter.unusedSimpArgs false
namespace Go.Proofs.Ytnjoomfeddamcaa
open Go.Ev
theorem lexL_len : ∀ (n : Nat) (rest : Bs) (p : Nat) (l : List Tok), lexL n rest p = .inr l → l.length ≤ rest.length + 1
  | 0, _, _, _, h => by simp [lexL] at h
  | n + 1, [], p, l, h => by simp [lexL] at h; subst h; simp
  | n + 1, c :: r, p, l, h => by
    rw [lexL] at h
    cases ho : oneN (c :: r) with
    | none => rw [ho] at h; simp at h
    | some q =>
      obtain ⟨k, t, z, b⟩ := q
      obtain ⟨b1, b2⟩ := oneN_len ho
      rw [ho] at h
      simp only at h
      cases hl : lexL n (((c :: r).drop b).drop (blankN false ((c :: r).drop b))) (p + b + blankN false ((c :: r).drop b)) with
      | inl e => rw [hl] at h; cases h
      | inr l' =>
        rw [hl] at h
        cases h
        have := lexL_len n _ _ l' hl
        simp only [List.length_drop, List.length_cons] at this b2 ⊢
        omega
theorem tokensS_len (s : Bs) : (tokensS s).1.length ≤ s.length + 1 := by
  unfold tokensS
  split
  · simp
  · cases h : lexS s with
    | inl e => simp
    | inr l =>
      have := lexL_len _ _ _ l h
      simp only [List.length_drop] at this
      simp only
      omega
theorem reads_run {H : AHeap} (s : Bs) (at_ opn : Int) : W (s3 (evb P 17 true) (.str s) (.int .i64 at_) (.int .i64 opn) H) fun v H' => v = .bool true ∧ Pur H H' := by
  rw [s3, evb_other (by decide)]
  refine W_call (Tokens_spec s) ?_
  rintro _ H1 ⟨tv, rfl, ht, p1⟩
  refine ⟨p1.1, ?_⟩
  have hlen := tokensS_len s
  generalize tokensS s = q at ht hlen
  have pa := p1.then_push (.row false 2 [[.int .i64 q.2.1, .int .i64 q.2.2]])
  by_cases h2 : (2000 : Int) < (s.length : Int)
  · simp -implicitDefEqProofs (disch := first | assumption | omega | (simp only [nxB]; omega) | (simp only [oneB])) only [s3, xlen, AV.cells, splice, aload, astore, Nat.reduceAdd, Nat.reduceLeDiff, reduceIte, allB, h2, decide_true]
    exact W_some.2 ⟨rfl, pa⟩
  · cases hq : (q.2.1 != 0) with
    | true =>
      simp -implicitDefEqProofs (disch := first | assumption | omega | (simp only [nxB]; omega) | (simp only [oneB])) only [s3, xlen, AV.cells, splice, aload, astore, Nat.reduceAdd, Nat.reduceLeDiff, reduceIte, allB, h2, decide_false, hq]
      exact W_some.2 ⟨rfl, pa⟩
    | false =>
      simp -implicitDefEqProofs (disch := first | assumption | omega | (simp only [nxB]; omega) | (simp only [oneB])) only [s3, xlen, AV.cells, splice, aload, astore, Nat.reduceAdd, Nat.reduceLeDiff, reduceIte, allB, h2, decide_false, hq]
      rw [evb_other (by decide)]
      refine W_call (held_spec (T := q.1) (by omega) (ht.pur (Pur.push _ _)) at_ opn) ?_
      rintro _ H3 ⟨rfl, p3⟩
      refine ⟨p3.1, ?_⟩
      simp -implicitDefEqProofs (disch := first | assumption | omega | (simp only [nxB]; omega) | (simp only [oneB])) only [s3, xlen, evB, evb_self, xeff, Nat.le_refl, decide_true]
      exact W_some.2 ⟨rfl, pa.trans p3⟩
set_option maxRecDepth 100000 in
theorem reads_ok (s : Bs) (at_ opn : Int) : ∃ H', CallOk1 P 3 [.str s, .int .i64 at_, .int .i64 opn] AHeap.empty (.bool true) H' := by
  obtain ⟨_, H', h, rfl, p⟩ := reads_run (H := AHeap.empty) s at_ opn
  exact ⟨H', code_ok1 (c := bodyOf Try.f3) (M := 0) progOk (evb_ok progOk known3) Try.func3 (by kernel_rfl) (by kernel_rfl) (by kernel_rfl) (Eq.trans (s3_eq (evb P 17 true) 0 (.str s) (.int .i64 at_) (.int .i64 opn) AHeap.empty) h)⟩
end Go.Proofs.Ytnjoomfeddamcaa

namespace Go.Proofs.Ytnjoomfeddamcaa
open Go.Ev
theorem TokSl.cnt {H : AHeap} {tv : AV} {T : List Tok} (h : TokSl H tv T) (H' : AHeap) : abuiltin P H' .len [22] [tv] = some (.int .i64 T.length) := by
  rcases h with ⟨rfl, rfl⟩ | ⟨l, i, cap, rfl, _⟩
  · exact ln22n
  · exact ln22
theorem parens_loop {G : CallT} {N : Nat} {n : Nat} {s : Bs} (hn : n ≤ 60) (hs : s.length ≤ 500) {v7 v12 : AV} {H : AHeap} {Q : AV → AHeap → Prop} (hQ : W (s5_j0 G N (.int .i64 n) v7 v12 (.str (wrapsB n s)) H) Q) :
    ∀ (j i m : Nat), i + j = n → j < m → W (s5_l1 G N m (.int .i64 n) v7 v12 (.str (wrapsB i s)) (.int .i64 i) H) Q
  | _, _, 0, _, hm => by omega
  | 0, i, m + 1, hij, hm => by
    obtain rfl : i = n := by omega
    have h1 : ¬ ((i : Int) < (i : Int)) := by omega
    simp -implicitDefEqProofs (disch := first | assumption | omega | (simp only [nxB]; omega) | (simp only [oneB])) only [s5_l1, s5_b1, xlen, evB, binB, h1, decide_false]
    exact hQ
  | j + 1, i, m + 1, hij, hm => by
    have h1 : ((i : Int) < (n : Int)) := by omega
    have l1 := wrapsB_len s i
    have a1 : fbin P .add 9 true (.str [40]) (.str (wrapsB i s)) = some (.str ([40] ++ wrapsB i s)) := fbin_sadd _ _ [40] (wrapsB i s) (by simp only [List.length_cons, List.length_nil]; omega)
    have a2 : fbin P .add 9 true (.str ([40] ++ wrapsB i s)) (.str [10, 41]) = some (.str (wrapsB (i + 1) s)) := fbin_sadd _ _ ([40] ++ wrapsB i s) [10, 41] (by simp only [List.length_append, List.length_cons, List.length_nil]; omega)
    simp -implicitDefEqProofs (disch := first | assumption | omega | (simp only [nxB]; omega) | (simp only [oneB])) only [s5_l1, s5_b1, xlen, evB, binB, h1, decide_true, a1, a2, wn1]
    exact parens_loop hn hs hQ j (i + 1) m (by omega) (by omega)
theorem parens_end {H : AHeap} {s : Bs} {l : List Tok} (hl : lexS s = .inr l) (hs : s.length ≤ 500) {n : Nat} (hn : n ≤ 60) {e1 e2 : Ex} {s1 s2 : St} {fa2 : Int} {c1 : List AV} {ok : Nat → Prop} {b7 b12 : Nat}
    (h1 : rowF l 800000000 0 ⟨0, 0, 0, 0⟩ = some (e1, s1)) (ok1 : s1.fe = 0) (at1 : s1.at_ = (l.length : Int) - 1) (h2 : rowF l 800000000 0 ⟨0, n, 0, 0⟩ = some (e2, s2))
    (hv1 : ExV H ok e1 (.agg c1)) (g7 : H.get b7 = some (.row false 11 [c1])) (g12 : H.get b12 = some (.row false 2 [[.int .i64 s2.fe, .int .i64 fa2]])) (N : Nat) :
    W (s5_j0 (evb P 17 true) N (.int .i64 n) (.ptr b7 0 0) (.ptr b12 0 0) (.str (wrapsB n s)) H) fun v H' => v = .bool true ∧ H.next ≤ H'.next := by
  obtain ⟨_, _, -, -, hw⟩ := lexS_wraps hl
  obtain ⟨m, hm, -⟩ := hw n
  have hlen := lexL_len _ _ _ _ hl
  simp only [List.length_drop] at hlen
  obtain ⟨f, e3, s3, hf, h3, hres⟩ := parens_pure hl (by omega) hn hm h1 ok1 at1 h2
  have htk : tokensS (wrapsB n s) = (m, 0, 0) := by
    have := wrapsB_len s n
    unfold tokensS
    rw [if_neg (by omega), hm]
  have hml : 1 ≤ m.length ∧ m.length ≤ 10000 := by
    have q1 := lexL_len _ _ _ _ hm
    have := wrapsB_len s n
    simp only [List.length_drop] at q1
    have : 0 < m.length := by
      obtain ⟨b, e, rfl, -⟩ := lexS_wraps hm
      simp
    omega
  have hsm : Sm 1000000000 e3 := (sm_all m 1000000000 f (by omega)).row _ _ _ h3
  have hst : startS 0 0 = ⟨0, 0, 0, 0⟩ := by simp [startS]
  obtain ⟨n1, o1⟩ : c1.length = 11 ∧ c1.all AV.one = true := by
    obtain ⟨cs, e, q1, q2⟩ := hv1.cells
    cases e; exact ⟨q1, q2⟩
  have t1 : List.take 11 c1 = c1 := List.take_of_length_le (by omega)
  rw [s5_j0, evb_other (by decide)]
  refine W_call (Tokens_spec (wrapsB n s)) ?_
  rintro _ H1 ⟨tv, rfl, ht, p1⟩
  refine ⟨p1.1, ?_⟩
  rw [htk] at ht ⊢
  simp -implicitDefEqProofs (disch := first | assumption | omega | (simp only [nxB]; omega) | (simp only [oneB])) only [s5_b1, s5, xlen, AV.cells, splice, aload, astore, Nat.reduceAdd, Nat.reduceLeDiff, reduceIte, allB]
  rw [evb_other (by decide)]
  refine W_call (parse_spec hf (ht.pur (Pur.push H1 _)) 0 0 (by rw [hst]; exact h3)) ?_
  rintro _ H2 ⟨v2, rfl, hv2, p2⟩
  refine ⟨p2.1, ?_⟩
  obtain ⟨c2, rfl, n2, o2⟩ := hv2.cells
  have t2 : List.take 11 c2 = c2 := List.take_of_length_le (by omega)
  have hcnt := fun H' => ht.cnt H'
  have hp : Pur H H2 := (p1.then_push _).trans p2
  have b1 := p1.1
  have b2 := p2.1
  simp only [AHeap.next_push] at b2
  have k7 := hp.get g7
  have k12 := hp.get g12
  have l7 := AHeap.get_lt g7
  have l12 := AHeap.get_lt g12
  rcases hres with ⟨c, hr⟩ | ⟨c, hr1, hr2, hr3⟩
  · have hps : parseS e3 s3 = (.zero, 0, 4, s3.fa) := by simp [parseS, hr]
    rw [hps]
    by_cases h5 : 50 < n
    · have h5' : (50 : Int) < (n : Int) := by omega
      simp -implicitDefEqProofs (disch := first | assumption | omega | (simp only [nxB]; omega) | (simp only [oneB])) only [s5_b1, s5, xlen, AV.cells, splice, aload, astore, Nat.reduceAdd, Nat.reduceLeDiff, reduceIte, allB, AHeap.push_set_lt, n2, o2, List.append_nil, h5', decide_true, beq_self_eq_true, evb_self, xeff, Nat.le_refl]
      exact W_some.2 ⟨rfl, by simp only [AHeap.next_push]; omega⟩
    · have h5' : ¬ (50 : Int) < (n : Int) := by omega
      have h6 : (s2.fe != 0) = true := by simpa [h5] using c
      simp -implicitDefEqProofs (disch := first | assumption | omega | (simp only [nxB]; omega) | (simp only [oneB])) only [s5_b1, s5, xlen, AV.cells, splice, aload, astore, Nat.reduceAdd, Nat.reduceLeDiff, reduceIte, allB, AHeap.push_set_lt, n2, o2, List.append_nil, h5', decide_false, k12, h6, beq_self_eq_true, evb_self, xeff, Nat.le_refl, decide_true]
      exact W_some.2 ⟨rfl, by simp only [AHeap.next_push]; omega⟩
  · have hps : parseS e3 s3 = (e3, (m.length : Int) - 1, 0, 0) := by simp [parseS, hr1, hr2]
    rw [hps] at hv2 ⊢
    have h5' : ¬ (50 : Int) < (n : Int) := by omega
    have h6 : (s2.fe != 0) = false := by
      by_cases hz : s2.fe = 0
      · simp [hz]
      · exact absurd (.inr hz) c
    have w1 : IntKind.i64.wrap ((m.length : Int) - 1) = (m.length : Int) - 1 := wrap_i64 (by omega) (by omega)
    simp -implicitDefEqProofs (disch := first | assumption | omega | (simp only [nxB]; omega) | (simp only [oneB])) only [s5_b1, s5, xlen, AV.cells, splice, aload, astore, Nat.reduceAdd, Nat.reduceLeDiff, reduceIte, allB, AHeap.push_set_lt, n2, o2, List.append_nil, h5', decide_false, k12, k7, t1, t2, h6, beq_self_eq_true, hcnt, w1]
    rw [evb_other (by decide)]
    have pb := (Pur.push H2 (.row false 11 [c2])).then_push (.row false 2 [[.int .i64 0, .int .i64 0]])
    refine W_eff (spec22 (by omega) e3 hsm e1 _ _ _ _ _ (hv2.pur pb) ((hv1.pur hp).pur pb)) ?_
    rintro _ H3 ⟨rfl, p3⟩
    refine ⟨p3.1, ?_⟩
    have b3 := p3.1
    simp only [AHeap.next_push] at b3
    rw [hr3]
    simp -implicitDefEqProofs (disch := first | assumption | omega | (simp only [nxB]; omega) | (simp only [oneB])) only [s5_b1, s5, xlen, AV.cells, splice, aload, astore, Nat.reduceAdd, Nat.reduceLeDiff, reduceIte, allB, evb_self, xeff, Nat.le_refl, decide_true]
    exact W_some.2 ⟨rfl, by omega⟩
theorem parens_run {H : AHeap} (s : Bs) (n : Int) : W (s5 (evb P 17 true) 70 (.str s) (.int .i64 n) H) fun v H' => v = .bool true ∧ H.next ≤ H'.next := by
  rw [s5, evb_other (by decide)]
  refine W_call (Tokens_spec s) ?_
  rintro _ H1 ⟨tv, rfl, ht, p1⟩
  refine ⟨p1.1, ?_⟩
  have b1 := p1.1
  by_cases c1 : (500 : Int) < (s.length : Int)
  · simp -implicitDefEqProofs (disch := first | assumption | omega | (simp only [nxB]; omega) | (simp only [oneB])) only [s5, xlen, AV.cells, splice, aload, astore, Nat.reduceAdd, Nat.reduceLeDiff, reduceIte, allB, c1, decide_true]
    exact W_some.2 ⟨rfl, by simp only [AHeap.next_push]; omega⟩
  cases hq : ((tokensS s).2.1 != 0) with
  | true =>
    simp -implicitDefEqProofs (disch := first | assumption | omega | (simp only [nxB]; omega) | (simp only [oneB])) only [s5, xlen, AV.cells, splice, aload, astore, Nat.reduceAdd, Nat.reduceLeDiff, reduceIte, allB, c1, decide_false, hq]
    exact W_some.2 ⟨rfl, by simp only [AHeap.next_push]; omega⟩
  | false =>
  by_cases c2 : n < 0
  · simp -implicitDefEqProofs (disch := first | assumption | omega | (simp only [nxB]; omega) | (simp only [oneB])) only [s5, xlen, AV.cells, splice, aload, astore, Nat.reduceAdd, Nat.reduceLeDiff, reduceIte, allB, c1, decide_false, hq, c2, decide_true]
    exact W_some.2 ⟨rfl, by simp only [AHeap.next_push]; omega⟩
  by_cases c3 : 60 < n
  · simp -implicitDefEqProofs (disch := first | assumption | omega | (simp only [nxB]; omega) | (simp only [oneB])) only [s5, xlen, AV.cells, splice, aload, astore, Nat.reduceAdd, Nat.reduceLeDiff, reduceIte, allB, c1, decide_false, hq, c2, c3, decide_true]
    exact W_some.2 ⟨rfl, by simp only [AHeap.next_push]; omega⟩
  obtain ⟨l, hl, htk⟩ : ∃ l, lexS s = .inr l ∧ tokensS s = (l, 0, 0) := by
    revert hq
    unfold tokensS
    rw [if_neg (by omega)]
    cases hh : lexS s with
    | inl e => intro hq; cases hq
    | inr l => exact fun _ => ⟨l, rfl, rfl⟩
  obtain ⟨k, rfl⟩ : ∃ k : Nat, n = k := ⟨n.toNat, by omega⟩
  have hlen := lexL_len _ _ _ _ hl
  simp only [List.length_drop] at hlen
  have hl1 : 1 ≤ l.length := by
    obtain ⟨b, e, rfl, -⟩ := lexS_wraps hl
    simp
  rw [htk] at ht hq ⊢
  obtain ⟨e1, s1, f1, t1, r1, x1, q1, -⟩ := both_read (T := l) (by omega) 0 0
  obtain ⟨e2, s2, f2, t2, r2, x2, q2, -⟩ := both_read (T := l) (by omega) 0 k
  have z1 : startS 0 0 = ⟨0, 0, 0, 0⟩ := by simp [startS]
  have z2 : startS 0 k = ⟨0, k, 0, 0⟩ := by
    show (⟨0, if (k : Int) < 0 then 0 else k, 0, 0⟩ : St) = _
    rw [if_neg (by omega)]
  simp -implicitDefEqProofs (disch := first | assumption | omega | (simp only [nxB]; omega) | (simp only [oneB])) only [s5, xlen, AV.cells, splice, aload, astore, Nat.reduceAdd, Nat.reduceLeDiff, reduceIte, allB, c1, decide_false, hq, c2, c3]
  rw [evb_other (by decide)]
  refine W_call (Expr_spec (by omega) (ht.pur (Pur.push H1 _)) 0 0 x1) ?_
  rintro _ H2 ⟨v2, rfl, hv2, p2⟩
  refine ⟨p2.1, ?_⟩
  rw [q1] at hv2 ⊢
  have b2 := p2.1
  simp only [AHeap.next_push] at b2
  obtain ⟨c2', rfl, n2, o2⟩ := hv2.cells
  have hcnt := fun H' => ht.cnt H'
  have w1 : IntKind.i64.wrap ((l.length : Int) - 1) = (l.length : Int) - 1 := wrap_i64 (by omega) (by omega)
  by_cases ok1 : s1.fe = 0
  · have hps : parseS e1 s1 = (e1, s1.at_, 0, 0) := by simp [parseS, ok1]
    rw [hps] at hv2 ⊢
    cases hat : (s1.at_ != (l.length : Int) - 1) with
    | true =>
      simp -implicitDefEqProofs (disch := first | assumption | omega | (simp only [nxB]; omega) | (simp only [oneB])) only [s5, xlen, AV.cells, splice, aload, astore, Nat.reduceAdd, Nat.reduceLeDiff, reduceIte, allB, AHeap.push_set_lt, n2, o2, List.append_nil, bne_self_eq_false, hcnt, w1, hat, evb_self, xcall, Nat.le_refl, decide_true]
      exact W_some.2 ⟨rfl, by simp only [AHeap.next_push]; omega⟩
    | false =>
      simp -implicitDefEqProofs (disch := first | assumption | omega | (simp only [nxB]; omega) | (simp only [oneB])) only [s5, xlen, AV.cells, splice, aload, astore, Nat.reduceAdd, Nat.reduceLeDiff, reduceIte, allB, AHeap.push_set_lt, n2, o2, List.append_nil, bne_self_eq_false, hcnt, w1, hat]
      rw [evb_other (by decide)]
      have pb := (Pur.push H2 (.row false 11 [c2'])).then_push (.row false 2 [[.int .i64 0, .int .i64 0]])
      refine W_call (Expr_spec (by omega) ((((ht.pur (Pur.push H1 _)).pur p2).pur pb)) 0 k x2) ?_
      rintro _ H3 ⟨v3, rfl, hv3, p3⟩
      refine ⟨p3.1, ?_⟩
      have b3 := p3.1
      simp only [AHeap.next_push] at b3
      rw [q2] at hv3 ⊢
      obtain ⟨c3', rfl, n3, o3⟩ := hv3.cells
      simp -implicitDefEqProofs (disch := first | assumption | omega | (simp only [nxB]; omega) | (simp only [oneB])) only [s5, xlen, AV.cells, splice, aload, astore, Nat.reduceAdd, Nat.reduceLeDiff, reduceIte, allB, AHeap.push_set_lt, n3, o3, List.append_nil]
      have pc := (Pur.push H3 (.row false 11 [c3'])).then_push (.row false 2 [[.int .i64 (parseS e2 s2).2.2.1, .int .i64 (parseS e2 s2).2.2.2]])
      have g7 := pc.get (p3.get (l := H2.next) (b := .row false 11 [c2']) (by simp -implicitDefEqProofs (disch := first | assumption | omega | (simp only [nxB]; omega) | (simp only [oneB])) only [heapB]))
      have hfe : (parseS e2 s2).2.2.1 = s2.fe := by
        unfold parseS
        split
        · rename_i h; exact h.symm
        · rfl
      refine (parens_loop (n := k) (s := s) (by omega) (by omega) (parens_end hl (by omega) (by omega) (e1 := e1) (s1 := s1) (e2 := e2) (s2 := s2) (fa2 := (parseS e2 s2).2.2.2) (by rw [← z1]; exact r1) ok1 (by simpa using hat) (by rw [← z2]; exact r2)
        ((((hv2.pur pb).pur p3)).pur pc) g7 (by rw [← hfe]; simp -implicitDefEqProofs (disch := first | assumption | omega | (simp only [nxB]; omega) | (simp only [oneB])) only [heapB]) 70) k 0 70 (by omega) (by omega)).mono ?_
      rintro v H' ⟨rfl, q⟩
      simp only [AHeap.next_push] at q
      exact ⟨rfl, by omega⟩
  · have hps : parseS e1 s1 = (.zero, 0, s1.fe, s1.fa) := by simp [parseS, ok1]
    have hb : (s1.fe != 0) = true := by simpa using ok1
    rw [hps]
    simp -implicitDefEqProofs (disch := first | assumption | omega | (simp only [nxB]; omega) | (simp only [oneB])) only [s5, xlen, AV.cells, splice, aload, astore, Nat.reduceAdd, Nat.reduceLeDiff, reduceIte, allB, AHeap.push_set_lt, n2, o2, List.append_nil, hb, evb_self, xcall, Nat.le_refl, decide_true]
    exact W_some.2 ⟨rfl, by simp only [AHeap.next_push]; omega⟩
set_option maxRecDepth 100000 in
theorem parens_ok (s : Bs) (n : Int) : ∃ H', CallOk1 P 5 [.str s, .int .i64 n] AHeap.empty (.bool true) H' := by
  obtain ⟨_, H', h, rfl, p⟩ := parens_run (H := AHeap.empty) s n
  exact ⟨H', code_ok1 (c := bodyOf Try.f5) (M := 70) progOk (evb_ok progOk known3) Try.func5 (by kernel_rfl) (by kernel_rfl) (by kernel_rfl) (Eq.trans (s5_eq (evb P 17 true) 70 (.str s) (.int .i64 n) AHeap.empty) h)⟩
end Go.Proofs.Ytnjoomfeddamcaa

namespace Go.Proofs.Ytnjoomfeddamcaa
open Go.Ev
open Go.ChangeShapes Go.WideShapes Go.ChangeAt Go.RowKit
open Go.ChangeMaps (open_string shut_string)
namespace exprParens
set_option maxRecDepth 100000 in
theorem lifted (os : Os) (started : os.Started) (H : Type) (enc : TypeId × Value → H) :
    ReturnsInHanded {} Try.checked os 5 .any (Rows.exprParensSpec.pre6 enc Try.prog Try.f5 Rows.exprParensRow.domain false) (Rows.exprParensSpec.post enc Try.prog Try.f5 false true false false) := by
  refine returnsInHanded_of_change (C := Try.checked) own started (by kernel_rfl) Try.func5
    (ChangeSpec.witness6 (enc := enc) (C := Try.checked) false ⟨#[], #[.string ⟨#[]⟩, .int .i64 0], []⟩ 8 (by kernel_rfl) (by kernel_rfl) (by kernel_rfl) (by kernel_rfl)) ?_
  intro W base args ds gs before hval0 hW hcnd _
  have hval : ∀ (j : Nat) t v, Try.f5.params[j]? = some t → args[j]? = some v → Value.okWide Try.prog W .any base t v := hval0
  have hW' := hW
  obtain ⟨p, q, hA0, hV, rfl, hfz, hnd⟩ := hW
  have hA : DataW.TrodAll enc Try.prog W 0 (fun _ => true) true Try.f5.params.toList args.toList ds p := hA0
  have hpar : Try.f5.params = #[9, 3] := by kernel_rfl
  rw [hpar] at hA hval
  obtain ⟨v0, vs0, d0, ds0, p0, q0, hargs, rfl, rfl, h0, r0⟩ := trodAll_cons hA
  obtain ⟨v1, vs1, d1, ds1, p1, q1, rfl, rfl, rfl, h1, r1⟩ := trodAll_cons r0
  obtain ⟨rfl, rfl, rfl⟩ := trodAll_nil r1
  obtain rfl : args = #[v0, v1] := by cases args; simp_all
  obtain ⟨rfl, rfl⟩ := trodVars_none hV
  obtain ⟨a0, hv0, -, -, w0⟩ := open_string (P := P) und9 (hval 0 9 v0 rfl rfl) h0
  obtain ⟨a1, hv1, -, -, w1⟩ := open_int (P := P) und3 (hval 1 3 v1 rfl rfl) h1
  subst hv0
  subst hv1
  have hlaw : LawOk P 5 [.string a0, .int .i64 a1] W := by obtain ⟨H', h⟩ := parens_ok a0.data.toList a1; exact law_plain (.cons _ _ _ _ (.str _) (.cons _ _ _ _ (.int _ _) .nil)) h
  refine (law_walk (c := bodyOf Try.f5) progOk Try.func5 (by kernel_rfl) hlaw).mono fun e W' ⟨he, bel⟩ => ?_
  subst he
  obtain ⟨pa, hpa⟩ := trodAll_below laidOut bel (ts := [9, 3]) (fun t ht => by
    simp only [List.mem_cons, List.not_mem_nil, or_false] at ht
    rcases ht with rfl | rfl <;> exact ⟨by kernel_rfl, of_decide_eq_true (by kernel_rfl)⟩) hA
  exact ⟨_, rfl, _, _, _, [], pa, [], hW', trodAll_mk1 (shut_bool (P := P) und4 _), by rw [hpar]; exact hpa, rfl, bel.frame _, fun h => by cases h⟩
theorem over : Rows.exprParensRow.holds Try.pinned (OpenSpec.ofChange Rows.exprParensSpec) :=
  OpenClaim.holds_of_wide 5 Try.f5 rfl rfl rfl rfl rfl rfl rfl ⟨rfl, rfl, rfl, rfl, rfl⟩ rfl rfl rfl rfl rfl (by kernel_rfl) Try.func5 (by kernel_rfl)
    (of_decide_eq_true (by kernel_rfl)) (by unfold Func.isWrapper; first | (rw [if_pos (by decide +kernel)]; kernel_rfl) | (rw [if_neg (by decide +kernel)]; exact ⟨rfl, rfl⟩))
    (fun os started H enc _ => lifted os started H enc)
end exprParens
theorem exprParens_holds : Rows.ExprParensSaid := exprParens.over
end Go.Proofs.Ytnjoomfeddamcaa


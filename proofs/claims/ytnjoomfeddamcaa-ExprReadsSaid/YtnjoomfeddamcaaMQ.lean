/-
  Texts of one proof, laid together: E6 ExprReads.
-/
import Derived.Test.YtnjoomfeddamcaaMN
import Derived.Test.YtnjoomfeddamcaaMNa
import Derived.Test.YtnjoomfeddamcaaRows
import Derived.Test.YtnjoomfeddamcaaMO
set_option linter.unusedVariables false
set_option linter.unusedSimpArgs false
/-
  The law ExprReads: the call answers true, whatever the text.
-/
namespace Go.Proofs.Ytnjoomfeddamcaa
open Go.Ev

theorem lexL_len : ∀ (n : Nat) (rest : Bs) (p : Nat) (l : List Tok), lexL n rest p = .inr l → l.length ≤ rest.length + 1
  | 0, _, _, _, h => by simp [lexL] at h
  | n + 1, [], p, l, h => by simp [lexL] at h; subst h; simp
  | n + 1, c :: r, p, l, h => by
    rw [lexL] at h
    cases ho : oneN (c :: r) with
    | none => rw [ho] at h; simp at h
    | some q =>
      obtain ⟨k, t, z, b⟩ := q
      obtain ⟨b1, b2⟩ := oneN_len ho
      rw [ho] at h
      simp only at h
      cases hl : lexL n (((c :: r).drop b).drop (blankN false ((c :: r).drop b))) (p + b + blankN false ((c :: r).drop b)) with
      | inl e => rw [hl] at h; cases h
      | inr l' =>
        rw [hl] at h
        cases h
        have := lexL_len n _ _ l' hl
        simp only [List.length_drop, List.length_cons] at this b2 ⊢
        omega
theorem tokensS_len (s : Bs) : (tokensS s).1.length ≤ s.length + 1 := by
  unfold tokensS
  split
  · simp
  · cases h : lexS s with
    | inl e => simp
    | inr l =>
      have := lexL_len _ _ _ l h
      simp only [List.length_drop] at this
      simp only
      omega
theorem reads_run {H : AHeap} (s : Bs) (at_ opn : Int) : W (s3 (evb P 17 true) (.str s) (.int .i64 at_) (.int .i64 opn) H) fun v H' => v = .bool true ∧ Pur H H' := by
  rw [s3, evb_other (by decide)]
  refine W_call (Tokens_spec s) ?_
  rintro _ H1 ⟨tv, rfl, ht, p1⟩
  refine ⟨p1.1, ?_⟩
  have hlen := tokensS_len s
  generalize tokensS s = q at ht hlen
  have pa := p1.then_push (.row false 2 [[.int .i64 q.2.1, .int .i64 q.2.2]])
  by_cases h2 : (2000 : Int) < (s.length : Int)
  · simp -implicitDefEqProofs (disch := first | assumption | omega | (simp only [nxB]; omega) | (simp only [oneB])) only [s3_0, s3_1, s3_2, s3_3, s3_4, s3_5, s3_6, s3_7, s3_8, s3_9, s3_10, s3_11, s3_12, s3_13, s3_14, s3_15, s3, xalloc, xlen, AV.cells, splice, aload, astore, Nat.reduceAdd, Nat.reduceLeDiff, reduceIte, allB, h2, decide_true]
    exact W_some.2 ⟨rfl, pa⟩
  · cases hq : (q.2.1 != 0) with
    | true =>
      simp -implicitDefEqProofs (disch := first | assumption | omega | (simp only [nxB]; omega) | (simp only [oneB])) only [s3_0, s3_1, s3_2, s3_3, s3_4, s3_5, s3_6, s3_7, s3_8, s3_9, s3_10, s3_11, s3_12, s3_13, s3_14, s3_15, s3, xalloc, xlen, AV.cells, splice, aload, astore, Nat.reduceAdd, Nat.reduceLeDiff, reduceIte, allB, h2, decide_false, hq]
      exact W_some.2 ⟨rfl, pa⟩
    | false =>
      simp -implicitDefEqProofs (disch := first | assumption | omega | (simp only [nxB]; omega) | (simp only [oneB])) only [s3_0, s3_1, s3_2, s3_3, s3_4, s3_5, s3_6, s3_7, s3_8, s3_9, s3_10, s3_11, s3_12, s3_13, s3_14, s3_15, s3, xalloc, xlen, AV.cells, splice, aload, astore, Nat.reduceAdd, Nat.reduceLeDiff, reduceIte, allB, h2, decide_false, hq]
      rw [evb_other (by decide)]
      refine W_call (held_spec (T := q.1) (by omega) (ht.pur (Pur.push _ _)) at_ opn) ?_
      rintro _ H3 ⟨rfl, p3⟩
      refine ⟨p3.1, ?_⟩
      simp -implicitDefEqProofs (disch := first | assumption | omega | (simp only [nxB]; omega) | (simp only [oneB])) only [s3_0, s3_1, s3_2, s3_3, s3_4, s3_5, s3_6, s3_7, s3_8, s3_9, s3_10, s3_11, s3_12, s3_13, s3_14, s3_15, s3, xalloc, xlen, evB, evb_self, xeff, Nat.le_refl, decide_true]
      exact W_some.2 ⟨rfl, pa.trans p3⟩
set_option maxRecDepth 100000 in
theorem reads_ok (s : Bs) (at_ opn : Int) : ∃ H', CallOk1 P 3 [.str s, .int .i64 at_, .int .i64 opn] AHeap.empty (.bool true) H' := by
  obtain ⟨_, H', h, rfl, p⟩ := reads_run (H := AHeap.empty) s at_ opn
  exact ⟨H', code_ok1 (c := bodyOf Try.f3) (M := 0) progOk (evb_ok progOk known3) Try.func3 (by kernel_rfl) (by kernel_rfl) (by kernel_rfl) (Eq.trans (s3_eq (evb P 17 true) 0 (.str s) (.int .i64 at_) (.int .i64 opn) AHeap.empty) h)⟩
end Go.Proofs.Ytnjoomfeddamcaa

/-
  The law ExprReads, proved: it returns true for every input, and each argument reads afterwards as it read before. No conditions.
-/
namespace Go.Proofs.Ytnjoomfeddamcaa
open Go.Ev
open Go.ChangeShapes Go.WideShapes Go.ChangeAt Go.RowKit
open Go.ChangeMaps (open_string shut_string)

set_option maxRecDepth 100000 in
theorem exprReads_law {W : World} (x : ByteArray) (at_ opn : Int) : LawOk P 3 [.string x, .int .i64 at_, .int .i64 opn] W := by
  obtain ⟨H', h⟩ := reads_ok x.data.toList at_ opn
  refine law_plain ?_ h
  exact .cons _ _ _ _ (.str _) (.cons _ _ _ _ (.int _ _) (.cons _ _ _ _ (.int _ _) .nil))
namespace exprReads
set_option maxRecDepth 100000 in
theorem lifted (os : Os) (started : os.Started) (H : Type) (enc : TypeId × Value → H) :
    ReturnsInHanded {} Try.checked os 3 .any (Rows.exprReadsSpec.pre6 enc Try.prog Try.f3 Rows.exprReadsRow.domain false) (Rows.exprReadsSpec.post enc Try.prog Try.f3 false true false false) := by
  refine returnsInHanded_of_change (C := Try.checked) own started (by kernel_rfl) Try.func3
    (ChangeSpec.witness6 (enc := enc) (C := Try.checked) false ⟨#[], #[.string ⟨#[]⟩, .int .i64 0, .int .i64 0], []⟩ 8 (by kernel_rfl) (by kernel_rfl) (by kernel_rfl) (by kernel_rfl)) ?_
  intro W base args ds gs before hval0 hW hcnd _
  have hval : ∀ (j : Nat) t v, Try.f3.params[j]? = some t → args[j]? = some v → Value.okWide Try.prog W .any base t v := hval0
  have hW' := hW
  obtain ⟨p, q, hA0, hV, rfl, hfz, hnd⟩ := hW
  have hA : DataW.TrodAll enc Try.prog W 0 (fun _ => true) true Try.f3.params.toList args.toList ds p := hA0
  have hpar : Try.f3.params = #[9, 3, 3] := by kernel_rfl
  rw [hpar] at hA hval
  obtain ⟨v0, vs0, d0, ds0, p0, q0, hargs, rfl, rfl, h0, r0⟩ := trodAll_cons hA
  obtain ⟨v1, vs1, d1, ds1, p1, q1, rfl, rfl, rfl, h1, r1⟩ := trodAll_cons r0
  obtain ⟨v2, vs2, d2, ds2, p2, q2, rfl, rfl, rfl, h2, r2⟩ := trodAll_cons r1
  obtain ⟨rfl, rfl, rfl⟩ := trodAll_nil r2
  obtain rfl : args = #[v0, v1, v2] := by cases args; simp_all
  obtain ⟨rfl, rfl⟩ := trodVars_none hV
  obtain ⟨a0, hv0, -, -, w0⟩ := open_string (P := P) und9 (hval 0 9 v0 rfl rfl) h0
  obtain ⟨a1, hv1, -, -, w1⟩ := open_int (P := P) und3 (hval 1 3 v1 rfl rfl) h1
  obtain ⟨a2, hv2, -, -, w2⟩ := open_int (P := P) und3 (hval 2 3 v2 rfl rfl) h2
  subst hv0
  subst hv1
  subst hv2
  have hlaw : LawOk P 3 [.string a0, .int .i64 a1, .int .i64 a2] W := exprReads_law a0 a1 a2
  refine (law_walk (c := bodyOf Try.f3) progOk Try.func3 (by kernel_rfl) hlaw).mono fun e W' ⟨he, bel⟩ => ?_
  subst he
  obtain ⟨pa, hpa⟩ := trodAll_below laidOut bel (ts := [9, 3, 3]) (fun t ht => by
    simp only [List.mem_cons, List.not_mem_nil, or_false] at ht
    rcases ht with rfl | rfl | rfl <;> exact ⟨by kernel_rfl, of_decide_eq_true (by kernel_rfl)⟩) hA
  exact ⟨_, rfl, _, _, _, [], pa, [], hW', trodAll_mk1 (shut_bool (P := P) und4 _), by rw [hpar]; exact hpa, rfl, bel.frame _, fun h => by cases h⟩
theorem over : Rows.exprReadsRow.holds Try.pinned (OpenSpec.ofChange Rows.exprReadsSpec) :=
  OpenClaim.holds_of_wide 3 Try.f3 rfl rfl rfl rfl rfl rfl rfl ⟨rfl, rfl, rfl, rfl, rfl⟩ rfl rfl rfl rfl rfl (by kernel_rfl) Try.func3 (by kernel_rfl)
    (of_decide_eq_true (by kernel_rfl)) (by unfold Func.isWrapper; first | (rw [if_pos (by decide +kernel)]; kernel_rfl) | (rw [if_neg (by decide +kernel)]; exact ⟨rfl, rfl⟩))
    (fun os started H enc _ => lifted os started H enc)
end exprReads
theorem exprReads_holds : Rows.ExprReadsSaid := exprReads.over
end Go.Proofs.Ytnjoomfeddamcaa


/-
  Texts of one proof, laid together: X1 X2 X3 X4 X5 X6 X7 X8 X9 X10.
-/
import Derived.Test.YtnjoomfeddamcaaMF
import Derived.Test.YtnjoomfeddamcaaME
import Derived.Test.YtnjoomfeddamcaaMI
set_option linter.unusedVariables false
set_option linter.unusedSimpArgs false
namespace Go.Proofs.Ytnjoomfeddamcaa
open Go.Ev
def Tok.cells (t : Tok) : List AV := [.int .i64 t.kind, .str t.text, .int .i64 t.n, .int .i64 t.pos]
def Tok.v (t : Tok) : AV := .agg [.int .i64 t.kind, .str t.text, .int .i64 t.n, .int .i64 t.pos]
def TokSl (H : AHeap) (v : AV) (T : List Tok) : Prop := (v = .nilSl ∧ T = []) ∨ ∃ l i cap, v = .sl l i T.length 4 cap ∧ (T = [] ∨ ∃ ro els, H.get l = some (.row ro 4 els) ∧ ∀ (k : Nat) (t : Tok), T[k]? = some t → els[i + k]? = some t.cells)
def Rd (H : AHeap) (r : Nat) (tv lv : AV) (s : St) : Prop := H.get r = some (.row false 6 [[tv, .int .i64 s.at_, .int .i64 s.opn, lv, .int .i64 s.fe, .int .i64 s.fa]])
def lvRows : List (List (List AV)) := [[[.str [124, 124], .int .i64 24]], [[.str [38, 38], .int .i64 23]], [[.str [60], .int .i64 19], [.str [60, 61], .int .i64 20], [.str [61, 61], .int .i64 21], [.str [33, 61], .int .i64 22]], [[.str [43], .int .i64 14], [.str [45], .int .i64 15]], [[.str [42], .int .i64 16], [.str [47], .int .i64 17], [.str [37], .int .i64 18]]]
def LvOk (H : AHeap) (lv : AV) : Prop := ∃ l i cap ro els, lv = .sl l i 5 1 cap ∧ H.get l = some (.row ro 1 els) ∧ ∀ (k : Nat) (row : List (List AV)), lvRows[k]? = some row → ∃ l' i' cap' ro' els', els[i + k]? = some [.sl l' i' row.length 2 cap'] ∧ H.get l' = some (.row ro' 2 els') ∧ ∀ (j : Nat) (e : List AV), row[j]? = some e → els'[i' + j]? = some e
def LvC (H : AHeap) (lv : AV) : Prop := lv = .nilSl ∨ LvOk H lv
structure Rx (H : AHeap) (r : Nat) (T : List Tok) (tv lv : AV) (s : St) : Prop where
  rd : Rd H r tv lv s
  tk : TokSl H tv T
  lv : LvC H lv
abbrev Mt (r : Nat) : AHeap → AHeap → Prop := Mut (· = r)
theorem TokSl.keep {H H' : AHeap} {v : AV} {T : List Tok} (h : TokSl H v T) (p : ∀ l ro els, H.get l = some (.row ro 4 els) → H'.get l = some (.row ro 4 els)) : TokSl H' v T := by
  rcases h with h | ⟨l, i, cap, h1, h2 | ⟨ro, els, h2, h3⟩⟩
  · exact .inl h
  · exact .inr ⟨l, i, cap, h1, .inl h2⟩
  · exact .inr ⟨l, i, cap, h1, .inr ⟨ro, els, p _ _ _ h2, h3⟩⟩
theorem TokSl.pur {H H' : AHeap} {v : AV} {T : List Tok} (h : TokSl H v T) (p : Pur H H') : TokSl H' v T := h.keep fun _ _ _ e => p.get e
theorem TokSl.one {H : AHeap} {v : AV} {T : List Tok} (h : TokSl H v T) : v.one = true := by
  rcases h with ⟨rfl, _⟩ | ⟨l, i, cap, rfl, _⟩ <;> rfl
theorem LvOk.one {H : AHeap} {v : AV} (h : LvOk H v) : v.one = true := by
  obtain ⟨l, i, cap, ro, els, rfl, _⟩ := h; rfl
theorem LvC.one {H : AHeap} {v : AV} (h : LvC H v) : v.one = true := by
  rcases h with rfl | h
  · rfl
  · exact h.one
theorem LvOk.keep {H H' : AHeap} {v : AV} (h : LvOk H v) (p : ∀ l ro n els, n ≠ 6 → H.get l = some (.row ro n els) → H'.get l = some (.row ro n els)) : LvOk H' v := by
  obtain ⟨l, i, cap, ro, els, h1, h2, h3⟩ := h
  refine ⟨l, i, cap, ro, els, h1, p _ _ _ _ (by omega) h2, fun k row hk => ?_⟩
  obtain ⟨l', i', cap', ro', els', e1, e2, e3⟩ := h3 k row hk
  exact ⟨l', i', cap', ro', els', e1, p _ _ _ _ (by omega) e2, e3⟩
theorem LvC.keep {H H' : AHeap} {v : AV} (h : LvC H v) (p : ∀ l ro n els, n ≠ 6 → H.get l = some (.row ro n els) → H'.get l = some (.row ro n els)) : LvC H' v := by
  rcases h with rfl | h
  · exact .inl rfl
  · exact .inr (h.keep p)
theorem Rd.pur {H H' : AHeap} {r : Nat} {tv lv : AV} {s : St} (hr : Rd H r tv lv s) (p : Pur H H') : Rd H' r tv lv s := p.get hr
theorem Rd.lt {H : AHeap} {r : Nat} {tv lv : AV} {s : St} (hr : Rd H r tv lv s) : r < H.next := AHeap.get_lt hr
theorem Rx.mut {H H' : AHeap} {r : Nat} {T : List Tok} {tv lv : AV} {s s' : St} (h : Rx H r T tv lv s) (m : Mt r H H') (hd : Rd H' r tv lv s') : Rx H' r T tv lv s' := by
  have hne : ∀ l ro n els, n ≠ 6 → H.get l = some (.row ro n els) → H'.get l = some (.row ro n els) := fun l ro n els hn e => m.get e (by
    rintro rfl
    rw [h.rd] at e
    simp only [Option.some.injEq, ABlk.row.injEq] at e
    exact hn e.2.1.symm)
  exact ⟨hd, h.tk.keep fun l ro els e => hne l ro 4 els (by omega) e, h.lv.keep hne⟩
theorem Rx.pur {H H' : AHeap} {r : Nat} {T : List Tok} {tv lv : AV} {s : St} (h : Rx H r T tv lv s) (p : Pur H H') : Rx H' r T tv lv s := h.mut (p.mut _) (h.rd.pur p)
theorem tok_spec {H : AHeap} {r : Nat} {tv lv : AV} {s : St} {T : List Tok} (hr : Rd H r tv lv s) (ht : TokSl H tv T) : W (evw P 62 [.ptr r 0 0] H) fun v H' => v = (tokAt T s.at_).v ∧ Pur H H' := by
  unfold Rd at hr
  have hl := AHeap.get_lt hr
  refine W_of (fun _ => run62 0) ?_
  by_cases h0 : s.at_ < 0
  · simp -implicitDefEqProofs (disch := first | assumption | omega | (simp only [nxB]; omega) | (simp only [oneB])) only [s62, xlen, evB, Nat.reduceAdd, Nat.reduceLeDiff, reduceIte, AV.cells, splice, lsB, aload, tyB, astore, tyB, binB, heapB, fa71_0, fa71_1, hr, h0, decide_true, W_some]
    exact ⟨by simp [tokAt, h0, Tok.v, Tok.none], Pur.push _ _⟩
  · rcases ht with ⟨rfl, rfl⟩ | ⟨l, i, cap, rfl, h23⟩
    · have h1 : (0 : Int) ≤ s.at_ := by omega
      simp -implicitDefEqProofs (disch := first | assumption | omega | (simp only [nxB]; omega) | (simp only [oneB])) only [s62, xlen, evB, Nat.reduceAdd, Nat.reduceLeDiff, reduceIte, AV.cells, splice, lsB, aload, tyB, astore, tyB, binB, heapB, fa71_0, fa71_1, hr, h0, h1, decide_true, decide_false, W_some, ln22n]
      exact ⟨by simp [tokAt, h0, Tok.v, Tok.none, h1], Pur.push _ _⟩
    · by_cases h1 : (T.length : Int) ≤ s.at_
      · simp -implicitDefEqProofs (disch := first | assumption | omega | (simp only [nxB]; omega) | (simp only [oneB])) only [s62, xlen, evB, Nat.reduceAdd, Nat.reduceLeDiff, reduceIte, AV.cells, splice, lsB, aload, tyB, astore, tyB, binB, heapB, fa71_0, fa71_1, hr, h0, h1, decide_true, decide_false, W_some, ln22]
        exact ⟨by simp [tokAt, h0, Tok.v, Tok.none, h1], Pur.push _ _⟩
      · have hlt : s.at_.toNat < T.length := by omega
        obtain ⟨ro, els, h2, h3⟩ := h23.resolve_left (by rintro rfl; simp at hlt)
        have hl2 := AHeap.get_lt h2
        have h4 := h3 s.at_.toNat T[s.at_.toNat] (by simp [hlt])
        simp only [Tok.cells] at h4
        simp -implicitDefEqProofs (disch := first | assumption | omega | (simp only [nxB]; omega) | (simp only [oneB])) only [s62, xlen, evB, Nat.reduceAdd, Nat.reduceLeDiff, reduceIte, AV.cells, splice, lsB, aload, tyB, astore, tyB, binB, heapB, fa71_0, fa71_1, hr, h0, h1, decide_true, decide_false, W_some, ln22, ia22, h2, h4]
        refine ⟨?_, Pur.push _ _⟩
        simp [tokAt, h0, h1, Tok.v, hlt]
theorem failed_spec {H : AHeap} {r : Nat} {tv lv : AV} {s : St} (hr : Rd H r tv lv s) : W (evw P 36 [.ptr r 0 0] H) fun v H' => v = .bool (s.fe != 0) ∧ H' = H := by
  unfold Rd at hr
  refine W_of (fun _ => run36 0) ?_
  simp -implicitDefEqProofs (disch := first | assumption | omega | (simp only [nxB]; omega) | (simp only [oneB])) only [s36, xlen, evB, Nat.reduceAdd, Nat.reduceLeDiff, reduceIte, AV.cells, splice, lsB, aload, tyB, astore, tyB, binB, heapB, fa71_4, fa25_0, hr, W_some]
theorem is_spec {H : AHeap} {r : Nat} {tv lv : AV} {s : St} {T : List Tok} (hr : Rd H r tv lv s) (ht : TokSl H tv T) (k : Int) (x : List UInt8) : W (evw P 60 [.ptr r 0 0, .int .i64 k, .str x] H) fun v H' => v = .bool (isB T s k x) ∧ Pur H H' := by
  refine W_of (fun _ => run60 0) ?_
  rw [s60]
  refine W_call (tok_spec hr ht) ?_
  rintro _ H1 ⟨rfl, p1⟩
  refine ⟨p1.1, ?_⟩
  simp -implicitDefEqProofs (disch := first | assumption | omega | (simp only [nxB]; omega) | (simp only [oneB])) only [s60, xlen, evB, Nat.reduceAdd, Nat.reduceLeDiff, reduceIte, AV.cells, splice, lsB, aload, tyB, astore, tyB, binB, heapB, Tok.v]
  refine W_call (failed_spec (hr.pur (p1.then_push _))) ?_
  rintro _ H2 ⟨rfl, rfl⟩
  refine ⟨Nat.le_refl _, ?_⟩
  by_cases h1 : s.fe = 0
  · by_cases h2 : (tokAt T s.at_).kind = k
    · simp -implicitDefEqProofs (disch := first | assumption | omega | (simp only [nxB]; omega) | (simp only [oneB])) only [s60, xlen, evB, Nat.reduceAdd, Nat.reduceLeDiff, reduceIte, AV.cells, splice, lsB, aload, tyB, astore, tyB, binB, heapB, fa65_0, fa65_1, W_some, h1, h2, bne_self_eq_false, Bool.not_false, beq_self_eq_true]
      exact ⟨by simp [isB, h1, h2], p1.then_push _⟩
    · have h2' : ((tokAt T s.at_).kind == k) = false := by simpa using h2
      simp -implicitDefEqProofs (disch := first | assumption | omega | (simp only [nxB]; omega) | (simp only [oneB])) only [s60, xlen, evB, Nat.reduceAdd, Nat.reduceLeDiff, reduceIte, AV.cells, splice, lsB, aload, tyB, astore, tyB, binB, heapB, fa65_0, fa65_1, W_some, h1, h2', bne_self_eq_false, Bool.not_false]
      exact ⟨by simp [isB, h1, h2], p1.then_push _⟩
  · have h1' : (s.fe != 0) = true := by simpa using h1
    simp -implicitDefEqProofs (disch := first | assumption | omega | (simp only [nxB]; omega) | (simp only [oneB])) only [s60, xlen, evB, Nat.reduceAdd, Nat.reduceLeDiff, reduceIte, AV.cells, splice, lsB, aload, tyB, astore, tyB, binB, heapB, fa65_0, fa65_1, W_some, h1', Bool.not_true]
    exact ⟨by simp [isB, h1], p1.then_push _⟩
theorem fail_set {H : AHeap} {r : Nat} {tv lv : AV} {s : St} (hr : Rd H r tv lv s) (s' : St) : Mt r H (H.set r (.row false 6 [[tv, .int .i64 s'.at_, .int .i64 s'.opn, lv, .int .i64 s'.fe, .int .i64 s'.fa]])) ∧ Rd (H.set r (.row false 6 [[tv, .int .i64 s'.at_, .int .i64 s'.opn, lv, .int .i64 s'.fe, .int .i64 s'.fa]])) r tv lv s' :=
  ⟨Mut.then_set (S := (· = r)) (Mut.refl _ _) (.inl rfl) _, AHeap.get_set_same hr.lt⟩
theorem fail_spec {H : AHeap} {r : Nat} {T : List Tok} {tv lv : AV} {s : St} (hx : Rx H r T tv lv s) (e : Int) : W (evw P 61 [.ptr r 0 0, .int .i64 e] H) fun v H' => v = .bool false ∧ Mt r H H' ∧ Rx H' r T tv lv (failS T e s) := by
  refine W_of (fun _ => run61 0) ?_
  have hr := hx.rd
  have ho1 := hx.tk.one
  have ho2 := hx.lv.one
  rw [s61]
  refine W_call (failed_spec hr) ?_
  rintro _ H1 ⟨rfl, rfl⟩
  refine ⟨Nat.le_refl _, ?_⟩
  by_cases h1 : s.fe = 0
  · rw [show failS T e s = { s with fe := e, fa := (tokAt T s.at_).pos } by simp [failS, h1]]
    simp -implicitDefEqProofs (disch := first | assumption | omega | (simp only [nxB]; omega) | (simp only [oneB])) only [s61_j0, s61, xlen, evB, h1, bne_self_eq_false, Bool.not_false]
    refine W_call (tok_spec hr hx.tk) ?_
    rintro _ H2 ⟨rfl, p2⟩
    refine ⟨p2.1, ?_⟩
    have hr2 : Rd H2 r tv lv s := hr.pur p2
    have hr2' := hr2
    unfold Rd at hr2'
    simp -implicitDefEqProofs (disch := first | assumption | omega | (simp only [nxB]; omega) | (simp only [oneB])) only [s61_j0, s61, xlen, evB, Nat.reduceAdd, Nat.reduceLeDiff, reduceIte, AV.cells, splice, lsB, aload, tyB, astore, tyB, heapB, Tok.v, fl65_3, bd25_0_1, fa71_4, hr2', ho1, ho2]
    obtain ⟨m, hd⟩ := fail_set hr2 { s with fe := e, fa := (tokAt T s.at_).pos }
    exact W_some.2 ⟨rfl, (p2.mut _).trans m, hx.mut ((p2.mut _).trans m) hd⟩
  · have h1' : (s.fe != 0) = true := by simpa using h1
    rw [show failS T e s = s by simp [failS, h1]]
    simp -implicitDefEqProofs (disch := first | assumption | omega | (simp only [nxB]; omega) | (simp only [oneB])) only [s61_j0, s61, xlen, evB, h1', Bool.not_true]
    exact W_some.2 ⟨rfl, Mut.refl _ _, hx⟩
theorem takes_spec {H : AHeap} {r : Nat} {T : List Tok} {tv lv : AV} {s : St} (hx : Rx H r T tv lv s) (k : Int) (x : List UInt8) : W (evw P 80 [.ptr r 0 0, .int .i64 k, .str x] H) fun v H' => v = .bool (takesS T k x s).1 ∧ Mt r H H' ∧ Rx H' r T tv lv (takesS T k x s).2 := by
  refine W_of (fun _ => run80 0) ?_
  have hr := hx.rd
  have ho1 := hx.tk.one
  have ho2 := hx.lv.one
  rw [s80]
  refine W_call (is_spec hr hx.tk k x) ?_
  rintro _ H1 ⟨rfl, p1⟩
  refine ⟨p1.1, ?_⟩
  have hr2 : Rd H1 r tv lv s := hr.pur p1
  have hr2' := hr2
  unfold Rd at hr2'
  cases hb : isB T s k x with
  | false =>
    rw [show takesS T k x s = (false, s) by simp [takesS, hb]]
    simp -implicitDefEqProofs (disch := first | assumption | omega | (simp only [nxB]; omega) | (simp only [oneB])) only [s80, xlen, evB, Bool.not_false]
    exact W_some.2 ⟨rfl, p1.mut _, hx.pur p1⟩
  | true =>
    rw [show takesS T k x s = (true, goS s) by simp [takesS, hb]]
    simp -implicitDefEqProofs (disch := first | assumption | omega | (simp only [nxB]; omega) | (simp only [oneB])) only [s80, xlen, evB, Nat.reduceAdd, Nat.reduceLeDiff, reduceIte, AV.cells, splice, lsB, aload, tyB, astore, tyB, binB, heapB, fa71_1, hr2', ho1, ho2, Bool.not_true]
    obtain ⟨m, hd⟩ := fail_set hr2 (goS s)
    exact W_some.2 ⟨rfl, (p1.mut _).trans m, hx.mut ((p1.mut _).trans m) hd⟩
theorem wants_spec {H : AHeap} {r : Nat} {T : List Tok} {tv lv : AV} {s : St} (hx : Rx H r T tv lv s) (x : List UInt8) : W (evw P 63 [.ptr r 0 0, .str x] H) fun v H' => v = .bool (wantsS T x s).1 ∧ Mt r H H' ∧ Rx H' r T tv lv (wantsS T x s).2 := by
  refine W_of (fun _ => run63 0) ?_
  rw [s63]
  refine W_call (takes_spec hx 4 x) ?_
  rintro _ H1 ⟨rfl, m1, hx1⟩
  refine ⟨m1.1, ?_⟩
  cases hb : isB T s 4 x with
  | true =>
    rw [show wantsS T x s = (true, goS s) by simp [wantsS, hb]]
    simp only [takesS, hb, cond_true] at hx1 ⊢
    simp -implicitDefEqProofs (disch := first | assumption | omega | (simp only [nxB]; omega) | (simp only [oneB])) only [s63, xlen, evB]
    exact W_some.2 ⟨rfl, m1, hx1⟩
  | false =>
    rw [show wantsS T x s = (false, failS T 2 s) by simp [wantsS, hb]]
    simp only [takesS, hb, cond_false] at hx1 ⊢
    simp -implicitDefEqProofs (disch := first | assumption | omega | (simp only [nxB]; omega) | (simp only [oneB])) only [s63, xlen, evB]
    refine W_eff (fail_spec hx1 2) ?_
    rintro _ H2 ⟨rfl, m2, hx2⟩
    refine ⟨m2.1, ?_⟩
    simp -implicitDefEqProofs (disch := first | assumption | omega | (simp only [nxB]; omega) | (simp only [oneB])) only [s63, xlen, evB]
    exact W_some.2 ⟨rfl, m1.trans m2, hx2⟩
theorem opens_spec {H : AHeap} {r : Nat} {T : List Tok} {tv lv : AV} {s : St} (hx : Rx H r T tv lv s) (x : List UInt8) : W (evw P 101 [.ptr r 0 0, .str x] H) fun v H' => v = .bool (opensS T x s).1 ∧ Mt r H H' ∧ Rx H' r T tv lv (opensS T x s).2 := by
  refine W_of (fun _ => run101 0) ?_
  have hr := hx.rd
  have ho1 := hx.tk.one
  have ho2 := hx.lv.one
  rw [s101]
  refine W_call (is_spec hr hx.tk 4 x) ?_
  rintro _ H1 ⟨rfl, p1⟩
  refine ⟨p1.1, ?_⟩
  have hx1 := hx.pur p1
  have hr2 := hx1.rd
  have hl2 := hr2.lt
  have hr2' := hr2
  unfold Rd at hr2'
  cases hb : isB T s 4 x with
  | false =>
    rw [show opensS T x s = (false, failS T 2 s) by simp [opensS, hb]]
    simp -implicitDefEqProofs (disch := first | assumption | omega | (simp only [nxB]; omega) | (simp only [oneB])) only [s101, xlen, evB, Bool.not_false]
    refine W_call (fail_spec hx1 2) ?_
    rintro _ H2 ⟨rfl, m2, hx2⟩
    refine ⟨m2.1, ?_⟩
    try simp only [s101]
    exact W_some.2 ⟨rfl, (p1.mut _).trans m2, hx2⟩
  | true =>
    by_cases ho : 50 ≤ s.opn
    · rw [show opensS T x s = (false, failS T 4 s) by simp [opensS, hb, ho]]
      simp -implicitDefEqProofs (disch := first | assumption | omega | (simp only [nxB]; omega) | (simp only [oneB])) only [s101, xlen, evB, Nat.reduceAdd, Nat.reduceLeDiff, reduceIte, AV.cells, splice, lsB, aload, tyB, astore, tyB, binB, heapB, fa71_2, hr2', Bool.not_true, ho, decide_true]
      refine W_call (fail_spec hx1 4) ?_
      rintro _ H2 ⟨rfl, m2, hx2⟩
      refine ⟨m2.1, ?_⟩
      try simp -implicitDefEqProofs (disch := first | assumption | omega | (simp only [nxB]; omega) | (simp only [oneB])) only [s101]
      exact W_some.2 ⟨rfl, (p1.mut _).trans m2, hx2⟩
    · rw [show opensS T x s = (true, { s with at_ := w64 (s.at_ + 1), opn := w64 (s.opn + 1) }) by simp [opensS, hb, ho]]
      simp -implicitDefEqProofs (disch := first | assumption | omega | (simp only [nxB]; omega) | (simp only [oneB])) only [s101, xlen, evB, Nat.reduceAdd, Nat.reduceLeDiff, reduceIte, AV.cells, splice, lsB, aload, tyB, astore, tyB, binB, heapB, fa71_1, fa71_2, hr2', hr2.lt, ho1, ho2, Bool.not_true, ho, decide_false]
      obtain ⟨m, hd⟩ := fail_set hr2 { s with at_ := w64 (s.at_ + 1), opn := w64 (s.opn + 1) }
      exact W_some.2 ⟨rfl, (p1.mut _).trans m, hx.mut ((p1.mut _).trans m) hd⟩
theorem closes_spec {H : AHeap} {r : Nat} {T : List Tok} {tv lv : AV} {s : St} (hx : Rx H r T tv lv s) (x : List UInt8) : W (evw P 120 [.ptr r 0 0, .str x] H) fun v H' => v = .bool (closesS T x s).1 ∧ Mt r H H' ∧ Rx H' r T tv lv (closesS T x s).2 := by
  refine W_of (fun _ => run120 0) ?_
  have hr := hx.rd
  have ho1 := hx.tk.one
  have ho2 := hx.lv.one
  have hr' := hr
  unfold Rd at hr'
  simp -implicitDefEqProofs (disch := first | assumption | omega | (simp only [nxB]; omega) | (simp only [oneB])) only [s120_0, s120, xlen, evB, Nat.reduceAdd, Nat.reduceLeDiff, reduceIte, AV.cells, splice, lsB, aload, tyB, astore, tyB, binB, heapB, fa71_2, hr', ho1, ho2]
  obtain ⟨m, hd⟩ := fail_set hr (outS s)
  refine W_call (wants_spec (hx.mut m hd) x) ?_
  rintro _ H1 ⟨rfl, m1, hx1⟩
  refine ⟨m1.1, ?_⟩
  simp only [s120_0]
  exact W_some.2 ⟨rfl, m.trans m1, hx1⟩
end Go.Proofs.Ytnjoomfeddamcaa

namespace Go.Proofs.Ytnjoomfeddamcaa
open Go.Ev
def Ea.cells (a : Ea) (kv : AV) : List AV := [.int .i64 a.kind, .int .i64 a.n, .str a.name, .str a.ofn, .int .i64 a.ofd, kv, .int .i64 a.pos, .int .i64 a.tb, .int .i64 a.tr, .int .i64 a.td, .int .i64 a.ref]
mutual
def ExV (H : AHeap) (ok : Nat → Prop) : Ex → AV → Prop
  | .mk a ks, v => ∃ kv, v = .agg (a.cells kv) ∧ ((kv = .nilSl ∧ ks.length = 0) ∨ (∃ l i cap ro els, kv = .sl l i ks.length 11 cap ∧ ok l ∧ H.get l = some (.row ro 11 els) ∧ ElsV H ok ks (els.drop i)) ∨ ∃ l i cap, kv = .sl l i 0 11 cap ∧ ks.length = 0)
def ElsV (H : AHeap) (ok : Nat → Prop) : List Ex → List (List AV) → Prop
  | [], _ => True
  | e :: es, [] => False
  | e :: es, cs :: css => ExV H ok e (.agg cs) ∧ ElsV H ok es css
end
def KsV (H : AHeap) (ok : Nat → Prop) (ks : List Ex) (kv : AV) : Prop := (kv = .nilSl ∧ ks.length = 0) ∨ (∃ l i cap ro els, kv = .sl l i ks.length 11 cap ∧ ok l ∧ H.get l = some (.row ro 11 els) ∧ ElsV H ok ks (els.drop i)) ∨ ∃ l i cap, kv = .sl l i 0 11 cap ∧ ks.length = 0
theorem ExV_mk {H : AHeap} {ok : Nat → Prop} {a : Ea} {ks : List Ex} {v : AV} : ExV H ok (.mk a ks) v ↔ ∃ kv, v = .agg (a.cells kv) ∧ KsV H ok ks kv := by
  rw [ExV]; rfl
def Keep (H : AHeap) (ok : Nat → Prop) (H' : AHeap) (ok' : Nat → Prop) : Prop := ∀ l ro els, ok l → H.get l = some (.row ro 11 els) → ok' l ∧ H'.get l = some (.row ro 11 els)
mutual
theorem ExV.keep {H H' : AHeap} {ok ok' : Nat → Prop} (p : Keep H ok H' ok') : ∀ (e : Ex) (v : AV), ExV H ok e v → ExV H' ok' e v
  | .mk a ks, v, h => by
    rw [ExV] at h ⊢
    obtain ⟨kv, h1, h2⟩ := h
    refine ⟨kv, h1, ?_⟩
    rcases h2 with h2 | ⟨l, i, cap, ro, els, e1, e2, e3, e4⟩ | h2
    · exact .inl h2
    · obtain ⟨q1, q2⟩ := p l ro els e2 e3
      exact .inr (.inl ⟨l, i, cap, ro, els, e1, q1, q2, ElsV.keep p ks _ e4⟩)
    · exact .inr (.inr h2)
theorem ElsV.keep {H H' : AHeap} {ok ok' : Nat → Prop} (p : Keep H ok H' ok') : ∀ (es : List Ex) (cs : List (List AV)), ElsV H ok es cs → ElsV H' ok' es cs
  | [], _, _ => by rw [ElsV]; trivial
  | e :: es, [], h => by rw [ElsV] at h; exact h.elim
  | e :: es, cs :: css, h => by
    rw [ElsV] at h ⊢
    exact ⟨ExV.keep p e _ h.1, ElsV.keep p es css h.2⟩
end
theorem KsV.keep {H H' : AHeap} {ok ok' : Nat → Prop} (p : Keep H ok H' ok') {ks : List Ex} {v : AV} (h : KsV H ok ks v) : KsV H' ok' ks v := by
  rcases h with h2 | ⟨l, i, cap, ro, els, e1, e2, e3, e4⟩ | h2
  · exact .inl h2
  · obtain ⟨q1, q2⟩ := p l ro els e2 e3
    exact .inr (.inl ⟨l, i, cap, ro, els, e1, q1, q2, ElsV.keep p ks _ e4⟩)
  · exact .inr (.inr h2)
theorem Keep.mut {r : Nat} {H H' : AHeap} {ok ok' : Nat → Prop} (m : Mt r H H') (hr : ¬ ok r) (hl : ∀ l, ok l → ok' l) : Keep H ok H' ok' := fun l ro els h e => ⟨hl l h, m.get e (by rintro rfl; exact hr h)⟩
theorem Keep.pur {H H' : AHeap} {ok ok' : Nat → Prop} (m : Pur H H') (hl : ∀ l, ok l → ok' l) : Keep H ok H' ok' := fun l ro els h e => ⟨hl l h, m.get e⟩
def Ge (n : Nat) : Nat → Prop := fun l => n ≤ l
theorem ExV.agg {H : AHeap} {ok : Nat → Prop} {e : Ex} {v : AV} (h : ExV H ok e v) : ∃ k n nm o d kv p t1 t2 t3 rf, v = .agg [.int .i64 k, .int .i64 n, .str nm, .str o, .int .i64 d, kv, .int .i64 p, .int .i64 t1, .int .i64 t2, .int .i64 t3, .int .i64 rf] ∧ kv.one = true := by
  cases e with | mk a ks =>
  rw [ExV_mk] at h
  obtain ⟨kv, h1, h2⟩ := h
  refine ⟨_, _, _, _, _, kv, _, _, _, _, _, h1, ?_⟩
  rcases h2 with ⟨rfl, _⟩ | ⟨l, i, cap, ro, els, rfl, _⟩ | ⟨l, i, cap, rfl, _⟩ <;> rfl
theorem ExV.leaf (H : AHeap) (ok : Nat → Prop) (a : Ea) : ExV H ok (.mk a []) (.agg (a.cells .nilSl)) := by
  rw [ExV_mk]; exact ⟨_, rfl, .inl ⟨rfl, rfl⟩⟩
theorem kind_loop {r : Nat} {T : List Tok} {tv lv : AV} {s : St} {H0 : AHeap} (hx : Rx H0 r T tv lv s) {l i : Nat} {cap : Option Nat} {ro : Bool} {els : List (List AV)} (hg : H0.get l = some (.row ro 2 els)) (N : Nat) (all : List (Bs × Int)) (hA : all.length ≤ 1000)
    (hel : ∀ (j : Nat) (p : Bs × Int), all[j]? = some p → els[i + j]? = some [.str p.1, .int .i64 p.2]) :
    ∀ (rest pre : List (Bs × Int)), all = pre ++ rest → ∀ (n : Nat) (H : AHeap), rest.length < n → Pur H0 H →
      W (s84_l1 (evw P) N n (.ptr r 0 0) (.sl l i all.length 2 cap) (.int .i64 all.length) (.int .i64 pre.length) H) fun v H' => v = .int .i64 (kindL T s rest) ∧ Pur H0 H'
  | [], pre, hp, 0, H, hn, p => by omega
  | [], pre, hp, n + 1, H, hn, p => by
    have h1 : ¬ ((pre.length : Int) < (all.length : Int)) := by rw [hp]; simp
    simp -implicitDefEqProofs (disch := first | assumption | omega | (simp only [nxB]; omega) | (simp only [oneB])) only [s84_l1, s84_j0, s84_b1, s84, xlen, AV.cells, splice, aload, astore, Nat.reduceAdd, Nat.reduceLeDiff, reduceIte, allB, h1, decide_false]
    exact W_some.2 ⟨rfl, p⟩
  | q :: rest, pre, hp, 0, H, hn, p => by omega
  | (x, k) :: rest, pre, hp, n + 1, H, hn, p => by
    have h1 : (pre.length : Int) < (all.length : Int) := by rw [hp]; simp; omega
    have h0 : (0 : Int) ≤ (pre.length : Int) := by omega
    have he := hel pre.length (x, k) (by rw [hp]; simp)
    have hg' := p.get hg
    have hl := AHeap.get_lt hg'
    have e1 : ((pre.length : Int)).toNat = pre.length := by omega
    simp -implicitDefEqProofs (disch := first | assumption | omega | (simp only [nxB]; omega) | (simp only [oneB])) only [s84_l1, s84_j0, s84_b1, s84, xlen, AV.cells, splice, aload, astore, Nat.reduceAdd, Nat.reduceLeDiff, reduceIte, allB, h1, decide_true, hg', e1, he]
    refine W_call (is_spec (hx.rd.pur (p.then_push _)) (hx.tk.pur (p.then_push _)) 4 x) ?_
    rintro _ H2 ⟨rfl, p2⟩
    refine ⟨p2.1, ?_⟩
    have hb : H2.get H.next = some (.row false 2 [[.str x, .int .i64 k]]) := p2.get (AHeap.get_push_same _ _)
    have p3 := (p.then_push _).trans p2
    cases hi : isB T s 4 x with
    | true =>
      simp -implicitDefEqProofs (disch := first | assumption | omega | (simp only [nxB]; omega) | (simp only [oneB])) only [s84_j0, s84_b1, s84, xlen, AV.cells, splice, aload, astore, Nat.reduceAdd, Nat.reduceLeDiff, reduceIte, allB, hb]
      exact W_some.2 ⟨by simp [kindL, hi], p3⟩
    | false =>
      have hw : IntKind.i64.wrap ((pre.length : Int) + 1) = ((pre ++ [(x, k)]).length : Int) := by
        have hlt : pre.length < all.length := by omega
        rw [wrap_i64 (by omega) (by omega)]; simp
      simp -implicitDefEqProofs (disch := first | assumption | omega | (simp only [nxB]; omega) | (simp only [oneB])) only [s84_j0, s84_b1, s84, xlen, AV.cells, splice, aload, astore, Nat.reduceAdd, Nat.reduceLeDiff, reduceIte, allB, hw]
      refine (kind_loop hx hg N all hA hel rest (pre ++ [(x, k)]) (by simp [hp]) n H2 (by simp at hn; omega) p3).mono ?_
      rintro v H' ⟨rfl, q⟩
      exact ⟨by simp [kindL, hi], q⟩
theorem kind_spec {H : AHeap} {r : Nat} {T : List Tok} {tv lv : AV} {s : St} (hx : Rx H r T tv lv s) (hlv : lv ≠ .nilSl) (lev : Nat) (hlev : lev < 5) : W (evw P 84 [.ptr r 0 0, .int .i64 lev] H) fun v H' => v = .int .i64 (kindS T lev s) ∧ Pur H H' := by
  refine W_of (fun _ => run84 10) ?_
  have hr := hx.rd
  unfold Rd at hr
  obtain ⟨l, i, cap, ro, els, rfl, h2, h3⟩ := hx.lv.resolve_left hlv
  obtain ⟨all, hall⟩ : ∃ all, lvls[lev]? = some all := ⟨lvls[lev]'(by simpa [lvls] using hlev), by simp [lvls]⟩
  have hrow : lvRows[lev]? = some (all.map fun p => [AV.str p.1, .int .i64 p.2]) := by
    have : lvRows = lvls.map fun row => row.map fun p => [AV.str p.1, .int .i64 p.2] := rfl
    rw [this, List.getElem?_map, hall]; rfl
  obtain ⟨l', i', cap', ro', els', e1, e2, e3⟩ := h3 lev _ hrow
  have hle : all.length ≤ 1000 := by
    have : ∀ a ∈ lvls, a.length ≤ 1000 := by decide
    exact this all (List.mem_of_getElem? hall)
  have h0 : (0 : Int) ≤ (lev : Int) := by omega
  have h5 : (lev : Int) < ((5 : Nat) : Int) := by omega
  have ht : ((lev : Int)).toNat = lev := by omega
  simp only [List.length_map] at e1
  simp -implicitDefEqProofs (disch := first | assumption | omega | (simp only [nxB]; omega) | (simp only [oneB])) only [s84_j0, s84_b1, s84, xlen, AV.cells, splice, aload, astore, Nat.reduceAdd, Nat.reduceLeDiff, reduceIte, allB, hr, h2, ht, e1]
  refine (kind_loop hx e2 10 all hle (fun j p hj => e3 j _ (by rw [List.getElem?_map, hj]; rfl)) all [] rfl 10 H (by
    have : ∀ a ∈ lvls, a.length < 10 := by decide
    exact this all (List.mem_of_getElem? hall)) (.refl _)).mono ?_
  rintro v H' ⟨rfl, q⟩
  exact ⟨by simp [kindS, hall], q⟩
theorem of_wants {r : Nat} {T : List Tok} {tv lv : AV} {H0 : AHeap} {s0 : St} (hx0 : Rx H0 r T tv lv s0) {b t : Nat} (hb : H0.next ≤ b) (ht : H0.next ≤ t) {x : Bs} {k n q : Int} (d : Nat) (hd : d ≤ 1000) (N : Nat) :
    ∀ (j i : Nat), i + j = d → ∀ (m : Nat) (H : AHeap) (s : St), j < m → Mt r H0 H → Rd H r tv lv s → H.get b = some (.row false 2 [[.str [], .int .i64 0]]) → H.get t = some (.row false 4 [[.int .i64 k, .str x, .int .i64 n, .int .i64 q]]) →
      W (s35_l2 (evw P) N m (.ptr r 0 0) (.ptr b 0 0) (.int .i64 d) (.ptr t 0 0) (.int .i64 d) (.int .i64 i) H) fun v H' => v = .agg [.str x, .int .i64 d] ∧ Mt r H0 H' ∧ Rx H' r T tv lv (wantN T [93] j s)
  | 0, i, hi, 0, H, s, hm, mt, hd', hgb, hgt => by omega
  | 0, i, hi, m + 1, H, s, hm, mt, hd', hgb, hgt => by
    have h1 : ¬ ((i : Int) < (d : Int)) := by omega
    have hlb := AHeap.get_lt hgb
    simp -implicitDefEqProofs (disch := first | assumption | omega | (simp only [nxB]; omega) | (simp only [oneB])) only [s35_l2, s35_j1, s35_b2, s35_22, s35_23, s35_24, s35_25, s35_26, s35_27, s35_28, s35_29, s35_30, s35_31, s35_32, s35_33, s35_34, s35_35, s35_j0, s35_51, s35_52, s35_b3, s35_53, s35, xlen, AV.cells, splice, aload, astore, Nat.reduceAdd, Nat.reduceLeDiff, reduceIte, allB, h1, decide_false, hgb, hgt]
    exact W_some.2 ⟨rfl, mt.then_set (.inr hb) _, hx0.mut (mt.then_set (.inr hb) _) (by
      have := hx0.rd.lt
      unfold Rd at hd' ⊢; rw [AHeap.get_set_other (by omega)]; exact hd')⟩
  | j + 1, i, hi, 0, H, s, hm, mt, hd', hgb, hgt => by omega
  | j + 1, i, hi, m + 1, H, s, hm, mt, hd', hgb, hgt => by
    have h1 : ((i : Int) < (d : Int)) := by omega
    have hlr := hx0.rd.lt
    simp -implicitDefEqProofs (disch := first | assumption | omega | (simp only [nxB]; omega) | (simp only [oneB])) only [s35_l2, s35_j1, s35_b2, s35_22, s35_23, s35_24, s35_25, s35_26, s35_27, s35_28, s35_29, s35_30, s35_31, s35_32, s35_33, s35_34, s35_35, s35_j0, s35_51, s35_52, s35_b3, s35_53, s35, xlen, AV.cells, splice, aload, astore, Nat.reduceAdd, Nat.reduceLeDiff, reduceIte, allB, h1, decide_true]
    refine W_call (wants_spec (hx0.mut mt hd') [93]) ?_
    rintro _ H2 ⟨rfl, m2, hx2⟩
    refine ⟨m2.1, ?_⟩
    have hw : IntKind.i64.wrap ((i : Int) + 1) = ((i + 1 : Nat) : Int) := by rw [wrap_i64 (by omega) (by omega)]; simp
    simp -implicitDefEqProofs (disch := first | assumption | omega | (simp only [nxB]; omega) | (simp only [oneB])) only [s35_j1, s35_b2, s35_22, s35_23, s35_24, s35_25, s35_26, s35_27, s35_28, s35_29, s35_30, s35_31, s35_32, s35_33, s35_34, s35_35, s35_j0, s35_51, s35_52, s35_b3, s35_53, s35, xlen, AV.cells, splice, aload, astore, Nat.reduceAdd, Nat.reduceLeDiff, reduceIte, allB, hw]
    refine (of_wants hx0 hb ht d hd N j (i + 1) (by omega) m H2 _ (by omega) (mt.trans m2) hx2.rd (m2.get hgb (by omega)) (m2.get hgt (by omega))).mono ?_
    rintro v H' ⟨rfl, q1, q2⟩
    exact ⟨rfl, q1, q2⟩
theorem of_mid {r : Nat} {T : List Tok} {tv lv : AV} {H0 : AHeap} {s0 : St} (hx0 : Rx H0 r T tv lv s0) {b t : Nat} (hb : H0.next ≤ b) (ht : H0.next ≤ t) (hbt : b ≠ t) (d : Nat) (hd : d ≤ 1000) (N : Nat) (hN : d < N) {H : AHeap} {s : St} (mt : Mt r H0 H) (hrd : Rd H r tv lv s) (hgb : H.get b = some (.row false 2 [[.str [], .int .i64 0]]))
    (hgt : H.get t = some (.row false 4 [[.int .i64 (tokAt T s.at_).kind, .str (tokAt T s.at_).text, .int .i64 (tokAt T s.at_).n, .int .i64 (tokAt T s.at_).pos]])) {c : Bool}
    (hc : ((tokAt T s.at_).kind != 1 && (!isB T s 3 [105, 110, 116] && !isB T s 3 [98, 111, 111, 108])) = c) :
    W (s35_22 (evw P) N H (.ptr r 0 0) (.ptr b 0 0) (.int .i64 d) (.ptr t 0 0) (.bool c)) fun v H' => v = .agg [.str (ofE T d s).1.1, .int .i64 (ofE T d s).1.2] ∧ Mt r H0 H' ∧ Rx H' r T tv lv (ofE T d s).2 := by
  have hlr := hx0.rd.lt
  have hlb := AHeap.get_lt hgb
  have hlt := AHeap.get_lt hgt
  have hle := mt.1
  have hx := hx0.mut mt hrd
  cases c with
  | true =>
    rw [show ofE T d s = (([], 0), failS T 2 s) by simp only [ofE, hc, cond_true]]
    simp -implicitDefEqProofs (disch := first | assumption | omega | (simp only [nxB]; omega) | (simp only [oneB])) only [s35_j1, s35_b2, s35_22, s35_23, s35_24, s35_25, s35_26, s35_27, s35_28, s35_29, s35_30, s35_31, s35_32, s35_33, s35_34, s35_35, s35_j0, s35_51, s35_52, s35_b3, s35_53, s35, xlen, AV.cells, splice, aload, astore, Nat.reduceAdd, Nat.reduceLeDiff, reduceIte, allB]
    refine W_call (fail_spec hx 2) ?_
    rintro _ H1 ⟨rfl, m1, hx1⟩
    refine ⟨m1.1, ?_⟩
    have hgb1 := m1.get hgb (by omega)
    have hlb1 := AHeap.get_lt hgb1
    simp -implicitDefEqProofs (disch := first | assumption | omega | (simp only [nxB]; omega) | (simp only [oneB])) only [s35_j1, s35_b2, s35_22, s35_23, s35_24, s35_25, s35_26, s35_27, s35_28, s35_29, s35_30, s35_31, s35_32, s35_33, s35_34, s35_35, s35_j0, s35_51, s35_52, s35_b3, s35_53, s35, xlen, AV.cells, splice, aload, astore, Nat.reduceAdd, Nat.reduceLeDiff, reduceIte, allB, hgb1]
    have m2 := (mt.trans m1).then_set (.inr hb) (.row false 2 [[.str [], .int .i64 0]])
    refine W_some.2 ⟨rfl, m2, hx0.mut m2 ?_⟩
    have := hx1.rd
    unfold Rd at this ⊢
    rw [AHeap.get_set_other (by omega)]; exact this
  | false =>
    rw [show ofE T d s = (((tokAt T s.at_).text, (d : Int)), wantN T [93] d (goS s)) by simp [ofE, hc]]
    have ho1 := hx.tk.one
    have ho2 := hx.lv.one
    have hrd' := hrd
    unfold Rd at hrd'
    simp -implicitDefEqProofs (disch := first | assumption | omega | (simp only [nxB]; omega) | (simp only [oneB])) only [s35_j1, s35_b2, s35_22, s35_23, s35_24, s35_25, s35_26, s35_27, s35_28, s35_29, s35_30, s35_31, s35_32, s35_33, s35_34, s35_35, s35_j0, s35_51, s35_52, s35_b3, s35_53, s35, xlen, AV.cells, splice, aload, astore, Nat.reduceAdd, Nat.reduceLeDiff, reduceIte, allB, hrd', ho1, ho2]
    obtain ⟨m1, hd1⟩ := fail_set hrd (goS s)
    exact of_wants hx0 hb ht d hd N d 0 (by omega) N _ _ hN (mt.trans m1) hd1 (m1.get hgb (by omega)) (m1.get hgt (by omega))
theorem of_end {r : Nat} {T : List Tok} {tv lv : AV} {H0 : AHeap} {s0 : St} (hx0 : Rx H0 r T tv lv s0) {b : Nat} (hb : H0.next ≤ b) (d : Nat) (hd : d ≤ 1000) (N : Nat) (hN : d < N) {H : AHeap} {s : St} (mt : Mt r H0 H) (hrd : Rd H r tv lv s) (hgb : H.get b = some (.row false 2 [[.str [], .int .i64 0]])) :
    W (s35_j0 (evw P) N (.ptr r 0 0) (.ptr b 0 0) (.int .i64 d) H) fun v H' => v = .agg [.str (ofE T d s).1.1, .int .i64 (ofE T d s).1.2] ∧ Mt r H0 H' ∧ Rx H' r T tv lv (ofE T d s).2 := by
  have hlr := hx0.rd.lt
  have hlb := AHeap.get_lt hgb
  have hle := mt.1
  rw [s35_j0]
  refine W_call (tok_spec hrd (hx0.mut mt hrd).tk) ?_
  rintro _ H1 ⟨rfl, p1⟩
  refine ⟨p1.1, ?_⟩
  have h1n := p1.1
  have p2 := p1.then_push (.row false 4 [[.int .i64 (tokAt T s.at_).kind, .str (tokAt T s.at_).text, .int .i64 (tokAt T s.at_).n, .int .i64 (tokAt T s.at_).pos]])
  have hgt := AHeap.get_push_same H1 (.row false 4 [[.int .i64 (tokAt T s.at_).kind, .str (tokAt T s.at_).text, .int .i64 (tokAt T s.at_).n, .int .i64 (tokAt T s.at_).pos]])
  have hx := hx0.mut mt hrd
  by_cases hk : (tokAt T s.at_).kind = 1
  · have hk' : ((tokAt T s.at_).kind != 1) = false := by simpa using hk
    simp -implicitDefEqProofs (disch := first | assumption | omega | (simp only [nxB]; omega) | (simp only [oneB])) only [Tok.v, xlen, AV.cells, splice, aload, astore, Nat.reduceAdd, Nat.reduceLeDiff, reduceIte, allB, hk', s35_23, s35_24, s35_25, s35_26, s35_27, s35_28, s35_29, s35_30, s35_31, s35_32, s35_33, s35_34, s35_35]
    exact of_mid hx0 hb (by omega) (by omega) d hd N hN (mt.trans (p2.mut _)) (hrd.pur p2) (p2.get hgb) hgt (by simp [hk])
  · have hk' : ((tokAt T s.at_).kind != 1) = true := by simpa using hk
    simp -implicitDefEqProofs (disch := first | assumption | omega | (simp only [nxB]; omega) | (simp only [oneB])) only [Tok.v, xlen, AV.cells, splice, aload, astore, Nat.reduceAdd, Nat.reduceLeDiff, reduceIte, allB, hk', s35_23, s35_24, s35_25, s35_26, s35_27, s35_28, s35_29, s35_30, s35_31, s35_32, s35_33, s35_34, s35_35]
    refine W_eff (is_spec (hrd.pur p2) (hx.tk.pur p2) 3 _) ?_
    rintro _ H2 ⟨rfl, p3⟩
    refine ⟨p3.1, ?_⟩
    have p4 := p2.trans p3
    have hn3 := p3.1
    cases hi : isB T s 3 [105, 110, 116] with
    | true =>
      simp -implicitDefEqProofs (disch := first | assumption | omega | (simp only [nxB]; omega) | (simp only [oneB])) only [xlen, AV.cells, splice, aload, astore, Nat.reduceAdd, Nat.reduceLeDiff, reduceIte, allB, s35_23, s35_24, s35_25, s35_26, s35_27, s35_28, s35_29, s35_30, s35_31, s35_32, s35_33, s35_34, s35_35, Bool.not_true]
      exact of_mid hx0 hb (by omega) (by omega) d hd N hN (mt.trans (p4.mut _)) (hrd.pur p4) (p4.get hgb) (p3.get hgt) (by simp [hi])
    | false =>
      simp -implicitDefEqProofs (disch := first | assumption | omega | (simp only [nxB]; omega) | (simp only [oneB])) only [xlen, AV.cells, splice, aload, astore, Nat.reduceAdd, Nat.reduceLeDiff, reduceIte, allB, s35_23, s35_24, s35_25, s35_26, s35_27, s35_28, s35_29, s35_30, s35_31, s35_32, s35_33, s35_34, s35_35, Bool.not_false]
      refine W_eff (is_spec (hrd.pur p4) (hx.tk.pur p4) 3 _) ?_
      rintro _ H3 ⟨rfl, p5⟩
      refine ⟨p5.1, ?_⟩
      have p6 := p4.trans p5
      simp -implicitDefEqProofs (disch := first | assumption | omega | (simp only [nxB]; omega) | (simp only [oneB])) only [xlen, AV.cells, splice, aload, astore, Nat.reduceAdd, Nat.reduceLeDiff, reduceIte, allB, s35_23, s35_24, s35_25, s35_26, s35_27, s35_28, s35_29, s35_30, s35_31, s35_32, s35_33, s35_34, s35_35]
      exact of_mid hx0 hb (by omega) (by omega) d hd N hN (mt.trans (p6.mut _)) (hrd.pur p6) (p6.get hgb) ((p3.trans p5).get hgt) (by simp [hi, hk])
theorem of_loop {r : Nat} {T : List Tok} {tv lv : AV} {H0 : AHeap} {s0 : St} (hx0 : Rx H0 r T tv lv s0) {b : Nat} (hb : H0.next ≤ b) (N : Nat) (hN : 3 < N) :
    ∀ (n d : Nat), n + d = 3 → ∀ (m : Nat) (H : AHeap) (s : St), n < m → Mt r H0 H → Rd H r tv lv s → H.get b = some (.row false 2 [[.str [], .int .i64 0]]) →
      W (s35_l3 (evw P) N m (.ptr r 0 0) (.ptr b 0 0) (.int .i64 d) H) fun v H' => ∃ p : (Bs × Int) × St, p = (match ofL T n d s with | .inr s' => (([], 0), s') | .inl (d, s') => ofE T d s') ∧ v = .agg [.str p.1.1, .int .i64 p.1.2] ∧ Mt r H0 H' ∧ Rx H' r T tv lv p.2 := by
  intro n
  induction n with
  | zero =>
    intro d hd m H s hm mt hrd hgb
    obtain ⟨m, rfl⟩ : ∃ k, m = k + 1 := ⟨m - 1, by omega⟩
    have hd3 : d = 3 := by omega
    subst hd3
    have hx := hx0.mut mt hrd
    have hlr := hx0.rd.lt
    have hlb := AHeap.get_lt hgb
    simp only [s35_l3]
    rw [s35_b3]
    refine W_call (is_spec hrd hx.tk 4 [91]) ?_
    rintro _ H1 ⟨rfl, p1⟩
    refine ⟨p1.1, ?_⟩
    have hgb1 := p1.get hgb
    cases hi : isB T s 4 [91] with
    | true =>
      simp -implicitDefEqProofs (disch := first | assumption | omega | (simp only [nxB]; omega) | (simp only [oneB])) only [s35_j1, s35_b2, s35_22, s35_23, s35_24, s35_25, s35_26, s35_27, s35_28, s35_29, s35_30, s35_31, s35_32, s35_33, s35_34, s35_35, s35_j0, s35_51, s35_52, s35_b3, s35_53, s35, xlen, AV.cells, splice, aload, astore, Nat.reduceAdd, Nat.reduceLeDiff, reduceIte, allB, beq_self_eq_true, Int.cast_ofNat_Int]
      refine W_call (fail_spec (hx.pur p1) 4) ?_
      rintro _ H2 ⟨rfl, m2, hx2⟩
      refine ⟨m2.1, ?_⟩
      have hgb2 := m2.get hgb1 (by omega)
      have hlb2 := AHeap.get_lt hgb2
      simp -implicitDefEqProofs (disch := first | assumption | omega | (simp only [nxB]; omega) | (simp only [oneB])) only [s35_j1, s35_b2, s35_22, s35_23, s35_24, s35_25, s35_26, s35_27, s35_28, s35_29, s35_30, s35_31, s35_32, s35_33, s35_34, s35_35, s35_j0, s35_51, s35_52, s35_b3, s35_53, s35, xlen, AV.cells, splice, aload, astore, Nat.reduceAdd, Nat.reduceLeDiff, reduceIte, allB, hgb2]
      have m3 := ((mt.trans (p1.mut _)).trans m2).then_set (.inr hb) (.row false 2 [[.str [], .int .i64 0]])
      refine W_some.2 ⟨(([], 0), failS T 4 s), by simp [ofL, hi], rfl, m3, hx0.mut m3 ?_⟩
      have := hx2.rd
      unfold Rd at this ⊢
      rw [AHeap.get_set_other (by omega)]; exact this
    | false =>
      simp -implicitDefEqProofs (disch := first | assumption | omega | (simp only [nxB]; omega) | (simp only [oneB])) only [s35_52, s35_51, xlen, AV.cells, splice, aload, astore, Nat.reduceAdd, Nat.reduceLeDiff, reduceIte, allB]
      refine (of_end hx0 hb 3 (by omega) N hN (mt.trans (p1.mut _)) (hrd.pur p1) hgb1).mono ?_
      rintro v H' ⟨rfl, q1, q2⟩
      exact ⟨ofE T 3 s, by simp [ofL, hi], rfl, q1, q2⟩
  | succ n ih =>
    intro d hd m H s hm mt hrd hgb
    obtain ⟨m, rfl⟩ : ∃ k, m = k + 1 := ⟨m - 1, by omega⟩
    have hx := hx0.mut mt hrd
    have hlr := hx0.rd.lt
    have hlb := AHeap.get_lt hgb
    have ho1 := hx.tk.one
    have ho2 := hx.lv.one
    simp only [s35_l3]
    rw [s35_b3]
    refine W_call (is_spec hrd hx.tk 4 [91]) ?_
    rintro _ H1 ⟨rfl, p1⟩
    refine ⟨p1.1, ?_⟩
    have hgb1 := p1.get hgb
    have hrd1 := hrd.pur p1
    have hrd1' := hrd1
    unfold Rd at hrd1'
    cases hi : isB T s 4 [91] with
    | true =>
      have h3 : ((d : Int) == 3) = false := by simp; omega
      have hw : IntKind.i64.wrap ((d : Int) + 1) = ((d + 1 : Nat) : Int) := by rw [wrap_i64 (by omega) (by omega)]; simp
      obtain ⟨m2, hd2⟩ := fail_set hrd1 (goS s)
      simp -implicitDefEqProofs (disch := first | assumption | omega | (simp only [nxB]; omega) | (simp only [oneB])) only [s35_j1, s35_b2, s35_22, s35_23, s35_24, s35_25, s35_26, s35_27, s35_28, s35_29, s35_30, s35_31, s35_32, s35_33, s35_34, s35_35, s35_j0, s35_51, s35_52, s35_b3, s35_53, s35, xlen, AV.cells, splice, aload, astore, Nat.reduceAdd, Nat.reduceLeDiff, reduceIte, allB, h3, hw, hrd1', ho1, ho2]
      refine (ih (d + 1) (by omega) m _ _ (by omega) ((mt.trans (p1.mut _)).trans m2) hd2 (m2.get hgb1 (by omega))).mono ?_
      rintro v H' ⟨p, hp, rfl, q1, q2⟩
      exact ⟨p, by rw [hp]; simp [ofL, hi], rfl, q1, q2⟩
    | false =>
      simp -implicitDefEqProofs (disch := first | assumption | omega | (simp only [nxB]; omega) | (simp only [oneB])) only [s35_52, s35_51, xlen, AV.cells, splice, aload, astore, Nat.reduceAdd, Nat.reduceLeDiff, reduceIte, allB]
      refine (of_end hx0 hb d (by omega) N (by omega) (mt.trans (p1.mut _)) (hrd.pur p1) hgb1).mono ?_
      rintro v H' ⟨rfl, q1, q2⟩
      exact ⟨ofE T d s, by simp [ofL, hi], rfl, q1, q2⟩
theorem of_spec {H : AHeap} {r : Nat} {T : List Tok} {tv lv : AV} {s : St} (hx : Rx H r T tv lv s) : W (evw P 35 [.ptr r 0 0] H) fun v H' => v = .agg [.str (ofS T s).1.1, .int .i64 (ofS T s).1.2] ∧ Mt r H H' ∧ Rx H' r T tv lv (ofS T s).2 := by
  refine W_of (fun _ => run35 10) ?_
  simp only [s35, xalloc, s35_53]
  have p := Pur.push H (.row false 2 [[.str [], .int .i64 0]])
  refine (of_loop hx (Nat.le_refl _) 10 (by omega) 3 0 rfl 10 _ s (by omega) (p.mut _) (hx.rd.pur p) (AHeap.get_push_same _ _)).mono ?_
  rintro v H' ⟨q, hq, rfl, q1, q2⟩
  have : q = ofS T s := by rw [hq]; rfl
  subst this
  exact ⟨rfl, q1, q2⟩
end Go.Proofs.Ytnjoomfeddamcaa

namespace Go.Proofs.Ytnjoomfeddamcaa
open Go.Ev
theorem sl35_1 (l : Nat) (cs : List AV) (h : cs.length = 11) (ho : cs.all AV.one = true) : sliceOf P l 35 1 [(0, .agg cs)] = some (.sl l 0 1 11 (some 1), .row false 11 [cs]) := by
  have : sliceOf P l 35 1 [(0, .agg cs)] = (asetEls 11 (List.replicate 1 [.int .i64 0, .int .i64 0, .str [], .str [], .int .i64 0, .nilSl, .int .i64 0, .int .i64 0, .int .i64 0, .int .i64 0, .int .i64 0]) [(0, .agg cs)]).bind fun els => some (.sl l 0 1 11 (some 1), .row false 11 els) := by kernel_rfl
  rw [this]
  simp [asetEls, AV.cells, h, ho]
theorem sl35_2 (l : Nat) (cs ds : List AV) (h : cs.length = 11) (ho : cs.all AV.one = true) (h' : ds.length = 11) (ho' : ds.all AV.one = true) : sliceOf P l 35 2 [(0, .agg cs), (1, .agg ds)] = some (.sl l 0 2 11 (some 2), .row false 11 [cs, ds]) := by
  have : sliceOf P l 35 2 [(0, .agg cs), (1, .agg ds)] = (asetEls 11 (List.replicate 2 [.int .i64 0, .int .i64 0, .str [], .str [], .int .i64 0, .nilSl, .int .i64 0, .int .i64 0, .int .i64 0, .int .i64 0, .int .i64 0]) [(0, .agg cs), (1, .agg ds)]).bind fun els => some (.sl l 0 2 11 (some 2), .row false 11 els) := by kernel_rfl
  rw [this]
  have hr : List.replicate 2 [AV.int .i64 0, .int .i64 0, .str [], .str [], .int .i64 0, .nilSl, .int .i64 0, .int .i64 0, .int .i64 0, .int .i64 0, .int .i64 0] = [[AV.int .i64 0, .int .i64 0, .str [], .str [], .int .i64 0, .nilSl, .int .i64 0, .int .i64 0, .int .i64 0, .int .i64 0, .int .i64 0], [AV.int .i64 0, .int .i64 0, .str [], .str [], .int .i64 0, .nilSl, .int .i64 0, .int .i64 0, .int .i64 0, .int .i64 0, .int .i64 0]] := rfl
  rw [hr]
  simp [asetEls, AV.cells, h, ho, h', ho']
theorem Keep.push {H : AHeap} {ok ok' : Nat → Prop} (b : ABlk) (hl : ∀ l, ok l → ok' l) : Keep H ok (H.push b) ok' := Keep.pur (Pur.push H b) hl
theorem Keep.set {H : AHeap} {ok ok' : Nat → Prop} {l : Nat} (b : ABlk) (h : ¬ ok l) (hl : ∀ l, ok l → ok' l) : Keep H ok (H.set l b) ok' := fun j ro els hj e => ⟨hl j hj, by rw [AHeap.get_set_other (by rintro rfl; exact h hj)]; exact e⟩
theorem Keep.le' {H : AHeap} {ok ok' : Nat → Prop} (h : ∀ l, ok l → ok' l) : Keep H ok H ok' := fun l ro els hl e => ⟨h l hl, e⟩
theorem ExV.cells {H : AHeap} {ok : Nat → Prop} {e : Ex} {v : AV} (h : ExV H ok e v) : ∃ cs, v = .agg cs ∧ cs.length = 11 ∧ cs.all AV.one = true := by
  obtain ⟨k, n, nm, o, d, kv, p, t1, t2, t3, rf, rfl, h1⟩ := h.agg
  exact ⟨_, rfl, rfl, by simp only [List.all_cons, List.all_nil, one_int, one_str, h1, Bool.and_self]⟩
theorem ExV.same {H : AHeap} {ok : Nat → Prop} {e : Ex} {v : AV} (h : ExV H ok e v) : rdIs (some v) v = true := by
  cases e with | mk a ks =>
  rw [ExV_mk] at h
  obtain ⟨kv, rfl, h2⟩ := h
  have : AV.beq kv kv = true := by rcases h2 with ⟨rfl, _⟩ | ⟨l, i, cap, ro, els, rfl, _⟩ | ⟨l, i, cap, rfl, _⟩ <;> simp [AV.beq]
  simp [rdIs, AV.beq, AVs.beq, Ea.cells, this]
def PostL (ok : Nat → Prop) (H : AHeap) (r : Nat) (T : List Tok) (tv lv : AV) (e : Ex) (s' : St) (v : AV) (H' : AHeap) : Prop := Mt r H H' ∧ Rx H' r T tv lv s' ∧ ExV H' ok e v
abbrev PostE (H : AHeap) := PostL (Ge H.next) H
theorem PostE.box {H Hc : AHeap} {r : Nat} {T : List Tok} {tv lv : AV} {s s' : St} {a : Ea} {ks : List Ex} {kv : AV} {b : Nat} {lo : Nat} (hx : Rx H r T tv lv s) (m : Mt r H Hc) (hd : Rd Hc r tv lv s') (hb : H.next ≤ b) (hlo : b < lo) (hk : KsV Hc (Ge lo) ks kv) (blk : ABlk) :
    PostE H r T tv lv (.mk a ks) s' (.agg (a.cells kv)) (Hc.set b blk) := by
  have hl := hx.rd.lt
  have m' := m.then_set (.inr hb) blk
  refine ⟨m', hx.mut m' ?_, ?_⟩
  · unfold Rd at hd ⊢
    rw [AHeap.get_set_other (by omega)]; exact hd
  · rw [ExV_mk]
    exact ⟨kv, rfl, hk.keep (Keep.set _ (by unfold Ge; omega) fun l hl => by unfold Ge at *; omega)⟩
theorem KsV.nil (H : AHeap) (ok : Nat → Prop) : KsV H ok [] .nilSl := .inl ⟨rfl, rfl⟩
theorem truth_spec {H : AHeap} {r : Nat} {T : List Tok} {tv lv : AV} {s : St} (hx : Rx H r T tv lv s) : W (evw P 113 [.ptr r 0 0] H) (PostE H r T tv lv (truthS T s).1 (truthS T s).2) := by
  refine W_of (fun _ => run113 0) ?_
  have hl := hx.rd.lt
  have ho1 := hx.tk.one
  have ho2 := hx.lv.one
  simp -implicitDefEqProofs (disch := first | assumption | omega | (simp only [nxB]; omega) | (simp only [oneB])) only [s113_j0, s113, xlen, AV.cells, splice, aload, astore, Nat.reduceAdd, Nat.reduceLeDiff, reduceIte, allB]
  refine W_call (tok_spec (hx.rd.pur (Pur.push _ _)) (hx.tk.pur (Pur.push _ _))) ?_
  rintro _ H2 ⟨rfl, p2⟩
  refine ⟨p2.1, ?_⟩
  have hn2 := p2.1
  simp only [AHeap.next_push] at hn2
  have mb := ((Pur.push H _).trans p2).mut (· = r)
  have hr2 := hx.rd.pur ((Pur.push H _).trans p2)
  unfold Rd at hr2
  have hb2 := p2.get (AHeap.get_push_same H _)
  cases ht : (tokAt T s.at_).text == [116, 114, 117, 101] with
  | true =>
    simp -implicitDefEqProofs (disch := first | assumption | omega | (simp only [nxB]; omega) | (simp only [oneB])) only [s113_j0, s113, xlen, AV.cells, splice, aload, astore, Nat.reduceAdd, Nat.reduceLeDiff, reduceIte, allB, Tok.v, hr2, hb2, ho1, ho2, ht]
    simp only [truthS, ht, cond_true]
    refine W_some.2 ?_
    refine PostE.box (a := { kind := 2, n := 1, pos := (tokAt T s.at_).pos }) (kv := .nilSl) (s' := goS s) (lo := H.next + 1) hx ?_ ?_ ?_ ?_ (KsV.nil _ _) _
    · (repeat (first | exact mb | refine Mut.then_push ?_ _ | refine Mut.then_set (S := (· = r)) ?_ (.inl rfl) _ | refine Mut.then_set ?_ (.inr (by (first | omega | (simp only [AHeap.next_push, AHeap.next_set]; omega)))) _))
    · (unfold Rd; simp -implicitDefEqProofs (disch := first | assumption | omega | (simp only [nxB]; omega) | (simp only [oneB])) only [heapB, hr2, goS, outS])
    · exact Nat.le_refl _
    · exact Nat.lt_succ_self _
  | false =>
    simp -implicitDefEqProofs (disch := first | assumption | omega | (simp only [nxB]; omega) | (simp only [oneB])) only [s113_j0, s113, xlen, AV.cells, splice, aload, astore, Nat.reduceAdd, Nat.reduceLeDiff, reduceIte, allB, Tok.v, hr2, hb2, ho1, ho2, ht]
    simp only [truthS, ht, cond_false]
    refine W_some.2 ?_
    refine PostE.box (a := { kind := 2, n := 0, pos := (tokAt T s.at_).pos }) (kv := .nilSl) (s' := goS s) (lo := H.next + 1) hx ?_ ?_ ?_ ?_ (KsV.nil _ _) _
    · (repeat (first | exact mb | refine Mut.then_push ?_ _ | refine Mut.then_set (S := (· = r)) ?_ (.inl rfl) _ | refine Mut.then_set ?_ (.inr (by (first | omega | (simp only [AHeap.next_push, AHeap.next_set]; omega)))) _))
    · (unfold Rd; simp -implicitDefEqProofs (disch := first | assumption | omega | (simp only [nxB]; omega) | (simp only [oneB])) only [heapB, hr2, goS, outS])
    · exact Nat.le_refl _
    · exact Nat.lt_succ_self _
theorem null_spec {H : AHeap} {r : Nat} {T : List Tok} {tv lv : AV} {s : St} (hx : Rx H r T tv lv s) : W (evw P 114 [.ptr r 0 0] H) (PostE H r T tv lv (nullS T s).1 (nullS T s).2) := by
  refine W_of (fun _ => run114 0) ?_
  have hl := hx.rd.lt
  have ho1 := hx.tk.one
  have ho2 := hx.lv.one
  simp -implicitDefEqProofs (disch := first | assumption | omega | (simp only [nxB]; omega) | (simp only [oneB])) only [s114, xlen, AV.cells, splice, aload, astore, Nat.reduceAdd, Nat.reduceLeDiff, reduceIte, allB]
  refine W_call (tok_spec (hx.rd.pur (Pur.push _ _)) (hx.tk.pur (Pur.push _ _))) ?_
  rintro _ H2 ⟨rfl, p2⟩
  refine ⟨p2.1, ?_⟩
  have hn2 := p2.1
  simp only [AHeap.next_push] at hn2
  have mb := ((Pur.push H _).trans p2).mut (· = r)
  have hrd2 := hx.rd.pur ((Pur.push H _).trans p2)
  have hr2 := hrd2
  unfold Rd at hr2
  have hb2 := p2.get (AHeap.get_push_same H _)
  obtain ⟨m3, hd3⟩ := fail_set hrd2 (goS s)
  simp -implicitDefEqProofs (disch := first | assumption | omega | (simp only [nxB]; omega) | (simp only [oneB])) only [s114, xlen, AV.cells, splice, aload, astore, Nat.reduceAdd, Nat.reduceLeDiff, reduceIte, allB, Tok.v, hr2, ho1, ho2]
  refine W_call (of_spec (hx.mut (mb.trans m3) hd3)) ?_
  rintro _ H4 ⟨rfl, m4, hx4⟩
  refine ⟨m4.1, ?_⟩
  have hb4 := m4.get (m3.get hb2 (by omega)) (by omega)
  have hl4 := AHeap.get_lt hb4
  replace mb := (mb.trans m3).trans m4
  simp -implicitDefEqProofs (disch := first | assumption | omega | (simp only [nxB]; omega) | (simp only [oneB])) only [s114, xlen, AV.cells, splice, aload, astore, Nat.reduceAdd, Nat.reduceLeDiff, reduceIte, allB, hb4]
  refine W_some.2 ?_
  exact PostE.box (a := { kind := 3, ofn := (ofS T (goS s)).1.1, ofd := (ofS T (goS s)).1.2, pos := (tokAt T s.at_).pos }) (kv := .nilSl) (lo := H.next + 1) hx mb hx4.rd (Nat.le_refl _) (Nat.lt_succ_self _) (KsV.nil _ _) _
theorem read_spec {H : AHeap} {r : Nat} {T : List Tok} {tv lv : AV} {s : St} (hx : Rx H r T tv lv s) : W (evw P 117 [.ptr r 0 0] H) (PostE H r T tv lv (readS T s).1 (readS T s).2) := by
  refine W_of (fun _ => run117 0) ?_
  have hl := hx.rd.lt
  have ho1 := hx.tk.one
  have ho2 := hx.lv.one
  simp -implicitDefEqProofs (disch := first | assumption | omega | (simp only [nxB]; omega) | (simp only [oneB])) only [s117_j0, s117, xlen, AV.cells, splice, aload, astore, Nat.reduceAdd, Nat.reduceLeDiff, reduceIte, allB]
  refine W_call (tok_spec (hx.rd.pur (Pur.push _ _)) (hx.tk.pur (Pur.push _ _))) ?_
  rintro _ H2 ⟨rfl, p2⟩
  refine ⟨p2.1, ?_⟩
  have hn2 := p2.1
  simp only [AHeap.next_push] at hn2
  have mb := ((Pur.push H _).trans p2).mut (· = r)
  have hrd2 := hx.rd.pur ((Pur.push H _).trans p2)
  have hr2 := hrd2
  unfold Rd at hr2
  have hb2 := p2.get (AHeap.get_push_same H _)
  obtain ⟨m3, hd3⟩ := fail_set hrd2 (goS s)
  simp -implicitDefEqProofs (disch := first | assumption | omega | (simp only [nxB]; omega) | (simp only [oneB])) only [s117_j0, s117, xlen, AV.cells, splice, aload, astore, Nat.reduceAdd, Nat.reduceLeDiff, reduceIte, allB, Tok.v, hr2, ho1, ho2]
  refine W_call (opens_spec (hx.mut (mb.trans m3) hd3) [40]) ?_
  rintro _ H4 ⟨rfl, m4, hx4⟩
  refine ⟨m4.1, ?_⟩
  have hb4 := m4.get (m3.get hb2 (by omega)) (by omega)
  have hl4 := AHeap.get_lt hb4
  replace mb := (mb.trans m3).trans m4
  cases ho : (opensS T [40] (goS s)).1 with
  | true =>
    rw [show readS T s = (.mk { kind := 11, pos := (tokAt T s.at_).pos } [], (closesS T [41] (opensS T [40] (goS s)).2).2) by simp only [readS, ho, cond_true]]
    simp -implicitDefEqProofs (disch := first | assumption | omega | (simp only [nxB]; omega) | (simp only [oneB])) only [s117_j0, s117, xlen, AV.cells, splice, aload, astore, Nat.reduceAdd, Nat.reduceLeDiff, reduceIte, allB]
    refine W_call (closes_spec hx4 [41]) ?_
    rintro _ H5 ⟨rfl, m5, hx5⟩
    refine ⟨m5.1, ?_⟩
    have hb5 := m5.get hb4 (by omega)
    have hl5 := AHeap.get_lt hb5
    simp -implicitDefEqProofs (disch := first | assumption | omega | (simp only [nxB]; omega) | (simp only [oneB])) only [s117_j0, s117, xlen, AV.cells, splice, aload, astore, Nat.reduceAdd, Nat.reduceLeDiff, reduceIte, allB, hb5]
    refine W_some.2 ?_
    exact PostE.box (a := { kind := 11, pos := (tokAt T s.at_).pos }) (kv := .nilSl) (lo := H.next + 1) hx (mb.trans m5) hx5.rd (Nat.le_refl _) (Nat.lt_succ_self _) (KsV.nil _ _) _
  | false =>
    rw [show readS T s = (.mk { kind := 11, pos := (tokAt T s.at_).pos } [], (opensS T [40] (goS s)).2) by simp only [readS, ho, cond_false]]
    simp -implicitDefEqProofs (disch := first | assumption | omega | (simp only [nxB]; omega) | (simp only [oneB])) only [s117_j0, s117, xlen, AV.cells, splice, aload, astore, Nat.reduceAdd, Nat.reduceLeDiff, reduceIte, allB, hb4]
    refine W_some.2 ?_
    exact PostE.box (a := { kind := 11, pos := (tokAt T s.at_).pos }) (kv := .nilSl) (lo := H.next + 1) hx mb hx4.rd (Nat.le_refl _) (Nat.lt_succ_self _) (KsV.nil _ _) _
end Go.Proofs.Ytnjoomfeddamcaa

namespace Go.Proofs.Ytnjoomfeddamcaa
open Go.Ev
theorem PostL.fin {ok : Nat → Prop} {H Hf : AHeap} {r : Nat} {T : List Tok} {tv lv : AV} {s s' : St} {a : Ea} {ks : List Ex} {kv : AV} (hx : Rx H r T tv lv s) (m : Mt r H Hf) (hd : Rd Hf r tv lv s') (hk : KsV Hf ok ks kv) : PostL ok H r T tv lv (.mk a ks) s' (.agg (a.cells kv)) Hf :=
  ⟨m, hx.mut m hd, ExV_mk.2 ⟨kv, rfl, hk⟩⟩
theorem KsV.one_at {H : AHeap} {ok : Nat → Prop} {L : Nat} {e : Ex} {cs : List AV} {cap : Option Nat} {ro : Bool} (hg : H.get L = some (.row ro 11 [cs])) (hl : ok L) (h : ExV H ok e (.agg cs)) : KsV H ok [e] (.sl L 0 1 11 cap) := by
  refine .inr (.inl ⟨L, 0, cap, ro, [cs], rfl, hl, hg, ?_⟩)
  simp only [List.drop_zero]
  rw [ElsV, ElsV]
  exact ⟨h, trivial⟩
theorem KsV.two_at {H : AHeap} {ok : Nat → Prop} {L : Nat} {e f : Ex} {cs ds : List AV} {cap : Option Nat} {ro : Bool} (hg : H.get L = some (.row ro 11 [cs, ds])) (hl : ok L) (h : ExV H ok e (.agg cs)) (h' : ExV H ok f (.agg ds)) : KsV H ok [e, f] (.sl L 0 2 11 cap) := by
  refine .inr (.inl ⟨L, 0, cap, ro, [cs, ds], rfl, hl, hg, ?_⟩)
  simp only [List.drop_zero]
  rw [ElsV, ElsV, ElsV]
  exact ⟨h, h', trivial⟩
theorem ExV.mut {H H' : AHeap} {ok ok' : Nat → Prop} {r : Nat} {e : Ex} {v : AV} (h : ExV H ok e v) (m : Mt r H H') (hr : ¬ ok r) (hl : ∀ l, ok l → ok' l) : ExV H' ok' e v := ExV.keep (Keep.mut m hr hl) e v h
theorem ExV.new {H H' : AHeap} {ok : Nat → Prop} {n : Nat} {e : Ex} {v : AV} (h : ExV H (Ge n) e v) (m : Mut (· < n) H H') (hl : ∀ l, n ≤ l → ok l) : ExV H' ok e v :=
  ExV.keep (fun l ro els hl' g => ⟨hl l hl', m.get g (Nat.not_lt.2 hl')⟩) e v h
theorem field_end {ok : Nat → Prop} {H0 H : AHeap} {r : Nat} {T : List Tok} {tv lv : AV} {s0 s : St} {e : Ex} {cs : List AV} (hx0 : Rx H0 r T tv lv s0) (he : ExV H0 ok e (.agg cs)) (hlen : cs.length = 11) (hone : cs.all AV.one = true) (hlo : ¬ ok r) (hlo' : ∀ l, H0.next ≤ l → ok l) {b3 b4 b6 : Nat} {k n q pos : Int} {x : Bs} (mb : Mt r H0 H) (hrd : Rd H r tv lv s)
    (h3 : H.get b3 = some (.row false 11 [cs])) {zs : List AV} (h4 : H.get b4 = some (.row false 11 [zs])) (hz : zs.length = 11) (h6 : H.get b6 = some (.row false 4 [[.int .i64 k, .str x, .int .i64 n, .int .i64 q]])) (hb3 : H0.next ≤ b3) (hb4 : H0.next ≤ b4) (hb6 : H0.next ≤ b6) (h34 : b3 ≠ b4) :
    W (s110_j0 (evw P) (.ptr r 0 0) (.ptr b3 0 0) (.ptr b4 0 0) (.int .i64 pos) (.ptr b6 0 0) H) (PostL ok H0 r T tv lv (.mk { kind := 5, name := x, pos := pos } [e]) (goS s)) := by
  have hl := hx0.rd.lt
  have ho1 := hx0.tk.one
  have ho2 := hx0.lv.one
  have hr2 := hrd
  unfold Rd at hr2
  have hlr := hrd.lt
  have l3 := AHeap.get_lt h3
  have l4 := AHeap.get_lt h4
  have l6 := AHeap.get_lt h6
  have hle := mb.1
  have ht : List.take 11 cs = cs := List.take_of_length_le (by omega)
  have hs : ∀ l, sliceOf P l 35 1 [(0, .agg cs)] = some (.sl l 0 1 11 (some 1), .row false 11 [cs]) := fun l => sl35_1 l cs hlen hone
  have hd : List.drop 11 zs = [] := List.drop_of_length_le (by omega)
  simp -implicitDefEqProofs (disch := first | assumption | omega | (simp only [nxB]; omega) | (simp only [oneB])) only [s110_j0, s110, xlen, AV.cells, splice, aload, astore, Nat.reduceAdd, Nat.reduceLeDiff, reduceIte, allB, hr2, ho1, ho2, h3, h4, h6, ht, hs, hd]
  refine W_some.2 ?_
  refine PostL.fin (a := { kind := 5, name := x, pos := pos }) (kv := .sl H.next 0 1 11 (some 1)) hx0 ?_ ?_ (KsV.one_at (ro := false) ?_ (hlo' _ (by omega)) (he.mut (r := r) ?_ hlo fun _ h => h))
  · (repeat (first | exact mb | refine Mut.then_push ?_ _ | refine Mut.then_set (S := (· = r)) ?_ (.inl rfl) _ | refine Mut.then_set ?_ (.inr (by (first | omega | (simp only [AHeap.next_push, AHeap.next_set]; omega)))) _))
  · (unfold Rd; simp -implicitDefEqProofs (disch := first | assumption | omega | (simp only [nxB]; omega) | (simp only [oneB])) only [heapB, hr2, goS, outS])
  · simp -implicitDefEqProofs (disch := first | assumption | omega | (simp only [nxB]; omega) | (simp only [oneB])) only [heapB]
  · (repeat (first | exact mb | refine Mut.then_push ?_ _ | refine Mut.then_set (S := (· = r)) ?_ (.inl rfl) _ | refine Mut.then_set ?_ (.inr (by (first | omega | (simp only [AHeap.next_push, AHeap.next_set]; omega)))) _))
theorem field_spec {ok : Nat → Prop} {H : AHeap} {r : Nat} {T : List Tok} {tv lv : AV} {s : St} {e : Ex} {v : AV} (hx : Rx H r T tv lv s) (he : ExV H ok e v) (hlo : ¬ ok r) (hlo' : ∀ l, H.next ≤ l → ok l) : W (evw P 110 [.ptr r 0 0, v] H) (PostL ok H r T tv lv (fieldS T e s).1 (fieldS T e s).2) := by
  refine W_of (fun _ => run110 0) ?_
  obtain ⟨cs, rfl, hlen, hone⟩ := he.cells
  have hl := hx.rd.lt
  have ho1 := hx.tk.one
  have ho2 := hx.lv.one
  have hbx : ∀ l, boxOf l (.agg cs) = some (.ptr l 0 0, .row false 11 [cs]) := fun l => by rw [boxOf_agg l cs hone, hlen]
  simp -implicitDefEqProofs (disch := first | assumption | omega | (simp only [nxB]; omega) | (simp only [oneB])) only [s110, xlen, AV.cells, splice, aload, astore, Nat.reduceAdd, Nat.reduceLeDiff, reduceIte, allB, hbx]
  have p1 := (Pur.push H (.row false 11 [cs])).then_push (.row false 11 [[.int .i64 0, .int .i64 0, .str [], .str [], .int .i64 0, .nilSl, .int .i64 0, .int .i64 0, .int .i64 0, .int .i64 0, .int .i64 0]])
  refine W_call (tok_spec (hx.rd.pur p1) (hx.tk.pur p1)) ?_
  rintro _ H2 ⟨rfl, p2⟩
  refine ⟨p2.1, ?_⟩
  have hn2 := p2.1
  simp only [AHeap.next_push] at hn2
  have mb := (p1.trans p2).mut (· = r)
  have hrd2 := hx.rd.pur (p1.trans p2)
  have hr2 := hrd2
  unfold Rd at hr2
  have h3 : H2.get H.next = some (.row false 11 [cs]) := by rw [p2.2 _ (by simp only [AHeap.next_push]; omega)]; simp -implicitDefEqProofs (disch := first | assumption | omega | (simp only [nxB]; omega) | (simp only [oneB])) only [heapB]
  have h4 : H2.get (H.next + 1) = some (.row false 11 [[.int .i64 0, .int .i64 0, .str [], .str [], .int .i64 0, .nilSl, .int .i64 0, .int .i64 0, .int .i64 0, .int .i64 0, .int .i64 0]]) := by rw [p2.2 _ (by simp only [AHeap.next_push]; omega)]; simp -implicitDefEqProofs (disch := first | assumption | omega | (simp only [nxB]; omega) | (simp only [oneB])) only [heapB]
  obtain ⟨m3, hd3⟩ := fail_set hrd2 (goS s)
  simp -implicitDefEqProofs (disch := first | assumption | omega | (simp only [nxB]; omega) | (simp only [oneB])) only [s110, xlen, AV.cells, splice, aload, astore, Nat.reduceAdd, Nat.reduceLeDiff, reduceIte, allB, Tok.v, hr2, ho1, ho2]
  have hx3 := hx.mut (mb.trans m3) hd3
  refine W_call (tok_spec hx3.rd hx3.tk) ?_
  rintro _ H4 ⟨rfl, p4⟩
  refine ⟨p4.1, ?_⟩
  have hn4 := p4.1
  simp only [AHeap.next_set] at hn4
  have hx4 := hx3.pur p4
  have mb4 := (mb.trans m3).trans (p4.mut _)
  have h34 := p4.get (m3.get h3 (by omega))
  have h44 := p4.get (m3.get h4 (by omega))
  have p5 := Pur.push H4 (.row false 4 [[.int .i64 (tokAt T (goS s).at_).kind, .str (tokAt T (goS s).at_).text, .int .i64 (tokAt T (goS s).at_).n, .int .i64 (tokAt T (goS s).at_).pos]])
  have h65 := AHeap.get_push_same H4 (.row false 4 [[.int .i64 (tokAt T (goS s).at_).kind, .str (tokAt T (goS s).at_).text, .int .i64 (tokAt T (goS s).at_).n, .int .i64 (tokAt T (goS s).at_).pos]])
  by_cases hk : (tokAt T (goS s).at_).kind = 1
  · have hk' : ((tokAt T (goS s).at_).kind != 1) = false := by simpa using hk
    rw [show fieldS T e s = (.mk { kind := 5, name := (tokAt T (goS s).at_).text, pos := (tokAt T s.at_).pos } [e], goS (goS s)) by simp only [fieldS, hk', cond_false]]
    simp -implicitDefEqProofs (disch := first | assumption | omega | (simp only [nxB]; omega) | (simp only [oneB])) only [s110, xlen, AV.cells, splice, aload, astore, Nat.reduceAdd, Nat.reduceLeDiff, reduceIte, allB, Tok.v, hk']
    exact field_end hx he hlen hone hlo hlo' (mb4.trans (p5.mut _)) (hx4.rd.pur p5) (p5.get h34) (p5.get h44) rfl h65 (by omega) (by omega) (by omega) (by omega)
  · have hk' : ((tokAt T (goS s).at_).kind != 1) = true := by simpa using hk
    rw [show fieldS T e s = (.mk { kind := 5, name := (tokAt T (goS s).at_).text, pos := (tokAt T s.at_).pos } [e], goS (failS T 2 (goS s))) by simp only [fieldS, hk', cond_true]]
    simp -implicitDefEqProofs (disch := first | assumption | omega | (simp only [nxB]; omega) | (simp only [oneB])) only [s110, xlen, AV.cells, splice, aload, astore, Nat.reduceAdd, Nat.reduceLeDiff, reduceIte, allB, Tok.v, hk']
    refine W_call (fail_spec (hx4.pur p5) 2) ?_
    rintro _ H6 ⟨rfl, m6, hx6⟩
    refine ⟨m6.1, ?_⟩
    try simp only [s110]
    exact field_end hx he hlen hone hlo hlo' ((mb4.trans (p5.mut _)).trans m6) hx6.rd (m6.get (p5.get h34) (by omega)) (m6.get (p5.get h44) (by omega)) rfl (m6.get h65 (by omega)) (by omega) (by omega) (by omega) (by omega)
def RowOk (n : Nat) : Prop := ∀ {H : AHeap} {r : Nat} {T : List Tok} {tv lv : AV} {s : St}, Rx H r T tv lv s → lv ≠ .nilSl → ∀ (lev : Nat), lev ≤ 5 → ∀ (e : Ex) (s' : St), rowF T n lev s = some (e, s') → W (evw P 71 [.ptr r 0 0, .int .i64 lev] H) (PostE H r T tv lv e s')
def UnaryOk (n : Nat) : Prop := ∀ {H : AHeap} {r : Nat} {T : List Tok} {tv lv : AV} {s : St}, Rx H r T tv lv s → lv ≠ .nilSl → ∀ (e : Ex) (s' : St), unaryF T n s = some (e, s') → W (evw P 83 [.ptr r 0 0] H) (PostE H r T tv lv e s')
def ChainOk (n : Nat) : Prop := ∀ {H : AHeap} {r : Nat} {T : List Tok} {tv lv : AV} {s : St}, Rx H r T tv lv s → lv ≠ .nilSl → ∀ (e : Ex) (s' : St), chainF T n s = some (e, s') → W (evw P 102 [.ptr r 0 0] H) (PostE H r T tv lv e s')
def FirstOk (n : Nat) : Prop := ∀ {H : AHeap} {r : Nat} {T : List Tok} {tv lv : AV} {s : St}, Rx H r T tv lv s → lv ≠ .nilSl → ∀ (e : Ex) (s' : St), firstF T n s = some (e, s') → W (evw P 106 [.ptr r 0 0] H) (PostE H r T tv lv e s')
def SingleOk (n : Nat) : Prop := ∀ {H : AHeap} {r : Nat} {T : List Tok} {tv lv : AV} {s : St}, Rx H r T tv lv s → lv ≠ .nilSl → ∀ (b c : Bs) (e : Ex) (s' : St), singleF T n b c s = some (e, s') → W (evw P 119 [.ptr r 0 0, .str b, .str c] H) (PostE H r T tv lv e s')
def NameOk (n : Nat) : Prop := ∀ {H : AHeap} {r : Nat} {T : List Tok} {tv lv : AV} {s : St}, Rx H r T tv lv s → lv ≠ .nilSl → ∀ (e : Ex) (s' : St), nameF T n s = some (e, s') → W (evw P 108 [.ptr r 0 0] H) (PostE H r T tv lv e s')
def FreshOk (n : Nat) : Prop := ∀ {H : AHeap} {r : Nat} {T : List Tok} {tv lv : AV} {s : St}, Rx H r T tv lv s → lv ≠ .nilSl → ∀ (e : Ex) (s' : St), freshF T n s = some (e, s') → W (evw P 115 [.ptr r 0 0] H) (PostE H r T tv lv e s')
def ListOk (n : Nat) : Prop := ∀ {H : AHeap} {r : Nat} {T : List Tok} {tv lv : AV} {s : St}, Rx H r T tv lv s → lv ≠ .nilSl → ∀ (l : List Ex) (s' : St), listF T n s = some (l, s') → W (evw P 112 [.ptr r 0 0, .func (.func 41) [.ptr r 0 0] []] H) fun v H' => Mt r H H' ∧ Rx H' r T tv lv s' ∧ KsV H' (Ge H.next) l v
structure AllOk (n : Nat) : Prop where
  row : RowOk n
  unary : UnaryOk n
  chain : ChainOk n
  first : FirstOk n
  single : SingleOk n
  name : NameOk n
  fresh : FreshOk n
  list : ListOk n
theorem PostE.ret {H H2 : AHeap} {r : Nat} {T : List Tok} {tv lv : AV} {s s' : St} {e : Ex} {v : AV} {b n : Nat} (hx : Rx H r T tv lv s) (m : Mt r H H2) (hd : Rd H2 r tv lv s') (hb : H.next ≤ b) (he : ExV H2 (Ge n) e v) (hn : b < n) (blk : ABlk) : PostE H r T tv lv e s' v (H2.set b blk) := by
  have hl := hx.rd.lt
  have m' := m.then_set (.inr hb) blk
  refine ⟨m', hx.mut m' ?_, he.new (Mut.then_set (S := (· < n)) (Mut.refl _ _) (.inl hn) _) fun l h => by unfold Ge; omega⟩
  unfold Rd at hd ⊢
  rw [AHeap.get_set_other (by omega)]; exact hd
theorem whole_spec {n : Nat} (ih : RowOk n) {H : AHeap} {r : Nat} {T : List Tok} {tv lv : AV} {s : St} (hx : Rx H r T tv lv s) (hlv : lv ≠ .nilSl) {e : Ex} {s' : St} (h : rowF T n 0 s = some (e, s')) : W (evw P 41 [.ptr r 0 0] H) (PostE H r T tv lv e s') := by
  refine W_of (fun _ => run41 0) ?_
  have hl := hx.rd.lt
  simp -implicitDefEqProofs (disch := first | assumption | omega | (simp only [nxB]; omega) | (simp only [oneB])) only [s41, xlen, AV.cells, splice, aload, astore, Nat.reduceAdd, Nat.reduceLeDiff, reduceIte, allB]
  have p1 := Pur.push H (.row false 11 [[.int .i64 0, .int .i64 0, .str [], .str [], .int .i64 0, .nilSl, .int .i64 0, .int .i64 0, .int .i64 0, .int .i64 0, .int .i64 0]])
  refine W_call (ih (hx.pur p1) hlv 0 (by omega) e s' h) ?_
  rintro v H2 ⟨m2, hx2, he2⟩
  refine ⟨m2.1, ?_⟩
  have hb2 := m2.get (AHeap.get_push_same H _) (by omega)
  have hlb := AHeap.get_lt hb2
  obtain ⟨cs, rfl, hlen, hone⟩ := he2.cells
  have ht : List.take 11 cs = cs := List.take_of_length_le (by omega)
  simp -implicitDefEqProofs (disch := first | assumption | omega | (simp only [nxB]; omega) | (simp only [oneB])) only [s41, xlen, AV.cells, splice, aload, astore, Nat.reduceAdd, Nat.reduceLeDiff, reduceIte, allB, hb2, hlen, hone, List.append_nil, ht]
  exact W_some.2 (PostE.ret hx ((p1.mut _).trans m2) hx2.rd (Nat.le_refl _) he2 (Nat.lt_succ_self _) _)
theorem single_step {n : Nat} (ih : RowOk n) : SingleOk (n + 1) := by
  intro H r T tv lv s hx hlv b c e s' h
  refine W_of (fun _ => run119 0) ?_
  have hl := hx.rd.lt
  have p1 := Pur.push H (.row false 11 [[.int .i64 0, .int .i64 0, .str [], .str [], .int .i64 0, .nilSl, .int .i64 0, .int .i64 0, .int .i64 0, .int .i64 0, .int .i64 0]])
  simp -implicitDefEqProofs (disch := first | assumption | omega | (simp only [nxB]; omega) | (simp only [oneB])) only [s119, xlen, AV.cells, splice, aload, astore, Nat.reduceAdd, Nat.reduceLeDiff, reduceIte, allB]
  refine W_call (opens_spec (hx.pur p1) b) ?_
  rintro _ H2 ⟨rfl, m2, hx2⟩
  refine ⟨m2.1, ?_⟩
  have hb2 := m2.get (AHeap.get_push_same H _) (by omega)
  have hlb := AHeap.get_lt hb2
  have mb := (p1.mut (· = r)).trans m2
  simp only [singleF] at h
  cases ho : (opensS T b s).1 with
  | false =>
    simp only [ho, cond_false, Option.some.injEq, Prod.mk.injEq] at h
    obtain ⟨rfl, rfl⟩ := h
    simp -implicitDefEqProofs (disch := first | assumption | omega | (simp only [nxB]; omega) | (simp only [oneB])) only [s119, xlen, AV.cells, splice, aload, astore, Nat.reduceAdd, Nat.reduceLeDiff, reduceIte, allB, Bool.not_false, hb2]
    exact W_some.2 (PostE.ret hx mb hx2.rd (Nat.le_refl _) (ExV.leaf _ (Ge (H.next + 1)) { kind := 0 }) (Nat.lt_succ_self _) _)
  | true =>
    simp only [ho, cond_true, Option.bind_eq_some_iff] at h
    obtain ⟨⟨e1, s1⟩, h1, h2⟩ := h
    simp only [Option.some.injEq, Prod.mk.injEq] at h2
    obtain ⟨rfl, rfl⟩ := h2
    simp -implicitDefEqProofs (disch := first | assumption | omega | (simp only [nxB]; omega) | (simp only [oneB])) only [s119, xlen, AV.cells, splice, aload, astore, Nat.reduceAdd, Nat.reduceLeDiff, reduceIte, allB, Bool.not_true]
    refine W_call (whole_spec ih hx2 hlv h1) ?_
    rintro v H3 ⟨m3, hx3, he3⟩
    refine ⟨m3.1, ?_⟩
    have hb3 := m3.get hb2 (by omega)
    have hlb3 := AHeap.get_lt hb3
    obtain ⟨cs, rfl, hlen, hone⟩ := he3.cells
    have ht : List.take 11 cs = cs := List.take_of_length_le (by omega)
    simp -implicitDefEqProofs (disch := first | assumption | omega | (simp only [nxB]; omega) | (simp only [oneB])) only [s119, xlen, AV.cells, splice, aload, astore, Nat.reduceAdd, Nat.reduceLeDiff, reduceIte, allB, hlen, hone, List.append_nil, ht]
    have p4 := Pur.push H3 (.row false 11 [cs])
    refine W_call (closes_spec (hx3.pur p4) c) ?_
    rintro _ H5 ⟨rfl, m5, hx5⟩
    refine ⟨m5.1, ?_⟩
    have hb5 := m5.get (p4.get hb3) (by omega)
    have hlb5 := AHeap.get_lt hb5
    have hc5 := m5.get (AHeap.get_push_same H3 (.row false 11 [cs])) (by omega)
    have hm2 := m2.1
    simp only [AHeap.next_push] at hm2
    simp -implicitDefEqProofs (disch := first | assumption | omega | (simp only [nxB]; omega) | (simp only [oneB])) only [s119, xlen, AV.cells, splice, aload, astore, Nat.reduceAdd, Nat.reduceLeDiff, reduceIte, allB, hlen, hone, List.append_nil, ht, hb5, hc5]
    refine W_some.2 (PostE.ret hx (((mb.trans m3).trans (p4.mut _)).trans m5) hx5.rd (Nat.le_refl _) (n := H2.next) (he3.new ?_ fun _ h => h) (by omega) _)
    exact ((Pur.push _ _).mut _).trans ⟨m5.1, fun l hl' hS => m5.2 l hl' (by omega)⟩
theorem within_spec {n : Nat} (ih : SingleOk n) {H : AHeap} {r : Nat} {T : List Tok} {tv lv : AV} {s : St} (hx : Rx H r T tv lv s) (hlv : lv ≠ .nilSl) {e : Ex} {s' : St} (h : singleF T n [40] [41] s = some (e, s')) : W (evw P 118 [.ptr r 0 0] H) (PostE H r T tv lv e s') := by
  refine W_of (fun _ => run118 0) ?_
  have hl := hx.rd.lt
  simp -implicitDefEqProofs (disch := first | assumption | omega | (simp only [nxB]; omega) | (simp only [oneB])) only [s118, xlen, AV.cells, splice, aload, astore, Nat.reduceAdd, Nat.reduceLeDiff, reduceIte, allB]
  have p1 := Pur.push H (.row false 11 [[.int .i64 0, .int .i64 0, .str [], .str [], .int .i64 0, .nilSl, .int .i64 0, .int .i64 0, .int .i64 0, .int .i64 0, .int .i64 0]])
  refine W_call (ih (hx.pur p1) hlv [40] [41] e s' h) ?_
  rintro v H2 ⟨m2, hx2, he2⟩
  refine ⟨m2.1, ?_⟩
  have hb2 := m2.get (AHeap.get_push_same H _) (by omega)
  have hlb := AHeap.get_lt hb2
  obtain ⟨cs, rfl, hlen, hone⟩ := he2.cells
  have ht : List.take 11 cs = cs := List.take_of_length_le (by omega)
  simp -implicitDefEqProofs (disch := first | assumption | omega | (simp only [nxB]; omega) | (simp only [oneB])) only [s118, xlen, AV.cells, splice, aload, astore, Nat.reduceAdd, Nat.reduceLeDiff, reduceIte, allB, hb2, hlen, hone, List.append_nil, ht]
  exact W_some.2 (PostE.ret hx ((p1.mut _).trans m2) hx2.rd (Nat.le_refl _) he2 (Nat.lt_succ_self _) _)
theorem length_spec {n : Nat} (ih : SingleOk n) {H : AHeap} {r : Nat} {T : List Tok} {tv lv : AV} {s : St} (hx : Rx H r T tv lv s) (hlv : lv ≠ .nilSl) {e : Ex} {s' : St} (h : singleF T n [40] [41] (goS s) = some (e, s')) : W (evw P 116 [.ptr r 0 0] H) (PostE H r T tv lv (.mk { kind := 10, pos := (tokAt T s.at_).pos } [e]) s') := by
  refine W_of (fun _ => run116 0) ?_
  have hl := hx.rd.lt
  have ho1 := hx.tk.one
  have ho2 := hx.lv.one
  simp -implicitDefEqProofs (disch := first | assumption | omega | (simp only [nxB]; omega) | (simp only [oneB])) only [s116, xlen, AV.cells, splice, aload, astore, Nat.reduceAdd, Nat.reduceLeDiff, reduceIte, allB]
  refine W_call (tok_spec (hx.rd.pur (Pur.push _ _)) (hx.tk.pur (Pur.push _ _))) ?_
  rintro _ H2 ⟨rfl, p2⟩
  refine ⟨p2.1, ?_⟩
  have hn2 := p2.1
  simp only [AHeap.next_push] at hn2
  have mb := ((Pur.push H _).trans p2).mut (· = r)
  have hrd2 := hx.rd.pur ((Pur.push H _).trans p2)
  have hr2 := hrd2
  unfold Rd at hr2
  have hb2 := p2.get (AHeap.get_push_same H _)
  obtain ⟨m3, hd3⟩ := fail_set hrd2 (goS s)
  simp -implicitDefEqProofs (disch := first | assumption | omega | (simp only [nxB]; omega) | (simp only [oneB])) only [s116, xlen, AV.cells, splice, aload, astore, Nat.reduceAdd, Nat.reduceLeDiff, reduceIte, allB, Tok.v, hr2, ho1, ho2]
  refine W_call (ih (hx.mut (mb.trans m3) hd3) hlv [40] [41] e s' h) ?_
  rintro v H4 ⟨m4, hx4, he4⟩
  refine ⟨m4.1, ?_⟩
  have hb4 := m4.get (m3.get hb2 (by omega)) (by omega)
  have hl4 := AHeap.get_lt hb4
  have hm4 := m4.1
  simp only [AHeap.next_set] at hm4 he4
  replace mb := (mb.trans m3).trans m4
  obtain ⟨cs, rfl, hlen, hone⟩ := he4.cells
  have hs : ∀ l, sliceOf P l 35 1 [(0, .agg cs)] = some (.sl l 0 1 11 (some 1), .row false 11 [cs]) := fun l => sl35_1 l cs hlen hone
  have hr2 := hx4.rd
  unfold Rd at hr2
  simp -implicitDefEqProofs (disch := first | assumption | omega | (simp only [nxB]; omega) | (simp only [oneB])) only [s116, xlen, AV.cells, splice, aload, astore, Nat.reduceAdd, Nat.reduceLeDiff, reduceIte, allB, hb4, hs]
  refine W_some.2 ?_
  refine PostL.fin (ok := Ge H.next) (a := { kind := 10, pos := (tokAt T s.at_).pos }) (kv := .sl H4.next 0 1 11 (some 1)) (s' := s') hx ?_ ?_ (KsV.one_at (ro := false) ?_ (by unfold Ge; omega) (he4.new ?_ fun l h => by unfold Ge; omega))
  · (repeat (first | exact mb | refine Mut.then_push ?_ _ | refine Mut.then_set (S := (· = r)) ?_ (.inl rfl) _ | refine Mut.then_set ?_ (.inr (by (first | omega | (simp only [AHeap.next_push, AHeap.next_set]; omega)))) _))
  · (unfold Rd; simp -implicitDefEqProofs (disch := first | assumption | omega | (simp only [nxB]; omega) | (simp only [oneB])) only [heapB, hr2, goS, outS])
  · simp -implicitDefEqProofs (disch := first | assumption | omega | (simp only [nxB]; omega) | (simp only [oneB])) only [heapB]
  · exact Mut.then_set (S := fun l => l < _) ((Mut.refl _ _).then_push _) (.inl (by omega)) _
theorem item_spec {n : Nat} (ih : SingleOk n) {ok : Nat → Prop} {H : AHeap} {r : Nat} {T : List Tok} {tv lv : AV} {s : St} {e : Ex} {v : AV} (hx : Rx H r T tv lv s) (hlv : lv ≠ .nilSl) (he : ExV H ok e v) (hlo : ¬ ok r) (hlo' : ∀ l, H.next ≤ l → ok l) {e2 : Ex} {s' : St} (h : singleF T n [91] [93] s = some (e2, s')) : W (evw P 111 [.ptr r 0 0, v] H) (PostL ok H r T tv lv (.mk { kind := 6, pos := (tokAt T s.at_).pos } [e, e2]) s') := by
  refine W_of (fun _ => run111 0) ?_
  obtain ⟨cs, rfl, hlen, hone⟩ := he.cells
  have hl := hx.rd.lt
  have ht : List.take 11 cs = cs := List.take_of_length_le (by omega)
  have hbx : ∀ l, boxOf l (.agg cs) = some (.ptr l 0 0, .row false 11 [cs]) := fun l => by rw [boxOf_agg l cs hone, hlen]
  simp -implicitDefEqProofs (disch := first | assumption | omega | (simp only [nxB]; omega) | (simp only [oneB])) only [s111, xlen, AV.cells, splice, aload, astore, Nat.reduceAdd, Nat.reduceLeDiff, reduceIte, allB, hbx]
  have p1 := (Pur.push H (.row false 11 [cs])).then_push (.row false 11 [[.int .i64 0, .int .i64 0, .str [], .str [], .int .i64 0, .nilSl, .int .i64 0, .int .i64 0, .int .i64 0, .int .i64 0, .int .i64 0]])
  refine W_call (tok_spec (hx.rd.pur p1) (hx.tk.pur p1)) ?_
  rintro _ H2 ⟨rfl, p2⟩
  refine ⟨p2.1, ?_⟩
  have hn2 := p2.1
  simp only [AHeap.next_push] at hn2
  have hx2 := hx.pur (p1.trans p2)
  have mb := (p1.trans p2).mut (· = r)
  have h3 : H2.get H.next = some (.row false 11 [cs]) := by rw [p2.2 _ (by simp only [AHeap.next_push]; omega)]; simp -implicitDefEqProofs (disch := first | assumption | omega | (simp only [nxB]; omega) | (simp only [oneB])) only [heapB]
  have h4 : H2.get (H.next + 1) = some (.row false 11 [[.int .i64 0, .int .i64 0, .str [], .str [], .int .i64 0, .nilSl, .int .i64 0, .int .i64 0, .int .i64 0, .int .i64 0, .int .i64 0]]) := by rw [p2.2 _ (by simp only [AHeap.next_push]; omega)]; simp -implicitDefEqProofs (disch := first | assumption | omega | (simp only [nxB]; omega) | (simp only [oneB])) only [heapB]
  simp -implicitDefEqProofs (disch := first | assumption | omega | (simp only [nxB]; omega) | (simp only [oneB])) only [s111, xlen, AV.cells, splice, aload, astore, Nat.reduceAdd, Nat.reduceLeDiff, reduceIte, allB, Tok.v]
  refine W_call (ih hx2 hlv [91] [93] e2 s' h) ?_
  rintro v H4 ⟨m4, hx4, he4⟩
  refine ⟨m4.1, ?_⟩
  have h34 := m4.get h3 (by omega)
  have h44 := m4.get h4 (by omega)
  have hl4 := AHeap.get_lt h44
  have hm4 := m4.1
  replace mb := mb.trans m4
  obtain ⟨ds, rfl, hlen', hone'⟩ := he4.cells
  have hs : ∀ l, sliceOf P l 35 2 [(0, .agg cs), (1, .agg ds)] = some (.sl l 0 2 11 (some 2), .row false 11 [cs, ds]) := fun l => sl35_2 l cs ds hlen hone hlen' hone'
  have hr2 := hx4.rd
  unfold Rd at hr2
  have hq := he.same
  simp -implicitDefEqProofs (disch := first | assumption | omega | (simp only [nxB]; omega) | (simp only [oneB])) only [s111, xlen, AV.cells, splice, aload, astore, Nat.reduceAdd, Nat.reduceLeDiff, reduceIte, allB, h34, h44, h3, hs, ht, hq, Bool.and_true]
  refine W_some.2 ?_
  refine PostL.fin (a := { kind := 6, pos := (tokAt T s.at_).pos }) (kv := .sl H4.next 0 2 11 (some 2)) (s' := s') hx ?_ ?_ (KsV.two_at (ro := false) ?_ (hlo' _ (by omega)) (he.mut (r := r) ?_ hlo fun _ h => h) (he4.new ?_ fun l h => hlo' _ (by omega)))
  · (repeat (first | exact mb | refine Mut.then_push ?_ _ | refine Mut.then_set (S := (· = r)) ?_ (.inl rfl) _ | refine Mut.then_set ?_ (.inr (by (first | omega | (simp only [AHeap.next_push, AHeap.next_set]; omega)))) _))
  · (unfold Rd; simp -implicitDefEqProofs (disch := first | assumption | omega | (simp only [nxB]; omega) | (simp only [oneB])) only [heapB, hr2, goS, outS])
  · simp -implicitDefEqProofs (disch := first | assumption | omega | (simp only [nxB]; omega) | (simp only [oneB])) only [heapB]
  · (repeat (first | exact mb | refine Mut.then_push ?_ _ | refine Mut.then_set (S := (· = r)) ?_ (.inl rfl) _ | refine Mut.then_set ?_ (.inr (by (first | omega | (simp only [AHeap.next_push, AHeap.next_set]; omega)))) _))
  · exact Mut.then_set (S := fun l => l < _) ((Mut.refl _ _).then_push _) (.inl (by omega)) _
end Go.Proofs.Ytnjoomfeddamcaa

namespace Go.Proofs.Ytnjoomfeddamcaa
open Go.Ev
theorem ElsV.append {H : AHeap} {ok : Nat → Prop} : ∀ (es : List Ex) (cs : List (List AV)) (e : Ex) (c : List AV), ElsV H ok es cs → cs.length = es.length → ExV H ok e (.agg c) → ElsV H ok (es ++ [e]) (cs ++ [c])
  | [], [], e, c, _, _, h => by
    simp only [List.nil_append]
    rw [ElsV, ElsV]; exact ⟨h, trivial⟩
  | [], _ :: _, e, c, _, hl, _ => by simp at hl
  | _ :: _, [], e, c, h, _, _ => by rw [ElsV] at h; exact h.elim
  | e1 :: es, c1 :: cs, e, c, h, hl, he => by
    rw [ElsV] at h
    simp only [List.cons_append]
    rw [ElsV]
    exact ⟨h.1, ElsV.append es cs e c h.2 (by simpa using hl) he⟩
theorem un35 : P.underlying 35 = some (.slice 39) := by kernel_rfl
theorem by39 : tyBytes P 39 = some 120 := by kernel_rfl
theorem az39 : azero P 39 = some (.agg [.int .i64 0, .int .i64 0, .str [], .str [], .int .i64 0, .nilSl, .int .i64 0, .int .i64 0, .int .i64 0, .int .i64 0, .int .i64 0]) := by kernel_rfl
theorem ap35_nil {H : AHeap} {L : Nat} {cs : List AV} {cap : Option Nat} {ro : Bool} (hg : H.get L = some (.row ro 11 [cs])) : aappend P H [35, 35] .nilSl (.sl L 0 1 11 cap) = some (.sl H.next 0 1 11 none, H.push (.row false 11 [cs])) := by
  simp [aappend, un35, ts39, by39, az39, anews, aels, hg, AV.cells]
theorem ap35_sl {H : AHeap} {L l n : Nat} {cs : List AV} {els : List (List AV)} {cap : Option Nat} {ro : Bool} (hg : H.get L = some (.row ro 11 [cs])) (hl : H.get l = some (.row false 11 els)) (hn : els.length = n) (hb : n ≤ 1000000000) : aappend P H [35, 35] (.sl l 0 n 11 none) (.sl L 0 1 11 cap) = some (.sl H.next 0 (n + 1) 11 none, (H.set l .dead).push (.row false 11 (els ++ [cs]))) := by
  have h1 : (n + 1) * 120 ≤ 140737488355328 := by omega
  have h2 : n + 1 ≤ 9223372036854775807 := by omega
  simp [aappend, un35, ts39, by39, az39, anews, aels, hg, hl, AV.cells, hn, h1, h2]
  rw [List.take_of_length_le (by omega)]
theorem fresh_step {n : Nat} (ih : SingleOk n) : FreshOk (n + 1) := by
  intro H r T tv lv s hx hlv e s' h
  refine W_of (fun _ => run115 0) ?_
  have hl := hx.rd.lt
  have ho1 := hx.tk.one
  have ho2 := hx.lv.one
  simp -implicitDefEqProofs (disch := first | assumption | omega | (simp only [nxB]; omega) | (simp only [oneB])) only [s115_j0, s115, xlen, AV.cells, splice, aload, astore, Nat.reduceAdd, Nat.reduceLeDiff, reduceIte, allB]
  refine W_call (tok_spec (hx.rd.pur (Pur.push _ _)) (hx.tk.pur (Pur.push _ _))) ?_
  rintro _ H2 ⟨rfl, p2⟩
  refine ⟨p2.1, ?_⟩
  have hn2 := p2.1
  simp only [AHeap.next_push] at hn2
  have mb := ((Pur.push H _).trans p2).mut (· = r)
  have hrd2 := hx.rd.pur ((Pur.push H _).trans p2)
  have hr2 := hrd2
  unfold Rd at hr2
  have hb2 := p2.get (AHeap.get_push_same H _)
  obtain ⟨m3, hd3⟩ := fail_set hrd2 (goS s)
  simp -implicitDefEqProofs (disch := first | assumption | omega | (simp only [nxB]; omega) | (simp only [oneB])) only [s115, xlen, AV.cells, splice, aload, astore, Nat.reduceAdd, Nat.reduceLeDiff, reduceIte, allB, Tok.v, hr2, ho1, ho2]
  have hx3 := hx.mut (mb.trans m3) hd3
  refine W_call (takes_spec hx3 4 [91]) ?_
  rintro _ H4 ⟨rfl, m4, hx4⟩
  refine ⟨m4.1, ?_⟩
  have hb4 := m4.get (m3.get hb2 (by omega)) (by omega)
  have hl4 := AHeap.get_lt hb4
  have hm4 := m4.1
  simp only [AHeap.next_set] at hm4
  replace mb := (mb.trans m3).trans m4
  simp only [freshF] at h
  cases hi : isB T (goS s) 4 [91] with
  | true =>
    simp only [takesS, hi, cond_true] at hx4 ⊢
    simp only [hi, cond_true, Option.bind_eq_some_iff] at h
    obtain ⟨⟨e1, s1⟩, h1, h2⟩ := h
    simp only [Option.some.injEq, Prod.mk.injEq] at h2
    obtain ⟨rfl, rfl⟩ := h2
    simp -implicitDefEqProofs (disch := first | assumption | omega | (simp only [nxB]; omega) | (simp only [oneB])) only [s115, xlen, AV.cells, splice, aload, astore, Nat.reduceAdd, Nat.reduceLeDiff, reduceIte, allB]
    refine W_call (of_spec hx4) ?_
    rintro _ H5 ⟨rfl, m5, hx5⟩
    refine ⟨m5.1, ?_⟩
    have hb5 := m5.get hb4 (by omega)
    have hl5 := AHeap.get_lt hb5
    simp -implicitDefEqProofs (disch := first | assumption | omega | (simp only [nxB]; omega) | (simp only [oneB])) only [s115, xlen, AV.cells, splice, aload, astore, Nat.reduceAdd, Nat.reduceLeDiff, reduceIte, allB]
    have p6 := Pur.push H5 (.row false 2 [[.str (ofS T (goS (goS s))).1.1, .int .i64 (ofS T (goS (goS s))).1.2]])
    have hq6 := AHeap.get_push_same H5 (.row false 2 [[.str (ofS T (goS (goS s))).1.1, .int .i64 (ofS T (goS (goS s))).1.2]])
    refine W_call (wants_spec (hx5.pur p6) [93]) ?_
    rintro _ H8 ⟨rfl, m8, hx8⟩
    refine ⟨m8.1, ?_⟩
    have hb8 := m8.get (p6.get hb5) (by omega)
    have hq8 := m8.get hq6 (by omega)
    have hl8 := AHeap.get_lt hb8
    have hlq8 := AHeap.get_lt hq8
    simp -implicitDefEqProofs (disch := first | assumption | omega | (simp only [nxB]; omega) | (simp only [oneB])) only [s115, xlen, AV.cells, splice, aload, astore, Nat.reduceAdd, Nat.reduceLeDiff, reduceIte, allB]
    refine W_call (ih hx8 hlv [40] [41] e1 s1 h1) ?_
    rintro v H9 ⟨m9, hx9, he9⟩
    refine ⟨m9.1, ?_⟩
    have hb9 := m9.get hb8 (by omega)
    have hq9 := m9.get hq8 (by omega)
    have hl9 := AHeap.get_lt hb9
    have hlq9 := AHeap.get_lt hq9
    have hm9 := m9.1
    obtain ⟨cs, rfl, hlen, hone⟩ := he9.cells
    have hs : ∀ l, sliceOf P l 35 1 [(0, .agg cs)] = some (.sl l 0 1 11 (some 1), .row false 11 [cs]) := fun l => sl35_1 l cs hlen hone
    replace mb := (((mb.trans m5).trans (p6.mut _)).trans m8).trans m9
    have hr2 := hx9.rd
    unfold Rd at hr2
    simp -implicitDefEqProofs (disch := first | assumption | omega | (simp only [nxB]; omega) | (simp only [oneB])) only [s115, xlen, AV.cells, splice, aload, astore, Nat.reduceAdd, Nat.reduceLeDiff, reduceIte, allB, hs, hb9, hq9, hq8]
    refine W_some.2 ?_
    refine PostL.fin (ok := Ge H.next) (a := { kind := 9, ofn := (ofS T (goS (goS s))).1.1, ofd := (ofS T (goS (goS s))).1.2, pos := (tokAt T s.at_).pos }) (kv := .sl H9.next 0 1 11 (some 1)) (s' := s1) hx ?_ ?_ (KsV.one_at (ro := false) ?_ (by unfold Ge; omega) (he9.new ?_ fun l h => by unfold Ge; omega))
    · (repeat (first | exact mb | refine Mut.then_push ?_ _ | refine Mut.then_set (S := (· = r)) ?_ (.inl rfl) _ | refine Mut.then_set ?_ (.inr (by (first | omega | (simp only [AHeap.next_push, AHeap.next_set]; omega)))) _))
    · (unfold Rd; simp -implicitDefEqProofs (disch := first | assumption | omega | (simp only [nxB]; omega) | (simp only [oneB])) only [heapB, hr2, goS, outS])
    · simp -implicitDefEqProofs (disch := first | assumption | omega | (simp only [nxB]; omega) | (simp only [oneB])) only [heapB]
    · exact Mut.then_set (S := fun l => l < _) ((Mut.refl _ _).then_push _) (.inl (by omega)) _
  | false =>
    simp only [takesS, hi, cond_false] at hx4 ⊢
    simp only [hi, cond_false, Option.some.injEq, Prod.mk.injEq] at h
    obtain ⟨rfl, rfl⟩ := h
    simp -implicitDefEqProofs (disch := first | assumption | omega | (simp only [nxB]; omega) | (simp only [oneB])) only [s115, xlen, AV.cells, splice, aload, astore, Nat.reduceAdd, Nat.reduceLeDiff, reduceIte, allB]
    refine W_call (tok_spec hx4.rd hx4.tk) ?_
    rintro _ H5 ⟨rfl, p5⟩
    refine ⟨p5.1, ?_⟩
    have hb5 := p5.get hb4
    have hx5 := hx4.pur p5
    have hl5 := AHeap.get_lt hb5
    have p6 := Pur.push H5 (.row false 4 [[.int .i64 (tokAt T (goS s).at_).kind, .str (tokAt T (goS s).at_).text, .int .i64 (tokAt T (goS s).at_).n, .int .i64 (tokAt T (goS s).at_).pos]])
    have hq6 := AHeap.get_push_same H5 (.row false 4 [[.int .i64 (tokAt T (goS s).at_).kind, .str (tokAt T (goS s).at_).text, .int .i64 (tokAt T (goS s).at_).n, .int .i64 (tokAt T (goS s).at_).pos]])
    have fin : ∀ (H7 : AHeap) (s7 : St), Mt r H H7 → Rd H7 r tv lv s7 → H7.get H.next = some (.row false 11 [[.int .i64 0, .int .i64 0, .str [], .str [], .int .i64 0, .nilSl, .int .i64 0, .int .i64 0, .int .i64 0, .int .i64 0, .int .i64 0]]) → H7.get H5.next = some (.row false 4 [[.int .i64 (tokAt T (goS s).at_).kind, .str (tokAt T (goS s).at_).text, .int .i64 (tokAt T (goS s).at_).n, .int .i64 (tokAt T (goS s).at_).pos]]) →
        W (s115_j0 (evw P) (.ptr r 0 0) (.ptr H.next 0 0) (.int .i64 (tokAt T s.at_).pos) (.ptr H5.next 0 0) H7) (PostE H r T tv lv (.mk { kind := 8, ofn := (tokAt T (goS s).at_).text, pos := (tokAt T s.at_).pos } []) (goS s7)) := by
      intro H7 s7 mb hrd7 hb7 hq7
      have hr2 := hrd7
      unfold Rd at hr2
      have hlr := hrd7.lt
      have hl7 := AHeap.get_lt hb7
      have hlq7 := AHeap.get_lt hq7
      simp -implicitDefEqProofs (disch := first | assumption | omega | (simp only [nxB]; omega) | (simp only [oneB])) only [s115_j0, s115, xlen, AV.cells, splice, aload, astore, Nat.reduceAdd, Nat.reduceLeDiff, reduceIte, allB, hr2, ho1, ho2, hb7, hq7]
      refine W_some.2 ?_
      refine PostE.box (a := { kind := 8, ofn := (tokAt T (goS s).at_).text, pos := (tokAt T s.at_).pos }) (kv := .nilSl) (s' := goS s7) (lo := H.next + 1) hx ?_ ?_ (Nat.le_refl _) (Nat.lt_succ_self _) (KsV.nil _ _) _
      · (repeat (first | exact mb | refine Mut.then_push ?_ _ | refine Mut.then_set (S := (· = r)) ?_ (.inl rfl) _ | refine Mut.then_set ?_ (.inr (by (first | omega | (simp only [AHeap.next_push, AHeap.next_set]; omega)))) _))
      · (unfold Rd; simp -implicitDefEqProofs (disch := first | assumption | omega | (simp only [nxB]; omega) | (simp only [oneB])) only [heapB, hr2, goS, outS])
    by_cases hk : (tokAt T (goS s).at_).kind = 1
    · have hk' : ((tokAt T (goS s).at_).kind != 1) = false := by simpa using hk
      simp -implicitDefEqProofs (disch := first | assumption | omega | (simp only [nxB]; omega) | (simp only [oneB])) only [s115, xlen, AV.cells, splice, aload, astore, Nat.reduceAdd, Nat.reduceLeDiff, reduceIte, allB, Tok.v, hk']
      exact fin _ _ ((mb.trans (p5.mut _)).trans (p6.mut _)) (hx5.rd.pur p6) (p6.get hb5) hq6
    · have hk' : ((tokAt T (goS s).at_).kind != 1) = true := by simpa using hk
      simp -implicitDefEqProofs (disch := first | assumption | omega | (simp only [nxB]; omega) | (simp only [oneB])) only [s115, xlen, AV.cells, splice, aload, astore, Nat.reduceAdd, Nat.reduceLeDiff, reduceIte, allB, Tok.v, hk']
      refine W_call (fail_spec (hx5.pur p6) 2) ?_
      rintro _ H8 ⟨rfl, m8, hx8⟩
      refine ⟨m8.1, ?_⟩
      try simp only [s115]
      exact fin _ _ (((mb.trans (p5.mut _)).trans (p6.mut _)).trans m8) hx8.rd (m8.get (p6.get hb5) (by omega)) (m8.get hq6 (by omega))
end Go.Proofs.Ytnjoomfeddamcaa

namespace Go.Proofs.Ytnjoomfeddamcaa
open Go.Ev
theorem xapply_fn (call : CallT) (H : AHeap) (f : Nat) (a c vs : List AV) (k : AV → AHeap → O) : xapply call H (.func (.func f) a c) vs k = xcall H (call f (a ++ vs ++ c) H) k := rfl
theorem list_end {n : Nat} {H0 H : AHeap} {r : Nat} {T : List Tok} {tv lv : AV} {s0 s : St} (hx0 : Rx H0 r T tv lv s0) (mb : Mt r H0 H) (hrd : Rd H r tv lv s) {l : List Ex} {v : AV} (hk : KsV H (Ge H0.next) l v) :
    W (s112_j0 (evw P) n (.ptr r 0 0) v H) fun v H' => Mt r H0 H' ∧ Rx H' r T tv lv (closesS T [41] s).2 ∧ KsV H' (Ge H0.next) l v := by
  have hl := hx0.rd.lt
  rw [s112_j0]
  refine W_call (closes_spec (hx0.mut mb hrd) [41]) ?_
  rintro _ H1 ⟨rfl, m1, hx1⟩
  refine ⟨m1.1, ?_⟩
  try simp only [s112_b1, s112]
  exact W_some.2 ⟨mb.trans m1, hx1, hk.keep (Keep.mut m1 (by unfold Ge; omega) fun _ h => h)⟩
theorem list_loop {N : Nat} (ih : ∀ k, k < N → RowOk k) {H0 : AHeap} {r : Nat} {T : List Tok} {tv lv : AV} {s0 : St} (hx0 : Rx H0 r T tv lv s0) (hlv : lv ≠ .nilSl) :
    ∀ (n m : Nat), n < N → n < m → ∀ (H : AHeap) (s : St) (l : List Ex) (L : Nat) (els : List (List AV)), Mt r H0 H → Rd H r tv lv s → l.length + n ≤ 1000000000 → H.get L = some (.row false 11 els) → H0.next ≤ L → els.length = l.length →
      ElsV H (fun k => H0.next ≤ k ∧ k ≠ L) l els → ∀ (l' : List Ex) (s' : St), listL T n l s = some (l', s') →
      W (s112_l1 (evw P) N m (.ptr r 0 0) (.func (.func 41) [.ptr r 0 0] []) (.sl L 0 l.length 11 none) H) fun v H' => Mt r H0 H' ∧ Rx H' r T tv lv s' ∧ KsV H' (Ge H0.next) l' v
  | 0, m, hN, hm, H, s, l, L, els, mb, hrd, hlen, hg, hL, hel, hev, l', s', h => by simp [listL] at h
  | n + 1, 0, hN, hm, H, s, l, L, els, mb, hrd, hlen, hg, hL, hel, hev, l', s', h => by omega
  | n + 1, m + 1, hN, hm, H, s, l, L, els, mb, hrd, hlen, hg, hL, hel, hev, l', s', h => by
    have hl := hx0.rd.lt
    have hlL := AHeap.get_lt hg
    have hle := mb.1
    simp only [listL] at h
    simp only [s112_l1]
    rw [s112_b1]
    refine W_call (takes_spec (hx0.mut mb hrd) 4 [44]) ?_
    rintro _ H1 ⟨rfl, m1, hx1⟩
    refine ⟨m1.1, ?_⟩
    have hg1 := m1.get hg (by omega)
    have hlL1 := AHeap.get_lt hg1
    have hev1 := hev.keep (Keep.mut m1 (by omega) fun _ h => h) l els
    cases ht : (takesS T 4 [44] s).1 with
    | false =>
      simp only [ht, cond_false, Option.some.injEq, Prod.mk.injEq] at h
      obtain ⟨rfl, rfl⟩ := h
      simp -implicitDefEqProofs (disch := first | assumption | omega | (simp only [nxB]; omega) | (simp only [oneB])) only [s112_b1, s112, xlen, AV.cells, splice, aload, astore, Nat.reduceAdd, Nat.reduceLeDiff, reduceIte, allB]
      refine list_end hx0 (mb.trans m1) hx1.rd (.inr (.inl ⟨L, 0, none, false, els, rfl, hL, hg1, ?_⟩))
      rw [List.drop_zero]
      exact hev1.keep (Keep.le' fun _ h => h.1) l els
    | true =>
      simp only [ht, cond_true, Option.bind_eq_some_iff] at h
      obtain ⟨⟨e1, s1⟩, h1, h2⟩ := h
      simp -implicitDefEqProofs (disch := first | assumption | omega | (simp only [nxB]; omega) | (simp only [oneB])) only [s112_b1, s112, xlen, AV.cells, splice, aload, astore, Nat.reduceAdd, Nat.reduceLeDiff, reduceIte, allB, xapply_fn, List.append_nil]
      refine W_call (whole_spec (ih n (by omega)) hx1 hlv h1) ?_
      rintro v H2 ⟨m2, hx2, he2⟩
      refine ⟨m2.1, ?_⟩
      have hg2 := m2.get hg1 (by omega)
      have hlL2 := AHeap.get_lt hg2
      have hm1 := m1.1
      have hm2 := m2.1
      have hev2 := hev1.keep (Keep.mut m2 (by omega) fun _ h => h) l els
      obtain ⟨cs, rfl, hlen', hone⟩ := he2.cells
      have hs : ∀ l, sliceOf P l 35 1 [(0, .agg cs)] = some (.sl l 0 1 11 (some 1), .row false 11 [cs]) := fun l => sl35_1 l cs hlen' hone
      simp -implicitDefEqProofs (disch := first | assumption | omega | (simp only [nxB]; omega) | (simp only [oneB])) only [s112_b1, s112, xlen, AV.cells, splice, aload, astore, Nat.reduceAdd, Nat.reduceLeDiff, reduceIte, allB, hs]
      have p3 := Pur.push H2 (.row false 11 [cs])
      rw [ap35_sl (AHeap.get_push_same H2 (.row false 11 [cs])) (p3.get hg2) hel (by omega), xcall_some (by simp only [AHeap.next_push, AHeap.next_set]; omega)]
      simp only [AHeap.next_push, AHeap.next_set, s112]
      have hlen2 : l.length + 1 = (l ++ [e1]).length := by simp
      rw [hlen2]
      have gK : ∀ k, k < H2.next → k ≠ L → (((H2.push (.row false 11 [cs])).set L .dead).push (.row false 11 (els ++ [cs]))).get k = H2.get k := fun k hk hk' => by
        rw [AHeap.get_push_other (by simp only [AHeap.next_push, AHeap.next_set]; omega), AHeap.get_set_other (by omega), AHeap.get_push_other (by omega)]
      have mN : Mt r H0 (((H2.push (.row false 11 [cs])).set L .dead).push (.row false 11 (els ++ [cs]))) := (((mb.trans m1).trans m2).then_push _ |>.then_set (.inr hL) _).then_push _
      refine list_loop ih hx0 hlv n m (by omega) (by omega) _ s1 (l ++ [e1]) (H2.next + 1) (els ++ [cs]) mN ?_ (by simp; omega) ?_ (by omega) (by simp [hel]) ?_ l' s' h2
      · have := hx2.rd
        unfold Rd at this ⊢
        rw [gK r (by omega) (by omega)]; exact this
      · exact AHeap.get_push_eq (by simp only [AHeap.next_push, AHeap.next_set]; omega) (by simp only [AHeap.next_push, AHeap.next_set]; omega)
      · refine ElsV.append l els e1 cs ?_ hel ?_
        · exact hev2.keep (fun k ro es hk hg' => ⟨⟨hk.1, by have := AHeap.get_lt hg'; omega⟩, by rw [gK k (AHeap.get_lt hg') hk.2]; exact hg'⟩) l els
        · exact he2.keep (fun k ro es hk hg' => by
            have h3 := AHeap.get_lt hg'
            unfold Ge at hk
            exact ⟨⟨by omega, by omega⟩, by rw [gK k h3 (by omega)]; exact hg'⟩) e1 _
theorem list_step {n : Nat} (hn : n ≤ 900000000) (ih : ∀ k, k ≤ n → RowOk k) : ListOk (n + 1) := by
  intro H r T tv lv s hx hlv l s' h
  refine W_of (fun _ => run112 (n + 1)) ?_
  have hl := hx.rd.lt
  simp only [listF] at h
  rw [s112]
  refine W_call (opens_spec hx [40]) ?_
  rintro _ H1 ⟨rfl, m1, hx1⟩
  refine ⟨m1.1, ?_⟩
  cases ho : (opensS T [40] s).1 with
  | false =>
    simp only [ho, cond_false, Option.some.injEq, Prod.mk.injEq] at h
    obtain ⟨rfl, rfl⟩ := h
    simp -implicitDefEqProofs (disch := first | assumption | omega | (simp only [nxB]; omega) | (simp only [oneB])) only [s112_b1, s112, xlen, AV.cells, splice, aload, astore, Nat.reduceAdd, Nat.reduceLeDiff, reduceIte, allB, Bool.not_false]
    exact W_some.2 ⟨m1, hx1, KsV.nil _ _⟩
  | true =>
    simp only [ho, cond_true] at h
    simp -implicitDefEqProofs (disch := first | assumption | omega | (simp only [nxB]; omega) | (simp only [oneB])) only [s112, xlen, AV.cells, splice, aload, astore, Nat.reduceAdd, Nat.reduceLeDiff, reduceIte, allB, Bool.not_true]
    refine W_call (is_spec hx1.rd hx1.tk 4 [41]) ?_
    rintro _ H2 ⟨rfl, p2⟩
    refine ⟨p2.1, ?_⟩
    have hx2 := hx1.pur p2
    have mb := m1.trans (p2.mut _)
    cases hi : isB T (opensS T [40] s).2 4 [41] with
    | true =>
      simp only [hi, cond_true, Option.some.injEq, Prod.mk.injEq] at h
      obtain ⟨rfl, rfl⟩ := h
      simp -implicitDefEqProofs (disch := first | assumption | omega | (simp only [nxB]; omega) | (simp only [oneB])) only [s112, xlen, AV.cells, splice, aload, astore, Nat.reduceAdd, Nat.reduceLeDiff, reduceIte, allB, Bool.not_true]
      exact list_end hx mb hx2.rd (KsV.nil _ _)
    | false =>
      simp only [hi, cond_false, Option.bind_eq_some_iff] at h
      obtain ⟨⟨e1, s1⟩, h1, h2⟩ := h
      simp -implicitDefEqProofs (disch := first | assumption | omega | (simp only [nxB]; omega) | (simp only [oneB])) only [s112, xlen, AV.cells, splice, aload, astore, Nat.reduceAdd, Nat.reduceLeDiff, reduceIte, allB, Bool.not_false, xapply_fn, List.append_nil]
      refine W_call (whole_spec (ih n (Nat.le_refl _)) hx2 hlv h1) ?_
      rintro v H3 ⟨m3, hx3, he3⟩
      refine ⟨m3.1, ?_⟩
      have hm1 := m1.1
      have hm2 := p2.1
      have hm3 := m3.1
      obtain ⟨cs, rfl, hlen', hone⟩ := he3.cells
      have hs : ∀ l, sliceOf P l 35 1 [(0, .agg cs)] = some (.sl l 0 1 11 (some 1), .row false 11 [cs]) := fun l => sl35_1 l cs hlen' hone
      simp -implicitDefEqProofs (disch := first | assumption | omega | (simp only [nxB]; omega) | (simp only [oneB])) only [s112, xlen, AV.cells, splice, aload, astore, Nat.reduceAdd, Nat.reduceLeDiff, reduceIte, allB, hs]
      have p4 := (Pur.push H3 (.row false 11 [cs])).then_push (.row false 11 [cs])
      rw [ap35_nil (AHeap.get_push_same H3 (.row false 11 [cs])), xcall_some (by simp only [AHeap.next_push]; omega)]
      simp only [AHeap.next_push, s112]
      refine list_loop (N := n + 1) (fun k hk => ih k (by omega)) hx hlv n (n + 1) (by omega) (by omega) _ s1 [e1] (H3.next + 1) [cs] ((mb.trans m3).trans (p4.mut _)) (hx3.rd.pur p4) (by simp; omega) ?_ (by omega) rfl ?_ l s' h2
      · exact AHeap.get_push_eq (by simp only [AHeap.next_push]; omega) (by simp only [AHeap.next_push]; omega)
      · rw [ElsV, ElsV]
        exact ⟨he3.keep (fun k ro es hk hg' => by
            have h3 := AHeap.get_lt hg'
            unfold Ge at hk
            exact ⟨⟨by omega, by omega⟩, p4.get hg'⟩) e1 _, trivial⟩
theorem name_step {n : Nat} (ih : ListOk n) : NameOk (n + 1) := by
  intro H r T tv lv s hx hlv e s' h
  refine W_of (fun _ => run108 0) ?_
  have hl := hx.rd.lt
  have ho1 := hx.tk.one
  have ho2 := hx.lv.one
  simp -implicitDefEqProofs (disch := first | assumption | omega | (simp only [nxB]; omega) | (simp only [oneB])) only [s108, xlen, AV.cells, splice, aload, astore, Nat.reduceAdd, Nat.reduceLeDiff, reduceIte, allB]
  refine W_call (tok_spec (hx.rd.pur (Pur.push _ _)) (hx.tk.pur (Pur.push _ _))) ?_
  rintro _ H2 ⟨rfl, p2⟩
  refine ⟨p2.1, ?_⟩
  have hn2 := p2.1
  simp only [AHeap.next_push] at hn2
  have mb := ((Pur.push H _).trans p2).mut (· = r)
  have hrd2 := hx.rd.pur ((Pur.push H _).trans p2)
  have hr2 := hrd2
  unfold Rd at hr2
  have hb2 := p2.get (AHeap.get_push_same H _)
  obtain ⟨m3, hd3⟩ := fail_set (hrd2.pur (Pur.push H2 (.row false 4 [[.int .i64 (tokAt T s.at_).kind, .str (tokAt T s.at_).text, .int .i64 (tokAt T s.at_).n, .int .i64 (tokAt T s.at_).pos]]))) (goS s)
  have hq2 := AHeap.get_push_same H2 (.row false 4 [[.int .i64 (tokAt T s.at_).kind, .str (tokAt T s.at_).text, .int .i64 (tokAt T s.at_).n, .int .i64 (tokAt T s.at_).pos]])
  have p25 := Pur.push H2 (.row false 4 [[.int .i64 (tokAt T s.at_).kind, .str (tokAt T s.at_).text, .int .i64 (tokAt T s.at_).n, .int .i64 (tokAt T s.at_).pos]])
  replace mb := mb.trans (p25.mut _)
  simp -implicitDefEqProofs (disch := first | assumption | omega | (simp only [nxB]; omega) | (simp only [oneB])) only [s108, xlen, AV.cells, splice, aload, astore, Nat.reduceAdd, Nat.reduceLeDiff, reduceIte, allB, Tok.v, hr2, ho1, ho2]
  have hx3 := hx.mut (mb.trans m3) hd3
  refine W_call (is_spec hx3.rd hx3.tk 4 [40]) ?_
  rintro _ H4 ⟨rfl, p4⟩
  refine ⟨p4.1, ?_⟩
  have hb4 := p4.get (m3.get (p25.get hb2) (by omega))
  have hq4 := p4.get (m3.get hq2 (by omega))
  have hl4 := AHeap.get_lt hb4
  have hlq4 := AHeap.get_lt hq4
  have hx4 := hx3.pur p4
  replace mb := (mb.trans m3).trans (p4.mut _)
  simp only [nameF] at h
  cases hi : isB T (goS s) 4 [40] with
  | false =>
    simp only [hi, cond_false, Option.some.injEq, Prod.mk.injEq] at h
    obtain ⟨rfl, rfl⟩ := h
    simp -implicitDefEqProofs (disch := first | assumption | omega | (simp only [nxB]; omega) | (simp only [oneB])) only [s108, xlen, AV.cells, splice, aload, astore, Nat.reduceAdd, Nat.reduceLeDiff, reduceIte, allB, Bool.not_false, hb4, hq4]
    refine W_some.2 ?_
    exact PostE.box (a := { kind := 4, name := (tokAt T s.at_).text, pos := (tokAt T s.at_).pos }) (kv := .nilSl) (lo := H.next + 1) hx mb hx4.rd (Nat.le_refl _) (Nat.lt_succ_self _) (KsV.nil _ _) _
  | true =>
    simp only [hi, cond_true, Option.bind_eq_some_iff] at h
    obtain ⟨⟨l1, s1⟩, h1, h2⟩ := h
    simp only [Option.some.injEq, Prod.mk.injEq] at h2
    obtain ⟨rfl, rfl⟩ := h2
    simp -implicitDefEqProofs (disch := first | assumption | omega | (simp only [nxB]; omega) | (simp only [oneB])) only [s108, xlen, AV.cells, splice, aload, astore, Nat.reduceAdd, Nat.reduceLeDiff, reduceIte, allB, Bool.not_true]
    refine W_call (ih hx4 hlv l1 s1 h1) ?_
    rintro v H5 ⟨m5, hx5, hk5⟩
    refine ⟨m5.1, ?_⟩
    have hb5 := m5.get hb4 (by omega)
    have hq5 := m5.get hq4 (by omega)
    have hl5 := AHeap.get_lt hb5
    have hlq5 := AHeap.get_lt hq5
    replace mb := mb.trans m5
    have hfin : ∀ kv : AV, KsV H5 (Ge H4.next) l1 kv → PostE H r T tv lv (.mk { kind := 7, name := (tokAt T s.at_).text, pos := (tokAt T s.at_).pos } l1) s1 (.agg (Ea.cells { kind := 7, name := (tokAt T s.at_).text, pos := (tokAt T s.at_).pos } kv)) (H5.set H.next (.row false 11 [Ea.cells { kind := 7, name := (tokAt T s.at_).text, pos := (tokAt T s.at_).pos } kv])) := fun kv hk =>
      PostE.box (lo := H4.next) hx mb hx5.rd (Nat.le_refl _) (by omega) hk _
    have hk5' := hk5
    rcases hk5 with ⟨rfl, _⟩ | ⟨L, i, cap, ro, els, rfl, _⟩ | ⟨L, i, cap, rfl, _⟩
    · simp -implicitDefEqProofs (disch := first | assumption | omega | (simp only [nxB]; omega) | (simp only [oneB])) only [s108, xlen, AV.cells, splice, aload, astore, Nat.reduceAdd, Nat.reduceLeDiff, reduceIte, allB, hb5, hq5, hq4]
      exact W_some.2 (hfin _ hk5')
    · simp -implicitDefEqProofs (disch := first | assumption | omega | (simp only [nxB]; omega) | (simp only [oneB])) only [s108, xlen, AV.cells, splice, aload, astore, Nat.reduceAdd, Nat.reduceLeDiff, reduceIte, allB, hb5, hq5, hq4]
      exact W_some.2 (hfin _ hk5')
    · simp -implicitDefEqProofs (disch := first | assumption | omega | (simp only [nxB]; omega) | (simp only [oneB])) only [s108, xlen, AV.cells, splice, aload, astore, Nat.reduceAdd, Nat.reduceLeDiff, reduceIte, allB, hb5, hq5, hq4]
      exact W_some.2 (hfin _ hk5')
end Go.Proofs.Ytnjoomfeddamcaa

namespace Go.Proofs.Ytnjoomfeddamcaa
open Go.Ev
theorem un122 : P.underlying 122 = some (.map 9 121) := by kernel_rfl
theorem un118 : P.underlying 118 = some (.map 9 120) := by kernel_rfl
theorem un9 : P.underlying 9 = some .string := by kernel_rfl
theorem az121 : azero P 121 = some .nilFunc := by kernel_rfl
theorem az120 : azero P 120 = some .nilFunc := by kernel_rfl
theorem mu122 {H : AHeap} {l : Nat} {es : List (AV × AV)} (k : Bs) (v : AV) (hg : H.get l = some (.map es)) (hf : afind .string (.str k) es 0 = some none) : amapUpdate P H 122 (.map l) (.str k) v = some (H.set l (.map (es ++ [(.str k, v)]))) := by
  simp only [amapUpdate, un122, un9, hg, plainKey, hf, if_true]
theorem mu118 {H : AHeap} {l : Nat} {es : List (AV × AV)} (k : Bs) (v : AV) (hg : H.get l = some (.map es)) (hf : afind .string (.str k) es 0 = some none) : amapUpdate P H 118 (.map l) (.str k) v = some (H.set l (.map (es ++ [(.str k, v)]))) := by
  simp only [amapUpdate, un118, un9, hg, plainKey, hf, if_true]
def fn (n : Nat) : AV := .func (.func n) [] []
def firstsM : List (AV × AV) := [(.str [116, 114, 117, 101], fn 113), (.str [102, 97, 108, 115, 101], fn 113), (.str [110, 117, 108, 108], fn 114), (.str [110, 101, 119], fn 115), (.str [108, 101, 110], fn 116), (.str [114, 101, 97, 100], fn 117), (.str [40], fn 118)]
def behindsM : List (AV × AV) := [(.str [46], fn 110), (.str [91], fn 111)]
theorem firsts_spec (H : AHeap) : W (evw P 109 [] H) fun v H' => v = .map H.next ∧ H' = H.push (.map firstsM) := by
  refine W_of (fun _ => run109 0) ?_
  simp only [s109, xmake_some]
  try simp only [s109]
  rw [mu122 _ _ (AHeap.get_push_same H _) rfl, xstore_some (by simp), AHeap.push_set]
  try simp only [s109]
  rw [mu122 _ _ (AHeap.get_push_same H _) rfl, xstore_some (by simp), AHeap.push_set]
  try simp only [s109]
  rw [mu122 _ _ (AHeap.get_push_same H _) rfl, xstore_some (by simp), AHeap.push_set]
  try simp only [s109]
  rw [mu122 _ _ (AHeap.get_push_same H _) rfl, xstore_some (by simp), AHeap.push_set]
  try simp only [s109]
  rw [mu122 _ _ (AHeap.get_push_same H _) rfl, xstore_some (by simp), AHeap.push_set]
  try simp only [s109]
  rw [mu122 _ _ (AHeap.get_push_same H _) rfl, xstore_some (by simp), AHeap.push_set]
  try simp only [s109]
  rw [mu122 _ _ (AHeap.get_push_same H _) rfl, xstore_some (by simp), AHeap.push_set]
  try simp only [s109]
  exact W_some.2 ⟨rfl, rfl⟩
theorem behinds_spec (H : AHeap) : W (evw P 107 [] H) fun v H' => v = .map H.next ∧ H' = H.push (.map behindsM) := by
  refine W_of (fun _ => run107 0) ?_
  simp only [s107, xmake_some]
  try simp only [s107]
  rw [mu118 _ _ (AHeap.get_push_same H _) rfl, xstore_some (by simp), AHeap.push_set]
  try simp only [s107]
  rw [mu118 _ _ (AHeap.get_push_same H _) rfl, xstore_some (by simp), AHeap.push_set]
  try simp only [s107]
  exact W_some.2 ⟨rfl, rfl⟩
def lookM (t : Bs) : List (AV × AV) → AV
  | [] => .nilFunc
  | (.str k, v) :: r => bif t == k then v else lookM t r
  | _ :: r => lookM t r
theorem afind_look (t : Bs) : ∀ (es : List (AV × AV)) (i : Nat), (∀ e ∈ es, ∃ k, e.1 = .str k) → (∃ j v, afind .string (.str t) es i = some (some (j, v)) ∧ lookM t es = v) ∨ (afind .string (.str t) es i = some none ∧ lookM t es = .nilFunc)
  | [], i, _ => .inr ⟨rfl, rfl⟩
  | (a, v) :: es, i, h => by
    obtain ⟨k, hk⟩ := h (a, v) (by simp)
    simp only at hk
    subst hk
    cases hb : t == k with
    | true => exact .inl ⟨i, v, by simp [afind, keySame, hb], by simp [lookM, hb]⟩
    | false =>
      rcases afind_look t es (i + 1) (fun e he => h e (by simp [he])) with ⟨j, u, h1, h2⟩ | ⟨h1, h2⟩
      · exact .inl ⟨j, u, by simp [afind, keySame, hb, h1], by simp [lookM, hb, h2]⟩
      · exact .inr ⟨by simp [afind, keySame, hb, h1], by simp [lookM, hb, h2]⟩
theorem lk122 {H : AHeap} {l : Nat} (t : Bs) (hg : H.get l = some (.map firstsM)) : alookup P H 122 (.map l) (.str t) false = some (lookM t firstsM) := by
  rcases afind_look t firstsM 0 (by intro e he; simp [firstsM] at he; rcases he with rfl | rfl | rfl | rfl | rfl | rfl | rfl <;> exact ⟨_, rfl⟩) with ⟨j, v, h1, h2⟩ | ⟨h1, h2⟩
  · simp only [alookup, un122, un9, az121, plainKey, if_true, hg, h1, h2, Bool.false_eq_true, if_false]
  · simp only [alookup, un122, un9, az121, plainKey, if_true, hg, h1, h2, Bool.false_eq_true, if_false]
theorem lk118 {H : AHeap} {l : Nat} (t : Bs) (hg : H.get l = some (.map behindsM)) : alookup P H 118 (.map l) (.str t) false = some (lookM t behindsM) := by
  rcases afind_look t behindsM 0 (by intro e he; simp [behindsM] at he; rcases he with rfl | rfl <;> exact ⟨_, rfl⟩) with ⟨j, v, h1, h2⟩ | ⟨h1, h2⟩
  · simp only [alookup, un118, un9, az120, plainKey, if_true, hg, h1, h2, Bool.false_eq_true, if_false]
  · simp only [alookup, un118, un9, az120, plainKey, if_true, hg, h1, h2, Bool.false_eq_true, if_false]
theorem nf121 (n : Nat) : fbin P .neq 121 true (fn n) .nilFunc = some (.bool true) := by kernel_rfl
theorem nf121n : fbin P .neq 121 true .nilFunc .nilFunc = some (.bool false) := by kernel_rfl
theorem ef120 (n : Nat) : fbin P .eql 120 true (fn n) .nilFunc = some (.bool false) := by kernel_rfl
theorem ef120n : fbin P .eql 120 true .nilFunc .nilFunc = some (.bool true) := by kernel_rfl
theorem first_fail {H0 H : AHeap} {r : Nat} {T : List Tok} {tv lv : AV} {s0 s : St} (hx0 : Rx H0 r T tv lv s0) (mb : Mt r H0 H) (hrd : Rd H r tv lv s) (hb : H.get H0.next = some (.row false 11 [[.int .i64 0, .int .i64 0, .str [], .str [], .int .i64 0, .nilSl, .int .i64 0, .int .i64 0, .int .i64 0, .int .i64 0, .int .i64 0]])) :
    W (s106_j0 (evw P) (.ptr r 0 0) (.ptr H0.next 0 0) H) (PostE H0 r T tv lv .zero (failS T 2 s)) := by
  have hl := hx0.rd.lt
  rw [s106_j0]
  refine W_call (fail_spec (hx0.mut mb hrd) 2) ?_
  rintro _ H1 ⟨rfl, m1, hx1⟩
  refine ⟨m1.1, ?_⟩
  have hb1 := m1.get hb (by omega)
  have hl1 := AHeap.get_lt hb1
  simp -implicitDefEqProofs (disch := first | assumption | omega | (simp only [nxB]; omega) | (simp only [oneB])) only [s106_j0, s106_j1, s106, xlen, AV.cells, splice, aload, astore, Nat.reduceAdd, Nat.reduceLeDiff, reduceIte, allB, hb1]
  exact W_some.2 (PostE.ret hx0 (mb.trans m1) hx1.rd (Nat.le_refl _) (ExV.leaf _ (Ge (H0.next + 1)) { kind := 0 }) (Nat.lt_succ_self _) _)
theorem first_go {H0 H : AHeap} {r : Nat} {T : List Tok} {tv lv : AV} {s0 s : St} (hx0 : Rx H0 r T tv lv s0) (mb : Mt r H0 H) (hrd : Rd H r tv lv s) (hb : H.get H0.next = some (.row false 11 [[.int .i64 0, .int .i64 0, .str [], .str [], .int .i64 0, .nilSl, .int .i64 0, .int .i64 0, .int .i64 0, .int .i64 0, .int .i64 0]])) {b : Nat} (hbb : H0.next < b) (hq : H.get b = some (.row false 4 [[.int .i64 (tokAt T s.at_).kind, .str (tokAt T s.at_).text, .int .i64 (tokAt T s.at_).n, .int .i64 (tokAt T s.at_).pos]]))
    {k : Nat} (hlk : lookM (tokAt T s.at_).text firstsM = fn k) (hfl : (((tokAt T s.at_).kind == 4) == ((tokAt T s.at_).text == [40])) = true) {e : Ex} {s' : St} (hc : ∀ Hc, Rx Hc r T tv lv s → W (evw P k [.ptr r 0 0] Hc) (PostE Hc r T tv lv e s')) :
    W (s106_j1 (evw P) (.ptr r 0 0) (.ptr H0.next 0 0) (.ptr b 0 0) (.bool true) H) (PostE H0 r T tv lv e s') := by
  have hl := hx0.rd.lt
  have hlb := AHeap.get_lt hb
  have hlq := AHeap.get_lt hq
  simp -implicitDefEqProofs (disch := first | assumption | omega | (simp only [nxB]; omega) | (simp only [oneB])) only [s106_j1, s106, xlen, AV.cells, splice, aload, astore, Nat.reduceAdd, Nat.reduceLeDiff, reduceIte, allB]
  refine W_call (firsts_spec H) ?_
  rintro _ H1 ⟨rfl, rfl⟩
  refine ⟨(Pur.push _ _).1, ?_⟩
  have p1 := Pur.push H (.map firstsM)
  have hlook := lk122 (tokAt T s.at_).text (AHeap.get_push_same H (.map firstsM))
  simp -implicitDefEqProofs (disch := first | assumption | omega | (simp only [nxB]; omega) | (simp only [oneB])) only [s106_j1, s106, xlen, AV.cells, splice, aload, astore, Nat.reduceAdd, Nat.reduceLeDiff, reduceIte, allB, hq, hlook, hlk, nf121, hfl]
  simp only [fn, xapply_fn, List.nil_append, List.append_nil]
  refine W_call (hc _ ((hx0.mut mb hrd).pur p1)) ?_
  rintro v H2 ⟨m2, hx2, he2⟩
  refine ⟨m2.1, ?_⟩
  have hb2 := m2.get (p1.get hb) (by omega)
  have hlb2 := AHeap.get_lt hb2
  obtain ⟨cs, rfl, hlen, hone⟩ := he2.cells
  have ht : List.take 11 cs = cs := List.take_of_length_le (by omega)
  simp -implicitDefEqProofs (disch := first | assumption | omega | (simp only [nxB]; omega) | (simp only [oneB])) only [s106_j1, s106, xlen, AV.cells, splice, aload, astore, Nat.reduceAdd, Nat.reduceLeDiff, reduceIte, allB, hb2, hlen, hone, List.append_nil, ht]
  have hm := mb.1
  exact W_some.2 (PostE.ret hx0 ((mb.trans (p1.mut _)).trans m2) hx2.rd (Nat.le_refl _) he2 (by simp only [AHeap.next_push]; omega) _)
theorem first_no {H0 H : AHeap} {r : Nat} {T : List Tok} {tv lv : AV} {s0 s : St} (hx0 : Rx H0 r T tv lv s0) (mb : Mt r H0 H) (hrd : Rd H r tv lv s) (hb : H.get H0.next = some (.row false 11 [[.int .i64 0, .int .i64 0, .str [], .str [], .int .i64 0, .nilSl, .int .i64 0, .int .i64 0, .int .i64 0, .int .i64 0, .int .i64 0]])) {b : Nat} (hbb : H0.next < b) (hq : H.get b = some (.row false 4 [[.int .i64 (tokAt T s.at_).kind, .str (tokAt T s.at_).text, .int .i64 (tokAt T s.at_).n, .int .i64 (tokAt T s.at_).pos]]))
    (hlk : lookM (tokAt T s.at_).text firstsM = .nilFunc ∨ ∃ k, lookM (tokAt T s.at_).text firstsM = fn k ∧ (((tokAt T s.at_).kind == 4) == ((tokAt T s.at_).text == [40])) = false) :
    W (s106_j1 (evw P) (.ptr r 0 0) (.ptr H0.next 0 0) (.ptr b 0 0) (.bool true) H) (PostE H0 r T tv lv .zero (failS T 2 s)) := by
  have hl := hx0.rd.lt
  have hlb := AHeap.get_lt hb
  have hlq := AHeap.get_lt hq
  simp -implicitDefEqProofs (disch := first | assumption | omega | (simp only [nxB]; omega) | (simp only [oneB])) only [s106_j1, s106, xlen, AV.cells, splice, aload, astore, Nat.reduceAdd, Nat.reduceLeDiff, reduceIte, allB]
  refine W_call (firsts_spec H) ?_
  rintro _ H1 ⟨rfl, rfl⟩
  refine ⟨(Pur.push _ _).1, ?_⟩
  have p1 := Pur.push H (.map firstsM)
  have hlook := lk122 (tokAt T s.at_).text (AHeap.get_push_same H (.map firstsM))
  rcases hlk with hlk | ⟨k, hlk, hfl⟩
  · simp -implicitDefEqProofs (disch := first | assumption | omega | (simp only [nxB]; omega) | (simp only [oneB])) only [s106_j1, s106, xlen, AV.cells, splice, aload, astore, Nat.reduceAdd, Nat.reduceLeDiff, reduceIte, allB, hq, hlook, hlk, nf121n]
    exact first_fail hx0 (mb.trans (p1.mut _)) (hrd.pur p1) (p1.get hb)
  · simp -implicitDefEqProofs (disch := first | assumption | omega | (simp only [nxB]; omega) | (simp only [oneB])) only [s106_j1, s106, xlen, AV.cells, splice, aload, astore, Nat.reduceAdd, Nat.reduceLeDiff, reduceIte, allB, hq, hlook, hlk, nf121, hfl]
    exact first_fail hx0 (mb.trans (p1.mut _)) (hrd.pur p1) (p1.get hb)
theorem bnf {t x : Bs} (h : ¬ t = x) : (t == x) = false := by simpa using h
theorem look_any (t : Bs) : lookM t firstsM = .nilFunc ∨ ∃ k, lookM t firstsM = fn k := by
  by_cases t1 : t = [116, 114, 117, 101]
  · subst t1; exact .inr ⟨113, rfl⟩
  by_cases t2 : t = [102, 97, 108, 115, 101]
  · subst t2; exact .inr ⟨113, rfl⟩
  by_cases t3 : t = [110, 117, 108, 108]
  · subst t3; exact .inr ⟨114, rfl⟩
  by_cases t4 : t = [110, 101, 119]
  · subst t4; exact .inr ⟨115, rfl⟩
  by_cases t5 : t = [108, 101, 110]
  · subst t5; exact .inr ⟨116, rfl⟩
  by_cases t6 : t = [114, 101, 97, 100]
  · subst t6; exact .inr ⟨117, rfl⟩
  by_cases t7 : t = [40]
  · subst t7; exact .inr ⟨118, rfl⟩
  exact .inl (by simp [lookM, firstsM, bnf t1, bnf t2, bnf t3, bnf t4, bnf t5, bnf t6, bnf t7])
theorem first_step {n : Nat} (ihN : NameOk n) (ihF : FreshOk n) (ihS : SingleOk n) : FirstOk (n + 1) := by
  intro H r T tv lv s hx hlv e s' h
  refine W_of (fun _ => run106 0) ?_
  have hl := hx.rd.lt
  have ho1 := hx.tk.one
  have ho2 := hx.lv.one
  have p1 := Pur.push H (.row false 11 [[.int .i64 0, .int .i64 0, .str [], .str [], .int .i64 0, .nilSl, .int .i64 0, .int .i64 0, .int .i64 0, .int .i64 0, .int .i64 0]])
  simp -implicitDefEqProofs (disch := first | assumption | omega | (simp only [nxB]; omega) | (simp only [oneB])) only [s106, xlen, AV.cells, splice, aload, astore, Nat.reduceAdd, Nat.reduceLeDiff, reduceIte, allB]
  refine W_call (failed_spec (hx.rd.pur p1)) ?_
  rintro _ H1 ⟨rfl, rfl⟩
  refine ⟨Nat.le_refl _, ?_⟩
  simp only [firstF] at h
  by_cases hf : s.fe = 0
  · rw [if_neg (by simpa using hf)] at h
    simp -implicitDefEqProofs (disch := first | assumption | omega | (simp only [nxB]; omega) | (simp only [oneB])) only [s106, xlen, AV.cells, splice, aload, astore, Nat.reduceAdd, Nat.reduceLeDiff, reduceIte, allB, hf, bne_self_eq_false]
    refine W_call (tok_spec (hx.rd.pur p1) (hx.tk.pur p1)) ?_
    rintro _ H2 ⟨rfl, p2⟩
    refine ⟨p2.1, ?_⟩
    have hn2 := p2.1
    simp only [AHeap.next_push] at hn2
    have p3 := (p1.trans p2).then_push (.row false 4 [[.int .i64 (tokAt T s.at_).kind, .str (tokAt T s.at_).text, .int .i64 (tokAt T s.at_).n, .int .i64 (tokAt T s.at_).pos]])
    have hq := AHeap.get_push_same H2 (.row false 4 [[.int .i64 (tokAt T s.at_).kind, .str (tokAt T s.at_).text, .int .i64 (tokAt T s.at_).n, .int .i64 (tokAt T s.at_).pos]])
    have hb := (Pur.push H2 (.row false 4 [[.int .i64 (tokAt T s.at_).kind, .str (tokAt T s.at_).text, .int .i64 (tokAt T s.at_).n, .int .i64 (tokAt T s.at_).pos]])).get (p2.get (AHeap.get_push_same H _))
    have hx3 := hx.pur p3
    have mb := p3.mut (· = r)
    have hr2 := hx3.rd
    unfold Rd at hr2
    by_cases h2 : (tokAt T s.at_).kind = 2
    · rw [if_pos h2] at h
      simp only [Option.some.injEq, Prod.mk.injEq] at h
      obtain ⟨rfl, rfl⟩ := h
      have hlr := hx3.rd.lt
      have hb' : H2.get H.next = some (.row false 11 [[.int .i64 0, .int .i64 0, .str [], .str [], .int .i64 0, .nilSl, .int .i64 0, .int .i64 0, .int .i64 0, .int .i64 0, .int .i64 0]]) := p2.get (AHeap.get_push_same H _)
      have hr3 := hx.rd.pur (p1.trans p2)
      unfold Rd at hr3
      simp -implicitDefEqProofs (disch := first | assumption | omega | (simp only [nxB]; omega) | (simp only [oneB])) only [s106, xlen, AV.cells, splice, aload, astore, Nat.reduceAdd, Nat.reduceLeDiff, reduceIte, allB, Tok.v, h2, beq_self_eq_true, hr3, ho1, ho2, hb']
      refine W_some.2 ?_
      refine PostE.box (a := { kind := 1, n := (tokAt T s.at_).n, pos := (tokAt T s.at_).pos }) (kv := .nilSl) (s' := goS s) (lo := H.next + 1) hx ?_ ?_ (Nat.le_refl _) (Nat.lt_succ_self _) (KsV.nil _ _) _
      · rw [← h2]; (repeat (first | exact mb | refine Mut.then_push ?_ _ | refine Mut.then_set (S := (· = r)) ?_ (.inl rfl) _ | refine Mut.then_set ?_ (.inr (by (first | omega | (simp only [AHeap.next_push, AHeap.next_set]; omega)))) _))
      · rw [← h2]; (unfold Rd; simp -implicitDefEqProofs (disch := first | assumption | omega | (simp only [nxB]; omega) | (simp only [oneB])) only [heapB, hr2, goS, outS])
    · rw [if_neg h2] at h
      have h2' : ((tokAt T s.at_).kind == 2) = false := by simpa using h2
      by_cases h1 : (tokAt T s.at_).kind = 1
      · rw [if_pos h1] at h
        have h1' : ((tokAt T s.at_).kind == 1) = true := by simpa using h1
        simp -implicitDefEqProofs (disch := first | assumption | omega | (simp only [nxB]; omega) | (simp only [oneB])) only [s106, xlen, AV.cells, splice, aload, astore, Nat.reduceAdd, Nat.reduceLeDiff, reduceIte, allB, Tok.v, h2', h1']
        refine W_call (ihN hx3 hlv e s' h) ?_
        rintro v H4 ⟨m4, hx4, he4⟩
        refine ⟨m4.1, ?_⟩
        have hb4 := m4.get hb (by omega)
        have hlb4 := AHeap.get_lt hb4
        obtain ⟨cs, rfl, hlen, hone⟩ := he4.cells
        have ht : List.take 11 cs = cs := List.take_of_length_le (by omega)
        simp -implicitDefEqProofs (disch := first | assumption | omega | (simp only [nxB]; omega) | (simp only [oneB])) only [s106, xlen, AV.cells, splice, aload, astore, Nat.reduceAdd, Nat.reduceLeDiff, reduceIte, allB, hb4, hlen, hone, List.append_nil, ht]
        exact W_some.2 (PostE.ret hx (mb.trans m4) hx4.rd (Nat.le_refl _) he4 (by simp only [AHeap.next_push]; omega) _)
      · rw [if_neg h1] at h
        have h1' : ((tokAt T s.at_).kind == 1) = false := by simpa using h1
        by_cases h34 : (tokAt T s.at_).kind = 3 ∨ (tokAt T s.at_).kind = 4
        · rw [if_pos h34] at h
          have go : W (s106_j1 (evw P) (.ptr r 0 0) (.ptr H.next 0 0) (.ptr H2.next 0 0) (.bool true) (H2.push (.row false 4 [[.int .i64 (tokAt T s.at_).kind, .str (tokAt T s.at_).text, .int .i64 (tokAt T s.at_).n, .int .i64 (tokAt T s.at_).pos]]))) (PostE H r T tv lv e s') := by
            by_cases h4 : (tokAt T s.at_).kind = 4
            · have h4' : ((tokAt T s.at_).kind == 4) = true := by simpa using h4
              simp only [h4', cond_true] at h
              by_cases t7 : (tokAt T s.at_).text = [40]
              · simp only [t7, beq_self_eq_true, cond_true] at h
                exact first_go hx mb hx3.rd hb (by omega) hq (k := 118) (by rw [t7]; rfl) (by simp [h4, t7]) fun Hc hxc => within_spec ihS hxc hlv h
              · have t7' : ((tokAt T s.at_).text == [40]) = false := by simpa using t7
                simp only [t7', cond_false, Option.some.injEq, Prod.mk.injEq] at h
                obtain ⟨rfl, rfl⟩ := h
                refine first_no hx mb hx3.rd hb (by omega) hq ?_
                rcases look_any (tokAt T s.at_).text with hk | ⟨k, hk⟩
                · exact .inl hk
                · exact .inr ⟨k, hk, by rw [h4', t7']; rfl⟩
            · have h4' : ((tokAt T s.at_).kind == 4) = false := by simpa using h4
              simp only [h4', cond_false] at h
              have hflag : ∀ t : Bs, (tokAt T s.at_).text = t → t ≠ [40] → (((tokAt T s.at_).kind == 4) == ((tokAt T s.at_).text == [40])) = true := by
                intro t ht hne
                rw [h4', ht, show (t == [40]) = false by simpa using hne]; rfl
              by_cases t1 : (tokAt T s.at_).text = [116, 114, 117, 101]
              · have h' : some (truthS T s) = some (e, s') := by rw [← h]; simp [t1]
                simp only [Option.some.injEq] at h'
                refine first_go hx mb hx3.rd hb (by omega) hq (k := 113) (by rw [t1]; rfl) (hflag _ t1 (by decide)) fun Hc hxc => ?_
                have := truth_spec hxc
                rw [h'] at this; exact this
              by_cases t2 : (tokAt T s.at_).text = [102, 97, 108, 115, 101]
              · have h' : some (truthS T s) = some (e, s') := by rw [← h]; simp [t2]
                simp only [Option.some.injEq] at h'
                refine first_go hx mb hx3.rd hb (by omega) hq (k := 113) (by rw [t2]; rfl) (hflag _ t2 (by decide)) fun Hc hxc => ?_
                have := truth_spec hxc
                rw [h'] at this; exact this
              by_cases t3 : (tokAt T s.at_).text = [110, 117, 108, 108]
              · have h' : some (nullS T s) = some (e, s') := by rw [← h]; simp [t3]
                simp only [Option.some.injEq] at h'
                refine first_go hx mb hx3.rd hb (by omega) hq (k := 114) (by rw [t3]; rfl) (hflag _ t3 (by decide)) fun Hc hxc => ?_
                have := null_spec hxc
                rw [h'] at this; exact this
              by_cases t4 : (tokAt T s.at_).text = [110, 101, 119]
              · have h' : freshF T n s = some (e, s') := by rw [← h]; simp [t4]
                exact first_go hx mb hx3.rd hb (by omega) hq (k := 115) (by rw [t4]; rfl) (hflag _ t4 (by decide)) fun Hc hxc => ihF hxc hlv e s' h'
              by_cases t5 : (tokAt T s.at_).text = [108, 101, 110]
              · have h' : ((singleF T n [40] [41] (goS s)).bind fun p => some (.mk { kind := 10, pos := (tokAt T s.at_).pos } [p.1], p.2)) = some (e, s') := by rw [← h]; simp [t5]
                simp only [Option.bind_eq_some_iff] at h'
                obtain ⟨⟨e1, s1⟩, g1, g2⟩ := h'
                simp only [Option.some.injEq, Prod.mk.injEq] at g2
                obtain ⟨rfl, rfl⟩ := g2
                exact first_go hx mb hx3.rd hb (by omega) hq (k := 116) (by rw [t5]; rfl) (hflag _ t5 (by decide)) fun Hc hxc => length_spec ihS hxc hlv g1
              by_cases t6 : (tokAt T s.at_).text = [114, 101, 97, 100]
              · have h' : some (readS T s) = some (e, s') := by rw [← h]; simp [t6]
                simp only [Option.some.injEq] at h'
                refine first_go hx mb hx3.rd hb (by omega) hq (k := 117) (by rw [t6]; rfl) (hflag _ t6 (by decide)) fun Hc hxc => ?_
                have := read_spec hxc
                rw [h'] at this; exact this
              have h' : some (Ex.zero, failS T 2 s) = some (e, s') := by rw [← h]; simp [bnf t1, bnf t2, bnf t3, bnf t4, bnf t5, bnf t6]
              simp only [Option.some.injEq, Prod.mk.injEq] at h'
              obtain ⟨rfl, rfl⟩ := h'
              refine first_no hx mb hx3.rd hb (by omega) hq ?_
              by_cases t7 : (tokAt T s.at_).text = [40]
              · exact .inr ⟨118, by rw [t7]; rfl, by rw [h4', t7]; rfl⟩
              · exact .inl (by simp [lookM, firstsM, bnf t1, bnf t2, bnf t3, bnf t4, bnf t5, bnf t6, bnf t7])
          rcases h34 with h3 | h4
          · have h3' : ((tokAt T s.at_).kind == 3) = true := by simpa using h3
            simp -implicitDefEqProofs (disch := first | assumption | omega | (simp only [nxB]; omega) | (simp only [oneB])) only [s106, xlen, AV.cells, splice, aload, astore, Nat.reduceAdd, Nat.reduceLeDiff, reduceIte, allB, Tok.v, h2', h1', h3']
            exact go
          · have h3' : ((tokAt T s.at_).kind == 3) = false := by simp [h4]
            have h4' : ((tokAt T s.at_).kind == 4) = true := by simpa using h4
            simp -implicitDefEqProofs (disch := first | assumption | omega | (simp only [nxB]; omega) | (simp only [oneB])) only [s106, xlen, AV.cells, splice, aload, astore, Nat.reduceAdd, Nat.reduceLeDiff, reduceIte, allB, Tok.v, h2', h1', h3', h4']
            exact go
        · rw [if_neg h34] at h
          simp only [Option.some.injEq, Prod.mk.injEq] at h
          obtain ⟨rfl, rfl⟩ := h
          have h3' : ((tokAt T s.at_).kind == 3) = false := by simp; omega
          have h4' : ((tokAt T s.at_).kind == 4) = false := by simp; omega
          simp -implicitDefEqProofs (disch := first | assumption | omega | (simp only [nxB]; omega) | (simp only [oneB])) only [s106_j1, s106, xlen, AV.cells, splice, aload, astore, Nat.reduceAdd, Nat.reduceLeDiff, reduceIte, allB, Tok.v, h2', h1', h3', h4']
          exact first_fail hx mb hx3.rd hb
  · rw [if_pos (by simpa using hf)] at h
    simp only [Option.some.injEq, Prod.mk.injEq] at h
    obtain ⟨rfl, rfl⟩ := h
    have hf' : (s.fe != 0) = true := by simpa using hf
    simp -implicitDefEqProofs (disch := first | assumption | omega | (simp only [nxB]; omega) | (simp only [oneB])) only [s106, xlen, AV.cells, splice, aload, astore, Nat.reduceAdd, Nat.reduceLeDiff, reduceIte, allB, hf']
    exact W_some.2 ⟨p1.mut _, hx.pur p1, ExV.leaf _ _ { kind := 0 }⟩
end Go.Proofs.Ytnjoomfeddamcaa

namespace Go.Proofs.Ytnjoomfeddamcaa
open Go.Ev
theorem chain_end {N : Nat} {H0 H : AHeap} {r : Nat} {T : List Tok} {tv lv : AV} {s0 s : St} (hx0 : Rx H0 r T tv lv s0) (mb : Mt r H0 H) (hrd : Rd H r tv lv s) {b3 : Nat} {cs zs : List AV} {e : Ex} (hb2 : H.get H0.next = some (.row false 11 [zs])) (hz : zs.length = 11) (hb3 : H.get b3 = some (.row false 11 [cs])) (h3 : H0.next < b3)
    (he : ExV H (fun l => H0.next < l ∧ l ≠ b3) e (.agg cs)) : W (s102_j0 (evw P) N (.ptr H0.next 0 0) (.ptr b3 0 0) H) (PostE H0 r T tv lv e s) := by
  have hl := hx0.rd.lt
  have hl2 := AHeap.get_lt hb2
  have hl3 := AHeap.get_lt hb3
  obtain ⟨cs', hcs, hlen, hone⟩ := he.cells
  cases hcs
  have ht : List.take 11 cs = cs := List.take_of_length_le (by omega)
  have hd : List.drop 11 zs = [] := List.drop_of_length_le (by omega)
  simp -implicitDefEqProofs (disch := first | assumption | omega | (simp only [nxB]; omega) | (simp only [oneB])) only [s102_j0, s102_5, s102_b1, s102, xlen, AV.cells, splice, aload, astore, Nat.reduceAdd, Nat.reduceLeDiff, reduceIte, allB, hb2, hb3, hlen, hone, List.append_nil, ht, hd]
  have m' := mb.then_set (.inr (Nat.le_refl _)) (.row false 11 [cs])
  refine W_some.2 ⟨m', hx0.mut m' ?_, he.keep (Keep.set _ (by omega) fun l h => by unfold Ge; omega) e _⟩
  unfold Rd at hrd ⊢
  rw [AHeap.get_set_other (by omega)]; exact hrd
theorem chain_loop {N : Nat} (ih : ∀ k, k < N → SingleOk k) {H0 : AHeap} {r : Nat} {T : List Tok} {tv lv : AV} {s0 : St} (hx0 : Rx H0 r T tv lv s0) (hlv : lv ≠ .nilSl) {b3 M : Nat} (h3 : H0.next < b3) (hM : H0.next < M) (hM3 : M ≠ b3) :
    ∀ (n m : Nat), n < N → n < m → ∀ (H : AHeap) (s : St) (e : Ex) (cs zs : List AV), Mt r H0 H → Rd H r tv lv s → H.get H0.next = some (.row false 11 [zs]) → zs.length = 11 → H.get b3 = some (.row false 11 [cs]) → H.get M = some (.map behindsM) →
      ExV H (fun l => H0.next < l ∧ l ≠ b3) e (.agg cs) → ∀ (e' : Ex) (s' : St), chainL T n e s = some (e', s') →
      W (s102_l1 (evw P) N m (.ptr r 0 0) (.ptr H0.next 0 0) (.ptr b3 0 0) (.map M) H) (PostE H0 r T tv lv e' s')
  | 0, m, hN, hm, H, s, e, cs, zs, mb, hrd, hb2, hz, hb3, hgM, he, e', s', h => by simp [chainL] at h
  | n + 1, 0, hN, hm, H, s, e, cs, zs, mb, hrd, hb2, hz, hb3, hgM, he, e', s', h => by omega
  | n + 1, m + 1, hN, hm, H, s, e, cs, zs, mb, hrd, hb2, hz, hb3, hgM, he, e', s', h => by
    have hl := hx0.rd.lt
    have hx := hx0.mut mb hrd
    have hl3 := AHeap.get_lt hb3
    obtain ⟨cs', hcs, hlen, hone⟩ := he.cells
    cases hcs
    have ht : List.take 11 cs = cs := List.take_of_length_le (by omega)
    simp only [chainL] at h
    simp only [s102_l1]
    rw [s102_b1]
    refine W_call (failed_spec hrd) ?_
    rintro _ H1 ⟨rfl, rfl⟩
    refine ⟨Nat.le_refl _, ?_⟩
    by_cases hf : s.fe = 0
    · have hf' : (s.fe == 0) = true := by simpa using hf
      simp -implicitDefEqProofs (disch := first | assumption | omega | (simp only [nxB]; omega) | (simp only [oneB])) only [s102_5, s102, xlen, AV.cells, splice, aload, astore, Nat.reduceAdd, Nat.reduceLeDiff, reduceIte, allB, hf, bne_self_eq_false, Bool.not_false]
      refine W_eff (tok_spec hrd hx.tk) ?_
      rintro _ H2 ⟨rfl, p2⟩
      refine ⟨p2.1, ?_⟩
      cases hk : (tokAt T s.at_).kind == 4 with
      | false =>
        simp only [hf', hk, Bool.and_false, cond_false, Option.some.injEq, Prod.mk.injEq] at h
        obtain ⟨rfl, rfl⟩ := h
        simp -implicitDefEqProofs (disch := first | assumption | omega | (simp only [nxB]; omega) | (simp only [oneB])) only [s102_5, s102, xlen, AV.cells, splice, aload, astore, Nat.reduceAdd, Nat.reduceLeDiff, reduceIte, allB, Tok.v, hk]
        exact chain_end hx0 (mb.trans (p2.mut _)) (hrd.pur p2) (p2.get hb2) hz (p2.get hb3) h3 (he.keep (Keep.pur p2 fun _ h => h) e _)
      | true =>
        simp only [hf', hk, Bool.and_self, cond_true] at h
        simp -implicitDefEqProofs (disch := first | assumption | omega | (simp only [nxB]; omega) | (simp only [oneB])) only [s102_5, s102, xlen, AV.cells, splice, aload, astore, Nat.reduceAdd, Nat.reduceLeDiff, reduceIte, allB, Tok.v, hk]
        refine W_call (tok_spec (hrd.pur p2) (hx.tk.pur p2)) ?_
        rintro _ H3 ⟨rfl, p3⟩
        refine ⟨p3.1, ?_⟩
        have p4 := p2.trans p3
        have hlook := lk118 (tokAt T s.at_).text (p4.get hgM)
        have hb34 := p4.get hb3
        have hl34 := AHeap.get_lt hb34
        have hm4 := p4.1
        have he4 := he.keep (Keep.pur p4 fun _ h => h) e _
        have hx4 := hx.pur p4
        have mb4 := mb.trans (p4.mut _)
        have next : ∀ (H5 : AHeap) (v : AV) (e5 : Ex) (s5 : St), PostL (fun l => H0.next < l ∧ l ≠ b3) H3 r T tv lv e5 s5 v H5 → chainL T n e5 s5 = some (e', s') → H3.next ≤ H5.next ∧ W (s102_5 (s102_l1 (evw P) N m) (.ptr b3 0 0) (.ptr r 0 0) (.ptr H0.next 0 0) (.map M) v H5) (PostE H0 r T tv lv e' s') := by
          rintro H5 v e5 s5 ⟨m5, hx5, he5⟩ h5
          refine ⟨m5.1, ?_⟩
          obtain ⟨ds, rfl, hlen', hone'⟩ := he5.cells
          have hb35 := m5.get hb34 (by omega)
          have hl35 := AHeap.get_lt hb35
          have hd : List.drop 11 cs = [] := List.drop_of_length_le (by omega)
          simp -implicitDefEqProofs (disch := first | assumption | omega | (simp only [nxB]; omega) | (simp only [oneB])) only [s102_5, s102, xlen, AV.cells, splice, aload, astore, Nat.reduceAdd, Nat.reduceLeDiff, reduceIte, allB, hb35, hlen', hone', List.append_nil, hd]
          have m6 := (mb4.trans m5).then_set (.inr (Nat.le_of_lt h3)) (.row false 11 [ds])
          refine chain_loop ih hx0 hlv h3 hM hM3 n m (by omega) (by omega) _ s5 e5 ds zs m6 ?_ ?_ hz (AHeap.get_set_same hl35) ?_ (he5.keep (Keep.set _ (by omega) fun l h => h) e5 _) e' s' h5
          · have := hx5.rd
            unfold Rd at this ⊢
            rw [AHeap.get_set_other (by omega)]; exact this
          · rw [AHeap.get_set_other (by omega)]; exact m5.get (p4.get hb2) (by omega)
          · rw [AHeap.get_set_other (by omega)]; exact m5.get (p4.get hgM) (by omega)
        by_cases t1 : (tokAt T s.at_).text = [46]
        · simp only [t1, beq_self_eq_true, cond_true] at h
          have hlk : lookM (tokAt T s.at_).text behindsM = fn 110 := by rw [t1]; rfl
          simp -implicitDefEqProofs (disch := first | assumption | omega | (simp only [nxB]; omega) | (simp only [oneB])) only [s102, xlen, AV.cells, splice, aload, astore, Nat.reduceAdd, Nat.reduceLeDiff, reduceIte, allB, Tok.v, hlook, hlk, ef120, hb34, ht]
          simp only [fn, xapply_fn, List.nil_append, List.append_nil]
          refine W_call (field_spec (ok := fun l => H0.next < l ∧ l ≠ b3) hx4 he4 (by omega) (fun l hl => by omega)) ?_
          intro v H5 hp
          exact next H5 v _ _ hp h
        · by_cases t2 : (tokAt T s.at_).text = [91]
          · simp only [t2, beq_self_eq_true, cond_true, show (([91] : Bs) == [46]) = false by rfl, cond_false, Option.bind_eq_some_iff] at h
            obtain ⟨⟨e1, s1⟩, g1, g2⟩ := h
            have hlk : lookM (tokAt T s.at_).text behindsM = fn 111 := by rw [t2]; rfl
            simp -implicitDefEqProofs (disch := first | assumption | omega | (simp only [nxB]; omega) | (simp only [oneB])) only [s102, xlen, AV.cells, splice, aload, astore, Nat.reduceAdd, Nat.reduceLeDiff, reduceIte, allB, Tok.v, hlook, hlk, ef120, hb34, ht]
            simp only [fn, xapply_fn, List.nil_append, List.append_nil]
            refine W_call (item_spec (ih n (by omega)) (ok := fun l => H0.next < l ∧ l ≠ b3) hx4 hlv he4 (by omega) (fun l hl => by omega) g1) ?_
            intro v H5 hp
            exact next H5 v _ _ hp g2
          · simp only [bnf t1, bnf t2, cond_false, Option.some.injEq, Prod.mk.injEq] at h
            obtain ⟨rfl, rfl⟩ := h
            have hlk : lookM (tokAt T s.at_).text behindsM = .nilFunc := by simp [lookM, behindsM, bnf t1, bnf t2]
            simp -implicitDefEqProofs (disch := first | assumption | omega | (simp only [nxB]; omega) | (simp only [oneB])) only [s102_5, s102, xlen, AV.cells, splice, aload, astore, Nat.reduceAdd, Nat.reduceLeDiff, reduceIte, allB, Tok.v, hlook, hlk, ef120n]
            exact chain_end hx0 mb4 hx4.rd (p4.get hb2) hz hb34 h3 he4
    · have hf' : (s.fe == 0) = false := by simpa using hf
      have hf2 : (s.fe != 0) = true := by simpa using hf
      simp only [hf', Bool.false_and, cond_false, Option.some.injEq, Prod.mk.injEq] at h
      obtain ⟨rfl, rfl⟩ := h
      simp -implicitDefEqProofs (disch := first | assumption | omega | (simp only [nxB]; omega) | (simp only [oneB])) only [s102_5, s102, xlen, AV.cells, splice, aload, astore, Nat.reduceAdd, Nat.reduceLeDiff, reduceIte, allB, hf2, Bool.not_true]
      exact chain_end hx0 mb hrd hb2 hz hb3 h3 he
theorem chain_step {n : Nat} (ihF : FirstOk n) (ihS : ∀ k, k ≤ n → SingleOk k) : ChainOk (n + 1) := by
  intro H r T tv lv s hx hlv e s' h
  refine W_of (fun _ => run102 (n + 1)) ?_
  have hl := hx.rd.lt
  simp only [chainF, Option.bind_eq_some_iff] at h
  obtain ⟨⟨e1, s1⟩, h1, h2⟩ := h
  have p1 := Pur.push H (.row false 11 [[.int .i64 0, .int .i64 0, .str [], .str [], .int .i64 0, .nilSl, .int .i64 0, .int .i64 0, .int .i64 0, .int .i64 0, .int .i64 0]])
  simp -implicitDefEqProofs (disch := first | assumption | omega | (simp only [nxB]; omega) | (simp only [oneB])) only [s102_5, s102, xlen, AV.cells, splice, aload, astore, Nat.reduceAdd, Nat.reduceLeDiff, reduceIte, allB]
  refine W_call (ihF (hx.pur p1) hlv e1 s1 h1) ?_
  rintro v H2 ⟨m2, hx2, he2⟩
  refine ⟨m2.1, ?_⟩
  have hm2 := m2.1
  simp only [AHeap.next_push] at hm2
  obtain ⟨cs, rfl, hlen, hone⟩ := he2.cells
  simp -implicitDefEqProofs (disch := first | assumption | omega | (simp only [nxB]; omega) | (simp only [oneB])) only [s102_5, s102, xlen, AV.cells, splice, aload, astore, Nat.reduceAdd, Nat.reduceLeDiff, reduceIte, allB, hlen, hone, List.append_nil]
  have p3 := Pur.push H2 (.row false 11 [cs])
  refine W_call (behinds_spec _) ?_
  rintro _ H4 ⟨rfl, rfl⟩
  refine ⟨(Pur.push _ _).1, ?_⟩
  have p4 := p3.then_push (.map behindsM)
  simp only [s102_5, s102, AHeap.next_push]
  have hb2 := m2.get (AHeap.get_push_same H (.row false 11 [[.int .i64 0, .int .i64 0, .str [], .str [], .int .i64 0, .nilSl, .int .i64 0, .int .i64 0, .int .i64 0, .int .i64 0, .int .i64 0]])) (by omega)
  refine chain_loop (N := n + 1) (fun k hk => ihS k (by omega)) hx hlv (b3 := H2.next) (M := H2.next + 1) (by omega) (by omega) (by omega) n (n + 1) (by omega) (by omega) _ s1 e1 cs _ (((p1.mut _).trans m2).trans (p4.mut _)) (hx2.rd.pur p4) (p4.get hb2) rfl ?_ ?_ ?_ e s' h2
  · simp -implicitDefEqProofs (disch := first | assumption | omega | (simp only [nxB]; omega) | (simp only [oneB])) only [heapB]
  · simp -implicitDefEqProofs (disch := first | assumption | omega | (simp only [nxB]; omega) | (simp only [oneB])) only [heapB]
  · exact he2.keep (fun l ro els hl' hg => by
      have := AHeap.get_lt hg
      unfold Ge at hl'
      simp only [AHeap.next_push] at hl'
      exact ⟨⟨by omega, by omega⟩, p4.get hg⟩) e1 _
theorem unary_sign {n : Nat} (ih : UnaryOk n) {H0 H : AHeap} {r : Nat} {T : List Tok} {tv lv : AV} {s0 s : St} (hx0 : Rx H0 r T tv lv s0) (hlv : lv ≠ .nilSl) (mb : Mt r H0 H) (hrd : Rd H r tv lv s) (hb : H.get H0.next = some (.row false 11 [[.int .i64 0, .int .i64 0, .str [], .str [], .int .i64 0, .nilSl, .int .i64 0, .int .i64 0, .int .i64 0, .int .i64 0, .int .i64 0]])) {b4 : Nat} (h4 : H0.next < b4) {x : Bs} {k : Int} (hb4 : H.get b4 = some (.row false 2 [[.str x, .int .i64 k]]))
    {e' : Ex} {s' : St} (h : signF T (n + 1) x k s = some (e', s')) : W (s83_28 (evw P) (.ptr b4 0 0) H (.ptr r 0 0) (.ptr H0.next 0 0) (.int .i64 (tokAt T s.at_).pos)) (PostE H0 r T tv lv e' s') := by
  have hl := hx0.rd.lt
  have ho1 := hx0.tk.one
  have ho2 := hx0.lv.one
  have hx := hx0.mut mb hrd
  have hle := mb.1
  have hl4 := AHeap.get_lt hb4
  simp only [signF] at h
  simp -implicitDefEqProofs (disch := first | assumption | omega | (simp only [nxB]; omega) | (simp only [oneB])) only [s83_28, s83_41, s83_42, s83, xlen, AV.cells, splice, aload, astore, Nat.reduceAdd, Nat.reduceLeDiff, reduceIte, allB, hb4]
  refine W_call (opens_spec hx x) ?_
  rintro _ H1 ⟨rfl, m1, hx1⟩
  refine ⟨m1.1, ?_⟩
  have hb1 := m1.get hb (by omega)
  have hb41 := m1.get hb4 (by omega)
  have hl1 := AHeap.get_lt hb1
  cases ho : (opensS T x s).1 with
  | false =>
    simp only [ho, cond_false, Option.some.injEq, Prod.mk.injEq] at h
    obtain ⟨rfl, rfl⟩ := h
    simp -implicitDefEqProofs (disch := first | assumption | omega | (simp only [nxB]; omega) | (simp only [oneB])) only [s83_28, s83_41, s83_42, s83, xlen, AV.cells, splice, aload, astore, Nat.reduceAdd, Nat.reduceLeDiff, reduceIte, allB, Bool.not_false, hb1]
    exact W_some.2 (PostE.ret hx0 (mb.trans m1) hx1.rd (Nat.le_refl _) (ExV.leaf _ (Ge (H0.next + 1)) { kind := 0 }) (Nat.lt_succ_self _) _)
  | true =>
    simp only [ho, cond_true, Option.bind_eq_some_iff] at h
    obtain ⟨⟨e1, s1⟩, h1, h2⟩ := h
    simp only [Option.some.injEq, Prod.mk.injEq] at h2
    obtain ⟨rfl, rfl⟩ := h2
    simp -implicitDefEqProofs (disch := first | assumption | omega | (simp only [nxB]; omega) | (simp only [oneB])) only [s83_28, s83_41, s83_42, s83, xlen, AV.cells, splice, aload, astore, Nat.reduceAdd, Nat.reduceLeDiff, reduceIte, allB, Bool.not_true]
    refine W_call (ih hx1 hlv e1 s1 h1) ?_
    rintro v H2 ⟨m2, hx2, he2⟩
    refine ⟨m2.1, ?_⟩
    have hm1 := m1.1
    have hm2 := m2.1
    have hb2 := m2.get hb1 (by omega)
    have hb42 := m2.get hb41 (by omega)
    have hl2 := AHeap.get_lt hb2
    have hl42 := AHeap.get_lt hb42
    obtain ⟨cs, rfl, hlen, hone⟩ := he2.cells
    have ht : List.take 11 cs = cs := List.take_of_length_le (by omega)
    have hs : ∀ l, sliceOf P l 35 1 [(0, .agg cs)] = some (.sl l 0 1 11 (some 1), .row false 11 [cs]) := fun l => sl35_1 l cs hlen hone
    have hr2 := hx2.rd
    unfold Rd at hr2
    have hlr := hx2.rd.lt
    replace mb := (mb.trans m1).trans m2
    simp -implicitDefEqProofs (disch := first | assumption | omega | (simp only [nxB]; omega) | (simp only [oneB])) only [s83_28, s83_41, s83_42, s83, xlen, AV.cells, splice, aload, astore, Nat.reduceAdd, Nat.reduceLeDiff, reduceIte, allB, hlen, hone, List.append_nil, ht, hs, hr2, ho1, ho2, hb2, hb42]
    refine W_some.2 ?_
    refine PostL.fin (ok := Ge H0.next) (a := { kind := k, pos := (tokAt T s.at_).pos }) (kv := .sl (H2.next + 1) 0 1 11 (some 1)) (s' := outS s1) hx0 ?_ ?_ (KsV.one_at (ro := false) ?_ (by unfold Ge; omega) (he2.new ?_ fun l h => by unfold Ge; omega))
    · (repeat (first | exact mb | refine Mut.then_push ?_ _ | refine Mut.then_set (S := (· = r)) ?_ (.inl rfl) _ | refine Mut.then_set ?_ (.inr (by (first | omega | (simp only [AHeap.next_push, AHeap.next_set]; omega)))) _))
    · (unfold Rd; simp -implicitDefEqProofs (disch := first | assumption | omega | (simp only [nxB]; omega) | (simp only [oneB])) only [heapB, hr2, goS, outS])
    · simp -implicitDefEqProofs (disch := first | assumption | omega | (simp only [nxB]; omega) | (simp only [oneB])) only [heapB]
    · exact Mut.then_set (S := fun l => l < _) ((Mut.then_set (S := fun l => l < _) ((Mut.refl _ _).then_push _) (.inl (by omega)) _).then_push _) (.inl (by omega)) _
theorem unary_one {n N : Nat} (ih : UnaryOk n) {L : AV → AV → AV → AV → AV → AHeap → O} {H0 H : AHeap} {r : Nat} {T : List Tok} {tv lv : AV} {s0 s : St} (hx0 : Rx H0 r T tv lv s0) (hlv : lv ≠ .nilSl) (mb : Mt r H0 H) (hrd : Rd H r tv lv s) (hb : H.get H0.next = some (.row false 11 [[.int .i64 0, .int .i64 0, .str [], .str [], .int .i64 0, .nilSl, .int .i64 0, .int .i64 0, .int .i64 0, .int .i64 0, .int .i64 0]])) {b9 : Nat} {els : List (List AV)} (h9 : H0.next < b9) (hb9 : H.get b9 = some (.row false 2 els)) {i : Nat} (hi : i < 2) {x : Bs} {k : Int} (hel : els[i]? = some [.str x, .int .i64 k])
    {e' : Ex} {s' : St} (hyes : isB T s 4 x = true → signF T (n + 1) x k s = some (e', s')) (hno : isB T s 4 x = false → ∀ H', Pur H H' → W (L (.ptr r 0 0) (.ptr H0.next 0 0) (.sl b9 0 2 2 (some 2)) (.int .i64 2) (.int .i64 ((i + 1 : Nat) : Int)) H') (PostE H0 r T tv lv e' s')) :
    W (s83_b1 (evw P) N L (.ptr r 0 0) (.ptr H0.next 0 0) (.sl b9 0 2 2 (some 2)) (.int .i64 2) (.int .i64 (i : Int)) H) (PostE H0 r T tv lv e' s') := by
  have hl := hx0.rd.lt
  have hx := hx0.mut mb hrd
  have hl9 := AHeap.get_lt hb9
  have hle := mb.1
  have hi2 : ((i : Int) < 2) := by omega
  have hi2' : ((i : Int) < ((2 : Nat) : Int)) := by omega
  have hi0 : (0 : Int) ≤ (i : Int) := by omega
  have htn : ((i : Int)).toNat = i := by omega
  have hia : aindexAddr P 102 (.sl b9 0 2 2 (some 2)) (.int .i64 (i : Int)) = some (.ptr b9 (0 + ((i : Int)).toNat) 0) := ia102 hi0 hi2'
  rw [htn, Nat.zero_add] at hia
  simp -implicitDefEqProofs (disch := first | assumption | omega | (simp only [nxB]; omega) | (simp only [oneB])) only [s83_41, s83_42, s83_b1, s83, xlen, AV.cells, splice, aload, astore, Nat.reduceAdd, Nat.reduceLeDiff, reduceIte, allB, hi2, decide_true, hia, hb9, hel]
  have p1 := Pur.push H (.row false 2 [[.str x, .int .i64 k]])
  refine W_call (tok_spec (hrd.pur p1) (hx.tk.pur p1)) ?_
  rintro _ H2 ⟨rfl, p2⟩
  refine ⟨p2.1, ?_⟩
  have hq := p2.get (AHeap.get_push_same H (.row false 2 [[.str x, .int .i64 k]]))
  have hn2 := p2.1
  simp only [AHeap.next_push] at hn2
  have p3 := p1.trans p2
  simp -implicitDefEqProofs (disch := first | assumption | omega | (simp only [nxB]; omega) | (simp only [oneB])) only [s83_41, s83_42, s83_b1, s83, xlen, AV.cells, splice, aload, astore, Nat.reduceAdd, Nat.reduceLeDiff, reduceIte, allB, Tok.v, hq]
  refine W_call (is_spec (hrd.pur p3) (hx.tk.pur p3) 4 x) ?_
  rintro _ H4 ⟨rfl, p4⟩
  refine ⟨p4.1, ?_⟩
  have p5 := p3.trans p4
  cases hb' : isB T s 4 x with
  | true =>
    simp -implicitDefEqProofs (disch := first | assumption | omega | (simp only [nxB]; omega) | (simp only [oneB])) only [s83_41, s83_42, s83_b1, s83, xlen, AV.cells, splice, aload, astore, Nat.reduceAdd, Nat.reduceLeDiff, reduceIte, allB]
    exact unary_sign ih hx0 hlv (mb.trans (p5.mut _)) (hrd.pur p5) (p5.get hb) (by omega) (p4.get hq) (hyes hb')
  | false =>
    have hw : IntKind.i64.wrap ((i : Int) + 1) = ((i + 1 : Nat) : Int) := by rw [wrap_i64 (by omega) (by omega)]; simp
    simp -implicitDefEqProofs (disch := first | assumption | omega | (simp only [nxB]; omega) | (simp only [oneB])) only [s83_41, s83_42, s83_b1, s83, xlen, AV.cells, splice, aload, astore, Nat.reduceAdd, Nat.reduceLeDiff, reduceIte, allB, hw]
    exact hno hb' _ p5
theorem unary_step {n : Nat} (ihU : ∀ k, k ≤ n → UnaryOk k) (ihC : ChainOk n) : UnaryOk (n + 1) := by
  intro H r T tv lv s hx hlv e s' h
  refine W_of (fun _ => run83 3) ?_
  have hl := hx.rd.lt
  simp only [unaryF] at h
  have p1 := Pur.push H (.row false 11 [[.int .i64 0, .int .i64 0, .str [], .str [], .int .i64 0, .nilSl, .int .i64 0, .int .i64 0, .int .i64 0, .int .i64 0, .int .i64 0]])
  have p2 := p1.then_push (.row false 2 [[.str [45], .int .i64 12], [.str [33], .int .i64 13]])
  simp -implicitDefEqProofs (disch := first | assumption | omega | (simp only [nxB]; omega) | (simp only [oneB])) only [s83_28, s83_41, s83_42, s83, xlen, AV.cells, splice, aload, astore, Nat.reduceAdd, Nat.reduceLeDiff, reduceIte, allB]
  have hb : ((H.push (.row false 11 [[.int .i64 0, .int .i64 0, .str [], .str [], .int .i64 0, .nilSl, .int .i64 0, .int .i64 0, .int .i64 0, .int .i64 0, .int .i64 0]])).push (.row false 2 [[.str [45], .int .i64 12], [.str [33], .int .i64 13]])).get H.next = some (.row false 11 [[.int .i64 0, .int .i64 0, .str [], .str [], .int .i64 0, .nilSl, .int .i64 0, .int .i64 0, .int .i64 0, .int .i64 0, .int .i64 0]]) := by simp -implicitDefEqProofs (disch := first | assumption | omega | (simp only [nxB]; omega) | (simp only [oneB])) only [heapB]
  have hb9 : ((H.push (.row false 11 [[.int .i64 0, .int .i64 0, .str [], .str [], .int .i64 0, .nilSl, .int .i64 0, .int .i64 0, .int .i64 0, .int .i64 0, .int .i64 0]])).push (.row false 2 [[.str [45], .int .i64 12], [.str [33], .int .i64 13]])).get (H.next + 1) = some (.row false 2 [[.str [45], .int .i64 12], [.str [33], .int .i64 13]]) := by simp -implicitDefEqProofs (disch := first | assumption | omega | (simp only [nxB]; omega) | (simp only [oneB])) only [heapB]
  cases n with
  | zero => cases h1 : isB T s 4 [45] <;> cases h2 : isB T s 4 [33] <;> simp [h1, h2, signF, chainF] at h
  | succ n =>
    simp only [s83_l1]
    refine unary_one (ihU n (by omega)) hx hlv (p2.mut _) (hx.rd.pur p2) hb (by omega) hb9 (i := 0) (by omega) rfl (fun h1 => by rw [h1] at h; exact h) fun h1 H3 p3 => ?_
    rw [h1] at h
    simp only [cond_false] at h
    have p4 := p2.trans p3
    refine unary_one (ihU n (by omega)) hx hlv (p4.mut _) (hx.rd.pur p4) (p3.get hb) (by omega) (p3.get hb9) (i := 1) (by omega) rfl (fun h2 => by rw [h2] at h; exact h) fun h2 H5 p5 => ?_
    rw [h2] at h
    simp only [cond_false] at h
    have p6 := p4.trans p5
    have hb5 := (p3.trans p5).get hb
    have hlt : ¬ (((1 + 1 : Nat) : Int) < 2) := by omega
    simp -implicitDefEqProofs (disch := first | assumption | omega | (simp only [nxB]; omega) | (simp only [oneB])) only [s83_b1, s83_42, s83_41, xlen, AV.cells, splice, aload, astore, Nat.reduceAdd, Nat.reduceLeDiff, reduceIte, allB, hlt, decide_false]
    rw [s83_j0]
    refine W_call (ihC (hx.pur p6) hlv e s' h) ?_
    rintro v H7 ⟨m7, hx7, he7⟩
    refine ⟨m7.1, ?_⟩
    have hb7 := m7.get hb5 (by omega)
    have hl7 := AHeap.get_lt hb7
    have hm6 := p6.1
    have hm5 := AHeap.get_lt hb5
    obtain ⟨cs, rfl, hlen, hone⟩ := he7.cells
    have ht : List.take 11 cs = cs := List.take_of_length_le (by omega)
    simp -implicitDefEqProofs (disch := first | assumption | omega | (simp only [nxB]; omega) | (simp only [oneB])) only [s83_28, s83_41, s83_42, s83, xlen, AV.cells, splice, aload, astore, Nat.reduceAdd, Nat.reduceLeDiff, reduceIte, allB, hb7, hlen, hone, List.append_nil, ht]
    exact W_some.2 (PostE.ret hx ((p6.mut _).trans m7) hx7.rd (Nat.le_refl _) he7 (by omega) _)
end Go.Proofs.Ytnjoomfeddamcaa

namespace Go.Proofs.Ytnjoomfeddamcaa
open Go.Ev
theorem row_end {N : Nat} {H0 H : AHeap} {r : Nat} {T : List Tok} {tv lv : AV} {s0 s : St} (hx0 : Rx H0 r T tv lv s0) (mb : Mt r H0 H) (hrd : Rd H r tv lv s) {b3 : Nat} {cs zs : List AV} {e : Ex} (hb2 : H.get H0.next = some (.row false 11 [zs])) (hz : zs.length = 11) (hb3 : H.get b3 = some (.row false 11 [cs])) (h3 : H0.next < b3)
    (he : ExV H (fun l => H0.next < l ∧ l ≠ b3) e (.agg cs)) : W (s71_j0 (evw P) N (.ptr H0.next 0 0) (.ptr b3 0 0) H) (PostE H0 r T tv lv e s) := by
  have hl := hx0.rd.lt
  have hl2 := AHeap.get_lt hb2
  have hl3 := AHeap.get_lt hb3
  obtain ⟨cs', hcs, hlen, hone⟩ := he.cells
  cases hcs
  have ht : List.take 11 cs = cs := List.take_of_length_le (by omega)
  have hd : List.drop 11 zs = [] := List.drop_of_length_le (by omega)
  simp -implicitDefEqProofs (disch := first | assumption | omega | (simp only [nxB]; omega) | (simp only [oneB])) only [s71_j0, s71_7, s71_8, s71_25, s71_26, s71_b1, s71_27, s71, xlen, AV.cells, splice, aload, astore, Nat.reduceAdd, Nat.reduceLeDiff, reduceIte, allB, hb2, hb3, hlen, hone, List.append_nil, ht, hd]
  have m' := mb.then_set (.inr (Nat.le_refl _)) (.row false 11 [cs])
  refine W_some.2 ⟨m', hx0.mut m' ?_, he.keep (Keep.set _ (by omega) fun l h => by unfold Ge; omega) e _⟩
  unfold Rd at hrd ⊢
  rw [AHeap.get_set_other (by omega)]; exact hrd
theorem row_loop {N : Nat} (ih : ∀ k, k < N → RowOk k) {H0 : AHeap} {r : Nat} {T : List Tok} {tv lv : AV} {s0 : St} (hx0 : Rx H0 r T tv lv s0) (hlv : lv ≠ .nilSl) {lev : Nat} (hlev : lev < 5) {b3 : Nat} (h3 : H0.next < b3) :
    ∀ (n m : Nat), n < N → n < m → ∀ (H : AHeap) (s : St) (e : Ex) (cs zs : List AV), Mt r H0 H → Rd H r tv lv s → H.get H0.next = some (.row false 11 [zs]) → zs.length = 11 → H.get b3 = some (.row false 11 [cs]) →
      ExV H (fun l => H0.next < l ∧ l ≠ b3) e (.agg cs) → ∀ (e' : Ex) (s' : St), rowL T n lev e s = some (e', s') →
      W (s71_l1 (evw P) N m (.ptr r 0 0) (.int .i64 lev) (.ptr H0.next 0 0) (.ptr b3 0 0) (.int .i64 (kindS T lev s)) H) (PostE H0 r T tv lv e' s')
  | 0, m, hN, hm, H, s, e, cs, zs, mb, hrd, hb2, hz, hb3, he, e', s', h => by simp [rowL] at h
  | n + 1, 0, hN, hm, H, s, e, cs, zs, mb, hrd, hb2, hz, hb3, he, e', s', h => by omega
  | n + 1, m + 1, hN, hm, H, s, e, cs, zs, mb, hrd, hb2, hz, hb3, he, e', s', h => by
    have hl := hx0.rd.lt
    have hx := hx0.mut mb hrd
    have hl3 := AHeap.get_lt hb3
    obtain ⟨cs', hcs, hlen, hone⟩ := he.cells
    cases hcs
    have ht : List.take 11 cs = cs := List.take_of_length_le (by omega)
    have hd : List.drop 11 cs = [] := List.drop_of_length_le (by omega)
    have ho1 := hx0.tk.one
    have ho2 := hx0.lv.one
    simp only [rowL] at h
    simp only [s71_l1]
    by_cases hk : kindS T lev s = 0
    · rw [if_pos hk] at h
      simp only [Option.some.injEq, Prod.mk.injEq] at h
      obtain ⟨rfl, rfl⟩ := h
      have hk' : (kindS T lev s != 0) = false := by simpa using hk
      simp -implicitDefEqProofs (disch := first | assumption | omega | (simp only [nxB]; omega) | (simp only [oneB])) only [s71_b1, s71_26, s71_25, xlen, AV.cells, splice, aload, astore, Nat.reduceAdd, Nat.reduceLeDiff, reduceIte, allB, hk']
      exact row_end hx0 mb hrd hb2 hz hb3 h3 he
    · rw [if_neg hk, Option.bind_eq_some_iff] at h
      obtain ⟨⟨e1, s1⟩, h1, h2⟩ := h
      have hk' : (kindS T lev s != 0) = true := by simpa using hk
      simp -implicitDefEqProofs (disch := first | assumption | omega | (simp only [nxB]; omega) | (simp only [oneB])) only [s71_7, s71_8, s71_25, s71_26, s71_b1, s71_27, s71, xlen, AV.cells, splice, aload, astore, Nat.reduceAdd, Nat.reduceLeDiff, reduceIte, allB, hk']
      refine W_call (tok_spec hrd hx.tk) ?_
      rintro _ H1 ⟨rfl, p1⟩
      refine ⟨p1.1, ?_⟩
      have hrd1 := hrd.pur p1
      have hr2 := hrd1
      unfold Rd at hr2
      have hlr := hrd1.lt
      obtain ⟨m2, hd2⟩ := fail_set hrd1 (goS s)
      have hw : IntKind.i64.wrap ((lev : Int) + 1) = ((lev + 1 : Nat) : Int) := by rw [wrap_i64 (by omega) (by omega)]; simp
      simp -implicitDefEqProofs (disch := first | assumption | omega | (simp only [nxB]; omega) | (simp only [oneB])) only [s71_7, s71_8, s71_25, s71_26, s71_27, s71, xlen, AV.cells, splice, aload, astore, Nat.reduceAdd, Nat.reduceLeDiff, reduceIte, allB, Tok.v, hr2, ho1, ho2, hw]
      have mb2 := (mb.trans (p1.mut _)).trans m2
      have hx2 := hx0.mut mb2 hd2
      refine W_call (ih n (by omega) hx2 hlv (lev + 1) (by omega) e1 s1 h1) ?_
      rintro v H3 ⟨m3, hx3, he3⟩
      refine ⟨m3.1, ?_⟩
      have hb31 := m2.get (p1.get hb3) (by omega)
      have hb33 := m3.get hb31 (by omega)
      have hl33 := AHeap.get_lt hb33
      have hm3 := m3.1
      have hm1 := p1.1
      simp only [AHeap.next_set] at hm3 he3
      obtain ⟨ds, rfl, hlen', hone'⟩ := he3.cells
      have hs : ∀ l, sliceOf P l 35 2 [(0, .agg cs), (1, .agg ds)] = some (.sl l 0 2 11 (some 2), .row false 11 [cs, ds]) := fun l => sl35_2 l cs ds hlen hone hlen' hone'
      have hq := he.same
      have mb3 := mb2.trans m3
      have he3' : ExV H3 (fun l => H0.next < l ∧ l ≠ b3) e (.agg cs) := he.mut ((p1.mut _ |>.trans m2).trans m3) (by omega) fun _ h => h
      have hb3b : (H1.set r (.row false 6 [[tv, .int .i64 (IntKind.i64.wrap (s.at_ + 1)), .int .i64 s.opn, lv, .int .i64 s.fe, .int .i64 s.fa]])).get b3 = some (.row false 11 [cs]) := hb31
      simp -implicitDefEqProofs (disch := first | assumption | omega | (simp only [nxB]; omega) | (simp only [oneB])) only [s71_7, s71_25, s71_26, s71_27, s71, xlen, AV.cells, splice, aload, astore, Nat.reduceAdd, Nat.reduceLeDiff, reduceIte, allB, hb33, hb3b, ht, hd, hs, hq, Bool.and_true, Bool.and_self]
      rw [s71_8]
      have hx3r := hx3.rd
      have mb4 : Mt r H0 ((H3.push (.row false 11 [cs, ds])).set b3 (.row false 11 [[.int .i64 (kindS T lev s), .int .i64 0, .str [], .str [], .int .i64 0, .sl H3.next 0 2 11 (some 2), .int .i64 (tokAt T s.at_).pos, .int .i64 0, .int .i64 0, .int .i64 0, .int .i64 0]])) := (mb3.then_push _).then_set (.inr (Nat.le_of_lt h3)) _
      have hrd4 : Rd ((H3.push (.row false 11 [cs, ds])).set b3 (.row false 11 [[.int .i64 (kindS T lev s), .int .i64 0, .str [], .str [], .int .i64 0, .sl H3.next 0 2 11 (some 2), .int .i64 (tokAt T s.at_).pos, .int .i64 0, .int .i64 0, .int .i64 0, .int .i64 0]])) r tv lv s1 := by
        unfold Rd at hx3r ⊢
        rw [AHeap.get_set_other (by omega), AHeap.get_push_other (by omega)]; exact hx3r
      refine W_call (kind_spec (hx0.mut mb4 hrd4) hlv lev hlev) ?_
      rintro _ H5 ⟨rfl, p5⟩
      refine ⟨p5.1, ?_⟩
      simp only [s71_7]
      have hb25 : H5.get H0.next = some (.row false 11 [zs]) := by
        refine p5.get ?_
        rw [AHeap.get_set_other (by omega), AHeap.get_push_other (by omega)]
        exact m3.get (m2.get (p1.get hb2) (by omega)) (by omega)
      have hb35 : H5.get b3 = some (.row false 11 [Ea.cells { kind := kindS T lev s, pos := (tokAt T s.at_).pos } (.sl H3.next 0 2 11 (some 2))]) := p5.get (AHeap.get_set_same (by simp only [AHeap.next_push]; omega))
      refine row_loop ih hx0 hlv hlev h3 n m (by omega) (by omega) H5 s1 _ _ zs (mb4.trans (p5.mut _)) (hrd4.pur p5) hb25 hz hb35 ?_ e' s' h2
      rw [ExV_mk]
      have kp : ∀ ok : Nat → Prop, (∀ l, ok l → l ≠ b3) → ∀ l ro els, ok l → H3.get l = some (.row ro 11 els) → H5.get l = some (.row ro 11 els) := fun ok hok l ro els hl' hg => by
        refine p5.get ?_
        have := AHeap.get_lt hg
        rw [AHeap.get_set_other (Ne.symm (hok l hl')), AHeap.get_push_other (by omega)]; exact hg
      refine ⟨_, rfl, KsV.two_at (ro := false) (p5.get ?_) ⟨by omega, by omega⟩ (he3'.keep (fun l ro els hl' hg => ⟨hl', kp _ (fun _ h => h.2) l ro els hl' hg⟩) e _) (he3.keep (fun l ro els hl' hg => ?_) e1 _)⟩
      · rw [AHeap.get_set_other (by omega)]; exact AHeap.get_push_same _ _
      · unfold Ge at hl'
        have h0 := AHeap.get_lt hb31
        simp only [AHeap.next_set] at h0
        exact ⟨⟨by omega, by omega⟩, kp (fun l => H1.next ≤ l) (fun l h => by omega) l ro els hl' hg⟩
theorem row_step {n : Nat} (ihR : ∀ k, k ≤ n → RowOk k) (ihU : UnaryOk n) : RowOk (n + 1) := by
  intro H r T tv lv s hx hlv lev hle e s' h
  refine W_of (fun _ => run71 (n + 1)) ?_
  have hl := hx.rd.lt
  have p1 := Pur.push H (.row false 11 [[.int .i64 0, .int .i64 0, .str [], .str [], .int .i64 0, .nilSl, .int .i64 0, .int .i64 0, .int .i64 0, .int .i64 0, .int .i64 0]])
  have hr1 := hx.rd.pur p1
  unfold Rd at hr1
  have hr0 := hx.rd
  unfold Rd at hr0
  have hlvl : ∃ l i cap, lv = .sl l i 5 1 cap := by
    obtain ⟨l, i, cap, ro, els, rfl, _⟩ := hx.lv.resolve_left hlv
    exact ⟨l, i, cap, rfl⟩
  obtain ⟨ll, li, lc, hlveq⟩ := hlvl
  have hln : abuiltin P .empty .len [69] [lv] = some (.int .i64 5) := by rw [hlveq]; exact ln69
  simp only [rowF] at h
  by_cases h5 : lev = 5
  · rw [if_pos h5] at h
    have h5' : ((lev : Int) == 5) = true := by simp; omega
    simp -implicitDefEqProofs (disch := first | assumption | omega | (simp only [nxB]; omega) | (simp only [oneB])) only [s71_7, s71_8, s71_25, s71_26, s71_27, s71, xlen, AV.cells, splice, aload, astore, Nat.reduceAdd, Nat.reduceLeDiff, reduceIte, allB, hr0, hln, h5']
    refine W_call (ihU (hx.pur p1) hlv e s' h) ?_
    rintro v H2 ⟨m2, hx2, he2⟩
    refine ⟨m2.1, ?_⟩
    have hb2 := m2.get (AHeap.get_push_same H (.row false 11 [[.int .i64 0, .int .i64 0, .str [], .str [], .int .i64 0, .nilSl, .int .i64 0, .int .i64 0, .int .i64 0, .int .i64 0, .int .i64 0]])) (by omega)
    have hlb := AHeap.get_lt hb2
    obtain ⟨cs, rfl, hlen, hone⟩ := he2.cells
    have ht : List.take 11 cs = cs := List.take_of_length_le (by omega)
    simp -implicitDefEqProofs (disch := first | assumption | omega | (simp only [nxB]; omega) | (simp only [oneB])) only [s71_7, s71_8, s71_25, s71_26, s71_27, s71, xlen, AV.cells, splice, aload, astore, Nat.reduceAdd, Nat.reduceLeDiff, reduceIte, allB, hb2, hlen, hone, List.append_nil, ht]
    exact W_some.2 (PostE.ret hx ((p1.mut _).trans m2) hx2.rd (Nat.le_refl _) he2 (Nat.lt_succ_self _) _)
  · rw [if_neg h5, Option.bind_eq_some_iff] at h
    obtain ⟨⟨e1, s1⟩, h1, h2⟩ := h
    have h5' : ((lev : Int) == 5) = false := by simp; omega
    have hw : IntKind.i64.wrap ((lev : Int) + 1) = ((lev + 1 : Nat) : Int) := by rw [wrap_i64 (by omega) (by omega)]; simp
    simp -implicitDefEqProofs (disch := first | assumption | omega | (simp only [nxB]; omega) | (simp only [oneB])) only [s71_7, s71_8, s71_25, s71_26, s71_27, s71, xlen, AV.cells, splice, aload, astore, Nat.reduceAdd, Nat.reduceLeDiff, reduceIte, allB, hr0, hln, h5', hw]
    refine W_call (ihR n (Nat.le_refl _) (hx.pur p1) hlv (lev + 1) (by omega) e1 s1 h1) ?_
    rintro v H2 ⟨m2, hx2, he2⟩
    refine ⟨m2.1, ?_⟩
    have hb2 := m2.get (AHeap.get_push_same H (.row false 11 [[.int .i64 0, .int .i64 0, .str [], .str [], .int .i64 0, .nilSl, .int .i64 0, .int .i64 0, .int .i64 0, .int .i64 0, .int .i64 0]])) (by omega)
    have hm2 := m2.1
    simp only [AHeap.next_push] at hm2
    obtain ⟨cs, rfl, hlen, hone⟩ := he2.cells
    simp -implicitDefEqProofs (disch := first | assumption | omega | (simp only [nxB]; omega) | (simp only [oneB])) only [s71_7, s71_8, s71_25, s71_26, s71_27, s71, xlen, AV.cells, splice, aload, astore, Nat.reduceAdd, Nat.reduceLeDiff, reduceIte, allB, hlen, hone, List.append_nil]
    have p3 := Pur.push H2 (.row false 11 [cs])
    refine W_call (kind_spec (hx2.pur p3) hlv lev (by omega)) ?_
    rintro _ H4 ⟨rfl, p4⟩
    refine ⟨p4.1, ?_⟩
    simp only [s71_27]
    have p5 := p3.trans p4
    refine row_loop (N := n + 1) (fun k hk => ihR k (by omega)) hx hlv (by omega) (b3 := H2.next) (by omega) n (n + 1) (by omega) (by omega) H4 s1 e1 cs _ (((p1.mut _).trans m2).trans (p5.mut _)) (hx2.rd.pur p5) (p5.get hb2) rfl (p4.get (AHeap.get_push_same _ _)) ?_ e s' h2
    exact he2.keep (fun l ro els hl' hg => by
      have := AHeap.get_lt hg
      unfold Ge at hl'
      simp only [AHeap.next_push] at hl'
      exact ⟨⟨by omega, by omega⟩, p5.get hg⟩) e1 _
theorem all_ok : ∀ n, n ≤ 900000000 → ∀ k, k ≤ n → AllOk k
  | 0, _, k, hk => by
    have : k = 0 := by omega
    subst this
    exact ⟨fun _ _ _ _ _ _ h => by simp [rowF] at h, fun _ _ _ _ h => by simp [unaryF] at h, fun _ _ _ _ h => by simp [chainF] at h, fun _ _ _ _ h => by simp [firstF] at h, fun _ _ _ _ _ _ h => by simp [singleF] at h,
      fun _ _ _ _ h => by simp [nameF] at h, fun _ _ _ _ h => by simp [freshF] at h, fun _ _ _ _ h => by simp [listF] at h⟩
  | n + 1, hn, k, hk => by
    have ih := all_ok n (by omega)
    rcases Nat.lt_or_ge k (n + 1) with h | h
    · exact ih k (by omega)
    · have : k = n + 1 := by omega
      subst this
      exact ⟨row_step (fun k hk => (ih k hk).row) (ih n (Nat.le_refl _)).unary, unary_step (fun k hk => (ih k hk).unary) (ih n (Nat.le_refl _)).chain, chain_step (ih n (Nat.le_refl _)).first fun k hk => (ih k hk).single,
        first_step (ih n (Nat.le_refl _)).name (ih n (Nat.le_refl _)).fresh (ih n (Nat.le_refl _)).single, single_step (ih n (Nat.le_refl _)).row, name_step (ih n (Nat.le_refl _)).list, fresh_step (ih n (Nat.le_refl _)).single, list_step (by omega) fun k hk => (ih k hk).row⟩
end Go.Proofs.Ytnjoomfeddamcaa

namespace Go.Proofs.Ytnjoomfeddamcaa
open Go.Ev
theorem mx3 {H : AHeap} (a b : Int) : abuiltin P H .max [3, 3] [.int .i64 a, .int .i64 b] = some (.int .i64 (if a < b then b else a)) := by
  simp only [abuiltin, amax2]
theorem sl69_5 (l : Nat) (l1 l2 l3 l4 l5 : Nat) : sliceOf P l 69 5 [(0, .sl l1 0 1 2 (some 1)), (1, .sl l2 0 1 2 (some 1)), (2, .sl l3 0 4 2 (some 4)), (3, .sl l4 0 2 2 (some 2)), (4, .sl l5 0 3 2 (some 3))] =
    some (.sl l 0 5 1 (some 5), .row false 1 [[.sl l1 0 1 2 (some 1)], [.sl l2 0 1 2 (some 1)], [.sl l3 0 4 2 (some 4)], [.sl l4 0 2 2 (some 2)], [.sl l5 0 3 2 (some 3)]]) := by kernel_rfl
theorem levels_spec (H : AHeap) : W (evw P 40 [] H) fun v H' => v ≠ .nilSl ∧ LvOk H' v ∧ Pur H H' := by
  refine W_of (fun _ => run40 0) ?_
  simp -implicitDefEqProofs (disch := first | assumption | omega | (simp only [nxB]; omega) | (simp only [oneB])) only [s40, xlen, AV.cells, splice, aload, astore, Nat.reduceAdd, Nat.reduceLeDiff, reduceIte, allB, sl69_5]
  refine W_some.2 ⟨by simp, ⟨_, _, _, _, _, rfl, AHeap.get_push_eq (by simp only [AHeap.next_push]; omega) (by simp only [AHeap.next_push]; omega), ?_⟩, ?_⟩
  · intro k row hk
    match k, hk with
    | 0, hk => simp only [lvRows, List.getElem?_cons_zero, Option.some.injEq] at hk; subst hk; exact ⟨_, _, _, _, _, rfl, by (simp -implicitDefEqProofs (disch := first | assumption | omega | (simp only [nxB]; omega) | (simp only [oneB])) only [heapB]; rfl), fun j e hj => by simpa using hj⟩
    | 1, hk => simp only [lvRows, List.getElem?_cons_zero, List.getElem?_cons_succ, Option.some.injEq] at hk; subst hk; exact ⟨_, _, _, _, _, rfl, by (simp -implicitDefEqProofs (disch := first | assumption | omega | (simp only [nxB]; omega) | (simp only [oneB])) only [heapB]; rfl), fun j e hj => by simpa using hj⟩
    | 2, hk => simp only [lvRows, List.getElem?_cons_zero, List.getElem?_cons_succ, Option.some.injEq] at hk; subst hk; exact ⟨_, _, _, _, _, rfl, by (simp -implicitDefEqProofs (disch := first | assumption | omega | (simp only [nxB]; omega) | (simp only [oneB])) only [heapB]; rfl), fun j e hj => by simpa using hj⟩
    | 3, hk => simp only [lvRows, List.getElem?_cons_zero, List.getElem?_cons_succ, Option.some.injEq] at hk; subst hk; exact ⟨_, _, _, _, _, rfl, by (simp -implicitDefEqProofs (disch := first | assumption | omega | (simp only [nxB]; omega) | (simp only [oneB])) only [heapB]; rfl), fun j e hj => by simpa using hj⟩
    | 4, hk => simp only [lvRows, List.getElem?_cons_zero, List.getElem?_cons_succ, Option.some.injEq] at hk; subst hk; exact ⟨_, _, _, _, _, rfl, by (simp -implicitDefEqProofs (disch := first | assumption | omega | (simp only [nxB]; omega) | (simp only [oneB])) only [heapB]; rfl), fun j e hj => by simpa using hj⟩
    | k + 5, hk => simp [lvRows] at hk
  · exact (((((Pur.push _ _).then_push _).then_push _).then_push _).then_push _).then_push _
def parseS (e : Ex) (s : St) : Ex × Int × Int × Int := if s.fe = 0 then (e, s.at_, 0, 0) else (.zero, 0, s.fe, s.fa)
def startS (at_ opn : Int) : St := ⟨at_, if opn < 0 then 0 else opn, 0, 0⟩
theorem bd71_lv (tv lv : AV) (h1 : tv.one = true) (h2 : lv.one = true) (a b : Int) : abuild P 71 [(0, tv), (1, .int .i64 a), (2, .int .i64 b), (3, lv)] = some (.agg [tv, .int .i64 a, .int .i64 b, lv, .int .i64 0, .int .i64 0]) := by
  cases tv <;> first | (cases h1; done) | (cases lv <;> first | (cases h2; done) | kernel_rfl)
theorem bd71_no (tv : AV) (h1 : tv.one = true) (a : Int) : abuild P 71 [(0, tv), (1, .int .i64 a)] = some (.agg [tv, .int .i64 a, .int .i64 0, .nilSl, .int .i64 0, .int .i64 0]) := by
  cases tv <;> first | (cases h1; done) | kernel_rfl
theorem parse_spec {n : Nat} (hn : n ≤ 900000000) {H : AHeap} {T : List Tok} {tv : AV} (ht : TokSl H tv T) (at_ opn : Int) {e : Ex} {s' : St} (h : rowF T n 0 (startS at_ opn) = some (e, s')) :
    W (evw P 21 [tv, .int .i64 at_, .int .i64 opn] H) fun v H' => ∃ ev, v = .tuple [ev, .int .i64 (parseS e s').2.1, .agg [.int .i64 (parseS e s').2.2.1, .int .i64 (parseS e s').2.2.2]] ∧ ExV H' (Ge H.next) (parseS e s').1 ev ∧ Pur H H' := by
  refine W_of (fun _ => run21 0) ?_
  have ho1 := ht.one
  have p1 := (Pur.push H (.row false 11 [[.int .i64 0, .int .i64 0, .str [], .str [], .int .i64 0, .nilSl, .int .i64 0, .int .i64 0, .int .i64 0, .int .i64 0, .int .i64 0]])).then_push (.row false 2 [[.int .i64 0, .int .i64 0]])
  simp -implicitDefEqProofs (disch := first | assumption | omega | (simp only [nxB]; omega) | (simp only [oneB])) only [s21, xlen, AV.cells, splice, aload, astore, Nat.reduceAdd, Nat.reduceLeDiff, reduceIte, allB, mx3]
  refine W_call (levels_spec _) ?_
  rintro lv H3 ⟨hlv, hL, p3⟩
  refine ⟨p3.1, ?_⟩
  have ho2 := hL.one
  have hbd := bd71_lv tv lv ho1 ho2 at_ (if opn < 0 then 0 else opn)
  have hbx : ∀ l, boxOf l (.agg [tv, .int .i64 at_, .int .i64 (if opn < 0 then 0 else opn), lv, .int .i64 0, .int .i64 0]) = some (.ptr l 0 0, .row false 6 [[tv, .int .i64 at_, .int .i64 (if opn < 0 then 0 else opn), lv, .int .i64 0, .int .i64 0]]) := fun l => boxOf_agg l _ (by simp only [List.all_cons, List.all_nil, one_int, ho1, ho2, Bool.and_self])
  simp -implicitDefEqProofs (disch := first | assumption | omega | (simp only [nxB]; omega) | (simp only [oneB])) only [s21, xlen, AV.cells, splice, aload, astore, Nat.reduceAdd, Nat.reduceLeDiff, reduceIte, allB, hbd, hbx]
  have p4 := Pur.push H3 (.row false 6 [[tv, .int .i64 at_, .int .i64 (if opn < 0 then 0 else opn), lv, .int .i64 0, .int .i64 0]])
  have p5 := (p1.trans p3).trans p4
  have hx4 : Rx (H3.push (.row false 6 [[tv, .int .i64 at_, .int .i64 (if opn < 0 then 0 else opn), lv, .int .i64 0, .int .i64 0]])) H3.next T tv lv (startS at_ opn) :=
    ⟨AHeap.get_push_same _ _, ht.pur p5, .inr (hL.keep fun l ro n els _ hg => p4.get hg)⟩
  refine W_call (whole_spec ((all_ok n hn n (Nat.le_refl _)).row) hx4 hlv h) ?_
  rintro v H5 ⟨m5, hx5, he5⟩
  refine ⟨m5.1, ?_⟩
  have hm3 := p3.1
  have hm5 := m5.1
  simp only [AHeap.next_push] at hm3 hm5 he5
  obtain ⟨cs, rfl, hlen, hone⟩ := he5.cells
  have htk : List.take 11 cs = cs := List.take_of_length_le (by omega)
  simp -implicitDefEqProofs (disch := first | assumption | omega | (simp only [nxB]; omega) | (simp only [oneB])) only [s21, xlen, AV.cells, splice, aload, astore, Nat.reduceAdd, Nat.reduceLeDiff, reduceIte, allB, hlen, hone, List.append_nil]
  have p6 := Pur.push H5 (.row false 11 [cs])
  refine W_call (failed_spec (hx5.rd.pur p6)) ?_
  rintro _ H8 ⟨rfl, rfl⟩
  refine ⟨Nat.le_refl _, ?_⟩
  have hr := hx5.rd.pur p6
  unfold Rd at hr
  have hr5 := hx5.rd
  unfold Rd at hr5
  have hb6 : H3.get H.next = some (.row false 11 [[.int .i64 0, .int .i64 0, .str [], .str [], .int .i64 0, .nilSl, .int .i64 0, .int .i64 0, .int .i64 0, .int .i64 0, .int .i64 0]]) := by rw [p3.2 _ (by simp only [AHeap.next_push]; omega)]; simp -implicitDefEqProofs (disch := first | assumption | omega | (simp only [nxB]; omega) | (simp only [oneB])) only [heapB]
  have hb8 : H3.get (H.next + 1) = some (.row false 2 [[.int .i64 0, .int .i64 0]]) := by rw [p3.2 _ (by simp only [AHeap.next_push]; omega)]; simp -implicitDefEqProofs (disch := first | assumption | omega | (simp only [nxB]; omega) | (simp only [oneB])) only [heapB]
  have hb65 := m5.get (p4.get hb6) (by omega)
  have hb85 := m5.get (p4.get hb8) (by omega)
  have l6 := AHeap.get_lt hb65
  have l8 := AHeap.get_lt hb85
  have pf : Pur H H5 := ⟨by have := p5.1; simp only [AHeap.next_push] at this; omega, fun l hl => by rw [m5.2 l (by simp only [AHeap.next_push]; omega) (by omega)]; exact p5.2 l hl⟩
  by_cases hf : s'.fe = 0
  · have hf' : (s'.fe != 0) = false := by simpa using hf
    rw [show parseS e s' = (e, s'.at_, 0, 0) by simp [parseS, hf]]
    simp -implicitDefEqProofs (disch := first | assumption | omega | (simp only [nxB]; omega) | (simp only [oneB])) only [s21, xlen, AV.cells, splice, aload, astore, Nat.reduceAdd, Nat.reduceLeDiff, reduceIte, allB, hf', hr, hr5, hb65, hb85, hlen, hone, List.append_nil, htk, Bool.and_true]
    refine W_some.2 ⟨_, rfl, ?_, ?_⟩
    · exact he5.new (Mut.then_set (S := fun l => l < _) (Mut.then_set (S := fun l => l < _) ((Mut.refl _ _).then_push _) (.inl (by omega)) _) (.inl (by omega)) _) fun l h => by unfold Ge; omega
    · exact ((pf.then_push _).then_set (Nat.le_refl _) _).then_set (by omega) _
  · have hf' : (s'.fe != 0) = true := by simpa using hf
    rw [show parseS e s' = (.zero, 0, s'.fe, s'.fa) by simp [parseS, hf]]
    have hrd25 : rdIs (some (.agg [.int .i64 s'.fe, .int .i64 s'.fa])) (.agg [.int .i64 s'.fe, .int .i64 s'.fa]) = true := by simp [rdIs, AV.beq, AVs.beq]
    simp -implicitDefEqProofs (disch := first | assumption | omega | (simp only [nxB]; omega) | (simp only [oneB])) only [s21, xlen, AV.cells, splice, aload, astore, Nat.reduceAdd, Nat.reduceLeDiff, reduceIte, allB, hf', hr, hr5, hb65, hb85, hrd25, Bool.and_true]
    refine W_some.2 ⟨_, rfl, ExV.leaf _ _ { kind := 0 }, ?_⟩
    exact ((pf.then_push _).then_set (Nat.le_refl _) _).then_set (by omega) _
def ofP (p : (Bs × Int) × St) : (Bs × Int) × Int × Int × Int := if p.2.fe = 0 then (p.1, p.2.at_, 0, 0) else (([], 0), 0, p.2.fe, p.2.fa)
theorem Of_spec {H : AHeap} {T : List Tok} {tv : AV} (ht : TokSl H tv T) (at_ : Int) :
    W (evw P 18 [tv, .int .i64 at_] H) fun v H' => v = .tuple [.agg [.str (ofP (ofS T ⟨at_, 0, 0, 0⟩)).1.1, .int .i64 (ofP (ofS T ⟨at_, 0, 0, 0⟩)).1.2], .int .i64 (ofP (ofS T ⟨at_, 0, 0, 0⟩)).2.1, .agg [.int .i64 (ofP (ofS T ⟨at_, 0, 0, 0⟩)).2.2.1, .int .i64 (ofP (ofS T ⟨at_, 0, 0, 0⟩)).2.2.2]] ∧ Pur H H' := by
  refine W_of (fun _ => run18 0) ?_
  have ho1 := ht.one
  generalize hq : ofS T ⟨at_, 0, 0, 0⟩ = q
  have p1 := (Pur.push H (.row false 2 [[.str [], .int .i64 0]])).then_push (.row false 2 [[.int .i64 0, .int .i64 0]])
  have hbd := bd71_no tv ho1 at_
  have hbx : ∀ l, boxOf l (.agg [tv, .int .i64 at_, .int .i64 0, .nilSl, .int .i64 0, .int .i64 0]) = some (.ptr l 0 0, .row false 6 [[tv, .int .i64 at_, .int .i64 0, .nilSl, .int .i64 0, .int .i64 0]]) := fun l => boxOf_agg l _ (by simp only [List.all_cons, List.all_nil, one_int, one_nilSl, ho1, Bool.and_self])
  simp -implicitDefEqProofs (disch := first | assumption | omega | (simp only [nxB]; omega) | (simp only [oneB])) only [s18, xlen, AV.cells, splice, aload, astore, Nat.reduceAdd, Nat.reduceLeDiff, reduceIte, allB, hbd, hbx]
  have p4 := p1.then_push (.row false 6 [[tv, .int .i64 at_, .int .i64 0, .nilSl, .int .i64 0, .int .i64 0]])
  have hx4 : Rx (((H.push (.row false 2 [[.str [], .int .i64 0]])).push (.row false 2 [[.int .i64 0, .int .i64 0]])).push (.row false 6 [[tv, .int .i64 at_, .int .i64 0, .nilSl, .int .i64 0, .int .i64 0]])) (H.next + 2) T tv .nilSl ⟨at_, 0, 0, 0⟩ :=
    ⟨AHeap.get_push_eq (by simp only [AHeap.next_push]; omega) (by simp only [AHeap.next_push]; omega), ht.pur p4, .inl rfl⟩
  refine W_call (of_spec hx4) ?_
  rintro _ H5 ⟨rfl, m5, hx5⟩
  refine ⟨m5.1, ?_⟩
  rw [hq] at hx5 ⊢
  have hm5 := m5.1
  simp only [AHeap.next_push] at hm5
  simp -implicitDefEqProofs (disch := first | assumption | omega | (simp only [nxB]; omega) | (simp only [oneB])) only [s18, xlen, AV.cells, splice, aload, astore, Nat.reduceAdd, Nat.reduceLeDiff, reduceIte, allB]
  have p6 := Pur.push H5 (.row false 2 [[.str q.1.1, .int .i64 q.1.2]])
  refine W_call (failed_spec (hx5.rd.pur p6)) ?_
  rintro _ H8 ⟨rfl, rfl⟩
  refine ⟨Nat.le_refl _, ?_⟩
  have hr := hx5.rd.pur p6
  unfold Rd at hr
  have hr5 := hx5.rd
  unfold Rd at hr5
  have hb65 : H5.get H.next = some (.row false 2 [[.str [], .int .i64 0]]) := m5.get (by simp -implicitDefEqProofs (disch := first | assumption | omega | (simp only [nxB]; omega) | (simp only [oneB])) only [heapB]) (by omega)
  have hb85 : H5.get (H.next + 1) = some (.row false 2 [[.int .i64 0, .int .i64 0]]) := m5.get (by simp -implicitDefEqProofs (disch := first | assumption | omega | (simp only [nxB]; omega) | (simp only [oneB])) only [heapB]) (by omega)
  have l6 := AHeap.get_lt hb65
  have l8 := AHeap.get_lt hb85
  have pf : Pur H H5 := ⟨by omega, fun l hl => by rw [m5.2 l (by simp only [AHeap.next_push]; omega) (by omega)]; exact p4.2 l hl⟩
  by_cases hf : q.2.fe = 0
  · have hf' : (q.2.fe != 0) = false := by simpa using hf
    rw [show ofP q = (q.1, q.2.at_, 0, 0) by simp [ofP, hf]]
    simp -implicitDefEqProofs (disch := first | assumption | omega | (simp only [nxB]; omega) | (simp only [oneB])) only [s18, xlen, AV.cells, splice, aload, astore, Nat.reduceAdd, Nat.reduceLeDiff, reduceIte, allB, hf', hr, hr5, hb65, hb85, List.append_nil, Bool.and_true]
    exact W_some.2 ⟨rfl, ((pf.then_push _).then_set (Nat.le_refl _) _).then_set (by omega) _⟩
  · have hf' : (q.2.fe != 0) = true := by simpa using hf
    rw [show ofP q = (([], 0), 0, q.2.fe, q.2.fa) by simp [ofP, hf]]
    have hrd25 : rdIs (some (.agg [.int .i64 q.2.fe, .int .i64 q.2.fa])) (.agg [.int .i64 q.2.fe, .int .i64 q.2.fa]) = true := by simp [rdIs, AV.beq, AVs.beq]
    simp -implicitDefEqProofs (disch := first | assumption | omega | (simp only [nxB]; omega) | (simp only [oneB])) only [s18, xlen, AV.cells, splice, aload, astore, Nat.reduceAdd, Nat.reduceLeDiff, reduceIte, allB, hf', hr, hr5, hb65, hb85, hrd25, Bool.and_true]
    exact W_some.2 ⟨rfl, ((pf.then_push _).then_set (Nat.le_refl _) _).then_set (by omega) _⟩
end Go.Proofs.Ytnjoomfeddamcaa


/-
  Texts of one proof, laid together: Y4 Y5 Y6 Y7 Y8 Y9.
-/
import Derived.Test.YtnjoomfeddamcaaMI
import Derived.Test.YtnjoomfeddamcaaMG
import Derived.Test.YtnjoomfeddamcaaMH
set_option linter.unusedVariables false
set_option linter.unusedSimpArgs false
namespace Go.Proofs.Ytnjoomfeddamcaa
open Go.Ev
def QostL (ok : Nat → Prop) (H : AHeap) (r : Nat) (T : List Tok) (tv : AV) (e : Ex) (s' : St) (v : AV) (H' : AHeap) : Prop := Mt r H H' ∧ Ry H' r T tv s' ∧ ExV H' ok e v
abbrev QostE (H : AHeap) := QostL (Ge H.next) H
theorem QostE.box {H Hc : AHeap} {r : Nat} {T : List Tok} {tv : AV} {s s' : St} {a : Ea} {ks : List Ex} {kv : AV} {b : Nat} {lo : Nat} (hx : Ry H r T tv s) (m : Mt r H Hc) (hd : Rd5 Hc r tv s') (hb : H.next ≤ b) (hlo : b < lo) (hk : KsV Hc (Ge lo) ks kv) (blk : ABlk) :
  QostE H r T tv (.mk a ks) s' (.agg (a.cells kv)) (Hc.set b blk) := by
 have hl := hx.rd.lt
 have m' := m.then_set (.inr hb) blk
 refine ⟨m', hx.mut m' ?_, ?_⟩
 ·unfold Rd5 at hd ⊢
  rw [AHeap.get_set_other (by omega)]; exact hd
 ·rw [ExV_mk]
  exact ⟨kv, rfl, hk.keep (Keep.set _ (by unfold Ge; omega) fun l hl => by unfold Ge at *; omega)⟩
theorem QostL.fin {ok : Nat → Prop} {H Hf : AHeap} {r : Nat} {T : List Tok} {tv : AV} {s s' : St} {a : Ea} {ks : List Ex} {kv : AV} (hx : Ry H r T tv s) (m : Mt r H Hf) (hd : Rd5 Hf r tv s') (hk : KsV Hf ok ks kv) : QostL ok H r T tv (.mk a ks) s' (.agg (a.cells kv)) Hf :=
 ⟨m, hx.mut m hd, ExV_mk.2 ⟨kv, rfl, hk⟩⟩
theorem QostE.ret {H H2 : AHeap} {r : Nat} {T : List Tok} {tv : AV} {s s' : St} {e : Ex} {v : AV} {b n : Nat} (hx : Ry H r T tv s) (m : Mt r H H2) (hd : Rd5 H2 r tv s') (hb : H.next ≤ b) (he : ExV H2 (Ge n) e v) (hn : b < n) (blk : ABlk) : QostE H r T tv e s' v (H2.set b blk) := by
 have hl := hx.rd.lt
 have m' := m.then_set (.inr hb) blk
 refine ⟨m', hx.mut m' ?_, he.new (Mut.then_set (S := (· < n)) (Mut.refl _ _) (.inl hn) _) fun l h => by unfold Ge; omega⟩
 unfold Rd5 at hd ⊢
 rw [AHeap.get_set_other (by omega)]; exact hd
def ExprOk (n : Nat) : Prop := ∀ {H : AHeap} {r : Nat} {T : List Tok} {tv : AV} {s : St}, Ry H r T tv s → ∀ (lev : Nat), lev ≤ 5 → ∀ (e : Ex) (s' : St), exprR T n lev s = some (e, s') → W (evw P 39 [.ptr r 0 0, .int .i64 lev] H) (QostE H r T tv e s')
def UnaryROk (n : Nat) : Prop := ∀ {H : AHeap} {r : Nat} {T : List Tok} {tv : AV} {s : St}, Ry H r T tv s → ∀ (e : Ex) (s' : St), unaryR T n s = some (e, s') → W (evw P 69 [.ptr r 0 0] H) (QostE H r T tv e s')
def BehindOk (n : Nat) : Prop := ∀ {ok : Nat → Prop} {H : AHeap} {r : Nat} {T : List Tok} {tv : AV} {s : St} {e : Ex} {v : AV}, Ry H r T tv s → ExV H ok e v → ¬ ok r → (∀ l, H.next ≤ l → ok l) → ∀ (e' : Ex) (s' : St), behindR T n e s = some (e', s') → W (evw P 81 [.ptr r 0 0, v] H) (QostL ok H r T tv e' s')
def InnerOk (n : Nat) : Prop := ∀ {H : AHeap} {r : Nat} {T : List Tok} {tv : AV} {s : St}, Ry H r T tv s → ∀ (e : Ex) (s' : St), innerR T n s = some (e, s') → W (evw P 99 [.ptr r 0 0] H) (QostE H r T tv e s')
def FirstROk (n : Nat) : Prop := ∀ {H : AHeap} {r : Nat} {T : List Tok} {tv : AV} {s : St}, Ry H r T tv s → ∀ (e : Ex) (s' : St), firstR T n s = some (e, s') → W (evw P 82 [.ptr r 0 0] H) (QostE H r T tv e s')
def FreshROk (n : Nat) : Prop := ∀ {H : AHeap} {r : Nat} {T : List Tok} {tv : AV} {s : St}, Ry H r T tv s → ∀ (pos : Int) (e : Ex) (s' : St), freshR T n pos s = some (e, s') → W (evw P 98 [.ptr r 0 0, .int .i64 pos] H) (QostE H r T tv e s')
def ArgsOk (n : Nat) : Prop := ∀ {H : AHeap} {r : Nat} {T : List Tok} {tv : AV} {s : St}, Ry H r T tv s → ∀ (l : List Ex) (s' : St), argsR T n s = some (l, s') → W (evw P 100 [.ptr r 0 0] H) fun v H' => Mt r H H' ∧ Ry H' r T tv s' ∧ KsV H' (Ge H.next) l v
structure AllROk (n : Nat) : Prop where
 expr : ExprOk n
 unary : UnaryROk n
 behind : BehindOk n
 inner : InnerOk n
 first : FirstROk n
 fresh : FreshROk n
 args : ArgsOk n
theorem inner_step {n : Nat} (ih : ExprOk n) : InnerOk (n + 1) := by
 intro H r T tv s hx e s' h
 refine W_of (fun _ => run99 0) ?_
 have hl := hx.rd.lt
 have p1 := Pur.push H (.row false 11 [[.int .i64 0, .int .i64 0, .str [], .str [], .int .i64 0, .nilSl, .int .i64 0, .int .i64 0, .int .i64 0, .int .i64 0, .int .i64 0]])
 simp only [innerR, Option.bind_eq_some_iff] at h
 obtain ⟨⟨e1, s1⟩, h1, h2⟩ := h
 simp only [Option.some.injEq, Prod.mk.injEq] at h2
 obtain ⟨rfl, rfl⟩ := h2
 simp -implicitDefEqProofs (disch := first | assumption | omega | (simp only [nxB]; omega) | (simp only [oneB])) only [s99, xlen, AV.cells, splice, aload, astore, Nat.reduceAdd, Nat.reduceLeDiff, reduceIte, allB]
 refine W_call (ropens_spec (hx.pur p1) [40] (by simp)) ?_
 rintro _ H2 ⟨rfl, m2, hx2⟩
 refine ⟨m2.1, ?_⟩
 have hb2 := m2.get (AHeap.get_push_same H _) (by omega)
 have mb := (p1.mut (· = r)).trans m2
 simp -implicitDefEqProofs (disch := first | assumption | omega | (simp only [nxB]; omega) | (simp only [oneB])) only [s99, xlen, AV.cells, splice, aload, astore, Nat.reduceAdd, Nat.reduceLeDiff, reduceIte, allB]
 refine W_call (ih hx2 0 (by omega) e1 s1 h1) ?_
 rintro v H3 ⟨m3, hx3, he3⟩
 refine ⟨m3.1, ?_⟩
 have hb3 := m3.get hb2 (by omega)
 have hlb3 := AHeap.get_lt hb3
 obtain ⟨cs, rfl, hlen, hone⟩ := he3.cells
 have ht : List.take 11 cs = cs := List.take_of_length_le (by omega)
 simp -implicitDefEqProofs (disch := first | assumption | omega | (simp only [nxB]; omega) | (simp only [oneB])) only [s99, xlen, AV.cells, splice, aload, astore, Nat.reduceAdd, Nat.reduceLeDiff, reduceIte, allB, hlen, hone, List.append_nil, ht]
 have p4 := Pur.push H3 (.row false 11 [cs])
 refine W_call (rcloses_spec (hx3.pur p4) [41] (by simp)) ?_
 rintro _ H5 ⟨rfl, m5, hx5⟩
 refine ⟨m5.1, ?_⟩
 have hb5 := m5.get (p4.get hb3) (by omega)
 have hlb5 := AHeap.get_lt hb5
 have hc5 := m5.get (AHeap.get_push_same H3 (.row false 11 [cs])) (by omega)
 have hm2 := m2.1
 simp only [AHeap.next_push] at hm2
 simp -implicitDefEqProofs (disch := first | assumption | omega | (simp only [nxB]; omega) | (simp only [oneB])) only [s99, xlen, AV.cells, splice, aload, astore, Nat.reduceAdd, Nat.reduceLeDiff, reduceIte, allB, hlen, hone, List.append_nil, ht, hb5, hc5]
 refine W_some.2 (QostE.ret hx (((mb.trans m3).trans (p4.mut _)).trans m5) hx5.rd (Nat.le_refl _) (n := H2.next) (he3.new ?_ fun _ h => h) (by omega) _)
 exact ((Pur.push _ _).mut _).trans ⟨m5.1, fun l hl' hS => m5.2 l hl' (by omega)⟩
theorem fresh_stepR {n : Nat} (ih : InnerOk n) : FreshROk (n + 1) := by
 intro H r T tv s hx pos e s' h
 refine W_of (fun _ => run98 0) ?_
 have hl := hx.rd.lt
 have ho1 := hx.tk.one
 have p1 := Pur.push H (.row false 11 [[.int .i64 0, .int .i64 0, .str [], .str [], .int .i64 0, .nilSl, .int .i64 0, .int .i64 0, .int .i64 0, .int .i64 0, .int .i64 0]])
 simp -implicitDefEqProofs (disch := first | assumption | omega | (simp only [nxB]; omega) | (simp only [oneB])) only [s98, xlen, AV.cells, splice, aload, astore, Nat.reduceAdd, Nat.reduceLeDiff, reduceIte, allB]
 have hx1 := hx.pur p1
 refine W_call (ris_spec hx1.rd hx1.tk [91] (by simp)) ?_
 rintro _ H2 ⟨rfl, p2⟩
 refine ⟨p2.1, ?_⟩
 have hx2 := hx1.pur p2
 have hb2 := p2.get (AHeap.get_push_same H (.row false 11 [[.int .i64 0, .int .i64 0, .str [], .str [], .int .i64 0, .nilSl, .int .i64 0, .int .i64 0, .int .i64 0, .int .i64 0, .int .i64 0]]))
 have hlb2 := AHeap.get_lt hb2
 have mb := (p1.trans p2).mut (· = r)
 simp only [freshR] at h
 cases hi : isR T s [91] with
 | true =>
  simp only [hi, cond_true, Option.bind_eq_some_iff] at h
  obtain ⟨⟨e1, s1⟩, h1, h2⟩ := h
  simp only [Option.some.injEq, Prod.mk.injEq] at h2
  obtain ⟨rfl, rfl⟩ := h2
  have hr2 := hx2.rd
  have hr2' := hr2
  unfold Rd5 at hr2'
  obtain ⟨m3, hd3⟩ := rset hr2 (goS s)
  simp -implicitDefEqProofs (disch := first | assumption | omega | (simp only [nxB]; omega) | (simp only [oneB])) only [s98, xlen, AV.cells, splice, aload, astore, Nat.reduceAdd, Nat.reduceLeDiff, reduceIte, allB, hr2', ho1, Bool.not_true]
  refine W_call (rof_spec (hx.mut (mb.trans m3) hd3)) ?_
  rintro _ H5 ⟨rfl, m5, hx5⟩
  refine ⟨m5.1, ?_⟩
  have hb5 := m5.get (m3.get hb2 (by omega)) (by omega)
  have hl5 := AHeap.get_lt hb5
  simp -implicitDefEqProofs (disch := first | assumption | omega | (simp only [nxB]; omega) | (simp only [oneB])) only [s98, xlen, AV.cells, splice, aload, astore, Nat.reduceAdd, Nat.reduceLeDiff, reduceIte, allB]
  have p6 := Pur.push H5 (.row false 2 [[.str (ofR T (goS s)).1.1, .int .i64 (ofR T (goS s)).1.2]])
  have hq6 := AHeap.get_push_same H5 (.row false 2 [[.str (ofR T (goS s)).1.1, .int .i64 (ofR T (goS s)).1.2]])
  refine W_call (take_spec (hx5.pur p6) [93] (by simp)) ?_
  rintro _ H8 ⟨rfl, m8, hx8⟩
  refine ⟨m8.1, ?_⟩
  have hb8 := m8.get (p6.get hb5) (by omega)
  have hq8 := m8.get hq6 (by omega)
  have hl8 := AHeap.get_lt hb8
  have hlq8 := AHeap.get_lt hq8
  simp -implicitDefEqProofs (disch := first | assumption | omega | (simp only [nxB]; omega) | (simp only [oneB])) only [s98, xlen, AV.cells, splice, aload, astore, Nat.reduceAdd, Nat.reduceLeDiff, reduceIte, allB]
  refine W_call (ih hx8 e1 s1 h1) ?_
  rintro v H9 ⟨m9, hx9, he9⟩
  refine ⟨m9.1, ?_⟩
  have hb9 := m9.get hb8 (by omega)
  have hq9 := m9.get hq8 (by omega)
  have hl9 := AHeap.get_lt hb9
  have hlq9 := AHeap.get_lt hq9
  have hm9 := m9.1
  obtain ⟨cs, rfl, hlen, hone⟩ := he9.cells
  have hs : ∀ l, sliceOf P l 35 1 [(0, .agg cs)] = some (.sl l 0 1 11 (some 1), .row false 11 [cs]) := fun l => sl35_1 l cs hlen hone
  replace mb := ((((mb.trans m3).trans m5).trans (p6.mut _)).trans m8).trans m9
  have hr2 := hx9.rd
  unfold Rd5 at hr2
  simp -implicitDefEqProofs (disch := first | assumption | omega | (simp only [nxB]; omega) | (simp only [oneB])) only [s98, xlen, AV.cells, splice, aload, astore, Nat.reduceAdd, Nat.reduceLeDiff, reduceIte, allB, hs, hb9, hq9, hq8]
  refine W_some.2 ?_
  refine QostL.fin (ok := Ge H.next) (a := { kind := 9, ofn := (ofR T (goS s)).1.1, ofd := (ofR T (goS s)).1.2, pos := pos }) (kv := .sl H9.next 0 1 11 (some 1)) (s' := s1) hx ?_ ?_ (KsV.one_at (ro := false) ?_ (by unfold Ge; omega) (he9.new ?_ fun l h => by unfold Ge; omega))
  ·(repeat (first | exact mb | refine Mut.then_push ?_ _ | refine Mut.then_set (S := (· = r)) ?_ (.inl rfl) _ | refine Mut.then_set ?_ (.inr (by (first | omega | (simp only [AHeap.next_push, AHeap.next_set]; omega)))) _))
  ·(unfold Rd5; simp -implicitDefEqProofs (disch := first | assumption | omega | (simp only [nxB]; omega) | (simp only [oneB])) only [heapB, hr2, goS, outS, inS])
  ·simp -implicitDefEqProofs (disch := first | assumption | omega | (simp only [nxB]; omega) | (simp only [oneB])) only [heapB]
  ·exact Mut.then_set (S := fun l => l < _) ((Mut.refl _ _).then_push _) (.inl (by omega)) _
 | false =>
  simp only [hi, cond_false, Option.some.injEq, Prod.mk.injEq] at h
  obtain ⟨rfl, rfl⟩ := h
  simp -implicitDefEqProofs (disch := first | assumption | omega | (simp only [nxB]; omega) | (simp only [oneB])) only [s98, xlen, AV.cells, splice, aload, astore, Nat.reduceAdd, Nat.reduceLeDiff, reduceIte, allB, Bool.not_false]
  refine W_call (rname_spec hx2) ?_
  rintro _ H5 ⟨rfl, m5, hx5⟩
  refine ⟨m5.1, ?_⟩
  have hb5 := m5.get hb2 (by omega)
  have hl5 := AHeap.get_lt hb5
  simp -implicitDefEqProofs (disch := first | assumption | omega | (simp only [nxB]; omega) | (simp only [oneB])) only [s98, xlen, AV.cells, splice, aload, astore, Nat.reduceAdd, Nat.reduceLeDiff, reduceIte, allB, hb5]
  refine W_some.2 ?_
  exact QostE.box (a := { kind := 8, ofn := (nameR T s).1, pos := pos }) (kv := .nilSl) (lo := H.next + 1) hx (mb.trans m5) hx5.rd (Nat.le_refl _) (Nat.lt_succ_self _) (KsV.nil _ _) _
theorem args_loop {N : Nat} (ih : ∀ k, k < N → ExprOk k) {H0 : AHeap} {r : Nat} {T : List Tok} {tv : AV} {s0 : St} (hx0 : Ry H0 r T tv s0) :
  ∀ (n m : Nat), n < N → n < m → ∀ (H : AHeap) (s : St) (l : List Ex) (L : Nat) (els : List (List AV)), Mt r H0 H → Rd5 H r tv s → l.length + n ≤ 1000000000 → H.get L = some (.row false 11 els) → H0.next ≤ L → els.length = l.length →
   ElsV H (fun k => H0.next ≤ k ∧ k ≠ L) l els → ∀ (l' : List Ex) (s' : St), argsRL T n l s = some (l', s') →
   W (s100_l1 (evw P) N m (.ptr r 0 0) (.sl L 0 l.length 11 none) H) fun v H' => Mt r H0 H' ∧ Ry H' r T tv s' ∧ KsV H' (Ge H0.next) l' v
 | 0, m, hN, hm, H, s, l, L, els, mb, hrd, hlen, hg, hL, hel, hev, l', s', h => by simp [argsRL] at h
 | n + 1, 0, hN, hm, H, s, l, L, els, mb, hrd, hlen, hg, hL, hel, hev, l', s', h => by omega
 | n + 1, m + 1, hN, hm, H, s, l, L, els, mb, hrd, hlen, hg, hL, hel, hev, l', s', h => by
  have hl := hx0.rd.lt
  have ho1 := hx0.tk.one
  have hlL := AHeap.get_lt hg
  have hle := mb.1
  have hx := hx0.mut mb hrd
  simp only [argsRL] at h
  simp only [s100_l1]
  rw [s100_b1]
  refine W_call (ris_spec hrd hx.tk [44] (by simp)) ?_
  rintro _ H1 ⟨rfl, p1⟩
  refine ⟨p1.1, ?_⟩
  have hx1 := hx.pur p1
  have hg1 := p1.get hg
  have hlL1 := AHeap.get_lt hg1
  have hev1 := hev.keep (Keep.pur p1 fun _ h => h) l els
  cases ht : isR T s [44] with
  | false =>
   simp only [ht, cond_false, Option.some.injEq, Prod.mk.injEq] at h
   obtain ⟨rfl, rfl⟩ := h
   simp -implicitDefEqProofs (disch := first | assumption | omega | (simp only [nxB]; omega) | (simp only [oneB])) only [s100_j0, s100_b1, s100, xlen, AV.cells, splice, aload, astore, Nat.reduceAdd, Nat.reduceLeDiff, reduceIte, allB]
   refine W_call (rcloses_spec hx1 [41] (by simp)) ?_
   rintro _ H2 ⟨rfl, m2, hx2⟩
   refine ⟨m2.1, ?_⟩
   try simp only [s100_j0, s100_b1, s100]
   refine W_some.2 ⟨(mb.trans (p1.mut _)).trans m2, hx2, .inr (.inl ⟨L, 0, none, false, els, rfl, hL, m2.get hg1 (by omega), ?_⟩)⟩
   rw [List.drop_zero]
   exact hev1.keep (Keep.mut m2 (by omega) fun _ h => h.1) l els
  | true =>
   simp only [ht, cond_true, Option.bind_eq_some_iff] at h
   obtain ⟨⟨e1, s1⟩, h1, h2⟩ := h
   have hr1 := hx1.rd
   have hr1' := hr1
   unfold Rd5 at hr1'
   have hlr1 := hr1.lt
   obtain ⟨m2, hd2⟩ := rset hr1 (goS s)
   simp -implicitDefEqProofs (disch := first | assumption | omega | (simp only [nxB]; omega) | (simp only [oneB])) only [s100_j0, s100_b1, s100, xlen, AV.cells, splice, aload, astore, Nat.reduceAdd, Nat.reduceLeDiff, reduceIte, allB, hr1', ho1]
   refine W_call (ih n (by omega) (hx0.mut ((mb.trans (p1.mut _)).trans m2) hd2) 0 (by omega) e1 s1 h1) ?_
   rintro v H3 ⟨m3, hx3, he3⟩
   refine ⟨m3.1, ?_⟩
   have hg2 := m3.get (m2.get hg1 (by omega)) (by omega)
   have hlL2 := AHeap.get_lt hg2
   have hm1 := p1.1
   have hm3 := m3.1
   simp only [AHeap.next_set] at hm3 he3
   have hev2 := hev1.keep (Keep.mut (m2.trans m3) (by omega) fun _ h => h) l els
   obtain ⟨cs, rfl, hlen', hone⟩ := he3.cells
   have hs : ∀ l, sliceOf P l 35 1 [(0, .agg cs)] = some (.sl l 0 1 11 (some 1), .row false 11 [cs]) := fun l => sl35_1 l cs hlen' hone
   simp -implicitDefEqProofs (disch := first | assumption | omega | (simp only [nxB]; omega) | (simp only [oneB])) only [s100_j0, s100, xlen, AV.cells, splice, aload, astore, Nat.reduceAdd, Nat.reduceLeDiff, reduceIte, allB, hs]
   have p3 := Pur.push H3 (.row false 11 [cs])
   rw [ap35_sl (AHeap.get_push_same H3 (.row false 11 [cs])) (p3.get hg2) hel (by omega), xcall_some (by simp only [AHeap.next_push, AHeap.next_set]; omega)]
   simp only [AHeap.next_push, AHeap.next_set, s100_j0, s100]
   have hlen2 : l.length + 1 = (l ++ [e1]).length := by simp
   rw [hlen2]
   have gK : ∀ k, k < H3.next → k ≠ L → (((H3.push (.row false 11 [cs])).set L .dead).push (.row false 11 (els ++ [cs]))).get k = H3.get k := fun k hk hk' => by
    rw [AHeap.get_push_other (by simp only [AHeap.next_push, AHeap.next_set]; omega), AHeap.get_set_other (by omega), AHeap.get_push_other (by omega)]
   have mN : Mt r H0 (((H3.push (.row false 11 [cs])).set L .dead).push (.row false 11 (els ++ [cs]))) := ((((mb.trans (p1.mut _)).trans m2).trans m3).then_push _ |>.then_set (.inr hL) _).then_push _
   refine args_loop ih hx0 n m (by omega) (by omega) _ s1 (l ++ [e1]) (H3.next + 1) (els ++ [cs]) mN ?_ (by simp; omega) ?_ (by omega) (by simp [hel]) ?_ l' s' h2
   ·have := hx3.rd
    unfold Rd5 at this ⊢
    rw [gK r (by omega) (by omega)]; exact this
   ·exact AHeap.get_push_eq (by simp only [AHeap.next_push, AHeap.next_set]; omega) (by simp only [AHeap.next_push, AHeap.next_set]; omega)
   ·refine ElsV.append l els e1 cs ?_ hel ?_
    ·exact hev2.keep (fun k ro es hk hg' => ⟨⟨hk.1, by have := AHeap.get_lt hg'; omega⟩, by rw [gK k (AHeap.get_lt hg') hk.2]; exact hg'⟩) l els
    ·exact he3.keep (fun k ro es hk hg' => by
      have h3 := AHeap.get_lt hg'
      unfold Ge at hk
      exact ⟨⟨by omega, by omega⟩, by rw [gK k h3 (by omega)]; exact hg'⟩) e1 _
theorem args_step {n : Nat} (hn : n ≤ 900000000) (ih : ∀ k, k ≤ n → ExprOk k) : ArgsOk (n + 1) := by
 intro H r T tv s hx l s' h
 refine W_of (fun _ => run100 (n + 1)) ?_
 have hl := hx.rd.lt
 simp only [argsR] at h
 rw [s100]
 refine W_call (ropens_spec hx [40] (by simp)) ?_
 rintro _ H1 ⟨rfl, m1, hx1⟩
 refine ⟨m1.1, ?_⟩
 simp -implicitDefEqProofs (disch := first | assumption | omega | (simp only [nxB]; omega) | (simp only [oneB])) only [s100_j0, s100, xlen, AV.cells, splice, aload, astore, Nat.reduceAdd, Nat.reduceLeDiff, reduceIte, allB]
 refine W_call (ris_spec hx1.rd hx1.tk [41] (by simp)) ?_
 rintro _ H2 ⟨rfl, p2⟩
 refine ⟨p2.1, ?_⟩
 have hx2 := hx1.pur p2
 have mb := m1.trans (p2.mut _)
 cases hi : isR T (opensR T [40] s) [41] with
 | true =>
  simp only [hi, cond_true, Option.some.injEq, Prod.mk.injEq] at h
  obtain ⟨rfl, rfl⟩ := h
  simp -implicitDefEqProofs (disch := first | assumption | omega | (simp only [nxB]; omega) | (simp only [oneB])) only [s100_j0, s100, xlen, AV.cells, splice, aload, astore, Nat.reduceAdd, Nat.reduceLeDiff, reduceIte, allB]
  refine W_call (rcloses_spec hx2 [41] (by simp)) ?_
  rintro _ H3 ⟨rfl, m3, hx3⟩
  refine ⟨m3.1, ?_⟩
  try simp only [s100_j0, s100]
  exact W_some.2 ⟨mb.trans m3, hx3, KsV.nil _ _⟩
 | false =>
  simp only [hi, cond_false, Option.bind_eq_some_iff] at h
  obtain ⟨⟨e1, s1⟩, h1, h2⟩ := h
  simp -implicitDefEqProofs (disch := first | assumption | omega | (simp only [nxB]; omega) | (simp only [oneB])) only [s100_j0, s100, xlen, AV.cells, splice, aload, astore, Nat.reduceAdd, Nat.reduceLeDiff, reduceIte, allB]
  refine W_call (ih n (Nat.le_refl _) hx2 0 (by omega) e1 s1 h1) ?_
  rintro v H3 ⟨m3, hx3, he3⟩
  refine ⟨m3.1, ?_⟩
  have hm1 := m1.1
  have hm2 := p2.1
  have hm3 := m3.1
  obtain ⟨cs, rfl, hlen', hone⟩ := he3.cells
  have hs : ∀ l, sliceOf P l 35 1 [(0, .agg cs)] = some (.sl l 0 1 11 (some 1), .row false 11 [cs]) := fun l => sl35_1 l cs hlen' hone
  simp -implicitDefEqProofs (disch := first | assumption | omega | (simp only [nxB]; omega) | (simp only [oneB])) only [s100_j0, s100, xlen, AV.cells, splice, aload, astore, Nat.reduceAdd, Nat.reduceLeDiff, reduceIte, allB, hs]
  have p4 := (Pur.push H3 (.row false 11 [cs])).then_push (.row false 11 [cs])
  rw [ap35_nil (AHeap.get_push_same H3 (.row false 11 [cs])), xcall_some (by simp only [AHeap.next_push]; omega)]
  simp only [AHeap.next_push, s100_j0, s100]
  refine args_loop (N := n + 1) (fun k hk => ih k (by omega)) hx n (n + 1) (by omega) (by omega) _ s1 [e1] (H3.next + 1) [cs] ((mb.trans m3).trans (p4.mut _)) (hx3.rd.pur p4) (by simp; omega) ?_ (by omega) rfl ?_ l s' h2
  ·exact AHeap.get_push_eq (by simp only [AHeap.next_push]; omega) (by simp only [AHeap.next_push]; omega)
  ·rw [ElsV, ElsV]
   exact ⟨he3.keep (fun k ro es hk hg' => by
     have h3 := AHeap.get_lt hg'
     unfold Ge at hk
     exact ⟨⟨by omega, by omega⟩, p4.get hg'⟩) e1 _, trivial⟩
end Go.Proofs.Ytnjoomfeddamcaa

namespace Go.Proofs.Ytnjoomfeddamcaa
open Go.Ev
theorem behind_loop {N B : Nat} (ih : ∀ k, k < B → ExprOk k) {ok : Nat → Prop} {H0 : AHeap} {r : Nat} {T : List Tok} {tv : AV} {s0 : St} (hx0 : Ry H0 r T tv s0) (hok : ¬ ok r) (hnew : ∀ l, H0.next ≤ l → ok l) :
  ∀ (n m : Nat), n ≤ B → n < m → ∀ (H : AHeap) (s : St) (e : Ex) (cs zs : List AV), Mt r H0 H → Rd5 H r tv s → H.get (H0.next + 1) = some (.row false 11 [zs]) → zs.length = 11 → H.get H0.next = some (.row false 11 [cs]) →
   ExV H (fun l => ok l ∧ l ≠ H0.next ∧ l ≠ H0.next + 1) e (.agg cs) → ∀ (e' : Ex) (s' : St), behindR T n e s = some (e', s') →
   W (s81_l1 (evw P) N m (.ptr r 0 0) (.ptr H0.next 0 0) (.ptr (H0.next + 1) 0 0) H) (QostL ok H0 r T tv e' s')
 | 0, m, hN, hm, H, s, e, cs, zs, mb, hrd, hb4, hz, hb3, he, e', s', h => by simp [behindR] at h
 | n + 1, 0, hN, hm, H, s, e, cs, zs, mb, hrd, hb4, hz, hb3, he, e', s', h => by omega
 | n + 1, m + 1, hN, hm, H, s, e, cs, zs, mb, hrd, hb4, hz, hb3, he, e', s', h => by
  have hl := hx0.rd.lt
  have ho1 := hx0.tk.one
  have hx := hx0.mut mb hrd
  have hl3 := AHeap.get_lt hb3
  have hl4 := AHeap.get_lt hb4
  have hle := mb.1
  obtain ⟨cs', hcs, hlen, hone⟩ := he.cells
  cases hcs
  have ht : List.take 11 cs = cs := List.take_of_length_le (by omega)
  have hdz : List.drop 11 zs = [] := List.drop_of_length_le (by omega)
  have hdc : List.drop 11 cs = [] := List.drop_of_length_le (by omega)
  have hq := he.same
  simp only [behindR] at h
  simp only [s81_l1]
  rw [s81_b1]
  refine W_call (ris_spec hrd hx.tk [46] (by simp)) ?_
  rintro _ H1 ⟨rfl, p1⟩
  refine ⟨p1.1, ?_⟩
  have fin : ∀ Hf, Pur H Hf → (e', s') = (e, s) → W (s81_j0 (evw P) N (.ptr H0.next 0 0) (.ptr (H0.next + 1) 0 0) Hf) (QostL ok H0 r T tv e' s') := by
   intro Hf p hes
   cases hes
   have hb3' := p.get hb3
   have hb4' := p.get hb4
   have l3 := AHeap.get_lt hb3'
   have l4 := AHeap.get_lt hb4'
   simp -implicitDefEqProofs (disch := first | assumption | omega | (simp only [nxB]; omega) | (simp only [oneB])) only [s81_j0, s81_3, s81_19, s81_33, s81_34, s81_35, s81_36, s81_b1, s81_42, s81_43, s81, xlen, AV.cells, splice, aload, astore, Nat.reduceAdd, Nat.reduceLeDiff, reduceIte, allB, hb3', hb4', hlen, hone, List.append_nil, ht, hdz]
   have m' := (mb.trans (p.mut _)).then_set (.inr (Nat.le_succ _)) (.row false 11 [cs])
   refine W_some.2 ⟨m', hx0.mut m' ?_, (he.keep (Keep.pur p fun _ h => h) e _).keep (Keep.set _ (by omega) fun l h => h.1) e _⟩
   have := hrd.pur p
   unfold Rd5 at this ⊢
   rw [AHeap.get_set_other (by omega)]; exact this
  have go : ∀ (H3 : AHeap), Pur H H3 → (bif isR T s [46] then behindR T n (.mk { kind := 5, name := (nameR T (goS s)).1, pos := (tokAt T s.at_).pos } [e]) (nameR T (goS s)).2 else (exprR T n 0 (opensR T [91] s)).bind fun p => behindR T n (.mk { kind := 6, pos := (tokAt T s.at_).pos } [e, p.1]) (closesR T [93] p.2)) = some (e', s') →
    W (s81_36 (evw P) (s81_l1 (evw P) N m) H3 (.ptr r 0 0) (.ptr H0.next 0 0) (.ptr (H0.next + 1) 0 0)) (QostL ok H0 r T tv e' s') := by
   intro H3 p3 h3
   simp only [s81_36]
   refine W_call (rtok_spec (hrd.pur p3) (hx.tk.pur p3)) ?_
   rintro _ H4 ⟨rfl, p4⟩
   refine ⟨p4.1, ?_⟩
   simp -implicitDefEqProofs (disch := first | assumption | omega | (simp only [nxB]; omega) | (simp only [oneB])) only [s81_35, s81_34, s81_33, xlen, AV.cells, splice, aload, astore, Nat.reduceAdd, Nat.reduceLeDiff, reduceIte, allB, Tok.v]
   have p5 := (p3.trans p4).then_push (.row false 4 [[.int .i64 (tokAt T s.at_).kind, .str (tokAt T s.at_).text, .int .i64 (tokAt T s.at_).n, .int .i64 (tokAt T s.at_).pos]])
   have hq5 := AHeap.get_push_same H4 (.row false 4 [[.int .i64 (tokAt T s.at_).kind, .str (tokAt T s.at_).text, .int .i64 (tokAt T s.at_).n, .int .i64 (tokAt T s.at_).pos]])
   refine W_call (ris_spec (hrd.pur p5) (hx.tk.pur p5) [46] (by simp)) ?_
   rintro _ H7 ⟨rfl, p7⟩
   refine ⟨p7.1, ?_⟩
   have p8 := p5.trans p7
   have hq7 := p7.get hq5
   have hlq7 := AHeap.get_lt hq7
   have hb37 := p8.get hb3
   have hb47 := p8.get hb4
   have hx7 := hx.pur p8
   have mb7 := mb.trans (p8.mut _)
   have he7 := he.keep (Keep.pur p8 fun _ h => h) e _
   have hn4 : H.next ≤ H4.next := (p3.trans p4).1
   have l37 := AHeap.get_lt hb37
   cases hd : isR T s [46] with
   | true =>
    simp only [hd, cond_true] at h3
    have hr7 := hx7.rd
    have hr7' := hr7
    unfold Rd5 at hr7'
    have hlr7 := hr7.lt
    obtain ⟨m8, hd8⟩ := rset hr7 (goS s)
    simp -implicitDefEqProofs (disch := first | assumption | omega | (simp only [nxB]; omega) | (simp only [oneB])) only [s81_19, s81_33, s81_34, s81_35, s81_36, s81_42, s81_43, s81, xlen, AV.cells, splice, aload, astore, Nat.reduceAdd, Nat.reduceLeDiff, reduceIte, allB, hr7', ho1]
    refine W_call (rname_spec (hx0.mut (mb7.trans m8) hd8)) ?_
    rintro _ H9 ⟨rfl, m9, hx9⟩
    refine ⟨m9.1, ?_⟩
    have m89 := m8.trans m9
    have hb38 := m8.get hb37 (by omega)
    have hb39 := m9.get hb38 (by omega)
    have hb49 := m89.get hb47 (by omega)
    have hq8 := m8.get hq7 (by omega)
    have hq9 := m9.get hq8 (by omega)
    have l39 := AHeap.get_lt hb39
    have l49 := AHeap.get_lt hb49
    have lq9 := AHeap.get_lt hq9
    have hb38' : (H7.set r (.row false 5 [[tv, .int .i64 (IntKind.i64.wrap (s.at_ + 1)), .int .i64 s.opn, .int .i64 s.fe, .int .i64 s.fa]])).get H0.next = some (.row false 11 [cs]) := hb38
    have hq8' : (H7.set r (.row false 5 [[tv, .int .i64 (IntKind.i64.wrap (s.at_ + 1)), .int .i64 s.opn, .int .i64 s.fe, .int .i64 s.fa]])).get H4.next = some (.row false 4 [[.int .i64 (tokAt T s.at_).kind, .str (tokAt T s.at_).text, .int .i64 (tokAt T s.at_).n, .int .i64 (tokAt T s.at_).pos]]) := hq8
    have hs : ∀ l, sliceOf P l 35 1 [(0, .agg cs)] = some (.sl l 0 1 11 (some 1), .row false 11 [cs]) := fun l => sl35_1 l cs hlen hone
    simp -implicitDefEqProofs (disch := first | assumption | omega | (simp only [nxB]; omega) | (simp only [oneB])) only [s81_19, s81_33, s81_34, s81_35, s81_36, s81_42, s81_43, s81, xlen, AV.cells, splice, aload, astore, Nat.reduceAdd, Nat.reduceLeDiff, reduceIte, allB, hb39, hb38', hq9, hq8', hs, ht, hdc, hq, Bool.and_true, Bool.and_self]
    simp only [s81_3]
    have mb10 : Mt r H0 ((H9.push (.row false 11 [cs])).set H0.next (.row false 11 [[.int .i64 5, .int .i64 0, .str (nameR T (goS s)).1, .str [], .int .i64 0, .sl H9.next 0 1 11 (some 1), .int .i64 (tokAt T s.at_).pos, .int .i64 0, .int .i64 0, .int .i64 0, .int .i64 0]])) := ((mb7.trans m89).then_push _).then_set (.inr (Nat.le_refl _)) _
    have gK : ∀ k, k < H9.next → k ≠ H0.next → ((H9.push (.row false 11 [cs])).set H0.next (.row false 11 [[.int .i64 5, .int .i64 0, .str (nameR T (goS s)).1, .str [], .int .i64 0, .sl H9.next 0 1 11 (some 1), .int .i64 (tokAt T s.at_).pos, .int .i64 0, .int .i64 0, .int .i64 0, .int .i64 0]])).get k = H9.get k := fun k hk hk' => by
     rw [AHeap.get_set_other (by omega), AHeap.get_push_other (by omega)]
    refine behind_loop ih hx0 hok hnew n m (by omega) (by omega) _ _ _ (Ea.cells { kind := 5, name := (nameR T (goS s)).1, pos := (tokAt T s.at_).pos } (.sl H9.next 0 1 11 (some 1))) zs mb10 ?_ ?_ hz (AHeap.get_set_same (by simp only [AHeap.next_push]; omega)) ?_ e' s' h3
    ·have := hx9.rd
     unfold Rd5 at this ⊢
     rw [gK r (by omega) (by omega)]; exact this
    ·rw [gK _ (by omega) (by omega)]; exact hb49
    ·rw [ExV_mk]
     have he9 := he7.mut m89 (by rintro ⟨h, _⟩; exact hok h) fun _ h => h
     refine ⟨_, rfl, KsV.one_at (ro := false) ?_ ⟨hnew _ (by omega), by omega, by omega⟩ (he9.keep (fun l ro els hl' hg => ⟨hl', by rw [gK l (AHeap.get_lt hg) hl'.2.1]; exact hg⟩) e _)⟩
     rw [AHeap.get_set_other (by omega)]; exact AHeap.get_push_same _ _
   | false =>
    simp only [hd, cond_false, Option.bind_eq_some_iff] at h3
    obtain ⟨⟨e1, s1⟩, g1, g2⟩ := h3
    simp -implicitDefEqProofs (disch := first | assumption | omega | (simp only [nxB]; omega) | (simp only [oneB])) only [s81_3, s81_33, s81_34, s81_35, s81_36, s81_42, s81_43, s81, xlen, AV.cells, splice, aload, astore, Nat.reduceAdd, Nat.reduceLeDiff, reduceIte, allB]
    refine W_call (ropens_spec hx7 [91] (by simp)) ?_
    rintro _ H8 ⟨rfl, m8, hx8⟩
    refine ⟨m8.1, ?_⟩
    simp -implicitDefEqProofs (disch := first | assumption | omega | (simp only [nxB]; omega) | (simp only [oneB])) only [s81_3, s81_33, s81_34, s81_35, s81_36, s81_42, s81_43, s81, xlen, AV.cells, splice, aload, astore, Nat.reduceAdd, Nat.reduceLeDiff, reduceIte, allB]
    refine W_call (ih n (by omega) hx8 0 (by omega) e1 s1 g1) ?_
    rintro v H9 ⟨m9, hx9, he9⟩
    refine ⟨m9.1, ?_⟩
    obtain ⟨ds, rfl, hlen', hone'⟩ := he9.cells
    have htd : List.take 11 ds = ds := List.take_of_length_le (by omega)
    simp -implicitDefEqProofs (disch := first | assumption | omega | (simp only [nxB]; omega) | (simp only [oneB])) only [s81_3, s81_33, s81_34, s81_35, s81_36, s81_42, s81_43, s81, xlen, AV.cells, splice, aload, astore, Nat.reduceAdd, Nat.reduceLeDiff, reduceIte, allB, hlen', hone', List.append_nil]
    have p10 := Pur.push H9 (.row false 11 [ds])
    refine W_call (rcloses_spec (hx9.pur p10) [93] (by simp)) ?_
    rintro _ H12 ⟨rfl, m12, hx12⟩
    refine ⟨m12.1, ?_⟩
    have mall := ((m8.trans m9).trans (p10.mut _)).trans m12
    have hb312 := mall.get hb37 (by omega)
    have hb412 := mall.get hb47 (by omega)
    have hq12 := mall.get hq7 (by omega)
    have hd12 := m12.get (AHeap.get_push_same H9 (.row false 11 [ds])) (by have := m8.1; have := m9.1; omega)
    have l312 := AHeap.get_lt hb312
    have l412 := AHeap.get_lt hb412
    have lq12 := AHeap.get_lt hq12
    have hs : ∀ l, sliceOf P l 35 2 [(0, .agg cs), (1, .agg ds)] = some (.sl l 0 2 11 (some 2), .row false 11 [cs, ds]) := fun l => sl35_2 l cs ds hlen hone hlen' hone'
    simp -implicitDefEqProofs (disch := first | assumption | omega | (simp only [nxB]; omega) | (simp only [oneB])) only [s81_3, s81_33, s81_34, s81_35, s81_36, s81_42, s81_43, s81, xlen, AV.cells, splice, aload, astore, Nat.reduceAdd, Nat.reduceLeDiff, reduceIte, allB, hb312, hd12, hq12, hs, ht, htd, hdc]
    simp only [s81_19]
    have mb13 : Mt r H0 ((H12.push (.row false 11 [cs, ds])).set H0.next (.row false 11 [[.int .i64 6, .int .i64 0, .str [], .str [], .int .i64 0, .sl H12.next 0 2 11 (some 2), .int .i64 (tokAt T s.at_).pos, .int .i64 0, .int .i64 0, .int .i64 0, .int .i64 0]])) := ((mb7.trans mall).then_push _).then_set (.inr (Nat.le_refl _)) _
    have gK : ∀ k, k < H12.next → k ≠ H0.next → ((H12.push (.row false 11 [cs, ds])).set H0.next (.row false 11 [[.int .i64 6, .int .i64 0, .str [], .str [], .int .i64 0, .sl H12.next 0 2 11 (some 2), .int .i64 (tokAt T s.at_).pos, .int .i64 0, .int .i64 0, .int .i64 0, .int .i64 0]])).get k = H12.get k := fun k hk hk' => by
     rw [AHeap.get_set_other (by omega), AHeap.get_push_other (by omega)]
    refine behind_loop ih hx0 hok hnew n m (by omega) (by omega) _ _ _ (Ea.cells { kind := 6, pos := (tokAt T s.at_).pos } (.sl H12.next 0 2 11 (some 2))) zs mb13 ?_ ?_ hz (AHeap.get_set_same (by simp only [AHeap.next_push]; omega)) ?_ e' s' g2
    ·have := hx12.rd
     unfold Rd5 at this ⊢
     rw [gK r (by omega) (by omega)]; exact this
    ·rw [gK _ (by omega) (by omega)]; exact hb412
    ·rw [ExV_mk]
     have he12 := he7.mut mall (by rintro ⟨h, _⟩; exact hok h) fun _ h => h
     have l47 := AHeap.get_lt hb47
     have hm8 := m8.1
     have hm9 := m9.1
     refine ⟨_, rfl, KsV.two_at (ro := false) ?_ ⟨hnew _ (by omega), by omega, by omega⟩ (he12.keep (fun l ro els hl' hg => ⟨hl', by rw [gK l (AHeap.get_lt hg) hl'.2.1]; exact hg⟩) e _) (he9.keep (fun l ro els hl' hg => ?_) e1 _)⟩
     ·rw [AHeap.get_set_other (by omega)]; exact AHeap.get_push_same _ _
     ·unfold Ge at hl'
      have hg12 := m12.get (p10.get hg) (by omega)
      exact ⟨⟨hnew _ (by omega), by omega, by omega⟩, by rw [gK l (AHeap.get_lt hg12) (by omega)]; exact hg12⟩
  cases h1 : isR T s [46] with
  | true =>
   simp only [h1, cond_true] at h
   simp -implicitDefEqProofs (disch := first | assumption | omega | (simp only [nxB]; omega) | (simp only [oneB])) only [s81_3, s81_19, s81_33, s81_34, s81_35, s81_42, s81_43, s81, xlen, AV.cells, splice, aload, astore, Nat.reduceAdd, Nat.reduceLeDiff, reduceIte, allB]
   exact go H1 p1 (by rw [h1]; exact h)
  | false =>
   simp only [h1, cond_false] at h
   simp -implicitDefEqProofs (disch := first | assumption | omega | (simp only [nxB]; omega) | (simp only [oneB])) only [s81_3, s81_19, s81_33, s81_34, s81_35, s81_42, s81_43, s81, xlen, AV.cells, splice, aload, astore, Nat.reduceAdd, Nat.reduceLeDiff, reduceIte, allB]
   refine W_eff (ris_spec (hrd.pur p1) (hx.tk.pur p1) [91] (by simp)) ?_
   rintro _ H2 ⟨rfl, p2⟩
   refine ⟨p2.1, ?_⟩
   cases h2 : isR T s [91] with
   | true =>
    simp only [h2, cond_true] at h
    simp -implicitDefEqProofs (disch := first | assumption | omega | (simp only [nxB]; omega) | (simp only [oneB])) only [s81_3, s81_19, s81_33, s81_34, s81_35, s81_42, s81_43, s81, xlen, AV.cells, splice, aload, astore, Nat.reduceAdd, Nat.reduceLeDiff, reduceIte, allB]
    exact go H2 (p1.trans p2) (by rw [h1]; exact h)
   | false =>
    simp only [h2, cond_false, Option.some.injEq] at h
    simp -implicitDefEqProofs (disch := first | assumption | omega | (simp only [nxB]; omega) | (simp only [oneB])) only [s81_3, s81_19, s81_33, s81_34, s81_35, s81_42, s81_43, s81, xlen, AV.cells, splice, aload, astore, Nat.reduceAdd, Nat.reduceLeDiff, reduceIte, allB]
    exact fin H2 (p1.trans p2) h.symm
theorem behind_step {n : Nat} (ih : ∀ k, k ≤ n → ExprOk k) : BehindOk (n + 1) := by
 intro ok H r T tv s e v hx he hok hnew e' s' h
 refine W_of (fun _ => run81 (n + 2)) ?_
 obtain ⟨cs, rfl, hlen, hone⟩ := he.cells
 have hbx : ∀ l, boxOf l (.agg cs) = some (.ptr l 0 0, .row false 11 [cs]) := fun l => by rw [boxOf_agg l cs hone, hlen]
 simp -implicitDefEqProofs (disch := first | assumption | omega | (simp only [nxB]; omega) | (simp only [oneB])) only [s81, s81_43, s81_42, xlen, AV.cells, splice, aload, astore, Nat.reduceAdd, Nat.reduceLeDiff, reduceIte, allB, hbx]
 have p1 := (Pur.push H (.row false 11 [cs])).then_push (.row false 11 [[.int .i64 0, .int .i64 0, .str [], .str [], .int .i64 0, .nilSl, .int .i64 0, .int .i64 0, .int .i64 0, .int .i64 0, .int .i64 0]])
 refine behind_loop (N := n + 2) (B := n + 1) (fun k hk => ih k (by omega)) hx hok hnew (n + 1) (n + 2) (by omega) (by omega) _ s e cs [.int .i64 0, .int .i64 0, .str [], .str [], .int .i64 0, .nilSl, .int .i64 0, .int .i64 0, .int .i64 0, .int .i64 0, .int .i64 0] (p1.mut _) (hx.rd.pur p1) ?_ rfl ?_ ?_ e' s' h
 ·simp -implicitDefEqProofs (disch := first | assumption | omega | (simp only [nxB]; omega) | (simp only [oneB])) only [heapB]
 ·simp -implicitDefEqProofs (disch := first | assumption | omega | (simp only [nxB]; omega) | (simp only [oneB])) only [heapB]
 ·exact he.keep (fun l ro els hl' hg => ⟨⟨hl', by have := AHeap.get_lt hg; omega, by have := AHeap.get_lt hg; omega⟩, p1.get hg⟩) e _
end Go.Proofs.Ytnjoomfeddamcaa

namespace Go.Proofs.Ytnjoomfeddamcaa
open Go.Ev
theorem isR_ne {T : List Tok} {s : St} {x : Bs} (h : isR T s x = true) (hx : x ≠ []) : (tokAt T s.at_).text ≠ [] := by
 simp only [isR, isB, Bool.and_eq_true, beq_iff_eq] at h
 rw [h.2.2]; exact hx
theorem sign_partR {n : Nat} (ih : ExprOk n) {H0 H : AHeap} {r : Nat} {T : List Tok} {tv : AV} {s : St} (hx0 : Ry H0 r T tv s) (p0 : Pur H0 H) (hb : H.get H0.next = some (.row false 11 [[.int .i64 0, .int .i64 0, .str [], .str [], .int .i64 0, .nilSl, .int .i64 0, .int .i64 0, .int .i64 0, .int .i64 0, .int .i64 0]])) {b : Nat} (hbb : H0.next < b) (hq : H.get b = some (.row false 4 [[.int .i64 (tokAt T s.at_).kind, .str (tokAt T s.at_).text, .int .i64 (tokAt T s.at_).n, .int .i64 (tokAt T s.at_).pos]])) (hne : (tokAt T s.at_).text ≠ []) {k : Int}
  {e' : Ex} {s' : St} (h : signR T (n + 1) k s = some (e', s')) : W (s69_j0 (evw P) (.ptr r 0 0) (.ptr H0.next 0 0) (.ptr b 0 0) (.int .i64 k) H) (QostE H0 r T tv e' s') := by
 have hl := hx0.rd.lt
 have ho1 := hx0.tk.one
 have hx := hx0.pur p0
 have hle := p0.1
 have hl4 := AHeap.get_lt hq
 have hlb := AHeap.get_lt hb
 simp only [signR, Option.bind_eq_some_iff] at h
 obtain ⟨⟨e1, s1⟩, h1, h2⟩ := h
 simp only [Option.some.injEq, Prod.mk.injEq] at h2
 obtain ⟨rfl, rfl⟩ := h2
 simp -implicitDefEqProofs (disch := first | assumption | omega | (simp only [nxB]; omega) | (simp only [oneB])) only [s69_j0, s69_33, s69, xlen, AV.cells, splice, aload, astore, Nat.reduceAdd, Nat.reduceLeDiff, reduceIte, allB, hq]
 refine W_call (ropens_spec hx _ hne) ?_
 rintro _ H1 ⟨rfl, m1, hx1⟩
 refine ⟨m1.1, ?_⟩
 simp -implicitDefEqProofs (disch := first | assumption | omega | (simp only [nxB]; omega) | (simp only [oneB])) only [s69_j0, s69_33, s69, xlen, AV.cells, splice, aload, astore, Nat.reduceAdd, Nat.reduceLeDiff, reduceIte, allB]
 refine W_call (ih hx1 5 (by omega) e1 s1 h1) ?_
 rintro v H2 ⟨m2, hx2, he2⟩
 refine ⟨m2.1, ?_⟩
 have hm1 := m1.1
 have hm2 := m2.1
 have m12 := m1.trans m2
 have hb2 := m12.get hb (by omega)
 have hq2 := m12.get hq (by omega)
 have hl2 := AHeap.get_lt hb2
 have hl42 := AHeap.get_lt hq2
 obtain ⟨cs, rfl, hlen, hone⟩ := he2.cells
 have ht : List.take 11 cs = cs := List.take_of_length_le (by omega)
 have hs : ∀ l, sliceOf P l 35 1 [(0, .agg cs)] = some (.sl l 0 1 11 (some 1), .row false 11 [cs]) := fun l => sl35_1 l cs hlen hone
 have hr2 := hx2.rd
 unfold Rd5 at hr2
 have hlr := hx2.rd.lt
 have mb := (p0.mut (· = r)).trans m12
 simp -implicitDefEqProofs (disch := first | assumption | omega | (simp only [nxB]; omega) | (simp only [oneB])) only [s69_j0, s69_33, s69, xlen, AV.cells, splice, aload, astore, Nat.reduceAdd, Nat.reduceLeDiff, reduceIte, allB, hlen, hone, List.append_nil, ht, hs, hr2, ho1, hb2, hq2]
 refine W_some.2 ?_
 refine QostL.fin (ok := Ge H0.next) (a := { kind := k, pos := (tokAt T s.at_).pos }) (kv := .sl (H2.next + 1) 0 1 11 (some 1)) (s' := outS s1) hx0 ?_ ?_ (KsV.one_at (ro := false) ?_ (by unfold Ge; omega) (he2.new ?_ fun l h => by unfold Ge; omega))
 ·(repeat (first | exact mb | refine Mut.then_push ?_ _ | refine Mut.then_set (S := (· = r)) ?_ (.inl rfl) _ | refine Mut.then_set ?_ (.inr (by (first | omega | (simp only [AHeap.next_push, AHeap.next_set]; omega)))) _))
 ·(unfold Rd5; simp -implicitDefEqProofs (disch := first | assumption | omega | (simp only [nxB]; omega) | (simp only [oneB])) only [heapB, hr2, goS, outS, inS])
 ·simp -implicitDefEqProofs (disch := first | assumption | omega | (simp only [nxB]; omega) | (simp only [oneB])) only [heapB]
 ·exact Mut.then_set (S := fun l => l < _) ((Mut.then_set (S := fun l => l < _) ((Mut.refl _ _).then_push _) (.inl (by omega)) _).then_push _) (.inl (by omega)) _
theorem unary_stepR {n : Nat} (ihE : ∀ k, k ≤ n → ExprOk k) (ihF : FirstROk n) (ihB : BehindOk n) : UnaryROk (n + 1) := by
 intro H r T tv s hx e s' h
 refine W_of (fun _ => run69 0) ?_
 have hl := hx.rd.lt
 simp only [unaryR] at h
 have p1 := Pur.push H (.row false 11 [[.int .i64 0, .int .i64 0, .str [], .str [], .int .i64 0, .nilSl, .int .i64 0, .int .i64 0, .int .i64 0, .int .i64 0, .int .i64 0]])
 simp -implicitDefEqProofs (disch := first | assumption | omega | (simp only [nxB]; omega) | (simp only [oneB])) only [s69, s69_33, xlen, AV.cells, splice, aload, astore, Nat.reduceAdd, Nat.reduceLeDiff, reduceIte, allB]
 refine W_call (rtok_spec (hx.rd.pur p1) (hx.tk.pur p1)) ?_
 rintro _ H2 ⟨rfl, p2⟩
 refine ⟨p2.1, ?_⟩
 have hb2 := p2.get (AHeap.get_push_same H _)
 have hl2 := AHeap.get_lt hb2
 simp -implicitDefEqProofs (disch := first | assumption | omega | (simp only [nxB]; omega) | (simp only [oneB])) only [s69_33, s69, xlen, AV.cells, splice, aload, astore, Nat.reduceAdd, Nat.reduceLeDiff, reduceIte, allB, Tok.v]
 have p3 := p2.then_push (.row false 4 [[.int .i64 (tokAt T s.at_).kind, .str (tokAt T s.at_).text, .int .i64 (tokAt T s.at_).n, .int .i64 (tokAt T s.at_).pos]])
 have hq3 := AHeap.get_push_same H2 (.row false 4 [[.int .i64 (tokAt T s.at_).kind, .str (tokAt T s.at_).text, .int .i64 (tokAt T s.at_).n, .int .i64 (tokAt T s.at_).pos]])
 have p13 := p1.trans p3
 refine W_call (ris_spec (hx.rd.pur p13) (hx.tk.pur p13) [45] (by simp)) ?_
 rintro _ H4 ⟨rfl, p4⟩
 refine ⟨p4.1, ?_⟩
 have p14 := p13.trans p4
 have hq4 := p4.get hq3
 have hb4 := (p3.trans p4).get (AHeap.get_push_same H _)
 cases h1 : isR T s [45] with
 | true =>
  simp only [h1, cond_true] at h
  have hne : (tokAt T s.at_).text ≠ [] := isR_ne h1 (by simp)
  simp -implicitDefEqProofs (disch := first | assumption | omega | (simp only [nxB]; omega) | (simp only [oneB])) only [s69_33, s69, xlen, AV.cells, splice, aload, astore, Nat.reduceAdd, Nat.reduceLeDiff, reduceIte, allB]
  cases n with
  | zero => simp [signR] at h
  | succ n => exact sign_partR (ihE n (by omega)) hx p14 hb4 (by omega) hq4 hne h
 | false =>
  simp only [h1, cond_false] at h
  simp -implicitDefEqProofs (disch := first | assumption | omega | (simp only [nxB]; omega) | (simp only [oneB])) only [s69_33, s69, xlen, AV.cells, splice, aload, astore, Nat.reduceAdd, Nat.reduceLeDiff, reduceIte, allB]
  refine W_call (ris_spec (hx.rd.pur p14) (hx.tk.pur p14) [33] (by simp)) ?_
  rintro _ H5 ⟨rfl, p5⟩
  refine ⟨p5.1, ?_⟩
  have p15 := p14.trans p5
  have hq5 := p5.get hq4
  have hb5 := p5.get hb4
  cases h2 : isR T s [33] with
  | true =>
   simp only [h2, cond_true] at h
   have hne : (tokAt T s.at_).text ≠ [] := isR_ne h2 (by simp)
   simp -implicitDefEqProofs (disch := first | assumption | omega | (simp only [nxB]; omega) | (simp only [oneB])) only [s69_33, s69, xlen, AV.cells, splice, aload, astore, Nat.reduceAdd, Nat.reduceLeDiff, reduceIte, allB]
   cases n with
   | zero => simp [signR] at h
   | succ n => exact sign_partR (ihE n (by omega)) hx p15 hb5 (by omega) hq5 hne h
  | false =>
   simp only [h2, cond_false, Option.bind_eq_some_iff] at h
   obtain ⟨⟨e1, s1⟩, g1, g2⟩ := h
   simp -implicitDefEqProofs (disch := first | assumption | omega | (simp only [nxB]; omega) | (simp only [oneB])) only [s69_33, s69, xlen, AV.cells, splice, aload, astore, Nat.reduceAdd, Nat.reduceLeDiff, reduceIte, allB]
   refine W_call (ihF (hx.pur p15) e1 s1 g1) ?_
   rintro v H6 ⟨m6, hx6, he6⟩
   refine ⟨m6.1, ?_⟩
   have hn5 := p15.1
   have hm6 := m6.1
   have hb6 := m6.get hb5 (by omega)
   simp -implicitDefEqProofs (disch := first | assumption | omega | (simp only [nxB]; omega) | (simp only [oneB])) only [s69_33, s69, xlen, AV.cells, splice, aload, astore, Nat.reduceAdd, Nat.reduceLeDiff, reduceIte, allB]
   have hl5 := AHeap.get_lt hb5
   refine W_call (ihB (ok := Ge (H.next + 1)) hx6 (he6.keep (Keep.pur (Pur.refl _) fun l hl' => by unfold Ge at *; omega) e1 _) (by unfold Ge; omega) (fun l hl' => by unfold Ge; omega) e s' g2) ?_
   rintro v H7 ⟨m7, hx7, he7⟩
   refine ⟨m7.1, ?_⟩
   have hb7 := m7.get hb6 (by omega)
   have hl7 := AHeap.get_lt hb7
   obtain ⟨cs, rfl, hlen, hone⟩ := he7.cells
   have ht : List.take 11 cs = cs := List.take_of_length_le (by omega)
   simp -implicitDefEqProofs (disch := first | assumption | omega | (simp only [nxB]; omega) | (simp only [oneB])) only [s69_33, s69, xlen, AV.cells, splice, aload, astore, Nat.reduceAdd, Nat.reduceLeDiff, reduceIte, allB, hb7, hlen, hone, List.append_nil, ht]
   exact W_some.2 (QostE.ret hx (((p15.mut _).trans m6).trans m7) hx7.rd (Nat.le_refl _) he7 (Nat.lt_succ_self _) _)
end Go.Proofs.Ytnjoomfeddamcaa

namespace Go.Proofs.Ytnjoomfeddamcaa
open Go.Ev
theorem expr_end {N : Nat} {H0 H : AHeap} {r : Nat} {T : List Tok} {tv : AV} {s0 s : St} (hx0 : Ry H0 r T tv s0) (mb : Mt r H0 H) (hrd : Rd5 H r tv s) {b3 : Nat} {cs zs : List AV} {e : Ex} (hb2 : H.get H0.next = some (.row false 11 [zs])) (hz : zs.length = 11) (hb3 : H.get b3 = some (.row false 11 [cs])) (h3 : H0.next < b3)
  (he : ExV H (fun l => H0.next < l ∧ l ≠ b3) e (.agg cs)) : W (s39_j0 (evw P) N (.ptr H0.next 0 0) (.ptr b3 0 0) H) (QostE H0 r T tv e s) := by
 have hl := hx0.rd.lt
 have hl2 := AHeap.get_lt hb2
 have hl3 := AHeap.get_lt hb3
 obtain ⟨cs', hcs, hlen, hone⟩ := he.cells
 cases hcs
 have ht : List.take 11 cs = cs := List.take_of_length_le (by omega)
 have hd : List.drop 11 zs = [] := List.drop_of_length_le (by omega)
 simp -implicitDefEqProofs (disch := first | assumption | omega | (simp only [nxB]; omega) | (simp only [oneB])) only [s39_j0, s39_7, s39_b1, s39_40, s39_41, s39_42, s39, xlen, AV.cells, splice, aload, astore, Nat.reduceAdd, Nat.reduceLeDiff, reduceIte, allB, hb2, hb3, hlen, hone, List.append_nil, ht, hd]
 have m' := mb.then_set (.inr (Nat.le_refl _)) (.row false 11 [cs])
 refine W_some.2 ⟨m', hx0.mut m' ?_, he.keep (Keep.set _ (by omega) fun l h => by unfold Ge; omega) e _⟩
 unfold Rd5 at hrd ⊢
 rw [AHeap.get_set_other (by omega)]; exact hrd
theorem expr_loop {N B : Nat} (ih : ∀ k, k < B → ExprOk k) {H0 : AHeap} {r : Nat} {T : List Tok} {tv : AV} {s0 : St} (hx0 : Ry H0 r T tv s0) {lev : Nat} (hlev : lev < 5) {b3 : Nat} (h3 : H0.next < b3) :
  ∀ (n m : Nat), n ≤ B → n < m → ∀ (H : AHeap) (s : St) (e : Ex) (cs zs : List AV), Mt r H0 H → Rd5 H r tv s → H.get H0.next = some (.row false 11 [zs]) → zs.length = 11 → H.get b3 = some (.row false 11 [cs]) →
   ExV H (fun l => H0.next < l ∧ l ≠ b3) e (.agg cs) → ∀ (e' : Ex) (s' : St), exprRL T n lev e s = some (e', s') →
   W (s39_l1 (evw P) N m (.ptr r 0 0) (.int .i64 lev) (.ptr H0.next 0 0) (.ptr b3 0 0) H) (QostE H0 r T tv e' s')
 | 0, m, hN, hm, H, s, e, cs, zs, mb, hrd, hb2, hz, hb3, he, e', s', h => by simp [exprRL] at h
 | n + 1, 0, hN, hm, H, s, e, cs, zs, mb, hrd, hb2, hz, hb3, he, e', s', h => by omega
 | n + 1, m + 1, hN, hm, H, s, e, cs, zs, mb, hrd, hb2, hz, hb3, he, e', s', h => by
  have hl := hx0.rd.lt
  have hx := hx0.mut mb hrd
  have hl3 := AHeap.get_lt hb3
  obtain ⟨cs', hcs, hlen, hone⟩ := he.cells
  cases hcs
  have ht : List.take 11 cs = cs := List.take_of_length_le (by omega)
  have hd : List.drop 11 cs = [] := List.drop_of_length_le (by omega)
  have ho1 := hx0.tk.one
  simp only [exprRL] at h
  simp only [s39_l1]
  rw [s39_b1]
  refine W_call (rok_spec hrd) ?_
  rintro _ H1 ⟨rfl, rfl⟩
  refine ⟨Nat.le_refl _, ?_⟩
  cases hfe : s.fe == 0 with
  | false =>
   simp only [hfe, Bool.false_and, cond_false, Option.some.injEq, Prod.mk.injEq] at h
   obtain ⟨rfl, rfl⟩ := h
   simp -implicitDefEqProofs (disch := first | assumption | omega | (simp only [nxB]; omega) | (simp only [oneB])) only [s39_7, s39_40, s39_41, s39_42, s39, xlen, AV.cells, splice, aload, astore, Nat.reduceAdd, Nat.reduceLeDiff, reduceIte, allB]
   exact expr_end hx0 mb hrd hb2 hz hb3 h3 he
  | true =>
   simp only [hfe, Bool.true_and] at h
   simp -implicitDefEqProofs (disch := first | assumption | omega | (simp only [nxB]; omega) | (simp only [oneB])) only [s39_7, s39_40, s39_41, s39_42, s39, xlen, AV.cells, splice, aload, astore, Nat.reduceAdd, Nat.reduceLeDiff, reduceIte, allB]
   refine W_eff (rtok_spec hrd hx.tk) ?_
   rintro _ H1 ⟨rfl, p1⟩
   refine ⟨p1.1, ?_⟩
   simp -implicitDefEqProofs (disch := first | assumption | omega | (simp only [nxB]; omega) | (simp only [oneB])) only [s39_7, s39_40, s39_41, s39_42, s39, xlen, AV.cells, splice, aload, astore, Nat.reduceAdd, Nat.reduceLeDiff, reduceIte, allB]
   refine W_eff (level_spec lev hlev (tokAt T s.at_)) ?_
   rintro _ H2 ⟨rfl, p2⟩
   refine ⟨p2.1, ?_⟩
   have p3 := p1.trans p2
   cases hk : levR lev (tokAt T s.at_) != 0 with
   | false =>
    simp only [hk, cond_false, Option.some.injEq, Prod.mk.injEq] at h
    obtain ⟨rfl, rfl⟩ := h
    simp -implicitDefEqProofs (disch := first | assumption | omega | (simp only [nxB]; omega) | (simp only [oneB])) only [s39_7, s39_40, s39_41, s39_42, s39, xlen, AV.cells, splice, aload, astore, Nat.reduceAdd, Nat.reduceLeDiff, reduceIte, allB, hk]
    exact expr_end hx0 (mb.trans (p3.mut _)) (hrd.pur p3) (p3.get hb2) hz (p3.get hb3) h3 (he.keep (Keep.pur p3 fun _ h => h) e _)
   | true =>
    simp only [hk, cond_true, Option.bind_eq_some_iff] at h
    obtain ⟨⟨e1, s1⟩, h1, h2⟩ := h
    simp -implicitDefEqProofs (disch := first | assumption | omega | (simp only [nxB]; omega) | (simp only [oneB])) only [s39_7, s39_40, s39_41, s39_42, s39, xlen, AV.cells, splice, aload, astore, Nat.reduceAdd, Nat.reduceLeDiff, reduceIte, allB, hk]
    refine W_call (rtok_spec (hrd.pur p3) (hx.tk.pur p3)) ?_
    rintro _ H4 ⟨rfl, p4⟩
    refine ⟨p4.1, ?_⟩
    have p5 := (p3.trans p4).then_push (.row false 4 [[.int .i64 (tokAt T s.at_).kind, .str (tokAt T s.at_).text, .int .i64 (tokAt T s.at_).n, .int .i64 (tokAt T s.at_).pos]])
    have hq5 := AHeap.get_push_same H4 (.row false 4 [[.int .i64 (tokAt T s.at_).kind, .str (tokAt T s.at_).text, .int .i64 (tokAt T s.at_).n, .int .i64 (tokAt T s.at_).pos]])
    have hrd4 := hrd.pur (p3.trans p4)
    have hrd5 := hrd.pur p5
    have hr2 := hrd4
    unfold Rd5 at hr2
    have hlr := hrd4.lt
    obtain ⟨m6, hd6⟩ := rset hrd5 (goS s)
    have hw : IntKind.i64.wrap ((lev : Int) + 1) = ((lev + 1 : Nat) : Int) := by rw [wrap_i64 (by omega) (by omega)]; simp
    simp -implicitDefEqProofs (disch := first | assumption | omega | (simp only [nxB]; omega) | (simp only [oneB])) only [s39_7, s39_40, s39_41, s39_42, s39, xlen, AV.cells, splice, aload, astore, Nat.reduceAdd, Nat.reduceLeDiff, reduceIte, allB, Tok.v, hr2, ho1, hw]
    have mb6 := (mb.trans (p5.mut _)).trans m6
    have hx6 := hx0.mut mb6 hd6
    refine W_call (ih n (by omega) hx6 (lev + 1) (by omega) e1 s1 h1) ?_
    rintro v H7 ⟨m7, hx7, he7⟩
    refine ⟨m7.1, ?_⟩
    have hb36 := m6.get (p5.get hb3) (by omega)
    have hb37 := m7.get hb36 (by omega)
    have hl37 := AHeap.get_lt hb37
    have hq6 := m6.get hq5 (by have := AHeap.get_lt hrd4; omega)
    have hq7 := m7.get hq6 (by have := AHeap.get_lt hrd4; omega)
    have hlq7 := AHeap.get_lt hq7
    have hm7 := m7.1
    have hm5 := p5.1
    simp only [AHeap.next_set, AHeap.next_push] at hm7 hm5 he7
    obtain ⟨ds, rfl, hlen', hone'⟩ := he7.cells
    have htd : List.take 11 ds = ds := List.take_of_length_le (by omega)
    simp -implicitDefEqProofs (disch := first | assumption | omega | (simp only [nxB]; omega) | (simp only [oneB])) only [s39_7, s39_40, s39_41, s39_42, s39, xlen, AV.cells, splice, aload, astore, Nat.reduceAdd, Nat.reduceLeDiff, reduceIte, allB, hlen', hone', List.append_nil, hq7]
    have p8 := Pur.push H7 (.row false 11 [ds])
    refine W_call (level_spec (H := H7.push (.row false 11 [ds])) lev hlev (tokAt T s.at_)) ?_
    rintro _ H9 ⟨rfl, p9⟩
    refine ⟨p9.1, ?_⟩
    have p89 := p8.trans p9
    have hd9 := p9.get (AHeap.get_push_same H7 (.row false 11 [ds]))
    have hb39 := p89.get hb37
    have hq9 := p89.get hq7
    have hn9 := AHeap.get_lt hd9
    have hl39 := AHeap.get_lt hb39
    have hlq9 := AHeap.get_lt hq9
    have hs : ∀ l, sliceOf P l 35 2 [(0, .agg cs), (1, .agg ds)] = some (.sl l 0 2 11 (some 2), .row false 11 [cs, ds]) := fun l => sl35_2 l cs ds hlen hone hlen' hone'
    have hqs := he.same
    have hqs7 := he7.same
    have hqt : rdIs (some (.agg [.int .i64 (tokAt T s.at_).kind, .str (tokAt T s.at_).text, .int .i64 (tokAt T s.at_).n, .int .i64 (tokAt T s.at_).pos])) (.agg [.int .i64 (tokAt T s.at_).kind, .str (tokAt T s.at_).text, .int .i64 (tokAt T s.at_).n, .int .i64 (tokAt T s.at_).pos]) = true := by simp [rdIs, AV.beq, AVs.beq]
    have hb38 := p8.get hb37
    have hq8 := p8.get hq7
    simp -implicitDefEqProofs (disch := first | assumption | omega | (simp only [nxB]; omega) | (simp only [oneB])) only [s39_40, s39_41, s39_42, s39, xlen, AV.cells, splice, aload, astore, Nat.reduceAdd, Nat.reduceLeDiff, reduceIte, allB, hb39, hd9, hq9, ht, htd, hd, hs, hqs, hqs7, hqt, hb38, hq8, Bool.and_true, Bool.and_self]
    rw [s39_7]
    have mb9 := ((mb6.trans m7).trans (p89.mut _))
    have mb10 : Mt r H0 ((H9.push (.row false 11 [cs, ds])).set b3 (.row false 11 [[.int .i64 (levR lev (tokAt T s.at_)), .int .i64 0, .str [], .str [], .int .i64 0, .sl H9.next 0 2 11 (some 2), .int .i64 (tokAt T s.at_).pos, .int .i64 0, .int .i64 0, .int .i64 0, .int .i64 0]])) := (mb9.then_push _).then_set (.inr (Nat.le_of_lt h3)) _
    have gK : ∀ k, k < H9.next → k ≠ b3 → ((H9.push (.row false 11 [cs, ds])).set b3 (.row false 11 [[.int .i64 (levR lev (tokAt T s.at_)), .int .i64 0, .str [], .str [], .int .i64 0, .sl H9.next 0 2 11 (some 2), .int .i64 (tokAt T s.at_).pos, .int .i64 0, .int .i64 0, .int .i64 0, .int .i64 0]])).get k = H9.get k := fun k hk hk' => by
     rw [AHeap.get_set_other (by omega), AHeap.get_push_other (by omega)]
    have hb29 := p89.get (m7.get (m6.get (p5.get hb2) (by omega)) (by omega))
    have hl29 := AHeap.get_lt hb29
    have hrd9 := hx7.rd.pur p89
    have hl9r := hrd9.lt
    have hn8 := p89.1
    refine expr_loop ih hx0 hlev h3 n m (by omega) (by omega) _ s1 _ (Ea.cells { kind := levR lev (tokAt T s.at_), pos := (tokAt T s.at_).pos } (.sl H9.next 0 2 11 (some 2))) zs mb10 ?_ ?_ hz (AHeap.get_set_same (by simp only [AHeap.next_push]; omega)) ?_ e' s' h2
    ·unfold Rd5 at hrd9 ⊢
     rw [gK r (by omega) (by omega)]; exact hrd9
    ·rw [gK _ (by omega) (by omega)]; exact hb29
    ·rw [ExV_mk]
     have he9 : ExV H9 (fun l => H0.next < l ∧ l ≠ b3) e (.agg cs) := he.mut (((p5.mut _).trans m6).trans m7 |>.trans (p89.mut _)) (by omega) fun _ h => h
     refine ⟨_, rfl, KsV.two_at (ro := false) ?_ ⟨by omega, by omega⟩ (he9.keep (fun l ro els hl' hg => ⟨hl', by rw [gK l (AHeap.get_lt hg) hl'.2]; exact hg⟩) e _) (he7.keep (fun l ro els hl' hg => ?_) e1 _)⟩
     ·rw [AHeap.get_set_other (by omega)]; exact AHeap.get_push_same _ _
     ·unfold Ge at hl'
      have hg9 := p89.get hg
      exact ⟨⟨by omega, by omega⟩, by rw [gK l (AHeap.get_lt hg9) (by omega)]; exact hg9⟩
theorem expr_step {n : Nat} (ihR : ∀ k, k ≤ n → ExprOk k) (ihU : UnaryROk n) : ExprOk (n + 1) := by
 intro H r T tv s hx lev hle e s' h
 refine W_of (fun _ => run39 (n + 2)) ?_
 have hl := hx.rd.lt
 have p1 := Pur.push H (.row false 11 [[.int .i64 0, .int .i64 0, .str [], .str [], .int .i64 0, .nilSl, .int .i64 0, .int .i64 0, .int .i64 0, .int .i64 0, .int .i64 0]])
 simp only [exprR] at h
 by_cases h5 : lev = 5
 ·rw [if_pos h5] at h
  have h5' : ((lev : Int) == 5) = true := by simp; omega
  simp -implicitDefEqProofs (disch := first | assumption | omega | (simp only [nxB]; omega) | (simp only [oneB])) only [s39_7, s39_40, s39_41, s39_42, s39, xlen, AV.cells, splice, aload, astore, Nat.reduceAdd, Nat.reduceLeDiff, reduceIte, allB, h5']
  refine W_call (ihU (hx.pur p1) e s' h) ?_
  rintro v H2 ⟨m2, hx2, he2⟩
  refine ⟨m2.1, ?_⟩
  have hb2 := m2.get (AHeap.get_push_same H (.row false 11 [[.int .i64 0, .int .i64 0, .str [], .str [], .int .i64 0, .nilSl, .int .i64 0, .int .i64 0, .int .i64 0, .int .i64 0, .int .i64 0]])) (by omega)
  have hlb := AHeap.get_lt hb2
  obtain ⟨cs, rfl, hlen, hone⟩ := he2.cells
  have ht : List.take 11 cs = cs := List.take_of_length_le (by omega)
  simp -implicitDefEqProofs (disch := first | assumption | omega | (simp only [nxB]; omega) | (simp only [oneB])) only [s39_7, s39_40, s39_41, s39_42, s39, xlen, AV.cells, splice, aload, astore, Nat.reduceAdd, Nat.reduceLeDiff, reduceIte, allB, hb2, hlen, hone, List.append_nil, ht]
  exact W_some.2 (QostE.ret hx ((p1.mut _).trans m2) hx2.rd (Nat.le_refl _) he2 (Nat.lt_succ_self _) _)
 ·rw [if_neg h5, Option.bind_eq_some_iff] at h
  obtain ⟨⟨e1, s1⟩, h1, h2⟩ := h
  have h5' : ((lev : Int) == 5) = false := by simp; omega
  have hw : IntKind.i64.wrap ((lev : Int) + 1) = ((lev + 1 : Nat) : Int) := by rw [wrap_i64 (by omega) (by omega)]; simp
  simp -implicitDefEqProofs (disch := first | assumption | omega | (simp only [nxB]; omega) | (simp only [oneB])) only [s39_7, s39_40, s39_41, s39_42, s39, xlen, AV.cells, splice, aload, astore, Nat.reduceAdd, Nat.reduceLeDiff, reduceIte, allB, h5', hw]
  refine W_call (ihR n (Nat.le_refl _) (hx.pur p1) (lev + 1) (by omega) e1 s1 h1) ?_
  rintro v H2 ⟨m2, hx2, he2⟩
  refine ⟨m2.1, ?_⟩
  have hb2 := m2.get (AHeap.get_push_same H (.row false 11 [[.int .i64 0, .int .i64 0, .str [], .str [], .int .i64 0, .nilSl, .int .i64 0, .int .i64 0, .int .i64 0, .int .i64 0, .int .i64 0]])) (by omega)
  have hm2 := m2.1
  simp only [AHeap.next_push] at hm2
  obtain ⟨cs, rfl, hlen, hone⟩ := he2.cells
  simp -implicitDefEqProofs (disch := first | assumption | omega | (simp only [nxB]; omega) | (simp only [oneB])) only [s39_42, s39_41, s39_40, xlen, AV.cells, splice, aload, astore, Nat.reduceAdd, Nat.reduceLeDiff, reduceIte, allB, hlen, hone, List.append_nil]
  have p3 := Pur.push H2 (.row false 11 [cs])
  refine expr_loop (N := n + 2) (B := n) (fun k hk => ihR k (by omega)) hx (by omega) (b3 := H2.next) (by omega) n (n + 2) (by omega) (by omega) _ s1 e1 cs _ (((p1.mut _).trans m2).trans (p3.mut _)) (hx2.rd.pur p3) (p3.get hb2) rfl (AHeap.get_push_same _ _) ?_ e s' h2
  exact he2.keep (fun l ro els hl' hg => by
   have := AHeap.get_lt hg
   unfold Ge at hl'
   simp only [AHeap.next_push] at hl'
   exact ⟨⟨by omega, by omega⟩, p3.get hg⟩) e1 _
end Go.Proofs.Ytnjoomfeddamcaa

namespace Go.Proofs.Ytnjoomfeddamcaa
open Go.Ev
theorem first_nameR {n : Nat} (ih : ArgsOk n) {H0 H : AHeap} {r : Nat} {T : List Tok} {tv : AV} {s : St} (hx0 : Ry H0 r T tv s) (p0 : Pur H0 H) (hb : H.get H0.next = some (.row false 11 [[.int .i64 0, .int .i64 0, .str [], .str [], .int .i64 0, .nilSl, .int .i64 0, .int .i64 0, .int .i64 0, .int .i64 0, .int .i64 0]])) {b : Nat} (hbb : H0.next < b) (hq : H.get b = some (.row false 4 [[.int .i64 (tokAt T s.at_).kind, .str (tokAt T s.at_).text, .int .i64 (tokAt T s.at_).n, .int .i64 (tokAt T s.at_).pos]])) {e' : Ex} {s' : St} (h : (bif isR T (nameR T s).2 [40] then (argsR T n (nameR T s).2).bind fun p => some (.mk { kind := 7, name := (nameR T s).1, pos := (tokAt T s.at_).pos } p.1, p.2) else some (.mk { kind := 4, name := (nameR T s).1, pos := (tokAt T s.at_).pos } [], (nameR T s).2)) = some (e', s')) :
  W (s82_j0 (evw P) (.ptr r 0 0) (.ptr H0.next 0 0) (.ptr b 0 0) H) (QostE H0 r T tv e' s') := by
 have hl := hx0.rd.lt
 have ho1 := hx0.tk.one
 have hx := hx0.pur p0
 have hle := p0.1
 have hlq := AHeap.get_lt hq
 have hlb := AHeap.get_lt hb
 rw [s82_j0]
 refine W_call (rname_spec hx) ?_
 rintro _ H1 ⟨rfl, m1, hx1⟩
 refine ⟨m1.1, ?_⟩
 have hb1 := m1.get hb (by omega)
 have hq1 := m1.get hq (by omega)
 simp -implicitDefEqProofs (disch := first | assumption | omega | (simp only [nxB]; omega) | (simp only [oneB])) only [s82_31, s82_49, s82_64, s82_77, s82_93, s82_108, s82_112, s82_113, s82_114, s82_115, s82_116, s82_117, s82_118, s82_119, s82_120, s82_121, s82_122, s82_123, s82_124, s82_125, s82_126, s82_127, s82_128, s82_129, s82_130, s82_131, s82_132, s82_133, s82_134, s82_135, s82_136, s82_137, s82, xlen, AV.cells, splice, aload, astore, Nat.reduceAdd, Nat.reduceLeDiff, reduceIte, allB]
 refine W_call (ris_spec hx1.rd hx1.tk [40] (by simp)) ?_
 rintro _ H2 ⟨rfl, p2⟩
 refine ⟨p2.1, ?_⟩
 have hb2 := p2.get hb1
 have hq2 := p2.get hq1
 have hlb2 := AHeap.get_lt hb2
 have hlq2 := AHeap.get_lt hq2
 have hx2 := hx1.pur p2
 have mb := ((p0.mut (· = r)).trans m1).trans (p2.mut _)
 cases hi : isR T (nameR T s).2 [40] with
 | false =>
  simp only [hi, cond_false, Option.some.injEq, Prod.mk.injEq] at h
  obtain ⟨rfl, rfl⟩ := h
  simp -implicitDefEqProofs (disch := first | assumption | omega | (simp only [nxB]; omega) | (simp only [oneB])) only [s82_31, s82_49, s82_64, s82_77, s82_93, s82_108, s82_112, s82_113, s82_114, s82_115, s82_116, s82_117, s82_118, s82_119, s82_120, s82_121, s82_122, s82_123, s82_124, s82_125, s82_126, s82_127, s82_128, s82_129, s82_130, s82_131, s82_132, s82_133, s82_134, s82_135, s82_136, s82_137, s82, xlen, AV.cells, splice, aload, astore, Nat.reduceAdd, Nat.reduceLeDiff, reduceIte, allB, Bool.not_false, hb2, hq2]
  exact W_some.2 (QostE.box (a := { kind := 4, name := (nameR T s).1, pos := (tokAt T s.at_).pos }) (kv := .nilSl) (lo := H0.next + 1) hx0 mb hx2.rd (Nat.le_refl _) (Nat.lt_succ_self _) (KsV.nil _ _) _)
 | true =>
  simp only [hi, cond_true, Option.bind_eq_some_iff] at h
  obtain ⟨⟨l1, s1⟩, h1, h2⟩ := h
  simp only [Option.some.injEq, Prod.mk.injEq] at h2
  obtain ⟨rfl, rfl⟩ := h2
  simp -implicitDefEqProofs (disch := first | assumption | omega | (simp only [nxB]; omega) | (simp only [oneB])) only [s82_31, s82_49, s82_64, s82_77, s82_93, s82_108, s82_112, s82_113, s82_114, s82_115, s82_116, s82_117, s82_118, s82_119, s82_120, s82_121, s82_122, s82_123, s82_124, s82_125, s82_126, s82_127, s82_128, s82_129, s82_130, s82_131, s82_132, s82_133, s82_134, s82_135, s82_136, s82_137, s82, xlen, AV.cells, splice, aload, astore, Nat.reduceAdd, Nat.reduceLeDiff, reduceIte, allB, Bool.not_true]
  refine W_call (ih hx2 l1 s1 h1) ?_
  rintro v H3 ⟨m3, hx3, hk3⟩
  refine ⟨m3.1, ?_⟩
  have hb3 := m3.get hb2 (by omega)
  have hq3 := m3.get hq2 (by omega)
  have hlb3 := AHeap.get_lt hb3
  have hlq3 := AHeap.get_lt hq3
  have hv : v = .nilSl ∨ ∃ l i n cap, v = .sl l i n 11 cap := by
   rcases hk3 with ⟨h, _⟩ | ⟨l, i, cap, ro, els, h, _⟩ | ⟨l, i, cap, h, _⟩
   ·exact .inl h
   ·exact .inr ⟨_, _, _, _, h⟩
   ·exact .inr ⟨_, _, _, _, h⟩
  rcases hv with rfl | ⟨l, i, k, cap, rfl⟩
  ·simp -implicitDefEqProofs (disch := first | assumption | omega | (simp only [nxB]; omega) | (simp only [oneB])) only [s82_31, s82_49, s82_64, s82_77, s82_93, s82_108, s82_112, s82_113, s82_114, s82_115, s82_116, s82_117, s82_118, s82_119, s82_120, s82_121, s82_122, s82_123, s82_124, s82_125, s82_126, s82_127, s82_128, s82_129, s82_130, s82_131, s82_132, s82_133, s82_134, s82_135, s82_136, s82_137, s82, xlen, AV.cells, splice, aload, astore, Nat.reduceAdd, Nat.reduceLeDiff, reduceIte, allB, hb3, hq3, hq2]
   exact W_some.2 (QostE.box (a := { kind := 7, name := (nameR T s).1, pos := (tokAt T s.at_).pos }) (kv := .nilSl) (lo := H2.next) hx0 (mb.trans m3) hx3.rd (Nat.le_refl _) (by omega) hk3 _)
  ·simp -implicitDefEqProofs (disch := first | assumption | omega | (simp only [nxB]; omega) | (simp only [oneB])) only [s82_31, s82_49, s82_64, s82_77, s82_93, s82_108, s82_112, s82_113, s82_114, s82_115, s82_116, s82_117, s82_118, s82_119, s82_120, s82_121, s82_122, s82_123, s82_124, s82_125, s82_126, s82_127, s82_128, s82_129, s82_130, s82_131, s82_132, s82_133, s82_134, s82_135, s82_136, s82_137, s82, xlen, AV.cells, splice, aload, astore, Nat.reduceAdd, Nat.reduceLeDiff, reduceIte, allB, hb3, hq3, hq2]
   exact W_some.2 (QostE.box (a := { kind := 7, name := (nameR T s).1, pos := (tokAt T s.at_).pos }) (kv := .sl l i k 11 cap) (lo := H2.next) hx0 (mb.trans m3) hx3.rd (Nat.le_refl _) (by omega) hk3 _)
theorem first_num {H0 H : AHeap} {r : Nat} {T : List Tok} {tv : AV} {s : St} (hx0 : Ry H0 r T tv s) (p0 : Pur H0 H) (hb : H.get H0.next = some (.row false 11 [[.int .i64 0, .int .i64 0, .str [], .str [], .int .i64 0, .nilSl, .int .i64 0, .int .i64 0, .int .i64 0, .int .i64 0, .int .i64 0]])) {b : Nat} (hbb : H0.next < b) (hq : H.get b = some (.row false 4 [[.int .i64 (tokAt T s.at_).kind, .str (tokAt T s.at_).text, .int .i64 (tokAt T s.at_).n, .int .i64 (tokAt T s.at_).pos]])) {e' : Ex} {s' : St} (h : some (Ex.mk { kind := 1, n := (tokAt T s.at_).n, pos := (tokAt T s.at_).pos } [], goS s) = some (e', s')) :
  W (s82_31 (.ptr r 0 0) H (.ptr b 0 0) (.ptr H0.next 0 0)) (QostE H0 r T tv e' s') := by
 have hl := hx0.rd.lt
 have ho1 := hx0.tk.one
 have hx := hx0.pur p0
 have hle := p0.1
 have hlq := AHeap.get_lt hq
 have hlb := AHeap.get_lt hb
 have hr2 := hx.rd
 have hr2' := hr2
 unfold Rd5 at hr2'
 have hlr := hr2.lt
 obtain ⟨m1, hd1⟩ := rset hr2 (goS s)
 have mb1 := (p0.mut (· = r)).trans m1
 have hx1 := hx0.mut mb1 hd1
 have hb1 := m1.get hb (by omega)
 have hq1 := m1.get hq (by omega)
 simp only [Option.some.injEq, Prod.mk.injEq] at h
 obtain ⟨rfl, rfl⟩ := h
 simp -implicitDefEqProofs (disch := first | assumption | omega | (simp only [nxB]; omega) | (simp only [oneB])) only [s82_31, s82_49, s82_64, s82_77, s82_93, s82_108, s82_112, s82_113, s82_114, s82_115, s82_116, s82_117, s82_118, s82_119, s82_120, s82_121, s82_122, s82_123, s82_124, s82_125, s82_126, s82_127, s82_128, s82_129, s82_130, s82_131, s82_132, s82_133, s82_134, s82_135, s82_136, s82_137, s82, xlen, AV.cells, splice, aload, astore, Nat.reduceAdd, Nat.reduceLeDiff, reduceIte, allB, hr2', ho1, hb, hq]
 exact W_some.2 (QostE.box (a := { kind := 1, n := (tokAt T s.at_).n, pos := (tokAt T s.at_).pos }) (kv := .nilSl) (lo := H0.next + 1) hx0 mb1 hd1 (Nat.le_refl _) (Nat.lt_succ_self _) (KsV.nil _ _) _)
theorem first_bool {H0 H : AHeap} {r : Nat} {T : List Tok} {tv : AV} {s : St} (hx0 : Ry H0 r T tv s) (p0 : Pur H0 H) (hb : H.get H0.next = some (.row false 11 [[.int .i64 0, .int .i64 0, .str [], .str [], .int .i64 0, .nilSl, .int .i64 0, .int .i64 0, .int .i64 0, .int .i64 0, .int .i64 0]])) {b : Nat} (hbb : H0.next < b) (hq : H.get b = some (.row false 4 [[.int .i64 (tokAt T s.at_).kind, .str (tokAt T s.at_).text, .int .i64 (tokAt T s.at_).n, .int .i64 (tokAt T s.at_).pos]])) {e' : Ex} {s' : St} (h : some (Ex.mk { kind := 2, n := bif (tokAt T s.at_).text == [116, 114, 117, 101] then 1 else 0, pos := (tokAt T s.at_).pos } [], goS s) = some (e', s')) :
  W (s82_49 (evw P) (.ptr r 0 0) H (.ptr b 0 0) (.ptr H0.next 0 0)) (QostE H0 r T tv e' s') := by
 have hl := hx0.rd.lt
 have ho1 := hx0.tk.one
 have hx := hx0.pur p0
 have hle := p0.1
 have hlq := AHeap.get_lt hq
 have hlb := AHeap.get_lt hb
 have hr2 := hx.rd
 have hr2' := hr2
 unfold Rd5 at hr2'
 have hlr := hr2.lt
 obtain ⟨m1, hd1⟩ := rset hr2 (goS s)
 have mb1 := (p0.mut (· = r)).trans m1
 have hx1 := hx0.mut mb1 hd1
 have hb1 := m1.get hb (by omega)
 have hq1 := m1.get hq (by omega)
 simp only [Option.some.injEq, Prod.mk.injEq] at h
 obtain ⟨rfl, rfl⟩ := h
 cases ht : (tokAt T s.at_).text == [116, 114, 117, 101] with
 | true =>
  simp -implicitDefEqProofs (disch := first | assumption | omega | (simp only [nxB]; omega) | (simp only [oneB])) only [s82_31, s82_j2, s82_49, s82_64, s82_77, s82_93, s82_108, s82_112, s82_113, s82_114, s82_115, s82_116, s82_117, s82_118, s82_119, s82_120, s82_121, s82_122, s82_123, s82_124, s82_125, s82_126, s82_127, s82_128, s82_129, s82_130, s82_131, s82_132, s82_133, s82_134, s82_135, s82_136, s82_137, s82, xlen, AV.cells, splice, aload, astore, Nat.reduceAdd, Nat.reduceLeDiff, reduceIte, allB, hr2', ho1, hb, hq, ht]
  exact W_some.2 (QostE.box (a := { kind := 2, n := 1, pos := (tokAt T s.at_).pos }) (kv := .nilSl) (lo := H0.next + 1) hx0 mb1 hd1 (Nat.le_refl _) (Nat.lt_succ_self _) (KsV.nil _ _) _)
 | false =>
  simp -implicitDefEqProofs (disch := first | assumption | omega | (simp only [nxB]; omega) | (simp only [oneB])) only [s82_31, s82_j2, s82_49, s82_64, s82_77, s82_93, s82_108, s82_112, s82_113, s82_114, s82_115, s82_116, s82_117, s82_118, s82_119, s82_120, s82_121, s82_122, s82_123, s82_124, s82_125, s82_126, s82_127, s82_128, s82_129, s82_130, s82_131, s82_132, s82_133, s82_134, s82_135, s82_136, s82_137, s82, xlen, AV.cells, splice, aload, astore, Nat.reduceAdd, Nat.reduceLeDiff, reduceIte, allB, hr2', ho1, hb, hq, ht]
  exact W_some.2 (QostE.box (a := { kind := 2, n := 0, pos := (tokAt T s.at_).pos }) (kv := .nilSl) (lo := H0.next + 1) hx0 mb1 hd1 (Nat.le_refl _) (Nat.lt_succ_self _) (KsV.nil _ _) _)
theorem first_null {H0 H : AHeap} {r : Nat} {T : List Tok} {tv : AV} {s : St} (hx0 : Ry H0 r T tv s) (p0 : Pur H0 H) (hb : H.get H0.next = some (.row false 11 [[.int .i64 0, .int .i64 0, .str [], .str [], .int .i64 0, .nilSl, .int .i64 0, .int .i64 0, .int .i64 0, .int .i64 0, .int .i64 0]])) {b : Nat} (hbb : H0.next < b) (hq : H.get b = some (.row false 4 [[.int .i64 (tokAt T s.at_).kind, .str (tokAt T s.at_).text, .int .i64 (tokAt T s.at_).n, .int .i64 (tokAt T s.at_).pos]])) {e' : Ex} {s' : St} (h : some (Ex.mk { kind := 3, ofn := (ofR T (goS s)).1.1, ofd := (ofR T (goS s)).1.2, pos := (tokAt T s.at_).pos } [], (ofR T (goS s)).2) = some (e', s')) :
  W (s82_64 (evw P) (.ptr r 0 0) H (.ptr b 0 0) (.ptr H0.next 0 0)) (QostE H0 r T tv e' s') := by
 have hl := hx0.rd.lt
 have ho1 := hx0.tk.one
 have hx := hx0.pur p0
 have hle := p0.1
 have hlq := AHeap.get_lt hq
 have hlb := AHeap.get_lt hb
 have hr2 := hx.rd
 have hr2' := hr2
 unfold Rd5 at hr2'
 have hlr := hr2.lt
 obtain ⟨m1, hd1⟩ := rset hr2 (goS s)
 have mb1 := (p0.mut (· = r)).trans m1
 have hx1 := hx0.mut mb1 hd1
 have hb1 := m1.get hb (by omega)
 have hq1 := m1.get hq (by omega)
 simp only [Option.some.injEq, Prod.mk.injEq] at h
 obtain ⟨rfl, rfl⟩ := h
 simp -implicitDefEqProofs (disch := first | assumption | omega | (simp only [nxB]; omega) | (simp only [oneB])) only [s82_31, s82_49, s82_64, s82_77, s82_93, s82_108, s82_112, s82_113, s82_114, s82_115, s82_116, s82_117, s82_118, s82_119, s82_120, s82_121, s82_122, s82_123, s82_124, s82_125, s82_126, s82_127, s82_128, s82_129, s82_130, s82_131, s82_132, s82_133, s82_134, s82_135, s82_136, s82_137, s82, xlen, AV.cells, splice, aload, astore, Nat.reduceAdd, Nat.reduceLeDiff, reduceIte, allB, hr2', ho1]
 refine W_call (rof_spec hx1) ?_
 rintro _ H2 ⟨rfl, m2, hx2⟩
 refine ⟨m2.1, ?_⟩
 have hb2 := m2.get hb1 (by omega)
 have hq2 := m2.get hq1 (by omega)
 have hlb2 := AHeap.get_lt hb2
 have hlq2 := AHeap.get_lt hq2
 simp -implicitDefEqProofs (disch := first | assumption | omega | (simp only [nxB]; omega) | (simp only [oneB])) only [s82_31, s82_49, s82_64, s82_77, s82_93, s82_108, s82_112, s82_113, s82_114, s82_115, s82_116, s82_117, s82_118, s82_119, s82_120, s82_121, s82_122, s82_123, s82_124, s82_125, s82_126, s82_127, s82_128, s82_129, s82_130, s82_131, s82_132, s82_133, s82_134, s82_135, s82_136, s82_137, s82, xlen, AV.cells, splice, aload, astore, Nat.reduceAdd, Nat.reduceLeDiff, reduceIte, allB, hb2, hq2, hq]
 exact W_some.2 (QostE.box (a := { kind := 3, ofn := (ofR T (goS s)).1.1, ofd := (ofR T (goS s)).1.2, pos := (tokAt T s.at_).pos }) (kv := .nilSl) (lo := H0.next + 1) hx0 (mb1.trans m2) hx2.rd (Nat.le_refl _) (Nat.lt_succ_self _) (KsV.nil _ _) _)
theorem first_new {n : Nat} (ih : FreshROk n) {H0 H : AHeap} {r : Nat} {T : List Tok} {tv : AV} {s : St} (hx0 : Ry H0 r T tv s) (p0 : Pur H0 H) (hb : H.get H0.next = some (.row false 11 [[.int .i64 0, .int .i64 0, .str [], .str [], .int .i64 0, .nilSl, .int .i64 0, .int .i64 0, .int .i64 0, .int .i64 0, .int .i64 0]])) {b : Nat} (hbb : H0.next < b) (hq : H.get b = some (.row false 4 [[.int .i64 (tokAt T s.at_).kind, .str (tokAt T s.at_).text, .int .i64 (tokAt T s.at_).n, .int .i64 (tokAt T s.at_).pos]])) {e' : Ex} {s' : St} (h : freshR T n (tokAt T s.at_).pos (goS s) = some (e', s')) :
  W (s82_77 (evw P) (.ptr r 0 0) H (.ptr b 0 0) (.ptr H0.next 0 0)) (QostE H0 r T tv e' s') := by
 have hl := hx0.rd.lt
 have ho1 := hx0.tk.one
 have hx := hx0.pur p0
 have hle := p0.1
 have hlq := AHeap.get_lt hq
 have hlb := AHeap.get_lt hb
 have hr2 := hx.rd
 have hr2' := hr2
 unfold Rd5 at hr2'
 have hlr := hr2.lt
 obtain ⟨m1, hd1⟩ := rset hr2 (goS s)
 have mb1 := (p0.mut (· = r)).trans m1
 have hx1 := hx0.mut mb1 hd1
 have hb1 := m1.get hb (by omega)
 have hq1 := m1.get hq (by omega)
 simp -implicitDefEqProofs (disch := first | assumption | omega | (simp only [nxB]; omega) | (simp only [oneB])) only [s82_31, s82_49, s82_64, s82_77, s82_93, s82_108, s82_112, s82_113, s82_114, s82_115, s82_116, s82_117, s82_118, s82_119, s82_120, s82_121, s82_122, s82_123, s82_124, s82_125, s82_126, s82_127, s82_128, s82_129, s82_130, s82_131, s82_132, s82_133, s82_134, s82_135, s82_136, s82_137, s82, xlen, AV.cells, splice, aload, astore, Nat.reduceAdd, Nat.reduceLeDiff, reduceIte, allB, hr2', ho1, hq]
 refine W_call (ih hx1 _ e' s' h) ?_
 rintro v H2 ⟨m2, hx2, he2⟩
 refine ⟨m2.1, ?_⟩
 have hb2 := m2.get hb1 (by omega)
 have hlb2 := AHeap.get_lt hb2
 have hm1 := m1.1
 obtain ⟨cs, rfl, hlen, hone⟩ := he2.cells
 have ht : List.take 11 cs = cs := List.take_of_length_le (by omega)
 simp -implicitDefEqProofs (disch := first | assumption | omega | (simp only [nxB]; omega) | (simp only [oneB])) only [s82_31, s82_49, s82_64, s82_77, s82_93, s82_108, s82_112, s82_113, s82_114, s82_115, s82_116, s82_117, s82_118, s82_119, s82_120, s82_121, s82_122, s82_123, s82_124, s82_125, s82_126, s82_127, s82_128, s82_129, s82_130, s82_131, s82_132, s82_133, s82_134, s82_135, s82_136, s82_137, s82, xlen, AV.cells, splice, aload, astore, Nat.reduceAdd, Nat.reduceLeDiff, reduceIte, allB, hb2, hlen, hone, List.append_nil, ht]
 exact W_some.2 (QostE.ret hx0 (mb1.trans m2) hx2.rd (Nat.le_refl _) he2 (by omega) _)
theorem first_par {n : Nat} (ih : InnerOk n) {H0 H : AHeap} {r : Nat} {T : List Tok} {tv : AV} {s : St} (hx0 : Ry H0 r T tv s) (p0 : Pur H0 H) (hb : H.get H0.next = some (.row false 11 [[.int .i64 0, .int .i64 0, .str [], .str [], .int .i64 0, .nilSl, .int .i64 0, .int .i64 0, .int .i64 0, .int .i64 0, .int .i64 0]])) {b : Nat} (hbb : H0.next < b) (hq : H.get b = some (.row false 4 [[.int .i64 (tokAt T s.at_).kind, .str (tokAt T s.at_).text, .int .i64 (tokAt T s.at_).n, .int .i64 (tokAt T s.at_).pos]])) {e' : Ex} {s' : St} (h : innerR T n s = some (e', s')) :
  W (s82_112 (evw P) H (.ptr r 0 0) (.ptr H0.next 0 0)) (QostE H0 r T tv e' s') := by
 have hl := hx0.rd.lt
 have ho1 := hx0.tk.one
 have hx := hx0.pur p0
 have hle := p0.1
 have hlq := AHeap.get_lt hq
 have hlb := AHeap.get_lt hb
 have mb1 := p0.mut (· = r)
 have m1 := Mut.refl (· = r) H
 have hb1 := hb
 rw [s82_112]
 refine W_call (ih hx e' s' h) ?_
 rintro v H2 ⟨m2, hx2, he2⟩
 refine ⟨m2.1, ?_⟩
 have hb2 := m2.get hb1 (by omega)
 have hlb2 := AHeap.get_lt hb2
 have hm1 := m1.1
 obtain ⟨cs, rfl, hlen, hone⟩ := he2.cells
 have ht : List.take 11 cs = cs := List.take_of_length_le (by omega)
 simp -implicitDefEqProofs (disch := first | assumption | omega | (simp only [nxB]; omega) | (simp only [oneB])) only [s82_31, s82_49, s82_64, s82_77, s82_93, s82_108, s82_112, s82_113, s82_114, s82_115, s82_116, s82_117, s82_118, s82_119, s82_120, s82_121, s82_122, s82_123, s82_124, s82_125, s82_126, s82_127, s82_128, s82_129, s82_130, s82_131, s82_132, s82_133, s82_134, s82_135, s82_136, s82_137, s82, xlen, AV.cells, splice, aload, astore, Nat.reduceAdd, Nat.reduceLeDiff, reduceIte, allB, hb2, hlen, hone, List.append_nil, ht]
 exact W_some.2 (QostE.ret hx0 (mb1.trans m2) hx2.rd (Nat.le_refl _) he2 (by omega) _)
theorem first_read {H0 H : AHeap} {r : Nat} {T : List Tok} {tv : AV} {s : St} (hx0 : Ry H0 r T tv s) (p0 : Pur H0 H) (hb : H.get H0.next = some (.row false 11 [[.int .i64 0, .int .i64 0, .str [], .str [], .int .i64 0, .nilSl, .int .i64 0, .int .i64 0, .int .i64 0, .int .i64 0, .int .i64 0]])) {b : Nat} (hbb : H0.next < b) (hq : H.get b = some (.row false 4 [[.int .i64 (tokAt T s.at_).kind, .str (tokAt T s.at_).text, .int .i64 (tokAt T s.at_).n, .int .i64 (tokAt T s.at_).pos]])) {e' : Ex} {s' : St} (h : some (Ex.mk { kind := 11, pos := (tokAt T s.at_).pos } [], closesR T [41] (opensR T [40] (goS s))) = some (e', s')) :
  W (s82_108 (evw P) (.ptr r 0 0) H (.ptr b 0 0) (.ptr H0.next 0 0)) (QostE H0 r T tv e' s') := by
 have hl := hx0.rd.lt
 have ho1 := hx0.tk.one
 have hx := hx0.pur p0
 have hle := p0.1
 have hlq := AHeap.get_lt hq
 have hlb := AHeap.get_lt hb
 have hr2 := hx.rd
 have hr2' := hr2
 unfold Rd5 at hr2'
 have hlr := hr2.lt
 obtain ⟨m1, hd1⟩ := rset hr2 (goS s)
 have mb1 := (p0.mut (· = r)).trans m1
 have hx1 := hx0.mut mb1 hd1
 have hb1 := m1.get hb (by omega)
 have hq1 := m1.get hq (by omega)
 simp only [Option.some.injEq, Prod.mk.injEq] at h
 obtain ⟨rfl, rfl⟩ := h
 simp -implicitDefEqProofs (disch := first | assumption | omega | (simp only [nxB]; omega) | (simp only [oneB])) only [s82_31, s82_49, s82_64, s82_77, s82_93, s82_108, s82_112, s82_113, s82_114, s82_115, s82_116, s82_117, s82_118, s82_119, s82_120, s82_121, s82_122, s82_123, s82_124, s82_125, s82_126, s82_127, s82_128, s82_129, s82_130, s82_131, s82_132, s82_133, s82_134, s82_135, s82_136, s82_137, s82, xlen, AV.cells, splice, aload, astore, Nat.reduceAdd, Nat.reduceLeDiff, reduceIte, allB, hr2', ho1]
 refine W_call (ropens_spec hx1 [40] (by simp)) ?_
 rintro _ H2 ⟨rfl, m2, hx2⟩
 refine ⟨m2.1, ?_⟩
 simp -implicitDefEqProofs (disch := first | assumption | omega | (simp only [nxB]; omega) | (simp only [oneB])) only [s82_31, s82_49, s82_64, s82_77, s82_93, s82_108, s82_112, s82_113, s82_114, s82_115, s82_116, s82_117, s82_118, s82_119, s82_120, s82_121, s82_122, s82_123, s82_124, s82_125, s82_126, s82_127, s82_128, s82_129, s82_130, s82_131, s82_132, s82_133, s82_134, s82_135, s82_136, s82_137, s82, xlen, AV.cells, splice, aload, astore, Nat.reduceAdd, Nat.reduceLeDiff, reduceIte, allB]
 refine W_call (rcloses_spec hx2 [41] (by simp)) ?_
 rintro _ H3 ⟨rfl, m3, hx3⟩
 refine ⟨m3.1, ?_⟩
 have hb2 := m3.get (m2.get hb1 (by omega)) (by omega)
 have hq2 := m3.get (m2.get hq1 (by omega)) (by omega)
 have hlb2 := AHeap.get_lt hb2
 have hlq2 := AHeap.get_lt hq2
 simp -implicitDefEqProofs (disch := first | assumption | omega | (simp only [nxB]; omega) | (simp only [oneB])) only [s82_31, s82_49, s82_64, s82_77, s82_93, s82_108, s82_112, s82_113, s82_114, s82_115, s82_116, s82_117, s82_118, s82_119, s82_120, s82_121, s82_122, s82_123, s82_124, s82_125, s82_126, s82_127, s82_128, s82_129, s82_130, s82_131, s82_132, s82_133, s82_134, s82_135, s82_136, s82_137, s82, xlen, AV.cells, splice, aload, astore, Nat.reduceAdd, Nat.reduceLeDiff, reduceIte, allB, hb2, hq2]
 exact W_some.2 (QostE.box (a := { kind := 11, pos := (tokAt T s.at_).pos }) (kv := .nilSl) (lo := H0.next + 1) hx0 ((mb1.trans m2).trans m3) hx3.rd (Nat.le_refl _) (Nat.lt_succ_self _) (KsV.nil _ _) _)
theorem first_len {n : Nat} (ih : InnerOk n) {H0 H : AHeap} {r : Nat} {T : List Tok} {tv : AV} {s : St} (hx0 : Ry H0 r T tv s) (p0 : Pur H0 H) (hb : H.get H0.next = some (.row false 11 [[.int .i64 0, .int .i64 0, .str [], .str [], .int .i64 0, .nilSl, .int .i64 0, .int .i64 0, .int .i64 0, .int .i64 0, .int .i64 0]])) {b : Nat} (hbb : H0.next < b) (hq : H.get b = some (.row false 4 [[.int .i64 (tokAt T s.at_).kind, .str (tokAt T s.at_).text, .int .i64 (tokAt T s.at_).n, .int .i64 (tokAt T s.at_).pos]])) {e' : Ex} {s' : St} (h : ((innerR T n (goS s)).bind fun p => some (Ex.mk { kind := 10, pos := (tokAt T s.at_).pos } [p.1], p.2)) = some (e', s')) :
  W (s82_93 (evw P) (.ptr r 0 0) H (.ptr b 0 0) (.ptr H0.next 0 0)) (QostE H0 r T tv e' s') := by
 have hl := hx0.rd.lt
 have ho1 := hx0.tk.one
 have hx := hx0.pur p0
 have hle := p0.1
 have hlq := AHeap.get_lt hq
 have hlb := AHeap.get_lt hb
 have hr2 := hx.rd
 have hr2' := hr2
 unfold Rd5 at hr2'
 have hlr := hr2.lt
 obtain ⟨m1, hd1⟩ := rset hr2 (goS s)
 have mb1 := (p0.mut (· = r)).trans m1
 have hx1 := hx0.mut mb1 hd1
 have hb1 := m1.get hb (by omega)
 have hq1 := m1.get hq (by omega)
 simp only [Option.bind_eq_some_iff] at h
 obtain ⟨⟨e1, s1⟩, h1, h2⟩ := h
 simp only [Option.some.injEq, Prod.mk.injEq] at h2
 obtain ⟨rfl, rfl⟩ := h2
 simp -implicitDefEqProofs (disch := first | assumption | omega | (simp only [nxB]; omega) | (simp only [oneB])) only [s82_31, s82_49, s82_64, s82_77, s82_93, s82_108, s82_112, s82_113, s82_114, s82_115, s82_116, s82_117, s82_118, s82_119, s82_120, s82_121, s82_122, s82_123, s82_124, s82_125, s82_126, s82_127, s82_128, s82_129, s82_130, s82_131, s82_132, s82_133, s82_134, s82_135, s82_136, s82_137, s82, xlen, AV.cells, splice, aload, astore, Nat.reduceAdd, Nat.reduceLeDiff, reduceIte, allB, hr2', ho1]
 refine W_call (ih hx1 e1 s1 h1) ?_
 rintro v H2 ⟨m2, hx2, he2⟩
 refine ⟨m2.1, ?_⟩
 have hb2 := m2.get hb1 (by omega)
 have hq2 := m2.get hq1 (by omega)
 have hlb2 := AHeap.get_lt hb2
 have hlq2 := AHeap.get_lt hq2
 have hm1 := m1.1
 have hm2 := m2.1
 obtain ⟨cs, rfl, hlen, hone⟩ := he2.cells
 have ht : List.take 11 cs = cs := List.take_of_length_le (by omega)
 have hs : ∀ l, sliceOf P l 35 1 [(0, .agg cs)] = some (.sl l 0 1 11 (some 1), .row false 11 [cs]) := fun l => sl35_1 l cs hlen hone
 have mb := mb1.trans m2
 have hr3 := hx2.rd
 unfold Rd5 at hr3
 have hr2 := hr3
 simp -implicitDefEqProofs (disch := first | assumption | omega | (simp only [nxB]; omega) | (simp only [oneB])) only [s82_31, s82_49, s82_64, s82_77, s82_93, s82_108, s82_112, s82_113, s82_114, s82_115, s82_116, s82_117, s82_118, s82_119, s82_120, s82_121, s82_122, s82_123, s82_124, s82_125, s82_126, s82_127, s82_128, s82_129, s82_130, s82_131, s82_132, s82_133, s82_134, s82_135, s82_136, s82_137, s82, xlen, AV.cells, splice, aload, astore, Nat.reduceAdd, Nat.reduceLeDiff, reduceIte, allB, hs, hb2, hq2, hq]
 refine W_some.2 ?_
 refine QostL.fin (ok := Ge H0.next) (a := { kind := 10, pos := (tokAt T s.at_).pos }) (kv := .sl H2.next 0 1 11 (some 1)) (s' := s1) hx0 ?_ ?_ (KsV.one_at (ro := false) ?_ (by unfold Ge; omega) (he2.new ?_ fun l h => by unfold Ge; omega))
 ·(repeat (first | exact mb | refine Mut.then_push ?_ _ | refine Mut.then_set (S := (· = r)) ?_ (.inl rfl) _ | refine Mut.then_set ?_ (.inr (by (first | omega | (simp only [AHeap.next_push, AHeap.next_set]; omega)))) _))
 ·(unfold Rd5; simp -implicitDefEqProofs (disch := first | assumption | omega | (simp only [nxB]; omega) | (simp only [oneB])) only [heapB, hr2, goS, outS, inS])
 ·simp -implicitDefEqProofs (disch := first | assumption | omega | (simp only [nxB]; omega) | (simp only [oneB])) only [heapB]
 ·exact Mut.then_set (S := fun l => l < _) ((Mut.refl _ _).then_push _) (.inl (by omega)) _
theorem first_rest {n : Nat} (ihF : FreshROk n) (ihI : InnerOk n) (ihA : ArgsOk n) {H0 H : AHeap} {r : Nat} {T : List Tok} {tv : AV} {s : St} (hx0 : Ry H0 r T tv s) (p0 : Pur H0 H) (hb : H.get H0.next = some (.row false 11 [[.int .i64 0, .int .i64 0, .str [], .str [], .int .i64 0, .nilSl, .int .i64 0, .int .i64 0, .int .i64 0, .int .i64 0, .int .i64 0]])) {b : Nat} (hbb : H0.next < b) (hq : H.get b = some (.row false 4 [[.int .i64 (tokAt T s.at_).kind, .str (tokAt T s.at_).text, .int .i64 (tokAt T s.at_).n, .int .i64 (tokAt T s.at_).pos]])) {e' : Ex} {s' : St} (h : (bif isR T s [110, 117, 108, 108] then some (.mk { kind := 3, ofn := (ofR T (goS s)).1.1, ofd := (ofR T (goS s)).1.2, pos := (tokAt T s.at_).pos } [], (ofR T (goS s)).2) else (bif isR T s [110, 101, 119] then freshR T n (tokAt T s.at_).pos (goS s) else (bif isR T s [108, 101, 110] then (innerR T n (goS s)).bind fun p => some (.mk { kind := 10, pos := (tokAt T s.at_).pos } [p.1], p.2) else (bif isR T s [114, 101, 97, 100] then some (.mk { kind := 11, pos := (tokAt T s.at_).pos } [], closesR T [41] (opensR T [40] (goS s))) else (bif isR T s [40] then innerR T n s else (bif isR T (nameR T s).2 [40] then (argsR T n (nameR T s).2).bind fun p => some (.mk { kind := 7, name := (nameR T s).1, pos := (tokAt T s.at_).pos } p.1, p.2) else some (.mk { kind := 4, name := (nameR T s).1, pos := (tokAt T s.at_).pos } [], (nameR T s).2))))))) = some (e', s')) :
  W (s82_123 (evw P) H (.ptr r 0 0) (.ptr b 0 0) (.ptr H0.next 0 0)) (QostE H0 r T tv e' s') := by
 have hx := hx0.pur p0
 rw [s82_123]
 refine W_call (ris_spec (hx0.rd.pur p0) (hx0.tk.pur p0) [110, 117, 108, 108] (by simp)) ?_
 rintro _ K0 ⟨rfl, q0⟩
 refine ⟨q0.1, ?_⟩
 have p1 := p0.trans q0
 have hb1 := q0.get hb
 have hq1 := q0.get hq
 cases h0 : isR T s [110, 117, 108, 108] with
 | true =>
  simp only [h0, cond_true] at h
  simp -implicitDefEqProofs (disch := first | assumption | omega | (simp only [nxB]; omega) | (simp only [oneB])) only [s82_122, xif_bool, cond_true]
  exact first_null  hx0 p1 hb1 hbb hq1 h
 | false =>
  simp only [h0, cond_false] at h
  simp -implicitDefEqProofs (disch := first | assumption | omega | (simp only [nxB]; omega) | (simp only [oneB])) only [s82_122, xif_bool, cond_false]
  rw [s82_121]
  refine W_call (ris_spec (hx0.rd.pur p1) (hx0.tk.pur p1) [110, 101, 119] (by simp)) ?_
  rintro _ K1 ⟨rfl, q1⟩
  refine ⟨q1.1, ?_⟩
  have p2 := p1.trans q1
  have hb2 := q1.get hb1
  have hq2 := q1.get hq1
  cases h1 : isR T s [110, 101, 119] with
  | true =>
   simp only [h1, cond_true] at h
   simp -implicitDefEqProofs (disch := first | assumption | omega | (simp only [nxB]; omega) | (simp only [oneB])) only [s82_120, xif_bool, cond_true]
   exact first_new ihF hx0 p2 hb2 hbb hq2 h
  | false =>
   simp only [h1, cond_false] at h
   simp -implicitDefEqProofs (disch := first | assumption | omega | (simp only [nxB]; omega) | (simp only [oneB])) only [s82_120, xif_bool, cond_false]
   rw [s82_119]
   refine W_call (ris_spec (hx0.rd.pur p2) (hx0.tk.pur p2) [108, 101, 110] (by simp)) ?_
   rintro _ K2 ⟨rfl, q2⟩
   refine ⟨q2.1, ?_⟩
   have p3 := p2.trans q2
   have hb3 := q2.get hb2
   have hq3 := q2.get hq2
   cases h2 : isR T s [108, 101, 110] with
   | true =>
    simp only [h2, cond_true] at h
    simp -implicitDefEqProofs (disch := first | assumption | omega | (simp only [nxB]; omega) | (simp only [oneB])) only [s82_118, xif_bool, cond_true]
    exact first_len ihI hx0 p3 hb3 hbb hq3 h
   | false =>
    simp only [h2, cond_false] at h
    simp -implicitDefEqProofs (disch := first | assumption | omega | (simp only [nxB]; omega) | (simp only [oneB])) only [s82_118, xif_bool, cond_false]
    rw [s82_117]
    refine W_call (ris_spec (hx0.rd.pur p3) (hx0.tk.pur p3) [114, 101, 97, 100] (by simp)) ?_
    rintro _ K3 ⟨rfl, q3⟩
    refine ⟨q3.1, ?_⟩
    have p4 := p3.trans q3
    have hb4 := q3.get hb3
    have hq4 := q3.get hq3
    cases h3 : isR T s [114, 101, 97, 100] with
    | true =>
     simp only [h3, cond_true] at h
     simp -implicitDefEqProofs (disch := first | assumption | omega | (simp only [nxB]; omega) | (simp only [oneB])) only [s82_116, xif_bool, cond_true]
     exact first_read  hx0 p4 hb4 hbb hq4 h
    | false =>
     simp only [h3, cond_false] at h
     simp -implicitDefEqProofs (disch := first | assumption | omega | (simp only [nxB]; omega) | (simp only [oneB])) only [s82_116, xif_bool, cond_false]
     rw [s82_115]
     refine W_call (ris_spec (hx0.rd.pur p4) (hx0.tk.pur p4) [40] (by simp)) ?_
     rintro _ K4 ⟨rfl, q4⟩
     refine ⟨q4.1, ?_⟩
     have p5 := p4.trans q4
     have hb5 := q4.get hb4
     have hq5 := q4.get hq4
     cases h4 : isR T s [40] with
     | true =>
      simp only [h4, cond_true] at h
      simp -implicitDefEqProofs (disch := first | assumption | omega | (simp only [nxB]; omega) | (simp only [oneB])) only [s82_114, xif_bool, cond_true]
      exact first_par ihI hx0 p5 hb5 hbb hq5 h
     | false =>
      simp only [h4, cond_false] at h
      simp -implicitDefEqProofs (disch := first | assumption | omega | (simp only [nxB]; omega) | (simp only [oneB])) only [s82_114, xif_bool, cond_false]
      rw [s82_113]
      exact first_nameR ihA hx0 p5 hb5 hbb hq5 h
theorem first_stepR {n : Nat} (ihF : FreshROk n) (ihI : InnerOk n) (ihA : ArgsOk n) : FirstROk (n + 1) := by
 intro H r T tv s hx e s' h
 refine W_of (fun _ => run82 0) ?_
 have hl := hx.rd.lt
 simp only [firstR] at h
 have p1 := Pur.push H (.row false 11 [[.int .i64 0, .int .i64 0, .str [], .str [], .int .i64 0, .nilSl, .int .i64 0, .int .i64 0, .int .i64 0, .int .i64 0, .int .i64 0]])
 simp -implicitDefEqProofs (disch := first | assumption | omega | (simp only [nxB]; omega) | (simp only [oneB])) only [s82, s82_137, xlen, AV.cells, splice, aload, astore, Nat.reduceAdd, Nat.reduceLeDiff, reduceIte, allB]
 refine W_call (rtok_spec (hx.rd.pur p1) (hx.tk.pur p1)) ?_
 rintro _ H2 ⟨rfl, p2⟩
 refine ⟨p2.1, ?_⟩
 have hb2 := p2.get (AHeap.get_push_same H _)
 have hl2 := AHeap.get_lt hb2
 simp -implicitDefEqProofs (disch := first | assumption | omega | (simp only [nxB]; omega) | (simp only [oneB])) only [s82_136, s82_135, xlen, AV.cells, splice, aload, astore, Nat.reduceAdd, Nat.reduceLeDiff, reduceIte, allB, Tok.v]
 have p3 := p2.then_push (.row false 4 [[.int .i64 (tokAt T s.at_).kind, .str (tokAt T s.at_).text, .int .i64 (tokAt T s.at_).n, .int .i64 (tokAt T s.at_).pos]])
 have hq3 := AHeap.get_push_same H2 (.row false 4 [[.int .i64 (tokAt T s.at_).kind, .str (tokAt T s.at_).text, .int .i64 (tokAt T s.at_).n, .int .i64 (tokAt T s.at_).pos]])
 have hb3 := p3.get (AHeap.get_push_same H _)
 have p13 := p1.trans p3
 rw [s82_134]
 refine W_call (rok_spec (hx.rd.pur p13)) ?_
 rintro _ H4 ⟨rfl, rfl⟩
 refine ⟨Nat.le_refl _, ?_⟩
 have rest : (s.fe == 0 && (tokAt T s.at_).kind == 2) = false → W (s82_128 (evw P) (H2.push (.row false 4 [[.int .i64 (tokAt T s.at_).kind, .str (tokAt T s.at_).text, .int .i64 (tokAt T s.at_).n, .int .i64 (tokAt T s.at_).pos]])) (.ptr r 0 0) (.ptr H.next 0 0) (.ptr H2.next 0 0)) (QostE H r T tv e s') := by
  intro hn
  simp only [hn, cond_false] at h
  rw [s82_128]
  refine W_call (ris_spec (hx.rd.pur p13) (hx.tk.pur p13) [116, 114, 117, 101] (by simp)) ?_
  rintro _ H5 ⟨rfl, p5⟩
  refine ⟨p5.1, ?_⟩
  have p15 := p13.trans p5
  have hb5 := p5.get hb3
  have hq5 := p5.get hq3
  cases h1 : isR T s [116, 114, 117, 101] with
  | true =>
   simp only [h1, Bool.true_or, cond_true] at h
   simp -implicitDefEqProofs (disch := first | assumption | omega | (simp only [nxB]; omega) | (simp only [oneB])) only [s82_127, s82_124, s82_j1, xif_bool, cond_true]
   exact first_bool hx p15 hb5 (by omega) hq5 h
  | false =>
   simp only [h1, Bool.false_or] at h
   simp -implicitDefEqProofs (disch := first | assumption | omega | (simp only [nxB]; omega) | (simp only [oneB])) only [s82_127, s82_126, xif_bool, cond_false]
   refine W_call (ris_spec (hx.rd.pur p15) (hx.tk.pur p15) [102, 97, 108, 115, 101] (by simp)) ?_
   rintro _ H6 ⟨rfl, p6⟩
   refine ⟨p6.1, ?_⟩
   have p16 := p15.trans p6
   have hb6 := p6.get hb5
   have hq6 := p6.get hq5
   cases h2 : isR T s [102, 97, 108, 115, 101] with
   | true =>
    simp only [h2, cond_true] at h
    simp -implicitDefEqProofs (disch := first | assumption | omega | (simp only [nxB]; omega) | (simp only [oneB])) only [s82_125, s82_j1, xif_bool, cond_true]
    exact first_bool hx p16 hb6 (by omega) hq6 h
   | false =>
    simp only [h2, cond_false] at h
    simp -implicitDefEqProofs (disch := first | assumption | omega | (simp only [nxB]; omega) | (simp only [oneB])) only [s82_125, s82_j1, xif_bool, cond_false]
    exact first_rest ihF ihI ihA hx p16 hb6 (by omega) hq6 h
 cases hfe : s.fe == 0 with
 | false =>
  simp -implicitDefEqProofs (disch := first | assumption | omega | (simp only [nxB]; omega) | (simp only [oneB])) only [s82_133, s82_132, s82_131, s82_130, s82_129, xlen, AV.cells, splice, aload, astore, Nat.reduceAdd, Nat.reduceLeDiff, reduceIte, allB]
  exact rest (by simp [hfe])
 | true =>
  cases hk : (tokAt T s.at_).kind == 2 with
  | true =>
   simp only [hfe, hk, Bool.and_self, cond_true] at h
   simp -implicitDefEqProofs (disch := first | assumption | omega | (simp only [nxB]; omega) | (simp only [oneB])) only [s82_133, s82_132, s82_131, s82_130, s82_129, xlen, AV.cells, splice, aload, astore, Nat.reduceAdd, Nat.reduceLeDiff, reduceIte, allB, hk]
   exact first_num hx p13 hb3 (by omega) hq3 h
  | false =>
   simp -implicitDefEqProofs (disch := first | assumption | omega | (simp only [nxB]; omega) | (simp only [oneB])) only [s82_133, s82_132, s82_131, s82_130, s82_129, xlen, AV.cells, splice, aload, astore, Nat.reduceAdd, Nat.reduceLeDiff, reduceIte, allB, hk]
   exact rest (by simp [hfe, hk])
theorem all_okR : ∀ n, n ≤ 900000000 → ∀ k, k ≤ n → AllROk k
 | 0, _, k, hk => by
  have : k = 0 := by omega
  subst this
  exact ⟨fun _ _ _ _ _ h => by simp [exprR] at h, fun _ _ _ h => by simp [unaryR] at h, fun _ _ _ _ _ _ h => by simp [behindR] at h, fun _ _ _ h => by simp [innerR] at h, fun _ _ _ h => by simp [firstR] at h,
   fun _ _ _ _ h => by simp [freshR] at h, fun _ _ _ h => by simp [argsR] at h⟩
 | n + 1, hn, k, hk => by
  have ih := all_okR n (by omega)
  have i := ih n (Nat.le_refl _)
  rcases Nat.lt_or_ge k (n + 1) with h | h
  ·exact ih k (by omega)
  ·have : k = n + 1 := by omega
   subst this
   exact ⟨expr_step (fun k hk => (ih k hk).expr) i.unary, unary_stepR (fun k hk => (ih k hk).expr) i.first i.behind, behind_step fun k hk => (ih k hk).expr, inner_step i.expr, first_stepR i.fresh i.inner i.args, fresh_stepR i.inner, args_step (by omega) fun k hk => (ih k hk).expr⟩
end Go.Proofs.Ytnjoomfeddamcaa

namespace Go.Proofs.Ytnjoomfeddamcaa
open Go.Ev
theorem bd75_3 (tv : AV) (h1 : tv.one = true) (a b : Int) : abuild P 75 [(0, tv), (1, .int .i64 a), (2, .int .i64 b)] = some (.agg [tv, .int .i64 a, .int .i64 b, .int .i64 0, .int .i64 0]) := by
 cases tv <;> first | (cases h1; done) | kernel_rfl
theorem bd75_2 (tv : AV) (h1 : tv.one = true) (a : Int) : abuild P 75 [(0, tv), (1, .int .i64 a)] = some (.agg [tv, .int .i64 a, .int .i64 0, .int .i64 0, .int .i64 0]) := by
 cases tv <;> first | (cases h1; done) | kernel_rfl
theorem Expr_spec {n : Nat} (hn : n ≤ 900000000) {H : AHeap} {T : List Tok} {tv : AV} (ht : TokSl H tv T) (at_ opn : Int) {e : Ex} {s' : St} (h : exprR T n 0 (startS at_ opn) = some (e, s')) :
  W (evw P 20 [tv, .int .i64 at_, .int .i64 opn] H) fun v H' => ∃ ev, v = .tuple [ev, .int .i64 (parseS e s').2.1, .agg [.int .i64 (parseS e s').2.2.1, .int .i64 (parseS e s').2.2.2]] ∧ ExV H' (Ge H.next) (parseS e s').1 ev ∧ Pur H H' := by
 refine W_of (fun _ => run20 0) ?_
 have ho1 := ht.one
 have p1 := (Pur.push H (.row false 11 [[.int .i64 0, .int .i64 0, .str [], .str [], .int .i64 0, .nilSl, .int .i64 0, .int .i64 0, .int .i64 0, .int .i64 0, .int .i64 0]])).then_push (.row false 2 [[.int .i64 0, .int .i64 0]])
 have hbd := bd75_3 tv ho1 at_ (if opn < 0 then 0 else opn)
 have hbx : ∀ l, boxOf l (.agg [tv, .int .i64 at_, .int .i64 (if opn < 0 then 0 else opn), .int .i64 0, .int .i64 0]) = some (.ptr l 0 0, .row false 5 [[tv, .int .i64 at_, .int .i64 (if opn < 0 then 0 else opn), .int .i64 0, .int .i64 0]]) := fun l => boxOf_agg l _ (by simp only [List.all_cons, List.all_nil, one_int, ho1, Bool.and_self])
 simp -implicitDefEqProofs (disch := first | assumption | omega | (simp only [nxB]; omega) | (simp only [oneB])) only [s20, xlen, AV.cells, splice, aload, astore, Nat.reduceAdd, Nat.reduceLeDiff, reduceIte, allB, mx3, hbd, hbx]
 have hH3 := AHeap.get_push_same (H.push (.row false 11 [[.int .i64 0, .int .i64 0, .str [], .str [], .int .i64 0, .nilSl, .int .i64 0, .int .i64 0, .int .i64 0, .int .i64 0, .int .i64 0]])) (.row false 2 [[.int .i64 0, .int .i64 0]])
 have hn3 : ((H.push (.row false 11 [[.int .i64 0, .int .i64 0, .str [], .str [], .int .i64 0, .nilSl, .int .i64 0, .int .i64 0, .int .i64 0, .int .i64 0, .int .i64 0]])).push (.row false 2 [[.int .i64 0, .int .i64 0]])).next = H.next + 2 := by simp only [AHeap.next_push]
 have hb6 : ((H.push (.row false 11 [[.int .i64 0, .int .i64 0, .str [], .str [], .int .i64 0, .nilSl, .int .i64 0, .int .i64 0, .int .i64 0, .int .i64 0, .int .i64 0]])).push (.row false 2 [[.int .i64 0, .int .i64 0]])).get H.next = some (.row false 11 [[.int .i64 0, .int .i64 0, .str [], .str [], .int .i64 0, .nilSl, .int .i64 0, .int .i64 0, .int .i64 0, .int .i64 0, .int .i64 0]]) := by simp -implicitDefEqProofs (disch := first | assumption | omega | (simp only [nxB]; omega) | (simp only [oneB])) only [heapB]
 have hb8 : ((H.push (.row false 11 [[.int .i64 0, .int .i64 0, .str [], .str [], .int .i64 0, .nilSl, .int .i64 0, .int .i64 0, .int .i64 0, .int .i64 0, .int .i64 0]])).push (.row false 2 [[.int .i64 0, .int .i64 0]])).get (H.next + 1) = some (.row false 2 [[.int .i64 0, .int .i64 0]]) := by simp -implicitDefEqProofs (disch := first | assumption | omega | (simp only [nxB]; omega) | (simp only [oneB])) only [heapB]
 rw [← hn3]
 generalize (H.push (.row false 11 [[.int .i64 0, .int .i64 0, .str [], .str [], .int .i64 0, .nilSl, .int .i64 0, .int .i64 0, .int .i64 0, .int .i64 0, .int .i64 0]])).push (.row false 2 [[.int .i64 0, .int .i64 0]]) = H3 at p1 hb6 hb8 hn3 ⊢
 have p4 := Pur.push H3 (.row false 5 [[tv, .int .i64 at_, .int .i64 (if opn < 0 then 0 else opn), .int .i64 0, .int .i64 0]])
 have p5 := p1.trans p4
 have hx4 : Ry (H3.push (.row false 5 [[tv, .int .i64 at_, .int .i64 (if opn < 0 then 0 else opn), .int .i64 0, .int .i64 0]])) H3.next T tv (startS at_ opn) :=
  ⟨AHeap.get_push_same _ _, ht.pur p5⟩
 refine W_call ((all_okR n hn n (Nat.le_refl _)).expr hx4 0 (by omega) e s' h) ?_
 rintro v H5 ⟨m5, hx5, he5⟩
 refine ⟨m5.1, ?_⟩
 have hm5 := m5.1
 simp only [AHeap.next_push] at hm5 he5
 obtain ⟨cs, rfl, hlen, hone⟩ := he5.cells
 have htk : List.take 11 cs = cs := List.take_of_length_le (by omega)
 simp -implicitDefEqProofs (disch := first | assumption | omega | (simp only [nxB]; omega) | (simp only [oneB])) only [s20, xlen, AV.cells, splice, aload, astore, Nat.reduceAdd, Nat.reduceLeDiff, reduceIte, allB, hlen, hone, List.append_nil]
 have p6 := Pur.push H5 (.row false 11 [cs])
 refine W_call (rok_spec (hx5.rd.pur p6)) ?_
 rintro _ H8 ⟨rfl, rfl⟩
 refine ⟨Nat.le_refl _, ?_⟩
 have hr := hx5.rd.pur p6
 unfold Rd5 at hr
 have hr5 := hx5.rd
 unfold Rd5 at hr5
 have hb65 := m5.get (p4.get hb6) (by omega)
 have hb85 := m5.get (p4.get hb8) (by omega)
 have l6 := AHeap.get_lt hb65
 have l8 := AHeap.get_lt hb85
 have pf : Pur H H5 := ⟨by have := p5.1; simp only [AHeap.next_push] at this; omega, fun l hl => by rw [m5.2 l (by simp only [AHeap.next_push]; omega) (by omega)]; exact p5.2 l hl⟩
 by_cases hf : s'.fe = 0
 ·have hf' : (s'.fe == 0) = true := by simpa using hf
  rw [show parseS e s' = (e, s'.at_, 0, 0) by simp [parseS, hf]]
  simp -implicitDefEqProofs (disch := first | assumption | omega | (simp only [nxB]; omega) | (simp only [oneB])) only [s20, xlen, AV.cells, splice, aload, astore, Nat.reduceAdd, Nat.reduceLeDiff, reduceIte, allB, hf', Bool.not_true, Bool.not_false, hr, hr5, hb65, hb85, hlen, hone, List.append_nil, htk, Bool.and_true]
  refine W_some.2 ⟨_, rfl, ?_, ?_⟩
  ·exact he5.new (Mut.then_set (S := fun l => l < _) (Mut.then_set (S := fun l => l < _) ((Mut.refl _ _).then_push _) (.inl (by omega)) _) (.inl (by omega)) _) fun l h => by unfold Ge; omega
  ·exact ((pf.then_push _).then_set (Nat.le_refl _) _).then_set (by omega) _
 ·have hf' : (s'.fe == 0) = false := by simpa using hf
  rw [show parseS e s' = (.zero, 0, s'.fe, s'.fa) by simp [parseS, hf]]
  have hrd25 : rdIs (some (.agg [.int .i64 s'.fe, .int .i64 s'.fa])) (.agg [.int .i64 s'.fe, .int .i64 s'.fa]) = true := by simp [rdIs, AV.beq, AVs.beq]
  simp -implicitDefEqProofs (disch := first | assumption | omega | (simp only [nxB]; omega) | (simp only [oneB])) only [s20, xlen, AV.cells, splice, aload, astore, Nat.reduceAdd, Nat.reduceLeDiff, reduceIte, allB, hf', Bool.not_true, Bool.not_false, hr, hr5, hb65, hb85, hrd25, Bool.and_true]
  refine W_some.2 ⟨_, rfl, ExV.leaf _ _ { kind := 0 }, ?_⟩
  exact ((pf.then_push _).then_set (Nat.le_refl _) _).then_set (by omega) _
theorem ROf_spec {H : AHeap} {T : List Tok} {tv : AV} (ht : TokSl H tv T) (at_ : Int) :
  W (evw P 19 [tv, .int .i64 at_] H) fun v H' => v = .tuple [.agg [.str (ofP (ofR T ⟨at_, 0, 0, 0⟩)).1.1, .int .i64 (ofP (ofR T ⟨at_, 0, 0, 0⟩)).1.2], .int .i64 (ofP (ofR T ⟨at_, 0, 0, 0⟩)).2.1, .agg [.int .i64 (ofP (ofR T ⟨at_, 0, 0, 0⟩)).2.2.1, .int .i64 (ofP (ofR T ⟨at_, 0, 0, 0⟩)).2.2.2]] ∧ Pur H H' := by
 refine W_of (fun _ => run19 0) ?_
 have ho1 := ht.one
 generalize hq : ofR T ⟨at_, 0, 0, 0⟩ = q
 have p1 := (Pur.push H (.row false 2 [[.str [], .int .i64 0]])).then_push (.row false 2 [[.int .i64 0, .int .i64 0]])
 have hbd := bd75_2 tv ho1 at_
 have hbx : ∀ l, boxOf l (.agg [tv, .int .i64 at_, .int .i64 0, .int .i64 0, .int .i64 0]) = some (.ptr l 0 0, .row false 5 [[tv, .int .i64 at_, .int .i64 0, .int .i64 0, .int .i64 0]]) := fun l => boxOf_agg l _ (by simp only [List.all_cons, List.all_nil, one_int, ho1, Bool.and_self])
 simp -implicitDefEqProofs (disch := first | assumption | omega | (simp only [nxB]; omega) | (simp only [oneB])) only [s19, xlen, AV.cells, splice, aload, astore, Nat.reduceAdd, Nat.reduceLeDiff, reduceIte, allB, hbd, hbx]
 have p4 := p1.then_push (.row false 5 [[tv, .int .i64 at_, .int .i64 0, .int .i64 0, .int .i64 0]])
 have hx4 : Ry (((H.push (.row false 2 [[.str [], .int .i64 0]])).push (.row false 2 [[.int .i64 0, .int .i64 0]])).push (.row false 5 [[tv, .int .i64 at_, .int .i64 0, .int .i64 0, .int .i64 0]])) (H.next + 2) T tv ⟨at_, 0, 0, 0⟩ :=
  ⟨AHeap.get_push_eq (by simp only [AHeap.next_push]; omega) (by simp only [AHeap.next_push]; omega), ht.pur p4⟩
 refine W_call (rof_spec hx4) ?_
 rintro _ H5 ⟨rfl, m5, hx5⟩
 refine ⟨m5.1, ?_⟩
 rw [hq] at hx5 ⊢
 have hm5 := m5.1
 simp only [AHeap.next_push] at hm5
 simp -implicitDefEqProofs (disch := first | assumption | omega | (simp only [nxB]; omega) | (simp only [oneB])) only [s19, xlen, AV.cells, splice, aload, astore, Nat.reduceAdd, Nat.reduceLeDiff, reduceIte, allB]
 have p6 := Pur.push H5 (.row false 2 [[.str q.1.1, .int .i64 q.1.2]])
 refine W_call (rok_spec (hx5.rd.pur p6)) ?_
 rintro _ H8 ⟨rfl, rfl⟩
 refine ⟨Nat.le_refl _, ?_⟩
 have hr := hx5.rd.pur p6
 unfold Rd5 at hr
 have hr5 := hx5.rd
 unfold Rd5 at hr5
 have hb65 : H5.get H.next = some (.row false 2 [[.str [], .int .i64 0]]) := m5.get (by simp -implicitDefEqProofs (disch := first | assumption | omega | (simp only [nxB]; omega) | (simp only [oneB])) only [heapB]) (by omega)
 have hb85 : H5.get (H.next + 1) = some (.row false 2 [[.int .i64 0, .int .i64 0]]) := m5.get (by simp -implicitDefEqProofs (disch := first | assumption | omega | (simp only [nxB]; omega) | (simp only [oneB])) only [heapB]) (by omega)
 have l6 := AHeap.get_lt hb65
 have l8 := AHeap.get_lt hb85
 have pf : Pur H H5 := ⟨by omega, fun l hl => by rw [m5.2 l (by simp only [AHeap.next_push]; omega) (by omega)]; exact p4.2 l hl⟩
 by_cases hf : q.2.fe = 0
 ·have hf' : (q.2.fe == 0) = true := by simpa using hf
  rw [show ofP q = (q.1, q.2.at_, 0, 0) by simp [ofP, hf]]
  simp -implicitDefEqProofs (disch := first | assumption | omega | (simp only [nxB]; omega) | (simp only [oneB])) only [s19, xlen, AV.cells, splice, aload, astore, Nat.reduceAdd, Nat.reduceLeDiff, reduceIte, allB, hf', Bool.not_true, Bool.not_false, hr, hr5, hb65, hb85, List.append_nil, Bool.and_true]
  exact W_some.2 ⟨rfl, ((pf.then_push _).then_set (Nat.le_refl _) _).then_set (by omega) _⟩
 ·have hf' : (q.2.fe == 0) = false := by simpa using hf
  rw [show ofP q = (([], 0), 0, q.2.fe, q.2.fa) by simp [ofP, hf]]
  have hrd25 : rdIs (some (.agg [.int .i64 q.2.fe, .int .i64 q.2.fa])) (.agg [.int .i64 q.2.fe, .int .i64 q.2.fa]) = true := by simp [rdIs, AV.beq, AVs.beq]
  simp -implicitDefEqProofs (disch := first | assumption | omega | (simp only [nxB]; omega) | (simp only [oneB])) only [s19, xlen, AV.cells, splice, aload, astore, Nat.reduceAdd, Nat.reduceLeDiff, reduceIte, allB, hf', Bool.not_true, Bool.not_false, hr, hr5, hb65, hb85, hrd25, Bool.and_true]
  exact W_some.2 ⟨rfl, ((pf.then_push _).then_set (Nat.le_refl _) _).then_set (by omega) _⟩
end Go.Proofs.Ytnjoomfeddamcaa


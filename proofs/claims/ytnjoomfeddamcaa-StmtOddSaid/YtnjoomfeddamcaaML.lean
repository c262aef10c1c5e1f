/-
  Texts of one proof, laid together: U3 U4 U5 U6 U7 K4.
-/
import Derived.Test.YtnjoomfeddamcaaMK
import Derived.Test.YtnjoomfeddamcaaMH
import Derived.Test.YtnjoomfeddamcaaMF
set_option linter.unusedVariables false
set_option linter.unusedSimpArgs false
namespace Go.Proofs.Ytnjoomfeddamcaa
open Go.Ev
theorem kdecl_spec {H : AHeap} {r : Nat} {T : List Tok} {tv : AV} {s : St} (hx : Ry H r T tv s) : W (evw P 92 [.ptr r 0 0] H) (QostS H r T tv (declS T s).1 (declS T s).2) := by
 refine W_of (fun _ => run92 0) ?_
 have hl := hx.rd.lt
 have p1 := Pur.push H (.row false 9 [[.int .i64 0, .str [], .str [], .int .i64 0, .nilSl, .nilSl, .nilSl, .int .i64 0, .int .i64 0]])
 simp -implicitDefEqProofs (disch := first | assumption | omega | (simp only [nxB]; omega) | (simp only [oneB])) only [s92, xlen, AV.cells, splice, aload, astore, Nat.reduceAdd, Nat.reduceLeDiff, reduceIte, allB, tyC]
 refine W_call (ktyped_spec (hx.pur p1)) ?_
 rintro _ H2 ⟨rfl, m2, hx2⟩
 refine ⟨m2.1, ?_⟩
 unfold declS
 generalize typedS T s = q at hx2 ⊢
 have g2 := m2.get (AHeap.get_push_same H (.row false 9 [[.int .i64 0, .str [], .str [], .int .i64 0, .nilSl, .nilSl, .nilSl, .int .i64 0, .int .i64 0]])) (by omega)
 have l2 := AHeap.get_lt g2
 simp -implicitDefEqProofs (disch := first | assumption | omega | (simp only [nxB]; omega) | (simp only [oneB])) only [s92, xlen, AV.cells, splice, aload, astore, Nat.reduceAdd, Nat.reduceLeDiff, reduceIte, allB, tyC]
 have p3 := Pur.push H2 (.row false 2 [[.str q.1.2.1, .int .i64 q.1.2.2]])
 refine W_call (kwants_spec (hx2.pur p3) [59]) ?_
 rintro _ H5 ⟨rfl, m5, hx5⟩
 refine ⟨m5.1, ?_⟩
 have lr := hx2.rd.lt
 have g5 := m5.get (p3.get g2) (by omega)
 have q5 := m5.get (AHeap.get_push_same H2 (.row false 2 [[.str q.1.2.1, .int .i64 q.1.2.2]])) (by omega)
 have l5 := AHeap.get_lt g5
 simp -implicitDefEqProofs (disch := first | assumption | omega | (simp only [nxB]; omega) | (simp only [oneB])) only [s92, xlen, AV.cells, splice, aload, astore, Nat.reduceAdd, Nat.reduceLeDiff, reduceIte, allB, tyC, g5, q5]
 exact W_some.2 (QostS.fin (a := { kind := 1, name := q.1.1, ofn := q.1.2.1, ofd := q.1.2.2 }) hx ((((p1.mut _).trans m2).trans (p3.mut _)).trans m5) hx5.rd (KsV.nil _ _) (SsV.nil _ _) (SsV.nil _ _) (Nat.le_refl _) (Nat.lt_succ_self _) _)
theorem KsV.made {H H' : AHeap} {r n lo : Nat} {e : Ex} {cs : List AV} (he : ExV H (Ge n) e (.agg cs)) (m : Mt r H H') (hr : r < n) (hlo : lo ≤ n) (h1 : lo ≤ H'.next) : KsV (H'.push (.row false 11 [cs])) (Ge lo) [e] (.sl H'.next 0 1 11 (some 1)) :=
 KsV.one_at (ro := false) (AHeap.get_push_same _ _) h1 (he.mut (m.then_push _) (by unfold Ge; omega) fun l hl => by unfold Ge at *; omega)
theorem klets_spec {H : AHeap} {r : Nat} {T : List Tok} {tv : AV} {s : St} (hT : T.length ≤ 20000000) (hx : Ry H r T tv s) : W (evw P 93 [.ptr r 0 0] H) (QostS H r T tv (letsS T s).1 (letsS T s).2) := by
 refine W_of (fun _ => run93 0) ?_
 have hl := hx.rd.lt
 have p1 := Pur.push H (.row false 9 [[.int .i64 0, .str [], .str [], .int .i64 0, .nilSl, .nilSl, .nilSl, .int .i64 0, .int .i64 0]])
 simp -implicitDefEqProofs (disch := first | assumption | omega | (simp only [nxB]; omega) | (simp only [oneB])) only [s93, xlen, AV.cells, splice, aload, astore, Nat.reduceAdd, Nat.reduceLeDiff, reduceIte, allB, tyC]
 refine W_call (ktyped_spec (hx.pur p1)) ?_
 rintro _ H2 ⟨rfl, m2, hx2⟩
 refine ⟨m2.1, ?_⟩
 unfold letsS
 generalize typedS T s = q at hx2 ⊢
 have g2 := m2.get (AHeap.get_push_same H (.row false 9 [[.int .i64 0, .str [], .str [], .int .i64 0, .nilSl, .nilSl, .nilSl, .int .i64 0, .int .i64 0]])) (by omega)
 have l2 := AHeap.get_lt g2
 simp -implicitDefEqProofs (disch := first | assumption | omega | (simp only [nxB]; omega) | (simp only [oneB])) only [s93, xlen, AV.cells, splice, aload, astore, Nat.reduceAdd, Nat.reduceLeDiff, reduceIte, allB, tyC]
 have p3 := Pur.push H2 (.row false 2 [[.str q.1.2.1, .int .i64 q.1.2.2]])
 refine W_call (kwants_spec (hx2.pur p3) [61]) ?_
 rintro _ H5 ⟨rfl, m5, hx5⟩
 refine ⟨m5.1, ?_⟩
 have lr := hx2.rd.lt
 have g5 := m5.get (p3.get g2) (by omega)
 have q5 := m5.get (AHeap.get_push_same H2 (.row false 2 [[.str q.1.2.1, .int .i64 q.1.2.2]])) (by omega)
 generalize (wantsS T [61] q.2).2 = s5 at hx5 ⊢
 simp -implicitDefEqProofs (disch := first | assumption | omega | (simp only [nxB]; omega) | (simp only [oneB])) only [s93, xlen, AV.cells, splice, aload, astore, Nat.reduceAdd, Nat.reduceLeDiff, reduceIte, allB, tyC]
 refine W_call (kexpr_spec hT hx5) ?_
 rintro v H6 ⟨m6, hx6, he⟩
 refine ⟨m6.1, ?_⟩
 obtain ⟨cs, rfl, n1, o1⟩ := he.cells
 have t1 : List.take 11 cs = cs := List.take_of_length_le (by omega)
 have g6 := m6.get g5 (by omega)
 have q6 := m6.get q5 (by omega)
 generalize exprP T s5 = e6 at hx6 he ⊢
 simp -implicitDefEqProofs (disch := first | assumption | omega | (simp only [nxB]; omega) | (simp only [oneB])) only [s93, xlen, AV.cells, splice, aload, astore, Nat.reduceAdd, Nat.reduceLeDiff, reduceIte, allB, tyC, n1, o1, List.append_nil]
 have p7 := Pur.push H6 (.row false 11 [cs])
 refine W_call (kwants_spec (hx6.pur p7) [59]) ?_
 rintro _ H9 ⟨rfl, m9, hx9⟩
 refine ⟨m9.1, ?_⟩
 have lr6 := hx6.rd.lt
 have g9 := m9.get (p7.get g6) (by omega)
 have q9 := m9.get (p7.get q6) (by omega)
 have e9 := m9.get (AHeap.get_push_same H6 (.row false 11 [cs])) (by omega)
 have l9 := AHeap.get_lt g9
 have hs : ∀ l, sliceOf P l 35 1 [(0, .agg cs)] = some (.sl l 0 1 11 (some 1), .row false 11 [cs]) := fun l => sl35_1 l cs n1 o1
 have b5 := hx5.rd.lt
 have lg5 := AHeap.get_lt g5
 simp -implicitDefEqProofs (disch := first | assumption | omega | (simp only [nxB]; omega) | (simp only [oneB])) only [s93, xlen, AV.cells, splice, aload, astore, Nat.reduceAdd, Nat.reduceLeDiff, reduceIte, allB, tyC, g9, q9, e9, t1, hs]
 exact W_some.2 (QostS.fin (a := { kind := 2, name := q.1.1, ofn := q.1.2.1, ofd := q.1.2.2 }) hx (((((((p1.mut _).trans m2).trans (p3.mut _)).trans m5).trans m6).trans ((p7.mut _).trans m9)).then_push _) (hx9.rd.pur (Pur.push _ _)) (KsV.made he ((p7.mut _).trans m9) b5 (lo := H.next + 1) (by omega) (by omega)) (SsV.nil _ _) (SsV.nil _ _) (Nat.le_refl _) (Nat.lt_succ_self _) _)
theorem kprint_spec {H : AHeap} {r : Nat} {T : List Tok} {tv : AV} {s : St} (hT : T.length ≤ 20000000) (hx : Ry H r T tv s) : W (evw P 97 [.ptr r 0 0] H) (QostS H r T tv (printS T s).1 (printS T s).2) := by
 refine W_of (fun _ => run97 0) ?_
 have hl := hx.rd.lt
 have p1 := Pur.push H (.row false 9 [[.int .i64 0, .str [], .str [], .int .i64 0, .nilSl, .nilSl, .nilSl, .int .i64 0, .int .i64 0]])
 simp -implicitDefEqProofs (disch := first | assumption | omega | (simp only [nxB]; omega) | (simp only [oneB])) only [s97, xlen, AV.cells, splice, aload, astore, Nat.reduceAdd, Nat.reduceLeDiff, reduceIte, allB, tyC]
 refine W_call (kexpr_spec hT (hx.pur p1)) ?_
 rintro v H6 ⟨m6, hx6, he⟩
 refine ⟨m6.1, ?_⟩
 unfold printS
 obtain ⟨cs, rfl, n1, o1⟩ := he.cells
 have t1 : List.take 11 cs = cs := List.take_of_length_le (by omega)
 have g6 := m6.get (AHeap.get_push_same H (.row false 9 [[.int .i64 0, .str [], .str [], .int .i64 0, .nilSl, .nilSl, .nilSl, .int .i64 0, .int .i64 0]])) (by omega)
 generalize exprP T s = e6 at hx6 he ⊢
 simp -implicitDefEqProofs (disch := first | assumption | omega | (simp only [nxB]; omega) | (simp only [oneB])) only [s97, xlen, AV.cells, splice, aload, astore, Nat.reduceAdd, Nat.reduceLeDiff, reduceIte, allB, tyC, n1, o1, List.append_nil]
 have p7 := Pur.push H6 (.row false 11 [cs])
 refine W_call (kwants_spec (hx6.pur p7) [59]) ?_
 rintro _ H9 ⟨rfl, m9, hx9⟩
 refine ⟨m9.1, ?_⟩
 have lr6 := hx6.rd.lt
 have lg6 := AHeap.get_lt g6
 have g9 := m9.get (p7.get g6) (by omega)
 have e9 := m9.get (AHeap.get_push_same H6 (.row false 11 [cs])) (by omega)
 have l9 := AHeap.get_lt g9
 have hs : ∀ l, sliceOf P l 35 1 [(0, .agg cs)] = some (.sl l 0 1 11 (some 1), .row false 11 [cs]) := fun l => sl35_1 l cs n1 o1
 simp -implicitDefEqProofs (disch := first | assumption | omega | (simp only [nxB]; omega) | (simp only [oneB])) only [s97, xlen, AV.cells, splice, aload, astore, Nat.reduceAdd, Nat.reduceLeDiff, reduceIte, allB, tyC, g9, e9, t1, hs]
 exact W_some.2 (QostS.fin (a := { kind := 8 }) hx ((((p1.mut _).trans m6).trans ((p7.mut _).trans m9)).then_push _) (hx9.rd.pur (Pur.push _ _)) (KsV.made he ((p7.mut _).trans m9) (by simp only [AHeap.next_push]; omega) (lo := H.next + 1) (by simp only [AHeap.next_push]; omega) (by omega)) (SsV.nil _ _) (SsV.nil _ _) (Nat.le_refl _) (Nat.lt_succ_self _) _)
theorem rets_end {H0 H : AHeap} {r : Nat} {T : List Tok} {tv : AV} {s0 s : St} (hx0 : Ry H0 r T tv s0) (mb : Mt r H0 H) (hrd : Rd5 H r tv s) {es : List Ex} {ev : AV} (hk : KsV H (Ge (H0.next + 2)) es ev) (g2 : H.get H0.next = some (.row false 9 [[.int .i64 0, .str [], .str [], .int .i64 0, .nilSl, .nilSl, .nilSl, .int .i64 0, .int .i64 0]])) (g3 : H.get (H0.next + 1) = some (.row false 9 [Sa.cells { kind := 7 } ev .nilSl .nilSl])) :
  W (s96_j0 (evw P) (.ptr r 0 0) (.ptr H0.next 0 0) (.ptr (H0.next + 1) 0 0) H) (QostS H0 r T tv (.mk { kind := 7 } es [] []) (wantsS T [59] s).2) := by
 have hl := hx0.rd.lt
 have lg := AHeap.get_lt g3
 have ho := hk.oneAV
 rw [s96_j0]
 refine W_call (kwants_spec (hx0.mut mb hrd) [59]) ?_
 rintro _ H1 ⟨rfl, m1, hx1⟩
 refine ⟨m1.1, ?_⟩
 have h2 := m1.get g2 (by omega)
 have h3 := m1.get g3 (by omega)
 have l2 := AHeap.get_lt h2
 simp only [Sa.cells] at h3
 simp -implicitDefEqProofs (disch := first | assumption | omega | (simp only [nxB]; omega) | (simp only [oneB])) only [s96, xlen, AV.cells, splice, aload, astore, Nat.reduceAdd, Nat.reduceLeDiff, reduceIte, allB, tyC, h2, h3, ho]
 exact W_some.2 (QostS.fin (a := { kind := 7 }) hx0 (mb.trans m1) hx1.rd (hk.keep (Keep.mut m1 (ok' := Ge (H0.next + 1)) (by unfold Ge; omega) fun l hl => by unfold Ge at *; omega)) (SsV.nil _ _) (SsV.nil _ _) (Nat.le_refl _) (Nat.lt_succ_self _) _)
theorem krets_spec {H : AHeap} {r : Nat} {T : List Tok} {tv : AV} {s : St} (hT : T.length ≤ 20000000) (hx : Ry H r T tv s) : W (evw P 96 [.ptr r 0 0] H) (QostS H r T tv (retsS T s).1 (retsS T s).2) := by
 refine W_of (fun _ => run96 0) ?_
 have hl := hx.rd.lt
 simp -implicitDefEqProofs (disch := first | assumption | omega | (simp only [nxB]; omega) | (simp only [oneB])) only [s96, xlen, AV.cells, splice, aload, astore, Nat.reduceAdd, Nat.reduceLeDiff, reduceIte, allB, tyC]
 have p2 := (Pur.push H (.row false 9 [[.int .i64 0, .str [], .str [], .int .i64 0, .nilSl, .nilSl, .nilSl, .int .i64 0, .int .i64 0]])).then_push (.row false 9 [Sa.cells { kind := 7 } .nilSl .nilSl .nilSl])
 refine W_call (kis_spec (hx.rd.pur p2) (hx.tk.pur p2) 4 [59]) ?_
 rintro _ H4 ⟨rfl, p4⟩
 refine ⟨p4.1, ?_⟩
 have n4 := p4.1
 simp only [AHeap.next_push] at n4
 have g2 : H4.get H.next = some (.row false 9 [[.int .i64 0, .str [], .str [], .int .i64 0, .nilSl, .nilSl, .nilSl, .int .i64 0, .int .i64 0]]) := p4.get (by simp -implicitDefEqProofs (disch := first | assumption | omega | (simp only [nxB]; omega) | (simp only [oneB])) only [heapB])
 have g3 : H4.get (H.next + 1) = some (.row false 9 [Sa.cells { kind := 7 } .nilSl .nilSl .nilSl]) := p4.get (AHeap.get_push_same _ _)
 have hx4 := (hx.pur p2).pur p4
 unfold retsS
 cases hb : isB T s 4 [59] with
 | true =>
  simp -implicitDefEqProofs (disch := first | assumption | omega | (simp only [nxB]; omega) | (simp only [oneB])) only [s96, xlen, AV.cells, splice, aload, astore, Nat.reduceAdd, Nat.reduceLeDiff, reduceIte, allB, tyC]
  exact rets_end hx ((p2.trans p4).mut _) hx4.rd (KsV.nil _ _) g2 g3
 | false =>
  simp -implicitDefEqProofs (disch := first | assumption | omega | (simp only [nxB]; omega) | (simp only [oneB])) only [s96, xlen, AV.cells, splice, aload, astore, Nat.reduceAdd, Nat.reduceLeDiff, reduceIte, allB, tyC]
  refine W_call (kexpr_spec hT hx4) ?_
  rintro v H6 ⟨m6, hx6, he⟩
  refine ⟨m6.1, ?_⟩
  obtain ⟨cs, rfl, n1, o1⟩ := he.cells
  have lr4 := hx4.rd.lt
  have h2 := m6.get g2 (by omega)
  have h3 := m6.get g3 (by omega)
  have l3 := AHeap.get_lt h3
  generalize exprP T s = e6 at hx6 he ⊢
  have hs : ∀ l, sliceOf P l 35 1 [(0, .agg cs)] = some (.sl l 0 1 11 (some 1), .row false 11 [cs]) := fun l => sl35_1 l cs n1 o1
  have h3' := h3
  simp only [Sa.cells] at h3'
  simp -implicitDefEqProofs (disch := first | assumption | omega | (simp only [nxB]; omega) | (simp only [oneB])) only [s96, xlen, AV.cells, splice, aload, astore, Nat.reduceAdd, Nat.reduceLeDiff, reduceIte, allB, tyC, hs, h3']
  have mb := ((p2.trans p4).mut (· = r)).trans m6
  have n6 := m6.1
  refine rets_end hx (H := (H6.push (.row false 11 [cs])).set (H.next + 1) (.row false 9 [Sa.cells { kind := 7 } (.sl H6.next 0 1 11 (some 1)) .nilSl .nilSl])) (es := [e6.1]) (ev := .sl H6.next 0 1 11 (some 1)) ?_ ?_ ?_ ?_ ?_
  ·exact (mb.then_push _).then_set (.inr (by omega)) _
  ·have h := hx6.rd
   unfold Rd5 at h ⊢
   rw [AHeap.get_set_other (by omega), AHeap.get_push_other (by omega)]; exact h
  ·exact (KsV.made he (Mut.refl _ _) lr4 (lo := H.next + 2) (by omega) (by omega)).keep (Keep.set _ (by unfold Ge; omega) fun _ h => h)
  ·simp -implicitDefEqProofs (disch := first | assumption | omega | (simp only [nxB]; omega) | (simp only [oneB])) only [heapB, h2]
  ·exact AHeap.get_set_same (by simp only [AHeap.next_push]; omega)
end Go.Proofs.Ytnjoomfeddamcaa

namespace Go.Proofs.Ytnjoomfeddamcaa
open Go.Ev
theorem ExV.below {H : AHeap} {ok : Nat → Prop} {e : Ex} {v : AV} (h : ExV H ok e v) : ExV H (fun l => ok l ∧ l < H.next) e v := ExV.keep (fun _ _ _ h g => ⟨⟨h, AHeap.get_lt g⟩, g⟩) e v h
theorem QostM.fin {ok : Nat → Prop} {H Hf : AHeap} {r : Nat} {T : List Tok} {tv : AV} {s s' : St} {a : Sa} {es : List Ex} {ev : AV} {x : Nat} (hx : Ry H r T tv s) (m : Mt r H Hf) (hd : Rd5 Hf r tv s') (h1 : KsV Hf (fun l => ok l ∧ l ≠ x) es ev) (hb : H.next ≤ x) (blk : ABlk) :
  QostM ok H r T tv (.mk a es [] []) s' (.agg (a.cells ev .nilSl .nilSl)) (Hf.set x blk) := by
 have hl := hx.rd.lt
 have m' := m.then_set (.inr hb) blk
 refine ⟨m', hx.mut m' ?_, StV_mk.2 ⟨ev, .nilSl, .nilSl, rfl, h1.keep (Keep.set _ (by simp) fun l h => h.1), SsV.nil _ _, SsV.nil _ _⟩⟩
 unfold Rd5 at hd ⊢
 rw [AHeap.get_set_other (by omega)]; exact hd
theorem sets_end {ok : Nat → Prop} {H0 H : AHeap} {r : Nat} {T : List Tok} {tv : AV} {s0 s : St} (hT : T.length ≤ 20000000) (hx0 : Ry H0 r T tv s0) (mb : Mt r H0 H) (hrd : Rd5 H r tv s) {a : Ea} {ks : List Ex} {kv : AV} (he : ExV H0 ok (.mk a ks) (.agg (a.cells kv))) (hr : ¬ ok r) (hnew : ∀ l, H0.next ≤ l → ok l)
  (g3 : H.get H0.next = some (.row false 11 [a.cells kv])) (g4 : H.get (H0.next + 1) = some (.row false 9 [[.int .i64 0, .str [], .str [], .int .i64 0, .nilSl, .nilSl, .nilSl, .int .i64 0, .int .i64 0]])) :
  W (s91_j0 (evw P) (.ptr r 0 0) (.ptr H0.next 0 0) (.ptr (H0.next + 1) 0 0) H) (QostM ok H0 r T tv (bif a.kind == 4 then .mk { kind := 3, name := a.name } [(exprP T (wantsS T [61] s).2).1] [] [] else .mk { kind := 4 } [.mk a ks, (exprP T (wantsS T [61] s).2).1] [] []) (wantsS T [59] (exprP T (wantsS T [61] s).2).2).2) := by
 have hl := hx0.rd.lt
 have lg4 := AHeap.get_lt g4
 rw [s91_j0]
 refine W_call (kwants_spec (hx0.mut mb hrd) [61]) ?_
 rintro _ H1 ⟨rfl, m1, hx1⟩
 refine ⟨m1.1, ?_⟩
 have n1 := m1.1
 generalize (wantsS T [61] s).2 = s1 at hx1 ⊢
 simp -implicitDefEqProofs (disch := first | assumption | omega | (simp only [nxB]; omega) | (simp only [oneB])) only [s91, xlen, AV.cells, splice, aload, astore, Nat.reduceAdd, Nat.reduceLeDiff, reduceIte, allB, tyC]
 refine W_call (kexpr_spec hT hx1) ?_
 rintro v H2 ⟨m2, hx2, hv⟩
 refine ⟨m2.1, ?_⟩
 have n2 := m2.1
 obtain ⟨cs, rfl, c1, o1⟩ := hv.cells
 generalize exprP T s1 = e2 at hx2 hv ⊢
 simp -implicitDefEqProofs (disch := first | assumption | omega | (simp only [nxB]; omega) | (simp only [oneB])) only [s91, xlen, AV.cells, splice, aload, astore, Nat.reduceAdd, Nat.reduceLeDiff, reduceIte, allB, tyC, c1, o1, List.append_nil]
 have p3 := Pur.push H2 (.row false 11 [cs])
 refine W_call (kwants_spec (hx2.pur p3) [59]) ?_
 rintro _ H4 ⟨rfl, m4, hx4⟩
 refine ⟨m4.1, ?_⟩
 have n4 := m4.1
 simp only [AHeap.next_push] at n4
 have lr := hx2.rd.lt
 have k3 := m4.get (p3.get (m2.get (m1.get g3 (by omega)) (by omega))) (by omega)
 have k4 := m4.get (p3.get (m2.get (m1.get g4 (by omega)) (by omega))) (by omega)
 have k5 := m4.get (AHeap.get_push_same H2 (.row false 11 [cs])) (by omega)
 have lk4 := AHeap.get_lt k4
 have m24 := (p3.mut (· = r)).trans m4
 have mf := (((mb.trans m1).trans m2).trans m24)
 have t1 : List.take 11 cs = cs := List.take_of_length_le (by omega)
 have hne : ∀ l, Ge H1.next l → ok l ∧ l ≠ H0.next + 1 := fun l h => by
  unfold Ge at h
  exact ⟨hnew l (by omega), by omega⟩
 have hv4 := hv.mut (ok' := fun l => ok l ∧ l ≠ H0.next + 1) m24 (by unfold Ge; have := hx1.rd.lt; omega) hne
 have ho := KsV.oneAV (ExV_mk.1 he).choose_spec.2
 obtain ⟨kv', hkv, hks⟩ := ExV_mk.1 he
 have hkv1 := hks.oneAV
 have hkk : kv' = kv := by
  have := congrArg (fun v => match v with | AV.agg cs => cs[5]? | _ => none) hkv
  simpa [Ea.cells] using this.symm
 rw [hkk] at hkv1
 have he4 : ExV H4 (fun l => ok l ∧ l ≠ H0.next + 1) (.mk a ks) (.agg (a.cells kv)) := he.below.mut mf (fun h => hr h.1) fun l h => ⟨h.1, by omega⟩
 have oa : (a.cells kv).all AV.one = true := by simp only [Ea.cells, List.all_cons, List.all_nil, one_int, one_str, hkv1, Bool.and_self]
 cases hk : a.kind == 4 with
 | true =>
  have hs : ∀ l, sliceOf P l 35 1 [(0, .agg cs)] = some (.sl l 0 1 11 (some 1), .row false 11 [cs]) := fun l => sl35_1 l cs c1 o1
  simp only [Ea.cells] at k3
  simp -implicitDefEqProofs (disch := first | assumption | omega | (simp only [nxB]; omega) | (simp only [oneB])) only [s91, xlen, AV.cells, splice, aload, astore, Nat.reduceAdd, Nat.reduceLeDiff, reduceIte, allB, tyC, k3, k4, k5, hk, t1, hs]
  exact W_some.2 (QostM.fin (a := { kind := 3, name := a.name }) hx0 (mf.then_push _) (hx4.rd.pur (Pur.push _ _)) (KsV.one_at (ro := false) (AHeap.get_push_same _ _) ⟨hnew _ (by omega), by omega⟩ (hv4.pur (Pur.push _ _))) (by omega) _)
 | false =>
  have hs : ∀ l, sliceOf P l 35 2 [(0, .agg (a.cells kv)), (1, .agg cs)] = some (.sl l 0 2 11 (some 2), .row false 11 [a.cells kv, cs]) := fun l => sl35_2 l (a.cells kv) cs rfl oa c1 o1
  have k3' := k3
  simp only [Ea.cells] at k3' hs
  simp -implicitDefEqProofs (disch := first | assumption | omega | (simp only [nxB]; omega) | (simp only [oneB])) only [s91, xlen, AV.cells, splice, aload, astore, Nat.reduceAdd, Nat.reduceLeDiff, reduceIte, allB, tyC, k3', k4, k5, hk, t1, hs]
  exact W_some.2 (QostM.fin (a := { kind := 4 }) hx0 (mf.then_push _) (hx4.rd.pur (Pur.push _ _)) (KsV.two_at (ro := false) (AHeap.get_push_same _ _) ⟨hnew _ (by omega), by omega⟩ (he4.pur (Pur.push _ _)) (hv4.pur (Pur.push _ _))) (by omega) _)
theorem ksets_spec {ok : Nat → Prop} {H : AHeap} {r : Nat} {T : List Tok} {tv : AV} {s : St} (hT : T.length ≤ 20000000) (hx : Ry H r T tv s) {e : Ex} {v : AV} (he : ExV H ok e v) (hr : ¬ ok r) (hnew : ∀ l, H.next ≤ l → ok l) : W (evw P 91 [.ptr r 0 0, v] H) (QostM ok H r T tv (setsS T e s).1 (setsS T e s).2) := by
 refine W_of (fun _ => run91 0) ?_
 have hl := hx.rd.lt
 cases e with | mk a ks =>
 obtain ⟨kv, rfl, hk⟩ := ExV_mk.1 he
 have hk1 := hk.oneAV
 have oa : (a.cells kv).all AV.one = true := by simp only [Ea.cells, List.all_cons, List.all_nil, one_int, one_str, hk1, Bool.and_self]
 have hbx : ∀ l, boxOf l (.agg (a.cells kv)) = some (.ptr l 0 0, .row false 11 [a.cells kv]) := fun l => boxOf_agg l _ oa
 simp only [Ea.cells] at hbx ⊢
 have p2 := (Pur.push H (.row false 11 [a.cells kv])).then_push (.row false 9 [[.int .i64 0, .str [], .str [], .int .i64 0, .nilSl, .nilSl, .nilSl, .int .i64 0, .int .i64 0]])
 have hx2 := hx.pur p2
 have fin : ∀ (H3 : AHeap), Mt r H H3 → Rd5 H3 r tv (bif exK (.mk a ks) then failS T 2 s else s) → H3.get H.next = some (.row false 11 [a.cells kv]) → H3.get (H.next + 1) = some (.row false 9 [[.int .i64 0, .str [], .str [], .int .i64 0, .nilSl, .nilSl, .nilSl, .int .i64 0, .int .i64 0]]) →
   W (s91_j0 (evw P) (.ptr r 0 0) (.ptr H.next 0 0) (.ptr (H.next + 1) 0 0) H3) (QostM ok H r T tv (setsS T (.mk a ks) s).1 (setsS T (.mk a ks) s).2) := fun H3 m3 hd3 g3 g4 => sets_end hT hx m3 hd3 he hr hnew g3 g4
 have g3 : ((H.push (.row false 11 [a.cells kv])).push (.row false 9 [[.int .i64 0, .str [], .str [], .int .i64 0, .nilSl, .nilSl, .nilSl, .int .i64 0, .int .i64 0]])).get H.next = some (.row false 11 [a.cells kv]) := by simp -implicitDefEqProofs (disch := first | assumption | omega | (simp only [nxB]; omega) | (simp only [oneB])) only [heapB]
 have g4 := AHeap.get_push_same (H.push (.row false 11 [a.cells kv])) (.row false 9 [[.int .i64 0, .str [], .str [], .int .i64 0, .nilSl, .nilSl, .nilSl, .int .i64 0, .int .i64 0]])
 have g3' := g3
 simp only [Ea.cells] at g3'
 cases k4 : (a.kind != 4) with
 | false =>
  have hex : exK (.mk a ks) = false := by simp only [exK, Ex.kind, k4, Bool.false_and]
  rw [hex] at fin
  simp -implicitDefEqProofs (disch := first | assumption | omega | (simp only [nxB]; omega) | (simp only [oneB])) only [s91, xlen, AV.cells, splice, aload, astore, Nat.reduceAdd, Nat.reduceLeDiff, reduceIte, allB, tyC, hbx, k4]
  exact fin _ (p2.mut _) hx2.rd g3 g4
 | true =>
  cases k5 : (a.kind != 5) with
  | false =>
   have hex : exK (.mk a ks) = false := by simp only [exK, Ex.kind, k4, k5, Bool.false_and, Bool.and_false]
   rw [hex] at fin
   simp -implicitDefEqProofs (disch := first | assumption | omega | (simp only [nxB]; omega) | (simp only [oneB])) only [s91, xlen, AV.cells, splice, aload, astore, Nat.reduceAdd, Nat.reduceLeDiff, reduceIte, allB, tyC, hbx, k4, k5]
   exact fin _ (p2.mut _) hx2.rd g3 g4
  | true =>
   cases k6 : (a.kind != 6) with
   | false =>
    have hex : exK (.mk a ks) = false := by simp only [exK, Ex.kind, k4, k5, k6, Bool.and_false]
    rw [hex] at fin
    simp -implicitDefEqProofs (disch := first | assumption | omega | (simp only [nxB]; omega) | (simp only [oneB])) only [s91, xlen, AV.cells, splice, aload, astore, Nat.reduceAdd, Nat.reduceLeDiff, reduceIte, allB, tyC, hbx, k4, k5, k6]
    exact fin _ (p2.mut _) hx2.rd g3 g4
   | true =>
    have hex : exK (.mk a ks) = true := by simp only [exK, Ex.kind, k4, k5, k6, Bool.and_self]
    rw [hex] at fin
    simp -implicitDefEqProofs (disch := first | assumption | omega | (simp only [nxB]; omega) | (simp only [oneB])) only [s91, xlen, AV.cells, splice, aload, astore, Nat.reduceAdd, Nat.reduceLeDiff, reduceIte, allB, tyC, hbx, k4, k5, k6]
    refine W_call (kfail_spec hx2 2) ?_
    rintro _ H3 ⟨rfl, m3, hx3⟩
    refine ⟨m3.1, ?_⟩
    exact fin H3 ((p2.mut _).trans m3) hx3.rd (m3.get g3 (by omega)) (m3.get g4 (by simp only [AHeap.next_push] at *; omega))
theorem plain_end {H0 H : AHeap} {r : Nat} {T : List Tok} {tv : AV} {s0 s : St} (hx0 : Ry H0 r T tv s0) (mb : Mt r H0 H) (hrd : Rd5 H r tv s) {e : Ex} {cs : List AV} {b : Nat} (he : ExV H (Ge (H0.next + 1)) e (.agg cs)) (hb : H0.next < b) (g2 : H.get H0.next = some (.row false 9 [[.int .i64 0, .str [], .str [], .int .i64 0, .nilSl, .nilSl, .nilSl, .int .i64 0, .int .i64 0]])) (g3 : H.get b = some (.row false 11 [cs])) :
  W (s77_j0 (evw P) (.ptr r 0 0) (.ptr H0.next 0 0) (.ptr b 0 0) H) (QostS H0 r T tv (.mk { kind := 9 } [e] [] []) (wantsS T [59] s).2) := by
 have hl := hx0.rd.lt
 rw [s77_j0]
 refine W_call (kwants_spec (hx0.mut mb hrd) [59]) ?_
 rintro _ H1 ⟨rfl, m1, hx1⟩
 refine ⟨m1.1, ?_⟩
 obtain ⟨cs', hcs, c1, o1⟩ := he.cells
 cases hcs
 have h2 := m1.get g2 (by omega)
 have h3 := m1.get g3 (by omega)
 have l2 := AHeap.get_lt h2
 have t1 : List.take 11 cs = cs := List.take_of_length_le (by omega)
 have hs : ∀ l, sliceOf P l 35 1 [(0, .agg cs)] = some (.sl l 0 1 11 (some 1), .row false 11 [cs]) := fun l => sl35_1 l cs c1 o1
 simp -implicitDefEqProofs (disch := first | assumption | omega | (simp only [nxB]; omega) | (simp only [oneB])) only [s77, xlen, AV.cells, splice, aload, astore, Nat.reduceAdd, Nat.reduceLeDiff, reduceIte, allB, tyC, h2, h3, t1, hs]
 exact W_some.2 (QostS.fin (a := { kind := 9 }) hx0 ((mb.trans m1).then_push _) (hx1.rd.pur (Pur.push _ _)) (KsV.made he m1 (by omega) (lo := H0.next + 1) (by omega) (by omega)) (SsV.nil _ _) (SsV.nil _ _) (Nat.le_refl _) (Nat.lt_succ_self _) _)
theorem kplain_spec {H : AHeap} {r : Nat} {T : List Tok} {tv : AV} {s : St} (hT : T.length ≤ 20000000) (hx : Ry H r T tv s) : W (evw P 77 [.ptr r 0 0] H) (QostS H r T tv (plainS T s).1 (plainS T s).2) := by
 refine W_of (fun _ => run77 0) ?_
 have hl := hx.rd.lt
 have p1 := Pur.push H (.row false 9 [[.int .i64 0, .str [], .str [], .int .i64 0, .nilSl, .nilSl, .nilSl, .int .i64 0, .int .i64 0]])
 simp -implicitDefEqProofs (disch := first | assumption | omega | (simp only [nxB]; omega) | (simp only [oneB])) only [s77, xlen, AV.cells, splice, aload, astore, Nat.reduceAdd, Nat.reduceLeDiff, reduceIte, allB, tyC]
 refine W_call (kexpr_spec hT (hx.pur p1)) ?_
 rintro v H2 ⟨m2, hx2, he⟩
 refine ⟨m2.1, ?_⟩
 have n2 := m2.1
 simp only [AHeap.next_push] at n2
 unfold plainS
 obtain ⟨cs, rfl, c1, o1⟩ := he.cells
 have t1 : List.take 11 cs = cs := List.take_of_length_le (by omega)
 have g2 := m2.get (AHeap.get_push_same H (.row false 9 [[.int .i64 0, .str [], .str [], .int .i64 0, .nilSl, .nilSl, .nilSl, .int .i64 0, .int .i64 0]])) (by omega)
 generalize exprP T s = e2 at hx2 he ⊢
 simp -implicitDefEqProofs (disch := first | assumption | omega | (simp only [nxB]; omega) | (simp only [oneB])) only [s77, xlen, AV.cells, splice, aload, astore, Nat.reduceAdd, Nat.reduceLeDiff, reduceIte, allB, tyC, c1, o1, List.append_nil]
 have p3 := Pur.push H2 (.row false 11 [cs])
 refine W_call (kis_spec (hx2.rd.pur p3) (hx2.tk.pur p3) 4 [61]) ?_
 rintro _ H4 ⟨rfl, p4⟩
 refine ⟨p4.1, ?_⟩
 have n4 := p4.1
 simp only [AHeap.next_push] at n4
 have p34 := p3.trans p4
 have g4 := p34.get g2
 have l4 := AHeap.get_lt g4
 have e4 := p4.get (AHeap.get_push_same H2 (.row false 11 [cs]))
 have he4 : ExV H4 (Ge (H.next + 1)) e2.1 (.agg cs) := ExV.keep (Keep.pur p34 fun l hl => by unfold Ge at *; simp only [AHeap.next_push] at hl; omega) _ _ he
 have mb := ((p1.mut (· = r)).trans m2).trans (p34.mut _)
 have hx4 := hx2.pur p34
 cases hb : isB T e2.2 4 [61] with
 | true =>
  simp -implicitDefEqProofs (disch := first | assumption | omega | (simp only [nxB]; omega) | (simp only [oneB])) only [s77, xlen, AV.cells, splice, aload, astore, Nat.reduceAdd, Nat.reduceLeDiff, reduceIte, allB, tyC, e4, t1]
  refine W_call (ksets_spec hT hx4 he4 (by unfold Ge; omega) (fun l hl => by unfold Ge; omega)) ?_
  rintro w H5 ⟨m5, hx5, hw⟩
  refine ⟨m5.1, ?_⟩
  obtain ⟨ds, rfl, d1, o2⟩ := hw.cells
  have td : List.take 9 ds = ds := List.take_of_length_le (by omega)
  have g5 := m5.get g4 (by omega)
  have l5 := AHeap.get_lt g5
  simp -implicitDefEqProofs (disch := first | assumption | omega | (simp only [nxB]; omega) | (simp only [oneB])) only [s77, xlen, AV.cells, splice, aload, astore, Nat.reduceAdd, Nat.reduceLeDiff, reduceIte, allB, tyC, g5, d1, o2, td, List.append_nil]
  exact W_some.2 (QostS.ret hx (mb.trans m5) hx5.rd (Nat.le_refl _) hw (Nat.lt_succ_self _) _)
 | false =>
  simp -implicitDefEqProofs (disch := first | assumption | omega | (simp only [nxB]; omega) | (simp only [oneB])) only [s77, xlen, AV.cells, splice, aload, astore, Nat.reduceAdd, Nat.reduceLeDiff, reduceIte, allB, tyC]
  refine W_call (kis_spec hx4.rd hx4.tk 4 [59]) ?_
  rintro _ H5 ⟨rfl, p5⟩
  refine ⟨p5.1, ?_⟩
  have e5 := p5.get e4
  have g5 := p5.get g4
  have hx5 := hx4.pur p5
  have he5 := he4.pur p5
  have mb5 := mb.trans (p5.mut _)
  cases h59 : isB T e2.2 4 [59] with
  | false =>
   simp -implicitDefEqProofs (disch := first | assumption | omega | (simp only [nxB]; omega) | (simp only [oneB])) only [s77, xlen, AV.cells, splice, aload, astore, Nat.reduceAdd, Nat.reduceLeDiff, reduceIte, allB, tyC]
   simp only [Bool.false_and, cond_false]
   exact plain_end hx mb5 hx5.rd he5 (by omega) g5 e5
  | true =>
   rcases he2 : e2.1 with ⟨a, ks⟩
   rw [he2] at he5
   obtain ⟨kv, hcs, -⟩ := ExV_mk.1 he5
   simp only [AV.agg.injEq] at hcs
   subst hcs
   have e5' := e5
   simp only [Ea.cells] at e5'
   cases hk : (a.kind != 7) with
   | false =>
    simp -implicitDefEqProofs (disch := first | assumption | omega | (simp only [nxB]; omega) | (simp only [oneB])) only [s77, xlen, AV.cells, splice, aload, astore, Nat.reduceAdd, Nat.reduceLeDiff, reduceIte, allB, tyC, e5', hk]
    simp only [Ex.kind, hk, Bool.and_false, cond_false]
    exact plain_end hx mb5 hx5.rd he5 (by omega) g5 e5
   | true =>
    simp -implicitDefEqProofs (disch := first | assumption | omega | (simp only [nxB]; omega) | (simp only [oneB])) only [s77, xlen, AV.cells, splice, aload, astore, Nat.reduceAdd, Nat.reduceLeDiff, reduceIte, allB, tyC, e5', hk]
    simp only [Ex.kind, hk, Bool.and_self, cond_true]
    refine W_call (kfail_spec hx5 2) ?_
    rintro _ H6 ⟨rfl, m6, hx6⟩
    refine ⟨m6.1, ?_⟩
    exact plain_end hx (mb5.trans m6) hx6.rd (he5.mut m6 (by unfold Ge; omega) fun _ h => h) (by omega) (m6.get g5 (by omega)) (m6.get e5 (by omega))
end Go.Proofs.Ytnjoomfeddamcaa

namespace Go.Proofs.Ytnjoomfeddamcaa
open Go.Ev
theorem SlsV.append {H : AHeap} {ok : Nat → Prop} : ∀ (es : List Stm) (cs : List (List AV)) (e : Stm) (c : List AV), SlsV H ok es cs → cs.length = es.length → StV H ok e (.agg c) → SlsV H ok (es ++ [e]) (cs ++ [c])
 | [], [], e, c, _, _, h => by
  simp only [List.nil_append]
  rw [SlsV, SlsV]; exact ⟨h, trivial⟩
 | [], _ :: _, e, c, _, hl, _ => by simp at hl
 | _ :: _, [], e, c, h, _, _ => by rw [SlsV] at h; exact h.elim
 | e1 :: es, c1 :: cs, e, c, h, hl, he => by
  rw [SlsV] at h
  simp only [List.cons_append]
  rw [SlsV]
  exact ⟨h.1, SlsV.append es cs e c h.2 (by simpa using hl) he⟩
theorem un50 : P.underlying 50 = some (.slice 54) := by kernel_rfl
theorem by54 : tyBytes P 54 = some 136 := by kernel_rfl
theorem az54 : azero P 54 = some (.agg [.int .i64 0, .str [], .str [], .int .i64 0, .nilSl, .nilSl, .nilSl, .int .i64 0, .int .i64 0]) := by kernel_rfl
theorem ap50_nil {H : AHeap} {L : Nat} {cs : List AV} {cap : Option Nat} {ro : Bool} (hg : H.get L = some (.row ro 9 [cs])) : aappend P H [50, 50] .nilSl (.sl L 0 1 9 cap) = some (.sl H.next 0 1 9 none, H.push (.row false 9 [cs])) := by
 simp [aappend, un50, ts54, by54, az54, anews, aels, hg, AV.cells]
theorem ap50_sl {H : AHeap} {L l n : Nat} {cs : List AV} {els : List (List AV)} {cap : Option Nat} {ro : Bool} (hg : H.get L = some (.row ro 9 [cs])) (hl : H.get l = some (.row false 9 els)) (hn : els.length = n) (hb : n ≤ 1000000000) : aappend P H [50, 50] (.sl l 0 n 9 none) (.sl L 0 1 9 cap) = some (.sl H.next 0 (n + 1) 9 none, (H.set l .dead).push (.row false 9 (els ++ [cs]))) := by
 have h1 : (n + 1) * 136 ≤ 140737488355328 := by omega
 have h2 : n + 1 ≤ 9223372036854775807 := by omega
 simp [aappend, un50, ts54, by54, az54, anews, aels, hg, hl, AV.cells, hn, h1, h2]
 rw [List.take_of_length_le (by omega)]
theorem sl50_1 (l : Nat) (cs : List AV) (h : cs.length = 9) (ho : cs.all AV.one = true) : sliceOf P l 50 1 [(0, .agg cs)] = some (.sl l 0 1 9 (some 1), .row false 9 [cs]) := by
 simp [sliceOf, un50, ts54, az54, AV.cells, asetEls, h, ho, one_int, one_str, one_nilSl]
def BldS (n0 : Nat) (H : AHeap) (l : List Stm) (v : AV) : Prop := (v = .nilSl ∧ l = []) ∨ ∃ L els, v = .sl L 0 l.length 9 none ∧ H.get L = some (.row false 9 els) ∧ n0 ≤ L ∧ els.length = l.length ∧ SlsV H (fun k => n0 ≤ k ∧ k ≠ L) l els
theorem BldS.mut {n0 r : Nat} {H H' : AHeap} {l : List Stm} {v : AV} (h : BldS n0 H l v) (m : Mt r H H') (hr : r < n0) : BldS n0 H' l v := by
 rcases h with h | ⟨L, els, e1, e2, e3, e4, e5⟩
 ·exact .inl h
 ·exact .inr ⟨L, els, e1, m.get e2 (by omega), e3, e4, SlsV.keep (KeepS.mut m (by omega) fun _ h => h) _ _ e5⟩
theorem BldS.ss {n0 : Nat} {H : AHeap} {l : List Stm} {v : AV} (h : BldS n0 H l v) : SsV H (Ge n0) l v := by
 rcases h with ⟨rfl, rfl⟩ | ⟨L, els, e1, e2, e3, e4, e5⟩
 ·exact SsV.nil _ _
 ·exact .inr (.inl ⟨L, 0, none, false, els, e1, e3, e2, by rw [List.drop_zero]; exact SlsV.keep (KeepS.le' fun _ h => h.1) _ _ e5⟩)
theorem BldS.app {n0 m : Nat} {H : AHeap} {l : List Stm} {v : AV} (h : BldS n0 H l v) {e : Stm} {cs : List AV} (he : StV H (Ge m) e (.agg cs)) (hm : n0 ≤ m) (hv : ∀ L n c, v = .sl L 0 n 9 c → L < m) (hn : n0 ≤ H.next) (hl : l.length ≤ 1000000000) :
  ∃ v' H', aappend P (H.push (.row false 9 [cs])) [50, 50] v (.sl H.next 0 1 9 (some 1)) = some (v', H') ∧ BldS n0 H' (l ++ [e]) v' ∧ Mut (n0 ≤ ·) H H' ∧ H.next + 1 ≤ H'.next := by
 have hg := AHeap.get_push_same H (.row false 9 [cs])
 rcases h with ⟨rfl, rfl⟩ | ⟨L, els, rfl, e2, e3, e4, e5⟩
 ·refine ⟨_, _, ap50_nil hg, .inr ⟨_, [cs], rfl, AHeap.get_push_same _ _, by simp only [AHeap.next_push]; omega, rfl, ?_⟩, (((Pur.push _ _).then_push _).mut _), by simp only [AHeap.next_push]; omega⟩
  rw [List.nil_append, SlsV, SlsV]
  refine ⟨StV.keep ⟨fun k ro els hk g => ⟨⟨by unfold Ge at hk; omega, ?_⟩, ((Pur.push _ _).then_push _).get g⟩, fun k ro els hk g => ⟨⟨by unfold Ge at hk; omega, ?_⟩, ((Pur.push _ _).then_push _).get g⟩⟩ e _ he, trivial⟩
  all_goals have := AHeap.get_lt g; simp only [AHeap.next_push]; omega
 ·have hLm := hv L _ _ rfl
  have lL := AHeap.get_lt e2
  have e2' : (H.push (.row false 9 [cs])).get L = some (.row false 9 els) := (Pur.push _ _).get e2
  have kp : ∀ k b, H.get k = some b → k ≠ L → (((H.push (.row false 9 [cs])).set L .dead).push (.row false 9 (els ++ [cs]))).get k = some b := fun k b g hk => by
   have := AHeap.get_lt g
   rw [AHeap.get_push_other (by simp only [AHeap.next_set, AHeap.next_push]; omega), AHeap.get_set_other (by omega), AHeap.get_push_other (by omega)]; exact g
  refine ⟨_, _, ap50_sl hg e2' e4 hl, .inr ⟨_, els ++ [cs], by rw [List.length_append]; rfl, AHeap.get_push_same _ _, by simp only [AHeap.next_set, AHeap.next_push]; omega, by simp [e4], ?_⟩, ?_, by simp only [AHeap.next_set, AHeap.next_push]; omega⟩
  ·refine SlsV.append _ _ _ _ (SlsV.keep ⟨fun k ro es hk g => ⟨⟨hk.1, ?_⟩, kp _ _ g hk.2⟩, fun k ro es hk g => ⟨⟨hk.1, ?_⟩, kp _ _ g hk.2⟩⟩ _ _ e5) e4 (StV.keep ⟨fun k ro es hk g => ⟨⟨by unfold Ge at hk; omega, ?_⟩, kp _ _ g (by unfold Ge at hk; omega)⟩, fun k ro es hk g => ⟨⟨by unfold Ge at hk; omega, ?_⟩, kp _ _ g (by unfold Ge at hk; omega)⟩⟩ e _ he)
   all_goals have := AHeap.get_lt g; simp only [AHeap.next_set, AHeap.next_push]; omega
  ·exact (((Pur.push _ _).mut _).then_set (.inl e3) _).then_push _
def StmtOk (n : Nat) : Prop := ∀ {H : AHeap} {r : Nat} {T : List Tok} {tv : AV} {s : St}, T.length ≤ 20000000 → Ry H r T tv s → ∀ (e : Stm) (s' : St), stmtF T n s = some (e, s') → W (evw P 48 [.ptr r 0 0] H) (QostS H r T tv e s')
def BlockOk (n : Nat) : Prop := ∀ {H : AHeap} {r : Nat} {T : List Tok} {tv : AV} {s : St}, T.length ≤ 20000000 → Ry H r T tv s → ∀ (l : List Stm) (s' : St), blockF T n s = some (l, s') → W (evw P 73 [.ptr r 0 0] H) fun v H' => Mt r H H' ∧ Ry H' r T tv s' ∧ SsV H' (Ge H.next) l v
def ChooseOk (n : Nat) : Prop := ∀ {H : AHeap} {r : Nat} {T : List Tok} {tv : AV} {s : St}, T.length ≤ 20000000 → Ry H r T tv s → ∀ (e : Stm) (s' : St), chooseF T n s = some (e, s') → W (evw P 94 [.ptr r 0 0] H) (QostS H r T tv e s')
def RepeatOk (n : Nat) : Prop := ∀ {H : AHeap} {r : Nat} {T : List Tok} {tv : AV} {s : St}, T.length ≤ 20000000 → Ry H r T tv s → ∀ (e : Stm) (s' : St), repeatF T n s = some (e, s') → W (evw P 95 [.ptr r 0 0] H) (QostS H r T tv e s')
theorem until_loop {N M : Nat} (ih : ∀ k, k < N → StmtOk k) {H0 : AHeap} {r : Nat} {T : List Tok} {tv : AV} {s0 : St} (hT : T.length ≤ 20000000) (hx0 : Ry H0 r T tv s0) :
  ∀ (n m : Nat), n ≤ N → n < m → ∀ (H : AHeap) (s : St) (l : List Stm) (v : AV), Mt r H0 H → Rd5 H r tv s → l.length + n ≤ 1000000000 → BldS H0.next H l v → ∀ (l' : List Stm) (s' : St), untilF T n l s = some (l', s') →
   W (s88_l1 (evw P) M m (.ptr r 0 0) (.str [125]) (.func (.func 48) [.ptr r 0 0] []) v H) fun v H' => Mt r H0 H' ∧ Ry H' r T tv s' ∧ SsV H' (Ge H0.next) l' v
 | 0, m, hN, hm, H, s, l, v, mb, hrd, hlen, hb, l', s', h => by simp [untilF] at h
 | n + 1, 0, hN, hm, H, s, l, v, mb, hrd, hlen, hb, l', s', h => by omega
 | n + 1, m + 1, hN, hm, H, s, l, v, mb, hrd, hlen, hb, l', s', h => by
  have hl := hx0.rd.lt
  have hle := mb.1
  have hx := hx0.mut mb hrd
  simp only [untilF] at h
  simp only [s88_l1]
  rw [s88_b1]
  refine W_call (kfailed_spec hrd) ?_
  rintro _ H1 ⟨rfl, rfl⟩
  refine ⟨Nat.le_refl _, ?_⟩
  by_cases hf : s.fe = 0
  ·have hf' : (s.fe == 0) = true := by simp [hf]
   simp -implicitDefEqProofs (disch := first | assumption | omega | (simp only [nxB]; omega) | (simp only [oneB])) only [s88_b1, s88, xlen, AV.cells, splice, aload, astore, Nat.reduceAdd, Nat.reduceLeDiff, reduceIte, allB, hf, bne_self_eq_false, Bool.not_false]
   refine W_eff (kis_spec hrd hx.tk 4 [125]) ?_
   rintro _ H2 ⟨rfl, p2⟩
   refine ⟨p2.1, ?_⟩
   have hb2 := hb.mut (p2.mut (· = r)) hl
   cases hi : isB T s 4 [125] with
   | true =>
    simp only [hf', hi, Bool.not_true, Bool.and_false, cond_false, Option.some.injEq, Prod.mk.injEq] at h
    obtain ⟨rfl, rfl⟩ := h
    simp -implicitDefEqProofs (disch := first | assumption | omega | (simp only [nxB]; omega) | (simp only [oneB])) only [s88_j0, s88, xlen, AV.cells, splice, aload, astore, Nat.reduceAdd, Nat.reduceLeDiff, reduceIte, allB, Bool.not_true, Bool.not_false]
    exact W_some.2 ⟨mb.trans (p2.mut _), hx.pur p2, hb2.ss⟩
   | false =>
    simp only [hf', hi, Bool.not_false, Bool.and_self, cond_true, Option.bind_eq_some_iff] at h
    obtain ⟨⟨e1, s1⟩, h1, h2⟩ := h
    simp -implicitDefEqProofs (disch := first | assumption | omega | (simp only [nxB]; omega) | (simp only [oneB])) only [s88, xlen, AV.cells, splice, aload, astore, Nat.reduceAdd, Nat.reduceLeDiff, reduceIte, allB, xapply_fn, List.append_nil, Bool.not_true, Bool.not_false]
    refine W_call (ih n (by omega) hT (hx.pur p2) e1 s1 h1) ?_
    rintro w H3 ⟨m3, hx3, he⟩
    refine ⟨m3.1, ?_⟩
    obtain ⟨cs, rfl, c1, o1⟩ := he.cells
    have hb3 := hb2.mut m3 hl
    have n3 := m3.1
    have n2 := p2.1
    obtain ⟨v', H', ha, hb', mm, hn'⟩ := hb3.app he (by omega) (fun L k c hv => by
     rcases hb2 with ⟨q1, _⟩ | ⟨L', els, q1, q2, _⟩
     ·rw [q1] at hv; cases hv
     ·rw [q1] at hv
      cases hv
      exact AHeap.get_lt q2) (by omega) (by omega)
    have hs := fun l => sl50_1 l cs c1 o1
    simp -implicitDefEqProofs (disch := first | assumption | omega | (simp only [nxB]; omega) | (simp only [oneB])) only [s88, xlen, AV.cells, splice, aload, astore, Nat.reduceAdd, Nat.reduceLeDiff, reduceIte, allB, hs, ha, xcall_some]
    have mm' : Mt r H0 H' := ⟨by have := mb.1; omega, fun k hk hr => by
     rw [mm.2 k (by omega) (by omega)]
     exact ((mb.trans (p2.mut _)).trans m3).2 k hk hr⟩
    have hr' : Rd5 H' r tv s1 := mm.get hx3.rd (by omega)
    exact until_loop ih hT hx0 n m (by omega) (by omega) H' s1 (l ++ [e1]) v' mm' hr' (by simp only [List.length_append, List.length_cons, List.length_nil]; omega) hb' l' s' h2
  ·have hf' : (s.fe == 0) = false := by simpa using hf
   have hfn : (s.fe != 0) = true := by simpa using hf
   simp only [hf', Bool.false_and, cond_false, Option.some.injEq, Prod.mk.injEq] at h
   obtain ⟨rfl, rfl⟩ := h
   simp -implicitDefEqProofs (disch := first | assumption | omega | (simp only [nxB]; omega) | (simp only [oneB])) only [s88_j0, s88, xlen, AV.cells, splice, aload, astore, Nat.reduceAdd, Nat.reduceLeDiff, reduceIte, allB, hfn, Bool.not_true]
   exact W_some.2 ⟨mb, hx, hb.ss⟩
theorem until_spec {n : Nat} (ih : ∀ k, k < n → StmtOk k) (hn : n ≤ 1000000000) {H : AHeap} {r : Nat} {T : List Tok} {tv : AV} {s : St} (hT : T.length ≤ 20000000) (hx : Ry H r T tv s) {l : List Stm} {s' : St} (h : untilF T n [] s = some (l, s')) :
  W (evw P 88 [.ptr r 0 0, .str [125], .func (.func 48) [.ptr r 0 0] []] H) fun v H' => Mt r H H' ∧ Ry H' r T tv s' ∧ SsV H' (Ge H.next) l v := by
 refine W_of (fun _ => run88 (n + 1)) ?_
 rw [s88]
 exact until_loop ih hT hx n (n + 1) (Nat.le_refl _) (by omega) H s [] .nilSl (Mut.refl _ _) hx.rd (by simpa using hn) (.inl ⟨rfl, rfl⟩) l s' h
theorem block_step {n : Nat} (hn : n ≤ 1000000000) (ih : ∀ k, k < n → StmtOk k) : BlockOk (n + 1) := by
 intro H r T tv s hT hx l s' h
 refine W_of (fun _ => run73 0) ?_
 have hl := hx.rd.lt
 have ho1 := hx.tk.one
 rw [s73]
 refine W_call (kis_spec hx.rd hx.tk 4 [123]) ?_
 rintro _ H1 ⟨rfl, p1⟩
 refine ⟨p1.1, ?_⟩
 have hx1 := hx.pur p1
 simp only [blockF] at h
 have hr := hx1.rd
 unfold Rd5 at hr
 cases hi : isB T s 4 [123] with
 | false =>
  simp only [hi, cond_false, Option.some.injEq, Prod.mk.injEq] at h
  obtain ⟨rfl, rfl⟩ := h
  simp -implicitDefEqProofs (disch := first | assumption | omega | (simp only [nxB]; omega) | (simp only [oneB])) only [s73, xlen, AV.cells, splice, aload, astore, Nat.reduceAdd, Nat.reduceLeDiff, reduceIte, allB, Bool.not_false]
  refine W_call (kfail_spec hx1 2) ?_
  rintro _ H2 ⟨rfl, m2, hx2⟩
  refine ⟨m2.1, ?_⟩
  exact W_some.2 ⟨(p1.mut _).trans m2, hx2, SsV.nil _ _⟩
 | true =>
  simp only [hi, cond_true] at h
  by_cases h5 : 50 ≤ s.opn
  ·rw [if_pos h5] at h
   simp only [Option.some.injEq, Prod.mk.injEq] at h
   obtain ⟨rfl, rfl⟩ := h
   simp -implicitDefEqProofs (disch := first | assumption | omega | (simp only [nxB]; omega) | (simp only [oneB])) only [s73, xlen, AV.cells, splice, aload, astore, Nat.reduceAdd, Nat.reduceLeDiff, reduceIte, allB, Bool.not_true, hr, h5, decide_true]
   refine W_call (kfail_spec hx1 4) ?_
   rintro _ H2 ⟨rfl, m2, hx2⟩
   refine ⟨m2.1, ?_⟩
   exact W_some.2 ⟨(p1.mut _).trans m2, hx2, SsV.nil _ _⟩
  ·rw [if_neg h5] at h
   simp only [Option.bind_eq_some_iff] at h
   obtain ⟨⟨l1, s1⟩, h1, h2⟩ := h
   simp only [Option.some.injEq, Prod.mk.injEq] at h2
   obtain ⟨rfl, rfl⟩ := h2
   obtain ⟨m2, hd2⟩ := rset hx1.rd { s with at_ := w64 (s.at_ + 1), opn := w64 (s.opn + 1) }
   have hx2 := hx1.mut m2 hd2
   have lr1 := hx1.rd.lt
   simp -implicitDefEqProofs (disch := first | assumption | omega | (simp only [nxB]; omega) | (simp only [oneB])) only [s73, xlen, AV.cells, splice, aload, astore, Nat.reduceAdd, Nat.reduceLeDiff, reduceIte, allB, Bool.not_true, hr, h5, decide_false, ho1]
   refine W_call (until_spec ih hn hT hx2 h1) ?_
   rintro v H3 ⟨m3, hx3, hv⟩
   refine ⟨m3.1, ?_⟩
   have hr3 := hx3.rd
   have hr3' := hr3
   unfold Rd5 at hr3'
   obtain ⟨m4, hd4⟩ := rset hr3 (outS s1)
   have hx4 := hx3.mut m4 hd4
   simp -implicitDefEqProofs (disch := first | assumption | omega | (simp only [nxB]; omega) | (simp only [oneB])) only [s73, xlen, AV.cells, splice, aload, astore, Nat.reduceAdd, Nat.reduceLeDiff, reduceIte, allB, hr3', ho1, hr3.lt]
   refine W_call (kwants_spec hx4 [125]) ?_
   rintro _ H5 ⟨rfl, m5, hx5⟩
   have n1 := p1.1
   refine ⟨m5.1, ?_⟩
   exact W_some.2 ⟨((((p1.mut _).trans m2).trans m3).trans m4).trans m5, hx5, hv.keep (KeepS.mut (m4.trans m5) (by unfold Ge; simp only [AHeap.next_set]; omega) fun k hk => by unfold Ge at *; simp only [AHeap.next_set] at hk; omega)⟩
end Go.Proofs.Ytnjoomfeddamcaa

namespace Go.Proofs.Ytnjoomfeddamcaa
open Go.Ev
theorem un104 : P.underlying 104 = some (.map 9 103) := by kernel_rfl
theorem az103 : azero P 103 = some .nilFunc := by kernel_rfl
theorem mu104 {H : AHeap} {l : Nat} {es : List (AV × AV)} (k : Bs) (v : AV) (hg : H.get l = some (.map es)) (hf : afind .string (.str k) es 0 = some none) : amapUpdate P H 104 (.map l) (.str k) v = some (H.set l (.map (es ++ [(.str k, v)]))) := by
 simp only [amapUpdate, un104, un9, hg, plainKey, hf, if_true]
def stepsM : List (AV × AV) := [(.str [118, 97, 114], fn 92), (.str [108, 101, 116], fn 93), (.str [105, 102], fn 94), (.str [119, 104, 105, 108, 101], fn 95), (.str [114, 101, 116, 117, 114, 110], fn 96), (.str [112, 114, 105, 110, 116], fn 97)]
theorem steps_spec (H : AHeap) : W (evw P 78 [] H) fun v H' => v = .map H.next ∧ H' = H.push (.map stepsM) := by
 refine W_of (fun _ => run78 0) ?_
 simp only [s78, xmake_some]
 rw [mu104 _ _ (AHeap.get_push_same H _) rfl, xstore_some (by simp), AHeap.push_set]
 rw [mu104 _ _ (AHeap.get_push_same H _) rfl, xstore_some (by simp), AHeap.push_set]
 rw [mu104 _ _ (AHeap.get_push_same H _) rfl, xstore_some (by simp), AHeap.push_set]
 rw [mu104 _ _ (AHeap.get_push_same H _) rfl, xstore_some (by simp), AHeap.push_set]
 rw [mu104 _ _ (AHeap.get_push_same H _) rfl, xstore_some (by simp), AHeap.push_set]
 rw [mu104 _ _ (AHeap.get_push_same H _) rfl, xstore_some (by simp), AHeap.push_set]
 exact W_some.2 ⟨rfl, rfl⟩
theorem lk104 {H : AHeap} {l : Nat} (t : Bs) (hg : H.get l = some (.map stepsM)) : alookup P H 104 (.map l) (.str t) false = some (lookM t stepsM) := by
 rcases afind_look t stepsM 0 (by intro e he; simp [stepsM] at he; rcases he with rfl | rfl | rfl | rfl | rfl | rfl <;> exact ⟨_, rfl⟩) with ⟨j, v, h1, h2⟩ | ⟨h1, h2⟩
 ·simp only [alookup, un104, un9, az103, plainKey, if_true, hg, h1, h2, Bool.false_eq_true, if_false]
 ·simp only [alookup, un104, un9, az103, plainKey, if_true, hg, h1, h2, Bool.false_eq_true, if_false]
theorem nf103 (n : Nat) : fbin P .neq 103 true (fn n) .nilFunc = some (.bool true) := by kernel_rfl
theorem nf103n : fbin P .neq 103 true .nilFunc .nilFunc = some (.bool false) := by kernel_rfl
theorem stmt_end {H0 H : AHeap} {r : Nat} {T : List Tok} {tv : AV} {s0 s : St} (hx0 : Ry H0 r T tv s0) (mb : Mt r H0 H) (hrd : Rd5 H r tv s) {k b : Nat} {e : Stm} {s' : St} {q1 q3 q4 : Int} {q2 : Bs} (hc : ∀ Hc, Ry Hc r T tv s → W (evw P k [.ptr r 0 0] Hc) (QostS Hc r T tv e s'))
  (g2 : H.get H0.next = some (.row false 9 [[.int .i64 0, .str [], .str [], .int .i64 0, .nilSl, .nilSl, .nilSl, .int .i64 0, .int .i64 0]])) (g3 : H.get b = some (.row false 4 [[.int .i64 q1, .str q2, .int .i64 q3, .int .i64 q4]])) (hb : H0.next ≤ b) :
  W (s48_j0 (evw P) (.ptr r 0 0) (.ptr H0.next 0 0) (.ptr b 0 0) (fn k) H) (QostS H0 r T tv (e.at q4) s') := by
 have hl := hx0.rd.lt
 have lg := AHeap.get_lt g2
 rw [s48_j0]
 simp only [fn, xapply_fn, List.nil_append, List.append_nil]
 refine W_call (hc H (hx0.mut mb hrd)) ?_
 rintro v H1 ⟨m1, hx1, he⟩
 refine ⟨m1.1, ?_⟩
 have h2 := m1.get g2 (by omega)
 have h3 := m1.get g3 (by omega)
 have l2 := AHeap.get_lt h2
 have l3 := AHeap.get_lt h3
 cases e with | mk a es b1 c1 =>
 obtain ⟨ev, bv, cv, rfl, k1, k2, k3⟩ := StV_mk.1 he
 have o1 := k1.oneAV
 have o2 := k2.oneAV
 have o3 := k3.oneAV
 simp -implicitDefEqProofs (disch := first | assumption | omega | (simp only [nxB]; omega) | (simp only [oneB])) only [s48, xlen, AV.cells, splice, aload, astore, Nat.reduceAdd, Nat.reduceLeDiff, reduceIte, allB, tyC, Sa.cells, o1, o2, o3, h2, h3]
 have kp : ∀ blk, KeepS H1 (Ge H.next) (H1.push blk) (Ge (H0.next + 1)) := fun blk => KeepS.pur (Pur.push _ _) fun l hl => by unfold Ge at *; omega
 exact W_some.2 (QostS.fin (a := { a with pos := q4 }) hx0 ((mb.trans m1).then_push _) (hx1.rd.pur (Pur.push _ _)) (k1.keep (kp _).ex) (k2.keep (kp _)) (k3.keep (kp _)) (Nat.le_refl _) (Nat.lt_succ_self _) _)
theorem stmt_step {n : Nat} (ihC : ChooseOk n) (ihR : RepeatOk n) : StmtOk (n + 1) := by
 intro H r T tv s hT hx e s' h
 refine W_of (fun _ => run48 0) ?_
 have hl := hx.rd.lt
 have ho1 := hx.tk.one
 have p1 := Pur.push H (.row false 9 [[.int .i64 0, .str [], .str [], .int .i64 0, .nilSl, .nilSl, .nilSl, .int .i64 0, .int .i64 0]])
 simp -implicitDefEqProofs (disch := first | assumption | omega | (simp only [nxB]; omega) | (simp only [oneB])) only [s48, xlen, AV.cells, splice, aload, astore, Nat.reduceAdd, Nat.reduceLeDiff, reduceIte, allB, tyC]
 refine W_call (ktok_spec (hx.rd.pur p1) (hx.tk.pur p1)) ?_
 rintro _ H2 ⟨rfl, p2⟩
 refine ⟨p2.1, ?_⟩
 have n2 := p2.1
 simp only [AHeap.next_push] at n2
 have p3 := (p1.trans p2).then_push (.row false 4 [[.int .i64 (tokAt T s.at_).kind, .str (tokAt T s.at_).text, .int .i64 (tokAt T s.at_).n, .int .i64 (tokAt T s.at_).pos]])
 have g2 := (Pur.push H2 (.row false 4 [[.int .i64 (tokAt T s.at_).kind, .str (tokAt T s.at_).text, .int .i64 (tokAt T s.at_).n, .int .i64 (tokAt T s.at_).pos]])).get (p2.get (AHeap.get_push_same H (.row false 9 [[.int .i64 0, .str [], .str [], .int .i64 0, .nilSl, .nilSl, .nilSl, .int .i64 0, .int .i64 0]])))
 have g3 := AHeap.get_push_same H2 (.row false 4 [[.int .i64 (tokAt T s.at_).kind, .str (tokAt T s.at_).text, .int .i64 (tokAt T s.at_).n, .int .i64 (tokAt T s.at_).pos]])
 have hx3 := hx.pur p3
 simp only [stmtF, Option.bind_eq_some_iff] at h
 obtain ⟨⟨e1, s1⟩, h1, h2⟩ := h
 simp only [Option.some.injEq, Prod.mk.injEq] at h2
 obtain ⟨rfl, rfl⟩ := h2
 cases hk : ((tokAt T s.at_).kind == 3) with
 | false =>
  simp only [hk, cond_false, Option.some.injEq] at h1
  simp -implicitDefEqProofs (disch := first | assumption | omega | (simp only [nxB]; omega) | (simp only [oneB])) only [s48, xlen, AV.cells, splice, aload, astore, Nat.reduceAdd, Nat.reduceLeDiff, reduceIte, allB, tyC, Tok.v, hk]
  refine stmt_end hx (p3.mut _) hx3.rd (k := 77) (fun Hc hc => ?_) g2 g3 (by omega)
  have := kplain_spec hT hc
  rw [h1] at this; exact this
 | true =>
  simp only [hk, cond_true] at h1
  simp -implicitDefEqProofs (disch := first | assumption | omega | (simp only [nxB]; omega) | (simp only [oneB])) only [s48, xlen, AV.cells, splice, aload, astore, Nat.reduceAdd, Nat.reduceLeDiff, reduceIte, allB, tyC, Tok.v, hk]
  refine W_call (steps_spec _) ?_
  rintro _ H5 ⟨rfl, rfl⟩
  refine ⟨(Pur.push _ _).1, ?_⟩
  have p5 := Pur.push (H2.push (.row false 4 [[.int .i64 (tokAt T s.at_).kind, .str (tokAt T s.at_).text, .int .i64 (tokAt T s.at_).n, .int .i64 (tokAt T s.at_).pos]])) (.map stepsM)
  have hlook := lk104 (tokAt T s.at_).text (AHeap.get_push_same (H2.push (.row false 4 [[.int .i64 (tokAt T s.at_).kind, .str (tokAt T s.at_).text, .int .i64 (tokAt T s.at_).n, .int .i64 (tokAt T s.at_).pos]])) (.map stepsM))
  have hx5 := hx3.pur p5
  have g25 := p5.get g2
  have g35 := p5.get g3
  have m5 := (p3.trans p5).mut (· = r)
  have hr5 := hx5.rd
  unfold Rd5 at hr5
  have lr5 := hx5.rd.lt
  simp only [AHeap.next_push] at hlook
  have key : (∃ k, lookM (tokAt T s.at_).text stepsM = fn k ∧ ∀ Hc, Ry Hc r T tv (goS s) → W (evw P k [.ptr r 0 0] Hc) (QostS Hc r T tv e1 s1)) ∨ (lookM (tokAt T s.at_).text stepsM = .nilFunc ∧ plainS T s = (e1, s1)) := by
   by_cases t1 : (tokAt T s.at_).text = [118, 97, 114]
   ·have h1' : some (declS T (goS s)) = some (e1, s1) := by rw [← h1]; simp [t1]
    refine .inl ⟨92, by rw [t1]; rfl, fun Hc hc => ?_⟩
    have := kdecl_spec hc
    rw [Option.some.inj h1'] at this; exact this
   by_cases t2 : (tokAt T s.at_).text = [108, 101, 116]
   ·have h1' : some (letsS T (goS s)) = some (e1, s1) := by rw [← h1]; simp [t2]
    refine .inl ⟨93, by rw [t2]; rfl, fun Hc hc => ?_⟩
    have := klets_spec hT hc
    rw [Option.some.inj h1'] at this; exact this
   by_cases t3 : (tokAt T s.at_).text = [105, 102]
   ·have h1' : chooseF T n (goS s) = some (e1, s1) := by rw [← h1]; simp [t3]
    exact .inl ⟨94, by rw [t3]; rfl, fun Hc hc => ihC hT hc _ _ h1'⟩
   by_cases t4 : (tokAt T s.at_).text = [119, 104, 105, 108, 101]
   ·have h1' : repeatF T n (goS s) = some (e1, s1) := by rw [← h1]; simp [t4]
    exact .inl ⟨95, by rw [t4]; rfl, fun Hc hc => ihR hT hc _ _ h1'⟩
   by_cases t5 : (tokAt T s.at_).text = [114, 101, 116, 117, 114, 110]
   ·have h1' : some (retsS T (goS s)) = some (e1, s1) := by rw [← h1]; simp [t5]
    refine .inl ⟨96, by rw [t5]; rfl, fun Hc hc => ?_⟩
    have := krets_spec hT hc
    rw [Option.some.inj h1'] at this; exact this
   by_cases t6 : (tokAt T s.at_).text = [112, 114, 105, 110, 116]
   ·have h1' : some (printS T (goS s)) = some (e1, s1) := by rw [← h1]; simp [t6]
    refine .inl ⟨97, by rw [t6]; rfl, fun Hc hc => ?_⟩
    have := kprint_spec hT hc
    rw [Option.some.inj h1'] at this; exact this
   have h1' : some (plainS T s) = some (e1, s1) := by rw [← h1]; simp [bnf t1, bnf t2, bnf t3, bnf t4, bnf t5, bnf t6]
   exact .inr ⟨by simp [lookM, stepsM, bnf t1, bnf t2, bnf t3, bnf t4, bnf t5, bnf t6], Option.some.inj h1'⟩
  rcases key with ⟨k, hlk, hc⟩ | ⟨hlk, hpl⟩
  ·obtain ⟨m6, hd6⟩ := rset hx5.rd (goS s)
   simp -implicitDefEqProofs (disch := first | assumption | omega | (simp only [nxB]; omega) | (simp only [oneB])) only [s48, xlen, AV.cells, splice, aload, astore, Nat.reduceAdd, Nat.reduceLeDiff, reduceIte, allB, tyC, g35, hlook, hlk, nf103, Bool.and_self, hr5, ho1]
   exact stmt_end hx (m5.trans m6) hd6 hc (m6.get g25 (by omega)) (m6.get g35 (by omega)) (by omega)
  ·simp -implicitDefEqProofs (disch := first | assumption | omega | (simp only [nxB]; omega) | (simp only [oneB])) only [s48, xlen, AV.cells, splice, aload, astore, Nat.reduceAdd, Nat.reduceLeDiff, reduceIte, allB, tyC, g35, hlook, hlk, nf103n, Bool.and_self]
   refine stmt_end hx m5 hx5.rd (k := 77) (fun Hc hc => ?_) g25 g35 (by omega)
   have := kplain_spec hT hc
   rw [hpl] at this; exact this
theorem choose_end {H0 H : AHeap} {r : Nat} {T : List Tok} {tv : AV} {s0 s : St} (hx0 : Ry H0 r T tv s0) (mb : Mt r H0 H) (hrd : Rd5 H r tv s) {b lo : Nat} {a : Sa} {es : List Ex} {b1 c1 : List Stm} {ev bv cv : AV} (h1 : KsV H (Ge lo) es ev) (h2 : SsV H (Ge lo) b1 bv) (h3 : SsV H (Ge lo) c1 cv) (hlo : H0.next < lo)
  (g2 : H.get H0.next = some (.row false 9 [[.int .i64 0, .str [], .str [], .int .i64 0, .nilSl, .nilSl, .nilSl, .int .i64 0, .int .i64 0]])) (g3 : H.get b = some (.row false 9 [a.cells ev bv cv])) : W (s94_j0 (evw P) (.ptr H0.next 0 0) (.ptr b 0 0) H) (QostS H0 r T tv (.mk a es b1 c1) s) := by
 have o1 := h1.oneAV
 have o2 := h2.oneAV
 have o3 := h3.oneAV
 have l2 := AHeap.get_lt g2
 simp only [Sa.cells] at g3
 simp -implicitDefEqProofs (disch := first | assumption | omega | (simp only [nxB]; omega) | (simp only [oneB])) only [s94_j0, xlen, AV.cells, splice, aload, astore, Nat.reduceAdd, Nat.reduceLeDiff, reduceIte, allB, tyC, g2, g3, o1, o2, o3]
 exact W_some.2 (QostS.fin (a := a) hx0 mb hrd h1 h2 h3 (Nat.le_refl _) hlo _)
theorem choose_step {n : Nat} (ih : BlockOk n) : ChooseOk (n + 1) := by
 intro H r T tv s hT hx e s' h
 refine W_of (fun _ => run94 0) ?_
 have hl := hx.rd.lt
 have p1 := Pur.push H (.row false 9 [[.int .i64 0, .str [], .str [], .int .i64 0, .nilSl, .nilSl, .nilSl, .int .i64 0, .int .i64 0]])
 simp only [chooseF, Option.bind_eq_some_iff] at h
 obtain ⟨⟨b1, s1⟩, hb1, h2⟩ := h
 simp -implicitDefEqProofs (disch := first | assumption | omega | (simp only [nxB]; omega) | (simp only [oneB])) only [s94, xlen, AV.cells, splice, aload, astore, Nat.reduceAdd, Nat.reduceLeDiff, reduceIte, allB, tyC]
 refine W_call (kexpr_spec hT (hx.pur p1)) ?_
 rintro v H2 ⟨m2, hx2, he⟩
 refine ⟨m2.1, ?_⟩
 have n2 := m2.1
 simp only [AHeap.next_push] at n2
 obtain ⟨cs, rfl, c1, o1⟩ := he.cells
 generalize exprP T s = e2 at hx2 he hb1 h2 ⊢
 have hs : ∀ l, sliceOf P l 35 1 [(0, .agg cs)] = some (.sl l 0 1 11 (some 1), .row false 11 [cs]) := fun l => sl35_1 l cs c1 o1
 have g2 := m2.get (AHeap.get_push_same H (.row false 9 [[.int .i64 0, .str [], .str [], .int .i64 0, .nilSl, .nilSl, .nilSl, .int .i64 0, .int .i64 0]])) (by omega)
 simp -implicitDefEqProofs (disch := first | assumption | omega | (simp only [nxB]; omega) | (simp only [oneB])) only [s94, xlen, AV.cells, splice, aload, astore, Nat.reduceAdd, Nat.reduceLeDiff, reduceIte, allB, tyC, hs]
 have p3 := Pur.push H2 (.row false 11 [cs])
 refine W_call (ih hT (hx2.pur p3) b1 s1 hb1) ?_
 rintro bv H4 ⟨m4, hx4, hbv⟩
 refine ⟨m4.1, ?_⟩
 have n4 := m4.1
 simp only [AHeap.next_push] at n4
 have lr2 := hx2.rd.lt
 have he' : ExV H2 (Ge (H.next + 1)) e2.1 (.agg cs) := by simpa only [AHeap.next_push] using he
 have hkv : KsV H4 (Ge (H.next + 1)) [e2.1] (.sl H2.next 0 1 11 (some 1)) := (KsV.made (r := r) he' (Mut.refl _ H2) (by omega) (lo := H.next + 1) (by omega) (by omega)).keep (Keep.mut m4 (by unfold Ge; omega) fun _ h => h)
 have hbv4 : SsV H4 (Ge (H.next + 1)) b1 bv := hbv.keep (KeepS.le' fun k hk => by unfold Ge at *; simp only [AHeap.next_push] at hk; omega)
 have ob := hbv4.oneAV
 have hbd : abuild P 54 [(0, .int .i64 5), (3, .sl H2.next 0 1 11 (some 1)), (4, bv)] = some (.agg (Sa.cells { kind := 5 } (.sl H2.next 0 1 11 (some 1)) bv .nilSl)) := by
  rcases hbv4 with ⟨rfl, _⟩ | ⟨l, i, cap, ro, els, rfl, _⟩ | ⟨l, i, cap, rfl, _⟩ <;> kernel_rfl
 have g4 := m4.get (p3.get g2) (by omega)
 have mb := (((p1.mut (· = r)).trans m2).then_push (.row false 11 [cs])).trans m4
 simp only [Sa.cells] at hbd
 simp -implicitDefEqProofs (disch := first | assumption | omega | (simp only [nxB]; omega) | (simp only [oneB])) only [s94, xlen, AV.cells, splice, aload, astore, Nat.reduceAdd, Nat.reduceLeDiff, reduceIte, allB, tyC, hbd, ob]
 have p5 := Pur.push H4 (.row false 9 [Sa.cells { kind := 5 } (.sl H2.next 0 1 11 (some 1)) bv .nilSl])
 refine W_call (ktakes_spec (hx4.pur p5) 3 [101, 108, 115, 101]) ?_
 rintro _ H6 ⟨rfl, m6, hx6⟩
 refine ⟨m6.1, ?_⟩
 have lr4 := hx4.rd.lt
 have l4 := AHeap.get_lt g4
 have g6 := m6.get (p5.get g4) (by omega)
 have q6 := m6.get (AHeap.get_push_same H4 (.row false 9 [Sa.cells { kind := 5 } (.sl H2.next 0 1 11 (some 1)) bv .nilSl])) (by omega)
 have mb6 := (mb.then_push (.row false 9 [Sa.cells { kind := 5 } (.sl H2.next 0 1 11 (some 1)) bv .nilSl])).trans m6
 have k6 : KeepS H4 (Ge (H.next + 1)) H6 (Ge (H.next + 1)) := KeepS.mut ((p5.mut _).trans m6) (by unfold Ge; omega) fun _ h => h
 cases hi : isB T s1 3 [101, 108, 115, 101] with
 | false =>
  rw [show takesS T 3 [101, 108, 115, 101] s1 = (false, s1) by simp [takesS, hi]] at hx6 ⊢
  simp only [hi, cond_false, Option.some.injEq, Prod.mk.injEq] at h2
  obtain ⟨rfl, rfl⟩ := h2
  simp -implicitDefEqProofs (disch := first | assumption | omega | (simp only [nxB]; omega) | (simp only [oneB])) only [s94, xlen, AV.cells, splice, aload, astore, Nat.reduceAdd, Nat.reduceLeDiff, reduceIte, allB, tyC]
  exact choose_end hx mb6 hx6.rd (hkv.keep k6.ex) (hbv4.keep k6) (SsV.nil _ _) (by omega) g6 q6
 | true =>
  rw [show takesS T 3 [101, 108, 115, 101] s1 = (true, goS s1) by simp [takesS, hi]] at hx6 ⊢
  simp only [hi, cond_true, Option.bind_eq_some_iff] at h2
  obtain ⟨⟨b2, s2⟩, hb2, h3⟩ := h2
  simp only [Option.some.injEq, Prod.mk.injEq] at h3
  obtain ⟨rfl, rfl⟩ := h3
  simp -implicitDefEqProofs (disch := first | assumption | omega | (simp only [nxB]; omega) | (simp only [oneB])) only [s94, xlen, AV.cells, splice, aload, astore, Nat.reduceAdd, Nat.reduceLeDiff, reduceIte, allB, tyC]
  refine W_call (ih hT hx6 b2 s2 hb2) ?_
  rintro cv H8 ⟨m8, hx8, hcv⟩
  refine ⟨m8.1, ?_⟩
  have lr6 := hx6.rd.lt
  have l6 := AHeap.get_lt q6
  have g8 := m8.get g6 (by omega)
  have q8 := m8.get q6 (by omega)
  have lq8 := AHeap.get_lt q8
  have n6 := m6.1
  simp only [AHeap.next_push] at n6
  have k8 := m8.1
  have oc := hcv.oneAV
  have q8' := q8
  simp only [Sa.cells] at q8'
  have h468 : KeepS H4 (Ge (H.next + 1)) H8 (Ge (H.next + 1)) := KeepS.mut (((p5.mut _).trans m6).trans m8) (by unfold Ge; omega) fun _ h => h
  have hkv8 := hkv.keep h468.ex
  have hbv8 := hbv4.keep h468
  have hst : astore P H8 50 (.ptr H4.next 0 6) cv = some (H8.set H4.next (.row false 9 [Sa.cells { kind := 5 } (.sl H2.next 0 1 11 (some 1)) bv cv])) := by
   rw [st_any ts50 q8 rfl (by rw [cells_one oc]; rfl) (by rw [cells_one oc, List.all_cons, oc]; rfl) (by decide), cells_one oc]; rfl
  simp -implicitDefEqProofs (disch := first | assumption | omega | (simp only [nxB]; omega) | (simp only [oneB])) only [s94, xlen, evB, tabB, Nat.zero_add]
  rw [hst, xstore_some (by simp only [AHeap.next_set]; omega)]
  have kf : ∀ blk, KeepS H8 (fun l => H.next + 1 ≤ l ∧ l ≠ H4.next) (H8.set H4.next blk) (Ge (H.next + 1)) := fun blk => KeepS.set _ (by simp) fun l h => h.1
  have h4k : KeepS H4 (fun l => H.next + 1 ≤ l ∧ l < H4.next) H8 (fun l => H.next + 1 ≤ l ∧ l ≠ H4.next) := KeepS.mut (((p5.mut _).trans m6).trans m8) (by omega) fun l h => ⟨h.1, by omega⟩
  have hb4 : KeepS H4 (Ge (H.next + 1)) H4 (fun l => H.next + 1 ≤ l ∧ l < H4.next) := ⟨fun l ro els h g => ⟨⟨h, AHeap.get_lt g⟩, g⟩, fun l ro els h g => ⟨⟨h, AHeap.get_lt g⟩, g⟩⟩
  refine choose_end hx (H := H8.set H4.next (.row false 9 [Sa.cells { kind := 5 } (.sl H2.next 0 1 11 (some 1)) bv cv])) ((mb6.trans m8).then_set (.inr (by omega)) _) ?_ (((hkv.keep hb4.ex).keep h4k.ex).keep (kf _).ex) (((hbv4.keep hb4).keep h4k).keep (kf _)) ((hcv.keep (KeepS.le' (ok' := fun l => H.next + 1 ≤ l ∧ l ≠ H4.next) fun k hk => by unfold Ge at hk; omega)).keep (kf _)) (Nat.lt_succ_self _) ?_ (AHeap.get_set_same lq8)
  ·have hr8 := hx8.rd
   unfold Rd5 at hr8 ⊢
   rw [AHeap.get_set_other (by omega)]; exact hr8
  ·rw [AHeap.get_set_other (by omega)]; exact g8
theorem repeat_step {n : Nat} (ih : BlockOk n) : RepeatOk (n + 1) := by
 intro H r T tv s hT hx e s' h
 refine W_of (fun _ => run95 0) ?_
 have hl := hx.rd.lt
 have p1 := Pur.push H (.row false 9 [[.int .i64 0, .str [], .str [], .int .i64 0, .nilSl, .nilSl, .nilSl, .int .i64 0, .int .i64 0]])
 simp only [repeatF, Option.bind_eq_some_iff] at h
 obtain ⟨⟨b1, s1⟩, hb1, h2⟩ := h
 simp only [Option.some.injEq, Prod.mk.injEq] at h2
 obtain ⟨rfl, rfl⟩ := h2
 simp -implicitDefEqProofs (disch := first | assumption | omega | (simp only [nxB]; omega) | (simp only [oneB])) only [s95, xlen, AV.cells, splice, aload, astore, Nat.reduceAdd, Nat.reduceLeDiff, reduceIte, allB, tyC]
 refine W_call (kexpr_spec hT (hx.pur p1)) ?_
 rintro v H2 ⟨m2, hx2, he⟩
 refine ⟨m2.1, ?_⟩
 have n2 := m2.1
 simp only [AHeap.next_push] at n2
 obtain ⟨cs, rfl, c1, o1⟩ := he.cells
 generalize exprP T s = e2 at hx2 he hb1 ⊢
 have hs : ∀ l, sliceOf P l 35 1 [(0, .agg cs)] = some (.sl l 0 1 11 (some 1), .row false 11 [cs]) := fun l => sl35_1 l cs c1 o1
 have g2 := m2.get (AHeap.get_push_same H (.row false 9 [[.int .i64 0, .str [], .str [], .int .i64 0, .nilSl, .nilSl, .nilSl, .int .i64 0, .int .i64 0]])) (by omega)
 simp -implicitDefEqProofs (disch := first | assumption | omega | (simp only [nxB]; omega) | (simp only [oneB])) only [s95, xlen, AV.cells, splice, aload, astore, Nat.reduceAdd, Nat.reduceLeDiff, reduceIte, allB, tyC, hs]
 have p3 := Pur.push H2 (.row false 11 [cs])
 refine W_call (ih hT (hx2.pur p3) b1 s1 hb1) ?_
 rintro bv H4 ⟨m4, hx4, hbv⟩
 refine ⟨m4.1, ?_⟩
 have n4 := m4.1
 simp only [AHeap.next_push] at n4
 have lr2 := hx2.rd.lt
 have he' : ExV H2 (Ge (H.next + 1)) e2.1 (.agg cs) := by simpa only [AHeap.next_push] using he
 have hkv : KsV H4 (Ge (H.next + 1)) [e2.1] (.sl H2.next 0 1 11 (some 1)) := (KsV.made (r := r) he' (Mut.refl _ H2) (by omega) (lo := H.next + 1) (by omega) (by omega)).keep (Keep.mut m4 (by unfold Ge; omega) fun _ h => h)
 have hbv4 : SsV H4 (Ge (H.next + 1)) b1 bv := hbv.keep (KeepS.le' fun k hk => by unfold Ge at *; simp only [AHeap.next_push] at hk; omega)
 have ob := hbv4.oneAV
 have hbd : abuild P 54 [(0, .int .i64 6), (3, .sl H2.next 0 1 11 (some 1)), (4, bv)] = some (.agg (Sa.cells { kind := 6 } (.sl H2.next 0 1 11 (some 1)) bv .nilSl)) := by
  rcases hbv4 with ⟨rfl, _⟩ | ⟨l, i, cap, ro, els, rfl, _⟩ | ⟨l, i, cap, rfl, _⟩ <;> kernel_rfl
 have g4 := m4.get (p3.get g2) (by omega)
 have l4 := AHeap.get_lt g4
 simp only [Sa.cells] at hbd
 simp -implicitDefEqProofs (disch := first | assumption | omega | (simp only [nxB]; omega) | (simp only [oneB])) only [s95, xlen, AV.cells, splice, aload, astore, Nat.reduceAdd, Nat.reduceLeDiff, reduceIte, allB, tyC, hbd, ob, g4]
 exact W_some.2 (QostS.fin (a := { kind := 6 }) hx ((((p1.mut _).trans m2).then_push _).trans m4) hx4.rd hkv hbv4 (SsV.nil _ _) (Nat.le_refl _) (Nat.lt_succ_self _) _)
structure AllK (n : Nat) : Prop where
 stmt : StmtOk n
 block : BlockOk n
 choose : ChooseOk n
 rep : RepeatOk n
theorem allK : ∀ n, n ≤ 900000000 → AllK n := by
 intro n
 induction n using Nat.strongRecOn with
 | _ n ih =>
  intro hn
  cases n with
  | zero => exact ⟨fun _ _ _ _ h => by simp [stmtF] at h, fun _ _ _ _ h => by simp [blockF] at h, fun _ _ _ _ h => by simp [chooseF] at h, fun _ _ _ _ h => by simp [repeatF] at h⟩
  | succ n =>
   have i := ih n (by omega) (by omega)
   exact ⟨stmt_step i.choose i.rep, block_step (by omega) fun k hk => (ih k (by omega) (by omega)).stmt, choose_step i.block, repeat_step i.block⟩
end Go.Proofs.Ytnjoomfeddamcaa

namespace Go.Proofs.Ytnjoomfeddamcaa
open Go.Ev
theorem bd85_3 (tv : AV) (h1 : tv.one = true) (a b : Int) : abuild P 85 [(0, tv), (1, .int .i64 a), (2, .int .i64 b)] = some (.agg [tv, .int .i64 a, .int .i64 b, .int .i64 0, .int .i64 0]) := by
 cases tv <;> first | (cases h1; done) | kernel_rfl
theorem kstmt_spec {n : Nat} (hn : n ≤ 900000000) {H : AHeap} {T : List Tok} {tv : AV} (hT : T.length ≤ 20000000) (ht : TokSl H tv T) (at_ opn : Int) {e : Stm} {s' : St} (h : stmtF T n (startS at_ opn) = some (e, s')) :
  W (evw P 28 [tv, .int .i64 at_, .int .i64 opn] H) fun v H' => ∃ ev, v = .tuple [ev, .int .i64 (parseM e s').2.1, .agg [.int .i64 (parseM e s').2.2.1, .int .i64 (parseM e s').2.2.2]] ∧ StV H' (Ge H.next) (parseM e s').1 ev ∧ Pur H H' := by
 refine W_of (fun _ => run28 0) ?_
 have ho1 := ht.one
 have p1 := (Pur.push H (.row false 9 [[.int .i64 0, .str [], .str [], .int .i64 0, .nilSl, .nilSl, .nilSl, .int .i64 0, .int .i64 0]])).then_push (.row false 2 [[.int .i64 0, .int .i64 0]])
 have hbd := bd85_3 tv ho1 at_ (if opn < 0 then 0 else opn)
 have hbx : ∀ l, boxOf l (.agg [tv, .int .i64 at_, .int .i64 (if opn < 0 then 0 else opn), .int .i64 0, .int .i64 0]) = some (.ptr l 0 0, .row false 5 [[tv, .int .i64 at_, .int .i64 (if opn < 0 then 0 else opn), .int .i64 0, .int .i64 0]]) := fun l => boxOf_agg l _ (by simp only [List.all_cons, List.all_nil, one_int, ho1, Bool.and_self])
 simp -implicitDefEqProofs (disch := first | assumption | omega | (simp only [nxB]; omega) | (simp only [oneB])) only [s28, xlen, AV.cells, splice, aload, astore, Nat.reduceAdd, Nat.reduceLeDiff, reduceIte, allB, tyC, mx3, hbd, hbx]
 have hn3 : ((H.push (.row false 9 [[.int .i64 0, .str [], .str [], .int .i64 0, .nilSl, .nilSl, .nilSl, .int .i64 0, .int .i64 0]])).push (.row false 2 [[.int .i64 0, .int .i64 0]])).next = H.next + 2 := by simp only [AHeap.next_push]
 have hb6 : ((H.push (.row false 9 [[.int .i64 0, .str [], .str [], .int .i64 0, .nilSl, .nilSl, .nilSl, .int .i64 0, .int .i64 0]])).push (.row false 2 [[.int .i64 0, .int .i64 0]])).get H.next = some (.row false 9 [[.int .i64 0, .str [], .str [], .int .i64 0, .nilSl, .nilSl, .nilSl, .int .i64 0, .int .i64 0]]) := by simp -implicitDefEqProofs (disch := first | assumption | omega | (simp only [nxB]; omega) | (simp only [oneB])) only [heapB]
 have hb8 : ((H.push (.row false 9 [[.int .i64 0, .str [], .str [], .int .i64 0, .nilSl, .nilSl, .nilSl, .int .i64 0, .int .i64 0]])).push (.row false 2 [[.int .i64 0, .int .i64 0]])).get (H.next + 1) = some (.row false 2 [[.int .i64 0, .int .i64 0]]) := by simp -implicitDefEqProofs (disch := first | assumption | omega | (simp only [nxB]; omega) | (simp only [oneB])) only [heapB]
 rw [← hn3]
 generalize (H.push (.row false 9 [[.int .i64 0, .str [], .str [], .int .i64 0, .nilSl, .nilSl, .nilSl, .int .i64 0, .int .i64 0]])).push (.row false 2 [[.int .i64 0, .int .i64 0]]) = H3 at p1 hb6 hb8 hn3 ⊢
 have p4 := Pur.push H3 (.row false 5 [[tv, .int .i64 at_, .int .i64 (if opn < 0 then 0 else opn), .int .i64 0, .int .i64 0]])
 have p5 := p1.trans p4
 have hx4 : Ry (H3.push (.row false 5 [[tv, .int .i64 at_, .int .i64 (if opn < 0 then 0 else opn), .int .i64 0, .int .i64 0]])) H3.next T tv (startS at_ opn) :=
  ⟨AHeap.get_push_same _ _, ht.pur p5⟩
 refine W_call ((allK n hn).stmt hT hx4 e s' h) ?_
 rintro v H5 ⟨m5, hx5, he5⟩
 refine ⟨m5.1, ?_⟩
 have hm5 := m5.1
 simp only [AHeap.next_push] at hm5 he5
 obtain ⟨cs, rfl, hlen, hone⟩ := he5.cells
 have htk : List.take 9 cs = cs := List.take_of_length_le (by omega)
 simp -implicitDefEqProofs (disch := first | assumption | omega | (simp only [nxB]; omega) | (simp only [oneB])) only [s28, xlen, AV.cells, splice, aload, astore, Nat.reduceAdd, Nat.reduceLeDiff, reduceIte, allB, tyC, hlen, hone, List.append_nil]
 have p6 := Pur.push H5 (.row false 9 [cs])
 refine W_call (kfailed_spec (hx5.rd.pur p6)) ?_
 rintro _ H8 ⟨rfl, rfl⟩
 refine ⟨Nat.le_refl _, ?_⟩
 have hr := hx5.rd.pur p6
 unfold Rd5 at hr
 have hr5 := hx5.rd
 unfold Rd5 at hr5
 have hb65 := m5.get (p4.get hb6) (by omega)
 have hb85 := m5.get (p4.get hb8) (by omega)
 have l6 := AHeap.get_lt hb65
 have l8 := AHeap.get_lt hb85
 have pf : Pur H H5 := ⟨by have := p5.1; simp only [AHeap.next_push] at this; omega, fun l hl => by rw [m5.2 l (by simp only [AHeap.next_push]; omega) (by omega)]; exact p5.2 l hl⟩
 by_cases hf : s'.fe = 0
 ·have hf' : (s'.fe != 0) = false := by simpa using hf
  rw [show parseM e s' = (e, s'.at_, 0, 0) by simp [parseM, hf]]
  simp -implicitDefEqProofs (disch := first | assumption | omega | (simp only [nxB]; omega) | (simp only [oneB])) only [s28, xlen, AV.cells, splice, aload, astore, Nat.reduceAdd, Nat.reduceLeDiff, reduceIte, allB, tyC, hf', hr, hr5, hb65, hb85, hlen, hone, List.append_nil, htk, Bool.and_true]
  refine W_some.2 ⟨_, rfl, ?_, ?_⟩
  ·exact StV.keep (KeepS.new (Mut.then_set (S := fun l => l < _) (Mut.then_set (S := fun l => l < _) ((Mut.refl _ _).then_push _) (.inl (by omega)) _) (.inl (by omega)) _) fun l h => by unfold Ge; omega) _ _ he5
  ·exact ((pf.then_push _).then_set (Nat.le_refl _) _).then_set (by omega) _
 ·have hf' : (s'.fe != 0) = true := by simpa using hf
  rw [show parseM e s' = (.zero, 0, s'.fe, s'.fa) by simp [parseM, hf]]
  have hrd25 : rdIs (some (.agg [.int .i64 s'.fe, .int .i64 s'.fa])) (.agg [.int .i64 s'.fe, .int .i64 s'.fa]) = true := by simp [rdIs, AV.beq, AVs.beq]
  simp -implicitDefEqProofs (disch := first | assumption | omega | (simp only [nxB]; omega) | (simp only [oneB])) only [s28, xlen, AV.cells, splice, aload, astore, Nat.reduceAdd, Nat.reduceLeDiff, reduceIte, allB, tyC, hf', hr, hr5, hb65, hb85, hrd25, Bool.and_true]
  refine W_some.2 ⟨_, rfl, StV.leaf _ _ { kind := 0 }, ?_⟩
  exact ((pf.then_push _).then_set (Nat.le_refl _) _).then_set (by omega) _
theorem kblock_spec {n : Nat} (hn : n ≤ 900000000) {H : AHeap} {T : List Tok} {tv : AV} (hT : T.length ≤ 20000000) (ht : TokSl H tv T) (at_ opn : Int) {l : List Stm} {s' : St} (h : blockF T n (startS at_ opn) = some (l, s')) :
  W (evw P 45 [tv, .int .i64 at_, .int .i64 opn] H) fun v H' => ∃ bv, v = .tuple [bv, .int .i64 (parseB l s').2.1, .agg [.int .i64 (parseB l s').2.2.1, .int .i64 (parseB l s').2.2.2]] ∧ SsV H' (Ge H.next) (parseB l s').1 bv ∧ Pur H H' := by
 refine W_of (fun _ => run45 0) ?_
 have ho1 := ht.one
 have p1 := Pur.push H (.row false 2 [[.int .i64 0, .int .i64 0]])
 have hbd := bd85_3 tv ho1 at_ (if opn < 0 then 0 else opn)
 have hbx : ∀ l, boxOf l (.agg [tv, .int .i64 at_, .int .i64 (if opn < 0 then 0 else opn), .int .i64 0, .int .i64 0]) = some (.ptr l 0 0, .row false 5 [[tv, .int .i64 at_, .int .i64 (if opn < 0 then 0 else opn), .int .i64 0, .int .i64 0]]) := fun l => boxOf_agg l _ (by simp only [List.all_cons, List.all_nil, one_int, ho1, Bool.and_self])
 simp -implicitDefEqProofs (disch := first | assumption | omega | (simp only [nxB]; omega) | (simp only [oneB])) only [s45, xlen, AV.cells, splice, aload, astore, Nat.reduceAdd, Nat.reduceLeDiff, reduceIte, allB, mx3, hbd, hbx]
 have hb8 := AHeap.get_push_same H (.row false 2 [[.int .i64 0, .int .i64 0]])
 have hn3 : (H.push (.row false 2 [[.int .i64 0, .int .i64 0]])).next = H.next + 1 := by simp only [AHeap.next_push]
 rw [← hn3]
 generalize H.push (.row false 2 [[.int .i64 0, .int .i64 0]]) = H3 at p1 hb8 hn3 ⊢
 have p4 := Pur.push H3 (.row false 5 [[tv, .int .i64 at_, .int .i64 (if opn < 0 then 0 else opn), .int .i64 0, .int .i64 0]])
 have p5 := p1.trans p4
 have hx4 : Ry (H3.push (.row false 5 [[tv, .int .i64 at_, .int .i64 (if opn < 0 then 0 else opn), .int .i64 0, .int .i64 0]])) H3.next T tv (startS at_ opn) :=
  ⟨AHeap.get_push_same _ _, ht.pur p5⟩
 refine W_call ((allK n hn).block hT hx4 l s' h) ?_
 rintro v H5 ⟨m5, hx5, he5⟩
 refine ⟨m5.1, ?_⟩
 have hm5 := m5.1
 simp only [AHeap.next_push] at hm5 he5
 simp -implicitDefEqProofs (disch := first | assumption | omega | (simp only [nxB]; omega) | (simp only [oneB])) only [s45, xlen, AV.cells, splice, aload, astore, Nat.reduceAdd, Nat.reduceLeDiff, reduceIte, allB]
 refine W_call (kfailed_spec hx5.rd) ?_
 rintro _ H8 ⟨rfl, rfl⟩
 refine ⟨Nat.le_refl _, ?_⟩
 have hr5 := hx5.rd
 unfold Rd5 at hr5
 have hb85 := m5.get (p4.get hb8) (by omega)
 have l8 := AHeap.get_lt hb85
 have pf : Pur H H8 := ⟨by have := p5.1; simp only [AHeap.next_push] at this; omega, fun l hl => by rw [m5.2 l (by simp only [AHeap.next_push]; omega) (by omega)]; exact p5.2 l hl⟩
 by_cases hf : s'.fe = 0
 ·have hf' : (s'.fe != 0) = false := by simpa using hf
  rw [show parseB l s' = (l, s'.at_, 0, 0) by simp [parseB, hf]]
  simp -implicitDefEqProofs (disch := first | assumption | omega | (simp only [nxB]; omega) | (simp only [oneB])) only [s45, xlen, AV.cells, splice, aload, astore, Nat.reduceAdd, Nat.reduceLeDiff, reduceIte, allB, hf', hr5, hb85]
  refine W_some.2 ⟨_, rfl, he5.keep (KeepS.set _ (by unfold Ge; omega) fun l h => by unfold Ge at *; omega), pf.then_set (by omega) _⟩
 ·have hf' : (s'.fe != 0) = true := by simpa using hf
  rw [show parseB l s' = ([], 0, s'.fe, s'.fa) by simp [parseB, hf]]
  simp -implicitDefEqProofs (disch := first | assumption | omega | (simp only [nxB]; omega) | (simp only [oneB])) only [s45, xlen, AV.cells, splice, aload, astore, Nat.reduceAdd, Nat.reduceLeDiff, reduceIte, allB, hf', hr5, hb85]
  exact W_some.2 ⟨_, rfl, SsV.nil _ _, pf.then_set (by omega) _⟩
end Go.Proofs.Ytnjoomfeddamcaa

namespace Go.Proofs.Ytnjoomfeddamcaa
open Go.Ev
set_option maxRecDepth 1000000
theorem known4 (H : AHeap) : CallOk1 P 26 [] H (.bool true) H := callOk1_run (N := 10000) (n := 100) progOk (by kernel_rfl) H
end Go.Proofs.Ytnjoomfeddamcaa

/-
  Texts of one proof, laid together: U3 U4 U5 Qa Lx Sq Pa Pb.
-/
import Derived.Test.YtghmbpmaafnodaaGreatDoorMK
import Derived.Test.YtghmbpmaafnodaaGreatDoorME
import Derived.Test.YtghmbpmaafnodaaGreatDoorMH
set_option linter.unusedVariables false
set_option linter.unusedSimpArgs false
namespace Go.Proofs.YtghmbpmaafnodaaGreatDoor
open Go.Ev
theorem kdecl_spec {H : AHeap} {r : Nat} {T : List Tok} {tv : AV} {s : St} (hx : Ry H r T tv s) : W (evw P orc 139 [.ptr r 0 0] H) (QostS H r T tv (declS T s).1 (declS T s).2) := by
 refine W_of (fun _ => run139 0) ?_
 have hl := hx.rd.lt
 have p1 := Pur.push H (.row false 9 [[.int .i64 0, .str [], .str [], .int .i64 0, .nilSl, .nilSl, .nilSl, .int .i64 0, .int .i64 0]])
 simp -implicitDefEqProofs (disch := first | assumption | omega | (simp only [nxB]; omega) | (simp only [oneB])) only [s139, xlen, AV.cells, splice, aload, astore, Nat.reduceAdd, Nat.reduceLeDiff, reduceIte, allB, tyC]
 refine W_call (ktyped_spec (hx.pur p1)) ?_
 rintro _ H2 ⟨rfl, m2, hx2⟩
 refine ⟨m2.1, ?_⟩
 unfold declS
 generalize typedS T s = q at hx2 ⊢
 have g2 := m2.get (AHeap.get_push_same H (.row false 9 [[.int .i64 0, .str [], .str [], .int .i64 0, .nilSl, .nilSl, .nilSl, .int .i64 0, .int .i64 0]])) (by omega)
 have l2 := AHeap.get_lt g2
 simp -implicitDefEqProofs (disch := first | assumption | omega | (simp only [nxB]; omega) | (simp only [oneB])) only [s139, xlen, AV.cells, splice, aload, astore, Nat.reduceAdd, Nat.reduceLeDiff, reduceIte, allB, tyC]
 have p3 := Pur.push H2 (.row false 2 [[.str q.1.2.1, .int .i64 q.1.2.2]])
 refine W_call (kwants_spec (hx2.pur p3) [59]) ?_
 rintro _ H5 ⟨rfl, m5, hx5⟩
 refine ⟨m5.1, ?_⟩
 have lr := hx2.rd.lt
 have g5 := m5.get (p3.get g2) (by omega)
 have q5 := m5.get (AHeap.get_push_same H2 (.row false 2 [[.str q.1.2.1, .int .i64 q.1.2.2]])) (by omega)
 have l5 := AHeap.get_lt g5
 simp -implicitDefEqProofs (disch := first | assumption | omega | (simp only [nxB]; omega) | (simp only [oneB])) only [s139, xlen, AV.cells, splice, aload, astore, Nat.reduceAdd, Nat.reduceLeDiff, reduceIte, allB, tyC, g5, q5]
 exact W_some.2 (QostS.fin (a := { kind := 1, name := q.1.1, ofn := q.1.2.1, ofd := q.1.2.2 }) hx ((((p1.mut _).trans m2).trans (p3.mut _)).trans m5) hx5.rd (KsV.nil _ _) (SsV.nil _ _) (SsV.nil _ _) (Nat.le_refl _) (Nat.lt_succ_self _) _)
theorem KsV.made {H H' : AHeap} {r n lo : Nat} {e : Ex} {cs : List AV} (he : ExV H (Ge n) e (.agg cs)) (m : Mt r H H') (hr : r < n) (hlo : lo ≤ n) (h1 : lo ≤ H'.next) : KsV (H'.push (.row false 11 [cs])) (Ge lo) [e] (.sl H'.next 0 1 11 (some 1)) :=
 KsV.one_at (ro := false) (AHeap.get_push_same _ _) h1 (he.mut (m.then_push _) (by unfold Ge; omega) fun l hl => by unfold Ge at *; omega)
theorem klets_spec {H : AHeap} {r : Nat} {T : List Tok} {tv : AV} {s : St} (hT : T.length ≤ 20000000) (hx : Ry H r T tv s) : W (evw P orc 140 [.ptr r 0 0] H) (QostS H r T tv (letsS T s).1 (letsS T s).2) := by
 refine W_of (fun _ => run140 0) ?_
 have hl := hx.rd.lt
 have p1 := Pur.push H (.row false 9 [[.int .i64 0, .str [], .str [], .int .i64 0, .nilSl, .nilSl, .nilSl, .int .i64 0, .int .i64 0]])
 simp -implicitDefEqProofs (disch := first | assumption | omega | (simp only [nxB]; omega) | (simp only [oneB])) only [s140, xlen, AV.cells, splice, aload, astore, Nat.reduceAdd, Nat.reduceLeDiff, reduceIte, allB, tyC]
 refine W_call (ktyped_spec (hx.pur p1)) ?_
 rintro _ H2 ⟨rfl, m2, hx2⟩
 refine ⟨m2.1, ?_⟩
 unfold letsS
 generalize typedS T s = q at hx2 ⊢
 have g2 := m2.get (AHeap.get_push_same H (.row false 9 [[.int .i64 0, .str [], .str [], .int .i64 0, .nilSl, .nilSl, .nilSl, .int .i64 0, .int .i64 0]])) (by omega)
 have l2 := AHeap.get_lt g2
 simp -implicitDefEqProofs (disch := first | assumption | omega | (simp only [nxB]; omega) | (simp only [oneB])) only [s140, xlen, AV.cells, splice, aload, astore, Nat.reduceAdd, Nat.reduceLeDiff, reduceIte, allB, tyC]
 have p3 := Pur.push H2 (.row false 2 [[.str q.1.2.1, .int .i64 q.1.2.2]])
 refine W_call (kwants_spec (hx2.pur p3) [61]) ?_
 rintro _ H5 ⟨rfl, m5, hx5⟩
 refine ⟨m5.1, ?_⟩
 have lr := hx2.rd.lt
 have g5 := m5.get (p3.get g2) (by omega)
 have q5 := m5.get (AHeap.get_push_same H2 (.row false 2 [[.str q.1.2.1, .int .i64 q.1.2.2]])) (by omega)
 generalize (wantsS T [61] q.2).2 = s5 at hx5 ⊢
 simp -implicitDefEqProofs (disch := first | assumption | omega | (simp only [nxB]; omega) | (simp only [oneB])) only [s140, xlen, AV.cells, splice, aload, astore, Nat.reduceAdd, Nat.reduceLeDiff, reduceIte, allB, tyC]
 refine W_call (kexpr_spec hT hx5) ?_
 rintro v H6 ⟨m6, hx6, he⟩
 refine ⟨m6.1, ?_⟩
 obtain ⟨cs, rfl, n1, o1⟩ := he.cells
 have t1 : List.take 11 cs = cs := List.take_of_length_le (by omega)
 have g6 := m6.get g5 (by omega)
 have q6 := m6.get q5 (by omega)
 generalize exprP T s5 = e6 at hx6 he ⊢
 simp -implicitDefEqProofs (disch := first | assumption | omega | (simp only [nxB]; omega) | (simp only [oneB])) only [s140, xlen, AV.cells, splice, aload, astore, Nat.reduceAdd, Nat.reduceLeDiff, reduceIte, allB, tyC, n1, o1, List.append_nil]
 have p7 := Pur.push H6 (.row false 11 [cs])
 refine W_call (kwants_spec (hx6.pur p7) [59]) ?_
 rintro _ H9 ⟨rfl, m9, hx9⟩
 refine ⟨m9.1, ?_⟩
 have lr6 := hx6.rd.lt
 have g9 := m9.get (p7.get g6) (by omega)
 have q9 := m9.get (p7.get q6) (by omega)
 have e9 := m9.get (AHeap.get_push_same H6 (.row false 11 [cs])) (by omega)
 have l9 := AHeap.get_lt g9
 have hs : ∀ l, sliceOf P l 96 1 [(0, .agg cs)] = some (.sl l 0 1 11 (some 1), .row false 11 [cs]) := fun l => sl35_1 l cs n1 o1
 have b5 := hx5.rd.lt
 have lg5 := AHeap.get_lt g5
 simp -implicitDefEqProofs (disch := first | assumption | omega | (simp only [nxB]; omega) | (simp only [oneB])) only [s140, xlen, AV.cells, splice, aload, astore, Nat.reduceAdd, Nat.reduceLeDiff, reduceIte, allB, tyC, g9, q9, e9, t1, hs]
 exact W_some.2 (QostS.fin (a := { kind := 2, name := q.1.1, ofn := q.1.2.1, ofd := q.1.2.2 }) hx (((((((p1.mut _).trans m2).trans (p3.mut _)).trans m5).trans m6).trans ((p7.mut _).trans m9)).then_push _) (hx9.rd.pur (Pur.push _ _)) (KsV.made he ((p7.mut _).trans m9) b5 (lo := H.next + 1) (by omega) (by omega)) (SsV.nil _ _) (SsV.nil _ _) (Nat.le_refl _) (Nat.lt_succ_self _) _)
theorem kprint_spec {H : AHeap} {r : Nat} {T : List Tok} {tv : AV} {s : St} (hT : T.length ≤ 20000000) (hx : Ry H r T tv s) : W (evw P orc 144 [.ptr r 0 0] H) (QostS H r T tv (printS T s).1 (printS T s).2) := by
 refine W_of (fun _ => run144 0) ?_
 have hl := hx.rd.lt
 have p1 := Pur.push H (.row false 9 [[.int .i64 0, .str [], .str [], .int .i64 0, .nilSl, .nilSl, .nilSl, .int .i64 0, .int .i64 0]])
 simp -implicitDefEqProofs (disch := first | assumption | omega | (simp only [nxB]; omega) | (simp only [oneB])) only [s144, xlen, AV.cells, splice, aload, astore, Nat.reduceAdd, Nat.reduceLeDiff, reduceIte, allB, tyC]
 refine W_call (kexpr_spec hT (hx.pur p1)) ?_
 rintro v H6 ⟨m6, hx6, he⟩
 refine ⟨m6.1, ?_⟩
 unfold printS
 obtain ⟨cs, rfl, n1, o1⟩ := he.cells
 have t1 : List.take 11 cs = cs := List.take_of_length_le (by omega)
 have g6 := m6.get (AHeap.get_push_same H (.row false 9 [[.int .i64 0, .str [], .str [], .int .i64 0, .nilSl, .nilSl, .nilSl, .int .i64 0, .int .i64 0]])) (by omega)
 generalize exprP T s = e6 at hx6 he ⊢
 simp -implicitDefEqProofs (disch := first | assumption | omega | (simp only [nxB]; omega) | (simp only [oneB])) only [s144, xlen, AV.cells, splice, aload, astore, Nat.reduceAdd, Nat.reduceLeDiff, reduceIte, allB, tyC, n1, o1, List.append_nil]
 have p7 := Pur.push H6 (.row false 11 [cs])
 refine W_call (kwants_spec (hx6.pur p7) [59]) ?_
 rintro _ H9 ⟨rfl, m9, hx9⟩
 refine ⟨m9.1, ?_⟩
 have lr6 := hx6.rd.lt
 have lg6 := AHeap.get_lt g6
 have g9 := m9.get (p7.get g6) (by omega)
 have e9 := m9.get (AHeap.get_push_same H6 (.row false 11 [cs])) (by omega)
 have l9 := AHeap.get_lt g9
 have hs : ∀ l, sliceOf P l 96 1 [(0, .agg cs)] = some (.sl l 0 1 11 (some 1), .row false 11 [cs]) := fun l => sl35_1 l cs n1 o1
 simp -implicitDefEqProofs (disch := first | assumption | omega | (simp only [nxB]; omega) | (simp only [oneB])) only [s144, xlen, AV.cells, splice, aload, astore, Nat.reduceAdd, Nat.reduceLeDiff, reduceIte, allB, tyC, g9, e9, t1, hs]
 exact W_some.2 (QostS.fin (a := { kind := 8 }) hx ((((p1.mut _).trans m6).trans ((p7.mut _).trans m9)).then_push _) (hx9.rd.pur (Pur.push _ _)) (KsV.made he ((p7.mut _).trans m9) (by simp only [AHeap.next_push]; omega) (lo := H.next + 1) (by simp only [AHeap.next_push]; omega) (by omega)) (SsV.nil _ _) (SsV.nil _ _) (Nat.le_refl _) (Nat.lt_succ_self _) _)
theorem rets_end {H0 H : AHeap} {r : Nat} {T : List Tok} {tv : AV} {s0 s : St} (hx0 : Ry H0 r T tv s0) (mb : Mt r H0 H) (hrd : Rd5 H r tv s) {es : List Ex} {ev : AV} (hk : KsV H (Ge (H0.next + 2)) es ev) (g2 : H.get H0.next = some (.row false 9 [[.int .i64 0, .str [], .str [], .int .i64 0, .nilSl, .nilSl, .nilSl, .int .i64 0, .int .i64 0]])) (g3 : H.get (H0.next + 1) = some (.row false 9 [Sa.cells { kind := 7 } ev .nilSl .nilSl])) :
  W (s143_j0 (evw P orc) (.ptr r 0 0) (.ptr H0.next 0 0) (.ptr (H0.next + 1) 0 0) H) (QostS H0 r T tv (.mk { kind := 7 } es [] []) (wantsS T [59] s).2) := by
 have hl := hx0.rd.lt
 have lg := AHeap.get_lt g3
 have ho := hk.oneAV
 rw [s143_j0]
 refine W_call (kwants_spec (hx0.mut mb hrd) [59]) ?_
 rintro _ H1 ⟨rfl, m1, hx1⟩
 refine ⟨m1.1, ?_⟩
 have h2 := m1.get g2 (by omega)
 have h3 := m1.get g3 (by omega)
 have l2 := AHeap.get_lt h2
 simp only [Sa.cells] at h3
 simp -implicitDefEqProofs (disch := first | assumption | omega | (simp only [nxB]; omega) | (simp only [oneB])) only [s143, xlen, AV.cells, splice, aload, astore, Nat.reduceAdd, Nat.reduceLeDiff, reduceIte, allB, tyC, h2, h3, ho]
 exact W_some.2 (QostS.fin (a := { kind := 7 }) hx0 (mb.trans m1) hx1.rd (hk.keep (Keep.mut m1 (ok' := Ge (H0.next + 1)) (by unfold Ge; omega) fun l hl => by unfold Ge at *; omega)) (SsV.nil _ _) (SsV.nil _ _) (Nat.le_refl _) (Nat.lt_succ_self _) _)
theorem krets_spec {H : AHeap} {r : Nat} {T : List Tok} {tv : AV} {s : St} (hT : T.length ≤ 20000000) (hx : Ry H r T tv s) : W (evw P orc 143 [.ptr r 0 0] H) (QostS H r T tv (retsS T s).1 (retsS T s).2) := by
 refine W_of (fun _ => run143 0) ?_
 have hl := hx.rd.lt
 simp -implicitDefEqProofs (disch := first | assumption | omega | (simp only [nxB]; omega) | (simp only [oneB])) only [s143, xlen, AV.cells, splice, aload, astore, Nat.reduceAdd, Nat.reduceLeDiff, reduceIte, allB, tyC]
 have p2 := (Pur.push H (.row false 9 [[.int .i64 0, .str [], .str [], .int .i64 0, .nilSl, .nilSl, .nilSl, .int .i64 0, .int .i64 0]])).then_push (.row false 9 [Sa.cells { kind := 7 } .nilSl .nilSl .nilSl])
 refine W_call (kis_spec (hx.rd.pur p2) (hx.tk.pur p2) 4 [59]) ?_
 rintro _ H4 ⟨rfl, p4⟩
 refine ⟨p4.1, ?_⟩
 have n4 := p4.1
 simp only [AHeap.next_push] at n4
 have g2 : H4.get H.next = some (.row false 9 [[.int .i64 0, .str [], .str [], .int .i64 0, .nilSl, .nilSl, .nilSl, .int .i64 0, .int .i64 0]]) := p4.get (by simp -implicitDefEqProofs (disch := first | assumption | omega | (simp only [nxB]; omega) | (simp only [oneB])) only [heapB])
 have g3 : H4.get (H.next + 1) = some (.row false 9 [Sa.cells { kind := 7 } .nilSl .nilSl .nilSl]) := p4.get (AHeap.get_push_same _ _)
 have hx4 := (hx.pur p2).pur p4
 unfold retsS
 cases hb : isB T s 4 [59] with
 | true =>
  simp -implicitDefEqProofs (disch := first | assumption | omega | (simp only [nxB]; omega) | (simp only [oneB])) only [s143, xlen, AV.cells, splice, aload, astore, Nat.reduceAdd, Nat.reduceLeDiff, reduceIte, allB, tyC]
  exact rets_end hx ((p2.trans p4).mut _) hx4.rd (KsV.nil _ _) g2 g3
 | false =>
  simp -implicitDefEqProofs (disch := first | assumption | omega | (simp only [nxB]; omega) | (simp only [oneB])) only [s143, xlen, AV.cells, splice, aload, astore, Nat.reduceAdd, Nat.reduceLeDiff, reduceIte, allB, tyC]
  refine W_call (kexpr_spec hT hx4) ?_
  rintro v H6 ⟨m6, hx6, he⟩
  refine ⟨m6.1, ?_⟩
  obtain ⟨cs, rfl, n1, o1⟩ := he.cells
  have lr4 := hx4.rd.lt
  have h2 := m6.get g2 (by omega)
  have h3 := m6.get g3 (by omega)
  have l3 := AHeap.get_lt h3
  generalize exprP T s = e6 at hx6 he ⊢
  have hs : ∀ l, sliceOf P l 96 1 [(0, .agg cs)] = some (.sl l 0 1 11 (some 1), .row false 11 [cs]) := fun l => sl35_1 l cs n1 o1
  have h3' := h3
  simp only [Sa.cells] at h3'
  simp -implicitDefEqProofs (disch := first | assumption | omega | (simp only [nxB]; omega) | (simp only [oneB])) only [s143, xlen, AV.cells, splice, aload, astore, Nat.reduceAdd, Nat.reduceLeDiff, reduceIte, allB, tyC, hs, h3']
  have mb := ((p2.trans p4).mut (· = r)).trans m6
  have n6 := m6.1
  refine rets_end hx (H := (H6.push (.row false 11 [cs])).set (H.next + 1) (.row false 9 [Sa.cells { kind := 7 } (.sl H6.next 0 1 11 (some 1)) .nilSl .nilSl])) (es := [e6.1]) (ev := .sl H6.next 0 1 11 (some 1)) ?_ ?_ ?_ ?_ ?_
  ·exact (mb.then_push _).then_set (.inr (by omega)) _
  ·have h := hx6.rd
   unfold Rd5 at h ⊢
   rw [AHeap.get_set_other (by omega), AHeap.get_push_other (by omega)]; exact h
  ·exact (KsV.made he (Mut.refl _ _) lr4 (lo := H.next + 2) (by omega) (by omega)).keep (Keep.set _ (by unfold Ge; omega) fun _ h => h)
  ·simp -implicitDefEqProofs (disch := first | assumption | omega | (simp only [nxB]; omega) | (simp only [oneB])) only [heapB, h2]
  ·exact AHeap.get_set_same (by simp only [AHeap.next_push]; omega)
end Go.Proofs.YtghmbpmaafnodaaGreatDoor

namespace Go.Proofs.YtghmbpmaafnodaaGreatDoor
open Go.Ev
theorem ExV.below {H : AHeap} {ok : Nat → Prop} {e : Ex} {v : AV} (h : ExV H ok e v) : ExV H (fun l => ok l ∧ l < H.next) e v := ExV.keep (fun _ _ _ h g => ⟨⟨h, AHeap.get_lt g⟩, g⟩) e v h
theorem QostM.fin {ok : Nat → Prop} {H Hf : AHeap} {r : Nat} {T : List Tok} {tv : AV} {s s' : St} {a : Sa} {es : List Ex} {ev : AV} {x : Nat} (hx : Ry H r T tv s) (m : Mt r H Hf) (hd : Rd5 Hf r tv s') (h1 : KsV Hf (fun l => ok l ∧ l ≠ x) es ev) (hb : H.next ≤ x) (blk : ABlk) :
  QostM ok H r T tv (.mk a es [] []) s' (.agg (a.cells ev .nilSl .nilSl)) (Hf.set x blk) := by
 have hl := hx.rd.lt
 have m' := m.then_set (.inr hb) blk
 refine ⟨m', hx.mut m' ?_, StV_mk.2 ⟨ev, .nilSl, .nilSl, rfl, h1.keep (Keep.set _ (by simp) fun l h => h.1), SsV.nil _ _, SsV.nil _ _⟩⟩
 unfold Rd5 at hd ⊢
 rw [AHeap.get_set_other (by omega)]; exact hd
theorem sets_end {ok : Nat → Prop} {H0 H : AHeap} {r : Nat} {T : List Tok} {tv : AV} {s0 s : St} (hT : T.length ≤ 20000000) (hx0 : Ry H0 r T tv s0) (mb : Mt r H0 H) (hrd : Rd5 H r tv s) {a : Ea} {ks : List Ex} {kv : AV} (he : ExV H0 ok (.mk a ks) (.agg (a.cells kv))) (hr : ¬ ok r) (hnew : ∀ l, H0.next ≤ l → ok l)
  (g3 : H.get H0.next = some (.row false 11 [a.cells kv])) (g4 : H.get (H0.next + 1) = some (.row false 9 [[.int .i64 0, .str [], .str [], .int .i64 0, .nilSl, .nilSl, .nilSl, .int .i64 0, .int .i64 0]])) :
  W (s138_j0 (evw P orc) (.ptr r 0 0) (.ptr H0.next 0 0) (.ptr (H0.next + 1) 0 0) H) (QostM ok H0 r T tv (bif a.kind == 4 then .mk { kind := 3, name := a.name } [(exprP T (wantsS T [61] s).2).1] [] [] else .mk { kind := 4 } [.mk a ks, (exprP T (wantsS T [61] s).2).1] [] []) (wantsS T [59] (exprP T (wantsS T [61] s).2).2).2) := by
 have hl := hx0.rd.lt
 have lg4 := AHeap.get_lt g4
 rw [s138_j0]
 refine W_call (kwants_spec (hx0.mut mb hrd) [61]) ?_
 rintro _ H1 ⟨rfl, m1, hx1⟩
 refine ⟨m1.1, ?_⟩
 have n1 := m1.1
 generalize (wantsS T [61] s).2 = s1 at hx1 ⊢
 simp -implicitDefEqProofs (disch := first | assumption | omega | (simp only [nxB]; omega) | (simp only [oneB])) only [s138, xlen, AV.cells, splice, aload, astore, Nat.reduceAdd, Nat.reduceLeDiff, reduceIte, allB, tyC]
 refine W_call (kexpr_spec hT hx1) ?_
 rintro v H2 ⟨m2, hx2, hv⟩
 refine ⟨m2.1, ?_⟩
 have n2 := m2.1
 obtain ⟨cs, rfl, c1, o1⟩ := hv.cells
 generalize exprP T s1 = e2 at hx2 hv ⊢
 simp -implicitDefEqProofs (disch := first | assumption | omega | (simp only [nxB]; omega) | (simp only [oneB])) only [s138, xlen, AV.cells, splice, aload, astore, Nat.reduceAdd, Nat.reduceLeDiff, reduceIte, allB, tyC, c1, o1, List.append_nil]
 have p3 := Pur.push H2 (.row false 11 [cs])
 refine W_call (kwants_spec (hx2.pur p3) [59]) ?_
 rintro _ H4 ⟨rfl, m4, hx4⟩
 refine ⟨m4.1, ?_⟩
 have n4 := m4.1
 simp only [AHeap.next_push] at n4
 have lr := hx2.rd.lt
 have k3 := m4.get (p3.get (m2.get (m1.get g3 (by omega)) (by omega))) (by omega)
 have k4 := m4.get (p3.get (m2.get (m1.get g4 (by omega)) (by omega))) (by omega)
 have k5 := m4.get (AHeap.get_push_same H2 (.row false 11 [cs])) (by omega)
 have lk4 := AHeap.get_lt k4
 have m24 := (p3.mut (· = r)).trans m4
 have mf := (((mb.trans m1).trans m2).trans m24)
 have t1 : List.take 11 cs = cs := List.take_of_length_le (by omega)
 have hne : ∀ l, Ge H1.next l → ok l ∧ l ≠ H0.next + 1 := fun l h => by
  unfold Ge at h
  exact ⟨hnew l (by omega), by omega⟩
 have hv4 := hv.mut (ok' := fun l => ok l ∧ l ≠ H0.next + 1) m24 (by unfold Ge; have := hx1.rd.lt; omega) hne
 have ho := KsV.oneAV (ExV_mk.1 he).choose_spec.2
 obtain ⟨kv', hkv, hks⟩ := ExV_mk.1 he
 have hkv1 := hks.oneAV
 have hkk : kv' = kv := by
  have := congrArg (fun v => match v with | AV.agg cs => cs[5]? | _ => none) hkv
  simpa [Ea.cells] using this.symm
 rw [hkk] at hkv1
 have he4 : ExV H4 (fun l => ok l ∧ l ≠ H0.next + 1) (.mk a ks) (.agg (a.cells kv)) := he.below.mut mf (fun h => hr h.1) fun l h => ⟨h.1, by omega⟩
 have oa : (a.cells kv).all AV.one = true := by simp only [Ea.cells, List.all_cons, List.all_nil, one_int, one_str, hkv1, Bool.and_self]
 cases hk : a.kind == 4 with
 | true =>
  have hs : ∀ l, sliceOf P l 96 1 [(0, .agg cs)] = some (.sl l 0 1 11 (some 1), .row false 11 [cs]) := fun l => sl35_1 l cs c1 o1
  simp only [Ea.cells] at k3
  simp -implicitDefEqProofs (disch := first | assumption | omega | (simp only [nxB]; omega) | (simp only [oneB])) only [s138, xlen, AV.cells, splice, aload, astore, Nat.reduceAdd, Nat.reduceLeDiff, reduceIte, allB, tyC, k3, k4, k5, hk, t1, hs]
  exact W_some.2 (QostM.fin (a := { kind := 3, name := a.name }) hx0 (mf.then_push _) (hx4.rd.pur (Pur.push _ _)) (KsV.one_at (ro := false) (AHeap.get_push_same _ _) ⟨hnew _ (by omega), by omega⟩ (hv4.pur (Pur.push _ _))) (by omega) _)
 | false =>
  have hs : ∀ l, sliceOf P l 96 2 [(0, .agg (a.cells kv)), (1, .agg cs)] = some (.sl l 0 2 11 (some 2), .row false 11 [a.cells kv, cs]) := fun l => sl35_2 l (a.cells kv) cs rfl oa c1 o1
  have k3' := k3
  simp only [Ea.cells] at k3' hs
  simp -implicitDefEqProofs (disch := first | assumption | omega | (simp only [nxB]; omega) | (simp only [oneB])) only [s138, xlen, AV.cells, splice, aload, astore, Nat.reduceAdd, Nat.reduceLeDiff, reduceIte, allB, tyC, k3', k4, k5, hk, t1, hs]
  exact W_some.2 (QostM.fin (a := { kind := 4 }) hx0 (mf.then_push _) (hx4.rd.pur (Pur.push _ _)) (KsV.two_at (ro := false) (AHeap.get_push_same _ _) ⟨hnew _ (by omega), by omega⟩ (he4.pur (Pur.push _ _)) (hv4.pur (Pur.push _ _))) (by omega) _)
theorem ksets_spec {ok : Nat → Prop} {H : AHeap} {r : Nat} {T : List Tok} {tv : AV} {s : St} (hT : T.length ≤ 20000000) (hx : Ry H r T tv s) {e : Ex} {v : AV} (he : ExV H ok e v) (hr : ¬ ok r) (hnew : ∀ l, H.next ≤ l → ok l) : W (evw P orc 138 [.ptr r 0 0, v] H) (QostM ok H r T tv (setsS T e s).1 (setsS T e s).2) := by
 refine W_of (fun _ => run138 0) ?_
 have hl := hx.rd.lt
 cases e with | mk a ks =>
 obtain ⟨kv, rfl, hk⟩ := ExV_mk.1 he
 have hk1 := hk.oneAV
 have oa : (a.cells kv).all AV.one = true := by simp only [Ea.cells, List.all_cons, List.all_nil, one_int, one_str, hk1, Bool.and_self]
 have hbx : ∀ l, boxOf l (.agg (a.cells kv)) = some (.ptr l 0 0, .row false 11 [a.cells kv]) := fun l => boxOf_agg l _ oa
 simp only [Ea.cells] at hbx ⊢
 have p2 := (Pur.push H (.row false 11 [a.cells kv])).then_push (.row false 9 [[.int .i64 0, .str [], .str [], .int .i64 0, .nilSl, .nilSl, .nilSl, .int .i64 0, .int .i64 0]])
 have hx2 := hx.pur p2
 have fin : ∀ (H3 : AHeap), Mt r H H3 → Rd5 H3 r tv (bif exK (.mk a ks) then failS T 2 s else s) → H3.get H.next = some (.row false 11 [a.cells kv]) → H3.get (H.next + 1) = some (.row false 9 [[.int .i64 0, .str [], .str [], .int .i64 0, .nilSl, .nilSl, .nilSl, .int .i64 0, .int .i64 0]]) →
   W (s138_j0 (evw P orc) (.ptr r 0 0) (.ptr H.next 0 0) (.ptr (H.next + 1) 0 0) H3) (QostM ok H r T tv (setsS T (.mk a ks) s).1 (setsS T (.mk a ks) s).2) := fun H3 m3 hd3 g3 g4 => sets_end hT hx m3 hd3 he hr hnew g3 g4
 have g3 : ((H.push (.row false 11 [a.cells kv])).push (.row false 9 [[.int .i64 0, .str [], .str [], .int .i64 0, .nilSl, .nilSl, .nilSl, .int .i64 0, .int .i64 0]])).get H.next = some (.row false 11 [a.cells kv]) := by simp -implicitDefEqProofs (disch := first | assumption | omega | (simp only [nxB]; omega) | (simp only [oneB])) only [heapB]
 have g4 := AHeap.get_push_same (H.push (.row false 11 [a.cells kv])) (.row false 9 [[.int .i64 0, .str [], .str [], .int .i64 0, .nilSl, .nilSl, .nilSl, .int .i64 0, .int .i64 0]])
 have g3' := g3
 simp only [Ea.cells] at g3'
 cases k4 : (a.kind != 4) with
 | false =>
  have hex : exK (.mk a ks) = false := by simp only [exK, Ex.kind, k4, Bool.false_and]
  rw [hex] at fin
  simp -implicitDefEqProofs (disch := first | assumption | omega | (simp only [nxB]; omega) | (simp only [oneB])) only [s138, xlen, AV.cells, splice, aload, astore, Nat.reduceAdd, Nat.reduceLeDiff, reduceIte, allB, tyC, hbx, k4]
  exact fin _ (p2.mut _) hx2.rd g3 g4
 | true =>
  cases k5 : (a.kind != 5) with
  | false =>
   have hex : exK (.mk a ks) = false := by simp only [exK, Ex.kind, k4, k5, Bool.false_and, Bool.and_false]
   rw [hex] at fin
   simp -implicitDefEqProofs (disch := first | assumption | omega | (simp only [nxB]; omega) | (simp only [oneB])) only [s138, xlen, AV.cells, splice, aload, astore, Nat.reduceAdd, Nat.reduceLeDiff, reduceIte, allB, tyC, hbx, k4, k5]
   exact fin _ (p2.mut _) hx2.rd g3 g4
  | true =>
   cases k6 : (a.kind != 6) with
   | false =>
    have hex : exK (.mk a ks) = false := by simp only [exK, Ex.kind, k4, k5, k6, Bool.and_false]
    rw [hex] at fin
    simp -implicitDefEqProofs (disch := first | assumption | omega | (simp only [nxB]; omega) | (simp only [oneB])) only [s138, xlen, AV.cells, splice, aload, astore, Nat.reduceAdd, Nat.reduceLeDiff, reduceIte, allB, tyC, hbx, k4, k5, k6]
    exact fin _ (p2.mut _) hx2.rd g3 g4
   | true =>
    have hex : exK (.mk a ks) = true := by simp only [exK, Ex.kind, k4, k5, k6, Bool.and_self]
    rw [hex] at fin
    simp -implicitDefEqProofs (disch := first | assumption | omega | (simp only [nxB]; omega) | (simp only [oneB])) only [s138, xlen, AV.cells, splice, aload, astore, Nat.reduceAdd, Nat.reduceLeDiff, reduceIte, allB, tyC, hbx, k4, k5, k6]
    refine W_call (kfail_spec hx2 2) ?_
    rintro _ H3 ⟨rfl, m3, hx3⟩
    refine ⟨m3.1, ?_⟩
    exact fin H3 ((p2.mut _).trans m3) hx3.rd (m3.get g3 (by omega)) (m3.get g4 (by simp only [AHeap.next_push] at *; omega))
theorem plain_end {H0 H : AHeap} {r : Nat} {T : List Tok} {tv : AV} {s0 s : St} (hx0 : Ry H0 r T tv s0) (mb : Mt r H0 H) (hrd : Rd5 H r tv s) {e : Ex} {cs : List AV} {b : Nat} (he : ExV H (Ge (H0.next + 1)) e (.agg cs)) (hb : H0.next < b) (g2 : H.get H0.next = some (.row false 9 [[.int .i64 0, .str [], .str [], .int .i64 0, .nilSl, .nilSl, .nilSl, .int .i64 0, .int .i64 0]])) (g3 : H.get b = some (.row false 11 [cs])) :
  W (s124_j0 (evw P orc) (.ptr r 0 0) (.ptr H0.next 0 0) (.ptr b 0 0) H) (QostS H0 r T tv (.mk { kind := 9 } [e] [] []) (wantsS T [59] s).2) := by
 have hl := hx0.rd.lt
 rw [s124_j0]
 refine W_call (kwants_spec (hx0.mut mb hrd) [59]) ?_
 rintro _ H1 ⟨rfl, m1, hx1⟩
 refine ⟨m1.1, ?_⟩
 obtain ⟨cs', hcs, c1, o1⟩ := he.cells
 cases hcs
 have h2 := m1.get g2 (by omega)
 have h3 := m1.get g3 (by omega)
 have l2 := AHeap.get_lt h2
 have t1 : List.take 11 cs = cs := List.take_of_length_le (by omega)
 have hs : ∀ l, sliceOf P l 96 1 [(0, .agg cs)] = some (.sl l 0 1 11 (some 1), .row false 11 [cs]) := fun l => sl35_1 l cs c1 o1
 simp -implicitDefEqProofs (disch := first | assumption | omega | (simp only [nxB]; omega) | (simp only [oneB])) only [s124, xlen, AV.cells, splice, aload, astore, Nat.reduceAdd, Nat.reduceLeDiff, reduceIte, allB, tyC, h2, h3, t1, hs]
 exact W_some.2 (QostS.fin (a := { kind := 9 }) hx0 ((mb.trans m1).then_push _) (hx1.rd.pur (Pur.push _ _)) (KsV.made he m1 (by omega) (lo := H0.next + 1) (by omega) (by omega)) (SsV.nil _ _) (SsV.nil _ _) (Nat.le_refl _) (Nat.lt_succ_self _) _)
theorem kplain_spec {H : AHeap} {r : Nat} {T : List Tok} {tv : AV} {s : St} (hT : T.length ≤ 20000000) (hx : Ry H r T tv s) : W (evw P orc 124 [.ptr r 0 0] H) (QostS H r T tv (plainS T s).1 (plainS T s).2) := by
 refine W_of (fun _ => run124 0) ?_
 have hl := hx.rd.lt
 have p1 := Pur.push H (.row false 9 [[.int .i64 0, .str [], .str [], .int .i64 0, .nilSl, .nilSl, .nilSl, .int .i64 0, .int .i64 0]])
 simp -implicitDefEqProofs (disch := first | assumption | omega | (simp only [nxB]; omega) | (simp only [oneB])) only [s124, xlen, AV.cells, splice, aload, astore, Nat.reduceAdd, Nat.reduceLeDiff, reduceIte, allB, tyC]
 refine W_call (kexpr_spec hT (hx.pur p1)) ?_
 rintro v H2 ⟨m2, hx2, he⟩
 refine ⟨m2.1, ?_⟩
 have n2 := m2.1
 simp only [AHeap.next_push] at n2
 unfold plainS
 obtain ⟨cs, rfl, c1, o1⟩ := he.cells
 have t1 : List.take 11 cs = cs := List.take_of_length_le (by omega)
 have g2 := m2.get (AHeap.get_push_same H (.row false 9 [[.int .i64 0, .str [], .str [], .int .i64 0, .nilSl, .nilSl, .nilSl, .int .i64 0, .int .i64 0]])) (by omega)
 generalize exprP T s = e2 at hx2 he ⊢
 simp -implicitDefEqProofs (disch := first | assumption | omega | (simp only [nxB]; omega) | (simp only [oneB])) only [s124, xlen, AV.cells, splice, aload, astore, Nat.reduceAdd, Nat.reduceLeDiff, reduceIte, allB, tyC, c1, o1, List.append_nil]
 have p3 := Pur.push H2 (.row false 11 [cs])
 refine W_call (kis_spec (hx2.rd.pur p3) (hx2.tk.pur p3) 4 [61]) ?_
 rintro _ H4 ⟨rfl, p4⟩
 refine ⟨p4.1, ?_⟩
 have n4 := p4.1
 simp only [AHeap.next_push] at n4
 have p34 := p3.trans p4
 have g4 := p34.get g2
 have l4 := AHeap.get_lt g4
 have e4 := p4.get (AHeap.get_push_same H2 (.row false 11 [cs]))
 have he4 : ExV H4 (Ge (H.next + 1)) e2.1 (.agg cs) := ExV.keep (Keep.pur p34 fun l hl => by unfold Ge at *; simp only [AHeap.next_push] at hl; omega) _ _ he
 have mb := ((p1.mut (· = r)).trans m2).trans (p34.mut _)
 have hx4 := hx2.pur p34
 cases hb : isB T e2.2 4 [61] with
 | true =>
  simp -implicitDefEqProofs (disch := first | assumption | omega | (simp only [nxB]; omega) | (simp only [oneB])) only [s124, xlen, AV.cells, splice, aload, astore, Nat.reduceAdd, Nat.reduceLeDiff, reduceIte, allB, tyC, e4, t1]
  refine W_call (ksets_spec hT hx4 he4 (by unfold Ge; omega) (fun l hl => by unfold Ge; omega)) ?_
  rintro w H5 ⟨m5, hx5, hw⟩
  refine ⟨m5.1, ?_⟩
  obtain ⟨ds, rfl, d1, o2⟩ := hw.cells
  have td : List.take 9 ds = ds := List.take_of_length_le (by omega)
  have g5 := m5.get g4 (by omega)
  have l5 := AHeap.get_lt g5
  simp -implicitDefEqProofs (disch := first | assumption | omega | (simp only [nxB]; omega) | (simp only [oneB])) only [s124, xlen, AV.cells, splice, aload, astore, Nat.reduceAdd, Nat.reduceLeDiff, reduceIte, allB, tyC, g5, d1, o2, td, List.append_nil]
  exact W_some.2 (QostS.ret hx (mb.trans m5) hx5.rd (Nat.le_refl _) hw (Nat.lt_succ_self _) _)
 | false =>
  simp -implicitDefEqProofs (disch := first | assumption | omega | (simp only [nxB]; omega) | (simp only [oneB])) only [s124, xlen, AV.cells, splice, aload, astore, Nat.reduceAdd, Nat.reduceLeDiff, reduceIte, allB, tyC]
  refine W_call (kis_spec hx4.rd hx4.tk 4 [59]) ?_
  rintro _ H5 ⟨rfl, p5⟩
  refine ⟨p5.1, ?_⟩
  have e5 := p5.get e4
  have g5 := p5.get g4
  have hx5 := hx4.pur p5
  have he5 := he4.pur p5
  have mb5 := mb.trans (p5.mut _)
  cases h59 : isB T e2.2 4 [59] with
  | false =>
   simp -implicitDefEqProofs (disch := first | assumption | omega | (simp only [nxB]; omega) | (simp only [oneB])) only [s124, xlen, AV.cells, splice, aload, astore, Nat.reduceAdd, Nat.reduceLeDiff, reduceIte, allB, tyC]
   simp only [Bool.false_and, cond_false]
   exact plain_end hx mb5 hx5.rd he5 (by omega) g5 e5
  | true =>
   rcases he2 : e2.1 with ⟨a, ks⟩
   rw [he2] at he5
   obtain ⟨kv, hcs, -⟩ := ExV_mk.1 he5
   simp only [AV.agg.injEq] at hcs
   subst hcs
   have e5' := e5
   simp only [Ea.cells] at e5'
   cases hk : (a.kind != 7) with
   | false =>
    simp -implicitDefEqProofs (disch := first | assumption | omega | (simp only [nxB]; omega) | (simp only [oneB])) only [s124, xlen, AV.cells, splice, aload, astore, Nat.reduceAdd, Nat.reduceLeDiff, reduceIte, allB, tyC, e5', hk]
    simp only [Ex.kind, hk, Bool.and_false, cond_false]
    exact plain_end hx mb5 hx5.rd he5 (by omega) g5 e5
   | true =>
    simp -implicitDefEqProofs (disch := first | assumption | omega | (simp only [nxB]; omega) | (simp only [oneB])) only [s124, xlen, AV.cells, splice, aload, astore, Nat.reduceAdd, Nat.reduceLeDiff, reduceIte, allB, tyC, e5', hk]
    simp only [Ex.kind, hk, Bool.and_self, cond_true]
    refine W_call (kfail_spec hx5 2) ?_
    rintro _ H6 ⟨rfl, m6, hx6⟩
    refine ⟨m6.1, ?_⟩
    exact plain_end hx (mb5.trans m6) hx6.rd (he5.mut m6 (by unfold Ge; omega) fun _ h => h) (by omega) (m6.get g5 (by omega)) (m6.get e5 (by omega))
end Go.Proofs.YtghmbpmaafnodaaGreatDoor

namespace Go.Proofs.YtghmbpmaafnodaaGreatDoor
open Go.Ev
theorem SlsV.append {H : AHeap} {ok : Nat → Prop} : ∀ (es : List Stm) (cs : List (List AV)) (e : Stm) (c : List AV), SlsV H ok es cs → cs.length = es.length → StV H ok e (.agg c) → SlsV H ok (es ++ [e]) (cs ++ [c])
 | [], [], e, c, _, _, h => by
  simp only [List.nil_append]
  rw [SlsV, SlsV]; exact ⟨h, trivial⟩
 | [], _ :: _, e, c, _, hl, _ => by simp at hl
 | _ :: _, [], e, c, h, _, _ => by rw [SlsV] at h; exact h.elim
 | e1 :: es, c1 :: cs, e, c, h, hl, he => by
  rw [SlsV] at h
  simp only [List.cons_append]
  rw [SlsV]
  exact ⟨h.1, SlsV.append es cs e c h.2 (by simpa using hl) he⟩
theorem un44 : P.underlying 44 = some (.slice 98) := by kernel_rfl
theorem by98 : tyBytes P 98 = some 136 := by kernel_rfl
theorem az98 : azero P 98 = some (.agg [.int .i64 0, .str [], .str [], .int .i64 0, .nilSl, .nilSl, .nilSl, .int .i64 0, .int .i64 0]) := by kernel_rfl
theorem ap50_nil {H : AHeap} {L : Nat} {cs : List AV} {cap : Option Nat} {ro : Bool} (hg : H.get L = some (.row ro 9 [cs])) : aappend P H [44, 44] .nilSl (.sl L 0 1 9 cap) = some (.sl H.next 0 1 9 none, H.push (.row false 9 [cs])) := by
 simp [aappend, un44, ts98, by98, az98, anews, aels, hg, AV.cells]
theorem ap50_sl {H : AHeap} {L l n : Nat} {cs : List AV} {els : List (List AV)} {cap : Option Nat} {ro : Bool} (hg : H.get L = some (.row ro 9 [cs])) (hl : H.get l = some (.row false 9 els)) (hn : els.length = n) (hb : n ≤ 1000000000) : aappend P H [44, 44] (.sl l 0 n 9 none) (.sl L 0 1 9 cap) = some (.sl H.next 0 (n + 1) 9 none, (H.set l .dead).push (.row false 9 (els ++ [cs]))) := by
 have h1 : (n + 1) * 136 ≤ 140737488355328 := by omega
 have h2 : n + 1 ≤ 9223372036854775807 := by omega
 simp [aappend, un44, ts98, by98, az98, anews, aels, hg, hl, AV.cells, hn, h1, h2]
 rw [List.take_of_length_le (by omega)]
theorem sl50_1 (l : Nat) (cs : List AV) (h : cs.length = 9) (ho : cs.all AV.one = true) : sliceOf P l 44 1 [(0, .agg cs)] = some (.sl l 0 1 9 (some 1), .row false 9 [cs]) := by
 simp [sliceOf, un44, ts98, az98, AV.cells, asetEls, h, ho, one_int, one_str, one_nilSl]
def BldS (n0 : Nat) (H : AHeap) (l : List Stm) (v : AV) : Prop := (v = .nilSl ∧ l = []) ∨ ∃ L els, v = .sl L 0 l.length 9 none ∧ H.get L = some (.row false 9 els) ∧ n0 ≤ L ∧ els.length = l.length ∧ SlsV H (fun k => n0 ≤ k ∧ k ≠ L) l els
theorem BldS.mut {n0 r : Nat} {H H' : AHeap} {l : List Stm} {v : AV} (h : BldS n0 H l v) (m : Mt r H H') (hr : r < n0) : BldS n0 H' l v := by
 rcases h with h | ⟨L, els, e1, e2, e3, e4, e5⟩
 ·exact .inl h
 ·exact .inr ⟨L, els, e1, m.get e2 (by omega), e3, e4, SlsV.keep (KeepS.mut m (by omega) fun _ h => h) _ _ e5⟩
theorem BldS.ss {n0 : Nat} {H : AHeap} {l : List Stm} {v : AV} (h : BldS n0 H l v) : SsV H (Ge n0) l v := by
 rcases h with ⟨rfl, rfl⟩ | ⟨L, els, e1, e2, e3, e4, e5⟩
 ·exact SsV.nil _ _
 ·exact .inr (.inl ⟨L, 0, none, false, els, e1, e3, e2, by rw [List.drop_zero]; exact SlsV.keep (KeepS.le' fun _ h => h.1) _ _ e5⟩)
theorem BldS.app {n0 m : Nat} {H : AHeap} {l : List Stm} {v : AV} (h : BldS n0 H l v) {e : Stm} {cs : List AV} (he : StV H (Ge m) e (.agg cs)) (hm : n0 ≤ m) (hv : ∀ L n c, v = .sl L 0 n 9 c → L < m) (hn : n0 ≤ H.next) (hl : l.length ≤ 1000000000) :
  ∃ v' H', aappend P (H.push (.row false 9 [cs])) [44, 44] v (.sl H.next 0 1 9 (some 1)) = some (v', H') ∧ BldS n0 H' (l ++ [e]) v' ∧ Mut (n0 ≤ ·) H H' ∧ H.next + 1 ≤ H'.next := by
 have hg := AHeap.get_push_same H (.row false 9 [cs])
 rcases h with ⟨rfl, rfl⟩ | ⟨L, els, rfl, e2, e3, e4, e5⟩
 ·refine ⟨_, _, ap50_nil hg, .inr ⟨_, [cs], rfl, AHeap.get_push_same _ _, by simp only [AHeap.next_push]; omega, rfl, ?_⟩, (((Pur.push _ _).then_push _).mut _), by simp only [AHeap.next_push]; omega⟩
  rw [List.nil_append, SlsV, SlsV]
  refine ⟨StV.keep ⟨fun k ro els hk g => ⟨⟨by unfold Ge at hk; omega, ?_⟩, ((Pur.push _ _).then_push _).get g⟩, fun k ro els hk g => ⟨⟨by unfold Ge at hk; omega, ?_⟩, ((Pur.push _ _).then_push _).get g⟩⟩ e _ he, trivial⟩
  all_goals have := AHeap.get_lt g; simp only [AHeap.next_push]; omega
 ·have hLm := hv L _ _ rfl
  have lL := AHeap.get_lt e2
  have e2' : (H.push (.row false 9 [cs])).get L = some (.row false 9 els) := (Pur.push _ _).get e2
  have kp : ∀ k b, H.get k = some b → k ≠ L → (((H.push (.row false 9 [cs])).set L .dead).push (.row false 9 (els ++ [cs]))).get k = some b := fun k b g hk => by
   have := AHeap.get_lt g
   rw [AHeap.get_push_other (by simp only [AHeap.next_set, AHeap.next_push]; omega), AHeap.get_set_other (by omega), AHeap.get_push_other (by omega)]; exact g
  refine ⟨_, _, ap50_sl hg e2' e4 hl, .inr ⟨_, els ++ [cs], by rw [List.length_append]; rfl, AHeap.get_push_same _ _, by simp only [AHeap.next_set, AHeap.next_push]; omega, by simp [e4], ?_⟩, ?_, by simp only [AHeap.next_set, AHeap.next_push]; omega⟩
  ·refine SlsV.append _ _ _ _ (SlsV.keep ⟨fun k ro es hk g => ⟨⟨hk.1, ?_⟩, kp _ _ g hk.2⟩, fun k ro es hk g => ⟨⟨hk.1, ?_⟩, kp _ _ g hk.2⟩⟩ _ _ e5) e4 (StV.keep ⟨fun k ro es hk g => ⟨⟨by unfold Ge at hk; omega, ?_⟩, kp _ _ g (by unfold Ge at hk; omega)⟩, fun k ro es hk g => ⟨⟨by unfold Ge at hk; omega, ?_⟩, kp _ _ g (by unfold Ge at hk; omega)⟩⟩ e _ he)
   all_goals have := AHeap.get_lt g; simp only [AHeap.next_set, AHeap.next_push]; omega
  ·exact (((Pur.push _ _).mut _).then_set (.inl e3) _).then_push _
def StmtOk (n : Nat) : Prop := ∀ {H : AHeap} {r : Nat} {T : List Tok} {tv : AV} {s : St}, T.length ≤ 20000000 → Ry H r T tv s → ∀ (e : Stm) (s' : St), stmtF T n s = some (e, s') → W (evw P orc 106 [.ptr r 0 0] H) (QostS H r T tv e s')
def BlockOk (n : Nat) : Prop := ∀ {H : AHeap} {r : Nat} {T : List Tok} {tv : AV} {s : St}, T.length ≤ 20000000 → Ry H r T tv s → ∀ (l : List Stm) (s' : St), blockF T n s = some (l, s') → W (evw P orc 74 [.ptr r 0 0] H) fun v H' => Mt r H H' ∧ Ry H' r T tv s' ∧ SsV H' (Ge H.next) l v
def ChooseOk (n : Nat) : Prop := ∀ {H : AHeap} {r : Nat} {T : List Tok} {tv : AV} {s : St}, T.length ≤ 20000000 → Ry H r T tv s → ∀ (e : Stm) (s' : St), chooseF T n s = some (e, s') → W (evw P orc 141 [.ptr r 0 0] H) (QostS H r T tv e s')
def RepeatOk (n : Nat) : Prop := ∀ {H : AHeap} {r : Nat} {T : List Tok} {tv : AV} {s : St}, T.length ≤ 20000000 → Ry H r T tv s → ∀ (e : Stm) (s' : St), repeatF T n s = some (e, s') → W (evw P orc 142 [.ptr r 0 0] H) (QostS H r T tv e s')
theorem until_loop {N M : Nat} (ih : ∀ k, k < N → StmtOk k) {H0 : AHeap} {r : Nat} {T : List Tok} {tv : AV} {s0 : St} (hT : T.length ≤ 20000000) (hx0 : Ry H0 r T tv s0) :
  ∀ (n m : Nat), n ≤ N → n < m → ∀ (H : AHeap) (s : St) (l : List Stm) (v : AV), Mt r H0 H → Rd5 H r tv s → l.length + n ≤ 1000000000 → BldS H0.next H l v → ∀ (l' : List Stm) (s' : St), untilF T n l s = some (l', s') →
   W (s105_l1 (evw P orc) M m (.ptr r 0 0) (.str [125]) (.func (.func 106) [.ptr r 0 0] []) v H) fun v H' => Mt r H0 H' ∧ Ry H' r T tv s' ∧ SsV H' (Ge H0.next) l' v
 | 0, m, hN, hm, H, s, l, v, mb, hrd, hlen, hb, l', s', h => by simp [untilF] at h
 | n + 1, 0, hN, hm, H, s, l, v, mb, hrd, hlen, hb, l', s', h => by omega
 | n + 1, m + 1, hN, hm, H, s, l, v, mb, hrd, hlen, hb, l', s', h => by
  have hl := hx0.rd.lt
  have hle := mb.1
  have hx := hx0.mut mb hrd
  simp only [untilF] at h
  simp only [s105_l1]
  rw [s105_b1]
  refine W_call (kfailed_spec hrd) ?_
  rintro _ H1 ⟨rfl, rfl⟩
  refine ⟨Nat.le_refl _, ?_⟩
  by_cases hf : s.fe = 0
  ·have hf' : (s.fe == 0) = true := by simp [hf]
   simp -implicitDefEqProofs (disch := first | assumption | omega | (simp only [nxB]; omega) | (simp only [oneB])) only [s105_b1, s105, xlen, AV.cells, splice, aload, astore, Nat.reduceAdd, Nat.reduceLeDiff, reduceIte, allB, hf, bne_self_eq_false, Bool.not_false]
   refine W_eff (kis_spec hrd hx.tk 4 [125]) ?_
   rintro _ H2 ⟨rfl, p2⟩
   refine ⟨p2.1, ?_⟩
   have hb2 := hb.mut (p2.mut (· = r)) hl
   cases hi : isB T s 4 [125] with
   | true =>
    simp only [hf', hi, Bool.not_true, Bool.and_false, cond_false, Option.some.injEq, Prod.mk.injEq] at h
    obtain ⟨rfl, rfl⟩ := h
    simp -implicitDefEqProofs (disch := first | assumption | omega | (simp only [nxB]; omega) | (simp only [oneB])) only [s105_j0, s105, xlen, AV.cells, splice, aload, astore, Nat.reduceAdd, Nat.reduceLeDiff, reduceIte, allB, Bool.not_true, Bool.not_false]
    exact W_some.2 ⟨mb.trans (p2.mut _), hx.pur p2, hb2.ss⟩
   | false =>
    simp only [hf', hi, Bool.not_false, Bool.and_self, cond_true, Option.bind_eq_some_iff] at h
    obtain ⟨⟨e1, s1⟩, h1, h2⟩ := h
    simp -implicitDefEqProofs (disch := first | assumption | omega | (simp only [nxB]; omega) | (simp only [oneB])) only [s105, xlen, AV.cells, splice, aload, astore, Nat.reduceAdd, Nat.reduceLeDiff, reduceIte, allB, xapply_fn, List.append_nil, Bool.not_true, Bool.not_false]
    refine W_call (ih n (by omega) hT (hx.pur p2) e1 s1 h1) ?_
    rintro w H3 ⟨m3, hx3, he⟩
    refine ⟨m3.1, ?_⟩
    obtain ⟨cs, rfl, c1, o1⟩ := he.cells
    have hb3 := hb2.mut m3 hl
    have n3 := m3.1
    have n2 := p2.1
    obtain ⟨v', H', ha, hb', mm, hn'⟩ := hb3.app he (by omega) (fun L k c hv => by
     rcases hb2 with ⟨q1, _⟩ | ⟨L', els, q1, q2, _⟩
     ·rw [q1] at hv; cases hv
     ·rw [q1] at hv
      cases hv
      exact AHeap.get_lt q2) (by omega) (by omega)
    have hs := fun l => sl50_1 l cs c1 o1
    simp -implicitDefEqProofs (disch := first | assumption | omega | (simp only [nxB]; omega) | (simp only [oneB])) only [s105, xlen, AV.cells, splice, aload, astore, Nat.reduceAdd, Nat.reduceLeDiff, reduceIte, allB, hs, ha, xcall_some]
    have mm' : Mt r H0 H' := ⟨by have := mb.1; omega, fun k hk hr => by
     rw [mm.2 k (by omega) (by omega)]
     exact ((mb.trans (p2.mut _)).trans m3).2 k hk hr⟩
    have hr' : Rd5 H' r tv s1 := mm.get hx3.rd (by omega)
    exact until_loop ih hT hx0 n m (by omega) (by omega) H' s1 (l ++ [e1]) v' mm' hr' (by simp only [List.length_append, List.length_cons, List.length_nil]; omega) hb' l' s' h2
  ·have hf' : (s.fe == 0) = false := by simpa using hf
   have hfn : (s.fe != 0) = true := by simpa using hf
   simp only [hf', Bool.false_and, cond_false, Option.some.injEq, Prod.mk.injEq] at h
   obtain ⟨rfl, rfl⟩ := h
   simp -implicitDefEqProofs (disch := first | assumption | omega | (simp only [nxB]; omega) | (simp only [oneB])) only [s105_j0, s105, xlen, AV.cells, splice, aload, astore, Nat.reduceAdd, Nat.reduceLeDiff, reduceIte, allB, hfn, Bool.not_true]
   exact W_some.2 ⟨mb, hx, hb.ss⟩
theorem until_spec {n : Nat} (ih : ∀ k, k < n → StmtOk k) (hn : n ≤ 1000000000) {H : AHeap} {r : Nat} {T : List Tok} {tv : AV} {s : St} (hT : T.length ≤ 20000000) (hx : Ry H r T tv s) {l : List Stm} {s' : St} (h : untilF T n [] s = some (l, s')) :
  W (evw P orc 105 [.ptr r 0 0, .str [125], .func (.func 106) [.ptr r 0 0] []] H) fun v H' => Mt r H H' ∧ Ry H' r T tv s' ∧ SsV H' (Ge H.next) l v := by
 refine W_of (fun _ => run105 (n + 1)) ?_
 rw [s105]
 exact until_loop ih hT hx n (n + 1) (Nat.le_refl _) (by omega) H s [] .nilSl (Mut.refl _ _) hx.rd (by simpa using hn) (.inl ⟨rfl, rfl⟩) l s' h
theorem block_step {n : Nat} (hn : n ≤ 1000000000) (ih : ∀ k, k < n → StmtOk k) : BlockOk (n + 1) := by
 intro H r T tv s hT hx l s' h
 refine W_of (fun _ => run74 0) ?_
 have hl := hx.rd.lt
 have ho1 := hx.tk.one
 rw [s74]
 refine W_call (kis_spec hx.rd hx.tk 4 [123]) ?_
 rintro _ H1 ⟨rfl, p1⟩
 refine ⟨p1.1, ?_⟩
 have hx1 := hx.pur p1
 simp only [blockF] at h
 have hr := hx1.rd
 unfold Rd5 at hr
 cases hi : isB T s 4 [123] with
 | false =>
  simp only [hi, cond_false, Option.some.injEq, Prod.mk.injEq] at h
  obtain ⟨rfl, rfl⟩ := h
  simp -implicitDefEqProofs (disch := first | assumption | omega | (simp only [nxB]; omega) | (simp only [oneB])) only [s74, xlen, AV.cells, splice, aload, astore, Nat.reduceAdd, Nat.reduceLeDiff, reduceIte, allB, Bool.not_false]
  refine W_call (kfail_spec hx1 2) ?_
  rintro _ H2 ⟨rfl, m2, hx2⟩
  refine ⟨m2.1, ?_⟩
  exact W_some.2 ⟨(p1.mut _).trans m2, hx2, SsV.nil _ _⟩
 | true =>
  simp only [hi, cond_true] at h
  by_cases h5 : 50 ≤ s.opn
  ·rw [if_pos h5] at h
   simp only [Option.some.injEq, Prod.mk.injEq] at h
   obtain ⟨rfl, rfl⟩ := h
   simp -implicitDefEqProofs (disch := first | assumption | omega | (simp only [nxB]; omega) | (simp only [oneB])) only [s74, xlen, AV.cells, splice, aload, astore, Nat.reduceAdd, Nat.reduceLeDiff, reduceIte, allB, Bool.not_true, hr, h5, decide_true]
   refine W_call (kfail_spec hx1 4) ?_
   rintro _ H2 ⟨rfl, m2, hx2⟩
   refine ⟨m2.1, ?_⟩
   exact W_some.2 ⟨(p1.mut _).trans m2, hx2, SsV.nil _ _⟩
  ·rw [if_neg h5] at h
   simp only [Option.bind_eq_some_iff] at h
   obtain ⟨⟨l1, s1⟩, h1, h2⟩ := h
   simp only [Option.some.injEq, Prod.mk.injEq] at h2
   obtain ⟨rfl, rfl⟩ := h2
   obtain ⟨m2, hd2⟩ := rset hx1.rd { s with at_ := w64 (s.at_ + 1), opn := w64 (s.opn + 1) }
   have hx2 := hx1.mut m2 hd2
   have lr1 := hx1.rd.lt
   simp -implicitDefEqProofs (disch := first | assumption | omega | (simp only [nxB]; omega) | (simp only [oneB])) only [s74, xlen, AV.cells, splice, aload, astore, Nat.reduceAdd, Nat.reduceLeDiff, reduceIte, allB, Bool.not_true, hr, h5, decide_false, ho1]
   refine W_call (until_spec ih hn hT hx2 h1) ?_
   rintro v H3 ⟨m3, hx3, hv⟩
   refine ⟨m3.1, ?_⟩
   have hr3 := hx3.rd
   have hr3' := hr3
   unfold Rd5 at hr3'
   obtain ⟨m4, hd4⟩ := rset hr3 (outS s1)
   have hx4 := hx3.mut m4 hd4
   simp -implicitDefEqProofs (disch := first | assumption | omega | (simp only [nxB]; omega) | (simp only [oneB])) only [s74, xlen, AV.cells, splice, aload, astore, Nat.reduceAdd, Nat.reduceLeDiff, reduceIte, allB, hr3', ho1, hr3.lt]
   refine W_call (kwants_spec hx4 [125]) ?_
   rintro _ H5 ⟨rfl, m5, hx5⟩
   have n1 := p1.1
   refine ⟨m5.1, ?_⟩
   exact W_some.2 ⟨((((p1.mut _).trans m2).trans m3).trans m4).trans m5, hx5, hv.keep (KeepS.mut (m4.trans m5) (by unfold Ge; simp only [AHeap.next_set]; omega) fun k hk => by unfold Ge at *; simp only [AHeap.next_set] at hk; omega)⟩
end Go.Proofs.YtghmbpmaafnodaaGreatDoor

namespace Go.Proofs.YtghmbpmaafnodaaGreatDoor
open Go.Ev
def KeepA (H : AHeap) (ok : Nat → Prop) (H' : AHeap) (ok' : Nat → Prop) : Prop := ∀ l b, ok l → H.get l = some b → ok' l ∧ H'.get l = some b
theorem KeepA.s {H H' : AHeap} {ok ok' : Nat → Prop} (h : KeepA H ok H' ok') : KeepS H ok H' ok' := ⟨fun l _ _ a b => h l _ a b, fun l _ _ a b => h l _ a b⟩
theorem KeepA.le {H : AHeap} {ok ok' : Nat → Prop} (h : ∀ l, ok l → ok' l) : KeepA H ok H ok' := fun l _ a b => ⟨h l a, b⟩
theorem KeepA.mut {H H' : AHeap} {ok : Nat → Prop} {S : Nat → Prop} (m : Mut S H H') (h : ∀ l, ok l → ¬ S l) : KeepA H ok H' ok := fun l _ a b => ⟨a, m.get b (h l a)⟩
theorem KeepA.pur {H H' : AHeap} {ok : Nat → Prop} (m : Pur H H') : KeepA H ok H' ok := fun _ _ a b => ⟨a, m.get b⟩
theorem KeepA.trans {H1 H2 H3 : AHeap} {a b c : Nat → Prop} (h : KeepA H1 a H2 b) (k : KeepA H2 b H3 c) : KeepA H1 a H3 c := fun l x y z => k l x (h l x y z).1 (h l x y z).2
structure Kd (α : Type) where
 esz : Nat
 V : AHeap → (Nat → Prop) → α → List AV → Prop
 len : ∀ {H ok a cs}, V H ok a cs → cs.length = esz ∧ cs.all AV.one = true
 keep : ∀ {H ok H' ok'} {a : α} {cs}, KeepA H ok H' ok' → V H ok a cs → V H' ok' a cs
section
variable {α : Type} {K : Kd α} {H H' : AHeap} {ok ok' : Nat → Prop}
def Bl (K : Kd α) (ok : Nat → Prop) (H : AHeap) (l : List α) (v : AV) : Prop := (v = .nilSl ∧ l = []) ∨ ∃ L els, v = .sl L 0 l.length K.esz none ∧ ok L ∧ H.get L = some (.row false K.esz els) ∧ els.length = l.length ∧ ∀ (i : Nat) (a : α), l[i]? = some a → ∃ cs, els[i]? = some cs ∧ K.V H (fun k => ok k ∧ k ≠ L) a cs
def Sl (K : Kd α) (H : AHeap) (ok : Nat → Prop) (l : List α) (v : AV) : Prop := (v = .nilSl ∧ l = []) ∨ (∃ L i cap ro els, v = .sl L i l.length K.esz (Option.map (· + l.length) cap) ∧ ok L ∧ H.get L = some (.row ro K.esz els) ∧ ∀ (j : Nat) (a : α), l[j]? = some a → ∃ cs, els[i + j]? = some cs ∧ K.V H ok a cs) ∨ ∃ L i cap, v = .sl L i 0 K.esz cap ∧ l = []
theorem Bl.one {l : List α} {v : AV} (h : Bl K ok H l v) : v.one = true := by
 rcases h with ⟨rfl, _⟩ | ⟨L, els, rfl, _⟩ <;> rfl
theorem Sl.one {l : List α} {v : AV} (h : Sl K H ok l v) : v.one = true := by
 rcases h with ⟨rfl, _⟩ | ⟨L, i, cap, ro, els, rfl, _⟩ | ⟨L, i, cap, rfl, _⟩ <;> rfl
theorem Bl.nil : Bl K ok H [] .nilSl := .inl ⟨rfl, rfl⟩
theorem Sl.nil : Sl K H ok [] .nilSl := .inl ⟨rfl, rfl⟩
theorem Bl.keep {l : List α} {v : AV} (p : KeepA H ok H' ok') (h : Bl K ok H l v) : Bl K ok' H' l v := by
 rcases h with h | ⟨L, els, e1, e2, e3, e4, e5⟩
 ·exact .inl h
 ·refine .inr ⟨L, els, e1, (p _ _ e2 e3).1, (p _ _ e2 e3).2, e4, fun i a hi => ?_⟩
  obtain ⟨cs, q1, q2⟩ := e5 i a hi
  exact ⟨cs, q1, K.keep (fun k b hk g => ⟨⟨(p _ _ hk.1 g).1, hk.2⟩, (p _ _ hk.1 g).2⟩) q2⟩
theorem Sl.keep {l : List α} {v : AV} (p : KeepA H ok H' ok') (h : Sl K H ok l v) : Sl K H' ok' l v := by
 rcases h with h | ⟨L, i, cap, ro, els, e1, e2, e3, e5⟩ | h
 ·exact .inl h
 ·refine .inr (.inl ⟨L, i, cap, ro, els, e1, (p _ _ e2 e3).1, (p _ _ e2 e3).2, fun j a hj => ?_⟩)
  obtain ⟨cs, q1, q2⟩ := e5 j a hj
  exact ⟨cs, q1, K.keep p q2⟩
 ·exact .inr (.inr h)
theorem Bl.sl {l : List α} {v : AV} (h : Bl K ok H l v) : Sl K H ok l v := by
 rcases h with h | ⟨L, els, e1, e2, e3, e4, e5⟩
 ·exact .inl h
 ·refine .inr (.inl ⟨L, 0, none, false, els, e1, e2, e3, fun j a hj => ?_⟩)
  obtain ⟨cs, q1, q2⟩ := e5 j a hj
  exact ⟨cs, by rw [Nat.zero_add]; exact q1, K.keep (KeepA.le fun _ h => h.1) q2⟩
structure LTy (t e esz : Nat) : Prop where
 un : P.underlying t = some (.slice e)
 ts : tySize P e = some esz
 by_ : ∃ b, tyBytes P e = some b ∧ b ≤ 200
 az : ∃ z, azero P e = some z ∧ z.cells.length = esz ∧ z.cells.all AV.one = true
 pos : 0 < esz ∧ esz ≤ 100
theorem ap_nil {t e esz : Nat} (y : LTy t e esz) {L : Nat} {cs : List AV} {cap : Option Nat} {ro : Bool} (hg : H.get L = some (.row ro esz [cs])) : aappend P H [t, t] .nilSl (.sl L 0 1 esz cap) = some (.sl H.next 0 1 esz none, H.push (.row false esz [cs])) := by
 obtain ⟨b, hb, hb'⟩ := y.by_
 obtain ⟨z, hz, hz', _⟩ := y.az
 have h1 : b ≤ 140737488355328 := by omega
 simp [aappend, y.un, y.ts, hb, hz, hz', y.pos.1, anews, aels, hg, h1]
theorem ap_sl {t e esz : Nat} (y : LTy t e esz) {L l n : Nat} {cs : List AV} {els : List (List AV)} {cap : Option Nat} {ro : Bool} (hg : H.get L = some (.row ro esz [cs])) (hl : H.get l = some (.row false esz els)) (hn : els.length = n) (hb : n ≤ 1000000000) : aappend P H [t, t] (.sl l 0 n esz none) (.sl L 0 1 esz cap) = some (.sl H.next 0 (n + 1) esz none, (H.set l .dead).push (.row false esz (els ++ [cs]))) := by
 obtain ⟨b, hb1, hb'⟩ := y.by_
 obtain ⟨z, hz, hz', _⟩ := y.az
 have h1 : (n + 1) * b ≤ 140737488355328 := Nat.le_trans (Nat.mul_le_mul_left (n + 1) hb') (by omega)
 have h2 : n + 1 ≤ 9223372036854775807 := by omega
 simp [aappend, y.un, y.ts, hb1, hz, hz', y.pos.1, anews, aels, hg, hl, hn, h1, h2]
 rw [List.take_of_length_le (by omega)]
theorem sl_one {t e esz : Nat} (y : LTy t e esz) (l : Nat) {cs : List AV} (h : cs.length = esz) (ho : cs.all AV.one = true) : sliceOf P l t 1 [(0, .agg cs)] = some (.sl l 0 1 esz (some 1), .row false esz [cs]) := by
 obtain ⟨z, hz, hz', hz2⟩ := y.az
 have h1 : 1 * esz ≤ 16777216 := by have := y.pos.2; omega
 have h2 : esz ≤ 16777216 := by have := y.pos.2; omega
 have hc : (AV.agg cs).cells = cs := rfl
 simp [sliceOf, y.un, y.ts, hz, hz', asetEls, h, ho, h2, hc]
 have hz3 : ∀ x ∈ z.cells, x.one = true := by simpa using hz2
 rw [decide_eq_true hz3]; rfl
theorem Bl.app {t e : Nat} (y : LTy t e K.esz) {l : List α} {v : AV} (h : Bl K ok H l v) {okE : Nat → Prop} {a : α} {cs : List AV} (he : K.V H okE a cs) (hE : ∀ k b, okE k → H.get k = some b → ok' k ∧ ∀ L, v = .sl L 0 l.length K.esz none → k ≠ L) (hk : ∀ k b, ok k → H.get k = some b → ok' k) (hn : ok' (H.next + 1)) (hl : l.length ≤ 1000000000) :
  ∃ v' H', aappend P (H.push (.row false K.esz [cs])) [t, t] v (.sl H.next 0 1 K.esz (some 1)) = some (v', H') ∧ Bl K ok' H' (l ++ [a]) v' ∧ H.next + 1 ≤ H'.next ∧ (∀ k, k < H.next → (∀ L, v = .sl L 0 l.length K.esz none → k ≠ L) → H'.get k = H.get k) := by
 have hg := AHeap.get_push_same H (.row false K.esz [cs])
 rcases h with ⟨rfl, rfl⟩ | ⟨L, els, rfl, e2, e3, e4, e5⟩
 ·refine ⟨_, _, ap_nil y hg, .inr ⟨_, [cs], rfl, by simpa only [AHeap.next_push] using hn, AHeap.get_push_same _ _, rfl, fun i b hi => ?_⟩, by simp only [AHeap.next_push]; omega, fun k hk _ => ?_⟩
  ·rcases i with _ | i
   ·cases hi
    refine ⟨cs, rfl, K.keep (fun k b hk g => ?_) he⟩
    have := AHeap.get_lt g
    exact ⟨⟨(hE k b hk g).1, by simp only [AHeap.next_push]; omega⟩, ((Pur.push _ _).then_push _).get g⟩
   ·simp at hi
  ·rw [AHeap.get_push_other (by simp only [AHeap.next_push]; omega), AHeap.get_push_other (by omega)]
 ·have lL := AHeap.get_lt e3
  have e3' := (Pur.push H (.row false K.esz [cs])).get e3
  have kp : ∀ k b, H.get k = some b → k ≠ L → (((H.push (.row false K.esz [cs])).set L .dead).push (.row false K.esz (els ++ [cs]))).get k = some b := fun k b g hk => by
   have := AHeap.get_lt g
   rw [AHeap.get_push_other (by simp only [AHeap.next_set, AHeap.next_push]; omega), AHeap.get_set_other (by omega), AHeap.get_push_other (by omega)]; exact g
  refine ⟨_, _, ap_sl y hg e3' e4 hl, .inr ⟨_, els ++ [cs], by rw [List.length_append]; rfl, by simpa only [AHeap.next_set, AHeap.next_push] using hn, AHeap.get_push_same _ _, by simp [e4], fun i b hi => ?_⟩, by simp only [AHeap.next_set, AHeap.next_push]; omega, fun k hk hne => ?_⟩
  ·by_cases hil : i < l.length
   ·rw [List.getElem?_append_left hil] at hi
    obtain ⟨c, q1, q2⟩ := e5 i b hi
    refine ⟨c, by rw [List.getElem?_append_left (by omega)]; exact q1, K.keep (fun k x hk' g => ?_) q2⟩
    have := AHeap.get_lt g
    exact ⟨⟨hk k x hk'.1 g, by simp only [AHeap.next_set, AHeap.next_push]; omega⟩, kp k x g hk'.2⟩
   ·rw [List.getElem?_append_right (by omega)] at hi
    have hi0 : i - l.length = 0 := by
     rcases hx : i - l.length with _ | z
     ·rfl
     ·rw [hx] at hi; simp at hi
    rw [hi0] at hi
    cases hi
    refine ⟨cs, by rw [List.getElem?_append_right (by omega), show i - els.length = 0 by omega]; rfl, K.keep (fun k x hk g => ?_) he⟩
    have := AHeap.get_lt g
    exact ⟨⟨(hE k x hk g).1, by simp only [AHeap.next_set, AHeap.next_push]; omega⟩, kp k x g ((hE k x hk g).2 L rfl)⟩
  ·rw [AHeap.get_push_other (by simp only [AHeap.next_set, AHeap.next_push]; omega), AHeap.get_set_other (by exact fun e => hne L rfl e.symm), AHeap.get_push_other (by omega)]
end
end Go.Proofs.YtghmbpmaafnodaaGreatDoor

namespace Go.Proofs.YtghmbpmaafnodaaGreatDoor
open Go.Ev
def lettI (c : Int) : Bool := (decide (97 ≤ c) && decide (c ≤ 122)) || (decide (65 ≤ c) && decide (c ≤ 90))
def diggI (c : Int) : Bool := decide (48 ≤ c) && decide (c ≤ 57)
def letB (b : UInt8) : Bool := lettI b.toNat
def digB (b : UInt8) : Bool := diggI b.toNat
def wordsL : List Bs := [[114, 101, 99, 111, 114, 100], [103, 108, 111, 98, 97, 108], [102, 117, 110, 99], [118, 97, 114], [108, 101, 116], [105, 102], [101, 108, 115, 101], [119, 104, 105, 108, 101], [114, 101, 116, 117, 114, 110], [112, 114, 105, 110, 116], [110, 117, 108, 108], [110, 101, 119], [108, 101, 110], [114, 101, 97, 100], [116, 114, 117, 101], [102, 97, 108, 115, 101], [105, 110, 116], [98, 111, 111, 108]]
def memB (x : Bs) : List Bs → Bool
 | [] => false
 | y :: ys => y == x || memB x ys
def wordB (x : Bs) : Bool := memB x wordsL
def allP : Bs → Bool
 | [] => true
 | c :: r => (letB c || digB c) && allP r
def nameB (x : Bs) : Bool := decide (1 ≤ x.length) && (decide (x.length ≤ 8) && (letB (x.headD 0) && (!wordB x && allP x)))
def runN (d : Bool) : Bs → Nat
 | [] => 0
 | c :: r => bif digB c || (!d && letB c) then runN d r + 1 else 0
def wholeN : Int → Bs → Option Int
 | n, [] => some n
 | n, c :: r => if (9223372036854775807 - ((c.toNat : Int) - 48)) / 10 < n then none else wholeN (10 * n + ((c.toNat : Int) - 48)) r
def twosL : List Bs := [[60, 61], [61, 61], [33, 61], [38, 38], [124, 124]]
def onesL : Bs := [123, 125, 40, 41, 91, 93, 59, 58, 44, 46, 61, 43, 45, 42, 47, 37, 60, 33]
def memC (c : UInt8) : Bs → Bool
 | [] => false
 | y :: ys => c.toNat == y.toNat || memC c ys
def signN (s : Bs) : Bs := bif decide (2 ≤ s.length) && memB (s.take 2) twosL then s.take 2 else match s with
 | c :: _ => bif memC c onesL then [c] else []
 | [] => []
def isBlank (c : UInt8) : Bool := c.toNat == 32 || (c.toNat == 9 || (c.toNat == 10 || c.toNat == 13))
def blankN : Bool → Bs → Nat
 | _, [] => 0
 | true, c :: r => bif c.toNat == 10 then blankN false r + 1 else blankN true r + 1
 | false, c :: r => bif isBlank c then blankN false r + 1 else bif c == 47 && r.head? == some 47 then blankN true r + 1 else 0
def oneN (s : Bs) : Option (Int × Bs × Int × Nat) := match s with
 | [] => none
 | c :: _ =>
  bif letB c then (bif wordB (s.take (runN false s)) then some (3, s.take (runN false s), 0, runN false s) else bif nameB (s.take (runN false s)) then some (1, s.take (runN false s), 0, runN false s) else none)
  else bif digB c then
   (match wholeN 0 (s.take (runN true s)) with
   | none => none
   | some v => bif (decide (1 < runN true s) && c.toNat == 48) || (decide (runN true s < s.length) && letB ((s[runN true s]?).getD 0)) then none else some (2, [], v, runN true s))
  else bif signN s == [] then none else some (4, signN s, 0, (signN s).length)
def lexL : Nat → Bs → Nat → Nat ⊕ List Tok
 | 0, _, p => .inl p
 | _ + 1, [], p => .inr [⟨0, [], 0, p⟩]
 | n + 1, c :: r, p => match oneN (c :: r) with
  | none => .inl p
  | some (k, t, v, m) => match lexL n (((c :: r).drop m).drop (blankN false ((c :: r).drop m))) (p + m + blankN false ((c :: r).drop m)) with
   | .inl e => .inl e
   | .inr l => .inr (⟨k, t, v, p⟩ :: l)
def lexS (s : Bs) : Nat ⊕ List Tok := lexL (s.length + 1) (s.drop (blankN false s)) (blankN false s)
def tokensS (s : Bs) : List Tok × Int × Int := if 6000 < s.length then ([], 4, 0) else match lexS s with
 | .inl e => ([], 1, e)
 | .inr l => (l, 0, 0)
end Go.Proofs.YtghmbpmaafnodaaGreatDoor

namespace Go.Proofs.YtghmbpmaafnodaaGreatDoor
open Go.Ev
structure Pm where
 name : Bs
 ofn : Bs
 ofd : Int
 pos : Int
structure Rc where
 name : Bs
 fields : List Pm
 pos : Int
structure Fn where
 name : Bs
 params : List Pm
 has : Bool
 rn : Bs
 rd : Int
 body : List Stm
 pos : Int
structure Pg where
 recs : List Rc
 globals : List Pm
 funcs : List Fn
def Pg.none : Pg := ⟨[], [], []⟩
def progE (g : Pg) (s : St) : Pg × Int × Int := if s.fe = 0 then (g, 0, 0) else (.none, s.fe, s.fa)
end Go.Proofs.YtghmbpmaafnodaaGreatDoor

namespace Go.Proofs.YtghmbpmaafnodaaGreatDoor
open Go.Ev
def TokOk (t : Tok) : Prop := (t.kind = 1 ∧ t.n = 0 ∧ nameB t.text = true) ∨ (t.kind = 3 ∧ t.n = 0 ∧ wordB t.text = true) ∨ (t.kind = 2 ∧ t.text = [] ∧ 0 ≤ t.n ∧ t.n ≤ 9223372036854775807) ∨ (t.kind = 4 ∧ t.n = 0 ∧ (memB t.text twosL = true ∨ ∃ c, t.text = [c] ∧ memC c onesL = true))
theorem digB_iff {c : UInt8} : digB c = true ↔ 48 ≤ c.toNat ∧ c.toNat ≤ 57 := by
 simp only [digB, diggI, Bool.and_eq_true, decide_eq_true_eq]; omega
theorem run_take {d : Bool} : ∀ s : Bs, ∀ c ∈ s.take (runN d s), (digB c || (!d && letB c)) = true
 | [], _, h => by simp [runN] at h
 | c :: r, x, h => by
  rw [runN] at h
  cases hc : (digB c || (!d && letB c)) with
  | false => rw [hc] at h; simp at h
  | true =>
   rw [hc] at h
   simp only [cond_true, List.take_succ_cons, List.mem_cons] at h
   rcases h with rfl | h
   ·exact hc
   ·exact run_take r x h
theorem wholeN_bd : ∀ (l : Bs) (a v : Int), (∀ c ∈ l, digB c = true) → 0 ≤ a → a ≤ 9223372036854775807 → wholeN a l = some v → 0 ≤ v ∧ v ≤ 9223372036854775807
 | [], a, v, _, h0, h1, h => by simp only [wholeN, Option.some.injEq] at h; omega
 | c :: r, a, v, hd, h0, h1, h => by
  rw [wholeN] at h
  have hc := digB_iff.1 (hd c (List.mem_cons_self))
  split at h
  ·cases h
  ·exact wholeN_bd r _ v (fun c hc => hd c (List.mem_cons_of_mem _ hc)) (by omega) (by omega) h
theorem one_ok {s : Bs} {t : Tok} {m : Nat} (h : oneN s = some (t.kind, t.text, t.n, m)) : TokOk t := by
 obtain ⟨k, x, z, p⟩ := t
 rcases s with _ | ⟨c, r⟩
 ·simp [oneN] at h
 rw [oneN] at h
 cases hl : letB c with
 | true =>
  rw [hl, cond_true] at h
  generalize (c :: r).take (runN false (c :: r)) = y at *
  cases hw : wordB y with
  | true =>
   rw [hw, cond_true] at h
   simp only [Option.some.injEq, Prod.mk.injEq] at h
   obtain ⟨rfl, rfl, rfl, -⟩ := h
   exact .inr (.inl ⟨rfl, rfl, hw⟩)
  | false =>
   rw [hw, cond_false] at h
   cases hn : nameB y with
   | false => rw [hn] at h; cases h
   | true =>
    rw [hn, cond_true] at h
    simp only [Option.some.injEq, Prod.mk.injEq] at h
    obtain ⟨rfl, rfl, rfl, -⟩ := h
    exact .inl ⟨rfl, rfl, hn⟩
 | false =>
  rw [hl, cond_false] at h
  cases hd : digB c with
  | true =>
   rw [hd, cond_true] at h
   have ha := run_take (d := true) (c :: r)
   cases hw : wholeN 0 ((c :: r).take (runN true (c :: r))) with
   | none => rw [hw] at h; cases h
   | some v =>
    rw [hw] at h
    simp only at h
    have hv := wholeN_bd _ 0 v (fun c hc => by simpa using ha c hc) (by omega) (by omega) hw
    cases hx : ((decide (1 < runN true (c :: r)) && c.toNat == 48) || (decide (runN true (c :: r) < (c :: r).length) && letB (((c :: r)[runN true (c :: r)]?).getD 0))) with
    | true => rw [hx] at h; cases h
    | false =>
     rw [hx] at h
     simp only [cond_false, Option.some.injEq, Prod.mk.injEq] at h
     obtain ⟨rfl, rfl, rfl, -⟩ := h
     exact .inr (.inr (.inl ⟨rfl, rfl, hv⟩))
  | false =>
   rw [hd, cond_false] at h
   cases hs : signN (c :: r) == [] with
   | true => rw [hs] at h; cases h
   | false =>
    rw [hs, cond_false] at h
    simp only [Option.some.injEq, Prod.mk.injEq] at h
    obtain ⟨rfl, rfl, rfl, -⟩ := h
    refine .inr (.inr (.inr ⟨rfl, rfl, ?_⟩))
    have hs' : (signN (c :: r) == []) = false := hs
    show memB (signN (c :: r)) twosL = true ∨ ∃ d, signN (c :: r) = [d] ∧ memC d onesL = true
    unfold signN at hs' ⊢
    cases h2 : (decide (2 ≤ (c :: r).length) && memB ((c :: r).take 2) twosL) with
    | true => rw [cond_true]; exact .inl (Bool.and_eq_true_iff.1 h2).2
    | false =>
     rw [h2] at hs'
     simp only [cond_false] at hs' ⊢
     cases h3 : memC c onesL with
     | false => rw [h3] at hs'; cases hs'
     | true => exact .inr ⟨c, rfl, h3⟩
theorem lexL_ok : ∀ (n : Nat) (s : Bs) (p : Nat) (l : List Tok), lexL n s p = .inr l → ∀ t ∈ l, TokOk t ∨ t.kind = 0
 | 0, _, _, _, h => by cases h
 | n + 1, [], p, l, h => by cases h; intro t ht; simp only [List.mem_cons, List.not_mem_nil, or_false] at ht; subst ht; exact .inr rfl
 | n + 1, c :: r, p, l, h => by
  rw [lexL] at h
  split at h
  ·cases h
  ·rename_i k t v m ho
   split at h
   ·cases h
   ·rename_i l' hl
    cases h
    intro u hu
    rcases List.mem_cons.1 hu with rfl | hu
    ·exact .inl (one_ok (t := ⟨k, t, v, p⟩) ho)
    ·exact lexL_ok n _ _ _ hl u hu
theorem tokens_ok {s : Bs} : ∀ t ∈ (tokensS s).1, TokOk t ∨ t.kind = 0 := by
 unfold tokensS
 split
 ·intro t ht; cases ht
 ·cases h : lexS s with
  | inl e => intro t ht; cases ht
  | inr l => exact lexL_ok _ _ _ _ h
end Go.Proofs.YtghmbpmaafnodaaGreatDoor

namespace Go.Proofs.YtghmbpmaafnodaaGreatDoor
open Go.Ev
def lvK (k : Int) : Nat := if k = 24 then 1 else if k = 23 then 2 else if 19 ≤ k ∧ k ≤ 22 then 3 else if k = 14 ∨ k = 15 then 4 else if 16 ≤ k ∧ k ≤ 18 then 5 else if k = 12 ∨ k = 13 then 6 else 7
def Ex.lv (e : Ex) : Nat := lvK e.kind
def OfOk (x : Bs) (d : Int) : Prop := 0 ≤ d ∧ d ≤ 3 ∧ (nameB x = true ∨ x = [105, 110, 116] ∨ x = [98, 111, 111, 108])
inductive WX : Nat → Nat → Ex → Prop
 | par {d m e} : WX d 0 e → e.lv < m → m ≤ 7 → WX (d + 1) m e
 | int {d m n p} : m ≤ 7 → 0 ≤ n → n ≤ 9223372036854775807 → WX d m (.mk { kind := 1, n := n, pos := p } [])
 | bool {d m n p} : m ≤ 7 → n = 0 ∨ n = 1 → WX d m (.mk { kind := 2, n := n, pos := p } [])
 | null {d m x z p} : m ≤ 7 → OfOk x z → WX d m (.mk { kind := 3, ofn := x, ofd := z, pos := p } [])
 | var {d m x p} : m ≤ 7 → nameB x = true → WX d m (.mk { kind := 4, name := x, pos := p } [])
 | field {d m x p e} : m ≤ 7 → nameB x = true → WX d 7 e → WX d m (.mk { kind := 5, name := x, pos := p } [e])
 | item {d m p e i} : m ≤ 7 → WX (d + 1) 7 e → WX d 0 i → WX (d + 1) m (.mk { kind := 6, pos := p } [e, i])
 | call {d m x p l} : m ≤ 7 → nameB x = true → (∀ e ∈ l, WX d 0 e) → WX (d + 1) m (.mk { kind := 7, name := x, pos := p } l)
 | new {d m x p} : m ≤ 7 → nameB x = true → WX d m (.mk { kind := 8, ofn := x, pos := p } [])
 | make {d m x z p e} : m ≤ 7 → OfOk x z → WX d 0 e → WX (d + 1) m (.mk { kind := 9, ofn := x, ofd := z, pos := p } [e])
 | len {d m p e} : m ≤ 7 → WX d 0 e → WX (d + 1) m (.mk { kind := 10, pos := p } [e])
 | read {d m p} : m ≤ 7 → WX (d + 1) m (.mk { kind := 11, pos := p } [])
 | sign {d m k p e} : m ≤ 6 → k = 12 ∨ k = 13 → WX d 6 e → WX (d + 1) m (.mk { kind := k, pos := p } [e])
 | bin {d m k p a b} : m ≤ lvK k → 14 ≤ k → k ≤ 24 → WX d (lvK k) a → WX d (lvK k + 1) b → WX d m (.mk { kind := k, pos := p } [a, b])
theorem lv_le (k : Int) : 1 ≤ lvK k ∧ lvK k ≤ 7 := by
 unfold lvK; (repeat' split) <;> omega
theorem WX.more {d m : Nat} {e : Ex} (h : WX d m e) : ∀ {d' : Nat}, d ≤ d' → WX d' m e := by
 induction h with
 | par _ h2 h3 ih => intro d' hd; obtain ⟨k, rfl⟩ : ∃ k, d' = k + 1 := ⟨d' - 1, by omega⟩; exact .par (ih (by omega)) h2 h3
 | int h0 h1 h2 => intro d' _; exact .int h0 h1 h2
 | bool h0 h1 => intro d' _; exact .bool h0 h1
 | null h0 h1 => intro d' _; exact .null h0 h1
 | var h0 h1 => intro d' _; exact .var h0 h1
 | field h0 h1 _ ih => intro d' hd; exact .field h0 h1 (ih hd)
 | item h0 _ _ ih1 ih2 => intro d' hd; obtain ⟨k, rfl⟩ : ∃ k, d' = k + 1 := ⟨d' - 1, by omega⟩; exact .item h0 (ih1 hd) (ih2 (by omega))
 | call h0 h1 _ ih => intro d' hd; obtain ⟨k, rfl⟩ : ∃ k, d' = k + 1 := ⟨d' - 1, by omega⟩; exact .call h0 h1 fun e he => ih e he (by omega)
 | new h0 h1 => intro d' _; exact .new h0 h1
 | make h0 h1 _ ih => intro d' hd; obtain ⟨k, rfl⟩ : ∃ k, d' = k + 1 := ⟨d' - 1, by omega⟩; exact .make h0 h1 (ih (by omega))
 | len h0 _ ih => intro d' hd; obtain ⟨k, rfl⟩ : ∃ k, d' = k + 1 := ⟨d' - 1, by omega⟩; exact .len h0 (ih (by omega))
 | read h0 => intro d' hd; obtain ⟨k, rfl⟩ : ∃ k, d' = k + 1 := ⟨d' - 1, by omega⟩; exact .read h0
 | sign h0 h1 _ ih => intro d' hd; obtain ⟨k, rfl⟩ : ∃ k, d' = k + 1 := ⟨d' - 1, by omega⟩; exact .sign h0 h1 (ih (by omega))
 | bin h0 h1 h2 _ _ ih1 ih2 => intro d' hd; exact .bin h0 h1 h2 (ih1 hd) (ih2 hd)
theorem WX.at {d m : Nat} {e : Ex} (h : WX d 0 e) (hm : m ≤ e.lv) : WX d m e := by
 have h7 := (lv_le e.kind).2
 have hm7 : m ≤ 7 := Nat.le_trans hm h7
 cases h with
 | par _ h _ => omega
 | int h0 h1 h2 => exact .int hm7 h1 h2
 | bool h0 h1 => exact .bool hm7 h1
 | null h0 h1 => exact .null hm7 h1
 | var h0 h1 => exact .var hm7 h1
 | field h0 h1 h2 => exact .field hm7 h1 h2
 | item h0 h1 h2 => exact .item hm7 h1 h2
 | call h0 h1 h2 => exact .call hm7 h1 h2
 | new h0 h1 => exact .new hm7 h1
 | make h0 h1 h2 => exact .make hm7 h1 h2
 | len h0 h1 => exact .len hm7 h1
 | read h0 => exact .read hm7
 | sign h0 h1 h2 => exact .sign (by rcases h1 with rfl | rfl <;> exact hm) h1 h2
 | bin h0 h1 h2 h3 h4 => exact .bin hm h1 h2 h3 h4
theorem WX.low {d m : Nat} {e : Ex} (h : WX d m e) {m' : Nat} (hm : m' ≤ m) : WX d m' e := by
 cases h with
 | par h1 h2 h3 =>
  by_cases hc : e.lv < m'
  ·exact .par h1 hc (by omega)
  ·exact (h1.at (by omega)).more (Nat.le_succ _)
 | int h0 h1 h2 => exact .int (by omega) h1 h2
 | bool h0 h1 => exact .bool (by omega) h1
 | null h0 h1 => exact .null (by omega) h1
 | var h0 h1 => exact .var (by omega) h1
 | field h0 h1 h2 => exact .field (by omega) h1 h2
 | item h0 h1 h2 => exact .item (by omega) h1 h2
 | call h0 h1 h2 => exact .call (by omega) h1 h2
 | new h0 h1 => exact .new (by omega) h1
 | make h0 h1 h2 => exact .make (by omega) h1 h2
 | len h0 h1 => exact .len (by omega) h1
 | read h0 => exact .read (by omega)
 | sign h0 h1 h2 => exact .sign (by omega) h1 h2
 | bin h0 h1 h2 h3 h4 => exact .bin (by omega) h1 h2 h3 h4
theorem WX.up {d : Nat} {e : Ex} (h : WX d 0 e) {m : Nat} (hm : m ≤ 7) : WX (d + 1) m e := by
 by_cases hc : e.lv < m
 ·exact .par h hc hm
 ·exact (h.at (by omega)).more (Nat.le_succ _)
mutual
def wE : Ex → Nat
 | .mk a kids => 40 + a.name.length + a.ofn.length + wL kids
def wL : List Ex → Nat
 | [] => 0
 | e :: r => wE e + wL r
end
theorem wL_app : ∀ (l : List Ex) (e : Ex), wL (l ++ [e]) = wL l + wE e
 | [], e => by simp [wL]
 | x :: l, e => by rw [List.cons_append, wL, wL_app l e, wL]; omega
structure In (E : Int) (s : St) : Prop where
 a : 0 ≤ s.at_
 b : s.at_ ≤ E
 c : 0 ≤ s.opn
 d : s.opn ≤ 50
structure Fw (E : Int) (s s' : St) (k : Int) : Prop where
 f : s.fe = 0
 f' : s'.fe = 0
 o : s'.opn = s.opn
 a : s.at_ + k ≤ s'.at_
 b : s'.at_ ≤ E
structure Good (T : List Tok) (E : Int) : Prop where
 n : E ≤ 20000000
 lt : ∀ a, (tokAt T a).kind ≠ 0 → a < E
 t : ∀ t ∈ T, TokOk t ∨ t.kind = 0
section
variable {T : List Tok} {E : Int} {s s' s2 : St}
theorem Fw.trans {k l : Int} (h : Fw E s s' k) (h' : Fw E s' s2 l) : Fw E s s2 (k + l) := ⟨h.f, h'.f', h'.o.trans h.o, by have := h.a; have := h'.a; omega, h'.b⟩
theorem Fw.less {k l : Int} (h : Fw E s s' k) (hl : l ≤ k) : Fw E s s' l := ⟨h.f, h.f', h.o, by have := h.a; omega, h.b⟩
theorem Fw.in {k : Int} (hi : In E s) (h : Fw E s s' k) (hk : 0 ≤ k) : In E s' := ⟨by have := h.a; have := hi.a; omega, h.b, by rw [h.o]; exact hi.c, by rw [h.o]; exact hi.d⟩
theorem Fw.refl (hi : In E s) (h : s.fe = 0) : Fw E s s 0 := ⟨h, h, rfl, by omega, hi.b⟩
theorem tok_in {a : Int} (h : (tokAt T a).kind ≠ 0) : 0 ≤ a ∧ a < T.length ∧ tokAt T a ∈ T := by
 unfold tokAt at h ⊢
 split at h
 ·exact absurd rfl h
 ·rename_i hc
  have : a.toNat < T.length := by omega
  rw [if_neg hc, List.getElem?_eq_getElem this, Option.getD_some]
  exact ⟨by omega, by omega, List.getElem_mem _⟩
theorem tok_ok (hT : Good T E) {a : Int} (h : (tokAt T a).kind ≠ 0) : TokOk (tokAt T a) := (hT.t _ (tok_in h).2.2).resolve_right h
theorem tok_name (hT : Good T E) {a : Int} (h : (tokAt T a).kind = 1) : nameB (tokAt T a).text = true := by
 rcases tok_ok hT (a := a) (by omega) with h' | h' | h' | h'
 ·exact h'.2.2
 all_goals omega
theorem tok_int (hT : Good T E) {a : Int} (h : (tokAt T a).kind = 2) : 0 ≤ (tokAt T a).n ∧ (tokAt T a).n ≤ 9223372036854775807 := by
 rcases tok_ok hT (a := a) (by omega) with h' | h' | h' | h'
 ·omega
 ·omega
 ·exact h'.2.2
 ·omega
theorem go_ok (hT : Good T E) (hi : In E s) (hf : s.fe = 0) (h : (tokAt T s.at_).kind ≠ 0) : goS s = { s with at_ := s.at_ + 1 } ∧ Fw E s (goS s) 1 := by
 have hin := hT.lt _ h
 have hn := hT.n
 have hia := hi.a
 have e : goS s = { s with at_ := s.at_ + 1 } := by
  unfold goS w64
  rw [IntWalk.i64_in _ ⟨by omega, by omega⟩]
 refine ⟨e, ?_⟩
 rw [e]
 exact ⟨hf, hf, rfl, by simp, by simp only; omega⟩
theorem fail_bad {e : Int} (he : e ≠ 0) : (failS T e s).fe ≠ 0 := by
 unfold failS
 split
 ·exact he
 ·assumption
theorem isR_kind {x : Bs} (h : isR T s x = true) : s.fe = 0 ∧ (tokAt T s.at_).kind = kw x ∧ (tokAt T s.at_).text = x := isB_kind h
theorem kw_ne (x : Bs) : kw x ≠ 0 := by
 unfold kw
 split
 ·split <;> decide
 ·decide
theorem isR_go (hT : Good T E) (hi : In E s) {x : Bs} (h : isR T s x = true) : Fw E s (goS s) 1 := by
 obtain ⟨h1, h2, -⟩ := isR_kind h
 exact (go_ok hT hi h1 (by rw [h2]; exact kw_ne x)).2
abbrev Inn (E : Int) (s : St) : Prop := s.fe = 0 → In E s
theorem Fw.inn {k : Int} (hi : Inn E s) (h : Fw E s s' k) (hk : 0 ≤ k) : Inn E s' := fun _ => h.in (hi h.f) hk
theorem take_ok (hT : Good T E) (hi : Inn E s) {x : Bs} (h : (takeR T x s).fe = 0) : isR T s x = true ∧ takeR T x s = goS s ∧ Fw E s (takeR T x s) 1 := by
 unfold takeR at h ⊢
 cases hx : isR T s x with
 | true => rw [cond_true]; exact ⟨rfl, rfl, isR_go hT (hi (isR_kind hx).1) hx⟩
 | false => rw [hx, cond_false] at h; exact absurd h (fail_bad (by decide))
theorem name_ok (hT : Good T E) (hi : Inn E s) (h : (nameR T s).2.fe = 0) : nameB (nameR T s).1 = true ∧ Fw E s (nameR T s).2 1 := by
 unfold nameR at h ⊢
 cases hx : (s.fe == 0 && (tokAt T s.at_).kind == 1) with
 | true =>
  simp only [Bool.and_eq_true, beq_iff_eq] at hx
  rw [cond_true]
  exact ⟨tok_name hT hx.2, (go_ok hT (hi hx.1) hx.1 (by omega)).2⟩
 | false => rw [hx, cond_false] at h; exact absurd h (fail_bad (by decide))
theorem name_len {x : Bs} (h : nameB x = true) : x.length ≤ 8 := by
 simp only [nameB, Bool.and_eq_true, decide_eq_true_eq] at h
 exact h.2.1
theorem of_len {x : Bs} {d : Int} (h : OfOk x d) : x.length ≤ 8 := by
 rcases h.2.2 with h | rfl | rfl
 ·exact name_len h
 ·decide
 ·decide
theorem opens_ok (hT : Good T E) (hi : Inn E s) {x : Bs} (h : (opensR T x s).fe = 0) : isR T s x = true ∧ s.fe = 0 ∧ (opensR T x s).opn = s.opn + 1 ∧ (opensR T x s).at_ = s.at_ + 1 ∧ In E (opensR T x s) ∧ s.opn + 1 ≤ 50 := by
 unfold opensR at h ⊢
 cases hx : isR T s x && decide (50 ≤ s.opn) with
 | true => rw [hx, cond_true] at h; exact absurd h (fail_bad (by decide))
 | false =>
  rw [hx, cond_false] at h
  rw [cond_false]
  have h' : (takeR T x s).fe = 0 := h
  obtain ⟨h1, h2, h3⟩ := take_ok hT hi h'
  obtain ⟨k1, k2, -⟩ := isR_kind h1
  have hi := hi k1
  obtain ⟨g1, -⟩ := go_ok hT hi k1 (by rw [k2]; exact kw_ne x)
  rw [h1, Bool.true_and] at hx
  have ho : s.opn < 50 := by have := of_decide_eq_false hx; omega
  have hc := hi.c
  have e : w64 (s.opn + 1) = s.opn + 1 := IntWalk.i64_in _ ⟨by omega, by omega⟩
  have h3a := h3.a
  have h3b := h3.b
  have hia := hi.a
  rw [h2, g1] at h3a h3b ⊢
  simp only [inS, e] at h3a h3b ⊢
  exact ⟨h1, k1, trivial, trivial, ⟨by simp only; omega, by simp only; omega, by simp only; omega, by simp only; omega⟩, by omega⟩
theorem outS_eq (hi : In E s) : outS s = { s with opn := s.opn - 1 } := by
 have := hi.c
 have := hi.d
 unfold outS w64
 rw [IntWalk.i64_in _ ⟨by omega, by omega⟩]
theorem closes_ok (hT : Good T E) {k : Int} (hk : 0 ≤ k) (ho : s.opn + 1 = s'.opn) (ha : s.at_ + 1 = s'.at_) (hf : s.fe = 0) (hi' : In E s') (hw : Fw E s' s2 k) {x : Bs} (h : (closesR T x s2).fe = 0) : Fw E s (closesR T x s2) (k + 2) := by
 have h' : (takeR T x s2).fe = 0 := h
 have hi2 := hw.in hi' hk
 obtain ⟨h1, h2, h3⟩ := take_ok hT (fun _ => hi2) h'
 have hi3 := h3.in hi2 (by omega)
 unfold closesR at h ⊢
 rw [outS_eq hi3] at h ⊢
 have a1 := hw.a
 have a2 := h3.a
 have o1 := hw.o
 have o2 := h3.o
 exact ⟨hf, h, by simp only; omega, by simp only; omega, h3.b⟩
theorem takeN_ok (hT : Good T E) {x : Bs} : ∀ (n : Nat) (s : St), Inn E s → (takeN T x n s).fe = 0 → Fw E s (takeN T x n s) n
 | 0, s, hi, h => .refl (hi h) h
 | n + 1, s, hi, h => by
  have hb : (takeR T x s).fe = 0 := by
   by_cases hb : (takeR T x s).fe = 0
   ·exact hb
   ·exfalso
    have key : ∀ (n : Nat) (s : St), s.fe ≠ 0 → (takeN T x n s).fe ≠ 0 := by
     intro n
     induction n with
     | zero => intro s hs; exact hs
     | succ n ih => intro s hs; exact ih _ (by unfold takeR; rw [isR_failed hs, cond_false, failS_failed hs]; exact hs)
    exact key n _ hb h
  obtain ⟨-, -, h3⟩ := take_ok hT hi hb
  have := h3.trans (takeN_ok hT n _ (h3.inn hi (by omega)) h)
  exact this.less (by omega)
theorem ofRL_ok (hT : Good T E) : ∀ (n : Nat) (d : Int) (s : St) {q : Int × St}, In E s → 0 ≤ d → ofRL T n d s = .inl q → s.fe = 0 → d ≤ q.1 ∧ q.1 ≤ d + n ∧ Fw E s q.2 (q.1 - d) ∧ isR T q.2 [91] = false
 | 0, d, s, q, hi, hd, h, hf => by
  rw [ofRL] at h
  cases hx : isR T s [91] with
  | true => rw [hx, cond_true] at h; cases h
  | false =>
   rw [hx, cond_false] at h
   cases h
   exact ⟨Int.le_refl _, by simp, (Fw.refl hi hf).less (by simp), hx⟩
 | n + 1, d, s, q, hi, hd, h, hf => by
  rw [ofRL] at h
  cases hx : isR T s [91] with
  | true =>
   rw [hx, cond_true] at h
   have hg := isR_go hT hi hx
   obtain ⟨h1, h2, h3, h4⟩ := ofRL_ok hT n (d + 1) _ (hg.in hi (by omega)) (by omega) h hg.f'
   exact ⟨by omega, by omega, (hg.trans h3).less (by omega), h4⟩
  | false =>
   rw [hx, cond_false] at h
   cases h
   exact ⟨Int.le_refl _, by omega, (Fw.refl hi hf).less (by simp), hx⟩
theorem ofRL_bad : ∀ (n : Nat) (d : Int) (s : St), s.fe ≠ 0 → ofRL T n d s = .inl (d, s)
 | 0, d, s, h => by rw [ofRL, isR_failed h]; rfl
 | n + 1, d, s, h => by rw [ofRL, isR_failed h]; rfl
theorem takeN_bad {x : Bs} : ∀ (n : Nat) (s : St), s.fe ≠ 0 → (takeN T x n s).fe ≠ 0
 | 0, s, hs => hs
 | n + 1, s, hs => takeN_bad n _ (by unfold takeR; rw [isR_failed hs, cond_false, failS_failed hs]; exact hs)
theorem of_ok (hT : Good T E) (hi : Inn E s) (h : (ofR T s).2.fe = 0) : OfOk (ofR T s).1.1 (ofR T s).1.2 ∧ Fw E s (ofR T s).2 1 := by
 have hf : s.fe = 0 := by
  by_cases hf : s.fe = 0
  ·exact hf
  ·exfalso
   unfold ofR at h
   rw [ofRL_bad 3 0 s hf] at h
   simp only [ofRE, isR_failed hf, Bool.or_self, cond_false, nameR_failed hf] at h
   exact takeN_bad _ _ hf h
 have hi := hi hf
 unfold ofR at h ⊢
 cases hq : ofRL T 3 0 s with
 | inr s' =>
  exfalso
  rw [hq] at h
  have key : ∀ (n : Nat) (d : Int) (s : St) {s' : St}, ofRL T n d s = .inr s' → s'.fe ≠ 0 := by
   intro n
   induction n with
   | zero =>
    intro d s s' h
    rw [ofRL] at h
    cases hx : isR T s [91] <;> rw [hx] at h <;> cases h
    exact fail_bad (by decide)
   | succ n ih =>
    intro d s s' h
    rw [ofRL] at h
    cases hx : isR T s [91] <;> rw [hx] at h
    ·cases h
    ·exact ih _ _ h
  exact key _ _ _ hq h
 | inl q =>
  obtain ⟨h1, h2, h3, -⟩ := ofRL_ok hT 3 0 s hi (by omega) hq hf
  rw [hq] at h
  obtain ⟨d, s1⟩ := q
  simp only at h h1 h2 h3 ⊢
  have hi1 := h3.in hi (by omega)
  unfold ofRE at h ⊢
  cases hx : isR T s1 [105, 110, 116] || isR T s1 [98, 111, 111, 108] with
  | true =>
   rw [hx, cond_true] at h
   rw [cond_true]
   have hg : Fw E s1 (goS s1) 1 ∧ ((tokAt T s1.at_).text = [105, 110, 116] ∨ (tokAt T s1.at_).text = [98, 111, 111, 108]) := by
    rcases Bool.or_eq_true_iff.1 hx with hx | hx
    ·exact ⟨isR_go hT hi1 hx, .inl (isR_kind hx).2.2⟩
    ·exact ⟨isR_go hT hi1 hx, .inr (isR_kind hx).2.2⟩
   have hn := takeN_ok hT _ _ (hg.1.inn (fun _ => hi1) (by omega)) h
   exact ⟨⟨h1, by simpa using h2, .inr hg.2⟩, ((h3.trans hg.1).trans hn).less (by omega)⟩
  | false =>
   rw [hx, cond_false] at h
   rw [cond_false]
   have hb : (nameR T s1).2.fe = 0 := by
    by_cases hb : (nameR T s1).2.fe = 0
    ·exact hb
    ·exact absurd h (takeN_bad _ _ hb)
   obtain ⟨n1, n2⟩ := name_ok hT (fun _ => hi1) hb
   have hn := takeN_ok hT _ _ (n2.inn (fun _ => hi1) (by omega)) h
   exact ⟨⟨h1, by simpa using h2, .inl n1⟩, ((h3.trans n2).trans hn).less (by omega)⟩
end
end Go.Proofs.YtghmbpmaafnodaaGreatDoor


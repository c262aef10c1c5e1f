/-
  Texts of one proof, laid together: Y2 Y3 Y4 Y5 Y6 Y7.
-/
import Derived.Test.YtnjoomfeddamcaaMI
import Derived.Test.YtnjoomfeddamcaaMG
set_option linter.unusedVariables false
set_option linter.unusedSimpArgs false
namespace Go.Proofs.Ytnjoomfeddamcaa
open Go.Ev
theorem sl108_5 (l : Nat) (l1 l2 l3 l4 l5 : Nat) : sliceOf P l 108 5 [(0, .sl l1 0 1 1 (some 1)), (1, .sl l2 0 1 1 (some 1)), (2, .sl l3 0 4 1 (some 4)), (3, .sl l4 0 2 1 (some 2)), (4, .sl l5 0 3 1 (some 3))] =
  some (.sl l 0 5 1 (some 5), .row false 1 [[.sl l1 0 1 1 (some 1)], [.sl l2 0 1 1 (some 1)], [.sl l3 0 4 1 (some 4)], [.sl l4 0 2 1 (some 2)], [.sl l5 0 3 1 (some 3)]]) := by kernel_rfl
theorem sl109_5 (l : Nat) (l1 l2 l3 l4 l5 : Nat) : sliceOf P l 109 5 [(0, .sl l1 0 1 1 (some 1)), (1, .sl l2 0 1 1 (some 1)), (2, .sl l3 0 4 1 (some 4)), (3, .sl l4 0 2 1 (some 2)), (4, .sl l5 0 3 1 (some 3))] =
  some (.sl l 0 5 1 (some 5), .row false 1 [[.sl l1 0 1 1 (some 1)], [.sl l2 0 1 1 (some 1)], [.sl l3 0 4 1 (some 4)], [.sl l4 0 2 1 (some 2)], [.sl l5 0 3 1 (some 3)]]) := by kernel_rfl
theorem level_loop {H0 H : AHeap} (p0 : Pur H0 H) {b S K Ls Lk : Nat} {t : Tok} (hb : H.get b = some (.row false 4 [[.int .i64 t.kind, .str t.text, .int .i64 t.n, .int .i64 t.pos]])) {sr kr : List (List AV)} (hS : H.get S = some (.row false 1 sr)) (hK : H.get K = some (.row false 1 kr)) {lev : Nat} (hlev : lev < 5) (all : List (Bs × Int)) (hA : all.length ≤ 1000) {cs ck : Option Nat}
  (hs : sr[lev]? = some [.sl Ls 0 all.length 1 cs]) (hk : kr[lev]? = some [.sl Lk 0 all.length 1 ck]) (hLs : H.get Ls = some (.row false 1 (all.map fun p => [AV.str p.1]))) (hLk : H.get Lk = some (.row false 1 (all.map fun p => [AV.int .i64 p.2]))) (N : Nat) :
  ∀ (rest pre : List (Bs × Int)), all = pre ++ rest → ∀ (n : Nat), rest.length < n →
   W (s70_l1 (evw P) N n (.int .i64 lev) (.ptr b 0 0) (.sl S 0 5 1 (some 5)) (.sl K 0 5 1 (some 5)) (.int .i64 pre.length) H) fun v H' => v = .int .i64 (levL t.text rest) ∧ Pur H0 H' := by
 have h0 : (0 : Int) ≤ (lev : Int) := by omega
 have h5 : (lev : Int) < ((5 : Nat) : Int) := by omega
 have ht : ((lev : Int)).toNat = lev := by omega
 have i1 : aindexAddr P 108 (.sl S 0 5 1 (some 5)) (.int .i64 (lev : Int)) = some (.ptr S lev 0) := by rw [ia108 h0 h5, ht, Nat.zero_add]
 have i2 : aindexAddr P 109 (.sl K 0 5 1 (some 5)) (.int .i64 (lev : Int)) = some (.ptr K lev 0) := by rw [ia109 h0 h5, ht, Nat.zero_add]
 intro rest
 induction rest with
 | nil =>
  intro pre hp n hn
  obtain ⟨n, rfl⟩ : ∃ k, n = k + 1 := ⟨n - 1, by simp at hn; omega⟩
  have h1 : ¬ ((pre.length : Int) < (all.length : Int)) := by rw [hp]; simp
  simp -implicitDefEqProofs (disch := first | assumption | omega | (simp only [nxB]; omega) | (simp only [oneB])) only [s70_l1, s70_j0, s70_b1, s70, xlen, AV.cells, splice, aload, astore, Nat.reduceAdd, Nat.reduceLeDiff, reduceIte, allB, ta46, ta48, i1, hS, hs, h1, decide_false]
  exact W_some.2 ⟨rfl, p0⟩
 | cons q rest ih =>
  intro pre hp n hn
  obtain ⟨x, k⟩ := q
  obtain ⟨n, rfl⟩ : ∃ k, n = k + 1 := ⟨n - 1, by simp at hn; omega⟩
  have h1 : (pre.length : Int) < (all.length : Int) := by rw [hp]; simp; omega
  have hp0 : (0 : Int) ≤ (pre.length : Int) := by omega
  have e1 : ((pre.length : Int)).toNat = pre.length := by omega
  have ea : all[pre.length]? = some (x, k) := by rw [hp]; simp
  have i3 : aindexAddr P 46 (.sl Ls 0 all.length 1 cs) (.int .i64 (pre.length : Int)) = some (.ptr Ls pre.length 0) := by rw [ia46 hp0 h1, e1, Nat.zero_add]
  have i4 : aindexAddr P 48 (.sl Lk 0 all.length 1 ck) (.int .i64 (pre.length : Int)) = some (.ptr Lk pre.length 0) := by rw [ia48 hp0 h1, e1, Nat.zero_add]
  have g1 : (all.map fun p => [AV.str p.1])[pre.length]? = some [.str x] := by rw [List.getElem?_map, ea]; rfl
  have g2 : (all.map fun p => [AV.int .i64 p.2])[pre.length]? = some [.int .i64 k] := by rw [List.getElem?_map, ea]; rfl
  cases hx : x == t.text with
  | true =>
   simp -implicitDefEqProofs (disch := first | assumption | omega | (simp only [nxB]; omega) | (simp only [oneB])) only [s70_l1, s70_j0, s70_b1, s70, xlen, AV.cells, splice, aload, astore, Nat.reduceAdd, Nat.reduceLeDiff, reduceIte, allB, ta46, ta48, i1, i2, i3, i4, hS, hK, hs, hk, hLs, hLk, g1, g2, hb, h1, decide_true, hx]
   exact W_some.2 ⟨by simp [levL, hx], p0⟩
  | false =>
   have hw : IntKind.i64.wrap ((pre.length : Int) + 1) = ((pre ++ [(x, k)]).length : Int) := by
    have hlt : pre.length < all.length := by omega
    rw [wrap_i64 (by omega) (by omega)]; simp
   simp -implicitDefEqProofs (disch := first | assumption | omega | (simp only [nxB]; omega) | (simp only [oneB])) only [s70_l1, s70_j0, s70_b1, s70, xlen, AV.cells, splice, aload, astore, Nat.reduceAdd, Nat.reduceLeDiff, reduceIte, allB, ta46, ta48, i1, i3, hS, hs, hLs, g1, hb, h1, decide_true, hx, hw]
   refine (ih (pre ++ [(x, k)]) (by simp [hp]) n (by simp at hn; omega)).mono ?_
   rintro v H' ⟨rfl, q⟩
   exact ⟨by simp [levL, hx], q⟩
set_option maxHeartbeats 1000000 in
theorem level_spec {H : AHeap} (lev : Nat) (hlev : lev < 5) (t : Tok) : W (evw P 70 [.int .i64 lev, t.v] H) fun v H' => v = .int .i64 (levR lev t) ∧ Pur H H' := by
 refine W_of (fun _ => run70 10) ?_
 have hbx : ∀ l, boxOf l t.v = some (.ptr l 0 0, .row false 4 [[.int .i64 t.kind, .str t.text, .int .i64 t.n, .int .i64 t.pos]]) := fun l => boxOf_agg l _ rfl
 cases hk : t.kind != 4 with
 | true =>
  simp -implicitDefEqProofs (disch := first | assumption | omega | (simp only [nxB]; omega) | (simp only [oneB])) only [s70_j0, s70_b1, s70, xlen, AV.cells, splice, aload, astore, Nat.reduceAdd, Nat.reduceLeDiff, reduceIte, allB, hbx, hk]
  exact W_some.2 ⟨by simp [levR, hk], Pur.push _ _⟩
 | false =>
  simp -implicitDefEqProofs (disch := first | assumption | omega | (simp only [nxB]; omega) | (simp only [oneB])) only [s70_j0, s70, xlen, AV.cells, splice, aload, astore, Nat.reduceAdd, Nat.reduceLeDiff, reduceIte, allB, hbx, hk, sl108_5, sl109_5]
  obtain ⟨all, hall⟩ : ∃ all, lvls[lev]? = some all := ⟨lvls[lev]'(by simpa [lvls] using hlev), by simp [lvls]⟩
  have hlt : all.length < 10 := by
   have : ∀ a ∈ lvls, a.length < 10 := by decide
   exact this all (List.mem_of_getElem? hall)
  have key : ∀ (Hf : AHeap), Pur H Hf → Hf.get H.next = some (.row false 4 [[.int .i64 t.kind, .str t.text, .int .i64 t.n, .int .i64 t.pos]]) → ∀ (S K Ls Lk : Nat) (sr kr : List (List AV)) (cs ck : Option Nat), Hf.get S = some (.row false 1 sr) → Hf.get K = some (.row false 1 kr) → sr[lev]? = some [.sl Ls 0 all.length 1 cs] → kr[lev]? = some [.sl Lk 0 all.length 1 ck] →
    Hf.get Ls = some (.row false 1 (all.map fun p => [AV.str p.1])) → Hf.get Lk = some (.row false 1 (all.map fun p => [AV.int .i64 p.2])) →
    W (s70_l1 (evw P) 10 10 (.int .i64 lev) (.ptr H.next 0 0) (.sl S 0 5 1 (some 5)) (.sl K 0 5 1 (some 5)) (.int .i64 0) Hf) fun v H' => v = .int .i64 (levR lev t) ∧ Pur H H' := by
   intro Hf p hb S K Ls Lk sr kr cs ck h1 h2 h3 h4 h5 h6
   refine (level_loop p hb h1 h2 hlev all (by omega) h3 h4 h5 h6 10 all [] rfl 10 hlt).mono ?_
   rintro v H' ⟨rfl, q⟩
   exact ⟨by simp [levR, hk, hall], q⟩
  have h5 : lev = 0 ∨ lev = 1 ∨ lev = 2 ∨ lev = 3 ∨ lev = 4 := by omega
  rcases h5 with rfl | rfl | rfl | rfl | rfl <;> (simp only [lvls, List.getElem?_cons_zero, List.getElem?_cons_succ, Option.some.injEq] at hall; subst hall)
  ·refine key _ ?_ ?_ (H.next + 1 + 1 + 1 + 1 + 1 + 1) (H.next + 1 + 1 + 1 + 1 + 1 + 1 + 1 + 1 + 1 + 1 + 1 + 1) (H.next + 1) (H.next + 1 + 1 + 1 + 1 + 1 + 1 + 1) [[.sl (H.next + 1) 0 1 1 (some 1)], [.sl (H.next + 1 + 1) 0 1 1 (some 1)], [.sl (H.next + 1 + 1 + 1) 0 4 1 (some 4)], [.sl (H.next + 1 + 1 + 1 + 1) 0 2 1 (some 2)], [.sl (H.next + 1 + 1 + 1 + 1 + 1) 0 3 1 (some 3)]] [[.sl (H.next + 1 + 1 + 1 + 1 + 1 + 1 + 1) 0 1 1 (some 1)], [.sl (H.next + 1 + 1 + 1 + 1 + 1 + 1 + 1 + 1) 0 1 1 (some 1)], [.sl (H.next + 1 + 1 + 1 + 1 + 1 + 1 + 1 + 1 + 1) 0 4 1 (some 4)], [.sl (H.next + 1 + 1 + 1 + 1 + 1 + 1 + 1 + 1 + 1 + 1) 0 2 1 (some 2)], [.sl (H.next + 1 + 1 + 1 + 1 + 1 + 1 + 1 + 1 + 1 + 1 + 1) 0 3 1 (some 3)]] (some 1) (some 1) ?_ ?_ rfl rfl ?_ ?_
   ·exact ((((((((((((Pur.push H _).then_push _).then_push _).then_push _).then_push _).then_push _).then_push _).then_push _).then_push _).then_push _).then_push _).then_push _).then_push _
   all_goals (simp -implicitDefEqProofs (disch := first | assumption | omega | (simp only [nxB]; omega) | (simp only [oneB])) only [heapB]; try rfl)
  ·refine key _ ?_ ?_ (H.next + 1 + 1 + 1 + 1 + 1 + 1) (H.next + 1 + 1 + 1 + 1 + 1 + 1 + 1 + 1 + 1 + 1 + 1 + 1) (H.next + 1 + 1) (H.next + 1 + 1 + 1 + 1 + 1 + 1 + 1 + 1) [[.sl (H.next + 1) 0 1 1 (some 1)], [.sl (H.next + 1 + 1) 0 1 1 (some 1)], [.sl (H.next + 1 + 1 + 1) 0 4 1 (some 4)], [.sl (H.next + 1 + 1 + 1 + 1) 0 2 1 (some 2)], [.sl (H.next + 1 + 1 + 1 + 1 + 1) 0 3 1 (some 3)]] [[.sl (H.next + 1 + 1 + 1 + 1 + 1 + 1 + 1) 0 1 1 (some 1)], [.sl (H.next + 1 + 1 + 1 + 1 + 1 + 1 + 1 + 1) 0 1 1 (some 1)], [.sl (H.next + 1 + 1 + 1 + 1 + 1 + 1 + 1 + 1 + 1) 0 4 1 (some 4)], [.sl (H.next + 1 + 1 + 1 + 1 + 1 + 1 + 1 + 1 + 1 + 1) 0 2 1 (some 2)], [.sl (H.next + 1 + 1 + 1 + 1 + 1 + 1 + 1 + 1 + 1 + 1 + 1) 0 3 1 (some 3)]] (some 1) (some 1) ?_ ?_ rfl rfl ?_ ?_
   ·exact ((((((((((((Pur.push H _).then_push _).then_push _).then_push _).then_push _).then_push _).then_push _).then_push _).then_push _).then_push _).then_push _).then_push _).then_push _
   all_goals (simp -implicitDefEqProofs (disch := first | assumption | omega | (simp only [nxB]; omega) | (simp only [oneB])) only [heapB]; try rfl)
  ·refine key _ ?_ ?_ (H.next + 1 + 1 + 1 + 1 + 1 + 1) (H.next + 1 + 1 + 1 + 1 + 1 + 1 + 1 + 1 + 1 + 1 + 1 + 1) (H.next + 1 + 1 + 1) (H.next + 1 + 1 + 1 + 1 + 1 + 1 + 1 + 1 + 1) [[.sl (H.next + 1) 0 1 1 (some 1)], [.sl (H.next + 1 + 1) 0 1 1 (some 1)], [.sl (H.next + 1 + 1 + 1) 0 4 1 (some 4)], [.sl (H.next + 1 + 1 + 1 + 1) 0 2 1 (some 2)], [.sl (H.next + 1 + 1 + 1 + 1 + 1) 0 3 1 (some 3)]] [[.sl (H.next + 1 + 1 + 1 + 1 + 1 + 1 + 1) 0 1 1 (some 1)], [.sl (H.next + 1 + 1 + 1 + 1 + 1 + 1 + 1 + 1) 0 1 1 (some 1)], [.sl (H.next + 1 + 1 + 1 + 1 + 1 + 1 + 1 + 1 + 1) 0 4 1 (some 4)], [.sl (H.next + 1 + 1 + 1 + 1 + 1 + 1 + 1 + 1 + 1 + 1) 0 2 1 (some 2)], [.sl (H.next + 1 + 1 + 1 + 1 + 1 + 1 + 1 + 1 + 1 + 1 + 1) 0 3 1 (some 3)]] (some 4) (some 4) ?_ ?_ rfl rfl ?_ ?_
   ·exact ((((((((((((Pur.push H _).then_push _).then_push _).then_push _).then_push _).then_push _).then_push _).then_push _).then_push _).then_push _).then_push _).then_push _).then_push _
   all_goals (simp -implicitDefEqProofs (disch := first | assumption | omega | (simp only [nxB]; omega) | (simp only [oneB])) only [heapB]; try rfl)
  ·refine key _ ?_ ?_ (H.next + 1 + 1 + 1 + 1 + 1 + 1) (H.next + 1 + 1 + 1 + 1 + 1 + 1 + 1 + 1 + 1 + 1 + 1 + 1) (H.next + 1 + 1 + 1 + 1) (H.next + 1 + 1 + 1 + 1 + 1 + 1 + 1 + 1 + 1 + 1) [[.sl (H.next + 1) 0 1 1 (some 1)], [.sl (H.next + 1 + 1) 0 1 1 (some 1)], [.sl (H.next + 1 + 1 + 1) 0 4 1 (some 4)], [.sl (H.next + 1 + 1 + 1 + 1) 0 2 1 (some 2)], [.sl (H.next + 1 + 1 + 1 + 1 + 1) 0 3 1 (some 3)]] [[.sl (H.next + 1 + 1 + 1 + 1 + 1 + 1 + 1) 0 1 1 (some 1)], [.sl (H.next + 1 + 1 + 1 + 1 + 1 + 1 + 1 + 1) 0 1 1 (some 1)], [.sl (H.next + 1 + 1 + 1 + 1 + 1 + 1 + 1 + 1 + 1) 0 4 1 (some 4)], [.sl (H.next + 1 + 1 + 1 + 1 + 1 + 1 + 1 + 1 + 1 + 1) 0 2 1 (some 2)], [.sl (H.next + 1 + 1 + 1 + 1 + 1 + 1 + 1 + 1 + 1 + 1 + 1) 0 3 1 (some 3)]] (some 2) (some 2) ?_ ?_ rfl rfl ?_ ?_
   ·exact ((((((((((((Pur.push H _).then_push _).then_push _).then_push _).then_push _).then_push _).then_push _).then_push _).then_push _).then_push _).then_push _).then_push _).then_push _
   all_goals (simp -implicitDefEqProofs (disch := first | assumption | omega | (simp only [nxB]; omega) | (simp only [oneB])) only [heapB]; try rfl)
  ·refine key _ ?_ ?_ (H.next + 1 + 1 + 1 + 1 + 1 + 1) (H.next + 1 + 1 + 1 + 1 + 1 + 1 + 1 + 1 + 1 + 1 + 1 + 1) (H.next + 1 + 1 + 1 + 1 + 1) (H.next + 1 + 1 + 1 + 1 + 1 + 1 + 1 + 1 + 1 + 1 + 1) [[.sl (H.next + 1) 0 1 1 (some 1)], [.sl (H.next + 1 + 1) 0 1 1 (some 1)], [.sl (H.next + 1 + 1 + 1) 0 4 1 (some 4)], [.sl (H.next + 1 + 1 + 1 + 1) 0 2 1 (some 2)], [.sl (H.next + 1 + 1 + 1 + 1 + 1) 0 3 1 (some 3)]] [[.sl (H.next + 1 + 1 + 1 + 1 + 1 + 1 + 1) 0 1 1 (some 1)], [.sl (H.next + 1 + 1 + 1 + 1 + 1 + 1 + 1 + 1) 0 1 1 (some 1)], [.sl (H.next + 1 + 1 + 1 + 1 + 1 + 1 + 1 + 1 + 1) 0 4 1 (some 4)], [.sl (H.next + 1 + 1 + 1 + 1 + 1 + 1 + 1 + 1 + 1 + 1) 0 2 1 (some 2)], [.sl (H.next + 1 + 1 + 1 + 1 + 1 + 1 + 1 + 1 + 1 + 1 + 1) 0 3 1 (some 3)]] (some 3) (some 3) ?_ ?_ rfl rfl ?_ ?_
   ·exact ((((((((((((Pur.push H _).then_push _).then_push _).then_push _).then_push _).then_push _).then_push _).then_push _).then_push _).then_push _).then_push _).then_push _).then_push _
   all_goals (simp -implicitDefEqProofs (disch := first | assumption | omega | (simp only [nxB]; omega) | (simp only [oneB])) only [heapB]; try rfl)
end Go.Proofs.Ytnjoomfeddamcaa

namespace Go.Proofs.Ytnjoomfeddamcaa
open Go.Ev
theorem rof_take {r : Nat} {T : List Tok} {tv : AV} {H0 : AHeap} {s0 : St} (hx0 : Ry H0 r T tv s0) {b t : Nat} (hb : H0.next ≤ b) (ht : H0.next ≤ t) (hbt : b ≠ t) {x : Bs} (d : Nat) (hd : d ≤ 1000) (N : Nat) :
  ∀ (j i : Nat), i + j = d → ∀ (m : Nat) (H : AHeap) (s : St), j < m → Mt r H0 H → Rd5 H r tv s → H.get b = some (.row false 2 [[.str [], .int .i64 0]]) → H.get t = some (.row false 2 [[.str x, .int .i64 d]]) →
   W (s37_l3 (evw P) N m (.ptr r 0 0) (.ptr b 0 0) (.int .i64 d) (.ptr t 0 0) (.int .i64 i) H) fun v H' => v = .agg [.str x, .int .i64 d] ∧ Mt r H0 H' ∧ Ry H' r T tv (takeN T [93] j s)
 | 0, i, hi, 0, H, s, hm, mt, hd', hgb, hgt => by omega
 | 0, i, hi, m + 1, H, s, hm, mt, hd', hgb, hgt => by
  have h1 : ¬ ((i : Int) < (d : Int)) := by omega
  have hlb := AHeap.get_lt hgb
  simp -implicitDefEqProofs (disch := first | assumption | omega | (simp only [nxB]; omega) | (simp only [oneB])) only [s37_l3, s37_j2, s37_b3, s37_j1, s37_j4, s37_j0, s37_b5, s37, xlen, AV.cells, splice, aload, astore, Nat.reduceAdd, Nat.reduceLeDiff, reduceIte, allB, h1, decide_false, hgb, hgt]
  exact W_some.2 ⟨rfl, mt.then_set (.inr hb) _, hx0.mut (mt.then_set (.inr hb) _) (by
   have := hx0.rd.lt
   unfold Rd5 at hd' ⊢; rw [AHeap.get_set_other (by omega)]; exact hd')⟩
 | j + 1, i, hi, 0, H, s, hm, mt, hd', hgb, hgt => by omega
 | j + 1, i, hi, m + 1, H, s, hm, mt, hd', hgb, hgt => by
  have h1 : ((i : Int) < (d : Int)) := by omega
  have hlr := hx0.rd.lt
  simp -implicitDefEqProofs (disch := first | assumption | omega | (simp only [nxB]; omega) | (simp only [oneB])) only [s37_l3, s37_j2, s37_b3, s37_j1, s37_j4, s37_j0, s37_b5, s37, xlen, AV.cells, splice, aload, astore, Nat.reduceAdd, Nat.reduceLeDiff, reduceIte, allB, h1, decide_true]
  refine W_call (take_spec (hx0.mut mt hd') [93] (by simp)) ?_
  rintro _ H2 ⟨rfl, m2, hx2⟩
  refine ⟨m2.1, ?_⟩
  have hw : IntKind.i64.wrap ((i : Int) + 1) = ((i + 1 : Nat) : Int) := by rw [wrap_i64 (by omega) (by omega)]; simp
  simp -implicitDefEqProofs (disch := first | assumption | omega | (simp only [nxB]; omega) | (simp only [oneB])) only [s37_j2, s37_b3, s37_j1, s37_j4, s37_j0, s37_b5, s37, xlen, AV.cells, splice, aload, astore, Nat.reduceAdd, Nat.reduceLeDiff, reduceIte, allB, hw]
  refine (rof_take hx0 hb ht hbt d hd N j (i + 1) (by omega) m H2 _ (by omega) (mt.trans m2) hx2.rd (m2.get hgb (by omega)) (m2.get hgt (by omega))).mono ?_
  rintro v H' ⟨rfl, q1, q2⟩
  exact ⟨rfl, q1, q2⟩
theorem rof_mid {r : Nat} {T : List Tok} {tv : AV} {H0 : AHeap} {s0 : St} (hx0 : Ry H0 r T tv s0) {b t : Nat} (hb : H0.next ≤ b) (ht : H0.next ≤ t) (hbt : b ≠ t) (d : Nat) (hd : d ≤ 1000) (N : Nat) (hN : d < N) {H : AHeap} {s : St} (mt : Mt r H0 H) (hrd : Rd5 H r tv s) (hgb : H.get b = some (.row false 2 [[.str [], .int .i64 0]]))
  (hgt : H.get t = some (.row false 2 [[.str [], .int .i64 d]])) {c : Bool} (hc : (isR T s [105, 110, 116] || isR T s [98, 111, 111, 108]) = c) :
  W (s37_j4 (evw P) N (.ptr r 0 0) (.ptr b 0 0) (.int .i64 d) (.ptr t 0 0) (.bool c) H) fun v H' => v = .agg [.str (ofRE T d s).1.1, .int .i64 (ofRE T d s).1.2] ∧ Mt r H0 H' ∧ Ry H' r T tv (ofRE T d s).2 := by
 have hlr := hx0.rd.lt
 have hlb := AHeap.get_lt hgb
 have hlt := AHeap.get_lt hgt
 have hle := mt.1
 have hx := hx0.mut mt hrd
 have ho1 := hx.tk.one
 cases c with
 | true =>
  rw [show ofRE T d s = (((tokAt T s.at_).text, (d : Int)), takeN T [93] d (goS s)) by simp [ofRE, hc]]
  simp -implicitDefEqProofs (disch := first | assumption | omega | (simp only [nxB]; omega) | (simp only [oneB])) only [s37_j2, s37_b3, s37_j4, s37_j0, s37_b5, s37, xlen, AV.cells, splice, aload, astore, Nat.reduceAdd, Nat.reduceLeDiff, reduceIte, allB]
  refine W_call (rtok_spec hrd hx.tk) ?_
  rintro _ H1 ⟨rfl, p1⟩
  refine ⟨p1.1, ?_⟩
  have hgt1 := p1.get hgt
  have hlt1 := AHeap.get_lt hgt1
  have hr1 := hrd.pur p1
  have hr1' := hr1
  unfold Rd5 at hr1'
  have hlr1 := hr1.lt
  simp -implicitDefEqProofs (disch := first | assumption | omega | (simp only [nxB]; omega) | (simp only [oneB])) only [s37_j2, s37_b3, s37_j4, s37_j0, s37_b5, s37, xlen, AV.cells, splice, aload, astore, Nat.reduceAdd, Nat.reduceLeDiff, reduceIte, allB, Tok.v, hgt1, hr1', ho1]
  simp only [s37_j1]
  have m2 : Mt r H0 (H1.set t (.row false 2 [[.str (tokAt T s.at_).text, .int .i64 d]])) := (mt.trans (p1.mut _)).then_set (.inr ht) _
  have hr2 : Rd5 (H1.set t (.row false 2 [[.str (tokAt T s.at_).text, .int .i64 d]])) r tv s := by
   unfold Rd5; rw [AHeap.get_set_other (by omega)]; exact hr1'
  obtain ⟨m3, hd3⟩ := rset hr2 (goS s)
  refine rof_take hx0 hb ht hbt d hd N d 0 (by omega) N _ _ hN (m2.trans m3) hd3 (m3.get ?_ (by omega)) (m3.get (AHeap.get_set_same hlt1) (by omega))
  rw [AHeap.get_set_other (by omega)]; exact p1.get hgb
 | false =>
  rw [show ofRE T d s = (((nameR T s).1, (d : Int)), takeN T [93] d (nameR T s).2) by simp [ofRE, hc]]
  simp -implicitDefEqProofs (disch := first | assumption | omega | (simp only [nxB]; omega) | (simp only [oneB])) only [s37_j2, s37_b3, s37_j4, s37_j0, s37_b5, s37, xlen, AV.cells, splice, aload, astore, Nat.reduceAdd, Nat.reduceLeDiff, reduceIte, allB]
  refine W_call (rname_spec hx) ?_
  rintro _ H1 ⟨rfl, m1, hx1⟩
  refine ⟨m1.1, ?_⟩
  have hgt1 := m1.get hgt (by omega)
  have hlt1 := AHeap.get_lt hgt1
  simp -implicitDefEqProofs (disch := first | assumption | omega | (simp only [nxB]; omega) | (simp only [oneB])) only [s37_j2, s37_b3, s37_j4, s37_j0, s37_b5, s37, xlen, AV.cells, splice, aload, astore, Nat.reduceAdd, Nat.reduceLeDiff, reduceIte, allB, hgt1]
  simp only [s37_j1]
  refine rof_take hx0 hb ht hbt d hd N d 0 (by omega) N _ _ hN ((mt.trans m1).then_set (.inr ht) _) ?_ ?_ (AHeap.get_set_same hlt1)
  ·have := hx1.rd
   unfold Rd5 at this ⊢; rw [AHeap.get_set_other (by omega)]; exact this
  ·rw [AHeap.get_set_other (by omega)]; exact m1.get hgb (by omega)
theorem rof_end {r : Nat} {T : List Tok} {tv : AV} {H0 : AHeap} {s0 : St} (hx0 : Ry H0 r T tv s0) {b : Nat} (hb : H0.next ≤ b) (d : Nat) (hd : d ≤ 1000) (N : Nat) (hN : d < N) {H : AHeap} {s : St} (mt : Mt r H0 H) (hrd : Rd5 H r tv s) (hgb : H.get b = some (.row false 2 [[.str [], .int .i64 0]])) :
  W (s37_j0 (evw P) N (.ptr r 0 0) (.ptr b 0 0) (.int .i64 d) H) fun v H' => v = .agg [.str (ofRE T d s).1.1, .int .i64 (ofRE T d s).1.2] ∧ Mt r H0 H' ∧ Ry H' r T tv (ofRE T d s).2 := by
 have hlr := hx0.rd.lt
 have hlb := AHeap.get_lt hgb
 have hle := mt.1
 have hx := hx0.mut mt hrd
 simp -implicitDefEqProofs (disch := first | assumption | omega | (simp only [nxB]; omega) | (simp only [oneB])) only [s37_j2, s37_b3, s37_j0, s37_b5, s37, xlen, AV.cells, splice, aload, astore, Nat.reduceAdd, Nat.reduceLeDiff, reduceIte, allB]
 have p1 := Pur.push H (.row false 2 [[.str [], .int .i64 d]])
 have hgt := AHeap.get_push_same H (.row false 2 [[.str [], .int .i64 d]])
 refine W_call (ris_spec (hrd.pur p1) (hx.tk.pur p1) _ (by simp)) ?_
 rintro _ H2 ⟨rfl, p2⟩
 refine ⟨p2.1, ?_⟩
 have p3 := p1.trans p2
 cases hi : isR T s [105, 110, 116] with
 | true =>
  simp -implicitDefEqProofs (disch := first | assumption | omega | (simp only [nxB]; omega) | (simp only [oneB])) only [s37_j2, s37_b3, s37_j0, s37_b5, s37, xlen, AV.cells, splice, aload, astore, Nat.reduceAdd, Nat.reduceLeDiff, reduceIte, allB]
  exact rof_mid hx0 hb (by omega) (by omega) d hd N hN (mt.trans (p3.mut _)) (hrd.pur p3) (p3.get hgb) (p2.get hgt) (by simp [hi])
 | false =>
  simp -implicitDefEqProofs (disch := first | assumption | omega | (simp only [nxB]; omega) | (simp only [oneB])) only [s37_j2, s37_b3, s37_j0, s37_b5, s37, xlen, AV.cells, splice, aload, astore, Nat.reduceAdd, Nat.reduceLeDiff, reduceIte, allB]
  refine W_call (ris_spec (hrd.pur p3) (hx.tk.pur p3) _ (by simp)) ?_
  rintro _ H4 ⟨rfl, p4⟩
  refine ⟨p4.1, ?_⟩
  have p5 := p3.trans p4
  try simp only [s37_j2, s37_b3, s37_j0, s37_b5, s37]
  exact rof_mid hx0 hb (by omega) (by omega) d hd N hN (mt.trans (p5.mut _)) (hrd.pur p5) (p5.get hgb) ((p2.trans p4).get hgt) (by simp [hi])
theorem rof_loop {r : Nat} {T : List Tok} {tv : AV} {H0 : AHeap} {s0 : St} (hx0 : Ry H0 r T tv s0) {b : Nat} (hb : H0.next ≤ b) (N : Nat) (hN : 3 < N) :
  ∀ (n d : Nat), n + d = 3 → ∀ (m : Nat) (H : AHeap) (s : St), n < m → Mt r H0 H → Rd5 H r tv s → H.get b = some (.row false 2 [[.str [], .int .i64 0]]) →
   W (s37_l5 (evw P) N m (.ptr r 0 0) (.ptr b 0 0) (.int .i64 d) H) fun v H' => ∃ p : (Bs × Int) × St, p = (match ofRL T n d s with | .inr s' => (([], 0), s') | .inl (d, s') => ofRE T d s') ∧ v = .agg [.str p.1.1, .int .i64 p.1.2] ∧ Mt r H0 H' ∧ Ry H' r T tv p.2 := by
 intro n
 induction n with
 | zero =>
  intro d hd m H s hm mt hrd hgb
  obtain ⟨m, rfl⟩ : ∃ k, m = k + 1 := ⟨m - 1, by omega⟩
  have hd3 : d = 3 := by omega
  subst hd3
  have hx := hx0.mut mt hrd
  have hlr := hx0.rd.lt
  have hlb := AHeap.get_lt hgb
  simp only [s37_l5]
  rw [s37_b5]
  refine W_call (ris_spec hrd hx.tk [91] (by simp)) ?_
  rintro _ H1 ⟨rfl, p1⟩
  refine ⟨p1.1, ?_⟩
  have hgb1 := p1.get hgb
  cases hi : isR T s [91] with
  | true =>
   simp -implicitDefEqProofs (disch := first | assumption | omega | (simp only [nxB]; omega) | (simp only [oneB])) only [s37_j2, s37_b3, s37_j1, s37_j4, s37_b5, s37, xlen, AV.cells, splice, aload, astore, Nat.reduceAdd, Nat.reduceLeDiff, reduceIte, allB, beq_self_eq_true, Int.cast_ofNat_Int]
   refine W_call (rfail_spec (hx.pur p1) 4) ?_
   rintro _ H2 ⟨rfl, m2, hx2⟩
   refine ⟨m2.1, ?_⟩
   have hgb2 := m2.get hgb1 (by omega)
   have hlb2 := AHeap.get_lt hgb2
   simp -implicitDefEqProofs (disch := first | assumption | omega | (simp only [nxB]; omega) | (simp only [oneB])) only [s37_j2, s37_b3, s37_j1, s37_j4, s37_b5, s37, xlen, AV.cells, splice, aload, astore, Nat.reduceAdd, Nat.reduceLeDiff, reduceIte, allB, hgb2]
   have m3 := ((mt.trans (p1.mut _)).trans m2).then_set (.inr hb) (.row false 2 [[.str [], .int .i64 0]])
   refine W_some.2 ⟨(([], 0), failS T 4 s), by simp [ofRL, hi], rfl, m3, hx0.mut m3 ?_⟩
   have := hx2.rd
   unfold Rd5 at this ⊢
   rw [AHeap.get_set_other (by omega)]; exact this
  | false =>
   simp -implicitDefEqProofs (disch := first | assumption | omega | (simp only [nxB]; omega) | (simp only [oneB])) only [s37_j2, s37_b3, s37_j1, s37_j4, s37_b5, s37, xlen, AV.cells, splice, aload, astore, Nat.reduceAdd, Nat.reduceLeDiff, reduceIte, allB]
   refine (rof_end hx0 hb 3 (by omega) N hN (mt.trans (p1.mut _)) (hrd.pur p1) hgb1).mono ?_
   rintro v H' ⟨rfl, q1, q2⟩
   exact ⟨ofRE T 3 s, by simp [ofRL, hi], rfl, q1, q2⟩
 | succ n ih =>
  intro d hd m H s hm mt hrd hgb
  obtain ⟨m, rfl⟩ : ∃ k, m = k + 1 := ⟨m - 1, by omega⟩
  have hx := hx0.mut mt hrd
  have hlr := hx0.rd.lt
  have hlb := AHeap.get_lt hgb
  have ho1 := hx.tk.one
  simp only [s37_l5]
  rw [s37_b5]
  refine W_call (ris_spec hrd hx.tk [91] (by simp)) ?_
  rintro _ H1 ⟨rfl, p1⟩
  refine ⟨p1.1, ?_⟩
  have hgb1 := p1.get hgb
  have hrd1 := hrd.pur p1
  have hrd1' := hrd1
  unfold Rd5 at hrd1'
  cases hi : isR T s [91] with
  | true =>
   have h3 : ((d : Int) == 3) = false := by simp; omega
   have hw : IntKind.i64.wrap ((d : Int) + 1) = ((d + 1 : Nat) : Int) := by rw [wrap_i64 (by omega) (by omega)]; simp
   obtain ⟨m2, hd2⟩ := rset hrd1 (goS s)
   simp -implicitDefEqProofs (disch := first | assumption | omega | (simp only [nxB]; omega) | (simp only [oneB])) only [s37_j2, s37_b3, s37_j1, s37_j4, s37, xlen, AV.cells, splice, aload, astore, Nat.reduceAdd, Nat.reduceLeDiff, reduceIte, allB, h3, hw, hrd1', ho1]
   refine (ih (d + 1) (by omega) m _ _ (by omega) ((mt.trans (p1.mut _)).trans m2) hd2 (m2.get hgb1 (by omega))).mono ?_
   rintro v H' ⟨p, hp, rfl, q1, q2⟩
   exact ⟨p, by rw [hp]; simp [ofRL, hi], rfl, q1, q2⟩
  | false =>
   simp -implicitDefEqProofs (disch := first | assumption | omega | (simp only [nxB]; omega) | (simp only [oneB])) only [s37_j2, s37_b3, s37_j1, s37_j4, s37, xlen, AV.cells, splice, aload, astore, Nat.reduceAdd, Nat.reduceLeDiff, reduceIte, allB]
   refine (rof_end hx0 hb d (by omega) N (by omega) (mt.trans (p1.mut _)) (hrd.pur p1) hgb1).mono ?_
   rintro v H' ⟨rfl, q1, q2⟩
   exact ⟨ofRE T d s, by simp [ofRL, hi], rfl, q1, q2⟩
theorem rof_spec {H : AHeap} {r : Nat} {T : List Tok} {tv : AV} {s : St} (hx : Ry H r T tv s) : W (evw P 37 [.ptr r 0 0] H) fun v H' => v = .agg [.str (ofR T s).1.1, .int .i64 (ofR T s).1.2] ∧ Mt r H H' ∧ Ry H' r T tv (ofR T s).2 := by
 refine W_of (fun _ => run37 10) ?_
 simp only [s37_j2, s37_b3, s37_j1, s37_j4, s37, xalloc]
 have p := Pur.push H (.row false 2 [[.str [], .int .i64 0]])
 refine (rof_loop hx (Nat.le_refl _) 10 (by omega) 3 0 rfl 10 _ s (by omega) (p.mut _) (hx.rd.pur p) (AHeap.get_push_same _ _)).mono ?_
 rintro v H' ⟨q, hq, rfl, q1, q2⟩
 have : q = ofR T s := by rw [hq]; rfl
 subst this
 exact ⟨rfl, q1, q2⟩
end Go.Proofs.Ytnjoomfeddamcaa

namespace Go.Proofs.Ytnjoomfeddamcaa
open Go.Ev
def QostL (ok : Nat → Prop) (H : AHeap) (r : Nat) (T : List Tok) (tv : AV) (e : Ex) (s' : St) (v : AV) (H' : AHeap) : Prop := Mt r H H' ∧ Ry H' r T tv s' ∧ ExV H' ok e v
abbrev QostE (H : AHeap) := QostL (Ge H.next) H
theorem QostE.box {H Hc : AHeap} {r : Nat} {T : List Tok} {tv : AV} {s s' : St} {a : Ea} {ks : List Ex} {kv : AV} {b : Nat} {lo : Nat} (hx : Ry H r T tv s) (m : Mt r H Hc) (hd : Rd5 Hc r tv s') (hb : H.next ≤ b) (hlo : b < lo) (hk : KsV Hc (Ge lo) ks kv) (blk : ABlk) :
  QostE H r T tv (.mk a ks) s' (.agg (a.cells kv)) (Hc.set b blk) := by
 have hl := hx.rd.lt
 have m' := m.then_set (.inr hb) blk
 refine ⟨m', hx.mut m' ?_, ?_⟩
 ·unfold Rd5 at hd ⊢
  rw [AHeap.get_set_other (by omega)]; exact hd
 ·rw [ExV_mk]
  exact ⟨kv, rfl, hk.keep (Keep.set _ (by unfold Ge; omega) fun l hl => by unfold Ge at *; omega)⟩
theorem QostL.fin {ok : Nat → Prop} {H Hf : AHeap} {r : Nat} {T : List Tok} {tv : AV} {s s' : St} {a : Ea} {ks : List Ex} {kv : AV} (hx : Ry H r T tv s) (m : Mt r H Hf) (hd : Rd5 Hf r tv s') (hk : KsV Hf ok ks kv) : QostL ok H r T tv (.mk a ks) s' (.agg (a.cells kv)) Hf :=
 ⟨m, hx.mut m hd, ExV_mk.2 ⟨kv, rfl, hk⟩⟩
theorem QostE.ret {H H2 : AHeap} {r : Nat} {T : List Tok} {tv : AV} {s s' : St} {e : Ex} {v : AV} {b n : Nat} (hx : Ry H r T tv s) (m : Mt r H H2) (hd : Rd5 H2 r tv s') (hb : H.next ≤ b) (he : ExV H2 (Ge n) e v) (hn : b < n) (blk : ABlk) : QostE H r T tv e s' v (H2.set b blk) := by
 have hl := hx.rd.lt
 have m' := m.then_set (.inr hb) blk
 refine ⟨m', hx.mut m' ?_, he.new (Mut.then_set (S := (· < n)) (Mut.refl _ _) (.inl hn) _) fun l h => by unfold Ge; omega⟩
 unfold Rd5 at hd ⊢
 rw [AHeap.get_set_other (by omega)]; exact hd
def ExprOk (n : Nat) : Prop := ∀ {H : AHeap} {r : Nat} {T : List Tok} {tv : AV} {s : St}, Ry H r T tv s → ∀ (lev : Nat), lev ≤ 5 → ∀ (e : Ex) (s' : St), exprR T n lev s = some (e, s') → W (evw P 39 [.ptr r 0 0, .int .i64 lev] H) (QostE H r T tv e s')
def UnaryROk (n : Nat) : Prop := ∀ {H : AHeap} {r : Nat} {T : List Tok} {tv : AV} {s : St}, Ry H r T tv s → ∀ (e : Ex) (s' : St), unaryR T n s = some (e, s') → W (evw P 69 [.ptr r 0 0] H) (QostE H r T tv e s')
def BehindOk (n : Nat) : Prop := ∀ {ok : Nat → Prop} {H : AHeap} {r : Nat} {T : List Tok} {tv : AV} {s : St} {e : Ex} {v : AV}, Ry H r T tv s → ExV H ok e v → ¬ ok r → (∀ l, H.next ≤ l → ok l) → ∀ (e' : Ex) (s' : St), behindR T n e s = some (e', s') → W (evw P 81 [.ptr r 0 0, v] H) (QostL ok H r T tv e' s')
def InnerOk (n : Nat) : Prop := ∀ {H : AHeap} {r : Nat} {T : List Tok} {tv : AV} {s : St}, Ry H r T tv s → ∀ (e : Ex) (s' : St), innerR T n s = some (e, s') → W (evw P 99 [.ptr r 0 0] H) (QostE H r T tv e s')
def FirstROk (n : Nat) : Prop := ∀ {H : AHeap} {r : Nat} {T : List Tok} {tv : AV} {s : St}, Ry H r T tv s → ∀ (e : Ex) (s' : St), firstR T n s = some (e, s') → W (evw P 82 [.ptr r 0 0] H) (QostE H r T tv e s')
def FreshROk (n : Nat) : Prop := ∀ {H : AHeap} {r : Nat} {T : List Tok} {tv : AV} {s : St}, Ry H r T tv s → ∀ (pos : Int) (e : Ex) (s' : St), freshR T n pos s = some (e, s') → W (evw P 98 [.ptr r 0 0, .int .i64 pos] H) (QostE H r T tv e s')
def ArgsOk (n : Nat) : Prop := ∀ {H : AHeap} {r : Nat} {T : List Tok} {tv : AV} {s : St}, Ry H r T tv s → ∀ (l : List Ex) (s' : St), argsR T n s = some (l, s') → W (evw P 100 [.ptr r 0 0] H) fun v H' => Mt r H H' ∧ Ry H' r T tv s' ∧ KsV H' (Ge H.next) l v
structure AllROk (n : Nat) : Prop where
 expr : ExprOk n
 unary : UnaryROk n
 behind : BehindOk n
 inner : InnerOk n
 first : FirstROk n
 fresh : FreshROk n
 args : ArgsOk n
theorem inner_step {n : Nat} (ih : ExprOk n) : InnerOk (n + 1) := by
 intro H r T tv s hx e s' h
 refine W_of (fun _ => run99 0) ?_
 have hl := hx.rd.lt
 have p1 := Pur.push H (.row false 11 [[.int .i64 0, .int .i64 0, .str [], .str [], .int .i64 0, .nilSl, .int .i64 0, .int .i64 0, .int .i64 0, .int .i64 0, .int .i64 0]])
 simp only [innerR, Option.bind_eq_some_iff] at h
 obtain ⟨⟨e1, s1⟩, h1, h2⟩ := h
 simp only [Option.some.injEq, Prod.mk.injEq] at h2
 obtain ⟨rfl, rfl⟩ := h2
 simp -implicitDefEqProofs (disch := first | assumption | omega | (simp only [nxB]; omega) | (simp only [oneB])) only [s99, xlen, AV.cells, splice, aload, astore, Nat.reduceAdd, Nat.reduceLeDiff, reduceIte, allB]
 refine W_call (ropens_spec (hx.pur p1) [40] (by simp)) ?_
 rintro _ H2 ⟨rfl, m2, hx2⟩
 refine ⟨m2.1, ?_⟩
 have hb2 := m2.get (AHeap.get_push_same H _) (by omega)
 have mb := (p1.mut (· = r)).trans m2
 simp -implicitDefEqProofs (disch := first | assumption | omega | (simp only [nxB]; omega) | (simp only [oneB])) only [s99, xlen, AV.cells, splice, aload, astore, Nat.reduceAdd, Nat.reduceLeDiff, reduceIte, allB]
 refine W_call (ih hx2 0 (by omega) e1 s1 h1) ?_
 rintro v H3 ⟨m3, hx3, he3⟩
 refine ⟨m3.1, ?_⟩
 have hb3 := m3.get hb2 (by omega)
 have hlb3 := AHeap.get_lt hb3
 obtain ⟨cs, rfl, hlen, hone⟩ := he3.cells
 have ht : List.take 11 cs = cs := List.take_of_length_le (by omega)
 simp -implicitDefEqProofs (disch := first | assumption | omega | (simp only [nxB]; omega) | (simp only [oneB])) only [s99, xlen, AV.cells, splice, aload, astore, Nat.reduceAdd, Nat.reduceLeDiff, reduceIte, allB, hlen, hone, List.append_nil, ht]
 have p4 := Pur.push H3 (.row false 11 [cs])
 refine W_call (rcloses_spec (hx3.pur p4) [41] (by simp)) ?_
 rintro _ H5 ⟨rfl, m5, hx5⟩
 refine ⟨m5.1, ?_⟩
 have hb5 := m5.get (p4.get hb3) (by omega)
 have hlb5 := AHeap.get_lt hb5
 have hc5 := m5.get (AHeap.get_push_same H3 (.row false 11 [cs])) (by omega)
 have hm2 := m2.1
 simp only [AHeap.next_push] at hm2
 simp -implicitDefEqProofs (disch := first | assumption | omega | (simp only [nxB]; omega) | (simp only [oneB])) only [s99, xlen, AV.cells, splice, aload, astore, Nat.reduceAdd, Nat.reduceLeDiff, reduceIte, allB, hlen, hone, List.append_nil, ht, hb5, hc5]
 refine W_some.2 (QostE.ret hx (((mb.trans m3).trans (p4.mut _)).trans m5) hx5.rd (Nat.le_refl _) (n := H2.next) (he3.new ?_ fun _ h => h) (by omega) _)
 exact ((Pur.push _ _).mut _).trans ⟨m5.1, fun l hl' hS => m5.2 l hl' (by omega)⟩
theorem fresh_stepR {n : Nat} (ih : InnerOk n) : FreshROk (n + 1) := by
 intro H r T tv s hx pos e s' h
 refine W_of (fun _ => run98 0) ?_
 have hl := hx.rd.lt
 have ho1 := hx.tk.one
 have p1 := Pur.push H (.row false 11 [[.int .i64 0, .int .i64 0, .str [], .str [], .int .i64 0, .nilSl, .int .i64 0, .int .i64 0, .int .i64 0, .int .i64 0, .int .i64 0]])
 simp -implicitDefEqProofs (disch := first | assumption | omega | (simp only [nxB]; omega) | (simp only [oneB])) only [s98, xlen, AV.cells, splice, aload, astore, Nat.reduceAdd, Nat.reduceLeDiff, reduceIte, allB]
 have hx1 := hx.pur p1
 refine W_call (ris_spec hx1.rd hx1.tk [91] (by simp)) ?_
 rintro _ H2 ⟨rfl, p2⟩
 refine ⟨p2.1, ?_⟩
 have hx2 := hx1.pur p2
 have hb2 := p2.get (AHeap.get_push_same H (.row false 11 [[.int .i64 0, .int .i64 0, .str [], .str [], .int .i64 0, .nilSl, .int .i64 0, .int .i64 0, .int .i64 0, .int .i64 0, .int .i64 0]]))
 have hlb2 := AHeap.get_lt hb2
 have mb := (p1.trans p2).mut (· = r)
 simp only [freshR] at h
 cases hi : isR T s [91] with
 | true =>
  simp only [hi, cond_true, Option.bind_eq_some_iff] at h
  obtain ⟨⟨e1, s1⟩, h1, h2⟩ := h
  simp only [Option.some.injEq, Prod.mk.injEq] at h2
  obtain ⟨rfl, rfl⟩ := h2
  have hr2 := hx2.rd
  have hr2' := hr2
  unfold Rd5 at hr2'
  obtain ⟨m3, hd3⟩ := rset hr2 (goS s)
  simp -implicitDefEqProofs (disch := first | assumption | omega | (simp only [nxB]; omega) | (simp only [oneB])) only [s98, xlen, AV.cells, splice, aload, astore, Nat.reduceAdd, Nat.reduceLeDiff, reduceIte, allB, hr2', ho1, Bool.not_true]
  refine W_call (rof_spec (hx.mut (mb.trans m3) hd3)) ?_
  rintro _ H5 ⟨rfl, m5, hx5⟩
  refine ⟨m5.1, ?_⟩
  have hb5 := m5.get (m3.get hb2 (by omega)) (by omega)
  have hl5 := AHeap.get_lt hb5
  simp -implicitDefEqProofs (disch := first | assumption | omega | (simp only [nxB]; omega) | (simp only [oneB])) only [s98, xlen, AV.cells, splice, aload, astore, Nat.reduceAdd, Nat.reduceLeDiff, reduceIte, allB]
  have p6 := Pur.push H5 (.row false 2 [[.str (ofR T (goS s)).1.1, .int .i64 (ofR T (goS s)).1.2]])
  have hq6 := AHeap.get_push_same H5 (.row false 2 [[.str (ofR T (goS s)).1.1, .int .i64 (ofR T (goS s)).1.2]])
  refine W_call (take_spec (hx5.pur p6) [93] (by simp)) ?_
  rintro _ H8 ⟨rfl, m8, hx8⟩
  refine ⟨m8.1, ?_⟩
  have hb8 := m8.get (p6.get hb5) (by omega)
  have hq8 := m8.get hq6 (by omega)
  have hl8 := AHeap.get_lt hb8
  have hlq8 := AHeap.get_lt hq8
  simp -implicitDefEqProofs (disch := first | assumption | omega | (simp only [nxB]; omega) | (simp only [oneB])) only [s98, xlen, AV.cells, splice, aload, astore, Nat.reduceAdd, Nat.reduceLeDiff, reduceIte, allB]
  refine W_call (ih hx8 e1 s1 h1) ?_
  rintro v H9 ⟨m9, hx9, he9⟩
  refine ⟨m9.1, ?_⟩
  have hb9 := m9.get hb8 (by omega)
  have hq9 := m9.get hq8 (by omega)
  have hl9 := AHeap.get_lt hb9
  have hlq9 := AHeap.get_lt hq9
  have hm9 := m9.1
  obtain ⟨cs, rfl, hlen, hone⟩ := he9.cells
  have hs : ∀ l, sliceOf P l 35 1 [(0, .agg cs)] = some (.sl l 0 1 11 (some 1), .row false 11 [cs]) := fun l => sl35_1 l cs hlen hone
  replace mb := ((((mb.trans m3).trans m5).trans (p6.mut _)).trans m8).trans m9
  have hr2 := hx9.rd
  unfold Rd5 at hr2
  simp -implicitDefEqProofs (disch := first | assumption | omega | (simp only [nxB]; omega) | (simp only [oneB])) only [s98, xlen, AV.cells, splice, aload, astore, Nat.reduceAdd, Nat.reduceLeDiff, reduceIte, allB, hs, hb9, hq9, hq8]
  refine W_some.2 ?_
  refine QostL.fin (ok := Ge H.next) (a := { kind := 9, ofn := (ofR T (goS s)).1.1, ofd := (ofR T (goS s)).1.2, pos := pos }) (kv := .sl H9.next 0 1 11 (some 1)) (s' := s1) hx ?_ ?_ (KsV.one_at (ro := false) ?_ (by unfold Ge; omega) (he9.new ?_ fun l h => by unfold Ge; omega))
  ·(repeat (first | exact mb | refine Mut.then_push ?_ _ | refine Mut.then_set (S := (· = r)) ?_ (.inl rfl) _ | refine Mut.then_set ?_ (.inr (by (first | omega | (simp only [AHeap.next_push, AHeap.next_set]; omega)))) _))
  ·(unfold Rd5; simp -implicitDefEqProofs (disch := first | assumption | omega | (simp only [nxB]; omega) | (simp only [oneB])) only [heapB, hr2, goS, outS, inS])
  ·simp -implicitDefEqProofs (disch := first | assumption | omega | (simp only [nxB]; omega) | (simp only [oneB])) only [heapB]
  ·exact Mut.then_set (S := fun l => l < _) ((Mut.refl _ _).then_push _) (.inl (by omega)) _
 | false =>
  simp only [hi, cond_false, Option.some.injEq, Prod.mk.injEq] at h
  obtain ⟨rfl, rfl⟩ := h
  simp -implicitDefEqProofs (disch := first | assumption | omega | (simp only [nxB]; omega) | (simp only [oneB])) only [s98, xlen, AV.cells, splice, aload, astore, Nat.reduceAdd, Nat.reduceLeDiff, reduceIte, allB, Bool.not_false]
  refine W_call (rname_spec hx2) ?_
  rintro _ H5 ⟨rfl, m5, hx5⟩
  refine ⟨m5.1, ?_⟩
  have hb5 := m5.get hb2 (by omega)
  have hl5 := AHeap.get_lt hb5
  simp -implicitDefEqProofs (disch := first | assumption | omega | (simp only [nxB]; omega) | (simp only [oneB])) only [s98, xlen, AV.cells, splice, aload, astore, Nat.reduceAdd, Nat.reduceLeDiff, reduceIte, allB, hb5]
  refine W_some.2 ?_
  exact QostE.box (a := { kind := 8, ofn := (nameR T s).1, pos := pos }) (kv := .nilSl) (lo := H.next + 1) hx (mb.trans m5) hx5.rd (Nat.le_refl _) (Nat.lt_succ_self _) (KsV.nil _ _) _
theorem args_loop {N : Nat} (ih : ∀ k, k < N → ExprOk k) {H0 : AHeap} {r : Nat} {T : List Tok} {tv : AV} {s0 : St} (hx0 : Ry H0 r T tv s0) :
  ∀ (n m : Nat), n < N → n < m → ∀ (H : AHeap) (s : St) (l : List Ex) (L : Nat) (els : List (List AV)), Mt r H0 H → Rd5 H r tv s → l.length + n ≤ 1000000000 → H.get L = some (.row false 11 els) → H0.next ≤ L → els.length = l.length →
   ElsV H (fun k => H0.next ≤ k ∧ k ≠ L) l els → ∀ (l' : List Ex) (s' : St), argsRL T n l s = some (l', s') →
   W (s100_l1 (evw P) N m (.ptr r 0 0) (.sl L 0 l.length 11 none) H) fun v H' => Mt r H0 H' ∧ Ry H' r T tv s' ∧ KsV H' (Ge H0.next) l' v
 | 0, m, hN, hm, H, s, l, L, els, mb, hrd, hlen, hg, hL, hel, hev, l', s', h => by simp [argsRL] at h
 | n + 1, 0, hN, hm, H, s, l, L, els, mb, hrd, hlen, hg, hL, hel, hev, l', s', h => by omega
 | n + 1, m + 1, hN, hm, H, s, l, L, els, mb, hrd, hlen, hg, hL, hel, hev, l', s', h => by
  have hl := hx0.rd.lt
  have ho1 := hx0.tk.one
  have hlL := AHeap.get_lt hg
  have hle := mb.1
  have hx := hx0.mut mb hrd
  simp only [argsRL] at h
  simp only [s100_l1]
  rw [s100_b1]
  refine W_call (ris_spec hrd hx.tk [44] (by simp)) ?_
  rintro _ H1 ⟨rfl, p1⟩
  refine ⟨p1.1, ?_⟩
  have hx1 := hx.pur p1
  have hg1 := p1.get hg
  have hlL1 := AHeap.get_lt hg1
  have hev1 := hev.keep (Keep.pur p1 fun _ h => h) l els
  cases ht : isR T s [44] with
  | false =>
   simp only [ht, cond_false, Option.some.injEq, Prod.mk.injEq] at h
   obtain ⟨rfl, rfl⟩ := h
   simp -implicitDefEqProofs (disch := first | assumption | omega | (simp only [nxB]; omega) | (simp only [oneB])) only [s100_j0, s100_b1, s100, xlen, AV.cells, splice, aload, astore, Nat.reduceAdd, Nat.reduceLeDiff, reduceIte, allB]
   refine W_call (rcloses_spec hx1 [41] (by simp)) ?_
   rintro _ H2 ⟨rfl, m2, hx2⟩
   refine ⟨m2.1, ?_⟩
   try simp only [s100_j0, s100_b1, s100]
   refine W_some.2 ⟨(mb.trans (p1.mut _)).trans m2, hx2, .inr (.inl ⟨L, 0, none, false, els, rfl, hL, m2.get hg1 (by omega), ?_⟩)⟩
   rw [List.drop_zero]
   exact hev1.keep (Keep.mut m2 (by omega) fun _ h => h.1) l els
  | true =>
   simp only [ht, cond_true, Option.bind_eq_some_iff] at h
   obtain ⟨⟨e1, s1⟩, h1, h2⟩ := h
   have hr1 := hx1.rd
   have hr1' := hr1
   unfold Rd5 at hr1'
   have hlr1 := hr1.lt
   obtain ⟨m2, hd2⟩ := rset hr1 (goS s)
   simp -implicitDefEqProofs (disch := first | assumption | omega | (simp only [nxB]; omega) | (simp only [oneB])) only [s100_j0, s100_b1, s100, xlen, AV.cells, splice, aload, astore, Nat.reduceAdd, Nat.reduceLeDiff, reduceIte, allB, hr1', ho1]
   refine W_call (ih n (by omega) (hx0.mut ((mb.trans (p1.mut _)).trans m2) hd2) 0 (by omega) e1 s1 h1) ?_
   rintro v H3 ⟨m3, hx3, he3⟩
   refine ⟨m3.1, ?_⟩
   have hg2 := m3.get (m2.get hg1 (by omega)) (by omega)
   have hlL2 := AHeap.get_lt hg2
   have hm1 := p1.1
   have hm3 := m3.1
   simp only [AHeap.next_set] at hm3 he3
   have hev2 := hev1.keep (Keep.mut (m2.trans m3) (by omega) fun _ h => h) l els
   obtain ⟨cs, rfl, hlen', hone⟩ := he3.cells
   have hs : ∀ l, sliceOf P l 35 1 [(0, .agg cs)] = some (.sl l 0 1 11 (some 1), .row false 11 [cs]) := fun l => sl35_1 l cs hlen' hone
   simp -implicitDefEqProofs (disch := first | assumption | omega | (simp only [nxB]; omega) | (simp only [oneB])) only [s100_j0, s100, xlen, AV.cells, splice, aload, astore, Nat.reduceAdd, Nat.reduceLeDiff, reduceIte, allB, hs]
   have p3 := Pur.push H3 (.row false 11 [cs])
   rw [ap35_sl (AHeap.get_push_same H3 (.row false 11 [cs])) (p3.get hg2) hel (by omega), xcall_some (by simp only [AHeap.next_push, AHeap.next_set]; omega)]
   simp only [AHeap.next_push, AHeap.next_set, s100_j0, s100]
   have hlen2 : l.length + 1 = (l ++ [e1]).length := by simp
   rw [hlen2]
   have gK : ∀ k, k < H3.next → k ≠ L → (((H3.push (.row false 11 [cs])).set L .dead).push (.row false 11 (els ++ [cs]))).get k = H3.get k := fun k hk hk' => by
    rw [AHeap.get_push_other (by simp only [AHeap.next_push, AHeap.next_set]; omega), AHeap.get_set_other (by omega), AHeap.get_push_other (by omega)]
   have mN : Mt r H0 (((H3.push (.row false 11 [cs])).set L .dead).push (.row false 11 (els ++ [cs]))) := ((((mb.trans (p1.mut _)).trans m2).trans m3).then_push _ |>.then_set (.inr hL) _).then_push _
   refine args_loop ih hx0 n m (by omega) (by omega) _ s1 (l ++ [e1]) (H3.next + 1) (els ++ [cs]) mN ?_ (by simp; omega) ?_ (by omega) (by simp [hel]) ?_ l' s' h2
   ·have := hx3.rd
    unfold Rd5 at this ⊢
    rw [gK r (by omega) (by omega)]; exact this
   ·exact AHeap.get_push_eq (by simp only [AHeap.next_push, AHeap.next_set]; omega) (by simp only [AHeap.next_push, AHeap.next_set]; omega)
   ·refine ElsV.append l els e1 cs ?_ hel ?_
    ·exact hev2.keep (fun k ro es hk hg' => ⟨⟨hk.1, by have := AHeap.get_lt hg'; omega⟩, by rw [gK k (AHeap.get_lt hg') hk.2]; exact hg'⟩) l els
    ·exact he3.keep (fun k ro es hk hg' => by
      have h3 := AHeap.get_lt hg'
      unfold Ge at hk
      exact ⟨⟨by omega, by omega⟩, by rw [gK k h3 (by omega)]; exact hg'⟩) e1 _
theorem args_step {n : Nat} (hn : n ≤ 900000000) (ih : ∀ k, k ≤ n → ExprOk k) : ArgsOk (n + 1) := by
 intro H r T tv s hx l s' h
 refine W_of (fun _ => run100 (n + 1)) ?_
 have hl := hx.rd.lt
 simp only [argsR] at h
 rw [s100]
 refine W_call (ropens_spec hx [40] (by simp)) ?_
 rintro _ H1 ⟨rfl, m1, hx1⟩
 refine ⟨m1.1, ?_⟩
 simp -implicitDefEqProofs (disch := first | assumption | omega | (simp only [nxB]; omega) | (simp only [oneB])) only [s100_j0, s100, xlen, AV.cells, splice, aload, astore, Nat.reduceAdd, Nat.reduceLeDiff, reduceIte, allB]
 refine W_call (ris_spec hx1.rd hx1.tk [41] (by simp)) ?_
 rintro _ H2 ⟨rfl, p2⟩
 refine ⟨p2.1, ?_⟩
 have hx2 := hx1.pur p2
 have mb := m1.trans (p2.mut _)
 cases hi : isR T (opensR T [40] s) [41] with
 | true =>
  simp only [hi, cond_true, Option.some.injEq, Prod.mk.injEq] at h
  obtain ⟨rfl, rfl⟩ := h
  simp -implicitDefEqProofs (disch := first | assumption | omega | (simp only [nxB]; omega) | (simp only [oneB])) only [s100_j0, s100, xlen, AV.cells, splice, aload, astore, Nat.reduceAdd, Nat.reduceLeDiff, reduceIte, allB]
  refine W_call (rcloses_spec hx2 [41] (by simp)) ?_
  rintro _ H3 ⟨rfl, m3, hx3⟩
  refine ⟨m3.1, ?_⟩
  try simp only [s100_j0, s100]
  exact W_some.2 ⟨mb.trans m3, hx3, KsV.nil _ _⟩
 | false =>
  simp only [hi, cond_false, Option.bind_eq_some_iff] at h
  obtain ⟨⟨e1, s1⟩, h1, h2⟩ := h
  simp -implicitDefEqProofs (disch := first | assumption | omega | (simp only [nxB]; omega) | (simp only [oneB])) only [s100_j0, s100, xlen, AV.cells, splice, aload, astore, Nat.reduceAdd, Nat.reduceLeDiff, reduceIte, allB]
  refine W_call (ih n (Nat.le_refl _) hx2 0 (by omega) e1 s1 h1) ?_
  rintro v H3 ⟨m3, hx3, he3⟩
  refine ⟨m3.1, ?_⟩
  have hm1 := m1.1
  have hm2 := p2.1
  have hm3 := m3.1
  obtain ⟨cs, rfl, hlen', hone⟩ := he3.cells
  have hs : ∀ l, sliceOf P l 35 1 [(0, .agg cs)] = some (.sl l 0 1 11 (some 1), .row false 11 [cs]) := fun l => sl35_1 l cs hlen' hone
  simp -implicitDefEqProofs (disch := first | assumption | omega | (simp only [nxB]; omega) | (simp only [oneB])) only [s100_j0, s100, xlen, AV.cells, splice, aload, astore, Nat.reduceAdd, Nat.reduceLeDiff, reduceIte, allB, hs]
  have p4 := (Pur.push H3 (.row false 11 [cs])).then_push (.row false 11 [cs])
  rw [ap35_nil (AHeap.get_push_same H3 (.row false 11 [cs])), xcall_some (by simp only [AHeap.next_push]; omega)]
  simp only [AHeap.next_push, s100_j0, s100]
  refine args_loop (N := n + 1) (fun k hk => ih k (by omega)) hx n (n + 1) (by omega) (by omega) _ s1 [e1] (H3.next + 1) [cs] ((mb.trans m3).trans (p4.mut _)) (hx3.rd.pur p4) (by simp; omega) ?_ (by omega) rfl ?_ l s' h2
  ·exact AHeap.get_push_eq (by simp only [AHeap.next_push]; omega) (by simp only [AHeap.next_push]; omega)
  ·rw [ElsV, ElsV]
   exact ⟨he3.keep (fun k ro es hk hg' => by
     have h3 := AHeap.get_lt hg'
     unfold Ge at hk
     exact ⟨⟨by omega, by omega⟩, p4.get hg'⟩) e1 _, trivial⟩
end Go.Proofs.Ytnjoomfeddamcaa

namespace Go.Proofs.Ytnjoomfeddamcaa
open Go.Ev
theorem behind_loop {N B : Nat} (ih : ∀ k, k < B → ExprOk k) {ok : Nat → Prop} {H0 : AHeap} {r : Nat} {T : List Tok} {tv : AV} {s0 : St} (hx0 : Ry H0 r T tv s0) (hok : ¬ ok r) (hnew : ∀ l, H0.next ≤ l → ok l) :
  ∀ (n m : Nat), n ≤ B → n < m → ∀ (H : AHeap) (s : St) (e : Ex) (cs zs : List AV), Mt r H0 H → Rd5 H r tv s → H.get (H0.next + 1) = some (.row false 11 [zs]) → zs.length = 11 → H.get H0.next = some (.row false 11 [cs]) →
   ExV H (fun l => ok l ∧ l ≠ H0.next ∧ l ≠ H0.next + 1) e (.agg cs) → ∀ (e' : Ex) (s' : St), behindR T n e s = some (e', s') →
   W (s81_l1 (evw P) N m (.ptr r 0 0) (.ptr H0.next 0 0) (.ptr (H0.next + 1) 0 0) H) (QostL ok H0 r T tv e' s')
 | 0, m, hN, hm, H, s, e, cs, zs, mb, hrd, hb4, hz, hb3, he, e', s', h => by simp [behindR] at h
 | n + 1, 0, hN, hm, H, s, e, cs, zs, mb, hrd, hb4, hz, hb3, he, e', s', h => by omega
 | n + 1, m + 1, hN, hm, H, s, e, cs, zs, mb, hrd, hb4, hz, hb3, he, e', s', h => by
  have hl := hx0.rd.lt
  have ho1 := hx0.tk.one
  have hx := hx0.mut mb hrd
  have hl3 := AHeap.get_lt hb3
  have hl4 := AHeap.get_lt hb4
  have hle := mb.1
  obtain ⟨cs', hcs, hlen, hone⟩ := he.cells
  cases hcs
  have ht : List.take 11 cs = cs := List.take_of_length_le (by omega)
  have hdz : List.drop 11 zs = [] := List.drop_of_length_le (by omega)
  have hdc : List.drop 11 cs = [] := List.drop_of_length_le (by omega)
  have hq := he.same
  simp only [behindR] at h
  simp only [s81_l1]
  rw [s81_b1]
  refine W_call (ris_spec hrd hx.tk [46] (by simp)) ?_
  rintro _ H1 ⟨rfl, p1⟩
  refine ⟨p1.1, ?_⟩
  have fin : ∀ Hf, Pur H Hf → (e', s') = (e, s) → W (s81_j0 (evw P) N (.ptr H0.next 0 0) (.ptr (H0.next + 1) 0 0) Hf) (QostL ok H0 r T tv e' s') := by
   intro Hf p hes
   cases hes
   have hb3' := p.get hb3
   have hb4' := p.get hb4
   have l3 := AHeap.get_lt hb3'
   have l4 := AHeap.get_lt hb4'
   simp -implicitDefEqProofs (disch := first | assumption | omega | (simp only [nxB]; omega) | (simp only [oneB])) only [s81_j0, s81_3, s81_19, s81_33, s81_34, s81_35, s81_36, s81_b1, s81_42, s81_43, s81, xlen, AV.cells, splice, aload, astore, Nat.reduceAdd, Nat.reduceLeDiff, reduceIte, allB, hb3', hb4', hlen, hone, List.append_nil, ht, hdz]
   have m' := (mb.trans (p.mut _)).then_set (.inr (Nat.le_succ _)) (.row false 11 [cs])
   refine W_some.2 ⟨m', hx0.mut m' ?_, (he.keep (Keep.pur p fun _ h => h) e _).keep (Keep.set _ (by omega) fun l h => h.1) e _⟩
   have := hrd.pur p
   unfold Rd5 at this ⊢
   rw [AHeap.get_set_other (by omega)]; exact this
  have go : ∀ (H3 : AHeap), Pur H H3 → (bif isR T s [46] then behindR T n (.mk { kind := 5, name := (nameR T (goS s)).1, pos := (tokAt T s.at_).pos } [e]) (nameR T (goS s)).2 else (exprR T n 0 (opensR T [91] s)).bind fun p => behindR T n (.mk { kind := 6, pos := (tokAt T s.at_).pos } [e, p.1]) (closesR T [93] p.2)) = some (e', s') →
    W (s81_36 (evw P) (s81_l1 (evw P) N m) H3 (.ptr r 0 0) (.ptr H0.next 0 0) (.ptr (H0.next + 1) 0 0)) (QostL ok H0 r T tv e' s') := by
   intro H3 p3 h3
   simp only [s81_36]
   refine W_call (rtok_spec (hrd.pur p3) (hx.tk.pur p3)) ?_
   rintro _ H4 ⟨rfl, p4⟩
   refine ⟨p4.1, ?_⟩
   simp -implicitDefEqProofs (disch := first | assumption | omega | (simp only [nxB]; omega) | (simp only [oneB])) only [s81_35, s81_34, s81_33, xlen, AV.cells, splice, aload, astore, Nat.reduceAdd, Nat.reduceLeDiff, reduceIte, allB, Tok.v]
   have p5 := (p3.trans p4).then_push (.row false 4 [[.int .i64 (tokAt T s.at_).kind, .str (tokAt T s.at_).text, .int .i64 (tokAt T s.at_).n, .int .i64 (tokAt T s.at_).pos]])
   have hq5 := AHeap.get_push_same H4 (.row false 4 [[.int .i64 (tokAt T s.at_).kind, .str (tokAt T s.at_).text, .int .i64 (tokAt T s.at_).n, .int .i64 (tokAt T s.at_).pos]])
   refine W_call (ris_spec (hrd.pur p5) (hx.tk.pur p5) [46] (by simp)) ?_
   rintro _ H7 ⟨rfl, p7⟩
   refine ⟨p7.1, ?_⟩
   have p8 := p5.trans p7
   have hq7 := p7.get hq5
   have hlq7 := AHeap.get_lt hq7
   have hb37 := p8.get hb3
   have hb47 := p8.get hb4
   have hx7 := hx.pur p8
   have mb7 := mb.trans (p8.mut _)
   have he7 := he.keep (Keep.pur p8 fun _ h => h) e _
   have hn4 : H.next ≤ H4.next := (p3.trans p4).1
   have l37 := AHeap.get_lt hb37
   cases hd : isR T s [46] with
   | true =>
    simp only [hd, cond_true] at h3
    have hr7 := hx7.rd
    have hr7' := hr7
    unfold Rd5 at hr7'
    have hlr7 := hr7.lt
    obtain ⟨m8, hd8⟩ := rset hr7 (goS s)
    simp -implicitDefEqProofs (disch := first | assumption | omega | (simp only [nxB]; omega) | (simp only [oneB])) only [s81_19, s81_33, s81_34, s81_35, s81_36, s81_42, s81_43, s81, xlen, AV.cells, splice, aload, astore, Nat.reduceAdd, Nat.reduceLeDiff, reduceIte, allB, hr7', ho1]
    refine W_call (rname_spec (hx0.mut (mb7.trans m8) hd8)) ?_
    rintro _ H9 ⟨rfl, m9, hx9⟩
    refine ⟨m9.1, ?_⟩
    have m89 := m8.trans m9
    have hb38 := m8.get hb37 (by omega)
    have hb39 := m9.get hb38 (by omega)
    have hb49 := m89.get hb47 (by omega)
    have hq8 := m8.get hq7 (by omega)
    have hq9 := m9.get hq8 (by omega)
    have l39 := AHeap.get_lt hb39
    have l49 := AHeap.get_lt hb49
    have lq9 := AHeap.get_lt hq9
    have hb38' : (H7.set r (.row false 5 [[tv, .int .i64 (IntKind.i64.wrap (s.at_ + 1)), .int .i64 s.opn, .int .i64 s.fe, .int .i64 s.fa]])).get H0.next = some (.row false 11 [cs]) := hb38
    have hq8' : (H7.set r (.row false 5 [[tv, .int .i64 (IntKind.i64.wrap (s.at_ + 1)), .int .i64 s.opn, .int .i64 s.fe, .int .i64 s.fa]])).get H4.next = some (.row false 4 [[.int .i64 (tokAt T s.at_).kind, .str (tokAt T s.at_).text, .int .i64 (tokAt T s.at_).n, .int .i64 (tokAt T s.at_).pos]]) := hq8
    have hs : ∀ l, sliceOf P l 35 1 [(0, .agg cs)] = some (.sl l 0 1 11 (some 1), .row false 11 [cs]) := fun l => sl35_1 l cs hlen hone
    simp -implicitDefEqProofs (disch := first | assumption | omega | (simp only [nxB]; omega) | (simp only [oneB])) only [s81_19, s81_33, s81_34, s81_35, s81_36, s81_42, s81_43, s81, xlen, AV.cells, splice, aload, astore, Nat.reduceAdd, Nat.reduceLeDiff, reduceIte, allB, hb39, hb38', hq9, hq8', hs, ht, hdc, hq, Bool.and_true, Bool.and_self]
    simp only [s81_3]
    have mb10 : Mt r H0 ((H9.push (.row false 11 [cs])).set H0.next (.row false 11 [[.int .i64 5, .int .i64 0, .str (nameR T (goS s)).1, .str [], .int .i64 0, .sl H9.next 0 1 11 (some 1), .int .i64 (tokAt T s.at_).pos, .int .i64 0, .int .i64 0, .int .i64 0, .int .i64 0]])) := ((mb7.trans m89).then_push _).then_set (.inr (Nat.le_refl _)) _
    have gK : ∀ k, k < H9.next → k ≠ H0.next → ((H9.push (.row false 11 [cs])).set H0.next (.row false 11 [[.int .i64 5, .int .i64 0, .str (nameR T (goS s)).1, .str [], .int .i64 0, .sl H9.next 0 1 11 (some 1), .int .i64 (tokAt T s.at_).pos, .int .i64 0, .int .i64 0, .int .i64 0, .int .i64 0]])).get k = H9.get k := fun k hk hk' => by
     rw [AHeap.get_set_other (by omega), AHeap.get_push_other (by omega)]
    refine behind_loop ih hx0 hok hnew n m (by omega) (by omega) _ _ _ (Ea.cells { kind := 5, name := (nameR T (goS s)).1, pos := (tokAt T s.at_).pos } (.sl H9.next 0 1 11 (some 1))) zs mb10 ?_ ?_ hz (AHeap.get_set_same (by simp only [AHeap.next_push]; omega)) ?_ e' s' h3
    ·have := hx9.rd
     unfold Rd5 at this ⊢
     rw [gK r (by omega) (by omega)]; exact this
    ·rw [gK _ (by omega) (by omega)]; exact hb49
    ·rw [ExV_mk]
     have he9 := he7.mut m89 (by rintro ⟨h, _⟩; exact hok h) fun _ h => h
     refine ⟨_, rfl, KsV.one_at (ro := false) ?_ ⟨hnew _ (by omega), by omega, by omega⟩ (he9.keep (fun l ro els hl' hg => ⟨hl', by rw [gK l (AHeap.get_lt hg) hl'.2.1]; exact hg⟩) e _)⟩
     rw [AHeap.get_set_other (by omega)]; exact AHeap.get_push_same _ _
   | false =>
    simp only [hd, cond_false, Option.bind_eq_some_iff] at h3
    obtain ⟨⟨e1, s1⟩, g1, g2⟩ := h3
    simp -implicitDefEqProofs (disch := first | assumption | omega | (simp only [nxB]; omega) | (simp only [oneB])) only [s81_3, s81_33, s81_34, s81_35, s81_36, s81_42, s81_43, s81, xlen, AV.cells, splice, aload, astore, Nat.reduceAdd, Nat.reduceLeDiff, reduceIte, allB]
    refine W_call (ropens_spec hx7 [91] (by simp)) ?_
    rintro _ H8 ⟨rfl, m8, hx8⟩
    refine ⟨m8.1, ?_⟩
    simp -implicitDefEqProofs (disch := first | assumption | omega | (simp only [nxB]; omega) | (simp only [oneB])) only [s81_3, s81_33, s81_34, s81_35, s81_36, s81_42, s81_43, s81, xlen, AV.cells, splice, aload, astore, Nat.reduceAdd, Nat.reduceLeDiff, reduceIte, allB]
    refine W_call (ih n (by omega) hx8 0 (by omega) e1 s1 g1) ?_
    rintro v H9 ⟨m9, hx9, he9⟩
    refine ⟨m9.1, ?_⟩
    obtain ⟨ds, rfl, hlen', hone'⟩ := he9.cells
    have htd : List.take 11 ds = ds := List.take_of_length_le (by omega)
    simp -implicitDefEqProofs (disch := first | assumption | omega | (simp only [nxB]; omega) | (simp only [oneB])) only [s81_3, s81_33, s81_34, s81_35, s81_36, s81_42, s81_43, s81, xlen, AV.cells, splice, aload, astore, Nat.reduceAdd, Nat.reduceLeDiff, reduceIte, allB, hlen', hone', List.append_nil]
    have p10 := Pur.push H9 (.row false 11 [ds])
    refine W_call (rcloses_spec (hx9.pur p10) [93] (by simp)) ?_
    rintro _ H12 ⟨rfl, m12, hx12⟩
    refine ⟨m12.1, ?_⟩
    have mall := ((m8.trans m9).trans (p10.mut _)).trans m12
    have hb312 := mall.get hb37 (by omega)
    have hb412 := mall.get hb47 (by omega)
    have hq12 := mall.get hq7 (by omega)
    have hd12 := m12.get (AHeap.get_push_same H9 (.row false 11 [ds])) (by have := m8.1; have := m9.1; omega)
    have l312 := AHeap.get_lt hb312
    have l412 := AHeap.get_lt hb412
    have lq12 := AHeap.get_lt hq12
    have hs : ∀ l, sliceOf P l 35 2 [(0, .agg cs), (1, .agg ds)] = some (.sl l 0 2 11 (some 2), .row false 11 [cs, ds]) := fun l => sl35_2 l cs ds hlen hone hlen' hone'
    simp -implicitDefEqProofs (disch := first | assumption | omega | (simp only [nxB]; omega) | (simp only [oneB])) only [s81_3, s81_33, s81_34, s81_35, s81_36, s81_42, s81_43, s81, xlen, AV.cells, splice, aload, astore, Nat.reduceAdd, Nat.reduceLeDiff, reduceIte, allB, hb312, hd12, hq12, hs, ht, htd, hdc]
    simp only [s81_19]
    have mb13 : Mt r H0 ((H12.push (.row false 11 [cs, ds])).set H0.next (.row false 11 [[.int .i64 6, .int .i64 0, .str [], .str [], .int .i64 0, .sl H12.next 0 2 11 (some 2), .int .i64 (tokAt T s.at_).pos, .int .i64 0, .int .i64 0, .int .i64 0, .int .i64 0]])) := ((mb7.trans mall).then_push _).then_set (.inr (Nat.le_refl _)) _
    have gK : ∀ k, k < H12.next → k ≠ H0.next → ((H12.push (.row false 11 [cs, ds])).set H0.next (.row false 11 [[.int .i64 6, .int .i64 0, .str [], .str [], .int .i64 0, .sl H12.next 0 2 11 (some 2), .int .i64 (tokAt T s.at_).pos, .int .i64 0, .int .i64 0, .int .i64 0, .int .i64 0]])).get k = H12.get k := fun k hk hk' => by
     rw [AHeap.get_set_other (by omega), AHeap.get_push_other (by omega)]
    refine behind_loop ih hx0 hok hnew n m (by omega) (by omega) _ _ _ (Ea.cells { kind := 6, pos := (tokAt T s.at_).pos } (.sl H12.next 0 2 11 (some 2))) zs mb13 ?_ ?_ hz (AHeap.get_set_same (by simp only [AHeap.next_push]; omega)) ?_ e' s' g2
    ·have := hx12.rd
     unfold Rd5 at this ⊢
     rw [gK r (by omega) (by omega)]; exact this
    ·rw [gK _ (by omega) (by omega)]; exact hb412
    ·rw [ExV_mk]
     have he12 := he7.mut mall (by rintro ⟨h, _⟩; exact hok h) fun _ h => h
     have l47 := AHeap.get_lt hb47
     have hm8 := m8.1
     have hm9 := m9.1
     refine ⟨_, rfl, KsV.two_at (ro := false) ?_ ⟨hnew _ (by omega), by omega, by omega⟩ (he12.keep (fun l ro els hl' hg => ⟨hl', by rw [gK l (AHeap.get_lt hg) hl'.2.1]; exact hg⟩) e _) (he9.keep (fun l ro els hl' hg => ?_) e1 _)⟩
     ·rw [AHeap.get_set_other (by omega)]; exact AHeap.get_push_same _ _
     ·unfold Ge at hl'
      have hg12 := m12.get (p10.get hg) (by omega)
      exact ⟨⟨hnew _ (by omega), by omega, by omega⟩, by rw [gK l (AHeap.get_lt hg12) (by omega)]; exact hg12⟩
  cases h1 : isR T s [46] with
  | true =>
   simp only [h1, cond_true] at h
   simp -implicitDefEqProofs (disch := first | assumption | omega | (simp only [nxB]; omega) | (simp only [oneB])) only [s81_3, s81_19, s81_33, s81_34, s81_35, s81_42, s81_43, s81, xlen, AV.cells, splice, aload, astore, Nat.reduceAdd, Nat.reduceLeDiff, reduceIte, allB]
   exact go H1 p1 (by rw [h1]; exact h)
  | false =>
   simp only [h1, cond_false] at h
   simp -implicitDefEqProofs (disch := first | assumption | omega | (simp only [nxB]; omega) | (simp only [oneB])) only [s81_3, s81_19, s81_33, s81_34, s81_35, s81_42, s81_43, s81, xlen, AV.cells, splice, aload, astore, Nat.reduceAdd, Nat.reduceLeDiff, reduceIte, allB]
   refine W_eff (ris_spec (hrd.pur p1) (hx.tk.pur p1) [91] (by simp)) ?_
   rintro _ H2 ⟨rfl, p2⟩
   refine ⟨p2.1, ?_⟩
   cases h2 : isR T s [91] with
   | true =>
    simp only [h2, cond_true] at h
    simp -implicitDefEqProofs (disch := first | assumption | omega | (simp only [nxB]; omega) | (simp only [oneB])) only [s81_3, s81_19, s81_33, s81_34, s81_35, s81_42, s81_43, s81, xlen, AV.cells, splice, aload, astore, Nat.reduceAdd, Nat.reduceLeDiff, reduceIte, allB]
    exact go H2 (p1.trans p2) (by rw [h1]; exact h)
   | false =>
    simp only [h2, cond_false, Option.some.injEq] at h
    simp -implicitDefEqProofs (disch := first | assumption | omega | (simp only [nxB]; omega) | (simp only [oneB])) only [s81_3, s81_19, s81_33, s81_34, s81_35, s81_42, s81_43, s81, xlen, AV.cells, splice, aload, astore, Nat.reduceAdd, Nat.reduceLeDiff, reduceIte, allB]
    exact fin H2 (p1.trans p2) h.symm
theorem behind_step {n : Nat} (ih : ∀ k, k ≤ n → ExprOk k) : BehindOk (n + 1) := by
 intro ok H r T tv s e v hx he hok hnew e' s' h
 refine W_of (fun _ => run81 (n + 2)) ?_
 obtain ⟨cs, rfl, hlen, hone⟩ := he.cells
 have hbx : ∀ l, boxOf l (.agg cs) = some (.ptr l 0 0, .row false 11 [cs]) := fun l => by rw [boxOf_agg l cs hone, hlen]
 simp -implicitDefEqProofs (disch := first | assumption | omega | (simp only [nxB]; omega) | (simp only [oneB])) only [s81, s81_43, s81_42, xlen, AV.cells, splice, aload, astore, Nat.reduceAdd, Nat.reduceLeDiff, reduceIte, allB, hbx]
 have p1 := (Pur.push H (.row false 11 [cs])).then_push (.row false 11 [[.int .i64 0, .int .i64 0, .str [], .str [], .int .i64 0, .nilSl, .int .i64 0, .int .i64 0, .int .i64 0, .int .i64 0, .int .i64 0]])
 refine behind_loop (N := n + 2) (B := n + 1) (fun k hk => ih k (by omega)) hx hok hnew (n + 1) (n + 2) (by omega) (by omega) _ s e cs [.int .i64 0, .int .i64 0, .str [], .str [], .int .i64 0, .nilSl, .int .i64 0, .int .i64 0, .int .i64 0, .int .i64 0, .int .i64 0] (p1.mut _) (hx.rd.pur p1) ?_ rfl ?_ ?_ e' s' h
 ·simp -implicitDefEqProofs (disch := first | assumption | omega | (simp only [nxB]; omega) | (simp only [oneB])) only [heapB]
 ·simp -implicitDefEqProofs (disch := first | assumption | omega | (simp only [nxB]; omega) | (simp only [oneB])) only [heapB]
 ·exact he.keep (fun l ro els hl' hg => ⟨⟨hl', by have := AHeap.get_lt hg; omega, by have := AHeap.get_lt hg; omega⟩, p1.get hg⟩) e _
end Go.Proofs.Ytnjoomfeddamcaa

namespace Go.Proofs.Ytnjoomfeddamcaa
open Go.Ev
theorem isR_ne {T : List Tok} {s : St} {x : Bs} (h : isR T s x = true) (hx : x ≠ []) : (tokAt T s.at_).text ≠ [] := by
 simp only [isR, isB, Bool.and_eq_true, beq_iff_eq] at h
 rw [h.2.2]; exact hx
theorem sign_partR {n : Nat} (ih : ExprOk n) {H0 H : AHeap} {r : Nat} {T : List Tok} {tv : AV} {s : St} (hx0 : Ry H0 r T tv s) (p0 : Pur H0 H) (hb : H.get H0.next = some (.row false 11 [[.int .i64 0, .int .i64 0, .str [], .str [], .int .i64 0, .nilSl, .int .i64 0, .int .i64 0, .int .i64 0, .int .i64 0, .int .i64 0]])) {b : Nat} (hbb : H0.next < b) (hq : H.get b = some (.row false 4 [[.int .i64 (tokAt T s.at_).kind, .str (tokAt T s.at_).text, .int .i64 (tokAt T s.at_).n, .int .i64 (tokAt T s.at_).pos]])) (hne : (tokAt T s.at_).text ≠ []) {k : Int}
  {e' : Ex} {s' : St} (h : signR T (n + 1) k s = some (e', s')) : W (s69_j0 (evw P) (.ptr r 0 0) (.ptr H0.next 0 0) (.ptr b 0 0) (.int .i64 k) H) (QostE H0 r T tv e' s') := by
 have hl := hx0.rd.lt
 have ho1 := hx0.tk.one
 have hx := hx0.pur p0
 have hle := p0.1
 have hl4 := AHeap.get_lt hq
 have hlb := AHeap.get_lt hb
 simp only [signR, Option.bind_eq_some_iff] at h
 obtain ⟨⟨e1, s1⟩, h1, h2⟩ := h
 simp only [Option.some.injEq, Prod.mk.injEq] at h2
 obtain ⟨rfl, rfl⟩ := h2
 simp -implicitDefEqProofs (disch := first | assumption | omega | (simp only [nxB]; omega) | (simp only [oneB])) only [s69_j0, s69_33, s69, xlen, AV.cells, splice, aload, astore, Nat.reduceAdd, Nat.reduceLeDiff, reduceIte, allB, hq]
 refine W_call (ropens_spec hx _ hne) ?_
 rintro _ H1 ⟨rfl, m1, hx1⟩
 refine ⟨m1.1, ?_⟩
 simp -implicitDefEqProofs (disch := first | assumption | omega | (simp only [nxB]; omega) | (simp only [oneB])) only [s69_j0, s69_33, s69, xlen, AV.cells, splice, aload, astore, Nat.reduceAdd, Nat.reduceLeDiff, reduceIte, allB]
 refine W_call (ih hx1 5 (by omega) e1 s1 h1) ?_
 rintro v H2 ⟨m2, hx2, he2⟩
 refine ⟨m2.1, ?_⟩
 have hm1 := m1.1
 have hm2 := m2.1
 have m12 := m1.trans m2
 have hb2 := m12.get hb (by omega)
 have hq2 := m12.get hq (by omega)
 have hl2 := AHeap.get_lt hb2
 have hl42 := AHeap.get_lt hq2
 obtain ⟨cs, rfl, hlen, hone⟩ := he2.cells
 have ht : List.take 11 cs = cs := List.take_of_length_le (by omega)
 have hs : ∀ l, sliceOf P l 35 1 [(0, .agg cs)] = some (.sl l 0 1 11 (some 1), .row false 11 [cs]) := fun l => sl35_1 l cs hlen hone
 have hr2 := hx2.rd
 unfold Rd5 at hr2
 have hlr := hx2.rd.lt
 have mb := (p0.mut (· = r)).trans m12
 simp -implicitDefEqProofs (disch := first | assumption | omega | (simp only [nxB]; omega) | (simp only [oneB])) only [s69_j0, s69_33, s69, xlen, AV.cells, splice, aload, astore, Nat.reduceAdd, Nat.reduceLeDiff, reduceIte, allB, hlen, hone, List.append_nil, ht, hs, hr2, ho1, hb2, hq2]
 refine W_some.2 ?_
 refine QostL.fin (ok := Ge H0.next) (a := { kind := k, pos := (tokAt T s.at_).pos }) (kv := .sl (H2.next + 1) 0 1 11 (some 1)) (s' := outS s1) hx0 ?_ ?_ (KsV.one_at (ro := false) ?_ (by unfold Ge; omega) (he2.new ?_ fun l h => by unfold Ge; omega))
 ·(repeat (first | exact mb | refine Mut.then_push ?_ _ | refine Mut.then_set (S := (· = r)) ?_ (.inl rfl) _ | refine Mut.then_set ?_ (.inr (by (first | omega | (simp only [AHeap.next_push, AHeap.next_set]; omega)))) _))
 ·(unfold Rd5; simp -implicitDefEqProofs (disch := first | assumption | omega | (simp only [nxB]; omega) | (simp only [oneB])) only [heapB, hr2, goS, outS, inS])
 ·simp -implicitDefEqProofs (disch := first | assumption | omega | (simp only [nxB]; omega) | (simp only [oneB])) only [heapB]
 ·exact Mut.then_set (S := fun l => l < _) ((Mut.then_set (S := fun l => l < _) ((Mut.refl _ _).then_push _) (.inl (by omega)) _).then_push _) (.inl (by omega)) _
theorem unary_stepR {n : Nat} (ihE : ∀ k, k ≤ n → ExprOk k) (ihF : FirstROk n) (ihB : BehindOk n) : UnaryROk (n + 1) := by
 intro H r T tv s hx e s' h
 refine W_of (fun _ => run69 0) ?_
 have hl := hx.rd.lt
 simp only [unaryR] at h
 have p1 := Pur.push H (.row false 11 [[.int .i64 0, .int .i64 0, .str [], .str [], .int .i64 0, .nilSl, .int .i64 0, .int .i64 0, .int .i64 0, .int .i64 0, .int .i64 0]])
 simp -implicitDefEqProofs (disch := first | assumption | omega | (simp only [nxB]; omega) | (simp only [oneB])) only [s69, s69_33, xlen, AV.cells, splice, aload, astore, Nat.reduceAdd, Nat.reduceLeDiff, reduceIte, allB]
 refine W_call (rtok_spec (hx.rd.pur p1) (hx.tk.pur p1)) ?_
 rintro _ H2 ⟨rfl, p2⟩
 refine ⟨p2.1, ?_⟩
 have hb2 := p2.get (AHeap.get_push_same H _)
 have hl2 := AHeap.get_lt hb2
 simp -implicitDefEqProofs (disch := first | assumption | omega | (simp only [nxB]; omega) | (simp only [oneB])) only [s69_33, s69, xlen, AV.cells, splice, aload, astore, Nat.reduceAdd, Nat.reduceLeDiff, reduceIte, allB, Tok.v]
 have p3 := p2.then_push (.row false 4 [[.int .i64 (tokAt T s.at_).kind, .str (tokAt T s.at_).text, .int .i64 (tokAt T s.at_).n, .int .i64 (tokAt T s.at_).pos]])
 have hq3 := AHeap.get_push_same H2 (.row false 4 [[.int .i64 (tokAt T s.at_).kind, .str (tokAt T s.at_).text, .int .i64 (tokAt T s.at_).n, .int .i64 (tokAt T s.at_).pos]])
 have p13 := p1.trans p3
 refine W_call (ris_spec (hx.rd.pur p13) (hx.tk.pur p13) [45] (by simp)) ?_
 rintro _ H4 ⟨rfl, p4⟩
 refine ⟨p4.1, ?_⟩
 have p14 := p13.trans p4
 have hq4 := p4.get hq3
 have hb4 := (p3.trans p4).get (AHeap.get_push_same H _)
 cases h1 : isR T s [45] with
 | true =>
  simp only [h1, cond_true] at h
  have hne : (tokAt T s.at_).text ≠ [] := isR_ne h1 (by simp)
  simp -implicitDefEqProofs (disch := first | assumption | omega | (simp only [nxB]; omega) | (simp only [oneB])) only [s69_33, s69, xlen, AV.cells, splice, aload, astore, Nat.reduceAdd, Nat.reduceLeDiff, reduceIte, allB]
  cases n with
  | zero => simp [signR] at h
  | succ n => exact sign_partR (ihE n (by omega)) hx p14 hb4 (by omega) hq4 hne h
 | false =>
  simp only [h1, cond_false] at h
  simp -implicitDefEqProofs (disch := first | assumption | omega | (simp only [nxB]; omega) | (simp only [oneB])) only [s69_33, s69, xlen, AV.cells, splice, aload, astore, Nat.reduceAdd, Nat.reduceLeDiff, reduceIte, allB]
  refine W_call (ris_spec (hx.rd.pur p14) (hx.tk.pur p14) [33] (by simp)) ?_
  rintro _ H5 ⟨rfl, p5⟩
  refine ⟨p5.1, ?_⟩
  have p15 := p14.trans p5
  have hq5 := p5.get hq4
  have hb5 := p5.get hb4
  cases h2 : isR T s [33] with
  | true =>
   simp only [h2, cond_true] at h
   have hne : (tokAt T s.at_).text ≠ [] := isR_ne h2 (by simp)
   simp -implicitDefEqProofs (disch := first | assumption | omega | (simp only [nxB]; omega) | (simp only [oneB])) only [s69_33, s69, xlen, AV.cells, splice, aload, astore, Nat.reduceAdd, Nat.reduceLeDiff, reduceIte, allB]
   cases n with
   | zero => simp [signR] at h
   | succ n => exact sign_partR (ihE n (by omega)) hx p15 hb5 (by omega) hq5 hne h
  | false =>
   simp only [h2, cond_false, Option.bind_eq_some_iff] at h
   obtain ⟨⟨e1, s1⟩, g1, g2⟩ := h
   simp -implicitDefEqProofs (disch := first | assumption | omega | (simp only [nxB]; omega) | (simp only [oneB])) only [s69_33, s69, xlen, AV.cells, splice, aload, astore, Nat.reduceAdd, Nat.reduceLeDiff, reduceIte, allB]
   refine W_call (ihF (hx.pur p15) e1 s1 g1) ?_
   rintro v H6 ⟨m6, hx6, he6⟩
   refine ⟨m6.1, ?_⟩
   have hn5 := p15.1
   have hm6 := m6.1
   have hb6 := m6.get hb5 (by omega)
   simp -implicitDefEqProofs (disch := first | assumption | omega | (simp only [nxB]; omega) | (simp only [oneB])) only [s69_33, s69, xlen, AV.cells, splice, aload, astore, Nat.reduceAdd, Nat.reduceLeDiff, reduceIte, allB]
   have hl5 := AHeap.get_lt hb5
   refine W_call (ihB (ok := Ge (H.next + 1)) hx6 (he6.keep (Keep.pur (Pur.refl _) fun l hl' => by unfold Ge at *; omega) e1 _) (by unfold Ge; omega) (fun l hl' => by unfold Ge; omega) e s' g2) ?_
   rintro v H7 ⟨m7, hx7, he7⟩
   refine ⟨m7.1, ?_⟩
   have hb7 := m7.get hb6 (by omega)
   have hl7 := AHeap.get_lt hb7
   obtain ⟨cs, rfl, hlen, hone⟩ := he7.cells
   have ht : List.take 11 cs = cs := List.take_of_length_le (by omega)
   simp -implicitDefEqProofs (disch := first | assumption | omega | (simp only [nxB]; omega) | (simp only [oneB])) only [s69_33, s69, xlen, AV.cells, splice, aload, astore, Nat.reduceAdd, Nat.reduceLeDiff, reduceIte, allB, hb7, hlen, hone, List.append_nil, ht]
   exact W_some.2 (QostE.ret hx (((p15.mut _).trans m6).trans m7) hx7.rd (Nat.le_refl _) he7 (Nat.lt_succ_self _) _)
end Go.Proofs.Ytnjoomfeddamcaa

namespace Go.Proofs.Ytnjoomfeddamcaa
open Go.Ev
theorem expr_end {N : Nat} {H0 H : AHeap} {r : Nat} {T : List Tok} {tv : AV} {s0 s : St} (hx0 : Ry H0 r T tv s0) (mb : Mt r H0 H) (hrd : Rd5 H r tv s) {b3 : Nat} {cs zs : List AV} {e : Ex} (hb2 : H.get H0.next = some (.row false 11 [zs])) (hz : zs.length = 11) (hb3 : H.get b3 = some (.row false 11 [cs])) (h3 : H0.next < b3)
  (he : ExV H (fun l => H0.next < l ∧ l ≠ b3) e (.agg cs)) : W (s39_j0 (evw P) N (.ptr H0.next 0 0) (.ptr b3 0 0) H) (QostE H0 r T tv e s) := by
 have hl := hx0.rd.lt
 have hl2 := AHeap.get_lt hb2
 have hl3 := AHeap.get_lt hb3
 obtain ⟨cs', hcs, hlen, hone⟩ := he.cells
 cases hcs
 have ht : List.take 11 cs = cs := List.take_of_length_le (by omega)
 have hd : List.drop 11 zs = [] := List.drop_of_length_le (by omega)
 simp -implicitDefEqProofs (disch := first | assumption | omega | (simp only [nxB]; omega) | (simp only [oneB])) only [s39_j0, s39_7, s39_b1, s39_40, s39_41, s39_42, s39, xlen, AV.cells, splice, aload, astore, Nat.reduceAdd, Nat.reduceLeDiff, reduceIte, allB, hb2, hb3, hlen, hone, List.append_nil, ht, hd]
 have m' := mb.then_set (.inr (Nat.le_refl _)) (.row false 11 [cs])
 refine W_some.2 ⟨m', hx0.mut m' ?_, he.keep (Keep.set _ (by omega) fun l h => by unfold Ge; omega) e _⟩
 unfold Rd5 at hrd ⊢
 rw [AHeap.get_set_other (by omega)]; exact hrd
theorem expr_loop {N B : Nat} (ih : ∀ k, k < B → ExprOk k) {H0 : AHeap} {r : Nat} {T : List Tok} {tv : AV} {s0 : St} (hx0 : Ry H0 r T tv s0) {lev : Nat} (hlev : lev < 5) {b3 : Nat} (h3 : H0.next < b3) :
  ∀ (n m : Nat), n ≤ B → n < m → ∀ (H : AHeap) (s : St) (e : Ex) (cs zs : List AV), Mt r H0 H → Rd5 H r tv s → H.get H0.next = some (.row false 11 [zs]) → zs.length = 11 → H.get b3 = some (.row false 11 [cs]) →
   ExV H (fun l => H0.next < l ∧ l ≠ b3) e (.agg cs) → ∀ (e' : Ex) (s' : St), exprRL T n lev e s = some (e', s') →
   W (s39_l1 (evw P) N m (.ptr r 0 0) (.int .i64 lev) (.ptr H0.next 0 0) (.ptr b3 0 0) H) (QostE H0 r T tv e' s')
 | 0, m, hN, hm, H, s, e, cs, zs, mb, hrd, hb2, hz, hb3, he, e', s', h => by simp [exprRL] at h
 | n + 1, 0, hN, hm, H, s, e, cs, zs, mb, hrd, hb2, hz, hb3, he, e', s', h => by omega
 | n + 1, m + 1, hN, hm, H, s, e, cs, zs, mb, hrd, hb2, hz, hb3, he, e', s', h => by
  have hl := hx0.rd.lt
  have hx := hx0.mut mb hrd
  have hl3 := AHeap.get_lt hb3
  obtain ⟨cs', hcs, hlen, hone⟩ := he.cells
  cases hcs
  have ht : List.take 11 cs = cs := List.take_of_length_le (by omega)
  have hd : List.drop 11 cs = [] := List.drop_of_length_le (by omega)
  have ho1 := hx0.tk.one
  simp only [exprRL] at h
  simp only [s39_l1]
  rw [s39_b1]
  refine W_call (rok_spec hrd) ?_
  rintro _ H1 ⟨rfl, rfl⟩
  refine ⟨Nat.le_refl _, ?_⟩
  cases hfe : s.fe == 0 with
  | false =>
   simp only [hfe, Bool.false_and, cond_false, Option.some.injEq, Prod.mk.injEq] at h
   obtain ⟨rfl, rfl⟩ := h
   simp -implicitDefEqProofs (disch := first | assumption | omega | (simp only [nxB]; omega) | (simp only [oneB])) only [s39_7, s39_40, s39_41, s39_42, s39, xlen, AV.cells, splice, aload, astore, Nat.reduceAdd, Nat.reduceLeDiff, reduceIte, allB]
   exact expr_end hx0 mb hrd hb2 hz hb3 h3 he
  | true =>
   simp only [hfe, Bool.true_and] at h
   simp -implicitDefEqProofs (disch := first | assumption | omega | (simp only [nxB]; omega) | (simp only [oneB])) only [s39_7, s39_40, s39_41, s39_42, s39, xlen, AV.cells, splice, aload, astore, Nat.reduceAdd, Nat.reduceLeDiff, reduceIte, allB]
   refine W_eff (rtok_spec hrd hx.tk) ?_
   rintro _ H1 ⟨rfl, p1⟩
   refine ⟨p1.1, ?_⟩
   simp -implicitDefEqProofs (disch := first | assumption | omega | (simp only [nxB]; omega) | (simp only [oneB])) only [s39_7, s39_40, s39_41, s39_42, s39, xlen, AV.cells, splice, aload, astore, Nat.reduceAdd, Nat.reduceLeDiff, reduceIte, allB]
   refine W_eff (level_spec lev hlev (tokAt T s.at_)) ?_
   rintro _ H2 ⟨rfl, p2⟩
   refine ⟨p2.1, ?_⟩
   have p3 := p1.trans p2
   cases hk : levR lev (tokAt T s.at_) != 0 with
   | false =>
    simp only [hk, cond_false, Option.some.injEq, Prod.mk.injEq] at h
    obtain ⟨rfl, rfl⟩ := h
    simp -implicitDefEqProofs (disch := first | assumption | omega | (simp only [nxB]; omega) | (simp only [oneB])) only [s39_7, s39_40, s39_41, s39_42, s39, xlen, AV.cells, splice, aload, astore, Nat.reduceAdd, Nat.reduceLeDiff, reduceIte, allB, hk]
    exact expr_end hx0 (mb.trans (p3.mut _)) (hrd.pur p3) (p3.get hb2) hz (p3.get hb3) h3 (he.keep (Keep.pur p3 fun _ h => h) e _)
   | true =>
    simp only [hk, cond_true, Option.bind_eq_some_iff] at h
    obtain ⟨⟨e1, s1⟩, h1, h2⟩ := h
    simp -implicitDefEqProofs (disch := first | assumption | omega | (simp only [nxB]; omega) | (simp only [oneB])) only [s39_7, s39_40, s39_41, s39_42, s39, xlen, AV.cells, splice, aload, astore, Nat.reduceAdd, Nat.reduceLeDiff, reduceIte, allB, hk]
    refine W_call (rtok_spec (hrd.pur p3) (hx.tk.pur p3)) ?_
    rintro _ H4 ⟨rfl, p4⟩
    refine ⟨p4.1, ?_⟩
    have p5 := (p3.trans p4).then_push (.row false 4 [[.int .i64 (tokAt T s.at_).kind, .str (tokAt T s.at_).text, .int .i64 (tokAt T s.at_).n, .int .i64 (tokAt T s.at_).pos]])
    have hq5 := AHeap.get_push_same H4 (.row false 4 [[.int .i64 (tokAt T s.at_).kind, .str (tokAt T s.at_).text, .int .i64 (tokAt T s.at_).n, .int .i64 (tokAt T s.at_).pos]])
    have hrd4 := hrd.pur (p3.trans p4)
    have hrd5 := hrd.pur p5
    have hr2 := hrd4
    unfold Rd5 at hr2
    have hlr := hrd4.lt
    obtain ⟨m6, hd6⟩ := rset hrd5 (goS s)
    have hw : IntKind.i64.wrap ((lev : Int) + 1) = ((lev + 1 : Nat) : Int) := by rw [wrap_i64 (by omega) (by omega)]; simp
    simp -implicitDefEqProofs (disch := first | assumption | omega | (simp only [nxB]; omega) | (simp only [oneB])) only [s39_7, s39_40, s39_41, s39_42, s39, xlen, AV.cells, splice, aload, astore, Nat.reduceAdd, Nat.reduceLeDiff, reduceIte, allB, Tok.v, hr2, ho1, hw]
    have mb6 := (mb.trans (p5.mut _)).trans m6
    have hx6 := hx0.mut mb6 hd6
    refine W_call (ih n (by omega) hx6 (lev + 1) (by omega) e1 s1 h1) ?_
    rintro v H7 ⟨m7, hx7, he7⟩
    refine ⟨m7.1, ?_⟩
    have hb36 := m6.get (p5.get hb3) (by omega)
    have hb37 := m7.get hb36 (by omega)
    have hl37 := AHeap.get_lt hb37
    have hq6 := m6.get hq5 (by have := AHeap.get_lt hrd4; omega)
    have hq7 := m7.get hq6 (by have := AHeap.get_lt hrd4; omega)
    have hlq7 := AHeap.get_lt hq7
    have hm7 := m7.1
    have hm5 := p5.1
    simp only [AHeap.next_set, AHeap.next_push] at hm7 hm5 he7
    obtain ⟨ds, rfl, hlen', hone'⟩ := he7.cells
    have htd : List.take 11 ds = ds := List.take_of_length_le (by omega)
    simp -implicitDefEqProofs (disch := first | assumption | omega | (simp only [nxB]; omega) | (simp only [oneB])) only [s39_7, s39_40, s39_41, s39_42, s39, xlen, AV.cells, splice, aload, astore, Nat.reduceAdd, Nat.reduceLeDiff, reduceIte, allB, hlen', hone', List.append_nil, hq7]
    have p8 := Pur.push H7 (.row false 11 [ds])
    refine W_call (level_spec (H := H7.push (.row false 11 [ds])) lev hlev (tokAt T s.at_)) ?_
    rintro _ H9 ⟨rfl, p9⟩
    refine ⟨p9.1, ?_⟩
    have p89 := p8.trans p9
    have hd9 := p9.get (AHeap.get_push_same H7 (.row false 11 [ds]))
    have hb39 := p89.get hb37
    have hq9 := p89.get hq7
    have hn9 := AHeap.get_lt hd9
    have hl39 := AHeap.get_lt hb39
    have hlq9 := AHeap.get_lt hq9
    have hs : ∀ l, sliceOf P l 35 2 [(0, .agg cs), (1, .agg ds)] = some (.sl l 0 2 11 (some 2), .row false 11 [cs, ds]) := fun l => sl35_2 l cs ds hlen hone hlen' hone'
    have hqs := he.same
    have hqs7 := he7.same
    have hqt : rdIs (some (.agg [.int .i64 (tokAt T s.at_).kind, .str (tokAt T s.at_).text, .int .i64 (tokAt T s.at_).n, .int .i64 (tokAt T s.at_).pos])) (.agg [.int .i64 (tokAt T s.at_).kind, .str (tokAt T s.at_).text, .int .i64 (tokAt T s.at_).n, .int .i64 (tokAt T s.at_).pos]) = true := by simp [rdIs, AV.beq, AVs.beq]
    have hb38 := p8.get hb37
    have hq8 := p8.get hq7
    simp -implicitDefEqProofs (disch := first | assumption | omega | (simp only [nxB]; omega) | (simp only [oneB])) only [s39_40, s39_41, s39_42, s39, xlen, AV.cells, splice, aload, astore, Nat.reduceAdd, Nat.reduceLeDiff, reduceIte, allB, hb39, hd9, hq9, ht, htd, hd, hs, hqs, hqs7, hqt, hb38, hq8, Bool.and_true, Bool.and_self]
    rw [s39_7]
    have mb9 := ((mb6.trans m7).trans (p89.mut _))
    have mb10 : Mt r H0 ((H9.push (.row false 11 [cs, ds])).set b3 (.row false 11 [[.int .i64 (levR lev (tokAt T s.at_)), .int .i64 0, .str [], .str [], .int .i64 0, .sl H9.next 0 2 11 (some 2), .int .i64 (tokAt T s.at_).pos, .int .i64 0, .int .i64 0, .int .i64 0, .int .i64 0]])) := (mb9.then_push _).then_set (.inr (Nat.le_of_lt h3)) _
    have gK : ∀ k, k < H9.next → k ≠ b3 → ((H9.push (.row false 11 [cs, ds])).set b3 (.row false 11 [[.int .i64 (levR lev (tokAt T s.at_)), .int .i64 0, .str [], .str [], .int .i64 0, .sl H9.next 0 2 11 (some 2), .int .i64 (tokAt T s.at_).pos, .int .i64 0, .int .i64 0, .int .i64 0, .int .i64 0]])).get k = H9.get k := fun k hk hk' => by
     rw [AHeap.get_set_other (by omega), AHeap.get_push_other (by omega)]
    have hb29 := p89.get (m7.get (m6.get (p5.get hb2) (by omega)) (by omega))
    have hl29 := AHeap.get_lt hb29
    have hrd9 := hx7.rd.pur p89
    have hl9r := hrd9.lt
    have hn8 := p89.1
    refine expr_loop ih hx0 hlev h3 n m (by omega) (by omega) _ s1 _ (Ea.cells { kind := levR lev (tokAt T s.at_), pos := (tokAt T s.at_).pos } (.sl H9.next 0 2 11 (some 2))) zs mb10 ?_ ?_ hz (AHeap.get_set_same (by simp only [AHeap.next_push]; omega)) ?_ e' s' h2
    ·unfold Rd5 at hrd9 ⊢
     rw [gK r (by omega) (by omega)]; exact hrd9
    ·rw [gK _ (by omega) (by omega)]; exact hb29
    ·rw [ExV_mk]
     have he9 : ExV H9 (fun l => H0.next < l ∧ l ≠ b3) e (.agg cs) := he.mut (((p5.mut _).trans m6).trans m7 |>.trans (p89.mut _)) (by omega) fun _ h => h
     refine ⟨_, rfl, KsV.two_at (ro := false) ?_ ⟨by omega, by omega⟩ (he9.keep (fun l ro els hl' hg => ⟨hl', by rw [gK l (AHeap.get_lt hg) hl'.2]; exact hg⟩) e _) (he7.keep (fun l ro els hl' hg => ?_) e1 _)⟩
     ·rw [AHeap.get_set_other (by omega)]; exact AHeap.get_push_same _ _
     ·unfold Ge at hl'
      have hg9 := p89.get hg
      exact ⟨⟨by omega, by omega⟩, by rw [gK l (AHeap.get_lt hg9) (by omega)]; exact hg9⟩
theorem expr_step {n : Nat} (ihR : ∀ k, k ≤ n → ExprOk k) (ihU : UnaryROk n) : ExprOk (n + 1) := by
 intro H r T tv s hx lev hle e s' h
 refine W_of (fun _ => run39 (n + 2)) ?_
 have hl := hx.rd.lt
 have p1 := Pur.push H (.row false 11 [[.int .i64 0, .int .i64 0, .str [], .str [], .int .i64 0, .nilSl, .int .i64 0, .int .i64 0, .int .i64 0, .int .i64 0, .int .i64 0]])
 simp only [exprR] at h
 by_cases h5 : lev = 5
 ·rw [if_pos h5] at h
  have h5' : ((lev : Int) == 5) = true := by simp; omega
  simp -implicitDefEqProofs (disch := first | assumption | omega | (simp only [nxB]; omega) | (simp only [oneB])) only [s39_7, s39_40, s39_41, s39_42, s39, xlen, AV.cells, splice, aload, astore, Nat.reduceAdd, Nat.reduceLeDiff, reduceIte, allB, h5']
  refine W_call (ihU (hx.pur p1) e s' h) ?_
  rintro v H2 ⟨m2, hx2, he2⟩
  refine ⟨m2.1, ?_⟩
  have hb2 := m2.get (AHeap.get_push_same H (.row false 11 [[.int .i64 0, .int .i64 0, .str [], .str [], .int .i64 0, .nilSl, .int .i64 0, .int .i64 0, .int .i64 0, .int .i64 0, .int .i64 0]])) (by omega)
  have hlb := AHeap.get_lt hb2
  obtain ⟨cs, rfl, hlen, hone⟩ := he2.cells
  have ht : List.take 11 cs = cs := List.take_of_length_le (by omega)
  simp -implicitDefEqProofs (disch := first | assumption | omega | (simp only [nxB]; omega) | (simp only [oneB])) only [s39_7, s39_40, s39_41, s39_42, s39, xlen, AV.cells, splice, aload, astore, Nat.reduceAdd, Nat.reduceLeDiff, reduceIte, allB, hb2, hlen, hone, List.append_nil, ht]
  exact W_some.2 (QostE.ret hx ((p1.mut _).trans m2) hx2.rd (Nat.le_refl _) he2 (Nat.lt_succ_self _) _)
 ·rw [if_neg h5, Option.bind_eq_some_iff] at h
  obtain ⟨⟨e1, s1⟩, h1, h2⟩ := h
  have h5' : ((lev : Int) == 5) = false := by simp; omega
  have hw : IntKind.i64.wrap ((lev : Int) + 1) = ((lev + 1 : Nat) : Int) := by rw [wrap_i64 (by omega) (by omega)]; simp
  simp -implicitDefEqProofs (disch := first | assumption | omega | (simp only [nxB]; omega) | (simp only [oneB])) only [s39_7, s39_40, s39_41, s39_42, s39, xlen, AV.cells, splice, aload, astore, Nat.reduceAdd, Nat.reduceLeDiff, reduceIte, allB, h5', hw]
  refine W_call (ihR n (Nat.le_refl _) (hx.pur p1) (lev + 1) (by omega) e1 s1 h1) ?_
  rintro v H2 ⟨m2, hx2, he2⟩
  refine ⟨m2.1, ?_⟩
  have hb2 := m2.get (AHeap.get_push_same H (.row false 11 [[.int .i64 0, .int .i64 0, .str [], .str [], .int .i64 0, .nilSl, .int .i64 0, .int .i64 0, .int .i64 0, .int .i64 0, .int .i64 0]])) (by omega)
  have hm2 := m2.1
  simp only [AHeap.next_push] at hm2
  obtain ⟨cs, rfl, hlen, hone⟩ := he2.cells
  simp -implicitDefEqProofs (disch := first | assumption | omega | (simp only [nxB]; omega) | (simp only [oneB])) only [s39_42, s39_41, s39_40, xlen, AV.cells, splice, aload, astore, Nat.reduceAdd, Nat.reduceLeDiff, reduceIte, allB, hlen, hone, List.append_nil]
  have p3 := Pur.push H2 (.row false 11 [cs])
  refine expr_loop (N := n + 2) (B := n) (fun k hk => ihR k (by omega)) hx (by omega) (b3 := H2.next) (by omega) n (n + 2) (by omega) (by omega) _ s1 e1 cs _ (((p1.mut _).trans m2).trans (p3.mut _)) (hx2.rd.pur p3) (p3.get hb2) rfl (AHeap.get_push_same _ _) ?_ e s' h2
  exact he2.keep (fun l ro els hl' hg => by
   have := AHeap.get_lt hg
   unfold Ge at hl'
   simp only [AHeap.next_push] at hl'
   exact ⟨⟨by omega, by omega⟩, p3.get hg⟩) e1 _
end Go.Proofs.Ytnjoomfeddamcaa


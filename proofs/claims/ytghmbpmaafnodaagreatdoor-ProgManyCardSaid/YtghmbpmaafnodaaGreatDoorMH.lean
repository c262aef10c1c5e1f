/-
  Texts of one proof, laid together: X6 X7 X8 X9 X10 T1.
-/
import Derived.Test.YtghmbpmaafnodaaGreatDoorMG
import Derived.Test.YtghmbpmaafnodaaGreatDoorMF
set_option linter.unusedVariables false
set_option linter.unusedSimpArgs false
namespace Go.Proofs.YtghmbpmaafnodaaGreatDoor
open Go.Ev
theorem xapply_fn (call : CallT) (H : AHeap) (f : Nat) (a c vs : List AV) (k : AV → AHeap → O) : xapply call H (.func (.func f) a c) vs k = xcall H (call f (a ++ vs ++ c) H) k := rfl
theorem list_end {n : Nat} {H0 H : AHeap} {r : Nat} {T : List Tok} {tv lv : AV} {s0 s : St} (hx0 : Rx H0 r T tv lv s0) (mb : Mt r H0 H) (hrd : Rd H r tv lv s) {l : List Ex} {v : AV} (hk : KsV H (Ge H0.next) l v) :
  W (s187_j0 (evw P orc) n (.ptr r 0 0) v H) fun v H' => Mt r H0 H' ∧ Rx H' r T tv lv (closesS T [41] s).2 ∧ KsV H' (Ge H0.next) l v := by
 have hl := hx0.rd.lt
 rw [s187_j0]
 refine W_call (closes_spec (hx0.mut mb hrd) [41]) ?_
 rintro _ H1 ⟨rfl, m1, hx1⟩
 refine ⟨m1.1, ?_⟩
 try simp only [s187_b1, s187]
 exact W_some.2 ⟨mb.trans m1, hx1, hk.keep (Keep.mut m1 (by unfold Ge; omega) fun _ h => h)⟩
theorem list_loop {N : Nat} (ih : ∀ k, k < N → RowOk k) {H0 : AHeap} {r : Nat} {T : List Tok} {tv lv : AV} {s0 : St} (hx0 : Rx H0 r T tv lv s0) (hlv : lv ≠ .nilSl) :
  ∀ (n m : Nat), n < N → n < m → ∀ (H : AHeap) (s : St) (l : List Ex) (L : Nat) (els : List (List AV)), Mt r H0 H → Rd H r tv lv s → l.length + n ≤ 1000000000 → H.get L = some (.row false 11 els) → H0.next ≤ L → els.length = l.length →
   ElsV H (fun k => H0.next ≤ k ∧ k ≠ L) l els → ∀ (l' : List Ex) (s' : St), listL T n l s = some (l', s') →
   W (s187_l1 (evw P orc) N m (.ptr r 0 0) (.func (.func 163) [.ptr r 0 0] []) (.sl L 0 l.length 11 none) H) fun v H' => Mt r H0 H' ∧ Rx H' r T tv lv s' ∧ KsV H' (Ge H0.next) l' v
 | 0, m, hN, hm, H, s, l, L, els, mb, hrd, hlen, hg, hL, hel, hev, l', s', h => by simp [listL] at h
 | n + 1, 0, hN, hm, H, s, l, L, els, mb, hrd, hlen, hg, hL, hel, hev, l', s', h => by omega
 | n + 1, m + 1, hN, hm, H, s, l, L, els, mb, hrd, hlen, hg, hL, hel, hev, l', s', h => by
  have hl := hx0.rd.lt
  have hlL := AHeap.get_lt hg
  have hle := mb.1
  simp only [listL] at h
  simp only [s187_l1]
  rw [s187_b1]
  refine W_call (takes_spec (hx0.mut mb hrd) 4 [44]) ?_
  rintro _ H1 ⟨rfl, m1, hx1⟩
  refine ⟨m1.1, ?_⟩
  have hg1 := m1.get hg (by omega)
  have hlL1 := AHeap.get_lt hg1
  have hev1 := hev.keep (Keep.mut m1 (by omega) fun _ h => h) l els
  cases ht : (takesS T 4 [44] s).1 with
  | false =>
   simp only [ht, cond_false, Option.some.injEq, Prod.mk.injEq] at h
   obtain ⟨rfl, rfl⟩ := h
   simp -implicitDefEqProofs (disch := first | assumption | omega | (simp only [nxB]; omega) | (simp only [oneB])) only [s187_b1, s187, xlen, AV.cells, splice, aload, astore, Nat.reduceAdd, Nat.reduceLeDiff, reduceIte, allB]
   refine list_end hx0 (mb.trans m1) hx1.rd (.inr (.inl ⟨L, 0, none, false, els, rfl, hL, hg1, ?_⟩))
   rw [List.drop_zero]
   exact hev1.keep (Keep.le' fun _ h => h.1) l els
  | true =>
   simp only [ht, cond_true, Option.bind_eq_some_iff] at h
   obtain ⟨⟨e1, s1⟩, h1, h2⟩ := h
   simp -implicitDefEqProofs (disch := first | assumption | omega | (simp only [nxB]; omega) | (simp only [oneB])) only [s187_b1, s187, xlen, AV.cells, splice, aload, astore, Nat.reduceAdd, Nat.reduceLeDiff, reduceIte, allB, xapply_fn, List.append_nil]
   refine W_call (whole_spec (ih n (by omega)) hx1 hlv h1) ?_
   rintro v H2 ⟨m2, hx2, he2⟩
   refine ⟨m2.1, ?_⟩
   have hg2 := m2.get hg1 (by omega)
   have hlL2 := AHeap.get_lt hg2
   have hm1 := m1.1
   have hm2 := m2.1
   have hev2 := hev1.keep (Keep.mut m2 (by omega) fun _ h => h) l els
   obtain ⟨cs, rfl, hlen', hone⟩ := he2.cells
   have hs : ∀ l, sliceOf P l 96 1 [(0, .agg cs)] = some (.sl l 0 1 11 (some 1), .row false 11 [cs]) := fun l => sl35_1 l cs hlen' hone
   simp -implicitDefEqProofs (disch := first | assumption | omega | (simp only [nxB]; omega) | (simp only [oneB])) only [s187_b1, s187, xlen, AV.cells, splice, aload, astore, Nat.reduceAdd, Nat.reduceLeDiff, reduceIte, allB, hs]
   have p3 := Pur.push H2 (.row false 11 [cs])
   rw [ap35_sl (AHeap.get_push_same H2 (.row false 11 [cs])) (p3.get hg2) hel (by omega), xcall_some (by simp only [AHeap.next_push, AHeap.next_set]; omega)]
   simp only [AHeap.next_push, AHeap.next_set, s187]
   have hlen2 : l.length + 1 = (l ++ [e1]).length := by simp
   rw [hlen2]
   have gK : ∀ k, k < H2.next → k ≠ L → (((H2.push (.row false 11 [cs])).set L .dead).push (.row false 11 (els ++ [cs]))).get k = H2.get k := fun k hk hk' => by
    rw [AHeap.get_push_other (by simp only [AHeap.next_push, AHeap.next_set]; omega), AHeap.get_set_other (by omega), AHeap.get_push_other (by omega)]
   have mN : Mt r H0 (((H2.push (.row false 11 [cs])).set L .dead).push (.row false 11 (els ++ [cs]))) := (((mb.trans m1).trans m2).then_push _ |>.then_set (.inr hL) _).then_push _
   refine list_loop ih hx0 hlv n m (by omega) (by omega) _ s1 (l ++ [e1]) (H2.next + 1) (els ++ [cs]) mN ?_ (by simp; omega) ?_ (by omega) (by simp [hel]) ?_ l' s' h2
   ·have := hx2.rd
    unfold Rd at this ⊢
    rw [gK r (by omega) (by omega)]; exact this
   ·exact AHeap.get_push_eq (by simp only [AHeap.next_push, AHeap.next_set]; omega) (by simp only [AHeap.next_push, AHeap.next_set]; omega)
   ·refine ElsV.append l els e1 cs ?_ hel ?_
    ·exact hev2.keep (fun k ro es hk hg' => ⟨⟨hk.1, by have := AHeap.get_lt hg'; omega⟩, by rw [gK k (AHeap.get_lt hg') hk.2]; exact hg'⟩) l els
    ·exact he2.keep (fun k ro es hk hg' => by
      have h3 := AHeap.get_lt hg'
      unfold Ge at hk
      exact ⟨⟨by omega, by omega⟩, by rw [gK k h3 (by omega)]; exact hg'⟩) e1 _
theorem list_step {n : Nat} (hn : n ≤ 900000000) (ih : ∀ k, k ≤ n → RowOk k) : ListOk (n + 1) := by
 intro H r T tv lv s hx hlv l s' h
 refine W_of (fun _ => run187 (n + 1)) ?_
 have hl := hx.rd.lt
 simp only [listF] at h
 rw [s187]
 refine W_call (opens_spec hx [40]) ?_
 rintro _ H1 ⟨rfl, m1, hx1⟩
 refine ⟨m1.1, ?_⟩
 cases ho : (opensS T [40] s).1 with
 | false =>
  simp only [ho, cond_false, Option.some.injEq, Prod.mk.injEq] at h
  obtain ⟨rfl, rfl⟩ := h
  simp -implicitDefEqProofs (disch := first | assumption | omega | (simp only [nxB]; omega) | (simp only [oneB])) only [s187_b1, s187, xlen, AV.cells, splice, aload, astore, Nat.reduceAdd, Nat.reduceLeDiff, reduceIte, allB, Bool.not_false]
  exact W_some.2 ⟨m1, hx1, KsV.nil _ _⟩
 | true =>
  simp only [ho, cond_true] at h
  simp -implicitDefEqProofs (disch := first | assumption | omega | (simp only [nxB]; omega) | (simp only [oneB])) only [s187, xlen, AV.cells, splice, aload, astore, Nat.reduceAdd, Nat.reduceLeDiff, reduceIte, allB, Bool.not_true]
  refine W_call (is_spec hx1.rd hx1.tk 4 [41]) ?_
  rintro _ H2 ⟨rfl, p2⟩
  refine ⟨p2.1, ?_⟩
  have hx2 := hx1.pur p2
  have mb := m1.trans (p2.mut _)
  cases hi : isB T (opensS T [40] s).2 4 [41] with
  | true =>
   simp only [hi, cond_true, Option.some.injEq, Prod.mk.injEq] at h
   obtain ⟨rfl, rfl⟩ := h
   simp -implicitDefEqProofs (disch := first | assumption | omega | (simp only [nxB]; omega) | (simp only [oneB])) only [s187, xlen, AV.cells, splice, aload, astore, Nat.reduceAdd, Nat.reduceLeDiff, reduceIte, allB, Bool.not_true]
   exact list_end hx mb hx2.rd (KsV.nil _ _)
  | false =>
   simp only [hi, cond_false, Option.bind_eq_some_iff] at h
   obtain ⟨⟨e1, s1⟩, h1, h2⟩ := h
   simp -implicitDefEqProofs (disch := first | assumption | omega | (simp only [nxB]; omega) | (simp only [oneB])) only [s187, xlen, AV.cells, splice, aload, astore, Nat.reduceAdd, Nat.reduceLeDiff, reduceIte, allB, Bool.not_false, xapply_fn, List.append_nil]
   refine W_call (whole_spec (ih n (Nat.le_refl _)) hx2 hlv h1) ?_
   rintro v H3 ⟨m3, hx3, he3⟩
   refine ⟨m3.1, ?_⟩
   have hm1 := m1.1
   have hm2 := p2.1
   have hm3 := m3.1
   obtain ⟨cs, rfl, hlen', hone⟩ := he3.cells
   have hs : ∀ l, sliceOf P l 96 1 [(0, .agg cs)] = some (.sl l 0 1 11 (some 1), .row false 11 [cs]) := fun l => sl35_1 l cs hlen' hone
   simp -implicitDefEqProofs (disch := first | assumption | omega | (simp only [nxB]; omega) | (simp only [oneB])) only [s187, xlen, AV.cells, splice, aload, astore, Nat.reduceAdd, Nat.reduceLeDiff, reduceIte, allB, hs]
   have p4 := (Pur.push H3 (.row false 11 [cs])).then_push (.row false 11 [cs])
   rw [ap35_nil (AHeap.get_push_same H3 (.row false 11 [cs])), xcall_some (by simp only [AHeap.next_push]; omega)]
   simp only [AHeap.next_push, s187]
   refine list_loop (N := n + 1) (fun k hk => ih k (by omega)) hx hlv n (n + 1) (by omega) (by omega) _ s1 [e1] (H3.next + 1) [cs] ((mb.trans m3).trans (p4.mut _)) (hx3.rd.pur p4) (by simp; omega) ?_ (by omega) rfl ?_ l s' h2
   ·exact AHeap.get_push_eq (by simp only [AHeap.next_push]; omega) (by simp only [AHeap.next_push]; omega)
   ·rw [ElsV, ElsV]
    exact ⟨he3.keep (fun k ro es hk hg' => by
      have h3 := AHeap.get_lt hg'
      unfold Ge at hk
      exact ⟨⟨by omega, by omega⟩, p4.get hg'⟩) e1 _, trivial⟩
theorem name_step {n : Nat} (ih : ListOk n) : NameOk (n + 1) := by
 intro H r T tv lv s hx hlv e s' h
 refine W_of (fun _ => run183 0) ?_
 have hl := hx.rd.lt
 have ho1 := hx.tk.one
 have ho2 := hx.lv.one
 simp -implicitDefEqProofs (disch := first | assumption | omega | (simp only [nxB]; omega) | (simp only [oneB])) only [s183, xlen, AV.cells, splice, aload, astore, Nat.reduceAdd, Nat.reduceLeDiff, reduceIte, allB]
 refine W_call (tok_spec (hx.rd.pur (Pur.push _ _)) (hx.tk.pur (Pur.push _ _))) ?_
 rintro _ H2 ⟨rfl, p2⟩
 refine ⟨p2.1, ?_⟩
 have hn2 := p2.1
 simp only [AHeap.next_push] at hn2
 have mb := ((Pur.push H _).trans p2).mut (· = r)
 have hrd2 := hx.rd.pur ((Pur.push H _).trans p2)
 have hr2 := hrd2
 unfold Rd at hr2
 have hb2 := p2.get (AHeap.get_push_same H _)
 obtain ⟨m3, hd3⟩ := fail_set (hrd2.pur (Pur.push H2 (.row false 4 [[.int .i64 (tokAt T s.at_).kind, .str (tokAt T s.at_).text, .int .i64 (tokAt T s.at_).n, .int .i64 (tokAt T s.at_).pos]]))) (goS s)
 have hq2 := AHeap.get_push_same H2 (.row false 4 [[.int .i64 (tokAt T s.at_).kind, .str (tokAt T s.at_).text, .int .i64 (tokAt T s.at_).n, .int .i64 (tokAt T s.at_).pos]])
 have p25 := Pur.push H2 (.row false 4 [[.int .i64 (tokAt T s.at_).kind, .str (tokAt T s.at_).text, .int .i64 (tokAt T s.at_).n, .int .i64 (tokAt T s.at_).pos]])
 replace mb := mb.trans (p25.mut _)
 simp -implicitDefEqProofs (disch := first | assumption | omega | (simp only [nxB]; omega) | (simp only [oneB])) only [s183, xlen, AV.cells, splice, aload, astore, Nat.reduceAdd, Nat.reduceLeDiff, reduceIte, allB, Tok.v, hr2, ho1, ho2]
 have hx3 := hx.mut (mb.trans m3) hd3
 refine W_call (is_spec hx3.rd hx3.tk 4 [40]) ?_
 rintro _ H4 ⟨rfl, p4⟩
 refine ⟨p4.1, ?_⟩
 have hb4 := p4.get (m3.get (p25.get hb2) (by omega))
 have hq4 := p4.get (m3.get hq2 (by omega))
 have hl4 := AHeap.get_lt hb4
 have hlq4 := AHeap.get_lt hq4
 have hx4 := hx3.pur p4
 replace mb := (mb.trans m3).trans (p4.mut _)
 simp only [nameF] at h
 cases hi : isB T (goS s) 4 [40] with
 | false =>
  simp only [hi, cond_false, Option.some.injEq, Prod.mk.injEq] at h
  obtain ⟨rfl, rfl⟩ := h
  simp -implicitDefEqProofs (disch := first | assumption | omega | (simp only [nxB]; omega) | (simp only [oneB])) only [s183, xlen, AV.cells, splice, aload, astore, Nat.reduceAdd, Nat.reduceLeDiff, reduceIte, allB, Bool.not_false, hb4, hq4]
  refine W_some.2 ?_
  exact PostE.box (a := { kind := 4, name := (tokAt T s.at_).text, pos := (tokAt T s.at_).pos }) (kv := .nilSl) (lo := H.next + 1) hx mb hx4.rd (Nat.le_refl _) (Nat.lt_succ_self _) (KsV.nil _ _) _
 | true =>
  simp only [hi, cond_true, Option.bind_eq_some_iff] at h
  obtain ⟨⟨l1, s1⟩, h1, h2⟩ := h
  simp only [Option.some.injEq, Prod.mk.injEq] at h2
  obtain ⟨rfl, rfl⟩ := h2
  simp -implicitDefEqProofs (disch := first | assumption | omega | (simp only [nxB]; omega) | (simp only [oneB])) only [s183, xlen, AV.cells, splice, aload, astore, Nat.reduceAdd, Nat.reduceLeDiff, reduceIte, allB, Bool.not_true]
  refine W_call (ih hx4 hlv l1 s1 h1) ?_
  rintro v H5 ⟨m5, hx5, hk5⟩
  refine ⟨m5.1, ?_⟩
  have hb5 := m5.get hb4 (by omega)
  have hq5 := m5.get hq4 (by omega)
  have hl5 := AHeap.get_lt hb5
  have hlq5 := AHeap.get_lt hq5
  replace mb := mb.trans m5
  have hfin : ∀ kv : AV, KsV H5 (Ge H4.next) l1 kv → PostE H r T tv lv (.mk { kind := 7, name := (tokAt T s.at_).text, pos := (tokAt T s.at_).pos } l1) s1 (.agg (Ea.cells { kind := 7, name := (tokAt T s.at_).text, pos := (tokAt T s.at_).pos } kv)) (H5.set H.next (.row false 11 [Ea.cells { kind := 7, name := (tokAt T s.at_).text, pos := (tokAt T s.at_).pos } kv])) := fun kv hk =>
   PostE.box (lo := H4.next) hx mb hx5.rd (Nat.le_refl _) (by omega) hk _
  have hk5' := hk5
  rcases hk5 with ⟨rfl, _⟩ | ⟨L, i, cap, ro, els, rfl, _⟩ | ⟨L, i, cap, rfl, _⟩
  ·simp -implicitDefEqProofs (disch := first | assumption | omega | (simp only [nxB]; omega) | (simp only [oneB])) only [s183, xlen, AV.cells, splice, aload, astore, Nat.reduceAdd, Nat.reduceLeDiff, reduceIte, allB, hb5, hq5, hq4]
   exact W_some.2 (hfin _ hk5')
  ·simp -implicitDefEqProofs (disch := first | assumption | omega | (simp only [nxB]; omega) | (simp only [oneB])) only [s183, xlen, AV.cells, splice, aload, astore, Nat.reduceAdd, Nat.reduceLeDiff, reduceIte, allB, hb5, hq5, hq4]
   exact W_some.2 (hfin _ hk5')
  ·simp -implicitDefEqProofs (disch := first | assumption | omega | (simp only [nxB]; omega) | (simp only [oneB])) only [s183, xlen, AV.cells, splice, aload, astore, Nat.reduceAdd, Nat.reduceLeDiff, reduceIte, allB, hb5, hq5, hq4]
   exact W_some.2 (hfin _ hk5')
end Go.Proofs.YtghmbpmaafnodaaGreatDoor

namespace Go.Proofs.YtghmbpmaafnodaaGreatDoor
open Go.Ev
theorem un218 : P.underlying 218 = some (.map 9 217) := by kernel_rfl
theorem un212 : P.underlying 212 = some (.map 9 214) := by kernel_rfl
theorem un9 : P.underlying 9 = some .string := by kernel_rfl
theorem az217 : azero P 217 = some .nilFunc := by kernel_rfl
theorem az214 : azero P 214 = some .nilFunc := by kernel_rfl
theorem mu122 {H : AHeap} {l : Nat} {es : List (AV × AV)} (k : Bs) (v : AV) (hg : H.get l = some (.map es)) (hf : afind .string (.str k) es 0 = some none) : amapUpdate P H 218 (.map l) (.str k) v = some (H.set l (.map (es ++ [(.str k, v)]))) := by
 simp only [amapUpdate, un218, un9, hg, plainKey, hf, if_true]
theorem mu118 {H : AHeap} {l : Nat} {es : List (AV × AV)} (k : Bs) (v : AV) (hg : H.get l = some (.map es)) (hf : afind .string (.str k) es 0 = some none) : amapUpdate P H 212 (.map l) (.str k) v = some (H.set l (.map (es ++ [(.str k, v)]))) := by
 simp only [amapUpdate, un212, un9, hg, plainKey, hf, if_true]
def fn (n : Nat) : AV := .func (.func n) [] []
def firstsM : List (AV × AV) := [(.str [116, 114, 117, 101], fn 188), (.str [102, 97, 108, 115, 101], fn 188), (.str [110, 117, 108, 108], fn 189), (.str [110, 101, 119], fn 190), (.str [108, 101, 110], fn 191), (.str [114, 101, 97, 100], fn 192), (.str [40], fn 193)]
def behindsM : List (AV × AV) := [(.str [46], fn 185), (.str [91], fn 186)]
theorem firsts_spec (H : AHeap) : W (evw P orc 184 [] H) fun v H' => v = .map H.next ∧ H' = H.push (.map firstsM) := by
 refine W_of (fun _ => run184 0) ?_
 simp only [s184, xmake_some]
 try simp only [s184]
 rw [mu122 _ _ (AHeap.get_push_same H _) rfl, xstore_some (by simp), AHeap.push_set]
 try simp only [s184]
 rw [mu122 _ _ (AHeap.get_push_same H _) rfl, xstore_some (by simp), AHeap.push_set]
 try simp only [s184]
 rw [mu122 _ _ (AHeap.get_push_same H _) rfl, xstore_some (by simp), AHeap.push_set]
 try simp only [s184]
 rw [mu122 _ _ (AHeap.get_push_same H _) rfl, xstore_some (by simp), AHeap.push_set]
 try simp only [s184]
 rw [mu122 _ _ (AHeap.get_push_same H _) rfl, xstore_some (by simp), AHeap.push_set]
 try simp only [s184]
 rw [mu122 _ _ (AHeap.get_push_same H _) rfl, xstore_some (by simp), AHeap.push_set]
 try simp only [s184]
 rw [mu122 _ _ (AHeap.get_push_same H _) rfl, xstore_some (by simp), AHeap.push_set]
 try simp only [s184]
 exact W_some.2 ⟨rfl, rfl⟩
theorem behinds_spec (H : AHeap) : W (evw P orc 182 [] H) fun v H' => v = .map H.next ∧ H' = H.push (.map behindsM) := by
 refine W_of (fun _ => run182 0) ?_
 simp only [s182, xmake_some]
 try simp only [s182]
 rw [mu118 _ _ (AHeap.get_push_same H _) rfl, xstore_some (by simp), AHeap.push_set]
 try simp only [s182]
 rw [mu118 _ _ (AHeap.get_push_same H _) rfl, xstore_some (by simp), AHeap.push_set]
 try simp only [s182]
 exact W_some.2 ⟨rfl, rfl⟩
def lookM (t : Bs) : List (AV × AV) → AV
 | [] => .nilFunc
 | (.str k, v) :: r => bif t == k then v else lookM t r
 | _ :: r => lookM t r
theorem afind_look (t : Bs) : ∀ (es : List (AV × AV)) (i : Nat), (∀ e ∈ es, ∃ k, e.1 = .str k) → (∃ j v, afind .string (.str t) es i = some (some (j, v)) ∧ lookM t es = v) ∨ (afind .string (.str t) es i = some none ∧ lookM t es = .nilFunc)
 | [], i, _ => .inr ⟨rfl, rfl⟩
 | (a, v) :: es, i, h => by
  obtain ⟨k, hk⟩ := h (a, v) (by simp)
  simp only at hk
  subst hk
  cases hb : t == k with
  | true => exact .inl ⟨i, v, by simp [afind, keySame, hb], by simp [lookM, hb]⟩
  | false =>
   rcases afind_look t es (i + 1) (fun e he => h e (by simp [he])) with ⟨j, u, h1, h2⟩ | ⟨h1, h2⟩
   ·exact .inl ⟨j, u, by simp [afind, keySame, hb, h1], by simp [lookM, hb, h2]⟩
   ·exact .inr ⟨by simp [afind, keySame, hb, h1], by simp [lookM, hb, h2]⟩
theorem lk122 {H : AHeap} {l : Nat} (t : Bs) (hg : H.get l = some (.map firstsM)) : alookup P H 218 (.map l) (.str t) false = some (lookM t firstsM) := by
 rcases afind_look t firstsM 0 (by intro e he; simp [firstsM] at he; rcases he with rfl | rfl | rfl | rfl | rfl | rfl | rfl <;> exact ⟨_, rfl⟩) with ⟨j, v, h1, h2⟩ | ⟨h1, h2⟩
 ·simp only [alookup, un218, un9, az217, plainKey, if_true, hg, h1, h2, Bool.false_eq_true, if_false]
 ·simp only [alookup, un218, un9, az217, plainKey, if_true, hg, h1, h2, Bool.false_eq_true, if_false]
theorem lk118 {H : AHeap} {l : Nat} (t : Bs) (hg : H.get l = some (.map behindsM)) : alookup P H 212 (.map l) (.str t) false = some (lookM t behindsM) := by
 rcases afind_look t behindsM 0 (by intro e he; simp [behindsM] at he; rcases he with rfl | rfl <;> exact ⟨_, rfl⟩) with ⟨j, v, h1, h2⟩ | ⟨h1, h2⟩
 ·simp only [alookup, un212, un9, az214, plainKey, if_true, hg, h1, h2, Bool.false_eq_true, if_false]
 ·simp only [alookup, un212, un9, az214, plainKey, if_true, hg, h1, h2, Bool.false_eq_true, if_false]
theorem nf121 (n : Nat) : fbin P .neq 217 true (fn n) .nilFunc = some (.bool true) := by kernel_rfl
theorem nf121n : fbin P .neq 217 true .nilFunc .nilFunc = some (.bool false) := by kernel_rfl
theorem ef120 (n : Nat) : fbin P .eql 214 true (fn n) .nilFunc = some (.bool false) := by kernel_rfl
theorem ef120n : fbin P .eql 214 true .nilFunc .nilFunc = some (.bool true) := by kernel_rfl
theorem first_fail {H0 H : AHeap} {r : Nat} {T : List Tok} {tv lv : AV} {s0 s : St} (hx0 : Rx H0 r T tv lv s0) (mb : Mt r H0 H) (hrd : Rd H r tv lv s) (hb : H.get H0.next = some (.row false 11 [[.int .i64 0, .int .i64 0, .str [], .str [], .int .i64 0, .nilSl, .int .i64 0, .int .i64 0, .int .i64 0, .int .i64 0, .int .i64 0]])) :
  W (s181_j0 (evw P orc) (.ptr r 0 0) (.ptr H0.next 0 0) H) (PostE H0 r T tv lv .zero (failS T 2 s)) := by
 have hl := hx0.rd.lt
 rw [s181_j0]
 refine W_call (fail_spec (hx0.mut mb hrd) 2) ?_
 rintro _ H1 ⟨rfl, m1, hx1⟩
 refine ⟨m1.1, ?_⟩
 have hb1 := m1.get hb (by omega)
 have hl1 := AHeap.get_lt hb1
 simp -implicitDefEqProofs (disch := first | assumption | omega | (simp only [nxB]; omega) | (simp only [oneB])) only [s181_j0, s181_j1, s181, xlen, AV.cells, splice, aload, astore, Nat.reduceAdd, Nat.reduceLeDiff, reduceIte, allB, hb1]
 exact W_some.2 (PostE.ret hx0 (mb.trans m1) hx1.rd (Nat.le_refl _) (ExV.leaf _ (Ge (H0.next + 1)) { kind := 0 }) (Nat.lt_succ_self _) _)
theorem first_go {H0 H : AHeap} {r : Nat} {T : List Tok} {tv lv : AV} {s0 s : St} (hx0 : Rx H0 r T tv lv s0) (mb : Mt r H0 H) (hrd : Rd H r tv lv s) (hb : H.get H0.next = some (.row false 11 [[.int .i64 0, .int .i64 0, .str [], .str [], .int .i64 0, .nilSl, .int .i64 0, .int .i64 0, .int .i64 0, .int .i64 0, .int .i64 0]])) {b : Nat} (hbb : H0.next < b) (hq : H.get b = some (.row false 4 [[.int .i64 (tokAt T s.at_).kind, .str (tokAt T s.at_).text, .int .i64 (tokAt T s.at_).n, .int .i64 (tokAt T s.at_).pos]]))
  {k : Nat} (hlk : lookM (tokAt T s.at_).text firstsM = fn k) (hfl : (((tokAt T s.at_).kind == 4) == ((tokAt T s.at_).text == [40])) = true) {e : Ex} {s' : St} (hc : ∀ Hc, Rx Hc r T tv lv s → W (evw P orc k [.ptr r 0 0] Hc) (PostE Hc r T tv lv e s')) :
  W (s181_j1 (evw P orc) (.ptr r 0 0) (.ptr H0.next 0 0) (.ptr b 0 0) (.bool true) H) (PostE H0 r T tv lv e s') := by
 have hl := hx0.rd.lt
 have hlb := AHeap.get_lt hb
 have hlq := AHeap.get_lt hq
 simp -implicitDefEqProofs (disch := first | assumption | omega | (simp only [nxB]; omega) | (simp only [oneB])) only [s181_j1, s181, xlen, AV.cells, splice, aload, astore, Nat.reduceAdd, Nat.reduceLeDiff, reduceIte, allB]
 refine W_call (firsts_spec H) ?_
 rintro _ H1 ⟨rfl, rfl⟩
 refine ⟨(Pur.push _ _).1, ?_⟩
 have p1 := Pur.push H (.map firstsM)
 have hlook := lk122 (tokAt T s.at_).text (AHeap.get_push_same H (.map firstsM))
 simp -implicitDefEqProofs (disch := first | assumption | omega | (simp only [nxB]; omega) | (simp only [oneB])) only [s181_j1, s181, xlen, AV.cells, splice, aload, astore, Nat.reduceAdd, Nat.reduceLeDiff, reduceIte, allB, hq, hlook, hlk, nf121, hfl]
 simp only [fn, xapply_fn, List.nil_append, List.append_nil]
 refine W_call (hc _ ((hx0.mut mb hrd).pur p1)) ?_
 rintro v H2 ⟨m2, hx2, he2⟩
 refine ⟨m2.1, ?_⟩
 have hb2 := m2.get (p1.get hb) (by omega)
 have hlb2 := AHeap.get_lt hb2
 obtain ⟨cs, rfl, hlen, hone⟩ := he2.cells
 have ht : List.take 11 cs = cs := List.take_of_length_le (by omega)
 simp -implicitDefEqProofs (disch := first | assumption | omega | (simp only [nxB]; omega) | (simp only [oneB])) only [s181_j1, s181, xlen, AV.cells, splice, aload, astore, Nat.reduceAdd, Nat.reduceLeDiff, reduceIte, allB, hb2, hlen, hone, List.append_nil, ht]
 have hm := mb.1
 exact W_some.2 (PostE.ret hx0 ((mb.trans (p1.mut _)).trans m2) hx2.rd (Nat.le_refl _) he2 (by simp only [AHeap.next_push]; omega) _)
theorem first_no {H0 H : AHeap} {r : Nat} {T : List Tok} {tv lv : AV} {s0 s : St} (hx0 : Rx H0 r T tv lv s0) (mb : Mt r H0 H) (hrd : Rd H r tv lv s) (hb : H.get H0.next = some (.row false 11 [[.int .i64 0, .int .i64 0, .str [], .str [], .int .i64 0, .nilSl, .int .i64 0, .int .i64 0, .int .i64 0, .int .i64 0, .int .i64 0]])) {b : Nat} (hbb : H0.next < b) (hq : H.get b = some (.row false 4 [[.int .i64 (tokAt T s.at_).kind, .str (tokAt T s.at_).text, .int .i64 (tokAt T s.at_).n, .int .i64 (tokAt T s.at_).pos]]))
  (hlk : lookM (tokAt T s.at_).text firstsM = .nilFunc ∨ ∃ k, lookM (tokAt T s.at_).text firstsM = fn k ∧ (((tokAt T s.at_).kind == 4) == ((tokAt T s.at_).text == [40])) = false) :
  W (s181_j1 (evw P orc) (.ptr r 0 0) (.ptr H0.next 0 0) (.ptr b 0 0) (.bool true) H) (PostE H0 r T tv lv .zero (failS T 2 s)) := by
 have hl := hx0.rd.lt
 have hlb := AHeap.get_lt hb
 have hlq := AHeap.get_lt hq
 simp -implicitDefEqProofs (disch := first | assumption | omega | (simp only [nxB]; omega) | (simp only [oneB])) only [s181_j1, s181, xlen, AV.cells, splice, aload, astore, Nat.reduceAdd, Nat.reduceLeDiff, reduceIte, allB]
 refine W_call (firsts_spec H) ?_
 rintro _ H1 ⟨rfl, rfl⟩
 refine ⟨(Pur.push _ _).1, ?_⟩
 have p1 := Pur.push H (.map firstsM)
 have hlook := lk122 (tokAt T s.at_).text (AHeap.get_push_same H (.map firstsM))
 rcases hlk with hlk | ⟨k, hlk, hfl⟩
 ·simp -implicitDefEqProofs (disch := first | assumption | omega | (simp only [nxB]; omega) | (simp only [oneB])) only [s181_j1, s181, xlen, AV.cells, splice, aload, astore, Nat.reduceAdd, Nat.reduceLeDiff, reduceIte, allB, hq, hlook, hlk, nf121n]
  exact first_fail hx0 (mb.trans (p1.mut _)) (hrd.pur p1) (p1.get hb)
 ·simp -implicitDefEqProofs (disch := first | assumption | omega | (simp only [nxB]; omega) | (simp only [oneB])) only [s181_j1, s181, xlen, AV.cells, splice, aload, astore, Nat.reduceAdd, Nat.reduceLeDiff, reduceIte, allB, hq, hlook, hlk, nf121, hfl]
  exact first_fail hx0 (mb.trans (p1.mut _)) (hrd.pur p1) (p1.get hb)
theorem bnf {t x : Bs} (h : ¬ t = x) : (t == x) = false := by simpa using h
theorem look_any (t : Bs) : lookM t firstsM = .nilFunc ∨ ∃ k, lookM t firstsM = fn k := by
 by_cases t1 : t = [116, 114, 117, 101]
 ·subst t1; exact .inr ⟨188, rfl⟩
 by_cases t2 : t = [102, 97, 108, 115, 101]
 ·subst t2; exact .inr ⟨188, rfl⟩
 by_cases t3 : t = [110, 117, 108, 108]
 ·subst t3; exact .inr ⟨189, rfl⟩
 by_cases t4 : t = [110, 101, 119]
 ·subst t4; exact .inr ⟨190, rfl⟩
 by_cases t5 : t = [108, 101, 110]
 ·subst t5; exact .inr ⟨191, rfl⟩
 by_cases t6 : t = [114, 101, 97, 100]
 ·subst t6; exact .inr ⟨192, rfl⟩
 by_cases t7 : t = [40]
 ·subst t7; exact .inr ⟨193, rfl⟩
 exact .inl (by simp [lookM, firstsM, bnf t1, bnf t2, bnf t3, bnf t4, bnf t5, bnf t6, bnf t7])
theorem first_step {n : Nat} (ihN : NameOk n) (ihF : FreshOk n) (ihS : SingleOk n) : FirstOk (n + 1) := by
 intro H r T tv lv s hx hlv e s' h
 refine W_of (fun _ => run181 0) ?_
 have hl := hx.rd.lt
 have ho1 := hx.tk.one
 have ho2 := hx.lv.one
 have p1 := Pur.push H (.row false 11 [[.int .i64 0, .int .i64 0, .str [], .str [], .int .i64 0, .nilSl, .int .i64 0, .int .i64 0, .int .i64 0, .int .i64 0, .int .i64 0]])
 simp -implicitDefEqProofs (disch := first | assumption | omega | (simp only [nxB]; omega) | (simp only [oneB])) only [s181, xlen, AV.cells, splice, aload, astore, Nat.reduceAdd, Nat.reduceLeDiff, reduceIte, allB]
 refine W_call (failed_spec (hx.rd.pur p1)) ?_
 rintro _ H1 ⟨rfl, rfl⟩
 refine ⟨Nat.le_refl _, ?_⟩
 simp only [firstF] at h
 by_cases hf : s.fe = 0
 ·rw [if_neg (by simpa using hf)] at h
  simp -implicitDefEqProofs (disch := first | assumption | omega | (simp only [nxB]; omega) | (simp only [oneB])) only [s181, xlen, AV.cells, splice, aload, astore, Nat.reduceAdd, Nat.reduceLeDiff, reduceIte, allB, hf, bne_self_eq_false]
  refine W_call (tok_spec (hx.rd.pur p1) (hx.tk.pur p1)) ?_
  rintro _ H2 ⟨rfl, p2⟩
  refine ⟨p2.1, ?_⟩
  have hn2 := p2.1
  simp only [AHeap.next_push] at hn2
  have p3 := (p1.trans p2).then_push (.row false 4 [[.int .i64 (tokAt T s.at_).kind, .str (tokAt T s.at_).text, .int .i64 (tokAt T s.at_).n, .int .i64 (tokAt T s.at_).pos]])
  have hq := AHeap.get_push_same H2 (.row false 4 [[.int .i64 (tokAt T s.at_).kind, .str (tokAt T s.at_).text, .int .i64 (tokAt T s.at_).n, .int .i64 (tokAt T s.at_).pos]])
  have hb := (Pur.push H2 (.row false 4 [[.int .i64 (tokAt T s.at_).kind, .str (tokAt T s.at_).text, .int .i64 (tokAt T s.at_).n, .int .i64 (tokAt T s.at_).pos]])).get (p2.get (AHeap.get_push_same H _))
  have hx3 := hx.pur p3
  have mb := p3.mut (· = r)
  have hr2 := hx3.rd
  unfold Rd at hr2
  by_cases h2 : (tokAt T s.at_).kind = 2
  ·rw [if_pos h2] at h
   simp only [Option.some.injEq, Prod.mk.injEq] at h
   obtain ⟨rfl, rfl⟩ := h
   have hlr := hx3.rd.lt
   have hb' : H2.get H.next = some (.row false 11 [[.int .i64 0, .int .i64 0, .str [], .str [], .int .i64 0, .nilSl, .int .i64 0, .int .i64 0, .int .i64 0, .int .i64 0, .int .i64 0]]) := p2.get (AHeap.get_push_same H _)
   have hr3 := hx.rd.pur (p1.trans p2)
   unfold Rd at hr3
   simp -implicitDefEqProofs (disch := first | assumption | omega | (simp only [nxB]; omega) | (simp only [oneB])) only [s181, xlen, AV.cells, splice, aload, astore, Nat.reduceAdd, Nat.reduceLeDiff, reduceIte, allB, Tok.v, h2, beq_self_eq_true, hr3, ho1, ho2, hb']
   refine W_some.2 ?_
   refine PostE.box (a := { kind := 1, n := (tokAt T s.at_).n, pos := (tokAt T s.at_).pos }) (kv := .nilSl) (s' := goS s) (lo := H.next + 1) hx ?_ ?_ (Nat.le_refl _) (Nat.lt_succ_self _) (KsV.nil _ _) _
   ·rw [← h2]; (repeat (first | exact mb | refine Mut.then_push ?_ _ | refine Mut.then_set (S := (· = r)) ?_ (.inl rfl) _ | refine Mut.then_set ?_ (.inr (by (first | omega | (simp only [AHeap.next_push, AHeap.next_set]; omega)))) _))
   ·rw [← h2]; (unfold Rd; simp -implicitDefEqProofs (disch := first | assumption | omega | (simp only [nxB]; omega) | (simp only [oneB])) only [heapB, hr2, goS, outS])
  ·rw [if_neg h2] at h
   have h2' : ((tokAt T s.at_).kind == 2) = false := by simpa using h2
   by_cases h1 : (tokAt T s.at_).kind = 1
   ·rw [if_pos h1] at h
    have h1' : ((tokAt T s.at_).kind == 1) = true := by simpa using h1
    simp -implicitDefEqProofs (disch := first | assumption | omega | (simp only [nxB]; omega) | (simp only [oneB])) only [s181, xlen, AV.cells, splice, aload, astore, Nat.reduceAdd, Nat.reduceLeDiff, reduceIte, allB, Tok.v, h2', h1']
    refine W_call (ihN hx3 hlv e s' h) ?_
    rintro v H4 ⟨m4, hx4, he4⟩
    refine ⟨m4.1, ?_⟩
    have hb4 := m4.get hb (by omega)
    have hlb4 := AHeap.get_lt hb4
    obtain ⟨cs, rfl, hlen, hone⟩ := he4.cells
    have ht : List.take 11 cs = cs := List.take_of_length_le (by omega)
    simp -implicitDefEqProofs (disch := first | assumption | omega | (simp only [nxB]; omega) | (simp only [oneB])) only [s181, xlen, AV.cells, splice, aload, astore, Nat.reduceAdd, Nat.reduceLeDiff, reduceIte, allB, hb4, hlen, hone, List.append_nil, ht]
    exact W_some.2 (PostE.ret hx (mb.trans m4) hx4.rd (Nat.le_refl _) he4 (by simp only [AHeap.next_push]; omega) _)
   ·rw [if_neg h1] at h
    have h1' : ((tokAt T s.at_).kind == 1) = false := by simpa using h1
    by_cases h34 : (tokAt T s.at_).kind = 3 ∨ (tokAt T s.at_).kind = 4
    ·rw [if_pos h34] at h
     have go : W (s181_j1 (evw P orc) (.ptr r 0 0) (.ptr H.next 0 0) (.ptr H2.next 0 0) (.bool true) (H2.push (.row false 4 [[.int .i64 (tokAt T s.at_).kind, .str (tokAt T s.at_).text, .int .i64 (tokAt T s.at_).n, .int .i64 (tokAt T s.at_).pos]]))) (PostE H r T tv lv e s') := by
      by_cases h4 : (tokAt T s.at_).kind = 4
      ·have h4' : ((tokAt T s.at_).kind == 4) = true := by simpa using h4
       simp only [h4', cond_true] at h
       by_cases t7 : (tokAt T s.at_).text = [40]
       ·simp only [t7, beq_self_eq_true, cond_true] at h
        exact first_go hx mb hx3.rd hb (by omega) hq (k := 193) (by rw [t7]; rfl) (by simp [h4, t7]) fun Hc hxc => within_spec ihS hxc hlv h
       ·have t7' : ((tokAt T s.at_).text == [40]) = false := by simpa using t7
        simp only [t7', cond_false, Option.some.injEq, Prod.mk.injEq] at h
        obtain ⟨rfl, rfl⟩ := h
        refine first_no hx mb hx3.rd hb (by omega) hq ?_
        rcases look_any (tokAt T s.at_).text with hk | ⟨k, hk⟩
        ·exact .inl hk
        ·exact .inr ⟨k, hk, by rw [h4', t7']; rfl⟩
      ·have h4' : ((tokAt T s.at_).kind == 4) = false := by simpa using h4
       simp only [h4', cond_false] at h
       have hflag : ∀ t : Bs, (tokAt T s.at_).text = t → t ≠ [40] → (((tokAt T s.at_).kind == 4) == ((tokAt T s.at_).text == [40])) = true := by
        intro t ht hne
        rw [h4', ht, show (t == [40]) = false by simpa using hne]; rfl
       by_cases t1 : (tokAt T s.at_).text = [116, 114, 117, 101]
       ·have h' : some (truthS T s) = some (e, s') := by rw [← h]; simp [t1]
        simp only [Option.some.injEq] at h'
        refine first_go hx mb hx3.rd hb (by omega) hq (k := 188) (by rw [t1]; rfl) (hflag _ t1 (by decide)) fun Hc hxc => ?_
        have := truth_spec hxc
        rw [h'] at this; exact this
       by_cases t2 : (tokAt T s.at_).text = [102, 97, 108, 115, 101]
       ·have h' : some (truthS T s) = some (e, s') := by rw [← h]; simp [t2]
        simp only [Option.some.injEq] at h'
        refine first_go hx mb hx3.rd hb (by omega) hq (k := 188) (by rw [t2]; rfl) (hflag _ t2 (by decide)) fun Hc hxc => ?_
        have := truth_spec hxc
        rw [h'] at this; exact this
       by_cases t3 : (tokAt T s.at_).text = [110, 117, 108, 108]
       ·have h' : some (nullS T s) = some (e, s') := by rw [← h]; simp [t3]
        simp only [Option.some.injEq] at h'
        refine first_go hx mb hx3.rd hb (by omega) hq (k := 189) (by rw [t3]; rfl) (hflag _ t3 (by decide)) fun Hc hxc => ?_
        have := null_spec hxc
        rw [h'] at this; exact this
       by_cases t4 : (tokAt T s.at_).text = [110, 101, 119]
       ·have h' : freshF T n s = some (e, s') := by rw [← h]; simp [t4]
        exact first_go hx mb hx3.rd hb (by omega) hq (k := 190) (by rw [t4]; rfl) (hflag _ t4 (by decide)) fun Hc hxc => ihF hxc hlv e s' h'
       by_cases t5 : (tokAt T s.at_).text = [108, 101, 110]
       ·have h' : ((singleF T n [40] [41] (goS s)).bind fun p => some (.mk { kind := 10, pos := (tokAt T s.at_).pos } [p.1], p.2)) = some (e, s') := by rw [← h]; simp [t5]
        simp only [Option.bind_eq_some_iff] at h'
        obtain ⟨⟨e1, s1⟩, g1, g2⟩ := h'
        simp only [Option.some.injEq, Prod.mk.injEq] at g2
        obtain ⟨rfl, rfl⟩ := g2
        exact first_go hx mb hx3.rd hb (by omega) hq (k := 191) (by rw [t5]; rfl) (hflag _ t5 (by decide)) fun Hc hxc => length_spec ihS hxc hlv g1
       by_cases t6 : (tokAt T s.at_).text = [114, 101, 97, 100]
       ·have h' : some (readS T s) = some (e, s') := by rw [← h]; simp [t6]
        simp only [Option.some.injEq] at h'
        refine first_go hx mb hx3.rd hb (by omega) hq (k := 192) (by rw [t6]; rfl) (hflag _ t6 (by decide)) fun Hc hxc => ?_
        have := read_spec hxc
        rw [h'] at this; exact this
       have h' : some (Ex.zero, failS T 2 s) = some (e, s') := by rw [← h]; simp [bnf t1, bnf t2, bnf t3, bnf t4, bnf t5, bnf t6]
       simp only [Option.some.injEq, Prod.mk.injEq] at h'
       obtain ⟨rfl, rfl⟩ := h'
       refine first_no hx mb hx3.rd hb (by omega) hq ?_
       by_cases t7 : (tokAt T s.at_).text = [40]
       ·exact .inr ⟨193, by rw [t7]; rfl, by rw [h4', t7]; rfl⟩
       ·exact .inl (by simp [lookM, firstsM, bnf t1, bnf t2, bnf t3, bnf t4, bnf t5, bnf t6, bnf t7])
     rcases h34 with h3 | h4
     ·have h3' : ((tokAt T s.at_).kind == 3) = true := by simpa using h3
      simp -implicitDefEqProofs (disch := first | assumption | omega | (simp only [nxB]; omega) | (simp only [oneB])) only [s181, xlen, AV.cells, splice, aload, astore, Nat.reduceAdd, Nat.reduceLeDiff, reduceIte, allB, Tok.v, h2', h1', h3']
      exact go
     ·have h3' : ((tokAt T s.at_).kind == 3) = false := by simp [h4]
      have h4' : ((tokAt T s.at_).kind == 4) = true := by simpa using h4
      simp -implicitDefEqProofs (disch := first | assumption | omega | (simp only [nxB]; omega) | (simp only [oneB])) only [s181, xlen, AV.cells, splice, aload, astore, Nat.reduceAdd, Nat.reduceLeDiff, reduceIte, allB, Tok.v, h2', h1', h3', h4']
      exact go
    ·rw [if_neg h34] at h
     simp only [Option.some.injEq, Prod.mk.injEq] at h
     obtain ⟨rfl, rfl⟩ := h
     have h3' : ((tokAt T s.at_).kind == 3) = false := by simp; omega
     have h4' : ((tokAt T s.at_).kind == 4) = false := by simp; omega
     simp -implicitDefEqProofs (disch := first | assumption | omega | (simp only [nxB]; omega) | (simp only [oneB])) only [s181_j1, s181, xlen, AV.cells, splice, aload, astore, Nat.reduceAdd, Nat.reduceLeDiff, reduceIte, allB, Tok.v, h2', h1', h3', h4']
     exact first_fail hx mb hx3.rd hb
 ·rw [if_pos (by simpa using hf)] at h
  simp only [Option.some.injEq, Prod.mk.injEq] at h
  obtain ⟨rfl, rfl⟩ := h
  have hf' : (s.fe != 0) = true := by simpa using hf
  simp -implicitDefEqProofs (disch := first | assumption | omega | (simp only [nxB]; omega) | (simp only [oneB])) only [s181, xlen, AV.cells, splice, aload, astore, Nat.reduceAdd, Nat.reduceLeDiff, reduceIte, allB, hf']
  exact W_some.2 ⟨p1.mut _, hx.pur p1, ExV.leaf _ _ { kind := 0 }⟩
end Go.Proofs.YtghmbpmaafnodaaGreatDoor

namespace Go.Proofs.YtghmbpmaafnodaaGreatDoor
open Go.Ev
theorem chain_end {N : Nat} {H0 H : AHeap} {r : Nat} {T : List Tok} {tv lv : AV} {s0 s : St} (hx0 : Rx H0 r T tv lv s0) (mb : Mt r H0 H) (hrd : Rd H r tv lv s) {b3 : Nat} {cs zs : List AV} {e : Ex} (hb2 : H.get H0.next = some (.row false 11 [zs])) (hz : zs.length = 11) (hb3 : H.get b3 = some (.row false 11 [cs])) (h3 : H0.next < b3)
  (he : ExV H (fun l => H0.next < l ∧ l ≠ b3) e (.agg cs)) : W (s178_j0 (evw P orc) N (.ptr H0.next 0 0) (.ptr b3 0 0) H) (PostE H0 r T tv lv e s) := by
 have hl := hx0.rd.lt
 have hl2 := AHeap.get_lt hb2
 have hl3 := AHeap.get_lt hb3
 obtain ⟨cs', hcs, hlen, hone⟩ := he.cells
 cases hcs
 have ht : List.take 11 cs = cs := List.take_of_length_le (by omega)
 have hd : List.drop 11 zs = [] := List.drop_of_length_le (by omega)
 simp -implicitDefEqProofs (disch := first | assumption | omega | (simp only [nxB]; omega) | (simp only [oneB])) only [s178_j0, s178_5, s178_b1, s178, xlen, AV.cells, splice, aload, astore, Nat.reduceAdd, Nat.reduceLeDiff, reduceIte, allB, hb2, hb3, hlen, hone, List.append_nil, ht, hd]
 have m' := mb.then_set (.inr (Nat.le_refl _)) (.row false 11 [cs])
 refine W_some.2 ⟨m', hx0.mut m' ?_, he.keep (Keep.set _ (by omega) fun l h => by unfold Ge; omega) e _⟩
 unfold Rd at hrd ⊢
 rw [AHeap.get_set_other (by omega)]; exact hrd
theorem chain_loop {N : Nat} (ih : ∀ k, k < N → SingleOk k) {H0 : AHeap} {r : Nat} {T : List Tok} {tv lv : AV} {s0 : St} (hx0 : Rx H0 r T tv lv s0) (hlv : lv ≠ .nilSl) {b3 M : Nat} (h3 : H0.next < b3) (hM : H0.next < M) (hM3 : M ≠ b3) :
  ∀ (n m : Nat), n < N → n < m → ∀ (H : AHeap) (s : St) (e : Ex) (cs zs : List AV), Mt r H0 H → Rd H r tv lv s → H.get H0.next = some (.row false 11 [zs]) → zs.length = 11 → H.get b3 = some (.row false 11 [cs]) → H.get M = some (.map behindsM) →
   ExV H (fun l => H0.next < l ∧ l ≠ b3) e (.agg cs) → ∀ (e' : Ex) (s' : St), chainL T n e s = some (e', s') →
   W (s178_l1 (evw P orc) N m (.ptr r 0 0) (.ptr H0.next 0 0) (.ptr b3 0 0) (.map M) H) (PostE H0 r T tv lv e' s')
 | 0, m, hN, hm, H, s, e, cs, zs, mb, hrd, hb2, hz, hb3, hgM, he, e', s', h => by simp [chainL] at h
 | n + 1, 0, hN, hm, H, s, e, cs, zs, mb, hrd, hb2, hz, hb3, hgM, he, e', s', h => by omega
 | n + 1, m + 1, hN, hm, H, s, e, cs, zs, mb, hrd, hb2, hz, hb3, hgM, he, e', s', h => by
  have hl := hx0.rd.lt
  have hx := hx0.mut mb hrd
  have hl3 := AHeap.get_lt hb3
  obtain ⟨cs', hcs, hlen, hone⟩ := he.cells
  cases hcs
  have ht : List.take 11 cs = cs := List.take_of_length_le (by omega)
  simp only [chainL] at h
  simp only [s178_l1]
  rw [s178_b1]
  refine W_call (failed_spec hrd) ?_
  rintro _ H1 ⟨rfl, rfl⟩
  refine ⟨Nat.le_refl _, ?_⟩
  by_cases hf : s.fe = 0
  ·have hf' : (s.fe == 0) = true := by simpa using hf
   simp -implicitDefEqProofs (disch := first | assumption | omega | (simp only [nxB]; omega) | (simp only [oneB])) only [s178_5, s178, xlen, AV.cells, splice, aload, astore, Nat.reduceAdd, Nat.reduceLeDiff, reduceIte, allB, hf, bne_self_eq_false, Bool.not_false]
   refine W_eff (tok_spec hrd hx.tk) ?_
   rintro _ H2 ⟨rfl, p2⟩
   refine ⟨p2.1, ?_⟩
   cases hk : (tokAt T s.at_).kind == 4 with
   | false =>
    simp only [hf', hk, Bool.and_false, cond_false, Option.some.injEq, Prod.mk.injEq] at h
    obtain ⟨rfl, rfl⟩ := h
    simp -implicitDefEqProofs (disch := first | assumption | omega | (simp only [nxB]; omega) | (simp only [oneB])) only [s178_5, s178, xlen, AV.cells, splice, aload, astore, Nat.reduceAdd, Nat.reduceLeDiff, reduceIte, allB, Tok.v, hk]
    exact chain_end hx0 (mb.trans (p2.mut _)) (hrd.pur p2) (p2.get hb2) hz (p2.get hb3) h3 (he.keep (Keep.pur p2 fun _ h => h) e _)
   | true =>
    simp only [hf', hk, Bool.and_self, cond_true] at h
    simp -implicitDefEqProofs (disch := first | assumption | omega | (simp only [nxB]; omega) | (simp only [oneB])) only [s178_5, s178, xlen, AV.cells, splice, aload, astore, Nat.reduceAdd, Nat.reduceLeDiff, reduceIte, allB, Tok.v, hk]
    refine W_call (tok_spec (hrd.pur p2) (hx.tk.pur p2)) ?_
    rintro _ H3 ⟨rfl, p3⟩
    refine ⟨p3.1, ?_⟩
    have p4 := p2.trans p3
    have hlook := lk118 (tokAt T s.at_).text (p4.get hgM)
    have hb34 := p4.get hb3
    have hl34 := AHeap.get_lt hb34
    have hm4 := p4.1
    have he4 := he.keep (Keep.pur p4 fun _ h => h) e _
    have hx4 := hx.pur p4
    have mb4 := mb.trans (p4.mut _)
    have next : ∀ (H5 : AHeap) (v : AV) (e5 : Ex) (s5 : St), PostL (fun l => H0.next < l ∧ l ≠ b3) H3 r T tv lv e5 s5 v H5 → chainL T n e5 s5 = some (e', s') → H3.next ≤ H5.next ∧ W (s178_5 (s178_l1 (evw P orc) N m) (.ptr b3 0 0) (.ptr r 0 0) (.ptr H0.next 0 0) (.map M) v H5) (PostE H0 r T tv lv e' s') := by
     rintro H5 v e5 s5 ⟨m5, hx5, he5⟩ h5
     refine ⟨m5.1, ?_⟩
     obtain ⟨ds, rfl, hlen', hone'⟩ := he5.cells
     have hb35 := m5.get hb34 (by omega)
     have hl35 := AHeap.get_lt hb35
     have hd : List.drop 11 cs = [] := List.drop_of_length_le (by omega)
     simp -implicitDefEqProofs (disch := first | assumption | omega | (simp only [nxB]; omega) | (simp only [oneB])) only [s178_5, s178, xlen, AV.cells, splice, aload, astore, Nat.reduceAdd, Nat.reduceLeDiff, reduceIte, allB, hb35, hlen', hone', List.append_nil, hd]
     have m6 := (mb4.trans m5).then_set (.inr (Nat.le_of_lt h3)) (.row false 11 [ds])
     refine chain_loop ih hx0 hlv h3 hM hM3 n m (by omega) (by omega) _ s5 e5 ds zs m6 ?_ ?_ hz (AHeap.get_set_same hl35) ?_ (he5.keep (Keep.set _ (by omega) fun l h => h) e5 _) e' s' h5
     ·have := hx5.rd
      unfold Rd at this ⊢
      rw [AHeap.get_set_other (by omega)]; exact this
     ·rw [AHeap.get_set_other (by omega)]; exact m5.get (p4.get hb2) (by omega)
     ·rw [AHeap.get_set_other (by omega)]; exact m5.get (p4.get hgM) (by omega)
    by_cases t1 : (tokAt T s.at_).text = [46]
    ·simp only [t1, beq_self_eq_true, cond_true] at h
     have hlk : lookM (tokAt T s.at_).text behindsM = fn 185 := by rw [t1]; rfl
     simp -implicitDefEqProofs (disch := first | assumption | omega | (simp only [nxB]; omega) | (simp only [oneB])) only [s178, xlen, AV.cells, splice, aload, astore, Nat.reduceAdd, Nat.reduceLeDiff, reduceIte, allB, Tok.v, hlook, hlk, ef120, hb34, ht]
     simp only [fn, xapply_fn, List.nil_append, List.append_nil]
     refine W_call (field_spec (ok := fun l => H0.next < l ∧ l ≠ b3) hx4 he4 (by omega) (fun l hl => by omega)) ?_
     intro v H5 hp
     exact next H5 v _ _ hp h
    ·by_cases t2 : (tokAt T s.at_).text = [91]
     ·simp only [t2, beq_self_eq_true, cond_true, show (([91] : Bs) == [46]) = false by rfl, cond_false, Option.bind_eq_some_iff] at h
      obtain ⟨⟨e1, s1⟩, g1, g2⟩ := h
      have hlk : lookM (tokAt T s.at_).text behindsM = fn 186 := by rw [t2]; rfl
      simp -implicitDefEqProofs (disch := first | assumption | omega | (simp only [nxB]; omega) | (simp only [oneB])) only [s178, xlen, AV.cells, splice, aload, astore, Nat.reduceAdd, Nat.reduceLeDiff, reduceIte, allB, Tok.v, hlook, hlk, ef120, hb34, ht]
      simp only [fn, xapply_fn, List.nil_append, List.append_nil]
      refine W_call (item_spec (ih n (by omega)) (ok := fun l => H0.next < l ∧ l ≠ b3) hx4 hlv he4 (by omega) (fun l hl => by omega) g1) ?_
      intro v H5 hp
      exact next H5 v _ _ hp g2
     ·simp only [bnf t1, bnf t2, cond_false, Option.some.injEq, Prod.mk.injEq] at h
      obtain ⟨rfl, rfl⟩ := h
      have hlk : lookM (tokAt T s.at_).text behindsM = .nilFunc := by simp [lookM, behindsM, bnf t1, bnf t2]
      simp -implicitDefEqProofs (disch := first | assumption | omega | (simp only [nxB]; omega) | (simp only [oneB])) only [s178_5, s178, xlen, AV.cells, splice, aload, astore, Nat.reduceAdd, Nat.reduceLeDiff, reduceIte, allB, Tok.v, hlook, hlk, ef120n]
      exact chain_end hx0 mb4 hx4.rd (p4.get hb2) hz hb34 h3 he4
  ·have hf' : (s.fe == 0) = false := by simpa using hf
   have hf2 : (s.fe != 0) = true := by simpa using hf
   simp only [hf', Bool.false_and, cond_false, Option.some.injEq, Prod.mk.injEq] at h
   obtain ⟨rfl, rfl⟩ := h
   simp -implicitDefEqProofs (disch := first | assumption | omega | (simp only [nxB]; omega) | (simp only [oneB])) only [s178_5, s178, xlen, AV.cells, splice, aload, astore, Nat.reduceAdd, Nat.reduceLeDiff, reduceIte, allB, hf2, Bool.not_true]
   exact chain_end hx0 mb hrd hb2 hz hb3 h3 he
theorem chain_step {n : Nat} (ihF : FirstOk n) (ihS : ∀ k, k ≤ n → SingleOk k) : ChainOk (n + 1) := by
 intro H r T tv lv s hx hlv e s' h
 refine W_of (fun _ => run178 (n + 1)) ?_
 have hl := hx.rd.lt
 simp only [chainF, Option.bind_eq_some_iff] at h
 obtain ⟨⟨e1, s1⟩, h1, h2⟩ := h
 have p1 := Pur.push H (.row false 11 [[.int .i64 0, .int .i64 0, .str [], .str [], .int .i64 0, .nilSl, .int .i64 0, .int .i64 0, .int .i64 0, .int .i64 0, .int .i64 0]])
 simp -implicitDefEqProofs (disch := first | assumption | omega | (simp only [nxB]; omega) | (simp only [oneB])) only [s178_5, s178, xlen, AV.cells, splice, aload, astore, Nat.reduceAdd, Nat.reduceLeDiff, reduceIte, allB]
 refine W_call (ihF (hx.pur p1) hlv e1 s1 h1) ?_
 rintro v H2 ⟨m2, hx2, he2⟩
 refine ⟨m2.1, ?_⟩
 have hm2 := m2.1
 simp only [AHeap.next_push] at hm2
 obtain ⟨cs, rfl, hlen, hone⟩ := he2.cells
 simp -implicitDefEqProofs (disch := first | assumption | omega | (simp only [nxB]; omega) | (simp only [oneB])) only [s178_5, s178, xlen, AV.cells, splice, aload, astore, Nat.reduceAdd, Nat.reduceLeDiff, reduceIte, allB, hlen, hone, List.append_nil]
 have p3 := Pur.push H2 (.row false 11 [cs])
 refine W_call (behinds_spec _) ?_
 rintro _ H4 ⟨rfl, rfl⟩
 refine ⟨(Pur.push _ _).1, ?_⟩
 have p4 := p3.then_push (.map behindsM)
 simp only [s178_5, s178, AHeap.next_push]
 have hb2 := m2.get (AHeap.get_push_same H (.row false 11 [[.int .i64 0, .int .i64 0, .str [], .str [], .int .i64 0, .nilSl, .int .i64 0, .int .i64 0, .int .i64 0, .int .i64 0, .int .i64 0]])) (by omega)
 refine chain_loop (N := n + 1) (fun k hk => ihS k (by omega)) hx hlv (b3 := H2.next) (M := H2.next + 1) (by omega) (by omega) (by omega) n (n + 1) (by omega) (by omega) _ s1 e1 cs _ (((p1.mut _).trans m2).trans (p4.mut _)) (hx2.rd.pur p4) (p4.get hb2) rfl ?_ ?_ ?_ e s' h2
 ·simp -implicitDefEqProofs (disch := first | assumption | omega | (simp only [nxB]; omega) | (simp only [oneB])) only [heapB]
 ·simp -implicitDefEqProofs (disch := first | assumption | omega | (simp only [nxB]; omega) | (simp only [oneB])) only [heapB]
 ·exact he2.keep (fun l ro els hl' hg => by
   have := AHeap.get_lt hg
   unfold Ge at hl'
   simp only [AHeap.next_push] at hl'
   exact ⟨⟨by omega, by omega⟩, p4.get hg⟩) e1 _
theorem unary_sign {n : Nat} (ih : UnaryOk n) {H0 H : AHeap} {r : Nat} {T : List Tok} {tv lv : AV} {s0 s : St} (hx0 : Rx H0 r T tv lv s0) (hlv : lv ≠ .nilSl) (mb : Mt r H0 H) (hrd : Rd H r tv lv s) (hb : H.get H0.next = some (.row false 11 [[.int .i64 0, .int .i64 0, .str [], .str [], .int .i64 0, .nilSl, .int .i64 0, .int .i64 0, .int .i64 0, .int .i64 0, .int .i64 0]])) {b4 : Nat} (h4 : H0.next < b4) {x : Bs} {k : Int} (hb4 : H.get b4 = some (.row false 2 [[.str x, .int .i64 k]]))
  {e' : Ex} {s' : St} (h : signF T (n + 1) x k s = some (e', s')) : W (s170_28 (evw P orc) (.ptr b4 0 0) H (.ptr r 0 0) (.ptr H0.next 0 0) (.int .i64 (tokAt T s.at_).pos)) (PostE H0 r T tv lv e' s') := by
 have hl := hx0.rd.lt
 have ho1 := hx0.tk.one
 have ho2 := hx0.lv.one
 have hx := hx0.mut mb hrd
 have hle := mb.1
 have hl4 := AHeap.get_lt hb4
 simp only [signF] at h
 simp -implicitDefEqProofs (disch := first | assumption | omega | (simp only [nxB]; omega) | (simp only [oneB])) only [s170_28, s170_41, s170_42, s170, xlen, AV.cells, splice, aload, astore, Nat.reduceAdd, Nat.reduceLeDiff, reduceIte, allB, hb4]
 refine W_call (opens_spec hx x) ?_
 rintro _ H1 ⟨rfl, m1, hx1⟩
 refine ⟨m1.1, ?_⟩
 have hb1 := m1.get hb (by omega)
 have hb41 := m1.get hb4 (by omega)
 have hl1 := AHeap.get_lt hb1
 cases ho : (opensS T x s).1 with
 | false =>
  simp only [ho, cond_false, Option.some.injEq, Prod.mk.injEq] at h
  obtain ⟨rfl, rfl⟩ := h
  simp -implicitDefEqProofs (disch := first | assumption | omega | (simp only [nxB]; omega) | (simp only [oneB])) only [s170_28, s170_41, s170_42, s170, xlen, AV.cells, splice, aload, astore, Nat.reduceAdd, Nat.reduceLeDiff, reduceIte, allB, Bool.not_false, hb1]
  exact W_some.2 (PostE.ret hx0 (mb.trans m1) hx1.rd (Nat.le_refl _) (ExV.leaf _ (Ge (H0.next + 1)) { kind := 0 }) (Nat.lt_succ_self _) _)
 | true =>
  simp only [ho, cond_true, Option.bind_eq_some_iff] at h
  obtain ⟨⟨e1, s1⟩, h1, h2⟩ := h
  simp only [Option.some.injEq, Prod.mk.injEq] at h2
  obtain ⟨rfl, rfl⟩ := h2
  simp -implicitDefEqProofs (disch := first | assumption | omega | (simp only [nxB]; omega) | (simp only [oneB])) only [s170_28, s170_41, s170_42, s170, xlen, AV.cells, splice, aload, astore, Nat.reduceAdd, Nat.reduceLeDiff, reduceIte, allB, Bool.not_true]
  refine W_call (ih hx1 hlv e1 s1 h1) ?_
  rintro v H2 ⟨m2, hx2, he2⟩
  refine ⟨m2.1, ?_⟩
  have hm1 := m1.1
  have hm2 := m2.1
  have hb2 := m2.get hb1 (by omega)
  have hb42 := m2.get hb41 (by omega)
  have hl2 := AHeap.get_lt hb2
  have hl42 := AHeap.get_lt hb42
  obtain ⟨cs, rfl, hlen, hone⟩ := he2.cells
  have ht : List.take 11 cs = cs := List.take_of_length_le (by omega)
  have hs : ∀ l, sliceOf P l 96 1 [(0, .agg cs)] = some (.sl l 0 1 11 (some 1), .row false 11 [cs]) := fun l => sl35_1 l cs hlen hone
  have hr2 := hx2.rd
  unfold Rd at hr2
  have hlr := hx2.rd.lt
  replace mb := (mb.trans m1).trans m2
  simp -implicitDefEqProofs (disch := first | assumption | omega | (simp only [nxB]; omega) | (simp only [oneB])) only [s170_28, s170_41, s170_42, s170, xlen, AV.cells, splice, aload, astore, Nat.reduceAdd, Nat.reduceLeDiff, reduceIte, allB, hlen, hone, List.append_nil, ht, hs, hr2, ho1, ho2, hb2, hb42]
  refine W_some.2 ?_
  refine PostL.fin (ok := Ge H0.next) (a := { kind := k, pos := (tokAt T s.at_).pos }) (kv := .sl (H2.next + 1) 0 1 11 (some 1)) (s' := outS s1) hx0 ?_ ?_ (KsV.one_at (ro := false) ?_ (by unfold Ge; omega) (he2.new ?_ fun l h => by unfold Ge; omega))
  ·(repeat (first | exact mb | refine Mut.then_push ?_ _ | refine Mut.then_set (S := (· = r)) ?_ (.inl rfl) _ | refine Mut.then_set ?_ (.inr (by (first | omega | (simp only [AHeap.next_push, AHeap.next_set]; omega)))) _))
  ·(unfold Rd; simp -implicitDefEqProofs (disch := first | assumption | omega | (simp only [nxB]; omega) | (simp only [oneB])) only [heapB, hr2, goS, outS])
  ·simp -implicitDefEqProofs (disch := first | assumption | omega | (simp only [nxB]; omega) | (simp only [oneB])) only [heapB]
  ·exact Mut.then_set (S := fun l => l < _) ((Mut.then_set (S := fun l => l < _) ((Mut.refl _ _).then_push _) (.inl (by omega)) _).then_push _) (.inl (by omega)) _
theorem unary_one {n N : Nat} (ih : UnaryOk n) {L : AV → AV → AV → AV → AV → AHeap → O} {H0 H : AHeap} {r : Nat} {T : List Tok} {tv lv : AV} {s0 s : St} (hx0 : Rx H0 r T tv lv s0) (hlv : lv ≠ .nilSl) (mb : Mt r H0 H) (hrd : Rd H r tv lv s) (hb : H.get H0.next = some (.row false 11 [[.int .i64 0, .int .i64 0, .str [], .str [], .int .i64 0, .nilSl, .int .i64 0, .int .i64 0, .int .i64 0, .int .i64 0, .int .i64 0]])) {b9 : Nat} {els : List (List AV)} (h9 : H0.next < b9) (hb9 : H.get b9 = some (.row false 2 els)) {i : Nat} (hi : i < 2) {x : Bs} {k : Int} (hel : els[i]? = some [.str x, .int .i64 k])
  {e' : Ex} {s' : St} (hyes : isB T s 4 x = true → signF T (n + 1) x k s = some (e', s')) (hno : isB T s 4 x = false → ∀ H', Pur H H' → W (L (.ptr r 0 0) (.ptr H0.next 0 0) (.sl b9 0 2 2 (some 2)) (.int .i64 2) (.int .i64 ((i + 1 : Nat) : Int)) H') (PostE H0 r T tv lv e' s')) :
  W (s170_b1 (evw P orc) N L (.ptr r 0 0) (.ptr H0.next 0 0) (.sl b9 0 2 2 (some 2)) (.int .i64 2) (.int .i64 (i : Int)) H) (PostE H0 r T tv lv e' s') := by
 have hl := hx0.rd.lt
 have hx := hx0.mut mb hrd
 have hl9 := AHeap.get_lt hb9
 have hle := mb.1
 have hi2 : ((i : Int) < 2) := by omega
 have hi2' : ((i : Int) < ((2 : Nat) : Int)) := by omega
 have hi0 : (0 : Int) ≤ (i : Int) := by omega
 have htn : ((i : Int)).toNat = i := by omega
 have hia : aindexAddr P 200 (.sl b9 0 2 2 (some 2)) (.int .i64 (i : Int)) = some (.ptr b9 (0 + ((i : Int)).toNat) 0) := ia200 hi0 hi2'
 rw [htn, Nat.zero_add] at hia
 simp -implicitDefEqProofs (disch := first | assumption | omega | (simp only [nxB]; omega) | (simp only [oneB])) only [s170_41, s170_42, s170_b1, s170, xlen, AV.cells, splice, aload, astore, Nat.reduceAdd, Nat.reduceLeDiff, reduceIte, allB, hi2, decide_true, hia, hb9, hel]
 have p1 := Pur.push H (.row false 2 [[.str x, .int .i64 k]])
 refine W_call (tok_spec (hrd.pur p1) (hx.tk.pur p1)) ?_
 rintro _ H2 ⟨rfl, p2⟩
 refine ⟨p2.1, ?_⟩
 have hq := p2.get (AHeap.get_push_same H (.row false 2 [[.str x, .int .i64 k]]))
 have hn2 := p2.1
 simp only [AHeap.next_push] at hn2
 have p3 := p1.trans p2
 simp -implicitDefEqProofs (disch := first | assumption | omega | (simp only [nxB]; omega) | (simp only [oneB])) only [s170_41, s170_42, s170_b1, s170, xlen, AV.cells, splice, aload, astore, Nat.reduceAdd, Nat.reduceLeDiff, reduceIte, allB, Tok.v, hq]
 refine W_call (is_spec (hrd.pur p3) (hx.tk.pur p3) 4 x) ?_
 rintro _ H4 ⟨rfl, p4⟩
 refine ⟨p4.1, ?_⟩
 have p5 := p3.trans p4
 cases hb' : isB T s 4 x with
 | true =>
  simp -implicitDefEqProofs (disch := first | assumption | omega | (simp only [nxB]; omega) | (simp only [oneB])) only [s170_41, s170_42, s170_b1, s170, xlen, AV.cells, splice, aload, astore, Nat.reduceAdd, Nat.reduceLeDiff, reduceIte, allB]
  exact unary_sign ih hx0 hlv (mb.trans (p5.mut _)) (hrd.pur p5) (p5.get hb) (by omega) (p4.get hq) (hyes hb')
 | false =>
  have hw : IntKind.i64.wrap ((i : Int) + 1) = ((i + 1 : Nat) : Int) := by rw [wrap_i64 (by omega) (by omega)]; simp
  simp -implicitDefEqProofs (disch := first | assumption | omega | (simp only [nxB]; omega) | (simp only [oneB])) only [s170_41, s170_42, s170_b1, s170, xlen, AV.cells, splice, aload, astore, Nat.reduceAdd, Nat.reduceLeDiff, reduceIte, allB, hw]
  exact hno hb' _ p5
theorem unary_step {n : Nat} (ihU : ∀ k, k ≤ n → UnaryOk k) (ihC : ChainOk n) : UnaryOk (n + 1) := by
 intro H r T tv lv s hx hlv e s' h
 refine W_of (fun _ => run170 3) ?_
 have hl := hx.rd.lt
 simp only [unaryF] at h
 have p1 := Pur.push H (.row false 11 [[.int .i64 0, .int .i64 0, .str [], .str [], .int .i64 0, .nilSl, .int .i64 0, .int .i64 0, .int .i64 0, .int .i64 0, .int .i64 0]])
 have p2 := p1.then_push (.row false 2 [[.str [45], .int .i64 12], [.str [33], .int .i64 13]])
 simp -implicitDefEqProofs (disch := first | assumption | omega | (simp only [nxB]; omega) | (simp only [oneB])) only [s170_28, s170_41, s170_42, s170, xlen, AV.cells, splice, aload, astore, Nat.reduceAdd, Nat.reduceLeDiff, reduceIte, allB]
 have hb : ((H.push (.row false 11 [[.int .i64 0, .int .i64 0, .str [], .str [], .int .i64 0, .nilSl, .int .i64 0, .int .i64 0, .int .i64 0, .int .i64 0, .int .i64 0]])).push (.row false 2 [[.str [45], .int .i64 12], [.str [33], .int .i64 13]])).get H.next = some (.row false 11 [[.int .i64 0, .int .i64 0, .str [], .str [], .int .i64 0, .nilSl, .int .i64 0, .int .i64 0, .int .i64 0, .int .i64 0, .int .i64 0]]) := by simp -implicitDefEqProofs (disch := first | assumption | omega | (simp only [nxB]; omega) | (simp only [oneB])) only [heapB]
 have hb9 : ((H.push (.row false 11 [[.int .i64 0, .int .i64 0, .str [], .str [], .int .i64 0, .nilSl, .int .i64 0, .int .i64 0, .int .i64 0, .int .i64 0, .int .i64 0]])).push (.row false 2 [[.str [45], .int .i64 12], [.str [33], .int .i64 13]])).get (H.next + 1) = some (.row false 2 [[.str [45], .int .i64 12], [.str [33], .int .i64 13]]) := by simp -implicitDefEqProofs (disch := first | assumption | omega | (simp only [nxB]; omega) | (simp only [oneB])) only [heapB]
 cases n with
 | zero => cases h1 : isB T s 4 [45] <;> cases h2 : isB T s 4 [33] <;> simp [h1, h2, signF, chainF] at h
 | succ n =>
  simp only [s170_l1]
  refine unary_one (ihU n (by omega)) hx hlv (p2.mut _) (hx.rd.pur p2) hb (by omega) hb9 (i := 0) (by omega) rfl (fun h1 => by rw [h1] at h; exact h) fun h1 H3 p3 => ?_
  rw [h1] at h
  simp only [cond_false] at h
  have p4 := p2.trans p3
  refine unary_one (ihU n (by omega)) hx hlv (p4.mut _) (hx.rd.pur p4) (p3.get hb) (by omega) (p3.get hb9) (i := 1) (by omega) rfl (fun h2 => by rw [h2] at h; exact h) fun h2 H5 p5 => ?_
  rw [h2] at h
  simp only [cond_false] at h
  have p6 := p4.trans p5
  have hb5 := (p3.trans p5).get hb
  have hlt : ¬ (((1 + 1 : Nat) : Int) < 2) := by omega
  simp -implicitDefEqProofs (disch := first | assumption | omega | (simp only [nxB]; omega) | (simp only [oneB])) only [s170_b1, s170_42, s170_41, xlen, AV.cells, splice, aload, astore, Nat.reduceAdd, Nat.reduceLeDiff, reduceIte, allB, hlt, decide_false]
  rw [s170_j0]
  refine W_call (ihC (hx.pur p6) hlv e s' h) ?_
  rintro v H7 ⟨m7, hx7, he7⟩
  refine ⟨m7.1, ?_⟩
  have hb7 := m7.get hb5 (by omega)
  have hl7 := AHeap.get_lt hb7
  have hm6 := p6.1
  have hm5 := AHeap.get_lt hb5
  obtain ⟨cs, rfl, hlen, hone⟩ := he7.cells
  have ht : List.take 11 cs = cs := List.take_of_length_le (by omega)
  simp -implicitDefEqProofs (disch := first | assumption | omega | (simp only [nxB]; omega) | (simp only [oneB])) only [s170_28, s170_41, s170_42, s170, xlen, AV.cells, splice, aload, astore, Nat.reduceAdd, Nat.reduceLeDiff, reduceIte, allB, hb7, hlen, hone, List.append_nil, ht]
  exact W_some.2 (PostE.ret hx ((p6.mut _).trans m7) hx7.rd (Nat.le_refl _) he7 (by omega) _)
end Go.Proofs.YtghmbpmaafnodaaGreatDoor

namespace Go.Proofs.YtghmbpmaafnodaaGreatDoor
open Go.Ev
theorem row_end {N : Nat} {H0 H : AHeap} {r : Nat} {T : List Tok} {tv lv : AV} {s0 s : St} (hx0 : Rx H0 r T tv lv s0) (mb : Mt r H0 H) (hrd : Rd H r tv lv s) {b3 : Nat} {cs zs : List AV} {e : Ex} (hb2 : H.get H0.next = some (.row false 11 [zs])) (hz : zs.length = 11) (hb3 : H.get b3 = some (.row false 11 [cs])) (h3 : H0.next < b3)
  (he : ExV H (fun l => H0.next < l ∧ l ≠ b3) e (.agg cs)) : W (s165_j0 (evw P orc) N (.ptr H0.next 0 0) (.ptr b3 0 0) H) (PostE H0 r T tv lv e s) := by
 have hl := hx0.rd.lt
 have hl2 := AHeap.get_lt hb2
 have hl3 := AHeap.get_lt hb3
 obtain ⟨cs', hcs, hlen, hone⟩ := he.cells
 cases hcs
 have ht : List.take 11 cs = cs := List.take_of_length_le (by omega)
 have hd : List.drop 11 zs = [] := List.drop_of_length_le (by omega)
 simp -implicitDefEqProofs (disch := first | assumption | omega | (simp only [nxB]; omega) | (simp only [oneB])) only [s165_j0, s165_7, s165_8, s165_25, s165_26, s165_b1, s165_27, s165, xlen, AV.cells, splice, aload, astore, Nat.reduceAdd, Nat.reduceLeDiff, reduceIte, allB, hb2, hb3, hlen, hone, List.append_nil, ht, hd]
 have m' := mb.then_set (.inr (Nat.le_refl _)) (.row false 11 [cs])
 refine W_some.2 ⟨m', hx0.mut m' ?_, he.keep (Keep.set _ (by omega) fun l h => by unfold Ge; omega) e _⟩
 unfold Rd at hrd ⊢
 rw [AHeap.get_set_other (by omega)]; exact hrd
theorem row_loop {N : Nat} (ih : ∀ k, k < N → RowOk k) {H0 : AHeap} {r : Nat} {T : List Tok} {tv lv : AV} {s0 : St} (hx0 : Rx H0 r T tv lv s0) (hlv : lv ≠ .nilSl) {lev : Nat} (hlev : lev < 5) {b3 : Nat} (h3 : H0.next < b3) :
  ∀ (n m : Nat), n < N → n < m → ∀ (H : AHeap) (s : St) (e : Ex) (cs zs : List AV), Mt r H0 H → Rd H r tv lv s → H.get H0.next = some (.row false 11 [zs]) → zs.length = 11 → H.get b3 = some (.row false 11 [cs]) →
   ExV H (fun l => H0.next < l ∧ l ≠ b3) e (.agg cs) → ∀ (e' : Ex) (s' : St), rowL T n lev e s = some (e', s') →
   W (s165_l1 (evw P orc) N m (.ptr r 0 0) (.int .i64 lev) (.ptr H0.next 0 0) (.ptr b3 0 0) (.int .i64 (kindS T lev s)) H) (PostE H0 r T tv lv e' s')
 | 0, m, hN, hm, H, s, e, cs, zs, mb, hrd, hb2, hz, hb3, he, e', s', h => by simp [rowL] at h
 | n + 1, 0, hN, hm, H, s, e, cs, zs, mb, hrd, hb2, hz, hb3, he, e', s', h => by omega
 | n + 1, m + 1, hN, hm, H, s, e, cs, zs, mb, hrd, hb2, hz, hb3, he, e', s', h => by
  have hl := hx0.rd.lt
  have hx := hx0.mut mb hrd
  have hl3 := AHeap.get_lt hb3
  obtain ⟨cs', hcs, hlen, hone⟩ := he.cells
  cases hcs
  have ht : List.take 11 cs = cs := List.take_of_length_le (by omega)
  have hd : List.drop 11 cs = [] := List.drop_of_length_le (by omega)
  have ho1 := hx0.tk.one
  have ho2 := hx0.lv.one
  simp only [rowL] at h
  simp only [s165_l1]
  by_cases hk : kindS T lev s = 0
  ·rw [if_pos hk] at h
   simp only [Option.some.injEq, Prod.mk.injEq] at h
   obtain ⟨rfl, rfl⟩ := h
   have hk' : (kindS T lev s != 0) = false := by simpa using hk
   simp -implicitDefEqProofs (disch := first | assumption | omega | (simp only [nxB]; omega) | (simp only [oneB])) only [s165_b1, s165_26, s165_25, xlen, AV.cells, splice, aload, astore, Nat.reduceAdd, Nat.reduceLeDiff, reduceIte, allB, hk']
   exact row_end hx0 mb hrd hb2 hz hb3 h3 he
  ·rw [if_neg hk, Option.bind_eq_some_iff] at h
   obtain ⟨⟨e1, s1⟩, h1, h2⟩ := h
   have hk' : (kindS T lev s != 0) = true := by simpa using hk
   simp -implicitDefEqProofs (disch := first | assumption | omega | (simp only [nxB]; omega) | (simp only [oneB])) only [s165_7, s165_8, s165_25, s165_26, s165_b1, s165_27, s165, xlen, AV.cells, splice, aload, astore, Nat.reduceAdd, Nat.reduceLeDiff, reduceIte, allB, hk']
   refine W_call (tok_spec hrd hx.tk) ?_
   rintro _ H1 ⟨rfl, p1⟩
   refine ⟨p1.1, ?_⟩
   have hrd1 := hrd.pur p1
   have hr2 := hrd1
   unfold Rd at hr2
   have hlr := hrd1.lt
   obtain ⟨m2, hd2⟩ := fail_set hrd1 (goS s)
   have hw : IntKind.i64.wrap ((lev : Int) + 1) = ((lev + 1 : Nat) : Int) := by rw [wrap_i64 (by omega) (by omega)]; simp
   simp -implicitDefEqProofs (disch := first | assumption | omega | (simp only [nxB]; omega) | (simp only [oneB])) only [s165_7, s165_8, s165_25, s165_26, s165_27, s165, xlen, AV.cells, splice, aload, astore, Nat.reduceAdd, Nat.reduceLeDiff, reduceIte, allB, Tok.v, hr2, ho1, ho2, hw]
   have mb2 := (mb.trans (p1.mut _)).trans m2
   have hx2 := hx0.mut mb2 hd2
   refine W_call (ih n (by omega) hx2 hlv (lev + 1) (by omega) e1 s1 h1) ?_
   rintro v H3 ⟨m3, hx3, he3⟩
   refine ⟨m3.1, ?_⟩
   have hb31 := m2.get (p1.get hb3) (by omega)
   have hb33 := m3.get hb31 (by omega)
   have hl33 := AHeap.get_lt hb33
   have hm3 := m3.1
   have hm1 := p1.1
   simp only [AHeap.next_set] at hm3 he3
   obtain ⟨ds, rfl, hlen', hone'⟩ := he3.cells
   have hs : ∀ l, sliceOf P l 96 2 [(0, .agg cs), (1, .agg ds)] = some (.sl l 0 2 11 (some 2), .row false 11 [cs, ds]) := fun l => sl35_2 l cs ds hlen hone hlen' hone'
   have hq := he.same
   have mb3 := mb2.trans m3
   have he3' : ExV H3 (fun l => H0.next < l ∧ l ≠ b3) e (.agg cs) := he.mut ((p1.mut _ |>.trans m2).trans m3) (by omega) fun _ h => h
   have hb3b : (H1.set r (.row false 6 [[tv, .int .i64 (IntKind.i64.wrap (s.at_ + 1)), .int .i64 s.opn, lv, .int .i64 s.fe, .int .i64 s.fa]])).get b3 = some (.row false 11 [cs]) := hb31
   simp -implicitDefEqProofs (disch := first | assumption | omega | (simp only [nxB]; omega) | (simp only [oneB])) only [s165_7, s165_25, s165_26, s165_27, s165, xlen, AV.cells, splice, aload, astore, Nat.reduceAdd, Nat.reduceLeDiff, reduceIte, allB, hb33, hb3b, ht, hd, hs, hq, Bool.and_true, Bool.and_self]
   rw [s165_8]
   have hx3r := hx3.rd
   have mb4 : Mt r H0 ((H3.push (.row false 11 [cs, ds])).set b3 (.row false 11 [[.int .i64 (kindS T lev s), .int .i64 0, .str [], .str [], .int .i64 0, .sl H3.next 0 2 11 (some 2), .int .i64 (tokAt T s.at_).pos, .int .i64 0, .int .i64 0, .int .i64 0, .int .i64 0]])) := (mb3.then_push _).then_set (.inr (Nat.le_of_lt h3)) _
   have hrd4 : Rd ((H3.push (.row false 11 [cs, ds])).set b3 (.row false 11 [[.int .i64 (kindS T lev s), .int .i64 0, .str [], .str [], .int .i64 0, .sl H3.next 0 2 11 (some 2), .int .i64 (tokAt T s.at_).pos, .int .i64 0, .int .i64 0, .int .i64 0, .int .i64 0]])) r tv lv s1 := by
    unfold Rd at hx3r ⊢
    rw [AHeap.get_set_other (by omega), AHeap.get_push_other (by omega)]; exact hx3r
   refine W_call (kind_spec (hx0.mut mb4 hrd4) hlv lev hlev) ?_
   rintro _ H5 ⟨rfl, p5⟩
   refine ⟨p5.1, ?_⟩
   simp only [s165_7]
   have hb25 : H5.get H0.next = some (.row false 11 [zs]) := by
    refine p5.get ?_
    rw [AHeap.get_set_other (by omega), AHeap.get_push_other (by omega)]
    exact m3.get (m2.get (p1.get hb2) (by omega)) (by omega)
   have hb35 : H5.get b3 = some (.row false 11 [Ea.cells { kind := kindS T lev s, pos := (tokAt T s.at_).pos } (.sl H3.next 0 2 11 (some 2))]) := p5.get (AHeap.get_set_same (by simp only [AHeap.next_push]; omega))
   refine row_loop ih hx0 hlv hlev h3 n m (by omega) (by omega) H5 s1 _ _ zs (mb4.trans (p5.mut _)) (hrd4.pur p5) hb25 hz hb35 ?_ e' s' h2
   rw [ExV_mk]
   have kp : ∀ ok : Nat → Prop, (∀ l, ok l → l ≠ b3) → ∀ l ro els, ok l → H3.get l = some (.row ro 11 els) → H5.get l = some (.row ro 11 els) := fun ok hok l ro els hl' hg => by
    refine p5.get ?_
    have := AHeap.get_lt hg
    rw [AHeap.get_set_other (Ne.symm (hok l hl')), AHeap.get_push_other (by omega)]; exact hg
   refine ⟨_, rfl, KsV.two_at (ro := false) (p5.get ?_) ⟨by omega, by omega⟩ (he3'.keep (fun l ro els hl' hg => ⟨hl', kp _ (fun _ h => h.2) l ro els hl' hg⟩) e _) (he3.keep (fun l ro els hl' hg => ?_) e1 _)⟩
   ·rw [AHeap.get_set_other (by omega)]; exact AHeap.get_push_same _ _
   ·unfold Ge at hl'
    have h0 := AHeap.get_lt hb31
    simp only [AHeap.next_set] at h0
    exact ⟨⟨by omega, by omega⟩, kp (fun l => H1.next ≤ l) (fun l h => by omega) l ro els hl' hg⟩
theorem row_step {n : Nat} (ihR : ∀ k, k ≤ n → RowOk k) (ihU : UnaryOk n) : RowOk (n + 1) := by
 intro H r T tv lv s hx hlv lev hle e s' h
 refine W_of (fun _ => run165 (n + 1)) ?_
 have hl := hx.rd.lt
 have p1 := Pur.push H (.row false 11 [[.int .i64 0, .int .i64 0, .str [], .str [], .int .i64 0, .nilSl, .int .i64 0, .int .i64 0, .int .i64 0, .int .i64 0, .int .i64 0]])
 have hr1 := hx.rd.pur p1
 unfold Rd at hr1
 have hr0 := hx.rd
 unfold Rd at hr0
 have hlvl : ∃ l i cap, lv = .sl l i 5 1 cap := by
  obtain ⟨l, i, cap, ro, els, rfl, _⟩ := hx.lv.resolve_left hlv
  exact ⟨l, i, cap, rfl⟩
 obtain ⟨ll, li, lc, hlveq⟩ := hlvl
 have hln : abuiltin P .empty .len [131] [lv] = some (.int .i64 5) := by rw [hlveq]; exact ln131
 simp only [rowF] at h
 by_cases h5 : lev = 5
 ·rw [if_pos h5] at h
  have h5' : ((lev : Int) == 5) = true := by simp; omega
  simp -implicitDefEqProofs (disch := first | assumption | omega | (simp only [nxB]; omega) | (simp only [oneB])) only [s165_7, s165_8, s165_25, s165_26, s165_27, s165, xlen, AV.cells, splice, aload, astore, Nat.reduceAdd, Nat.reduceLeDiff, reduceIte, allB, hr0, hln, h5']
  refine W_call (ihU (hx.pur p1) hlv e s' h) ?_
  rintro v H2 ⟨m2, hx2, he2⟩
  refine ⟨m2.1, ?_⟩
  have hb2 := m2.get (AHeap.get_push_same H (.row false 11 [[.int .i64 0, .int .i64 0, .str [], .str [], .int .i64 0, .nilSl, .int .i64 0, .int .i64 0, .int .i64 0, .int .i64 0, .int .i64 0]])) (by omega)
  have hlb := AHeap.get_lt hb2
  obtain ⟨cs, rfl, hlen, hone⟩ := he2.cells
  have ht : List.take 11 cs = cs := List.take_of_length_le (by omega)
  simp -implicitDefEqProofs (disch := first | assumption | omega | (simp only [nxB]; omega) | (simp only [oneB])) only [s165_7, s165_8, s165_25, s165_26, s165_27, s165, xlen, AV.cells, splice, aload, astore, Nat.reduceAdd, Nat.reduceLeDiff, reduceIte, allB, hb2, hlen, hone, List.append_nil, ht]
  exact W_some.2 (PostE.ret hx ((p1.mut _).trans m2) hx2.rd (Nat.le_refl _) he2 (Nat.lt_succ_self _) _)
 ·rw [if_neg h5, Option.bind_eq_some_iff] at h
  obtain ⟨⟨e1, s1⟩, h1, h2⟩ := h
  have h5' : ((lev : Int) == 5) = false := by simp; omega
  have hw : IntKind.i64.wrap ((lev : Int) + 1) = ((lev + 1 : Nat) : Int) := by rw [wrap_i64 (by omega) (by omega)]; simp
  simp -implicitDefEqProofs (disch := first | assumption | omega | (simp only [nxB]; omega) | (simp only [oneB])) only [s165_7, s165_8, s165_25, s165_26, s165_27, s165, xlen, AV.cells, splice, aload, astore, Nat.reduceAdd, Nat.reduceLeDiff, reduceIte, allB, hr0, hln, h5', hw]
  refine W_call (ihR n (Nat.le_refl _) (hx.pur p1) hlv (lev + 1) (by omega) e1 s1 h1) ?_
  rintro v H2 ⟨m2, hx2, he2⟩
  refine ⟨m2.1, ?_⟩
  have hb2 := m2.get (AHeap.get_push_same H (.row false 11 [[.int .i64 0, .int .i64 0, .str [], .str [], .int .i64 0, .nilSl, .int .i64 0, .int .i64 0, .int .i64 0, .int .i64 0, .int .i64 0]])) (by omega)
  have hm2 := m2.1
  simp only [AHeap.next_push] at hm2
  obtain ⟨cs, rfl, hlen, hone⟩ := he2.cells
  simp -implicitDefEqProofs (disch := first | assumption | omega | (simp only [nxB]; omega) | (simp only [oneB])) only [s165_7, s165_8, s165_25, s165_26, s165_27, s165, xlen, AV.cells, splice, aload, astore, Nat.reduceAdd, Nat.reduceLeDiff, reduceIte, allB, hlen, hone, List.append_nil]
  have p3 := Pur.push H2 (.row false 11 [cs])
  refine W_call (kind_spec (hx2.pur p3) hlv lev (by omega)) ?_
  rintro _ H4 ⟨rfl, p4⟩
  refine ⟨p4.1, ?_⟩
  simp only [s165_27]
  have p5 := p3.trans p4
  refine row_loop (N := n + 1) (fun k hk => ihR k (by omega)) hx hlv (by omega) (b3 := H2.next) (by omega) n (n + 1) (by omega) (by omega) H4 s1 e1 cs _ (((p1.mut _).trans m2).trans (p5.mut _)) (hx2.rd.pur p5) (p5.get hb2) rfl (p4.get (AHeap.get_push_same _ _)) ?_ e s' h2
  exact he2.keep (fun l ro els hl' hg => by
   have := AHeap.get_lt hg
   unfold Ge at hl'
   simp only [AHeap.next_push] at hl'
   exact ⟨⟨by omega, by omega⟩, p5.get hg⟩) e1 _
theorem all_ok : ∀ n, n ≤ 900000000 → ∀ k, k ≤ n → AllOk k
 | 0, _, k, hk => by
  have : k = 0 := by omega
  subst this
  exact ⟨fun _ _ _ _ _ _ h => by simp [rowF] at h, fun _ _ _ _ h => by simp [unaryF] at h, fun _ _ _ _ h => by simp [chainF] at h, fun _ _ _ _ h => by simp [firstF] at h, fun _ _ _ _ _ _ h => by simp [singleF] at h,
   fun _ _ _ _ h => by simp [nameF] at h, fun _ _ _ _ h => by simp [freshF] at h, fun _ _ _ _ h => by simp [listF] at h⟩
 | n + 1, hn, k, hk => by
  have ih := all_ok n (by omega)
  rcases Nat.lt_or_ge k (n + 1) with h | h
  ·exact ih k (by omega)
  ·have : k = n + 1 := by omega
   subst this
   exact ⟨row_step (fun k hk => (ih k hk).row) (ih n (Nat.le_refl _)).unary, unary_step (fun k hk => (ih k hk).unary) (ih n (Nat.le_refl _)).chain, chain_step (ih n (Nat.le_refl _)).first fun k hk => (ih k hk).single,
    first_step (ih n (Nat.le_refl _)).name (ih n (Nat.le_refl _)).fresh (ih n (Nat.le_refl _)).single, single_step (ih n (Nat.le_refl _)).row, name_step (ih n (Nat.le_refl _)).list, fresh_step (ih n (Nat.le_refl _)).single, list_step (by omega) fun k hk => (ih k hk).row⟩
end Go.Proofs.YtghmbpmaafnodaaGreatDoor

namespace Go.Proofs.YtghmbpmaafnodaaGreatDoor
open Go.Ev
theorem mx3 {H : AHeap} (a b : Int) : abuiltin P H .max [3, 3] [.int .i64 a, .int .i64 b] = some (.int .i64 (if a < b then b else a)) := by
 simp only [abuiltin, amax2]
theorem sl69_5 (l : Nat) (l1 l2 l3 l4 l5 : Nat) : sliceOf P l 131 5 [(0, .sl l1 0 1 2 (some 1)), (1, .sl l2 0 1 2 (some 1)), (2, .sl l3 0 4 2 (some 4)), (3, .sl l4 0 2 2 (some 2)), (4, .sl l5 0 3 2 (some 3))] =
  some (.sl l 0 5 1 (some 5), .row false 1 [[.sl l1 0 1 2 (some 1)], [.sl l2 0 1 2 (some 1)], [.sl l3 0 4 2 (some 4)], [.sl l4 0 2 2 (some 2)], [.sl l5 0 3 2 (some 3)]]) := by kernel_rfl
theorem levels_spec (H : AHeap) : W (evw P orc 162 [] H) fun v H' => v ≠ .nilSl ∧ LvOk H' v ∧ Pur H H' := by
 refine W_of (fun _ => run162 0) ?_
 simp -implicitDefEqProofs (disch := first | assumption | omega | (simp only [nxB]; omega) | (simp only [oneB])) only [s162, xlen, AV.cells, splice, aload, astore, Nat.reduceAdd, Nat.reduceLeDiff, reduceIte, allB, sl69_5]
 refine W_some.2 ⟨by simp, ⟨_, _, _, _, _, rfl, AHeap.get_push_eq (by simp only [AHeap.next_push]; omega) (by simp only [AHeap.next_push]; omega), ?_⟩, ?_⟩
 ·intro k row hk
  match k, hk with
  | 0, hk => simp only [lvRows, List.getElem?_cons_zero, Option.some.injEq] at hk; subst hk; exact ⟨_, _, _, _, _, rfl, by (simp -implicitDefEqProofs (disch := first | assumption | omega | (simp only [nxB]; omega) | (simp only [oneB])) only [heapB]; rfl), fun j e hj => by simpa using hj⟩
  | 1, hk => simp only [lvRows, List.getElem?_cons_zero, List.getElem?_cons_succ, Option.some.injEq] at hk; subst hk; exact ⟨_, _, _, _, _, rfl, by (simp -implicitDefEqProofs (disch := first | assumption | omega | (simp only [nxB]; omega) | (simp only [oneB])) only [heapB]; rfl), fun j e hj => by simpa using hj⟩
  | 2, hk => simp only [lvRows, List.getElem?_cons_zero, List.getElem?_cons_succ, Option.some.injEq] at hk; subst hk; exact ⟨_, _, _, _, _, rfl, by (simp -implicitDefEqProofs (disch := first | assumption | omega | (simp only [nxB]; omega) | (simp only [oneB])) only [heapB]; rfl), fun j e hj => by simpa using hj⟩
  | 3, hk => simp only [lvRows, List.getElem?_cons_zero, List.getElem?_cons_succ, Option.some.injEq] at hk; subst hk; exact ⟨_, _, _, _, _, rfl, by (simp -implicitDefEqProofs (disch := first | assumption | omega | (simp only [nxB]; omega) | (simp only [oneB])) only [heapB]; rfl), fun j e hj => by simpa using hj⟩
  | 4, hk => simp only [lvRows, List.getElem?_cons_zero, List.getElem?_cons_succ, Option.some.injEq] at hk; subst hk; exact ⟨_, _, _, _, _, rfl, by (simp -implicitDefEqProofs (disch := first | assumption | omega | (simp only [nxB]; omega) | (simp only [oneB])) only [heapB]; rfl), fun j e hj => by simpa using hj⟩
  | k + 5, hk => simp [lvRows] at hk
 ·exact (((((Pur.push _ _).then_push _).then_push _).then_push _).then_push _).then_push _
def parseS (e : Ex) (s : St) : Ex × Int × Int × Int := if s.fe = 0 then (e, s.at_, 0, 0) else (.zero, 0, s.fe, s.fa)
def startS (at_ opn : Int) : St := ⟨at_, if opn < 0 then 0 else opn, 0, 0⟩
theorem bd133_lv (tv lv : AV) (h1 : tv.one = true) (h2 : lv.one = true) (a b : Int) : abuild P 133 [(0, tv), (1, .int .i64 a), (2, .int .i64 b), (3, lv)] = some (.agg [tv, .int .i64 a, .int .i64 b, lv, .int .i64 0, .int .i64 0]) := by
 cases tv <;> first | (cases h1; done) | (cases lv <;> first | (cases h2; done) | kernel_rfl)
theorem bd133_no (tv : AV) (h1 : tv.one = true) (a : Int) : abuild P 133 [(0, tv), (1, .int .i64 a)] = some (.agg [tv, .int .i64 a, .int .i64 0, .nilSl, .int .i64 0, .int .i64 0]) := by
 cases tv <;> first | (cases h1; done) | kernel_rfl
theorem parse_spec {n : Nat} (hn : n ≤ 900000000) {H : AHeap} {T : List Tok} {tv : AV} (ht : TokSl H tv T) (at_ opn : Int) {e : Ex} {s' : St} (h : rowF T n 0 (startS at_ opn) = some (e, s')) :
  W (evw P orc 153 [tv, .int .i64 at_, .int .i64 opn] H) fun v H' => ∃ ev, v = .tuple [ev, .int .i64 (parseS e s').2.1, .agg [.int .i64 (parseS e s').2.2.1, .int .i64 (parseS e s').2.2.2]] ∧ ExV H' (Ge H.next) (parseS e s').1 ev ∧ Pur H H' := by
 refine W_of (fun _ => run153 0) ?_
 have ho1 := ht.one
 have p1 := (Pur.push H (.row false 11 [[.int .i64 0, .int .i64 0, .str [], .str [], .int .i64 0, .nilSl, .int .i64 0, .int .i64 0, .int .i64 0, .int .i64 0, .int .i64 0]])).then_push (.row false 2 [[.int .i64 0, .int .i64 0]])
 simp -implicitDefEqProofs (disch := first | assumption | omega | (simp only [nxB]; omega) | (simp only [oneB])) only [s153, xlen, AV.cells, splice, aload, astore, Nat.reduceAdd, Nat.reduceLeDiff, reduceIte, allB, mx3]
 refine W_call (levels_spec _) ?_
 rintro lv H3 ⟨hlv, hL, p3⟩
 refine ⟨p3.1, ?_⟩
 have ho2 := hL.one
 have hbd := bd133_lv tv lv ho1 ho2 at_ (if opn < 0 then 0 else opn)
 have hbx : ∀ l, boxOf l (.agg [tv, .int .i64 at_, .int .i64 (if opn < 0 then 0 else opn), lv, .int .i64 0, .int .i64 0]) = some (.ptr l 0 0, .row false 6 [[tv, .int .i64 at_, .int .i64 (if opn < 0 then 0 else opn), lv, .int .i64 0, .int .i64 0]]) := fun l => boxOf_agg l _ (by simp only [List.all_cons, List.all_nil, one_int, ho1, ho2, Bool.and_self])
 simp -implicitDefEqProofs (disch := first | assumption | omega | (simp only [nxB]; omega) | (simp only [oneB])) only [s153, xlen, AV.cells, splice, aload, astore, Nat.reduceAdd, Nat.reduceLeDiff, reduceIte, allB, hbd, hbx]
 have p4 := Pur.push H3 (.row false 6 [[tv, .int .i64 at_, .int .i64 (if opn < 0 then 0 else opn), lv, .int .i64 0, .int .i64 0]])
 have p5 := (p1.trans p3).trans p4
 have hx4 : Rx (H3.push (.row false 6 [[tv, .int .i64 at_, .int .i64 (if opn < 0 then 0 else opn), lv, .int .i64 0, .int .i64 0]])) H3.next T tv lv (startS at_ opn) :=
  ⟨AHeap.get_push_same _ _, ht.pur p5, .inr (hL.keep fun l ro n els _ hg => p4.get hg)⟩
 refine W_call (whole_spec ((all_ok n hn n (Nat.le_refl _)).row) hx4 hlv h) ?_
 rintro v H5 ⟨m5, hx5, he5⟩
 refine ⟨m5.1, ?_⟩
 have hm3 := p3.1
 have hm5 := m5.1
 simp only [AHeap.next_push] at hm3 hm5 he5
 obtain ⟨cs, rfl, hlen, hone⟩ := he5.cells
 have htk : List.take 11 cs = cs := List.take_of_length_le (by omega)
 simp -implicitDefEqProofs (disch := first | assumption | omega | (simp only [nxB]; omega) | (simp only [oneB])) only [s153, xlen, AV.cells, splice, aload, astore, Nat.reduceAdd, Nat.reduceLeDiff, reduceIte, allB, hlen, hone, List.append_nil]
 have p6 := Pur.push H5 (.row false 11 [cs])
 refine W_call (failed_spec (hx5.rd.pur p6)) ?_
 rintro _ H8 ⟨rfl, rfl⟩
 refine ⟨Nat.le_refl _, ?_⟩
 have hr := hx5.rd.pur p6
 unfold Rd at hr
 have hr5 := hx5.rd
 unfold Rd at hr5
 have hb6 : H3.get H.next = some (.row false 11 [[.int .i64 0, .int .i64 0, .str [], .str [], .int .i64 0, .nilSl, .int .i64 0, .int .i64 0, .int .i64 0, .int .i64 0, .int .i64 0]]) := by rw [p3.2 _ (by simp only [AHeap.next_push]; omega)]; simp -implicitDefEqProofs (disch := first | assumption | omega | (simp only [nxB]; omega) | (simp only [oneB])) only [heapB]
 have hb8 : H3.get (H.next + 1) = some (.row false 2 [[.int .i64 0, .int .i64 0]]) := by rw [p3.2 _ (by simp only [AHeap.next_push]; omega)]; simp -implicitDefEqProofs (disch := first | assumption | omega | (simp only [nxB]; omega) | (simp only [oneB])) only [heapB]
 have hb65 := m5.get (p4.get hb6) (by omega)
 have hb85 := m5.get (p4.get hb8) (by omega)
 have l6 := AHeap.get_lt hb65
 have l8 := AHeap.get_lt hb85
 have pf : Pur H H5 := ⟨by have := p5.1; simp only [AHeap.next_push] at this; omega, fun l hl => by rw [m5.2 l (by simp only [AHeap.next_push]; omega) (by omega)]; exact p5.2 l hl⟩
 by_cases hf : s'.fe = 0
 ·have hf' : (s'.fe != 0) = false := by simpa using hf
  rw [show parseS e s' = (e, s'.at_, 0, 0) by simp [parseS, hf]]
  simp -implicitDefEqProofs (disch := first | assumption | omega | (simp only [nxB]; omega) | (simp only [oneB])) only [s153, xlen, AV.cells, splice, aload, astore, Nat.reduceAdd, Nat.reduceLeDiff, reduceIte, allB, hf', hr, hr5, hb65, hb85, hlen, hone, List.append_nil, htk, Bool.and_true]
  refine W_some.2 ⟨_, rfl, ?_, ?_⟩
  ·exact he5.new (Mut.then_set (S := fun l => l < _) (Mut.then_set (S := fun l => l < _) ((Mut.refl _ _).then_push _) (.inl (by omega)) _) (.inl (by omega)) _) fun l h => by unfold Ge; omega
  ·exact ((pf.then_push _).then_set (Nat.le_refl _) _).then_set (by omega) _
 ·have hf' : (s'.fe != 0) = true := by simpa using hf
  rw [show parseS e s' = (.zero, 0, s'.fe, s'.fa) by simp [parseS, hf]]
  have hrd25 : rdIs (some (.agg [.int .i64 s'.fe, .int .i64 s'.fa])) (.agg [.int .i64 s'.fe, .int .i64 s'.fa]) = true := by simp [rdIs, AV.beq, AVs.beq]
  simp -implicitDefEqProofs (disch := first | assumption | omega | (simp only [nxB]; omega) | (simp only [oneB])) only [s153, xlen, AV.cells, splice, aload, astore, Nat.reduceAdd, Nat.reduceLeDiff, reduceIte, allB, hf', hr, hr5, hb65, hb85, hrd25, Bool.and_true]
  refine W_some.2 ⟨_, rfl, ExV.leaf _ _ { kind := 0 }, ?_⟩
  exact ((pf.then_push _).then_set (Nat.le_refl _) _).then_set (by omega) _
def ofP (p : (Bs × Int) × St) : (Bs × Int) × Int × Int × Int := if p.2.fe = 0 then (p.1, p.2.at_, 0, 0) else (([], 0), 0, p.2.fe, p.2.fa)
theorem Of_spec {H : AHeap} {T : List Tok} {tv : AV} (ht : TokSl H tv T) (at_ : Int) :
  W (evw P orc 73 [tv, .int .i64 at_] H) fun v H' => v = .tuple [.agg [.str (ofP (ofS T ⟨at_, 0, 0, 0⟩)).1.1, .int .i64 (ofP (ofS T ⟨at_, 0, 0, 0⟩)).1.2], .int .i64 (ofP (ofS T ⟨at_, 0, 0, 0⟩)).2.1, .agg [.int .i64 (ofP (ofS T ⟨at_, 0, 0, 0⟩)).2.2.1, .int .i64 (ofP (ofS T ⟨at_, 0, 0, 0⟩)).2.2.2]] ∧ Pur H H' := by
 refine W_of (fun _ => run73 0) ?_
 have ho1 := ht.one
 generalize hq : ofS T ⟨at_, 0, 0, 0⟩ = q
 have p1 := (Pur.push H (.row false 2 [[.str [], .int .i64 0]])).then_push (.row false 2 [[.int .i64 0, .int .i64 0]])
 have hbd := bd133_no tv ho1 at_
 have hbx : ∀ l, boxOf l (.agg [tv, .int .i64 at_, .int .i64 0, .nilSl, .int .i64 0, .int .i64 0]) = some (.ptr l 0 0, .row false 6 [[tv, .int .i64 at_, .int .i64 0, .nilSl, .int .i64 0, .int .i64 0]]) := fun l => boxOf_agg l _ (by simp only [List.all_cons, List.all_nil, one_int, one_nilSl, ho1, Bool.and_self])
 simp -implicitDefEqProofs (disch := first | assumption | omega | (simp only [nxB]; omega) | (simp only [oneB])) only [s73, xlen, AV.cells, splice, aload, astore, Nat.reduceAdd, Nat.reduceLeDiff, reduceIte, allB, hbd, hbx]
 have p4 := p1.then_push (.row false 6 [[tv, .int .i64 at_, .int .i64 0, .nilSl, .int .i64 0, .int .i64 0]])
 have hx4 : Rx (((H.push (.row false 2 [[.str [], .int .i64 0]])).push (.row false 2 [[.int .i64 0, .int .i64 0]])).push (.row false 6 [[tv, .int .i64 at_, .int .i64 0, .nilSl, .int .i64 0, .int .i64 0]])) (H.next + 2) T tv .nilSl ⟨at_, 0, 0, 0⟩ :=
  ⟨AHeap.get_push_eq (by simp only [AHeap.next_push]; omega) (by simp only [AHeap.next_push]; omega), ht.pur p4, .inl rfl⟩
 refine W_call (of_spec hx4) ?_
 rintro _ H5 ⟨rfl, m5, hx5⟩
 refine ⟨m5.1, ?_⟩
 rw [hq] at hx5 ⊢
 have hm5 := m5.1
 simp only [AHeap.next_push] at hm5
 simp -implicitDefEqProofs (disch := first | assumption | omega | (simp only [nxB]; omega) | (simp only [oneB])) only [s73, xlen, AV.cells, splice, aload, astore, Nat.reduceAdd, Nat.reduceLeDiff, reduceIte, allB]
 have p6 := Pur.push H5 (.row false 2 [[.str q.1.1, .int .i64 q.1.2]])
 refine W_call (failed_spec (hx5.rd.pur p6)) ?_
 rintro _ H8 ⟨rfl, rfl⟩
 refine ⟨Nat.le_refl _, ?_⟩
 have hr := hx5.rd.pur p6
 unfold Rd at hr
 have hr5 := hx5.rd
 unfold Rd at hr5
 have hb65 : H5.get H.next = some (.row false 2 [[.str [], .int .i64 0]]) := m5.get (by simp -implicitDefEqProofs (disch := first | assumption | omega | (simp only [nxB]; omega) | (simp only [oneB])) only [heapB]) (by omega)
 have hb85 : H5.get (H.next + 1) = some (.row false 2 [[.int .i64 0, .int .i64 0]]) := m5.get (by simp -implicitDefEqProofs (disch := first | assumption | omega | (simp only [nxB]; omega) | (simp only [oneB])) only [heapB]) (by omega)
 have l6 := AHeap.get_lt hb65
 have l8 := AHeap.get_lt hb85
 have pf : Pur H H5 := ⟨by omega, fun l hl => by rw [m5.2 l (by simp only [AHeap.next_push]; omega) (by omega)]; exact p4.2 l hl⟩
 by_cases hf : q.2.fe = 0
 ·have hf' : (q.2.fe != 0) = false := by simpa using hf
  rw [show ofP q = (q.1, q.2.at_, 0, 0) by simp [ofP, hf]]
  simp -implicitDefEqProofs (disch := first | assumption | omega | (simp only [nxB]; omega) | (simp only [oneB])) only [s73, xlen, AV.cells, splice, aload, astore, Nat.reduceAdd, Nat.reduceLeDiff, reduceIte, allB, hf', hr, hr5, hb65, hb85, List.append_nil, Bool.and_true]
  exact W_some.2 ⟨rfl, ((pf.then_push _).then_set (Nat.le_refl _) _).then_set (by omega) _⟩
 ·have hf' : (q.2.fe != 0) = true := by simpa using hf
  rw [show ofP q = (([], 0), 0, q.2.fe, q.2.fa) by simp [ofP, hf]]
  have hrd25 : rdIs (some (.agg [.int .i64 q.2.fe, .int .i64 q.2.fa])) (.agg [.int .i64 q.2.fe, .int .i64 q.2.fa]) = true := by simp [rdIs, AV.beq, AVs.beq]
  simp -implicitDefEqProofs (disch := first | assumption | omega | (simp only [nxB]; omega) | (simp only [oneB])) only [s73, xlen, AV.cells, splice, aload, astore, Nat.reduceAdd, Nat.reduceLeDiff, reduceIte, allB, hf', hr, hr5, hb65, hb85, hrd25, Bool.and_true]
  exact W_some.2 ⟨rfl, ((pf.then_push _).then_set (Nat.le_refl _) _).then_set (by omega) _⟩
end Go.Proofs.YtghmbpmaafnodaaGreatDoor

namespace Go.Proofs.YtghmbpmaafnodaaGreatDoor
open Go.Ev
structure Sa where
 kind : Int
 name : Bs := []
 ofn : Bs := []
 ofd : Int := 0
 pos : Int := 0
 ref : Int := 0
inductive Stm where
 | mk (a : Sa) (es : List Ex) (body els : List Stm)
def Stm.zero : Stm := .mk { kind := 0 } [] [] []
def Stm.at (p : Int) : Stm → Stm
 | .mk a es b c => .mk { a with pos := p } es b c
def Ex.kind : Ex → Int
 | .mk a _ => a.kind
def Ex.name : Ex → Bs
 | .mk a _ => a.name
def exK (e : Ex) : Bool := e.kind != 4 && (e.kind != 5 && e.kind != 6)
def exprP (T : List Tok) (s : St) : Ex × St := if s.fe ≠ 0 then (.zero, s) else match rowF T 800000000 0 (startS s.at_ s.opn) with
 | some (e, s') => if s'.fe = 0 then (e, { s with at_ := s'.at_ }) else (.zero, { s with fe := s'.fe, fa := s'.fa })
 | none => (.zero, s)
def ofT (T : List Tok) (s : St) : (Bs × Int) × St := if (ofS T ⟨s.at_, 0, 0, 0⟩).2.fe = 0 then ((ofS T ⟨s.at_, 0, 0, 0⟩).1, { s with at_ := (ofS T ⟨s.at_, 0, 0, 0⟩).2.at_ }) else (([], 0), { s with fe := (ofS T ⟨s.at_, 0, 0, 0⟩).2.fe, fa := (ofS T ⟨s.at_, 0, 0, 0⟩).2.fa })
def colonS (T : List Tok) (s : St) : St := (wantsS T [58] (goS (bif (tokAt T s.at_).kind != 1 then failS T 2 s else s))).2
def typedS (T : List Tok) (s : St) : (Bs × Bs × Int) × St :=
 if (colonS T s).fe ≠ 0 then (([], [], 0), colonS T s) else (((tokAt T s.at_).text, (ofT T (colonS T s)).1), (ofT T (colonS T s)).2)
def declS (T : List Tok) (s : St) : Stm × St := (.mk { kind := 1, name := (typedS T s).1.1, ofn := (typedS T s).1.2.1, ofd := (typedS T s).1.2.2 } [] [] [], (wantsS T [59] (typedS T s).2).2)
def letsS (T : List Tok) (s : St) : Stm × St :=
 (.mk { kind := 2, name := (typedS T s).1.1, ofn := (typedS T s).1.2.1, ofd := (typedS T s).1.2.2 } [(exprP T (wantsS T [61] (typedS T s).2).2).1] [] [], (wantsS T [59] (exprP T (wantsS T [61] (typedS T s).2).2).2).2)
def retsS (T : List Tok) (s : St) : Stm × St := bif isB T s 4 [59] then (.mk { kind := 7 } [] [] [], (wantsS T [59] s).2) else (.mk { kind := 7 } [(exprP T s).1] [] [], (wantsS T [59] (exprP T s).2).2)
def printS (T : List Tok) (s : St) : Stm × St := (.mk { kind := 8 } [(exprP T s).1] [] [], (wantsS T [59] (exprP T s).2).2)
def eqS (T : List Tok) (e : Ex) (s : St) : St := (wantsS T [61] (bif exK e then failS T 2 s else s)).2
def setsS (T : List Tok) (e : Ex) (s : St) : Stm × St :=
 (bif e.kind == 4 then .mk { kind := 3, name := e.name } [(exprP T (eqS T e s)).1] [] [] else .mk { kind := 4 } [e, (exprP T (eqS T e s)).1] [] [], (wantsS T [59] (exprP T (eqS T e s)).2).2)
def plainS (T : List Tok) (s : St) : Stm × St := bif isB T (exprP T s).2 4 [61] then setsS T (exprP T s).1 (exprP T s).2
 else (.mk { kind := 9 } [(exprP T s).1] [] [], (wantsS T [59] (bif isB T (exprP T s).2 4 [59] && (exprP T s).1.kind != 7 then failS T 2 (exprP T s).2 else (exprP T s).2)).2)
mutual
def blockF (T : List Tok) : Nat → St → R (List Stm)
 | 0, _ => none
 | n + 1, s => bif isB T s 4 [123] then (if 50 ≤ s.opn then some ([], failS T 4 s) else
   (untilF T n [] { s with at_ := w64 (s.at_ + 1), opn := w64 (s.opn + 1) }).bind fun p => some (p.1, (wantsS T [125] (outS p.2)).2))
   else some ([], failS T 2 s)
def untilF (T : List Tok) : Nat → List Stm → St → R (List Stm)
 | 0, _, _ => none
 | n + 1, l, s => bif s.fe == 0 && !isB T s 4 [125] then (stmtF T n s).bind fun p => untilF T n (l ++ [p.1]) p.2 else some (l, s)
def stmtF (T : List Tok) : Nat → St → R Stm
 | 0, _ => none
 | n + 1, s => (bif (tokAt T s.at_).kind == 3 then
   (bif (tokAt T s.at_).text == [118, 97, 114] then some (declS T (goS s))
   else bif (tokAt T s.at_).text == [108, 101, 116] then some (letsS T (goS s))
   else bif (tokAt T s.at_).text == [105, 102] then chooseF T n (goS s)
   else bif (tokAt T s.at_).text == [119, 104, 105, 108, 101] then repeatF T n (goS s)
   else bif (tokAt T s.at_).text == [114, 101, 116, 117, 114, 110] then some (retsS T (goS s))
   else bif (tokAt T s.at_).text == [112, 114, 105, 110, 116] then some (printS T (goS s))
   else some (plainS T s)) else some (plainS T s)).bind fun p => some (p.1.at (tokAt T s.at_).pos, p.2)
def chooseF (T : List Tok) : Nat → St → R Stm
 | 0, _ => none
 | n + 1, s => (blockF T n (exprP T s).2).bind fun b => bif isB T b.2 3 [101, 108, 115, 101] then
   (blockF T n (goS b.2)).bind fun c => some (.mk { kind := 5 } [(exprP T s).1] b.1 c.1, c.2) else some (.mk { kind := 5 } [(exprP T s).1] b.1 [], b.2)
def repeatF (T : List Tok) : Nat → St → R Stm
 | 0, _ => none
 | n + 1, s => (blockF T n (exprP T s).2).bind fun b => some (.mk { kind := 6 } [(exprP T s).1] b.1 [], b.2)
end
def exprQ (T : List Tok) (s : St) : Ex × St := match exprR T 800000000 0 s with
 | some p => p
 | none => (.zero, s)
def typedR (T : List Tok) (s : St) : (Bs × Bs × Int) × St := (((nameR T s).1, (ofR T (takeR T [58] (nameR T s).2)).1), (ofR T (takeR T [58] (nameR T s).2)).2)
def declR (T : List Tok) (s : St) : Stm × St := (.mk { kind := 1, name := (typedR T s).1.1, ofn := (typedR T s).1.2.1, ofd := (typedR T s).1.2.2 } [] [] [], takeR T [59] (typedR T s).2)
def letsR (T : List Tok) (s : St) : Stm × St :=
 (.mk { kind := 2, name := (typedR T s).1.1, ofn := (typedR T s).1.2.1, ofd := (typedR T s).1.2.2 } [(exprQ T (takeR T [61] (typedR T s).2)).1] [] [], takeR T [59] (exprQ T (takeR T [61] (typedR T s).2)).2)
def retsR (T : List Tok) (s : St) : Stm × St := bif isR T s [59] then (.mk { kind := 7 } [] [] [], takeR T [59] s) else (.mk { kind := 7 } [(exprQ T s).1] [] [], takeR T [59] (exprQ T s).2)
def printR (T : List Tok) (s : St) : Stm × St := (.mk { kind := 8 } [(exprQ T s).1] [] [], takeR T [59] (exprQ T s).2)
def eqR (T : List Tok) (e : Ex) (s : St) : St := takeR T [61] (bif exK e then failS T 2 s else s)
def setsR (T : List Tok) (e : Ex) (s : St) : Stm × St :=
 (bif e.kind == 4 then .mk { kind := 3, name := e.name } [(exprQ T (eqR T e s)).1] [] [] else .mk { kind := 4 } [e, (exprQ T (eqR T e s)).1] [] [], takeR T [59] (exprQ T (eqR T e s)).2)
def plainR (T : List Tok) (s : St) : Stm × St := bif isR T (exprQ T s).2 [61] then setsR T (exprQ T s).1 (exprQ T s).2
 else (.mk { kind := 9 } [(exprQ T s).1] [] [], takeR T [59] (bif isR T (exprQ T s).2 [59] && (exprQ T s).1.kind != 7 then failS T 2 (exprQ T s).2 else (exprQ T s).2))
mutual
def blockR (T : List Tok) : Nat → St → R (List Stm)
 | 0, _ => none
 | n + 1, s => (loopR T n [] (opensR T [123] s)).bind fun p => some (p.1, closesR T [125] p.2)
def loopR (T : List Tok) : Nat → List Stm → St → R (List Stm)
 | 0, _, _ => none
 | n + 1, l, s => bif s.fe == 0 && !isR T s [125] then (stmtR T n s).bind fun p => loopR T n (l ++ [p.1]) p.2 else some (l, s)
def stmtR (T : List Tok) : Nat → St → R Stm
 | 0, _ => none
 | n + 1, s => (bif isR T s [118, 97, 114] || isR T s [108, 101, 116] then some (bif (tokAt T s.at_).text == [108, 101, 116] then letsR T (goS s) else declR T (goS s))
   else bif isR T s [105, 102] then (blockR T n (exprQ T (goS s)).2).bind fun b => bif isR T b.2 [101, 108, 115, 101] then
    (blockR T n (goS b.2)).bind fun c => some (.mk { kind := 5 } [(exprQ T (goS s)).1] b.1 c.1, c.2) else some (.mk { kind := 5 } [(exprQ T (goS s)).1] b.1 [], b.2)
   else bif isR T s [119, 104, 105, 108, 101] then (blockR T n (exprQ T (goS s)).2).bind fun b => some (.mk { kind := 6 } [(exprQ T (goS s)).1] b.1 [], b.2)
   else bif isR T s [114, 101, 116, 117, 114, 110] then some (retsR T (goS s))
   else bif isR T s [112, 114, 105, 110, 116] then some (printR T (goS s))
   else some (plainR T s)).bind fun p => some (p.1.at (tokAt T s.at_).pos, p.2)
end
end Go.Proofs.YtghmbpmaafnodaaGreatDoor


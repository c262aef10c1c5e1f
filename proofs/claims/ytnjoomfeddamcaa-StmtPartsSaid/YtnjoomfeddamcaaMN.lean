/-
  Texts of one proof, laid together: U6 U7 ShT V1 V2 V3.
-/
import Derived.Test.YtnjoomfeddamcaaMM
import Derived.Test.YtnjoomfeddamcaaMK
import Derived.Test.YtnjoomfeddamcaaMD
import Derived.Test.YtnjoomfeddamcaaMJ
set_option linter.unusedVariables false
set_option linter.unusedSimpArgs false
namespace Go.Proofs.Ytnjoomfeddamcaa
open Go.Ev
theorem un104 : P.underlying 104 = some (.map 9 103) := by kernel_rfl
theorem az103 : azero P 103 = some .nilFunc := by kernel_rfl
theorem mu104 {H : AHeap} {l : Nat} {es : List (AV × AV)} (k : Bs) (v : AV) (hg : H.get l = some (.map es)) (hf : afind .string (.str k) es 0 = some none) : amapUpdate P H 104 (.map l) (.str k) v = some (H.set l (.map (es ++ [(.str k, v)]))) := by
 simp only [amapUpdate, un104, un9, hg, plainKey, hf, if_true]
def stepsM : List (AV × AV) := [(.str [118, 97, 114], fn 92), (.str [108, 101, 116], fn 93), (.str [105, 102], fn 94), (.str [119, 104, 105, 108, 101], fn 95), (.str [114, 101, 116, 117, 114, 110], fn 96), (.str [112, 114, 105, 110, 116], fn 97)]
theorem steps_spec (H : AHeap) : W (evw P 78 [] H) fun v H' => v = .map H.next ∧ H' = H.push (.map stepsM) := by
 refine W_of (fun _ => run78 0) ?_
 simp only [s78, xmake_some]
 rw [mu104 _ _ (AHeap.get_push_same H _) rfl, xstore_some (by simp), AHeap.push_set]
 rw [mu104 _ _ (AHeap.get_push_same H _) rfl, xstore_some (by simp), AHeap.push_set]
 rw [mu104 _ _ (AHeap.get_push_same H _) rfl, xstore_some (by simp), AHeap.push_set]
 rw [mu104 _ _ (AHeap.get_push_same H _) rfl, xstore_some (by simp), AHeap.push_set]
 rw [mu104 _ _ (AHeap.get_push_same H _) rfl, xstore_some (by simp), AHeap.push_set]
 rw [mu104 _ _ (AHeap.get_push_same H _) rfl, xstore_some (by simp), AHeap.push_set]
 exact W_some.2 ⟨rfl, rfl⟩
theorem lk104 {H : AHeap} {l : Nat} (t : Bs) (hg : H.get l = some (.map stepsM)) : alookup P H 104 (.map l) (.str t) false = some (lookM t stepsM) := by
 rcases afind_look t stepsM 0 (by intro e he; simp [stepsM] at he; rcases he with rfl | rfl | rfl | rfl | rfl | rfl <;> exact ⟨_, rfl⟩) with ⟨j, v, h1, h2⟩ | ⟨h1, h2⟩
 ·simp only [alookup, un104, un9, az103, plainKey, if_true, hg, h1, h2, Bool.false_eq_true, if_false]
 ·simp only [alookup, un104, un9, az103, plainKey, if_true, hg, h1, h2, Bool.false_eq_true, if_false]
theorem nf103 (n : Nat) : fbin P .neq 103 true (fn n) .nilFunc = some (.bool true) := by kernel_rfl
theorem nf103n : fbin P .neq 103 true .nilFunc .nilFunc = some (.bool false) := by kernel_rfl
theorem stmt_end {H0 H : AHeap} {r : Nat} {T : List Tok} {tv : AV} {s0 s : St} (hx0 : Ry H0 r T tv s0) (mb : Mt r H0 H) (hrd : Rd5 H r tv s) {k b : Nat} {e : Stm} {s' : St} {q1 q3 q4 : Int} {q2 : Bs} (hc : ∀ Hc, Ry Hc r T tv s → W (evw P k [.ptr r 0 0] Hc) (QostS Hc r T tv e s'))
  (g2 : H.get H0.next = some (.row false 9 [[.int .i64 0, .str [], .str [], .int .i64 0, .nilSl, .nilSl, .nilSl, .int .i64 0, .int .i64 0]])) (g3 : H.get b = some (.row false 4 [[.int .i64 q1, .str q2, .int .i64 q3, .int .i64 q4]])) (hb : H0.next ≤ b) :
  W (s48_j0 (evw P) (.ptr r 0 0) (.ptr H0.next 0 0) (.ptr b 0 0) (fn k) H) (QostS H0 r T tv (e.at q4) s') := by
 have hl := hx0.rd.lt
 have lg := AHeap.get_lt g2
 rw [s48_j0]
 simp only [fn, xapply_fn, List.nil_append, List.append_nil]
 refine W_call (hc H (hx0.mut mb hrd)) ?_
 rintro v H1 ⟨m1, hx1, he⟩
 refine ⟨m1.1, ?_⟩
 have h2 := m1.get g2 (by omega)
 have h3 := m1.get g3 (by omega)
 have l2 := AHeap.get_lt h2
 have l3 := AHeap.get_lt h3
 cases e with | mk a es b1 c1 =>
 obtain ⟨ev, bv, cv, rfl, k1, k2, k3⟩ := StV_mk.1 he
 have o1 := k1.oneAV
 have o2 := k2.oneAV
 have o3 := k3.oneAV
 simp -implicitDefEqProofs (disch := first | assumption | omega | (simp only [nxB]; omega) | (simp only [oneB])) only [s48, xlen, AV.cells, splice, aload, astore, Nat.reduceAdd, Nat.reduceLeDiff, reduceIte, allB, tyC, Sa.cells, o1, o2, o3, h2, h3]
 have kp : ∀ blk, KeepS H1 (Ge H.next) (H1.push blk) (Ge (H0.next + 1)) := fun blk => KeepS.pur (Pur.push _ _) fun l hl => by unfold Ge at *; omega
 exact W_some.2 (QostS.fin (a := { a with pos := q4 }) hx0 ((mb.trans m1).then_push _) (hx1.rd.pur (Pur.push _ _)) (k1.keep (kp _).ex) (k2.keep (kp _)) (k3.keep (kp _)) (Nat.le_refl _) (Nat.lt_succ_self _) _)
theorem stmt_step {n : Nat} (ihC : ChooseOk n) (ihR : RepeatOk n) : StmtOk (n + 1) := by
 intro H r T tv s hT hx e s' h
 refine W_of (fun _ => run48 0) ?_
 have hl := hx.rd.lt
 have ho1 := hx.tk.one
 have p1 := Pur.push H (.row false 9 [[.int .i64 0, .str [], .str [], .int .i64 0, .nilSl, .nilSl, .nilSl, .int .i64 0, .int .i64 0]])
 simp -implicitDefEqProofs (disch := first | assumption | omega | (simp only [nxB]; omega) | (simp only [oneB])) only [s48, xlen, AV.cells, splice, aload, astore, Nat.reduceAdd, Nat.reduceLeDiff, reduceIte, allB, tyC]
 refine W_call (ktok_spec (hx.rd.pur p1) (hx.tk.pur p1)) ?_
 rintro _ H2 ⟨rfl, p2⟩
 refine ⟨p2.1, ?_⟩
 have n2 := p2.1
 simp only [AHeap.next_push] at n2
 have p3 := (p1.trans p2).then_push (.row false 4 [[.int .i64 (tokAt T s.at_).kind, .str (tokAt T s.at_).text, .int .i64 (tokAt T s.at_).n, .int .i64 (tokAt T s.at_).pos]])
 have g2 := (Pur.push H2 (.row false 4 [[.int .i64 (tokAt T s.at_).kind, .str (tokAt T s.at_).text, .int .i64 (tokAt T s.at_).n, .int .i64 (tokAt T s.at_).pos]])).get (p2.get (AHeap.get_push_same H (.row false 9 [[.int .i64 0, .str [], .str [], .int .i64 0, .nilSl, .nilSl, .nilSl, .int .i64 0, .int .i64 0]])))
 have g3 := AHeap.get_push_same H2 (.row false 4 [[.int .i64 (tokAt T s.at_).kind, .str (tokAt T s.at_).text, .int .i64 (tokAt T s.at_).n, .int .i64 (tokAt T s.at_).pos]])
 have hx3 := hx.pur p3
 simp only [stmtF, Option.bind_eq_some_iff] at h
 obtain ⟨⟨e1, s1⟩, h1, h2⟩ := h
 simp only [Option.some.injEq, Prod.mk.injEq] at h2
 obtain ⟨rfl, rfl⟩ := h2
 cases hk : ((tokAt T s.at_).kind == 3) with
 | false =>
  simp only [hk, cond_false, Option.some.injEq] at h1
  simp -implicitDefEqProofs (disch := first | assumption | omega | (simp only [nxB]; omega) | (simp only [oneB])) only [s48, xlen, AV.cells, splice, aload, astore, Nat.reduceAdd, Nat.reduceLeDiff, reduceIte, allB, tyC, Tok.v, hk]
  refine stmt_end hx (p3.mut _) hx3.rd (k := 77) (fun Hc hc => ?_) g2 g3 (by omega)
  have := kplain_spec hT hc
  rw [h1] at this; exact this
 | true =>
  simp only [hk, cond_true] at h1
  simp -implicitDefEqProofs (disch := first | assumption | omega | (simp only [nxB]; omega) | (simp only [oneB])) only [s48, xlen, AV.cells, splice, aload, astore, Nat.reduceAdd, Nat.reduceLeDiff, reduceIte, allB, tyC, Tok.v, hk]
  refine W_call (steps_spec _) ?_
  rintro _ H5 ⟨rfl, rfl⟩
  refine ⟨(Pur.push _ _).1, ?_⟩
  have p5 := Pur.push (H2.push (.row false 4 [[.int .i64 (tokAt T s.at_).kind, .str (tokAt T s.at_).text, .int .i64 (tokAt T s.at_).n, .int .i64 (tokAt T s.at_).pos]])) (.map stepsM)
  have hlook := lk104 (tokAt T s.at_).text (AHeap.get_push_same (H2.push (.row false 4 [[.int .i64 (tokAt T s.at_).kind, .str (tokAt T s.at_).text, .int .i64 (tokAt T s.at_).n, .int .i64 (tokAt T s.at_).pos]])) (.map stepsM))
  have hx5 := hx3.pur p5
  have g25 := p5.get g2
  have g35 := p5.get g3
  have m5 := (p3.trans p5).mut (· = r)
  have hr5 := hx5.rd
  unfold Rd5 at hr5
  have lr5 := hx5.rd.lt
  simp only [AHeap.next_push] at hlook
  have key : (∃ k, lookM (tokAt T s.at_).text stepsM = fn k ∧ ∀ Hc, Ry Hc r T tv (goS s) → W (evw P k [.ptr r 0 0] Hc) (QostS Hc r T tv e1 s1)) ∨ (lookM (tokAt T s.at_).text stepsM = .nilFunc ∧ plainS T s = (e1, s1)) := by
   by_cases t1 : (tokAt T s.at_).text = [118, 97, 114]
   ·have h1' : some (declS T (goS s)) = some (e1, s1) := by rw [← h1]; simp [t1]
    refine .inl ⟨92, by rw [t1]; rfl, fun Hc hc => ?_⟩
    have := kdecl_spec hc
    rw [Option.some.inj h1'] at this; exact this
   by_cases t2 : (tokAt T s.at_).text = [108, 101, 116]
   ·have h1' : some (letsS T (goS s)) = some (e1, s1) := by rw [← h1]; simp [t2]
    refine .inl ⟨93, by rw [t2]; rfl, fun Hc hc => ?_⟩
    have := klets_spec hT hc
    rw [Option.some.inj h1'] at this; exact this
   by_cases t3 : (tokAt T s.at_).text = [105, 102]
   ·have h1' : chooseF T n (goS s) = some (e1, s1) := by rw [← h1]; simp [t3]
    exact .inl ⟨94, by rw [t3]; rfl, fun Hc hc => ihC hT hc _ _ h1'⟩
   by_cases t4 : (tokAt T s.at_).text = [119, 104, 105, 108, 101]
   ·have h1' : repeatF T n (goS s) = some (e1, s1) := by rw [← h1]; simp [t4]
    exact .inl ⟨95, by rw [t4]; rfl, fun Hc hc => ihR hT hc _ _ h1'⟩
   by_cases t5 : (tokAt T s.at_).text = [114, 101, 116, 117, 114, 110]
   ·have h1' : some (retsS T (goS s)) = some (e1, s1) := by rw [← h1]; simp [t5]
    refine .inl ⟨96, by rw [t5]; rfl, fun Hc hc => ?_⟩
    have := krets_spec hT hc
    rw [Option.some.inj h1'] at this; exact this
   by_cases t6 : (tokAt T s.at_).text = [112, 114, 105, 110, 116]
   ·have h1' : some (printS T (goS s)) = some (e1, s1) := by rw [← h1]; simp [t6]
    refine .inl ⟨97, by rw [t6]; rfl, fun Hc hc => ?_⟩
    have := kprint_spec hT hc
    rw [Option.some.inj h1'] at this; exact this
   have h1' : some (plainS T s) = some (e1, s1) := by rw [← h1]; simp [bnf t1, bnf t2, bnf t3, bnf t4, bnf t5, bnf t6]
   exact .inr ⟨by simp [lookM, stepsM, bnf t1, bnf t2, bnf t3, bnf t4, bnf t5, bnf t6], Option.some.inj h1'⟩
  rcases key with ⟨k, hlk, hc⟩ | ⟨hlk, hpl⟩
  ·obtain ⟨m6, hd6⟩ := rset hx5.rd (goS s)
   simp -implicitDefEqProofs (disch := first | assumption | omega | (simp only [nxB]; omega) | (simp only [oneB])) only [s48, xlen, AV.cells, splice, aload, astore, Nat.reduceAdd, Nat.reduceLeDiff, reduceIte, allB, tyC, g35, hlook, hlk, nf103, Bool.and_self, hr5, ho1]
   exact stmt_end hx (m5.trans m6) hd6 hc (m6.get g25 (by omega)) (m6.get g35 (by omega)) (by omega)
  ·simp -implicitDefEqProofs (disch := first | assumption | omega | (simp only [nxB]; omega) | (simp only [oneB])) only [s48, xlen, AV.cells, splice, aload, astore, Nat.reduceAdd, Nat.reduceLeDiff, reduceIte, allB, tyC, g35, hlook, hlk, nf103n, Bool.and_self]
   refine stmt_end hx m5 hx5.rd (k := 77) (fun Hc hc => ?_) g25 g35 (by omega)
   have := kplain_spec hT hc
   rw [hpl] at this; exact this
theorem choose_end {H0 H : AHeap} {r : Nat} {T : List Tok} {tv : AV} {s0 s : St} (hx0 : Ry H0 r T tv s0) (mb : Mt r H0 H) (hrd : Rd5 H r tv s) {b lo : Nat} {a : Sa} {es : List Ex} {b1 c1 : List Stm} {ev bv cv : AV} (h1 : KsV H (Ge lo) es ev) (h2 : SsV H (Ge lo) b1 bv) (h3 : SsV H (Ge lo) c1 cv) (hlo : H0.next < lo)
  (g2 : H.get H0.next = some (.row false 9 [[.int .i64 0, .str [], .str [], .int .i64 0, .nilSl, .nilSl, .nilSl, .int .i64 0, .int .i64 0]])) (g3 : H.get b = some (.row false 9 [a.cells ev bv cv])) : W (s94_j0 (evw P) (.ptr H0.next 0 0) (.ptr b 0 0) H) (QostS H0 r T tv (.mk a es b1 c1) s) := by
 have o1 := h1.oneAV
 have o2 := h2.oneAV
 have o3 := h3.oneAV
 have l2 := AHeap.get_lt g2
 simp only [Sa.cells] at g3
 simp -implicitDefEqProofs (disch := first | assumption | omega | (simp only [nxB]; omega) | (simp only [oneB])) only [s94_j0, xlen, AV.cells, splice, aload, astore, Nat.reduceAdd, Nat.reduceLeDiff, reduceIte, allB, tyC, g2, g3, o1, o2, o3]
 exact W_some.2 (QostS.fin (a := a) hx0 mb hrd h1 h2 h3 (Nat.le_refl _) hlo _)
theorem choose_step {n : Nat} (ih : BlockOk n) : ChooseOk (n + 1) := by
 intro H r T tv s hT hx e s' h
 refine W_of (fun _ => run94 0) ?_
 have hl := hx.rd.lt
 have p1 := Pur.push H (.row false 9 [[.int .i64 0, .str [], .str [], .int .i64 0, .nilSl, .nilSl, .nilSl, .int .i64 0, .int .i64 0]])
 simp only [chooseF, Option.bind_eq_some_iff] at h
 obtain ⟨⟨b1, s1⟩, hb1, h2⟩ := h
 simp -implicitDefEqProofs (disch := first | assumption | omega | (simp only [nxB]; omega) | (simp only [oneB])) only [s94, xlen, AV.cells, splice, aload, astore, Nat.reduceAdd, Nat.reduceLeDiff, reduceIte, allB, tyC]
 refine W_call (kexpr_spec hT (hx.pur p1)) ?_
 rintro v H2 ⟨m2, hx2, he⟩
 refine ⟨m2.1, ?_⟩
 have n2 := m2.1
 simp only [AHeap.next_push] at n2
 obtain ⟨cs, rfl, c1, o1⟩ := he.cells
 generalize exprP T s = e2 at hx2 he hb1 h2 ⊢
 have hs : ∀ l, sliceOf P l 35 1 [(0, .agg cs)] = some (.sl l 0 1 11 (some 1), .row false 11 [cs]) := fun l => sl35_1 l cs c1 o1
 have g2 := m2.get (AHeap.get_push_same H (.row false 9 [[.int .i64 0, .str [], .str [], .int .i64 0, .nilSl, .nilSl, .nilSl, .int .i64 0, .int .i64 0]])) (by omega)
 simp -implicitDefEqProofs (disch := first | assumption | omega | (simp only [nxB]; omega) | (simp only [oneB])) only [s94, xlen, AV.cells, splice, aload, astore, Nat.reduceAdd, Nat.reduceLeDiff, reduceIte, allB, tyC, hs]
 have p3 := Pur.push H2 (.row false 11 [cs])
 refine W_call (ih hT (hx2.pur p3) b1 s1 hb1) ?_
 rintro bv H4 ⟨m4, hx4, hbv⟩
 refine ⟨m4.1, ?_⟩
 have n4 := m4.1
 simp only [AHeap.next_push] at n4
 have lr2 := hx2.rd.lt
 have he' : ExV H2 (Ge (H.next + 1)) e2.1 (.agg cs) := by simpa only [AHeap.next_push] using he
 have hkv : KsV H4 (Ge (H.next + 1)) [e2.1] (.sl H2.next 0 1 11 (some 1)) := (KsV.made (r := r) he' (Mut.refl _ H2) (by omega) (lo := H.next + 1) (by omega) (by omega)).keep (Keep.mut m4 (by unfold Ge; omega) fun _ h => h)
 have hbv4 : SsV H4 (Ge (H.next + 1)) b1 bv := hbv.keep (KeepS.le' fun k hk => by unfold Ge at *; simp only [AHeap.next_push] at hk; omega)
 have ob := hbv4.oneAV
 have hbd : abuild P 54 [(0, .int .i64 5), (3, .sl H2.next 0 1 11 (some 1)), (4, bv)] = some (.agg (Sa.cells { kind := 5 } (.sl H2.next 0 1 11 (some 1)) bv .nilSl)) := by
  rcases hbv4 with ⟨rfl, _⟩ | ⟨l, i, cap, ro, els, rfl, _⟩ | ⟨l, i, cap, rfl, _⟩ <;> kernel_rfl
 have g4 := m4.get (p3.get g2) (by omega)
 have mb := (((p1.mut (· = r)).trans m2).then_push (.row false 11 [cs])).trans m4
 simp only [Sa.cells] at hbd
 simp -implicitDefEqProofs (disch := first | assumption | omega | (simp only [nxB]; omega) | (simp only [oneB])) only [s94, xlen, AV.cells, splice, aload, astore, Nat.reduceAdd, Nat.reduceLeDiff, reduceIte, allB, tyC, hbd, ob]
 have p5 := Pur.push H4 (.row false 9 [Sa.cells { kind := 5 } (.sl H2.next 0 1 11 (some 1)) bv .nilSl])
 refine W_call (ktakes_spec (hx4.pur p5) 3 [101, 108, 115, 101]) ?_
 rintro _ H6 ⟨rfl, m6, hx6⟩
 refine ⟨m6.1, ?_⟩
 have lr4 := hx4.rd.lt
 have l4 := AHeap.get_lt g4
 have g6 := m6.get (p5.get g4) (by omega)
 have q6 := m6.get (AHeap.get_push_same H4 (.row false 9 [Sa.cells { kind := 5 } (.sl H2.next 0 1 11 (some 1)) bv .nilSl])) (by omega)
 have mb6 := (mb.then_push (.row false 9 [Sa.cells { kind := 5 } (.sl H2.next 0 1 11 (some 1)) bv .nilSl])).trans m6
 have k6 : KeepS H4 (Ge (H.next + 1)) H6 (Ge (H.next + 1)) := KeepS.mut ((p5.mut _).trans m6) (by unfold Ge; omega) fun _ h => h
 cases hi : isB T s1 3 [101, 108, 115, 101] with
 | false =>
  rw [show takesS T 3 [101, 108, 115, 101] s1 = (false, s1) by simp [takesS, hi]] at hx6 ⊢
  simp only [hi, cond_false, Option.some.injEq, Prod.mk.injEq] at h2
  obtain ⟨rfl, rfl⟩ := h2
  simp -implicitDefEqProofs (disch := first | assumption | omega | (simp only [nxB]; omega) | (simp only [oneB])) only [s94, xlen, AV.cells, splice, aload, astore, Nat.reduceAdd, Nat.reduceLeDiff, reduceIte, allB, tyC]
  exact choose_end hx mb6 hx6.rd (hkv.keep k6.ex) (hbv4.keep k6) (SsV.nil _ _) (by omega) g6 q6
 | true =>
  rw [show takesS T 3 [101, 108, 115, 101] s1 = (true, goS s1) by simp [takesS, hi]] at hx6 ⊢
  simp only [hi, cond_true, Option.bind_eq_some_iff] at h2
  obtain ⟨⟨b2, s2⟩, hb2, h3⟩ := h2
  simp only [Option.some.injEq, Prod.mk.injEq] at h3
  obtain ⟨rfl, rfl⟩ := h3
  simp -implicitDefEqProofs (disch := first | assumption | omega | (simp only [nxB]; omega) | (simp only [oneB])) only [s94, xlen, AV.cells, splice, aload, astore, Nat.reduceAdd, Nat.reduceLeDiff, reduceIte, allB, tyC]
  refine W_call (ih hT hx6 b2 s2 hb2) ?_
  rintro cv H8 ⟨m8, hx8, hcv⟩
  refine ⟨m8.1, ?_⟩
  have lr6 := hx6.rd.lt
  have l6 := AHeap.get_lt q6
  have g8 := m8.get g6 (by omega)
  have q8 := m8.get q6 (by omega)
  have lq8 := AHeap.get_lt q8
  have n6 := m6.1
  simp only [AHeap.next_push] at n6
  have k8 := m8.1
  have oc := hcv.oneAV
  have q8' := q8
  simp only [Sa.cells] at q8'
  have h468 : KeepS H4 (Ge (H.next + 1)) H8 (Ge (H.next + 1)) := KeepS.mut (((p5.mut _).trans m6).trans m8) (by unfold Ge; omega) fun _ h => h
  have hkv8 := hkv.keep h468.ex
  have hbv8 := hbv4.keep h468
  have hst : astore P H8 50 (.ptr H4.next 0 6) cv = some (H8.set H4.next (.row false 9 [Sa.cells { kind := 5 } (.sl H2.next 0 1 11 (some 1)) bv cv])) := by
   rw [st_any ts50 q8 rfl (by rw [cells_one oc]; rfl) (by rw [cells_one oc, List.all_cons, oc]; rfl) (by decide), cells_one oc]; rfl
  simp -implicitDefEqProofs (disch := first | assumption | omega | (simp only [nxB]; omega) | (simp only [oneB])) only [s94, xlen, evB, tabB, Nat.zero_add]
  rw [hst, xstore_some (by simp only [AHeap.next_set]; omega)]
  have kf : ∀ blk, KeepS H8 (fun l => H.next + 1 ≤ l ∧ l ≠ H4.next) (H8.set H4.next blk) (Ge (H.next + 1)) := fun blk => KeepS.set _ (by simp) fun l h => h.1
  have h4k : KeepS H4 (fun l => H.next + 1 ≤ l ∧ l < H4.next) H8 (fun l => H.next + 1 ≤ l ∧ l ≠ H4.next) := KeepS.mut (((p5.mut _).trans m6).trans m8) (by omega) fun l h => ⟨h.1, by omega⟩
  have hb4 : KeepS H4 (Ge (H.next + 1)) H4 (fun l => H.next + 1 ≤ l ∧ l < H4.next) := ⟨fun l ro els h g => ⟨⟨h, AHeap.get_lt g⟩, g⟩, fun l ro els h g => ⟨⟨h, AHeap.get_lt g⟩, g⟩⟩
  refine choose_end hx (H := H8.set H4.next (.row false 9 [Sa.cells { kind := 5 } (.sl H2.next 0 1 11 (some 1)) bv cv])) ((mb6.trans m8).then_set (.inr (by omega)) _) ?_ (((hkv.keep hb4.ex).keep h4k.ex).keep (kf _).ex) (((hbv4.keep hb4).keep h4k).keep (kf _)) ((hcv.keep (KeepS.le' (ok' := fun l => H.next + 1 ≤ l ∧ l ≠ H4.next) fun k hk => by unfold Ge at hk; omega)).keep (kf _)) (Nat.lt_succ_self _) ?_ (AHeap.get_set_same lq8)
  ·have hr8 := hx8.rd
   unfold Rd5 at hr8 ⊢
   rw [AHeap.get_set_other (by omega)]; exact hr8
  ·rw [AHeap.get_set_other (by omega)]; exact g8
theorem repeat_step {n : Nat} (ih : BlockOk n) : RepeatOk (n + 1) := by
 intro H r T tv s hT hx e s' h
 refine W_of (fun _ => run95 0) ?_
 have hl := hx.rd.lt
 have p1 := Pur.push H (.row false 9 [[.int .i64 0, .str [], .str [], .int .i64 0, .nilSl, .nilSl, .nilSl, .int .i64 0, .int .i64 0]])
 simp only [repeatF, Option.bind_eq_some_iff] at h
 obtain ⟨⟨b1, s1⟩, hb1, h2⟩ := h
 simp only [Option.some.injEq, Prod.mk.injEq] at h2
 obtain ⟨rfl, rfl⟩ := h2
 simp -implicitDefEqProofs (disch := first | assumption | omega | (simp only [nxB]; omega) | (simp only [oneB])) only [s95, xlen, AV.cells, splice, aload, astore, Nat.reduceAdd, Nat.reduceLeDiff, reduceIte, allB, tyC]
 refine W_call (kexpr_spec hT (hx.pur p1)) ?_
 rintro v H2 ⟨m2, hx2, he⟩
 refine ⟨m2.1, ?_⟩
 have n2 := m2.1
 simp only [AHeap.next_push] at n2
 obtain ⟨cs, rfl, c1, o1⟩ := he.cells
 generalize exprP T s = e2 at hx2 he hb1 ⊢
 have hs : ∀ l, sliceOf P l 35 1 [(0, .agg cs)] = some (.sl l 0 1 11 (some 1), .row false 11 [cs]) := fun l => sl35_1 l cs c1 o1
 have g2 := m2.get (AHeap.get_push_same H (.row false 9 [[.int .i64 0, .str [], .str [], .int .i64 0, .nilSl, .nilSl, .nilSl, .int .i64 0, .int .i64 0]])) (by omega)
 simp -implicitDefEqProofs (disch := first | assumption | omega | (simp only [nxB]; omega) | (simp only [oneB])) only [s95, xlen, AV.cells, splice, aload, astore, Nat.reduceAdd, Nat.reduceLeDiff, reduceIte, allB, tyC, hs]
 have p3 := Pur.push H2 (.row false 11 [cs])
 refine W_call (ih hT (hx2.pur p3) b1 s1 hb1) ?_
 rintro bv H4 ⟨m4, hx4, hbv⟩
 refine ⟨m4.1, ?_⟩
 have n4 := m4.1
 simp only [AHeap.next_push] at n4
 have lr2 := hx2.rd.lt
 have he' : ExV H2 (Ge (H.next + 1)) e2.1 (.agg cs) := by simpa only [AHeap.next_push] using he
 have hkv : KsV H4 (Ge (H.next + 1)) [e2.1] (.sl H2.next 0 1 11 (some 1)) := (KsV.made (r := r) he' (Mut.refl _ H2) (by omega) (lo := H.next + 1) (by omega) (by omega)).keep (Keep.mut m4 (by unfold Ge; omega) fun _ h => h)
 have hbv4 : SsV H4 (Ge (H.next + 1)) b1 bv := hbv.keep (KeepS.le' fun k hk => by unfold Ge at *; simp only [AHeap.next_push] at hk; omega)
 have ob := hbv4.oneAV
 have hbd : abuild P 54 [(0, .int .i64 6), (3, .sl H2.next 0 1 11 (some 1)), (4, bv)] = some (.agg (Sa.cells { kind := 6 } (.sl H2.next 0 1 11 (some 1)) bv .nilSl)) := by
  rcases hbv4 with ⟨rfl, _⟩ | ⟨l, i, cap, ro, els, rfl, _⟩ | ⟨l, i, cap, rfl, _⟩ <;> kernel_rfl
 have g4 := m4.get (p3.get g2) (by omega)
 have l4 := AHeap.get_lt g4
 simp only [Sa.cells] at hbd
 simp -implicitDefEqProofs (disch := first | assumption | omega | (simp only [nxB]; omega) | (simp only [oneB])) only [s95, xlen, AV.cells, splice, aload, astore, Nat.reduceAdd, Nat.reduceLeDiff, reduceIte, allB, tyC, hbd, ob, g4]
 exact W_some.2 (QostS.fin (a := { kind := 6 }) hx ((((p1.mut _).trans m2).then_push _).trans m4) hx4.rd hkv hbv4 (SsV.nil _ _) (Nat.le_refl _) (Nat.lt_succ_self _) _)
structure AllK (n : Nat) : Prop where
 stmt : StmtOk n
 block : BlockOk n
 choose : ChooseOk n
 rep : RepeatOk n
theorem allK : ∀ n, n ≤ 900000000 → AllK n := by
 intro n
 induction n using Nat.strongRecOn with
 | _ n ih =>
  intro hn
  cases n with
  | zero => exact ⟨fun _ _ _ _ h => by simp [stmtF] at h, fun _ _ _ _ h => by simp [blockF] at h, fun _ _ _ _ h => by simp [chooseF] at h, fun _ _ _ _ h => by simp [repeatF] at h⟩
  | succ n =>
   have i := ih n (by omega) (by omega)
   exact ⟨stmt_step i.choose i.rep, block_step (by omega) fun k hk => (ih k (by omega) (by omega)).stmt, choose_step i.block, repeat_step i.block⟩
end Go.Proofs.Ytnjoomfeddamcaa

namespace Go.Proofs.Ytnjoomfeddamcaa
open Go.Ev
theorem bd85_3 (tv : AV) (h1 : tv.one = true) (a b : Int) : abuild P 85 [(0, tv), (1, .int .i64 a), (2, .int .i64 b)] = some (.agg [tv, .int .i64 a, .int .i64 b, .int .i64 0, .int .i64 0]) := by
 cases tv <;> first | (cases h1; done) | kernel_rfl
theorem kstmt_spec {n : Nat} (hn : n ≤ 900000000) {H : AHeap} {T : List Tok} {tv : AV} (hT : T.length ≤ 20000000) (ht : TokSl H tv T) (at_ opn : Int) {e : Stm} {s' : St} (h : stmtF T n (startS at_ opn) = some (e, s')) :
  W (evw P 28 [tv, .int .i64 at_, .int .i64 opn] H) fun v H' => ∃ ev, v = .tuple [ev, .int .i64 (parseM e s').2.1, .agg [.int .i64 (parseM e s').2.2.1, .int .i64 (parseM e s').2.2.2]] ∧ StV H' (Ge H.next) (parseM e s').1 ev ∧ Pur H H' := by
 refine W_of (fun _ => run28 0) ?_
 have ho1 := ht.one
 have p1 := (Pur.push H (.row false 9 [[.int .i64 0, .str [], .str [], .int .i64 0, .nilSl, .nilSl, .nilSl, .int .i64 0, .int .i64 0]])).then_push (.row false 2 [[.int .i64 0, .int .i64 0]])
 have hbd := bd85_3 tv ho1 at_ (if opn < 0 then 0 else opn)
 have hbx : ∀ l, boxOf l (.agg [tv, .int .i64 at_, .int .i64 (if opn < 0 then 0 else opn), .int .i64 0, .int .i64 0]) = some (.ptr l 0 0, .row false 5 [[tv, .int .i64 at_, .int .i64 (if opn < 0 then 0 else opn), .int .i64 0, .int .i64 0]]) := fun l => boxOf_agg l _ (by simp only [List.all_cons, List.all_nil, one_int, ho1, Bool.and_self])
 simp -implicitDefEqProofs (disch := first | assumption | omega | (simp only [nxB]; omega) | (simp only [oneB])) only [s28, xlen, AV.cells, splice, aload, astore, Nat.reduceAdd, Nat.reduceLeDiff, reduceIte, allB, tyC, mx3, hbd, hbx]
 have hn3 : ((H.push (.row false 9 [[.int .i64 0, .str [], .str [], .int .i64 0, .nilSl, .nilSl, .nilSl, .int .i64 0, .int .i64 0]])).push (.row false 2 [[.int .i64 0, .int .i64 0]])).next = H.next + 2 := by simp only [AHeap.next_push]
 have hb6 : ((H.push (.row false 9 [[.int .i64 0, .str [], .str [], .int .i64 0, .nilSl, .nilSl, .nilSl, .int .i64 0, .int .i64 0]])).push (.row false 2 [[.int .i64 0, .int .i64 0]])).get H.next = some (.row false 9 [[.int .i64 0, .str [], .str [], .int .i64 0, .nilSl, .nilSl, .nilSl, .int .i64 0, .int .i64 0]]) := by simp -implicitDefEqProofs (disch := first | assumption | omega | (simp only [nxB]; omega) | (simp only [oneB])) only [heapB]
 have hb8 : ((H.push (.row false 9 [[.int .i64 0, .str [], .str [], .int .i64 0, .nilSl, .nilSl, .nilSl, .int .i64 0, .int .i64 0]])).push (.row false 2 [[.int .i64 0, .int .i64 0]])).get (H.next + 1) = some (.row false 2 [[.int .i64 0, .int .i64 0]]) := by simp -implicitDefEqProofs (disch := first | assumption | omega | (simp only [nxB]; omega) | (simp only [oneB])) only [heapB]
 rw [← hn3]
 generalize (H.push (.row false 9 [[.int .i64 0, .str [], .str [], .int .i64 0, .nilSl, .nilSl, .nilSl, .int .i64 0, .int .i64 0]])).push (.row false 2 [[.int .i64 0, .int .i64 0]]) = H3 at p1 hb6 hb8 hn3 ⊢
 have p4 := Pur.push H3 (.row false 5 [[tv, .int .i64 at_, .int .i64 (if opn < 0 then 0 else opn), .int .i64 0, .int .i64 0]])
 have p5 := p1.trans p4
 have hx4 : Ry (H3.push (.row false 5 [[tv, .int .i64 at_, .int .i64 (if opn < 0 then 0 else opn), .int .i64 0, .int .i64 0]])) H3.next T tv (startS at_ opn) :=
  ⟨AHeap.get_push_same _ _, ht.pur p5⟩
 refine W_call ((allK n hn).stmt hT hx4 e s' h) ?_
 rintro v H5 ⟨m5, hx5, he5⟩
 refine ⟨m5.1, ?_⟩
 have hm5 := m5.1
 simp only [AHeap.next_push] at hm5 he5
 obtain ⟨cs, rfl, hlen, hone⟩ := he5.cells
 have htk : List.take 9 cs = cs := List.take_of_length_le (by omega)
 simp -implicitDefEqProofs (disch := first | assumption | omega | (simp only [nxB]; omega) | (simp only [oneB])) only [s28, xlen, AV.cells, splice, aload, astore, Nat.reduceAdd, Nat.reduceLeDiff, reduceIte, allB, tyC, hlen, hone, List.append_nil]
 have p6 := Pur.push H5 (.row false 9 [cs])
 refine W_call (kfailed_spec (hx5.rd.pur p6)) ?_
 rintro _ H8 ⟨rfl, rfl⟩
 refine ⟨Nat.le_refl _, ?_⟩
 have hr := hx5.rd.pur p6
 unfold Rd5 at hr
 have hr5 := hx5.rd
 unfold Rd5 at hr5
 have hb65 := m5.get (p4.get hb6) (by omega)
 have hb85 := m5.get (p4.get hb8) (by omega)
 have l6 := AHeap.get_lt hb65
 have l8 := AHeap.get_lt hb85
 have pf : Pur H H5 := ⟨by have := p5.1; simp only [AHeap.next_push] at this; omega, fun l hl => by rw [m5.2 l (by simp only [AHeap.next_push]; omega) (by omega)]; exact p5.2 l hl⟩
 by_cases hf : s'.fe = 0
 ·have hf' : (s'.fe != 0) = false := by simpa using hf
  rw [show parseM e s' = (e, s'.at_, 0, 0) by simp [parseM, hf]]
  simp -implicitDefEqProofs (disch := first | assumption | omega | (simp only [nxB]; omega) | (simp only [oneB])) only [s28, xlen, AV.cells, splice, aload, astore, Nat.reduceAdd, Nat.reduceLeDiff, reduceIte, allB, tyC, hf', hr, hr5, hb65, hb85, hlen, hone, List.append_nil, htk, Bool.and_true]
  refine W_some.2 ⟨_, rfl, ?_, ?_⟩
  ·exact StV.keep (KeepS.new (Mut.then_set (S := fun l => l < _) (Mut.then_set (S := fun l => l < _) ((Mut.refl _ _).then_push _) (.inl (by omega)) _) (.inl (by omega)) _) fun l h => by unfold Ge; omega) _ _ he5
  ·exact ((pf.then_push _).then_set (Nat.le_refl _) _).then_set (by omega) _
 ·have hf' : (s'.fe != 0) = true := by simpa using hf
  rw [show parseM e s' = (.zero, 0, s'.fe, s'.fa) by simp [parseM, hf]]
  have hrd25 : rdIs (some (.agg [.int .i64 s'.fe, .int .i64 s'.fa])) (.agg [.int .i64 s'.fe, .int .i64 s'.fa]) = true := by simp [rdIs, AV.beq, AVs.beq]
  simp -implicitDefEqProofs (disch := first | assumption | omega | (simp only [nxB]; omega) | (simp only [oneB])) only [s28, xlen, AV.cells, splice, aload, astore, Nat.reduceAdd, Nat.reduceLeDiff, reduceIte, allB, tyC, hf', hr, hr5, hb65, hb85, hrd25, Bool.and_true]
  refine W_some.2 ⟨_, rfl, StV.leaf _ _ { kind := 0 }, ?_⟩
  exact ((pf.then_push _).then_set (Nat.le_refl _) _).then_set (by omega) _
theorem kblock_spec {n : Nat} (hn : n ≤ 900000000) {H : AHeap} {T : List Tok} {tv : AV} (hT : T.length ≤ 20000000) (ht : TokSl H tv T) (at_ opn : Int) {l : List Stm} {s' : St} (h : blockF T n (startS at_ opn) = some (l, s')) :
  W (evw P 45 [tv, .int .i64 at_, .int .i64 opn] H) fun v H' => ∃ bv, v = .tuple [bv, .int .i64 (parseB l s').2.1, .agg [.int .i64 (parseB l s').2.2.1, .int .i64 (parseB l s').2.2.2]] ∧ SsV H' (Ge H.next) (parseB l s').1 bv ∧ Pur H H' := by
 refine W_of (fun _ => run45 0) ?_
 have ho1 := ht.one
 have p1 := Pur.push H (.row false 2 [[.int .i64 0, .int .i64 0]])
 have hbd := bd85_3 tv ho1 at_ (if opn < 0 then 0 else opn)
 have hbx : ∀ l, boxOf l (.agg [tv, .int .i64 at_, .int .i64 (if opn < 0 then 0 else opn), .int .i64 0, .int .i64 0]) = some (.ptr l 0 0, .row false 5 [[tv, .int .i64 at_, .int .i64 (if opn < 0 then 0 else opn), .int .i64 0, .int .i64 0]]) := fun l => boxOf_agg l _ (by simp only [List.all_cons, List.all_nil, one_int, ho1, Bool.and_self])
 simp -implicitDefEqProofs (disch := first | assumption | omega | (simp only [nxB]; omega) | (simp only [oneB])) only [s45, xlen, AV.cells, splice, aload, astore, Nat.reduceAdd, Nat.reduceLeDiff, reduceIte, allB, mx3, hbd, hbx]
 have hb8 := AHeap.get_push_same H (.row false 2 [[.int .i64 0, .int .i64 0]])
 have hn3 : (H.push (.row false 2 [[.int .i64 0, .int .i64 0]])).next = H.next + 1 := by simp only [AHeap.next_push]
 rw [← hn3]
 generalize H.push (.row false 2 [[.int .i64 0, .int .i64 0]]) = H3 at p1 hb8 hn3 ⊢
 have p4 := Pur.push H3 (.row false 5 [[tv, .int .i64 at_, .int .i64 (if opn < 0 then 0 else opn), .int .i64 0, .int .i64 0]])
 have p5 := p1.trans p4
 have hx4 : Ry (H3.push (.row false 5 [[tv, .int .i64 at_, .int .i64 (if opn < 0 then 0 else opn), .int .i64 0, .int .i64 0]])) H3.next T tv (startS at_ opn) :=
  ⟨AHeap.get_push_same _ _, ht.pur p5⟩
 refine W_call ((allK n hn).block hT hx4 l s' h) ?_
 rintro v H5 ⟨m5, hx5, he5⟩
 refine ⟨m5.1, ?_⟩
 have hm5 := m5.1
 simp only [AHeap.next_push] at hm5 he5
 simp -implicitDefEqProofs (disch := first | assumption | omega | (simp only [nxB]; omega) | (simp only [oneB])) only [s45, xlen, AV.cells, splice, aload, astore, Nat.reduceAdd, Nat.reduceLeDiff, reduceIte, allB]
 refine W_call (kfailed_spec hx5.rd) ?_
 rintro _ H8 ⟨rfl, rfl⟩
 refine ⟨Nat.le_refl _, ?_⟩
 have hr5 := hx5.rd
 unfold Rd5 at hr5
 have hb85 := m5.get (p4.get hb8) (by omega)
 have l8 := AHeap.get_lt hb85
 have pf : Pur H H8 := ⟨by have := p5.1; simp only [AHeap.next_push] at this; omega, fun l hl => by rw [m5.2 l (by simp only [AHeap.next_push]; omega) (by omega)]; exact p5.2 l hl⟩
 by_cases hf : s'.fe = 0
 ·have hf' : (s'.fe != 0) = false := by simpa using hf
  rw [show parseB l s' = (l, s'.at_, 0, 0) by simp [parseB, hf]]
  simp -implicitDefEqProofs (disch := first | assumption | omega | (simp only [nxB]; omega) | (simp only [oneB])) only [s45, xlen, AV.cells, splice, aload, astore, Nat.reduceAdd, Nat.reduceLeDiff, reduceIte, allB, hf', hr5, hb85]
  refine W_some.2 ⟨_, rfl, he5.keep (KeepS.set _ (by unfold Ge; omega) fun l h => by unfold Ge at *; omega), pf.then_set (by omega) _⟩
 ·have hf' : (s'.fe != 0) = true := by simpa using hf
  rw [show parseB l s' = ([], 0, s'.fe, s'.fa) by simp [parseB, hf]]
  simp -implicitDefEqProofs (disch := first | assumption | omega | (simp only [nxB]; omega) | (simp only [oneB])) only [s45, xlen, AV.cells, splice, aload, astore, Nat.reduceAdd, Nat.reduceLeDiff, reduceIte, allB, hf', hr5, hb85]
  exact W_some.2 ⟨_, rfl, SsV.nil _ _, pf.then_set (by omega) _⟩
end Go.Proofs.Ytnjoomfeddamcaa

namespace Go.Proofs.Ytnjoomfeddamcaa
open Go.Ev
set_option maxRecDepth 100000
noncomputable section
def s47_j0 (G : CallT) (N : Nat) (x0 x3 : AV) (H : AHeap) : O :=
 xcall H (G 75 [x0, (.str [125])] H) fun x19 h1 =>
 some (x3, h1)
theorem s47_j0_eq (G : CallT) (N : Nat) : ∀ R H, codeC P G N (Code.snd (Code.snd (Code.snd (Code.snd (bodyOf Try.f47))))) (rC Try.f47) [] (rC Try.f47) R H = s47_j0 G N (R 0) (R 3) H := by
 refine via_trans (via_leaf _) fun R H => ?_
 delta s47_j0
 kernel_rfl
def s47_b1 (G : CallT) (N : Nat) (L1 : AV → AV → AHeap → O) (x0 x3 : AV) (H : AHeap) : O :=
 xcall H (G 38 [x0] H) fun x7 h1 =>
 xg x7 true h1 (qv x0) fun x9 h2 =>
 xg x7 true h2 (fun q => xeff h2 (G 64 [x9, (.str [125])] h2) q) fun x10 h3 =>
 xg x7 true h3 (qp (aun .not x10)) fun x11 h4 =>
 xb (pickOf x7 (some x11) (some (.bool false))) fun x12 =>
 xif (some x12) (xcall h4 (G 72 [x0] h4) fun x15 h5 =>
 xmake h5 (sliceOf P (h5).next 50 1 [(0, x15)]) fun x16 h6 =>
 xcall h6 (aappend P h6 [50, 50] x3 x16) fun x17 h7 =>
 L1 x0 x17 h7) (s47_j0 G N x0 x3 h4)
def s47_l1 (G : CallT) (N : Nat) : Nat → AV → AV → AHeap → O
 | 0, _, _, _ => none
 | n + 1, x0, x3, H => s47_b1 G N (s47_l1 G N n) x0 x3 H
theorem s47_b1_eq (G : CallT) (N : Nat) (L1 : AV → AV → AHeap → O) : ∀ R H, codeC P G N (Code.fst (Code.fst (Code.fst (Code.snd (Code.snd (Code.snd (bodyOf Try.f47))))))) (fun R H => L1 (R 0) (R 3) H) [(0, (fun R H => s47_j0 G N (R 0) (R 3) H))] (rC Try.f47) R H = s47_b1 G N L1 (R 0) (R 3) H := by
 refine via_trans (via_leaf _) fun R H => ?_
 delta s47_b1
 generalize s47_j0 G N = J0
 revert J0
 refine id ?_
 intro J0
 kernel_rfl
def s47 (G : CallT) (N : Nat) (x0 : AV) (H : AHeap) : O :=
 xcall H (G 74 [x0, (.str [123])] H) fun x5 h1 =>
 s47_l1 G N N x0 AV.nilSl h1
theorem s47_eq (G : CallT) (N : Nat) (x0 : AV) (H : AHeap) : cF Try.f47 G N (argsF [x0]) H = s47 G N x0 H := by
 refine via_top (A := cF Try.f47 G N) ((via_seq (by kernel_rfl) ((via_seq (by kernel_rfl) ((via_seq (by kernel_rfl) ((via_seq (by kernel_rfl) (s47_j0_eq G N) ((via_block (by kernel_rfl) ((via_loop (k := fun m R H => s47_l1 G N m (R 0) (R 3) H) (by kernel_rfl) (fun R H => by kernel_rfl) (fun m => s47_b1_eq G N (s47_l1 G N m)))))))) (via_leaf _))) (via_leaf _))) (via_leaf _))) ?_
 delta s47
 generalize s47_l1 G N N = J0
 revert J0
 refine id ?_
 intro J0
 kernel_rfl
theorem run47 (N : Nat) {x0 : AV} {H : AHeap} {r : AV × AHeap} (h : s47 (evw P) N x0 H = some r) : evw P 47 [x0] H = some r :=
 runF Try.func47 (by kernel_rfl) (by kernel_rfl) (by kernel_rfl) ((s47_eq (evw P) N x0 H).trans h)
def s72_j0 (G : CallT) (x2 x4 : AV) (H : AHeap) : O :=
 xb (aload P H 54 x4) fun x131 =>
 xstore H (astore P H 54 x2 x131) fun h1 =>
 xb (aload P h1 54 x2) fun r =>
 some (r, h1)
theorem s72_j0_eq (G : CallT) (N : Nat) : ∀ R H, codeC P G N (Code.snd (Code.snd (Code.snd (Code.snd (bodyOf Try.f72))))) (rC Try.f72) [] (rC Try.f72) R H = s72_j0 G (R 2) (R 4) H := by
 refine via_trans (via_leaf _) fun R H => ?_
 delta s72_j0
 kernel_rfl
def s72_j2 (G : CallT) (x0 x2 x4 : AV) (H : AHeap) : O :=
 xcall H (G 68 [x0, (.str [59])] H) fun x45 h1 =>
 s72_j0 G x2 x4 h1
theorem s72_j2_eq (G : CallT) (N : Nat) : ∀ R H, codeC P G N (Code.snd (Code.snd (Code.snd (Code.snd (Code.snd (Code.snd (Code.fst (Code.snd (Code.fst (Code.fst (Code.snd (Code.snd (Code.snd (bodyOf Try.f72)))))))))))))) (fun R H => s72_j0 G (R 2) (R 4) H) [(0, (fun R H => s72_j0 G (R 2) (R 4) H))] (rC Try.f72) R H = s72_j2 G (R 0) (R 2) (R 4) H := by
 refine via_trans (via_leaf _) fun R H => ?_
 delta s72_j2
 generalize s72_j0 G = J0
 revert J0
 refine id ?_
 intro J0
 kernel_rfl
def s72_j3 (G : CallT) (x0 x2 x4 : AV) (H : AHeap) : O :=
 xcall H (G 68 [x0, (.str [59])] H) fun x113 h1 =>
 s72_j0 G x2 x4 h1
theorem s72_j3_eq (G : CallT) (N : Nat) : ∀ R H, codeC P G N (Code.snd (Code.snd (Code.snd (Code.fst (Code.snd (Code.snd (Code.snd (Code.snd (Code.snd (Code.snd (Code.snd (Code.fst (Code.fst (Code.snd (Code.snd (Code.snd (bodyOf Try.f72))))))))))))))))) (fun R H => s72_j0 G (R 2) (R 4) H) [(0, (fun R H => s72_j0 G (R 2) (R 4) H))] (rC Try.f72) R H = s72_j3 G (R 0) (R 2) (R 4) H := by
 refine via_trans (via_leaf _) fun R H => ?_
 delta s72_j3
 generalize s72_j0 G = J0
 revert J0
 refine id ?_
 intro J0
 kernel_rfl
def s72_j1 (G : CallT) (x0 x2 : AV) (x3 x4 x13 : AV) (H : AHeap) : O :=
 xif (some x13) (xb (anil x0) fun x19 =>
 xb (afieldAddr P 75 x19 1) fun x20 =>
 xb (aload P H 3 x20) fun x21 =>
 xb (fbin P .add 3 true x21 (.int .i64 1)) fun x22 =>
 xb (anil x0) fun x23 =>
 xb (afieldAddr P 75 x23 1) fun x24 =>
 xstore H (astore P H 3 x24 x22) fun h1 =>
 xb (afieldAddr P 54 x4 0) fun x25 =>
 xstore h1 (astore P h1 3 x25 (.int .i64 1)) fun h2 =>
 xcall h2 (G 67 [x0] h2) fun x27 h3 =>
 xb (afieldAddr P 54 x4 1) fun x28 =>
 xstore h3 (astore P h3 9 x28 x27) fun h4 =>
 xcall h4 (G 68 [x0, (.str [58])] h4) fun x30 h5 =>
 xcall h5 (G 37 [x0] h5) fun x32 h6 =>
 xb (afieldAddr P 54 x4 2) fun x33 =>
 xstore h6 (astore P h6 32 x33 x32) fun h7 =>
 xb (afieldAddr P 65 x3 1) fun x34 =>
 xb (aload P h7 9 x34) fun x35 =>
 xb (fbin P .eql 9 true x35 (.str [108, 101, 116])) fun x36 =>
 xif (some x36) (xb (afieldAddr P 54 x4 0) fun x37 =>
 xstore h7 (astore P h7 3 x37 (.int .i64 2)) fun h8 =>
 xcall h8 (G 68 [x0, (.str [61])] h8) fun x39 h9 =>
 xcall h9 (G 39 [x0, (.int .i64 0)] h9) fun x41 h10 =>
 xmake h10 (sliceOf P (h10).next 35 1 [(0, x41)]) fun x42 h11 =>
 xb (afieldAddr P 54 x4 3) fun x43 =>
 xstore h11 (astore P h11 35 x43 x42) fun h12 =>
 s72_j2 G x0 x2 x4 h12) (s72_j2 G x0 x2 x4 h7)) (xcall H (G 64 [x0, (.str [105, 102])] H) fun x48 h1 =>
 xif (some x48) (xb (anil x0) fun x50 =>
 xb (afieldAddr P 75 x50 1) fun x51 =>
 xb (aload P h1 3 x51) fun x52 =>
 xb (fbin P .add 3 true x52 (.int .i64 1)) fun x53 =>
 xb (anil x0) fun x54 =>
 xb (afieldAddr P 75 x54 1) fun x55 =>
 xstore h1 (astore P h1 3 x55 x53) fun h2 =>
 xb (afieldAddr P 54 x4 0) fun x56 =>
 xstore h2 (astore P h2 3 x56 (.int .i64 5)) fun h3 =>
 xcall h3 (G 39 [x0, (.int .i64 0)] h3) fun x58 h4 =>
 xmake h4 (sliceOf P (h4).next 35 1 [(0, x58)]) fun x59 h5 =>
 xb (afieldAddr P 54 x4 3) fun x60 =>
 xstore h5 (astore P h5 35 x60 x59) fun h6 =>
 xcall h6 (G 47 [x0] h6) fun x62 h7 =>
 xb (afieldAddr P 54 x4 4) fun x63 =>
 xstore h7 (astore P h7 50 x63 x62) fun h8 =>
 xcall h8 (G 64 [x0, (.str [101, 108, 115, 101])] h8) fun x65 h9 =>
 xif (some x65) (xb (anil x0) fun x67 =>
 xb (afieldAddr P 75 x67 1) fun x68 =>
 xb (aload P h9 3 x68) fun x69 =>
 xb (fbin P .add 3 true x69 (.int .i64 1)) fun x70 =>
 xb (anil x0) fun x71 =>
 xb (afieldAddr P 75 x71 1) fun x72 =>
 xstore h9 (astore P h9 3 x72 x70) fun h10 =>
 xcall h10 (G 47 [x0] h10) fun x74 h11 =>
 xb (afieldAddr P 54 x4 5) fun x75 =>
 xstore h11 (astore P h11 50 x75 x74) fun h12 =>
 s72_j0 G x2 x4 h12) (s72_j0 G x2 x4 h9)) (xcall h1 (G 64 [x0, (.str [119, 104, 105, 108, 101])] h1) fun x78 h2 =>
 xif (some x78) (xb (anil x0) fun x80 =>
 xb (afieldAddr P 75 x80 1) fun x81 =>
 xb (aload P h2 3 x81) fun x82 =>
 xb (fbin P .add 3 true x82 (.int .i64 1)) fun x83 =>
 xb (anil x0) fun x84 =>
 xb (afieldAddr P 75 x84 1) fun x85 =>
 xstore h2 (astore P h2 3 x85 x83) fun h3 =>
 xb (afieldAddr P 54 x4 0) fun x86 =>
 xstore h3 (astore P h3 3 x86 (.int .i64 6)) fun h4 =>
 xcall h4 (G 39 [x0, (.int .i64 0)] h4) fun x88 h5 =>
 xmake h5 (sliceOf P (h5).next 35 1 [(0, x88)]) fun x89 h6 =>
 xb (afieldAddr P 54 x4 3) fun x90 =>
 xstore h6 (astore P h6 35 x90 x89) fun h7 =>
 xcall h7 (G 47 [x0] h7) fun x92 h8 =>
 xb (afieldAddr P 54 x4 4) fun x93 =>
 xstore h8 (astore P h8 50 x93 x92) fun h9 =>
 s72_j0 G x2 x4 h9) (xcall h2 (G 64 [x0, (.str [114, 101, 116, 117, 114, 110])] h2) fun x96 h3 =>
 xif (some x96) (xb (anil x0) fun x98 =>
 xb (afieldAddr P 75 x98 1) fun x99 =>
 xb (aload P h3 3 x99) fun x100 =>
 xb (fbin P .add 3 true x100 (.int .i64 1)) fun x101 =>
 xb (anil x0) fun x102 =>
 xb (afieldAddr P 75 x102 1) fun x103 =>
 xstore h3 (astore P h3 3 x103 x101) fun h4 =>
 xb (afieldAddr P 54 x4 0) fun x104 =>
 xstore h4 (astore P h4 3 x104 (.int .i64 7)) fun h5 =>
 xcall h5 (G 64 [x0, (.str [59])] h5) fun x106 h6 =>
 xb (aun .not x106) fun x107 =>
 xif (some x107) (xcall h6 (G 39 [x0, (.int .i64 0)] h6) fun x109 h7 =>
 xmake h7 (sliceOf P (h7).next 35 1 [(0, x109)]) fun x110 h8 =>
 xb (afieldAddr P 54 x4 3) fun x111 =>
 xstore h8 (astore P h8 35 x111 x110) fun h9 =>
 s72_j3 G x0 x2 x4 h9) (s72_j3 G x0 x2 x4 h6)) (xcall h3 (G 64 [x0, (.str [112, 114, 105, 110, 116])] h3) fun x116 h4 =>
 xif (some x116) (xb (anil x0) fun x118 =>
 xb (afieldAddr P 75 x118 1) fun x119 =>
 xb (aload P h4 3 x119) fun x120 =>
 xb (fbin P .add 3 true x120 (.int .i64 1)) fun x121 =>
 xb (anil x0) fun x122 =>
 xb (afieldAddr P 75 x122 1) fun x123 =>
 xstore h4 (astore P h4 3 x123 x121) fun h5 =>
 xb (afieldAddr P 54 x4 0) fun x124 =>
 xstore h5 (astore P h5 3 x124 (.int .i64 8)) fun h6 =>
 xcall h6 (G 39 [x0, (.int .i64 0)] h6) fun x126 h7 =>
 xmake h7 (sliceOf P (h7).next 35 1 [(0, x126)]) fun x127 h8 =>
 xb (afieldAddr P 54 x4 3) fun x128 =>
 xstore h8 (astore P h8 35 x128 x127) fun h9 =>
 xcall h9 (G 68 [x0, (.str [59])] h9) fun x130 h10 =>
 s72_j0 G x2 x4 h10) (xb (aload P h4 54 x4) fun x11 =>
 xcall h4 (G 85 [x0, x11] h4) fun x12 h5 =>
 xstore h5 (astore P h5 54 x2 x12) fun h6 =>
 xb (aload P h6 54 x2) fun r =>
 some (r, h6))))))
theorem s72_j1_eq (G : CallT) (N : Nat) : ∀ R H, codeC P G N (Code.snd (Code.fst (Code.fst (Code.snd (Code.snd (Code.snd (bodyOf Try.f72))))))) (fun R H => s72_j0 G (R 2) (R 4) H) [(0, (fun R H => s72_j0 G (R 2) (R 4) H))] (rC Try.f72) R H = s72_j1 G (R 0) (R 2) (R 3) (R 4) (R 13) H := by
 refine via_trans ((via_cond (by kernel_rfl) ((via_seq (by kernel_rfl) ((via_seq (by kernel_rfl) ((via_seq (by kernel_rfl) ((via_seq (by kernel_rfl) ((via_seq (by kernel_rfl) ((via_seq (by kernel_rfl) (s72_j2_eq G N) (via_leaf _))) (via_leaf _))) (via_leaf _))) (via_leaf _))) (via_leaf _))) (via_leaf _))) ((via_seq (by kernel_rfl) ((via_cond (by kernel_rfl) (via_leaf _) ((via_seq (by kernel_rfl) ((via_cond (by kernel_rfl) (via_leaf _) ((via_seq (by kernel_rfl) ((via_cond (by kernel_rfl) ((via_seq (by kernel_rfl) ((via_seq (by kernel_rfl) ((via_seq (by kernel_rfl) (s72_j3_eq G N) (via_leaf _))) (via_leaf _))) (via_leaf _))) (via_leaf _))) (via_leaf _))))) (via_leaf _))))) (via_leaf _))))) fun R H => ?_
 delta s72_j1
 generalize s72_j3 G = J0
 generalize s72_j0 G = J1
 generalize s72_j2 G = J2
 revert J0 J1 J2
 refine id ?_
 intro J0 J1 J2
 kernel_rfl
def s72 (G : CallT) (x0 : AV) (H : AHeap) : O :=
 xalloc H [(.int .i64 0), (.str []), (.str []), (.int .i64 0), AV.nilSl, AV.nilSl, AV.nilSl, (.int .i64 0), (.int .i64 0)] fun x2 h1 =>
 xcall h1 (G 66 [x0] h1) fun x6 h2 =>
 xalloc h2 [(.int .i64 0), (.str []), (.int .i64 0), (.int .i64 0)] fun x3 h3 =>
 xstore h3 (astore P h3 65 x3 x6) fun h4 =>
 xb (afieldAddr P 65 x3 3) fun x7 =>
 xb (aload P h4 3 x7) fun x8 =>
 xb (abuild P 54 [(6, x8)]) fun x9 =>
 xalloc h4 [(.int .i64 0), (.str []), (.str []), (.int .i64 0), AV.nilSl, AV.nilSl, AV.nilSl, (.int .i64 0), (.int .i64 0)] fun x4 h5 =>
 xstore h5 (astore P h5 54 x4 x9) fun h6 =>
 xcall h6 (G 64 [x0, (.str [118, 97, 114])] h6) fun x15 h7 =>
 xif (some x15) (s72_j1 G x0 x2 x3 x4 x15 h7) (xcall h7 (G 64 [x0, (.str [108, 101, 116])] h7) fun x17 h8 =>
 s72_j1 G x0 x2 x3 x4 x17 h8)
theorem s72_eq (G : CallT) (N : Nat) (x0 : AV) (H : AHeap) : cF Try.f72 G N (argsF [x0]) H = s72 G x0 H := by
 refine via_top (A := cF Try.f72 G N) ((via_seq (by kernel_rfl) ((via_seq (by kernel_rfl) ((via_seq (by kernel_rfl) ((via_seq (by kernel_rfl) (s72_j0_eq G N) ((via_block (by kernel_rfl) ((via_seq (by kernel_rfl) (s72_j1_eq G N) (via_leaf _))))))) (via_leaf _))) (via_leaf _))) (via_leaf _))) ?_
 delta s72
 generalize s72_j1 G = J0
 revert J0
 refine id ?_
 intro J0
 kernel_rfl
theorem run72 (N : Nat) {x0 : AV} {H : AHeap} {r : AV × AHeap} (h : s72 (evw P) x0 H = some r) : evw P 72 [x0] H = some r :=
 runF Try.func72 (by kernel_rfl) (by kernel_rfl) (by kernel_rfl) ((s72_eq (evw P) N x0 H).trans h)
def s85_j1 (G : CallT) (x0 x3 : AV) (x4 x5 : AV) (H : AHeap) : O :=
 xcall H (G 68 [x0, (.str [61])] H) fun x44 h1 =>
 xcall h1 (G 39 [x0, (.int .i64 0)] h1) fun x46 h2 =>
 xalloc h2 [(.int .i64 0), (.int .i64 0), (.str []), (.str []), (.int .i64 0), AV.nilSl, (.int .i64 0), (.int .i64 0), (.int .i64 0), (.int .i64 0), (.int .i64 0)] fun x6 h3 =>
 xstore h3 (astore P h3 39 x6 x46) fun h4 =>
 xcall h4 (G 68 [x0, (.str [59])] h4) fun x48 h5 =>
 xb (afieldAddr P 39 x5 0) fun x49 =>
 xb (aload P h5 3 x49) fun x50 =>
 xb (fbin P .eql 3 true x50 (.int .i64 4)) fun x51 =>
 xif (some x51) (xb (afieldAddr P 54 x3 0) fun x52 =>
 xstore h5 (astore P h5 3 x52 (.int .i64 3)) fun h6 =>
 xb (afieldAddr P 39 x5 2) fun x53 =>
 xb (aload P h6 9 x53) fun x54 =>
 xb (afieldAddr P 54 x3 1) fun x55 =>
 xstore h6 (astore P h6 9 x55 x54) fun h7 =>
 xb (aload P h7 39 x6) fun x56 =>
 xmake h7 (sliceOf P (h7).next 35 1 [(0, x56)]) fun x57 h8 =>
 xb (afieldAddr P 54 x3 3) fun x58 =>
 xstore h8 (astore P h8 35 x58 x57) fun h9 =>
 xb (aload P h9 54 x3) fun x59 =>
 xstore h9 (astore P h9 54 x4 x59) fun h10 =>
 xb (aload P h10 54 x4) fun r =>
 some (r, h10)) (xb (afieldAddr P 54 x3 0) fun x60 =>
 xstore h5 (astore P h5 3 x60 (.int .i64 4)) fun h6 =>
 xb (aload P h6 39 x5) fun x61 =>
 xb (aload P h6 39 x6) fun x62 =>
 xmake h6 (sliceOf P (h6).next 35 2 [(0, x61), (1, x62)]) fun x63 h7 =>
 xb (afieldAddr P 54 x3 3) fun x64 =>
 xstore h7 (astore P h7 35 x64 x63) fun h8 =>
 xb (aload P h8 54 x3) fun x65 =>
 xstore h8 (astore P h8 54 x4 x65) fun h9 =>
 xb (aload P h9 54 x4) fun r =>
 some (r, h9))
theorem s85_j1_eq (G : CallT) (N : Nat) : ∀ R H, codeC P G N (Code.snd (Code.snd (Code.snd (Code.snd (bodyOf Try.f85))))) (rC Try.f85) [] (rC Try.f85) R H = s85_j1 G (R 0) (R 3) (R 4) (R 5) H := by
 refine via_trans (via_leaf _) fun R H => ?_
 delta s85_j1
 kernel_rfl
def s85_j0 (G : CallT) (x0 x3 : AV) (x4 x5 : AV) (H : AHeap) : O :=
 xb (afieldAddr P 39 x5 0) fun x28 =>
 xb (aload P H 3 x28) fun x29 =>
 xb (fbin P .neq 3 true x29 (.int .i64 4)) fun x30 =>
 xg x30 true H (qp (afieldAddr P 39 x5 0)) fun x32 h1 =>
 xg x30 true h1 (qr (aload P h1 3 x32)) fun x33 h2 =>
 xg x30 true h2 (qp (fbin P .neq 3 true x33 (.int .i64 5))) fun x34 h3 =>
 xb (pickOf x30 (some x34) (some (.bool false))) fun x35 =>
 xg x35 true h3 (qp (afieldAddr P 39 x5 0)) fun x37 h4 =>
 xg x35 true h4 (qr (aload P h4 3 x37)) fun x38 h5 =>
 xg x35 true h5 (qp (fbin P .neq 3 true x38 (.int .i64 6))) fun x39 h6 =>
 xb (pickOf x35 (some x39) (some (.bool false))) fun x40 =>
 xif (some x40) (xcall h6 (G 65 [x0, (.int .i64 2)] h6) fun x42 h7 =>
 s85_j1 G x0 x3 x4 x5 h7) (s85_j1 G x0 x3 x4 x5 h6)
theorem s85_j0_eq (G : CallT) (N : Nat) : ∀ R H, codeC P G N (Code.snd (Code.snd (Code.snd (bodyOf Try.f85)))) (rC Try.f85) [] (rC Try.f85) R H = s85_j0 G (R 0) (R 3) (R 4) (R 5) H := by
 refine via_trans ((via_seq (by kernel_rfl) (s85_j1_eq G N) (via_leaf _))) fun R H => ?_
 delta s85_j0
 generalize s85_j1 G = J0
 revert J0
 refine id ?_
 intro J0
 kernel_rfl
def s85_j2 (G : CallT) (x0 x3 x4 : AV) (H : AHeap) : O :=
 xcall H (G 68 [x0, (.str [59])] H) fun x26 h1 =>
 xb (aload P h1 54 x3) fun x27 =>
 xstore h1 (astore P h1 54 x4 x27) fun h2 =>
 xb (aload P h2 54 x4) fun r =>
 some (r, h2)
theorem s85_j2_eq (G : CallT) (N : Nat) : ∀ R H, codeC P G N (Code.snd (Code.snd (Code.snd (Code.fst (Code.snd (Code.fst (Code.snd (Code.snd (bodyOf Try.f85))))))))) (fun R H => s85_j0 G (R 0) (R 3) (R 4) (R 5) H) [] (rC Try.f85) R H = s85_j2 G (R 0) (R 3) (R 4) H := by
 refine via_trans (via_leaf _) fun R H => ?_
 delta s85_j2
 kernel_rfl
def s85 (G : CallT) (x0 x1 : AV) (H : AHeap) : O :=
 xmake H (boxOf (H).next x1) fun x3 h1 =>
 xalloc h1 [(.int .i64 0), (.str []), (.str []), (.int .i64 0), AV.nilSl, AV.nilSl, AV.nilSl, (.int .i64 0), (.int .i64 0)] fun x4 h2 =>
 xcall h2 (G 39 [x0, (.int .i64 0)] h2) fun x8 h3 =>
 xalloc h3 [(.int .i64 0), (.int .i64 0), (.str []), (.str []), (.int .i64 0), AV.nilSl, (.int .i64 0), (.int .i64 0), (.int .i64 0), (.int .i64 0), (.int .i64 0)] fun x5 h4 =>
 xstore h4 (astore P h4 39 x5 x8) fun h5 =>
 xcall h5 (G 64 [x0, (.str [61])] h5) fun x10 h6 =>
 xb (aun .not x10) fun x11 =>
 xif (some x11) (xb (afieldAddr P 54 x3 0) fun x12 =>
 xstore h6 (astore P h6 3 x12 (.int .i64 9)) fun h7 =>
 xb (aload P h7 39 x5) fun x13 =>
 xmake h7 (sliceOf P (h7).next 35 1 [(0, x13)]) fun x14 h8 =>
 xb (afieldAddr P 54 x3 3) fun x15 =>
 xstore h8 (astore P h8 35 x15 x14) fun h9 =>
 xcall h9 (G 64 [x0, (.str [59])] h9) fun x17 h10 =>
 xg x17 true h10 (qp (afieldAddr P 39 x5 0)) fun x19 h11 =>
 xg x17 true h11 (qr (aload P h11 3 x19)) fun x20 h12 =>
 xg x17 true h12 (qp (fbin P .neq 3 true x20 (.int .i64 7))) fun x21 h13 =>
 xb (pickOf x17 (some x21) (some (.bool false))) fun x22 =>
 xif (some x22) (xcall h13 (G 65 [x0, (.int .i64 2)] h13) fun x24 h14 =>
 s85_j2 G x0 x3 x4 h14) (s85_j2 G x0 x3 x4 h13)) (s85_j0 G x0 x3 x4 x5 h6)
theorem s85_eq (G : CallT) (N : Nat) (x0 : AV) (x1 : AV) (H : AHeap) : cF Try.f85 G N (argsF [x0, x1]) H = s85 G x0 x1 H := by
 refine via_top (A := cF Try.f85 G N) ((via_seq (by kernel_rfl) ((via_seq (by kernel_rfl) ((via_seq (by kernel_rfl) (s85_j0_eq G N) ((via_seq (by kernel_rfl) ((via_cond (by kernel_rfl) ((via_seq (by kernel_rfl) ((via_seq (by kernel_rfl) ((via_seq (by kernel_rfl) (s85_j2_eq G N) (via_leaf _))) (via_leaf _))) (via_leaf _))) (via_leaf _))) (via_leaf _))))) (via_leaf _))) (via_leaf _))) ?_
 delta s85
 generalize s85_j0 G = J0
 generalize s85_j2 G = J1
 revert J0 J1
 refine id ?_
 intro J0 J1
 kernel_rfl
theorem run85 (N : Nat) {x0 x1 : AV} {H : AHeap} {r : AV × AHeap} (h : s85 (evw P) x0 x1 H = some r) : evw P 85 [x0, x1] H = some r :=
 runF Try.func85 (by kernel_rfl) (by kernel_rfl) (by kernel_rfl) ((s85_eq (evw P) N x0 x1 H).trans h)
def s44 (G : CallT) (x0 x1 x2 : AV) (H : AHeap) : O :=
 xalloc H [(.int .i64 0), (.str []), (.str []), (.int .i64 0), AV.nilSl, AV.nilSl, AV.nilSl, (.int .i64 0), (.int .i64 0)] fun x6 h1 =>
 xalloc h1 [(.int .i64 0), (.int .i64 0)] fun x8 h2 =>
 xlen P .max [3, 3] [x2, (.int .i64 0)] h2 fun x14 =>
 xb (abuild P 75 [(0, x0), (1, x1), (2, x14)]) fun x15 =>
 xmake h2 (boxOf (h2).next x15) fun x16 h3 =>
 xcall h3 (G 72 [x16] h3) fun x18 h4 =>
 xalloc h4 [(.int .i64 0), (.str []), (.str []), (.int .i64 0), AV.nilSl, AV.nilSl, AV.nilSl, (.int .i64 0), (.int .i64 0)] fun x10 h5 =>
 xstore h5 (astore P h5 54 x10 x18) fun h6 =>
 xcall h6 (G 38 [x16] h6) fun x20 h7 =>
 xb (aun .not x20) fun x21 =>
 xif (some x21) (xstore h7 (astore P h7 54 x6 (.agg [(.int .i64 0), (.str []), (.str []), (.int .i64 0), AV.nilSl, AV.nilSl, AV.nilSl, (.int .i64 0), (.int .i64 0)])) fun h8 =>
 xb (anil x16) fun x24 =>
 xb (afieldAddr P 75 x24 3) fun x25 =>
 xb (aload P h8 25 x25) fun x26 =>
 xstore h8 (astore P h8 25 x8 x26) fun h9 =>
 bif ((rdIs (aload P h7 25 x25) x26 && (rdIs (aload P h8 25 x25) x26 && true)) && true) then (xb (aload P h9 54 x6) fun r =>
 xb (aload P h9 25 x8) fun r_1 =>
 some (.tuple [r, (.int .i64 0), r_1], h9)) else none) (xb (aload P h7 54 x10) fun x27 =>
 xstore h7 (astore P h7 54 x6 x27) fun h8 =>
 xb (anil x16) fun x29 =>
 xb (afieldAddr P 75 x29 1) fun x30 =>
 xb (aload P h8 3 x30) fun x31 =>
 xstore h8 (astore P h8 25 x8 (.agg [(.int .i64 0), (.int .i64 0)])) fun h9 =>
 bif ((rdIs (aload P h7 3 x30) x31 && (rdIs (aload P h8 3 x30) x31 && true)) && true) then (xb (aload P h9 54 x6) fun r =>
 xb (aload P h9 25 x8) fun r_1 =>
 some (.tuple [r, x31, r_1], h9)) else none)
theorem s44_eq (G : CallT) (N : Nat) (x0 : AV) (x1 : AV) (x2 : AV) (H : AHeap) : cF Try.f44 G N (argsF [x0, x1, x2]) H = s44 G x0 x1 x2 H := by
 refine via_top (A := cF Try.f44 G N) (via_leaf _) ?_
 delta s44
 kernel_rfl
theorem run44 (N : Nat) {x0 x1 x2 : AV} {H : AHeap} {r : AV × AHeap} (h : s44 (evw P) x0 x1 x2 H = some r) : evw P 44 [x0, x1, x2] H = some r :=
 runF Try.func44 (by kernel_rfl) (by kernel_rfl) (by kernel_rfl) ((s44_eq (evw P) N x0 x1 x2 H).trans h)
def s27 (G : CallT) (x0 x1 x2 : AV) (H : AHeap) : O :=
 xalloc H [(.int .i64 0), (.int .i64 0)] fun x8 h1 =>
 xlen P .max [3, 3] [x2, (.int .i64 0)] h1 fun x14 =>
 xb (abuild P 75 [(0, x0), (1, x1), (2, x14)]) fun x15 =>
 xmake h1 (boxOf (h1).next x15) fun x16 h2 =>
 xcall h2 (G 47 [x16] h2) fun x18 h3 =>
 xcall h3 (G 38 [x16] h3) fun x20 h4 =>
 xb (aun .not x20) fun x21 =>
 xif (some x21) (xb (anil x16) fun x23 =>
 xb (afieldAddr P 75 x23 3) fun x24 =>
 xb (aload P h4 25 x24) fun x25 =>
 xstore h4 (astore P h4 25 x8 x25) fun h5 =>
 xb (aload P h5 25 x8) fun r =>
 some (.tuple [AV.nilSl, (.int .i64 0), r], h5)) (xb (anil x16) fun x28 =>
 xb (afieldAddr P 75 x28 1) fun x29 =>
 xb (aload P h4 3 x29) fun x30 =>
 xstore h4 (astore P h4 25 x8 (.agg [(.int .i64 0), (.int .i64 0)])) fun h5 =>
 xb (aload P h5 25 x8) fun r =>
 some (.tuple [x18, x30, r], h5))
theorem s27_eq (G : CallT) (N : Nat) (x0 : AV) (x1 : AV) (x2 : AV) (H : AHeap) : cF Try.f27 G N (argsF [x0, x1, x2]) H = s27 G x0 x1 x2 H := by
 refine via_top (A := cF Try.f27 G N) (via_leaf _) ?_
 delta s27
 kernel_rfl
theorem run27 (N : Nat) {x0 x1 x2 : AV} {H : AHeap} {r : AV × AHeap} (h : s27 (evw P) x0 x1 x2 H = some r) : evw P 27 [x0, x1, x2] H = some r :=
 runF Try.func27 (by kernel_rfl) (by kernel_rfl) (by kernel_rfl) ((s27_eq (evw P) N x0 x1 x2 H).trans h)
end
end Go.Proofs.Ytnjoomfeddamcaa
namespace Go.Proofs.Ytnjoomfeddamcaa
open Go.Ev
theorem rexpr_spec {H : AHeap} {r : Nat} {T : List Tok} {tv : AV} {s : St} (hT : T.length ≤ 20000000) (hx : Ry H r T tv s) : W (evw P 39 [.ptr r 0 0, .int .i64 0] H) (QostE H r T tv (exprQ T s).1 (exprQ T s).2) := by
 obtain ⟨p, q, -, h2, -, -⟩ := rows_both (T := T) (by omega) T.length s (left_le _ _) 0 800000000 800000000 (by omega) (by omega) (by omega)
 have : exprQ T s = q := by simp only [exprQ, h2]
 rw [this]
 exact (all_okR 800000000 (by omega) 800000000 (Nat.le_refl _)).expr hx 0 (by omega) q.1 q.2 h2
theorem rplain_fin {H0 H : AHeap} {r : Nat} {T : List Tok} {tv : AV} {s0 s : St} (hx0 : Ry H0 r T tv s0) (mb : Mt r H0 H) (hrd : Rd5 H r tv s) {a : Sa} {es : List Ex} {ev : AV} (hk : KsV H (Ge (H0.next + 2)) es ev) (g3 : H.get H0.next = some (.row false 9 [a.cells ev .nilSl .nilSl])) (g4 : H.get (H0.next + 1) = some (.row false 9 [[.int .i64 0, .str [], .str [], .int .i64 0, .nilSl, .nilSl, .nilSl, .int .i64 0, .int .i64 0]])) :
  W (s85_j2 (evw P) (.ptr r 0 0) (.ptr H0.next 0 0) (.ptr (H0.next + 1) 0 0) H) (QostS H0 r T tv (.mk a es [] []) (takeR T [59] s)) := by
 have hl := hx0.rd.lt
 have lg := AHeap.get_lt g4
 have ho := hk.oneAV
 rw [s85_j2]
 refine W_call (take_spec (hx0.mut mb hrd) [59] (by simp)) ?_
 rintro _ H1 ⟨rfl, m1, hx1⟩
 refine ⟨m1.1, ?_⟩
 have h3 := m1.get g3 (by omega)
 have h4 := m1.get g4 (by omega)
 have l4 := AHeap.get_lt h4
 simp only [Sa.cells] at h3
 simp -implicitDefEqProofs (disch := first | assumption | omega | (simp only [nxB]; omega) | (simp only [oneB])) only [s85, xlen, AV.cells, splice, aload, astore, Nat.reduceAdd, Nat.reduceLeDiff, reduceIte, allB, tyC, h3, h4, ho]
 exact W_some.2 (QostS.fin (a := a) hx0 (mb.trans m1) hx1.rd (hk.keep (Keep.mut m1 (by unfold Ge; omega) fun _ h => h)) (SsV.nil _ _) (SsV.nil _ _) (by omega) (lo := H0.next + 2) (by omega) _)
theorem QostS.two {H H4 Hf : AHeap} {r : Nat} {T : List Tok} {tv : AV} {s s' : St} {a : Sa} {es : List Ex} {ev : AV} (hx : Ry H r T tv s) (mf : Mt r H H4) (hd : Rd5 H4 r tv s') (hn : H4.next ≤ Hf.next) (hf : ∀ l, l < H4.next → l ≠ H.next → l ≠ H.next + 1 → Hf.get l = H4.get l)
  (hk : Keep H4 (Ge (H.next + 2)) Hf (Ge H.next) → KsV Hf (Ge H.next) es ev) : QostS H r T tv (.mk a es [] []) s' (.agg (a.cells ev .nilSl .nilSl)) Hf := by
 have hl := hx.rd.lt
 have h4 := mf.1
 have m : Mt r H Hf := ⟨by omega, fun l h1 h2 => by rw [hf l (by omega) (by omega) (by omega)]; exact mf.2 l h1 h2⟩
 refine ⟨m, hx.mut m ?_, StV_mk.2 ⟨ev, .nilSl, .nilSl, rfl, hk fun l ro els h g => ⟨by unfold Ge at *; omega, ?_⟩, SsV.nil _ _, SsV.nil _ _⟩⟩
 ·have := hd.lt
  unfold Rd5 at hd ⊢
  rw [hf r (by omega) (by omega) (by omega)]; exact hd
 ·have := AHeap.get_lt g
  unfold Ge at h
  rw [hf l (by omega) (by omega) (by omega)]; exact g
theorem rsets_end {H0 H : AHeap} {r : Nat} {T : List Tok} {tv : AV} {s0 s : St} (hT : T.length ≤ 20000000) (hx0 : Ry H0 r T tv s0) (mb : Mt r H0 H) (hrd : Rd5 H r tv s) {pos : Int} {a : Ea} {ks : List Ex} {kv : AV} {b : Nat} (he : ExV H (fun l => H0.next + 2 ≤ l ∧ l < b) (.mk a ks) (.agg (a.cells kv))) (hb : H0.next + 2 ≤ b)
  (g3 : H.get H0.next = some (.row false 9 [Sa.cells { kind := 0, pos := pos } .nilSl .nilSl .nilSl])) (g4 : H.get (H0.next + 1) = some (.row false 9 [[.int .i64 0, .str [], .str [], .int .i64 0, .nilSl, .nilSl, .nilSl, .int .i64 0, .int .i64 0]])) (g5 : H.get b = some (.row false 11 [a.cells kv])) :
  W (s85_j1 (evw P) (.ptr r 0 0) (.ptr H0.next 0 0) (.ptr (H0.next + 1) 0 0) (.ptr b 0 0) H) (QostS H0 r T tv (Stm.at pos (bif a.kind == 4 then .mk { kind := 3, name := a.name } [(exprQ T (takeR T [61] s)).1] [] [] else .mk { kind := 4 } [.mk a ks, (exprQ T (takeR T [61] s)).1] [] [])) (takeR T [59] (exprQ T (takeR T [61] s)).2)) := by
 have hl := hx0.rd.lt
 have lg5 := AHeap.get_lt g5
 rw [s85_j1]
 refine W_call (take_spec (hx0.mut mb hrd) [61] (by simp)) ?_
 rintro _ H1 ⟨rfl, m1, hx1⟩
 refine ⟨m1.1, ?_⟩
 have n1 := m1.1
 generalize takeR T [61] s = s1 at hx1 ⊢
 simp -implicitDefEqProofs (disch := first | assumption | omega | (simp only [nxB]; omega) | (simp only [oneB])) only [s85, xlen, AV.cells, splice, aload, astore, Nat.reduceAdd, Nat.reduceLeDiff, reduceIte, allB, tyC]
 refine W_call (rexpr_spec hT hx1) ?_
 rintro v H2 ⟨m2, hx2, hv⟩
 refine ⟨m2.1, ?_⟩
 have n2 := m2.1
 obtain ⟨cs, rfl, c1, o1⟩ := hv.cells
 generalize exprQ T s1 = e2 at hx2 hv ⊢
 simp -implicitDefEqProofs (disch := first | assumption | omega | (simp only [nxB]; omega) | (simp only [oneB])) only [s85, xlen, AV.cells, splice, aload, astore, Nat.reduceAdd, Nat.reduceLeDiff, reduceIte, allB, tyC, c1, o1, List.append_nil]
 have p3 := Pur.push H2 (.row false 11 [cs])
 refine W_call (take_spec (hx2.pur p3) [59] (by simp)) ?_
 rintro _ H4 ⟨rfl, m4, hx4⟩
 refine ⟨m4.1, ?_⟩
 have n4 := m4.1
 simp only [AHeap.next_push] at n4
 have lr := hx2.rd.lt
 have k3 := m4.get (p3.get (m2.get (m1.get g3 (by omega)) (by omega))) (by omega)
 have k4 := m4.get (p3.get (m2.get (m1.get g4 (by omega)) (by omega))) (by omega)
 have kb := m4.get (p3.get (m2.get (m1.get g5 (by omega)) (by omega))) (by omega)
 have k6 := m4.get (AHeap.get_push_same H2 (.row false 11 [cs])) (by omega)
 have lk3 := AHeap.get_lt k3
 have lk4 := AHeap.get_lt k4
 have m24 := (p3.mut (· = r)).trans m4
 have mf := (((mb.trans m1).trans m2).trans m24)
 have t1 : List.take 11 cs = cs := List.take_of_length_le (by omega)
 have hv4 := hv.mut (ok' := Ge (H0.next + 2)) m24 (by unfold Ge; have := hx1.rd.lt; omega) fun l h => by unfold Ge at *; omega
 have he4 : ExV H4 (Ge (H0.next + 2)) (.mk a ks) (.agg (a.cells kv)) := he.mut ((m1.trans m2).trans m24) (by omega) fun l h => by unfold Ge; omega
 obtain ⟨kv', hkv, hks⟩ := ExV_mk.1 he
 have hkv1 := hks.oneAV
 have hkk : kv' = kv := by
  have := congrArg (fun v => match v with | AV.agg cs => cs[5]? | _ => none) hkv
  simpa [Ea.cells] using this.symm
 rw [hkk] at hkv1
 have oa : (a.cells kv).all AV.one = true := by simp only [Ea.cells, List.all_cons, List.all_nil, one_int, one_str, hkv1, Bool.and_self]
 simp only [Sa.cells] at k3
 cases hk : a.kind == 4 with
 | true =>
  have hs : ∀ l, sliceOf P l 35 1 [(0, .agg cs)] = some (.sl l 0 1 11 (some 1), .row false 11 [cs]) := fun l => sl35_1 l cs c1 o1
  simp only [Ea.cells] at kb
  simp -implicitDefEqProofs (disch := first | assumption | omega | (simp only [nxB]; omega) | (simp only [oneB])) only [s85, xlen, AV.cells, splice, aload, astore, Nat.reduceAdd, Nat.reduceLeDiff, reduceIte, allB, tyC, k3, k4, kb, k6, hk, t1, hs, AHeap.push_set_lt]
  refine W_some.2 (QostS.two (a := { kind := 3, name := a.name, pos := pos }) hx0 mf hx4.rd ?_ ?_ fun k => KsV.one_at (ro := false) ?_ (by unfold Ge; omega) (ExV.keep k _ _ hv4))
  ·simp only [AHeap.next_push, AHeap.next_set]; omega
  ·intro l q1 q2 q3; simp -implicitDefEqProofs (disch := first | assumption | omega | (simp only [nxB]; omega) | (simp only [oneB])) only [heapB]
  ·simp -implicitDefEqProofs (disch := first | assumption | omega | (simp only [nxB]; omega) | (simp only [oneB])) only [heapB]
 | false =>
  have hs : ∀ l, sliceOf P l 35 2 [(0, .agg (a.cells kv)), (1, .agg cs)] = some (.sl l 0 2 11 (some 2), .row false 11 [a.cells kv, cs]) := fun l => sl35_2 l (a.cells kv) cs rfl oa c1 o1
  have kb' := kb
  simp only [Ea.cells] at kb' hs
  simp -implicitDefEqProofs (disch := first | assumption | omega | (simp only [nxB]; omega) | (simp only [oneB])) only [s85, xlen, AV.cells, splice, aload, astore, Nat.reduceAdd, Nat.reduceLeDiff, reduceIte, allB, tyC, k3, k4, kb', k6, hk, t1, hs, AHeap.push_set_lt]
  refine W_some.2 (QostS.two (a := { kind := 4, pos := pos }) hx0 mf hx4.rd ?_ ?_ fun k => KsV.two_at (ro := false) ?_ (by unfold Ge; omega) (ExV.keep k _ _ he4) (ExV.keep k _ _ hv4))
  ·simp only [AHeap.next_push, AHeap.next_set]; omega
  ·intro l q1 q2 q3; simp -implicitDefEqProofs (disch := first | assumption | omega | (simp only [nxB]; omega) | (simp only [oneB])) only [heapB]
  ·simp -implicitDefEqProofs (disch := first | assumption | omega | (simp only [nxB]; omega) | (simp only [oneB])) only [heapB, Ea.cells]
theorem rplain_spec {H : AHeap} {r : Nat} {T : List Tok} {tv : AV} {s : St} (hT : T.length ≤ 20000000) (hx : Ry H r T tv s) (pos : Int) : W (evw P 85 [.ptr r 0 0, .agg (Sa.cells { kind := 0, pos := pos } .nilSl .nilSl .nilSl)] H) (QostS H r T tv ((plainR T s).1.at pos) (plainR T s).2) := by
 refine W_of (fun _ => run85 0) ?_
 have hl := hx.rd.lt
 have hbx : ∀ l, boxOf l (.agg (Sa.cells { kind := 0, pos := pos } .nilSl .nilSl .nilSl)) = some (.ptr l 0 0, .row false 9 [Sa.cells { kind := 0, pos := pos } .nilSl .nilSl .nilSl]) := fun l => boxOf_agg l _ rfl
 have p1 := (Pur.push H (.row false 9 [Sa.cells { kind := 0, pos := pos } .nilSl .nilSl .nilSl])).then_push (.row false 9 [[.int .i64 0, .str [], .str [], .int .i64 0, .nilSl, .nilSl, .nilSl, .int .i64 0, .int .i64 0]])
 simp -implicitDefEqProofs (disch := first | assumption | omega | (simp only [nxB]; omega) | (simp only [oneB])) only [s85, xlen, AV.cells, splice, aload, astore, Nat.reduceAdd, Nat.reduceLeDiff, reduceIte, allB, tyC, hbx]
 refine W_call (rexpr_spec hT (hx.pur p1)) ?_
 rintro v H2 ⟨m2, hx2, he⟩
 refine ⟨m2.1, ?_⟩
 have n2 := m2.1
 simp only [AHeap.next_push] at n2
 unfold plainR
 obtain ⟨cs, rfl, c1, o1⟩ := he.cells
 have t1 : List.take 11 cs = cs := List.take_of_length_le (by omega)
 have g3 : H2.get H.next = some (.row false 9 [Sa.cells { kind := 0, pos := pos } .nilSl .nilSl .nilSl]) := m2.get (by simp -implicitDefEqProofs (disch := first | assumption | omega | (simp only [nxB]; omega) | (simp only [oneB])) only [heapB]) (by omega)
 have g4 := m2.get (AHeap.get_push_same (H.push (.row false 9 [Sa.cells { kind := 0, pos := pos } .nilSl .nilSl .nilSl])) (.row false 9 [[.int .i64 0, .str [], .str [], .int .i64 0, .nilSl, .nilSl, .nilSl, .int .i64 0, .int .i64 0]])) (by simp only [AHeap.next_push]; omega)
 simp only [AHeap.next_push] at g4
 generalize exprQ T s = e2 at hx2 he ⊢
 simp -implicitDefEqProofs (disch := first | assumption | omega | (simp only [nxB]; omega) | (simp only [oneB])) only [s85, xlen, AV.cells, splice, aload, astore, Nat.reduceAdd, Nat.reduceLeDiff, reduceIte, allB, tyC, c1, o1, List.append_nil]
 have p3 := Pur.push H2 (.row false 11 [cs])
 refine W_call (ris_spec (hx2.rd.pur p3) (hx2.tk.pur p3) [61] (by simp)) ?_
 rintro _ H4 ⟨rfl, p4⟩
 refine ⟨p4.1, ?_⟩
 have n4 := p4.1
 simp only [AHeap.next_push] at n4
 have p34 := p3.trans p4
 have k3 := p34.get g3
 have k4 := p34.get g4
 have k5 := p4.get (AHeap.get_push_same H2 (.row false 11 [cs]))
 have lk3 := AHeap.get_lt k3
 have lk5 := AHeap.get_lt k5
 have he4 : ExV H4 (fun l => H.next + 2 ≤ l ∧ l < H2.next) e2.1 (.agg cs) := ExV.keep (Keep.pur p34 fun l h => by simpa only [Ge, AHeap.next_push] using h) _ _ he.below
 have mb := ((p1.mut (· = r)).trans m2).trans (p34.mut _)
 have hx4 := hx2.pur p34
 cases hb : isR T e2.2 [61] with
 | true =>
  simp -implicitDefEqProofs (disch := first | assumption | omega | (simp only [nxB]; omega) | (simp only [oneB])) only [s85, xlen, AV.cells, splice, aload, astore, Nat.reduceAdd, Nat.reduceLeDiff, reduceIte, allB, tyC, Bool.not_true]
  unfold setsR
  have fin : ∀ (H5 : AHeap) (a : Ea) (ks : List Ex) (kv : AV), ExV H5 (fun l => H.next + 2 ≤ l ∧ l < H2.next) (.mk a ks) (.agg (a.cells kv)) → Mt r H H5 → Rd5 H5 r tv (bif exK (.mk a ks) then failS T 2 e2.2 else e2.2) → H5.get H.next = some (.row false 9 [Sa.cells { kind := 0, pos := pos } .nilSl .nilSl .nilSl]) → H5.get (H.next + 1) = some (.row false 9 [[.int .i64 0, .str [], .str [], .int .i64 0, .nilSl, .nilSl, .nilSl, .int .i64 0, .int .i64 0]]) → H5.get H2.next = some (.row false 11 [a.cells kv]) →
    W (s85_j1 (evw P) (.ptr r 0 0) (.ptr H.next 0 0) (.ptr (H.next + 1) 0 0) (.ptr H2.next 0 0) H5) (QostS H r T tv (Stm.at pos (bif (Ex.mk a ks).kind == 4 then .mk { kind := 3, name := (Ex.mk a ks).name } [(exprQ T (eqR T (.mk a ks) e2.2)).1] [] [] else .mk { kind := 4 } [.mk a ks, (exprQ T (eqR T (.mk a ks) e2.2)).1] [] [])) (takeR T [59] (exprQ T (eqR T (.mk a ks) e2.2)).2)) :=
   fun H5 a ks kv h m5 d5 q3 q4 q5 => rsets_end hT hx m5 d5 h (by omega) q3 q4 q5
  rcases he2 : e2.1 with ⟨a, ks⟩
  rw [he2] at he4
  obtain ⟨kv, hcs, -⟩ := ExV_mk.1 he4
  simp only [AV.agg.injEq] at hcs
  subst hcs
  have k5' := k5
  simp only [Ea.cells] at k5'
  simp -implicitDefEqProofs (disch := first | assumption | omega | (simp only [nxB]; omega) | (simp only [oneB])) only [s85_j0, xlen, AV.cells, splice, aload, astore, Nat.reduceAdd, Nat.reduceLeDiff, reduceIte, allB, k5']
  have fin0 := fun (h : exK (.mk a ks) = false) => fin H4 a ks kv he4 mb (by rw [h]; exact hx4.rd) k3 k4 k5
  cases q4 : (a.kind != 4) with
  | false =>
   simp -implicitDefEqProofs (disch := first | assumption | omega | (simp only [nxB]; omega) | (simp only [oneB])) only [xlen, AV.cells, splice, aload, astore, Nat.reduceAdd, Nat.reduceLeDiff, reduceIte, allB, k5']
   exact fin0 (by simp only [exK, Ex.kind, q4, Bool.false_and])
  | true =>
   cases q5 : (a.kind != 5) with
   | false =>
    simp -implicitDefEqProofs (disch := first | assumption | omega | (simp only [nxB]; omega) | (simp only [oneB])) only [xlen, AV.cells, splice, aload, astore, Nat.reduceAdd, Nat.reduceLeDiff, reduceIte, allB, k5', q5]
    exact fin0 (by simp only [exK, Ex.kind, q4, q5, Bool.false_and, Bool.and_false])
   | true =>
    cases q6 : (a.kind != 6) with
    | false =>
     simp -implicitDefEqProofs (disch := first | assumption | omega | (simp only [nxB]; omega) | (simp only [oneB])) only [xlen, AV.cells, splice, aload, astore, Nat.reduceAdd, Nat.reduceLeDiff, reduceIte, allB, k5', q5, q6]
     exact fin0 (by simp only [exK, Ex.kind, q4, q5, q6, Bool.and_false])
    | true =>
     simp -implicitDefEqProofs (disch := first | assumption | omega | (simp only [nxB]; omega) | (simp only [oneB])) only [xlen, AV.cells, splice, aload, astore, Nat.reduceAdd, Nat.reduceLeDiff, reduceIte, allB, k5', q5, q6]
     refine W_call (rfail_spec hx4 2) ?_
     rintro _ H5 ⟨rfl, m5, hx5⟩
     refine ⟨m5.1, ?_⟩
     exact fin H5 a ks kv (he4.mut m5 (by omega) fun _ h => h) (mb.trans m5) (by rw [show exK (.mk a ks) = true by simp only [exK, Ex.kind, q4, q5, q6, Bool.and_self]]; exact hx5.rd) (m5.get k3 (by omega)) (m5.get k4 (by omega)) (m5.get k5 (by omega))
 | false =>
  have hs : ∀ l, sliceOf P l 35 1 [(0, .agg cs)] = some (.sl l 0 1 11 (some 1), .row false 11 [cs]) := fun l => sl35_1 l cs c1 o1
  have k3' := k3
  simp only [Sa.cells] at k3'
  simp -implicitDefEqProofs (disch := first | assumption | omega | (simp only [nxB]; omega) | (simp only [oneB])) only [s85, xlen, AV.cells, splice, aload, astore, Nat.reduceAdd, Nat.reduceLeDiff, reduceIte, allB, tyC, Bool.not_false, k3', k4, k5, t1, hs, AHeap.push_set_lt]
  have hf : ∀ l, l < H4.next → l ≠ H.next → ((H4.set H.next (.row false 9 [Sa.cells { kind := 9, pos := pos } (.sl H4.next 0 1 11 (some 1)) .nilSl .nilSl])).push (.row false 11 [cs])).get l = H4.get l := fun l h1 h2 => by simp -implicitDefEqProofs (disch := first | assumption | omega | (simp only [nxB]; omega) | (simp only [oneB])) only [heapB]
  have m5 : Mt r H ((H4.set H.next (.row false 9 [Sa.cells { kind := 9, pos := pos } (.sl H4.next 0 1 11 (some 1)) .nilSl .nilSl])).push (.row false 11 [cs])) := (mb.then_set (.inr (Nat.le_refl _)) _).then_push _
  have d5 : Rd5 ((H4.set H.next (.row false 9 [Sa.cells { kind := 9, pos := pos } (.sl H4.next 0 1 11 (some 1)) .nilSl .nilSl])).push (.row false 11 [cs])) r tv e2.2 := by
   have h := hx4.rd
   have := h.lt
   unfold Rd5 at h ⊢
   rw [hf r (by omega) (by omega)]; exact h
  have kv5 : KsV ((H4.set H.next (.row false 9 [Sa.cells { kind := 9, pos := pos } (.sl H4.next 0 1 11 (some 1)) .nilSl .nilSl])).push (.row false 11 [cs])) (Ge (H.next + 2)) [e2.1] (.sl H4.next 0 1 11 (some 1)) :=
   KsV.one_at (ro := false) (by simp -implicitDefEqProofs (disch := first | assumption | omega | (simp only [nxB]; omega) | (simp only [oneB])) only [heapB]) (by unfold Ge; omega) (ExV.keep (fun l ro els h g => ⟨by unfold Ge; omega, by rw [hf l (by omega) (by omega)]; exact g⟩) _ _ he4)
  have q3 : ((H4.set H.next (.row false 9 [Sa.cells { kind := 9, pos := pos } (.sl H4.next 0 1 11 (some 1)) .nilSl .nilSl])).push (.row false 11 [cs])).get H.next = some (.row false 9 [Sa.cells { kind := 9, pos := pos } (.sl H4.next 0 1 11 (some 1)) .nilSl .nilSl]) := by simp -implicitDefEqProofs (disch := first | assumption | omega | (simp only [nxB]; omega) | (simp only [oneB])) only [heapB]
  have q4 := (hf (H.next + 1) (by omega) (by omega)).trans k4
  have q5 := (hf H2.next (by omega) (by omega)).trans k5
  simp only [Sa.cells] at m5 d5 kv5 q3 q4 q5
  generalize (H4.set H.next (.row false 9 [[AV.int .i64 9, .str [], .str [], .int .i64 0, .sl H4.next 0 1 11 (some 1), .nilSl, .nilSl, .int .i64 pos, .int .i64 0]])).push (.row false 11 [cs]) = H5 at m5 d5 kv5 q3 q4 q5 ⊢
  have hx5 := hx.mut m5 d5
  refine W_call (ris_spec d5 hx5.tk [59] (by simp)) ?_
  rintro _ H6 ⟨rfl, p6⟩
  refine ⟨p6.1, ?_⟩
  have fin : ∀ (H7 : AHeap) (s7 : St), Mt r H6 H7 → Rd5 H7 r tv s7 → W (s85_j2 (evw P) (.ptr r 0 0) (.ptr H.next 0 0) (.ptr (H.next + 1) 0 0) H7) (QostS H r T tv (.mk { kind := 9, pos := pos } [e2.1] [] []) (takeR T [59] s7)) := fun H7 s7 m7 d7 =>
   rplain_fin hx ((m5.trans (p6.mut _)).trans m7) d7 (kv5.keep (Keep.mut ((p6.mut _).trans m7) (by unfold Ge; omega) fun _ h => h)) (m7.get (p6.get q3) (by omega)) (m7.get (p6.get q4) (by omega))
  have hx6 := hx5.pur p6
  cases h59 : isR T e2.2 [59] with
  | false =>
   simp -implicitDefEqProofs (disch := first | assumption | omega | (simp only [nxB]; omega) | (simp only [oneB])) only [xlen, AV.cells, splice, aload, astore, Nat.reduceAdd, Nat.reduceLeDiff, reduceIte, allB]
   simp only [Bool.false_and, cond_false]
   exact fin H6 _ (Mut.refl _ _) hx6.rd
  | true =>
   have q6 := p6.get q5
   rcases he2 : e2.1 with ⟨a, ks⟩
   rw [he2] at he4 fin
   obtain ⟨kv, hcs, -⟩ := ExV_mk.1 he4
   simp only [AV.agg.injEq] at hcs
   subst hcs
   simp only [Ea.cells] at q6
   cases hk : (a.kind != 7) with
   | false =>
    simp -implicitDefEqProofs (disch := first | assumption | omega | (simp only [nxB]; omega) | (simp only [oneB])) only [xlen, AV.cells, splice, aload, astore, Nat.reduceAdd, Nat.reduceLeDiff, reduceIte, allB, q6, hk]
    simp only [Ex.kind, hk, Bool.and_false, cond_false]
    exact fin H6 _ (Mut.refl _ _) hx6.rd
   | true =>
    simp -implicitDefEqProofs (disch := first | assumption | omega | (simp only [nxB]; omega) | (simp only [oneB])) only [xlen, AV.cells, splice, aload, astore, Nat.reduceAdd, Nat.reduceLeDiff, reduceIte, allB, q6, hk]
    simp only [Ex.kind, hk, Bool.and_self, cond_true]
    refine W_call (rfail_spec hx6 2) ?_
    rintro _ H7 ⟨rfl, m7, hx7⟩
    refine ⟨m7.1, ?_⟩
    exact fin H7 _ m7 hx7.rd
end Go.Proofs.Ytnjoomfeddamcaa

namespace Go.Proofs.Ytnjoomfeddamcaa
open Go.Ev
def StmtROk (n : Nat) : Prop := ∀ {H : AHeap} {r : Nat} {T : List Tok} {tv : AV} {s : St}, T.length ≤ 20000000 → Ry H r T tv s → ∀ (e : Stm) (s' : St), stmtR T n s = some (e, s') → W (evw P 72 [.ptr r 0 0] H) (QostS H r T tv e s')
def BlockROk (n : Nat) : Prop := ∀ {H : AHeap} {r : Nat} {T : List Tok} {tv : AV} {s : St}, T.length ≤ 20000000 → Ry H r T tv s → ∀ (l : List Stm) (s' : St), blockR T n s = some (l, s') → W (evw P 47 [.ptr r 0 0] H) fun v H' => Mt r H H' ∧ Ry H' r T tv s' ∧ SsV H' (Ge H.next) l v
theorem rblock_end {M : Nat} {H0 H : AHeap} {r : Nat} {T : List Tok} {tv : AV} {s0 s : St} (hx0 : Ry H0 r T tv s0) (mb : Mt r H0 H) (hrd : Rd5 H r tv s) {l : List Stm} {v : AV} (hv : SsV H (Ge H0.next) l v) :
  W (s47_j0 (evw P) M (.ptr r 0 0) v H) fun v' H' => Mt r H0 H' ∧ Ry H' r T tv (closesR T [125] s) ∧ SsV H' (Ge H0.next) l v' := by
 have hl := hx0.rd.lt
 rw [s47_j0]
 refine W_call (rcloses_spec (hx0.mut mb hrd) [125] (by simp)) ?_
 rintro _ H1 ⟨rfl, m1, hx1⟩
 refine ⟨m1.1, ?_⟩
 exact W_some.2 ⟨mb.trans m1, hx1, hv.keep (KeepS.mut m1 (by unfold Ge; omega) fun _ h => h)⟩
theorem rloop {N M : Nat} (ih : ∀ k, k < N → StmtROk k) {H0 : AHeap} {r : Nat} {T : List Tok} {tv : AV} {s0 : St} (hT : T.length ≤ 20000000) (hx0 : Ry H0 r T tv s0) :
  ∀ (n m : Nat), n ≤ N → n < m → ∀ (H : AHeap) (s : St) (l : List Stm) (v : AV), Mt r H0 H → Rd5 H r tv s → l.length + n ≤ 1000000000 → BldS H0.next H l v → ∀ (l' : List Stm) (s' : St), loopR T n l s = some (l', s') →
   W (s47_l1 (evw P) M m (.ptr r 0 0) v H) fun v' H' => Mt r H0 H' ∧ Ry H' r T tv (closesR T [125] s') ∧ SsV H' (Ge H0.next) l' v'
 | 0, m, hN, hm, H, s, l, v, mb, hrd, hlen, hb, l', s', h => by simp [loopR] at h
 | n + 1, 0, hN, hm, H, s, l, v, mb, hrd, hlen, hb, l', s', h => by omega
 | n + 1, m + 1, hN, hm, H, s, l, v, mb, hrd, hlen, hb, l', s', h => by
  have hl := hx0.rd.lt
  have hle := mb.1
  have hx := hx0.mut mb hrd
  simp only [loopR] at h
  simp only [s47_l1]
  rw [s47_b1]
  refine W_call (rok_spec hrd) ?_
  rintro _ H1 ⟨rfl, rfl⟩
  refine ⟨Nat.le_refl _, ?_⟩
  by_cases hf : s.fe = 0
  ·have hf' : (s.fe == 0) = true := by simp [hf]
   simp -implicitDefEqProofs (disch := first | assumption | omega | (simp only [nxB]; omega) | (simp only [oneB])) only [xlen, AV.cells, splice, aload, astore, Nat.reduceAdd, Nat.reduceLeDiff, reduceIte, allB, hf']
   refine W_eff (ris_spec hrd hx.tk [125] (by simp)) ?_
   rintro _ H2 ⟨rfl, p2⟩
   refine ⟨p2.1, ?_⟩
   have hb2 := hb.mut (p2.mut (· = r)) hl
   cases hi : isR T s [125] with
   | true =>
    simp only [hf', hi, Bool.not_true, Bool.and_false, cond_false, Option.some.injEq, Prod.mk.injEq] at h
    obtain ⟨rfl, rfl⟩ := h
    simp -implicitDefEqProofs (disch := first | assumption | omega | (simp only [nxB]; omega) | (simp only [oneB])) only [xlen, AV.cells, splice, aload, astore, Nat.reduceAdd, Nat.reduceLeDiff, reduceIte, allB, hf', Bool.not_true, Bool.not_false]
    exact rblock_end hx0 (mb.trans (p2.mut _)) (hx.pur p2).rd hb2.ss
   | false =>
    simp only [hf', hi, Bool.not_false, Bool.and_self, cond_true, Option.bind_eq_some_iff] at h
    obtain ⟨⟨e1, s1⟩, h1, h2⟩ := h
    simp -implicitDefEqProofs (disch := first | assumption | omega | (simp only [nxB]; omega) | (simp only [oneB])) only [xlen, AV.cells, splice, aload, astore, Nat.reduceAdd, Nat.reduceLeDiff, reduceIte, allB, hf', Bool.not_true, Bool.not_false]
    refine W_call (ih n (by omega) hT (hx.pur p2) e1 s1 h1) ?_
    rintro w H3 ⟨m3, hx3, he⟩
    refine ⟨m3.1, ?_⟩
    obtain ⟨cs, rfl, c1, o1⟩ := he.cells
    have hb3 := hb2.mut m3 hl
    have n3 := m3.1
    have n2 := p2.1
    obtain ⟨v', H', ha, hb', mm, hn'⟩ := hb3.app he (by omega) (fun L k c hv => by
     rcases hb2 with ⟨q1, _⟩ | ⟨L', els, q1, q2, _⟩
     ·rw [q1] at hv; cases hv
     ·rw [q1] at hv
      cases hv
      exact AHeap.get_lt q2) (by omega) (by omega)
    have hs := fun l => sl50_1 l cs c1 o1
    simp -implicitDefEqProofs (disch := first | assumption | omega | (simp only [nxB]; omega) | (simp only [oneB])) only [xlen, AV.cells, splice, aload, astore, Nat.reduceAdd, Nat.reduceLeDiff, reduceIte, allB, hs, ha, xcall_some]
    have mm' : Mt r H0 H' := ⟨by have := mb.1; omega, fun k hk hr => by
     rw [mm.2 k (by omega) (by omega)]
     exact ((mb.trans (p2.mut _)).trans m3).2 k hk hr⟩
    have hr' : Rd5 H' r tv s1 := mm.get hx3.rd (by omega)
    exact rloop ih hT hx0 n m (by omega) (by omega) H' s1 (l ++ [e1]) v' mm' hr' (by simp only [List.length_append, List.length_cons, List.length_nil]; omega) hb' l' s' h2
  ·have hf' : (s.fe == 0) = false := by simpa using hf
   simp only [hf', Bool.false_and, cond_false, Option.some.injEq, Prod.mk.injEq] at h
   obtain ⟨rfl, rfl⟩ := h
   simp -implicitDefEqProofs (disch := first | assumption | omega | (simp only [nxB]; omega) | (simp only [oneB])) only [xlen, AV.cells, splice, aload, astore, Nat.reduceAdd, Nat.reduceLeDiff, reduceIte, allB, hf', Bool.not_true]
   exact rblock_end hx0 mb hrd hb.ss
theorem rblock_step {n : Nat} (hn : n ≤ 1000000000) (ih : ∀ k, k < n → StmtROk k) : BlockROk (n + 1) := by
 intro H r T tv s hT hx l s' h
 refine W_of (fun _ => run47 (n + 1)) ?_
 simp only [blockR, Option.bind_eq_some_iff] at h
 obtain ⟨⟨l1, s1⟩, h1, h2⟩ := h
 simp only [Option.some.injEq, Prod.mk.injEq] at h2
 obtain ⟨rfl, rfl⟩ := h2
 rw [s47]
 refine W_call (ropens_spec hx [123] (by simp)) ?_
 rintro _ H1 ⟨rfl, m1, hx1⟩
 refine ⟨m1.1, ?_⟩
 exact rloop ih hT hx n (n + 1) (Nat.le_refl _) (by omega) H1 _ [] .nilSl m1 hx1.rd (by simpa using hn) (.inl ⟨rfl, rfl⟩) l1 s1 h1
structure Bx (H0 H : AHeap) (r b3 b4 : Nat) (tv : AV) (t : Tok) (s : St) (c : List AV) : Prop where
 m : Mt r H0 H
 rd : Rd5 H r tv s
 g2 : H.get H0.next = some (.row false 9 [[.int .i64 0, .str [], .str [], .int .i64 0, .nilSl, .nilSl, .nilSl, .int .i64 0, .int .i64 0]])
 g3 : H.get b3 = some (.row false 4 [[.int .i64 t.kind, .str t.text, .int .i64 t.n, .int .i64 t.pos]])
 g4 : H.get b4 = some (.row false 9 [c])
 l3 : H0.next < b3
 l4 : b3 < b4
theorem Bx.mut {H0 H H' : AHeap} {r b3 b4 : Nat} {tv : AV} {t : Tok} {s s' : St} {c : List AV} (h : Bx H0 H r b3 b4 tv t s c) (hr : r < H0.next) (m : Mt r H H') (hd : Rd5 H' r tv s') : Bx H0 H' r b3 b4 tv t s' c :=
 ⟨h.m.trans m, hd, m.get h.g2 (by omega), m.get h.g3 (by have := h.l3; omega), m.get h.g4 (by have := h.l3; have := h.l4; omega), h.l3, h.l4⟩
theorem Bx.set {H0 H : AHeap} {r b3 b4 : Nat} {tv : AV} {t : Tok} {s : St} {c : List AV} (h : Bx H0 H r b3 b4 tv t s c) (hr : r < H0.next) (c' : List AV) : Bx H0 (H.set b4 (.row false 9 [c'])) r b3 b4 tv t s c' := by
 have h3 := h.l3
 have h4 := h.l4
 refine ⟨h.m.then_set (.inr (by omega)) _, ?_, ?_, ?_, AHeap.get_set_same (AHeap.get_lt h.g4), h3, h4⟩
 ·have := h.rd
  unfold Rd5 at this ⊢
  rw [AHeap.get_set_other (by omega)]; exact this
 ·rw [AHeap.get_set_other (by omega)]; exact h.g2
 ·rw [AHeap.get_set_other (by omega)]; exact h.g3
theorem Bx.push {H0 H : AHeap} {r b3 b4 : Nat} {tv : AV} {t : Tok} {s : St} {c : List AV} (h : Bx H0 H r b3 b4 tv t s c) (hr : r < H0.next) (blk : ABlk) : Bx H0 (H.push blk) r b3 b4 tv t s c :=
 h.mut hr ((Pur.push H blk).mut _) (h.rd.pur (Pur.push H blk))
section
variable {H0 H : AHeap} {r b3 b4 : Nat} {T : List Tok} {tv : AV} {s0 s : St} {t : Tok}
theorem rstmt_end (hx0 : Ry H0 r T tv s0) {a : Sa} {es : List Ex} {b1 c1 : List Stm} {ev bv cv : AV} (b : Bx H0 H r b3 b4 tv t s (a.cells ev bv cv)) (h1 : KsV H (Ge (b4 + 1)) es ev) (h2 : SsV H (Ge (b4 + 1)) b1 bv) (h3 : SsV H (Ge (b4 + 1)) c1 cv) :
  W (s72_j0 (evw P) (.ptr H0.next 0 0) (.ptr b4 0 0) H) (QostS H0 r T tv (.mk a es b1 c1) s) := by
 have o1 := h1.oneAV
 have o2 := h2.oneAV
 have o3 := h3.oneAV
 have g2 := b.g2
 have g3 := b.g4
 have l2 := AHeap.get_lt g2
 have q3 := b.l3
 have q4 := b.l4
 simp only [Sa.cells] at g3
 simp -implicitDefEqProofs (disch := first | assumption | omega | (simp only [nxB]; omega) | (simp only [oneB])) only [s72_j0, xlen, AV.cells, splice, aload, astore, Nat.reduceAdd, Nat.reduceLeDiff, reduceIte, allB, tyC, g2, g3, o1, o2, o3]
 exact W_some.2 (QostS.fin (a := a) hx0 b.m b.rd h1 h2 h3 (Nat.le_refl _) (by omega) _)
theorem Bx.expr (hr : r < H0.next) {e : Ex} {cs c c' : List AV} {L : Nat} (b : Bx H0 H r b3 b4 tv t s c) (he : ExV H (Ge (b4 + 1)) e (.agg cs)) (hL : L = H.next) : Bx H0 ((H.set b4 (.row false 9 [c'])).push (.row false 11 [cs])) r b3 b4 tv t s c' ∧ KsV ((H.set b4 (.row false 9 [c'])).push (.row false 11 [cs])) (Ge (b4 + 1)) [e] (.sl L 0 1 11 (some 1)) := by
 subst hL
 have h4 := AHeap.get_lt b.g4
 refine ⟨(b.set hr c').push hr _, KsV.one_at (ro := false) ?_ (by unfold Ge; omega) (ExV.keep ?_ e _ he)⟩
 ·exact AHeap.get_push_same (H.set b4 (.row false 9 [c'])) _
 ·intro l ro els h g
  refine ⟨h, ?_⟩
  unfold Ge at h
  exact (Pur.push _ _).get (by rw [AHeap.get_set_other (by omega)]; exact g)
theorem rdecl_end (hx0 : Ry H0 r T tv s0) {a : Sa} {es : List Ex} {ev : AV} (b : Bx H0 H r b3 b4 tv t s (a.cells ev .nilSl .nilSl)) (h1 : KsV H (Ge (b4 + 1)) es ev) :
  W (s72_j2 (evw P) (.ptr r 0 0) (.ptr H0.next 0 0) (.ptr b4 0 0) H) (QostS H0 r T tv (.mk a es [] []) (takeR T [59] s)) := by
 have hl := hx0.rd.lt
 have q3 := b.l3
 have q4 := b.l4
 rw [s72_j2]
 refine W_call (take_spec (hx0.mut b.m b.rd) [59] (by simp)) ?_
 rintro _ H1 ⟨rfl, m1, hx1⟩
 refine ⟨m1.1, ?_⟩
 exact rstmt_end hx0 (b.mut hl m1 hx1.rd) (h1.keep (Keep.mut m1 (by unfold Ge; omega) fun _ h => h)) (SsV.nil _ _) (SsV.nil _ _)
theorem rret_end (hx0 : Ry H0 r T tv s0) {a : Sa} {es : List Ex} {ev : AV} (b : Bx H0 H r b3 b4 tv t s (a.cells ev .nilSl .nilSl)) (h1 : KsV H (Ge (b4 + 1)) es ev) :
  W (s72_j3 (evw P) (.ptr r 0 0) (.ptr H0.next 0 0) (.ptr b4 0 0) H) (QostS H0 r T tv (.mk a es [] []) (takeR T [59] s)) := by
 have hl := hx0.rd.lt
 have q3 := b.l3
 have q4 := b.l4
 rw [s72_j3]
 refine W_call (take_spec (hx0.mut b.m b.rd) [59] (by simp)) ?_
 rintro _ H1 ⟨rfl, m1, hx1⟩
 refine ⟨m1.1, ?_⟩
 exact rstmt_end hx0 (b.mut hl m1 hx1.rd) (h1.keep (Keep.mut m1 (by unfold Ge; omega) fun _ h => h)) (SsV.nil _ _) (SsV.nil _ _)
end
end Go.Proofs.Ytnjoomfeddamcaa

namespace Go.Proofs.Ytnjoomfeddamcaa
open Go.Ev
section
variable {H0 H : AHeap} {r b3 b4 : Nat} {T : List Tok} {tv : AV} {s0 s : St} {t : Tok}
theorem st54b {a : Sa} {ev bv cv v : AV} (g : H.get b4 = some (.row false 9 [a.cells ev bv cv])) (o : v.one = true) : astore P H 50 (.ptr b4 0 5) v = some (H.set b4 (.row false 9 [a.cells ev v cv])) := by
 rw [st_any ts50 g rfl (by rw [cells_one o]; rfl) (by rw [cells_one o, List.all_cons, o]; rfl) (by decide), cells_one o]; rfl
theorem st54c {a : Sa} {ev bv cv v : AV} (g : H.get b4 = some (.row false 9 [a.cells ev bv cv])) (o : v.one = true) : astore P H 50 (.ptr b4 0 6) v = some (H.set b4 (.row false 9 [a.cells ev bv v])) := by
 rw [st_any ts50 g rfl (by rw [cells_one o]; rfl) (by rw [cells_one o, List.all_cons, o]; rfl) (by decide), cells_one o]; rfl
theorem rvar_j1 (hT : T.length ≤ 20000000) (hx0 : Ry H0 r T tv s0) (b : Bx H0 H r b3 b4 tv t s (Sa.cells { kind := 0, pos := t.pos } .nilSl .nilSl .nilSl)) (tk : TokSl H0 tv T) :
  W (s72_j1 (evw P) (.ptr r 0 0) (.ptr H0.next 0 0) (.ptr b3 0 0) (.ptr b4 0 0) (.bool true) H) (QostS H0 r T tv ((bif t.text == [108, 101, 116] then letsR T (goS s) else declR T (goS s)).1.at t.pos) (bif t.text == [108, 101, 116] then letsR T (goS s) else declR T (goS s)).2) := by
 have hl := hx0.rd.lt
 have ho1 := hx0.tk.one
 have q3 := b.l3
 have q4 := b.l4
 obtain ⟨m1, d1⟩ := rset b.rd (goS s)
 have b1 := (b.mut hl m1 d1).set hl (Sa.cells { kind := 1, pos := t.pos } .nilSl .nilSl .nilSl)
 have hr := b.rd
 unfold Rd5 at hr
 have g4 := b.g4
 have lr := b.rd.lt
 have l4 := AHeap.get_lt g4
 simp only [Sa.cells] at g4
 simp -implicitDefEqProofs (disch := first | assumption | omega | (simp only [nxB]; omega) | (simp only [oneB])) only [s72_j1, xlen, AV.cells, splice, aload, astore, Nat.reduceAdd, Nat.reduceLeDiff, reduceIte, allB, tyC, hr, ho1, g4]
 refine W_call (rname_spec (hx0.mut b1.m b1.rd)) ?_
 rintro _ H3 ⟨rfl, m3, hx3⟩
 refine ⟨m3.1, ?_⟩
 have b2 := b1.mut hl m3 hx3.rd
 have b2' := b2.set hl (Sa.cells { kind := 1, name := (nameR T (goS s)).1, pos := t.pos } .nilSl .nilSl .nilSl)
 have k4 := b2.g4
 have lk4 := AHeap.get_lt k4
 simp only [Sa.cells] at k4
 simp -implicitDefEqProofs (disch := first | assumption | omega | (simp only [nxB]; omega) | (simp only [oneB])) only [xlen, AV.cells, splice, aload, astore, Nat.reduceAdd, Nat.reduceLeDiff, reduceIte, allB, tyC, k4]
 refine W_call (take_spec (hx0.mut b2'.m b2'.rd) [58] (by simp)) ?_
 rintro _ H5 ⟨rfl, m5, hx5⟩
 refine ⟨m5.1, ?_⟩
 have b5 := b2'.mut hl m5 hx5.rd
 refine W_call (rof_spec hx5) ?_
 rintro _ H6 ⟨rfl, m6, hx6⟩
 refine ⟨m6.1, ?_⟩
 have b6 := b5.mut hl m6 hx6.rd
 have b6' := b6.set hl (Sa.cells { kind := 1, name := (nameR T (goS s)).1, ofn := (ofR T (takeR T [58] (nameR T (goS s)).2)).1.1, ofd := (ofR T (takeR T [58] (nameR T (goS s)).2)).1.2, pos := t.pos } .nilSl .nilSl .nilSl)
 have k6 := b6.g4
 have k3 := b6.g3
 have lk6 := AHeap.get_lt k6
 simp only [Sa.cells] at k6
 unfold letsR declR typedR
 generalize ofR T (takeR T [58] (nameR T (goS s)).2) = o at *
 generalize nameR T (goS s) = nm at *
 cases ht : t.text == [108, 101, 116] with
 | false =>
  simp -implicitDefEqProofs (disch := first | assumption | omega | (simp only [nxB]; omega) | (simp only [oneB])) only [xlen, AV.cells, splice, aload, astore, Nat.reduceAdd, Nat.reduceLeDiff, reduceIte, allB, tyC, k6, k3, ht]
  exact rdecl_end hx0 b6' (KsV.nil _ _)
 | true =>
  have b7 := b6'.set hl (Sa.cells { kind := 2, name := nm.1, ofn := o.1.1, ofd := o.1.2, pos := t.pos } .nilSl .nilSl .nilSl)
  rw [AHeap.set_set] at b7
  simp -implicitDefEqProofs (disch := first | assumption | omega | (simp only [nxB]; omega) | (simp only [oneB])) only [xlen, AV.cells, splice, aload, astore, Nat.reduceAdd, Nat.reduceLeDiff, reduceIte, allB, tyC, k6, k3, ht]
  refine W_call (take_spec (hx0.mut b7.m b7.rd) [61] (by simp)) ?_
  rintro _ H8 ⟨rfl, m8, hx8⟩
  refine ⟨m8.1, ?_⟩
  have b8 := b7.mut hl m8 hx8.rd
  refine W_call (rexpr_spec hT hx8) ?_
  rintro v H9 ⟨m9, hx9, he⟩
  refine ⟨m9.1, ?_⟩
  have b9 := b8.mut hl m9 hx9.rd
  obtain ⟨cs, rfl, c1, o1⟩ := he.cells
  have hs : ∀ l, sliceOf P l 35 1 [(0, .agg cs)] = some (.sl l 0 1 11 (some 1), .row false 11 [cs]) := fun l => sl35_1 l cs c1 o1
  have k9 := b9.g4
  have lk9 := AHeap.get_lt k9
  have k8 := AHeap.get_lt b8.g4
  obtain ⟨bb, kk⟩ := Bx.expr hl (c' := Sa.cells { kind := 2, name := nm.1, ofn := o.1.1, ofd := o.1.2, pos := t.pos } (.sl H9.next 0 1 11 (some 1)) .nilSl .nilSl) b9 (ExV.keep (Keep.le' fun l h => by unfold Ge at *; first | omega | (simp only [AHeap.next_set] at *; omega)) _ _ he) rfl
  simp only [Sa.cells] at k9
  simp -implicitDefEqProofs (disch := first | assumption | omega | (simp only [nxB]; omega) | (simp only [oneB])) only [xlen, AV.cells, splice, aload, astore, Nat.reduceAdd, Nat.reduceLeDiff, reduceIte, allB, tyC, hs, k9, AHeap.push_set_lt]
  exact rdecl_end hx0 bb kk
theorem rif_j1 {n : Nat} (ih : BlockROk n) (hT : T.length ≤ 20000000) (hx0 : Ry H0 r T tv s0) (b : Bx H0 H r b3 b4 tv t s (Sa.cells { kind := 0, pos := t.pos } .nilSl .nilSl .nilSl)) {kd : Int} {e : Ex} {b1 : List Stm} {s1 s2 : St} (hk : kd = 5 ∨ kd = 6) (he2 : exprQ T (goS s) = (e, s1)) (hb : blockR T n s1 = some (b1, s2))
  {Q : AV → AHeap → Prop} {k : AV → AHeap → O} (hq : ∀ (Hf : AHeap) (ev bv : AV), Bx H0 Hf r b3 b4 tv t s2 (Sa.cells { kind := kd, pos := t.pos } ev bv .nilSl) → KsV Hf (Ge (b4 + 1)) [e] ev → SsV Hf (Ge (b4 + 1)) b1 bv → W (k (.tuple []) Hf) Q) :
  W (xb (anil (.ptr r 0 0)) fun x50 => xb (afieldAddr P 75 x50 1) fun x51 => xb (aload P H 3 x51) fun x52 => xb (fbin P .add 3 true x52 (.int .i64 1)) fun x53 => xb (anil (.ptr r 0 0)) fun x54 => xb (afieldAddr P 75 x54 1) fun x55 =>
   xstore H (astore P H 3 x55 x53) fun h2 => xb (afieldAddr P 54 (.ptr b4 0 0) 0) fun x56 => xstore h2 (astore P h2 3 x56 (.int .i64 kd)) fun h3 => xcall h3 (evw P 39 [.ptr r 0 0, .int .i64 0] h3) fun x58 h4 => xmake h4 (sliceOf P h4.next 35 1 [(0, x58)]) fun x59 h5 =>
   xb (afieldAddr P 54 (.ptr b4 0 0) 3) fun x60 => xstore h5 (astore P h5 35 x60 x59) fun h6 => xcall h6 (evw P 47 [.ptr r 0 0] h6) fun x62 h7 => xb (afieldAddr P 54 (.ptr b4 0 0) 4) fun x63 => xstore h7 (astore P h7 50 x63 x62) fun h8 => k (.tuple []) h8) Q := by
 have hl := hx0.rd.lt
 have ho1 := hx0.tk.one
 have q3 := b.l3
 have q4 := b.l4
 obtain ⟨m1, d1⟩ := rset b.rd (goS s)
 have b1' := (b.mut hl m1 d1).set hl (Sa.cells { kind := kd, pos := t.pos } .nilSl .nilSl .nilSl)
 have hr := b.rd
 unfold Rd5 at hr
 have g4 := b.g4
 have lr := b.rd.lt
 have l4 := AHeap.get_lt g4
 simp only [Sa.cells] at g4
 simp -implicitDefEqProofs (disch := first | assumption | omega | (simp only [nxB]; omega) | (simp only [oneB])) only [xlen, AV.cells, splice, aload, astore, Nat.reduceAdd, Nat.reduceLeDiff, reduceIte, allB, tyC, hr, ho1, g4]
 refine W_call (rexpr_spec hT (hx0.mut b1'.m b1'.rd)) ?_
 rintro v H4 ⟨m4, hx4, he⟩
 refine ⟨m4.1, ?_⟩
 rw [he2] at hx4 he
 have b4' := b1'.mut hl m4 hx4.rd
 obtain ⟨cs, rfl, c1, o1⟩ := he.cells
 have hs : ∀ l, sliceOf P l 35 1 [(0, .agg cs)] = some (.sl l 0 1 11 (some 1), .row false 11 [cs]) := fun l => sl35_1 l cs c1 o1
 have k4 := b4'.g4
 have lk4 := AHeap.get_lt k4
 have lb := AHeap.get_lt b1'.g4
 obtain ⟨bb, kk⟩ := Bx.expr hl (c' := Sa.cells { kind := kd, pos := t.pos } (.sl H4.next 0 1 11 (some 1)) .nilSl .nilSl) b4' (ExV.keep (Keep.le' fun l h => by unfold Ge at *; first | omega | (simp only [AHeap.next_set] at *; omega)) _ _ he) rfl
 have nb : b4 < ((H4.set b4 (.row false 9 [Sa.cells { kind := kd, pos := t.pos } (.sl H4.next 0 1 11 (some 1)) .nilSl .nilSl])).push (.row false 11 [cs])).next := AHeap.get_lt bb.g4
 simp only [Sa.cells] at k4 nb
 simp -implicitDefEqProofs (disch := first | assumption | omega | (simp only [nxB]; omega) | (simp only [oneB])) only [xlen, AV.cells, splice, aload, astore, Nat.reduceAdd, Nat.reduceLeDiff, reduceIte, allB, tyC, hs, k4, AHeap.push_set_lt]
 refine W_call (ih hT (hx0.mut bb.m bb.rd) b1 s2 hb) ?_
 rintro bv H7 ⟨m7, hx7, hbv⟩
 refine ⟨m7.1, ?_⟩
 have b7 := bb.mut hl m7 hx7.rd
 have kk7 := kk.keep (Keep.mut m7 (ok' := Ge (b4 + 1)) (by unfold Ge; omega) fun _ h => h)
 have bv7 : SsV H7 (Ge (b4 + 1)) b1 bv := hbv.keep (KeepS.le' fun l h => by unfold Ge at *; simp only [Sa.cells] at h; omega)
 have ob := hbv.oneAV
 have st := st54b b7.g4 ob
 have lk7 := AHeap.get_lt b7.g4
 simp -implicitDefEqProofs (disch := first | assumption | omega | (simp only [nxB]; omega) | (simp only [oneB])) only [xlen, evB, tabB, Nat.zero_add]
 rw [st, xstore_some (by simp only [AHeap.next_set]; omega)]
 have ks : KeepS H7 (Ge (b4 + 1)) (H7.set b4 (.row false 9 [Sa.cells { kind := kd, pos := t.pos } (.sl H4.next 0 1 11 (some 1)) bv .nilSl])) (Ge (b4 + 1)) := KeepS.set _ (by unfold Ge; omega) fun _ h => h
 exact hq _ _ _ (b7.set hl _) (kk7.keep ks.ex) (bv7.keep ks)
end
theorem rstmt_step {n : Nat} (ih : BlockROk n) : StmtROk (n + 1) := by
 intro H r T tv s hT hx e s' h
 refine W_of (fun _ => run72 0) ?_
 have hl := hx.rd.lt
 have ho1 := hx.tk.one
 have p1 := Pur.push H (.row false 9 [[.int .i64 0, .str [], .str [], .int .i64 0, .nilSl, .nilSl, .nilSl, .int .i64 0, .int .i64 0]])
 simp -implicitDefEqProofs (disch := first | assumption | omega | (simp only [nxB]; omega) | (simp only [oneB])) only [s72, xlen, AV.cells, splice, aload, astore, Nat.reduceAdd, Nat.reduceLeDiff, reduceIte, allB, tyC]
 refine W_call (rtok_spec (hx.rd.pur p1) (hx.tk.pur p1)) ?_
 rintro _ H2 ⟨rfl, p2⟩
 refine ⟨p2.1, ?_⟩
 have n2 := p2.1
 simp only [AHeap.next_push] at n2
 generalize ht : tokAt T s.at_ = t
 have p3 := ((p1.trans p2).then_push (.row false 4 [[.int .i64 t.kind, .str t.text, .int .i64 t.n, .int .i64 t.pos]])).then_push (.row false 9 [Sa.cells { kind := 0, pos := t.pos } .nilSl .nilSl .nilSl])
 have p23 := (Pur.push H2 (.row false 4 [[.int .i64 t.kind, .str t.text, .int .i64 t.n, .int .i64 t.pos]])).then_push (.row false 9 [Sa.cells { kind := 0, pos := t.pos } .nilSl .nilSl .nilSl])
 have b : Bx H ((H2.push (.row false 4 [[.int .i64 t.kind, .str t.text, .int .i64 t.n, .int .i64 t.pos]])).push (.row false 9 [Sa.cells { kind := 0, pos := t.pos } .nilSl .nilSl .nilSl])) r H2.next (H2.next + 1) tv t s (Sa.cells { kind := 0, pos := t.pos } .nilSl .nilSl .nilSl) :=
  ⟨p3.mut _, hx.rd.pur p3, p23.get (p2.get (AHeap.get_push_same H _)), by simp -implicitDefEqProofs (disch := first | assumption | omega | (simp only [nxB]; omega) | (simp only [oneB])) only [heapB], AHeap.get_push_same (H2.push _) _, by omega, by omega⟩
 simp -implicitDefEqProofs (disch := first | assumption | omega | (simp only [nxB]; omega) | (simp only [oneB])) only [s72, xlen, AV.cells, splice, aload, astore, Nat.reduceAdd, Nat.reduceLeDiff, reduceIte, allB, tyC, Tok.v]
 simp only [Sa.cells] at b
 generalize (H2.push (.row false 4 [[.int .i64 t.kind, .str t.text, .int .i64 t.n, .int .i64 t.pos]])).push (.row false 9 [[.int .i64 0, .str [], .str [], .int .i64 0, .nilSl, .nilSl, .nilSl, .int .i64 t.pos, .int .i64 0]]) = H3 at b ⊢
 have bx : Bx H H3 r H2.next (H2.next + 1) tv t s (Sa.cells { kind := 0, pos := t.pos } .nilSl .nilSl .nilSl) := b
 generalize H2.next = b3 at bx ⊢
 clear b
 simp only [stmtR, ht, Option.bind_eq_some_iff] at h
 obtain ⟨⟨e1, s1⟩, h1, h2⟩ := h
 simp only [Option.some.injEq, Prod.mk.injEq] at h2
 obtain ⟨rfl, rfl⟩ := h2
 have hx3 := hx.mut bx.m bx.rd
 have vl : ∀ (H' : AHeap), Pur H3 H' → (isR T s [118, 97, 114] || isR T s [108, 101, 116]) = true → W (s72_j1 (evw P) (.ptr r 0 0) (.ptr H.next 0 0) (.ptr b3 0 0) (.ptr (b3 + 1) 0 0) (.bool true) H') (QostS H r T tv (e1.at t.pos) s1) := by
  intro H' p' hv
  rw [hv, cond_true, Option.some.injEq] at h1
  have := rvar_j1 hT hx (bx.mut hl (p'.mut _) (bx.rd.pur p')) hx.tk
  rw [h1] at this; exact this
 refine W_call (ris_spec hx3.rd hx3.tk [118, 97, 114] (by simp)) ?_
 rintro _ H4 ⟨rfl, p4⟩
 refine ⟨p4.1, ?_⟩
 cases hv : isR T s [118, 97, 114] with
 | true =>
  simp -implicitDefEqProofs (disch := first | assumption | omega | (simp only [nxB]; omega) | (simp only [oneB])) only [xlen, AV.cells, splice, aload, astore, Nat.reduceAdd, Nat.reduceLeDiff, reduceIte, allB]
  exact vl H4 p4 (by rw [hv]; rfl)
 | false =>
  simp -implicitDefEqProofs (disch := first | assumption | omega | (simp only [nxB]; omega) | (simp only [oneB])) only [xlen, AV.cells, splice, aload, astore, Nat.reduceAdd, Nat.reduceLeDiff, reduceIte, allB]
  refine W_call (ris_spec (hx3.pur p4).rd (hx3.pur p4).tk [108, 101, 116] (by simp)) ?_
  rintro _ H5 ⟨rfl, p5⟩
  refine ⟨p5.1, ?_⟩
  have p45 := p4.trans p5
  cases hle : isR T s [108, 101, 116] with
  | true => exact vl H5 p45 (by rw [hle, Bool.or_true])
  | false =>
   rw [hv, hle, Bool.or_false, cond_false] at h1
   simp -implicitDefEqProofs (disch := first | assumption | omega | (simp only [nxB]; omega) | (simp only [oneB])) only [s72_j1, xlen, AV.cells, splice, aload, astore, Nat.reduceAdd, Nat.reduceLeDiff, reduceIte, allB]
   have hx5 := hx3.pur p45
   refine W_call (ris_spec hx5.rd hx5.tk [105, 102] (by simp)) ?_
   rintro _ H6 ⟨rfl, p6⟩
   refine ⟨p6.1, ?_⟩
   have p46 := p45.trans p6
   have hx6 := hx5.pur p6
   have b6 := bx.mut hl (p46.mut _) (bx.rd.pur p46)
   have q4 := bx.l3
   cases hif : isR T s [105, 102] with
   | true =>
    simp only [hif, cond_true, Option.bind_eq_some_iff] at h1
    obtain ⟨⟨c1, s2⟩, hb1, h3⟩ := h1
    simp -implicitDefEqProofs (disch := first | assumption | omega | (simp only [nxB]; omega) | (simp only [oneB])) only [xif_bool, cond_true]
    refine rif_j1 ih hT hx b6 (.inl rfl) (e := (exprQ T (goS s)).1) (s1 := (exprQ T (goS s)).2) rfl hb1 (k := fun _ h8 => xcall h8 (evw P 64 [.ptr r 0 0, .str [101, 108, 115, 101]] h8) _) ?_
    intro Hf ev bv bf k1 k2
    have hxf := hx.mut bf.m bf.rd
    refine W_call (ris_spec hxf.rd hxf.tk [101, 108, 115, 101] (by simp)) ?_
    rintro _ H9 ⟨rfl, p9⟩
    refine ⟨p9.1, ?_⟩
    have b9 := bf.mut hl (p9.mut _) (bf.rd.pur p9)
    have k19 := k1.pur p9
    have k29 := k2.keep (KeepS.pur p9 fun _ h => h)
    cases hel : isR T s2 [101, 108, 115, 101] with
    | false =>
     simp only [hel, cond_false, Option.some.injEq, Prod.mk.injEq] at h3
     obtain ⟨rfl, rfl⟩ := h3
     simp -implicitDefEqProofs (disch := first | assumption | omega | (simp only [nxB]; omega) | (simp only [oneB])) only [xlen, AV.cells, splice, aload, astore, Nat.reduceAdd, Nat.reduceLeDiff, reduceIte, allB]
     exact rstmt_end hx b9 k19 k29 (SsV.nil _ _)
    | true =>
     simp only [hel, cond_true, Option.bind_eq_some_iff] at h3
     obtain ⟨⟨c2, s3⟩, hb2, h4⟩ := h3
     simp only [Option.some.injEq, Prod.mk.injEq] at h4
     obtain ⟨rfl, rfl⟩ := h4
     obtain ⟨ma, da⟩ := rset b9.rd (goS s2)
     have ba := b9.mut hl ma da
     have hr9 := b9.rd
     unfold Rd5 at hr9
     have lr9 := b9.rd.lt
     simp -implicitDefEqProofs (disch := first | assumption | omega | (simp only [nxB]; omega) | (simp only [oneB])) only [xlen, AV.cells, splice, aload, astore, Nat.reduceAdd, Nat.reduceLeDiff, reduceIte, allB, hr9, ho1]
     refine W_call (ih hT (hx.mut ba.m ba.rd) c2 s3 hb2) ?_
     rintro cv Hb ⟨mb, hxb, hcv⟩
     refine ⟨mb.1, ?_⟩
     have bb := ba.mut hl mb hxb.rd
     have lb := AHeap.get_lt bb.g4
     have lba := AHeap.get_lt ba.g4
     have st := st54c bb.g4 hcv.oneAV
     simp -implicitDefEqProofs (disch := first | assumption | omega | (simp only [nxB]; omega) | (simp only [oneB])) only [xlen, evB, tabB, Nat.zero_add]
     rw [st, xstore_some (by simp only [AHeap.next_set]; omega)]
     have kk : KeepS H9 (Ge (b3 + 1 + 1)) Hb (Ge (b3 + 1 + 1)) := KeepS.mut (ma.trans mb) (by unfold Ge; omega) fun _ h => h
     have ks : KeepS Hb (Ge (b3 + 1 + 1)) (Hb.set (b3 + 1) (.row false 9 [Sa.cells { kind := 5, pos := t.pos } ev bv cv])) (Ge (b3 + 1 + 1)) := KeepS.set _ (by unfold Ge; omega) fun _ h => h
     exact rstmt_end hx (bb.set hl _) ((k19.keep kk.ex).keep ks.ex) ((k29.keep kk).keep ks) ((hcv.keep (KeepS.le' fun l h => by unfold Ge at *; omega)).keep ks)
   | false =>
    simp only [hif, cond_false] at h1
    simp -implicitDefEqProofs (disch := first | assumption | omega | (simp only [nxB]; omega) | (simp only [oneB])) only [xlen, AV.cells, splice, aload, astore, Nat.reduceAdd, Nat.reduceLeDiff, reduceIte, allB]
    refine W_call (ris_spec hx6.rd hx6.tk [119, 104, 105, 108, 101] (by simp)) ?_
    rintro _ H7 ⟨rfl, p7⟩
    refine ⟨p7.1, ?_⟩
    have hx7 := hx6.pur p7
    have b7 := b6.mut hl (p7.mut _) (b6.rd.pur p7)
    cases hwh : isR T s [119, 104, 105, 108, 101] with
    | true =>
     simp only [hwh, cond_true, Option.bind_eq_some_iff] at h1
     obtain ⟨⟨c1, s2⟩, hb1, h3⟩ := h1
     simp only [Option.some.injEq, Prod.mk.injEq] at h3
     obtain ⟨rfl, rfl⟩ := h3
     simp -implicitDefEqProofs (disch := first | assumption | omega | (simp only [nxB]; omega) | (simp only [oneB])) only [xif_bool, cond_true]
     refine rif_j1 ih hT hx b7 (.inr rfl) (e := (exprQ T (goS s)).1) (s1 := (exprQ T (goS s)).2) rfl hb1 (k := fun _ h8 => s72_j0 (evw P) (.ptr H.next 0 0) (.ptr (b3 + 1) 0 0) h8) ?_
     exact fun Hf ev bv bf k1 k2 => rstmt_end hx bf k1 k2 (SsV.nil _ _)
    | false =>
     simp only [hwh, cond_false] at h1
     simp -implicitDefEqProofs (disch := first | assumption | omega | (simp only [nxB]; omega) | (simp only [oneB])) only [xlen, AV.cells, splice, aload, astore, Nat.reduceAdd, Nat.reduceLeDiff, reduceIte, allB]
     refine W_call (ris_spec hx7.rd hx7.tk [114, 101, 116, 117, 114, 110] (by simp)) ?_
     rintro _ H8 ⟨rfl, p8⟩
     refine ⟨p8.1, ?_⟩
     have hx8 := hx7.pur p8
     have b8 := b7.mut hl (p8.mut _) (b7.rd.pur p8)
     cases hrt : isR T s [114, 101, 116, 117, 114, 110] with
     | true =>
      simp only [hrt, cond_true, Option.some.injEq] at h1
      obtain ⟨m9, d9⟩ := rset b8.rd (goS s)
      have b9 := (b8.mut hl m9 d9).set hl (Sa.cells { kind := 7, pos := t.pos } .nilSl .nilSl .nilSl)
      have hr8 := b8.rd
      unfold Rd5 at hr8
      have g8 := b8.g4
      have lr8 := b8.rd.lt
      have l8 := AHeap.get_lt g8
      simp only [Sa.cells] at g8
      simp -implicitDefEqProofs (disch := first | assumption | omega | (simp only [nxB]; omega) | (simp only [oneB])) only [xlen, AV.cells, splice, aload, astore, Nat.reduceAdd, Nat.reduceLeDiff, reduceIte, allB, tyC, hr8, ho1, g8]
      refine W_call (ris_spec b9.rd (hx.mut b9.m b9.rd).tk [59] (by simp)) ?_
      rintro _ Ha ⟨rfl, pa⟩
      refine ⟨pa.1, ?_⟩
      have ba := b9.mut hl (pa.mut _) (b9.rd.pur pa)
      unfold retsR at h1
      cases h59 : isR T (goS s) [59] with
      | true =>
       simp only [h59, cond_true, Prod.mk.injEq] at h1
       obtain ⟨rfl, rfl⟩ := h1
       simp -implicitDefEqProofs (disch := first | assumption | omega | (simp only [nxB]; omega) | (simp only [oneB])) only [xlen, AV.cells, splice, aload, astore, Nat.reduceAdd, Nat.reduceLeDiff, reduceIte, allB, Bool.not_true]
       exact rret_end hx ba (KsV.nil _ _)
      | false =>
       simp only [h59, cond_false, Prod.mk.injEq] at h1
       obtain ⟨rfl, rfl⟩ := h1
       simp -implicitDefEqProofs (disch := first | assumption | omega | (simp only [nxB]; omega) | (simp only [oneB])) only [xlen, AV.cells, splice, aload, astore, Nat.reduceAdd, Nat.reduceLeDiff, reduceIte, allB, Bool.not_false]
       refine W_call (rexpr_spec hT (hx.mut ba.m ba.rd)) ?_
       rintro v Hb ⟨mb, hxb, he⟩
       refine ⟨mb.1, ?_⟩
       have bb := ba.mut hl mb hxb.rd
       obtain ⟨cs, rfl, c1, o1⟩ := he.cells
       have hs : ∀ l, sliceOf P l 35 1 [(0, .agg cs)] = some (.sl l 0 1 11 (some 1), .row false 11 [cs]) := fun l => sl35_1 l cs c1 o1
       have kb := bb.g4
       have lkb := AHeap.get_lt kb
       have lka := AHeap.get_lt ba.g4
       obtain ⟨bz, kz⟩ := Bx.expr hl (c' := Sa.cells { kind := 7, pos := t.pos } (.sl Hb.next 0 1 11 (some 1)) .nilSl .nilSl) bb (ExV.keep (Keep.le' fun l h => by unfold Ge at *; first | omega | (simp only [AHeap.next_set] at *; omega)) _ _ he) rfl
       simp only [Sa.cells] at kb
       simp -implicitDefEqProofs (disch := first | assumption | omega | (simp only [nxB]; omega) | (simp only [oneB])) only [xlen, AV.cells, splice, aload, astore, Nat.reduceAdd, Nat.reduceLeDiff, reduceIte, allB, tyC, hs, kb, AHeap.push_set_lt]
       exact rret_end hx bz kz
     | false =>
      simp only [hrt, cond_false] at h1
      simp -implicitDefEqProofs (disch := first | assumption | omega | (simp only [nxB]; omega) | (simp only [oneB])) only [xlen, AV.cells, splice, aload, astore, Nat.reduceAdd, Nat.reduceLeDiff, reduceIte, allB]
      refine W_call (ris_spec hx8.rd hx8.tk [112, 114, 105, 110, 116] (by simp)) ?_
      rintro _ H9 ⟨rfl, p9⟩
      refine ⟨p9.1, ?_⟩
      have hx9 := hx8.pur p9
      have b9 := b8.mut hl (p9.mut _) (b8.rd.pur p9)
      have g9 := b9.g4
      have lr9 := b9.rd.lt
      have l9 := AHeap.get_lt g9
      cases hpr : isR T s [112, 114, 105, 110, 116] with
      | true =>
       simp only [hpr, cond_true, Option.some.injEq] at h1
       obtain ⟨ma, da⟩ := rset b9.rd (goS s)
       have ba := (b9.mut hl ma da).set hl (Sa.cells { kind := 8, pos := t.pos } .nilSl .nilSl .nilSl)
       have hr9 := b9.rd
       unfold Rd5 at hr9
       simp only [Sa.cells] at g9
       unfold printR at h1
       simp only [Prod.mk.injEq] at h1
       obtain ⟨rfl, rfl⟩ := h1
       simp -implicitDefEqProofs (disch := first | assumption | omega | (simp only [nxB]; omega) | (simp only [oneB])) only [xlen, AV.cells, splice, aload, astore, Nat.reduceAdd, Nat.reduceLeDiff, reduceIte, allB, tyC, hr9, ho1, g9]
       refine W_call (rexpr_spec hT (hx.mut ba.m ba.rd)) ?_
       rintro v Hb ⟨mb, hxb, he⟩
       refine ⟨mb.1, ?_⟩
       have bb := ba.mut hl mb hxb.rd
       obtain ⟨cs, rfl, c1, o1⟩ := he.cells
       have hs : ∀ l, sliceOf P l 35 1 [(0, .agg cs)] = some (.sl l 0 1 11 (some 1), .row false 11 [cs]) := fun l => sl35_1 l cs c1 o1
       have kb := bb.g4
       have lkb := AHeap.get_lt kb
       have lka := AHeap.get_lt ba.g4
       obtain ⟨bz, kz⟩ := Bx.expr hl (c' := Sa.cells { kind := 8, pos := t.pos } (.sl Hb.next 0 1 11 (some 1)) .nilSl .nilSl) bb (ExV.keep (Keep.le' fun l h => by unfold Ge at *; first | omega | (simp only [AHeap.next_set] at *; omega)) _ _ he) rfl
       simp only [Sa.cells] at kb
       simp -implicitDefEqProofs (disch := first | assumption | omega | (simp only [nxB]; omega) | (simp only [oneB])) only [xlen, AV.cells, splice, aload, astore, Nat.reduceAdd, Nat.reduceLeDiff, reduceIte, allB, tyC, hs, kb, AHeap.push_set_lt]
       refine W_call (take_spec (hx.mut bz.m bz.rd) [59] (by simp)) ?_
       rintro _ Hc ⟨rfl, mc, hxc⟩
       refine ⟨mc.1, ?_⟩
       exact rstmt_end hx (bz.mut hl mc hxc.rd) (kz.keep (Keep.mut mc (by unfold Ge; omega) fun _ h => h)) (SsV.nil _ _) (SsV.nil _ _)
      | false =>
       simp only [hpr, cond_false, Option.some.injEq] at h1
       have g9' := g9
       simp only [Sa.cells] at g9'
       simp -implicitDefEqProofs (disch := first | assumption | omega | (simp only [nxB]; omega) | (simp only [oneB])) only [xlen, AV.cells, splice, aload, astore, Nat.reduceAdd, Nat.reduceLeDiff, reduceIte, allB, tyC, g9']
       refine W_call (rplain_spec hT (hx.mut b9.m b9.rd) t.pos) ?_
       rintro v Ha ⟨ma, hxa, he⟩
       refine ⟨ma.1, ?_⟩
       have ba := b9.mut hl ma hxa.rd
       obtain ⟨cs, rfl, c1, o1⟩ := he.cells
       have td : List.take 9 cs = cs := List.take_of_length_le (by omega)
       have ga := ba.g2
       have la := AHeap.get_lt ga
       rw [h1] at he hxa
       simp -implicitDefEqProofs (disch := first | assumption | omega | (simp only [nxB]; omega) | (simp only [oneB])) only [xlen, AV.cells, splice, aload, astore, Nat.reduceAdd, Nat.reduceLeDiff, reduceIte, allB, tyC, ga, c1, o1, td, List.append_nil]
       exact W_some.2 (QostS.ret hx ba.m hxa.rd (Nat.le_refl _) he (by omega) _)
structure AllKR (n : Nat) : Prop where
 stmt : StmtROk n
 block : BlockROk n
theorem allKR : ∀ n, n ≤ 900000000 → AllKR n := by
 intro n
 induction n using Nat.strongRecOn with
 | _ n ih =>
  intro hn
  cases n with
  | zero => exact ⟨fun _ _ _ _ h => by simp [stmtR] at h, fun _ _ _ _ h => by simp [blockR] at h⟩
  | succ n =>
   have i := ih n (by omega) (by omega)
   exact ⟨rstmt_step i.block, rblock_step (by omega) fun k hk => (ih k (by omega) (by omega)).stmt⟩
end Go.Proofs.Ytnjoomfeddamcaa


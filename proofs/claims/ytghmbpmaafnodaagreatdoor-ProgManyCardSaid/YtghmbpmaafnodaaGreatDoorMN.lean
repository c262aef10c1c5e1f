/-
  Texts of one proof, laid together: U6 U7 ShP Fds Qb Qc Qd.
-/
import Derived.Test.YtghmbpmaafnodaaGreatDoorML
import Derived.Test.YtghmbpmaafnodaaGreatDoorMM
import Derived.Test.YtghmbpmaafnodaaGreatDoorMD
set_option linter.unusedVariables false
set_option linter.unusedSimpArgs false
namespace Go.Proofs.YtghmbpmaafnodaaGreatDoor
open Go.Ev
theorem un144 : P.underlying 144 = some (.map 9 143) := by kernel_rfl
theorem az143 : azero P 143 = some .nilFunc := by kernel_rfl
theorem mu104 {H : AHeap} {l : Nat} {es : List (AV × AV)} (k : Bs) (v : AV) (hg : H.get l = some (.map es)) (hf : afind .string (.str k) es 0 = some none) : amapUpdate P H 144 (.map l) (.str k) v = some (H.set l (.map (es ++ [(.str k, v)]))) := by
 simp only [amapUpdate, un144, un9, hg, plainKey, hf, if_true]
def stepsM : List (AV × AV) := [(.str [118, 97, 114], fn 139), (.str [108, 101, 116], fn 140), (.str [105, 102], fn 141), (.str [119, 104, 105, 108, 101], fn 142), (.str [114, 101, 116, 117, 114, 110], fn 143), (.str [112, 114, 105, 110, 116], fn 144)]
theorem steps_spec (H : AHeap) : W (evw P orc 125 [] H) fun v H' => v = .map H.next ∧ H' = H.push (.map stepsM) := by
 refine W_of (fun _ => run125 0) ?_
 simp only [s125, xmake_some]
 rw [mu104 _ _ (AHeap.get_push_same H _) rfl, xstore_some (by simp), AHeap.push_set]
 rw [mu104 _ _ (AHeap.get_push_same H _) rfl, xstore_some (by simp), AHeap.push_set]
 rw [mu104 _ _ (AHeap.get_push_same H _) rfl, xstore_some (by simp), AHeap.push_set]
 rw [mu104 _ _ (AHeap.get_push_same H _) rfl, xstore_some (by simp), AHeap.push_set]
 rw [mu104 _ _ (AHeap.get_push_same H _) rfl, xstore_some (by simp), AHeap.push_set]
 rw [mu104 _ _ (AHeap.get_push_same H _) rfl, xstore_some (by simp), AHeap.push_set]
 exact W_some.2 ⟨rfl, rfl⟩
theorem lk104 {H : AHeap} {l : Nat} (t : Bs) (hg : H.get l = some (.map stepsM)) : alookup P H 144 (.map l) (.str t) false = some (lookM t stepsM) := by
 rcases afind_look t stepsM 0 (by intro e he; simp [stepsM] at he; rcases he with rfl | rfl | rfl | rfl | rfl | rfl <;> exact ⟨_, rfl⟩) with ⟨j, v, h1, h2⟩ | ⟨h1, h2⟩
 ·simp only [alookup, un144, un9, az143, plainKey, if_true, hg, h1, h2, Bool.false_eq_true, if_false]
 ·simp only [alookup, un144, un9, az143, plainKey, if_true, hg, h1, h2, Bool.false_eq_true, if_false]
theorem nf103 (n : Nat) : fbin P .neq 143 true (fn n) .nilFunc = some (.bool true) := by kernel_rfl
theorem nf103n : fbin P .neq 143 true .nilFunc .nilFunc = some (.bool false) := by kernel_rfl
theorem stmt_end {H0 H : AHeap} {r : Nat} {T : List Tok} {tv : AV} {s0 s : St} (hx0 : Ry H0 r T tv s0) (mb : Mt r H0 H) (hrd : Rd5 H r tv s) {k b : Nat} {e : Stm} {s' : St} {q1 q3 q4 : Int} {q2 : Bs} (hc : ∀ Hc, Ry Hc r T tv s → W (evw P orc k [.ptr r 0 0] Hc) (QostS Hc r T tv e s'))
  (g2 : H.get H0.next = some (.row false 9 [[.int .i64 0, .str [], .str [], .int .i64 0, .nilSl, .nilSl, .nilSl, .int .i64 0, .int .i64 0]])) (g3 : H.get b = some (.row false 4 [[.int .i64 q1, .str q2, .int .i64 q3, .int .i64 q4]])) (hb : H0.next ≤ b) :
  W (s106_j0 (evw P orc) (.ptr r 0 0) (.ptr H0.next 0 0) (.ptr b 0 0) (fn k) H) (QostS H0 r T tv (e.at q4) s') := by
 have hl := hx0.rd.lt
 have lg := AHeap.get_lt g2
 rw [s106_j0]
 simp only [fn, xapply_fn, List.nil_append, List.append_nil]
 refine W_call (hc H (hx0.mut mb hrd)) ?_
 rintro v H1 ⟨m1, hx1, he⟩
 refine ⟨m1.1, ?_⟩
 have h2 := m1.get g2 (by omega)
 have h3 := m1.get g3 (by omega)
 have l2 := AHeap.get_lt h2
 have l3 := AHeap.get_lt h3
 cases e with | mk a es b1 c1 =>
 obtain ⟨ev, bv, cv, rfl, k1, k2, k3⟩ := StV_mk.1 he
 have o1 := k1.oneAV
 have o2 := k2.oneAV
 have o3 := k3.oneAV
 simp -implicitDefEqProofs (disch := first | assumption | omega | (simp only [nxB]; omega) | (simp only [oneB])) only [s106, xlen, AV.cells, splice, aload, astore, Nat.reduceAdd, Nat.reduceLeDiff, reduceIte, allB, tyC, Sa.cells, o1, o2, o3, h2, h3]
 have kp : ∀ blk, KeepS H1 (Ge H.next) (H1.push blk) (Ge (H0.next + 1)) := fun blk => KeepS.pur (Pur.push _ _) fun l hl => by unfold Ge at *; omega
 exact W_some.2 (QostS.fin (a := { a with pos := q4 }) hx0 ((mb.trans m1).then_push _) (hx1.rd.pur (Pur.push _ _)) (k1.keep (kp _).ex) (k2.keep (kp _)) (k3.keep (kp _)) (Nat.le_refl _) (Nat.lt_succ_self _) _)
theorem stmt_step {n : Nat} (ihC : ChooseOk n) (ihR : RepeatOk n) : StmtOk (n + 1) := by
 intro H r T tv s hT hx e s' h
 refine W_of (fun _ => run106 0) ?_
 have hl := hx.rd.lt
 have ho1 := hx.tk.one
 have p1 := Pur.push H (.row false 9 [[.int .i64 0, .str [], .str [], .int .i64 0, .nilSl, .nilSl, .nilSl, .int .i64 0, .int .i64 0]])
 simp -implicitDefEqProofs (disch := first | assumption | omega | (simp only [nxB]; omega) | (simp only [oneB])) only [s106, xlen, AV.cells, splice, aload, astore, Nat.reduceAdd, Nat.reduceLeDiff, reduceIte, allB, tyC]
 refine W_call (ktok_spec (hx.rd.pur p1) (hx.tk.pur p1)) ?_
 rintro _ H2 ⟨rfl, p2⟩
 refine ⟨p2.1, ?_⟩
 have n2 := p2.1
 simp only [AHeap.next_push] at n2
 have p3 := (p1.trans p2).then_push (.row false 4 [[.int .i64 (tokAt T s.at_).kind, .str (tokAt T s.at_).text, .int .i64 (tokAt T s.at_).n, .int .i64 (tokAt T s.at_).pos]])
 have g2 := (Pur.push H2 (.row false 4 [[.int .i64 (tokAt T s.at_).kind, .str (tokAt T s.at_).text, .int .i64 (tokAt T s.at_).n, .int .i64 (tokAt T s.at_).pos]])).get (p2.get (AHeap.get_push_same H (.row false 9 [[.int .i64 0, .str [], .str [], .int .i64 0, .nilSl, .nilSl, .nilSl, .int .i64 0, .int .i64 0]])))
 have g3 := AHeap.get_push_same H2 (.row false 4 [[.int .i64 (tokAt T s.at_).kind, .str (tokAt T s.at_).text, .int .i64 (tokAt T s.at_).n, .int .i64 (tokAt T s.at_).pos]])
 have hx3 := hx.pur p3
 simp only [stmtF, Option.bind_eq_some_iff] at h
 obtain ⟨⟨e1, s1⟩, h1, h2⟩ := h
 simp only [Option.some.injEq, Prod.mk.injEq] at h2
 obtain ⟨rfl, rfl⟩ := h2
 cases hk : ((tokAt T s.at_).kind == 3) with
 | false =>
  simp only [hk, cond_false, Option.some.injEq] at h1
  simp -implicitDefEqProofs (disch := first | assumption | omega | (simp only [nxB]; omega) | (simp only [oneB])) only [s106, xlen, AV.cells, splice, aload, astore, Nat.reduceAdd, Nat.reduceLeDiff, reduceIte, allB, tyC, Tok.v, hk]
  refine stmt_end hx (p3.mut _) hx3.rd (k := 124) (fun Hc hc => ?_) g2 g3 (by omega)
  have := kplain_spec hT hc
  rw [h1] at this; exact this
 | true =>
  simp only [hk, cond_true] at h1
  simp -implicitDefEqProofs (disch := first | assumption | omega | (simp only [nxB]; omega) | (simp only [oneB])) only [s106, xlen, AV.cells, splice, aload, astore, Nat.reduceAdd, Nat.reduceLeDiff, reduceIte, allB, tyC, Tok.v, hk]
  refine W_call (steps_spec _) ?_
  rintro _ H5 ⟨rfl, rfl⟩
  refine ⟨(Pur.push _ _).1, ?_⟩
  have p5 := Pur.push (H2.push (.row false 4 [[.int .i64 (tokAt T s.at_).kind, .str (tokAt T s.at_).text, .int .i64 (tokAt T s.at_).n, .int .i64 (tokAt T s.at_).pos]])) (.map stepsM)
  have hlook := lk104 (tokAt T s.at_).text (AHeap.get_push_same (H2.push (.row false 4 [[.int .i64 (tokAt T s.at_).kind, .str (tokAt T s.at_).text, .int .i64 (tokAt T s.at_).n, .int .i64 (tokAt T s.at_).pos]])) (.map stepsM))
  have hx5 := hx3.pur p5
  have g25 := p5.get g2
  have g35 := p5.get g3
  have m5 := (p3.trans p5).mut (· = r)
  have hr5 := hx5.rd
  unfold Rd5 at hr5
  have lr5 := hx5.rd.lt
  simp only [AHeap.next_push] at hlook
  have key : (∃ k, lookM (tokAt T s.at_).text stepsM = fn k ∧ ∀ Hc, Ry Hc r T tv (goS s) → W (evw P orc k [.ptr r 0 0] Hc) (QostS Hc r T tv e1 s1)) ∨ (lookM (tokAt T s.at_).text stepsM = .nilFunc ∧ plainS T s = (e1, s1)) := by
   by_cases t1 : (tokAt T s.at_).text = [118, 97, 114]
   ·have h1' : some (declS T (goS s)) = some (e1, s1) := by rw [← h1]; simp [t1]
    refine .inl ⟨139, by rw [t1]; rfl, fun Hc hc => ?_⟩
    have := kdecl_spec hc
    rw [Option.some.inj h1'] at this; exact this
   by_cases t2 : (tokAt T s.at_).text = [108, 101, 116]
   ·have h1' : some (letsS T (goS s)) = some (e1, s1) := by rw [← h1]; simp [t2]
    refine .inl ⟨140, by rw [t2]; rfl, fun Hc hc => ?_⟩
    have := klets_spec hT hc
    rw [Option.some.inj h1'] at this; exact this
   by_cases t3 : (tokAt T s.at_).text = [105, 102]
   ·have h1' : chooseF T n (goS s) = some (e1, s1) := by rw [← h1]; simp [t3]
    exact .inl ⟨141, by rw [t3]; rfl, fun Hc hc => ihC hT hc _ _ h1'⟩
   by_cases t4 : (tokAt T s.at_).text = [119, 104, 105, 108, 101]
   ·have h1' : repeatF T n (goS s) = some (e1, s1) := by rw [← h1]; simp [t4]
    exact .inl ⟨142, by rw [t4]; rfl, fun Hc hc => ihR hT hc _ _ h1'⟩
   by_cases t5 : (tokAt T s.at_).text = [114, 101, 116, 117, 114, 110]
   ·have h1' : some (retsS T (goS s)) = some (e1, s1) := by rw [← h1]; simp [t5]
    refine .inl ⟨143, by rw [t5]; rfl, fun Hc hc => ?_⟩
    have := krets_spec hT hc
    rw [Option.some.inj h1'] at this; exact this
   by_cases t6 : (tokAt T s.at_).text = [112, 114, 105, 110, 116]
   ·have h1' : some (printS T (goS s)) = some (e1, s1) := by rw [← h1]; simp [t6]
    refine .inl ⟨144, by rw [t6]; rfl, fun Hc hc => ?_⟩
    have := kprint_spec hT hc
    rw [Option.some.inj h1'] at this; exact this
   have h1' : some (plainS T s) = some (e1, s1) := by rw [← h1]; simp [bnf t1, bnf t2, bnf t3, bnf t4, bnf t5, bnf t6]
   exact .inr ⟨by simp [lookM, stepsM, bnf t1, bnf t2, bnf t3, bnf t4, bnf t5, bnf t6], Option.some.inj h1'⟩
  rcases key with ⟨k, hlk, hc⟩ | ⟨hlk, hpl⟩
  ·obtain ⟨m6, hd6⟩ := rset hx5.rd (goS s)
   simp -implicitDefEqProofs (disch := first | assumption | omega | (simp only [nxB]; omega) | (simp only [oneB])) only [s106, xlen, AV.cells, splice, aload, astore, Nat.reduceAdd, Nat.reduceLeDiff, reduceIte, allB, tyC, g35, hlook, hlk, nf103, Bool.and_self, hr5, ho1]
   exact stmt_end hx (m5.trans m6) hd6 hc (m6.get g25 (by omega)) (m6.get g35 (by omega)) (by omega)
  ·simp -implicitDefEqProofs (disch := first | assumption | omega | (simp only [nxB]; omega) | (simp only [oneB])) only [s106, xlen, AV.cells, splice, aload, astore, Nat.reduceAdd, Nat.reduceLeDiff, reduceIte, allB, tyC, g35, hlook, hlk, nf103n, Bool.and_self]
   refine stmt_end hx m5 hx5.rd (k := 124) (fun Hc hc => ?_) g25 g35 (by omega)
   have := kplain_spec hT hc
   rw [hpl] at this; exact this
theorem choose_end {H0 H : AHeap} {r : Nat} {T : List Tok} {tv : AV} {s0 s : St} (hx0 : Ry H0 r T tv s0) (mb : Mt r H0 H) (hrd : Rd5 H r tv s) {b lo : Nat} {a : Sa} {es : List Ex} {b1 c1 : List Stm} {ev bv cv : AV} (h1 : KsV H (Ge lo) es ev) (h2 : SsV H (Ge lo) b1 bv) (h3 : SsV H (Ge lo) c1 cv) (hlo : H0.next < lo)
  (g2 : H.get H0.next = some (.row false 9 [[.int .i64 0, .str [], .str [], .int .i64 0, .nilSl, .nilSl, .nilSl, .int .i64 0, .int .i64 0]])) (g3 : H.get b = some (.row false 9 [a.cells ev bv cv])) : W (s141_j0 (evw P orc) (.ptr H0.next 0 0) (.ptr b 0 0) H) (QostS H0 r T tv (.mk a es b1 c1) s) := by
 have o1 := h1.oneAV
 have o2 := h2.oneAV
 have o3 := h3.oneAV
 have l2 := AHeap.get_lt g2
 simp only [Sa.cells] at g3
 simp -implicitDefEqProofs (disch := first | assumption | omega | (simp only [nxB]; omega) | (simp only [oneB])) only [s141_j0, xlen, AV.cells, splice, aload, astore, Nat.reduceAdd, Nat.reduceLeDiff, reduceIte, allB, tyC, g2, g3, o1, o2, o3]
 exact W_some.2 (QostS.fin (a := a) hx0 mb hrd h1 h2 h3 (Nat.le_refl _) hlo _)
theorem choose_step {n : Nat} (ih : BlockOk n) : ChooseOk (n + 1) := by
 intro H r T tv s hT hx e s' h
 refine W_of (fun _ => run141 0) ?_
 have hl := hx.rd.lt
 have p1 := Pur.push H (.row false 9 [[.int .i64 0, .str [], .str [], .int .i64 0, .nilSl, .nilSl, .nilSl, .int .i64 0, .int .i64 0]])
 simp only [chooseF, Option.bind_eq_some_iff] at h
 obtain ⟨⟨b1, s1⟩, hb1, h2⟩ := h
 simp -implicitDefEqProofs (disch := first | assumption | omega | (simp only [nxB]; omega) | (simp only [oneB])) only [s141, xlen, AV.cells, splice, aload, astore, Nat.reduceAdd, Nat.reduceLeDiff, reduceIte, allB, tyC]
 refine W_call (kexpr_spec hT (hx.pur p1)) ?_
 rintro v H2 ⟨m2, hx2, he⟩
 refine ⟨m2.1, ?_⟩
 have n2 := m2.1
 simp only [AHeap.next_push] at n2
 obtain ⟨cs, rfl, c1, o1⟩ := he.cells
 generalize exprP T s = e2 at hx2 he hb1 h2 ⊢
 have hs : ∀ l, sliceOf P l 96 1 [(0, .agg cs)] = some (.sl l 0 1 11 (some 1), .row false 11 [cs]) := fun l => sl35_1 l cs c1 o1
 have g2 := m2.get (AHeap.get_push_same H (.row false 9 [[.int .i64 0, .str [], .str [], .int .i64 0, .nilSl, .nilSl, .nilSl, .int .i64 0, .int .i64 0]])) (by omega)
 simp -implicitDefEqProofs (disch := first | assumption | omega | (simp only [nxB]; omega) | (simp only [oneB])) only [s141, xlen, AV.cells, splice, aload, astore, Nat.reduceAdd, Nat.reduceLeDiff, reduceIte, allB, tyC, hs]
 have p3 := Pur.push H2 (.row false 11 [cs])
 refine W_call (ih hT (hx2.pur p3) b1 s1 hb1) ?_
 rintro bv H4 ⟨m4, hx4, hbv⟩
 refine ⟨m4.1, ?_⟩
 have n4 := m4.1
 simp only [AHeap.next_push] at n4
 have lr2 := hx2.rd.lt
 have he' : ExV H2 (Ge (H.next + 1)) e2.1 (.agg cs) := by simpa only [AHeap.next_push] using he
 have hkv : KsV H4 (Ge (H.next + 1)) [e2.1] (.sl H2.next 0 1 11 (some 1)) := (KsV.made (r := r) he' (Mut.refl _ H2) (by omega) (lo := H.next + 1) (by omega) (by omega)).keep (Keep.mut m4 (by unfold Ge; omega) fun _ h => h)
 have hbv4 : SsV H4 (Ge (H.next + 1)) b1 bv := hbv.keep (KeepS.le' fun k hk => by unfold Ge at *; simp only [AHeap.next_push] at hk; omega)
 have ob := hbv4.oneAV
 have hbd : abuild P 98 [(0, .int .i64 5), (3, .sl H2.next 0 1 11 (some 1)), (4, bv)] = some (.agg (Sa.cells { kind := 5 } (.sl H2.next 0 1 11 (some 1)) bv .nilSl)) := by
  rcases hbv4 with ⟨rfl, _⟩ | ⟨l, i, cap, ro, els, rfl, _⟩ | ⟨l, i, cap, rfl, _⟩ <;> kernel_rfl
 have g4 := m4.get (p3.get g2) (by omega)
 have mb := (((p1.mut (· = r)).trans m2).then_push (.row false 11 [cs])).trans m4
 simp only [Sa.cells] at hbd
 simp -implicitDefEqProofs (disch := first | assumption | omega | (simp only [nxB]; omega) | (simp only [oneB])) only [s141, xlen, AV.cells, splice, aload, astore, Nat.reduceAdd, Nat.reduceLeDiff, reduceIte, allB, tyC, hbd, ob]
 have p5 := Pur.push H4 (.row false 9 [Sa.cells { kind := 5 } (.sl H2.next 0 1 11 (some 1)) bv .nilSl])
 refine W_call (ktakes_spec (hx4.pur p5) 3 [101, 108, 115, 101]) ?_
 rintro _ H6 ⟨rfl, m6, hx6⟩
 refine ⟨m6.1, ?_⟩
 have lr4 := hx4.rd.lt
 have l4 := AHeap.get_lt g4
 have g6 := m6.get (p5.get g4) (by omega)
 have q6 := m6.get (AHeap.get_push_same H4 (.row false 9 [Sa.cells { kind := 5 } (.sl H2.next 0 1 11 (some 1)) bv .nilSl])) (by omega)
 have mb6 := (mb.then_push (.row false 9 [Sa.cells { kind := 5 } (.sl H2.next 0 1 11 (some 1)) bv .nilSl])).trans m6
 have k6 : KeepS H4 (Ge (H.next + 1)) H6 (Ge (H.next + 1)) := KeepS.mut ((p5.mut _).trans m6) (by unfold Ge; omega) fun _ h => h
 cases hi : isB T s1 3 [101, 108, 115, 101] with
 | false =>
  rw [show takesS T 3 [101, 108, 115, 101] s1 = (false, s1) by simp [takesS, hi]] at hx6 ⊢
  simp only [hi, cond_false, Option.some.injEq, Prod.mk.injEq] at h2
  obtain ⟨rfl, rfl⟩ := h2
  simp -implicitDefEqProofs (disch := first | assumption | omega | (simp only [nxB]; omega) | (simp only [oneB])) only [s141, xlen, AV.cells, splice, aload, astore, Nat.reduceAdd, Nat.reduceLeDiff, reduceIte, allB, tyC]
  exact choose_end hx mb6 hx6.rd (hkv.keep k6.ex) (hbv4.keep k6) (SsV.nil _ _) (by omega) g6 q6
 | true =>
  rw [show takesS T 3 [101, 108, 115, 101] s1 = (true, goS s1) by simp [takesS, hi]] at hx6 ⊢
  simp only [hi, cond_true, Option.bind_eq_some_iff] at h2
  obtain ⟨⟨b2, s2⟩, hb2, h3⟩ := h2
  simp only [Option.some.injEq, Prod.mk.injEq] at h3
  obtain ⟨rfl, rfl⟩ := h3
  simp -implicitDefEqProofs (disch := first | assumption | omega | (simp only [nxB]; omega) | (simp only [oneB])) only [s141, xlen, AV.cells, splice, aload, astore, Nat.reduceAdd, Nat.reduceLeDiff, reduceIte, allB, tyC]
  refine W_call (ih hT hx6 b2 s2 hb2) ?_
  rintro cv H8 ⟨m8, hx8, hcv⟩
  refine ⟨m8.1, ?_⟩
  have lr6 := hx6.rd.lt
  have l6 := AHeap.get_lt q6
  have g8 := m8.get g6 (by omega)
  have q8 := m8.get q6 (by omega)
  have lq8 := AHeap.get_lt q8
  have n6 := m6.1
  simp only [AHeap.next_push] at n6
  have k8 := m8.1
  have oc := hcv.oneAV
  have q8' := q8
  simp only [Sa.cells] at q8'
  have h468 : KeepS H4 (Ge (H.next + 1)) H8 (Ge (H.next + 1)) := KeepS.mut (((p5.mut _).trans m6).trans m8) (by unfold Ge; omega) fun _ h => h
  have hkv8 := hkv.keep h468.ex
  have hbv8 := hbv4.keep h468
  have hst : astore P H8 44 (.ptr H4.next 0 6) cv = some (H8.set H4.next (.row false 9 [Sa.cells { kind := 5 } (.sl H2.next 0 1 11 (some 1)) bv cv])) := by
   rw [st_any ts44 q8 rfl (by rw [cells_one oc]; rfl) (by rw [cells_one oc, List.all_cons, oc]; rfl) (by decide), cells_one oc]; rfl
  simp -implicitDefEqProofs (disch := first | assumption | omega | (simp only [nxB]; omega) | (simp only [oneB])) only [s141, xlen, evB, tabB, Nat.zero_add]
  rw [hst, xstore_some (by simp only [AHeap.next_set]; omega)]
  have kf : ∀ blk, KeepS H8 (fun l => H.next + 1 ≤ l ∧ l ≠ H4.next) (H8.set H4.next blk) (Ge (H.next + 1)) := fun blk => KeepS.set _ (by simp) fun l h => h.1
  have h4k : KeepS H4 (fun l => H.next + 1 ≤ l ∧ l < H4.next) H8 (fun l => H.next + 1 ≤ l ∧ l ≠ H4.next) := KeepS.mut (((p5.mut _).trans m6).trans m8) (by omega) fun l h => ⟨h.1, by omega⟩
  have hb4 : KeepS H4 (Ge (H.next + 1)) H4 (fun l => H.next + 1 ≤ l ∧ l < H4.next) := ⟨fun l ro els h g => ⟨⟨h, AHeap.get_lt g⟩, g⟩, fun l ro els h g => ⟨⟨h, AHeap.get_lt g⟩, g⟩⟩
  refine choose_end hx (H := H8.set H4.next (.row false 9 [Sa.cells { kind := 5 } (.sl H2.next 0 1 11 (some 1)) bv cv])) ((mb6.trans m8).then_set (.inr (by omega)) _) ?_ (((hkv.keep hb4.ex).keep h4k.ex).keep (kf _).ex) (((hbv4.keep hb4).keep h4k).keep (kf _)) ((hcv.keep (KeepS.le' (ok' := fun l => H.next + 1 ≤ l ∧ l ≠ H4.next) fun k hk => by unfold Ge at hk; omega)).keep (kf _)) (Nat.lt_succ_self _) ?_ (AHeap.get_set_same lq8)
  ·have hr8 := hx8.rd
   unfold Rd5 at hr8 ⊢
   rw [AHeap.get_set_other (by omega)]; exact hr8
  ·rw [AHeap.get_set_other (by omega)]; exact g8
theorem repeat_step {n : Nat} (ih : BlockOk n) : RepeatOk (n + 1) := by
 intro H r T tv s hT hx e s' h
 refine W_of (fun _ => run142 0) ?_
 have hl := hx.rd.lt
 have p1 := Pur.push H (.row false 9 [[.int .i64 0, .str [], .str [], .int .i64 0, .nilSl, .nilSl, .nilSl, .int .i64 0, .int .i64 0]])
 simp only [repeatF, Option.bind_eq_some_iff] at h
 obtain ⟨⟨b1, s1⟩, hb1, h2⟩ := h
 simp only [Option.some.injEq, Prod.mk.injEq] at h2
 obtain ⟨rfl, rfl⟩ := h2
 simp -implicitDefEqProofs (disch := first | assumption | omega | (simp only [nxB]; omega) | (simp only [oneB])) only [s142, xlen, AV.cells, splice, aload, astore, Nat.reduceAdd, Nat.reduceLeDiff, reduceIte, allB, tyC]
 refine W_call (kexpr_spec hT (hx.pur p1)) ?_
 rintro v H2 ⟨m2, hx2, he⟩
 refine ⟨m2.1, ?_⟩
 have n2 := m2.1
 simp only [AHeap.next_push] at n2
 obtain ⟨cs, rfl, c1, o1⟩ := he.cells
 generalize exprP T s = e2 at hx2 he hb1 ⊢
 have hs : ∀ l, sliceOf P l 96 1 [(0, .agg cs)] = some (.sl l 0 1 11 (some 1), .row false 11 [cs]) := fun l => sl35_1 l cs c1 o1
 have g2 := m2.get (AHeap.get_push_same H (.row false 9 [[.int .i64 0, .str [], .str [], .int .i64 0, .nilSl, .nilSl, .nilSl, .int .i64 0, .int .i64 0]])) (by omega)
 simp -implicitDefEqProofs (disch := first | assumption | omega | (simp only [nxB]; omega) | (simp only [oneB])) only [s142, xlen, AV.cells, splice, aload, astore, Nat.reduceAdd, Nat.reduceLeDiff, reduceIte, allB, tyC, hs]
 have p3 := Pur.push H2 (.row false 11 [cs])
 refine W_call (ih hT (hx2.pur p3) b1 s1 hb1) ?_
 rintro bv H4 ⟨m4, hx4, hbv⟩
 refine ⟨m4.1, ?_⟩
 have n4 := m4.1
 simp only [AHeap.next_push] at n4
 have lr2 := hx2.rd.lt
 have he' : ExV H2 (Ge (H.next + 1)) e2.1 (.agg cs) := by simpa only [AHeap.next_push] using he
 have hkv : KsV H4 (Ge (H.next + 1)) [e2.1] (.sl H2.next 0 1 11 (some 1)) := (KsV.made (r := r) he' (Mut.refl _ H2) (by omega) (lo := H.next + 1) (by omega) (by omega)).keep (Keep.mut m4 (by unfold Ge; omega) fun _ h => h)
 have hbv4 : SsV H4 (Ge (H.next + 1)) b1 bv := hbv.keep (KeepS.le' fun k hk => by unfold Ge at *; simp only [AHeap.next_push] at hk; omega)
 have ob := hbv4.oneAV
 have hbd : abuild P 98 [(0, .int .i64 6), (3, .sl H2.next 0 1 11 (some 1)), (4, bv)] = some (.agg (Sa.cells { kind := 6 } (.sl H2.next 0 1 11 (some 1)) bv .nilSl)) := by
  rcases hbv4 with ⟨rfl, _⟩ | ⟨l, i, cap, ro, els, rfl, _⟩ | ⟨l, i, cap, rfl, _⟩ <;> kernel_rfl
 have g4 := m4.get (p3.get g2) (by omega)
 have l4 := AHeap.get_lt g4
 simp only [Sa.cells] at hbd
 simp -implicitDefEqProofs (disch := first | assumption | omega | (simp only [nxB]; omega) | (simp only [oneB])) only [s142, xlen, AV.cells, splice, aload, astore, Nat.reduceAdd, Nat.reduceLeDiff, reduceIte, allB, tyC, hbd, ob, g4]
 exact W_some.2 (QostS.fin (a := { kind := 6 }) hx ((((p1.mut _).trans m2).then_push _).trans m4) hx4.rd hkv hbv4 (SsV.nil _ _) (Nat.le_refl _) (Nat.lt_succ_self _) _)
structure AllK (n : Nat) : Prop where
 stmt : StmtOk n
 block : BlockOk n
 choose : ChooseOk n
 rep : RepeatOk n
theorem allK : ∀ n, n ≤ 900000000 → AllK n := by
 intro n
 induction n using Nat.strongRecOn with
 | _ n ih =>
  intro hn
  cases n with
  | zero => exact ⟨fun _ _ _ _ h => by simp [stmtF] at h, fun _ _ _ _ h => by simp [blockF] at h, fun _ _ _ _ h => by simp [chooseF] at h, fun _ _ _ _ h => by simp [repeatF] at h⟩
  | succ n =>
   have i := ih n (by omega) (by omega)
   exact ⟨stmt_step i.choose i.rep, block_step (by omega) fun k hk => (ih k (by omega) (by omega)).stmt, choose_step i.block, repeat_step i.block⟩
end Go.Proofs.YtghmbpmaafnodaaGreatDoor

namespace Go.Proofs.YtghmbpmaafnodaaGreatDoor
open Go.Ev
theorem bd112_3 (tv : AV) (h1 : tv.one = true) (a b : Int) : abuild P 112 [(0, tv), (1, .int .i64 a), (2, .int .i64 b)] = some (.agg [tv, .int .i64 a, .int .i64 b, .int .i64 0, .int .i64 0]) := by
 cases tv <;> first | (cases h1; done) | kernel_rfl
theorem kblock_spec {n : Nat} (hn : n ≤ 900000000) {H : AHeap} {T : List Tok} {tv : AV} (hT : T.length ≤ 20000000) (ht : TokSl H tv T) (at_ opn : Int) {l : List Stm} {s' : St} (h : blockF T n (startS at_ opn) = some (l, s')) :
  W (evw P orc 55 [tv, .int .i64 at_, .int .i64 opn] H) fun v H' => ∃ bv, v = .tuple [bv, .int .i64 (parseB l s').2.1, .agg [.int .i64 (parseB l s').2.2.1, .int .i64 (parseB l s').2.2.2]] ∧ SsV H' (Ge H.next) (parseB l s').1 bv ∧ Pur H H' := by
 refine W_of (fun _ => run55 0) ?_
 have ho1 := ht.one
 have p1 := Pur.push H (.row false 2 [[.int .i64 0, .int .i64 0]])
 have hbd := bd112_3 tv ho1 at_ (if opn < 0 then 0 else opn)
 have hbx : ∀ l, boxOf l (.agg [tv, .int .i64 at_, .int .i64 (if opn < 0 then 0 else opn), .int .i64 0, .int .i64 0]) = some (.ptr l 0 0, .row false 5 [[tv, .int .i64 at_, .int .i64 (if opn < 0 then 0 else opn), .int .i64 0, .int .i64 0]]) := fun l => boxOf_agg l _ (by simp only [List.all_cons, List.all_nil, one_int, ho1, Bool.and_self])
 simp -implicitDefEqProofs (disch := first | assumption | omega | (simp only [nxB]; omega) | (simp only [oneB])) only [s55, xlen, AV.cells, splice, aload, astore, Nat.reduceAdd, Nat.reduceLeDiff, reduceIte, allB, mx3, hbd, hbx]
 have hb8 := AHeap.get_push_same H (.row false 2 [[.int .i64 0, .int .i64 0]])
 have hn3 : (H.push (.row false 2 [[.int .i64 0, .int .i64 0]])).next = H.next + 1 := by simp only [AHeap.next_push]
 rw [← hn3]
 generalize H.push (.row false 2 [[.int .i64 0, .int .i64 0]]) = H3 at p1 hb8 hn3 ⊢
 have p4 := Pur.push H3 (.row false 5 [[tv, .int .i64 at_, .int .i64 (if opn < 0 then 0 else opn), .int .i64 0, .int .i64 0]])
 have p5 := p1.trans p4
 have hx4 : Ry (H3.push (.row false 5 [[tv, .int .i64 at_, .int .i64 (if opn < 0 then 0 else opn), .int .i64 0, .int .i64 0]])) H3.next T tv (startS at_ opn) :=
  ⟨AHeap.get_push_same _ _, ht.pur p5⟩
 refine W_call ((allK n hn).block hT hx4 l s' h) ?_
 rintro v H5 ⟨m5, hx5, he5⟩
 refine ⟨m5.1, ?_⟩
 have hm5 := m5.1
 simp only [AHeap.next_push] at hm5 he5
 simp -implicitDefEqProofs (disch := first | assumption | omega | (simp only [nxB]; omega) | (simp only [oneB])) only [s55, xlen, AV.cells, splice, aload, astore, Nat.reduceAdd, Nat.reduceLeDiff, reduceIte, allB]
 refine W_call (kfailed_spec hx5.rd) ?_
 rintro _ H8 ⟨rfl, rfl⟩
 refine ⟨Nat.le_refl _, ?_⟩
 have hr5 := hx5.rd
 unfold Rd5 at hr5
 have hb85 := m5.get (p4.get hb8) (by omega)
 have l8 := AHeap.get_lt hb85
 have pf : Pur H H8 := ⟨by have := p5.1; simp only [AHeap.next_push] at this; omega, fun l hl => by rw [m5.2 l (by simp only [AHeap.next_push]; omega) (by omega)]; exact p5.2 l hl⟩
 by_cases hf : s'.fe = 0
 ·have hf' : (s'.fe != 0) = false := by simpa using hf
  rw [show parseB l s' = (l, s'.at_, 0, 0) by simp [parseB, hf]]
  simp -implicitDefEqProofs (disch := first | assumption | omega | (simp only [nxB]; omega) | (simp only [oneB])) only [s55, xlen, AV.cells, splice, aload, astore, Nat.reduceAdd, Nat.reduceLeDiff, reduceIte, allB, hf', hr5, hb85]
  refine W_some.2 ⟨_, rfl, he5.keep (KeepS.set _ (by unfold Ge; omega) fun l h => by unfold Ge at *; omega), pf.then_set (by omega) _⟩
 ·have hf' : (s'.fe != 0) = true := by simpa using hf
  rw [show parseB l s' = ([], 0, s'.fe, s'.fa) by simp [parseB, hf]]
  simp -implicitDefEqProofs (disch := first | assumption | omega | (simp only [nxB]; omega) | (simp only [oneB])) only [s55, xlen, AV.cells, splice, aload, astore, Nat.reduceAdd, Nat.reduceLeDiff, reduceIte, allB, hf', hr5, hb85]
  exact W_some.2 ⟨_, rfl, SsV.nil _ _, pf.then_set (by omega) _⟩
end Go.Proofs.YtghmbpmaafnodaaGreatDoor

namespace Go.Proofs.YtghmbpmaafnodaaGreatDoor
open Go.Ev
set_option maxRecDepth 100000
noncomputable section
def s8_j0 (G : CallT) (N : Nat) (x2 x3 x6 : AV) (H : AHeap) : O :=
 xcall H (G 17 [x6] H) fun x47 h1 =>
 xif (some x47) (xstore h1 (astore P h1 26 x2 (.agg [AV.nilSl, AV.nilSl, AV.nilSl])) fun h2 =>
 xb (anil x6) fun x50 =>
 xb (afieldAddr P 55 x50 3) fun x51 =>
 xb (aload P h2 29 x51) fun x52 =>
 xstore h2 (astore P h2 29 x3 x52) fun h3 =>
 bif ((rdIs (aload P h1 29 x51) x52 && (rdIs (aload P h2 29 x51) x52 && true)) && true) then (xb (aload P h3 26 x2) fun r =>
 xb (aload P h3 29 x3) fun r_1 =>
 some (.tuple [r, r_1], h3)) else none) (xb (anil x6) fun x54 =>
 xb (afieldAddr P 55 x54 2) fun x55 =>
 xb (aload P h1 26 x55) fun x56 =>
 xstore h1 (astore P h1 26 x2 x56) fun h2 =>
 xstore h2 (astore P h2 29 x3 (.agg [(.int .i64 0), (.int .i64 0)])) fun h3 =>
 xb (aload P h3 26 x2) fun r =>
 xb (aload P h3 29 x3) fun r_1 =>
 some (.tuple [r, r_1], h3))
theorem s8_j0_eq (G : CallT) (N : Nat) : ∀ R H, codeC P G N (Code.snd (Code.snd (Code.snd (Code.snd (Code.snd (bodyOf Tryz.f8)))))) (rC Tryz.f8) [] (rC Tryz.f8) R H = s8_j0 G N (R 2) (R 3) (R 6) H := by
 refine via_trans (via_leaf _) fun R H => ?_
 delta s8_j0
 kernel_rfl
def s8_b1 (G : CallT) (N : Nat) (L1 : AV → AV → AV → AHeap → O) (x2 x3 x6 : AV) (H : AHeap) : O :=
 xcall H (G 17 [x6] H) fun x21 h1 =>
 xb (aun .not x21) fun x22 =>
 xg x22 true h1 (qv x6) fun x24 h2 =>
 xg x22 true h2 (fun q => xeff h2 (G 18 [x24] h2) q) fun x25 h3 =>
 xg x22 true h3 (qp (afield P 57 x25 0)) fun x26 h4 =>
 xg x22 true h4 (qp (fbin P .neq 3 true x26 (.int .i64 0))) fun x27 h5 =>
 xb (pickOf x22 (some x27) (some (.bool false))) fun x28 =>
 xif (some x28) (xcall h5 (G 19 [x6, (.int .i64 3), (.str [114, 101, 99, 111, 114, 100])] h5) fun x33 h6 =>
 xif (some x33) (xcall h6 (G 20 [x6] h6) fun x35 h7 =>
 L1 x2 x3 x6 h7) (xcall h6 (G 19 [x6, (.int .i64 3), (.str [103, 108, 111, 98, 97, 108])] h6) fun x38 h7 =>
 xif (some x38) (xcall h7 (G 21 [x6] h7) fun x40 h8 =>
 L1 x2 x3 x6 h8) (xcall h7 (G 19 [x6, (.int .i64 3), (.str [102, 117, 110, 99])] h7) fun x43 h8 =>
 xif (some x43) (xcall h8 (G 22 [x6] h8) fun x45 h9 =>
 L1 x2 x3 x6 h9) (xcall h8 (G 23 [x6, (.int .i64 2)] h8) fun x30 h9 =>
 L1 x2 x3 x6 h9)))) (s8_j0 G N x2 x3 x6 h5)
def s8_l1 (G : CallT) (N : Nat) : Nat → AV → AV → AV → AHeap → O
 | 0, _, _, _, _ => none
 | n + 1, x2, x3, x6, H => s8_b1 G N (s8_l1 G N n) x2 x3 x6 H
theorem s8_b1_eq (G : CallT) (N : Nat) (L1 : AV → AV → AV → AHeap → O) : ∀ R H, codeC P G N (Code.fst (Code.fst (Code.fst (Code.snd (Code.snd (Code.snd (Code.snd (bodyOf Tryz.f8)))))))) (fun R H => L1 (R 2) (R 3) (R 6) H) [(0, (fun R H => s8_j0 G N (R 2) (R 3) (R 6) H))] (rC Tryz.f8) R H = s8_b1 G N L1 (R 2) (R 3) (R 6) H := by
 refine via_trans (via_leaf _) fun R H => ?_
 delta s8_b1
 generalize s8_j0 G N = J0
 revert J0
 refine id ?_
 intro J0
 kernel_rfl
def s8 (G : CallT) (N : Nat) (x0 : AV) (H : AHeap) : O :=
 xalloc H [AV.nilSl, AV.nilSl, AV.nilSl] fun x2 h1 =>
 xalloc h1 [(.int .i64 0), (.int .i64 0)] fun x3 h2 =>
 xcall h2 (G 16 [x0] h2) fun x9 h3 =>
 xb (aextract x9 0) fun x10 =>
 xb (aextract x9 1) fun x11 =>
 xalloc h3 [(.int .i64 0), (.int .i64 0)] fun x5 h4 =>
 xstore h4 (astore P h4 29 x5 x11) fun h5 =>
 xb (afieldAddr P 29 x5 0) fun x12 =>
 xb (aload P h5 27 x12) fun x13 =>
 xb (fbin P .neq 27 true x13 (.int .i64 0)) fun x14 =>
 xif (some x14) (xstore h5 (astore P h5 26 x2 (.agg [AV.nilSl, AV.nilSl, AV.nilSl])) fun h6 =>
 xb (aload P h6 29 x5) fun x16 =>
 xstore h6 (astore P h6 29 x3 x16) fun h7 =>
 bif ((rdIs (aload P h5 29 x5) x16 && (rdIs (aload P h6 29 x5) x16 && true)) && true) then (xb (aload P h7 26 x2) fun r =>
 xb (aload P h7 29 x3) fun r_1 =>
 some (.tuple [r, r_1], h7)) else none) (xb (abuild P 55 [(0, x10)]) fun x18 =>
 xmake h5 (boxOf (h5).next x18) fun x19 h6 =>
 s8_l1 G N N x2 x3 x19 h6)
theorem s8_eq (G : CallT) (N : Nat) (x0 : AV) (H : AHeap) : cF Tryz.f8 G N (argsF [x0]) H = s8 G N x0 H := by
 refine via_top (A := cF Tryz.f8 G N) ((via_seq (by kernel_rfl) ((via_seq (by kernel_rfl) ((via_seq (by kernel_rfl) ((via_seq (by kernel_rfl) ((via_seq (by kernel_rfl) (s8_j0_eq G N) ((via_block (by kernel_rfl) ((via_loop (k := fun m R H => s8_l1 G N m (R 2) (R 3) (R 6) H) (by kernel_rfl) (fun R H => by kernel_rfl) (fun m => s8_b1_eq G N (s8_l1 G N m)))))))) (via_leaf _))) (via_leaf _))) (via_leaf _))) (via_leaf _))) ?_
 delta s8
 generalize s8_l1 G N N = J0
 revert J0
 refine id ?_
 intro J0
 kernel_rfl
theorem run8 (N : Nat) {x0 : AV} {H : AHeap} {r : AV × AHeap} (h : s8 (evw P orc) N x0 H = some r) : evw P orc 8 [x0] H = some r :=
 runF (by kernel_rfl) Tryz.func8 (by kernel_rfl) (by kernel_rfl) (by kernel_rfl) ((s8_eq (evw P orc) N x0 H).trans h)
def s17 (G : CallT) (x0 : AV) (H : AHeap) : O :=
 xb (anil x0) fun x4 =>
 xb (afieldAddr P 55 x4 3) fun x5 =>
 xb (afieldAddr P 29 x5 0) fun x6 =>
 xb (aload P H 27 x6) fun x7 =>
 xb (fbin P .neq 27 true x7 (.int .i64 0)) fun x8 =>
 some (x8, H)
theorem s17_eq (G : CallT) (N : Nat) (x0 : AV) (H : AHeap) : cF Tryz.f17 G N (argsF [x0]) H = s17 G x0 H := by
 refine via_top (A := cF Tryz.f17 G N) (via_leaf _) ?_
 delta s17
 kernel_rfl
theorem run17 (N : Nat) {x0 : AV} {H : AHeap} {r : AV × AHeap} (h : s17 (evw P orc) x0 H = some r) : evw P orc 17 [x0] H = some r :=
 runF (by kernel_rfl) Tryz.func17 (by kernel_rfl) (by kernel_rfl) (by kernel_rfl) ((s17_eq (evw P orc) N x0 H).trans h)
def s18 (G : CallT) (x0 : AV) (H : AHeap) : O :=
 xalloc H [(.int .i64 0), (.str []), (.int .i64 0), (.int .i64 0)] fun x2 h1 =>
 xb (anil x0) fun x4 =>
 xb (afieldAddr P 55 x4 0) fun x5 =>
 xb (aload P h1 50 x5) fun x6 =>
 xb (anil x0) fun x8 =>
 xb (afieldAddr P 55 x8 1) fun x9 =>
 xb (aload P h1 3 x9) fun x10 =>
 xb (anil x0) fun x12 =>
 xb (afieldAddr P 55 x12 0) fun x13 =>
 xb (aload P h1 50 x13) fun x14 =>
 xboth (abuiltin P .empty .len [50] [x14]) (abuiltin P h1 .len [50] [x14]) fun k_ =>
 xb (fbin P .sub 3 true k_.val (.int .i64 1)) fun x16 =>
 xboth (abuiltin P .empty .min [3, 3] [x10, x16]) (abuiltin P (k_.heap h1) .min [3, 3] [x10, x16]) fun k__1 =>
 xb (aindexAddr P 50 x6 k__1.val) fun x18 =>
 xb (aload P (k__1.heap (k_.heap h1)) 57 x18) fun x19 =>
 xst (k__1.heap (k_.heap h1)) (astore P (k__1.heap (k_.heap h1)) 57 x2 x19) fun y h2 =>
 bif dchk [0, 1, 3, 7, 0, 16, 48, 112, 0, 256, 768, 1792, 3840, 7936, 16368, 32767, 65535, 131071] [0, 1, 2, 3, 4, 5, 6, 7, 8, 9, 10, 11, 12, 13, 14, 15, 16, 17] [⟨0, (.pure x0), fun H => none⟩, ⟨1, (.pure x4), fun H => none⟩, ⟨2, (.pure x5), fun H => none⟩, ⟨3, (.read x6), fun H => aload P H 50 x5⟩, ⟨4, (.pure x0), fun H => none⟩, ⟨5, (.pure x8), fun H => none⟩, ⟨6, (.pure x9), fun H => none⟩, ⟨7, (.read x10), fun H => aload P H 3 x9⟩, ⟨8, (.pure x0), fun H => none⟩, ⟨9, (.pure x12), fun H => none⟩, ⟨10, (.pure x13), fun H => none⟩, ⟨11, (.read x14), fun H => aload P H 50 x13⟩, ⟨12, k_, fun H => abuiltin P H .len [50] [x14]⟩, ⟨13, (.pure x16), fun H => none⟩, ⟨14, k__1, fun H => abuiltin P H .min [3, 3] [x10, x16]⟩, ⟨15, (.pure x18), fun H => none⟩, ⟨16, (.read x19), fun H => aload P H 57 x18⟩, ⟨17, (.eff y h2), fun H => none⟩] h1 then (xb (aload P h2 57 x2) fun r =>
 some (r, h2)) else none
theorem s18_eq (G : CallT) (N : Nat) (x0 : AV) (H : AHeap) : cF Tryz.f18 G N (argsF [x0]) H = s18 G x0 H := by
 refine via_top (A := cF Tryz.f18 G N) (via_leaf _) ?_
 delta s18
 kernel_rfl
theorem run18 (N : Nat) {x0 : AV} {H : AHeap} {r : AV × AHeap} (h : s18 (evw P orc) x0 H = some r) : evw P orc 18 [x0] H = some r :=
 runF (by kernel_rfl) Tryz.func18 (by kernel_rfl) (by kernel_rfl) (by kernel_rfl) ((s18_eq (evw P orc) N x0 H).trans h)
def s19 (G : CallT) (x0 x1 x2 : AV) (H : AHeap) : O :=
 xcall H (G 18 [x0] H) fun x9 h1 =>
 xalloc h1 [(.int .i64 0), (.str []), (.int .i64 0), (.int .i64 0)] fun x7 h2 =>
 xstore h2 (astore P h2 57 x7 x9) fun h3 =>
 xcall h3 (G 17 [x0] h3) fun x11 h4 =>
 xb (aun .not x11) fun x12 =>
 xg x12 true h4 (qp (afieldAddr P 57 x7 0)) fun x14 h5 =>
 xg x12 true h5 (qr (aload P h5 3 x14)) fun x15 h6 =>
 xg x12 true h6 (qv x1) fun x16 h7 =>
 xg x12 true h7 (qp (fbin P .eql 3 false x15 x16)) fun x17 h8 =>
 xb (pickOf x12 (some x17) (some (.bool false))) fun x18 =>
 xg x18 true h8 (qp (afieldAddr P 57 x7 1)) fun x20 h9 =>
 xg x18 true h9 (qr (aload P h9 9 x20)) fun x21 h10 =>
 xg x18 true h10 (qv x2) fun x22 h11 =>
 xg x18 true h11 (qp (fbin P .eql 9 false x21 x22)) fun x23 h12 =>
 xb (pickOf x18 (some x23) (some (.bool false))) fun x24 =>
 some (x24, h12)
theorem s19_eq (G : CallT) (N : Nat) (x0 : AV) (x1 : AV) (x2 : AV) (H : AHeap) : cF Tryz.f19 G N (argsF [x0, x1, x2]) H = s19 G x0 x1 x2 H := by
 refine via_top (A := cF Tryz.f19 G N) (via_leaf _) ?_
 delta s19
 kernel_rfl
theorem run19 (N : Nat) {x0 x1 x2 : AV} {H : AHeap} {r : AV × AHeap} (h : s19 (evw P orc) x0 x1 x2 H = some r) : evw P orc 19 [x0, x1, x2] H = some r :=
 runF (by kernel_rfl) Tryz.func19 (by kernel_rfl) (by kernel_rfl) (by kernel_rfl) ((s19_eq (evw P orc) N x0 x1 x2 H).trans h)
def s20_j0 (G : CallT) (N : Nat) (x0 x3 : AV) (H : AHeap) : O :=
 xcall H (G 50 [x0, (.str [125])] H) fun x55 h1 =>
 xb (anil x0) fun x58 =>
 xb (afieldAddr P 55 x58 2) fun x59 =>
 xb (afieldAddr P 26 x59 0) fun x60 =>
 xb (aload P h1 22 x60) fun x61 =>
 xb (aload P h1 41 x3) fun x62 =>
 xmake h1 (sliceOf P (h1).next 22 1 [(0, x62)]) fun x63 h2 =>
 xcall h2 (aappend P h2 [22, 22] x61 x63) fun x64 h3 =>
 xb (anil x0) fun x65 =>
 xb (afieldAddr P 55 x65 2) fun x66 =>
 xb (afieldAddr P 26 x66 0) fun x67 =>
 xstore h3 (astore P h3 22 x67 x64) fun h4 =>
 bif ((rdIs (aload P h1 22 x60) x61 && (rdIs (aload P h2 22 x60) x61 && true)) && true) then (some (.tuple [], h4)) else none
theorem s20_j0_eq (G : CallT) (N : Nat) : ∀ R H, codeC P G N (Code.snd (Code.snd (Code.snd (Code.snd (Code.snd (Code.snd (bodyOf Tryz.f20))))))) (rC Tryz.f20) [] (rC Tryz.f20) R H = s20_j0 G N (R 0) (R 3) H := by
 refine via_trans (via_leaf _) fun R H => ?_
 delta s20_j0
 kernel_rfl
def s20_b1 (G : CallT) (N : Nat) (L1 : AV → AV → AHeap → O) (x0 x3 : AV) (H : AHeap) : O :=
 xcall H (G 17 [x0] H) fun x29 h1 =>
 xb (aun .not x29) fun x30 =>
 xg x30 true h1 (qv x0) fun x32 h2 =>
 xg x30 true h2 (fun q => xeff h2 (G 19 [x32, (.int .i64 4), (.str [125])] h2) q) fun x33 h3 =>
 xg x30 true h3 (qp (aun .not x33)) fun x34 h4 =>
 xb (pickOf x30 (some x34) (some (.bool false))) fun x35 =>
 xif (some x35) (xcall h4 (G 18 [x0] h4) fun x38 h5 =>
 xb (afield P 57 x38 0) fun x39 =>
 xb (fbin P .eql 3 true x39 (.int .i64 1)) fun x40 =>
 xb (afieldAddr P 41 x3 1) fun x41 =>
 xb (aload P h5 23 x41) fun x42 =>
 xboth (abuiltin P .empty .len [23] [x42]) (abuiltin P h5 .len [23] [x42]) fun k_ =>
 xcall (k_.heap h5) (G 48 [x0, x40, k_.val, (.int .i64 8)] (k_.heap h5)) fun x44 h6 =>
 bif dchk [0, 0, 2, 6, 14, 0, 32, 96, 255] [1, 2, 3, 4, 8] [⟨1, (.pure x0), fun H => none⟩, ⟨2, (.eff x38 h5), fun H => none⟩, ⟨0, (.pure x0), fun H => none⟩, ⟨3, (.pure x39), fun H => none⟩, ⟨4, (.pure x40), fun H => none⟩, ⟨5, (.pure x41), fun H => none⟩, ⟨6, (.read x42), fun H => aload P H 23 x41⟩, ⟨7, k_, fun H => abuiltin P H .len [23] [x42]⟩, ⟨8, (.eff x44 h6), fun H => none⟩] h4 then (xcall h6 (G 51 [x0] h6) fun x48 h7 =>
 xb (afieldAddr P 41 x3 1) fun x45 =>
 xb (aload P h7 23 x45) fun x46 =>
 xmake h7 (sliceOf P (h7).next 23 1 [(0, x48)]) fun x49 h8 =>
 xcall h8 (aappend P h8 [23, 23] x46 x49) fun x50 h9 =>
 xb (afieldAddr P 41 x3 1) fun x51 =>
 xstore h9 (astore P h9 23 x51 x50) fun h10 =>
 bif ((rdIs (aload P h6 23 x45) x46 && (rdIs (aload P h7 23 x45) x46 && (rdIs (aload P h8 23 x45) x46 && true))) && true) then (xcall h10 (G 50 [x0, (.str [59])] h10) fun x53 h11 =>
 L1 x0 x3 h11) else none) else none) (s20_j0 G N x0 x3 h4)
def s20_l1 (G : CallT) (N : Nat) : Nat → AV → AV → AHeap → O
 | 0, _, _, _ => none
 | n + 1, x0, x3, H => s20_b1 G N (s20_l1 G N n) x0 x3 H
theorem s20_b1_eq (G : CallT) (N : Nat) (L1 : AV → AV → AHeap → O) : ∀ R H, codeC P G N (Code.fst (Code.fst (Code.fst (Code.snd (Code.snd (Code.snd (Code.snd (Code.snd (bodyOf Tryz.f20))))))))) (fun R H => L1 (R 0) (R 3) H) [(0, (fun R H => s20_j0 G N (R 0) (R 3) H))] (rC Tryz.f20) R H = s20_b1 G N L1 (R 0) (R 3) H := by
 refine via_trans (via_leaf _) fun R H => ?_
 delta s20_b1
 generalize s20_j0 G N = J0
 revert J0
 refine id ?_
 intro J0
 kernel_rfl
def s20 (G : CallT) (N : Nat) (x0 : AV) (H : AHeap) : O :=
 xb (anil x0) fun x6 =>
 xb (afieldAddr P 55 x6 2) fun x7 =>
 xb (afieldAddr P 26 x7 0) fun x8 =>
 xb (aload P H 22 x8) fun x9 =>
 xlen P .len [22] [x9] H fun x10 =>
 xcall H (G 48 [x0, (.bool true), x10, (.int .i64 12)] H) fun x11 h1 =>
 xb (anil x0) fun x13 =>
 xb (afieldAddr P 55 x13 1) fun x14 =>
 xb (aload P h1 3 x14) fun x15 =>
 xb (fbin P .add 3 true x15 (.int .i64 1)) fun x16 =>
 xb (anil x0) fun x17 =>
 xb (afieldAddr P 55 x17 1) fun x18 =>
 xstore h1 (astore P h1 3 x18 x16) fun h2 =>
 xcall h2 (G 49 [x0] h2) fun x20 h3 =>
 xalloc h3 [(.int .i64 0), (.str []), (.int .i64 0), (.int .i64 0)] fun x2 h4 =>
 xstore h4 (astore P h4 57 x2 x20) fun h5 =>
 xb (afieldAddr P 57 x2 1) fun x21 =>
 xb (aload P h5 9 x21) fun x22 =>
 xb (afieldAddr P 57 x2 3) fun x23 =>
 xb (aload P h5 3 x23) fun x24 =>
 xb (abuild P 41 [(0, x22), (2, x24)]) fun x25 =>
 xalloc h5 [(.str []), AV.nilSl, (.int .i64 0)] fun x3 h6 =>
 xstore h6 (astore P h6 41 x3 x25) fun h7 =>
 xcall h7 (G 50 [x0, (.str [123])] h7) fun x27 h8 =>
 s20_l1 G N N x0 x3 h8
theorem s20_eq (G : CallT) (N : Nat) (x0 : AV) (H : AHeap) : cF Tryz.f20 G N (argsF [x0]) H = s20 G N x0 H := by
 refine via_top (A := cF Tryz.f20 G N) ((via_seq (by kernel_rfl) ((via_seq (by kernel_rfl) ((via_seq (by kernel_rfl) ((via_seq (by kernel_rfl) ((via_seq (by kernel_rfl) ((via_seq (by kernel_rfl) (s20_j0_eq G N) ((via_block (by kernel_rfl) ((via_loop (k := fun m R H => s20_l1 G N m (R 0) (R 3) H) (by kernel_rfl) (fun R H => by kernel_rfl) (fun m => s20_b1_eq G N (s20_l1 G N m)))))))) (via_leaf _))) (via_leaf _))) (via_leaf _))) (via_leaf _))) (via_leaf _))) ?_
 delta s20
 generalize s20_l1 G N N = J0
 revert J0
 refine id ?_
 intro J0
 kernel_rfl
theorem run20 (N : Nat) {x0 : AV} {H : AHeap} {r : AV × AHeap} (h : s20 (evw P orc) N x0 H = some r) : evw P orc 20 [x0] H = some r :=
 runF (by kernel_rfl) Tryz.func20 (by kernel_rfl) (by kernel_rfl) (by kernel_rfl) ((s20_eq (evw P orc) N x0 H).trans h)
def s21 (G : CallT) (x0 : AV) (H : AHeap) : O :=
 xb (anil x0) fun x5 =>
 xb (afieldAddr P 55 x5 2) fun x6 =>
 xb (afieldAddr P 26 x6 1) fun x7 =>
 xb (aload P H 23 x7) fun x8 =>
 xlen P .len [23] [x8] H fun x9 =>
 xcall H (G 48 [x0, (.bool true), x9, (.int .i64 8)] H) fun x10 h1 =>
 xb (anil x0) fun x12 =>
 xb (afieldAddr P 55 x12 1) fun x13 =>
 xb (aload P h1 3 x13) fun x14 =>
 xb (fbin P .add 3 true x14 (.int .i64 1)) fun x15 =>
 xb (anil x0) fun x16 =>
 xb (afieldAddr P 55 x16 1) fun x17 =>
 xstore h1 (astore P h1 3 x17 x15) fun h2 =>
 xcall h2 (G 51 [x0] h2) fun x19 h3 =>
 xalloc h3 [(.str []), (.str []), (.int .i64 0), (.int .i64 0)] fun x2 h4 =>
 xstore h4 (astore P h4 66 x2 x19) fun h5 =>
 xcall h5 (G 50 [x0, (.str [59])] h5) fun x21 h6 =>
 xb (anil x0) fun x24 =>
 xb (afieldAddr P 55 x24 2) fun x25 =>
 xb (afieldAddr P 26 x25 1) fun x26 =>
 xb (aload P h6 23 x26) fun x27 =>
 xb (aload P h6 66 x2) fun x28 =>
 xmake h6 (sliceOf P (h6).next 23 1 [(0, x28)]) fun x29 h7 =>
 xcall h7 (aappend P h7 [23, 23] x27 x29) fun x30 h8 =>
 xb (anil x0) fun x31 =>
 xb (afieldAddr P 55 x31 2) fun x32 =>
 xb (afieldAddr P 26 x32 1) fun x33 =>
 xstore h8 (astore P h8 23 x33 x30) fun h9 =>
 bif ((rdIs (aload P h6 23 x26) x27 && (rdIs (aload P h7 23 x26) x27 && true)) && true) then (some (.tuple [], h9)) else none
theorem s21_eq (G : CallT) (N : Nat) (x0 : AV) (H : AHeap) : cF Tryz.f21 G N (argsF [x0]) H = s21 G x0 H := by
 refine via_top (A := cF Tryz.f21 G N) (via_leaf _) ?_
 delta s21
 kernel_rfl
theorem run21 (N : Nat) {x0 : AV} {H : AHeap} {r : AV × AHeap} (h : s21 (evw P orc) x0 H = some r) : evw P orc 21 [x0] H = some r :=
 runF (by kernel_rfl) Tryz.func21 (by kernel_rfl) (by kernel_rfl) (by kernel_rfl) ((s21_eq (evw P orc) N x0 H).trans h)
def s22_j1 (G : CallT) (N : Nat) (x0 x3 : AV) (H : AHeap) : O :=
 xcall H (G 17 [x0] H) fun x49 h1 =>
 xif (some x49) (some (.tuple [], h1)) (xb (anil x0) fun x52 =>
 xb (afieldAddr P 55 x52 0) fun x53 =>
 xb (aload P h1 50 x53) fun x54 =>
 xb (anil x0) fun x56 =>
 xb (afieldAddr P 55 x56 1) fun x57 =>
 xb (aload P h1 3 x57) fun x58 =>
 xcall h1 (G 55 [x54, x58, (.int .i64 0)] h1) fun x59 h2 =>
 xb (aextract x59 0) fun x60 =>
 xb (aextract x59 1) fun x61 =>
 xb (aextract x59 2) fun x62 =>
 xalloc h2 [(.int .i64 0), (.int .i64 0)] fun x6 h3 =>
 xstore h3 (astore P h3 29 x6 x62) fun h4 =>
 bif ((rdIs (aload P h1 50 x53) x54 && true) && ((rdIs (aload P h1 3 x57) x58 && true) && true)) then (xb (aload P h4 29 x6) fun x65 =>
 xcall h4 (G 56 [x0, x61, x65] h4) fun x66 h5 =>
 xb (afieldAddr P 46 x3 4) fun x68 =>
 xstore h5 (astore P h5 44 x68 x60) fun h6 =>
 xb (anil x0) fun x71 =>
 xb (afieldAddr P 55 x71 2) fun x72 =>
 xb (afieldAddr P 26 x72 2) fun x73 =>
 xb (aload P h6 24 x73) fun x74 =>
 xb (aload P h6 46 x3) fun x75 =>
 xmake h6 (sliceOf P (h6).next 24 1 [(0, x75)]) fun x76 h7 =>
 xcall h7 (aappend P h7 [24, 24] x74 x76) fun x77 h8 =>
 xb (anil x0) fun x78 =>
 xb (afieldAddr P 55 x78 2) fun x79 =>
 xb (afieldAddr P 26 x79 2) fun x80 =>
 xstore h8 (astore P h8 24 x80 x77) fun h9 =>
 bif ((rdIs (aload P h6 24 x73) x74 && (rdIs (aload P h7 24 x73) x74 && true)) && true) then (some (.tuple [], h9)) else none) else none)
theorem s22_j1_eq (G : CallT) (N : Nat) : ∀ R H, codeC P G N (Code.snd (Code.snd (Code.snd (Code.snd (Code.snd (Code.snd (Code.snd (Code.snd (bodyOf Tryz.f22))))))))) (rC Tryz.f22) [] (rC Tryz.f22) R H = s22_j1 G N (R 0) (R 3) H := by
 refine via_trans (via_leaf _) fun R H => ?_
 delta s22_j1
 kernel_rfl
def s22_j0 (G : CallT) (N : Nat) (x0 x3 : AV) (H : AHeap) : O :=
 xcall H (G 50 [x0, (.str [41])] H) fun x41 h1 =>
 xcall h1 (G 53 [x0, (.int .i64 4), (.str [58])] h1) fun x43 h2 =>
 xif (some x43) (xcall h2 (G 54 [x0] h2) fun x45 h3 =>
 xb (afieldAddr P 46 x3 2) fun x46 =>
 xstore h3 (astore P h3 4 x46 (.bool true)) fun h4 =>
 xb (afieldAddr P 46 x3 3) fun x47 =>
 xstore h4 (astore P h4 43 x47 x45) fun h5 =>
 s22_j1 G N x0 x3 h5) (s22_j1 G N x0 x3 h2)
theorem s22_j0_eq (G : CallT) (N : Nat) : ∀ R H, codeC P G N (Code.snd (Code.snd (Code.snd (Code.snd (Code.snd (Code.snd (bodyOf Tryz.f22))))))) (rC Tryz.f22) [] (rC Tryz.f22) R H = s22_j0 G N (R 0) (R 3) H := by
 refine via_trans ((via_seq (by kernel_rfl) ((via_seq (by kernel_rfl) (s22_j1_eq G N) (via_leaf _))) (via_leaf _))) fun R H => ?_
 delta s22_j0
 generalize s22_j1 G N = J0
 revert J0
 refine id ?_
 intro J0
 kernel_rfl
def s22_b2 (G : CallT) (N : Nat) (L2 : AV → AV → AHeap → O) (x0 x3 : AV) (H : AHeap) : O :=
 xcall H (G 53 [x0, (.int .i64 4), (.str [44])] H) fun x37 h1 =>
 xif (some x37) (xcall h1 (G 52 [x0, x3] h1) fun x39 h2 =>
 L2 x0 x3 h2) (s22_j0 G N x0 x3 h1)
def s22_l2 (G : CallT) (N : Nat) : Nat → AV → AV → AHeap → O
 | 0, _, _, _ => none
 | n + 1, x0, x3, H => s22_b2 G N (s22_l2 G N n) x0 x3 H
theorem s22_b2_eq (G : CallT) (N : Nat) (L2 : AV → AV → AHeap → O) : ∀ R H, codeC P G N (Code.fst (Code.fst (Code.snd (Code.fst (Code.snd (Code.fst (Code.snd (Code.snd (Code.snd (Code.snd (Code.snd (bodyOf Tryz.f22)))))))))))) (fun R H => L2 (R 0) (R 3) H) [(0, (fun R H => s22_j0 G N (R 0) (R 3) H))] (rC Tryz.f22) R H = s22_b2 G N L2 (R 0) (R 3) H := by
 refine via_trans (via_leaf _) fun R H => ?_
 delta s22_b2
 generalize s22_j0 G N = J0
 revert J0
 refine id ?_
 intro J0
 kernel_rfl
def s22 (G : CallT) (N : Nat) (x0 : AV) (H : AHeap) : O :=
 xb (anil x0) fun x9 =>
 xb (afieldAddr P 55 x9 2) fun x10 =>
 xb (afieldAddr P 26 x10 2) fun x11 =>
 xb (aload P H 24 x11) fun x12 =>
 xlen P .len [24] [x12] H fun x13 =>
 xcall H (G 48 [x0, (.bool true), x13, (.int .i64 16)] H) fun x14 h1 =>
 xb (anil x0) fun x16 =>
 xb (afieldAddr P 55 x16 1) fun x17 =>
 xb (aload P h1 3 x17) fun x18 =>
 xb (fbin P .add 3 true x18 (.int .i64 1)) fun x19 =>
 xb (anil x0) fun x20 =>
 xb (afieldAddr P 55 x20 1) fun x21 =>
 xstore h1 (astore P h1 3 x21 x19) fun h2 =>
 xcall h2 (G 49 [x0] h2) fun x23 h3 =>
 xalloc h3 [(.int .i64 0), (.str []), (.int .i64 0), (.int .i64 0)] fun x2 h4 =>
 xstore h4 (astore P h4 57 x2 x23) fun h5 =>
 xb (afieldAddr P 57 x2 1) fun x24 =>
 xb (aload P h5 9 x24) fun x25 =>
 xb (afieldAddr P 57 x2 3) fun x26 =>
 xb (aload P h5 3 x26) fun x27 =>
 xb (abuild P 46 [(0, x25), (5, x27)]) fun x28 =>
 xalloc h5 [(.str []), AV.nilSl, (.bool false), (.str []), (.int .i64 0), AV.nilSl, (.int .i64 0)] fun x3 h6 =>
 xstore h6 (astore P h6 46 x3 x28) fun h7 =>
 xcall h7 (G 50 [x0, (.str [40])] h7) fun x30 h8 =>
 xcall h8 (G 19 [x0, (.int .i64 4), (.str [41])] h8) fun x32 h9 =>
 xb (aun .not x32) fun x33 =>
 xif (some x33) (xcall h9 (G 52 [x0, x3] h9) fun x35 h10 =>
 s22_l2 G N N x0 x3 h10) (s22_j0 G N x0 x3 h9)
theorem s22_eq (G : CallT) (N : Nat) (x0 : AV) (H : AHeap) : cF Tryz.f22 G N (argsF [x0]) H = s22 G N x0 H := by
 refine via_top (A := cF Tryz.f22 G N) ((via_seq (by kernel_rfl) ((via_seq (by kernel_rfl) ((via_seq (by kernel_rfl) ((via_seq (by kernel_rfl) ((via_seq (by kernel_rfl) ((via_seq (by kernel_rfl) (s22_j0_eq G N) ((via_seq (by kernel_rfl) ((via_cond (by kernel_rfl) ((via_seq (by kernel_rfl) ((via_block (by kernel_rfl) ((via_loop (k := fun m R H => s22_l2 G N m (R 0) (R 3) H) (by kernel_rfl) (fun R H => by kernel_rfl) (fun m => s22_b2_eq G N (s22_l2 G N m)))))) (via_leaf _))) (via_leaf _))) (via_leaf _))))) (via_leaf _))) (via_leaf _))) (via_leaf _))) (via_leaf _))) (via_leaf _))) ?_
 delta s22
 generalize s22_j0 G N = J0
 generalize s22_l2 G N N = J1
 revert J0 J1
 refine id ?_
 intro J0 J1
 kernel_rfl
theorem run22 (N : Nat) {x0 : AV} {H : AHeap} {r : AV × AHeap} (h : s22 (evw P orc) N x0 H = some r) : evw P orc 22 [x0] H = some r :=
 runF (by kernel_rfl) Tryz.func22 (by kernel_rfl) (by kernel_rfl) (by kernel_rfl) ((s22_eq (evw P orc) N x0 H).trans h)
def s23 (G : CallT) (x0 x1 : AV) (H : AHeap) : O :=
 xcall H (G 17 [x0] H) fun x5 h1 =>
 xb (aun .not x5) fun x6 =>
 xif (some x6) (xcall h1 (G 18 [x0] h1) fun x10 h2 =>
 xb (afield P 57 x10 3) fun x11 =>
 xb (abuild P 29 [(0, x1), (1, x11)]) fun x12 =>
 xb (anil x0) fun x13 =>
 xb (afieldAddr P 55 x13 3) fun x14 =>
 xstore h2 (astore P h2 29 x14 x12) fun h3 =>
 some (.tuple [], h3)) (some (.tuple [], h1))
theorem s23_eq (G : CallT) (N : Nat) (x0 : AV) (x1 : AV) (H : AHeap) : cF Tryz.f23 G N (argsF [x0, x1]) H = s23 G x0 x1 H := by
 refine via_top (A := cF Tryz.f23 G N) (via_leaf _) ?_
 delta s23
 kernel_rfl
theorem run23 (N : Nat) {x0 x1 : AV} {H : AHeap} {r : AV × AHeap} (h : s23 (evw P orc) x0 x1 H = some r) : evw P orc 23 [x0, x1] H = some r :=
 runF (by kernel_rfl) Tryz.func23 (by kernel_rfl) (by kernel_rfl) (by kernel_rfl) ((s23_eq (evw P orc) N x0 x1 H).trans h)
def s48 (G : CallT) (x0 x1 : AV) (x2 x3 : AV) (H : AHeap) : O :=
 xg x1 true H (qv x2) fun x10 h1 =>
 xg x1 true h1 (qv x3) fun x11 h2 =>
 xg x1 true h2 (qp (fbin P .geq 3 false x10 x11)) fun x12 h3 =>
 xb (pickOf x1 (some x12) (some (.bool false))) fun x13 =>
 xif (some x13) (xcall h3 (G 23 [x0, (.int .i64 4)] h3) fun x15 h4 =>
 some (.tuple [], h4)) (some (.tuple [], h3))
theorem s48_eq (G : CallT) (N : Nat) (x0 : AV) (x1 : AV) (x2 : AV) (x3 : AV) (H : AHeap) : cF Tryz.f48 G N (argsF [x0, x1, x2, x3]) H = s48 G x0 x1 x2 x3 H := by
 refine via_top (A := cF Tryz.f48 G N) (via_leaf _) ?_
 delta s48
 kernel_rfl
theorem run48 (N : Nat) {x0 x1 x2 x3 : AV} {H : AHeap} {r : AV × AHeap} (h : s48 (evw P orc) x0 x1 x2 x3 H = some r) : evw P orc 48 [x0, x1, x2, x3] H = some r :=
 runF (by kernel_rfl) Tryz.func48 (by kernel_rfl) (by kernel_rfl) (by kernel_rfl) ((s48_eq (evw P orc) N x0 x1 x2 x3 H).trans h)
def s49 (G : CallT) (x0 : AV) (H : AHeap) : O :=
 xalloc H [(.int .i64 0), (.str []), (.int .i64 0), (.int .i64 0)] fun x2 h1 =>
 xcall h1 (G 18 [x0] h1) fun x5 h2 =>
 xalloc h2 [(.int .i64 0), (.str []), (.int .i64 0), (.int .i64 0)] fun x3 h3 =>
 xstore h3 (astore P h3 57 x3 x5) fun h4 =>
 xb (afieldAddr P 57 x3 0) fun x6 =>
 xb (aload P h4 3 x6) fun x7 =>
 xb (fbin P .neq 3 true x7 (.int .i64 1)) fun x8 =>
 xif (some x8) (xcall h4 (G 23 [x0, (.int .i64 2)] h4) fun x10 h5 =>
 xstore h5 (astore P h5 57 x2 (.agg [(.int .i64 0), (.str []), (.int .i64 0), (.int .i64 0)])) fun h6 =>
 xb (aload P h6 57 x2) fun r =>
 some (r, h6)) (xb (anil x0) fun x13 =>
 xb (afieldAddr P 55 x13 1) fun x14 =>
 xb (aload P h4 3 x14) fun x15 =>
 xb (fbin P .add 3 true x15 (.int .i64 1)) fun x16 =>
 xb (anil x0) fun x17 =>
 xb (afieldAddr P 55 x17 1) fun x18 =>
 xstore h4 (astore P h4 3 x18 x16) fun h5 =>
 xb (aload P h5 57 x3) fun x19 =>
 xstore h5 (astore P h5 57 x2 x19) fun h6 =>
 xb (aload P h6 57 x2) fun r =>
 some (r, h6))
theorem s49_eq (G : CallT) (N : Nat) (x0 : AV) (H : AHeap) : cF Tryz.f49 G N (argsF [x0]) H = s49 G x0 H := by
 refine via_top (A := cF Tryz.f49 G N) (via_leaf _) ?_
 delta s49
 kernel_rfl
theorem run49 (N : Nat) {x0 : AV} {H : AHeap} {r : AV × AHeap} (h : s49 (evw P orc) x0 H = some r) : evw P orc 49 [x0] H = some r :=
 runF (by kernel_rfl) Tryz.func49 (by kernel_rfl) (by kernel_rfl) (by kernel_rfl) ((s49_eq (evw P orc) N x0 H).trans h)
def s50 (G : CallT) (x0 x1 : AV) (H : AHeap) : O :=
 xcall H (G 53 [x0, (.int .i64 4), x1] H) fun x6 h1 =>
 xb (aun .not x6) fun x7 =>
 xif (some x7) (xcall h1 (G 23 [x0, (.int .i64 2)] h1) fun x9 h2 =>
 some (.tuple [], h2)) (some (.tuple [], h1))
theorem s50_eq (G : CallT) (N : Nat) (x0 : AV) (x1 : AV) (H : AHeap) : cF Tryz.f50 G N (argsF [x0, x1]) H = s50 G x0 x1 H := by
 refine via_top (A := cF Tryz.f50 G N) (via_leaf _) ?_
 delta s50
 kernel_rfl
theorem run50 (N : Nat) {x0 x1 : AV} {H : AHeap} {r : AV × AHeap} (h : s50 (evw P orc) x0 x1 H = some r) : evw P orc 50 [x0, x1] H = some r :=
 runF (by kernel_rfl) Tryz.func50 (by kernel_rfl) (by kernel_rfl) (by kernel_rfl) ((s50_eq (evw P orc) N x0 x1 H).trans h)
def s51 (G : CallT) (x0 : AV) (H : AHeap) : O :=
 xalloc H [(.str []), (.str []), (.int .i64 0), (.int .i64 0)] fun x2 h1 =>
 xcall h1 (G 49 [x0] h1) fun x5 h2 =>
 xalloc h2 [(.int .i64 0), (.str []), (.int .i64 0), (.int .i64 0)] fun x3 h3 =>
 xstore h3 (astore P h3 57 x3 x5) fun h4 =>
 xcall h4 (G 50 [x0, (.str [58])] h4) fun x7 h5 =>
 xcall h5 (G 54 [x0] h5) fun x11 h6 =>
 xb (afieldAddr P 57 x3 1) fun x8 =>
 xb (aload P h6 9 x8) fun x9 =>
 xb (afieldAddr P 57 x3 3) fun x12 =>
 xb (aload P h6 3 x12) fun x13 =>
 xb (abuild P 66 [(0, x9), (1, x11), (2, x13)]) fun x14 =>
 xstore h6 (astore P h6 66 x2 x14) fun h7 =>
 bif ((rdIs (aload P h5 9 x8) x9 && (rdIs (aload P h6 9 x8) x9 && true)) && ((rdIs (aload P h5 3 x12) x13 && (rdIs (aload P h6 3 x12) x13 && true)) && true)) then (xb (aload P h7 66 x2) fun r =>
 some (r, h7)) else none
theorem s51_eq (G : CallT) (N : Nat) (x0 : AV) (H : AHeap) : cF Tryz.f51 G N (argsF [x0]) H = s51 G x0 H := by
 refine via_top (A := cF Tryz.f51 G N) (via_leaf _) ?_
 delta s51
 kernel_rfl
theorem run51 (N : Nat) {x0 : AV} {H : AHeap} {r : AV × AHeap} (h : s51 (evw P orc) x0 H = some r) : evw P orc 51 [x0] H = some r :=
 runF (by kernel_rfl) Tryz.func51 (by kernel_rfl) (by kernel_rfl) (by kernel_rfl) ((s51_eq (evw P orc) N x0 H).trans h)
def s52 (G : CallT) (x0 x1 : AV) (H : AHeap) : O :=
 xcall H (G 18 [x0] H) fun x6 h1 =>
 xb (afield P 57 x6 0) fun x7 =>
 xb (fbin P .eql 3 true x7 (.int .i64 1)) fun x8 =>
 xb (anil x1) fun x10 =>
 xb (afieldAddr P 46 x10 1) fun x11 =>
 xb (aload P h1 23 x11) fun x12 =>
 xboth (abuiltin P .empty .len [23] [x12]) (abuiltin P h1 .len [23] [x12]) fun k_ =>
 xcall (k_.heap h1) (G 48 [x0, x8, k_.val, (.int .i64 6)] (k_.heap h1)) fun x14 h2 =>
 bif dchk [0, 0, 2, 6, 14, 0, 32, 96, 224, 480, 1023] [1, 2, 3, 4, 10] [⟨1, (.pure x0), fun H => none⟩, ⟨2, (.eff x6 h1), fun H => none⟩, ⟨0, (.pure x0), fun H => none⟩, ⟨3, (.pure x7), fun H => none⟩, ⟨4, (.pure x8), fun H => none⟩, ⟨5, (.pure x1), fun H => none⟩, ⟨6, (.pure x10), fun H => none⟩, ⟨7, (.pure x11), fun H => none⟩, ⟨8, (.read x12), fun H => aload P H 23 x11⟩, ⟨9, k_, fun H => abuiltin P H .len [23] [x12]⟩, ⟨10, (.eff x14 h2), fun H => none⟩] H then (xcall h2 (G 51 [x0] h2) fun x21 h3 =>
 xb (anil x1) fun x17 =>
 xb (afieldAddr P 46 x17 1) fun x18 =>
 xb (aload P h3 23 x18) fun x19 =>
 xmake h3 (sliceOf P (h3).next 23 1 [(0, x21)]) fun x22 h4 =>
 xcall h4 (aappend P h4 [23, 23] x19 x22) fun x23 h5 =>
 xb (anil x1) fun x24 =>
 xb (afieldAddr P 46 x24 1) fun x25 =>
 xstore h5 (astore P h5 23 x25 x23) fun h6 =>
 bif ((rdIs (aload P h2 23 x18) x19 && (rdIs (aload P h3 23 x18) x19 && (rdIs (aload P h4 23 x18) x19 && true))) && true) then (some (.tuple [], h6)) else none) else none
theorem s52_eq (G : CallT) (N : Nat) (x0 : AV) (x1 : AV) (H : AHeap) : cF Tryz.f52 G N (argsF [x0, x1]) H = s52 G x0 x1 H := by
 refine via_top (A := cF Tryz.f52 G N) (via_leaf _) ?_
 delta s52
 kernel_rfl
theorem run52 (N : Nat) {x0 x1 : AV} {H : AHeap} {r : AV × AHeap} (h : s52 (evw P orc) x0 x1 H = some r) : evw P orc 52 [x0, x1] H = some r :=
 runF (by kernel_rfl) Tryz.func52 (by kernel_rfl) (by kernel_rfl) (by kernel_rfl) ((s52_eq (evw P orc) N x0 x1 H).trans h)
def s53 (G : CallT) (x0 x1 x2 : AV) (H : AHeap) : O :=
 xcall H (G 19 [x0, x1, x2] H) fun x10 h1 =>
 xb (aun .not x10) fun x11 =>
 xif (some x11) (some ((.bool false), h1)) (xb (anil x0) fun x13 =>
 xb (afieldAddr P 55 x13 1) fun x14 =>
 xb (aload P h1 3 x14) fun x15 =>
 xb (fbin P .add 3 true x15 (.int .i64 1)) fun x16 =>
 xb (anil x0) fun x17 =>
 xb (afieldAddr P 55 x17 1) fun x18 =>
 xstore h1 (astore P h1 3 x18 x16) fun h2 =>
 some ((.bool true), h2))
theorem s53_eq (G : CallT) (N : Nat) (x0 : AV) (x1 : AV) (x2 : AV) (H : AHeap) : cF Tryz.f53 G N (argsF [x0, x1, x2]) H = s53 G x0 x1 x2 H := by
 refine via_top (A := cF Tryz.f53 G N) (via_leaf _) ?_
 delta s53
 kernel_rfl
theorem run53 (N : Nat) {x0 x1 x2 : AV} {H : AHeap} {r : AV × AHeap} (h : s53 (evw P orc) x0 x1 x2 H = some r) : evw P orc 53 [x0, x1, x2] H = some r :=
 runF (by kernel_rfl) Tryz.func53 (by kernel_rfl) (by kernel_rfl) (by kernel_rfl) ((s53_eq (evw P orc) N x0 x1 x2 H).trans h)
def s54 (G : CallT) (x0 : AV) (H : AHeap) : O :=
 xalloc H [(.str []), (.int .i64 0)] fun x2 h1 =>
 xcall h1 (G 17 [x0] h1) fun x7 h2 =>
 xif (some x7) (xstore h2 (astore P h2 43 x2 (.agg [(.str []), (.int .i64 0)])) fun h3 =>
 xb (aload P h3 43 x2) fun r =>
 some (r, h3)) (xb (anil x0) fun x11 =>
 xb (afieldAddr P 55 x11 0) fun x12 =>
 xb (aload P h2 50 x12) fun x13 =>
 xb (anil x0) fun x15 =>
 xb (afieldAddr P 55 x15 1) fun x16 =>
 xb (aload P h2 3 x16) fun x17 =>
 xcall h2 (G 73 [x13, x17] h2) fun x18 h3 =>
 xb (aextract x18 0) fun x19 =>
 xalloc h3 [(.str []), (.int .i64 0)] fun x3 h4 =>
 xalloc h4 [(.int .i64 0), (.int .i64 0)] fun x5 h5 =>
 xstore h5 (astore P h5 43 x3 x19) fun h6 =>
 xb (aextract x18 1) fun x20 =>
 xb (aextract x18 2) fun x21 =>
 xstore h6 (astore P h6 29 x5 x21) fun h7 =>
 bif ((rdIs (aload P h2 50 x12) x13 && true) && ((rdIs (aload P h2 3 x16) x17 && true) && true)) then (xb (aload P h7 29 x5) fun x24 =>
 xcall h7 (G 56 [x0, x20, x24] h7) fun x25 h8 =>
 xb (aload P h8 43 x3) fun x26 =>
 xstore h8 (astore P h8 43 x2 x26) fun h9 =>
 xb (aload P h9 43 x2) fun r =>
 some (r, h9)) else none)
theorem s54_eq (G : CallT) (N : Nat) (x0 : AV) (H : AHeap) : cF Tryz.f54 G N (argsF [x0]) H = s54 G x0 H := by
 refine via_top (A := cF Tryz.f54 G N) (via_leaf _) ?_
 delta s54
 kernel_rfl
theorem run54 (N : Nat) {x0 : AV} {H : AHeap} {r : AV × AHeap} (h : s54 (evw P orc) x0 H = some r) : evw P orc 54 [x0] H = some r :=
 runF (by kernel_rfl) Tryz.func54 (by kernel_rfl) (by kernel_rfl) (by kernel_rfl) ((s54_eq (evw P orc) N x0 H).trans h)
def s56 (G : CallT) (x0 x1 x2 : AV) (H : AHeap) : O :=
 xmake H (boxOf (H).next x2) fun x5 h1 =>
 xb (afieldAddr P 29 x5 0) fun x6 =>
 xb (aload P h1 27 x6) fun x7 =>
 xb (fbin P .neq 27 true x7 (.int .i64 0)) fun x8 =>
 xif (some x8) (xb (aload P h1 29 x5) fun x10 =>
 xb (anil x0) fun x11 =>
 xb (afieldAddr P 55 x11 3) fun x12 =>
 xstore h1 (astore P h1 29 x12 x10) fun h2 =>
 some (.tuple [], h2)) (xb (anil x0) fun x15 =>
 xb (afieldAddr P 55 x15 1) fun x16 =>
 xstore h1 (astore P h1 3 x16 x1) fun h2 =>
 some (.tuple [], h2))
theorem s56_eq (G : CallT) (N : Nat) (x0 : AV) (x1 : AV) (x2 : AV) (H : AHeap) : cF Tryz.f56 G N (argsF [x0, x1, x2]) H = s56 G x0 x1 x2 H := by
 refine via_top (A := cF Tryz.f56 G N) (via_leaf _) ?_
 delta s56
 kernel_rfl
theorem run56 (N : Nat) {x0 x1 x2 : AV} {H : AHeap} {r : AV × AHeap} (h : s56 (evw P orc) x0 x1 x2 H = some r) : evw P orc 56 [x0, x1, x2] H = some r :=
 runF (by kernel_rfl) Tryz.func56 (by kernel_rfl) (by kernel_rfl) (by kernel_rfl) ((s56_eq (evw P orc) N x0 x1 x2 H).trans h)
end
end Go.Proofs.YtghmbpmaafnodaaGreatDoor
namespace Go.Ev
 @[congr] theorem xalloc_cg {H H' : AHeap} {cs cs' : List AV} {k : AV → AHeap → O} {z : Nat} (d : H = H') (e : cs = cs') (_y : zA = z) : xalloc H cs k = xalloc H' cs' k := by rw [d, e]
 @[congr] theorem dchk_cg {ms ez : List Nat} {T : List Tc} {H : AHeap} {z : Nat} (_y : zA = z) : dchk ms ez T H = dchk ms ez T H := rfl
theorem winsC_tied {ms ez : List Nat} {T : List Tc} {H : AHeap} : ∀ S : List Tc, S.all (fun t => ez.contains t.i) = true → winsC ms ez T H S = true
  | [], _ => rfl
  | t :: ts, h => by
    simp only [List.all_cons, Bool.and_eq_true] at h
    rw [winsC, winsC_tied ts h.2, Bool.and_true]
    split
    · rw [h.1, Bool.true_or]
    · rfl
theorem dchk_tied {ms ez : List Nat} {T : List Tc} {H : AHeap} (h1 : effC ms T [] = true) (h2 : T.all (fun t => ez.contains t.i) = true) : dchk ms ez T H = true := by
  rw [dchk, h1, winsC_tied T h2]; rfl
end Go.Ev

namespace Go.Proofs.YtghmbpmaafnodaaGreatDoor
open Go.Ev
structure Toks (T : List Tok) : Prop where
 n : T.length ≤ 20000000
 g : Good T ((T.length : Int) - 1)
def r7 (tv rv gv fv : AV) (s : St) : ABlk := .row false 7 [[tv, .int .i64 s.at_, rv, gv, fv, .int .i64 s.fe, .int .i64 s.fa]]
structure Rp (H : AHeap) (r : Nat) (T : List Tok) (tv rv gv fv : AV) (s : St) : Prop where
 rd : H.get r = some (r7 tv rv gv fv s)
 tk : TokSl H tv T
 a0 : 0 ≤ s.at_
 a1 : s.at_ < T.length
 n : T.length ≤ 20000000
 z : s.fe = 0 → s.fa = 0
 o : s.opn = 0
 one : rv.one = true ∧ gv.one = true ∧ fv.one = true
section
variable {H H' : AHeap} {r : Nat} {T : List Tok} {tv rv gv fv : AV} {s s' : St}
theorem Rp.lt (h : Rp H r T tv rv gv fv s) : r < H.next := AHeap.get_lt h.rd
theorem Rp.pur (h : Rp H r T tv rv gv fv s) (p : Pur H H') : Rp H' r T tv rv gv fv s := ⟨p.get h.rd, h.tk.pur p, h.a0, h.a1, h.n, h.z, h.o, h.one⟩
theorem Rp.tks (h : Rp H r T tv rv gv fv s) (m : Mt r H H') : TokSl H' tv T := h.tk.keep fun l ro els e => m.get e (by
 rintro rfl
 rw [h.rd] at e
 simp only [r7, Option.some.injEq, ABlk.row.injEq] at e
 omega)
theorem Rp.set (h : Rp H r T tv rv gv fv s) (s' : St) (a0 : 0 ≤ s'.at_) (a1 : s'.at_ < T.length) (z : s'.fe = 0 → s'.fa = 0) (o : s'.opn = 0) : Mt r H (H.set r (r7 tv rv gv fv s')) ∧ Rp (H.set r (r7 tv rv gv fv s')) r T tv rv gv fv s' := by
 have m : Mt r H (H.set r (r7 tv rv gv fv s')) := Mut.then_set (S := (· = r)) (Mut.refl _ _) (.inl rfl) _
 exact ⟨m, AHeap.get_set_same h.lt, h.tks m, a0, a1, h.n, z, o, h.one⟩
theorem Rp.fin (h : Rp H r T tv rv gv fv s) (m : Mt r H H') (hg : H'.get r = some (r7 tv rv gv fv s')) (a0 : 0 ≤ s'.at_) (a1 : s'.at_ < T.length) (z : s'.fe = 0 → s'.fa = 0) (o : s'.opn = 0) : Rp H' r T tv rv gv fv s' := ⟨hg, h.tks m, a0, a1, h.n, z, o, h.one⟩
theorem Toks.next (hT : Toks T) (h : (tokAt T s.at_).kind ≠ 0) : s.at_ + 1 < T.length := by have := hT.g.lt _ h; omega
theorem rp_go (hT : Toks T) (h : Rp H r T tv rv gv fv s) (hk : (tokAt T s.at_).kind ≠ 0) : goS s = { s with at_ := s.at_ + 1 } ∧ 0 ≤ (goS s).at_ ∧ (goS s).at_ < T.length := by
 have := hT.next hk
 have h0 := h.a0
 have hn := hT.n
 have e : goS s = { s with at_ := s.at_ + 1 } := by
  unfold goS w64
  rw [IntWalk.i64_in _ ⟨by omega, by omega⟩]
 rw [e]
 exact ⟨rfl, by (try simp only); omega, by (try simp only); omega⟩
theorem mn3 {H : AHeap} (a b : Int) : abuiltin P H .min [3, 3] [.int .i64 a, .int .i64 b] = some (.int .i64 (if b < a then b else a)) := by
 simp only [abuiltin, amin2]
theorem TokSl.rd (h : TokSl H tv T) : rdIs (some tv) tv = true := by
 rcases h with ⟨rfl, _⟩ | ⟨l, i, cap, rfl, _⟩
 ·rfl
 ·exact rdIs_sl _ _ _ _ _
theorem pfailed_spec (h : Rp H r T tv rv gv fv s) : W (evw P orc 17 [.ptr r 0 0] H) fun v H' => v = .bool (s.fe != 0) ∧ H' = H := by
 refine W_of (fun _ => run17 0) ?_
 have hr := h.rd
 unfold r7 at hr
 simp -implicitDefEqProofs (disch := first | assumption | omega | (simp only [nxB]; omega) | (simp only [oneB])) only [s17, xlen, AV.cells, splice, aload, astore, Nat.reduceAdd, Nat.reduceLeDiff, reduceIte, allB, hr]
 exact W_some.2 ⟨rfl, rfl⟩
theorem ptok_spec (h : Rp H r T tv rv gv fv s) : W (evw P orc 18 [.ptr r 0 0] H) fun v H' => v = (tokAt T s.at_).v ∧ Pur H H' := by
 have hr := h.rd
 unfold r7 at hr
 have hl := h.lt
 refine W_of (fun _ => run18 0) ?_
 have a0 := h.a0
 have a1 := h.a1
 rcases h.tk with ⟨rfl, e⟩ | ⟨l, i, cap, rfl, h23⟩
 ·rw [e] at a1; simp at a1; omega
 have hlt : s.at_.toNat < T.length := by omega
 obtain ⟨ro, els, h2, h3⟩ := h23.resolve_left (by rintro rfl; simp at hlt)
 have hl2 := AHeap.get_lt h2
 have h4 := h3 s.at_.toNat T[s.at_.toNat] (by simp [hlt])
 simp only [Tok.cells] at h4
 have hn := h.n
 have w1 : IntKind.i64.wrap ((T.length : Int) - 1) = (T.length : Int) - 1 := IntWalk.i64_in _ ⟨by omega, by omega⟩
 have hmin : (if (T.length : Int) - 1 < s.at_ then (T.length : Int) - 1 else s.at_) = s.at_ := if_neg (by omega)
 simp -implicitDefEqProofs (disch := first | assumption | omega | (simp only [nxB]; omega) | (simp only [oneB])) only [s18, xlen, AV.cells, splice, aload, astore, Nat.reduceAdd, Nat.reduceLeDiff, reduceIte, allB, hr, mn3, w1, hmin, h2, h4, xst_some]
 refine W_bif (dchk_tied (by kernel_rfl) (by kernel_rfl)) ?_
 simp -implicitDefEqProofs (disch := first | assumption | omega | (simp only [nxB]; omega) | (simp only [oneB])) only [xlen, AV.cells, splice, aload, astore, Nat.reduceAdd, Nat.reduceLeDiff, reduceIte, allB]
 refine W_some.2 ⟨?_, Pur.push _ _⟩
 have h0 : ¬ s.at_ < 0 := by omega
 have h1 : ¬ (T.length : Int) ≤ s.at_ := by omega
 simp [tokAt, h0, h1, Tok.v, hlt]
theorem pfail_spec (h : Rp H r T tv rv gv fv s) {e : Int} (he : e ≠ 0) : W (evw P orc 23 [.ptr r 0 0, .int .i64 e] H) fun v H' => v = .tuple [] ∧ Mt r H H' ∧ Rp H' r T tv rv gv fv (failS T e s) := by
 refine W_of (fun _ => run23 0) ?_
 have ho1 := h.tk.one
 obtain ⟨o2, o3, o4⟩ := h.one
 rw [s23]
 refine W_call (pfailed_spec h) ?_
 rintro _ H1 ⟨rfl, rfl⟩
 refine ⟨Nat.le_refl _, ?_⟩
 by_cases h1 : s.fe = 0
 ·rw [show failS T e s = { s with fe := e, fa := (tokAt T s.at_).pos } by simp [failS, h1]]
  simp -implicitDefEqProofs (disch := first | assumption | omega | (simp only [nxB]; omega) | (simp only [oneB])) only [xlen, evB, h1, bne_self_eq_false, Bool.not_false]
  refine W_call (ptok_spec h) ?_
  rintro _ H2 ⟨rfl, p2⟩
  refine ⟨p2.1, ?_⟩
  have h2 := h.pur p2
  have hr2 := h2.rd
  unfold r7 at hr2
  have hl2 := h2.lt
  simp -implicitDefEqProofs (disch := first | assumption | omega | (simp only [nxB]; omega) | (simp only [oneB])) only [s23, xlen, AV.cells, splice, aload, astore, Nat.reduceAdd, Nat.reduceLeDiff, reduceIte, allB, Tok.v, hr2, ho1, o2, o3, o4]
  obtain ⟨m, hd⟩ := h2.set { s with fe := e, fa := (tokAt T s.at_).pos } h.a0 h.a1 (fun hh => absurd hh he) h.o
  exact W_some.2 ⟨rfl, (p2.mut _).trans m, hd⟩
 ·have h1' : (s.fe != 0) = true := by simpa using h1
  rw [show failS T e s = s by simp [failS, h1]]
  simp -implicitDefEqProofs (disch := first | assumption | omega | (simp only [nxB]; omega) | (simp only [oneB])) only [xlen, evB, h1', Bool.not_true]
  exact W_some.2 ⟨rfl, Mut.refl _ _, h⟩
theorem pis_spec (h : Rp H r T tv rv gv fv s) (k : Int) (x : Bs) : W (evw P orc 19 [.ptr r 0 0, .int .i64 k, .str x] H) fun v H' => v = .bool (isB T s k x) ∧ Pur H H' := by
 refine W_of (fun _ => run19 0) ?_
 rw [s19]
 refine W_call (ptok_spec h) ?_
 rintro _ H1 ⟨rfl, p1⟩
 refine ⟨p1.1, ?_⟩
 simp -implicitDefEqProofs (disch := first | assumption | omega | (simp only [nxB]; omega) | (simp only [oneB])) only [xlen, AV.cells, splice, aload, astore, Nat.reduceAdd, Nat.reduceLeDiff, reduceIte, allB, Tok.v]
 refine W_call (pfailed_spec (h.pur (p1.then_push _))) ?_
 rintro _ H2 ⟨rfl, rfl⟩
 refine ⟨Nat.le_refl _, ?_⟩
 by_cases h1 : s.fe = 0
 ·by_cases h2 : (tokAt T s.at_).kind = k
  ·simp -implicitDefEqProofs (disch := first | assumption | omega | (simp only [nxB]; omega) | (simp only [oneB])) only [xlen, AV.cells, splice, aload, astore, Nat.reduceAdd, Nat.reduceLeDiff, reduceIte, allB, W_some, h1, h2, bne_self_eq_false, Bool.not_false, beq_self_eq_true]
   exact ⟨by simp [isB, h1, h2], p1.then_push _⟩
  ·have h2' : ((tokAt T s.at_).kind == k) = false := by simpa using h2
   simp -implicitDefEqProofs (disch := first | assumption | omega | (simp only [nxB]; omega) | (simp only [oneB])) only [xlen, AV.cells, splice, aload, astore, Nat.reduceAdd, Nat.reduceLeDiff, reduceIte, allB, W_some, h1, h2', bne_self_eq_false, Bool.not_false]
   exact ⟨by simp [isB, h2], p1.then_push _⟩
 ·have h1' : (s.fe != 0) = true := by simpa using h1
  simp -implicitDefEqProofs (disch := first | assumption | omega | (simp only [nxB]; omega) | (simp only [oneB])) only [xlen, AV.cells, splice, aload, astore, Nat.reduceAdd, Nat.reduceLeDiff, reduceIte, allB, W_some, h1', Bool.not_true]
  exact ⟨by simp [isB, h1], p1.then_push _⟩
theorem ptakes_spec (hT : Toks T) (h : Rp H r T tv rv gv fv s) {k : Int} (hk : k ≠ 0) (x : Bs) : W (evw P orc 53 [.ptr r 0 0, .int .i64 k, .str x] H) fun v H' => v = .bool (takesS T k x s).1 ∧ Mt r H H' ∧ Rp H' r T tv rv gv fv (takesS T k x s).2 := by
 refine W_of (fun _ => run53 0) ?_
 have ho1 := h.tk.one
 obtain ⟨o2, o3, o4⟩ := h.one
 rw [s53]
 refine W_call (pis_spec h k x) ?_
 rintro _ H1 ⟨rfl, p1⟩
 refine ⟨p1.1, ?_⟩
 have h2 := h.pur p1
 have hr2 := h2.rd
 unfold r7 at hr2
 have hl2 := h2.lt
 cases hb : isB T s k x with
 | false =>
  rw [show takesS T k x s = (false, s) by simp [takesS, hb]]
  simp -implicitDefEqProofs (disch := first | assumption | omega | (simp only [nxB]; omega) | (simp only [oneB])) only [xlen, AV.cells, splice, aload, astore, Nat.reduceAdd, Nat.reduceLeDiff, reduceIte, allB, Bool.not_false]
  exact W_some.2 ⟨rfl, p1.mut _, h2⟩
 | true =>
  rw [show takesS T k x s = (true, goS s) by simp [takesS, hb]]
  have hkk := (isB_kind hb).2.1
  obtain ⟨-, g0, g1⟩ := rp_go hT h (by rw [hkk]; exact hk)
  simp -implicitDefEqProofs (disch := first | assumption | omega | (simp only [nxB]; omega) | (simp only [oneB])) only [xlen, AV.cells, splice, aload, astore, Nat.reduceAdd, Nat.reduceLeDiff, reduceIte, allB, hr2, ho1, o2, o3, o4, Bool.not_true]
  obtain ⟨m, hd⟩ := h2.set (goS s) g0 g1 h.z h.o
  exact W_some.2 ⟨rfl, (p1.mut _).trans m, hd⟩
theorem pwants_spec (hT : Toks T) (h : Rp H r T tv rv gv fv s) (x : Bs) : W (evw P orc 50 [.ptr r 0 0, .str x] H) fun v H' => v = .tuple [] ∧ Mt r H H' ∧ Rp H' r T tv rv gv fv (wantsS T x s).2 := by
 refine W_of (fun _ => run50 0) ?_
 rw [s50]
 refine W_call (ptakes_spec hT h (k := 4) (by decide) x) ?_
 rintro _ H1 ⟨rfl, m1, hx1⟩
 refine ⟨m1.1, ?_⟩
 cases hb : isB T s 4 x with
 | false =>
  rw [show takesS T 4 x s = (false, s) by simp [takesS, hb]] at hx1 ⊢
  rw [show wantsS T x s = (false, failS T 2 s) by simp [wantsS, hb]]
  simp -implicitDefEqProofs (disch := first | assumption | omega | (simp only [nxB]; omega) | (simp only [oneB])) only [xlen, AV.cells, splice, aload, astore, Nat.reduceAdd, Nat.reduceLeDiff, reduceIte, allB, Bool.not_false]
  refine W_call (pfail_spec hx1 (e := 2) (by decide)) ?_
  rintro _ H2 ⟨rfl, m2, hx2⟩
  refine ⟨m2.1, ?_⟩
  exact W_some.2 ⟨rfl, m1.trans m2, hx2⟩
 | true =>
  rw [show takesS T 4 x s = (true, goS s) by simp [takesS, hb]] at hx1 ⊢
  rw [show wantsS T x s = (true, goS s) by simp [wantsS, hb]]
  simp -implicitDefEqProofs (disch := first | assumption | omega | (simp only [nxB]; omega) | (simp only [oneB])) only [xlen, AV.cells, splice, aload, astore, Nat.reduceAdd, Nat.reduceLeDiff, reduceIte, allB, Bool.not_true]
  exact W_some.2 ⟨rfl, m1, hx1⟩
def moreS (T : List Tok) (b : Bool) (have_ most : Int) (s : St) : St := bif b && decide (most ≤ have_) then failS T 4 s else s
theorem pmore_spec (h : Rp H r T tv rv gv fv s) (b : Bool) (x y : Int) : W (evw P orc 48 [.ptr r 0 0, .bool b, .int .i64 x, .int .i64 y] H) fun v H' => v = .tuple [] ∧ Mt r H H' ∧ Rp H' r T tv rv gv fv (moreS T b x y s) := by
 refine W_of (fun _ => run48 0) ?_
 unfold moreS
 cases b with
 | false =>
  simp -implicitDefEqProofs (disch := first | assumption | omega | (simp only [nxB]; omega) | (simp only [oneB])) only [s48, xlen, AV.cells, splice, aload, astore, Nat.reduceAdd, Nat.reduceLeDiff, reduceIte, allB]
  exact W_some.2 ⟨rfl, Mut.refl _ _, h⟩
 | true =>
  by_cases hc : y ≤ x
  ·simp -implicitDefEqProofs (disch := first | assumption | omega | (simp only [nxB]; omega) | (simp only [oneB])) only [s48, xlen, AV.cells, splice, aload, astore, Nat.reduceAdd, Nat.reduceLeDiff, reduceIte, allB, hc, decide_true]
   refine W_call (pfail_spec h (e := 4) (by decide)) ?_
   rintro _ H2 ⟨rfl, m2, hx2⟩
   refine ⟨m2.1, W_some.2 ⟨rfl, m2, ?_⟩⟩
   exact hx2
  ·simp -implicitDefEqProofs (disch := first | assumption | omega | (simp only [nxB]; omega) | (simp only [oneB])) only [s48, xlen, AV.cells, splice, aload, astore, Nat.reduceAdd, Nat.reduceLeDiff, reduceIte, allB, hc, decide_false]
   exact W_some.2 ⟨rfl, Mut.refl _ _, h⟩
def nameP (T : List Tok) (s : St) : Tok × St := bif (tokAt T s.at_).kind != 1 then (.none, failS T 2 s) else (tokAt T s.at_, goS s)
theorem pname_spec (hT : Toks T) (h : Rp H r T tv rv gv fv s) : W (evw P orc 49 [.ptr r 0 0] H) fun v H' => v = (nameP T s).1.v ∧ Mt r H H' ∧ Rp H' r T tv rv gv fv (nameP T s).2 := by
 refine W_of (fun _ => run49 0) ?_
 have ho1 := h.tk.one
 obtain ⟨o2, o3, o4⟩ := h.one
 have p0 := Pur.push H (.row false 4 [[.int .i64 0, .str [], .int .i64 0, .int .i64 0]])
 simp -implicitDefEqProofs (disch := first | assumption | omega | (simp only [nxB]; omega) | (simp only [oneB])) only [s49, xlen, evB, List.length_cons, List.length_nil, Nat.zero_add, Nat.reduceAdd]
 refine W_call (ptok_spec (h.pur p0)) ?_
 rintro _ H1 ⟨rfl, p1⟩
 refine ⟨p1.1, ?_⟩
 have hb := p1.get (AHeap.get_push_same H (.row false 4 [[.int .i64 0, .str [], .int .i64 0, .int .i64 0]]))
 have n1 := p1.1
 simp only [AHeap.next_push] at n1
 have hq := AHeap.get_push_same H1 (.row false 4 [[.int .i64 (tokAt T s.at_).kind, .str (tokAt T s.at_).text, .int .i64 (tokAt T s.at_).n, .int .i64 (tokAt T s.at_).pos]])
 have p2 := (p0.trans p1).then_push (.row false 4 [[.int .i64 (tokAt T s.at_).kind, .str (tokAt T s.at_).text, .int .i64 (tokAt T s.at_).n, .int .i64 (tokAt T s.at_).pos]])
 have hb2 := (Pur.push H1 (.row false 4 [[.int .i64 (tokAt T s.at_).kind, .str (tokAt T s.at_).text, .int .i64 (tokAt T s.at_).n, .int .i64 (tokAt T s.at_).pos]])).get hb
 have h2 := h.pur p2
 have hl := h.lt
 unfold nameP
 cases hk : ((tokAt T s.at_).kind != 1) with
 | true =>
  simp -implicitDefEqProofs (disch := first | assumption | omega | (simp only [nxB]; omega) | (simp only [oneB])) only [xlen, evB, aload, tyB, astore, tyB, Nat.reduceAdd, Nat.reduceLeDiff, reduceIte, AV.cells, splice, lsB, heapB, binB, tabB, Tok.v, hk]
  refine W_call (pfail_spec h2 (e := 2) (by decide)) ?_
  rintro _ H3 ⟨rfl, m3, h3⟩
  refine ⟨m3.1, ?_⟩
  have hb3 := m3.get hb2 (by omega)
  have l3 := AHeap.get_lt hb3
  simp -implicitDefEqProofs (disch := first | assumption | omega | (simp only [nxB]; omega) | (simp only [oneB])) only [xlen, AV.cells, splice, aload, astore, Nat.reduceAdd, Nat.reduceLeDiff, reduceIte, allB, hb3]
  have mm : Mt r H (H3.set H.next (.row false 4 [[.int .i64 0, .str [], .int .i64 0, .int .i64 0]])) := ((p2.mut _).trans m3).then_set (.inr (Nat.le_refl _)) _
  exact W_some.2 ⟨rfl, mm, h.fin mm (by rw [AHeap.get_set_other (by omega)]; exact h3.rd) h3.a0 h3.a1 h3.z h3.o⟩
 | false =>
  have hk1 : (tokAt T s.at_).kind = 1 := by simpa using hk
  obtain ⟨-, g0, g1⟩ := rp_go hT h (by omega)
  have hr2 := h2.rd
  unfold r7 at hr2
  have hl2 := h2.lt
  obtain ⟨m, hd⟩ := h2.set (goS s) g0 g1 h.z h.o
  simp -implicitDefEqProofs (disch := first | assumption | omega | (simp only [nxB]; omega) | (simp only [oneB])) only [xlen, evB, aload, tyB, astore, tyB, Nat.reduceAdd, Nat.reduceLeDiff, reduceIte, AV.cells, splice, lsB, heapB, binB, tabB, Tok.v, hk, hr2, hb2, hq, ho1, o2, o3, o4]
  have mm := ((p2.mut (· = r)).trans m).then_set (.inr (Nat.le_refl _)) (.row false 4 [[.int .i64 (tokAt T s.at_).kind, .str (tokAt T s.at_).text, .int .i64 (tokAt T s.at_).n, .int .i64 (tokAt T s.at_).pos]])
  exact W_some.2 ⟨rfl, mm, h.fin mm (by rw [AHeap.get_set_other (by omega)]; exact hd.rd) g0 g1 h.z h.o⟩
def goesP (at_ e a : Int) (s : St) : St := if e ≠ 0 then { s with fe := e, fa := a } else { s with at_ := at_ }
theorem pgoes_spec (h : Rp H r T tv rv gv fv s) (at_ e a : Int) (hr : e = 0 → 0 ≤ at_ ∧ at_ < T.length) : W (evw P orc 56 [.ptr r 0 0, .int .i64 at_, .agg [.int .i64 e, .int .i64 a]] H) fun v H' => v = .tuple [] ∧ Mt r H H' ∧ Rp H' r T tv rv gv fv (goesP at_ e a s) := by
 refine W_of (fun _ => run56 0) ?_
 have ho1 := h.tk.one
 obtain ⟨o2, o3, o4⟩ := h.one
 have hbx : ∀ l, boxOf l (.agg [.int .i64 e, .int .i64 a]) = some (.ptr l 0 0, .row false 2 [[.int .i64 e, .int .i64 a]]) := fun l => boxOf_agg l _ rfl
 have p1 := Pur.push H (.row false 2 [[.int .i64 e, .int .i64 a]])
 have h2 := h.pur p1
 have hr2 := h2.rd
 unfold r7 at hr2
 have hl := h.lt
 by_cases he : e = 0
 ·have hb : (e != 0) = false := by simp [he]
  obtain ⟨q0, q1⟩ := hr he
  rw [show goesP at_ e a s = { s with at_ := at_ } by simp [goesP, he]]
  obtain ⟨m, hd⟩ := h2.set { s with at_ := at_ } q0 q1 h.z h.o
  simp -implicitDefEqProofs (disch := first | assumption | omega | (simp only [nxB]; omega) | (simp only [oneB])) only [s56, xlen, AV.cells, splice, aload, astore, Nat.reduceAdd, Nat.reduceLeDiff, reduceIte, allB, hbx, hb, hr2, ho1, o2, o3, o4]
  exact W_some.2 ⟨rfl, (p1.mut _).trans m, hd⟩
 ·have hb : (e != 0) = true := by simpa using he
  rw [show goesP at_ e a s = { s with fe := e, fa := a } by simp [goesP, he]]
  obtain ⟨m, hd⟩ := h2.set { s with fe := e, fa := a } h.a0 h.a1 (fun hh => absurd hh he) h.o
  simp -implicitDefEqProofs (disch := first | assumption | omega | (simp only [nxB]; omega) | (simp only [oneB])) only [s56, xlen, AV.cells, splice, aload, astore, Nat.reduceAdd, Nat.reduceLeDiff, reduceIte, allB, hbx, hb, hr2, ho1, o2, o3, o4]
  exact W_some.2 ⟨rfl, (p1.mut _).trans m, hd⟩
theorem in_of (h : Rp H r T tv rv gv fv s) : In ((T.length : Int) - 1) s := ⟨h.a0, by have := h.a1; omega, by rw [h.o]; omega, by rw [h.o]; omega⟩
theorem of_rg (hT : Toks T) (h : Rp H r T tv rv gv fv s) (hf : s.fe = 0) (hq : (ofS T ⟨s.at_, 0, 0, 0⟩).2.fe = 0) : 0 ≤ (ofS T ⟨s.at_, 0, 0, 0⟩).2.at_ ∧ (ofS T ⟨s.at_, 0, 0, 0⟩).2.at_ < T.length := by
 have ag := ag_of hT.n (s := s) (x := s) hf ⟨rfl, rfl, Nat.le_refl _⟩ (h.z hf)
 have e : (ofT T s).2.at_ = (ofS T ⟨s.at_, 0, 0, 0⟩).2.at_ ∧ (ofT T s).2.fe = 0 := by
  unfold ofT; rw [if_pos hq]; exact ⟨rfl, hf⟩
 have eq := ag.1.eq e.2
 have fw := (of_ok hT.g (fun _ => in_of h) (by rw [eq]; exact e.2)).2
 rw [eq] at fw
 have a := fw.a
 have b := fw.b
 have := h.a0
 rw [e.1] at a b
 exact ⟨by omega, by omega⟩
def ofPp (T : List Tok) (s : St) : (Bs × Int) × St := if s.fe ≠ 0 then (([], 0), s) else ofT T s
theorem pof_spec (hT : Toks T) (h : Rp H r T tv rv gv fv s) : W (evw P orc 54 [.ptr r 0 0] H) fun v H' => v = .agg [.str (ofPp T s).1.1, .int .i64 (ofPp T s).1.2] ∧ Mt r H H' ∧ Rp H' r T tv rv gv fv (ofPp T s).2 := by
 refine W_of (fun _ => run54 0) ?_
 have ho1 := h.tk.one
 obtain ⟨o2, o3, o4⟩ := h.one
 have hrt := h.tk.rd
 have hl := h.lt
 have p0 := Pur.push H (.row false 2 [[.str [], .int .i64 0]])
 have hb := AHeap.get_push_same H (.row false 2 [[.str [], .int .i64 0]])
 have h1 := h.pur p0
 simp -implicitDefEqProofs (disch := first | assumption | omega | (simp only [nxB]; omega) | (simp only [oneB])) only [s54, xlen, evB, List.length_cons, List.length_nil, Nat.zero_add, Nat.reduceAdd]
 refine W_call (pfailed_spec h1) ?_
 rintro _ H1 ⟨rfl, rfl⟩
 refine ⟨Nat.le_refl _, ?_⟩
 by_cases hf : s.fe = 0
 ·have hf' : (s.fe != 0) = false := by simpa using hf
  have hr1 := h1.rd
  unfold r7 at hr1
  rw [show ofPp T s = ofT T s by simp [ofPp, hf]]
  simp -implicitDefEqProofs (disch := first | assumption | omega | (simp only [nxB]; omega) | (simp only [oneB])) only [xlen, evB, aload, tyB, Nat.reduceAdd, Nat.reduceLeDiff, reduceIte, AV.cells, splice, lsB, heapB, tabB, hf', hr1]
  refine W_call (Of_spec h1.tk s.at_) ?_
  rintro _ H2 ⟨rfl, p2⟩
  refine ⟨p2.1, ?_⟩
  have rg := of_rg hT h hf
  unfold ofT
  unfold ofP
  generalize ofS T ⟨s.at_, 0, 0, 0⟩ = q at rg
  obtain ⟨⟨x, d⟩, sq⟩ := q
  have hb2 := p2.get hb
  have n2 := p2.1
  simp only [AHeap.next_push] at n2
  have hlb := AHeap.get_lt hb2
  have key : ∀ (x : Bs) (d at_ e a : Int) (hr : e = 0 → 0 ≤ at_ ∧ at_ < T.length), W (xb (some (.agg [.str x, .int .i64 d])) fun x19 =>
 xalloc H2 [(.str []), (.int .i64 0)] fun x3 h4 =>
 xalloc h4 [(.int .i64 0), (.int .i64 0)] fun x5 h5 =>
 xstore h5 (astore P h5 43 x3 x19) fun h6 =>
 xb (some (.int .i64 at_)) fun x20 =>
 xb (some (.agg [.int .i64 e, .int .i64 a])) fun x21 =>
 xstore h6 (astore P h6 29 x5 x21) fun h7 =>
 bif ((rdIs (some tv) tv && true) && ((rdIs (some (.int .i64 s.at_)) (.int .i64 s.at_) && true) && true)) then (xb (aload P h7 29 x5) fun x24 =>
 xcall h7 (evw P orc 56 [.ptr r 0 0, x20, x24] h7) fun x25 h8 =>
 xb (aload P h8 43 x3) fun x26 =>
 xstore h8 (astore P h8 43 (.ptr H.next 0 0) x26) fun h9 =>
 xb (aload P h9 43 (.ptr H.next 0 0)) fun r =>
 some (r, h9)) else none) fun v H' => v = .agg [.str x, .int .i64 d] ∧ Mt r H H' ∧ Rp H' r T tv rv gv fv (goesP at_ e a s) := by
   intro x d at_ e a hr
   have p3 := (p0.trans p2).then_push (.row false 2 [[.str x, .int .i64 d]]) |>.then_push (.row false 2 [[.int .i64 e, .int .i64 a]])
   have hb3 := ((Pur.push H2 (.row false 2 [[.str x, .int .i64 d]])).then_push (.row false 2 [[.int .i64 e, .int .i64 a]])).get hb2
   have hc3 := (Pur.push (H2.push (.row false 2 [[.str x, .int .i64 d]])) (.row false 2 [[.int .i64 e, .int .i64 a]])).get (AHeap.get_push_same H2 (.row false 2 [[.str x, .int .i64 d]]))
   simp -implicitDefEqProofs (disch := first | assumption | omega | (simp only [nxB]; omega) | (simp only [oneB])) only [xlen, AV.cells, splice, aload, astore, Nat.reduceAdd, Nat.reduceLeDiff, reduceIte, allB, AHeap.push_set_lt, hrt, Bool.and_true]
   refine W_call (pgoes_spec (h.pur p3) at_ e a hr) ?_
   rintro _ H4 ⟨rfl, m4, h4⟩
   refine ⟨m4.1, ?_⟩
   have hb4 := m4.get hb3 (by omega)
   have hc4 := m4.get hc3 (by omega)
   have l4 := AHeap.get_lt hb4
   simp -implicitDefEqProofs (disch := first | assumption | omega | (simp only [nxB]; omega) | (simp only [oneB])) only [xlen, AV.cells, splice, aload, astore, Nat.reduceAdd, Nat.reduceLeDiff, reduceIte, allB, hb4, hc4]
   have mm := ((p3.mut (· = r)).trans m4).then_set (.inr (Nat.le_refl _)) (.row false 2 [[.str x, .int .i64 d]])
   exact W_some.2 ⟨rfl, mm, h.fin mm (by rw [AHeap.get_set_other (by omega)]; exact h4.rd) h4.a0 h4.a1 h4.z h4.o⟩
  have hr0 := h.rd
  unfold r7 at hr0
  by_cases hq : sq.fe = 0
  ·have k := key x d sq.at_ 0 0 (fun _ => rg hq)
   have e1 : goesP sq.at_ 0 0 s = { s with at_ := sq.at_ } := by simp [goesP]
   simp only [hq, if_true]
   rw [e1] at k
   simp -implicitDefEqProofs (disch := first | assumption | omega | (simp only [nxB]; omega) | (simp only [oneB])) only [xlen, evB, aload, tyB, astore, tyB, Nat.reduceAdd, Nat.reduceLeDiff, reduceIte, AV.cells, splice, lsB, heapB, tabB, AHeap.push_set_lt, hr0, hrt] at k ⊢
   exact k
  ·have k := key [] 0 0 sq.fe sq.fa (fun hh => absurd hh hq)
   have e1 : goesP 0 sq.fe sq.fa s = { s with fe := sq.fe, fa := sq.fa } := by simp [goesP, hq]
   simp only [hq, if_false]
   rw [e1] at k
   simp -implicitDefEqProofs (disch := first | assumption | omega | (simp only [nxB]; omega) | (simp only [oneB])) only [xlen, evB, aload, tyB, astore, tyB, Nat.reduceAdd, Nat.reduceLeDiff, reduceIte, AV.cells, splice, lsB, heapB, tabB, AHeap.push_set_lt, hr0, hrt] at k ⊢
   exact k
 ·have hf' : (s.fe != 0) = true := by simpa using hf
  rw [show ofPp T s = (([], 0), s) by simp [ofPp, hf]]
  simp -implicitDefEqProofs (disch := first | assumption | omega | (simp only [nxB]; omega) | (simp only [oneB])) only [xlen, AV.cells, splice, aload, astore, Nat.reduceAdd, Nat.reduceLeDiff, reduceIte, allB, hf', AHeap.push_set_lt]
  have mm := (p0.mut (· = r))
  exact W_some.2 ⟨rfl, mm, h1⟩
end
end Go.Proofs.YtghmbpmaafnodaaGreatDoor

namespace Go.Proofs.YtghmbpmaafnodaaGreatDoor
open Go.Ev
def Pm.cells (p : Pm) : List AV := [.str p.name, .str p.ofn, .int .i64 p.ofd, .int .i64 p.pos]
def kPm : Kd Pm := ⟨4, fun _ _ p cs => cs = p.cells, fun h => by rw [h]; exact ⟨rfl, rfl⟩, fun _ h => h⟩
theorem ltyPm : LTy 23 66 4 := ⟨by kernel_rfl, ts66, ⟨_, (by kernel_rfl : tyBytes P 66 = some 48), by decide⟩, ⟨_, (by kernel_rfl : azero P 66 = some (.agg [.str [], .str [], .int .i64 0, .int .i64 0])), rfl, rfl⟩, by decide⟩
def typedP (T : List Tok) (s : St) : Pm × St := (⟨(nameP T s).1.text, (ofPp T (wantsS T [58] (nameP T s).2).2).1.1, (ofPp T (wantsS T [58] (nameP T s).2).2).1.2, (nameP T s).1.pos⟩, (ofPp T (wantsS T [58] (nameP T s).2).2).2)
section
variable {H H' : AHeap} {r : Nat} {T : List Tok} {tv rv gv fv : AV} {s s' : St}
theorem ptyped_spec (hT : Toks T) (h : Rp H r T tv rv gv fv s) : W (evw P orc 51 [.ptr r 0 0] H) fun v H' => v = .agg (typedP T s).1.cells ∧ Mt r H H' ∧ Rp H' r T tv rv gv fv (typedP T s).2 := by
 refine W_of (fun _ => run51 0) ?_
 have hl := h.lt
 have p0 := Pur.push H (.row false 4 [[.str [], .str [], .int .i64 0, .int .i64 0]])
 have hb := AHeap.get_push_same H (.row false 4 [[.str [], .str [], .int .i64 0, .int .i64 0]])
 simp -implicitDefEqProofs (disch := first | assumption | omega | (simp only [nxB]; omega) | (simp only [oneB])) only [s51, xlen, evB, List.length_cons, List.length_nil, Nat.zero_add, Nat.reduceAdd]
 refine W_call (pname_spec hT (h.pur p0)) ?_
 rintro _ H1 ⟨rfl, m1, h1⟩
 refine ⟨m1.1, ?_⟩
 have n1 := m1.1
 simp only [AHeap.next_push] at n1
 have hb1 := m1.get hb (by omega)
 unfold typedP
 generalize nameP T s = q at h1 ⊢
 obtain ⟨⟨k, x, z, p⟩, s1⟩ := q
 simp only at h1 ⊢
 have p2 := Pur.push H1 (.row false 4 [[.int .i64 k, .str x, .int .i64 z, .int .i64 p]])
 have hc2 := AHeap.get_push_same H1 (.row false 4 [[.int .i64 k, .str x, .int .i64 z, .int .i64 p]])
 simp -implicitDefEqProofs (disch := first | assumption | omega | (simp only [nxB]; omega) | (simp only [oneB])) only [xlen, evB, aload, tyB, astore, tyB, Nat.reduceAdd, Nat.reduceLeDiff, reduceIte, AV.cells, splice, lsB, heapB, tabB, AHeap.push_set_lt, Tok.v]
 refine W_call (pwants_spec hT (h1.pur p2) [58]) ?_
 rintro _ H3 ⟨rfl, m3, h3⟩
 refine ⟨m3.1, ?_⟩
 have n3 := m3.1
 simp only [AHeap.next_push] at n3
 generalize (wantsS T [58] s1).2 = s2 at h3 ⊢
 simp -implicitDefEqProofs (disch := first | assumption | omega | (simp only [nxB]; omega) | (simp only [oneB])) only [xlen, evB]
 refine W_call (pof_spec hT h3) ?_
 rintro _ H4 ⟨rfl, m4, h4⟩
 refine ⟨m4.1, ?_⟩
 have n4 := m4.1
 generalize ofPp T s2 = o at h4 ⊢
 obtain ⟨⟨y, d⟩, s4⟩ := o
 simp only at h4 ⊢
 have hb2 := p2.get hb1
 have hb3 := m3.get hb2 (by omega)
 have hc3 := m3.get hc2 (by omega)
 have hb4 := m4.get hb3 (by omega)
 have hc4 := m4.get hc3 (by omega)
 have l4 := AHeap.get_lt hb4
 simp -implicitDefEqProofs (disch := first | assumption | omega | (simp only [nxB]; omega) | (simp only [oneB])) only [xlen, AV.cells, splice, aload, astore, Nat.reduceAdd, Nat.reduceLeDiff, reduceIte, allB, hb4, hc3, hc4]
 have mm := ((((p0.mut (· = r)).trans m1).trans (p2.mut _)).trans m3).trans m4
 have mm' := mm.then_set (.inr (Nat.le_refl _)) (.row false 4 [[.str x, .str y, .int .i64 d, .int .i64 p]])
 exact W_some.2 ⟨rfl, mm', h.fin mm' (by rw [AHeap.get_set_other (by omega)]; exact h4.rd) h4.a0 h4.a1 h4.z h4.o⟩
theorem Bl.pm {ok : Nat → Prop} {l : List Pm} {v : AV} (h : Bl kPm ok H l v) (p : Pm) (hn : ok (H.next + 1)) (hl : l.length ≤ 1000000000) :
  ∃ v' H', aappend P (H.push (.row false 4 [p.cells])) [23, 23] v (.sl H.next 0 1 4 (some 1)) = some (v', H') ∧ Bl kPm ok H' (l ++ [p]) v' ∧ H.next + 1 ≤ H'.next ∧ (∀ k, k < H.next → ¬ ok k → H'.get k = H.get k) := by
 obtain ⟨v', H', a, b, c, d⟩ := Bl.app (K := kPm) (ok' := ok) ltyPm h (okE := fun _ => False) (a := p) (cs := p.cells) rfl (fun _ _ hh => hh.elim) (fun _ _ hh _ => hh) hn hl
 refine ⟨v', H', a, b, c, fun k hk hno => d k hk ?_⟩
 rintro L hv rfl
 rcases h with ⟨rfl, _⟩ | ⟨L', els, rfl, e2, _⟩
 ·cases hv
 ·cases hv; exact hno e2
theorem Bl.len23 {ok : Nat → Prop} {l : List Pm} {v : AV} (h : Bl kPm ok H l v) (H' : AHeap) : abuiltin P H' .len [23] [v] = some (.int .i64 l.length) := by
 rcases h with ⟨rfl, rfl⟩ | ⟨L, els, rfl, _⟩
 ·exact ln23n
 ·exact ln23
theorem Bl.rd {α : Type} {K : Kd α} {ok : Nat → Prop} {l : List α} {v : AV} (h : Bl K ok H l v) : rdIs (some v) v = true := by
 rcases h with ⟨rfl, _⟩ | ⟨L, els, rfl, _⟩
 ·rfl
 ·exact rdIs_sl _ _ _ _ _
end
end Go.Proofs.YtghmbpmaafnodaaGreatDoor

namespace Go.Proofs.YtghmbpmaafnodaaGreatDoor
open Go.Ev
def fieldsP (T : List Tok) : Nat → List Pm → St → R (List Pm)
 | 0, _, _ => none
 | n + 1, l, s => bif s.fe == 0 && !isB T s 4 [125] then
   fieldsP T n (l ++ [(typedP T (moreS T ((tokAt T s.at_).kind == 1) l.length 8 s)).1]) (wantsS T [59] (typedP T (moreS T ((tokAt T s.at_).kind == 1) l.length 8 s)).2).2
   else some (l, s)
abbrev Mr (r n : Nat) : AHeap → AHeap → Prop := Mut fun k => k = r ∨ n ≤ k
section
variable {H H' : AHeap} {r : Nat} {T : List Tok} {tv rv gv fv : AV} {s s' : St}
theorem Rp.fin2 {H1 : AHeap} {s0 : St} (h : Rp H1 r T tv rv gv fv s0) (m : Mr r H1.next H1 H') (hg : H'.get r = some (r7 tv rv gv fv s')) (a0 : 0 ≤ s'.at_) (a1 : s'.at_ < T.length) (z : s'.fe = 0 → s'.fa = 0) (o : s'.opn = 0) : Rp H' r T tv rv gv fv s' :=
 ⟨hg, h.tk.keep fun l ro els e => m.get e (by
  have := AHeap.get_lt e
  rintro (rfl | hh)
  ·rw [h.rd] at e
   simp only [r7, Option.some.injEq, ABlk.row.injEq] at e
   omega
  ·omega), a0, a1, h.n, z, o, h.one⟩
theorem Mt.mr {n : Nat} (m : Mt r H H') : Mr r n H H' := ⟨m.1, fun l hl hs => m.2 l hl fun e => hs (.inl e)⟩
structure Lp (H1 H : AHeap) (r c n2 esz : Nat) (T : List Tok) (tv rv gv fv : AV) (x : AV) (rest : List AV) (l : List Pm) (v : AV) (s : St) : Prop where
 rp : Rp H r T tv rv gv fv s
 cell : H.get c = some (.row false esz [x :: v :: rest])
 bl : Bl kPm (Ge n2) H l v
 m : Mr r H1.next H1 H
 o1 : r < H1.next
 o2 : H1.next ≤ c
 o3 : c < n2
 o4 : n2 ≤ H.next
theorem Lp.mut {H1 : AHeap} {c n2 esz : Nat} {x : AV} {rest : List AV} {l : List Pm} {v : AV} (h : Lp H1 H r c n2 esz T tv rv gv fv x rest l v s) (m : Mt r H H') (rp : Rp H' r T tv rv gv fv s') : Lp H1 H' r c n2 esz T tv rv gv fv x rest l v s' := by
 have o1 := h.o1
 have o2 := h.o2
 have o3 := h.o3
 have o4 := h.o4
 exact ⟨rp, m.get h.cell (by omega), h.bl.keep (KeepA.mut m fun k hk => by unfold Ge at hk; omega), h.m.trans m.mr, o1, o2, o3, by have := m.1; omega⟩
theorem Lp.add {H1 : AHeap} {c n2 esz : Nat} {x : AV} {rest : List AV} {l : List Pm} {v : AV} (h1 : Rp H1 r T tv rv gv fv s') (h : Lp H1 H r c n2 esz T tv rv gv fv x rest l v s) (hl : l.length ≤ 1000000000) (p : Pm) :
  ∃ v' H', aappend P (H.push (.row false 4 [p.cells])) [23, 23] v (.sl H.next 0 1 4 (some 1)) = some (v', H') ∧ H.next + 1 ≤ H'.next ∧ v'.one = true ∧ H'.get c = some (.row false esz [x :: v :: rest]) ∧ (H.push (.row false 4 [p.cells])).get c = some (.row false esz [x :: v :: rest]) ∧ Lp H1 (H'.set c (.row false esz [x :: v' :: rest])) r c n2 esz T tv rv gv fv x rest (l ++ [p]) v' s := by
 have o1 := h.o1
 have o2 := h.o2
 have o3 := h.o3
 have o4 := h.o4
 obtain ⟨v', H', a, b, q, d⟩ := h.bl.pm p (by unfold Ge; omega) hl
 have gc : H'.get c = some (.row false esz [x :: v :: rest]) := by rw [d c (by omega) (by unfold Ge; omega)]; exact h.cell
 have lc := AHeap.get_lt gc
 have mm : Mr r H1.next H1 (H'.set c (.row false esz [x :: v' :: rest])) := h.m.trans ⟨by simp; omega, fun k hk hs => by
  have hs1 : k ≠ r := fun e => hs (.inl e)
  have hs2 : ¬ H1.next ≤ k := fun e => hs (.inr e)
  rw [AHeap.get_set_other (by omega), d k hk (by unfold Ge; omega)]⟩
 refine ⟨v', H', a, q, b.one, gc, (Pur.push _ _).get h.cell, ?_, AHeap.get_set_same lc, b.keep fun k x hk g => ⟨hk, by unfold Ge at hk; rw [AHeap.get_set_other (by omega)]; exact g⟩, mm, o1, o2, o3, by simp; omega⟩
 exact h1.fin2 mm (by rw [AHeap.get_set_other (by omega), d r (by omega) (by unfold Ge; omega)]; exact h.rp.rd) h.rp.a0 h.rp.a1 h.rp.z h.rp.o
theorem fields_loop {N : Nat} (hT : Toks T) {Q : AV → AHeap → Prop} {H1 : AHeap} {c n2 : Nat} {nm : Bs} {ps : Int} {s0 : St} (h1 : Rp H1 r T tv rv gv fv s0) {l' : List Pm}
  (hQ : ∀ H v, Lp H1 H r c n2 3 T tv rv gv fv (.str nm) [.int .i64 ps] l' v s' → W (s20_j0 (evw P orc) N (.ptr r 0 0) (.ptr c 0 0) H) Q) :
  ∀ (n m : Nat) (H : AHeap) (s : St) (l : List Pm) (v : AV), n < m → l.length + n ≤ 1000000000 → Lp H1 H r c n2 3 T tv rv gv fv (.str nm) [.int .i64 ps] l v s → fieldsP T n l s = some (l', s') → W (s20_l1 (evw P orc) N m (.ptr r 0 0) (.ptr c 0 0) H) Q
 | _, 0, _, _, _, _, hn, _, _, _ => by omega
 | 0, m + 1, _, _, _, _, _, _, _, hf => by cases hf
 | n + 1, m + 1, H, s, l, v, hn, hb, h, hf => by
  rw [fieldsP] at hf
  rw [s20_l1]
  unfold s20_b1
  refine W_call (pfailed_spec h.rp) ?_
  rintro _ H2 ⟨rfl, rfl⟩
  refine ⟨Nat.le_refl _, ?_⟩
  by_cases h0 : s.fe = 0
  ·have h0' : (s.fe != 0) = false := by simpa using h0
   have h0b : (s.fe == 0) = true := by simpa using h0
   simp -implicitDefEqProofs (disch := first | assumption | omega | (simp only [nxB]; omega) | (simp only [oneB])) only [xlen, evB, h0', Bool.not_false]
   refine W_eff (pis_spec h.rp 4 [125]) ?_
   rintro _ H3 ⟨rfl, p3⟩
   refine ⟨p3.1, ?_⟩
   have h3 := h.mut (p3.mut _) (h.rp.pur p3)
   cases hx : isB T s 4 [125] with
   | true =>
    rw [h0b, hx] at hf
    cases hf
    simp -implicitDefEqProofs (disch := first | assumption | omega | (simp only [nxB]; omega) | (simp only [oneB])) only [xlen, evB, Bool.not_true]
    exact hQ _ _ h3
   | false =>
    rw [h0b, hx] at hf
    simp only [Bool.not_false, Bool.and_true, cond_true] at hf
    simp -implicitDefEqProofs (disch := first | assumption | omega | (simp only [nxB]; omega) | (simp only [oneB])) only [xlen, evB, Bool.not_false]
    refine W_call (ptok_spec h3.rp) ?_
    rintro _ H4 ⟨rfl, p4⟩
    refine ⟨p4.1, ?_⟩
    have h4 := h3.mut (p4.mut _) (h3.rp.pur p4)
    have hln := fun H' => h4.bl.len23 H'
    have hrd := h4.bl.rd
    have hc4 := h4.cell
    have hc3 := h3.cell
    simp -implicitDefEqProofs (disch := first | assumption | omega | (simp only [nxB]; omega) | (simp only [oneB])) only [xlen, AV.cells, splice, aload, astore, Nat.reduceAdd, Nat.reduceLeDiff, reduceIte, allB, Tok.v, hc4, hln]
    refine W_call (pmore_spec h4.rp _ _ _) ?_
    rintro _ H5 ⟨rfl, m5, r5⟩
    refine ⟨m5.1, ?_⟩
    have h5 := h4.mut m5 r5
    have hc5 := h5.cell
    generalize moreS T ((tokAt T s.at_).kind == 1) l.length 8 s = s5 at h5 hf
    refine W_bif (dchk_true (by kernel_rfl) ?_) ?_
    ·have key : ∀ HH : AHeap, HH.get c = some (.row false 3 [.str nm :: v :: [.int .i64 ps]]) → rdIs (aload P HH 23 (.ptr c 0 1)) v = true := fun HH hh => by
      simp -implicitDefEqProofs (disch := first | assumption | omega | (simp only [nxB]; omega) | (simp only [oneB])) only [aload, tyB, Nat.reduceAdd, Nat.reduceLeDiff, reduceIte, AV.cells, splice, lsB, hh, hrd]
     simp only [winsP, traceH, K_heap_pure, K_heap_read, K_heap_eff, List.forall_mem_cons]
     refine ⟨(fun v hv => by cases hv), (fun v hv => by cases hv), (fun v hv => by cases hv), (fun v hv => by cases hv), (fun v hv => by cases hv), (fun v hv => by cases hv), (fun v hv => .inr ?_), (fun v hv => by cases hv), (fun v hv => by cases hv), trivial⟩
     cases hv
     simp [key _ hc3, key _ hc4, key _ hc5]
    ·refine W_call (ptyped_spec hT h5.rp) ?_
     rintro _ H6 ⟨rfl, m6, r6⟩
     refine ⟨m6.1, ?_⟩
     have h6 := h5.mut m6 r6
     have hc6 := h6.cell
     have hrd6 := h6.bl.rd
     generalize typedP T s5 = q at h6 hf
     obtain ⟨p, s6⟩ := q
     obtain ⟨v', H7, ea, en, eo, e1, e2, h7⟩ := h6.add h1 (by omega) p
     have hsl := sl_one ltyPm H6.next (cs := p.cells) rfl rfl
     have en' : (H6.push (.row false 4 [p.cells])).next ≤ H7.next := by simp only [AHeap.next_push]; exact en
     have hcv := cells_one eo
     simp only [AV.cells] at hcv
     simp -implicitDefEqProofs (disch := first | assumption | omega | (simp only [nxB]; omega) | (simp only [oneB])) only [xlen, evB, aload, tyB, astore, tyB, Nat.reduceAdd, Nat.reduceLeDiff, reduceIte, AV.cells, splice, lsB, heapB, tabB, hcv, hc6, hsl, ea, xcall_some, e1, e2, eo, hrd6, hc5]
     refine W_call (pwants_spec hT h7.rp [59]) ?_
     rintro _ H8 ⟨rfl, m8, r8⟩
     refine ⟨m8.1, ?_⟩
     exact fields_loop hT h1 hQ n m H8 _ _ v' (by omega) (by simp; omega) (h7.mut m8 r8) hf
  ·have h0' : (s.fe != 0) = true := by simpa using h0
   have h0b : (s.fe == 0) = false := by simpa using h0
   rw [h0b] at hf
   cases hf
   simp -implicitDefEqProofs (disch := first | assumption | omega | (simp only [nxB]; omega) | (simp only [oneB])) only [xlen, evB, h0', Bool.not_true]
   exact hQ _ _ h
end
end Go.Proofs.YtghmbpmaafnodaaGreatDoor


/-
  Texts of one proof, laid together: V3 T3 V4 T2 T4 T5 K4.
-/
import Derived.Test.YtnjoomfeddamcaaMM
import Derived.Test.YtnjoomfeddamcaaMH
import Derived.Test.YtnjoomfeddamcaaMJ
import Derived.Test.YtnjoomfeddamcaaML
import Derived.Test.YtnjoomfeddamcaaMF
set_option linter.unusedVariables false
set_option linter.unusedSimpArgs false
namespace Go.Proofs.Ytnjoomfeddamcaa
open Go.Ev
section
variable {H0 H : AHeap} {r b3 b4 : Nat} {T : List Tok} {tv : AV} {s0 s : St} {t : Tok}
theorem st54b {a : Sa} {ev bv cv v : AV} (g : H.get b4 = some (.row false 9 [a.cells ev bv cv])) (o : v.one = true) : astore P H 50 (.ptr b4 0 5) v = some (H.set b4 (.row false 9 [a.cells ev v cv])) := by
 rw [st_any ts50 g rfl (by rw [cells_one o]; rfl) (by rw [cells_one o, List.all_cons, o]; rfl) (by decide), cells_one o]; rfl
theorem st54c {a : Sa} {ev bv cv v : AV} (g : H.get b4 = some (.row false 9 [a.cells ev bv cv])) (o : v.one = true) : astore P H 50 (.ptr b4 0 6) v = some (H.set b4 (.row false 9 [a.cells ev bv v])) := by
 rw [st_any ts50 g rfl (by rw [cells_one o]; rfl) (by rw [cells_one o, List.all_cons, o]; rfl) (by decide), cells_one o]; rfl
theorem rvar_j1 (hT : T.length ≤ 20000000) (hx0 : Ry H0 r T tv s0) (b : Bx H0 H r b3 b4 tv t s (Sa.cells { kind := 0, pos := t.pos } .nilSl .nilSl .nilSl)) (tk : TokSl H0 tv T) :
  W (s72_j1 (evw P) (.ptr r 0 0) (.ptr H0.next 0 0) (.ptr b3 0 0) (.ptr b4 0 0) (.bool true) H) (QostS H0 r T tv ((bif t.text == [108, 101, 116] then letsR T (goS s) else declR T (goS s)).1.at t.pos) (bif t.text == [108, 101, 116] then letsR T (goS s) else declR T (goS s)).2) := by
 have hl := hx0.rd.lt
 have ho1 := hx0.tk.one
 have q3 := b.l3
 have q4 := b.l4
 obtain ⟨m1, d1⟩ := rset b.rd (goS s)
 have b1 := (b.mut hl m1 d1).set hl (Sa.cells { kind := 1, pos := t.pos } .nilSl .nilSl .nilSl)
 have hr := b.rd
 unfold Rd5 at hr
 have g4 := b.g4
 have lr := b.rd.lt
 have l4 := AHeap.get_lt g4
 simp only [Sa.cells] at g4
 simp -implicitDefEqProofs (disch := first | assumption | omega | (simp only [nxB]; omega) | (simp only [oneB])) only [s72_j1, xlen, AV.cells, splice, aload, astore, Nat.reduceAdd, Nat.reduceLeDiff, reduceIte, allB, tyC, hr, ho1, g4]
 refine W_call (rname_spec (hx0.mut b1.m b1.rd)) ?_
 rintro _ H3 ⟨rfl, m3, hx3⟩
 refine ⟨m3.1, ?_⟩
 have b2 := b1.mut hl m3 hx3.rd
 have b2' := b2.set hl (Sa.cells { kind := 1, name := (nameR T (goS s)).1, pos := t.pos } .nilSl .nilSl .nilSl)
 have k4 := b2.g4
 have lk4 := AHeap.get_lt k4
 simp only [Sa.cells] at k4
 simp -implicitDefEqProofs (disch := first | assumption | omega | (simp only [nxB]; omega) | (simp only [oneB])) only [xlen, AV.cells, splice, aload, astore, Nat.reduceAdd, Nat.reduceLeDiff, reduceIte, allB, tyC, k4]
 refine W_call (take_spec (hx0.mut b2'.m b2'.rd) [58] (by simp)) ?_
 rintro _ H5 ⟨rfl, m5, hx5⟩
 refine ⟨m5.1, ?_⟩
 have b5 := b2'.mut hl m5 hx5.rd
 refine W_call (rof_spec hx5) ?_
 rintro _ H6 ⟨rfl, m6, hx6⟩
 refine ⟨m6.1, ?_⟩
 have b6 := b5.mut hl m6 hx6.rd
 have b6' := b6.set hl (Sa.cells { kind := 1, name := (nameR T (goS s)).1, ofn := (ofR T (takeR T [58] (nameR T (goS s)).2)).1.1, ofd := (ofR T (takeR T [58] (nameR T (goS s)).2)).1.2, pos := t.pos } .nilSl .nilSl .nilSl)
 have k6 := b6.g4
 have k3 := b6.g3
 have lk6 := AHeap.get_lt k6
 simp only [Sa.cells] at k6
 unfold letsR declR typedR
 generalize ofR T (takeR T [58] (nameR T (goS s)).2) = o at *
 generalize nameR T (goS s) = nm at *
 cases ht : t.text == [108, 101, 116] with
 | false =>
  simp -implicitDefEqProofs (disch := first | assumption | omega | (simp only [nxB]; omega) | (simp only [oneB])) only [xlen, AV.cells, splice, aload, astore, Nat.reduceAdd, Nat.reduceLeDiff, reduceIte, allB, tyC, k6, k3, ht]
  exact rdecl_end hx0 b6' (KsV.nil _ _)
 | true =>
  have b7 := b6'.set hl (Sa.cells { kind := 2, name := nm.1, ofn := o.1.1, ofd := o.1.2, pos := t.pos } .nilSl .nilSl .nilSl)
  rw [AHeap.set_set] at b7
  simp -implicitDefEqProofs (disch := first | assumption | omega | (simp only [nxB]; omega) | (simp only [oneB])) only [xlen, AV.cells, splice, aload, astore, Nat.reduceAdd, Nat.reduceLeDiff, reduceIte, allB, tyC, k6, k3, ht]
  refine W_call (take_spec (hx0.mut b7.m b7.rd) [61] (by simp)) ?_
  rintro _ H8 ⟨rfl, m8, hx8⟩
  refine ⟨m8.1, ?_⟩
  have b8 := b7.mut hl m8 hx8.rd
  refine W_call (rexpr_spec hT hx8) ?_
  rintro v H9 ⟨m9, hx9, he⟩
  refine ⟨m9.1, ?_⟩
  have b9 := b8.mut hl m9 hx9.rd
  obtain ⟨cs, rfl, c1, o1⟩ := he.cells
  have hs : ∀ l, sliceOf P l 35 1 [(0, .agg cs)] = some (.sl l 0 1 11 (some 1), .row false 11 [cs]) := fun l => sl35_1 l cs c1 o1
  have k9 := b9.g4
  have lk9 := AHeap.get_lt k9
  have k8 := AHeap.get_lt b8.g4
  obtain ⟨bb, kk⟩ := Bx.expr hl (c' := Sa.cells { kind := 2, name := nm.1, ofn := o.1.1, ofd := o.1.2, pos := t.pos } (.sl H9.next 0 1 11 (some 1)) .nilSl .nilSl) b9 (ExV.keep (Keep.le' fun l h => by unfold Ge at *; first | omega | (simp only [AHeap.next_set] at *; omega)) _ _ he) rfl
  simp only [Sa.cells] at k9
  simp -implicitDefEqProofs (disch := first | assumption | omega | (simp only [nxB]; omega) | (simp only [oneB])) only [xlen, AV.cells, splice, aload, astore, Nat.reduceAdd, Nat.reduceLeDiff, reduceIte, allB, tyC, hs, k9, AHeap.push_set_lt]
  exact rdecl_end hx0 bb kk
theorem rif_j1 {n : Nat} (ih : BlockROk n) (hT : T.length ≤ 20000000) (hx0 : Ry H0 r T tv s0) (b : Bx H0 H r b3 b4 tv t s (Sa.cells { kind := 0, pos := t.pos } .nilSl .nilSl .nilSl)) {kd : Int} {e : Ex} {b1 : List Stm} {s1 s2 : St} (hk : kd = 5 ∨ kd = 6) (he2 : exprQ T (goS s) = (e, s1)) (hb : blockR T n s1 = some (b1, s2))
  {Q : AV → AHeap → Prop} {k : AV → AHeap → O} (hq : ∀ (Hf : AHeap) (ev bv : AV), Bx H0 Hf r b3 b4 tv t s2 (Sa.cells { kind := kd, pos := t.pos } ev bv .nilSl) → KsV Hf (Ge (b4 + 1)) [e] ev → SsV Hf (Ge (b4 + 1)) b1 bv → W (k (.tuple []) Hf) Q) :
  W (xb (anil (.ptr r 0 0)) fun x50 => xb (afieldAddr P 75 x50 1) fun x51 => xb (aload P H 3 x51) fun x52 => xb (fbin P .add 3 true x52 (.int .i64 1)) fun x53 => xb (anil (.ptr r 0 0)) fun x54 => xb (afieldAddr P 75 x54 1) fun x55 =>
   xstore H (astore P H 3 x55 x53) fun h2 => xb (afieldAddr P 54 (.ptr b4 0 0) 0) fun x56 => xstore h2 (astore P h2 3 x56 (.int .i64 kd)) fun h3 => xcall h3 (evw P 39 [.ptr r 0 0, .int .i64 0] h3) fun x58 h4 => xmake h4 (sliceOf P h4.next 35 1 [(0, x58)]) fun x59 h5 =>
   xb (afieldAddr P 54 (.ptr b4 0 0) 3) fun x60 => xstore h5 (astore P h5 35 x60 x59) fun h6 => xcall h6 (evw P 47 [.ptr r 0 0] h6) fun x62 h7 => xb (afieldAddr P 54 (.ptr b4 0 0) 4) fun x63 => xstore h7 (astore P h7 50 x63 x62) fun h8 => k (.tuple []) h8) Q := by
 have hl := hx0.rd.lt
 have ho1 := hx0.tk.one
 have q3 := b.l3
 have q4 := b.l4
 obtain ⟨m1, d1⟩ := rset b.rd (goS s)
 have b1' := (b.mut hl m1 d1).set hl (Sa.cells { kind := kd, pos := t.pos } .nilSl .nilSl .nilSl)
 have hr := b.rd
 unfold Rd5 at hr
 have g4 := b.g4
 have lr := b.rd.lt
 have l4 := AHeap.get_lt g4
 simp only [Sa.cells] at g4
 simp -implicitDefEqProofs (disch := first | assumption | omega | (simp only [nxB]; omega) | (simp only [oneB])) only [xlen, AV.cells, splice, aload, astore, Nat.reduceAdd, Nat.reduceLeDiff, reduceIte, allB, tyC, hr, ho1, g4]
 refine W_call (rexpr_spec hT (hx0.mut b1'.m b1'.rd)) ?_
 rintro v H4 ⟨m4, hx4, he⟩
 refine ⟨m4.1, ?_⟩
 rw [he2] at hx4 he
 have b4' := b1'.mut hl m4 hx4.rd
 obtain ⟨cs, rfl, c1, o1⟩ := he.cells
 have hs : ∀ l, sliceOf P l 35 1 [(0, .agg cs)] = some (.sl l 0 1 11 (some 1), .row false 11 [cs]) := fun l => sl35_1 l cs c1 o1
 have k4 := b4'.g4
 have lk4 := AHeap.get_lt k4
 have lb := AHeap.get_lt b1'.g4
 obtain ⟨bb, kk⟩ := Bx.expr hl (c' := Sa.cells { kind := kd, pos := t.pos } (.sl H4.next 0 1 11 (some 1)) .nilSl .nilSl) b4' (ExV.keep (Keep.le' fun l h => by unfold Ge at *; first | omega | (simp only [AHeap.next_set] at *; omega)) _ _ he) rfl
 have nb : b4 < ((H4.set b4 (.row false 9 [Sa.cells { kind := kd, pos := t.pos } (.sl H4.next 0 1 11 (some 1)) .nilSl .nilSl])).push (.row false 11 [cs])).next := AHeap.get_lt bb.g4
 simp only [Sa.cells] at k4 nb
 simp -implicitDefEqProofs (disch := first | assumption | omega | (simp only [nxB]; omega) | (simp only [oneB])) only [xlen, AV.cells, splice, aload, astore, Nat.reduceAdd, Nat.reduceLeDiff, reduceIte, allB, tyC, hs, k4, AHeap.push_set_lt]
 refine W_call (ih hT (hx0.mut bb.m bb.rd) b1 s2 hb) ?_
 rintro bv H7 ⟨m7, hx7, hbv⟩
 refine ⟨m7.1, ?_⟩
 have b7 := bb.mut hl m7 hx7.rd
 have kk7 := kk.keep (Keep.mut m7 (ok' := Ge (b4 + 1)) (by unfold Ge; omega) fun _ h => h)
 have bv7 : SsV H7 (Ge (b4 + 1)) b1 bv := hbv.keep (KeepS.le' fun l h => by unfold Ge at *; simp only [Sa.cells] at h; omega)
 have ob := hbv.oneAV
 have st := st54b b7.g4 ob
 have lk7 := AHeap.get_lt b7.g4
 simp -implicitDefEqProofs (disch := first | assumption | omega | (simp only [nxB]; omega) | (simp only [oneB])) only [xlen, evB, tabB, Nat.zero_add]
 rw [st, xstore_some (by simp only [AHeap.next_set]; omega)]
 have ks : KeepS H7 (Ge (b4 + 1)) (H7.set b4 (.row false 9 [Sa.cells { kind := kd, pos := t.pos } (.sl H4.next 0 1 11 (some 1)) bv .nilSl])) (Ge (b4 + 1)) := KeepS.set _ (by unfold Ge; omega) fun _ h => h
 exact hq _ _ _ (b7.set hl _) (kk7.keep ks.ex) (bv7.keep ks)
end
theorem rstmt_step {n : Nat} (ih : BlockROk n) : StmtROk (n + 1) := by
 intro H r T tv s hT hx e s' h
 refine W_of (fun _ => run72 0) ?_
 have hl := hx.rd.lt
 have ho1 := hx.tk.one
 have p1 := Pur.push H (.row false 9 [[.int .i64 0, .str [], .str [], .int .i64 0, .nilSl, .nilSl, .nilSl, .int .i64 0, .int .i64 0]])
 simp -implicitDefEqProofs (disch := first | assumption | omega | (simp only [nxB]; omega) | (simp only [oneB])) only [s72, xlen, AV.cells, splice, aload, astore, Nat.reduceAdd, Nat.reduceLeDiff, reduceIte, allB, tyC]
 refine W_call (rtok_spec (hx.rd.pur p1) (hx.tk.pur p1)) ?_
 rintro _ H2 ⟨rfl, p2⟩
 refine ⟨p2.1, ?_⟩
 have n2 := p2.1
 simp only [AHeap.next_push] at n2
 generalize ht : tokAt T s.at_ = t
 have p3 := ((p1.trans p2).then_push (.row false 4 [[.int .i64 t.kind, .str t.text, .int .i64 t.n, .int .i64 t.pos]])).then_push (.row false 9 [Sa.cells { kind := 0, pos := t.pos } .nilSl .nilSl .nilSl])
 have p23 := (Pur.push H2 (.row false 4 [[.int .i64 t.kind, .str t.text, .int .i64 t.n, .int .i64 t.pos]])).then_push (.row false 9 [Sa.cells { kind := 0, pos := t.pos } .nilSl .nilSl .nilSl])
 have b : Bx H ((H2.push (.row false 4 [[.int .i64 t.kind, .str t.text, .int .i64 t.n, .int .i64 t.pos]])).push (.row false 9 [Sa.cells { kind := 0, pos := t.pos } .nilSl .nilSl .nilSl])) r H2.next (H2.next + 1) tv t s (Sa.cells { kind := 0, pos := t.pos } .nilSl .nilSl .nilSl) :=
  ⟨p3.mut _, hx.rd.pur p3, p23.get (p2.get (AHeap.get_push_same H _)), by simp -implicitDefEqProofs (disch := first | assumption | omega | (simp only [nxB]; omega) | (simp only [oneB])) only [heapB], AHeap.get_push_same (H2.push _) _, by omega, by omega⟩
 simp -implicitDefEqProofs (disch := first | assumption | omega | (simp only [nxB]; omega) | (simp only [oneB])) only [s72, xlen, AV.cells, splice, aload, astore, Nat.reduceAdd, Nat.reduceLeDiff, reduceIte, allB, tyC, Tok.v]
 simp only [Sa.cells] at b
 generalize (H2.push (.row false 4 [[.int .i64 t.kind, .str t.text, .int .i64 t.n, .int .i64 t.pos]])).push (.row false 9 [[.int .i64 0, .str [], .str [], .int .i64 0, .nilSl, .nilSl, .nilSl, .int .i64 t.pos, .int .i64 0]]) = H3 at b ⊢
 have bx : Bx H H3 r H2.next (H2.next + 1) tv t s (Sa.cells { kind := 0, pos := t.pos } .nilSl .nilSl .nilSl) := b
 generalize H2.next = b3 at bx ⊢
 clear b
 simp only [stmtR, ht, Option.bind_eq_some_iff] at h
 obtain ⟨⟨e1, s1⟩, h1, h2⟩ := h
 simp only [Option.some.injEq, Prod.mk.injEq] at h2
 obtain ⟨rfl, rfl⟩ := h2
 have hx3 := hx.mut bx.m bx.rd
 have vl : ∀ (H' : AHeap), Pur H3 H' → (isR T s [118, 97, 114] || isR T s [108, 101, 116]) = true → W (s72_j1 (evw P) (.ptr r 0 0) (.ptr H.next 0 0) (.ptr b3 0 0) (.ptr (b3 + 1) 0 0) (.bool true) H') (QostS H r T tv (e1.at t.pos) s1) := by
  intro H' p' hv
  rw [hv, cond_true, Option.some.injEq] at h1
  have := rvar_j1 hT hx (bx.mut hl (p'.mut _) (bx.rd.pur p')) hx.tk
  rw [h1] at this; exact this
 refine W_call (ris_spec hx3.rd hx3.tk [118, 97, 114] (by simp)) ?_
 rintro _ H4 ⟨rfl, p4⟩
 refine ⟨p4.1, ?_⟩
 cases hv : isR T s [118, 97, 114] with
 | true =>
  simp -implicitDefEqProofs (disch := first | assumption | omega | (simp only [nxB]; omega) | (simp only [oneB])) only [xlen, AV.cells, splice, aload, astore, Nat.reduceAdd, Nat.reduceLeDiff, reduceIte, allB]
  exact vl H4 p4 (by rw [hv]; rfl)
 | false =>
  simp -implicitDefEqProofs (disch := first | assumption | omega | (simp only [nxB]; omega) | (simp only [oneB])) only [xlen, AV.cells, splice, aload, astore, Nat.reduceAdd, Nat.reduceLeDiff, reduceIte, allB]
  refine W_call (ris_spec (hx3.pur p4).rd (hx3.pur p4).tk [108, 101, 116] (by simp)) ?_
  rintro _ H5 ⟨rfl, p5⟩
  refine ⟨p5.1, ?_⟩
  have p45 := p4.trans p5
  cases hle : isR T s [108, 101, 116] with
  | true => exact vl H5 p45 (by rw [hle, Bool.or_true])
  | false =>
   rw [hv, hle, Bool.or_false, cond_false] at h1
   simp -implicitDefEqProofs (disch := first | assumption | omega | (simp only [nxB]; omega) | (simp only [oneB])) only [s72_j1, xlen, AV.cells, splice, aload, astore, Nat.reduceAdd, Nat.reduceLeDiff, reduceIte, allB]
   have hx5 := hx3.pur p45
   refine W_call (ris_spec hx5.rd hx5.tk [105, 102] (by simp)) ?_
   rintro _ H6 ⟨rfl, p6⟩
   refine ⟨p6.1, ?_⟩
   have p46 := p45.trans p6
   have hx6 := hx5.pur p6
   have b6 := bx.mut hl (p46.mut _) (bx.rd.pur p46)
   have q4 := bx.l3
   cases hif : isR T s [105, 102] with
   | true =>
    simp only [hif, cond_true, Option.bind_eq_some_iff] at h1
    obtain ⟨⟨c1, s2⟩, hb1, h3⟩ := h1
    simp -implicitDefEqProofs (disch := first | assumption | omega | (simp only [nxB]; omega) | (simp only [oneB])) only [xif_bool, cond_true]
    refine rif_j1 ih hT hx b6 (.inl rfl) (e := (exprQ T (goS s)).1) (s1 := (exprQ T (goS s)).2) rfl hb1 (k := fun _ h8 => xcall h8 (evw P 64 [.ptr r 0 0, .str [101, 108, 115, 101]] h8) _) ?_
    intro Hf ev bv bf k1 k2
    have hxf := hx.mut bf.m bf.rd
    refine W_call (ris_spec hxf.rd hxf.tk [101, 108, 115, 101] (by simp)) ?_
    rintro _ H9 ⟨rfl, p9⟩
    refine ⟨p9.1, ?_⟩
    have b9 := bf.mut hl (p9.mut _) (bf.rd.pur p9)
    have k19 := k1.pur p9
    have k29 := k2.keep (KeepS.pur p9 fun _ h => h)
    cases hel : isR T s2 [101, 108, 115, 101] with
    | false =>
     simp only [hel, cond_false, Option.some.injEq, Prod.mk.injEq] at h3
     obtain ⟨rfl, rfl⟩ := h3
     simp -implicitDefEqProofs (disch := first | assumption | omega | (simp only [nxB]; omega) | (simp only [oneB])) only [xlen, AV.cells, splice, aload, astore, Nat.reduceAdd, Nat.reduceLeDiff, reduceIte, allB]
     exact rstmt_end hx b9 k19 k29 (SsV.nil _ _)
    | true =>
     simp only [hel, cond_true, Option.bind_eq_some_iff] at h3
     obtain ⟨⟨c2, s3⟩, hb2, h4⟩ := h3
     simp only [Option.some.injEq, Prod.mk.injEq] at h4
     obtain ⟨rfl, rfl⟩ := h4
     obtain ⟨ma, da⟩ := rset b9.rd (goS s2)
     have ba := b9.mut hl ma da
     have hr9 := b9.rd
     unfold Rd5 at hr9
     have lr9 := b9.rd.lt
     simp -implicitDefEqProofs (disch := first | assumption | omega | (simp only [nxB]; omega) | (simp only [oneB])) only [xlen, AV.cells, splice, aload, astore, Nat.reduceAdd, Nat.reduceLeDiff, reduceIte, allB, hr9, ho1]
     refine W_call (ih hT (hx.mut ba.m ba.rd) c2 s3 hb2) ?_
     rintro cv Hb ⟨mb, hxb, hcv⟩
     refine ⟨mb.1, ?_⟩
     have bb := ba.mut hl mb hxb.rd
     have lb := AHeap.get_lt bb.g4
     have lba := AHeap.get_lt ba.g4
     have st := st54c bb.g4 hcv.oneAV
     simp -implicitDefEqProofs (disch := first | assumption | omega | (simp only [nxB]; omega) | (simp only [oneB])) only [xlen, evB, tabB, Nat.zero_add]
     rw [st, xstore_some (by simp only [AHeap.next_set]; omega)]
     have kk : KeepS H9 (Ge (b3 + 1 + 1)) Hb (Ge (b3 + 1 + 1)) := KeepS.mut (ma.trans mb) (by unfold Ge; omega) fun _ h => h
     have ks : KeepS Hb (Ge (b3 + 1 + 1)) (Hb.set (b3 + 1) (.row false 9 [Sa.cells { kind := 5, pos := t.pos } ev bv cv])) (Ge (b3 + 1 + 1)) := KeepS.set _ (by unfold Ge; omega) fun _ h => h
     exact rstmt_end hx (bb.set hl _) ((k19.keep kk.ex).keep ks.ex) ((k29.keep kk).keep ks) ((hcv.keep (KeepS.le' fun l h => by unfold Ge at *; omega)).keep ks)
   | false =>
    simp only [hif, cond_false] at h1
    simp -implicitDefEqProofs (disch := first | assumption | omega | (simp only [nxB]; omega) | (simp only [oneB])) only [xlen, AV.cells, splice, aload, astore, Nat.reduceAdd, Nat.reduceLeDiff, reduceIte, allB]
    refine W_call (ris_spec hx6.rd hx6.tk [119, 104, 105, 108, 101] (by simp)) ?_
    rintro _ H7 ⟨rfl, p7⟩
    refine ⟨p7.1, ?_⟩
    have hx7 := hx6.pur p7
    have b7 := b6.mut hl (p7.mut _) (b6.rd.pur p7)
    cases hwh : isR T s [119, 104, 105, 108, 101] with
    | true =>
     simp only [hwh, cond_true, Option.bind_eq_some_iff] at h1
     obtain ⟨⟨c1, s2⟩, hb1, h3⟩ := h1
     simp only [Option.some.injEq, Prod.mk.injEq] at h3
     obtain ⟨rfl, rfl⟩ := h3
     simp -implicitDefEqProofs (disch := first | assumption | omega | (simp only [nxB]; omega) | (simp only [oneB])) only [xif_bool, cond_true]
     refine rif_j1 ih hT hx b7 (.inr rfl) (e := (exprQ T (goS s)).1) (s1 := (exprQ T (goS s)).2) rfl hb1 (k := fun _ h8 => s72_j0 (evw P) (.ptr H.next 0 0) (.ptr (b3 + 1) 0 0) h8) ?_
     exact fun Hf ev bv bf k1 k2 => rstmt_end hx bf k1 k2 (SsV.nil _ _)
    | false =>
     simp only [hwh, cond_false] at h1
     simp -implicitDefEqProofs (disch := first | assumption | omega | (simp only [nxB]; omega) | (simp only [oneB])) only [xlen, AV.cells, splice, aload, astore, Nat.reduceAdd, Nat.reduceLeDiff, reduceIte, allB]
     refine W_call (ris_spec hx7.rd hx7.tk [114, 101, 116, 117, 114, 110] (by simp)) ?_
     rintro _ H8 ⟨rfl, p8⟩
     refine ⟨p8.1, ?_⟩
     have hx8 := hx7.pur p8
     have b8 := b7.mut hl (p8.mut _) (b7.rd.pur p8)
     cases hrt : isR T s [114, 101, 116, 117, 114, 110] with
     | true =>
      simp only [hrt, cond_true, Option.some.injEq] at h1
      obtain ⟨m9, d9⟩ := rset b8.rd (goS s)
      have b9 := (b8.mut hl m9 d9).set hl (Sa.cells { kind := 7, pos := t.pos } .nilSl .nilSl .nilSl)
      have hr8 := b8.rd
      unfold Rd5 at hr8
      have g8 := b8.g4
      have lr8 := b8.rd.lt
      have l8 := AHeap.get_lt g8
      simp only [Sa.cells] at g8
      simp -implicitDefEqProofs (disch := first | assumption | omega | (simp only [nxB]; omega) | (simp only [oneB])) only [xlen, AV.cells, splice, aload, astore, Nat.reduceAdd, Nat.reduceLeDiff, reduceIte, allB, tyC, hr8, ho1, g8]
      refine W_call (ris_spec b9.rd (hx.mut b9.m b9.rd).tk [59] (by simp)) ?_
      rintro _ Ha ⟨rfl, pa⟩
      refine ⟨pa.1, ?_⟩
      have ba := b9.mut hl (pa.mut _) (b9.rd.pur pa)
      unfold retsR at h1
      cases h59 : isR T (goS s) [59] with
      | true =>
       simp only [h59, cond_true, Prod.mk.injEq] at h1
       obtain ⟨rfl, rfl⟩ := h1
       simp -implicitDefEqProofs (disch := first | assumption | omega | (simp only [nxB]; omega) | (simp only [oneB])) only [xlen, AV.cells, splice, aload, astore, Nat.reduceAdd, Nat.reduceLeDiff, reduceIte, allB, Bool.not_true]
       exact rret_end hx ba (KsV.nil _ _)
      | false =>
       simp only [h59, cond_false, Prod.mk.injEq] at h1
       obtain ⟨rfl, rfl⟩ := h1
       simp -implicitDefEqProofs (disch := first | assumption | omega | (simp only [nxB]; omega) | (simp only [oneB])) only [xlen, AV.cells, splice, aload, astore, Nat.reduceAdd, Nat.reduceLeDiff, reduceIte, allB, Bool.not_false]
       refine W_call (rexpr_spec hT (hx.mut ba.m ba.rd)) ?_
       rintro v Hb ⟨mb, hxb, he⟩
       refine ⟨mb.1, ?_⟩
       have bb := ba.mut hl mb hxb.rd
       obtain ⟨cs, rfl, c1, o1⟩ := he.cells
       have hs : ∀ l, sliceOf P l 35 1 [(0, .agg cs)] = some (.sl l 0 1 11 (some 1), .row false 11 [cs]) := fun l => sl35_1 l cs c1 o1
       have kb := bb.g4
       have lkb := AHeap.get_lt kb
       have lka := AHeap.get_lt ba.g4
       obtain ⟨bz, kz⟩ := Bx.expr hl (c' := Sa.cells { kind := 7, pos := t.pos } (.sl Hb.next 0 1 11 (some 1)) .nilSl .nilSl) bb (ExV.keep (Keep.le' fun l h => by unfold Ge at *; first | omega | (simp only [AHeap.next_set] at *; omega)) _ _ he) rfl
       simp only [Sa.cells] at kb
       simp -implicitDefEqProofs (disch := first | assumption | omega | (simp only [nxB]; omega) | (simp only [oneB])) only [xlen, AV.cells, splice, aload, astore, Nat.reduceAdd, Nat.reduceLeDiff, reduceIte, allB, tyC, hs, kb, AHeap.push_set_lt]
       exact rret_end hx bz kz
     | false =>
      simp only [hrt, cond_false] at h1
      simp -implicitDefEqProofs (disch := first | assumption | omega | (simp only [nxB]; omega) | (simp only [oneB])) only [xlen, AV.cells, splice, aload, astore, Nat.reduceAdd, Nat.reduceLeDiff, reduceIte, allB]
      refine W_call (ris_spec hx8.rd hx8.tk [112, 114, 105, 110, 116] (by simp)) ?_
      rintro _ H9 ⟨rfl, p9⟩
      refine ⟨p9.1, ?_⟩
      have hx9 := hx8.pur p9
      have b9 := b8.mut hl (p9.mut _) (b8.rd.pur p9)
      have g9 := b9.g4
      have lr9 := b9.rd.lt
      have l9 := AHeap.get_lt g9
      cases hpr : isR T s [112, 114, 105, 110, 116] with
      | true =>
       simp only [hpr, cond_true, Option.some.injEq] at h1
       obtain ⟨ma, da⟩ := rset b9.rd (goS s)
       have ba := (b9.mut hl ma da).set hl (Sa.cells { kind := 8, pos := t.pos } .nilSl .nilSl .nilSl)
       have hr9 := b9.rd
       unfold Rd5 at hr9
       simp only [Sa.cells] at g9
       unfold printR at h1
       simp only [Prod.mk.injEq] at h1
       obtain ⟨rfl, rfl⟩ := h1
       simp -implicitDefEqProofs (disch := first | assumption | omega | (simp only [nxB]; omega) | (simp only [oneB])) only [xlen, AV.cells, splice, aload, astore, Nat.reduceAdd, Nat.reduceLeDiff, reduceIte, allB, tyC, hr9, ho1, g9]
       refine W_call (rexpr_spec hT (hx.mut ba.m ba.rd)) ?_
       rintro v Hb ⟨mb, hxb, he⟩
       refine ⟨mb.1, ?_⟩
       have bb := ba.mut hl mb hxb.rd
       obtain ⟨cs, rfl, c1, o1⟩ := he.cells
       have hs : ∀ l, sliceOf P l 35 1 [(0, .agg cs)] = some (.sl l 0 1 11 (some 1), .row false 11 [cs]) := fun l => sl35_1 l cs c1 o1
       have kb := bb.g4
       have lkb := AHeap.get_lt kb
       have lka := AHeap.get_lt ba.g4
       obtain ⟨bz, kz⟩ := Bx.expr hl (c' := Sa.cells { kind := 8, pos := t.pos } (.sl Hb.next 0 1 11 (some 1)) .nilSl .nilSl) bb (ExV.keep (Keep.le' fun l h => by unfold Ge at *; first | omega | (simp only [AHeap.next_set] at *; omega)) _ _ he) rfl
       simp only [Sa.cells] at kb
       simp -implicitDefEqProofs (disch := first | assumption | omega | (simp only [nxB]; omega) | (simp only [oneB])) only [xlen, AV.cells, splice, aload, astore, Nat.reduceAdd, Nat.reduceLeDiff, reduceIte, allB, tyC, hs, kb, AHeap.push_set_lt]
       refine W_call (take_spec (hx.mut bz.m bz.rd) [59] (by simp)) ?_
       rintro _ Hc ⟨rfl, mc, hxc⟩
       refine ⟨mc.1, ?_⟩
       exact rstmt_end hx (bz.mut hl mc hxc.rd) (kz.keep (Keep.mut mc (by unfold Ge; omega) fun _ h => h)) (SsV.nil _ _) (SsV.nil _ _)
      | false =>
       simp only [hpr, cond_false, Option.some.injEq] at h1
       have g9' := g9
       simp only [Sa.cells] at g9'
       simp -implicitDefEqProofs (disch := first | assumption | omega | (simp only [nxB]; omega) | (simp only [oneB])) only [xlen, AV.cells, splice, aload, astore, Nat.reduceAdd, Nat.reduceLeDiff, reduceIte, allB, tyC, g9']
       refine W_call (rplain_spec hT (hx.mut b9.m b9.rd) t.pos) ?_
       rintro v Ha ⟨ma, hxa, he⟩
       refine ⟨ma.1, ?_⟩
       have ba := b9.mut hl ma hxa.rd
       obtain ⟨cs, rfl, c1, o1⟩ := he.cells
       have td : List.take 9 cs = cs := List.take_of_length_le (by omega)
       have ga := ba.g2
       have la := AHeap.get_lt ga
       rw [h1] at he hxa
       simp -implicitDefEqProofs (disch := first | assumption | omega | (simp only [nxB]; omega) | (simp only [oneB])) only [xlen, AV.cells, splice, aload, astore, Nat.reduceAdd, Nat.reduceLeDiff, reduceIte, allB, tyC, ga, c1, o1, td, List.append_nil]
       exact W_some.2 (QostS.ret hx ba.m hxa.rd (Nat.le_refl _) he (by omega) _)
structure AllKR (n : Nat) : Prop where
 stmt : StmtROk n
 block : BlockROk n
theorem allKR : ∀ n, n ≤ 900000000 → AllKR n := by
 intro n
 induction n using Nat.strongRecOn with
 | _ n ih =>
  intro hn
  cases n with
  | zero => exact ⟨fun _ _ _ _ h => by simp [stmtR] at h, fun _ _ _ _ h => by simp [blockR] at h⟩
  | succ n =>
   have i := ih n (by omega) (by omega)
   exact ⟨rstmt_step i.block, rblock_step (by omega) fun k hk => (ih k (by omega) (by omega)).stmt⟩
end Go.Proofs.Ytnjoomfeddamcaa

namespace Go.Proofs.Ytnjoomfeddamcaa
open Go.Ev
def parseM (e : Stm) (s : St) : Stm × Int × Int × Int := if s.fe = 0 then (e, s.at_, 0, 0) else (.zero, 0, s.fe, s.fa)
def parseB (l : List Stm) (s : St) : List Stm × Int × Int × Int := if s.fe = 0 then (l, s.at_, 0, 0) else ([], 0, s.fe, s.fa)
end Go.Proofs.Ytnjoomfeddamcaa

namespace Go.Proofs.Ytnjoomfeddamcaa
open Go.Ev
theorem rstmt_spec {n : Nat} (hn : n ≤ 900000000) {H : AHeap} {T : List Tok} {tv : AV} (hT : T.length ≤ 20000000) (ht : TokSl H tv T) (at_ opn : Int) {e : Stm} {s' : St} (h : stmtR T n (startS at_ opn) = some (e, s')) :
  W (evw P 44 [tv, .int .i64 at_, .int .i64 opn] H) fun v H' => ∃ ev, v = .tuple [ev, .int .i64 (parseM e s').2.1, .agg [.int .i64 (parseM e s').2.2.1, .int .i64 (parseM e s').2.2.2]] ∧ StV H' (Ge H.next) (parseM e s').1 ev ∧ Pur H H' := by
 refine W_of (fun _ => run44 0) ?_
 have ho1 := ht.one
 have p1 := (Pur.push H (.row false 9 [[.int .i64 0, .str [], .str [], .int .i64 0, .nilSl, .nilSl, .nilSl, .int .i64 0, .int .i64 0]])).then_push (.row false 2 [[.int .i64 0, .int .i64 0]])
 have hbd := bd75_3 tv ho1 at_ (if opn < 0 then 0 else opn)
 have hbx : ∀ l, boxOf l (.agg [tv, .int .i64 at_, .int .i64 (if opn < 0 then 0 else opn), .int .i64 0, .int .i64 0]) = some (.ptr l 0 0, .row false 5 [[tv, .int .i64 at_, .int .i64 (if opn < 0 then 0 else opn), .int .i64 0, .int .i64 0]]) := fun l => boxOf_agg l _ (by simp only [List.all_cons, List.all_nil, one_int, ho1, Bool.and_self])
 simp -implicitDefEqProofs (disch := first | assumption | omega | (simp only [nxB]; omega) | (simp only [oneB])) only [s44, xlen, AV.cells, splice, aload, astore, Nat.reduceAdd, Nat.reduceLeDiff, reduceIte, allB, tyC, mx3, hbd, hbx]
 have hn3 : ((H.push (.row false 9 [[.int .i64 0, .str [], .str [], .int .i64 0, .nilSl, .nilSl, .nilSl, .int .i64 0, .int .i64 0]])).push (.row false 2 [[.int .i64 0, .int .i64 0]])).next = H.next + 2 := by simp only [AHeap.next_push]
 have hb6 : ((H.push (.row false 9 [[.int .i64 0, .str [], .str [], .int .i64 0, .nilSl, .nilSl, .nilSl, .int .i64 0, .int .i64 0]])).push (.row false 2 [[.int .i64 0, .int .i64 0]])).get H.next = some (.row false 9 [[.int .i64 0, .str [], .str [], .int .i64 0, .nilSl, .nilSl, .nilSl, .int .i64 0, .int .i64 0]]) := by simp -implicitDefEqProofs (disch := first | assumption | omega | (simp only [nxB]; omega) | (simp only [oneB])) only [heapB]
 have hb8 : ((H.push (.row false 9 [[.int .i64 0, .str [], .str [], .int .i64 0, .nilSl, .nilSl, .nilSl, .int .i64 0, .int .i64 0]])).push (.row false 2 [[.int .i64 0, .int .i64 0]])).get (H.next + 1) = some (.row false 2 [[.int .i64 0, .int .i64 0]]) := by simp -implicitDefEqProofs (disch := first | assumption | omega | (simp only [nxB]; omega) | (simp only [oneB])) only [heapB]
 rw [← hn3]
 generalize (H.push (.row false 9 [[.int .i64 0, .str [], .str [], .int .i64 0, .nilSl, .nilSl, .nilSl, .int .i64 0, .int .i64 0]])).push (.row false 2 [[.int .i64 0, .int .i64 0]]) = H3 at p1 hb6 hb8 hn3 ⊢
 have p4 := Pur.push H3 (.row false 5 [[tv, .int .i64 at_, .int .i64 (if opn < 0 then 0 else opn), .int .i64 0, .int .i64 0]])
 have p5 := p1.trans p4
 have hx4 : Ry (H3.push (.row false 5 [[tv, .int .i64 at_, .int .i64 (if opn < 0 then 0 else opn), .int .i64 0, .int .i64 0]])) H3.next T tv (startS at_ opn) :=
  ⟨AHeap.get_push_same _ _, ht.pur p5⟩
 refine W_call ((allKR n hn).stmt hT hx4 e s' h) ?_
 rintro v H5 ⟨m5, hx5, he5⟩
 refine ⟨m5.1, ?_⟩
 have hm5 := m5.1
 simp only [AHeap.next_push] at hm5 he5
 obtain ⟨cs, rfl, hlen, hone⟩ := he5.cells
 have htk : List.take 9 cs = cs := List.take_of_length_le (by omega)
 simp -implicitDefEqProofs (disch := first | assumption | omega | (simp only [nxB]; omega) | (simp only [oneB])) only [s44, xlen, AV.cells, splice, aload, astore, Nat.reduceAdd, Nat.reduceLeDiff, reduceIte, allB, tyC, hlen, hone, List.append_nil]
 have p6 := Pur.push H5 (.row false 9 [cs])
 refine W_call (rok_spec (hx5.rd.pur p6)) ?_
 rintro _ H8 ⟨rfl, rfl⟩
 refine ⟨Nat.le_refl _, ?_⟩
 have hr := hx5.rd.pur p6
 unfold Rd5 at hr
 have hr5 := hx5.rd
 unfold Rd5 at hr5
 have hb65 := m5.get (p4.get hb6) (by omega)
 have hb85 := m5.get (p4.get hb8) (by omega)
 have l6 := AHeap.get_lt hb65
 have l8 := AHeap.get_lt hb85
 have pf : Pur H H5 := ⟨by have := p5.1; simp only [AHeap.next_push] at this; omega, fun l hl => by rw [m5.2 l (by simp only [AHeap.next_push]; omega) (by omega)]; exact p5.2 l hl⟩
 by_cases hf : s'.fe = 0
 ·have hf' : (s'.fe == 0) = true := by simpa using hf
  rw [show parseM e s' = (e, s'.at_, 0, 0) by simp [parseM, hf]]
  simp -implicitDefEqProofs (disch := first | assumption | omega | (simp only [nxB]; omega) | (simp only [oneB])) only [s44, xlen, AV.cells, splice, aload, astore, Nat.reduceAdd, Nat.reduceLeDiff, reduceIte, allB, tyC, hf', Bool.not_true, Bool.not_false, hr, hr5, hb65, hb85, hlen, hone, List.append_nil, htk, Bool.and_true]
  refine W_some.2 ⟨_, rfl, ?_, ?_⟩
  ·exact StV.keep (KeepS.new (Mut.then_set (S := fun l => l < _) (Mut.then_set (S := fun l => l < _) ((Mut.refl _ _).then_push _) (.inl (by omega)) _) (.inl (by omega)) _) fun l h => by unfold Ge; omega) _ _ he5
  ·exact ((pf.then_push _).then_set (Nat.le_refl _) _).then_set (by omega) _
 ·have hf' : (s'.fe == 0) = false := by simpa using hf
  rw [show parseM e s' = (.zero, 0, s'.fe, s'.fa) by simp [parseM, hf]]
  have hrd25 : rdIs (some (.agg [.int .i64 s'.fe, .int .i64 s'.fa])) (.agg [.int .i64 s'.fe, .int .i64 s'.fa]) = true := by simp [rdIs, AV.beq, AVs.beq]
  simp -implicitDefEqProofs (disch := first | assumption | omega | (simp only [nxB]; omega) | (simp only [oneB])) only [s44, xlen, AV.cells, splice, aload, astore, Nat.reduceAdd, Nat.reduceLeDiff, reduceIte, allB, tyC, hf', Bool.not_true, Bool.not_false, hr, hr5, hb65, hb85, hrd25, Bool.and_true]
  refine W_some.2 ⟨_, rfl, StV.leaf _ _ { kind := 0 }, ?_⟩
  exact ((pf.then_push _).then_set (Nat.le_refl _) _).then_set (by omega) _
theorem rblock_spec {n : Nat} (hn : n ≤ 900000000) {H : AHeap} {T : List Tok} {tv : AV} (hT : T.length ≤ 20000000) (ht : TokSl H tv T) (at_ opn : Int) {l : List Stm} {s' : St} (h : blockR T n (startS at_ opn) = some (l, s')) :
  W (evw P 27 [tv, .int .i64 at_, .int .i64 opn] H) fun v H' => ∃ bv, v = .tuple [bv, .int .i64 (parseB l s').2.1, .agg [.int .i64 (parseB l s').2.2.1, .int .i64 (parseB l s').2.2.2]] ∧ SsV H' (Ge H.next) (parseB l s').1 bv ∧ Pur H H' := by
 refine W_of (fun _ => run27 0) ?_
 have ho1 := ht.one
 have p1 := Pur.push H (.row false 2 [[.int .i64 0, .int .i64 0]])
 have hbd := bd75_3 tv ho1 at_ (if opn < 0 then 0 else opn)
 have hbx : ∀ l, boxOf l (.agg [tv, .int .i64 at_, .int .i64 (if opn < 0 then 0 else opn), .int .i64 0, .int .i64 0]) = some (.ptr l 0 0, .row false 5 [[tv, .int .i64 at_, .int .i64 (if opn < 0 then 0 else opn), .int .i64 0, .int .i64 0]]) := fun l => boxOf_agg l _ (by simp only [List.all_cons, List.all_nil, one_int, ho1, Bool.and_self])
 simp -implicitDefEqProofs (disch := first | assumption | omega | (simp only [nxB]; omega) | (simp only [oneB])) only [s27, xlen, AV.cells, splice, aload, astore, Nat.reduceAdd, Nat.reduceLeDiff, reduceIte, allB, mx3, hbd, hbx]
 have hb8 := AHeap.get_push_same H (.row false 2 [[.int .i64 0, .int .i64 0]])
 have hn3 : (H.push (.row false 2 [[.int .i64 0, .int .i64 0]])).next = H.next + 1 := by simp only [AHeap.next_push]
 rw [← hn3]
 generalize H.push (.row false 2 [[.int .i64 0, .int .i64 0]]) = H3 at p1 hb8 hn3 ⊢
 have p4 := Pur.push H3 (.row false 5 [[tv, .int .i64 at_, .int .i64 (if opn < 0 then 0 else opn), .int .i64 0, .int .i64 0]])
 have p5 := p1.trans p4
 have hx4 : Ry (H3.push (.row false 5 [[tv, .int .i64 at_, .int .i64 (if opn < 0 then 0 else opn), .int .i64 0, .int .i64 0]])) H3.next T tv (startS at_ opn) :=
  ⟨AHeap.get_push_same _ _, ht.pur p5⟩
 refine W_call ((allKR n hn).block hT hx4 l s' h) ?_
 rintro v H5 ⟨m5, hx5, he5⟩
 refine ⟨m5.1, ?_⟩
 have hm5 := m5.1
 simp only [AHeap.next_push] at hm5 he5
 simp -implicitDefEqProofs (disch := first | assumption | omega | (simp only [nxB]; omega) | (simp only [oneB])) only [s27, xlen, AV.cells, splice, aload, astore, Nat.reduceAdd, Nat.reduceLeDiff, reduceIte, allB]
 refine W_call (rok_spec hx5.rd) ?_
 rintro _ H8 ⟨rfl, rfl⟩
 refine ⟨Nat.le_refl _, ?_⟩
 have hr5 := hx5.rd
 unfold Rd5 at hr5
 have hb85 := m5.get (p4.get hb8) (by omega)
 have l8 := AHeap.get_lt hb85
 have pf : Pur H H8 := ⟨by have := p5.1; simp only [AHeap.next_push] at this; omega, fun l hl => by rw [m5.2 l (by simp only [AHeap.next_push]; omega) (by omega)]; exact p5.2 l hl⟩
 by_cases hf : s'.fe = 0
 ·have hf' : (s'.fe == 0) = true := by simpa using hf
  rw [show parseB l s' = (l, s'.at_, 0, 0) by simp [parseB, hf]]
  simp -implicitDefEqProofs (disch := first | assumption | omega | (simp only [nxB]; omega) | (simp only [oneB])) only [s27, xlen, AV.cells, splice, aload, astore, Nat.reduceAdd, Nat.reduceLeDiff, reduceIte, allB, hf', Bool.not_true, Bool.not_false, hr5, hb85]
  refine W_some.2 ⟨_, rfl, he5.keep (KeepS.set _ (by unfold Ge; omega) fun l h => by unfold Ge at *; omega), pf.then_set (by omega) _⟩
 ·have hf' : (s'.fe == 0) = false := by simpa using hf
  rw [show parseB l s' = ([], 0, s'.fe, s'.fa) by simp [parseB, hf]]
  simp -implicitDefEqProofs (disch := first | assumption | omega | (simp only [nxB]; omega) | (simp only [oneB])) only [s27, xlen, AV.cells, splice, aload, astore, Nat.reduceAdd, Nat.reduceLeDiff, reduceIte, allB, hf', Bool.not_true, Bool.not_false, hr5, hb85]
  exact W_some.2 ⟨_, rfl, SsV.nil _ _, pf.then_set (by omega) _⟩
end Go.Proofs.Ytnjoomfeddamcaa

namespace Go.Proofs.Ytnjoomfeddamcaa
open Go.Ev
def Lv {α : Type} (F : St → R α) : Prop := ∀ s x, F s = some x → x.2.fe = 0 → s.fe = 0 ∧ (0 ≤ s.opn → x.2.opn = s.opn ∧ x.2.fa = s.fa)
def Lv1 (f : St → St) : Prop := ∀ s, (f s).fe = 0 → s.fe = 0 ∧ (f s).opn = s.opn ∧ (f s).fa = s.fa
theorem Lv.bind {α β : Type} {F : St → R α} {G : α → St → R β} (h : Lv F) (hg : ∀ x, Lv (G x)) : Lv fun s => (F s).bind fun p => G p.1 p.2 := by
 intro s x hx hf
 obtain ⟨p, h1, h2⟩ := bindS hx
 obtain ⟨g1, g2⟩ := hg p.1 p.2 x h2 hf
 obtain ⟨f1, f2⟩ := h s p h1 g1
 refine ⟨f1, fun ho => ?_⟩
 obtain ⟨e1, e2⟩ := f2 ho
 obtain ⟨e3, e4⟩ := g2 (by rw [e1]; exact ho)
 exact ⟨e3.trans e1, e4.trans e2⟩
theorem Lv.none {α : Type} {F : St → R α} (h : ∀ s, F s = none) : Lv F := fun s x hx => by rw [h] at hx; cases hx
theorem Lv.of1 {α : Type} {f : St → α × St} (h : Lv1 fun s => (f s).2) : Lv fun s => some (f s) := fun s x hx hf => by
 cases hx
 obtain ⟨h1, h2⟩ := h s hf
 exact ⟨h1, fun _ => h2⟩
theorem Lv1.comp {f g : St → St} (h : Lv1 f) (k : Lv1 g) : Lv1 fun s => g (f s) := fun s hs => by
 obtain ⟨a1, a2, a3⟩ := k _ hs
 obtain ⟨b1, b2, b3⟩ := h _ a1
 exact ⟨b1, a2.trans b2, a3.trans b3⟩
theorem Lv.pre {α : Type} {F : St → R α} {f : St → St} (h : Lv1 f) (k : Lv F) : Lv fun s => F (f s) := fun s x hx hf => by
 obtain ⟨a1, a2⟩ := k _ x hx hf
 obtain ⟨b1, b2, b3⟩ := h s a1
 refine ⟨b1, fun ho => ?_⟩
 obtain ⟨c1, c2⟩ := a2 (by rw [b2]; exact ho)
 exact ⟨c1.trans b2, c2.trans b3⟩
theorem Lv1.go : Lv1 goS := fun s h => ⟨h, rfl, rfl⟩
theorem Lv1.id : Lv1 fun s => s := fun s h => ⟨h, rfl, rfl⟩
variable {T : List Tok}
theorem failS_no {s : St} {e : Int} (he : e ≠ 0) (h : (failS T e s).fe = 0) : False := by
 unfold failS at h
 split at h
 ·exact he h
 ·rename_i hs; exact hs h
theorem Lv1.wants (x : Bs) : Lv1 fun s => (wantsS T x s).2 := fun s h => by
 have h : (wantsS T x s).2.fe = 0 := h
 show s.fe = 0 ∧ (wantsS T x s).2.opn = s.opn ∧ (wantsS T x s).2.fa = s.fa
 cases hb : isB T s 4 x with
 | true =>
  have e : (wantsS T x s).2 = goS s := by simp [wantsS, hb]
  rw [e] at h ⊢
  exact ⟨h, rfl, rfl⟩
 | false =>
  have e : (wantsS T x s).2 = failS T 2 s := by simp [wantsS, hb]
  rw [e] at h
  exact (failS_no (by decide) h).elim
theorem Lv1.wantN (x : Bs) : ∀ n : Nat, Lv1 (wantN T x n)
 | 0 => Lv1.id
 | n + 1 => Lv1.comp (f := fun s => (wantsS T x s).2) (g := Ytnjoomfeddamcaa.wantN T x n) (Lv1.wants x) (Lv1.wantN x n)
theorem lv_ofL : ∀ (n : Nat) (d : Int) (s : St), (∀ d' s', ofL T n d s = .inl (d', s') → s'.fe = 0 → s.fe = 0 ∧ s'.opn = s.opn ∧ s'.fa = s.fa) ∧ ∀ s', ofL T n d s = .inr s' → s'.fe ≠ 0
 | 0, d, s => by
  simp only [ofL]
  cases isB T s 4 [91] with
  | true => exact ⟨fun _ _ h => (by cases h), fun s' h h0 => by cases h; exact failS_no (by decide) h0⟩
  | false => exact ⟨fun _ _ h hf => (by cases h; exact ⟨hf, rfl, rfl⟩), fun _ h => (by cases h)⟩
 | n + 1, d, s => by
  simp only [ofL]
  cases isB T s 4 [91] with
  | true => exact lv_ofL n (d + 1) (goS s)
  | false => exact ⟨fun _ _ h hf => (by cases h; exact ⟨hf, rfl, rfl⟩), fun _ h => (by cases h)⟩
theorem Lv1.of : Lv1 fun s => (ofS T s).2 := fun s h => by
 obtain ⟨i1, i2⟩ := lv_ofL (T := T) 3 0 s
 have h' : (ofS T s).2.fe = 0 := h
 show s.fe = 0 ∧ (ofS T s).2.opn = s.opn ∧ (ofS T s).2.fa = s.fa
 unfold ofS at h' ⊢
 cases hl : ofL T 3 0 s with
 | inr s' => rw [hl] at h'; exact absurd h' (i2 s' hl)
 | inl p =>
  obtain ⟨d, s1⟩ := p
  rw [hl] at h'
  simp only at h' ⊢
  cases hc : ((tokAt T s1.at_).kind != 1 && (!isB T s1 3 [105, 110, 116] && !isB T s1 3 [98, 111, 111, 108])) with
  | true =>
   simp only [ofE, hc, cond_true] at h'
   exact (failS_no (by decide) h').elim
  | false =>
   simp only [ofE, hc, cond_false] at h' ⊢
   obtain ⟨a1, a2, a3⟩ := Lv1.comp Lv1.go (Lv1.wantN [93] d.toNat) s1 h'
   obtain ⟨b1, b2, b3⟩ := i1 d s1 hl a1
   exact ⟨b1, a2.trans b2, a3.trans b3⟩
theorem lv_open {s : St} {x : Bs} (h : (opensS T x s).1 = true) : s.fe = 0 ∧ s.opn < 50 ∧ (opensS T x s).2 = { s with at_ := w64 (s.at_ + 1), opn := w64 (s.opn + 1) } := by
 unfold opensS at h ⊢
 cases hb : isB T s 4 x with
 | false => rw [hb] at h; cases h
 | true =>
  rw [hb] at h
  simp only [cond_true] at h ⊢
  split at h
  ·cases h
  ·rename_i ho
   rw [if_neg ho]
   exact ⟨(isB_kind hb).1, by omega, rfl⟩
theorem lv_noopen {s : St} {x : Bs} (h : (opensS T x s).1 = false) : (opensS T x s).2.fe ≠ 0 := by
 unfold opensS at h ⊢
 cases hb : isB T s 4 x with
 | false => exact fun h0 => failS_no (by decide) h0
 | true =>
  rw [hb] at h
  simp only [cond_true] at h ⊢
  split at h
  ·rename_i ho
   rw [if_pos ho]
   exact fun h0 => failS_no (by decide) h0
  ·cases h
theorem w64_io {o : Int} (h0 : 0 ≤ o) (h1 : o < 50) : w64 (o + 1) = o + 1 ∧ w64 (o + 1 - 1) = o := ⟨wrap_i64 (by omega) (by omega), by rw [show o + 1 - 1 = o by omega]; exact wrap_i64 (by omega) (by omega)⟩
theorem Lv.within {α β : Type} {F : St → R α} {g : St → α → β} {v : β} {w : St → St} {x : Bs} (h : Lv F) (hw : ∀ s, (w s).fe = 0 → s.fe = 0 ∧ (w s).opn = w64 (s.opn - 1) ∧ (w s).fa = s.fa) :
  Lv fun s => bif (opensS T x s).1 then (F (opensS T x s).2).bind fun p => some (g s p.1, w p.2) else some (v, (opensS T x s).2) := by
 intro s y hy hf
 cases ho : (opensS T x s).1 with
 | false =>
  simp only [ho, cond_false, Option.some.injEq] at hy
  subst hy
  exact absurd hf (lv_noopen ho)
 | true =>
  obtain ⟨o1, o2, o3⟩ := lv_open ho
  simp only [ho, cond_true] at hy
  obtain ⟨p, h1, h2⟩ := bindS hy
  simp only [Option.some.injEq] at h2
  subst h2
  obtain ⟨a1, a2, a3⟩ := hw p.2 hf
  obtain ⟨b1, b2⟩ := h _ p h1 a1
  refine ⟨o1, fun h0 => ?_⟩
  obtain ⟨c1, c2⟩ := w64_io h0 o2
  rw [o3] at b2
  obtain ⟨d1, d2⟩ := b2 (by simp only; rw [c1]; omega)
  refine ⟨?_, a3.trans d2⟩
  show (w p.2).opn = s.opn
  rw [a2, d1]
  simp only
  rw [c1, c2]
theorem lv_closes (y : Bs) (s : St) (h : (closesS T y s).2.fe = 0) : s.fe = 0 ∧ (closesS T y s).2.opn = w64 (s.opn - 1) ∧ (closesS T y s).2.fa = s.fa := by
 obtain ⟨a1, a2, a3⟩ := Lv1.wants (T := T) y (outS s) h
 exact ⟨a1, a2, a3⟩
structure LvAll (T : List Tok) (n : Nat) : Prop where
 row : ∀ lev, Lv (rowF T n lev)
 rowL : ∀ lev e, Lv (rowL T n lev e)
 unary : Lv (unaryF T n)
 sign : ∀ x q, Lv (signF T n x q)
 chain : Lv (chainF T n)
 chainL : ∀ e, Lv (chainL T n e)
 single : ∀ x y, Lv (singleF T n x y)
 first : Lv (firstF T n)
 name : Lv (nameF T n)
 fresh : Lv (freshF T n)
 list : Lv (listF T n)
 listL : ∀ l s x, listL T n l s = some x → x.2.fe = 0 → s.fe = 0 ∧ (1 ≤ s.opn ∧ s.opn ≤ 50 → x.2.opn = s.opn - 1 ∧ x.2.fa = s.fa)
theorem Lv.ite {α : Type} {F G : St → R α} (c : St → Bool) (h : Lv F) (k : Lv G) : Lv fun s => bif c s then F s else G s := fun s x hx => by
 cases hc : c s with
 | true => simp only [hc, cond_true] at hx; exact h s x hx
 | false => simp only [hc, cond_false] at hx; exact k s x hx
theorem Lv.bad {α : Type} {v : α} : Lv fun s => some (v, failS T 2 s) := fun s x hx hf => by
 cases hx; exact (failS_no (by decide) hf).elim
theorem Lv.eq {α : Type} {F G : St → R α} (h : Lv F) (e : ∀ s, G s = F s) : Lv G := fun s x hx => h s x (by rw [← e]; exact hx)
theorem lvAll (T : List Tok) : ∀ n, LvAll T n
 | 0 => by
  refine ⟨?_, ?_, ?_, ?_, ?_, ?_, ?_, ?_, ?_, ?_, ?_, ?_⟩
  all_goals intros
  all_goals first | exact Lv.none fun _ => rfl | (rename_i h _; cases h)
 | n + 1 => by
  have ih := lvAll T n
  refine ⟨fun lev => ?_, fun lev e => ?_, ?_, fun x q => ?_, ?_, fun e => ?_, fun x y => ?_, ?_, ?_, ?_, ?_, fun l => ?_⟩
  ·by_cases h5 : lev = 5
   ·exact ih.unary.eq fun s => by rw [rowF, if_pos h5]
   ·exact (Lv.bind (ih.row (lev + 1)) fun e => ih.rowL lev e).eq fun s => by rw [rowF, if_neg h5]
  ·intro s x hx hf
   rw [rowL] at hx
   by_cases hk : kindS T lev s = 0
   ·rw [if_pos hk] at hx; cases hx; exact ⟨hf, fun _ => ⟨rfl, rfl⟩⟩
   ·rw [if_neg hk] at hx
    exact Lv.pre Lv1.go (Lv.bind (ih.row (lev + 1)) fun b => ih.rowL lev (.mk { kind := kindS T lev s, pos := (tokAt T s.at_).pos } [e, b])) s x hx hf
  ·exact (Lv.ite (fun s => isB T s 4 [45]) (ih.sign [45] 12) (Lv.ite (fun s => isB T s 4 [33]) (ih.sign [33] 13) ih.chain)).eq fun s => by rw [unaryF]
  ·exact (Lv.within (T := T) (x := x) (g := fun s a => .mk { kind := q, pos := (tokAt T s.at_).pos } [a]) (v := Ex.zero) (w := outS) ih.unary fun s h => ⟨h, rfl, rfl⟩).eq fun s => by rw [signF]
  ·exact (Lv.bind ih.first fun e => ih.chainL e).eq fun s => by rw [chainF]
  ·intro s x hx hf
   rw [chainL] at hx
   cases hc : (s.fe == 0 && (tokAt T s.at_).kind == 4) with
   | false => simp only [hc, cond_false, Option.some.injEq] at hx; subst hx; exact ⟨hf, fun _ => ⟨rfl, rfl⟩⟩
   | true =>
    simp only [hc, cond_true] at hx
    cases hd : (tokAt T s.at_).text == [46] with
    | true =>
     simp only [hd, cond_true] at hx
     obtain ⟨a1, a2⟩ := ih.chainL _ _ x hx hf
     have hfl : (fieldS T e s).2.fe = 0 → s.fe = 0 ∧ (fieldS T e s).2.opn = s.opn ∧ (fieldS T e s).2.fa = s.fa := by
      unfold fieldS
      cases hk : ((tokAt T (goS s).at_).kind != 1) with
      | true => exact fun h => (failS_no (T := T) (s := goS s) (e := 2) (by decide) h).elim
      | false => exact fun h => ⟨h, rfl, rfl⟩
     obtain ⟨b1, b2, b3⟩ := hfl a1
     refine ⟨b1, fun ho => ?_⟩
     obtain ⟨c1, c2⟩ := a2 (by rw [b2]; exact ho)
     exact ⟨c1.trans b2, c2.trans b3⟩
    | false =>
     simp only [hd, cond_false] at hx
     cases hd2 : (tokAt T s.at_).text == [91] with
     | true =>
      simp only [hd2, cond_true] at hx
      exact Lv.bind (ih.single [91] [93]) (fun b => ih.chainL (.mk { kind := 6, pos := (tokAt T s.at_).pos } [e, b])) s x hx hf
     | false => simp only [hd2, cond_false, Option.some.injEq] at hx; subst hx; exact ⟨hf, fun _ => ⟨rfl, rfl⟩⟩
  ·exact (Lv.within (T := T) (x := x) (g := fun _ a => a) (v := Ex.zero) (w := fun s => (closesS T y s).2) (ih.row 0) (lv_closes y)).eq fun s => by rw [singleF]
  ·intro s x hx hf
   rw [firstF] at hx
   by_cases hfe : s.fe = 0
   ·rw [if_neg (by simp [hfe])] at hx
    by_cases k2 : (tokAt T s.at_).kind = 2
    ·rw [if_pos k2] at hx; cases hx; exact ⟨hf, fun _ => ⟨rfl, rfl⟩⟩
    ·rw [if_neg k2] at hx
     by_cases k1 : (tokAt T s.at_).kind = 1
     ·rw [if_pos k1] at hx; exact ih.name s x hx hf
     ·rw [if_neg k1] at hx
      by_cases k34 : (tokAt T s.at_).kind = 3 ∨ (tokAt T s.at_).kind = 4
      ·rw [if_pos k34] at hx
       have htruth : Lv fun s => some (truthS T s) := Lv.of1 fun s h => ⟨h, rfl, rfl⟩
       have hnull : Lv fun s => some (nullS T s) := Lv.of1 (Lv1.comp Lv1.go (Lv1.of (T := T)))
       have hread : Lv fun s => some (readS T s) := by
        refine Lv.eq (F := fun s => (fun s => bif (opensS T [40] s).1 then (some ((), (opensS T [40] s).2)).bind fun p => some ((), (closesS T [41] p.2).2) else some ((), (opensS T [40] s).2)) (goS s) |>.bind fun p => some (.mk { kind := 11, pos := (tokAt T s.at_).pos } [], p.2)) ?_ fun s => ?_
        ·intro s y hy hyf
         obtain ⟨p, p1, p2⟩ := bindS hy
         cases p2
         exact Lv.pre Lv1.go (Lv.within (T := T) (x := [40]) (F := fun s => some ((), s)) (g := fun _ _ => ()) (v := ()) (w := fun s => (closesS T [41] s).2) (fun s z hz hzf => by cases hz; exact ⟨hzf, fun _ => ⟨rfl, rfl⟩⟩) (lv_closes [41])) s p p1 hyf
        ·simp only [readS]
         cases (opensS T [40] (goS s)).1 <;> rfl
       have hlen : Lv fun s => (singleF T n [40] [41] (goS s)).bind fun p => some (Ex.mk { kind := 10, pos := (tokAt T s.at_).pos } [p.1], p.2) := by
        intro s y hy hyf
        obtain ⟨p, p1, p2⟩ := bindS hy
        cases p2
        exact Lv.pre Lv1.go (ih.single [40] [41]) s p p1 hyf
       exact Lv.ite (fun s => (tokAt T s.at_).kind == 4) (Lv.ite (fun s => (tokAt T s.at_).text == [40]) (ih.single [40] [41]) Lv.bad)
        (Lv.ite (fun s => (tokAt T s.at_).text == [116, 114, 117, 101] || (tokAt T s.at_).text == [102, 97, 108, 115, 101]) htruth (Lv.ite (fun s => (tokAt T s.at_).text == [110, 117, 108, 108]) hnull
         (Lv.ite (fun s => (tokAt T s.at_).text == [110, 101, 119]) ih.fresh (Lv.ite (fun s => (tokAt T s.at_).text == [108, 101, 110]) hlen (Lv.ite (fun s => (tokAt T s.at_).text == [114, 101, 97, 100]) hread Lv.bad))))) s x hx hf
      ·rw [if_neg k34] at hx; exact Lv.bad s x hx hf
   ·rw [if_pos (by simpa using hfe)] at hx; cases hx; exact absurd hf hfe
  ·intro s x hx hf
   rw [nameF] at hx
   cases hb : isB T (goS s) 4 [40] with
   | true =>
    simp only [hb, cond_true] at hx
    obtain ⟨p, p1, p2⟩ := bindS hx
    cases p2
    exact Lv.pre Lv1.go ih.list s p p1 hf
   | false => simp only [hb, cond_false, Option.some.injEq] at hx; subst hx; exact Lv1.go s hf |>.imp id fun h _ => h
  ·intro s x hx hf
   rw [freshF] at hx
   cases hb : isB T (goS s) 4 [91] with
   | true =>
    simp only [hb, cond_true] at hx
    obtain ⟨p, p1, p2⟩ := bindS hx
    cases p2
    exact Lv.pre (Lv1.comp (Lv1.comp (Lv1.comp Lv1.go Lv1.go) (Lv1.of (T := T))) (Lv1.wants (T := T) [93])) (ih.single [40] [41]) s p p1 hf
   | false =>
    simp only [hb, cond_false, Option.some.injEq] at hx
    subst hx
    cases hk : ((tokAt T (goS s).at_).kind != 1) with
    | true =>
     simp only [hk, cond_true] at hf
     exact (failS_no (T := T) (s := goS s) (e := 2) (by decide) hf).elim
    | false => simp only [hk, cond_false] at hf ⊢; exact ⟨hf, fun _ => ⟨rfl, rfl⟩⟩
  ·intro s x hx hf
   rw [listF] at hx
   cases ho : (opensS T [40] s).1 with
   | false => simp only [ho, cond_false, Option.some.injEq] at hx; subst hx; exact absurd hf (lv_noopen ho)
   | true =>
    obtain ⟨o1, o2, o3⟩ := lv_open ho
    simp only [ho, cond_true] at hx
    cases hb : isB T (opensS T [40] s).2 4 [41] with
    | true =>
     simp only [hb, cond_true, Option.some.injEq] at hx
     subst hx
     obtain ⟨a1, a2, a3⟩ := lv_closes [41] _ hf
     refine ⟨o1, fun h0 => ?_⟩
     obtain ⟨c1, c2⟩ := w64_io h0 o2
     rw [o3] at a2 a3
     simp only [c1] at a2 a3
     rw [c2] at a2
     rw [o3]
     simp only [c1]
     exact ⟨a2, a3⟩
    | false =>
     simp only [hb, cond_false] at hx
     obtain ⟨p, p1, p2⟩ := bindS hx
     obtain ⟨a1, a2⟩ := ih.listL [p.1] p.2 x p2 hf
     obtain ⟨b1, b2⟩ := ih.row 0 _ p p1 a1
     refine ⟨o1, fun h0 => ?_⟩
     obtain ⟨c1, c2⟩ := w64_io h0 o2
     rw [o3] at b2
     simp only [c1] at b2
     obtain ⟨d1, d2⟩ := b2 (by omega)
     obtain ⟨e1, e2⟩ := a2 (by rw [d1]; omega)
     exact ⟨by rw [e1, d1]; omega, e2.trans d2⟩
  ·intro s x hx hf
   rw [listL] at hx
   cases ht : (takesS T 4 [44] s).1 with
   | false =>
    simp only [ht, cond_false, Option.some.injEq] at hx
    subst hx
    have hts : (takesS T 4 [44] s).2 = s := by
     unfold takesS at ht ⊢
     cases hb : isB T s 4 [44] with
     | true => rw [hb] at ht; cases ht
     | false => rfl
    simp only [hts] at hf ⊢
    obtain ⟨a1, a2, a3⟩ := lv_closes [41] s hf
    exact ⟨a1, fun h => ⟨by rw [a2]; exact wrap_i64 (by omega) (by omega), a3⟩⟩
   | true =>
    simp only [ht, cond_true] at hx
    obtain ⟨p, p1, p2⟩ := bindS hx
    have hts : (takesS T 4 [44] s).2 = goS s := by
     unfold takesS at ht ⊢
     cases hb : isB T s 4 [44] with
     | true => rfl
     | false => rw [hb] at ht; cases ht
    rw [hts] at p1
    obtain ⟨a1, a2⟩ := ih.listL _ p.2 x p2 hf
    obtain ⟨b1, b2⟩ := ih.row 0 _ p p1 a1
    refine ⟨b1, fun h => ?_⟩
    obtain ⟨d1, d2⟩ := b2 (by show (0 : Int) ≤ s.opn; omega)
    have d1' : p.2.opn = s.opn := d1
    obtain ⟨e1, e2⟩ := a2 (by rw [d1']; exact h)
    exact ⟨by rw [e1, d1'], e2.trans d2⟩
end Go.Proofs.Ytnjoomfeddamcaa

namespace Go.Proofs.Ytnjoomfeddamcaa
open Go.Ev
def AgS (T : List Tok) (s x y : St) : Prop := SameS x y ∧ (x.fe = 0 → x.opn = s.opn ∧ x.fa = s.fa ∧ left T x ≤ left T s)
def Ag {α : Type} (T : List Tok) (s : St) (x y : α × St) : Prop := Same x y ∧ (x.2.fe = 0 → x.2.opn = s.opn ∧ x.2.fa = s.fa ∧ left T x.2 ≤ left T s)
theorem Same.eq {α : Type} {p q : α × St} (h : Same p q) (hf : p.2.fe = 0) : q = p := by
 rcases h with h | h
 ·exact h.2
 ·exact absurd hf h.1
theorem Same.st4 {α : Type} {p q : α × St} (h : Same p q) : SameS p.2 q.2 := by
 rcases h with ⟨h, rfl⟩ | ⟨h1, h2, h3⟩
 ·exact .inl ⟨h, rfl⟩
 ·exact .inr ⟨h1, h2, h3⟩
theorem Same.of4 {α : Type} {p q : α × St} (h : SameS p.2 q.2) (hv : p.2.fe = 0 → q.1 = p.1) : Same p q := by
 rcases h with ⟨h, e⟩ | ⟨h1, h2, h3⟩
 ·exact .inl ⟨h, Prod.ext (hv h) e⟩
 ·exact .inr ⟨h1, h2, h3⟩
theorem Ag.st {α : Type} {T : List Tok} {s : St} {x y : α × St} (h : Ag T s x y) : AgS T s x.2 y.2 := ⟨h.1.st4, h.2⟩
theorem SameS.eq {x y : St} (h : SameS x y) (hf : x.fe = 0) : y = x := by
 rcases h with h | h
 ·exact h.2
 ·exact absurd hf h.1
theorem SameS.ne {x y : St} (h : SameS x y) (hf : x.fe ≠ 0) : y.fe ≠ 0 := by
 rcases h with h | h
 ·exact absurd h.1 hf
 ·rw [h.2.1]; exact hf
section
variable {T : List Tok} (hT : T.length ≤ 20000000)
include hT
theorem ag_wants {s x y : St} (h : AgS T s x y) {z : Bs} (hz : kw z = 4) : AgS T s (wantsS T z x).2 (takeR T z y) := by
 refine ⟨wants_same h.1 hz, fun hf => ?_⟩
 obtain ⟨a1, a2, a3⟩ := Lv1.wants z x hf
 obtain ⟨b1, b2, b3⟩ := h.2 a1
 exact ⟨a2.trans b1, a3.trans b2, Nat.le_trans (left_wants (by omega) x z) b3⟩
theorem wants_strict {x : St} {z : Bs} (hf : (wantsS T z x).2.fe = 0) : left T (wantsS T z x).2 + 1 ≤ left T x := by
 cases hb : isB T x 4 z with
 | true =>
  have : (wantsS T z x).2 = goS x := by simp [wantsS, hb]
  rw [this]; exact left_is (by omega) (by decide) hb
 | false =>
  have : (wantsS T z x).2 = failS T 2 x := by simp [wantsS, hb]
  rw [this] at hf
  exact (failS_no (by decide) hf).elim
theorem ag_semi {α : Type} {s x y : St} (h : AgS T s x y) {v v' : α} (hv : x.fe = 0 → v' = v) : Ag T s (v, (wantsS T [59] x).2) (v', takeR T [59] y) ∧ ((wantsS T [59] x).2.fe = 0 → left T (wantsS T [59] x).2 + 1 ≤ left T s) := by
 have hw := ag_wants hT h (z := [59]) (by decide)
 refine ⟨⟨Same.of4 hw.1 fun hf => hv (Lv1.wants [59] x hf).1, hw.2⟩, fun hf => ?_⟩
 have := wants_strict hT hf
 have := (h.2 (Lv1.wants [59] x hf).1).2.2
 omega
omit hT in
theorem startS_self {x : St} (h0 : x.fe = 0) (h1 : x.fa = 0) (h2 : 0 ≤ x.opn) : startS x.at_ x.opn = x := by
 cases x
 simp only at h0 h1 h2
 subst h0 h1
 simp only [startS]
 rw [if_neg (by omega)]
theorem ag_expr {s x y : St} (h : AgS T s x y) (ha : s.fa = 0) (ho : 0 ≤ s.opn) : Ag T s (exprP T x) (exprQ T y) := by
 by_cases hf : x.fe = 0
 ·obtain rfl := h.1.eq hf
  obtain ⟨b1, b2, b3⟩ := h.2 hf
  obtain ⟨p, q, h1, h2, h3, h4⟩ := rows_both (T := T) (by omega) T.length y (left_le _ _) 0 800000000 800000000 (by omega) (by omega) (by omega)
  have hq : exprQ T y = q := by simp only [exprQ, h2]
  rw [hq]
  have hs := startS_self hf (b2.trans ha) (by rw [b1]; exact ho)
  by_cases hp : p.2.fe = 0
  ·obtain ⟨-, e⟩ := (lvAll T 800000000).row 0 y p h1 hp
   obtain ⟨e1, e2⟩ := e (by rw [b1]; exact ho)
   have hpp : exprP T y = p := by
    unfold exprP
    rw [if_neg (by simp [hf]), hs, h1]
    simp only [hp, if_true]
    refine Prod.ext rfl ?_
    rw [show p.2 = ⟨p.2.at_, p.2.opn, p.2.fe, p.2.fa⟩ from rfl, e1, e2, hp, ← hf]
   rw [hpp]
   exact ⟨h3, fun _ => ⟨e1.trans b1, e2.trans b2, Nat.le_trans h4 b3⟩⟩
  ·have hpp : exprP T y = (.zero, { y with fe := p.2.fe, fa := p.2.fa }) := by
    unfold exprP
    rw [if_neg (by simp [hf]), hs, h1]
    simp only [hp, if_false]
   rw [hpp]
   rcases h3 with h3 | ⟨h5, h6, h7⟩
   ·exact absurd h3.1 hp
   ·exact ⟨.inr ⟨h5, h6, h7⟩, fun h => absurd h hp⟩
 ·have hy := h.1.ne hf
  have hp : exprP T x = (.zero, x) := by simp [exprP, hf]
  have hq : exprQ T y = (deadE T y, y) := by simp only [exprQ, exprR_failed hy 800000000 0 (by omega) (by omega)]
  rw [hp, hq]
  refine ⟨Same.of4 h.1 fun h0 => absurd h0 hf, fun h0 => absurd h0 hf⟩
omit hT in
theorem wantN_opn (x : Bs) (o : Int) : ∀ (n : Nat) (s : St), wantN T x n { s with opn := o } = { wantN T x n s with opn := o }
 | 0, s => rfl
 | n + 1, s => by
  have : (wantsS T x { s with opn := o }).2 = { (wantsS T x s).2 with opn := o } := by
   have hb : isB T { s with opn := o } 4 x = isB T s 4 x := rfl
   simp only [wantsS, hb]
   cases isB T s 4 x with
   | true => rfl
   | false =>
    simp only [cond_false, failS]
    split <;> rfl
  simp only [Ytnjoomfeddamcaa.wantN, this]
  exact wantN_opn x o n _
omit hT in
theorem ofL_opn (o : Int) : ∀ (n : Nat) (d : Int) (s : St), ofL T n d { s with opn := o } = match ofL T n d s with
  | .inl p => .inl (p.1, { p.2 with opn := o })
  | .inr s' => .inr { s' with opn := o }
 | 0, d, s => by
  have hb : isB T { s with opn := o } 4 [91] = isB T s 4 [91] := rfl
  simp only [ofL, hb]
  cases isB T s 4 [91] with
  | true => simp only [cond_true, failS]; split <;> rfl
  | false => rfl
 | n + 1, d, s => by
  have hb : isB T { s with opn := o } 4 [91] = isB T s 4 [91] := rfl
  simp only [ofL, hb]
  cases isB T s 4 [91] with
  | true => exact ofL_opn o n (d + 1) (goS s)
  | false => rfl
omit hT in
theorem of_opn (o : Int) (s : St) : ofS T { s with opn := o } = ((ofS T s).1, { (ofS T s).2 with opn := o }) := by
 unfold ofS
 rw [ofL_opn]
 cases ofL T 3 0 s with
 | inr s' => rfl
 | inl p =>
  have hb : ∀ x, isB T { p.2 with opn := o } 3 x = isB T p.2 3 x := fun _ => rfl
  simp only [ofE, hb]
  cases ((tokAt T p.2.at_).kind != 1 && (!isB T p.2 3 [105, 110, 116] && !isB T p.2 3 [98, 111, 111, 108])) with
  | true => simp only [cond_true, failS]; split <;> rfl
  | false =>
   simp only [cond_false]
   exact Prod.ext rfl (wantN_opn [93] o p.1.toNat (goS p.2))
omit hT in
theorem ofR_failed {y : St} (h : y.fe ≠ 0) : ofR T y = (([], 0), y) := by
 simp only [ofR, ofRL, isR_failed h, cond_false, ofRE, Bool.or_self, nameR_failed h]
 rfl
theorem ag_of {s x : St} (hf : x.fe = 0) (h : x.opn = s.opn ∧ x.fa = s.fa ∧ left T x ≤ left T s) (ha : s.fa = 0) : Ag T s (ofT T x) (ofR T x) := by
 obtain ⟨b1, b2, b3⟩ := h
 have hx : x = { (⟨x.at_, 0, 0, 0⟩ : St) with opn := x.opn } := by
  cases x
  simp only at hf b2 ⊢
  rw [hf, b2, ha]
 have ho := of_opn (T := T) x.opn ⟨x.at_, 0, 0, 0⟩
 rw [← hx] at ho
 have hs := of_same T x
 rw [ho] at hs
 unfold ofT
 by_cases hq : (ofS T ⟨x.at_, 0, 0, 0⟩).2.fe = 0
 ·obtain ⟨-, c1, c2⟩ := Lv1.of (T := T) ⟨x.at_, 0, 0, 0⟩ hq
  rw [if_pos hq]
  have e : ({ x with at_ := (ofS T ⟨x.at_, 0, 0, 0⟩).2.at_ } : St) = { (ofS T ⟨x.at_, 0, 0, 0⟩).2 with opn := x.opn } := by
   have c2' : (ofS T ⟨x.at_, 0, 0, 0⟩).2.fa = 0 := c2
   show _ = (⟨(ofS T ⟨x.at_, 0, 0, 0⟩).2.at_, x.opn, (ofS T ⟨x.at_, 0, 0, 0⟩).2.fe, (ofS T ⟨x.at_, 0, 0, 0⟩).2.fa⟩ : St)
   rw [hf, hq, c2', b2, ha]
  rw [e]
  have hl := left_of (T := T) (by omega) ⟨x.at_, 0, 0, 0⟩
  refine ⟨hs, fun _ => ⟨b1, ?_, ?_⟩⟩
  ·show (ofS T ⟨x.at_, 0, 0, 0⟩).2.fa = s.fa
   rw [ha]; exact c2
  ·refine Nat.le_trans (Nat.le_trans hl ?_) b3
   unfold left
   simp [hf]
 ·rw [if_neg hq]
  rcases hs with hs | ⟨g1, g2, g3⟩
  ·exact absurd hs.1 hq
  ·exact ⟨.inr ⟨g1, g2, g3⟩, fun h => absurd h hq⟩
theorem ag_typed {s x : St} (hf : x.fe = 0) (h : x.opn = s.opn ∧ x.fa = s.fa ∧ left T x ≤ left T s) (ha : s.fa = 0) : Ag T s (typedS T x) (typedR T x) := by
 have hfb : (x.fe == 0) = true := by simp [hf]
 have base : AgS T s (goS (bif (tokAt T x.at_).kind != 1 then failS T 2 x else x)) (nameR T x).2 ∧ ((goS (bif (tokAt T x.at_).kind != 1 then failS T 2 x else x)).fe = 0 → (nameR T x).1 = (tokAt T x.at_).text) := by
  by_cases hk : (tokAt T x.at_).kind = 1
  ·have h1 : ((tokAt T x.at_).kind != 1) = false := by simp [hk]
   have h2 : ((tokAt T x.at_).kind == 1) = true := by simp [hk]
   simp only [h1, cond_false, nameR, hfb, h2, Bool.and_self, cond_true]
   have hl := left_go (T := T) (by omega) hf (by rw [hk]; decide)
   exact ⟨⟨SameS.refl _, fun _ => ⟨h.1, h.2.1, by omega⟩⟩, fun _ => trivial⟩
  ·have h1 : ((tokAt T x.at_).kind != 1) = true := by simpa using hk
   have h2 : ((tokAt T x.at_).kind == 1) = false := by simpa using hk
   simp only [h1, cond_true, nameR, h2, Bool.and_false, cond_false]
   have hz : (failS T 2 x).fe ≠ 0 := fun h0 => failS_no (by decide) h0
   exact ⟨⟨.inr ⟨hz, rfl, rfl⟩, fun h0 => absurd h0 hz⟩, fun h0 => absurd h0 hz⟩
 have hc : AgS T s (colonS T x) (takeR T [58] (nameR T x).2) := ag_wants hT base.1 (z := [58]) (by decide)
 unfold typedS typedR
 by_cases hz : (colonS T x).fe = 0
 ·rw [if_neg (by simp [hz])]
  have hn := base.2 (Lv1.wants [58] _ hz).1
  rw [hc.1.eq hz, hn]
  have ho := ag_of hT hz (hc.2 hz) ha
  exact ⟨Same.of4 ho.1.st4 fun h0 => by rw [ho.1.eq h0], ho.2⟩
 ·rw [if_pos hz]
  have hy := hc.1.ne hz
  rw [ofR_failed hy]
  exact ⟨Same.of4 hc.1 fun h0 => absurd h0 hz, fun h0 => absurd h0 hz⟩
def Strict {α : Type} (T : List Tok) (s : St) (p : α × St) : Prop := p.2.fe = 0 → left T p.2 + 1 ≤ left T s
theorem ag_decl {s x : St} (hf : x.fe = 0) (h : x.opn = s.opn ∧ x.fa = s.fa ∧ left T x ≤ left T s) (ha : s.fa = 0) : Ag T s (declS T x) (declR T x) := by
 have ht := ag_typed hT hf h ha
 exact (ag_semi hT ht.st fun h0 => by rw [ht.1.eq h0]).1
theorem ag_lets {s x : St} (hf : x.fe = 0) (h : x.opn = s.opn ∧ x.fa = s.fa ∧ left T x ≤ left T s) (ha : s.fa = 0) (ho : 0 ≤ s.opn) : Ag T s (letsS T x) (letsR T x) := by
 have ht := ag_typed hT hf h ha
 have he := ag_expr hT (ag_wants hT ht.st (z := [61]) (by decide)) ha ho
 refine (ag_semi hT he.st fun h0 => ?_).1
 have h1 : (wantsS T [61] (typedS T x).2).2.fe = 0 := by
  by_cases hz : (wantsS T [61] (typedS T x).2).2.fe = 0
  ·exact hz
  ·rw [show exprP T (wantsS T [61] (typedS T x).2).2 = (.zero, (wantsS T [61] (typedS T x).2).2) by simp [exprP, hz]] at h0
   exact absurd h0 hz
 have h2 := (Lv1.wants [61] _ h1).1
 rw [he.1.eq h0, ht.1.eq h2]
theorem ag_print {s x : St} (h : AgS T s x x) (ha : s.fa = 0) (ho : 0 ≤ s.opn) : Ag T s (printS T x) (printR T x) := by
 have he := ag_expr hT h ha ho
 exact (ag_semi hT he.st fun h0 => by rw [he.1.eq h0]).1
omit hT in
theorem isR4 (s : St) (x : Bs) (h : kw x = 4) : isR T s x = isB T s 4 x := by rw [isR, h]
theorem ag_rets {s x : St} (h : AgS T s x x) (ha : s.fa = 0) (ho : 0 ≤ s.opn) : Ag T s (retsS T x) (retsR T x) := by
 unfold retsS retsR
 rw [isR4 x [59] (by decide)]
 cases isB T x 4 [59] with
 | true => exact (ag_semi hT h fun _ => rfl).1
 | false =>
  have he := ag_expr hT h ha ho
  exact (ag_semi hT he.st fun h0 => by rw [he.1.eq h0]).1
theorem ag_sets {s x : St} (h : AgS T s x x) (e : Ex) (ha : s.fa = 0) (ho : 0 ≤ s.opn) : Ag T s (setsS T e x) (setsR T e x) ∧ Strict T s (setsS T e x) := by
 have hb : AgS T s (bif exK e then failS T 2 x else x) (bif exK e then failS T 2 x else x) := by
  cases exK e with
  | false => exact h
  | true => exact ⟨SameS.refl _, fun h0 => (failS_no (T := T) (s := x) (e := 2) (by decide) h0).elim⟩
 have he := ag_expr hT (ag_wants hT hb (z := [61]) (by decide)) ha ho
 exact ag_semi hT he.st fun h0 => by rw [show exprQ T (eqR T e x) = exprP T (eqS T e x) from he.1.eq h0]
theorem ag_plain {s x : St} (h : AgS T s x x) (ha : s.fa = 0) (ho : 0 ≤ s.opn) : Ag T s (plainS T x) (plainR T x) ∧ Strict T s (plainS T x) := by
 have he := ag_expr hT h ha ho
 unfold plainS plainR
 rw [isR4 _ [61] (by decide), isR4 _ [59] (by decide)]
 by_cases hf : (exprP T x).2.fe = 0
 ·rw [he.1.eq hf]
  have hx : AgS T s (exprP T x).2 (exprP T x).2 := ⟨SameS.refl _, he.2⟩
  cases isB T (exprP T x).2 4 [61] with
  | true => exact ag_sets hT hx _ ha ho
  | false =>
   refine ag_semi hT ?_ fun _ => rfl
   cases (isB T (exprP T x).2 4 [59] && (exprP T x).1.kind != 7) with
   | false => exact hx
   | true => exact ⟨SameS.refl _, fun h0 => (failS_no (T := T) (s := (exprP T x).2) (e := 2) (by decide) h0).elim⟩
 ·have hy := he.1.st4.ne hf
  simp only [isB_failed hf, isB_failed hy, cond_false, Bool.false_and]
  exact ag_semi hT he.st fun h0 => absurd h0 hf
end
end Go.Proofs.Ytnjoomfeddamcaa

namespace Go.Proofs.Ytnjoomfeddamcaa
open Go.Ev
set_option linter.unusedSectionVars false
def StmtB (T : List Tok) (k : Nat) : Prop := ∀ s : St, s.fe = 0 → s.fa = 0 → 0 ≤ s.opn → left T s ≤ k → ∀ n n', 10 * k + 10 ≤ n → 10 * k + 10 ≤ n' → ∃ p q, stmtF T n s = some p ∧ stmtR T n' s = some q ∧ Ag T s p q ∧ Strict T s p
def BlockB (T : List Tok) (k : Nat) : Prop := ∀ s x y : St, AgS T s x y → s.fa = 0 → 0 ≤ s.opn → left T x ≤ k → ∀ n n', 10 * k + 5 ≤ n → 10 * k + 5 ≤ n' → ∃ p q, blockF T n x = some p ∧ blockR T n' y = some q ∧ Ag T s p q ∧ Strict T x p
section
variable {T : List Tok} (hT : T.length ≤ 20000000)
theorem until_failed {x : St} (h : x.fe ≠ 0) (n : Nat) (l : List Stm) : untilF T (n + 1) l x = some (l, x) := by
  have hb : (x.fe == 0) = false := by simpa using h
  simp [untilF, hb]
theorem loopR_failed {x : St} (h : x.fe ≠ 0) (n : Nat) (l : List Stm) : loopR T (n + 1) l x = some (l, x) := by
  have hb : (x.fe == 0) = false := by simpa using h
  simp [loopR, hb]
include hT
theorem ag_loop {K : Nat} (ih : ∀ j, j ≤ K → StmtB T j) : ∀ (c : Nat), c ≤ K → ∀ (s x y : St), AgS T s x y → s.fa = 0 → 0 ≤ s.opn → left T x ≤ c → ∀ n n', 10 * c + 12 ≤ n → 10 * c + 12 ≤ n' → ∀ l l', (x.fe = 0 → l' = l) →
    ∃ p q, untilF T n l x = some p ∧ loopR T n' l' y = some q ∧ Ag T s p q := by
  intro c
  induction c with
  | zero =>
    intro hc s x y h ha ho hl n n' hn hn' l l' he
    obtain ⟨n, rfl⟩ : ∃ m, n = m + 2 := ⟨n - 2, by omega⟩
    obtain ⟨n', rfl⟩ : ∃ m, n' = m + 2 := ⟨n' - 2, by omega⟩
    by_cases hf : x.fe = 0
    · obtain rfl := h.1.eq hf
      rw [he hf]
      obtain ⟨b1, b2, b3⟩ := h.2 hf
      have hb : (y.fe == 0) = true := by simp [hf]
      simp only [untilF, loopR, hb, isR4 y [125] (by decide), Bool.true_and]
      cases isB T y 4 [125] with
      | true => exact ⟨_, _, rfl, rfl, .inl ⟨hf, rfl⟩, h.2⟩
      | false =>
        simp only [Bool.not_false, cond_true]
        obtain ⟨p, q, h1, h2, h3, h4⟩ := ih 0 (by omega) y hf (b2.trans ha) (by rw [b1]; exact ho) hl (n + 1) (n' + 1) (by omega) (by omega)
        rw [h1, h2]
        simp only [Option.bind_some]
        have hp : p.2.fe ≠ 0 := fun h0 => by have := h4 h0; omega
        have hq := h3.1.st4.ne hp
        have u1 := until_failed (T := T) hp n (l ++ [p.1])
        have u2 := loopR_failed (T := T) hq n' (l ++ [q.1])
        simp only [untilF] at u1
        simp only [loopR] at u2
        rw [u1, u2]
        exact ⟨_, _, rfl, rfl, Same.of4 h3.1.st4 fun h0 => absurd h0 hp, fun h0 => absurd h0 hp⟩
    · exact ⟨_, _, until_failed hf _ _, loopR_failed (h.1.ne hf) _ _, Same.of4 h.1 fun h0 => absurd h0 hf, fun h0 => absurd h0 hf⟩
  | succ c ihc =>
    intro hc s x y h ha ho hl n n' hn hn' l l' he
    obtain ⟨n, rfl⟩ : ∃ m, n = m + 2 := ⟨n - 2, by omega⟩
    obtain ⟨n', rfl⟩ : ∃ m, n' = m + 2 := ⟨n' - 2, by omega⟩
    by_cases hf : x.fe = 0
    · obtain rfl := h.1.eq hf
      rw [he hf]
      obtain ⟨b1, b2, b3⟩ := h.2 hf
      have hb : (y.fe == 0) = true := by simp [hf]
      rw [untilF, loopR]
      simp only [hb, isR4 y [125] (by decide), Bool.true_and]
      cases isB T y 4 [125] with
      | true => exact ⟨_, _, rfl, rfl, .inl ⟨hf, rfl⟩, h.2⟩
      | false =>
        simp only [Bool.not_false, cond_true]
        obtain ⟨p, q, h1, h2, h3, h4⟩ := ih (c + 1) hc y hf (b2.trans ha) (by rw [b1]; exact ho) hl (n + 1) (n' + 1) (by omega) (by omega)
        rw [h1, h2]
        simp only [Option.bind_some]
        by_cases hp : p.2.fe = 0
        · have hq := h3.1.eq hp
          have hlt := h4 hp
          obtain ⟨d1, d2, d3⟩ := h3.2 hp
          rw [hq]
          exact ihc (by omega) s p.2 p.2 ⟨SameS.refl _, fun _ => ⟨d1.trans b1, d2.trans b2, Nat.le_trans d3 b3⟩⟩ ha ho (by omega) (n + 1) (n' + 1) (by omega) (by omega) _ _ fun _ => rfl
        · have hq := h3.1.st4.ne hp
          exact ⟨_, _, until_failed hp _ _, loopR_failed hq _ _, Same.of4 h3.1.st4 fun h0 => absurd h0 hp, fun h0 => absurd h0 hp⟩
    · exact ⟨_, _, until_failed hf _ _, loopR_failed (h.1.ne hf) _ _, Same.of4 h.1 fun h0 => absurd h0 hf, fun h0 => absurd h0 hf⟩
theorem ag_noblock {s x y : St} {e : Int} (he : e ≠ 0) (n' : Nat) (hF : SameS (failS T e x) (opensR T [123] y)) (hn : 2 ≤ n') :
    ∃ p q, some (([] : List Stm), failS T e x) = some p ∧ blockR T n' y = some q ∧ Ag T s p q ∧ Strict T x p := by
  obtain ⟨n', rfl⟩ : ∃ m, n' = m + 2 := ⟨n' - 2, by omega⟩
  have h1 : (failS T e x).fe ≠ 0 := fun h0 => failS_no he h0
  have h2 := hF.ne h1
  rw [blockR, loopR_failed h2, Option.bind_some]
  have h3 : closesR T [125] (opensR T [123] y) = outS (opensR T [123] y) := by
    simp only [closesR, takeR, isR_failed h2, cond_false, failS_failed h2]
  refine ⟨_, _, rfl, rfl, ⟨?_, fun h0 => absurd h0 h1⟩, fun h0 => absurd h0 h1⟩
  simp only [h3]
  rcases hF with hF | ⟨g1, g2, g3⟩
  · exact absurd hF.1 h1
  · exact .inr ⟨g1, g2, g3⟩
theorem ag_block {k : Nat} (ih : ∀ j, j < k → StmtB T j) : BlockB T k := by
  intro s x y h ha ho hl n n' hn hn'
  obtain ⟨n, rfl⟩ : ∃ m, n = m + 1 := ⟨n - 1, by omega⟩
  rw [blockF]
  by_cases hf : x.fe = 0
  · obtain rfl := h.1.eq hf
    obtain ⟨b1, b2, b3⟩ := h.2 hf
    cases hi : isB T y 4 [123] with
    | false =>
      refine ag_noblock hT (by decide) n' ?_ (by omega)
      have : opensR T [123] y = inS (failS T 2 y) := by simp [opensR, takeR, isR4 y [123] (by decide), hi]
      rw [this]
      exact .inr ⟨fun h0 => failS_no (by decide) h0, rfl, rfl⟩
    | true =>
      simp only [cond_true]
      by_cases h5 : 50 ≤ y.opn
      · rw [if_pos h5]
        refine ag_noblock hT (by decide) n' ?_ (by omega)
        have : opensR T [123] y = failS T 4 y := by simp [opensR, isR4 y [123] (by decide), hi, h5]
        rw [this]
        exact .refl _
      · rw [if_neg h5]
        have hop : opensR T [123] y = { y with at_ := w64 (y.at_ + 1), opn := w64 (y.opn + 1) } := by
          simp only [opensR, takeR, isR4 y [123] (by decide), hi, h5, decide_false, Bool.and_false, cond_false, cond_true]
          rfl
        have hk : 1 ≤ k := by
          have := left_is (T := T) (by omega) (s := y) (by decide) hi
          omega
        have hgo := left_is (T := T) (by omega) (s := y) (by decide) hi
        obtain ⟨n', rfl⟩ : ∃ m, n' = m + 1 := ⟨n' - 1, by omega⟩
        rw [blockR, hop]
        obtain ⟨c1, c2⟩ := w64_io (o := y.opn) (by rw [b1]; exact ho) (by omega)
        have hl1 : left T { y with at_ := w64 (y.at_ + 1), opn := w64 (y.opn + 1) } + 1 ≤ left T y := hgo
        obtain ⟨p, q, h1, h2, h3⟩ := ag_loop hT (K := k - 1) (fun j hj => ih j (by omega)) (k - 1) (Nat.le_refl _) { y with at_ := w64 (y.at_ + 1), opn := w64 (y.opn + 1) } _ _ ⟨SameS.refl _, fun _ => ⟨rfl, rfl, Nat.le_refl _⟩⟩ (b2.trans ha) (by show (0 : Int) ≤ w64 (y.opn + 1); rw [c1, b1]; omega) (by omega) n n' (by omega) (by omega) [] [] fun _ => rfl
        rw [h1, h2]
        simp only [Option.bind_some]
        have hcl := closes_same (T := T) h3.1.st4 (x := [125]) (by decide)
        have hcl' : SameS (wantsS T [125] (outS p.2)).2 (closesR T [125] q.2) := hcl
        refine ⟨_, _, rfl, rfl, ⟨Same.of4 hcl' fun h0 => ?_, fun h0 => ?_⟩, fun h0 => ?_⟩
        · have := (Lv1.wants [125] _ h0).1
          rw [h3.1.eq this]
        · obtain ⟨d1, d2, d3⟩ := Lv1.wants [125] _ h0
          obtain ⟨e1, e2, e3⟩ := h3.2 d1
          refine ⟨?_, d3.trans (e2.trans b2), ?_⟩
          · rw [d2]
            show w64 (p.2.opn - 1) = s.opn
            rw [e1]
            show w64 (w64 (y.opn + 1) - 1) = s.opn
            rw [c1, c2, b1]
          · have hw := left_wants (T := T) (by omega) (outS p.2) [125]
            rw [left_out] at hw
            have hs : left T (wantsS T [125] (outS p.2)).2 ≤ left T s := by omega
            exact hs
        · obtain ⟨d1, d2, d3⟩ := Lv1.wants [125] _ h0
          obtain ⟨e1, e2, e3⟩ := h3.2 d1
          have hw := left_wants (T := T) (by omega) (outS p.2) [125]
          rw [left_out] at hw
          have hs : left T (wantsS T [125] (outS p.2)).2 + 1 ≤ left T y := by omega
          exact hs
  · rw [isB_failed hf, cond_false]
    refine ag_noblock hT (by decide) n' ?_ (by omega)
    have hy := h.1.ne hf
    have : opensR T [123] y = inS y := by simp [opensR, takeR, isR_failed hy, failS_failed hy]
    rw [this, failS_failed hf]
    rcases h.1 with h1 | ⟨g1, g2, g3⟩
    · exact absurd h1.1 hf
    · exact .inr ⟨g1, g2, g3⟩
omit hT in
theorem kindW {s : St} (hf : s.fe = 0) {x : Bs} (hx : kw x = 3) : isR T s x = ((tokAt T s.at_).kind == 3 && (tokAt T s.at_).text == x) := by
  simp [isR, hx, isB, hf]
theorem ag_at {s : St} {p q : Stm × St} (pos : Int) (h : Ag T s p q) : Ag T s (p.1.at pos, p.2) (q.1.at pos, q.2) := ⟨Same.of4 h.1.st4 fun h0 => by rw [h.1.eq h0], h.2⟩
theorem ag_stmt {k : Nat} (ihB : ∀ j, j < k → BlockB T j) : StmtB T k := by
  intro s hf ha ho hl n n' hn hn'
  obtain ⟨n, rfl⟩ : ∃ m, n = m + 2 := ⟨n - 2, by omega⟩
  obtain ⟨n', rfl⟩ : ∃ m, n' = m + 2 := ⟨n' - 2, by omega⟩
  have self : AgS T s s s := ⟨SameS.refl _, fun _ => ⟨rfl, rfl, Nat.le_refl _⟩⟩
  rw [stmtF, stmtR]
  simp only [kindW hf (x := [118, 97, 114]) (by decide), kindW hf (x := [108, 101, 116]) (by decide), kindW hf (x := [105, 102]) (by decide), kindW hf (x := [119, 104, 105, 108, 101]) (by decide), kindW hf (x := [114, 101, 116, 117, 114, 110]) (by decide), kindW hf (x := [112, 114, 105, 110, 116]) (by decide)]
  have plain : ∃ p q, (some (plainS T s)).bind (fun p => some (p.1.at (tokAt T s.at_).pos, p.2)) = some p ∧ (some (plainR T s)).bind (fun p => some (p.1.at (tokAt T s.at_).pos, p.2)) = some q ∧ Ag T s p q ∧ Strict T s p := by
    obtain ⟨h1, h2⟩ := ag_plain hT self ha ho
    exact ⟨_, _, rfl, rfl, ag_at hT _ h1, h2⟩
  cases hk : (tokAt T s.at_).kind == 3 with
  | false =>
    simp only [cond_false, Bool.false_and, Bool.or_self]
    exact plain
  | true =>
    simp only [cond_true, Bool.true_and]
    have hk3 : (tokAt T s.at_).kind = 3 := by simpa using hk
    have hg := left_go (T := T) (by omega) hf (by rw [hk3]; decide)
    have gs : AgS T (goS s) (goS s) (goS s) := ⟨SameS.refl _, fun _ => ⟨rfl, rfl, Nat.le_refl _⟩⟩
    have up : ∀ {p q : Stm × St}, Ag T (goS s) p q → ∃ p' q', (some p).bind (fun p => some (p.1.at (tokAt T s.at_).pos, p.2)) = some p' ∧ (some q).bind (fun p => some (p.1.at (tokAt T s.at_).pos, p.2)) = some q' ∧ Ag T s p' q' ∧ Strict T s p' := fun {p q} h => by
      refine ⟨_, _, rfl, rfl, ag_at hT _ ⟨h.1, fun h0 => ?_⟩, fun h0 => ?_⟩
      · obtain ⟨e1, e2, e3⟩ := h.2 h0
        exact ⟨e1, e2, by omega⟩
      · obtain ⟨e1, e2, e3⟩ := h.2 h0
        show left T p.2 + 1 ≤ left T s
        omega
    have gok := gs.2 hf
    cases t1 : (tokAt T s.at_).text == [118, 97, 114] with
    | true =>
      have t2 : ((tokAt T s.at_).text == [108, 101, 116]) = false := by
        have : (tokAt T s.at_).text = [118, 97, 114] := by simpa using t1
        rw [this]; rfl
      simp only [cond_true, Bool.true_or, t2, cond_false]
      exact up (ag_decl hT hf gok ha)
    | false =>
      simp only [cond_false, Bool.false_or]
      cases t2 : (tokAt T s.at_).text == [108, 101, 116] with
      | true =>
        simp only [cond_true]
        exact up (ag_lets hT hf gok ha ho)
      | false =>
        simp only [cond_false]
        cases t3 : (tokAt T s.at_).text == [105, 102] with
        | true =>
          simp only [cond_true]
          have he := ag_expr hT gs ha ho
          rw [chooseF]
          have hle : left T (exprP T (goS s)).2 ≤ k - 1 := by
            by_cases h0 : (exprP T (goS s)).2.fe = 0
            · have := (he.2 h0).2.2; omega
            · rw [left_failed h0]; omega
          obtain ⟨p, q, h1, h2, h3, h4⟩ := ihB (k - 1) (by omega) (goS s) _ _ he.st ha ho hle n (n' + 1) (by omega) (by omega)
          rw [h1, h2]
          simp only [Option.bind_some]
          by_cases hp : p.2.fe = 0
          · have hq := h3.1.eq hp
            have hst := h4 hp
            have hee : (exprP T (goS s)).2.fe = 0 := by
              by_cases h0 : (exprP T (goS s)).2.fe = 0
              · exact h0
              · rw [left_failed h0] at hst; omega
            rw [hq, he.1.eq hee, kindW hp (x := [101, 108, 115, 101]) (by decide)]
            have hbb : isB T p.2 3 [101, 108, 115, 101] = ((tokAt T p.2.at_).kind == 3 && (tokAt T p.2.at_).text == [101, 108, 115, 101]) := by simp [isB, hp]
            rw [← hbb]
            cases hel : isB T p.2 3 [101, 108, 115, 101] with
            | false =>
              simp only [cond_false]
              exact up ⟨.inl ⟨hp, rfl⟩, h3.2⟩
            | true =>
              simp only [cond_true]
              have hg2 := left_is (T := T) (by omega) (s := p.2) (by decide) hel
              obtain ⟨f1, f2, f3⟩ := h3.2 hp
              obtain ⟨p2, q2, g1, g2, g3, g4⟩ := ihB (k - 1) (by omega) (goS s) (goS p.2) (goS p.2) ⟨SameS.refl _, fun _ => ⟨f1, f2, by omega⟩⟩ ha ho (by omega) n (n' + 1) (by omega) (by omega)
              rw [g1, g2]
              simp only [Option.bind_some]
              refine up (p := (Stm.mk { kind := 5 } [(exprP T (goS s)).1] p.1 p2.1, p2.2)) (q := (Stm.mk { kind := 5 } [(exprP T (goS s)).1] p.1 q2.1, q2.2)) ?_
              exact ⟨Same.of4 g3.1.st4 fun h0 => by simp only [g3.1.eq h0], g3.2⟩
          · have hq := h3.1.st4.ne hp
            rw [isB_failed hp, isR_failed hq]
            simp only [cond_false]
            exact up ⟨Same.of4 h3.1.st4 fun h0 => absurd h0 hp, fun h0 => absurd h0 hp⟩
        | false =>
          simp only [cond_false]
          cases t4 : (tokAt T s.at_).text == [119, 104, 105, 108, 101] with
          | true =>
            simp only [cond_true]
            have he := ag_expr hT gs ha ho
            rw [repeatF]
            have hle : left T (exprP T (goS s)).2 ≤ k - 1 := by
              by_cases h0 : (exprP T (goS s)).2.fe = 0
              · have := (he.2 h0).2.2; omega
              · rw [left_failed h0]; omega
            obtain ⟨p, q, h1, h2, h3, h4⟩ := ihB (k - 1) (by omega) (goS s) _ _ he.st ha ho hle n (n' + 1) (by omega) (by omega)
            rw [h1, h2]
            simp only [Option.bind_some]
            refine up (p := (Stm.mk { kind := 6 } [(exprP T (goS s)).1] p.1 [], p.2)) (q := (Stm.mk { kind := 6 } [(exprQ T (goS s)).1] q.1 [], q.2)) ?_
            refine ⟨Same.of4 h3.1.st4 fun h0 => ?_, h3.2⟩
            have hst := h4 h0
            have hee : (exprP T (goS s)).2.fe = 0 := by
              by_cases h9 : (exprP T (goS s)).2.fe = 0
              · exact h9
              · rw [left_failed h9] at hst; omega
            simp only [h3.1.eq h0, he.1.eq hee]
          | false =>
            simp only [cond_false]
            cases t5 : (tokAt T s.at_).text == [114, 101, 116, 117, 114, 110] with
            | true =>
              simp only [cond_true]
              exact up (ag_rets hT gs ha ho)
            | false =>
              simp only [cond_false]
              cases t6 : (tokAt T s.at_).text == [112, 114, 105, 110, 116] with
              | true =>
                simp only [cond_true]
                exact up (ag_print hT gs ha ho)
              | false =>
                simp only [cond_false]
                exact plain
theorem stmtB : ∀ k, StmtB T k := by
  intro k
  induction k using Nat.strongRecOn with
  | _ k ih => exact ag_stmt hT fun j hj => ag_block hT fun i hi => ih i (by omega)
theorem blockB (k : Nat) : BlockB T k := ag_block hT fun j _ => stmtB hT j
theorem both_stmt (at_ opn : Int) : ∃ p q, stmtF T 800000000 (startS at_ opn) = some p ∧ stmtR T 800000000 (startS at_ opn) = some q ∧ parseM q.1 q.2 = parseM p.1 p.2 ∧ Ag T (startS at_ opn) p q ∧ Strict T (startS at_ opn) p := by
  have ho : (0 : Int) ≤ (startS at_ opn).opn := by
    show (0 : Int) ≤ if opn < 0 then 0 else opn
    split <;> omega
  obtain ⟨p, q, h1, h2, h3, h4⟩ := stmtB hT T.length (startS at_ opn) rfl rfl ho (left_le _ _) 800000000 800000000 (by omega) (by omega)
  refine ⟨p, q, h1, h2, ?_, h3, h4⟩
  rcases h3.1 with ⟨h, rfl⟩ | ⟨h, ha, hb⟩
  · rfl
  · have h' : ¬ q.2.fe = 0 := by rw [ha]; exact h
    simp only [parseM, if_neg h, if_neg h', ha, hb]
theorem both_block (at_ opn : Int) : ∃ p q, blockF T 800000000 (startS at_ opn) = some p ∧ blockR T 800000000 (startS at_ opn) = some q ∧ parseB q.1 q.2 = parseB p.1 p.2 ∧ Ag T (startS at_ opn) p q := by
  have ho : (0 : Int) ≤ (startS at_ opn).opn := by
    show (0 : Int) ≤ if opn < 0 then 0 else opn
    split <;> omega
  obtain ⟨p, q, h1, h2, h3, -⟩ := blockB hT T.length (startS at_ opn) _ _ ⟨SameS.refl _, fun _ => ⟨rfl, rfl, Nat.le_refl _⟩⟩ rfl ho (left_le _ _) 800000000 800000000 (by omega) (by omega)
  refine ⟨p, q, h1, h2, ?_, h3⟩
  rcases h3.1 with ⟨h, rfl⟩ | ⟨h, ha, hb⟩
  · rfl
  · have h' : ¬ q.2.fe = 0 := by rw [ha]; exact h
    simp only [parseB, if_neg h, if_neg h', ha, hb]
end
end Go.Proofs.Ytnjoomfeddamcaa

namespace Go.Proofs.Ytnjoomfeddamcaa
open Go.Ev
set_option maxRecDepth 1000000
theorem known4 (H : AHeap) : CallOk1 P 26 [] H (.bool true) H := callOk1_run (N := 10000) (n := 100) progOk (by kernel_rfl) H
end Go.Proofs.Ytnjoomfeddamcaa

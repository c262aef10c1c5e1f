/-
  Texts of one proof, laid together: U5 ShT V1 U6 V2.
-/
import Derived.Test.YtnjoomfeddamcaaML
import Derived.Test.YtnjoomfeddamcaaMD
import Derived.Test.YtnjoomfeddamcaaMJ
set_option linter.unusedVariables false
set_option linter.unusedSimpArgs false
namespace Go.Proofs.Ytnjoomfeddamcaa
open Go.Ev
theorem SlsV.append {H : AHeap} {ok : Nat → Prop} : ∀ (es : List Stm) (cs : List (List AV)) (e : Stm) (c : List AV), SlsV H ok es cs → cs.length = es.length → StV H ok e (.agg c) → SlsV H ok (es ++ [e]) (cs ++ [c])
 | [], [], e, c, _, _, h => by
  simp only [List.nil_append]
  rw [SlsV, SlsV]; exact ⟨h, trivial⟩
 | [], _ :: _, e, c, _, hl, _ => by simp at hl
 | _ :: _, [], e, c, h, _, _ => by rw [SlsV] at h; exact h.elim
 | e1 :: es, c1 :: cs, e, c, h, hl, he => by
  rw [SlsV] at h
  simp only [List.cons_append]
  rw [SlsV]
  exact ⟨h.1, SlsV.append es cs e c h.2 (by simpa using hl) he⟩
theorem un50 : P.underlying 50 = some (.slice 54) := by kernel_rfl
theorem by54 : tyBytes P 54 = some 136 := by kernel_rfl
theorem az54 : azero P 54 = some (.agg [.int .i64 0, .str [], .str [], .int .i64 0, .nilSl, .nilSl, .nilSl, .int .i64 0, .int .i64 0]) := by kernel_rfl
theorem ap50_nil {H : AHeap} {L : Nat} {cs : List AV} {cap : Option Nat} {ro : Bool} (hg : H.get L = some (.row ro 9 [cs])) : aappend P H [50, 50] .nilSl (.sl L 0 1 9 cap) = some (.sl H.next 0 1 9 none, H.push (.row false 9 [cs])) := by
 simp [aappend, un50, ts54, by54, az54, anews, aels, hg, AV.cells]
theorem ap50_sl {H : AHeap} {L l n : Nat} {cs : List AV} {els : List (List AV)} {cap : Option Nat} {ro : Bool} (hg : H.get L = some (.row ro 9 [cs])) (hl : H.get l = some (.row false 9 els)) (hn : els.length = n) (hb : n ≤ 1000000000) : aappend P H [50, 50] (.sl l 0 n 9 none) (.sl L 0 1 9 cap) = some (.sl H.next 0 (n + 1) 9 none, (H.set l .dead).push (.row false 9 (els ++ [cs]))) := by
 have h1 : (n + 1) * 136 ≤ 140737488355328 := by omega
 have h2 : n + 1 ≤ 9223372036854775807 := by omega
 simp [aappend, un50, ts54, by54, az54, anews, aels, hg, hl, AV.cells, hn, h1, h2]
 rw [List.take_of_length_le (by omega)]
theorem sl50_1 (l : Nat) (cs : List AV) (h : cs.length = 9) (ho : cs.all AV.one = true) : sliceOf P l 50 1 [(0, .agg cs)] = some (.sl l 0 1 9 (some 1), .row false 9 [cs]) := by
 simp [sliceOf, un50, ts54, az54, AV.cells, asetEls, h, ho, one_int, one_str, one_nilSl]
def BldS (n0 : Nat) (H : AHeap) (l : List Stm) (v : AV) : Prop := (v = .nilSl ∧ l = []) ∨ ∃ L els, v = .sl L 0 l.length 9 none ∧ H.get L = some (.row false 9 els) ∧ n0 ≤ L ∧ els.length = l.length ∧ SlsV H (fun k => n0 ≤ k ∧ k ≠ L) l els
theorem BldS.mut {n0 r : Nat} {H H' : AHeap} {l : List Stm} {v : AV} (h : BldS n0 H l v) (m : Mt r H H') (hr : r < n0) : BldS n0 H' l v := by
 rcases h with h | ⟨L, els, e1, e2, e3, e4, e5⟩
 ·exact .inl h
 ·exact .inr ⟨L, els, e1, m.get e2 (by omega), e3, e4, SlsV.keep (KeepS.mut m (by omega) fun _ h => h) _ _ e5⟩
theorem BldS.ss {n0 : Nat} {H : AHeap} {l : List Stm} {v : AV} (h : BldS n0 H l v) : SsV H (Ge n0) l v := by
 rcases h with ⟨rfl, rfl⟩ | ⟨L, els, e1, e2, e3, e4, e5⟩
 ·exact SsV.nil _ _
 ·exact .inr (.inl ⟨L, 0, none, false, els, e1, e3, e2, by rw [List.drop_zero]; exact SlsV.keep (KeepS.le' fun _ h => h.1) _ _ e5⟩)
theorem BldS.app {n0 m : Nat} {H : AHeap} {l : List Stm} {v : AV} (h : BldS n0 H l v) {e : Stm} {cs : List AV} (he : StV H (Ge m) e (.agg cs)) (hm : n0 ≤ m) (hv : ∀ L n c, v = .sl L 0 n 9 c → L < m) (hn : n0 ≤ H.next) (hl : l.length ≤ 1000000000) :
  ∃ v' H', aappend P (H.push (.row false 9 [cs])) [50, 50] v (.sl H.next 0 1 9 (some 1)) = some (v', H') ∧ BldS n0 H' (l ++ [e]) v' ∧ Mut (n0 ≤ ·) H H' ∧ H.next + 1 ≤ H'.next := by
 have hg := AHeap.get_push_same H (.row false 9 [cs])
 rcases h with ⟨rfl, rfl⟩ | ⟨L, els, rfl, e2, e3, e4, e5⟩
 ·refine ⟨_, _, ap50_nil hg, .inr ⟨_, [cs], rfl, AHeap.get_push_same _ _, by simp only [AHeap.next_push]; omega, rfl, ?_⟩, (((Pur.push _ _).then_push _).mut _), by simp only [AHeap.next_push]; omega⟩
  rw [List.nil_append, SlsV, SlsV]
  refine ⟨StV.keep ⟨fun k ro els hk g => ⟨⟨by unfold Ge at hk; omega, ?_⟩, ((Pur.push _ _).then_push _).get g⟩, fun k ro els hk g => ⟨⟨by unfold Ge at hk; omega, ?_⟩, ((Pur.push _ _).then_push _).get g⟩⟩ e _ he, trivial⟩
  all_goals have := AHeap.get_lt g; simp only [AHeap.next_push]; omega
 ·have hLm := hv L _ _ rfl
  have lL := AHeap.get_lt e2
  have e2' : (H.push (.row false 9 [cs])).get L = some (.row false 9 els) := (Pur.push _ _).get e2
  have kp : ∀ k b, H.get k = some b → k ≠ L → (((H.push (.row false 9 [cs])).set L .dead).push (.row false 9 (els ++ [cs]))).get k = some b := fun k b g hk => by
   have := AHeap.get_lt g
   rw [AHeap.get_push_other (by simp only [AHeap.next_set, AHeap.next_push]; omega), AHeap.get_set_other (by omega), AHeap.get_push_other (by omega)]; exact g
  refine ⟨_, _, ap50_sl hg e2' e4 hl, .inr ⟨_, els ++ [cs], by rw [List.length_append]; rfl, AHeap.get_push_same _ _, by simp only [AHeap.next_set, AHeap.next_push]; omega, by simp [e4], ?_⟩, ?_, by simp only [AHeap.next_set, AHeap.next_push]; omega⟩
  ·refine SlsV.append _ _ _ _ (SlsV.keep ⟨fun k ro es hk g => ⟨⟨hk.1, ?_⟩, kp _ _ g hk.2⟩, fun k ro es hk g => ⟨⟨hk.1, ?_⟩, kp _ _ g hk.2⟩⟩ _ _ e5) e4 (StV.keep ⟨fun k ro es hk g => ⟨⟨by unfold Ge at hk; omega, ?_⟩, kp _ _ g (by unfold Ge at hk; omega)⟩, fun k ro es hk g => ⟨⟨by unfold Ge at hk; omega, ?_⟩, kp _ _ g (by unfold Ge at hk; omega)⟩⟩ e _ he)
   all_goals have := AHeap.get_lt g; simp only [AHeap.next_set, AHeap.next_push]; omega
  ·exact (((Pur.push _ _).mut _).then_set (.inl e3) _).then_push _
def StmtOk (n : Nat) : Prop := ∀ {H : AHeap} {r : Nat} {T : List Tok} {tv : AV} {s : St}, T.length ≤ 20000000 → Ry H r T tv s → ∀ (e : Stm) (s' : St), stmtF T n s = some (e, s') → W (evw P 48 [.ptr r 0 0] H) (QostS H r T tv e s')
def BlockOk (n : Nat) : Prop := ∀ {H : AHeap} {r : Nat} {T : List Tok} {tv : AV} {s : St}, T.length ≤ 20000000 → Ry H r T tv s → ∀ (l : List Stm) (s' : St), blockF T n s = some (l, s') → W (evw P 73 [.ptr r 0 0] H) fun v H' => Mt r H H' ∧ Ry H' r T tv s' ∧ SsV H' (Ge H.next) l v
def ChooseOk (n : Nat) : Prop := ∀ {H : AHeap} {r : Nat} {T : List Tok} {tv : AV} {s : St}, T.length ≤ 20000000 → Ry H r T tv s → ∀ (e : Stm) (s' : St), chooseF T n s = some (e, s') → W (evw P 94 [.ptr r 0 0] H) (QostS H r T tv e s')
def RepeatOk (n : Nat) : Prop := ∀ {H : AHeap} {r : Nat} {T : List Tok} {tv : AV} {s : St}, T.length ≤ 20000000 → Ry H r T tv s → ∀ (e : Stm) (s' : St), repeatF T n s = some (e, s') → W (evw P 95 [.ptr r 0 0] H) (QostS H r T tv e s')
theorem until_loop {N M : Nat} (ih : ∀ k, k < N → StmtOk k) {H0 : AHeap} {r : Nat} {T : List Tok} {tv : AV} {s0 : St} (hT : T.length ≤ 20000000) (hx0 : Ry H0 r T tv s0) :
  ∀ (n m : Nat), n ≤ N → n < m → ∀ (H : AHeap) (s : St) (l : List Stm) (v : AV), Mt r H0 H → Rd5 H r tv s → l.length + n ≤ 1000000000 → BldS H0.next H l v → ∀ (l' : List Stm) (s' : St), untilF T n l s = some (l', s') →
   W (s88_l1 (evw P) M m (.ptr r 0 0) (.str [125]) (.func (.func 48) [.ptr r 0 0] []) v H) fun v H' => Mt r H0 H' ∧ Ry H' r T tv s' ∧ SsV H' (Ge H0.next) l' v
 | 0, m, hN, hm, H, s, l, v, mb, hrd, hlen, hb, l', s', h => by simp [untilF] at h
 | n + 1, 0, hN, hm, H, s, l, v, mb, hrd, hlen, hb, l', s', h => by omega
 | n + 1, m + 1, hN, hm, H, s, l, v, mb, hrd, hlen, hb, l', s', h => by
  have hl := hx0.rd.lt
  have hle := mb.1
  have hx := hx0.mut mb hrd
  simp only [untilF] at h
  simp only [s88_l1]
  rw [s88_b1]
  refine W_call (kfailed_spec hrd) ?_
  rintro _ H1 ⟨rfl, rfl⟩
  refine ⟨Nat.le_refl _, ?_⟩
  by_cases hf : s.fe = 0
  ·have hf' : (s.fe == 0) = true := by simp [hf]
   simp -implicitDefEqProofs (disch := first | assumption | omega | (simp only [nxB]; omega) | (simp only [oneB])) only [s88_b1, s88, xlen, AV.cells, splice, aload, astore, Nat.reduceAdd, Nat.reduceLeDiff, reduceIte, allB, hf, bne_self_eq_false, Bool.not_false]
   refine W_eff (kis_spec hrd hx.tk 4 [125]) ?_
   rintro _ H2 ⟨rfl, p2⟩
   refine ⟨p2.1, ?_⟩
   have hb2 := hb.mut (p2.mut (· = r)) hl
   cases hi : isB T s 4 [125] with
   | true =>
    simp only [hf', hi, Bool.not_true, Bool.and_false, cond_false, Option.some.injEq, Prod.mk.injEq] at h
    obtain ⟨rfl, rfl⟩ := h
    simp -implicitDefEqProofs (disch := first | assumption | omega | (simp only [nxB]; omega) | (simp only [oneB])) only [s88_j0, s88, xlen, AV.cells, splice, aload, astore, Nat.reduceAdd, Nat.reduceLeDiff, reduceIte, allB, Bool.not_true, Bool.not_false]
    exact W_some.2 ⟨mb.trans (p2.mut _), hx.pur p2, hb2.ss⟩
   | false =>
    simp only [hf', hi, Bool.not_false, Bool.and_self, cond_true, Option.bind_eq_some_iff] at h
    obtain ⟨⟨e1, s1⟩, h1, h2⟩ := h
    simp -implicitDefEqProofs (disch := first | assumption | omega | (simp only [nxB]; omega) | (simp only [oneB])) only [s88, xlen, AV.cells, splice, aload, astore, Nat.reduceAdd, Nat.reduceLeDiff, reduceIte, allB, xapply_fn, List.append_nil, Bool.not_true, Bool.not_false]
    refine W_call (ih n (by omega) hT (hx.pur p2) e1 s1 h1) ?_
    rintro w H3 ⟨m3, hx3, he⟩
    refine ⟨m3.1, ?_⟩
    obtain ⟨cs, rfl, c1, o1⟩ := he.cells
    have hb3 := hb2.mut m3 hl
    have n3 := m3.1
    have n2 := p2.1
    obtain ⟨v', H', ha, hb', mm, hn'⟩ := hb3.app he (by omega) (fun L k c hv => by
     rcases hb2 with ⟨q1, _⟩ | ⟨L', els, q1, q2, _⟩
     ·rw [q1] at hv; cases hv
     ·rw [q1] at hv
      cases hv
      exact AHeap.get_lt q2) (by omega) (by omega)
    have hs := fun l => sl50_1 l cs c1 o1
    simp -implicitDefEqProofs (disch := first | assumption | omega | (simp only [nxB]; omega) | (simp only [oneB])) only [s88, xlen, AV.cells, splice, aload, astore, Nat.reduceAdd, Nat.reduceLeDiff, reduceIte, allB, hs, ha, xcall_some]
    have mm' : Mt r H0 H' := ⟨by have := mb.1; omega, fun k hk hr => by
     rw [mm.2 k (by omega) (by omega)]
     exact ((mb.trans (p2.mut _)).trans m3).2 k hk hr⟩
    have hr' : Rd5 H' r tv s1 := mm.get hx3.rd (by omega)
    exact until_loop ih hT hx0 n m (by omega) (by omega) H' s1 (l ++ [e1]) v' mm' hr' (by simp only [List.length_append, List.length_cons, List.length_nil]; omega) hb' l' s' h2
  ·have hf' : (s.fe == 0) = false := by simpa using hf
   have hfn : (s.fe != 0) = true := by simpa using hf
   simp only [hf', Bool.false_and, cond_false, Option.some.injEq, Prod.mk.injEq] at h
   obtain ⟨rfl, rfl⟩ := h
   simp -implicitDefEqProofs (disch := first | assumption | omega | (simp only [nxB]; omega) | (simp only [oneB])) only [s88_j0, s88, xlen, AV.cells, splice, aload, astore, Nat.reduceAdd, Nat.reduceLeDiff, reduceIte, allB, hfn, Bool.not_true]
   exact W_some.2 ⟨mb, hx, hb.ss⟩
theorem until_spec {n : Nat} (ih : ∀ k, k < n → StmtOk k) (hn : n ≤ 1000000000) {H : AHeap} {r : Nat} {T : List Tok} {tv : AV} {s : St} (hT : T.length ≤ 20000000) (hx : Ry H r T tv s) {l : List Stm} {s' : St} (h : untilF T n [] s = some (l, s')) :
  W (evw P 88 [.ptr r 0 0, .str [125], .func (.func 48) [.ptr r 0 0] []] H) fun v H' => Mt r H H' ∧ Ry H' r T tv s' ∧ SsV H' (Ge H.next) l v := by
 refine W_of (fun _ => run88 (n + 1)) ?_
 rw [s88]
 exact until_loop ih hT hx n (n + 1) (Nat.le_refl _) (by omega) H s [] .nilSl (Mut.refl _ _) hx.rd (by simpa using hn) (.inl ⟨rfl, rfl⟩) l s' h
theorem block_step {n : Nat} (hn : n ≤ 1000000000) (ih : ∀ k, k < n → StmtOk k) : BlockOk (n + 1) := by
 intro H r T tv s hT hx l s' h
 refine W_of (fun _ => run73 0) ?_
 have hl := hx.rd.lt
 have ho1 := hx.tk.one
 rw [s73]
 refine W_call (kis_spec hx.rd hx.tk 4 [123]) ?_
 rintro _ H1 ⟨rfl, p1⟩
 refine ⟨p1.1, ?_⟩
 have hx1 := hx.pur p1
 simp only [blockF] at h
 have hr := hx1.rd
 unfold Rd5 at hr
 cases hi : isB T s 4 [123] with
 | false =>
  simp only [hi, cond_false, Option.some.injEq, Prod.mk.injEq] at h
  obtain ⟨rfl, rfl⟩ := h
  simp -implicitDefEqProofs (disch := first | assumption | omega | (simp only [nxB]; omega) | (simp only [oneB])) only [s73, xlen, AV.cells, splice, aload, astore, Nat.reduceAdd, Nat.reduceLeDiff, reduceIte, allB, Bool.not_false]
  refine W_call (kfail_spec hx1 2) ?_
  rintro _ H2 ⟨rfl, m2, hx2⟩
  refine ⟨m2.1, ?_⟩
  exact W_some.2 ⟨(p1.mut _).trans m2, hx2, SsV.nil _ _⟩
 | true =>
  simp only [hi, cond_true] at h
  by_cases h5 : 50 ≤ s.opn
  ·rw [if_pos h5] at h
   simp only [Option.some.injEq, Prod.mk.injEq] at h
   obtain ⟨rfl, rfl⟩ := h
   simp -implicitDefEqProofs (disch := first | assumption | omega | (simp only [nxB]; omega) | (simp only [oneB])) only [s73, xlen, AV.cells, splice, aload, astore, Nat.reduceAdd, Nat.reduceLeDiff, reduceIte, allB, Bool.not_true, hr, h5, decide_true]
   refine W_call (kfail_spec hx1 4) ?_
   rintro _ H2 ⟨rfl, m2, hx2⟩
   refine ⟨m2.1, ?_⟩
   exact W_some.2 ⟨(p1.mut _).trans m2, hx2, SsV.nil _ _⟩
  ·rw [if_neg h5] at h
   simp only [Option.bind_eq_some_iff] at h
   obtain ⟨⟨l1, s1⟩, h1, h2⟩ := h
   simp only [Option.some.injEq, Prod.mk.injEq] at h2
   obtain ⟨rfl, rfl⟩ := h2
   obtain ⟨m2, hd2⟩ := rset hx1.rd { s with at_ := w64 (s.at_ + 1), opn := w64 (s.opn + 1) }
   have hx2 := hx1.mut m2 hd2
   have lr1 := hx1.rd.lt
   simp -implicitDefEqProofs (disch := first | assumption | omega | (simp only [nxB]; omega) | (simp only [oneB])) only [s73, xlen, AV.cells, splice, aload, astore, Nat.reduceAdd, Nat.reduceLeDiff, reduceIte, allB, Bool.not_true, hr, h5, decide_false, ho1]
   refine W_call (until_spec ih hn hT hx2 h1) ?_
   rintro v H3 ⟨m3, hx3, hv⟩
   refine ⟨m3.1, ?_⟩
   have hr3 := hx3.rd
   have hr3' := hr3
   unfold Rd5 at hr3'
   obtain ⟨m4, hd4⟩ := rset hr3 (outS s1)
   have hx4 := hx3.mut m4 hd4
   simp -implicitDefEqProofs (disch := first | assumption | omega | (simp only [nxB]; omega) | (simp only [oneB])) only [s73, xlen, AV.cells, splice, aload, astore, Nat.reduceAdd, Nat.reduceLeDiff, reduceIte, allB, hr3', ho1, hr3.lt]
   refine W_call (kwants_spec hx4 [125]) ?_
   rintro _ H5 ⟨rfl, m5, hx5⟩
   have n1 := p1.1
   refine ⟨m5.1, ?_⟩
   exact W_some.2 ⟨((((p1.mut _).trans m2).trans m3).trans m4).trans m5, hx5, hv.keep (KeepS.mut (m4.trans m5) (by unfold Ge; simp only [AHeap.next_set]; omega) fun k hk => by unfold Ge at *; simp only [AHeap.next_set] at hk; omega)⟩
end Go.Proofs.Ytnjoomfeddamcaa

namespace Go.Proofs.Ytnjoomfeddamcaa
open Go.Ev
set_option maxRecDepth 100000
noncomputable section
def s47_j0 (G : CallT) (N : Nat) (x0 x3 : AV) (H : AHeap) : O :=
 xcall H (G 75 [x0, (.str [125])] H) fun x19 h1 =>
 some (x3, h1)
theorem s47_j0_eq (G : CallT) (N : Nat) : ∀ R H, codeC P G N (Code.snd (Code.snd (Code.snd (Code.snd (bodyOf Try.f47))))) (rC Try.f47) [] (rC Try.f47) R H = s47_j0 G N (R 0) (R 3) H := by
 refine via_trans (via_leaf _) fun R H => ?_
 delta s47_j0
 kernel_rfl
def s47_b1 (G : CallT) (N : Nat) (L1 : AV → AV → AHeap → O) (x0 x3 : AV) (H : AHeap) : O :=
 xcall H (G 38 [x0] H) fun x7 h1 =>
 xg x7 true h1 (qv x0) fun x9 h2 =>
 xg x7 true h2 (fun q => xeff h2 (G 64 [x9, (.str [125])] h2) q) fun x10 h3 =>
 xg x7 true h3 (qp (aun .not x10)) fun x11 h4 =>
 xb (pickOf x7 (some x11) (some (.bool false))) fun x12 =>
 xif (some x12) (xcall h4 (G 72 [x0] h4) fun x15 h5 =>
 xmake h5 (sliceOf P (h5).next 50 1 [(0, x15)]) fun x16 h6 =>
 xcall h6 (aappend P h6 [50, 50] x3 x16) fun x17 h7 =>
 L1 x0 x17 h7) (s47_j0 G N x0 x3 h4)
def s47_l1 (G : CallT) (N : Nat) : Nat → AV → AV → AHeap → O
 | 0, _, _, _ => none
 | n + 1, x0, x3, H => s47_b1 G N (s47_l1 G N n) x0 x3 H
theorem s47_b1_eq (G : CallT) (N : Nat) (L1 : AV → AV → AHeap → O) : ∀ R H, codeC P G N (Code.fst (Code.fst (Code.fst (Code.snd (Code.snd (Code.snd (bodyOf Try.f47))))))) (fun R H => L1 (R 0) (R 3) H) [(0, (fun R H => s47_j0 G N (R 0) (R 3) H))] (rC Try.f47) R H = s47_b1 G N L1 (R 0) (R 3) H := by
 refine via_trans (via_leaf _) fun R H => ?_
 delta s47_b1
 generalize s47_j0 G N = J0
 revert J0
 refine id ?_
 intro J0
 kernel_rfl
def s47 (G : CallT) (N : Nat) (x0 : AV) (H : AHeap) : O :=
 xcall H (G 74 [x0, (.str [123])] H) fun x5 h1 =>
 s47_l1 G N N x0 AV.nilSl h1
theorem s47_eq (G : CallT) (N : Nat) (x0 : AV) (H : AHeap) : cF Try.f47 G N (argsF [x0]) H = s47 G N x0 H := by
 refine via_top (A := cF Try.f47 G N) ((via_seq (by kernel_rfl) ((via_seq (by kernel_rfl) ((via_seq (by kernel_rfl) ((via_seq (by kernel_rfl) (s47_j0_eq G N) ((via_block (by kernel_rfl) ((via_loop (k := fun m R H => s47_l1 G N m (R 0) (R 3) H) (by kernel_rfl) (fun R H => by kernel_rfl) (fun m => s47_b1_eq G N (s47_l1 G N m)))))))) (via_leaf _))) (via_leaf _))) (via_leaf _))) ?_
 delta s47
 generalize s47_l1 G N N = J0
 revert J0
 refine id ?_
 intro J0
 kernel_rfl
theorem run47 (N : Nat) {x0 : AV} {H : AHeap} {r : AV × AHeap} (h : s47 (evw P) N x0 H = some r) : evw P 47 [x0] H = some r :=
 runF Try.func47 (by kernel_rfl) (by kernel_rfl) (by kernel_rfl) ((s47_eq (evw P) N x0 H).trans h)
def s72_j0 (G : CallT) (x2 x4 : AV) (H : AHeap) : O :=
 xb (aload P H 54 x4) fun x131 =>
 xstore H (astore P H 54 x2 x131) fun h1 =>
 xb (aload P h1 54 x2) fun r =>
 some (r, h1)
theorem s72_j0_eq (G : CallT) (N : Nat) : ∀ R H, codeC P G N (Code.snd (Code.snd (Code.snd (Code.snd (bodyOf Try.f72))))) (rC Try.f72) [] (rC Try.f72) R H = s72_j0 G (R 2) (R 4) H := by
 refine via_trans (via_leaf _) fun R H => ?_
 delta s72_j0
 kernel_rfl
def s72_j2 (G : CallT) (x0 x2 x4 : AV) (H : AHeap) : O :=
 xcall H (G 68 [x0, (.str [59])] H) fun x45 h1 =>
 s72_j0 G x2 x4 h1
theorem s72_j2_eq (G : CallT) (N : Nat) : ∀ R H, codeC P G N (Code.snd (Code.snd (Code.snd (Code.snd (Code.snd (Code.snd (Code.fst (Code.snd (Code.fst (Code.fst (Code.snd (Code.snd (Code.snd (bodyOf Try.f72)))))))))))))) (fun R H => s72_j0 G (R 2) (R 4) H) [(0, (fun R H => s72_j0 G (R 2) (R 4) H))] (rC Try.f72) R H = s72_j2 G (R 0) (R 2) (R 4) H := by
 refine via_trans (via_leaf _) fun R H => ?_
 delta s72_j2
 generalize s72_j0 G = J0
 revert J0
 refine id ?_
 intro J0
 kernel_rfl
def s72_j3 (G : CallT) (x0 x2 x4 : AV) (H : AHeap) : O :=
 xcall H (G 68 [x0, (.str [59])] H) fun x113 h1 =>
 s72_j0 G x2 x4 h1
theorem s72_j3_eq (G : CallT) (N : Nat) : ∀ R H, codeC P G N (Code.snd (Code.snd (Code.snd (Code.fst (Code.snd (Code.snd (Code.snd (Code.snd (Code.snd (Code.snd (Code.snd (Code.fst (Code.fst (Code.snd (Code.snd (Code.snd (bodyOf Try.f72))))))))))))))))) (fun R H => s72_j0 G (R 2) (R 4) H) [(0, (fun R H => s72_j0 G (R 2) (R 4) H))] (rC Try.f72) R H = s72_j3 G (R 0) (R 2) (R 4) H := by
 refine via_trans (via_leaf _) fun R H => ?_
 delta s72_j3
 generalize s72_j0 G = J0
 revert J0
 refine id ?_
 intro J0
 kernel_rfl
def s72_j1 (G : CallT) (x0 x2 : AV) (x3 x4 x13 : AV) (H : AHeap) : O :=
 xif (some x13) (xb (anil x0) fun x19 =>
 xb (afieldAddr P 75 x19 1) fun x20 =>
 xb (aload P H 3 x20) fun x21 =>
 xb (fbin P .add 3 true x21 (.int .i64 1)) fun x22 =>
 xb (anil x0) fun x23 =>
 xb (afieldAddr P 75 x23 1) fun x24 =>
 xstore H (astore P H 3 x24 x22) fun h1 =>
 xb (afieldAddr P 54 x4 0) fun x25 =>
 xstore h1 (astore P h1 3 x25 (.int .i64 1)) fun h2 =>
 xcall h2 (G 67 [x0] h2) fun x27 h3 =>
 xb (afieldAddr P 54 x4 1) fun x28 =>
 xstore h3 (astore P h3 9 x28 x27) fun h4 =>
 xcall h4 (G 68 [x0, (.str [58])] h4) fun x30 h5 =>
 xcall h5 (G 37 [x0] h5) fun x32 h6 =>
 xb (afieldAddr P 54 x4 2) fun x33 =>
 xstore h6 (astore P h6 32 x33 x32) fun h7 =>
 xb (afieldAddr P 65 x3 1) fun x34 =>
 xb (aload P h7 9 x34) fun x35 =>
 xb (fbin P .eql 9 true x35 (.str [108, 101, 116])) fun x36 =>
 xif (some x36) (xb (afieldAddr P 54 x4 0) fun x37 =>
 xstore h7 (astore P h7 3 x37 (.int .i64 2)) fun h8 =>
 xcall h8 (G 68 [x0, (.str [61])] h8) fun x39 h9 =>
 xcall h9 (G 39 [x0, (.int .i64 0)] h9) fun x41 h10 =>
 xmake h10 (sliceOf P (h10).next 35 1 [(0, x41)]) fun x42 h11 =>
 xb (afieldAddr P 54 x4 3) fun x43 =>
 xstore h11 (astore P h11 35 x43 x42) fun h12 =>
 s72_j2 G x0 x2 x4 h12) (s72_j2 G x0 x2 x4 h7)) (xcall H (G 64 [x0, (.str [105, 102])] H) fun x48 h1 =>
 xif (some x48) (xb (anil x0) fun x50 =>
 xb (afieldAddr P 75 x50 1) fun x51 =>
 xb (aload P h1 3 x51) fun x52 =>
 xb (fbin P .add 3 true x52 (.int .i64 1)) fun x53 =>
 xb (anil x0) fun x54 =>
 xb (afieldAddr P 75 x54 1) fun x55 =>
 xstore h1 (astore P h1 3 x55 x53) fun h2 =>
 xb (afieldAddr P 54 x4 0) fun x56 =>
 xstore h2 (astore P h2 3 x56 (.int .i64 5)) fun h3 =>
 xcall h3 (G 39 [x0, (.int .i64 0)] h3) fun x58 h4 =>
 xmake h4 (sliceOf P (h4).next 35 1 [(0, x58)]) fun x59 h5 =>
 xb (afieldAddr P 54 x4 3) fun x60 =>
 xstore h5 (astore P h5 35 x60 x59) fun h6 =>
 xcall h6 (G 47 [x0] h6) fun x62 h7 =>
 xb (afieldAddr P 54 x4 4) fun x63 =>
 xstore h7 (astore P h7 50 x63 x62) fun h8 =>
 xcall h8 (G 64 [x0, (.str [101, 108, 115, 101])] h8) fun x65 h9 =>
 xif (some x65) (xb (anil x0) fun x67 =>
 xb (afieldAddr P 75 x67 1) fun x68 =>
 xb (aload P h9 3 x68) fun x69 =>
 xb (fbin P .add 3 true x69 (.int .i64 1)) fun x70 =>
 xb (anil x0) fun x71 =>
 xb (afieldAddr P 75 x71 1) fun x72 =>
 xstore h9 (astore P h9 3 x72 x70) fun h10 =>
 xcall h10 (G 47 [x0] h10) fun x74 h11 =>
 xb (afieldAddr P 54 x4 5) fun x75 =>
 xstore h11 (astore P h11 50 x75 x74) fun h12 =>
 s72_j0 G x2 x4 h12) (s72_j0 G x2 x4 h9)) (xcall h1 (G 64 [x0, (.str [119, 104, 105, 108, 101])] h1) fun x78 h2 =>
 xif (some x78) (xb (anil x0) fun x80 =>
 xb (afieldAddr P 75 x80 1) fun x81 =>
 xb (aload P h2 3 x81) fun x82 =>
 xb (fbin P .add 3 true x82 (.int .i64 1)) fun x83 =>
 xb (anil x0) fun x84 =>
 xb (afieldAddr P 75 x84 1) fun x85 =>
 xstore h2 (astore P h2 3 x85 x83) fun h3 =>
 xb (afieldAddr P 54 x4 0) fun x86 =>
 xstore h3 (astore P h3 3 x86 (.int .i64 6)) fun h4 =>
 xcall h4 (G 39 [x0, (.int .i64 0)] h4) fun x88 h5 =>
 xmake h5 (sliceOf P (h5).next 35 1 [(0, x88)]) fun x89 h6 =>
 xb (afieldAddr P 54 x4 3) fun x90 =>
 xstore h6 (astore P h6 35 x90 x89) fun h7 =>
 xcall h7 (G 47 [x0] h7) fun x92 h8 =>
 xb (afieldAddr P 54 x4 4) fun x93 =>
 xstore h8 (astore P h8 50 x93 x92) fun h9 =>
 s72_j0 G x2 x4 h9) (xcall h2 (G 64 [x0, (.str [114, 101, 116, 117, 114, 110])] h2) fun x96 h3 =>
 xif (some x96) (xb (anil x0) fun x98 =>
 xb (afieldAddr P 75 x98 1) fun x99 =>
 xb (aload P h3 3 x99) fun x100 =>
 xb (fbin P .add 3 true x100 (.int .i64 1)) fun x101 =>
 xb (anil x0) fun x102 =>
 xb (afieldAddr P 75 x102 1) fun x103 =>
 xstore h3 (astore P h3 3 x103 x101) fun h4 =>
 xb (afieldAddr P 54 x4 0) fun x104 =>
 xstore h4 (astore P h4 3 x104 (.int .i64 7)) fun h5 =>
 xcall h5 (G 64 [x0, (.str [59])] h5) fun x106 h6 =>
 xb (aun .not x106) fun x107 =>
 xif (some x107) (xcall h6 (G 39 [x0, (.int .i64 0)] h6) fun x109 h7 =>
 xmake h7 (sliceOf P (h7).next 35 1 [(0, x109)]) fun x110 h8 =>
 xb (afieldAddr P 54 x4 3) fun x111 =>
 xstore h8 (astore P h8 35 x111 x110) fun h9 =>
 s72_j3 G x0 x2 x4 h9) (s72_j3 G x0 x2 x4 h6)) (xcall h3 (G 64 [x0, (.str [112, 114, 105, 110, 116])] h3) fun x116 h4 =>
 xif (some x116) (xb (anil x0) fun x118 =>
 xb (afieldAddr P 75 x118 1) fun x119 =>
 xb (aload P h4 3 x119) fun x120 =>
 xb (fbin P .add 3 true x120 (.int .i64 1)) fun x121 =>
 xb (anil x0) fun x122 =>
 xb (afieldAddr P 75 x122 1) fun x123 =>
 xstore h4 (astore P h4 3 x123 x121) fun h5 =>
 xb (afieldAddr P 54 x4 0) fun x124 =>
 xstore h5 (astore P h5 3 x124 (.int .i64 8)) fun h6 =>
 xcall h6 (G 39 [x0, (.int .i64 0)] h6) fun x126 h7 =>
 xmake h7 (sliceOf P (h7).next 35 1 [(0, x126)]) fun x127 h8 =>
 xb (afieldAddr P 54 x4 3) fun x128 =>
 xstore h8 (astore P h8 35 x128 x127) fun h9 =>
 xcall h9 (G 68 [x0, (.str [59])] h9) fun x130 h10 =>
 s72_j0 G x2 x4 h10) (xb (aload P h4 54 x4) fun x11 =>
 xcall h4 (G 85 [x0, x11] h4) fun x12 h5 =>
 xstore h5 (astore P h5 54 x2 x12) fun h6 =>
 xb (aload P h6 54 x2) fun r =>
 some (r, h6))))))
theorem s72_j1_eq (G : CallT) (N : Nat) : ∀ R H, codeC P G N (Code.snd (Code.fst (Code.fst (Code.snd (Code.snd (Code.snd (bodyOf Try.f72))))))) (fun R H => s72_j0 G (R 2) (R 4) H) [(0, (fun R H => s72_j0 G (R 2) (R 4) H))] (rC Try.f72) R H = s72_j1 G (R 0) (R 2) (R 3) (R 4) (R 13) H := by
 refine via_trans ((via_cond (by kernel_rfl) ((via_seq (by kernel_rfl) ((via_seq (by kernel_rfl) ((via_seq (by kernel_rfl) ((via_seq (by kernel_rfl) ((via_seq (by kernel_rfl) ((via_seq (by kernel_rfl) (s72_j2_eq G N) (via_leaf _))) (via_leaf _))) (via_leaf _))) (via_leaf _))) (via_leaf _))) (via_leaf _))) ((via_seq (by kernel_rfl) ((via_cond (by kernel_rfl) (via_leaf _) ((via_seq (by kernel_rfl) ((via_cond (by kernel_rfl) (via_leaf _) ((via_seq (by kernel_rfl) ((via_cond (by kernel_rfl) ((via_seq (by kernel_rfl) ((via_seq (by kernel_rfl) ((via_seq (by kernel_rfl) (s72_j3_eq G N) (via_leaf _))) (via_leaf _))) (via_leaf _))) (via_leaf _))) (via_leaf _))))) (via_leaf _))))) (via_leaf _))))) fun R H => ?_
 delta s72_j1
 generalize s72_j3 G = J0
 generalize s72_j0 G = J1
 generalize s72_j2 G = J2
 revert J0 J1 J2
 refine id ?_
 intro J0 J1 J2
 kernel_rfl
def s72 (G : CallT) (x0 : AV) (H : AHeap) : O :=
 xalloc H [(.int .i64 0), (.str []), (.str []), (.int .i64 0), AV.nilSl, AV.nilSl, AV.nilSl, (.int .i64 0), (.int .i64 0)] fun x2 h1 =>
 xcall h1 (G 66 [x0] h1) fun x6 h2 =>
 xalloc h2 [(.int .i64 0), (.str []), (.int .i64 0), (.int .i64 0)] fun x3 h3 =>
 xstore h3 (astore P h3 65 x3 x6) fun h4 =>
 xb (afieldAddr P 65 x3 3) fun x7 =>
 xb (aload P h4 3 x7) fun x8 =>
 xb (abuild P 54 [(6, x8)]) fun x9 =>
 xalloc h4 [(.int .i64 0), (.str []), (.str []), (.int .i64 0), AV.nilSl, AV.nilSl, AV.nilSl, (.int .i64 0), (.int .i64 0)] fun x4 h5 =>
 xstore h5 (astore P h5 54 x4 x9) fun h6 =>
 xcall h6 (G 64 [x0, (.str [118, 97, 114])] h6) fun x15 h7 =>
 xif (some x15) (s72_j1 G x0 x2 x3 x4 x15 h7) (xcall h7 (G 64 [x0, (.str [108, 101, 116])] h7) fun x17 h8 =>
 s72_j1 G x0 x2 x3 x4 x17 h8)
theorem s72_eq (G : CallT) (N : Nat) (x0 : AV) (H : AHeap) : cF Try.f72 G N (argsF [x0]) H = s72 G x0 H := by
 refine via_top (A := cF Try.f72 G N) ((via_seq (by kernel_rfl) ((via_seq (by kernel_rfl) ((via_seq (by kernel_rfl) ((via_seq (by kernel_rfl) (s72_j0_eq G N) ((via_block (by kernel_rfl) ((via_seq (by kernel_rfl) (s72_j1_eq G N) (via_leaf _))))))) (via_leaf _))) (via_leaf _))) (via_leaf _))) ?_
 delta s72
 generalize s72_j1 G = J0
 revert J0
 refine id ?_
 intro J0
 kernel_rfl
theorem run72 (N : Nat) {x0 : AV} {H : AHeap} {r : AV × AHeap} (h : s72 (evw P) x0 H = some r) : evw P 72 [x0] H = some r :=
 runF Try.func72 (by kernel_rfl) (by kernel_rfl) (by kernel_rfl) ((s72_eq (evw P) N x0 H).trans h)
def s85_j1 (G : CallT) (x0 x3 : AV) (x4 x5 : AV) (H : AHeap) : O :=
 xcall H (G 68 [x0, (.str [61])] H) fun x44 h1 =>
 xcall h1 (G 39 [x0, (.int .i64 0)] h1) fun x46 h2 =>
 xalloc h2 [(.int .i64 0), (.int .i64 0), (.str []), (.str []), (.int .i64 0), AV.nilSl, (.int .i64 0), (.int .i64 0), (.int .i64 0), (.int .i64 0), (.int .i64 0)] fun x6 h3 =>
 xstore h3 (astore P h3 39 x6 x46) fun h4 =>
 xcall h4 (G 68 [x0, (.str [59])] h4) fun x48 h5 =>
 xb (afieldAddr P 39 x5 0) fun x49 =>
 xb (aload P h5 3 x49) fun x50 =>
 xb (fbin P .eql 3 true x50 (.int .i64 4)) fun x51 =>
 xif (some x51) (xb (afieldAddr P 54 x3 0) fun x52 =>
 xstore h5 (astore P h5 3 x52 (.int .i64 3)) fun h6 =>
 xb (afieldAddr P 39 x5 2) fun x53 =>
 xb (aload P h6 9 x53) fun x54 =>
 xb (afieldAddr P 54 x3 1) fun x55 =>
 xstore h6 (astore P h6 9 x55 x54) fun h7 =>
 xb (aload P h7 39 x6) fun x56 =>
 xmake h7 (sliceOf P (h7).next 35 1 [(0, x56)]) fun x57 h8 =>
 xb (afieldAddr P 54 x3 3) fun x58 =>
 xstore h8 (astore P h8 35 x58 x57) fun h9 =>
 xb (aload P h9 54 x3) fun x59 =>
 xstore h9 (astore P h9 54 x4 x59) fun h10 =>
 xb (aload P h10 54 x4) fun r =>
 some (r, h10)) (xb (afieldAddr P 54 x3 0) fun x60 =>
 xstore h5 (astore P h5 3 x60 (.int .i64 4)) fun h6 =>
 xb (aload P h6 39 x5) fun x61 =>
 xb (aload P h6 39 x6) fun x62 =>
 xmake h6 (sliceOf P (h6).next 35 2 [(0, x61), (1, x62)]) fun x63 h7 =>
 xb (afieldAddr P 54 x3 3) fun x64 =>
 xstore h7 (astore P h7 35 x64 x63) fun h8 =>
 xb (aload P h8 54 x3) fun x65 =>
 xstore h8 (astore P h8 54 x4 x65) fun h9 =>
 xb (aload P h9 54 x4) fun r =>
 some (r, h9))
theorem s85_j1_eq (G : CallT) (N : Nat) : ∀ R H, codeC P G N (Code.snd (Code.snd (Code.snd (Code.snd (bodyOf Try.f85))))) (rC Try.f85) [] (rC Try.f85) R H = s85_j1 G (R 0) (R 3) (R 4) (R 5) H := by
 refine via_trans (via_leaf _) fun R H => ?_
 delta s85_j1
 kernel_rfl
def s85_j0 (G : CallT) (x0 x3 : AV) (x4 x5 : AV) (H : AHeap) : O :=
 xb (afieldAddr P 39 x5 0) fun x28 =>
 xb (aload P H 3 x28) fun x29 =>
 xb (fbin P .neq 3 true x29 (.int .i64 4)) fun x30 =>
 xg x30 true H (qp (afieldAddr P 39 x5 0)) fun x32 h1 =>
 xg x30 true h1 (qr (aload P h1 3 x32)) fun x33 h2 =>
 xg x30 true h2 (qp (fbin P .neq 3 true x33 (.int .i64 5))) fun x34 h3 =>
 xb (pickOf x30 (some x34) (some (.bool false))) fun x35 =>
 xg x35 true h3 (qp (afieldAddr P 39 x5 0)) fun x37 h4 =>
 xg x35 true h4 (qr (aload P h4 3 x37)) fun x38 h5 =>
 xg x35 true h5 (qp (fbin P .neq 3 true x38 (.int .i64 6))) fun x39 h6 =>
 xb (pickOf x35 (some x39) (some (.bool false))) fun x40 =>
 xif (some x40) (xcall h6 (G 65 [x0, (.int .i64 2)] h6) fun x42 h7 =>
 s85_j1 G x0 x3 x4 x5 h7) (s85_j1 G x0 x3 x4 x5 h6)
theorem s85_j0_eq (G : CallT) (N : Nat) : ∀ R H, codeC P G N (Code.snd (Code.snd (Code.snd (bodyOf Try.f85)))) (rC Try.f85) [] (rC Try.f85) R H = s85_j0 G (R 0) (R 3) (R 4) (R 5) H := by
 refine via_trans ((via_seq (by kernel_rfl) (s85_j1_eq G N) (via_leaf _))) fun R H => ?_
 delta s85_j0
 generalize s85_j1 G = J0
 revert J0
 refine id ?_
 intro J0
 kernel_rfl
def s85_j2 (G : CallT) (x0 x3 x4 : AV) (H : AHeap) : O :=
 xcall H (G 68 [x0, (.str [59])] H) fun x26 h1 =>
 xb (aload P h1 54 x3) fun x27 =>
 xstore h1 (astore P h1 54 x4 x27) fun h2 =>
 xb (aload P h2 54 x4) fun r =>
 some (r, h2)
theorem s85_j2_eq (G : CallT) (N : Nat) : ∀ R H, codeC P G N (Code.snd (Code.snd (Code.snd (Code.fst (Code.snd (Code.fst (Code.snd (Code.snd (bodyOf Try.f85))))))))) (fun R H => s85_j0 G (R 0) (R 3) (R 4) (R 5) H) [] (rC Try.f85) R H = s85_j2 G (R 0) (R 3) (R 4) H := by
 refine via_trans (via_leaf _) fun R H => ?_
 delta s85_j2
 kernel_rfl
def s85 (G : CallT) (x0 x1 : AV) (H : AHeap) : O :=
 xmake H (boxOf (H).next x1) fun x3 h1 =>
 xalloc h1 [(.int .i64 0), (.str []), (.str []), (.int .i64 0), AV.nilSl, AV.nilSl, AV.nilSl, (.int .i64 0), (.int .i64 0)] fun x4 h2 =>
 xcall h2 (G 39 [x0, (.int .i64 0)] h2) fun x8 h3 =>
 xalloc h3 [(.int .i64 0), (.int .i64 0), (.str []), (.str []), (.int .i64 0), AV.nilSl, (.int .i64 0), (.int .i64 0), (.int .i64 0), (.int .i64 0), (.int .i64 0)] fun x5 h4 =>
 xstore h4 (astore P h4 39 x5 x8) fun h5 =>
 xcall h5 (G 64 [x0, (.str [61])] h5) fun x10 h6 =>
 xb (aun .not x10) fun x11 =>
 xif (some x11) (xb (afieldAddr P 54 x3 0) fun x12 =>
 xstore h6 (astore P h6 3 x12 (.int .i64 9)) fun h7 =>
 xb (aload P h7 39 x5) fun x13 =>
 xmake h7 (sliceOf P (h7).next 35 1 [(0, x13)]) fun x14 h8 =>
 xb (afieldAddr P 54 x3 3) fun x15 =>
 xstore h8 (astore P h8 35 x15 x14) fun h9 =>
 xcall h9 (G 64 [x0, (.str [59])] h9) fun x17 h10 =>
 xg x17 true h10 (qp (afieldAddr P 39 x5 0)) fun x19 h11 =>
 xg x17 true h11 (qr (aload P h11 3 x19)) fun x20 h12 =>
 xg x17 true h12 (qp (fbin P .neq 3 true x20 (.int .i64 7))) fun x21 h13 =>
 xb (pickOf x17 (some x21) (some (.bool false))) fun x22 =>
 xif (some x22) (xcall h13 (G 65 [x0, (.int .i64 2)] h13) fun x24 h14 =>
 s85_j2 G x0 x3 x4 h14) (s85_j2 G x0 x3 x4 h13)) (s85_j0 G x0 x3 x4 x5 h6)
theorem s85_eq (G : CallT) (N : Nat) (x0 : AV) (x1 : AV) (H : AHeap) : cF Try.f85 G N (argsF [x0, x1]) H = s85 G x0 x1 H := by
 refine via_top (A := cF Try.f85 G N) ((via_seq (by kernel_rfl) ((via_seq (by kernel_rfl) ((via_seq (by kernel_rfl) (s85_j0_eq G N) ((via_seq (by kernel_rfl) ((via_cond (by kernel_rfl) ((via_seq (by kernel_rfl) ((via_seq (by kernel_rfl) ((via_seq (by kernel_rfl) (s85_j2_eq G N) (via_leaf _))) (via_leaf _))) (via_leaf _))) (via_leaf _))) (via_leaf _))))) (via_leaf _))) (via_leaf _))) ?_
 delta s85
 generalize s85_j0 G = J0
 generalize s85_j2 G = J1
 revert J0 J1
 refine id ?_
 intro J0 J1
 kernel_rfl
theorem run85 (N : Nat) {x0 x1 : AV} {H : AHeap} {r : AV × AHeap} (h : s85 (evw P) x0 x1 H = some r) : evw P 85 [x0, x1] H = some r :=
 runF Try.func85 (by kernel_rfl) (by kernel_rfl) (by kernel_rfl) ((s85_eq (evw P) N x0 x1 H).trans h)
def s44 (G : CallT) (x0 x1 x2 : AV) (H : AHeap) : O :=
 xalloc H [(.int .i64 0), (.str []), (.str []), (.int .i64 0), AV.nilSl, AV.nilSl, AV.nilSl, (.int .i64 0), (.int .i64 0)] fun x6 h1 =>
 xalloc h1 [(.int .i64 0), (.int .i64 0)] fun x8 h2 =>
 xlen P .max [3, 3] [x2, (.int .i64 0)] h2 fun x14 =>
 xb (abuild P 75 [(0, x0), (1, x1), (2, x14)]) fun x15 =>
 xmake h2 (boxOf (h2).next x15) fun x16 h3 =>
 xcall h3 (G 72 [x16] h3) fun x18 h4 =>
 xalloc h4 [(.int .i64 0), (.str []), (.str []), (.int .i64 0), AV.nilSl, AV.nilSl, AV.nilSl, (.int .i64 0), (.int .i64 0)] fun x10 h5 =>
 xstore h5 (astore P h5 54 x10 x18) fun h6 =>
 xcall h6 (G 38 [x16] h6) fun x20 h7 =>
 xb (aun .not x20) fun x21 =>
 xif (some x21) (xstore h7 (astore P h7 54 x6 (.agg [(.int .i64 0), (.str []), (.str []), (.int .i64 0), AV.nilSl, AV.nilSl, AV.nilSl, (.int .i64 0), (.int .i64 0)])) fun h8 =>
 xb (anil x16) fun x24 =>
 xb (afieldAddr P 75 x24 3) fun x25 =>
 xb (aload P h8 25 x25) fun x26 =>
 xstore h8 (astore P h8 25 x8 x26) fun h9 =>
 bif ((rdIs (aload P h7 25 x25) x26 && (rdIs (aload P h8 25 x25) x26 && true)) && true) then (xb (aload P h9 54 x6) fun r =>
 xb (aload P h9 25 x8) fun r_1 =>
 some (.tuple [r, (.int .i64 0), r_1], h9)) else none) (xb (aload P h7 54 x10) fun x27 =>
 xstore h7 (astore P h7 54 x6 x27) fun h8 =>
 xb (anil x16) fun x29 =>
 xb (afieldAddr P 75 x29 1) fun x30 =>
 xb (aload P h8 3 x30) fun x31 =>
 xstore h8 (astore P h8 25 x8 (.agg [(.int .i64 0), (.int .i64 0)])) fun h9 =>
 bif ((rdIs (aload P h7 3 x30) x31 && (rdIs (aload P h8 3 x30) x31 && true)) && true) then (xb (aload P h9 54 x6) fun r =>
 xb (aload P h9 25 x8) fun r_1 =>
 some (.tuple [r, x31, r_1], h9)) else none)
theorem s44_eq (G : CallT) (N : Nat) (x0 : AV) (x1 : AV) (x2 : AV) (H : AHeap) : cF Try.f44 G N (argsF [x0, x1, x2]) H = s44 G x0 x1 x2 H := by
 refine via_top (A := cF Try.f44 G N) (via_leaf _) ?_
 delta s44
 kernel_rfl
theorem run44 (N : Nat) {x0 x1 x2 : AV} {H : AHeap} {r : AV × AHeap} (h : s44 (evw P) x0 x1 x2 H = some r) : evw P 44 [x0, x1, x2] H = some r :=
 runF Try.func44 (by kernel_rfl) (by kernel_rfl) (by kernel_rfl) ((s44_eq (evw P) N x0 x1 x2 H).trans h)
def s27 (G : CallT) (x0 x1 x2 : AV) (H : AHeap) : O :=
 xalloc H [(.int .i64 0), (.int .i64 0)] fun x8 h1 =>
 xlen P .max [3, 3] [x2, (.int .i64 0)] h1 fun x14 =>
 xb (abuild P 75 [(0, x0), (1, x1), (2, x14)]) fun x15 =>
 xmake h1 (boxOf (h1).next x15) fun x16 h2 =>
 xcall h2 (G 47 [x16] h2) fun x18 h3 =>
 xcall h3 (G 38 [x16] h3) fun x20 h4 =>
 xb (aun .not x20) fun x21 =>
 xif (some x21) (xb (anil x16) fun x23 =>
 xb (afieldAddr P 75 x23 3) fun x24 =>
 xb (aload P h4 25 x24) fun x25 =>
 xstore h4 (astore P h4 25 x8 x25) fun h5 =>
 xb (aload P h5 25 x8) fun r =>
 some (.tuple [AV.nilSl, (.int .i64 0), r], h5)) (xb (anil x16) fun x28 =>
 xb (afieldAddr P 75 x28 1) fun x29 =>
 xb (aload P h4 3 x29) fun x30 =>
 xstore h4 (astore P h4 25 x8 (.agg [(.int .i64 0), (.int .i64 0)])) fun h5 =>
 xb (aload P h5 25 x8) fun r =>
 some (.tuple [x18, x30, r], h5))
theorem s27_eq (G : CallT) (N : Nat) (x0 : AV) (x1 : AV) (x2 : AV) (H : AHeap) : cF Try.f27 G N (argsF [x0, x1, x2]) H = s27 G x0 x1 x2 H := by
 refine via_top (A := cF Try.f27 G N) (via_leaf _) ?_
 delta s27
 kernel_rfl
theorem run27 (N : Nat) {x0 x1 x2 : AV} {H : AHeap} {r : AV × AHeap} (h : s27 (evw P) x0 x1 x2 H = some r) : evw P 27 [x0, x1, x2] H = some r :=
 runF Try.func27 (by kernel_rfl) (by kernel_rfl) (by kernel_rfl) ((s27_eq (evw P) N x0 x1 x2 H).trans h)
end
end Go.Proofs.Ytnjoomfeddamcaa
namespace Go.Proofs.Ytnjoomfeddamcaa
open Go.Ev
theorem rexpr_spec {H : AHeap} {r : Nat} {T : List Tok} {tv : AV} {s : St} (hT : T.length ≤ 20000000) (hx : Ry H r T tv s) : W (evw P 39 [.ptr r 0 0, .int .i64 0] H) (QostE H r T tv (exprQ T s).1 (exprQ T s).2) := by
 obtain ⟨p, q, -, h2, -, -⟩ := rows_both (T := T) (by omega) T.length s (left_le _ _) 0 800000000 800000000 (by omega) (by omega) (by omega)
 have : exprQ T s = q := by simp only [exprQ, h2]
 rw [this]
 exact (all_okR 800000000 (by omega) 800000000 (Nat.le_refl _)).expr hx 0 (by omega) q.1 q.2 h2
theorem rplain_fin {H0 H : AHeap} {r : Nat} {T : List Tok} {tv : AV} {s0 s : St} (hx0 : Ry H0 r T tv s0) (mb : Mt r H0 H) (hrd : Rd5 H r tv s) {a : Sa} {es : List Ex} {ev : AV} (hk : KsV H (Ge (H0.next + 2)) es ev) (g3 : H.get H0.next = some (.row false 9 [a.cells ev .nilSl .nilSl])) (g4 : H.get (H0.next + 1) = some (.row false 9 [[.int .i64 0, .str [], .str [], .int .i64 0, .nilSl, .nilSl, .nilSl, .int .i64 0, .int .i64 0]])) :
  W (s85_j2 (evw P) (.ptr r 0 0) (.ptr H0.next 0 0) (.ptr (H0.next + 1) 0 0) H) (QostS H0 r T tv (.mk a es [] []) (takeR T [59] s)) := by
 have hl := hx0.rd.lt
 have lg := AHeap.get_lt g4
 have ho := hk.oneAV
 rw [s85_j2]
 refine W_call (take_spec (hx0.mut mb hrd) [59] (by simp)) ?_
 rintro _ H1 ⟨rfl, m1, hx1⟩
 refine ⟨m1.1, ?_⟩
 have h3 := m1.get g3 (by omega)
 have h4 := m1.get g4 (by omega)
 have l4 := AHeap.get_lt h4
 simp only [Sa.cells] at h3
 simp -implicitDefEqProofs (disch := first | assumption | omega | (simp only [nxB]; omega) | (simp only [oneB])) only [s85, xlen, AV.cells, splice, aload, astore, Nat.reduceAdd, Nat.reduceLeDiff, reduceIte, allB, tyC, h3, h4, ho]
 exact W_some.2 (QostS.fin (a := a) hx0 (mb.trans m1) hx1.rd (hk.keep (Keep.mut m1 (by unfold Ge; omega) fun _ h => h)) (SsV.nil _ _) (SsV.nil _ _) (by omega) (lo := H0.next + 2) (by omega) _)
theorem QostS.two {H H4 Hf : AHeap} {r : Nat} {T : List Tok} {tv : AV} {s s' : St} {a : Sa} {es : List Ex} {ev : AV} (hx : Ry H r T tv s) (mf : Mt r H H4) (hd : Rd5 H4 r tv s') (hn : H4.next ≤ Hf.next) (hf : ∀ l, l < H4.next → l ≠ H.next → l ≠ H.next + 1 → Hf.get l = H4.get l)
  (hk : Keep H4 (Ge (H.next + 2)) Hf (Ge H.next) → KsV Hf (Ge H.next) es ev) : QostS H r T tv (.mk a es [] []) s' (.agg (a.cells ev .nilSl .nilSl)) Hf := by
 have hl := hx.rd.lt
 have h4 := mf.1
 have m : Mt r H Hf := ⟨by omega, fun l h1 h2 => by rw [hf l (by omega) (by omega) (by omega)]; exact mf.2 l h1 h2⟩
 refine ⟨m, hx.mut m ?_, StV_mk.2 ⟨ev, .nilSl, .nilSl, rfl, hk fun l ro els h g => ⟨by unfold Ge at *; omega, ?_⟩, SsV.nil _ _, SsV.nil _ _⟩⟩
 ·have := hd.lt
  unfold Rd5 at hd ⊢
  rw [hf r (by omega) (by omega) (by omega)]; exact hd
 ·have := AHeap.get_lt g
  unfold Ge at h
  rw [hf l (by omega) (by omega) (by omega)]; exact g
theorem rsets_end {H0 H : AHeap} {r : Nat} {T : List Tok} {tv : AV} {s0 s : St} (hT : T.length ≤ 20000000) (hx0 : Ry H0 r T tv s0) (mb : Mt r H0 H) (hrd : Rd5 H r tv s) {pos : Int} {a : Ea} {ks : List Ex} {kv : AV} {b : Nat} (he : ExV H (fun l => H0.next + 2 ≤ l ∧ l < b) (.mk a ks) (.agg (a.cells kv))) (hb : H0.next + 2 ≤ b)
  (g3 : H.get H0.next = some (.row false 9 [Sa.cells { kind := 0, pos := pos } .nilSl .nilSl .nilSl])) (g4 : H.get (H0.next + 1) = some (.row false 9 [[.int .i64 0, .str [], .str [], .int .i64 0, .nilSl, .nilSl, .nilSl, .int .i64 0, .int .i64 0]])) (g5 : H.get b = some (.row false 11 [a.cells kv])) :
  W (s85_j1 (evw P) (.ptr r 0 0) (.ptr H0.next 0 0) (.ptr (H0.next + 1) 0 0) (.ptr b 0 0) H) (QostS H0 r T tv (Stm.at pos (bif a.kind == 4 then .mk { kind := 3, name := a.name } [(exprQ T (takeR T [61] s)).1] [] [] else .mk { kind := 4 } [.mk a ks, (exprQ T (takeR T [61] s)).1] [] [])) (takeR T [59] (exprQ T (takeR T [61] s)).2)) := by
 have hl := hx0.rd.lt
 have lg5 := AHeap.get_lt g5
 rw [s85_j1]
 refine W_call (take_spec (hx0.mut mb hrd) [61] (by simp)) ?_
 rintro _ H1 ⟨rfl, m1, hx1⟩
 refine ⟨m1.1, ?_⟩
 have n1 := m1.1
 generalize takeR T [61] s = s1 at hx1 ⊢
 simp -implicitDefEqProofs (disch := first | assumption | omega | (simp only [nxB]; omega) | (simp only [oneB])) only [s85, xlen, AV.cells, splice, aload, astore, Nat.reduceAdd, Nat.reduceLeDiff, reduceIte, allB, tyC]
 refine W_call (rexpr_spec hT hx1) ?_
 rintro v H2 ⟨m2, hx2, hv⟩
 refine ⟨m2.1, ?_⟩
 have n2 := m2.1
 obtain ⟨cs, rfl, c1, o1⟩ := hv.cells
 generalize exprQ T s1 = e2 at hx2 hv ⊢
 simp -implicitDefEqProofs (disch := first | assumption | omega | (simp only [nxB]; omega) | (simp only [oneB])) only [s85, xlen, AV.cells, splice, aload, astore, Nat.reduceAdd, Nat.reduceLeDiff, reduceIte, allB, tyC, c1, o1, List.append_nil]
 have p3 := Pur.push H2 (.row false 11 [cs])
 refine W_call (take_spec (hx2.pur p3) [59] (by simp)) ?_
 rintro _ H4 ⟨rfl, m4, hx4⟩
 refine ⟨m4.1, ?_⟩
 have n4 := m4.1
 simp only [AHeap.next_push] at n4
 have lr := hx2.rd.lt
 have k3 := m4.get (p3.get (m2.get (m1.get g3 (by omega)) (by omega))) (by omega)
 have k4 := m4.get (p3.get (m2.get (m1.get g4 (by omega)) (by omega))) (by omega)
 have kb := m4.get (p3.get (m2.get (m1.get g5 (by omega)) (by omega))) (by omega)
 have k6 := m4.get (AHeap.get_push_same H2 (.row false 11 [cs])) (by omega)
 have lk3 := AHeap.get_lt k3
 have lk4 := AHeap.get_lt k4
 have m24 := (p3.mut (· = r)).trans m4
 have mf := (((mb.trans m1).trans m2).trans m24)
 have t1 : List.take 11 cs = cs := List.take_of_length_le (by omega)
 have hv4 := hv.mut (ok' := Ge (H0.next + 2)) m24 (by unfold Ge; have := hx1.rd.lt; omega) fun l h => by unfold Ge at *; omega
 have he4 : ExV H4 (Ge (H0.next + 2)) (.mk a ks) (.agg (a.cells kv)) := he.mut ((m1.trans m2).trans m24) (by omega) fun l h => by unfold Ge; omega
 obtain ⟨kv', hkv, hks⟩ := ExV_mk.1 he
 have hkv1 := hks.oneAV
 have hkk : kv' = kv := by
  have := congrArg (fun v => match v with | AV.agg cs => cs[5]? | _ => none) hkv
  simpa [Ea.cells] using this.symm
 rw [hkk] at hkv1
 have oa : (a.cells kv).all AV.one = true := by simp only [Ea.cells, List.all_cons, List.all_nil, one_int, one_str, hkv1, Bool.and_self]
 simp only [Sa.cells] at k3
 cases hk : a.kind == 4 with
 | true =>
  have hs : ∀ l, sliceOf P l 35 1 [(0, .agg cs)] = some (.sl l 0 1 11 (some 1), .row false 11 [cs]) := fun l => sl35_1 l cs c1 o1
  simp only [Ea.cells] at kb
  simp -implicitDefEqProofs (disch := first | assumption | omega | (simp only [nxB]; omega) | (simp only [oneB])) only [s85, xlen, AV.cells, splice, aload, astore, Nat.reduceAdd, Nat.reduceLeDiff, reduceIte, allB, tyC, k3, k4, kb, k6, hk, t1, hs, AHeap.push_set_lt]
  refine W_some.2 (QostS.two (a := { kind := 3, name := a.name, pos := pos }) hx0 mf hx4.rd ?_ ?_ fun k => KsV.one_at (ro := false) ?_ (by unfold Ge; omega) (ExV.keep k _ _ hv4))
  ·simp only [AHeap.next_push, AHeap.next_set]; omega
  ·intro l q1 q2 q3; simp -implicitDefEqProofs (disch := first | assumption | omega | (simp only [nxB]; omega) | (simp only [oneB])) only [heapB]
  ·simp -implicitDefEqProofs (disch := first | assumption | omega | (simp only [nxB]; omega) | (simp only [oneB])) only [heapB]
 | false =>
  have hs : ∀ l, sliceOf P l 35 2 [(0, .agg (a.cells kv)), (1, .agg cs)] = some (.sl l 0 2 11 (some 2), .row false 11 [a.cells kv, cs]) := fun l => sl35_2 l (a.cells kv) cs rfl oa c1 o1
  have kb' := kb
  simp only [Ea.cells] at kb' hs
  simp -implicitDefEqProofs (disch := first | assumption | omega | (simp only [nxB]; omega) | (simp only [oneB])) only [s85, xlen, AV.cells, splice, aload, astore, Nat.reduceAdd, Nat.reduceLeDiff, reduceIte, allB, tyC, k3, k4, kb', k6, hk, t1, hs, AHeap.push_set_lt]
  refine W_some.2 (QostS.two (a := { kind := 4, pos := pos }) hx0 mf hx4.rd ?_ ?_ fun k => KsV.two_at (ro := false) ?_ (by unfold Ge; omega) (ExV.keep k _ _ he4) (ExV.keep k _ _ hv4))
  ·simp only [AHeap.next_push, AHeap.next_set]; omega
  ·intro l q1 q2 q3; simp -implicitDefEqProofs (disch := first | assumption | omega | (simp only [nxB]; omega) | (simp only [oneB])) only [heapB]
  ·simp -implicitDefEqProofs (disch := first | assumption | omega | (simp only [nxB]; omega) | (simp only [oneB])) only [heapB, Ea.cells]
theorem rplain_spec {H : AHeap} {r : Nat} {T : List Tok} {tv : AV} {s : St} (hT : T.length ≤ 20000000) (hx : Ry H r T tv s) (pos : Int) : W (evw P 85 [.ptr r 0 0, .agg (Sa.cells { kind := 0, pos := pos } .nilSl .nilSl .nilSl)] H) (QostS H r T tv ((plainR T s).1.at pos) (plainR T s).2) := by
 refine W_of (fun _ => run85 0) ?_
 have hl := hx.rd.lt
 have hbx : ∀ l, boxOf l (.agg (Sa.cells { kind := 0, pos := pos } .nilSl .nilSl .nilSl)) = some (.ptr l 0 0, .row false 9 [Sa.cells { kind := 0, pos := pos } .nilSl .nilSl .nilSl]) := fun l => boxOf_agg l _ rfl
 have p1 := (Pur.push H (.row false 9 [Sa.cells { kind := 0, pos := pos } .nilSl .nilSl .nilSl])).then_push (.row false 9 [[.int .i64 0, .str [], .str [], .int .i64 0, .nilSl, .nilSl, .nilSl, .int .i64 0, .int .i64 0]])
 simp -implicitDefEqProofs (disch := first | assumption | omega | (simp only [nxB]; omega) | (simp only [oneB])) only [s85, xlen, AV.cells, splice, aload, astore, Nat.reduceAdd, Nat.reduceLeDiff, reduceIte, allB, tyC, hbx]
 refine W_call (rexpr_spec hT (hx.pur p1)) ?_
 rintro v H2 ⟨m2, hx2, he⟩
 refine ⟨m2.1, ?_⟩
 have n2 := m2.1
 simp only [AHeap.next_push] at n2
 unfold plainR
 obtain ⟨cs, rfl, c1, o1⟩ := he.cells
 have t1 : List.take 11 cs = cs := List.take_of_length_le (by omega)
 have g3 : H2.get H.next = some (.row false 9 [Sa.cells { kind := 0, pos := pos } .nilSl .nilSl .nilSl]) := m2.get (by simp -implicitDefEqProofs (disch := first | assumption | omega | (simp only [nxB]; omega) | (simp only [oneB])) only [heapB]) (by omega)
 have g4 := m2.get (AHeap.get_push_same (H.push (.row false 9 [Sa.cells { kind := 0, pos := pos } .nilSl .nilSl .nilSl])) (.row false 9 [[.int .i64 0, .str [], .str [], .int .i64 0, .nilSl, .nilSl, .nilSl, .int .i64 0, .int .i64 0]])) (by simp only [AHeap.next_push]; omega)
 simp only [AHeap.next_push] at g4
 generalize exprQ T s = e2 at hx2 he ⊢
 simp -implicitDefEqProofs (disch := first | assumption | omega | (simp only [nxB]; omega) | (simp only [oneB])) only [s85, xlen, AV.cells, splice, aload, astore, Nat.reduceAdd, Nat.reduceLeDiff, reduceIte, allB, tyC, c1, o1, List.append_nil]
 have p3 := Pur.push H2 (.row false 11 [cs])
 refine W_call (ris_spec (hx2.rd.pur p3) (hx2.tk.pur p3) [61] (by simp)) ?_
 rintro _ H4 ⟨rfl, p4⟩
 refine ⟨p4.1, ?_⟩
 have n4 := p4.1
 simp only [AHeap.next_push] at n4
 have p34 := p3.trans p4
 have k3 := p34.get g3
 have k4 := p34.get g4
 have k5 := p4.get (AHeap.get_push_same H2 (.row false 11 [cs]))
 have lk3 := AHeap.get_lt k3
 have lk5 := AHeap.get_lt k5
 have he4 : ExV H4 (fun l => H.next + 2 ≤ l ∧ l < H2.next) e2.1 (.agg cs) := ExV.keep (Keep.pur p34 fun l h => by simpa only [Ge, AHeap.next_push] using h) _ _ he.below
 have mb := ((p1.mut (· = r)).trans m2).trans (p34.mut _)
 have hx4 := hx2.pur p34
 cases hb : isR T e2.2 [61] with
 | true =>
  simp -implicitDefEqProofs (disch := first | assumption | omega | (simp only [nxB]; omega) | (simp only [oneB])) only [s85, xlen, AV.cells, splice, aload, astore, Nat.reduceAdd, Nat.reduceLeDiff, reduceIte, allB, tyC, Bool.not_true]
  unfold setsR
  have fin : ∀ (H5 : AHeap) (a : Ea) (ks : List Ex) (kv : AV), ExV H5 (fun l => H.next + 2 ≤ l ∧ l < H2.next) (.mk a ks) (.agg (a.cells kv)) → Mt r H H5 → Rd5 H5 r tv (bif exK (.mk a ks) then failS T 2 e2.2 else e2.2) → H5.get H.next = some (.row false 9 [Sa.cells { kind := 0, pos := pos } .nilSl .nilSl .nilSl]) → H5.get (H.next + 1) = some (.row false 9 [[.int .i64 0, .str [], .str [], .int .i64 0, .nilSl, .nilSl, .nilSl, .int .i64 0, .int .i64 0]]) → H5.get H2.next = some (.row false 11 [a.cells kv]) →
    W (s85_j1 (evw P) (.ptr r 0 0) (.ptr H.next 0 0) (.ptr (H.next + 1) 0 0) (.ptr H2.next 0 0) H5) (QostS H r T tv (Stm.at pos (bif (Ex.mk a ks).kind == 4 then .mk { kind := 3, name := (Ex.mk a ks).name } [(exprQ T (eqR T (.mk a ks) e2.2)).1] [] [] else .mk { kind := 4 } [.mk a ks, (exprQ T (eqR T (.mk a ks) e2.2)).1] [] [])) (takeR T [59] (exprQ T (eqR T (.mk a ks) e2.2)).2)) :=
   fun H5 a ks kv h m5 d5 q3 q4 q5 => rsets_end hT hx m5 d5 h (by omega) q3 q4 q5
  rcases he2 : e2.1 with ⟨a, ks⟩
  rw [he2] at he4
  obtain ⟨kv, hcs, -⟩ := ExV_mk.1 he4
  simp only [AV.agg.injEq] at hcs
  subst hcs
  have k5' := k5
  simp only [Ea.cells] at k5'
  simp -implicitDefEqProofs (disch := first | assumption | omega | (simp only [nxB]; omega) | (simp only [oneB])) only [s85_j0, xlen, AV.cells, splice, aload, astore, Nat.reduceAdd, Nat.reduceLeDiff, reduceIte, allB, k5']
  have fin0 := fun (h : exK (.mk a ks) = false) => fin H4 a ks kv he4 mb (by rw [h]; exact hx4.rd) k3 k4 k5
  cases q4 : (a.kind != 4) with
  | false =>
   simp -implicitDefEqProofs (disch := first | assumption | omega | (simp only [nxB]; omega) | (simp only [oneB])) only [xlen, AV.cells, splice, aload, astore, Nat.reduceAdd, Nat.reduceLeDiff, reduceIte, allB, k5']
   exact fin0 (by simp only [exK, Ex.kind, q4, Bool.false_and])
  | true =>
   cases q5 : (a.kind != 5) with
   | false =>
    simp -implicitDefEqProofs (disch := first | assumption | omega | (simp only [nxB]; omega) | (simp only [oneB])) only [xlen, AV.cells, splice, aload, astore, Nat.reduceAdd, Nat.reduceLeDiff, reduceIte, allB, k5', q5]
    exact fin0 (by simp only [exK, Ex.kind, q4, q5, Bool.false_and, Bool.and_false])
   | true =>
    cases q6 : (a.kind != 6) with
    | false =>
     simp -implicitDefEqProofs (disch := first | assumption | omega | (simp only [nxB]; omega) | (simp only [oneB])) only [xlen, AV.cells, splice, aload, astore, Nat.reduceAdd, Nat.reduceLeDiff, reduceIte, allB, k5', q5, q6]
     exact fin0 (by simp only [exK, Ex.kind, q4, q5, q6, Bool.and_false])
    | true =>
     simp -implicitDefEqProofs (disch := first | assumption | omega | (simp only [nxB]; omega) | (simp only [oneB])) only [xlen, AV.cells, splice, aload, astore, Nat.reduceAdd, Nat.reduceLeDiff, reduceIte, allB, k5', q5, q6]
     refine W_call (rfail_spec hx4 2) ?_
     rintro _ H5 ⟨rfl, m5, hx5⟩
     refine ⟨m5.1, ?_⟩
     exact fin H5 a ks kv (he4.mut m5 (by omega) fun _ h => h) (mb.trans m5) (by rw [show exK (.mk a ks) = true by simp only [exK, Ex.kind, q4, q5, q6, Bool.and_self]]; exact hx5.rd) (m5.get k3 (by omega)) (m5.get k4 (by omega)) (m5.get k5 (by omega))
 | false =>
  have hs : ∀ l, sliceOf P l 35 1 [(0, .agg cs)] = some (.sl l 0 1 11 (some 1), .row false 11 [cs]) := fun l => sl35_1 l cs c1 o1
  have k3' := k3
  simp only [Sa.cells] at k3'
  simp -implicitDefEqProofs (disch := first | assumption | omega | (simp only [nxB]; omega) | (simp only [oneB])) only [s85, xlen, AV.cells, splice, aload, astore, Nat.reduceAdd, Nat.reduceLeDiff, reduceIte, allB, tyC, Bool.not_false, k3', k4, k5, t1, hs, AHeap.push_set_lt]
  have hf : ∀ l, l < H4.next → l ≠ H.next → ((H4.set H.next (.row false 9 [Sa.cells { kind := 9, pos := pos } (.sl H4.next 0 1 11 (some 1)) .nilSl .nilSl])).push (.row false 11 [cs])).get l = H4.get l := fun l h1 h2 => by simp -implicitDefEqProofs (disch := first | assumption | omega | (simp only [nxB]; omega) | (simp only [oneB])) only [heapB]
  have m5 : Mt r H ((H4.set H.next (.row false 9 [Sa.cells { kind := 9, pos := pos } (.sl H4.next 0 1 11 (some 1)) .nilSl .nilSl])).push (.row false 11 [cs])) := (mb.then_set (.inr (Nat.le_refl _)) _).then_push _
  have d5 : Rd5 ((H4.set H.next (.row false 9 [Sa.cells { kind := 9, pos := pos } (.sl H4.next 0 1 11 (some 1)) .nilSl .nilSl])).push (.row false 11 [cs])) r tv e2.2 := by
   have h := hx4.rd
   have := h.lt
   unfold Rd5 at h ⊢
   rw [hf r (by omega) (by omega)]; exact h
  have kv5 : KsV ((H4.set H.next (.row false 9 [Sa.cells { kind := 9, pos := pos } (.sl H4.next 0 1 11 (some 1)) .nilSl .nilSl])).push (.row false 11 [cs])) (Ge (H.next + 2)) [e2.1] (.sl H4.next 0 1 11 (some 1)) :=
   KsV.one_at (ro := false) (by simp -implicitDefEqProofs (disch := first | assumption | omega | (simp only [nxB]; omega) | (simp only [oneB])) only [heapB]) (by unfold Ge; omega) (ExV.keep (fun l ro els h g => ⟨by unfold Ge; omega, by rw [hf l (by omega) (by omega)]; exact g⟩) _ _ he4)
  have q3 : ((H4.set H.next (.row false 9 [Sa.cells { kind := 9, pos := pos } (.sl H4.next 0 1 11 (some 1)) .nilSl .nilSl])).push (.row false 11 [cs])).get H.next = some (.row false 9 [Sa.cells { kind := 9, pos := pos } (.sl H4.next 0 1 11 (some 1)) .nilSl .nilSl]) := by simp -implicitDefEqProofs (disch := first | assumption | omega | (simp only [nxB]; omega) | (simp only [oneB])) only [heapB]
  have q4 := (hf (H.next + 1) (by omega) (by omega)).trans k4
  have q5 := (hf H2.next (by omega) (by omega)).trans k5
  simp only [Sa.cells] at m5 d5 kv5 q3 q4 q5
  generalize (H4.set H.next (.row false 9 [[AV.int .i64 9, .str [], .str [], .int .i64 0, .sl H4.next 0 1 11 (some 1), .nilSl, .nilSl, .int .i64 pos, .int .i64 0]])).push (.row false 11 [cs]) = H5 at m5 d5 kv5 q3 q4 q5 ⊢
  have hx5 := hx.mut m5 d5
  refine W_call (ris_spec d5 hx5.tk [59] (by simp)) ?_
  rintro _ H6 ⟨rfl, p6⟩
  refine ⟨p6.1, ?_⟩
  have fin : ∀ (H7 : AHeap) (s7 : St), Mt r H6 H7 → Rd5 H7 r tv s7 → W (s85_j2 (evw P) (.ptr r 0 0) (.ptr H.next 0 0) (.ptr (H.next + 1) 0 0) H7) (QostS H r T tv (.mk { kind := 9, pos := pos } [e2.1] [] []) (takeR T [59] s7)) := fun H7 s7 m7 d7 =>
   rplain_fin hx ((m5.trans (p6.mut _)).trans m7) d7 (kv5.keep (Keep.mut ((p6.mut _).trans m7) (by unfold Ge; omega) fun _ h => h)) (m7.get (p6.get q3) (by omega)) (m7.get (p6.get q4) (by omega))
  have hx6 := hx5.pur p6
  cases h59 : isR T e2.2 [59] with
  | false =>
   simp -implicitDefEqProofs (disch := first | assumption | omega | (simp only [nxB]; omega) | (simp only [oneB])) only [xlen, AV.cells, splice, aload, astore, Nat.reduceAdd, Nat.reduceLeDiff, reduceIte, allB]
   simp only [Bool.false_and, cond_false]
   exact fin H6 _ (Mut.refl _ _) hx6.rd
  | true =>
   have q6 := p6.get q5
   rcases he2 : e2.1 with ⟨a, ks⟩
   rw [he2] at he4 fin
   obtain ⟨kv, hcs, -⟩ := ExV_mk.1 he4
   simp only [AV.agg.injEq] at hcs
   subst hcs
   simp only [Ea.cells] at q6
   cases hk : (a.kind != 7) with
   | false =>
    simp -implicitDefEqProofs (disch := first | assumption | omega | (simp only [nxB]; omega) | (simp only [oneB])) only [xlen, AV.cells, splice, aload, astore, Nat.reduceAdd, Nat.reduceLeDiff, reduceIte, allB, q6, hk]
    simp only [Ex.kind, hk, Bool.and_false, cond_false]
    exact fin H6 _ (Mut.refl _ _) hx6.rd
   | true =>
    simp -implicitDefEqProofs (disch := first | assumption | omega | (simp only [nxB]; omega) | (simp only [oneB])) only [xlen, AV.cells, splice, aload, astore, Nat.reduceAdd, Nat.reduceLeDiff, reduceIte, allB, q6, hk]
    simp only [Ex.kind, hk, Bool.and_self, cond_true]
    refine W_call (rfail_spec hx6 2) ?_
    rintro _ H7 ⟨rfl, m7, hx7⟩
    refine ⟨m7.1, ?_⟩
    exact fin H7 _ m7 hx7.rd
end Go.Proofs.Ytnjoomfeddamcaa

namespace Go.Proofs.Ytnjoomfeddamcaa
open Go.Ev
theorem un104 : P.underlying 104 = some (.map 9 103) := by kernel_rfl
theorem az103 : azero P 103 = some .nilFunc := by kernel_rfl
theorem mu104 {H : AHeap} {l : Nat} {es : List (AV × AV)} (k : Bs) (v : AV) (hg : H.get l = some (.map es)) (hf : afind .string (.str k) es 0 = some none) : amapUpdate P H 104 (.map l) (.str k) v = some (H.set l (.map (es ++ [(.str k, v)]))) := by
 simp only [amapUpdate, un104, un9, hg, plainKey, hf, if_true]
def stepsM : List (AV × AV) := [(.str [118, 97, 114], fn 92), (.str [108, 101, 116], fn 93), (.str [105, 102], fn 94), (.str [119, 104, 105, 108, 101], fn 95), (.str [114, 101, 116, 117, 114, 110], fn 96), (.str [112, 114, 105, 110, 116], fn 97)]
theorem steps_spec (H : AHeap) : W (evw P 78 [] H) fun v H' => v = .map H.next ∧ H' = H.push (.map stepsM) := by
 refine W_of (fun _ => run78 0) ?_
 simp only [s78, xmake_some]
 rw [mu104 _ _ (AHeap.get_push_same H _) rfl, xstore_some (by simp), AHeap.push_set]
 rw [mu104 _ _ (AHeap.get_push_same H _) rfl, xstore_some (by simp), AHeap.push_set]
 rw [mu104 _ _ (AHeap.get_push_same H _) rfl, xstore_some (by simp), AHeap.push_set]
 rw [mu104 _ _ (AHeap.get_push_same H _) rfl, xstore_some (by simp), AHeap.push_set]
 rw [mu104 _ _ (AHeap.get_push_same H _) rfl, xstore_some (by simp), AHeap.push_set]
 rw [mu104 _ _ (AHeap.get_push_same H _) rfl, xstore_some (by simp), AHeap.push_set]
 exact W_some.2 ⟨rfl, rfl⟩
theorem lk104 {H : AHeap} {l : Nat} (t : Bs) (hg : H.get l = some (.map stepsM)) : alookup P H 104 (.map l) (.str t) false = some (lookM t stepsM) := by
 rcases afind_look t stepsM 0 (by intro e he; simp [stepsM] at he; rcases he with rfl | rfl | rfl | rfl | rfl | rfl <;> exact ⟨_, rfl⟩) with ⟨j, v, h1, h2⟩ | ⟨h1, h2⟩
 ·simp only [alookup, un104, un9, az103, plainKey, if_true, hg, h1, h2, Bool.false_eq_true, if_false]
 ·simp only [alookup, un104, un9, az103, plainKey, if_true, hg, h1, h2, Bool.false_eq_true, if_false]
theorem nf103 (n : Nat) : fbin P .neq 103 true (fn n) .nilFunc = some (.bool true) := by kernel_rfl
theorem nf103n : fbin P .neq 103 true .nilFunc .nilFunc = some (.bool false) := by kernel_rfl
theorem stmt_end {H0 H : AHeap} {r : Nat} {T : List Tok} {tv : AV} {s0 s : St} (hx0 : Ry H0 r T tv s0) (mb : Mt r H0 H) (hrd : Rd5 H r tv s) {k b : Nat} {e : Stm} {s' : St} {q1 q3 q4 : Int} {q2 : Bs} (hc : ∀ Hc, Ry Hc r T tv s → W (evw P k [.ptr r 0 0] Hc) (QostS Hc r T tv e s'))
  (g2 : H.get H0.next = some (.row false 9 [[.int .i64 0, .str [], .str [], .int .i64 0, .nilSl, .nilSl, .nilSl, .int .i64 0, .int .i64 0]])) (g3 : H.get b = some (.row false 4 [[.int .i64 q1, .str q2, .int .i64 q3, .int .i64 q4]])) (hb : H0.next ≤ b) :
  W (s48_j0 (evw P) (.ptr r 0 0) (.ptr H0.next 0 0) (.ptr b 0 0) (fn k) H) (QostS H0 r T tv (e.at q4) s') := by
 have hl := hx0.rd.lt
 have lg := AHeap.get_lt g2
 rw [s48_j0]
 simp only [fn, xapply_fn, List.nil_append, List.append_nil]
 refine W_call (hc H (hx0.mut mb hrd)) ?_
 rintro v H1 ⟨m1, hx1, he⟩
 refine ⟨m1.1, ?_⟩
 have h2 := m1.get g2 (by omega)
 have h3 := m1.get g3 (by omega)
 have l2 := AHeap.get_lt h2
 have l3 := AHeap.get_lt h3
 cases e with | mk a es b1 c1 =>
 obtain ⟨ev, bv, cv, rfl, k1, k2, k3⟩ := StV_mk.1 he
 have o1 := k1.oneAV
 have o2 := k2.oneAV
 have o3 := k3.oneAV
 simp -implicitDefEqProofs (disch := first | assumption | omega | (simp only [nxB]; omega) | (simp only [oneB])) only [s48, xlen, AV.cells, splice, aload, astore, Nat.reduceAdd, Nat.reduceLeDiff, reduceIte, allB, tyC, Sa.cells, o1, o2, o3, h2, h3]
 have kp : ∀ blk, KeepS H1 (Ge H.next) (H1.push blk) (Ge (H0.next + 1)) := fun blk => KeepS.pur (Pur.push _ _) fun l hl => by unfold Ge at *; omega
 exact W_some.2 (QostS.fin (a := { a with pos := q4 }) hx0 ((mb.trans m1).then_push _) (hx1.rd.pur (Pur.push _ _)) (k1.keep (kp _).ex) (k2.keep (kp _)) (k3.keep (kp _)) (Nat.le_refl _) (Nat.lt_succ_self _) _)
theorem stmt_step {n : Nat} (ihC : ChooseOk n) (ihR : RepeatOk n) : StmtOk (n + 1) := by
 intro H r T tv s hT hx e s' h
 refine W_of (fun _ => run48 0) ?_
 have hl := hx.rd.lt
 have ho1 := hx.tk.one
 have p1 := Pur.push H (.row false 9 [[.int .i64 0, .str [], .str [], .int .i64 0, .nilSl, .nilSl, .nilSl, .int .i64 0, .int .i64 0]])
 simp -implicitDefEqProofs (disch := first | assumption | omega | (simp only [nxB]; omega) | (simp only [oneB])) only [s48, xlen, AV.cells, splice, aload, astore, Nat.reduceAdd, Nat.reduceLeDiff, reduceIte, allB, tyC]
 refine W_call (ktok_spec (hx.rd.pur p1) (hx.tk.pur p1)) ?_
 rintro _ H2 ⟨rfl, p2⟩
 refine ⟨p2.1, ?_⟩
 have n2 := p2.1
 simp only [AHeap.next_push] at n2
 have p3 := (p1.trans p2).then_push (.row false 4 [[.int .i64 (tokAt T s.at_).kind, .str (tokAt T s.at_).text, .int .i64 (tokAt T s.at_).n, .int .i64 (tokAt T s.at_).pos]])
 have g2 := (Pur.push H2 (.row false 4 [[.int .i64 (tokAt T s.at_).kind, .str (tokAt T s.at_).text, .int .i64 (tokAt T s.at_).n, .int .i64 (tokAt T s.at_).pos]])).get (p2.get (AHeap.get_push_same H (.row false 9 [[.int .i64 0, .str [], .str [], .int .i64 0, .nilSl, .nilSl, .nilSl, .int .i64 0, .int .i64 0]])))
 have g3 := AHeap.get_push_same H2 (.row false 4 [[.int .i64 (tokAt T s.at_).kind, .str (tokAt T s.at_).text, .int .i64 (tokAt T s.at_).n, .int .i64 (tokAt T s.at_).pos]])
 have hx3 := hx.pur p3
 simp only [stmtF, Option.bind_eq_some_iff] at h
 obtain ⟨⟨e1, s1⟩, h1, h2⟩ := h
 simp only [Option.some.injEq, Prod.mk.injEq] at h2
 obtain ⟨rfl, rfl⟩ := h2
 cases hk : ((tokAt T s.at_).kind == 3) with
 | false =>
  simp only [hk, cond_false, Option.some.injEq] at h1
  simp -implicitDefEqProofs (disch := first | assumption | omega | (simp only [nxB]; omega) | (simp only [oneB])) only [s48, xlen, AV.cells, splice, aload, astore, Nat.reduceAdd, Nat.reduceLeDiff, reduceIte, allB, tyC, Tok.v, hk]
  refine stmt_end hx (p3.mut _) hx3.rd (k := 77) (fun Hc hc => ?_) g2 g3 (by omega)
  have := kplain_spec hT hc
  rw [h1] at this; exact this
 | true =>
  simp only [hk, cond_true] at h1
  simp -implicitDefEqProofs (disch := first | assumption | omega | (simp only [nxB]; omega) | (simp only [oneB])) only [s48, xlen, AV.cells, splice, aload, astore, Nat.reduceAdd, Nat.reduceLeDiff, reduceIte, allB, tyC, Tok.v, hk]
  refine W_call (steps_spec _) ?_
  rintro _ H5 ⟨rfl, rfl⟩
  refine ⟨(Pur.push _ _).1, ?_⟩
  have p5 := Pur.push (H2.push (.row false 4 [[.int .i64 (tokAt T s.at_).kind, .str (tokAt T s.at_).text, .int .i64 (tokAt T s.at_).n, .int .i64 (tokAt T s.at_).pos]])) (.map stepsM)
  have hlook := lk104 (tokAt T s.at_).text (AHeap.get_push_same (H2.push (.row false 4 [[.int .i64 (tokAt T s.at_).kind, .str (tokAt T s.at_).text, .int .i64 (tokAt T s.at_).n, .int .i64 (tokAt T s.at_).pos]])) (.map stepsM))
  have hx5 := hx3.pur p5
  have g25 := p5.get g2
  have g35 := p5.get g3
  have m5 := (p3.trans p5).mut (· = r)
  have hr5 := hx5.rd
  unfold Rd5 at hr5
  have lr5 := hx5.rd.lt
  simp only [AHeap.next_push] at hlook
  have key : (∃ k, lookM (tokAt T s.at_).text stepsM = fn k ∧ ∀ Hc, Ry Hc r T tv (goS s) → W (evw P k [.ptr r 0 0] Hc) (QostS Hc r T tv e1 s1)) ∨ (lookM (tokAt T s.at_).text stepsM = .nilFunc ∧ plainS T s = (e1, s1)) := by
   by_cases t1 : (tokAt T s.at_).text = [118, 97, 114]
   ·have h1' : some (declS T (goS s)) = some (e1, s1) := by rw [← h1]; simp [t1]
    refine .inl ⟨92, by rw [t1]; rfl, fun Hc hc => ?_⟩
    have := kdecl_spec hc
    rw [Option.some.inj h1'] at this; exact this
   by_cases t2 : (tokAt T s.at_).text = [108, 101, 116]
   ·have h1' : some (letsS T (goS s)) = some (e1, s1) := by rw [← h1]; simp [t2]
    refine .inl ⟨93, by rw [t2]; rfl, fun Hc hc => ?_⟩
    have := klets_spec hT hc
    rw [Option.some.inj h1'] at this; exact this
   by_cases t3 : (tokAt T s.at_).text = [105, 102]
   ·have h1' : chooseF T n (goS s) = some (e1, s1) := by rw [← h1]; simp [t3]
    exact .inl ⟨94, by rw [t3]; rfl, fun Hc hc => ihC hT hc _ _ h1'⟩
   by_cases t4 : (tokAt T s.at_).text = [119, 104, 105, 108, 101]
   ·have h1' : repeatF T n (goS s) = some (e1, s1) := by rw [← h1]; simp [t4]
    exact .inl ⟨95, by rw [t4]; rfl, fun Hc hc => ihR hT hc _ _ h1'⟩
   by_cases t5 : (tokAt T s.at_).text = [114, 101, 116, 117, 114, 110]
   ·have h1' : some (retsS T (goS s)) = some (e1, s1) := by rw [← h1]; simp [t5]
    refine .inl ⟨96, by rw [t5]; rfl, fun Hc hc => ?_⟩
    have := krets_spec hT hc
    rw [Option.some.inj h1'] at this; exact this
   by_cases t6 : (tokAt T s.at_).text = [112, 114, 105, 110, 116]
   ·have h1' : some (printS T (goS s)) = some (e1, s1) := by rw [← h1]; simp [t6]
    refine .inl ⟨97, by rw [t6]; rfl, fun Hc hc => ?_⟩
    have := kprint_spec hT hc
    rw [Option.some.inj h1'] at this; exact this
   have h1' : some (plainS T s) = some (e1, s1) := by rw [← h1]; simp [bnf t1, bnf t2, bnf t3, bnf t4, bnf t5, bnf t6]
   exact .inr ⟨by simp [lookM, stepsM, bnf t1, bnf t2, bnf t3, bnf t4, bnf t5, bnf t6], Option.some.inj h1'⟩
  rcases key with ⟨k, hlk, hc⟩ | ⟨hlk, hpl⟩
  ·obtain ⟨m6, hd6⟩ := rset hx5.rd (goS s)
   simp -implicitDefEqProofs (disch := first | assumption | omega | (simp only [nxB]; omega) | (simp only [oneB])) only [s48, xlen, AV.cells, splice, aload, astore, Nat.reduceAdd, Nat.reduceLeDiff, reduceIte, allB, tyC, g35, hlook, hlk, nf103, Bool.and_self, hr5, ho1]
   exact stmt_end hx (m5.trans m6) hd6 hc (m6.get g25 (by omega)) (m6.get g35 (by omega)) (by omega)
  ·simp -implicitDefEqProofs (disch := first | assumption | omega | (simp only [nxB]; omega) | (simp only [oneB])) only [s48, xlen, AV.cells, splice, aload, astore, Nat.reduceAdd, Nat.reduceLeDiff, reduceIte, allB, tyC, g35, hlook, hlk, nf103n, Bool.and_self]
   refine stmt_end hx m5 hx5.rd (k := 77) (fun Hc hc => ?_) g25 g35 (by omega)
   have := kplain_spec hT hc
   rw [hpl] at this; exact this
theorem choose_end {H0 H : AHeap} {r : Nat} {T : List Tok} {tv : AV} {s0 s : St} (hx0 : Ry H0 r T tv s0) (mb : Mt r H0 H) (hrd : Rd5 H r tv s) {b lo : Nat} {a : Sa} {es : List Ex} {b1 c1 : List Stm} {ev bv cv : AV} (h1 : KsV H (Ge lo) es ev) (h2 : SsV H (Ge lo) b1 bv) (h3 : SsV H (Ge lo) c1 cv) (hlo : H0.next < lo)
  (g2 : H.get H0.next = some (.row false 9 [[.int .i64 0, .str [], .str [], .int .i64 0, .nilSl, .nilSl, .nilSl, .int .i64 0, .int .i64 0]])) (g3 : H.get b = some (.row false 9 [a.cells ev bv cv])) : W (s94_j0 (evw P) (.ptr H0.next 0 0) (.ptr b 0 0) H) (QostS H0 r T tv (.mk a es b1 c1) s) := by
 have o1 := h1.oneAV
 have o2 := h2.oneAV
 have o3 := h3.oneAV
 have l2 := AHeap.get_lt g2
 simp only [Sa.cells] at g3
 simp -implicitDefEqProofs (disch := first | assumption | omega | (simp only [nxB]; omega) | (simp only [oneB])) only [s94_j0, xlen, AV.cells, splice, aload, astore, Nat.reduceAdd, Nat.reduceLeDiff, reduceIte, allB, tyC, g2, g3, o1, o2, o3]
 exact W_some.2 (QostS.fin (a := a) hx0 mb hrd h1 h2 h3 (Nat.le_refl _) hlo _)
theorem choose_step {n : Nat} (ih : BlockOk n) : ChooseOk (n + 1) := by
 intro H r T tv s hT hx e s' h
 refine W_of (fun _ => run94 0) ?_
 have hl := hx.rd.lt
 have p1 := Pur.push H (.row false 9 [[.int .i64 0, .str [], .str [], .int .i64 0, .nilSl, .nilSl, .nilSl, .int .i64 0, .int .i64 0]])
 simp only [chooseF, Option.bind_eq_some_iff] at h
 obtain ⟨⟨b1, s1⟩, hb1, h2⟩ := h
 simp -implicitDefEqProofs (disch := first | assumption | omega | (simp only [nxB]; omega) | (simp only [oneB])) only [s94, xlen, AV.cells, splice, aload, astore, Nat.reduceAdd, Nat.reduceLeDiff, reduceIte, allB, tyC]
 refine W_call (kexpr_spec hT (hx.pur p1)) ?_
 rintro v H2 ⟨m2, hx2, he⟩
 refine ⟨m2.1, ?_⟩
 have n2 := m2.1
 simp only [AHeap.next_push] at n2
 obtain ⟨cs, rfl, c1, o1⟩ := he.cells
 generalize exprP T s = e2 at hx2 he hb1 h2 ⊢
 have hs : ∀ l, sliceOf P l 35 1 [(0, .agg cs)] = some (.sl l 0 1 11 (some 1), .row false 11 [cs]) := fun l => sl35_1 l cs c1 o1
 have g2 := m2.get (AHeap.get_push_same H (.row false 9 [[.int .i64 0, .str [], .str [], .int .i64 0, .nilSl, .nilSl, .nilSl, .int .i64 0, .int .i64 0]])) (by omega)
 simp -implicitDefEqProofs (disch := first | assumption | omega | (simp only [nxB]; omega) | (simp only [oneB])) only [s94, xlen, AV.cells, splice, aload, astore, Nat.reduceAdd, Nat.reduceLeDiff, reduceIte, allB, tyC, hs]
 have p3 := Pur.push H2 (.row false 11 [cs])
 refine W_call (ih hT (hx2.pur p3) b1 s1 hb1) ?_
 rintro bv H4 ⟨m4, hx4, hbv⟩
 refine ⟨m4.1, ?_⟩
 have n4 := m4.1
 simp only [AHeap.next_push] at n4
 have lr2 := hx2.rd.lt
 have he' : ExV H2 (Ge (H.next + 1)) e2.1 (.agg cs) := by simpa only [AHeap.next_push] using he
 have hkv : KsV H4 (Ge (H.next + 1)) [e2.1] (.sl H2.next 0 1 11 (some 1)) := (KsV.made (r := r) he' (Mut.refl _ H2) (by omega) (lo := H.next + 1) (by omega) (by omega)).keep (Keep.mut m4 (by unfold Ge; omega) fun _ h => h)
 have hbv4 : SsV H4 (Ge (H.next + 1)) b1 bv := hbv.keep (KeepS.le' fun k hk => by unfold Ge at *; simp only [AHeap.next_push] at hk; omega)
 have ob := hbv4.oneAV
 have hbd : abuild P 54 [(0, .int .i64 5), (3, .sl H2.next 0 1 11 (some 1)), (4, bv)] = some (.agg (Sa.cells { kind := 5 } (.sl H2.next 0 1 11 (some 1)) bv .nilSl)) := by
  rcases hbv4 with ⟨rfl, _⟩ | ⟨l, i, cap, ro, els, rfl, _⟩ | ⟨l, i, cap, rfl, _⟩ <;> kernel_rfl
 have g4 := m4.get (p3.get g2) (by omega)
 have mb := (((p1.mut (· = r)).trans m2).then_push (.row false 11 [cs])).trans m4
 simp only [Sa.cells] at hbd
 simp -implicitDefEqProofs (disch := first | assumption | omega | (simp only [nxB]; omega) | (simp only [oneB])) only [s94, xlen, AV.cells, splice, aload, astore, Nat.reduceAdd, Nat.reduceLeDiff, reduceIte, allB, tyC, hbd, ob]
 have p5 := Pur.push H4 (.row false 9 [Sa.cells { kind := 5 } (.sl H2.next 0 1 11 (some 1)) bv .nilSl])
 refine W_call (ktakes_spec (hx4.pur p5) 3 [101, 108, 115, 101]) ?_
 rintro _ H6 ⟨rfl, m6, hx6⟩
 refine ⟨m6.1, ?_⟩
 have lr4 := hx4.rd.lt
 have l4 := AHeap.get_lt g4
 have g6 := m6.get (p5.get g4) (by omega)
 have q6 := m6.get (AHeap.get_push_same H4 (.row false 9 [Sa.cells { kind := 5 } (.sl H2.next 0 1 11 (some 1)) bv .nilSl])) (by omega)
 have mb6 := (mb.then_push (.row false 9 [Sa.cells { kind := 5 } (.sl H2.next 0 1 11 (some 1)) bv .nilSl])).trans m6
 have k6 : KeepS H4 (Ge (H.next + 1)) H6 (Ge (H.next + 1)) := KeepS.mut ((p5.mut _).trans m6) (by unfold Ge; omega) fun _ h => h
 cases hi : isB T s1 3 [101, 108, 115, 101] with
 | false =>
  rw [show takesS T 3 [101, 108, 115, 101] s1 = (false, s1) by simp [takesS, hi]] at hx6 ⊢
  simp only [hi, cond_false, Option.some.injEq, Prod.mk.injEq] at h2
  obtain ⟨rfl, rfl⟩ := h2
  simp -implicitDefEqProofs (disch := first | assumption | omega | (simp only [nxB]; omega) | (simp only [oneB])) only [s94, xlen, AV.cells, splice, aload, astore, Nat.reduceAdd, Nat.reduceLeDiff, reduceIte, allB, tyC]
  exact choose_end hx mb6 hx6.rd (hkv.keep k6.ex) (hbv4.keep k6) (SsV.nil _ _) (by omega) g6 q6
 | true =>
  rw [show takesS T 3 [101, 108, 115, 101] s1 = (true, goS s1) by simp [takesS, hi]] at hx6 ⊢
  simp only [hi, cond_true, Option.bind_eq_some_iff] at h2
  obtain ⟨⟨b2, s2⟩, hb2, h3⟩ := h2
  simp only [Option.some.injEq, Prod.mk.injEq] at h3
  obtain ⟨rfl, rfl⟩ := h3
  simp -implicitDefEqProofs (disch := first | assumption | omega | (simp only [nxB]; omega) | (simp only [oneB])) only [s94, xlen, AV.cells, splice, aload, astore, Nat.reduceAdd, Nat.reduceLeDiff, reduceIte, allB, tyC]
  refine W_call (ih hT hx6 b2 s2 hb2) ?_
  rintro cv H8 ⟨m8, hx8, hcv⟩
  refine ⟨m8.1, ?_⟩
  have lr6 := hx6.rd.lt
  have l6 := AHeap.get_lt q6
  have g8 := m8.get g6 (by omega)
  have q8 := m8.get q6 (by omega)
  have lq8 := AHeap.get_lt q8
  have n6 := m6.1
  simp only [AHeap.next_push] at n6
  have k8 := m8.1
  have oc := hcv.oneAV
  have q8' := q8
  simp only [Sa.cells] at q8'
  have h468 : KeepS H4 (Ge (H.next + 1)) H8 (Ge (H.next + 1)) := KeepS.mut (((p5.mut _).trans m6).trans m8) (by unfold Ge; omega) fun _ h => h
  have hkv8 := hkv.keep h468.ex
  have hbv8 := hbv4.keep h468
  have hst : astore P H8 50 (.ptr H4.next 0 6) cv = some (H8.set H4.next (.row false 9 [Sa.cells { kind := 5 } (.sl H2.next 0 1 11 (some 1)) bv cv])) := by
   rw [st_any ts50 q8 rfl (by rw [cells_one oc]; rfl) (by rw [cells_one oc, List.all_cons, oc]; rfl) (by decide), cells_one oc]; rfl
  simp -implicitDefEqProofs (disch := first | assumption | omega | (simp only [nxB]; omega) | (simp only [oneB])) only [s94, xlen, evB, tabB, Nat.zero_add]
  rw [hst, xstore_some (by simp only [AHeap.next_set]; omega)]
  have kf : ∀ blk, KeepS H8 (fun l => H.next + 1 ≤ l ∧ l ≠ H4.next) (H8.set H4.next blk) (Ge (H.next + 1)) := fun blk => KeepS.set _ (by simp) fun l h => h.1
  have h4k : KeepS H4 (fun l => H.next + 1 ≤ l ∧ l < H4.next) H8 (fun l => H.next + 1 ≤ l ∧ l ≠ H4.next) := KeepS.mut (((p5.mut _).trans m6).trans m8) (by omega) fun l h => ⟨h.1, by omega⟩
  have hb4 : KeepS H4 (Ge (H.next + 1)) H4 (fun l => H.next + 1 ≤ l ∧ l < H4.next) := ⟨fun l ro els h g => ⟨⟨h, AHeap.get_lt g⟩, g⟩, fun l ro els h g => ⟨⟨h, AHeap.get_lt g⟩, g⟩⟩
  refine choose_end hx (H := H8.set H4.next (.row false 9 [Sa.cells { kind := 5 } (.sl H2.next 0 1 11 (some 1)) bv cv])) ((mb6.trans m8).then_set (.inr (by omega)) _) ?_ (((hkv.keep hb4.ex).keep h4k.ex).keep (kf _).ex) (((hbv4.keep hb4).keep h4k).keep (kf _)) ((hcv.keep (KeepS.le' (ok' := fun l => H.next + 1 ≤ l ∧ l ≠ H4.next) fun k hk => by unfold Ge at hk; omega)).keep (kf _)) (Nat.lt_succ_self _) ?_ (AHeap.get_set_same lq8)
  ·have hr8 := hx8.rd
   unfold Rd5 at hr8 ⊢
   rw [AHeap.get_set_other (by omega)]; exact hr8
  ·rw [AHeap.get_set_other (by omega)]; exact g8
theorem repeat_step {n : Nat} (ih : BlockOk n) : RepeatOk (n + 1) := by
 intro H r T tv s hT hx e s' h
 refine W_of (fun _ => run95 0) ?_
 have hl := hx.rd.lt
 have p1 := Pur.push H (.row false 9 [[.int .i64 0, .str [], .str [], .int .i64 0, .nilSl, .nilSl, .nilSl, .int .i64 0, .int .i64 0]])
 simp only [repeatF, Option.bind_eq_some_iff] at h
 obtain ⟨⟨b1, s1⟩, hb1, h2⟩ := h
 simp only [Option.some.injEq, Prod.mk.injEq] at h2
 obtain ⟨rfl, rfl⟩ := h2
 simp -implicitDefEqProofs (disch := first | assumption | omega | (simp only [nxB]; omega) | (simp only [oneB])) only [s95, xlen, AV.cells, splice, aload, astore, Nat.reduceAdd, Nat.reduceLeDiff, reduceIte, allB, tyC]
 refine W_call (kexpr_spec hT (hx.pur p1)) ?_
 rintro v H2 ⟨m2, hx2, he⟩
 refine ⟨m2.1, ?_⟩
 have n2 := m2.1
 simp only [AHeap.next_push] at n2
 obtain ⟨cs, rfl, c1, o1⟩ := he.cells
 generalize exprP T s = e2 at hx2 he hb1 ⊢
 have hs : ∀ l, sliceOf P l 35 1 [(0, .agg cs)] = some (.sl l 0 1 11 (some 1), .row false 11 [cs]) := fun l => sl35_1 l cs c1 o1
 have g2 := m2.get (AHeap.get_push_same H (.row false 9 [[.int .i64 0, .str [], .str [], .int .i64 0, .nilSl, .nilSl, .nilSl, .int .i64 0, .int .i64 0]])) (by omega)
 simp -implicitDefEqProofs (disch := first | assumption | omega | (simp only [nxB]; omega) | (simp only [oneB])) only [s95, xlen, AV.cells, splice, aload, astore, Nat.reduceAdd, Nat.reduceLeDiff, reduceIte, allB, tyC, hs]
 have p3 := Pur.push H2 (.row false 11 [cs])
 refine W_call (ih hT (hx2.pur p3) b1 s1 hb1) ?_
 rintro bv H4 ⟨m4, hx4, hbv⟩
 refine ⟨m4.1, ?_⟩
 have n4 := m4.1
 simp only [AHeap.next_push] at n4
 have lr2 := hx2.rd.lt
 have he' : ExV H2 (Ge (H.next + 1)) e2.1 (.agg cs) := by simpa only [AHeap.next_push] using he
 have hkv : KsV H4 (Ge (H.next + 1)) [e2.1] (.sl H2.next 0 1 11 (some 1)) := (KsV.made (r := r) he' (Mut.refl _ H2) (by omega) (lo := H.next + 1) (by omega) (by omega)).keep (Keep.mut m4 (by unfold Ge; omega) fun _ h => h)
 have hbv4 : SsV H4 (Ge (H.next + 1)) b1 bv := hbv.keep (KeepS.le' fun k hk => by unfold Ge at *; simp only [AHeap.next_push] at hk; omega)
 have ob := hbv4.oneAV
 have hbd : abuild P 54 [(0, .int .i64 6), (3, .sl H2.next 0 1 11 (some 1)), (4, bv)] = some (.agg (Sa.cells { kind := 6 } (.sl H2.next 0 1 11 (some 1)) bv .nilSl)) := by
  rcases hbv4 with ⟨rfl, _⟩ | ⟨l, i, cap, ro, els, rfl, _⟩ | ⟨l, i, cap, rfl, _⟩ <;> kernel_rfl
 have g4 := m4.get (p3.get g2) (by omega)
 have l4 := AHeap.get_lt g4
 simp only [Sa.cells] at hbd
 simp -implicitDefEqProofs (disch := first | assumption | omega | (simp only [nxB]; omega) | (simp only [oneB])) only [s95, xlen, AV.cells, splice, aload, astore, Nat.reduceAdd, Nat.reduceLeDiff, reduceIte, allB, tyC, hbd, ob, g4]
 exact W_some.2 (QostS.fin (a := { kind := 6 }) hx ((((p1.mut _).trans m2).then_push _).trans m4) hx4.rd hkv hbv4 (SsV.nil _ _) (Nat.le_refl _) (Nat.lt_succ_self _) _)
structure AllK (n : Nat) : Prop where
 stmt : StmtOk n
 block : BlockOk n
 choose : ChooseOk n
 rep : RepeatOk n
theorem allK : ∀ n, n ≤ 900000000 → AllK n := by
 intro n
 induction n using Nat.strongRecOn with
 | _ n ih =>
  intro hn
  cases n with
  | zero => exact ⟨fun _ _ _ _ h => by simp [stmtF] at h, fun _ _ _ _ h => by simp [blockF] at h, fun _ _ _ _ h => by simp [chooseF] at h, fun _ _ _ _ h => by simp [repeatF] at h⟩
  | succ n =>
   have i := ih n (by omega) (by omega)
   exact ⟨stmt_step i.choose i.rep, block_step (by omega) fun k hk => (ih k (by omega) (by omega)).stmt, choose_step i.block, repeat_step i.block⟩
end Go.Proofs.Ytnjoomfeddamcaa

namespace Go.Proofs.Ytnjoomfeddamcaa
open Go.Ev
def StmtROk (n : Nat) : Prop := ∀ {H : AHeap} {r : Nat} {T : List Tok} {tv : AV} {s : St}, T.length ≤ 20000000 → Ry H r T tv s → ∀ (e : Stm) (s' : St), stmtR T n s = some (e, s') → W (evw P 72 [.ptr r 0 0] H) (QostS H r T tv e s')
def BlockROk (n : Nat) : Prop := ∀ {H : AHeap} {r : Nat} {T : List Tok} {tv : AV} {s : St}, T.length ≤ 20000000 → Ry H r T tv s → ∀ (l : List Stm) (s' : St), blockR T n s = some (l, s') → W (evw P 47 [.ptr r 0 0] H) fun v H' => Mt r H H' ∧ Ry H' r T tv s' ∧ SsV H' (Ge H.next) l v
theorem rblock_end {M : Nat} {H0 H : AHeap} {r : Nat} {T : List Tok} {tv : AV} {s0 s : St} (hx0 : Ry H0 r T tv s0) (mb : Mt r H0 H) (hrd : Rd5 H r tv s) {l : List Stm} {v : AV} (hv : SsV H (Ge H0.next) l v) :
  W (s47_j0 (evw P) M (.ptr r 0 0) v H) fun v' H' => Mt r H0 H' ∧ Ry H' r T tv (closesR T [125] s) ∧ SsV H' (Ge H0.next) l v' := by
 have hl := hx0.rd.lt
 rw [s47_j0]
 refine W_call (rcloses_spec (hx0.mut mb hrd) [125] (by simp)) ?_
 rintro _ H1 ⟨rfl, m1, hx1⟩
 refine ⟨m1.1, ?_⟩
 exact W_some.2 ⟨mb.trans m1, hx1, hv.keep (KeepS.mut m1 (by unfold Ge; omega) fun _ h => h)⟩
theorem rloop {N M : Nat} (ih : ∀ k, k < N → StmtROk k) {H0 : AHeap} {r : Nat} {T : List Tok} {tv : AV} {s0 : St} (hT : T.length ≤ 20000000) (hx0 : Ry H0 r T tv s0) :
  ∀ (n m : Nat), n ≤ N → n < m → ∀ (H : AHeap) (s : St) (l : List Stm) (v : AV), Mt r H0 H → Rd5 H r tv s → l.length + n ≤ 1000000000 → BldS H0.next H l v → ∀ (l' : List Stm) (s' : St), loopR T n l s = some (l', s') →
   W (s47_l1 (evw P) M m (.ptr r 0 0) v H) fun v' H' => Mt r H0 H' ∧ Ry H' r T tv (closesR T [125] s') ∧ SsV H' (Ge H0.next) l' v'
 | 0, m, hN, hm, H, s, l, v, mb, hrd, hlen, hb, l', s', h => by simp [loopR] at h
 | n + 1, 0, hN, hm, H, s, l, v, mb, hrd, hlen, hb, l', s', h => by omega
 | n + 1, m + 1, hN, hm, H, s, l, v, mb, hrd, hlen, hb, l', s', h => by
  have hl := hx0.rd.lt
  have hle := mb.1
  have hx := hx0.mut mb hrd
  simp only [loopR] at h
  simp only [s47_l1]
  rw [s47_b1]
  refine W_call (rok_spec hrd) ?_
  rintro _ H1 ⟨rfl, rfl⟩
  refine ⟨Nat.le_refl _, ?_⟩
  by_cases hf : s.fe = 0
  ·have hf' : (s.fe == 0) = true := by simp [hf]
   simp -implicitDefEqProofs (disch := first | assumption | omega | (simp only [nxB]; omega) | (simp only [oneB])) only [xlen, AV.cells, splice, aload, astore, Nat.reduceAdd, Nat.reduceLeDiff, reduceIte, allB, hf']
   refine W_eff (ris_spec hrd hx.tk [125] (by simp)) ?_
   rintro _ H2 ⟨rfl, p2⟩
   refine ⟨p2.1, ?_⟩
   have hb2 := hb.mut (p2.mut (· = r)) hl
   cases hi : isR T s [125] with
   | true =>
    simp only [hf', hi, Bool.not_true, Bool.and_false, cond_false, Option.some.injEq, Prod.mk.injEq] at h
    obtain ⟨rfl, rfl⟩ := h
    simp -implicitDefEqProofs (disch := first | assumption | omega | (simp only [nxB]; omega) | (simp only [oneB])) only [xlen, AV.cells, splice, aload, astore, Nat.reduceAdd, Nat.reduceLeDiff, reduceIte, allB, hf', Bool.not_true, Bool.not_false]
    exact rblock_end hx0 (mb.trans (p2.mut _)) (hx.pur p2).rd hb2.ss
   | false =>
    simp only [hf', hi, Bool.not_false, Bool.and_self, cond_true, Option.bind_eq_some_iff] at h
    obtain ⟨⟨e1, s1⟩, h1, h2⟩ := h
    simp -implicitDefEqProofs (disch := first | assumption | omega | (simp only [nxB]; omega) | (simp only [oneB])) only [xlen, AV.cells, splice, aload, astore, Nat.reduceAdd, Nat.reduceLeDiff, reduceIte, allB, hf', Bool.not_true, Bool.not_false]
    refine W_call (ih n (by omega) hT (hx.pur p2) e1 s1 h1) ?_
    rintro w H3 ⟨m3, hx3, he⟩
    refine ⟨m3.1, ?_⟩
    obtain ⟨cs, rfl, c1, o1⟩ := he.cells
    have hb3 := hb2.mut m3 hl
    have n3 := m3.1
    have n2 := p2.1
    obtain ⟨v', H', ha, hb', mm, hn'⟩ := hb3.app he (by omega) (fun L k c hv => by
     rcases hb2 with ⟨q1, _⟩ | ⟨L', els, q1, q2, _⟩
     ·rw [q1] at hv; cases hv
     ·rw [q1] at hv
      cases hv
      exact AHeap.get_lt q2) (by omega) (by omega)
    have hs := fun l => sl50_1 l cs c1 o1
    simp -implicitDefEqProofs (disch := first | assumption | omega | (simp only [nxB]; omega) | (simp only [oneB])) only [xlen, AV.cells, splice, aload, astore, Nat.reduceAdd, Nat.reduceLeDiff, reduceIte, allB, hs, ha, xcall_some]
    have mm' : Mt r H0 H' := ⟨by have := mb.1; omega, fun k hk hr => by
     rw [mm.2 k (by omega) (by omega)]
     exact ((mb.trans (p2.mut _)).trans m3).2 k hk hr⟩
    have hr' : Rd5 H' r tv s1 := mm.get hx3.rd (by omega)
    exact rloop ih hT hx0 n m (by omega) (by omega) H' s1 (l ++ [e1]) v' mm' hr' (by simp only [List.length_append, List.length_cons, List.length_nil]; omega) hb' l' s' h2
  ·have hf' : (s.fe == 0) = false := by simpa using hf
   simp only [hf', Bool.false_and, cond_false, Option.some.injEq, Prod.mk.injEq] at h
   obtain ⟨rfl, rfl⟩ := h
   simp -implicitDefEqProofs (disch := first | assumption | omega | (simp only [nxB]; omega) | (simp only [oneB])) only [xlen, AV.cells, splice, aload, astore, Nat.reduceAdd, Nat.reduceLeDiff, reduceIte, allB, hf', Bool.not_true]
   exact rblock_end hx0 mb hrd hb.ss
theorem rblock_step {n : Nat} (hn : n ≤ 1000000000) (ih : ∀ k, k < n → StmtROk k) : BlockROk (n + 1) := by
 intro H r T tv s hT hx l s' h
 refine W_of (fun _ => run47 (n + 1)) ?_
 simp only [blockR, Option.bind_eq_some_iff] at h
 obtain ⟨⟨l1, s1⟩, h1, h2⟩ := h
 simp only [Option.some.injEq, Prod.mk.injEq] at h2
 obtain ⟨rfl, rfl⟩ := h2
 rw [s47]
 refine W_call (ropens_spec hx [123] (by simp)) ?_
 rintro _ H1 ⟨rfl, m1, hx1⟩
 refine ⟨m1.1, ?_⟩
 exact rloop ih hT hx n (n + 1) (Nat.le_refl _) (by omega) H1 _ [] .nilSl m1 hx1.rd (by simpa using hn) (.inl ⟨rfl, rfl⟩) l1 s1 h1
structure Bx (H0 H : AHeap) (r b3 b4 : Nat) (tv : AV) (t : Tok) (s : St) (c : List AV) : Prop where
 m : Mt r H0 H
 rd : Rd5 H r tv s
 g2 : H.get H0.next = some (.row false 9 [[.int .i64 0, .str [], .str [], .int .i64 0, .nilSl, .nilSl, .nilSl, .int .i64 0, .int .i64 0]])
 g3 : H.get b3 = some (.row false 4 [[.int .i64 t.kind, .str t.text, .int .i64 t.n, .int .i64 t.pos]])
 g4 : H.get b4 = some (.row false 9 [c])
 l3 : H0.next < b3
 l4 : b3 < b4
theorem Bx.mut {H0 H H' : AHeap} {r b3 b4 : Nat} {tv : AV} {t : Tok} {s s' : St} {c : List AV} (h : Bx H0 H r b3 b4 tv t s c) (hr : r < H0.next) (m : Mt r H H') (hd : Rd5 H' r tv s') : Bx H0 H' r b3 b4 tv t s' c :=
 ⟨h.m.trans m, hd, m.get h.g2 (by omega), m.get h.g3 (by have := h.l3; omega), m.get h.g4 (by have := h.l3; have := h.l4; omega), h.l3, h.l4⟩
theorem Bx.set {H0 H : AHeap} {r b3 b4 : Nat} {tv : AV} {t : Tok} {s : St} {c : List AV} (h : Bx H0 H r b3 b4 tv t s c) (hr : r < H0.next) (c' : List AV) : Bx H0 (H.set b4 (.row false 9 [c'])) r b3 b4 tv t s c' := by
 have h3 := h.l3
 have h4 := h.l4
 refine ⟨h.m.then_set (.inr (by omega)) _, ?_, ?_, ?_, AHeap.get_set_same (AHeap.get_lt h.g4), h3, h4⟩
 ·have := h.rd
  unfold Rd5 at this ⊢
  rw [AHeap.get_set_other (by omega)]; exact this
 ·rw [AHeap.get_set_other (by omega)]; exact h.g2
 ·rw [AHeap.get_set_other (by omega)]; exact h.g3
theorem Bx.push {H0 H : AHeap} {r b3 b4 : Nat} {tv : AV} {t : Tok} {s : St} {c : List AV} (h : Bx H0 H r b3 b4 tv t s c) (hr : r < H0.next) (blk : ABlk) : Bx H0 (H.push blk) r b3 b4 tv t s c :=
 h.mut hr ((Pur.push H blk).mut _) (h.rd.pur (Pur.push H blk))
section
variable {H0 H : AHeap} {r b3 b4 : Nat} {T : List Tok} {tv : AV} {s0 s : St} {t : Tok}
theorem rstmt_end (hx0 : Ry H0 r T tv s0) {a : Sa} {es : List Ex} {b1 c1 : List Stm} {ev bv cv : AV} (b : Bx H0 H r b3 b4 tv t s (a.cells ev bv cv)) (h1 : KsV H (Ge (b4 + 1)) es ev) (h2 : SsV H (Ge (b4 + 1)) b1 bv) (h3 : SsV H (Ge (b4 + 1)) c1 cv) :
  W (s72_j0 (evw P) (.ptr H0.next 0 0) (.ptr b4 0 0) H) (QostS H0 r T tv (.mk a es b1 c1) s) := by
 have o1 := h1.oneAV
 have o2 := h2.oneAV
 have o3 := h3.oneAV
 have g2 := b.g2
 have g3 := b.g4
 have l2 := AHeap.get_lt g2
 have q3 := b.l3
 have q4 := b.l4
 simp only [Sa.cells] at g3
 simp -implicitDefEqProofs (disch := first | assumption | omega | (simp only [nxB]; omega) | (simp only [oneB])) only [s72_j0, xlen, AV.cells, splice, aload, astore, Nat.reduceAdd, Nat.reduceLeDiff, reduceIte, allB, tyC, g2, g3, o1, o2, o3]
 exact W_some.2 (QostS.fin (a := a) hx0 b.m b.rd h1 h2 h3 (Nat.le_refl _) (by omega) _)
theorem Bx.expr (hr : r < H0.next) {e : Ex} {cs c c' : List AV} {L : Nat} (b : Bx H0 H r b3 b4 tv t s c) (he : ExV H (Ge (b4 + 1)) e (.agg cs)) (hL : L = H.next) : Bx H0 ((H.set b4 (.row false 9 [c'])).push (.row false 11 [cs])) r b3 b4 tv t s c' ∧ KsV ((H.set b4 (.row false 9 [c'])).push (.row false 11 [cs])) (Ge (b4 + 1)) [e] (.sl L 0 1 11 (some 1)) := by
 subst hL
 have h4 := AHeap.get_lt b.g4
 refine ⟨(b.set hr c').push hr _, KsV.one_at (ro := false) ?_ (by unfold Ge; omega) (ExV.keep ?_ e _ he)⟩
 ·exact AHeap.get_push_same (H.set b4 (.row false 9 [c'])) _
 ·intro l ro els h g
  refine ⟨h, ?_⟩
  unfold Ge at h
  exact (Pur.push _ _).get (by rw [AHeap.get_set_other (by omega)]; exact g)
theorem rdecl_end (hx0 : Ry H0 r T tv s0) {a : Sa} {es : List Ex} {ev : AV} (b : Bx H0 H r b3 b4 tv t s (a.cells ev .nilSl .nilSl)) (h1 : KsV H (Ge (b4 + 1)) es ev) :
  W (s72_j2 (evw P) (.ptr r 0 0) (.ptr H0.next 0 0) (.ptr b4 0 0) H) (QostS H0 r T tv (.mk a es [] []) (takeR T [59] s)) := by
 have hl := hx0.rd.lt
 have q3 := b.l3
 have q4 := b.l4
 rw [s72_j2]
 refine W_call (take_spec (hx0.mut b.m b.rd) [59] (by simp)) ?_
 rintro _ H1 ⟨rfl, m1, hx1⟩
 refine ⟨m1.1, ?_⟩
 exact rstmt_end hx0 (b.mut hl m1 hx1.rd) (h1.keep (Keep.mut m1 (by unfold Ge; omega) fun _ h => h)) (SsV.nil _ _) (SsV.nil _ _)
theorem rret_end (hx0 : Ry H0 r T tv s0) {a : Sa} {es : List Ex} {ev : AV} (b : Bx H0 H r b3 b4 tv t s (a.cells ev .nilSl .nilSl)) (h1 : KsV H (Ge (b4 + 1)) es ev) :
  W (s72_j3 (evw P) (.ptr r 0 0) (.ptr H0.next 0 0) (.ptr b4 0 0) H) (QostS H0 r T tv (.mk a es [] []) (takeR T [59] s)) := by
 have hl := hx0.rd.lt
 have q3 := b.l3
 have q4 := b.l4
 rw [s72_j3]
 refine W_call (take_spec (hx0.mut b.m b.rd) [59] (by simp)) ?_
 rintro _ H1 ⟨rfl, m1, hx1⟩
 refine ⟨m1.1, ?_⟩
 exact rstmt_end hx0 (b.mut hl m1 hx1.rd) (h1.keep (Keep.mut m1 (by unfold Ge; omega) fun _ h => h)) (SsV.nil _ _) (SsV.nil _ _)
end
end Go.Proofs.Ytnjoomfeddamcaa


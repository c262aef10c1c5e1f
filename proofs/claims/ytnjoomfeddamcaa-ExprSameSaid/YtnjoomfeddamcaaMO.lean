/-
  Texts of one proof, laid together: Rt Rx.
-/
import Derived.Test.YtnjoomfeddamcaaMJ
import Derived.Test.YtnjoomfeddamcaaME
import Derived.Test.YtnjoomfeddamcaaMD
import Derived.Deep.Slices
set_option linter.unusedVariables false
set_option linter.unusedSimpArgs false
/-
  Tokens that came in, as the evaluator sees them.
-/
namespace Go.Proofs.Ytnjoomfeddamcaa
open Go.Ev
open Go.ChangeShapes Go.WideShapes Go.ChangeAt Go.RowKit Go.Deep

theorem own : ownKnob Try.prog.godebug = none := by kernel_rfl
theorem laidOut : laidOutB Try.prog = true := by kernel_rfl
theorem und3 : P.underlying 3 = some (.int .i64) := by kernel_rfl
theorem und4 : P.underlying 4 = some .bool := by kernel_rfl
theorem und9 : P.underlying 9 = some .string := by kernel_rfl
theorem und22 : P.underlying 22 = some (.slice 65) := by kernel_rfl
theorem cells65 : P.cellsOf 65 = 4 := by kernel_rfl
theorem cells3 : P.cellsOf 3 = 1 := by kernel_rfl
theorem cells9 : P.cellsOf 9 = 1 := by kernel_rfl
theorem trod65 {H : Type} {enc : TypeId × Value → H} {w : World} {n : Nat} {cs : List Value} {x : DataW H × List MemPlace} (h : DataW.trod enc P w 0 (fun _ => true) true n 65 cs = some x) : ∃ t : Tok, cs = [.int .i64 t.kind, .string ⟨t.text.toArray⟩, .int .i64 t.n, .int .i64 t.pos] := by
  have f0 : fldOf P 65 0 = some (3, 0) := by kernel_rfl
  have f1 : fldOf P 65 1 = some (9, 1) := by kernel_rfl
  have f2 : fldOf P 65 2 = some (3, 2) := by kernel_rfl
  have f3 : fldOf P 65 3 = some (3, 3) := by kernel_rfl
  have hl := trod_len f0 h
  rw [cells65] at hl
  match cs, hl with
  | [a, b, c, d], _ =>
    obtain ⟨_, _, h0⟩ := trod_fld f0 h
    obtain ⟨_, _, h1⟩ := trod_fld f1 h
    obtain ⟨_, _, h2⟩ := trod_fld f2 h
    obtain ⟨_, _, h3⟩ := trod_fld f3 h
    rw [cells3] at h0 h2 h3
    rw [cells9] at h1
    obtain ⟨k, rfl⟩ := trod_int1 und3 h0
    obtain ⟨s, rfl⟩ := trod_str1 und9 h1
    obtain ⟨m, rfl⟩ := trod_int1 und3 h2
    obtain ⟨q, rfl⟩ := trod_int1 und3 h3
    exact ⟨⟨k, s, m, q⟩, rfl⟩
set_option maxRecDepth 100000 in
theorem open_toks {H : Type} {enc : TypeId × Value → H} {W : World} {r : Reach} {base : Nat} {v : Value} {d : DataW H} {ps : List MemPlace} (hval : Value.okWide P W r base 22 v) (h : DataW.Trod enc P W 0 (fun _ => true) true 22 v d ps) :
    ∃ (T : List Tok) (ρ : Env) (H : AHeap) (tv : AV), Rel ρ H W ∧ (∀ l, ¬ H.rw l) ∧ (∀ l, H.next ≤ l → ρ l = none) ∧ VRel ρ tv v ∧ TokSl H tv T := by
  obtain ⟨a0, len, cap, rfl⟩ := okWide_slice (P := P) und22 hval
  obtain ⟨fuel, hf⟩ := h
  rcases open_slice (P := P) und22 hf with ⟨hcs, _⟩ | ⟨a, l, c, m, n, D, Pl, hcs, _, hlc, _, hm, _, hx⟩
  · simp [Value.cells] at hcs
    obtain ⟨rfl, rfl, rfl⟩ := hcs
    refine ⟨[], fun _ => none, AHeap.empty, .nilSl, rel_empty W, fun l hl => ?_, fun _ _ => rfl, .nilSl, .inl ⟨rfl, rfl⟩⟩
    rcases hl with ⟨e, s, h⟩ | ⟨es, h⟩ <;> rw [AHeap.empty_get] at h <;> cases h
  · simp [Value.cells] at hcs
    obtain ⟨rfl, rfl, rfl⟩ := hcs
    simp only [if_true] at hm
    replace hm := hm.symm
    subst hm
    rw [cells65] at hx
    have hel : ∀ i, i < cap → ∃ t : Tok, W.cells? 0 (a.add (i * 4)) 4 = some [.int .i64 t.kind, .string ⟨t.text.toArray⟩, .int .i64 t.n, .int .i64 t.pos] := by
      intro i hi
      obtain ⟨cs, h1, h2⟩ := hx i hi
      obtain ⟨t, rfl⟩ := trod65 h2
      exact ⟨t, h1⟩
    obtain ⟨tf, htf⟩ := @choose_lt Tok ⟨Tok.none⟩ cap _ hel
    by_cases hc : 0 < cap
    · have hsp : a.spot = none := by
        have := (World.cells?_some (htf 0 hc)).2.2 0 (by omega)
        have h2 := World.cell?_spot this
        simpa [Addr.add] using h2
      obtain ⟨cc, tt, fz, hblk⟩ : ∃ cc tt fz, W.heap[a.block]? = some (.cells cc tt fz) := by
        have := (World.cells?_some (htf 0 hc)).2.2 0 (by omega)
        rw [add_off hsp, add_off rfl] at this
        unfold World.cell? at this
        simp only at this
        split at this
        · exact ⟨_, _, _, ‹_›⟩
        · cases this
      have hcell : ∀ i, i < cap → ∀ j, j < 4 → cc[a.off + i * 4 + j]? = [Value.int .i64 (tf i).kind, .string ⟨(tf i).text.toArray⟩, .int .i64 (tf i).n, .int .i64 (tf i).pos][j]? := by
        intro i hi j hj
        have := (World.cells?_some (htf i hi)).2.2 j hj
        rw [add_off hsp, add_off rfl] at this
        unfold World.cell? at this
        simpa [hblk] using this
      refine ⟨(List.range len).map tf, env1 ⟨a.block, a.off, 4, a.off + cap * 4⟩, heap1 4 ((List.range len).map fun i => (tf i).cells), .sl 0 0 len 4 none, heap1_rel ⟨rfl, cc, tt, fz, hblk, (fun h => by cases h), ?_⟩, heap1_rw _ _, fun l hl => ?_, ?_, ?_⟩
      · intro i e he
        simp only [List.getElem?_map, Option.map_eq_some_iff] at he
        obtain ⟨i', hi', rfl⟩ := he
        have hi2 := List.getElem?_eq_some_iff.1 hi'
        obtain ⟨hlt, hi3⟩ := hi2
        simp at hlt hi3
        subst hi3
        refine ⟨rfl, fun j v hv => ?_⟩
        have hcl := hcell i (by omega)
        match j, hv with
        | 0, hv => cases hv; exact ⟨rfl, _, hcl 0 (by omega), .int _ _⟩
        | 1, hv => cases hv; exact ⟨rfl, _, hcl 1 (by omega), .str _⟩
        | 2, hv => cases hv; exact ⟨rfl, _, hcl 2 (by omega), .int _ _⟩
        | 3, hv => cases hv; exact ⟨rfl, _, hcl 3 (by omega), .int _ _⟩
        | j + 4, hv => simp [Tok.cells] at hv
      · have : l ≠ 0 := by simp only [heap1, AHeap.next_push] at hl; omega
        simp [env1, this]
      · exact .sl 0 0 len none ⟨a.block, a.off, 4, a.off + cap * 4⟩ a cap rfl hlc (fun k hk => by cases hk) (fun _ => ⟨by obtain ⟨b, o, s⟩ := a; cases hsp; simp, by simp⟩)
      · refine .inr ⟨0, 0, none, by simp, .inr ⟨true, _, by unfold heap1; exact AHeap.get_push_same _ _, fun k t hk => ?_⟩⟩
        simp only [List.getElem?_map, Option.map_eq_some_iff] at hk ⊢
        obtain ⟨k', h1, rfl⟩ := hk
        exact ⟨k', by simpa using h1, rfl⟩
    · obtain rfl : cap = 0 := by omega
      obtain rfl : len = 0 := by omega
      refine ⟨[], env1 ⟨0, 0, 4, 0⟩, ⟨.leaf, 1⟩, .sl 0 0 0 4 none, ⟨fun l ro esz els hg => ?_, fun l es hg => ?_, fun l l' loc loc' hl _ _ _ _ => ?_⟩, fun l hl => ?_, fun l hl => ?_, ?_, .inr ⟨0, 0, none, rfl, .inl rfl⟩⟩
      · cases hg' : AHeap.get ⟨.leaf, 1⟩ l <;> simp [AHeap.get, Tr.get_leaf] at hg
      · simp [AHeap.get, Tr.get_leaf] at hg
      · rcases hl with ⟨e, s, hg⟩ | ⟨es, hg⟩ <;> simp [AHeap.get, Tr.get_leaf] at hg
      · rcases hl with ⟨e, s, hg⟩ | ⟨es, hg⟩ <;> simp [AHeap.get, Tr.get_leaf] at hg
      · have : l ≠ 0 := by simp only at hl; omega
        simp [env1, this]
      · exact .sl 0 0 0 none ⟨0, 0, 4, 0⟩ a 0 rfl (Nat.le_refl _) (fun k hk => by cases hk) (fun h => absurd h (by omega))
end Go.Proofs.Ytnjoomfeddamcaa

/-
  Expressions that came in, as the evaluator sees them.
-/
namespace Go.Proofs.Ytnjoomfeddamcaa
open Go.Ev
open Go.ChangeShapes Go.WideShapes Go.ChangeAt Go.RowKit Go.Deep

theorem und35 : P.underlying 35 = some (.slice 39) := by kernel_rfl
theorem cells39 : P.cellsOf 39 = 11 := by kernel_rfl
theorem cells32 : P.cellsOf 32 = 2 := by kernel_rfl
theorem cells37 : P.cellsOf 37 = 3 := by kernel_rfl
theorem cells35 : P.cellsOf 35 = 1 := by kernel_rfl
def okT : Nat → Prop := fun _ => True
theorem KsV.okT {H : AHeap} {ok : Nat → Prop} {ks : List Ex} {v : AV} (h : KsV H ok ks v) : KsV H okT ks v := h.keep (Keep.le' fun _ _ => trivial)
theorem ExV.pur' {H H' : AHeap} {e : Ex} {v : AV} (h : ExV H okT e v) (p : Pur H H') : ExV H' okT e v := ExV.keep (Keep.pur p fun _ h => h) e v h
theorem ElsV.pur' {H H' : AHeap} {es : List Ex} {cs : List (List AV)} (h : ElsV H okT es cs) (p : Pur H H') : ElsV H' okT es cs := ElsV.keep (Keep.pur p fun _ h => h) es cs h
/-- Cells of an expression, read. -/
def OpenEx (W : World) (ρ : Env) (H : AHeap) (cs : List Value) : Prop := ∃ ρ' H' e avs, Seen ρ' H' W ∧ ρ.le ρ' ∧ Pur H H' ∧ VRels ρ' avs cs ∧ avs.length = 11 ∧ avs.all AV.one = true ∧ ExV H' okT e (.agg avs)
/-- The first of a row of expressions. -/
theorem open_els {W : World} {ok : List Value → Prop} (hone : ∀ ρ H cs, Seen ρ H W → ok cs → OpenEx W ρ H cs) {a : Addr} {len : Nat} (hx : ∀ i, i < len → ∃ cs, W.cells? 0 (a.add (i * 11)) 11 = some cs ∧ ok cs) {ρ : Env} {H : AHeap} (hs : Seen ρ H W) :
    ∀ k, k ≤ len → ∃ ρ' H' es els, Seen ρ' H' W ∧ ρ.le ρ' ∧ Pur H H' ∧ es.length = k ∧ els.length = k ∧ ElsV H' okT es els ∧ ∀ (i : Nat) (e : List AV), els[i]? = some e → e.length = 11 ∧ e.all AV.one = true ∧ ∃ cs, W.cells? 0 (a.add (i * 11)) 11 = some cs ∧ VRels ρ' e cs
  | 0, _ => ⟨ρ, H, [], [], hs, Env.le_refl _, .refl _, rfl, rfl, by rw [ElsV]; trivial, fun i e he => by simp at he⟩
  | k + 1, hk => by
    obtain ⟨ρ1, H1, es, els, s1, l1, p1, n1, n2, e1, q1⟩ := open_els hone hx hs k (by omega)
    obtain ⟨cs, hc, hok⟩ := hx k (by omega)
    obtain ⟨ρ2, H2, e, avs, s2, l2, p2, v2, n3, o2, x2⟩ := hone ρ1 H1 cs s1 hok
    refine ⟨ρ2, H2, es ++ [e], els ++ [avs], s2, Env.le_trans l1 l2, p1.trans p2, by simp [n1], by simp [n2], ElsV.append _ _ _ _ (e1.pur' p2) (by omega) x2, fun i e' he => ?_⟩
    by_cases hi : i < els.length
    · rw [List.getElem?_append_left hi] at he
      obtain ⟨r1, r2, cs', r3, r4⟩ := q1 i e' he
      exact ⟨r1, r2, cs', r3, r4.mono l2⟩
    · rw [List.getElem?_append_right (by omega)] at he
      have hi2 : i - els.length = 0 := by
        cases hh : i - els.length with
        | zero => rfl
        | succ m => rw [hh] at he; simp at he
      rw [hi2] at he
      simp only [List.getElem?_cons_zero, Option.some.injEq] at he
      subst he
      obtain rfl : i = k := by omega
      exact ⟨n3, o2, cs, hc, v2⟩
theorem open_ex {H0 : Type} {enc : TypeId × Value → H0} {W : World} : ∀ (n : Nat) (ρ : Env) (H : AHeap) (cs : List Value) (x : DataW H0 × List MemPlace), Seen ρ H W → DataW.trod enc P W 0 (fun _ => true) true n 39 cs = some x → OpenEx W ρ H cs := by
  intro n
  induction n using Nat.strongRecOn with
  | _ n ih =>
  intro ρ H cs x hs h
  have f0 : fldOf P 39 0 = some (3, 0) := by kernel_rfl
  have f1 : fldOf P 39 1 = some (3, 1) := by kernel_rfl
  have f2 : fldOf P 39 2 = some (9, 2) := by kernel_rfl
  have f3 : fldOf P 39 3 = some (32, 3) := by kernel_rfl
  have f4 : fldOf P 39 4 = some (35, 5) := by kernel_rfl
  have f5 : fldOf P 39 5 = some (3, 6) := by kernel_rfl
  have f6 : fldOf P 39 6 = some (37, 7) := by kernel_rfl
  have f7 : fldOf P 39 7 = some (3, 10) := by kernel_rfl
  have o0 : fldOf P 32 0 = some (9, 0) := by kernel_rfl
  have o1 : fldOf P 32 1 = some (3, 1) := by kernel_rfl
  have t0 : fldOf P 37 0 = some (3, 0) := by kernel_rfl
  have t1 : fldOf P 37 1 = some (3, 1) := by kernel_rfl
  have t2 : fldOf P 37 2 = some (3, 2) := by kernel_rfl
  have hl := trod_len f0 h
  rw [cells39] at hl
  match cs, hl with
  | [c0, c1, c2, c3, c4, c5, c6, c7, c8, c9, c10], _ =>
    obtain ⟨_, _, h0⟩ := trod_fld f0 h
    obtain ⟨_, _, h1⟩ := trod_fld f1 h
    obtain ⟨_, _, h2⟩ := trod_fld f2 h
    obtain ⟨_, _, h3⟩ := trod_fld f3 h
    obtain ⟨m, y4, hm, h4⟩ := trod_fldn f4 h
    obtain ⟨_, _, h5⟩ := trod_fld f5 h
    obtain ⟨_, _, h6⟩ := trod_fld f6 h
    obtain ⟨_, _, h7⟩ := trod_fld f7 h
    rw [cells3] at h0 h1 h5 h7
    rw [cells9] at h2
    rw [cells32] at h3
    rw [cells37] at h6
    rw [cells35] at h4
    obtain ⟨_, _, h30⟩ := trod_fld o0 h3
    obtain ⟨_, _, h31⟩ := trod_fld o1 h3
    rw [cells9] at h30
    rw [cells3] at h31
    obtain ⟨_, _, h60⟩ := trod_fld t0 h6
    obtain ⟨_, _, h61⟩ := trod_fld t1 h6
    obtain ⟨_, _, h62⟩ := trod_fld t2 h6
    rw [cells3] at h60 h61 h62
    obtain ⟨k, rfl⟩ := trod_int1 (P := P) und3 h0
    obtain ⟨nn, rfl⟩ := trod_int1 (P := P) und3 h1
    obtain ⟨nm, rfl⟩ := trod_str1 (P := P) und9 h2
    obtain ⟨on, rfl⟩ := trod_str1 (P := P) und9 h30
    obtain ⟨od, rfl⟩ := trod_int1 (P := P) und3 h31
    obtain ⟨ps, rfl⟩ := trod_int1 (P := P) und3 h5
    obtain ⟨tb, rfl⟩ := trod_int1 (P := P) und3 h60
    obtain ⟨tr, rfl⟩ := trod_int1 (P := P) und3 h61
    obtain ⟨td, rfl⟩ := trod_int1 (P := P) und3 h62
    obtain ⟨rf, rfl⟩ := trod_int1 (P := P) und3 h7
    obtain ⟨a, ha⟩ : ∃ a : Ea, a = ⟨k, nn, nm, on, od, ps, tb, tr, td, rf⟩ := ⟨_, rfl⟩
    -- all but the list
    have fin : ∀ (ρ' : Env) (H' : AHeap) (kv : AV) (ks : List Ex), Seen ρ' H' W → ρ.le ρ' → Pur H H' → VRel ρ' kv c5 → kv.one = true → KsV H' okT ks kv → OpenEx W ρ H [.int .i64 k, .int .i64 nn, .string ⟨nm.toArray⟩, .string ⟨on.toArray⟩, .int .i64 od, c5, .int .i64 ps, .int .i64 tb, .int .i64 tr, .int .i64 td, .int .i64 rf] := by
      intro ρ' H' kv ks q1 q2 q3 q4 q5 q6
      refine ⟨ρ', H', .mk a ks, a.cells kv, q1, q2, q3, ?_, rfl, ?_, by rw [ExV_mk]; exact ⟨kv, rfl, q6⟩⟩
      · rw [ha]
        exact .cons _ _ _ _ (.int _ _) (.cons _ _ _ _ (.int _ _) (.cons _ _ _ _ (.str _) (.cons _ _ _ _ (.str _) (.cons _ _ _ _ (.int _ _) (.cons _ _ _ _ q4 (.cons _ _ _ _ (.int _ _) (.cons _ _ _ _ (.int _ _) (.cons _ _ _ _ (.int _ _) (.cons _ _ _ _ (.int _ _) (.cons _ _ _ _ (.int _ _) .nil))))))))))
      · simp only [Ea.cells, List.all_cons, List.all_nil, one_int, one_str, q5, Bool.and_self]
    have hc5 : (List.take 1 (List.drop 5 [Value.int .i64 k, .int .i64 nn, .string ⟨nm.toArray⟩, .string ⟨on.toArray⟩, .int .i64 od, c5, .int .i64 ps, .int .i64 tb, .int .i64 tr, .int .i64 td, .int .i64 rf])) = [c5] := rfl
    rw [hc5] at h4
    rcases open_sl (P := P) und35 h4 with hcs | ⟨ad, len, cap, n', hfu, hcs, hlc, hx⟩
    · cases hcs
      exact fin ρ H .nilSl [] hs (Env.le_refl _) (.refl _) .nilSl rfl (.inl ⟨rfl, rfl⟩)
    · cases hcs
      rw [cells39] at hx
      by_cases hcap : 0 < cap
      · have hx' : ∀ i, i < len → ∃ cs, W.cells? 0 (ad.add (i * 11)) 11 = some cs ∧ ∃ z, DataW.trod enc P W 0 (fun _ => true) true n' 39 cs = some z := fun i hi => by
          exact hx i (by omega)
        have hn' : n' < n := by omega
        obtain ⟨ρ1, H1, es, els, s1, l1, p1, n1, n2, e1, q1⟩ := open_els (ok := fun cs => ∃ z, DataW.trod enc P W 0 (fun _ => true) true n' 39 cs = some z) (fun ρ H cs hs ⟨z, hz⟩ => ih n' hn' ρ H cs z hs hz) hx' hs len (Nat.le_refl _)
        have hsp : ad.spot = none := by
          obtain ⟨cs, g1, _⟩ := hx 0 hcap
          have := (World.cells?_some g1).2.2 0 (by omega)
          obtain ⟨v0, hv0⟩ : ∃ v0, cs[0]? = some v0 := by
            have := (World.cells?_some g1).2.1
            exact ⟨cs[0]'(by omega), by simp⟩
          rw [hv0] at this
          have h2 := World.cell?_spot this
          simpa [Addr.add] using h2
        obtain ⟨cc, tt, fz, hblk⟩ : ∃ cc tt fz, W.heap[ad.block]? = some (.cells cc tt fz) := by
          obtain ⟨cs, g1, _⟩ := hx 0 hcap
          have := (World.cells?_some g1).2.2 0 (by omega)
          obtain ⟨v0, hv0⟩ : ∃ v0, cs[0]? = some v0 := by
            have := (World.cells?_some g1).2.1
            exact ⟨cs[0]'(by omega), by simp⟩
          rw [hv0, add_off hsp, add_off rfl] at this
          unfold World.cell? at this
          simp only at this
          split at this
          · exact ⟨_, _, _, ‹_›⟩
          · cases this
        have hrow : Go.Ev.RowOk ρ1 W ⟨ad.block, ad.off, 11, ad.off + cap * 11⟩ true 11 els := by
          refine ⟨rfl, cc, tt, fz, hblk, (fun h => by cases h), fun i e he => ?_⟩
          obtain ⟨r1, r2, cs, r3, r4⟩ := q1 i e he
          refine ⟨r1, fun j v hv => ?_⟩
          obtain ⟨z, hz1, hz2⟩ := r4.get j v hv
          have hj : j < 11 := by rw [← r1]; exact (List.getElem?_eq_some_iff.1 hv).1
          refine ⟨List.all_eq_true.1 r2 v (List.mem_of_getElem? hv), z, ?_, hz2⟩
          have := (World.cells?_some r3).2.2 j hj
          rw [add_off hsp, add_off rfl, hz1] at this
          unfold World.cell? at this
          simpa [hblk] using this
        have s2 := s1.push hrow
        have l2 := s1.le_upd ⟨ad.block, ad.off, 11, ad.off + cap * 11⟩
        refine fin _ _ (.sl H1.next 0 len 11 none) es s2 (Env.le_trans l1 l2) (p1.then_push _) ?_ rfl (.inr (.inl ⟨H1.next, 0, none, true, els, by rw [n1], trivial, AHeap.get_push_same _ _, e1.pur' (Pur.push _ _)⟩))
        exact .sl H1.next 0 len none ⟨ad.block, ad.off, 11, ad.off + cap * 11⟩ ad cap (by simp [Env.upd]) hlc (fun k hk => by cases hk) (fun _ => ⟨by obtain ⟨b, o, s⟩ := ad; cases hsp; simp, by simp⟩)
      · obtain rfl : cap = 0 := by omega
        obtain rfl : len = 0 := by omega
        have s2 := hs.blank ⟨0, 0, 11, 0⟩
        refine fin _ _ (.sl H.next 0 0 11 none) [] s2 (hs.le_upd _) (Pur.push _ _) ?_ rfl (.inr (.inr ⟨H.next, 0, none, rfl, rfl⟩))
        exact .sl H.next 0 0 none ⟨0, 0, 11, 0⟩ ad 0 (by simp [Env.upd]) (Nat.le_refl _) (fun k hk => by cases hk) (fun h => absurd h (by omega))
end Go.Proofs.Ytnjoomfeddamcaa


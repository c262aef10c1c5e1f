/-
  Texts of one proof, laid together: Rt.
-/
import Derived.Test.YtnjoomfeddamcaaMJ
import Derived.Test.YtnjoomfeddamcaaME
import Derived.Test.YtnjoomfeddamcaaMD
import Derived.Deep.Slices
set_option linter.unusedVariables false
set_option linter.unusedSimpArgs false
namespace Go.Proofs.Ytnjoomfeddamcaa
open Go.Ev
open Go.ChangeShapes Go.WideShapes Go.ChangeAt Go.RowKit Go.Deep
theorem own : ownKnob Try.prog.godebug = none := by kernel_rfl
theorem laidOut : laidOutB Try.prog = true := by kernel_rfl
theorem und3 : P.underlying 3 = some (.int .i64) := by kernel_rfl
theorem und4 : P.underlying 4 = some .bool := by kernel_rfl
theorem und9 : P.underlying 9 = some .string := by kernel_rfl
theorem und22 : P.underlying 22 = some (.slice 65) := by kernel_rfl
theorem cells65 : P.cellsOf 65 = 4 := by kernel_rfl
theorem cells3 : P.cellsOf 3 = 1 := by kernel_rfl
theorem cells9 : P.cellsOf 9 = 1 := by kernel_rfl
theorem trod65 {H : Type} {enc : TypeId × Value → H} {w : World} {n : Nat} {cs : List Value} {x : DataW H × List MemPlace} (h : DataW.trod enc P w 0 (fun _ => true) true n 65 cs = some x) : ∃ t : Tok, cs = [.int .i64 t.kind, .string ⟨t.text.toArray⟩, .int .i64 t.n, .int .i64 t.pos] := by
  have f0 : fldOf P 65 0 = some (3, 0) := by kernel_rfl
  have f1 : fldOf P 65 1 = some (9, 1) := by kernel_rfl
  have f2 : fldOf P 65 2 = some (3, 2) := by kernel_rfl
  have f3 : fldOf P 65 3 = some (3, 3) := by kernel_rfl
  have hl := trod_len f0 h
  rw [cells65] at hl
  match cs, hl with
  | [a, b, c, d], _ =>
    obtain ⟨_, _, h0⟩ := trod_fld f0 h
    obtain ⟨_, _, h1⟩ := trod_fld f1 h
    obtain ⟨_, _, h2⟩ := trod_fld f2 h
    obtain ⟨_, _, h3⟩ := trod_fld f3 h
    rw [cells3] at h0 h2 h3
    rw [cells9] at h1
    obtain ⟨k, rfl⟩ := trod_int1 und3 h0
    obtain ⟨s, rfl⟩ := trod_str1 und9 h1
    obtain ⟨m, rfl⟩ := trod_int1 und3 h2
    obtain ⟨q, rfl⟩ := trod_int1 und3 h3
    exact ⟨⟨k, s, m, q⟩, rfl⟩
set_option maxRecDepth 100000 in
theorem open_toks {H : Type} {enc : TypeId × Value → H} {W : World} {r : Reach} {base : Nat} {v : Value} {d : DataW H} {ps : List MemPlace} (hval : Value.okWide P W r base 22 v) (h : DataW.Trod enc P W 0 (fun _ => true) true 22 v d ps) :
    ∃ (T : List Tok) (ρ : Env) (H : AHeap) (tv : AV), Rel ρ H W ∧ (∀ l, ¬ H.rw l) ∧ (∀ l, H.next ≤ l → ρ l = none) ∧ VRel ρ tv v ∧ TokSl H tv T := by
  obtain ⟨a0, len, cap, rfl⟩ := okWide_slice (P := P) und22 hval
  obtain ⟨fuel, hf⟩ := h
  rcases open_slice (P := P) und22 hf with ⟨hcs, _⟩ | ⟨a, l, c, m, n, D, Pl, hcs, _, hlc, _, hm, _, hx⟩
  · simp [Value.cells] at hcs
    obtain ⟨rfl, rfl, rfl⟩ := hcs
    refine ⟨[], fun _ => none, AHeap.empty, .nilSl, rel_empty W, fun l hl => ?_, fun _ _ => rfl, .nilSl, .inl ⟨rfl, rfl⟩⟩
    rcases hl with ⟨e, s, h⟩ | ⟨es, h⟩ <;> rw [AHeap.empty_get] at h <;> cases h
  · simp [Value.cells] at hcs
    obtain ⟨rfl, rfl, rfl⟩ := hcs
    simp only [if_true] at hm
    replace hm := hm.symm
    subst hm
    rw [cells65] at hx
    have hel : ∀ i, i < cap → ∃ t : Tok, W.cells? 0 (a.add (i * 4)) 4 = some [.int .i64 t.kind, .string ⟨t.text.toArray⟩, .int .i64 t.n, .int .i64 t.pos] := by
      intro i hi
      obtain ⟨cs, h1, h2⟩ := hx i hi
      obtain ⟨t, rfl⟩ := trod65 h2
      exact ⟨t, h1⟩
    obtain ⟨tf, htf⟩ := @choose_lt Tok ⟨Tok.none⟩ cap _ hel
    by_cases hc : 0 < cap
    · have hsp : a.spot = none := by
        have := (World.cells?_some (htf 0 hc)).2.2 0 (by omega)
        have h2 := World.cell?_spot this
        simpa [Addr.add] using h2
      obtain ⟨cc, tt, fz, hblk⟩ : ∃ cc tt fz, W.heap[a.block]? = some (.cells cc tt fz) := by
        have := (World.cells?_some (htf 0 hc)).2.2 0 (by omega)
        rw [add_off hsp, add_off rfl] at this
        unfold World.cell? at this
        simp only at this
        split at this
        · exact ⟨_, _, _, ‹_›⟩
        · cases this
      have hcell : ∀ i, i < cap → ∀ j, j < 4 → cc[a.off + i * 4 + j]? = [Value.int .i64 (tf i).kind, .string ⟨(tf i).text.toArray⟩, .int .i64 (tf i).n, .int .i64 (tf i).pos][j]? := by
        intro i hi j hj
        have := (World.cells?_some (htf i hi)).2.2 j hj
        rw [add_off hsp, add_off rfl] at this
        unfold World.cell? at this
        simpa [hblk] using this
      refine ⟨(List.range len).map tf, env1 ⟨a.block, a.off, 4, a.off + cap * 4⟩, heap1 4 ((List.range len).map fun i => (tf i).cells), .sl 0 0 len 4 none, heap1_rel ⟨rfl, cc, tt, fz, hblk, (fun h => by cases h), ?_⟩, heap1_rw _ _, fun l hl => ?_, ?_, ?_⟩
      · intro i e he
        simp only [List.getElem?_map, Option.map_eq_some_iff] at he
        obtain ⟨i', hi', rfl⟩ := he
        have hi2 := List.getElem?_eq_some_iff.1 hi'
        obtain ⟨hlt, hi3⟩ := hi2
        simp at hlt hi3
        subst hi3
        refine ⟨rfl, fun j v hv => ?_⟩
        have hcl := hcell i (by omega)
        match j, hv with
        | 0, hv => cases hv; exact ⟨rfl, _, hcl 0 (by omega), .int _ _⟩
        | 1, hv => cases hv; exact ⟨rfl, _, hcl 1 (by omega), .str _⟩
        | 2, hv => cases hv; exact ⟨rfl, _, hcl 2 (by omega), .int _ _⟩
        | 3, hv => cases hv; exact ⟨rfl, _, hcl 3 (by omega), .int _ _⟩
        | j + 4, hv => simp [Tok.cells] at hv
      · have : l ≠ 0 := by simp only [heap1, AHeap.next_push] at hl; omega
        simp [env1, this]
      · exact .sl 0 0 len none ⟨a.block, a.off, 4, a.off + cap * 4⟩ a cap rfl hlc (fun k hk => by cases hk) (fun _ => ⟨by obtain ⟨b, o, s⟩ := a; cases hsp; simp, by simp⟩)
      · refine .inr ⟨0, 0, none, by simp, .inr ⟨true, _, by unfold heap1; exact AHeap.get_push_same _ _, fun k t hk => ?_⟩⟩
        simp only [List.getElem?_map, Option.map_eq_some_iff] at hk ⊢
        obtain ⟨k', h1, rfl⟩ := hk
        exact ⟨k', by simpa using h1, rfl⟩
    · obtain rfl : cap = 0 := by omega
      obtain rfl : len = 0 := by omega
      refine ⟨[], env1 ⟨0, 0, 4, 0⟩, ⟨.leaf, 1⟩, .sl 0 0 0 4 none, ⟨fun l ro esz els hg => ?_, fun l es hg => ?_, fun l l' loc loc' hl _ _ _ _ => ?_⟩, fun l hl => ?_, fun l hl => ?_, ?_, .inr ⟨0, 0, none, rfl, .inl rfl⟩⟩
      · cases hg' : AHeap.get ⟨.leaf, 1⟩ l <;> simp [AHeap.get, Tr.get_leaf] at hg
      · simp [AHeap.get, Tr.get_leaf] at hg
      · rcases hl with ⟨e, s, hg⟩ | ⟨es, hg⟩ <;> simp [AHeap.get, Tr.get_leaf] at hg
      · rcases hl with ⟨e, s, hg⟩ | ⟨es, hg⟩ <;> simp [AHeap.get, Tr.get_leaf] at hg
      · have : l ≠ 0 := by simp only at hl; omega
        simp [env1, this]
      · exact .sl 0 0 0 none ⟨0, 0, 4, 0⟩ a 0 rfl (Nat.le_refl _) (fun k hk => by cases hk) (fun h => absurd h (by omega))
end Go.Proofs.Ytnjoomfeddamcaa


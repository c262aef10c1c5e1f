/-
  Texts of one proof, laid together: Tab Fv26 ShA Ls Sp Fds X1 Lx L1.
-/
import Derived.Test.YtgcamjgnfeajiaaDoorMD
import Derived.WalkKit
import Derived.ProofKit
import Derived.OpenShut
import Derived.ShutString
import Derived.ChangeOld
import Derived.Below
import Derived.Carry
set_option linter.unusedVariables false
set_option linter.unusedSimpArgs false
namespace Go.Proofs.YtgcamjgnfeajiaaDoor
open Go.Ev
theorem ta3 : tyAgg P 3 = some false := by kernel_rfl
theorem ts3 : tySize P 3 = some 1 := by kernel_rfl
theorem ta4 : tyAgg P 4 = some false := by kernel_rfl
theorem ts4 : tySize P 4 = some 1 := by kernel_rfl
theorem eq4 {c : Bool} (a b : Bool) : fbin P .eql 4 c (.bool a) (.bool b) = some (.bool (a == b)) := by kernel_rfl
theorem ne4 {c : Bool} (a b : Bool) : fbin P .neq 4 c (.bool a) (.bool b) = some (.bool (!(a == b))) := by kernel_rfl
theorem ta5 : tyAgg P 5 = some false := by kernel_rfl
theorem ts5 : tySize P 5 = some 1 := by kernel_rfl
theorem ta9 : tyAgg P 9 = some false := by kernel_rfl
theorem ts9 : tySize P 9 = some 1 := by kernel_rfl
theorem ln9 {H : AHeap} {s : List UInt8} : abuiltin P H .len [9] [.str s] = some (.int .i64 s.length) := by kernel_rfl
theorem ta22 : tyAgg P 22 = some false := by kernel_rfl
theorem ts22 : tySize P 22 = some 1 := by kernel_rfl
theorem ia22' (l i n : Nat) (cap : Option Nat) (k : Int) : aindexAddr P 22 (.sl l i n 4 cap) (.int .i64 k) = if 4 = 4 ∧ 0 ≤ k ∧ k < n then some (.ptr l (i + k.toNat) 0) else none := by kernel_rfl
theorem ia22 {l i n : Nat} {cap : Option Nat} {k : Int} (h0 : 0 ≤ k) (h1 : k < n) : aindexAddr P 22 (.sl l i n 4 cap) (.int .i64 k) = some (.ptr l (i + k.toNat) 0) := by rw [ia22', if_pos ⟨rfl, h0, h1⟩]
theorem ln22 {H : AHeap} {l i n e : Nat} {cap : Option Nat} : abuiltin P H .len [22] [.sl l i n e cap] = some (.int .i64 n) := by kernel_rfl
theorem ln22n {H : AHeap} : abuiltin P H .len [22] [.nilSl] = some (.int .i64 0) := by kernel_rfl
theorem ta23 : tyAgg P 23 = some false := by kernel_rfl
theorem ts23 : tySize P 23 = some 1 := by kernel_rfl
theorem ta25 : tyAgg P 25 = some true := by kernel_rfl
theorem ts25 : tySize P 25 = some 2 := by kernel_rfl
theorem fa25_0 (l i c : Nat) : afieldAddr P 25 (.ptr l i c) 0 = some (.ptr l i (c + 0)) := by kernel_rfl
theorem fl25_0 (a0 a1 : AV) : afield P 25 (.agg [a0, a1]) 0 = some a0 := by kernel_rfl
theorem fa25_1 (l i c : Nat) : afieldAddr P 25 (.ptr l i c) 1 = some (.ptr l i (c + 1)) := by kernel_rfl
theorem fl25_1 (a0 a1 : AV) : afield P 25 (.agg [a0, a1]) 1 = some a1 := by kernel_rfl
theorem ta31 : tyAgg P 31 = some false := by kernel_rfl
theorem ts31 : tySize P 31 = some 1 := by kernel_rfl
theorem ia31' (l i n : Nat) (cap : Option Nat) (k : Int) : aindexAddr P 31 (.sl l i n 1 cap) (.int .i64 k) = if 1 = 1 ∧ 0 ≤ k ∧ k < n then some (.ptr l (i + k.toNat) 0) else none := by kernel_rfl
theorem ia31 {l i n : Nat} {cap : Option Nat} {k : Int} (h0 : 0 ≤ k) (h1 : k < n) : aindexAddr P 31 (.sl l i n 1 cap) (.int .i64 k) = some (.ptr l (i + k.toNat) 0) := by rw [ia31', if_pos ⟨rfl, h0, h1⟩]
theorem ln31 {H : AHeap} {l i n e : Nat} {cap : Option Nat} : abuiltin P H .len [31] [.sl l i n e cap] = some (.int .i64 n) := by kernel_rfl
theorem ln31n {H : AHeap} : abuiltin P H .len [31] [.nilSl] = some (.int .i64 0) := by kernel_rfl
theorem ta34 : tyAgg P 34 = some true := by kernel_rfl
theorem ts34 : tySize P 34 = some 4 := by kernel_rfl
theorem fa34_0 (l i c : Nat) : afieldAddr P 34 (.ptr l i c) 0 = some (.ptr l i (c + 0)) := by kernel_rfl
theorem fl34_0 (a0 a1 a2 a3 : AV) : afield P 34 (.agg [a0, a1, a2, a3]) 0 = some a0 := by kernel_rfl
theorem fa34_1 (l i c : Nat) : afieldAddr P 34 (.ptr l i c) 1 = some (.ptr l i (c + 1)) := by kernel_rfl
theorem fl34_1 (a0 a1 a2 a3 : AV) : afield P 34 (.agg [a0, a1, a2, a3]) 1 = some a1 := by kernel_rfl
theorem fa34_2 (l i c : Nat) : afieldAddr P 34 (.ptr l i c) 2 = some (.ptr l i (c + 2)) := by kernel_rfl
theorem fl34_2 (a0 a1 a2 a3 : AV) : afield P 34 (.agg [a0, a1, a2, a3]) 2 = some a2 := by kernel_rfl
theorem fa34_3 (l i c : Nat) : afieldAddr P 34 (.ptr l i c) 3 = some (.ptr l i (c + 3)) := by kernel_rfl
theorem fl34_3 (a0 a1 a2 a3 : AV) : afield P 34 (.agg [a0, a1, a2, a3]) 3 = some a3 := by kernel_rfl
theorem ta37 : tyAgg P 37 = some false := by kernel_rfl
theorem ts37 : tySize P 37 = some 1 := by kernel_rfl
theorem ia37' (l i n : Nat) (cap : Option Nat) (k : Int) : aindexAddr P 37 (.sl l i n 1 cap) (.int .i64 k) = if 1 = 1 ∧ 0 ≤ k ∧ k < n then some (.ptr l (i + k.toNat) 0) else none := by kernel_rfl
theorem ia37 {l i n : Nat} {cap : Option Nat} {k : Int} (h0 : 0 ≤ k) (h1 : k < n) : aindexAddr P 37 (.sl l i n 1 cap) (.int .i64 k) = some (.ptr l (i + k.toNat) 0) := by rw [ia37', if_pos ⟨rfl, h0, h1⟩]
theorem ln37 {H : AHeap} {l i n e : Nat} {cap : Option Nat} : abuiltin P H .len [37] [.sl l i n e cap] = some (.int .i64 n) := by kernel_rfl
theorem ln37n {H : AHeap} : abuiltin P H .len [37] [.nilSl] = some (.int .i64 0) := by kernel_rfl
theorem ta57 : tyAgg P 57 = some false := by kernel_rfl
theorem ts57 : tySize P 57 = some 1 := by kernel_rfl
theorem bd25_0 (a0 : Int) : abuild P 25 [(0, (.int .i64 a0))] = some (.agg [(.int .i64 a0), (.int .i64 0)]) := by kernel_rfl
theorem bd25_0_1 (a0 : Int) (a1 : Int) : abuild P 25 [(0, (.int .i64 a0)), (1, (.int .i64 a1))] = some (.agg [(.int .i64 a0), (.int .i64 a1)]) := by kernel_rfl
theorem bd34_0_3 (a0 : Int) (a3 : Int) : abuild P 34 [(0, (.int .i64 a0)), (3, (.int .i64 a3))] = some (.agg [(.int .i64 a0), (.str []), (.int .i64 0), (.int .i64 a3)]) := by kernel_rfl
theorem bd34_0_1 (a0 : Int) (a1 : List UInt8) : abuild P 34 [(0, (.int .i64 a0)), (1, (.str a1))] = some (.agg [(.int .i64 a0), (.str a1), (.int .i64 0), (.int .i64 0)]) := by kernel_rfl
theorem bd34_0_1_3 (a0 : Int) (a1 : List UInt8) (a3 : Int) : abuild P 34 [(0, (.int .i64 a0)), (1, (.str a1)), (3, (.int .i64 a3))] = some (.agg [(.int .i64 a0), (.str a1), (.int .i64 0), (.int .i64 a3)]) := by kernel_rfl
theorem bd34_0_2_3 (a0 : Int) (a2 : Int) (a3 : Int) : abuild P 34 [(0, (.int .i64 a0)), (2, (.int .i64 a2)), (3, (.int .i64 a3))] = some (.agg [(.int .i64 a0), (.str []), (.int .i64 a2), (.int .i64 a3)]) := by kernel_rfl
theorem bd34_0_2 (a0 : Int) (a2 : Int) : abuild P 34 [(0, (.int .i64 a0)), (2, (.int .i64 a2))] = some (.agg [(.int .i64 a0), (.str []), (.int .i64 a2), (.int .i64 0)]) := by kernel_rfl
end Go.Proofs.YtgcamjgnfeajiaaDoor

namespace Go.Ev
open Go.ChangeShapes Go.WideShapes Go.ChangeAt Go.RowKit
def LawOk (E : Env) (P : Program) (f : Nat) (args : List Value) (W : World) : Prop :=
  ∃ (ρ : Env) (H : AHeap) (avs : List AV) (H' : AHeap), Rel ρ H W ∧ (∀ l, ¬ H.rw l) ∧ (∀ l, H.next ≤ l → ρ l = none) ∧ E.le ρ ∧ H.next ≤ H'.next ∧ VRels ρ avs args ∧ CallOk1 E P f avs H (.bool true) H'
theorem law_walk {E : Env} {P : Program} {f : Nat} {fn : Func} {c : Code} {args : List Value} {W : World} (hP : ProgOk P) (hfn : P.funcs[f]? = some fn) (hc : fn.body = some c) (h : LawOk E P f args W) :
    Calls P f args.toArray W fun e w' => e = .returned (.bool true) ∧ Below W.heap.size W w' := by
  obtain ⟨ρ, H, avs, H', h1, h2, h3, hE, h4, h5, h6⟩ := h
  have hno : ∀ b, ¬ Owned ρ H b := by rintro b ⟨l, loc, hl, _⟩; exact h2 l hl
  have hup := h6 ρ W args h1 ⟨fun l hl _ => h3 l hl, hE⟩ h5 h4 (fun x w' => x = .bool true ∧ Below W.heap.size W w') (fun x w' ρ' hx hs => by
    cases hx
    exact ⟨rfl, hs.os, hs.tape, hs.output, hs.size, fun k hk => hs.frame k hk (hno k)⟩)
  have hname : (fn.name == "runtime.NumGoroutine") = false := hP.names fn (Array.mem_of_getElem? hfn)
  have hrun : (callFunc f args.toArray).run P W = .ok (.enter f args.toArray) W := by
    unfold callFunc
    simp [hfn, hc]
    intro hh
    simp [hh] at hname
  unfold Upon at hup
  rw [hrun] at hup
  simp only at hup
  refine hup.mono fun e w' hr => ?_
  split at hr
  · exact ⟨by rw [hr.1], hr.2⟩
  · exact hr.elim
theorem trodAll_below {H : Type} {enc : TypeId × Value → H} {P : Program} {W W' : World} (hl : laidOutB P = true) (hb : Below W.heap.size W W') : ∀ {ts : List TypeId} {vs : List Value} {ds : List (DataW H)} {ps : List MemPlace}, (∀ t ∈ ts, P.readableRec t = true ∧ t < P.types.size) →
    DataW.TrodAll enc P W 0 (fun _ => true) true ts vs ds ps → ∃ ps', DataW.TrodAll enc P W' 0 (fun b => decide (b < W.heap.size)) true ts vs ds ps'
  | [], vs, ds, ps, _, h => by
    obtain ⟨rfl, rfl, rfl⟩ := trodAll_nil h
    exact ⟨[], trodAll_mk0⟩
  | t :: ts, vs, ds, ps, ht, h => by
    obtain ⟨v, vs', d, ds', p, q, rfl, rfl, rfl, h1, h2⟩ := trodAll_cons h
    obtain ⟨ps', h3⟩ := trodAll_below hl hb (fun t ht' => ht t (List.mem_cons_of_mem _ ht')) h2
    have hlt : ∀ x ∈ p, x.block < W.heap.size := by obtain ⟨m, hm⟩ := h1; exact DataW.trod_lt m _ _ _ hm
    exact ⟨_, trodAll_cons_mk (Below.trod hl (ht t (List.mem_cons_self ..)).1 (ht t (List.mem_cons_self ..)).2 h1 hb hlt) h3⟩
theorem law_plain {P : Program} {f : Nat} {args : List Value} {W : World} {avs : List AV} {H' : AHeap} (h : VRels (fun _ => none) avs args) (hc : CallOk1 (fun _ => none) P f avs AHeap.empty (.bool true) H') : LawOk (fun _ => none) P f args W :=
  have hno : ∀ l, ¬ AHeap.empty.rw l := fun l hl => by
    rcases hl with ⟨e, s, h⟩ | ⟨es, h⟩ <;> rw [AHeap.empty_get] at h <;> cases h
  ⟨fun _ => none, AHeap.empty, avs, H', rel_empty W, hno, fun _ _ => rfl, Env.le_refl _, Nat.zero_le _, h, hc⟩
def env1 (loc : Loc) : Env := fun l => if l = 0 then some loc else none
def heap1 (esz : Nat) (els : List (List AV)) : AHeap := AHeap.empty.push (.row true esz els)
theorem heap1_get (esz : Nat) (els : List (List AV)) (l : Nat) (b : ABlk) (h : (heap1 esz els).get l = some b) : l = 0 ∧ b = .row true esz els := by
  unfold heap1 at h
  rw [AHeap.get_push] at h
  split at h
  · rename_i hl; exact ⟨hl, (Option.some.inj h).symm⟩
  · rw [AHeap.empty_get] at h; cases h
theorem heap1_rel {loc : Loc} {esz : Nat} {els : List (List AV)} {w : World} (h : RowOk (env1 loc) w loc true esz els) : Rel (env1 loc) (heap1 esz els) w := by
  refine ⟨fun l ro e s hg => ?_, fun l es hg => ?_, fun l l' loc loc' hl _ _ _ _ => ?_⟩
  · obtain ⟨rfl, hb⟩ := heap1_get _ _ _ _ hg
    cases hb
    exact ⟨loc, rfl, h⟩
  · obtain ⟨rfl, hb⟩ := heap1_get _ _ _ _ hg
    cases hb
  · rcases hl with ⟨e, s, hg⟩ | ⟨es, hg⟩ <;> obtain ⟨_, hb⟩ := heap1_get _ _ _ _ hg <;> cases hb
theorem heap1_rw (esz : Nat) (els : List (List AV)) (l : Nat) : ¬ (heap1 esz els).rw l := by
  rintro (⟨e, s, hg⟩ | ⟨es, hg⟩) <;> obtain ⟨_, hb⟩ := heap1_get _ _ _ _ hg <;> cases hb
theorem add_off {a : Addr} (h : a.spot = none) (j : Nat) : a.add j = ⟨a.block, a.off + j, none⟩ := by
  obtain ⟨b, o, s⟩ := a
  cases h
  exact addr_add b o j
structure Seen (ρ : Env) (H : AHeap) (W : World) : Prop where
  rel : Rel ρ H W
  ro : ∀ l, ¬ H.rw l
  top : ∀ l, H.next ≤ l → ρ l = none
theorem Seen.empty (W : World) : Seen (fun _ => none) AHeap.empty W :=
  have hno : ∀ l, ¬ AHeap.empty.rw l := fun l hl => by
    rcases hl with ⟨e, s, h⟩ | ⟨es, h⟩ <;> rw [AHeap.empty_get] at h <;> cases h
  ⟨rel_empty W, hno, fun _ _ => rfl⟩
theorem Seen.le_upd {ρ : Env} {H : AHeap} {W : World} (h : Seen ρ H W) (loc : Go.Ev.Loc) : ρ.le (ρ.upd H.next loc) := fun l loc' e => by
  have : l ≠ H.next := by rintro rfl; rw [h.top _ (Nat.le_refl _)] at e; cases e
  simp only [Env.upd, if_neg this]; exact e
theorem RowOk.mono {ρ ρ' : Env} (hle : ρ.le ρ') {w : World} {loc : Go.Ev.Loc} {ro : Bool} {esz : Nat} {els : List (List AV)} (h : RowOk ρ w loc ro esz els) : RowOk ρ' w loc ro esz els := by
  obtain ⟨h1, c, t, fz, h2, h3, h4⟩ := h
  refine ⟨h1, c, t, fz, h2, h3, fun i e he => ⟨(h4 i e he).1, fun j v hv => ?_⟩⟩
  obtain ⟨q1, x, q2, q3⟩ := (h4 i e he).2 j v hv
  exact ⟨q1, x, q2, q3.mono hle⟩
theorem Seen.push {ρ : Env} {H : AHeap} {W : World} (h : Seen ρ H W) {loc : Go.Ev.Loc} {esz : Nat} {els : List (List AV)} (hr : RowOk ρ W loc true esz els) : Seen (ρ.upd H.next loc) (H.push (.row true esz els)) W := by
  have hle := h.le_upd loc
  have hrw : ∀ l, ¬ (H.push (.row true esz els)).rw l := by
    rintro l (⟨e, s, hg⟩ | ⟨es, hg⟩)
    · rw [AHeap.get_push] at hg
      split at hg
      · cases hg
      · exact h.ro l (.inl ⟨e, s, hg⟩)
    · rw [AHeap.get_push] at hg
      split at hg
      · cases hg
      · exact h.ro l (.inr ⟨es, hg⟩)
  refine ⟨⟨fun l ro e s hg => ?_, fun l es hg => ?_, fun l l' _ _ hl => absurd hl (hrw l)⟩, hrw, fun l hl => ?_⟩
  · rw [AHeap.get_push] at hg
    split at hg
    · rename_i hl
      cases hg
      exact ⟨loc, by simp [Env.upd, hl], hr.mono hle⟩
    · obtain ⟨loc', h1, h2⟩ := h.rel.row l ro e s hg
      exact ⟨loc', hle _ _ h1, h2.mono hle⟩
  · exact absurd (.inr ⟨es, hg⟩) (hrw l)
  · simp only [AHeap.next_push] at hl
    have : l ≠ H.next := by omega
    simp only [Env.upd, if_neg this]
    exact h.top l (by omega)
theorem Seen.blank {ρ : Env} {H : AHeap} {W : World} (h : Seen ρ H W) (loc : Go.Ev.Loc) : Seen (ρ.upd H.next loc) (H.push .dead) W := by
  have hle := h.le_upd loc
  have hrw : ∀ l, ¬ (H.push .dead).rw l := by
    rintro l (⟨e, s, hg⟩ | ⟨es, hg⟩)
    · rw [AHeap.get_push] at hg
      split at hg
      · cases hg
      · exact h.ro l (.inl ⟨e, s, hg⟩)
    · rw [AHeap.get_push] at hg
      split at hg
      · cases hg
      · exact h.ro l (.inr ⟨es, hg⟩)
  refine ⟨⟨fun l ro e s hg => ?_, fun l es hg => ?_, fun l l' _ _ hl => absurd hl (hrw l)⟩, hrw, fun l hl => ?_⟩
  · rw [AHeap.get_push] at hg
    split at hg
    · cases hg
    · obtain ⟨loc', h1, h2⟩ := h.rel.row l ro e s hg
      exact ⟨loc', hle _ _ h1, h2.mono hle⟩
  · exact absurd (.inr ⟨es, hg⟩) (hrw l)
  · simp only [AHeap.next_push] at hl
    have : l ≠ H.next := by omega
    simp only [Env.upd, if_neg this]
    exact h.top l (by omega)
def fldOf (P : Program) (t i : Nat) : Option (Nat × Nat) := match P.underlying t with
  | some (.struct fs) => (fs[i]?).map fun f => (f.type, f.offset)
  | _ => none
theorem trod_fld {H : Type} {enc : TypeId × Value → H} {P : Program} {w : World} {base : Nat} {sp : Nat → Bool} {held : Bool} {n t : Nat} {cs : List Value} {x : DataW H × List MemPlace} {i ty off : Nat}
    (hf : fldOf P t i = some (ty, off)) (h : DataW.trod enc P w base sp held n t cs = some x) : ∃ m y, DataW.trod enc P w base sp held m ty ((cs.drop off).take (P.cellsOf ty)) = some y := by
  unfold fldOf at hf
  split at hf
  · rename_i fs ht
    obtain ⟨f, h1, h2⟩ := Option.map_eq_some_iff.1 hf
    simp only [Prod.mk.injEq] at h2
    obtain ⟨rfl, rfl⟩ := h2
    obtain ⟨xs, m, _, _, _, hl, hx⟩ := DataW.trod_struct ht h
    have hi : i < xs.length := by rw [hl]; exact (Array.getElem?_eq_some_iff.1 h1).1
    exact ⟨m, xs[i], by rw [hx i f h1]; simp [hi]⟩
  · cases hf
theorem trod_fldn {H : Type} {enc : TypeId × Value → H} {P : Program} {w : World} {base : Nat} {sp : Nat → Bool} {held : Bool} {n t : Nat} {cs : List Value} {x : DataW H × List MemPlace} {i ty off : Nat}
    (hf : fldOf P t i = some (ty, off)) (h : DataW.trod enc P w base sp held n t cs = some x) : ∃ m y, m < n ∧ DataW.trod enc P w base sp held m ty ((cs.drop off).take (P.cellsOf ty)) = some y := by
  unfold fldOf at hf
  split at hf
  · rename_i fs ht
    obtain ⟨f, h1, h2⟩ := Option.map_eq_some_iff.1 hf
    simp only [Prod.mk.injEq] at h2
    obtain ⟨rfl, rfl⟩ := h2
    obtain ⟨xs, m, hm, _, _, hl, hx⟩ := DataW.trod_struct ht h
    have hi : i < xs.length := by rw [hl]; exact (Array.getElem?_eq_some_iff.1 h1).1
    exact ⟨m, xs[i], by omega, by rw [hx i f h1]; simp [hi]⟩
  · cases hf
theorem trod_len {H : Type} {enc : TypeId × Value → H} {P : Program} {w : World} {base : Nat} {sp : Nat → Bool} {held : Bool} {n t : Nat} {cs : List Value} {x : DataW H × List MemPlace} {i ty off : Nat}
    (hf : fldOf P t i = some (ty, off)) (h : DataW.trod enc P w base sp held n t cs = some x) : cs.length = P.cellsOf t := by
  unfold fldOf at hf
  split at hf
  · rename_i fs ht
    obtain ⟨xs, m, _, _, hl, _⟩ := DataW.trod_struct ht h
    exact hl
  · cases hf
theorem trod_int1 {H : Type} {enc : TypeId × Value → H} {P : Program} {w : World} {base : Nat} {sp : Nat → Bool} {held : Bool} {n t : Nat} {v : Value} {x : DataW H × List MemPlace} {k : IntKind}
    (ht : P.underlying t = some (.int k)) (h : DataW.trod enc P w base sp held n t [v] = some x) : ∃ z, v = .int k z := by
  obtain ⟨z, h1, _⟩ := DataW.trod_int ht h
  simp only [List.cons.injEq, and_true] at h1
  exact ⟨z, h1⟩
theorem trod_str1 {H : Type} {enc : TypeId × Value → H} {P : Program} {w : World} {base : Nat} {sp : Nat → Bool} {held : Bool} {n t : Nat} {v : Value} {x : DataW H × List MemPlace}
    (ht : P.underlying t = some .string) (h : DataW.trod enc P w base sp held n t [v] = some x) : ∃ s : List UInt8, v = .string ⟨s.toArray⟩ := by
  obtain ⟨s, h1, _⟩ := DataW.trod_string ht h
  simp only [List.cons.injEq, and_true] at h1
  exact ⟨s.data.toList, by rw [h1]⟩
theorem open_sl {H : Type} {enc : TypeId × Value → H} {P : Program} {w : World} {fuel t e : Nat} {cs : List Value} {x : DataW H × List MemPlace} (ht : P.underlying t = some (.slice e)) (h : DataW.trod enc P w 0 (fun _ => true) true fuel t cs = some x) :
    cs = [.slice none 0 0] ∨ ∃ a len cap q, fuel = q + 1 ∧ cs = [.slice (some a) len cap] ∧ len ≤ cap ∧ ∀ i, i < cap → ∃ cs', w.cells? 0 (a.add (i * P.cellsOf e)) (P.cellsOf e) = some cs' ∧ ∃ z, DataW.trod enc P w 0 (fun _ => true) true q e cs' = some z := by
  rcases DataW.trod_slice ht h with ⟨h0, _⟩ | ⟨a, len, cap, elems, rest, n, hf, rfl, _, _, hl, _, hlen, hel, hsp, _⟩
  · exact .inl h0
  · refine .inr ⟨a, len, cap, n, hf, rfl, hl, fun i hi => ?_⟩
    obtain ⟨hr, hrest⟩ := hsp rfl
    have key : ∃ z, (w.cells? 0 (a.add (i * P.cellsOf e)) (P.cellsOf e)).bind (DataW.trod enc P w 0 (fun _ => true) true n e) = some z := by
      by_cases hil : i < len
      · exact ⟨elems[i]'(by omega), by rw [hel i hil]; simp⟩
      · have hj : i - len < cap - len := by omega
        have := hrest (i - len) hj
        rw [show len + (i - len) = i by omega] at this
        exact ⟨rest[i - len]'(by omega), by rw [this]; simp⟩
    obtain ⟨z, hz⟩ := key
    obtain ⟨cs', h1, h2⟩ := Option.bind_eq_some_iff.1 hz
    exact ⟨cs', h1, z, h2⟩
end Go.Ev

namespace Go.Proofs.YtgcamjgnfeajiaaDoor
open Go.Ev
set_option maxRecDepth 100000
noncomputable section
def s10_j0 (G : CallT) (N : Nat) (x0 x3 x4 : AV) (H : AHeap) : O :=
 xlen P .len [9] [x0] H fun x39 =>
 xb (abuild P 34 [(0, (.int .i64 0)), (3, x39)]) fun x40 =>
 xmake H (sliceOf P (H).next 22 1 [(0, x40)]) fun x41 h1 =>
 xcall h1 (aappend P h1 [22, 22] x4 x41) fun x42 h2 =>
 xstore h2 (astore P h2 25 x3 (.agg [(.int .i64 0), (.int .i64 0)])) fun h3 =>
 xb (aload P h3 25 x3) fun r =>
 some (.tuple [x42, r], h3)
theorem s10_j0_eq (G : CallT) (N : Nat) : ∀ R H, codeC P G N (Code.snd (Code.snd (Code.snd (Code.snd (Code.snd (bodyOf Tryd.f10)))))) (rC Tryd.f10) [] (rC Tryd.f10) R H = s10_j0 G N (R 0) (R 3) (R 4) H := by
 refine via_trans (via_leaf _) fun R H => ?_
 delta s10_j0
 kernel_rfl
def s10_13 (L1 : AV → AV → AV → AV → AHeap → O) (x0 x3 : AV) (x31 x36 : AV) (h6 : AHeap) : O :=
 L1 x0 x3 x31 x36 h6
def s10_b1 (G : CallT) (N : Nat) (L1 : AV → AV → AV → AV → AHeap → O) (x0 x3 : AV) (x4 x5 : AV) (H : AHeap) : O :=
 xlen P .len [9] [x0] H fun x16 =>
 xb (fbin P .lss 3 false x5 x16) fun x17 =>
 xif (some x17) (xcall H (G 21 [x0, x5] H) fun x21 h1 =>
 xb (aextract x21 0) fun x22 =>
 xb (aextract x21 1) fun x23 =>
 xalloc h1 [(.int .i64 0), (.str []), (.int .i64 0), (.int .i64 0)] fun x6 h2 =>
 xstore h2 (astore P h2 34 x6 x22) fun h3 =>
 xb (fbin P .eql 3 true x23 (.int .i64 0)) fun x25 =>
 xif (some x25) (xb (abuild P 25 [(0, (.int .i64 1)), (1, x5)]) fun x27 =>
 xstore h3 (astore P h3 25 x3 x27) fun h4 =>
 xb (aload P h4 25 x3) fun r =>
 some (.tuple [AV.nilSl, r], h4)) (xb (aload P h3 34 x6) fun x29 =>
 xmake h3 (sliceOf P (h3).next 22 1 [(0, x29)]) fun x30 h4 =>
 xcall h4 (aappend P h4 [22, 22] x4 x30) fun x31 h5 =>
 xb (fbin P .add 3 false x5 x23) fun x35 =>
 xcall h5 (G 20 [x0, x35] h5) (s10_13 L1 x0 x3 x31))) (s10_j0 G N x0 x3 x4 H)
def s10_l1 (G : CallT) (N : Nat) : Nat → AV → AV → AV → AV → AHeap → O
 | 0, _, _, _, _, _ => none
 | n + 1, x0, x3, x4, x5, H => s10_b1 G N (s10_l1 G N n) x0 x3 x4 x5 H
theorem s10_b1_eq (G : CallT) (N : Nat) (L1 : AV → AV → AV → AV → AHeap → O) : ∀ R H, codeC P G N (Code.fst (Code.fst (Code.fst (Code.snd (Code.snd (Code.snd (Code.snd (bodyOf Tryd.f10)))))))) (fun R H => L1 (R 0) (R 3) (R 4) (R 5) H) [(0, (fun R H => s10_j0 G N (R 0) (R 3) (R 4) H))] (rC Tryd.f10) R H = s10_b1 G N L1 (R 0) (R 3) (R 4) (R 5) H := by
 refine via_trans (via_leaf _) fun R H => ?_
 delta s10_b1 s10_13
 generalize s10_j0 G N = J0
 revert J0
 refine id ?_
 intro J0
 kernel_rfl
def s10_29 (G : CallT) (N : Nat) (x0 x3 x13 : AV) (h2 : AHeap) : O :=
 s10_l1 G N N x0 x3 AV.nilSl x13 h2
def s10 (G : CallT) (N : Nat) (x0 : AV) (H : AHeap) : O :=
 xalloc H [(.int .i64 0), (.int .i64 0)] fun x3 h1 =>
 xlen P .len [9] [x0] h1 fun x9 =>
 xb (fbin P .gtr 3 true x9 (.int .i64 6000)) fun x10 =>
 xif (some x10) (xstore h1 (astore P h1 25 x3 (.agg [(.int .i64 4), (.int .i64 0)])) fun h2 =>
 xb (aload P h2 25 x3) fun r =>
 some (.tuple [AV.nilSl, r], h2)) (xcall h1 (G 20 [x0, (.int .i64 0)] h1) (s10_29 G N x0 x3))
theorem s10_eq (G : CallT) (N : Nat) (x0 : AV) (H : AHeap) : cF Tryd.f10 G N (argsF [x0]) H = s10 G N x0 H := by
 refine via_top (A := cF Tryd.f10 G N) ((via_seq (by kernel_rfl) ((via_seq (by kernel_rfl) ((via_seq (by kernel_rfl) ((via_seq (by kernel_rfl) ((via_seq (by kernel_rfl) (s10_j0_eq G N) ((via_block (by kernel_rfl) ((via_loop (k := fun m R H => s10_l1 G N m (R 0) (R 3) (R 4) (R 5) H) (by kernel_rfl) (fun R H => by kernel_rfl) (fun m => s10_b1_eq G N (s10_l1 G N m)))))))) (via_leaf _))) (via_leaf _))) (via_leaf _))) (via_leaf _))) ?_
 delta s10 s10_29
 generalize s10_l1 G N N = J0
 revert J0
 refine id ?_
 intro J0
 kernel_rfl
theorem run10 (N : Nat) {x0 : AV} {H : AHeap} {r : AV × AHeap} (h : s10 (evw P orc) N x0 H = some r) : evw P orc 10 [x0] H = some r :=
 runF (by kernel_rfl) Tryd.func10 (by kernel_rfl) (by kernel_rfl) (by kernel_rfl) ((s10_eq (evw P orc) N x0 H).trans h)
def s14_j0 (G : CallT) (N : Nat) (H : AHeap) : O :=
 some ((.bool false), H)
theorem s14_j0_eq (G : CallT) (N : Nat) : ∀ R H, codeC P G N (Code.snd (Code.snd (Code.snd (bodyOf Tryd.f14)))) (rC Tryd.f14) [] (rC Tryd.f14) R H = s14_j0 G N H := by
 refine via_trans (via_leaf _) fun R H => ?_
 delta s14_j0
 kernel_rfl
def s14_b1 (G : CallT) (N : Nat) (L1 : AV → AV → AV → AHeap → O) (x0 x3 x4 : AV) (H : AHeap) : O :=
 xlen P .len [31] [x3] H fun x8 =>
 xb (fbin P .lss 3 false x4 x8) fun x9 =>
 xif (some x9) (xb (aindexAddr P 31 x3 x4) fun x14 =>
 xb (aload P H 9 x14) fun x15 =>
 xb (fbin P .eql 9 false x15 x0) fun x17 =>
 xif (some x17) (some ((.bool true), H)) (xb (fbin P .add 3 true x4 (.int .i64 1)) fun x11 =>
 L1 x0 x3 x11 H)) (s14_j0 G N H)
def s14_l1 (G : CallT) (N : Nat) : Nat → AV → AV → AV → AHeap → O
 | 0, _, _, _, _ => none
 | n + 1, x0, x3, x4, H => s14_b1 G N (s14_l1 G N n) x0 x3 x4 H
theorem s14_b1_eq (G : CallT) (N : Nat) (L1 : AV → AV → AV → AHeap → O) : ∀ R H, codeC P G N (Code.fst (Code.fst (Code.snd (Code.fst (Code.snd (Code.snd (bodyOf Tryd.f14))))))) (fun R H => L1 (R 0) (R 3) (R 4) H) [(0, (fun R H => s14_j0 G N H))] (rC Tryd.f14) R H = s14_b1 G N L1 (R 0) (R 3) (R 4) H := by
 refine via_trans (via_leaf _) fun R H => ?_
 delta s14_b1
 generalize s14_j0 G N = J0
 revert J0
 refine id ?_
 intro J0
 kernel_rfl
def s14_10 (G : CallT) (N : Nat) (x0 x5 : AV) (h1 : AHeap) : O :=
 s14_l1 G N N x0 x5 (.int .i64 0) h1
def s14 (G : CallT) (N : Nat) (x0 : AV) (H : AHeap) : O :=
 xcall H (G 24 [] H) (s14_10 G N x0)
theorem s14_eq (G : CallT) (N : Nat) (x0 : AV) (H : AHeap) : cF Tryd.f14 G N (argsF [x0]) H = s14 G N x0 H := by
 refine via_top (A := cF Tryd.f14 G N) ((via_seq (by kernel_rfl) ((via_seq (by kernel_rfl) ((via_seq (by kernel_rfl) (s14_j0_eq G N) ((via_seq (by kernel_rfl) ((via_block (by kernel_rfl) ((via_loop (k := fun m R H => s14_l1 G N m (R 0) (R 3) (R 4) H) (by kernel_rfl) (fun R H => by kernel_rfl) (fun m => s14_b1_eq G N (s14_l1 G N m)))))) (via_leaf _))))) (via_leaf _))) (via_leaf _))) ?_
 delta s14 s14_10
 generalize s14_l1 G N N = J0
 revert J0
 refine id ?_
 intro J0
 kernel_rfl
theorem run14 (N : Nat) {x0 : AV} {H : AHeap} {r : AV × AHeap} (h : s14 (evw P orc) N x0 H = some r) : evw P orc 14 [x0] H = some r :=
 runF (by kernel_rfl) Tryd.func14 (by kernel_rfl) (by kernel_rfl) (by kernel_rfl) ((s14_eq (evw P orc) N x0 H).trans h)
def s16_j0 (G : CallT) (N : Nat) (H : AHeap) : O :=
 some ((.bool true), H)
theorem s16_j0_eq (G : CallT) (N : Nat) : ∀ R H, codeC P G N (Code.snd (Code.snd (Code.snd (bodyOf Tryd.f16)))) (rC Tryd.f16) [] (rC Tryd.f16) R H = s16_j0 G N H := by
 refine via_trans (via_leaf _) fun R H => ?_
 delta s16_j0
 kernel_rfl
def s16_b1 (G : CallT) (N : Nat) (L1 : AV → AV → AHeap → O) (x0 x3 : AV) (H : AHeap) : O :=
 xlen P .len [9] [x0] H fun x24 =>
 xb (fbin P .lss 3 false x3 x24) fun x25 =>
 xif (some x25) (xb (aindex P 9 x0 x3) fun x30 =>
 xcall H (G 28 [x30] H) fun x31 h1 =>
 xb (aun .not x31) fun x32 =>
 xg x32 true h1 (qv x0) fun x34 h2 =>
 xg x32 true h2 (qv x3) fun x35 h3 =>
 xg x32 true h3 (qp (aindex P 9 x34 x35)) fun x36 h4 =>
 xg x32 true h4 (fun q => xeff h4 (G 29 [x36] h4) q) fun x37 h5 =>
 xg x32 true h5 (qp (aun .not x37)) fun x38 h6 =>
 xb (pickOf x32 (some x38) (some (.bool false))) fun x39 =>
 xif (some x39) (some ((.bool false), h6)) (xb (fbin P .add 3 true x3 (.int .i64 1)) fun x27 =>
 L1 x0 x27 h6)) (s16_j0 G N H)
def s16_l1 (G : CallT) (N : Nat) : Nat → AV → AV → AHeap → O
 | 0, _, _, _ => none
 | n + 1, x0, x3, H => s16_b1 G N (s16_l1 G N n) x0 x3 H
theorem s16_b1_eq (G : CallT) (N : Nat) (L1 : AV → AV → AHeap → O) : ∀ R H, codeC P G N (Code.fst (Code.fst (Code.snd (Code.fst (Code.snd (Code.snd (bodyOf Tryd.f16))))))) (fun R H => L1 (R 0) (R 3) H) [(0, (fun R H => s16_j0 G N H))] (rC Tryd.f16) R H = s16_b1 G N L1 (R 0) (R 3) H := by
 refine via_trans (via_leaf _) fun R H => ?_
 delta s16_b1
 generalize s16_j0 G N = J0
 revert J0
 refine id ?_
 intro J0
 kernel_rfl
def s16 (G : CallT) (N : Nat) (x0 : AV) (H : AHeap) : O :=
 xlen P .len [9] [x0] H fun x5 =>
 xb (fbin P .lss 3 true x5 (.int .i64 1)) fun x6 =>
 xg x6 false H (qv x0) fun x8 h1 =>
 xg x6 false h1 (fun q => xboth (abuiltin P .empty .len [9] [x8]) (abuiltin P h1 .len [9] [x8]) q) fun x9 h2 =>
 xg x6 false h2 (qp (fbin P .gtr 3 true x9 (.int .i64 8))) fun x10 h3 =>
 xb (pickOf x6 (some (.bool true)) (some x10)) fun x11 =>
 xg x11 false h3 (qv x0) fun x13 h4 =>
 xg x11 false h4 (qp (aindex P 9 x13 (.int .i64 0))) fun x14 h5 =>
 xg x11 false h5 (fun q => xeff h5 (G 28 [x14] h5) q) fun x15 h6 =>
 xg x11 false h6 (qp (aun .not x15)) fun x16 h7 =>
 xb (pickOf x11 (some (.bool true)) (some x16)) fun x17 =>
 xg x17 false h7 (qv x0) fun x19 h8 =>
 xg x17 false h8 (fun q => xeff h8 (G 14 [x19] h8) q) fun x20 h9 =>
 xb (pickOf x17 (some (.bool true)) (some x20)) fun x21 =>
 xif (some x21) (some ((.bool false), h9)) (s16_l1 G N N x0 (.int .i64 0) h9)
theorem s16_eq (G : CallT) (N : Nat) (x0 : AV) (H : AHeap) : cF Tryd.f16 G N (argsF [x0]) H = s16 G N x0 H := by
 refine via_top (A := cF Tryd.f16 G N) ((via_seq (by kernel_rfl) ((via_seq (by kernel_rfl) ((via_seq (by kernel_rfl) (s16_j0_eq G N) ((via_seq (by kernel_rfl) ((via_block (by kernel_rfl) ((via_loop (k := fun m R H => s16_l1 G N m (R 0) (R 3) H) (by kernel_rfl) (fun R H => by kernel_rfl) (fun m => s16_b1_eq G N (s16_l1 G N m)))))) (via_leaf _))))) (via_leaf _))) (via_leaf _))) ?_
 delta s16
 generalize s16_l1 G N N = J0
 revert J0
 refine id ?_
 intro J0
 kernel_rfl
theorem run16 (N : Nat) {x0 : AV} {H : AHeap} {r : AV × AHeap} (h : s16 (evw P orc) N x0 H = some r) : evw P orc 16 [x0] H = some r :=
 runF (by kernel_rfl) Tryd.func16 (by kernel_rfl) (by kernel_rfl) (by kernel_rfl) ((s16_eq (evw P orc) N x0 H).trans h)
def s20_j0 (G : CallT) (N : Nat) (x1 : AV) (H : AHeap) : O :=
 some (x1, H)
theorem s20_j0_eq (G : CallT) (N : Nat) : ∀ R H, codeC P G N (Code.snd (Code.snd (bodyOf Tryd.f20))) (rC Tryd.f20) [] (rC Tryd.f20) R H = s20_j0 G N (R 1) H := by
 refine via_trans (via_leaf _) fun R H => ?_
 delta s20_j0
 kernel_rfl
def s20_b2 (G : CallT) (N : Nat) (L1 : AV → AV → AHeap → O) (L2 : AV → AV → AHeap → O) (x0 x1 : AV) (H : AHeap) : O :=
 xlen P .len [9] [x0] H fun x51 =>
 xb (fbin P .lss 3 false x1 x51) fun x52 =>
 xg x52 true H (qv x0) fun x54 h1 =>
 xg x52 true h1 (qv x1) fun x55 h2 =>
 xg x52 true h2 (qp (aindex P 9 x54 x55)) fun x56 h3 =>
 xg x52 true h3 (qp (fbin P .neq 5 true x56 (.int .u8 10))) fun x57 h4 =>
 xb (pickOf x52 (some x57) (some (.bool false))) fun x58 =>
 xif (some x58) (xb (fbin P .add 3 true x1 (.int .i64 1)) fun x60 =>
 L2 x0 x60 h4) (L1 x0 x1 h4)
def s20_l2 (G : CallT) (N : Nat) (L1 : AV → AV → AHeap → O) : Nat → AV → AV → AHeap → O
 | 0, _, _, _ => none
 | n + 1, x0, x1, H => s20_b2 G N L1 (s20_l2 G N L1 n) x0 x1 H
theorem s20_b2_eq (G : CallT) (N : Nat) (L1 : AV → AV → AHeap → O) (L2 : AV → AV → AHeap → O) : ∀ R H, codeC P G N (Code.fst (Code.fst (Code.fst (Code.snd (Code.snd (Code.snd (Code.fst (Code.fst (Code.snd (Code.fst (Code.fst (Code.fst (Code.snd (bodyOf Tryd.f20)))))))))))))) (fun R H => L2 (R 0) (R 1) H) [(3, (fun R H => L1 (R 0) (R 1) H)), (2, (fun R H => L1 (R 0) (R 1) H)), (1, (fun R H => L1 (R 0) (R 1) H)), (0, (fun R H => s20_j0 G N (R 1) H))] (rC Tryd.f20) R H = s20_b2 G N L1 L2 (R 0) (R 1) H := by
 refine via_trans (via_leaf _) fun R H => ?_
 delta s20_b2
 generalize L1 = J0
 revert J0
 refine id ?_
 intro J0
 kernel_rfl
def s20_b1 (G : CallT) (N : Nat) (L1 : AV → AV → AHeap → O) (x0 x1 : AV) (H : AHeap) : O :=
 xlen P .len [9] [x0] H fun x7 =>
 xb (fbin P .lss 3 false x1 x7) fun x8 =>
 xif (some x8) (xb (aindex P 9 x0 x1) fun x13 =>
 xb (fbin P .eql 5 true x13 (.int .u8 32)) fun x14 =>
 xg x14 false H (qv x0) fun x16 h1 =>
 xg x14 false h1 (qv x1) fun x17 h2 =>
 xg x14 false h2 (qp (aindex P 9 x16 x17)) fun x18 h3 =>
 xg x14 false h3 (qp (fbin P .eql 5 true x18 (.int .u8 9))) fun x19 h4 =>
 xb (pickOf x14 (some (.bool true)) (some x19)) fun x20 =>
 xg x20 false h4 (qv x0) fun x22 h5 =>
 xg x20 false h5 (qv x1) fun x23 h6 =>
 xg x20 false h6 (qp (aindex P 9 x22 x23)) fun x24 h7 =>
 xg x20 false h7 (qp (fbin P .eql 5 true x24 (.int .u8 10))) fun x25 h8 =>
 xb (pickOf x20 (some (.bool true)) (some x25)) fun x26 =>
 xg x26 false h8 (qv x0) fun x28 h9 =>
 xg x26 false h9 (qv x1) fun x29 h10 =>
 xg x26 false h10 (qp (aindex P 9 x28 x29)) fun x30 h11 =>
 xg x26 false h11 (qp (fbin P .eql 5 true x30 (.int .u8 13))) fun x31 h12 =>
 xb (pickOf x26 (some (.bool true)) (some x31)) fun x32 =>
 xif (some x32) (xb (fbin P .add 3 true x1 (.int .i64 1)) fun x34 =>
 L1 x0 x34 h12) (xlen P .len [9] [x0] h12 fun x37 =>
 xb (fbin P .sub 3 false x37 x1) fun x39 =>
 xb (fbin P .geq 3 true x39 (.int .i64 2)) fun x40 =>
 xg x40 true h12 (qv x0) fun x42 h13 =>
 xg x40 true h13 (qv x1) fun x43 h14 =>
 xg x40 true h14 (qv x1) fun x44 h15 =>
 xg x40 true h15 (qp (fbin P .add 3 true x44 (.int .i64 2))) fun x45 h16 =>
 xg x40 true h16 (qp (aslice P 9 x42 (some x43) (some x45) none)) fun x46 h17 =>
 xg x40 true h17 (qp (fbin P .eql 9 true x46 (.str [47, 47]))) fun x47 h18 =>
 xb (pickOf x40 (some x47) (some (.bool false))) fun x48 =>
 xif (some x48) (s20_l2 G N L1 N x0 x1 h18) (some (x1, h18)))) (s20_j0 G N x1 H)
def s20_l1 (G : CallT) (N : Nat) : Nat → AV → AV → AHeap → O
 | 0, _, _, _ => none
 | n + 1, x0, x1, H => s20_b1 G N (s20_l1 G N n) x0 x1 H
theorem s20_b1_eq (G : CallT) (N : Nat) (L1 : AV → AV → AHeap → O) : ∀ R H, codeC P G N (Code.fst (Code.fst (Code.fst (Code.snd (bodyOf Tryd.f20))))) (fun R H => L1 (R 0) (R 1) H) [(0, (fun R H => s20_j0 G N (R 1) H))] (rC Tryd.f20) R H = s20_b1 G N L1 (R 0) (R 1) H := by
 refine via_trans ((via_seq (by kernel_rfl) ((via_block (by kernel_rfl) ((via_block (by kernel_rfl) ((via_seq (by kernel_rfl) ((via_cond (by kernel_rfl) (via_leaf _) ((via_seq (by kernel_rfl) ((via_cond (by kernel_rfl) ((via_block (by kernel_rfl) ((via_loop (k := fun m R H => s20_l2 G N L1 m (R 0) (R 1) H) (by kernel_rfl) (fun R H => by kernel_rfl) (fun m => s20_b2_eq G N L1 (s20_l2 G N L1 m)))))) (via_leaf _))) (via_leaf _))))) (via_leaf _))))))) (via_leaf _))) fun R H => ?_
 delta s20_b1
 generalize s20_j0 G N = J0
 generalize s20_l2 G N L1 N = J1
 revert J0 J1
 refine id ?_
 intro J0 J1
 kernel_rfl
def s20 (G : CallT) (N : Nat) (x0 x1 : AV) (H : AHeap) : O :=
 s20_l1 G N N x0 x1 H
theorem s20_eq (G : CallT) (N : Nat) (x0 : AV) (x1 : AV) (H : AHeap) : cF Tryd.f20 G N (argsF [x0, x1]) H = s20 G N x0 x1 H := by
 refine via_top (A := cF Tryd.f20 G N) ((via_seq (by kernel_rfl) ((via_seq (by kernel_rfl) (s20_j0_eq G N) ((via_block (by kernel_rfl) ((via_loop (k := fun m R H => s20_l1 G N m (R 0) (R 1) H) (by kernel_rfl) (fun R H => by kernel_rfl) (fun m => s20_b1_eq G N (s20_l1 G N m)))))))) (via_leaf _))) ?_
 delta s20
 generalize s20_l1 G N N = J0
 revert J0
 refine id ?_
 intro J0
 kernel_rfl
theorem run20 (N : Nat) {x0 x1 : AV} {H : AHeap} {r : AV × AHeap} (h : s20 (evw P orc) N x0 x1 H = some r) : evw P orc 20 [x0, x1] H = some r :=
 runF (by kernel_rfl) Tryd.func20 (by kernel_rfl) (by kernel_rfl) (by kernel_rfl) ((s20_eq (evw P orc) N x0 x1 H).trans h)
def s21 (G : CallT) (x0 x1 : AV) (H : AHeap) : O :=
 xalloc H [(.int .i64 0), (.str []), (.int .i64 0), (.int .i64 0)] fun x4 h1 =>
 xb (aindex P 9 x0 x1) fun x15 =>
 xcall h1 (G 28 [x15] h1) fun x16 h2 =>
 xif (some x16) (xcall h2 (G 36 [x0, x1, (.bool false)] h2) fun x19 h3 =>
 xb (fbin P .add 3 false x1 x19) fun x24 =>
 xb (aslice P 9 x0 (some x1) (some x24) none) fun x25 =>
 xcall h3 (G 14 [x25] h3) fun x27 h4 =>
 xif (some x27) (xb (abuild P 34 [(0, (.int .i64 3)), (1, x25), (3, x1)]) fun x30 =>
 xstore h4 (astore P h4 34 x4 x30) fun h5 =>
 xb (aload P h5 34 x4) fun r =>
 some (.tuple [r, x19], h5)) (xcall h4 (G 16 [x25] h4) fun x33 h5 =>
 xif (some x33) (xb (abuild P 34 [(0, (.int .i64 1)), (1, x25), (3, x1)]) fun x36 =>
 xstore h5 (astore P h5 34 x4 x36) fun h6 =>
 xb (aload P h6 34 x4) fun r =>
 some (.tuple [r, x19], h6)) (xstore h5 (astore P h5 34 x4 (.agg [(.int .i64 0), (.str []), (.int .i64 0), (.int .i64 0)])) fun h6 =>
 xb (aload P h6 34 x4) fun r =>
 some (.tuple [r, (.int .i64 0)], h6)))) (xb (aindex P 9 x0 x1) fun x42 =>
 xcall h2 (G 29 [x42] h2) fun x43 h3 =>
 xif (some x43) (xcall h3 (G 36 [x0, x1, (.bool true)] h3) fun x46 h4 =>
 xb (fbin P .add 3 false x1 x46) fun x52 =>
 xb (aslice P 9 x0 (some x1) (some x52) none) fun x53 =>
 xcall h4 (G 37 [x53] h4) fun x54 h5 =>
 xb (aextract x54 0) fun x55 =>
 xb (aextract x54 1) fun x56 =>
 xb (aun .not x56) fun x58 =>
 xg x58 false h5 (qv x46) fun x60 h6 =>
 xg x58 false h6 (qp (fbin P .gtr 3 true x60 (.int .i64 1))) fun x61 h7 =>
 xg x58 false h7 (qv x61) fun x62 h8 =>
 xg x62 true h8 (qv x0) fun x63 h9 =>
 xg x62 true h9 (qv x1) fun x64 h10 =>
 xg x62 true h10 (qp (aindex P 9 x63 x64)) fun x65 h11 =>
 xg x62 true h11 (qp (fbin P .eql 5 true x65 (.int .u8 48))) fun x66 h12 =>
 xg x58 false h12 (qp (pickOf x62 (some x66) (some (.bool false)))) fun x67 h13 =>
 xb (pickOf x58 (some (.bool true)) (some x67)) fun x68 =>
 xg x68 false h13 (qv x1) fun x70 h14 =>
 xg x68 false h14 (qv x46) fun x71 h15 =>
 xg x68 false h15 (qp (fbin P .add 3 false x70 x71)) fun x72 h16 =>
 xg x68 false h16 (qv x0) fun x73 h17 =>
 xg x68 false h17 (fun q => xboth (abuiltin P .empty .len [9] [x73]) (abuiltin P h17 .len [9] [x73]) q) fun x74 h18 =>
 xg x68 false h18 (qp (fbin P .lss 3 false x72 x74)) fun x75 h19 =>
 xg x68 false h19 (qv x75) fun x76 h20 =>
 xg x76 true h20 (qv x0) fun x77 h21 =>
 xg x76 true h21 (qv x1) fun x78 h22 =>
 xg x76 true h22 (qv x46) fun x79 h23 =>
 xg x76 true h23 (qp (fbin P .add 3 false x78 x79)) fun x80 h24 =>
 xg x76 true h24 (qp (aindex P 9 x77 x80)) fun x81 h25 =>
 xg x76 true h25 (fun q => xeff h25 (G 28 [x81] h25) q) fun x82 h26 =>
 xg x68 false h26 (qp (pickOf x76 (some x82) (some (.bool false)))) fun x83 h27 =>
 xb (pickOf x68 (some (.bool true)) (some x83)) fun x84 =>
 xif (some x84) (xstore h27 (astore P h27 34 x4 (.agg [(.int .i64 0), (.str []), (.int .i64 0), (.int .i64 0)])) fun h28 =>
 xb (aload P h28 34 x4) fun r =>
 some (.tuple [r, (.int .i64 0)], h28)) (xb (abuild P 34 [(0, (.int .i64 2)), (2, x55), (3, x1)]) fun x88 =>
 xstore h27 (astore P h27 34 x4 x88) fun h28 =>
 xb (aload P h28 34 x4) fun r =>
 some (.tuple [r, x46], h28))) (xcall h3 (G 38 [x0, x1] h3) fun x92 h4 =>
 xb (fbin P .eql 9 true x92 (.str [])) fun x94 =>
 xif (some x94) (xstore h4 (astore P h4 34 x4 (.agg [(.int .i64 0), (.str []), (.int .i64 0), (.int .i64 0)])) fun h5 =>
 xb (aload P h5 34 x4) fun r =>
 some (.tuple [r, (.int .i64 0)], h5)) (xb (abuild P 34 [(0, (.int .i64 4)), (1, x92), (3, x1)]) fun x98 =>
 xlen P .len [9] [x92] h4 fun x100 =>
 xstore h4 (astore P h4 34 x4 x98) fun h5 =>
 xb (aload P h5 34 x4) fun r =>
 some (.tuple [r, x100], h5))))
theorem s21_eq (G : CallT) (N : Nat) (x0 : AV) (x1 : AV) (H : AHeap) : cF Tryd.f21 G N (argsF [x0, x1]) H = s21 G x0 x1 H := by
 refine via_top (A := cF Tryd.f21 G N) (via_leaf _) ?_
 delta s21
 kernel_rfl
theorem run21 (N : Nat) {x0 x1 : AV} {H : AHeap} {r : AV × AHeap} (h : s21 (evw P orc) x0 x1 H = some r) : evw P orc 21 [x0, x1] H = some r :=
 runF (by kernel_rfl) Tryd.func21 (by kernel_rfl) (by kernel_rfl) (by kernel_rfl) ((s21_eq (evw P orc) N x0 x1 H).trans h)
def s24_0 (x1 : AV) (h1 : AHeap) : O :=
 some (x1, h1)
def s24 (G : CallT) (H : AHeap) : O :=
 xmake H (some (.sl (H).next 0 18 1 (some 18), .row false 1 [[(.str [114, 101, 99, 111, 114, 100])], [(.str [103, 108, 111, 98, 97, 108])], [(.str [102, 117, 110, 99])], [(.str [118, 97, 114])], [(.str [108, 101, 116])], [(.str [105, 102])], [(.str [101, 108, 115, 101])], [(.str [119, 104, 105, 108, 101])], [(.str [114, 101, 116, 117, 114, 110])], [(.str [112, 114, 105, 110, 116])], [(.str [110, 117, 108, 108])], [(.str [110, 101, 119])], [(.str [108, 101, 110])], [(.str [114, 101, 97, 100])], [(.str [116, 114, 117, 101])], [(.str [102, 97, 108, 115, 101])], [(.str [105, 110, 116])], [(.str [98, 111, 111, 108])]])) (s24_0)
theorem s24_eq (G : CallT) (N : Nat) (H : AHeap) : cF Tryd.f24 G N (argsF []) H = s24 G H := by
 refine via_top (A := cF Tryd.f24 G N) (via_leaf _) ?_
 delta s24 s24_0
 kernel_rfl
theorem run24 (N : Nat) {H : AHeap} {r : AV × AHeap} (h : s24 (evw P orc) H = some r) : evw P orc 24 [] H = some r :=
 runF (by kernel_rfl) Tryd.func24 (by kernel_rfl) (by kernel_rfl) (by kernel_rfl) ((s24_eq (evw P orc) N H).trans h)
def s28 (G : CallT) (x0 : AV) (H : AHeap) : O :=
 xb (fbin P .geq 5 true x0 (.int .u8 97)) fun x4 =>
 xg x4 true H (qv x0) fun x6 h1 =>
 xg x4 true h1 (qp (fbin P .leq 5 true x6 (.int .u8 122))) fun x7 h2 =>
 xb (pickOf x4 (some x7) (some (.bool false))) fun x8 =>
 xg x8 false h2 (qv x0) fun x10 h3 =>
 xg x8 false h3 (qp (fbin P .geq 5 true x10 (.int .u8 65))) fun x11 h4 =>
 xg x8 false h4 (qv x11) fun x12 h5 =>
 xg x12 true h5 (qv x0) fun x13 h6 =>
 xg x12 true h6 (qp (fbin P .leq 5 true x13 (.int .u8 90))) fun x14 h7 =>
 xg x8 false h7 (qp (pickOf x12 (some x14) (some (.bool false)))) fun x15 h8 =>
 xb (pickOf x8 (some (.bool true)) (some x15)) fun x16 =>
 some (x16, h8)
theorem s28_eq (G : CallT) (N : Nat) (x0 : AV) (H : AHeap) : cF Tryd.f28 G N (argsF [x0]) H = s28 G x0 H := by
 refine via_top (A := cF Tryd.f28 G N) (via_leaf _) ?_
 delta s28
 kernel_rfl
theorem run28 (N : Nat) {x0 : AV} {H : AHeap} {r : AV × AHeap} (h : s28 (evw P orc) x0 H = some r) : evw P orc 28 [x0] H = some r :=
 runF (by kernel_rfl) Tryd.func28 (by kernel_rfl) (by kernel_rfl) (by kernel_rfl) ((s28_eq (evw P orc) N x0 H).trans h)
def s29 (G : CallT) (x0 : AV) (H : AHeap) : O :=
 xb (fbin P .geq 5 true x0 (.int .u8 48)) fun x4 =>
 xg x4 true H (qv x0) fun x6 h1 =>
 xg x4 true h1 (qp (fbin P .leq 5 true x6 (.int .u8 57))) fun x7 h2 =>
 xb (pickOf x4 (some x7) (some (.bool false))) fun x8 =>
 some (x8, h2)
theorem s29_eq (G : CallT) (N : Nat) (x0 : AV) (H : AHeap) : cF Tryd.f29 G N (argsF [x0]) H = s29 G x0 H := by
 refine via_top (A := cF Tryd.f29 G N) (via_leaf _) ?_
 delta s29
 kernel_rfl
theorem run29 (N : Nat) {x0 : AV} {H : AHeap} {r : AV × AHeap} (h : s29 (evw P orc) x0 H = some r) : evw P orc 29 [x0] H = some r :=
 runF (by kernel_rfl) Tryd.func29 (by kernel_rfl) (by kernel_rfl) (by kernel_rfl) ((s29_eq (evw P orc) N x0 H).trans h)
def s36_j0 (G : CallT) (N : Nat) (x7 : AV) (H : AHeap) : O :=
 some (x7, H)
theorem s36_j0_eq (G : CallT) (N : Nat) : ∀ R H, codeC P G N (Code.snd (Code.snd (Code.snd (bodyOf Tryd.f36)))) (rC Tryd.f36) [] (rC Tryd.f36) R H = s36_j0 G N (R 7) H := by
 refine via_trans (via_leaf _) fun R H => ?_
 delta s36_j0
 kernel_rfl
def s36_b1 (G : CallT) (N : Nat) (L1 : AV → AV → AV → AV → AHeap → O) (x0 x1 : AV) (x2 x7 : AV) (H : AHeap) : O :=
 xb (fbin P .add 3 false x1 x7) fun x10 =>
 xlen P .len [9] [x0] H fun x12 =>
 xb (fbin P .lss 3 false x10 x12) fun x13 =>
 xg x13 true H (qv x0) fun x15 h1 =>
 xg x13 true h1 (qv x1) fun x16 h2 =>
 xg x13 true h2 (qv x7) fun x17 h3 =>
 xg x13 true h3 (qp (fbin P .add 3 false x16 x17)) fun x18 h4 =>
 xg x13 true h4 (qp (aindex P 9 x15 x18)) fun x19 h5 =>
 xg x13 true h5 (fun q => xeff h5 (G 29 [x19] h5) q) fun x20 h6 =>
 xg x13 true h6 (qv x20) fun x21 h7 =>
 xg x21 false h7 (qv x2) fun x22 h8 =>
 xg x21 false h8 (qp (aun .not x22)) fun x23 h9 =>
 xg x21 false h9 (qv x23) fun x24 h10 =>
 xg x24 true h10 (qv x0) fun x25 h11 =>
 xg x24 true h11 (qv x1) fun x26 h12 =>
 xg x24 true h12 (qv x7) fun x27 h13 =>
 xg x24 true h13 (qp (fbin P .add 3 false x26 x27)) fun x28 h14 =>
 xg x24 true h14 (qp (aindex P 9 x25 x28)) fun x29 h15 =>
 xg x24 true h15 (fun q => xeff h15 (G 28 [x29] h15) q) fun x30 h16 =>
 xg x21 false h16 (qp (pickOf x24 (some x30) (some (.bool false)))) fun x31 h17 =>
 xg x13 true h17 (qp (pickOf x21 (some (.bool true)) (some x31))) fun x32 h18 =>
 xb (pickOf x13 (some x32) (some (.bool false))) fun x33 =>
 xif (some x33) (xb (fbin P .add 3 true x7 (.int .i64 1)) fun x35 =>
 L1 x0 x1 x2 x35 h18) (s36_j0 G N x7 h18)
def s36_l1 (G : CallT) (N : Nat) : Nat → AV → AV → AV → AV → AHeap → O
 | 0, _, _, _, _, _ => none
 | n + 1, x0, x1, x2, x7, H => s36_b1 G N (s36_l1 G N n) x0 x1 x2 x7 H
theorem s36_b1_eq (G : CallT) (N : Nat) (L1 : AV → AV → AV → AV → AHeap → O) : ∀ R H, codeC P G N (Code.fst (Code.fst (Code.fst (Code.snd (Code.snd (bodyOf Tryd.f36)))))) (fun R H => L1 (R 0) (R 1) (R 2) (R 7) H) [(0, (fun R H => s36_j0 G N (R 7) H))] (rC Tryd.f36) R H = s36_b1 G N L1 (R 0) (R 1) (R 2) (R 7) H := by
 refine via_trans (via_leaf _) fun R H => ?_
 delta s36_b1
 generalize s36_j0 G N = J0
 revert J0
 refine id ?_
 intro J0
 kernel_rfl
def s36 (G : CallT) (N : Nat) (x0 x1 x2 : AV) (H : AHeap) : O :=
 s36_l1 G N N x0 x1 x2 (.int .i64 0) H
theorem s36_eq (G : CallT) (N : Nat) (x0 : AV) (x1 : AV) (x2 : AV) (H : AHeap) : cF Tryd.f36 G N (argsF [x0, x1, x2]) H = s36 G N x0 x1 x2 H := by
 refine via_top (A := cF Tryd.f36 G N) ((via_seq (by kernel_rfl) ((via_seq (by kernel_rfl) ((via_seq (by kernel_rfl) (s36_j0_eq G N) ((via_block (by kernel_rfl) ((via_loop (k := fun m R H => s36_l1 G N m (R 0) (R 1) (R 2) (R 7) H) (by kernel_rfl) (fun R H => by kernel_rfl) (fun m => s36_b1_eq G N (s36_l1 G N m)))))))) (via_leaf _))) (via_leaf _))) ?_
 delta s36
 generalize s36_l1 G N N = J0
 revert J0
 refine id ?_
 intro J0
 kernel_rfl
theorem run36 (N : Nat) {x0 x1 x2 : AV} {H : AHeap} {r : AV × AHeap} (h : s36 (evw P orc) N x0 x1 x2 H = some r) : evw P orc 36 [x0, x1, x2] H = some r :=
 runF (by kernel_rfl) Tryd.func36 (by kernel_rfl) (by kernel_rfl) (by kernel_rfl) ((s36_eq (evw P orc) N x0 x1 x2 H).trans h)
def s37_j0 (G : CallT) (N : Nat) (x4 : AV) (H : AHeap) : O :=
 some (.tuple [x4, (.bool true)], H)
theorem s37_j0_eq (G : CallT) (N : Nat) : ∀ R H, codeC P G N (Code.snd (Code.snd (Code.snd (bodyOf Tryd.f37)))) (rC Tryd.f37) [] (rC Tryd.f37) R H = s37_j0 G N (R 4) H := by
 refine via_trans (via_leaf _) fun R H => ?_
 delta s37_j0
 kernel_rfl
def s37_b1 (G : CallT) (N : Nat) (L1 : AV → AV → AV → AHeap → O) (x0 x4 x5 : AV) (H : AHeap) : O :=
 xlen P .len [9] [x0] H fun x9 =>
 xb (fbin P .lss 3 false x5 x9) fun x10 =>
 xif (some x10) (xb (aindex P 9 x0 x5) fun x15 =>
 xb (fbin P .sub 5 true x15 (.int .u8 48)) fun x16 =>
 xconv P 5 3 x16 H fun x17 =>
 xb (fbin P .sub 3 true (.int .i64 9223372036854775807) x17) fun x20 =>
 xb (fbin P .quo 3 true x20 (.int .i64 10)) fun x21 =>
 xb (fbin P .gtr 3 false x4 x21) fun x22 =>
 xif (some x22) (some (.tuple [(.int .i64 0), (.bool false)], H)) (xb (fbin P .mul 3 true (.int .i64 10) x4) fun x24 =>
 xb (fbin P .add 3 false x24 x17) fun x26 =>
 xb (fbin P .add 3 true x5 (.int .i64 1)) fun x12 =>
 L1 x0 x26 x12 H)) (s37_j0 G N x4 H)
def s37_l1 (G : CallT) (N : Nat) : Nat → AV → AV → AV → AHeap → O
 | 0, _, _, _, _ => none
 | n + 1, x0, x4, x5, H => s37_b1 G N (s37_l1 G N n) x0 x4 x5 H
theorem s37_b1_eq (G : CallT) (N : Nat) (L1 : AV → AV → AV → AHeap → O) : ∀ R H, codeC P G N (Code.fst (Code.fst (Code.snd (Code.fst (Code.snd (Code.snd (bodyOf Tryd.f37))))))) (fun R H => L1 (R 0) (R 4) (R 5) H) [(0, (fun R H => s37_j0 G N (R 4) H))] (rC Tryd.f37) R H = s37_b1 G N L1 (R 0) (R 4) (R 5) H := by
 refine via_trans (via_leaf _) fun R H => ?_
 delta s37_b1
 generalize s37_j0 G N = J0
 revert J0
 refine id ?_
 intro J0
 kernel_rfl
def s37 (G : CallT) (N : Nat) (x0 : AV) (H : AHeap) : O :=
 s37_l1 G N N x0 (.int .i64 0) (.int .i64 0) H
theorem s37_eq (G : CallT) (N : Nat) (x0 : AV) (H : AHeap) : cF Tryd.f37 G N (argsF [x0]) H = s37 G N x0 H := by
 refine via_top (A := cF Tryd.f37 G N) ((via_seq (by kernel_rfl) ((via_seq (by kernel_rfl) ((via_seq (by kernel_rfl) (s37_j0_eq G N) ((via_seq (by kernel_rfl) ((via_block (by kernel_rfl) ((via_loop (k := fun m R H => s37_l1 G N m (R 0) (R 4) (R 5) H) (by kernel_rfl) (fun R H => by kernel_rfl) (fun m => s37_b1_eq G N (s37_l1 G N m)))))) (via_leaf _))))) (via_leaf _))) (via_leaf _))) ?_
 delta s37
 generalize s37_l1 G N N = J0
 revert J0
 refine id ?_
 intro J0
 kernel_rfl
theorem run37 (N : Nat) {x0 : AV} {H : AHeap} {r : AV × AHeap} (h : s37 (evw P orc) N x0 H = some r) : evw P orc 37 [x0] H = some r :=
 runF (by kernel_rfl) Tryd.func37 (by kernel_rfl) (by kernel_rfl) (by kernel_rfl) ((s37_eq (evw P orc) N x0 H).trans h)
def s38_j1 (G : CallT) (N : Nat) (H : AHeap) : O :=
 some ((.str []), H)
theorem s38_j1_eq (G : CallT) (N : Nat) : ∀ R H, codeC P G N (Code.snd (Code.snd (Code.snd (Code.snd (Code.snd (bodyOf Tryd.f38)))))) (rC Tryd.f38) [] (rC Tryd.f38) R H = s38_j1 G N H := by
 refine via_trans (via_leaf _) fun R H => ?_
 delta s38_j1
 kernel_rfl
def s38_b2 (G : CallT) (N : Nat) (L2 : AV → AV → AV → AV → AHeap → O) (x0 x1 : AV) (x7 x8 : AV) (H : AHeap) : O :=
 xlen P .len [9] [x7] H fun x39 =>
 xb (fbin P .lss 3 false x8 x39) fun x40 =>
 xif (some x40) (xb (aindex P 9 x0 x1) fun x45 =>
 xb (aindex P 9 x7 x8) fun x48 =>
 xb (fbin P .eql 5 false x45 x48) fun x49 =>
 xif (some x49) (xb (fbin P .add 3 true x8 (.int .i64 1)) fun x53 =>
 xb (aslice P 9 x7 (some x8) (some x53) none) fun x54 =>
 some (x54, H)) (xb (fbin P .add 3 true x8 (.int .i64 1)) fun x42 =>
 L2 x0 x1 x7 x42 H)) (s38_j1 G N H)
def s38_l2 (G : CallT) (N : Nat) : Nat → AV → AV → AV → AV → AHeap → O
 | 0, _, _, _, _, _ => none
 | n + 1, x0, x1, x7, x8, H => s38_b2 G N (s38_l2 G N n) x0 x1 x7 x8 H
theorem s38_b2_eq (G : CallT) (N : Nat) (L2 : AV → AV → AV → AV → AHeap → O) : ∀ R H, codeC P G N (Code.fst (Code.fst (Code.snd (Code.fst (Code.snd (Code.snd (Code.snd (Code.snd (bodyOf Tryd.f38))))))))) (fun R H => L2 (R 0) (R 1) (R 7) (R 8) H) [(2, (fun R H => s38_j1 G N H))] (rC Tryd.f38) R H = s38_b2 G N L2 (R 0) (R 1) (R 7) (R 8) H := by
 refine via_trans (via_leaf _) fun R H => ?_
 delta s38_b2
 generalize s38_j1 G N = J0
 revert J0
 refine id ?_
 intro J0
 kernel_rfl
def s38_j0 (G : CallT) (N : Nat) (x0 x1 : AV) (H : AHeap) : O :=
 s38_l2 G N N x0 x1 (.str [123, 125, 40, 41, 91, 93, 59, 58, 44, 46, 61, 43, 45, 42, 47, 37, 60, 33]) (.int .i64 0) H
theorem s38_j0_eq (G : CallT) (N : Nat) : ∀ R H, codeC P G N (Code.snd (Code.snd (Code.snd (bodyOf Tryd.f38)))) (rC Tryd.f38) [] (rC Tryd.f38) R H = s38_j0 G N (R 0) (R 1) H := by
 refine via_trans ((via_seq (by kernel_rfl) ((via_seq (by kernel_rfl) (s38_j1_eq G N) ((via_seq (by kernel_rfl) ((via_block (by kernel_rfl) ((via_loop (k := fun m R H => s38_l2 G N m (R 0) (R 1) (R 7) (R 8) H) (by kernel_rfl) (fun R H => by kernel_rfl) (fun m => s38_b2_eq G N (s38_l2 G N m)))))) (via_leaf _))))) (via_leaf _))) fun R H => ?_
 delta s38_j0
 generalize s38_l2 G N N = J0
 revert J0
 refine id ?_
 intro J0
 kernel_rfl
def s38_b3 (G : CallT) (N : Nat) (L3 : AV → AV → AV → AV → AHeap → O) (x0 x1 : AV) (x5 x6 : AV) (H : AHeap) : O :=
 xlen P .len [31] [x5] H fun x12 =>
 xb (fbin P .lss 3 false x6 x12) fun x13 =>
 xif (some x13) (xlen P .len [9] [x0] H fun x17 =>
 xb (fbin P .sub 3 false x17 x1) fun x19 =>
 xb (fbin P .geq 3 true x19 (.int .i64 2)) fun x20 =>
 xg x20 true H (qv x0) fun x22 h1 =>
 xg x20 true h1 (qv x1) fun x23 h2 =>
 xg x20 true h2 (qv x1) fun x24 h3 =>
 xg x20 true h3 (qp (fbin P .add 3 true x24 (.int .i64 2))) fun x25 h4 =>
 xg x20 true h4 (qp (aslice P 9 x22 (some x23) (some x25) none)) fun x26 h5 =>
 xg x20 true h5 (qv x5) fun x27 h6 =>
 xg x20 true h6 (qv x6) fun x28 h7 =>
 xg x20 true h7 (qp (aindexAddr P 31 x27 x28)) fun x29 h8 =>
 xg x20 true h8 (qr (aload P h8 9 x29)) fun x30 h9 =>
 xg x20 true h9 (qp (fbin P .eql 9 false x26 x30)) fun x31 h10 =>
 xb (pickOf x20 (some x31) (some (.bool false))) fun x32 =>
 xif (some x32) (xb (aindexAddr P 31 x5 x6) fun x35 =>
 xb (aload P h10 9 x35) fun x36 =>
 some (x36, h10)) (xb (fbin P .add 3 true x6 (.int .i64 1)) fun x15 =>
 L3 x0 x1 x5 x15 h10)) (s38_j0 G N x0 x1 H)
def s38_l3 (G : CallT) (N : Nat) : Nat → AV → AV → AV → AV → AHeap → O
 | 0, _, _, _, _, _ => none
 | n + 1, x0, x1, x5, x6, H => s38_b3 G N (s38_l3 G N n) x0 x1 x5 x6 H
theorem s38_b3_eq (G : CallT) (N : Nat) (L3 : AV → AV → AV → AV → AHeap → O) : ∀ R H, codeC P G N (Code.fst (Code.fst (Code.snd (Code.fst (Code.snd (Code.snd (bodyOf Tryd.f38))))))) (fun R H => L3 (R 0) (R 1) (R 5) (R 6) H) [(0, (fun R H => s38_j0 G N (R 0) (R 1) H))] (rC Tryd.f38) R H = s38_b3 G N L3 (R 0) (R 1) (R 5) (R 6) H := by
 refine via_trans (via_leaf _) fun R H => ?_
 delta s38_b3
 generalize s38_j0 G N = J0
 revert J0
 refine id ?_
 intro J0
 kernel_rfl
def s38_35 (G : CallT) (N : Nat) (x0 x1 x9 : AV) (h1 : AHeap) : O :=
 s38_l3 G N N x0 x1 x9 (.int .i64 0) h1
def s38 (G : CallT) (N : Nat) (x0 x1 : AV) (H : AHeap) : O :=
 xmake H (some (.sl (H).next 0 5 1 (some 5), .row false 1 [[(.str [60, 61])], [(.str [61, 61])], [(.str [33, 61])], [(.str [38, 38])], [(.str [124, 124])]])) (s38_35 G N x0 x1)
theorem s38_eq (G : CallT) (N : Nat) (x0 : AV) (x1 : AV) (H : AHeap) : cF Tryd.f38 G N (argsF [x0, x1]) H = s38 G N x0 x1 H := by
 refine via_top (A := cF Tryd.f38 G N) ((via_seq (by kernel_rfl) ((via_seq (by kernel_rfl) ((via_seq (by kernel_rfl) (s38_j0_eq G N) ((via_seq (by kernel_rfl) ((via_block (by kernel_rfl) ((via_loop (k := fun m R H => s38_l3 G N m (R 0) (R 1) (R 5) (R 6) H) (by kernel_rfl) (fun R H => by kernel_rfl) (fun m => s38_b3_eq G N (s38_l3 G N m)))))) (via_leaf _))))) (via_leaf _))) (via_leaf _))) ?_
 delta s38 s38_35
 generalize s38_l3 G N N = J0
 revert J0
 refine id ?_
 intro J0
 kernel_rfl
theorem run38 (N : Nat) {x0 x1 : AV} {H : AHeap} {r : AV × AHeap} (h : s38 (evw P orc) N x0 x1 H = some r) : evw P orc 38 [x0, x1] H = some r :=
 runF (by kernel_rfl) Tryd.func38 (by kernel_rfl) (by kernel_rfl) (by kernel_rfl) ((s38_eq (evw P orc) N x0 x1 H).trans h)
end
end Go.Proofs.YtgcamjgnfeajiaaDoor
namespace Go.Proofs.YtgcamjgnfeajiaaDoor
open Go.Ev
set_option linter.defProp false
def nxB := And.intro @AHeap.next_push @AHeap.next_set
def allB := And.intro (And.intro (And.intro (And.intro (And.intro (And.intro (And.intro @zz @xk_eq) (And.intro @qp_some @qr_some)) (And.intro (And.intro @qv_eq @xalloc_eq) (And.intro @xstore_some @xb_some))) (And.intro (And.intro (And.intro @anil_ptr @xif_bool) (And.intro @xmake_some @xg_tt)) (And.intro (And.intro @xg_ff @xg_tf) (And.intro @xg_ft (And.intro @xg_sk @xboth_some))))) (And.intro (And.intro (And.intro (And.intro @pickOf_t @pickOf_f) (And.intro @aun_not @K_val_pure)) (And.intro (And.intro @K_val_read @K_val_skip) (And.intro @K_heap_pure @K_heap_read))) (And.intro (And.intro (And.intro @K_heap_skip @K_val_eff) (And.intro @K_heap_eff @K_val_new)) (And.intro (And.intro @K_heap_new @Option.bind_some.{0,0}) (And.intro @cond_true.{1} (And.intro @cond_false.{1} @aextract_tuple)))))) (And.intro (And.intro (And.intro (And.intro (And.intro @rdIs_int @rdIs_str) (And.intro @rdIs_bool @rdIs_sl)) (And.intro (And.intro @rdIs_nilSl @rdIs_of) (And.intro @List.getElem?_cons_zero.{0} @List.getElem?_cons_succ.{0}))) (And.intro (And.intro (And.intro @List.drop_zero.{0} @List.drop_succ_cons.{0}) (And.intro @List.take_succ_cons.{0} @List.take_zero.{0})) (And.intro (And.intro @List.set_cons_zero.{0} @List.set_cons_succ.{0}) (And.intro @List.cons_append.{0} (And.intro @List.nil_append.{0} @List.length_cons.{0}))))) (And.intro (And.intro (And.intro (And.intro @List.length_nil.{0} @List.all_cons.{0}) (And.intro @List.all_nil.{0} @Bool.and_true)) (And.intro (And.intro @Bool.and_self @Nat.zero_add) (And.intro @Nat.add_zero (And.intro @Nat.le_refl @and_self)))) (And.intro (And.intro (And.intro @and_true @true_and) (And.intro @if_true.{1} @Option.some.injEq.{0})) (And.intro (And.intro @one_int @one_str) (And.intro @one_bool (And.intro @one_sl @one_nilSl))))))) (And.intro (And.intro (And.intro (And.intro (And.intro (And.intro @one_ptr @one_func) (And.intro @ta3 @ta4)) (And.intro (And.intro @ta5 @ta9) (And.intro @ta22 @ta23))) (And.intro (And.intro (And.intro @ta25 @ta34) (And.intro @ta31 @ts25)) (And.intro (And.intro @ts34 @ts3) (And.intro @ts4 (And.intro @ts5 @ts9))))) (And.intro (And.intro (And.intro (And.intro @ts22 @ts23) (And.intro @ts31 @fbin_add)) (And.intro (And.intro @fbin_sub @fbin_eql) (And.intro @fbin_neq @fbin_lss))) (And.intro (And.intro (And.intro @fbin_leq @fbin_gtr) (And.intro @fbin_geq @fbin_seql)) (And.intro (And.intro @fbin_sneq @eq4) (And.intro @ne4 (And.intro @AHeap.get_push_eq @AHeap.get_push_other)))))) (And.intro (And.intro (And.intro (And.intro (And.intro @AHeap.get_set_same @AHeap.get_set_other) (And.intro @AHeap.next_push @AHeap.next_set)) (And.intro (And.intro @AHeap.push_set_eq @AHeap.set_set) (And.intro @bd25_0 @bd25_0_1))) (And.intro (And.intro (And.intro @bd34_0_3 @bd34_0_1) (And.intro @bd34_0_1_3 @bd34_0_2_3)) (And.intro (And.intro @bd34_0_2 @fa25_0) (And.intro @fa25_1 (And.intro @fa34_0 @fa34_1))))) (And.intro (And.intro (And.intro (And.intro @fa34_2 @fa34_3) (And.intro @fl25_0 @fl25_1)) (And.intro (And.intro @fl34_0 @fl34_1) (And.intro @fl34_2 (And.intro @fl34_3 @ln9)))) (And.intro (And.intro (And.intro @ln22 @ln22n) (And.intro @ln31 @ln31n)) (And.intro (And.intro @ln37 @ln37n) (And.intro @ia22 (And.intro @ia31 @ia37)))))))
def evB := And.intro (And.intro (And.intro (And.intro (And.intro @zz @xk_eq) (And.intro @qp_some (And.intro @qr_some @qv_eq))) (And.intro (And.intro @xalloc_eq @xstore_some) (And.intro @xb_some (And.intro @anil_ptr @xif_bool)))) (And.intro (And.intro (And.intro @xmake_some @xg_tt) (And.intro @xg_ff (And.intro @xg_tf @xg_ft))) (And.intro (And.intro @xg_sk @xboth_some) (And.intro @pickOf_t (And.intro @pickOf_f @aun_not))))) (And.intro (And.intro (And.intro (And.intro @K_val_pure @K_val_read) (And.intro @K_val_skip (And.intro @K_heap_pure @K_heap_read))) (And.intro (And.intro @K_heap_skip @K_val_eff) (And.intro @K_heap_eff (And.intro @K_val_new @K_heap_new)))) (And.intro (And.intro (And.intro @Option.bind_some.{0,0} @cond_true.{1}) (And.intro @cond_false.{1} (And.intro @aextract_tuple @rdIs_int))) (And.intro (And.intro @rdIs_str @rdIs_bool) (And.intro @rdIs_sl (And.intro @rdIs_nilSl @rdIs_of)))))
def lsB := And.intro (And.intro (And.intro (And.intro @List.getElem?_cons_zero.{0} (And.intro @List.getElem?_cons_succ.{0} @List.drop_zero.{0})) (And.intro (And.intro @List.drop_succ_cons.{0} @List.take_succ_cons.{0}) (And.intro @List.take_zero.{0} @List.set_cons_zero.{0}))) (And.intro (And.intro (And.intro @List.set_cons_succ.{0} @List.cons_append.{0}) (And.intro @List.nil_append.{0} @List.length_cons.{0})) (And.intro (And.intro @List.length_nil.{0} @List.all_cons.{0}) (And.intro @List.all_nil.{0} @Bool.and_true)))) (And.intro (And.intro (And.intro (And.intro @Bool.and_self @Nat.zero_add) (And.intro @Nat.add_zero @Nat.le_refl)) (And.intro (And.intro @and_self @and_true) (And.intro @true_and @if_true.{1}))) (And.intro (And.intro (And.intro @Option.some.injEq.{0} @one_int) (And.intro @one_str @one_bool)) (And.intro (And.intro @one_sl @one_nilSl) (And.intro @one_ptr @one_func))))
def tyB := And.intro (And.intro (And.intro (And.intro @ta3 @ta4) (And.intro @ta5 @ta9)) (And.intro (And.intro @ta22 @ta23) (And.intro @ta25 (And.intro @ta34 @ta31)))) (And.intro (And.intro (And.intro @ts25 @ts34) (And.intro @ts3 @ts4)) (And.intro (And.intro @ts5 @ts9) (And.intro @ts22 (And.intro @ts23 @ts31))))
def binB := And.intro (And.intro (And.intro @fbin_add (And.intro @fbin_sub @fbin_eql)) (And.intro @fbin_neq (And.intro @fbin_lss @fbin_leq))) (And.intro (And.intro @fbin_gtr (And.intro @fbin_geq @fbin_seql)) (And.intro @fbin_sneq (And.intro @eq4 @ne4)))
def heapB := And.intro (And.intro (And.intro @AHeap.get_push_eq @AHeap.get_push_other) (And.intro @AHeap.get_set_same @AHeap.get_set_other)) (And.intro (And.intro @AHeap.next_push @AHeap.next_set) (And.intro @AHeap.push_set_eq @AHeap.set_set))
def tabB := And.intro (And.intro (And.intro (And.intro @bd25_0 (And.intro @bd25_0_1 @bd34_0_3)) (And.intro (And.intro @bd34_0_1 @bd34_0_1_3) (And.intro @bd34_0_2_3 @bd34_0_2))) (And.intro (And.intro @fa25_0 (And.intro @fa25_1 @fa34_0)) (And.intro (And.intro @fa34_1 @fa34_2) (And.intro @fa34_3 @fl25_0)))) (And.intro (And.intro (And.intro @fl25_1 (And.intro @fl34_0 @fl34_1)) (And.intro (And.intro @fl34_2 @fl34_3) (And.intro @ln9 @ln22))) (And.intro (And.intro (And.intro @ln22n @ln31) (And.intro @ln31n @ln37)) (And.intro (And.intro @ln37n @ia22) (And.intro @ia31 @ia37))))
def oneB := And.intro (And.intro @one_int (And.intro @one_str @one_bool)) (And.intro (And.intro @one_sl @one_nilSl) (And.intro @one_ptr @one_func))
end Go.Proofs.YtgcamjgnfeajiaaDoor

namespace Go.Proofs.YtgcamjgnfeajiaaDoor
open Go.Ev
abbrev Bs := List UInt8
structure Tok where
 kind : Int
 text : Bs
 n : Int
 pos : Int
def Tok.none : Tok := ⟨0, [], 0, 0⟩
end Go.Proofs.YtgcamjgnfeajiaaDoor

namespace Go.Ev
 @[congr] theorem xalloc_cg {H H' : AHeap} {cs cs' : List AV} {k : AV → AHeap → O} {z : Nat} (d : H = H') (e : cs = cs') (_y : zA = z) : xalloc H cs k = xalloc H' cs' k := by rw [d, e]
 @[congr] theorem dchk_cg {ms ez : List Nat} {T : List Tc} {H : AHeap} {z : Nat} (_y : zA = z) : dchk ms ez T H = dchk ms ez T H := rfl
theorem winsC_tied {ms ez : List Nat} {T : List Tc} {H : AHeap} : ∀ S : List Tc, S.all (fun t => ez.contains t.i) = true → winsC ms ez T H S = true
  | [], _ => rfl
  | t :: ts, h => by
    simp only [List.all_cons, Bool.and_eq_true] at h
    rw [winsC, winsC_tied ts h.2, Bool.and_true]
    split
    · rw [h.1, Bool.true_or]
    · rfl
theorem dchk_tied {ms ez : List Nat} {T : List Tc} {H : AHeap} (h1 : effC ms T [] = true) (h2 : T.all (fun t => ez.contains t.i) = true) : dchk ms ez T H = true := by
  rw [dchk, h1, winsC_tied T h2]; rfl
def tiedOk (ez : List Nat) (t : Tc) : Bool := match t.k with
  | .read _ => ez.contains t.i
  | _ => true
theorem winsC_ok {ms ez : List Nat} {T : List Tc} {H : AHeap} : ∀ S : List Tc, S.all (tiedOk ez) = true → winsC ms ez T H S = true
  | [], _ => rfl
  | t :: ts, h => by
    simp only [List.all_cons, Bool.and_eq_true] at h
    rw [winsC, winsC_ok ts h.2, Bool.and_true]
    have h1 := h.1
    unfold tiedOk at h1
    split
    · rename_i v hk
      rw [hk] at h1
      simp only at h1
      rw [h1, Bool.true_or]
    · rfl
theorem winsC_app {ms ez : List Nat} {T : List Tc} {H : AHeap} : ∀ S S' : List Tc, winsC ms ez T H (S ++ S') = (winsC ms ez T H S && winsC ms ez T H S')
  | [], S' => by rw [List.nil_append, winsC, Bool.true_and]
  | t :: ts, S' => by rw [List.cons_append, winsC, winsC, winsC_app ts S', Bool.and_assoc]
def effPur (H : AHeap) (t : Tc) : Prop := match t.k with
  | .eff _ H' => Pur H H'
  | .new _ _ => False
  | _ => True
theorem trace_pur {H : AHeap} : ∀ (T : List Tc) (H0 : AHeap), Pur H H0 → (∀ t ∈ T, effPur H t) → ∀ H' ∈ traceH T H0, Pur H H'
  | [], H0, p, _, H', hm => by
    simp only [traceH, List.mem_cons, List.not_mem_nil, or_false] at hm
    rw [hm]; exact p
  | t :: ts, H0, p, h, H', hm => by
    simp only [traceH, List.mem_cons] at hm
    rcases hm with rfl | hm
    · exact p
    · refine trace_pur ts _ ?_ (fun u hu => h u (List.mem_cons_of_mem _ hu)) H' hm
      have h1 := h t List.mem_cons_self
      unfold effPur at h1
      cases hk : t.k with
      | pure v => exact p
      | read v => exact p
      | skip => exact p
      | eff v H2 => rw [hk] at h1; exact h1
      | new v b => rw [hk] at h1; exact h1.elim
theorem dchk_mid {ms ez : List Nat} {T : List Tc} {H : AHeap} (i : Nat) (h1 : effC ms T [] = true) (ha : (T.take i).all (tiedOk ez) = true) (hb : (T.drop (i + 2)).all (tiedOk ez) = true) {t u : Tc} (ht : T.drop i = t :: u :: T.drop (i + 2)) (hp : ∀ x ∈ T, effPur H x)
    (rt : ∀ v, t.k = .read v → ∀ H', Pur H H' → rdIs (t.rd H') v = true) (ru : ∀ v, u.k = .read v → ∀ H', Pur H H' → rdIs (u.rd H') v = true) : dchk ms ez T H = true := by
  have hw : winsC ms ez T H T = true := by
    have e : T = T.take i ++ (t :: u :: T.drop (i + 2)) := by rw [← ht, List.take_append_drop]
    have hall := trace_pur T H (.refl H) hp
    have h3 : winsC ms ez T H (t :: u :: T.drop (i + 2)) = true := by
      rw [winsC, winsC, winsC_ok _ hb, Bool.and_true]
      have ft : (match t.k with | .read v => ez.contains t.i || seeC ms (fun H => rdIs (t.rd H) v) t.i T H | _ => true) = true := by
        split
        · rename_i v hk
          rw [seeC_true fun H' hm => rt v hk H' (hall H' hm), Bool.or_true]
        · rfl
      have fu : (match u.k with | .read v => ez.contains u.i || seeC ms (fun H => rdIs (u.rd H) v) u.i T H | _ => true) = true := by
        split
        · rename_i v hk
          rw [seeC_true fun H' hm => ru v hk H' (hall H' hm), Bool.or_true]
        · rfl
      exact Bool.and_eq_true_iff.2 ⟨ft, fu⟩
    have h4 : winsC ms ez T H (T.take i ++ (t :: u :: T.drop (i + 2))) = true := by rw [winsC_app, winsC_ok _ ha, h3]; rfl
    rw [← e] at h4
    exact h4
  rw [dchk, h1, hw]; rfl
theorem dchk_tied2 {ms ez : List Nat} {T : List Tc} {H : AHeap} (h1 : effC ms T [] = true) (h2 : T.all (tiedOk ez) = true) : dchk ms ez T H = true := by
  rw [dchk, h1, winsC_ok T h2]; rfl
end Go.Ev

namespace Go.Proofs.YtgcamjgnfeajiaaDoor
open Go.Ev
def Tok.cells (t : Tok) : List AV := [.int .i64 t.kind, .str t.text, .int .i64 t.n, .int .i64 t.pos]
def Tok.v (t : Tok) : AV := .agg [.int .i64 t.kind, .str t.text, .int .i64 t.n, .int .i64 t.pos]
def TokSl (H : AHeap) (v : AV) (T : List Tok) : Prop := (v = .nilSl ∧ T = []) ∨ ∃ l i cap, v = .sl l i T.length 4 cap ∧ (T = [] ∨ ∃ ro els, H.get l = some (.row ro 4 els) ∧ ∀ (k : Nat) (t : Tok), T[k]? = some t → els[i + k]? = some t.cells)
theorem TokSl.keep {H H' : AHeap} {v : AV} {T : List Tok} (h : TokSl H v T) (p : ∀ l ro els, H.get l = some (.row ro 4 els) → H'.get l = some (.row ro 4 els)) : TokSl H' v T := by
 rcases h with h | ⟨l, i, cap, h1, h2 | ⟨ro, els, h2, h3⟩⟩
 ·exact .inl h
 ·exact .inr ⟨l, i, cap, h1, .inl h2⟩
 ·exact .inr ⟨l, i, cap, h1, .inr ⟨ro, els, p _ _ _ h2, h3⟩⟩
theorem TokSl.pur {H H' : AHeap} {v : AV} {T : List Tok} (h : TokSl H v T) (p : Pur H H') : TokSl H' v T := h.keep fun _ _ _ e => p.get e
theorem TokSl.one {H : AHeap} {v : AV} {T : List Tok} (h : TokSl H v T) : v.one = true := by
 rcases h with ⟨rfl, _⟩ | ⟨l, i, cap, rfl, _⟩ <;> rfl
abbrev Mt (r : Nat) : AHeap → AHeap → Prop := Mut (· = r)
end Go.Proofs.YtgcamjgnfeajiaaDoor

namespace Go.Proofs.YtgcamjgnfeajiaaDoor
open Go.Ev
def lettI (c : Int) : Bool := (decide (97 ≤ c) && decide (c ≤ 122)) || (decide (65 ≤ c) && decide (c ≤ 90))
def diggI (c : Int) : Bool := decide (48 ≤ c) && decide (c ≤ 57)
def letB (b : UInt8) : Bool := lettI b.toNat
def digB (b : UInt8) : Bool := diggI b.toNat
def wordsL : List Bs := [[114, 101, 99, 111, 114, 100], [103, 108, 111, 98, 97, 108], [102, 117, 110, 99], [118, 97, 114], [108, 101, 116], [105, 102], [101, 108, 115, 101], [119, 104, 105, 108, 101], [114, 101, 116, 117, 114, 110], [112, 114, 105, 110, 116], [110, 117, 108, 108], [110, 101, 119], [108, 101, 110], [114, 101, 97, 100], [116, 114, 117, 101], [102, 97, 108, 115, 101], [105, 110, 116], [98, 111, 111, 108]]
def memB (x : Bs) : List Bs → Bool
 | [] => false
 | y :: ys => y == x || memB x ys
def wordB (x : Bs) : Bool := memB x wordsL
def allP : Bs → Bool
 | [] => true
 | c :: r => (letB c || digB c) && allP r
def nameB (x : Bs) : Bool := decide (1 ≤ x.length) && (decide (x.length ≤ 8) && (letB (x.headD 0) && (!wordB x && allP x)))
def runN (d : Bool) : Bs → Nat
 | [] => 0
 | c :: r => bif digB c || (!d && letB c) then runN d r + 1 else 0
def wholeN : Int → Bs → Option Int
 | n, [] => some n
 | n, c :: r => if (9223372036854775807 - ((c.toNat : Int) - 48)) / 10 < n then none else wholeN (10 * n + ((c.toNat : Int) - 48)) r
def twosL : List Bs := [[60, 61], [61, 61], [33, 61], [38, 38], [124, 124]]
def onesL : Bs := [123, 125, 40, 41, 91, 93, 59, 58, 44, 46, 61, 43, 45, 42, 47, 37, 60, 33]
def memC (c : UInt8) : Bs → Bool
 | [] => false
 | y :: ys => c.toNat == y.toNat || memC c ys
def signN (s : Bs) : Bs := bif decide (2 ≤ s.length) && memB (s.take 2) twosL then s.take 2 else match s with
 | c :: _ => bif memC c onesL then [c] else []
 | [] => []
def isBlank (c : UInt8) : Bool := c.toNat == 32 || (c.toNat == 9 || (c.toNat == 10 || c.toNat == 13))
def blankN : Bool → Bs → Nat
 | _, [] => 0
 | true, c :: r => bif c.toNat == 10 then blankN false r + 1 else blankN true r + 1
 | false, c :: r => bif isBlank c then blankN false r + 1 else bif c == 47 && r.head? == some 47 then blankN true r + 1 else 0
def oneN (s : Bs) : Option (Int × Bs × Int × Nat) := match s with
 | [] => none
 | c :: _ =>
  bif letB c then (bif wordB (s.take (runN false s)) then some (3, s.take (runN false s), 0, runN false s) else bif nameB (s.take (runN false s)) then some (1, s.take (runN false s), 0, runN false s) else none)
  else bif digB c then
   (match wholeN 0 (s.take (runN true s)) with
   | none => none
   | some v => bif (decide (1 < runN true s) && c.toNat == 48) || (decide (runN true s < s.length) && letB ((s[runN true s]?).getD 0)) then none else some (2, [], v, runN true s))
  else bif signN s == [] then none else some (4, signN s, 0, (signN s).length)
def lexL : Nat → Bs → Nat → Nat ⊕ List Tok
 | 0, _, p => .inl p
 | _ + 1, [], p => .inr [⟨0, [], 0, p⟩]
 | n + 1, c :: r, p => match oneN (c :: r) with
  | none => .inl p
  | some (k, t, v, m) => match lexL n (((c :: r).drop m).drop (blankN false ((c :: r).drop m))) (p + m + blankN false ((c :: r).drop m)) with
   | .inl e => .inl e
   | .inr l => .inr (⟨k, t, v, p⟩ :: l)
def lexS (s : Bs) : Nat ⊕ List Tok := lexL (s.length + 1) (s.drop (blankN false s)) (blankN false s)
def tokensS (s : Bs) : List Tok × Int × Int := if 6000 < s.length then ([], 4, 0) else match lexS s with
 | .inl e => ([], 1, e)
 | .inr l => (l, 0, 0)
end Go.Proofs.YtgcamjgnfeajiaaDoor

namespace Go.Proofs.YtgcamjgnfeajiaaDoor
open Go.Ev
theorem jx9' (s : List UInt8) (k : Int) : aindex P 9 (.str s) (.int .i64 k) = if 0 ≤ k then (match s[k.toNat]? with | some b => some (.int .u8 b.toNat) | none => none) else none := by kernel_rfl
theorem jx9 {s : List UInt8} {k : Nat} {b : UInt8} (h : s[k]? = some b) : aindex P 9 (.str s) (.int .i64 (k : Int)) = some (.int .u8 b.toNat) := by
 rw [jx9', if_pos (by omega)]; simp [h]
theorem jx9_0 {s : List UInt8} {b : UInt8} (h : s[0]? = some b) : aindex P 9 (.str s) (.int .i64 0) = some (.int .u8 b.toNat) := jx9 (k := 0) h
theorem wnn (a b : Nat) (h : a + b ≤ 4000000000000000000) : IntKind.i64.wrap ((a : Int) + (b : Int)) = ((a + b : Nat) : Int) := by rw [wrap_i64 (by omega) (by omega)]; omega
theorem wn1 (a : Nat) (h : a ≤ 4000000000000000000) : IntKind.i64.wrap ((a : Int) + 1) = ((a + 1 : Nat) : Int) := by rw [wrap_i64 (by omega) (by omega)]; omega
theorem wn2 (a : Nat) (h : a ≤ 4000000000000000000) : IntKind.i64.wrap ((a : Int) + 2) = ((a + 2 : Nat) : Int) := by rw [wrap_i64 (by omega) (by omega)]; omega
theorem wns (a b : Nat) (h : a ≤ 4000000000000000000) (hb : b ≤ a) : IntKind.i64.wrap ((a : Int) - (b : Int)) = ((a - b : Nat) : Int) := by rw [wrap_i64 (by omega) (by omega)]; omega
theorem letter_spec {H : AHeap} (c : Int) : W (evw P orc 28 [.int .u8 c] H) fun v H' => v = .bool (lettI c) ∧ H' = H := by
 refine W_of (fun _ => run28 0) ?_
 unfold lettI
 cases h1 : decide (97 ≤ c) <;> cases h2 : decide (c ≤ 122) <;> cases h3 : decide (65 ≤ c) <;> cases h4 : decide (c ≤ 90) <;>
  (simp -implicitDefEqProofs (disch := first | assumption | omega | (simp only [nxB]; omega) | (simp only [oneB])) only [s28, xlen, evB, binB, h1, h2, h3, h4]; exact W_some.2 ⟨rfl, rfl⟩)
theorem digit_spec {H : AHeap} (c : Int) : W (evw P orc 29 [.int .u8 c] H) fun v H' => v = .bool (diggI c) ∧ H' = H := by
 refine W_of (fun _ => run29 0) ?_
 unfold diggI
 cases h1 : decide (48 ≤ c) <;> cases h2 : decide (c ≤ 57) <;>
  (simp -implicitDefEqProofs (disch := first | assumption | omega | (simp only [nxB]; omega) | (simp only [oneB])) only [s29, xlen, evB, binB, h1, h2]; exact W_some.2 ⟨rfl, rfl⟩)
theorem drop_cons {s : Bs} {k : Nat} {c : UInt8} {r : Bs} (h : s.drop k = c :: r) : s[k]? = some c ∧ s.drop (k + 1) = r ∧ k < s.length ∧ s.length = k + 1 + r.length := by
 have h1 : s[k]? = some c := by
  have := List.getElem?_drop (xs := s) (i := k) (j := 0)
  rw [h] at this
  simpa using this.symm
 have h2 : s.drop (k + 1) = r := by
  have : (s.drop k).drop 1 = r := by rw [h]; rfl
  rwa [List.drop_drop] at this
 have h3 : k < s.length := (List.getElem?_eq_some_iff.1 h1).1
 have h4 := congrArg List.length h
 simp at h4
 exact ⟨h1, h2, h3, by omega⟩
theorem drop_nil {s : Bs} {k : Nat} (h : s.drop k = []) : s.length ≤ k := List.drop_eq_nil_iff.1 h
theorem run_loop {H : AHeap} {s : Bs} (hs : s.length ≤ 1000000000000000000) (at_ : Nat) (d : Bool) (N : Nat) : ∀ (rest : Bs) (n m : Nat), s.drop (at_ + n) = rest → at_ + n ≤ s.length → rest.length < m →
  W (s36_l1 (evw P orc) N m (.str s) (.int .i64 at_) (.bool d) (.int .i64 n) H) fun v H' => v = .int .i64 ((n + runN d rest : Nat) : Int) ∧ H' = H
 | _, _, 0, _, _, hm => by omega
 | [], n, m + 1, h, hn, hm => by
  have := drop_nil h
  have h1 : ¬ (((at_ + n : Nat) : Int) < (s.length : Int)) := by omega
  simp -implicitDefEqProofs (disch := first | assumption | omega | (simp only [nxB]; omega) | (simp only [oneB])) only [s36_l1, s36_j0, s36_b1, s36, xlen, AV.cells, splice, aload, astore, Nat.reduceAdd, Nat.reduceLeDiff, reduceIte, allB, wnn, h1, decide_false]
  exact W_some.2 ⟨by simp [runN], rfl⟩
 | c :: r, n, m + 1, h, hn, hm => by
  obtain ⟨e1, e2, e3, e4⟩ := drop_cons h
  have h1 : (((at_ + n : Nat) : Int) < (s.length : Int)) := by omega
  have ih := run_loop (H := H) hs at_ d N r (n + 1) m (by rw [← Nat.add_assoc]; exact e2) (by omega) (by simp at hm; omega)
  have e1' := jx9 e1
  simp -implicitDefEqProofs (disch := first | assumption | omega | (simp only [nxB]; omega) | (simp only [oneB])) only [s36_l1, s36_j0, s36_b1, s36, xlen, AV.cells, splice, aload, astore, Nat.reduceAdd, Nat.reduceLeDiff, reduceIte, allB, wnn, h1, decide_true, e1']
  refine W_eff0 (digit_spec _) ?_
  have fin : ∀ b, (digB c || (!d && letB c)) = b → (b = true → W (s36_l1 (evw P orc) N m (.str s) (.int .i64 at_) (.bool d) (.int .i64 ((n + 1 : Nat) : Int)) H) fun v H' => v = .int .i64 ((n + runN d (c :: r) : Nat) : Int) ∧ H' = H) ∧ (b = false → n + runN d (c :: r) = n) := by
   intro b hb
   refine ⟨fun h => ?_, fun h => ?_⟩
   ·refine ih.mono ?_
    rintro v H' ⟨rfl, rfl⟩
    subst h
    have e : runN d (c :: r) = runN d r + 1 := by rw [runN, hb]; rfl
    have e' : n + 1 + runN d r = n + runN d (c :: r) := by rw [e]; omega
    exact ⟨by rw [e'], rfl⟩
   ·subst h
    rw [runN, hb]; rfl
  cases hd : diggI (c.toNat : Int) with
  | true =>
   simp -implicitDefEqProofs (disch := first | assumption | omega | (simp only [nxB]; omega) | (simp only [oneB])) only [s36_j0, s36_b1, s36, xlen, evB, binB, wn1]
   exact (fin true (by simp [digB, hd])).1 rfl
  | false =>
   cases d with
   | true =>
    simp -implicitDefEqProofs (disch := first | assumption | omega | (simp only [nxB]; omega) | (simp only [oneB])) only [s36_j0, s36_b1, s36, xlen, evB, Bool.not_true]
    exact W_some.2 ⟨by rw [(fin false (by simp [digB, hd])).2 rfl], rfl⟩
   | false =>
    simp -implicitDefEqProofs (disch := first | assumption | omega | (simp only [nxB]; omega) | (simp only [oneB])) only [s36_j0, s36_b1, s36, xlen, AV.cells, splice, aload, astore, Nat.reduceAdd, Nat.reduceLeDiff, reduceIte, allB, Bool.not_false, wnn, e1']
    refine W_eff0 (letter_spec _) ?_
    cases hl : lettI (c.toNat : Int) with
    | true =>
     simp -implicitDefEqProofs (disch := first | assumption | omega | (simp only [nxB]; omega) | (simp only [oneB])) only [s36_j0, s36_b1, s36, xlen, evB, binB, wn1]
     exact (fin true (by simp [digB, letB, hd, hl])).1 rfl
    | false =>
     simp -implicitDefEqProofs (disch := first | assumption | omega | (simp only [nxB]; omega) | (simp only [oneB])) only [s36_j0, s36_b1, s36, xlen, evB]
     exact W_some.2 ⟨by rw [(fin false (by simp [digB, letB, hd, hl])).2 rfl], rfl⟩
theorem run_spec {H : AHeap} {s : Bs} (hs : s.length ≤ 1000000000000000000) (at_ : Nat) (ha : at_ ≤ s.length) (d : Bool) : W (evw P orc 36 [.str s, .int .i64 at_, .bool d] H) fun v H' => v = .int .i64 (runN d (s.drop at_) : Nat) ∧ H' = H := by
 refine W_of (fun _ => run36 (s.length + 1)) ?_
 rw [s36]
 have := run_loop (H := H) hs at_ d (s.length + 1) (s.drop at_) 0 (s.length + 1) rfl (by omega) (by simp; omega)
 simpa using this
theorem Word_loop {H : AHeap} {x : Bs} {l : Nat} (N : Nat) (all : List Bs) (hA : all.length ≤ 1000) (hg : H.get l = some (.row false 1 (all.map fun y => [AV.str y]))) : ∀ (rest pre : List Bs), all = pre ++ rest → ∀ (m : Nat), rest.length < m →
  W (s14_l1 (evw P orc) N m (.str x) (.sl l 0 all.length 1 (some all.length)) (.int .i64 pre.length) H) fun v H' => v = .bool (memB x rest) ∧ H' = H
 | _, _, _, 0, hm => by omega
 | [], pre, hp, m + 1, hm => by
  have h1 : ¬ ((pre.length : Int) < (all.length : Int)) := by rw [hp]; simp
  simp -implicitDefEqProofs (disch := first | assumption | omega | (simp only [nxB]; omega) | (simp only [oneB])) only [s14_l1, s14_j0, s14_b1, s14_10, s14, xlen, AV.cells, splice, aload, astore, Nat.reduceAdd, Nat.reduceLeDiff, reduceIte, allB, h1, decide_false]
  exact W_some.2 ⟨rfl, rfl⟩
 | y :: ys, pre, hp, m + 1, hm => by
  have h1 : ((pre.length : Int) < (all.length : Int)) := by rw [hp]; simp; omega
  have h0 : (0 : Int) ≤ (pre.length : Int) := by omega
  have e1 : ((pre.length : Int)).toNat = pre.length := by omega
  have hle : pre.length < all.length := by omega
  have he : (all.map fun y => [AV.str y])[pre.length]? = some [AV.str y] := by rw [hp]; simp
  have hw : ((pre ++ [y]).length : Int) = ((pre.length + 1 : Nat) : Int) := by simp
  simp -implicitDefEqProofs (disch := first | assumption | omega | (simp only [nxB]; omega) | (simp only [oneB])) only [s14_l1, s14_j0, s14_b1, s14_10, s14, xlen, AV.cells, splice, aload, astore, Nat.reduceAdd, Nat.reduceLeDiff, reduceIte, allB, h1, decide_true, hg, e1, he]
  cases hc : y == x with
  | true =>
   simp -implicitDefEqProofs (disch := first | assumption | omega | (simp only [nxB]; omega) | (simp only [oneB])) only [s14_j0, s14_b1, s14_10, s14, xlen, evB]
   exact W_some.2 ⟨by simp [memB, hc], rfl⟩
  | false =>
   have ih := Word_loop (H := H) (x := x) N all hA hg ys (pre ++ [y]) (by simp [hp]) m (by simp at hm; omega)
   rw [hw] at ih
   simp -implicitDefEqProofs (disch := first | assumption | omega | (simp only [nxB]; omega) | (simp only [oneB])) only [s14_j0, s14_b1, s14_10, s14, xlen, evB, binB, wn1]
   refine ih.mono ?_
   rintro v H' ⟨rfl, rfl⟩
   exact ⟨by simp [memB, hc], rfl⟩
theorem Word_spec {H : AHeap} (x : Bs) : W (evw P orc 14 [.str x] H) fun v H' => v = .bool (wordB x) ∧ Pur H H' := by
 refine W_of (fun _ => run14 19) ?_
 rw [s14]
 have hw : W (evw P orc 24 [] H) fun v H' => v = .sl H.next 0 wordsL.length 1 (some wordsL.length) ∧ H' = H.push (.row false 1 (wordsL.map fun y => [AV.str y])) := by
  refine W_of (fun _ => run24 0) ?_
  rw [s24]
  simp only [xmake_some, s24_0]
  exact W_some.2 ⟨rfl, rfl⟩
 refine W_call hw ?_
 rintro _ _ ⟨rfl, rfl⟩
 refine ⟨(Pur.push _ _).1, ?_⟩
 rw [s14_10]
 refine (Word_loop (x := x) 19 wordsL (by decide) (AHeap.get_push_same _ _) wordsL [] rfl 19 (by decide)).mono ?_
 rintro v H' ⟨rfl, rfl⟩
 exact ⟨rfl, Pur.push _ _⟩
end Go.Proofs.YtgcamjgnfeajiaaDoor


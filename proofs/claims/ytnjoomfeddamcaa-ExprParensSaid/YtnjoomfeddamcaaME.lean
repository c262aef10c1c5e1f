/-
  Texts of one proof, laid together: Base Tab Ls Pk.
-/
import Derived.Test.YtnjoomfeddamcaaProg
import Derived.Test.YtnjoomfeddamcaaMD
import Derived.KernelRfl
set_option linter.unusedVariables false
set_option linter.unusedSimpArgs false
namespace Go.Proofs.Ytnjoomfeddamcaa
open Go.Ev
noncomputable def P : Program := Try.prog
noncomputable abbrev rC (f : Func) : Kc := retC P f.results.toList
noncomputable abbrev cF (f : Func) (G : CallT) (N : Nat) : Kc := codeC P G N (bodyOf f) (rC f) [] (rC f)
theorem via_trans {A B C : Kc} (h : ∀ R H, A R H = B R H) (h2 : ∀ R H, B R H = C R H) : ∀ R H, A R H = C R H := fun R H => (h R H).trans (h2 R H)
theorem via_top {A B : Kc} {R : Rf} {H : AHeap} {t : O} (h : ∀ R H, A R H = B R H) (h2 : B R H = t) : A R H = t := (h R H).trans h2
theorem runF {f : Nat} {fn : Func} {N : Nat} {args : List AV} {H : AHeap} {r : AV × AHeap} (hf : P.funcs[f]? = some fn) (hb : fn.body = some (bodyOf fn)) (hd : dstsOk fn.ntmps (bodyOf fn) = true) (hn : Nat.ble args.length fn.ntmps = true) (h : cF fn (evw P) N (argsF args) H = some r) : evw P f args H = some r := evw_code hf hb hd hn h
end Go.Proofs.Ytnjoomfeddamcaa

namespace Go.Proofs.Ytnjoomfeddamcaa
open Go.Ev
theorem ta3 : tyAgg P 3 = some false := by kernel_rfl
theorem ts3 : tySize P 3 = some 1 := by kernel_rfl
theorem ta4 : tyAgg P 4 = some false := by kernel_rfl
theorem ts4 : tySize P 4 = some 1 := by kernel_rfl
theorem eq4 {c : Bool} (a b : Bool) : fbin P .eql 4 c (.bool a) (.bool b) = some (.bool (a == b)) := by kernel_rfl
theorem ne4 {c : Bool} (a b : Bool) : fbin P .neq 4 c (.bool a) (.bool b) = some (.bool (!(a == b))) := by kernel_rfl
theorem ta5 : tyAgg P 5 = some false := by kernel_rfl
theorem ts5 : tySize P 5 = some 1 := by kernel_rfl
theorem ta9 : tyAgg P 9 = some false := by kernel_rfl
theorem ts9 : tySize P 9 = some 1 := by kernel_rfl
theorem ln9 {H : AHeap} {s : List UInt8} : abuiltin P H .len [9] [.str s] = some (.int .i64 s.length) := by kernel_rfl
theorem ta22 : tyAgg P 22 = some false := by kernel_rfl
theorem ts22 : tySize P 22 = some 1 := by kernel_rfl
theorem ia22' (l i n : Nat) (cap : Option Nat) (k : Int) : aindexAddr P 22 (.sl l i n 4 cap) (.int .i64 k) = if 4 = 4 ∧ 0 ≤ k ∧ k < n then some (.ptr l (i + k.toNat) 0) else none := by kernel_rfl
theorem ia22 {l i n : Nat} {cap : Option Nat} {k : Int} (h0 : 0 ≤ k) (h1 : k < n) : aindexAddr P 22 (.sl l i n 4 cap) (.int .i64 k) = some (.ptr l (i + k.toNat) 0) := by rw [ia22', if_pos ⟨rfl, h0, h1⟩]
theorem ln22 {H : AHeap} {l i n e : Nat} {cap : Option Nat} : abuiltin P H .len [22] [.sl l i n e cap] = some (.int .i64 n) := by kernel_rfl
theorem ln22n {H : AHeap} : abuiltin P H .len [22] [.nilSl] = some (.int .i64 0) := by kernel_rfl
theorem ta23 : tyAgg P 23 = some false := by kernel_rfl
theorem ts23 : tySize P 23 = some 1 := by kernel_rfl
theorem ta25 : tyAgg P 25 = some true := by kernel_rfl
theorem ts25 : tySize P 25 = some 2 := by kernel_rfl
theorem fa25_0 (l i c : Nat) : afieldAddr P 25 (.ptr l i c) 0 = some (.ptr l i (c + 0)) := by kernel_rfl
theorem fl25_0 (a0 a1 : AV) : afield P 25 (.agg [a0, a1]) 0 = some a0 := by kernel_rfl
theorem fa25_1 (l i c : Nat) : afieldAddr P 25 (.ptr l i c) 1 = some (.ptr l i (c + 1)) := by kernel_rfl
theorem fl25_1 (a0 a1 : AV) : afield P 25 (.agg [a0, a1]) 1 = some a1 := by kernel_rfl
theorem ta32 : tyAgg P 32 = some true := by kernel_rfl
theorem ts32 : tySize P 32 = some 2 := by kernel_rfl
theorem fa32_0 (l i c : Nat) : afieldAddr P 32 (.ptr l i c) 0 = some (.ptr l i (c + 0)) := by kernel_rfl
theorem fl32_0 (a0 a1 : AV) : afield P 32 (.agg [a0, a1]) 0 = some a0 := by kernel_rfl
theorem fa32_1 (l i c : Nat) : afieldAddr P 32 (.ptr l i c) 1 = some (.ptr l i (c + 1)) := by kernel_rfl
theorem fl32_1 (a0 a1 : AV) : afield P 32 (.agg [a0, a1]) 1 = some a1 := by kernel_rfl
theorem ta35 : tyAgg P 35 = some false := by kernel_rfl
theorem ts35 : tySize P 35 = some 1 := by kernel_rfl
theorem ia35' (l i n : Nat) (cap : Option Nat) (k : Int) : aindexAddr P 35 (.sl l i n 11 cap) (.int .i64 k) = if 11 = 11 ∧ 0 ≤ k ∧ k < n then some (.ptr l (i + k.toNat) 0) else none := by kernel_rfl
theorem ia35 {l i n : Nat} {cap : Option Nat} {k : Int} (h0 : 0 ≤ k) (h1 : k < n) : aindexAddr P 35 (.sl l i n 11 cap) (.int .i64 k) = some (.ptr l (i + k.toNat) 0) := by rw [ia35', if_pos ⟨rfl, h0, h1⟩]
theorem ln35 {H : AHeap} {l i n e : Nat} {cap : Option Nat} : abuiltin P H .len [35] [.sl l i n e cap] = some (.int .i64 n) := by kernel_rfl
theorem ln35n {H : AHeap} : abuiltin P H .len [35] [.nilSl] = some (.int .i64 0) := by kernel_rfl
theorem ta37 : tyAgg P 37 = some true := by kernel_rfl
theorem ts37 : tySize P 37 = some 3 := by kernel_rfl
theorem fa37_0 (l i c : Nat) : afieldAddr P 37 (.ptr l i c) 0 = some (.ptr l i (c + 0)) := by kernel_rfl
theorem fl37_0 (a0 a1 a2 : AV) : afield P 37 (.agg [a0, a1, a2]) 0 = some a0 := by kernel_rfl
theorem fa37_1 (l i c : Nat) : afieldAddr P 37 (.ptr l i c) 1 = some (.ptr l i (c + 1)) := by kernel_rfl
theorem fl37_1 (a0 a1 a2 : AV) : afield P 37 (.agg [a0, a1, a2]) 1 = some a1 := by kernel_rfl
theorem fa37_2 (l i c : Nat) : afieldAddr P 37 (.ptr l i c) 2 = some (.ptr l i (c + 2)) := by kernel_rfl
theorem fl37_2 (a0 a1 a2 : AV) : afield P 37 (.agg [a0, a1, a2]) 2 = some a2 := by kernel_rfl
theorem ta39 : tyAgg P 39 = some true := by kernel_rfl
theorem ts39 : tySize P 39 = some 11 := by kernel_rfl
theorem fa39_0 (l i c : Nat) : afieldAddr P 39 (.ptr l i c) 0 = some (.ptr l i (c + 0)) := by kernel_rfl
theorem fl39_0 (a0 a1 a2 a3 a4 a5 a6 a7 a8 a9 a10 : AV) : afield P 39 (.agg [a0, a1, a2, a3, a4, a5, a6, a7, a8, a9, a10]) 0 = some a0 := by kernel_rfl
theorem fa39_1 (l i c : Nat) : afieldAddr P 39 (.ptr l i c) 1 = some (.ptr l i (c + 1)) := by kernel_rfl
theorem fl39_1 (a0 a1 a2 a3 a4 a5 a6 a7 a8 a9 a10 : AV) : afield P 39 (.agg [a0, a1, a2, a3, a4, a5, a6, a7, a8, a9, a10]) 1 = some a1 := by kernel_rfl
theorem fa39_2 (l i c : Nat) : afieldAddr P 39 (.ptr l i c) 2 = some (.ptr l i (c + 2)) := by kernel_rfl
theorem fl39_2 (a0 a1 a2 a3 a4 a5 a6 a7 a8 a9 a10 : AV) : afield P 39 (.agg [a0, a1, a2, a3, a4, a5, a6, a7, a8, a9, a10]) 2 = some a2 := by kernel_rfl
theorem fa39_3 (l i c : Nat) : afieldAddr P 39 (.ptr l i c) 3 = some (.ptr l i (c + 3)) := by kernel_rfl
theorem fl39_3 (a0 a1 a2 a3 a4 a5 a6 a7 a8 a9 a10 : AV) : afield P 39 (.agg [a0, a1, a2, a3, a4, a5, a6, a7, a8, a9, a10]) 3 = some (.agg [a3, a4]) := by kernel_rfl
theorem fa39_4 (l i c : Nat) : afieldAddr P 39 (.ptr l i c) 4 = some (.ptr l i (c + 5)) := by kernel_rfl
theorem fl39_4 (a0 a1 a2 a3 a4 a5 a6 a7 a8 a9 a10 : AV) : afield P 39 (.agg [a0, a1, a2, a3, a4, a5, a6, a7, a8, a9, a10]) 4 = some a5 := by kernel_rfl
theorem fa39_5 (l i c : Nat) : afieldAddr P 39 (.ptr l i c) 5 = some (.ptr l i (c + 6)) := by kernel_rfl
theorem fl39_5 (a0 a1 a2 a3 a4 a5 a6 a7 a8 a9 a10 : AV) : afield P 39 (.agg [a0, a1, a2, a3, a4, a5, a6, a7, a8, a9, a10]) 5 = some a6 := by kernel_rfl
theorem fa39_6 (l i c : Nat) : afieldAddr P 39 (.ptr l i c) 6 = some (.ptr l i (c + 7)) := by kernel_rfl
theorem fl39_6 (a0 a1 a2 a3 a4 a5 a6 a7 a8 a9 a10 : AV) : afield P 39 (.agg [a0, a1, a2, a3, a4, a5, a6, a7, a8, a9, a10]) 6 = some (.agg [a7, a8, a9]) := by kernel_rfl
theorem fa39_7 (l i c : Nat) : afieldAddr P 39 (.ptr l i c) 7 = some (.ptr l i (c + 10)) := by kernel_rfl
theorem fl39_7 (a0 a1 a2 a3 a4 a5 a6 a7 a8 a9 a10 : AV) : afield P 39 (.agg [a0, a1, a2, a3, a4, a5, a6, a7, a8, a9, a10]) 7 = some a10 := by kernel_rfl
theorem ta46 : tyAgg P 46 = some false := by kernel_rfl
theorem ts46 : tySize P 46 = some 1 := by kernel_rfl
theorem ia46' (l i n : Nat) (cap : Option Nat) (k : Int) : aindexAddr P 46 (.sl l i n 1 cap) (.int .i64 k) = if 1 = 1 ∧ 0 ≤ k ∧ k < n then some (.ptr l (i + k.toNat) 0) else none := by kernel_rfl
theorem ia46 {l i n : Nat} {cap : Option Nat} {k : Int} (h0 : 0 ≤ k) (h1 : k < n) : aindexAddr P 46 (.sl l i n 1 cap) (.int .i64 k) = some (.ptr l (i + k.toNat) 0) := by rw [ia46', if_pos ⟨rfl, h0, h1⟩]
theorem ln46 {H : AHeap} {l i n e : Nat} {cap : Option Nat} : abuiltin P H .len [46] [.sl l i n e cap] = some (.int .i64 n) := by kernel_rfl
theorem ln46n {H : AHeap} : abuiltin P H .len [46] [.nilSl] = some (.int .i64 0) := by kernel_rfl
theorem ta48 : tyAgg P 48 = some false := by kernel_rfl
theorem ts48 : tySize P 48 = some 1 := by kernel_rfl
theorem ia48' (l i n : Nat) (cap : Option Nat) (k : Int) : aindexAddr P 48 (.sl l i n 1 cap) (.int .i64 k) = if 1 = 1 ∧ 0 ≤ k ∧ k < n then some (.ptr l (i + k.toNat) 0) else none := by kernel_rfl
theorem ia48 {l i n : Nat} {cap : Option Nat} {k : Int} (h0 : 0 ≤ k) (h1 : k < n) : aindexAddr P 48 (.sl l i n 1 cap) (.int .i64 k) = some (.ptr l (i + k.toNat) 0) := by rw [ia48', if_pos ⟨rfl, h0, h1⟩]
theorem ln48 {H : AHeap} {l i n e : Nat} {cap : Option Nat} : abuiltin P H .len [48] [.sl l i n e cap] = some (.int .i64 n) := by kernel_rfl
theorem ln48n {H : AHeap} : abuiltin P H .len [48] [.nilSl] = some (.int .i64 0) := by kernel_rfl
theorem ta50 : tyAgg P 50 = some false := by kernel_rfl
theorem ts50 : tySize P 50 = some 1 := by kernel_rfl
theorem ia50' (l i n : Nat) (cap : Option Nat) (k : Int) : aindexAddr P 50 (.sl l i n 9 cap) (.int .i64 k) = if 9 = 9 ∧ 0 ≤ k ∧ k < n then some (.ptr l (i + k.toNat) 0) else none := by kernel_rfl
theorem ia50 {l i n : Nat} {cap : Option Nat} {k : Int} (h0 : 0 ≤ k) (h1 : k < n) : aindexAddr P 50 (.sl l i n 9 cap) (.int .i64 k) = some (.ptr l (i + k.toNat) 0) := by rw [ia50', if_pos ⟨rfl, h0, h1⟩]
theorem ln50 {H : AHeap} {l i n e : Nat} {cap : Option Nat} : abuiltin P H .len [50] [.sl l i n e cap] = some (.int .i64 n) := by kernel_rfl
theorem ln50n {H : AHeap} : abuiltin P H .len [50] [.nilSl] = some (.int .i64 0) := by kernel_rfl
theorem ta54 : tyAgg P 54 = some true := by kernel_rfl
theorem ts54 : tySize P 54 = some 9 := by kernel_rfl
theorem fa54_0 (l i c : Nat) : afieldAddr P 54 (.ptr l i c) 0 = some (.ptr l i (c + 0)) := by kernel_rfl
theorem fl54_0 (a0 a1 a2 a3 a4 a5 a6 a7 a8 : AV) : afield P 54 (.agg [a0, a1, a2, a3, a4, a5, a6, a7, a8]) 0 = some a0 := by kernel_rfl
theorem fa54_1 (l i c : Nat) : afieldAddr P 54 (.ptr l i c) 1 = some (.ptr l i (c + 1)) := by kernel_rfl
theorem fl54_1 (a0 a1 a2 a3 a4 a5 a6 a7 a8 : AV) : afield P 54 (.agg [a0, a1, a2, a3, a4, a5, a6, a7, a8]) 1 = some a1 := by kernel_rfl
theorem fa54_2 (l i c : Nat) : afieldAddr P 54 (.ptr l i c) 2 = some (.ptr l i (c + 2)) := by kernel_rfl
theorem fl54_2 (a0 a1 a2 a3 a4 a5 a6 a7 a8 : AV) : afield P 54 (.agg [a0, a1, a2, a3, a4, a5, a6, a7, a8]) 2 = some (.agg [a2, a3]) := by kernel_rfl
theorem fa54_3 (l i c : Nat) : afieldAddr P 54 (.ptr l i c) 3 = some (.ptr l i (c + 4)) := by kernel_rfl
theorem fl54_3 (a0 a1 a2 a3 a4 a5 a6 a7 a8 : AV) : afield P 54 (.agg [a0, a1, a2, a3, a4, a5, a6, a7, a8]) 3 = some a4 := by kernel_rfl
theorem fa54_4 (l i c : Nat) : afieldAddr P 54 (.ptr l i c) 4 = some (.ptr l i (c + 5)) := by kernel_rfl
theorem fl54_4 (a0 a1 a2 a3 a4 a5 a6 a7 a8 : AV) : afield P 54 (.agg [a0, a1, a2, a3, a4, a5, a6, a7, a8]) 4 = some a5 := by kernel_rfl
theorem fa54_5 (l i c : Nat) : afieldAddr P 54 (.ptr l i c) 5 = some (.ptr l i (c + 6)) := by kernel_rfl
theorem fl54_5 (a0 a1 a2 a3 a4 a5 a6 a7 a8 : AV) : afield P 54 (.agg [a0, a1, a2, a3, a4, a5, a6, a7, a8]) 5 = some a6 := by kernel_rfl
theorem fa54_6 (l i c : Nat) : afieldAddr P 54 (.ptr l i c) 6 = some (.ptr l i (c + 7)) := by kernel_rfl
theorem fl54_6 (a0 a1 a2 a3 a4 a5 a6 a7 a8 : AV) : afield P 54 (.agg [a0, a1, a2, a3, a4, a5, a6, a7, a8]) 6 = some a7 := by kernel_rfl
theorem fa54_7 (l i c : Nat) : afieldAddr P 54 (.ptr l i c) 7 = some (.ptr l i (c + 8)) := by kernel_rfl
theorem fl54_7 (a0 a1 a2 a3 a4 a5 a6 a7 a8 : AV) : afield P 54 (.agg [a0, a1, a2, a3, a4, a5, a6, a7, a8]) 7 = some a8 := by kernel_rfl
theorem ta65 : tyAgg P 65 = some true := by kernel_rfl
theorem ts65 : tySize P 65 = some 4 := by kernel_rfl
theorem fa65_0 (l i c : Nat) : afieldAddr P 65 (.ptr l i c) 0 = some (.ptr l i (c + 0)) := by kernel_rfl
theorem fl65_0 (a0 a1 a2 a3 : AV) : afield P 65 (.agg [a0, a1, a2, a3]) 0 = some a0 := by kernel_rfl
theorem fa65_1 (l i c : Nat) : afieldAddr P 65 (.ptr l i c) 1 = some (.ptr l i (c + 1)) := by kernel_rfl
theorem fl65_1 (a0 a1 a2 a3 : AV) : afield P 65 (.agg [a0, a1, a2, a3]) 1 = some a1 := by kernel_rfl
theorem fa65_2 (l i c : Nat) : afieldAddr P 65 (.ptr l i c) 2 = some (.ptr l i (c + 2)) := by kernel_rfl
theorem fl65_2 (a0 a1 a2 a3 : AV) : afield P 65 (.agg [a0, a1, a2, a3]) 2 = some a2 := by kernel_rfl
theorem fa65_3 (l i c : Nat) : afieldAddr P 65 (.ptr l i c) 3 = some (.ptr l i (c + 3)) := by kernel_rfl
theorem fl65_3 (a0 a1 a2 a3 : AV) : afield P 65 (.agg [a0, a1, a2, a3]) 3 = some a3 := by kernel_rfl
theorem ta68 : tyAgg P 68 = some false := by kernel_rfl
theorem ts68 : tySize P 68 = some 1 := by kernel_rfl
theorem ta69 : tyAgg P 69 = some false := by kernel_rfl
theorem ts69 : tySize P 69 = some 1 := by kernel_rfl
theorem ia69' (l i n : Nat) (cap : Option Nat) (k : Int) : aindexAddr P 69 (.sl l i n 1 cap) (.int .i64 k) = if 1 = 1 ∧ 0 ≤ k ∧ k < n then some (.ptr l (i + k.toNat) 0) else none := by kernel_rfl
theorem ia69 {l i n : Nat} {cap : Option Nat} {k : Int} (h0 : 0 ≤ k) (h1 : k < n) : aindexAddr P 69 (.sl l i n 1 cap) (.int .i64 k) = some (.ptr l (i + k.toNat) 0) := by rw [ia69', if_pos ⟨rfl, h0, h1⟩]
theorem ln69 {H : AHeap} {l i n e : Nat} {cap : Option Nat} : abuiltin P H .len [69] [.sl l i n e cap] = some (.int .i64 n) := by kernel_rfl
theorem ln69n {H : AHeap} : abuiltin P H .len [69] [.nilSl] = some (.int .i64 0) := by kernel_rfl
theorem ta71 : tyAgg P 71 = some true := by kernel_rfl
theorem ts71 : tySize P 71 = some 6 := by kernel_rfl
theorem fa71_0 (l i c : Nat) : afieldAddr P 71 (.ptr l i c) 0 = some (.ptr l i (c + 0)) := by kernel_rfl
theorem fl71_0 (a0 a1 a2 a3 a4 a5 : AV) : afield P 71 (.agg [a0, a1, a2, a3, a4, a5]) 0 = some a0 := by kernel_rfl
theorem fa71_1 (l i c : Nat) : afieldAddr P 71 (.ptr l i c) 1 = some (.ptr l i (c + 1)) := by kernel_rfl
theorem fl71_1 (a0 a1 a2 a3 a4 a5 : AV) : afield P 71 (.agg [a0, a1, a2, a3, a4, a5]) 1 = some a1 := by kernel_rfl
theorem fa71_2 (l i c : Nat) : afieldAddr P 71 (.ptr l i c) 2 = some (.ptr l i (c + 2)) := by kernel_rfl
theorem fl71_2 (a0 a1 a2 a3 a4 a5 : AV) : afield P 71 (.agg [a0, a1, a2, a3, a4, a5]) 2 = some a2 := by kernel_rfl
theorem fa71_3 (l i c : Nat) : afieldAddr P 71 (.ptr l i c) 3 = some (.ptr l i (c + 3)) := by kernel_rfl
theorem fl71_3 (a0 a1 a2 a3 a4 a5 : AV) : afield P 71 (.agg [a0, a1, a2, a3, a4, a5]) 3 = some a3 := by kernel_rfl
theorem fa71_4 (l i c : Nat) : afieldAddr P 71 (.ptr l i c) 4 = some (.ptr l i (c + 4)) := by kernel_rfl
theorem fl71_4 (a0 a1 a2 a3 a4 a5 : AV) : afield P 71 (.agg [a0, a1, a2, a3, a4, a5]) 4 = some (.agg [a4, a5]) := by kernel_rfl
theorem ta73 : tyAgg P 73 = some false := by kernel_rfl
theorem ts73 : tySize P 73 = some 1 := by kernel_rfl
theorem ta75 : tyAgg P 75 = some true := by kernel_rfl
theorem ts75 : tySize P 75 = some 5 := by kernel_rfl
theorem fa75_0 (l i c : Nat) : afieldAddr P 75 (.ptr l i c) 0 = some (.ptr l i (c + 0)) := by kernel_rfl
theorem fl75_0 (a0 a1 a2 a3 a4 : AV) : afield P 75 (.agg [a0, a1, a2, a3, a4]) 0 = some a0 := by kernel_rfl
theorem fa75_1 (l i c : Nat) : afieldAddr P 75 (.ptr l i c) 1 = some (.ptr l i (c + 1)) := by kernel_rfl
theorem fl75_1 (a0 a1 a2 a3 a4 : AV) : afield P 75 (.agg [a0, a1, a2, a3, a4]) 1 = some a1 := by kernel_rfl
theorem fa75_2 (l i c : Nat) : afieldAddr P 75 (.ptr l i c) 2 = some (.ptr l i (c + 2)) := by kernel_rfl
theorem fl75_2 (a0 a1 a2 a3 a4 : AV) : afield P 75 (.agg [a0, a1, a2, a3, a4]) 2 = some a2 := by kernel_rfl
theorem fa75_3 (l i c : Nat) : afieldAddr P 75 (.ptr l i c) 3 = some (.ptr l i (c + 3)) := by kernel_rfl
theorem fl75_3 (a0 a1 a2 a3 a4 : AV) : afield P 75 (.agg [a0, a1, a2, a3, a4]) 3 = some (.agg [a3, a4]) := by kernel_rfl
theorem ta83 : tyAgg P 83 = some false := by kernel_rfl
theorem ts83 : tySize P 83 = some 1 := by kernel_rfl
theorem ta85 : tyAgg P 85 = some true := by kernel_rfl
theorem ts85 : tySize P 85 = some 5 := by kernel_rfl
theorem fa85_0 (l i c : Nat) : afieldAddr P 85 (.ptr l i c) 0 = some (.ptr l i (c + 0)) := by kernel_rfl
theorem fl85_0 (a0 a1 a2 a3 a4 : AV) : afield P 85 (.agg [a0, a1, a2, a3, a4]) 0 = some a0 := by kernel_rfl
theorem fa85_1 (l i c : Nat) : afieldAddr P 85 (.ptr l i c) 1 = some (.ptr l i (c + 1)) := by kernel_rfl
theorem fl85_1 (a0 a1 a2 a3 a4 : AV) : afield P 85 (.agg [a0, a1, a2, a3, a4]) 1 = some a1 := by kernel_rfl
theorem fa85_2 (l i c : Nat) : afieldAddr P 85 (.ptr l i c) 2 = some (.ptr l i (c + 2)) := by kernel_rfl
theorem fl85_2 (a0 a1 a2 a3 a4 : AV) : afield P 85 (.agg [a0, a1, a2, a3, a4]) 2 = some a2 := by kernel_rfl
theorem fa85_3 (l i c : Nat) : afieldAddr P 85 (.ptr l i c) 3 = some (.ptr l i (c + 3)) := by kernel_rfl
theorem fl85_3 (a0 a1 a2 a3 a4 : AV) : afield P 85 (.agg [a0, a1, a2, a3, a4]) 3 = some (.agg [a3, a4]) := by kernel_rfl
theorem ta101 : tyAgg P 101 = some true := by kernel_rfl
theorem ts101 : tySize P 101 = some 2 := by kernel_rfl
theorem fa101_0 (l i c : Nat) : afieldAddr P 101 (.ptr l i c) 0 = some (.ptr l i (c + 0)) := by kernel_rfl
theorem fl101_0 (a0 a1 : AV) : afield P 101 (.agg [a0, a1]) 0 = some a0 := by kernel_rfl
theorem fa101_1 (l i c : Nat) : afieldAddr P 101 (.ptr l i c) 1 = some (.ptr l i (c + 1)) := by kernel_rfl
theorem fl101_1 (a0 a1 : AV) : afield P 101 (.agg [a0, a1]) 1 = some a1 := by kernel_rfl
theorem ta102 : tyAgg P 102 = some false := by kernel_rfl
theorem ts102 : tySize P 102 = some 1 := by kernel_rfl
theorem ia102' (l i n : Nat) (cap : Option Nat) (k : Int) : aindexAddr P 102 (.sl l i n 2 cap) (.int .i64 k) = if 2 = 2 ∧ 0 ≤ k ∧ k < n then some (.ptr l (i + k.toNat) 0) else none := by kernel_rfl
theorem ia102 {l i n : Nat} {cap : Option Nat} {k : Int} (h0 : 0 ≤ k) (h1 : k < n) : aindexAddr P 102 (.sl l i n 2 cap) (.int .i64 k) = some (.ptr l (i + k.toNat) 0) := by rw [ia102', if_pos ⟨rfl, h0, h1⟩]
theorem ln102 {H : AHeap} {l i n e : Nat} {cap : Option Nat} : abuiltin P H .len [102] [.sl l i n e cap] = some (.int .i64 n) := by kernel_rfl
theorem ln102n {H : AHeap} : abuiltin P H .len [102] [.nilSl] = some (.int .i64 0) := by kernel_rfl
theorem ta108 : tyAgg P 108 = some false := by kernel_rfl
theorem ts108 : tySize P 108 = some 1 := by kernel_rfl
theorem ia108' (l i n : Nat) (cap : Option Nat) (k : Int) : aindexAddr P 108 (.sl l i n 1 cap) (.int .i64 k) = if 1 = 1 ∧ 0 ≤ k ∧ k < n then some (.ptr l (i + k.toNat) 0) else none := by kernel_rfl
theorem ia108 {l i n : Nat} {cap : Option Nat} {k : Int} (h0 : 0 ≤ k) (h1 : k < n) : aindexAddr P 108 (.sl l i n 1 cap) (.int .i64 k) = some (.ptr l (i + k.toNat) 0) := by rw [ia108', if_pos ⟨rfl, h0, h1⟩]
theorem ln108 {H : AHeap} {l i n e : Nat} {cap : Option Nat} : abuiltin P H .len [108] [.sl l i n e cap] = some (.int .i64 n) := by kernel_rfl
theorem ln108n {H : AHeap} : abuiltin P H .len [108] [.nilSl] = some (.int .i64 0) := by kernel_rfl
theorem ta109 : tyAgg P 109 = some false := by kernel_rfl
theorem ts109 : tySize P 109 = some 1 := by kernel_rfl
theorem ia109' (l i n : Nat) (cap : Option Nat) (k : Int) : aindexAddr P 109 (.sl l i n 1 cap) (.int .i64 k) = if 1 = 1 ∧ 0 ≤ k ∧ k < n then some (.ptr l (i + k.toNat) 0) else none := by kernel_rfl
theorem ia109 {l i n : Nat} {cap : Option Nat} {k : Int} (h0 : 0 ≤ k) (h1 : k < n) : aindexAddr P 109 (.sl l i n 1 cap) (.int .i64 k) = some (.ptr l (i + k.toNat) 0) := by rw [ia109', if_pos ⟨rfl, h0, h1⟩]
theorem ln109 {H : AHeap} {l i n e : Nat} {cap : Option Nat} : abuiltin P H .len [109] [.sl l i n e cap] = some (.int .i64 n) := by kernel_rfl
theorem ln109n {H : AHeap} : abuiltin P H .len [109] [.nilSl] = some (.int .i64 0) := by kernel_rfl
theorem ta118 : tyAgg P 118 = some false := by kernel_rfl
theorem ts118 : tySize P 118 = some 1 := by kernel_rfl
theorem ta120 : tyAgg P 120 = some false := by kernel_rfl
theorem ts120 : tySize P 120 = some 1 := by kernel_rfl
theorem ta121 : tyAgg P 121 = some false := by kernel_rfl
theorem ts121 : tySize P 121 = some 1 := by kernel_rfl
theorem ta122 : tyAgg P 122 = some false := by kernel_rfl
theorem ts122 : tySize P 122 = some 1 := by kernel_rfl
theorem bd25_0_1 (a0 : Int) (a1 : Int) : abuild P 25 [(0, (.int .i64 a0)), (1, (.int .i64 a1))] = some (.agg [(.int .i64 a0), (.int .i64 a1)]) := by kernel_rfl
theorem bd25_0 (a0 : Int) : abuild P 25 [(0, (.int .i64 a0))] = some (.agg [(.int .i64 a0), (.int .i64 0)]) := by kernel_rfl
theorem bd65_0_3 (a0 : Int) (a3 : Int) : abuild P 65 [(0, (.int .i64 a0)), (3, (.int .i64 a3))] = some (.agg [(.int .i64 a0), (.str []), (.int .i64 0), (.int .i64 a3)]) := by kernel_rfl
theorem bd71_0_1v0 (a1 : Int) : abuild P 71 [(0, AV.nilSl), (1, (.int .i64 a1))] = some (.agg [AV.nilSl, (.int .i64 a1), (.int .i64 0), AV.nilSl, (.int .i64 0), (.int .i64 0)]) := by kernel_rfl
theorem bd71_0_1v1 (a0l : Nat) (a0i : Nat) (a0n : Nat) (a0e : Nat) (a0c : Option Nat) (a1 : Int) : abuild P 71 [(0, (.sl a0l a0i a0n a0e a0c)), (1, (.int .i64 a1))] = some (.agg [(.sl a0l a0i a0n a0e a0c), (.int .i64 a1), (.int .i64 0), AV.nilSl, (.int .i64 0), (.int .i64 0)]) := by kernel_rfl
theorem bd75_0_1v0 (a1 : Int) : abuild P 75 [(0, AV.nilSl), (1, (.int .i64 a1))] = some (.agg [AV.nilSl, (.int .i64 a1), (.int .i64 0), (.int .i64 0), (.int .i64 0)]) := by kernel_rfl
theorem bd75_0_1v1 (a0l : Nat) (a0i : Nat) (a0n : Nat) (a0e : Nat) (a0c : Option Nat) (a1 : Int) : abuild P 75 [(0, (.sl a0l a0i a0n a0e a0c)), (1, (.int .i64 a1))] = some (.agg [(.sl a0l a0i a0n a0e a0c), (.int .i64 a1), (.int .i64 0), (.int .i64 0), (.int .i64 0)]) := by kernel_rfl
theorem bd75_0_1_2v0 (a1 : Int) (a2 : Int) : abuild P 75 [(0, AV.nilSl), (1, (.int .i64 a1)), (2, (.int .i64 a2))] = some (.agg [AV.nilSl, (.int .i64 a1), (.int .i64 a2), (.int .i64 0), (.int .i64 0)]) := by kernel_rfl
theorem bd75_0_1_2v1 (a0l : Nat) (a0i : Nat) (a0n : Nat) (a0e : Nat) (a0c : Option Nat) (a1 : Int) (a2 : Int) : abuild P 75 [(0, (.sl a0l a0i a0n a0e a0c)), (1, (.int .i64 a1)), (2, (.int .i64 a2))] = some (.agg [(.sl a0l a0i a0n a0e a0c), (.int .i64 a1), (.int .i64 a2), (.int .i64 0), (.int .i64 0)]) := by kernel_rfl
theorem bd71_0_1_2_3v0 (a1 : Int) (a2 : Int) : abuild P 71 [(0, AV.nilSl), (1, (.int .i64 a1)), (2, (.int .i64 a2)), (3, AV.nilSl)] = some (.agg [AV.nilSl, (.int .i64 a1), (.int .i64 a2), AV.nilSl, (.int .i64 0), (.int .i64 0)]) := by kernel_rfl
theorem bd71_0_1_2_3v1 (a1 : Int) (a2 : Int) (a3l : Nat) (a3i : Nat) (a3n : Nat) (a3e : Nat) (a3c : Option Nat) : abuild P 71 [(0, AV.nilSl), (1, (.int .i64 a1)), (2, (.int .i64 a2)), (3, (.sl a3l a3i a3n a3e a3c))] = some (.agg [AV.nilSl, (.int .i64 a1), (.int .i64 a2), (.sl a3l a3i a3n a3e a3c), (.int .i64 0), (.int .i64 0)]) := by kernel_rfl
theorem bd71_0_1_2_3v2 (a0l : Nat) (a0i : Nat) (a0n : Nat) (a0e : Nat) (a0c : Option Nat) (a1 : Int) (a2 : Int) : abuild P 71 [(0, (.sl a0l a0i a0n a0e a0c)), (1, (.int .i64 a1)), (2, (.int .i64 a2)), (3, AV.nilSl)] = some (.agg [(.sl a0l a0i a0n a0e a0c), (.int .i64 a1), (.int .i64 a2), AV.nilSl, (.int .i64 0), (.int .i64 0)]) := by kernel_rfl
theorem bd71_0_1_2_3v3 (a0l : Nat) (a0i : Nat) (a0n : Nat) (a0e : Nat) (a0c : Option Nat) (a1 : Int) (a2 : Int) (a3l : Nat) (a3i : Nat) (a3n : Nat) (a3e : Nat) (a3c : Option Nat) : abuild P 71 [(0, (.sl a0l a0i a0n a0e a0c)), (1, (.int .i64 a1)), (2, (.int .i64 a2)), (3, (.sl a3l a3i a3n a3e a3c))] = some (.agg [(.sl a0l a0i a0n a0e a0c), (.int .i64 a1), (.int .i64 a2), (.sl a3l a3i a3n a3e a3c), (.int .i64 0), (.int .i64 0)]) := by kernel_rfl
theorem bd85_0_1_2v0 (a1 : Int) (a2 : Int) : abuild P 85 [(0, AV.nilSl), (1, (.int .i64 a1)), (2, (.int .i64 a2))] = some (.agg [AV.nilSl, (.int .i64 a1), (.int .i64 a2), (.int .i64 0), (.int .i64 0)]) := by kernel_rfl
theorem bd85_0_1_2v1 (a0l : Nat) (a0i : Nat) (a0n : Nat) (a0e : Nat) (a0c : Option Nat) (a1 : Int) (a2 : Int) : abuild P 85 [(0, (.sl a0l a0i a0n a0e a0c)), (1, (.int .i64 a1)), (2, (.int .i64 a2))] = some (.agg [(.sl a0l a0i a0n a0e a0c), (.int .i64 a1), (.int .i64 a2), (.int .i64 0), (.int .i64 0)]) := by kernel_rfl
theorem bd65_0_1_3 (a0 : Int) (a1 : List UInt8) (a3 : Int) : abuild P 65 [(0, (.int .i64 a0)), (1, (.str a1)), (3, (.int .i64 a3))] = some (.agg [(.int .i64 a0), (.str a1), (.int .i64 0), (.int .i64 a3)]) := by kernel_rfl
theorem bd65_0_2_3 (a0 : Int) (a2 : Int) (a3 : Int) : abuild P 65 [(0, (.int .i64 a0)), (2, (.int .i64 a2)), (3, (.int .i64 a3))] = some (.agg [(.int .i64 a0), (.str []), (.int .i64 a2), (.int .i64 a3)]) := by kernel_rfl
theorem bd32_0_1 (a0 : List UInt8) (a1 : Int) : abuild P 32 [(0, (.str a0)), (1, (.int .i64 a1))] = some (.agg [(.str a0), (.int .i64 a1)]) := by kernel_rfl
theorem bd32_1 (a1 : Int) : abuild P 32 [(1, (.int .i64 a1))] = some (.agg [(.str []), (.int .i64 a1)]) := by kernel_rfl
theorem bd39_0_4_5v0 (a0 : Int) (a5 : Int) : abuild P 39 [(0, (.int .i64 a0)), (4, AV.nilSl), (5, (.int .i64 a5))] = some (.agg [(.int .i64 a0), (.int .i64 0), (.str []), (.str []), (.int .i64 0), AV.nilSl, (.int .i64 a5), (.int .i64 0), (.int .i64 0), (.int .i64 0), (.int .i64 0)]) := by kernel_rfl
theorem bd39_0_4_5v1 (a0 : Int) (a4l : Nat) (a4i : Nat) (a4n : Nat) (a4e : Nat) (a4c : Option Nat) (a5 : Int) : abuild P 39 [(0, (.int .i64 a0)), (4, (.sl a4l a4i a4n a4e a4c)), (5, (.int .i64 a5))] = some (.agg [(.int .i64 a0), (.int .i64 0), (.str []), (.str []), (.int .i64 0), (.sl a4l a4i a4n a4e a4c), (.int .i64 a5), (.int .i64 0), (.int .i64 0), (.int .i64 0), (.int .i64 0)]) := by kernel_rfl
theorem bd101_0_1 (a0 : List UInt8) (a1 : Int) : abuild P 101 [(0, (.str a0)), (1, (.int .i64 a1))] = some (.agg [(.str a0), (.int .i64 a1)]) := by kernel_rfl
theorem bd65_0 (a0 : Int) : abuild P 65 [(0, (.int .i64 a0))] = some (.agg [(.int .i64 a0), (.str []), (.int .i64 0), (.int .i64 0)]) := by kernel_rfl
theorem bd54_6 (a6 : Int) : abuild P 54 [(6, (.int .i64 a6))] = some (.agg [(.int .i64 0), (.str []), (.str []), (.int .i64 0), AV.nilSl, AV.nilSl, AV.nilSl, (.int .i64 a6), (.int .i64 0)]) := by kernel_rfl
theorem bd54_0_3v0 (a0 : Int) : abuild P 54 [(0, (.int .i64 a0)), (3, AV.nilSl)] = some (.agg [(.int .i64 a0), (.str []), (.str []), (.int .i64 0), AV.nilSl, AV.nilSl, AV.nilSl, (.int .i64 0), (.int .i64 0)]) := by kernel_rfl
theorem bd54_0_3v1 (a0 : Int) (a3l : Nat) (a3i : Nat) (a3n : Nat) (a3e : Nat) (a3c : Option Nat) : abuild P 54 [(0, (.int .i64 a0)), (3, (.sl a3l a3i a3n a3e a3c))] = some (.agg [(.int .i64 a0), (.str []), (.str []), (.int .i64 0), (.sl a3l a3i a3n a3e a3c), AV.nilSl, AV.nilSl, (.int .i64 0), (.int .i64 0)]) := by kernel_rfl
theorem bd39_0_2_4_5v0 (a0 : Int) (a2 : List UInt8) (a5 : Int) : abuild P 39 [(0, (.int .i64 a0)), (2, (.str a2)), (4, AV.nilSl), (5, (.int .i64 a5))] = some (.agg [(.int .i64 a0), (.int .i64 0), (.str a2), (.str []), (.int .i64 0), AV.nilSl, (.int .i64 a5), (.int .i64 0), (.int .i64 0), (.int .i64 0), (.int .i64 0)]) := by kernel_rfl
theorem bd39_0_2_4_5v1 (a0 : Int) (a2 : List UInt8) (a4l : Nat) (a4i : Nat) (a4n : Nat) (a4e : Nat) (a4c : Option Nat) (a5 : Int) : abuild P 39 [(0, (.int .i64 a0)), (2, (.str a2)), (4, (.sl a4l a4i a4n a4e a4c)), (5, (.int .i64 a5))] = some (.agg [(.int .i64 a0), (.int .i64 0), (.str a2), (.str []), (.int .i64 0), (.sl a4l a4i a4n a4e a4c), (.int .i64 a5), (.int .i64 0), (.int .i64 0), (.int .i64 0), (.int .i64 0)]) := by kernel_rfl
theorem bd39_0_1_5 (a0 : Int) (a1 : Int) (a5 : Int) : abuild P 39 [(0, (.int .i64 a0)), (1, (.int .i64 a1)), (5, (.int .i64 a5))] = some (.agg [(.int .i64 a0), (.int .i64 a1), (.str []), (.str []), (.int .i64 0), AV.nilSl, (.int .i64 a5), (.int .i64 0), (.int .i64 0), (.int .i64 0), (.int .i64 0)]) := by kernel_rfl
theorem bd39_0_3_5 (a0 : Int) (a3_0 : List UInt8) (a3_1 : Int) (a5 : Int) : abuild P 39 [(0, (.int .i64 a0)), (3, (.agg [(.str a3_0), (.int .i64 a3_1)])), (5, (.int .i64 a5))] = some (.agg [(.int .i64 a0), (.int .i64 0), (.str []), (.str a3_0), (.int .i64 a3_1), AV.nilSl, (.int .i64 a5), (.int .i64 0), (.int .i64 0), (.int .i64 0), (.int .i64 0)]) := by kernel_rfl
theorem bd39_0_5 (a0 : Int) (a5 : Int) : abuild P 39 [(0, (.int .i64 a0)), (5, (.int .i64 a5))] = some (.agg [(.int .i64 a0), (.int .i64 0), (.str []), (.str []), (.int .i64 0), AV.nilSl, (.int .i64 a5), (.int .i64 0), (.int .i64 0), (.int .i64 0), (.int .i64 0)]) := by kernel_rfl
theorem bd39_0_2_5 (a0 : Int) (a2 : List UInt8) (a5 : Int) : abuild P 39 [(0, (.int .i64 a0)), (2, (.str a2)), (5, (.int .i64 a5))] = some (.agg [(.int .i64 a0), (.int .i64 0), (.str a2), (.str []), (.int .i64 0), AV.nilSl, (.int .i64 a5), (.int .i64 0), (.int .i64 0), (.int .i64 0), (.int .i64 0)]) := by kernel_rfl
theorem bd54_0_1_3v0 (a0 : Int) (a1 : List UInt8) : abuild P 54 [(0, (.int .i64 a0)), (1, (.str a1)), (3, AV.nilSl)] = some (.agg [(.int .i64 a0), (.str a1), (.str []), (.int .i64 0), AV.nilSl, AV.nilSl, AV.nilSl, (.int .i64 0), (.int .i64 0)]) := by kernel_rfl
theorem bd54_0_1_3v1 (a0 : Int) (a1 : List UInt8) (a3l : Nat) (a3i : Nat) (a3n : Nat) (a3e : Nat) (a3c : Option Nat) : abuild P 54 [(0, (.int .i64 a0)), (1, (.str a1)), (3, (.sl a3l a3i a3n a3e a3c))] = some (.agg [(.int .i64 a0), (.str a1), (.str []), (.int .i64 0), (.sl a3l a3i a3n a3e a3c), AV.nilSl, AV.nilSl, (.int .i64 0), (.int .i64 0)]) := by kernel_rfl
theorem bd54_0_1_2 (a0 : Int) (a1 : List UInt8) (a2_0 : List UInt8) (a2_1 : Int) : abuild P 54 [(0, (.int .i64 a0)), (1, (.str a1)), (2, (.agg [(.str a2_0), (.int .i64 a2_1)]))] = some (.agg [(.int .i64 a0), (.str a1), (.str a2_0), (.int .i64 a2_1), AV.nilSl, AV.nilSl, AV.nilSl, (.int .i64 0), (.int .i64 0)]) := by kernel_rfl
theorem bd54_0_1_2_3v0 (a0 : Int) (a1 : List UInt8) (a2_0 : List UInt8) (a2_1 : Int) : abuild P 54 [(0, (.int .i64 a0)), (1, (.str a1)), (2, (.agg [(.str a2_0), (.int .i64 a2_1)])), (3, AV.nilSl)] = some (.agg [(.int .i64 a0), (.str a1), (.str a2_0), (.int .i64 a2_1), AV.nilSl, AV.nilSl, AV.nilSl, (.int .i64 0), (.int .i64 0)]) := by kernel_rfl
theorem bd54_0_1_2_3v1 (a0 : Int) (a1 : List UInt8) (a2_0 : List UInt8) (a2_1 : Int) (a3l : Nat) (a3i : Nat) (a3n : Nat) (a3e : Nat) (a3c : Option Nat) : abuild P 54 [(0, (.int .i64 a0)), (1, (.str a1)), (2, (.agg [(.str a2_0), (.int .i64 a2_1)])), (3, (.sl a3l a3i a3n a3e a3c))] = some (.agg [(.int .i64 a0), (.str a1), (.str a2_0), (.int .i64 a2_1), (.sl a3l a3i a3n a3e a3c), AV.nilSl, AV.nilSl, (.int .i64 0), (.int .i64 0)]) := by kernel_rfl
theorem bd54_0_3_4v0 (a0 : Int) : abuild P 54 [(0, (.int .i64 a0)), (3, AV.nilSl), (4, AV.nilSl)] = some (.agg [(.int .i64 a0), (.str []), (.str []), (.int .i64 0), AV.nilSl, AV.nilSl, AV.nilSl, (.int .i64 0), (.int .i64 0)]) := by kernel_rfl
theorem bd54_0_3_4v1 (a0 : Int) (a4l : Nat) (a4i : Nat) (a4n : Nat) (a4e : Nat) (a4c : Option Nat) : abuild P 54 [(0, (.int .i64 a0)), (3, AV.nilSl), (4, (.sl a4l a4i a4n a4e a4c))] = some (.agg [(.int .i64 a0), (.str []), (.str []), (.int .i64 0), AV.nilSl, (.sl a4l a4i a4n a4e a4c), AV.nilSl, (.int .i64 0), (.int .i64 0)]) := by kernel_rfl
theorem bd54_0_3_4v2 (a0 : Int) (a3l : Nat) (a3i : Nat) (a3n : Nat) (a3e : Nat) (a3c : Option Nat) : abuild P 54 [(0, (.int .i64 a0)), (3, (.sl a3l a3i a3n a3e a3c)), (4, AV.nilSl)] = some (.agg [(.int .i64 a0), (.str []), (.str []), (.int .i64 0), (.sl a3l a3i a3n a3e a3c), AV.nilSl, AV.nilSl, (.int .i64 0), (.int .i64 0)]) := by kernel_rfl
theorem bd54_0_3_4v3 (a0 : Int) (a3l : Nat) (a3i : Nat) (a3n : Nat) (a3e : Nat) (a3c : Option Nat) (a4l : Nat) (a4i : Nat) (a4n : Nat) (a4e : Nat) (a4c : Option Nat) : abuild P 54 [(0, (.int .i64 a0)), (3, (.sl a3l a3i a3n a3e a3c)), (4, (.sl a4l a4i a4n a4e a4c))] = some (.agg [(.int .i64 a0), (.str []), (.str []), (.int .i64 0), (.sl a3l a3i a3n a3e a3c), (.sl a4l a4i a4n a4e a4c), AV.nilSl, (.int .i64 0), (.int .i64 0)]) := by kernel_rfl
theorem bd54_0 (a0 : Int) : abuild P 54 [(0, (.int .i64 a0))] = some (.agg [(.int .i64 a0), (.str []), (.str []), (.int .i64 0), AV.nilSl, AV.nilSl, AV.nilSl, (.int .i64 0), (.int .i64 0)]) := by kernel_rfl
theorem bd32_0 (a0 : List UInt8) : abuild P 32 [(0, (.str a0))] = some (.agg [(.str a0), (.int .i64 0)]) := by kernel_rfl
theorem bd39_0_3_4_5v0 (a0 : Int) (a3_0 : List UInt8) (a3_1 : Int) (a5 : Int) : abuild P 39 [(0, (.int .i64 a0)), (3, (.agg [(.str a3_0), (.int .i64 a3_1)])), (4, AV.nilSl), (5, (.int .i64 a5))] = some (.agg [(.int .i64 a0), (.int .i64 0), (.str []), (.str a3_0), (.int .i64 a3_1), AV.nilSl, (.int .i64 a5), (.int .i64 0), (.int .i64 0), (.int .i64 0), (.int .i64 0)]) := by kernel_rfl
theorem bd39_0_3_4_5v1 (a0 : Int) (a3_0 : List UInt8) (a3_1 : Int) (a4l : Nat) (a4i : Nat) (a4n : Nat) (a4e : Nat) (a4c : Option Nat) (a5 : Int) : abuild P 39 [(0, (.int .i64 a0)), (3, (.agg [(.str a3_0), (.int .i64 a3_1)])), (4, (.sl a4l a4i a4n a4e a4c)), (5, (.int .i64 a5))] = some (.agg [(.int .i64 a0), (.int .i64 0), (.str []), (.str a3_0), (.int .i64 a3_1), (.sl a4l a4i a4n a4e a4c), (.int .i64 a5), (.int .i64 0), (.int .i64 0), (.int .i64 0), (.int .i64 0)]) := by kernel_rfl
end Go.Proofs.Ytnjoomfeddamcaa

namespace Go.Proofs.Ytnjoomfeddamcaa
open Go.Ev
set_option linter.defProp false
def nxB := And.intro @AHeap.next_push @AHeap.next_set
def allB := And.intro (And.intro (And.intro (And.intro (And.intro (And.intro (And.intro (And.intro @zz @xk_eq) (And.intro @qp_some @qr_some)) (And.intro (And.intro @qv_eq @xalloc_eq) (And.intro @xstore_some @xb_some))) (And.intro (And.intro (And.intro @anil_ptr @xif_bool) (And.intro @xmake_some @xg_tt)) (And.intro (And.intro @xg_ff @xg_tf) (And.intro @xg_ft (And.intro @xg_sk @xboth_some))))) (And.intro (And.intro (And.intro (And.intro @pickOf_t @pickOf_f) (And.intro @aun_not @K_val_pure)) (And.intro (And.intro @K_val_read @K_val_skip) (And.intro @K_heap_pure @K_heap_read))) (And.intro (And.intro (And.intro @K_heap_skip @K_val_eff) (And.intro @K_heap_eff @K_val_new)) (And.intro (And.intro @K_heap_new @Option.bind_some.{0,0}) (And.intro @cond_true.{1} (And.intro @cond_false.{1} @aextract_tuple)))))) (And.intro (And.intro (And.intro (And.intro (And.intro @rdIs_int @rdIs_str) (And.intro @rdIs_bool @rdIs_sl)) (And.intro (And.intro @rdIs_nilSl @rdIs_of) (And.intro @List.getElem?_cons_zero.{0} @List.getElem?_cons_succ.{0}))) (And.intro (And.intro (And.intro @List.drop_zero.{0} @List.drop_succ_cons.{0}) (And.intro @List.take_succ_cons.{0} @List.take_zero.{0})) (And.intro (And.intro @List.set_cons_zero.{0} @List.set_cons_succ.{0}) (And.intro @List.cons_append.{0} (And.intro @List.nil_append.{0} @List.length_cons.{0}))))) (And.intro (And.intro (And.intro (And.intro @List.length_nil.{0} @List.all_cons.{0}) (And.intro @List.all_nil.{0} @Bool.and_true)) (And.intro (And.intro @Bool.and_self @Nat.zero_add) (And.intro @Nat.add_zero @Nat.le_refl))) (And.intro (And.intro (And.intro @and_self @and_true) (And.intro @true_and @if_true.{1})) (And.intro (And.intro @Option.some.injEq.{0} @one_int) (And.intro @one_str (And.intro @one_bool @one_sl))))))) (And.intro (And.intro (And.intro (And.intro (And.intro (And.intro @one_nilSl @one_ptr) (And.intro @one_func @ta3)) (And.intro (And.intro @ta4 @ta9) (And.intro @ta22 @ta23))) (And.intro (And.intro (And.intro @ta35 @ta69) (And.intro @ta102 @ta25)) (And.intro (And.intro @ta32 @ta37) (And.intro @ta39 (And.intro @ta65 @ta101))))) (And.intro (And.intro (And.intro (And.intro @ts25 @ts32) (And.intro @ts37 @ts39)) (And.intro (And.intro @ts65 @ts101) (And.intro @ts3 @ts4))) (And.intro (And.intro (And.intro @ts9 @ts22) (And.intro @ts23 @ts35)) (And.intro (And.intro @ts69 @fbin_add) (And.intro @fbin_sub (And.intro @fbin_eql @fbin_neq)))))) (And.intro (And.intro (And.intro (And.intro (And.intro @fbin_lss @fbin_leq) (And.intro @fbin_gtr @fbin_geq)) (And.intro (And.intro @fbin_seql @fbin_sneq) (And.intro @eq4 @ne4))) (And.intro (And.intro (And.intro @AHeap.get_push_eq @AHeap.get_push_other) (And.intro @AHeap.get_set_same @AHeap.get_set_other)) (And.intro (And.intro @AHeap.next_push @AHeap.next_set) (And.intro @AHeap.push_set_eq (And.intro @AHeap.set_set @bd25_0_1))))) (And.intro (And.intro (And.intro (And.intro @bd25_0 @bd65_0_3) (And.intro @bd71_0_1v0 @bd71_0_1v1)) (And.intro (And.intro @bd75_0_1v0 @bd75_0_1v1) (And.intro @bd75_0_1_2v0 (And.intro @bd75_0_1_2v1 @bd71_0_1_2_3v0)))) (And.intro (And.intro (And.intro @bd71_0_1_2_3v1 @bd71_0_1_2_3v2) (And.intro @bd71_0_1_2_3v3 @bd85_0_1_2v0)) (And.intro (And.intro @bd85_0_1_2v1 @bd65_0_1_3) (And.intro @bd65_0_2_3 (And.intro @bd32_0_1 @bd32_1)))))))) (And.intro (And.intro (And.intro (And.intro (And.intro (And.intro (And.intro @bd39_0_4_5v0 @bd39_0_4_5v1) (And.intro @bd101_0_1 @bd65_0)) (And.intro (And.intro @bd54_6 @bd54_0_3v0) (And.intro @bd54_0_3v1 @bd39_0_2_4_5v0))) (And.intro (And.intro (And.intro @bd39_0_2_4_5v1 @bd39_0_1_5) (And.intro @bd39_0_3_5 @bd39_0_5)) (And.intro (And.intro @bd39_0_2_5 @bd54_0_1_3v0) (And.intro @bd54_0_1_3v1 (And.intro @bd54_0_1_2 @bd54_0_1_2_3v0))))) (And.intro (And.intro (And.intro (And.intro @bd54_0_1_2_3v1 @bd54_0_3_4v0) (And.intro @bd54_0_3_4v1 @bd54_0_3_4v2)) (And.intro (And.intro @bd54_0_3_4v3 @bd54_0) (And.intro @bd32_0 @bd39_0_3_4_5v0))) (And.intro (And.intro (And.intro @bd39_0_3_4_5v1 @fa25_0) (And.intro @fa25_1 @fa32_0)) (And.intro (And.intro @fa32_1 @fa37_0) (And.intro @fa37_1 (And.intro @fa37_2 @fa39_0)))))) (And.intro (And.intro (And.intro (And.intro (And.intro @fa39_1 @fa39_2) (And.intro @fa39_3 @fa39_4)) (And.intro (And.intro @fa39_5 @fa39_6) (And.intro @fa39_7 @fa54_0))) (And.intro (And.intro (And.intro @fa54_1 @fa54_2) (And.intro @fa54_3 @fa54_4)) (And.intro (And.intro @fa54_5 @fa54_6) (And.intro @fa54_7 (And.intro @fa65_0 @fa65_1))))) (And.intro (And.intro (And.intro (And.intro @fa65_2 @fa65_3) (And.intro @fa71_0 @fa71_1)) (And.intro (And.intro @fa71_2 @fa71_3) (And.intro @fa71_4 (And.intro @fa75_0 @fa75_1)))) (And.intro (And.intro (And.intro @fa75_2 @fa75_3) (And.intro @fa85_0 @fa85_1)) (And.intro (And.intro @fa85_2 @fa85_3) (And.intro @fa101_0 (And.intro @fa101_1 @fl25_0))))))) (And.intro (And.intro (And.intro (And.intro (And.intro (And.intro @fl25_1 @fl32_0) (And.intro @fl32_1 @fl37_0)) (And.intro (And.intro @fl37_1 @fl37_2) (And.intro @fl39_0 @fl39_1))) (And.intro (And.intro (And.intro @fl39_2 @fl39_3) (And.intro @fl39_4 @fl39_5)) (And.intro (And.intro @fl39_6 @fl39_7) (And.intro @fl54_0 (And.intro @fl54_1 @fl54_2))))) (And.intro (And.intro (And.intro (And.intro @fl54_3 @fl54_4) (And.intro @fl54_5 @fl54_6)) (And.intro (And.intro @fl54_7 @fl65_0) (And.intro @fl65_1 @fl65_2))) (And.intro (And.intro (And.intro @fl65_3 @fl71_0) (And.intro @fl71_1 @fl71_2)) (And.intro (And.intro @fl71_3 @fl71_4) (And.intro @fl75_0 (And.intro @fl75_1 @fl75_2)))))) (And.intro (And.intro (And.intro (And.intro (And.intro @fl75_3 @fl85_0) (And.intro @fl85_1 @fl85_2)) (And.intro (And.intro @fl85_3 @fl101_0) (And.intro @fl101_1 @ln9))) (And.intro (And.intro (And.intro @ln22 @ln22n) (And.intro @ln35 @ln35n)) (And.intro (And.intro @ln46 @ln46n) (And.intro @ln48 (And.intro @ln48n @ln50))))) (And.intro (And.intro (And.intro (And.intro @ln50n @ln69) (And.intro @ln69n @ln102)) (And.intro (And.intro @ln102n @ln108) (And.intro @ln108n (And.intro @ln109 @ln109n)))) (And.intro (And.intro (And.intro @ia22 @ia35) (And.intro @ia46 @ia48)) (And.intro (And.intro @ia50 @ia69) (And.intro @ia102 (And.intro @ia108 @ia109))))))))
def evB := And.intro (And.intro (And.intro (And.intro (And.intro @zz @xk_eq) (And.intro @qp_some (And.intro @qr_some @qv_eq))) (And.intro (And.intro @xalloc_eq @xstore_some) (And.intro @xb_some (And.intro @anil_ptr @xif_bool)))) (And.intro (And.intro (And.intro @xmake_some @xg_tt) (And.intro @xg_ff (And.intro @xg_tf @xg_ft))) (And.intro (And.intro @xg_sk @xboth_some) (And.intro @pickOf_t (And.intro @pickOf_f @aun_not))))) (And.intro (And.intro (And.intro (And.intro @K_val_pure @K_val_read) (And.intro @K_val_skip (And.intro @K_heap_pure @K_heap_read))) (And.intro (And.intro @K_heap_skip @K_val_eff) (And.intro @K_heap_eff (And.intro @K_val_new @K_heap_new)))) (And.intro (And.intro (And.intro @Option.bind_some.{0,0} @cond_true.{1}) (And.intro @cond_false.{1} (And.intro @aextract_tuple @rdIs_int))) (And.intro (And.intro @rdIs_str @rdIs_bool) (And.intro @rdIs_sl (And.intro @rdIs_nilSl @rdIs_of)))))
def lsB := And.intro (And.intro (And.intro (And.intro @List.getElem?_cons_zero.{0} (And.intro @List.getElem?_cons_succ.{0} @List.drop_zero.{0})) (And.intro (And.intro @List.drop_succ_cons.{0} @List.take_succ_cons.{0}) (And.intro @List.take_zero.{0} @List.set_cons_zero.{0}))) (And.intro (And.intro (And.intro @List.set_cons_succ.{0} @List.cons_append.{0}) (And.intro @List.nil_append.{0} @List.length_cons.{0})) (And.intro (And.intro @List.length_nil.{0} @List.all_cons.{0}) (And.intro @List.all_nil.{0} @Bool.and_true)))) (And.intro (And.intro (And.intro (And.intro @Bool.and_self @Nat.zero_add) (And.intro @Nat.add_zero @Nat.le_refl)) (And.intro (And.intro @and_self @and_true) (And.intro @true_and @if_true.{1}))) (And.intro (And.intro (And.intro @Option.some.injEq.{0} @one_int) (And.intro @one_str @one_bool)) (And.intro (And.intro @one_sl @one_nilSl) (And.intro @one_ptr @one_func))))
def tyB := And.intro (And.intro (And.intro (And.intro @ta3 (And.intro @ta4 @ta9)) (And.intro @ta22 (And.intro @ta23 @ta35))) (And.intro (And.intro @ta69 (And.intro @ta102 @ta25)) (And.intro (And.intro @ta32 @ta37) (And.intro @ta39 @ta65)))) (And.intro (And.intro (And.intro @ta101 (And.intro @ts25 @ts32)) (And.intro (And.intro @ts37 @ts39) (And.intro @ts65 @ts101))) (And.intro (And.intro @ts3 (And.intro @ts4 @ts9)) (And.intro (And.intro @ts22 @ts23) (And.intro @ts35 @ts69))))
def binB := And.intro (And.intro (And.intro @fbin_add (And.intro @fbin_sub @fbin_eql)) (And.intro @fbin_neq (And.intro @fbin_lss @fbin_leq))) (And.intro (And.intro @fbin_gtr (And.intro @fbin_geq @fbin_seql)) (And.intro @fbin_sneq (And.intro @eq4 @ne4)))
def heapB := And.intro (And.intro (And.intro @AHeap.get_push_eq @AHeap.get_push_other) (And.intro @AHeap.get_set_same @AHeap.get_set_other)) (And.intro (And.intro @AHeap.next_push @AHeap.next_set) (And.intro @AHeap.push_set_eq @AHeap.set_set))
def tabB := And.intro (And.intro (And.intro (And.intro (And.intro (And.intro (And.intro @bd25_0_1 @bd25_0) (And.intro @bd65_0_3 @bd71_0_1v0)) (And.intro (And.intro @bd71_0_1v1 @bd75_0_1v0) (And.intro @bd75_0_1v1 (And.intro @bd75_0_1_2v0 @bd75_0_1_2v1)))) (And.intro (And.intro (And.intro @bd71_0_1_2_3v0 @bd71_0_1_2_3v1) (And.intro @bd71_0_1_2_3v2 (And.intro @bd71_0_1_2_3v3 @bd85_0_1_2v0))) (And.intro (And.intro @bd85_0_1_2v1 @bd65_0_1_3) (And.intro @bd65_0_2_3 (And.intro @bd32_0_1 @bd32_1))))) (And.intro (And.intro (And.intro (And.intro @bd39_0_4_5v0 @bd39_0_4_5v1) (And.intro @bd101_0_1 (And.intro @bd65_0 @bd54_6))) (And.intro (And.intro @bd54_0_3v0 @bd54_0_3v1) (And.intro @bd39_0_2_4_5v0 (And.intro @bd39_0_2_4_5v1 @bd39_0_1_5)))) (And.intro (And.intro (And.intro @bd39_0_3_5 @bd39_0_5) (And.intro @bd39_0_2_5 (And.intro @bd54_0_1_3v0 @bd54_0_1_3v1))) (And.intro (And.intro @bd54_0_1_2 @bd54_0_1_2_3v0) (And.intro @bd54_0_1_2_3v1 (And.intro @bd54_0_3_4v0 @bd54_0_3_4v1)))))) (And.intro (And.intro (And.intro (And.intro (And.intro @bd54_0_3_4v2 @bd54_0_3_4v3) (And.intro @bd54_0 @bd32_0)) (And.intro (And.intro @bd39_0_3_4_5v0 @bd39_0_3_4_5v1) (And.intro @fa25_0 (And.intro @fa25_1 @fa32_0)))) (And.intro (And.intro (And.intro @fa32_1 @fa37_0) (And.intro @fa37_1 (And.intro @fa37_2 @fa39_0))) (And.intro (And.intro @fa39_1 @fa39_2) (And.intro @fa39_3 (And.intro @fa39_4 @fa39_5))))) (And.intro (And.intro (And.intro (And.intro @fa39_6 @fa39_7) (And.intro @fa54_0 (And.intro @fa54_1 @fa54_2))) (And.intro (And.intro @fa54_3 @fa54_4) (And.intro @fa54_5 (And.intro @fa54_6 @fa54_7)))) (And.intro (And.intro (And.intro @fa65_0 @fa65_1) (And.intro @fa65_2 (And.intro @fa65_3 @fa71_0))) (And.intro (And.intro @fa71_1 @fa71_2) (And.intro @fa71_3 (And.intro @fa71_4 @fa75_0))))))) (And.intro (And.intro (And.intro (And.intro (And.intro (And.intro @fa75_1 @fa75_2) (And.intro @fa75_3 @fa85_0)) (And.intro (And.intro @fa85_1 @fa85_2) (And.intro @fa85_3 (And.intro @fa101_0 @fa101_1)))) (And.intro (And.intro (And.intro @fl25_0 @fl25_1) (And.intro @fl32_0 (And.intro @fl32_1 @fl37_0))) (And.intro (And.intro @fl37_1 @fl37_2) (And.intro @fl39_0 (And.intro @fl39_1 @fl39_2))))) (And.intro (And.intro (And.intro (And.intro @fl39_3 @fl39_4) (And.intro @fl39_5 (And.intro @fl39_6 @fl39_7))) (And.intro (And.intro @fl54_0 @fl54_1) (And.intro @fl54_2 (And.intro @fl54_3 @fl54_4)))) (And.intro (And.intro (And.intro @fl54_5 @fl54_6) (And.intro @fl54_7 (And.intro @fl65_0 @fl65_1))) (And.intro (And.intro @fl65_2 @fl65_3) (And.intro @fl71_0 (And.intro @fl71_1 @fl71_2)))))) (And.intro (And.intro (And.intro (And.intro (And.intro @fl71_3 @fl71_4) (And.intro @fl75_0 (And.intro @fl75_1 @fl75_2))) (And.intro (And.intro @fl75_3 @fl85_0) (And.intro @fl85_1 (And.intro @fl85_2 @fl85_3)))) (And.intro (And.intro (And.intro @fl101_0 @fl101_1) (And.intro @ln9 (And.intro @ln22 @ln22n))) (And.intro (And.intro @ln35 @ln35n) (And.intro @ln46 (And.intro @ln46n @ln48))))) (And.intro (And.intro (And.intro (And.intro @ln48n @ln50) (And.intro @ln50n (And.intro @ln69 @ln69n))) (And.intro (And.intro @ln102 @ln102n) (And.intro @ln108 (And.intro @ln108n @ln109)))) (And.intro (And.intro (And.intro @ln109n @ia22) (And.intro @ia35 (And.intro @ia46 @ia48))) (And.intro (And.intro @ia50 @ia69) (And.intro @ia102 (And.intro @ia108 @ia109)))))))
def oneB := And.intro (And.intro @one_int (And.intro @one_str @one_bool)) (And.intro (And.intro @one_sl @one_nilSl) (And.intro @one_ptr @one_func))
end Go.Proofs.Ytnjoomfeddamcaa

namespace Go.Proofs.Ytnjoomfeddamcaa
open Go.Ev
def namesOk (fs : List Func) : Bool := fs.all fun fn => !(fn.name == "runtime.NumGoroutine")
def bodiesOk (fs : List Func) : Bool := fs.all fun fn => match fn.body with
  | some c => plansOk c
  | none => true
theorem progOk_of {P : Program} (h1 : P.follows .mixedOrders = true) (h2 : namesOk P.funcs.toList = true) (h3 : bodiesOk P.funcs.toList = true) : ProgOk P := by
  refine ⟨h1, fun fn hfn => ?_, fun f fn c hf hc => ?_⟩
  · have := List.all_eq_true.1 h2 fn (Array.mem_toList_iff.2 hfn)
    simpa using this
  · have := List.all_eq_true.1 h3 fn (Array.mem_toList_iff.2 (Array.mem_of_getElem? hf))
    simpa [hc] using this
set_option maxRecDepth 1000000
theorem progOk : ProgOk P := progOk_of (by kernel_rfl) (by kernel_rfl) (by kernel_rfl)
end Go.Proofs.Ytnjoomfeddamcaa


/-
  Texts of one proof, laid together: Tab Fv26 Sp Sr Z1 Z2 Z3 Z4 Z5 Z6 Z7 Z8.
-/
import Derived.Test.YtghmbpmaafnodaaGreatDoorMD
import Derived.WalkKit
import Derived.ProofKit
import Derived.OpenShut
import Derived.ShutString
import Derived.ChangeOld
import Derived.Below
import Derived.Carry
set_option linter.unusedVariables false
set_option linter.unusedSimpArgs false
namespace Go.Proofs.YtghmbpmaafnodaaGreatDoor
open Go.Ev
theorem ta3 : tyAgg P 3 = some false := by kernel_rfl
theorem ts3 : tySize P 3 = some 1 := by kernel_rfl
theorem ta4 : tyAgg P 4 = some false := by kernel_rfl
theorem ts4 : tySize P 4 = some 1 := by kernel_rfl
theorem eq4 {c : Bool} (a b : Bool) : fbin P .eql 4 c (.bool a) (.bool b) = some (.bool (a == b)) := by kernel_rfl
theorem ne4 {c : Bool} (a b : Bool) : fbin P .neq 4 c (.bool a) (.bool b) = some (.bool (!(a == b))) := by kernel_rfl
theorem ta5 : tyAgg P 5 = some false := by kernel_rfl
theorem ts5 : tySize P 5 = some 1 := by kernel_rfl
theorem ta9 : tyAgg P 9 = some false := by kernel_rfl
theorem ts9 : tySize P 9 = some 1 := by kernel_rfl
theorem ln9 {H : AHeap} {s : List UInt8} : abuiltin P H .len [9] [.str s] = some (.int .i64 s.length) := by kernel_rfl
theorem ta22 : tyAgg P 22 = some false := by kernel_rfl
theorem ts22 : tySize P 22 = some 1 := by kernel_rfl
theorem ia22' (l i n : Nat) (cap : Option Nat) (k : Int) : aindexAddr P 22 (.sl l i n 3 cap) (.int .i64 k) = if 3 = 3 ∧ 0 ≤ k ∧ k < n then some (.ptr l (i + k.toNat) 0) else none := by kernel_rfl
theorem ia22 {l i n : Nat} {cap : Option Nat} {k : Int} (h0 : 0 ≤ k) (h1 : k < n) : aindexAddr P 22 (.sl l i n 3 cap) (.int .i64 k) = some (.ptr l (i + k.toNat) 0) := by rw [ia22', if_pos ⟨rfl, h0, h1⟩]
theorem ln22 {H : AHeap} {l i n e : Nat} {cap : Option Nat} : abuiltin P H .len [22] [.sl l i n e cap] = some (.int .i64 n) := by kernel_rfl
theorem ln22n {H : AHeap} : abuiltin P H .len [22] [.nilSl] = some (.int .i64 0) := by kernel_rfl
theorem ta23 : tyAgg P 23 = some false := by kernel_rfl
theorem ts23 : tySize P 23 = some 1 := by kernel_rfl
theorem ia23' (l i n : Nat) (cap : Option Nat) (k : Int) : aindexAddr P 23 (.sl l i n 4 cap) (.int .i64 k) = if 4 = 4 ∧ 0 ≤ k ∧ k < n then some (.ptr l (i + k.toNat) 0) else none := by kernel_rfl
theorem ia23 {l i n : Nat} {cap : Option Nat} {k : Int} (h0 : 0 ≤ k) (h1 : k < n) : aindexAddr P 23 (.sl l i n 4 cap) (.int .i64 k) = some (.ptr l (i + k.toNat) 0) := by rw [ia23', if_pos ⟨rfl, h0, h1⟩]
theorem ln23 {H : AHeap} {l i n e : Nat} {cap : Option Nat} : abuiltin P H .len [23] [.sl l i n e cap] = some (.int .i64 n) := by kernel_rfl
theorem ln23n {H : AHeap} : abuiltin P H .len [23] [.nilSl] = some (.int .i64 0) := by kernel_rfl
theorem ta24 : tyAgg P 24 = some false := by kernel_rfl
theorem ts24 : tySize P 24 = some 1 := by kernel_rfl
theorem ia24' (l i n : Nat) (cap : Option Nat) (k : Int) : aindexAddr P 24 (.sl l i n 7 cap) (.int .i64 k) = if 7 = 7 ∧ 0 ≤ k ∧ k < n then some (.ptr l (i + k.toNat) 0) else none := by kernel_rfl
theorem ia24 {l i n : Nat} {cap : Option Nat} {k : Int} (h0 : 0 ≤ k) (h1 : k < n) : aindexAddr P 24 (.sl l i n 7 cap) (.int .i64 k) = some (.ptr l (i + k.toNat) 0) := by rw [ia24', if_pos ⟨rfl, h0, h1⟩]
theorem ln24 {H : AHeap} {l i n e : Nat} {cap : Option Nat} : abuiltin P H .len [24] [.sl l i n e cap] = some (.int .i64 n) := by kernel_rfl
theorem ln24n {H : AHeap} : abuiltin P H .len [24] [.nilSl] = some (.int .i64 0) := by kernel_rfl
theorem ta26 : tyAgg P 26 = some true := by kernel_rfl
theorem ts26 : tySize P 26 = some 3 := by kernel_rfl
theorem fa26_0 (l i c : Nat) : afieldAddr P 26 (.ptr l i c) 0 = some (.ptr l i (c + 0)) := by kernel_rfl
theorem fl26_0 (a0 a1 a2 : AV) : afield P 26 (.agg [a0, a1, a2]) 0 = some a0 := by kernel_rfl
theorem fa26_1 (l i c : Nat) : afieldAddr P 26 (.ptr l i c) 1 = some (.ptr l i (c + 1)) := by kernel_rfl
theorem fl26_1 (a0 a1 a2 : AV) : afield P 26 (.agg [a0, a1, a2]) 1 = some a1 := by kernel_rfl
theorem fa26_2 (l i c : Nat) : afieldAddr P 26 (.ptr l i c) 2 = some (.ptr l i (c + 2)) := by kernel_rfl
theorem fl26_2 (a0 a1 a2 : AV) : afield P 26 (.agg [a0, a1, a2]) 2 = some a2 := by kernel_rfl
theorem ta27 : tyAgg P 27 = some false := by kernel_rfl
theorem ts27 : tySize P 27 = some 1 := by kernel_rfl
theorem ta29 : tyAgg P 29 = some true := by kernel_rfl
theorem ts29 : tySize P 29 = some 2 := by kernel_rfl
theorem fa29_0 (l i c : Nat) : afieldAddr P 29 (.ptr l i c) 0 = some (.ptr l i (c + 0)) := by kernel_rfl
theorem fl29_0 (a0 a1 : AV) : afield P 29 (.agg [a0, a1]) 0 = some a0 := by kernel_rfl
theorem fa29_1 (l i c : Nat) : afieldAddr P 29 (.ptr l i c) 1 = some (.ptr l i (c + 1)) := by kernel_rfl
theorem fl29_1 (a0 a1 : AV) : afield P 29 (.agg [a0, a1]) 1 = some a1 := by kernel_rfl
theorem ta35 : tyAgg P 35 = some false := by kernel_rfl
theorem ts35 : tySize P 35 = some 1 := by kernel_rfl
theorem ia35' (l i n : Nat) (cap : Option Nat) (k : Int) : aindexAddr P 35 (.sl l i n 1 cap) (.int .i64 k) = if 1 = 1 ∧ 0 ≤ k ∧ k < n then some (.ptr l (i + k.toNat) 0) else none := by kernel_rfl
theorem ia35 {l i n : Nat} {cap : Option Nat} {k : Int} (h0 : 0 ≤ k) (h1 : k < n) : aindexAddr P 35 (.sl l i n 1 cap) (.int .i64 k) = some (.ptr l (i + k.toNat) 0) := by rw [ia35', if_pos ⟨rfl, h0, h1⟩]
theorem ln35 {H : AHeap} {l i n e : Nat} {cap : Option Nat} : abuiltin P H .len [35] [.sl l i n e cap] = some (.int .i64 n) := by kernel_rfl
theorem ln35n {H : AHeap} : abuiltin P H .len [35] [.nilSl] = some (.int .i64 0) := by kernel_rfl
theorem ta41 : tyAgg P 41 = some true := by kernel_rfl
theorem ts41 : tySize P 41 = some 3 := by kernel_rfl
theorem fa41_0 (l i c : Nat) : afieldAddr P 41 (.ptr l i c) 0 = some (.ptr l i (c + 0)) := by kernel_rfl
theorem fl41_0 (a0 a1 a2 : AV) : afield P 41 (.agg [a0, a1, a2]) 0 = some a0 := by kernel_rfl
theorem fa41_1 (l i c : Nat) : afieldAddr P 41 (.ptr l i c) 1 = some (.ptr l i (c + 1)) := by kernel_rfl
theorem fl41_1 (a0 a1 a2 : AV) : afield P 41 (.agg [a0, a1, a2]) 1 = some a1 := by kernel_rfl
theorem fa41_2 (l i c : Nat) : afieldAddr P 41 (.ptr l i c) 2 = some (.ptr l i (c + 2)) := by kernel_rfl
theorem fl41_2 (a0 a1 a2 : AV) : afield P 41 (.agg [a0, a1, a2]) 2 = some a2 := by kernel_rfl
theorem ta43 : tyAgg P 43 = some true := by kernel_rfl
theorem ts43 : tySize P 43 = some 2 := by kernel_rfl
theorem fa43_0 (l i c : Nat) : afieldAddr P 43 (.ptr l i c) 0 = some (.ptr l i (c + 0)) := by kernel_rfl
theorem fl43_0 (a0 a1 : AV) : afield P 43 (.agg [a0, a1]) 0 = some a0 := by kernel_rfl
theorem fa43_1 (l i c : Nat) : afieldAddr P 43 (.ptr l i c) 1 = some (.ptr l i (c + 1)) := by kernel_rfl
theorem fl43_1 (a0 a1 : AV) : afield P 43 (.agg [a0, a1]) 1 = some a1 := by kernel_rfl
theorem ta44 : tyAgg P 44 = some false := by kernel_rfl
theorem ts44 : tySize P 44 = some 1 := by kernel_rfl
theorem ia44' (l i n : Nat) (cap : Option Nat) (k : Int) : aindexAddr P 44 (.sl l i n 9 cap) (.int .i64 k) = if 9 = 9 ∧ 0 ≤ k ∧ k < n then some (.ptr l (i + k.toNat) 0) else none := by kernel_rfl
theorem ia44 {l i n : Nat} {cap : Option Nat} {k : Int} (h0 : 0 ≤ k) (h1 : k < n) : aindexAddr P 44 (.sl l i n 9 cap) (.int .i64 k) = some (.ptr l (i + k.toNat) 0) := by rw [ia44', if_pos ⟨rfl, h0, h1⟩]
theorem ln44 {H : AHeap} {l i n e : Nat} {cap : Option Nat} : abuiltin P H .len [44] [.sl l i n e cap] = some (.int .i64 n) := by kernel_rfl
theorem ln44n {H : AHeap} : abuiltin P H .len [44] [.nilSl] = some (.int .i64 0) := by kernel_rfl
theorem ta46 : tyAgg P 46 = some true := by kernel_rfl
theorem ts46 : tySize P 46 = some 7 := by kernel_rfl
theorem fa46_0 (l i c : Nat) : afieldAddr P 46 (.ptr l i c) 0 = some (.ptr l i (c + 0)) := by kernel_rfl
theorem fl46_0 (a0 a1 a2 a3 a4 a5 a6 : AV) : afield P 46 (.agg [a0, a1, a2, a3, a4, a5, a6]) 0 = some a0 := by kernel_rfl
theorem fa46_1 (l i c : Nat) : afieldAddr P 46 (.ptr l i c) 1 = some (.ptr l i (c + 1)) := by kernel_rfl
theorem fl46_1 (a0 a1 a2 a3 a4 a5 a6 : AV) : afield P 46 (.agg [a0, a1, a2, a3, a4, a5, a6]) 1 = some a1 := by kernel_rfl
theorem fa46_2 (l i c : Nat) : afieldAddr P 46 (.ptr l i c) 2 = some (.ptr l i (c + 2)) := by kernel_rfl
theorem fl46_2 (a0 a1 a2 a3 a4 a5 a6 : AV) : afield P 46 (.agg [a0, a1, a2, a3, a4, a5, a6]) 2 = some a2 := by kernel_rfl
theorem fa46_3 (l i c : Nat) : afieldAddr P 46 (.ptr l i c) 3 = some (.ptr l i (c + 3)) := by kernel_rfl
theorem fl46_3 (a0 a1 a2 a3 a4 a5 a6 : AV) : afield P 46 (.agg [a0, a1, a2, a3, a4, a5, a6]) 3 = some (.agg [a3, a4]) := by kernel_rfl
theorem fa46_4 (l i c : Nat) : afieldAddr P 46 (.ptr l i c) 4 = some (.ptr l i (c + 5)) := by kernel_rfl
theorem fl46_4 (a0 a1 a2 a3 a4 a5 a6 : AV) : afield P 46 (.agg [a0, a1, a2, a3, a4, a5, a6]) 4 = some a5 := by kernel_rfl
theorem fa46_5 (l i c : Nat) : afieldAddr P 46 (.ptr l i c) 5 = some (.ptr l i (c + 6)) := by kernel_rfl
theorem fl46_5 (a0 a1 a2 a3 a4 a5 a6 : AV) : afield P 46 (.agg [a0, a1, a2, a3, a4, a5, a6]) 5 = some a6 := by kernel_rfl
theorem ta48 : tyAgg P 48 = some false := by kernel_rfl
theorem ts48 : tySize P 48 = some 1 := by kernel_rfl
theorem ia48' (l i n : Nat) (cap : Option Nat) (k : Int) : aindexAddr P 48 (.sl l i n 1 cap) (.int .i64 k) = if 1 = 1 ∧ 0 ≤ k ∧ k < n then some (.ptr l (i + k.toNat) 0) else none := by kernel_rfl
theorem ia48 {l i n : Nat} {cap : Option Nat} {k : Int} (h0 : 0 ≤ k) (h1 : k < n) : aindexAddr P 48 (.sl l i n 1 cap) (.int .i64 k) = some (.ptr l (i + k.toNat) 0) := by rw [ia48', if_pos ⟨rfl, h0, h1⟩]
theorem ln48 {H : AHeap} {l i n e : Nat} {cap : Option Nat} : abuiltin P H .len [48] [.sl l i n e cap] = some (.int .i64 n) := by kernel_rfl
theorem ln48n {H : AHeap} : abuiltin P H .len [48] [.nilSl] = some (.int .i64 0) := by kernel_rfl
theorem ta50 : tyAgg P 50 = some false := by kernel_rfl
theorem ts50 : tySize P 50 = some 1 := by kernel_rfl
theorem ia50' (l i n : Nat) (cap : Option Nat) (k : Int) : aindexAddr P 50 (.sl l i n 4 cap) (.int .i64 k) = if 4 = 4 ∧ 0 ≤ k ∧ k < n then some (.ptr l (i + k.toNat) 0) else none := by kernel_rfl
theorem ia50 {l i n : Nat} {cap : Option Nat} {k : Int} (h0 : 0 ≤ k) (h1 : k < n) : aindexAddr P 50 (.sl l i n 4 cap) (.int .i64 k) = some (.ptr l (i + k.toNat) 0) := by rw [ia50', if_pos ⟨rfl, h0, h1⟩]
theorem ln50 {H : AHeap} {l i n e : Nat} {cap : Option Nat} : abuiltin P H .len [50] [.sl l i n e cap] = some (.int .i64 n) := by kernel_rfl
theorem ln50n {H : AHeap} : abuiltin P H .len [50] [.nilSl] = some (.int .i64 0) := by kernel_rfl
theorem ta55 : tyAgg P 55 = some true := by kernel_rfl
theorem ts55 : tySize P 55 = some 7 := by kernel_rfl
theorem fa55_0 (l i c : Nat) : afieldAddr P 55 (.ptr l i c) 0 = some (.ptr l i (c + 0)) := by kernel_rfl
theorem fl55_0 (a0 a1 a2 a3 a4 a5 a6 : AV) : afield P 55 (.agg [a0, a1, a2, a3, a4, a5, a6]) 0 = some a0 := by kernel_rfl
theorem fa55_1 (l i c : Nat) : afieldAddr P 55 (.ptr l i c) 1 = some (.ptr l i (c + 1)) := by kernel_rfl
theorem fl55_1 (a0 a1 a2 a3 a4 a5 a6 : AV) : afield P 55 (.agg [a0, a1, a2, a3, a4, a5, a6]) 1 = some a1 := by kernel_rfl
theorem fa55_2 (l i c : Nat) : afieldAddr P 55 (.ptr l i c) 2 = some (.ptr l i (c + 2)) := by kernel_rfl
theorem fl55_2 (a0 a1 a2 a3 a4 a5 a6 : AV) : afield P 55 (.agg [a0, a1, a2, a3, a4, a5, a6]) 2 = some (.agg [a2, a3, a4]) := by kernel_rfl
theorem fa55_3 (l i c : Nat) : afieldAddr P 55 (.ptr l i c) 3 = some (.ptr l i (c + 5)) := by kernel_rfl
theorem fl55_3 (a0 a1 a2 a3 a4 a5 a6 : AV) : afield P 55 (.agg [a0, a1, a2, a3, a4, a5, a6]) 3 = some (.agg [a5, a6]) := by kernel_rfl
theorem ta57 : tyAgg P 57 = some true := by kernel_rfl
theorem ts57 : tySize P 57 = some 4 := by kernel_rfl
theorem fa57_0 (l i c : Nat) : afieldAddr P 57 (.ptr l i c) 0 = some (.ptr l i (c + 0)) := by kernel_rfl
theorem fl57_0 (a0 a1 a2 a3 : AV) : afield P 57 (.agg [a0, a1, a2, a3]) 0 = some a0 := by kernel_rfl
theorem fa57_1 (l i c : Nat) : afieldAddr P 57 (.ptr l i c) 1 = some (.ptr l i (c + 1)) := by kernel_rfl
theorem fl57_1 (a0 a1 a2 a3 : AV) : afield P 57 (.agg [a0, a1, a2, a3]) 1 = some a1 := by kernel_rfl
theorem fa57_2 (l i c : Nat) : afieldAddr P 57 (.ptr l i c) 2 = some (.ptr l i (c + 2)) := by kernel_rfl
theorem fl57_2 (a0 a1 a2 a3 : AV) : afield P 57 (.agg [a0, a1, a2, a3]) 2 = some a2 := by kernel_rfl
theorem fa57_3 (l i c : Nat) : afieldAddr P 57 (.ptr l i c) 3 = some (.ptr l i (c + 3)) := by kernel_rfl
theorem fl57_3 (a0 a1 a2 a3 : AV) : afield P 57 (.agg [a0, a1, a2, a3]) 3 = some a3 := by kernel_rfl
theorem fa63_0 (l i c : Nat) : afieldAddr P 63 (.ptr l i c) 0 = some (.ptr l i (c + 0)) := by kernel_rfl
theorem fl63_0 (a0 a1 a2 a3 a4 : AV) : afield P 63 (.agg [a0, a1, a2, a3, a4]) 0 = some a0 := by kernel_rfl
theorem fa63_1 (l i c : Nat) : afieldAddr P 63 (.ptr l i c) 1 = some (.ptr l i (c + 1)) := by kernel_rfl
theorem fl63_1 (a0 a1 a2 a3 a4 : AV) : afield P 63 (.agg [a0, a1, a2, a3, a4]) 1 = some a1 := by kernel_rfl
theorem fa63_2 (l i c : Nat) : afieldAddr P 63 (.ptr l i c) 2 = some (.ptr l i (c + 2)) := by kernel_rfl
theorem fl63_2 (a0 a1 a2 a3 a4 : AV) : afield P 63 (.agg [a0, a1, a2, a3, a4]) 2 = some a2 := by kernel_rfl
theorem fa63_3 (l i c : Nat) : afieldAddr P 63 (.ptr l i c) 3 = some (.ptr l i (c + 3)) := by kernel_rfl
theorem fl63_3 (a0 a1 a2 a3 a4 : AV) : afield P 63 (.agg [a0, a1, a2, a3, a4]) 3 = some (.agg [a3, a4]) := by kernel_rfl
theorem ta66 : tyAgg P 66 = some true := by kernel_rfl
theorem ts66 : tySize P 66 = some 4 := by kernel_rfl
theorem fa66_0 (l i c : Nat) : afieldAddr P 66 (.ptr l i c) 0 = some (.ptr l i (c + 0)) := by kernel_rfl
theorem fl66_0 (a0 a1 a2 a3 : AV) : afield P 66 (.agg [a0, a1, a2, a3]) 0 = some a0 := by kernel_rfl
theorem fa66_1 (l i c : Nat) : afieldAddr P 66 (.ptr l i c) 1 = some (.ptr l i (c + 1)) := by kernel_rfl
theorem fl66_1 (a0 a1 a2 a3 : AV) : afield P 66 (.agg [a0, a1, a2, a3]) 1 = some (.agg [a1, a2]) := by kernel_rfl
theorem fa66_2 (l i c : Nat) : afieldAddr P 66 (.ptr l i c) 2 = some (.ptr l i (c + 3)) := by kernel_rfl
theorem fl66_2 (a0 a1 a2 a3 : AV) : afield P 66 (.agg [a0, a1, a2, a3]) 2 = some a3 := by kernel_rfl
theorem ta96 : tyAgg P 96 = some false := by kernel_rfl
theorem ts96 : tySize P 96 = some 1 := by kernel_rfl
theorem ia96' (l i n : Nat) (cap : Option Nat) (k : Int) : aindexAddr P 96 (.sl l i n 11 cap) (.int .i64 k) = if 11 = 11 ∧ 0 ≤ k ∧ k < n then some (.ptr l (i + k.toNat) 0) else none := by kernel_rfl
theorem ia96 {l i n : Nat} {cap : Option Nat} {k : Int} (h0 : 0 ≤ k) (h1 : k < n) : aindexAddr P 96 (.sl l i n 11 cap) (.int .i64 k) = some (.ptr l (i + k.toNat) 0) := by rw [ia96', if_pos ⟨rfl, h0, h1⟩]
theorem ln96 {H : AHeap} {l i n e : Nat} {cap : Option Nat} : abuiltin P H .len [96] [.sl l i n e cap] = some (.int .i64 n) := by kernel_rfl
theorem ln96n {H : AHeap} : abuiltin P H .len [96] [.nilSl] = some (.int .i64 0) := by kernel_rfl
theorem ta98 : tyAgg P 98 = some true := by kernel_rfl
theorem ts98 : tySize P 98 = some 9 := by kernel_rfl
theorem fa98_0 (l i c : Nat) : afieldAddr P 98 (.ptr l i c) 0 = some (.ptr l i (c + 0)) := by kernel_rfl
theorem fl98_0 (a0 a1 a2 a3 a4 a5 a6 a7 a8 : AV) : afield P 98 (.agg [a0, a1, a2, a3, a4, a5, a6, a7, a8]) 0 = some a0 := by kernel_rfl
theorem fa98_1 (l i c : Nat) : afieldAddr P 98 (.ptr l i c) 1 = some (.ptr l i (c + 1)) := by kernel_rfl
theorem fl98_1 (a0 a1 a2 a3 a4 a5 a6 a7 a8 : AV) : afield P 98 (.agg [a0, a1, a2, a3, a4, a5, a6, a7, a8]) 1 = some a1 := by kernel_rfl
theorem fa98_2 (l i c : Nat) : afieldAddr P 98 (.ptr l i c) 2 = some (.ptr l i (c + 2)) := by kernel_rfl
theorem fl98_2 (a0 a1 a2 a3 a4 a5 a6 a7 a8 : AV) : afield P 98 (.agg [a0, a1, a2, a3, a4, a5, a6, a7, a8]) 2 = some (.agg [a2, a3]) := by kernel_rfl
theorem fa98_3 (l i c : Nat) : afieldAddr P 98 (.ptr l i c) 3 = some (.ptr l i (c + 4)) := by kernel_rfl
theorem fl98_3 (a0 a1 a2 a3 a4 a5 a6 a7 a8 : AV) : afield P 98 (.agg [a0, a1, a2, a3, a4, a5, a6, a7, a8]) 3 = some a4 := by kernel_rfl
theorem fa98_4 (l i c : Nat) : afieldAddr P 98 (.ptr l i c) 4 = some (.ptr l i (c + 5)) := by kernel_rfl
theorem fl98_4 (a0 a1 a2 a3 a4 a5 a6 a7 a8 : AV) : afield P 98 (.agg [a0, a1, a2, a3, a4, a5, a6, a7, a8]) 4 = some a5 := by kernel_rfl
theorem fa98_5 (l i c : Nat) : afieldAddr P 98 (.ptr l i c) 5 = some (.ptr l i (c + 6)) := by kernel_rfl
theorem fl98_5 (a0 a1 a2 a3 a4 a5 a6 a7 a8 : AV) : afield P 98 (.agg [a0, a1, a2, a3, a4, a5, a6, a7, a8]) 5 = some a6 := by kernel_rfl
theorem fa98_6 (l i c : Nat) : afieldAddr P 98 (.ptr l i c) 6 = some (.ptr l i (c + 7)) := by kernel_rfl
theorem fl98_6 (a0 a1 a2 a3 a4 a5 a6 a7 a8 : AV) : afield P 98 (.agg [a0, a1, a2, a3, a4, a5, a6, a7, a8]) 6 = some a7 := by kernel_rfl
theorem fa98_7 (l i c : Nat) : afieldAddr P 98 (.ptr l i c) 7 = some (.ptr l i (c + 8)) := by kernel_rfl
theorem fl98_7 (a0 a1 a2 a3 a4 a5 a6 a7 a8 : AV) : afield P 98 (.agg [a0, a1, a2, a3, a4, a5, a6, a7, a8]) 7 = some a8 := by kernel_rfl
theorem ta101 : tyAgg P 101 = some true := by kernel_rfl
theorem ts101 : tySize P 101 = some 3 := by kernel_rfl
theorem fa101_0 (l i c : Nat) : afieldAddr P 101 (.ptr l i c) 0 = some (.ptr l i (c + 0)) := by kernel_rfl
theorem fl101_0 (a0 a1 a2 : AV) : afield P 101 (.agg [a0, a1, a2]) 0 = some a0 := by kernel_rfl
theorem fa101_1 (l i c : Nat) : afieldAddr P 101 (.ptr l i c) 1 = some (.ptr l i (c + 1)) := by kernel_rfl
theorem fl101_1 (a0 a1 a2 : AV) : afield P 101 (.agg [a0, a1, a2]) 1 = some a1 := by kernel_rfl
theorem fa101_2 (l i c : Nat) : afieldAddr P 101 (.ptr l i c) 2 = some (.ptr l i (c + 2)) := by kernel_rfl
theorem fl101_2 (a0 a1 a2 : AV) : afield P 101 (.agg [a0, a1, a2]) 2 = some a2 := by kernel_rfl
theorem ta103 : tyAgg P 103 = some true := by kernel_rfl
theorem ts103 : tySize P 103 = some 11 := by kernel_rfl
theorem fa103_0 (l i c : Nat) : afieldAddr P 103 (.ptr l i c) 0 = some (.ptr l i (c + 0)) := by kernel_rfl
theorem fl103_0 (a0 a1 a2 a3 a4 a5 a6 a7 a8 a9 a10 : AV) : afield P 103 (.agg [a0, a1, a2, a3, a4, a5, a6, a7, a8, a9, a10]) 0 = some a0 := by kernel_rfl
theorem fa103_1 (l i c : Nat) : afieldAddr P 103 (.ptr l i c) 1 = some (.ptr l i (c + 1)) := by kernel_rfl
theorem fl103_1 (a0 a1 a2 a3 a4 a5 a6 a7 a8 a9 a10 : AV) : afield P 103 (.agg [a0, a1, a2, a3, a4, a5, a6, a7, a8, a9, a10]) 1 = some a1 := by kernel_rfl
theorem fa103_2 (l i c : Nat) : afieldAddr P 103 (.ptr l i c) 2 = some (.ptr l i (c + 2)) := by kernel_rfl
theorem fl103_2 (a0 a1 a2 a3 a4 a5 a6 a7 a8 a9 a10 : AV) : afield P 103 (.agg [a0, a1, a2, a3, a4, a5, a6, a7, a8, a9, a10]) 2 = some a2 := by kernel_rfl
theorem fa103_3 (l i c : Nat) : afieldAddr P 103 (.ptr l i c) 3 = some (.ptr l i (c + 3)) := by kernel_rfl
theorem fl103_3 (a0 a1 a2 a3 a4 a5 a6 a7 a8 a9 a10 : AV) : afield P 103 (.agg [a0, a1, a2, a3, a4, a5, a6, a7, a8, a9, a10]) 3 = some (.agg [a3, a4]) := by kernel_rfl
theorem fa103_4 (l i c : Nat) : afieldAddr P 103 (.ptr l i c) 4 = some (.ptr l i (c + 5)) := by kernel_rfl
theorem fl103_4 (a0 a1 a2 a3 a4 a5 a6 a7 a8 a9 a10 : AV) : afield P 103 (.agg [a0, a1, a2, a3, a4, a5, a6, a7, a8, a9, a10]) 4 = some a5 := by kernel_rfl
theorem fa103_5 (l i c : Nat) : afieldAddr P 103 (.ptr l i c) 5 = some (.ptr l i (c + 6)) := by kernel_rfl
theorem fl103_5 (a0 a1 a2 a3 a4 a5 a6 a7 a8 a9 a10 : AV) : afield P 103 (.agg [a0, a1, a2, a3, a4, a5, a6, a7, a8, a9, a10]) 5 = some a6 := by kernel_rfl
theorem fa103_6 (l i c : Nat) : afieldAddr P 103 (.ptr l i c) 6 = some (.ptr l i (c + 7)) := by kernel_rfl
theorem fl103_6 (a0 a1 a2 a3 a4 a5 a6 a7 a8 a9 a10 : AV) : afield P 103 (.agg [a0, a1, a2, a3, a4, a5, a6, a7, a8, a9, a10]) 6 = some (.agg [a7, a8, a9]) := by kernel_rfl
theorem fa103_7 (l i c : Nat) : afieldAddr P 103 (.ptr l i c) 7 = some (.ptr l i (c + 10)) := by kernel_rfl
theorem fl103_7 (a0 a1 a2 a3 a4 a5 a6 a7 a8 a9 a10 : AV) : afield P 103 (.agg [a0, a1, a2, a3, a4, a5, a6, a7, a8, a9, a10]) 7 = some a10 := by kernel_rfl
theorem fa112_0 (l i c : Nat) : afieldAddr P 112 (.ptr l i c) 0 = some (.ptr l i (c + 0)) := by kernel_rfl
theorem fl112_0 (a0 a1 a2 a3 a4 : AV) : afield P 112 (.agg [a0, a1, a2, a3, a4]) 0 = some a0 := by kernel_rfl
theorem fa112_1 (l i c : Nat) : afieldAddr P 112 (.ptr l i c) 1 = some (.ptr l i (c + 1)) := by kernel_rfl
theorem fl112_1 (a0 a1 a2 a3 a4 : AV) : afield P 112 (.agg [a0, a1, a2, a3, a4]) 1 = some a1 := by kernel_rfl
theorem fa112_2 (l i c : Nat) : afieldAddr P 112 (.ptr l i c) 2 = some (.ptr l i (c + 2)) := by kernel_rfl
theorem fl112_2 (a0 a1 a2 a3 a4 : AV) : afield P 112 (.agg [a0, a1, a2, a3, a4]) 2 = some a2 := by kernel_rfl
theorem fa112_3 (l i c : Nat) : afieldAddr P 112 (.ptr l i c) 3 = some (.ptr l i (c + 3)) := by kernel_rfl
theorem fl112_3 (a0 a1 a2 a3 a4 : AV) : afield P 112 (.agg [a0, a1, a2, a3, a4]) 3 = some (.agg [a3, a4]) := by kernel_rfl
theorem ta131 : tyAgg P 131 = some false := by kernel_rfl
theorem ts131 : tySize P 131 = some 1 := by kernel_rfl
theorem ia131' (l i n : Nat) (cap : Option Nat) (k : Int) : aindexAddr P 131 (.sl l i n 1 cap) (.int .i64 k) = if 1 = 1 ∧ 0 ≤ k ∧ k < n then some (.ptr l (i + k.toNat) 0) else none := by kernel_rfl
theorem ia131 {l i n : Nat} {cap : Option Nat} {k : Int} (h0 : 0 ≤ k) (h1 : k < n) : aindexAddr P 131 (.sl l i n 1 cap) (.int .i64 k) = some (.ptr l (i + k.toNat) 0) := by rw [ia131', if_pos ⟨rfl, h0, h1⟩]
theorem ln131 {H : AHeap} {l i n e : Nat} {cap : Option Nat} : abuiltin P H .len [131] [.sl l i n e cap] = some (.int .i64 n) := by kernel_rfl
theorem ln131n {H : AHeap} : abuiltin P H .len [131] [.nilSl] = some (.int .i64 0) := by kernel_rfl
theorem ta133 : tyAgg P 133 = some true := by kernel_rfl
theorem ts133 : tySize P 133 = some 6 := by kernel_rfl
theorem fa133_0 (l i c : Nat) : afieldAddr P 133 (.ptr l i c) 0 = some (.ptr l i (c + 0)) := by kernel_rfl
theorem fl133_0 (a0 a1 a2 a3 a4 a5 : AV) : afield P 133 (.agg [a0, a1, a2, a3, a4, a5]) 0 = some a0 := by kernel_rfl
theorem fa133_1 (l i c : Nat) : afieldAddr P 133 (.ptr l i c) 1 = some (.ptr l i (c + 1)) := by kernel_rfl
theorem fl133_1 (a0 a1 a2 a3 a4 a5 : AV) : afield P 133 (.agg [a0, a1, a2, a3, a4, a5]) 1 = some a1 := by kernel_rfl
theorem fa133_2 (l i c : Nat) : afieldAddr P 133 (.ptr l i c) 2 = some (.ptr l i (c + 2)) := by kernel_rfl
theorem fl133_2 (a0 a1 a2 a3 a4 a5 : AV) : afield P 133 (.agg [a0, a1, a2, a3, a4, a5]) 2 = some a2 := by kernel_rfl
theorem fa133_3 (l i c : Nat) : afieldAddr P 133 (.ptr l i c) 3 = some (.ptr l i (c + 3)) := by kernel_rfl
theorem fl133_3 (a0 a1 a2 a3 a4 a5 : AV) : afield P 133 (.agg [a0, a1, a2, a3, a4, a5]) 3 = some a3 := by kernel_rfl
theorem fa133_4 (l i c : Nat) : afieldAddr P 133 (.ptr l i c) 4 = some (.ptr l i (c + 4)) := by kernel_rfl
theorem fl133_4 (a0 a1 a2 a3 a4 a5 : AV) : afield P 133 (.agg [a0, a1, a2, a3, a4, a5]) 4 = some (.agg [a4, a5]) := by kernel_rfl
theorem ta163 : tyAgg P 163 = some false := by kernel_rfl
theorem ts163 : tySize P 163 = some 1 := by kernel_rfl
theorem ia163' (l i n : Nat) (cap : Option Nat) (k : Int) : aindexAddr P 163 (.sl l i n 1 cap) (.int .i64 k) = if 1 = 1 ∧ 0 ≤ k ∧ k < n then some (.ptr l (i + k.toNat) 0) else none := by kernel_rfl
theorem ia163 {l i n : Nat} {cap : Option Nat} {k : Int} (h0 : 0 ≤ k) (h1 : k < n) : aindexAddr P 163 (.sl l i n 1 cap) (.int .i64 k) = some (.ptr l (i + k.toNat) 0) := by rw [ia163', if_pos ⟨rfl, h0, h1⟩]
theorem ln163 {H : AHeap} {l i n e : Nat} {cap : Option Nat} : abuiltin P H .len [163] [.sl l i n e cap] = some (.int .i64 n) := by kernel_rfl
theorem ln163n {H : AHeap} : abuiltin P H .len [163] [.nilSl] = some (.int .i64 0) := by kernel_rfl
theorem ta164 : tyAgg P 164 = some false := by kernel_rfl
theorem ts164 : tySize P 164 = some 1 := by kernel_rfl
theorem ia164' (l i n : Nat) (cap : Option Nat) (k : Int) : aindexAddr P 164 (.sl l i n 1 cap) (.int .i64 k) = if 1 = 1 ∧ 0 ≤ k ∧ k < n then some (.ptr l (i + k.toNat) 0) else none := by kernel_rfl
theorem ia164 {l i n : Nat} {cap : Option Nat} {k : Int} (h0 : 0 ≤ k) (h1 : k < n) : aindexAddr P 164 (.sl l i n 1 cap) (.int .i64 k) = some (.ptr l (i + k.toNat) 0) := by rw [ia164', if_pos ⟨rfl, h0, h1⟩]
theorem ln164 {H : AHeap} {l i n e : Nat} {cap : Option Nat} : abuiltin P H .len [164] [.sl l i n e cap] = some (.int .i64 n) := by kernel_rfl
theorem ln164n {H : AHeap} : abuiltin P H .len [164] [.nilSl] = some (.int .i64 0) := by kernel_rfl
theorem ta199 : tyAgg P 199 = some true := by kernel_rfl
theorem ts199 : tySize P 199 = some 2 := by kernel_rfl
theorem fa199_0 (l i c : Nat) : afieldAddr P 199 (.ptr l i c) 0 = some (.ptr l i (c + 0)) := by kernel_rfl
theorem fl199_0 (a0 a1 : AV) : afield P 199 (.agg [a0, a1]) 0 = some a0 := by kernel_rfl
theorem fa199_1 (l i c : Nat) : afieldAddr P 199 (.ptr l i c) 1 = some (.ptr l i (c + 1)) := by kernel_rfl
theorem fl199_1 (a0 a1 : AV) : afield P 199 (.agg [a0, a1]) 1 = some a1 := by kernel_rfl
theorem ta200 : tyAgg P 200 = some false := by kernel_rfl
theorem ts200 : tySize P 200 = some 1 := by kernel_rfl
theorem ia200' (l i n : Nat) (cap : Option Nat) (k : Int) : aindexAddr P 200 (.sl l i n 2 cap) (.int .i64 k) = if 2 = 2 ∧ 0 ≤ k ∧ k < n then some (.ptr l (i + k.toNat) 0) else none := by kernel_rfl
theorem ia200 {l i n : Nat} {cap : Option Nat} {k : Int} (h0 : 0 ≤ k) (h1 : k < n) : aindexAddr P 200 (.sl l i n 2 cap) (.int .i64 k) = some (.ptr l (i + k.toNat) 0) := by rw [ia200', if_pos ⟨rfl, h0, h1⟩]
theorem ln200 {H : AHeap} {l i n e : Nat} {cap : Option Nat} : abuiltin P H .len [200] [.sl l i n e cap] = some (.int .i64 n) := by kernel_rfl
theorem ln200n {H : AHeap} : abuiltin P H .len [200] [.nilSl] = some (.int .i64 0) := by kernel_rfl
theorem bd26_0v0 : abuild P 26 [(0, AV.nilSl)] = some (.agg [AV.nilSl, AV.nilSl, AV.nilSl]) := by kernel_rfl
theorem bd26_0v1 (a0l : Nat) (a0i : Nat) (a0n : Nat) (a0e : Nat) (a0c : Option Nat) : abuild P 26 [(0, (.sl a0l a0i a0n a0e a0c))] = some (.agg [(.sl a0l a0i a0n a0e a0c), AV.nilSl, AV.nilSl]) := by kernel_rfl
theorem bd26_1v0 : abuild P 26 [(1, AV.nilSl)] = some (.agg [AV.nilSl, AV.nilSl, AV.nilSl]) := by kernel_rfl
theorem bd26_1v1 (a1l : Nat) (a1i : Nat) (a1n : Nat) (a1e : Nat) (a1c : Option Nat) : abuild P 26 [(1, (.sl a1l a1i a1n a1e a1c))] = some (.agg [AV.nilSl, (.sl a1l a1i a1n a1e a1c), AV.nilSl]) := by kernel_rfl
theorem bd26_2v0 : abuild P 26 [(2, AV.nilSl)] = some (.agg [AV.nilSl, AV.nilSl, AV.nilSl]) := by kernel_rfl
theorem bd26_2v1 (a2l : Nat) (a2i : Nat) (a2n : Nat) (a2e : Nat) (a2c : Option Nat) : abuild P 26 [(2, (.sl a2l a2i a2n a2e a2c))] = some (.agg [AV.nilSl, AV.nilSl, (.sl a2l a2i a2n a2e a2c)]) := by kernel_rfl
theorem bd29_0_1 (a0 : Int) (a1 : Int) : abuild P 29 [(0, (.int .i64 a0)), (1, (.int .i64 a1))] = some (.agg [(.int .i64 a0), (.int .i64 a1)]) := by kernel_rfl
theorem bd55_0v0 : abuild P 55 [(0, AV.nilSl)] = some (.agg [AV.nilSl, (.int .i64 0), AV.nilSl, AV.nilSl, AV.nilSl, (.int .i64 0), (.int .i64 0)]) := by kernel_rfl
theorem bd55_0v1 (a0l : Nat) (a0i : Nat) (a0n : Nat) (a0e : Nat) (a0c : Option Nat) : abuild P 55 [(0, (.sl a0l a0i a0n a0e a0c))] = some (.agg [(.sl a0l a0i a0n a0e a0c), (.int .i64 0), AV.nilSl, AV.nilSl, AV.nilSl, (.int .i64 0), (.int .i64 0)]) := by kernel_rfl
theorem bd63_0v0 : abuild P 63 [(0, AV.nilSl)] = some (.agg [AV.nilSl, (.int .i64 0), (.int .i64 0), (.int .i64 0), (.int .i64 0)]) := by kernel_rfl
theorem bd63_0v1 (a0l : Nat) (a0i : Nat) (a0n : Nat) (a0e : Nat) (a0c : Option Nat) : abuild P 63 [(0, (.sl a0l a0i a0n a0e a0c))] = some (.agg [(.sl a0l a0i a0n a0e a0c), (.int .i64 0), (.int .i64 0), (.int .i64 0), (.int .i64 0)]) := by kernel_rfl
theorem bd29_0 (a0 : Int) : abuild P 29 [(0, (.int .i64 a0))] = some (.agg [(.int .i64 a0), (.int .i64 0)]) := by kernel_rfl
theorem bd57_0_3 (a0 : Int) (a3 : Int) : abuild P 57 [(0, (.int .i64 a0)), (3, (.int .i64 a3))] = some (.agg [(.int .i64 a0), (.str []), (.int .i64 0), (.int .i64 a3)]) := by kernel_rfl
theorem bd41_0_2 (a0 : List UInt8) (a2 : Int) : abuild P 41 [(0, (.str a0)), (2, (.int .i64 a2))] = some (.agg [(.str a0), AV.nilSl, (.int .i64 a2)]) := by kernel_rfl
theorem bd46_0_5 (a0 : List UInt8) (a5 : Int) : abuild P 46 [(0, (.str a0)), (5, (.int .i64 a5))] = some (.agg [(.str a0), AV.nilSl, (.bool false), (.str []), (.int .i64 0), AV.nilSl, (.int .i64 a5)]) := by kernel_rfl
theorem bd57_0 (a0 : Int) : abuild P 57 [(0, (.int .i64 a0))] = some (.agg [(.int .i64 a0), (.str []), (.int .i64 0), (.int .i64 0)]) := by kernel_rfl
theorem bd41_2 (a2 : Int) : abuild P 41 [(2, (.int .i64 a2))] = some (.agg [(.str []), AV.nilSl, (.int .i64 a2)]) := by kernel_rfl
theorem bd66_2 (a2 : Int) : abuild P 66 [(2, (.int .i64 a2))] = some (.agg [(.str []), (.str []), (.int .i64 0), (.int .i64 a2)]) := by kernel_rfl
theorem bd46_5 (a5 : Int) : abuild P 46 [(5, (.int .i64 a5))] = some (.agg [(.str []), AV.nilSl, (.bool false), (.str []), (.int .i64 0), AV.nilSl, (.int .i64 a5)]) := by kernel_rfl
theorem bd57_0_1 (a0 : Int) (a1 : List UInt8) : abuild P 57 [(0, (.int .i64 a0)), (1, (.str a1))] = some (.agg [(.int .i64 a0), (.str a1), (.int .i64 0), (.int .i64 0)]) := by kernel_rfl
theorem bd66_0_1_2 (a0 : List UInt8) (a1_0 : List UInt8) (a1_1 : Int) (a2 : Int) : abuild P 66 [(0, (.str a0)), (1, (.agg [(.str a1_0), (.int .i64 a1_1)])), (2, (.int .i64 a2))] = some (.agg [(.str a0), (.str a1_0), (.int .i64 a1_1), (.int .i64 a2)]) := by kernel_rfl
theorem bd112_0_1_2v0 (a1 : Int) (a2 : Int) : abuild P 112 [(0, AV.nilSl), (1, (.int .i64 a1)), (2, (.int .i64 a2))] = some (.agg [AV.nilSl, (.int .i64 a1), (.int .i64 a2), (.int .i64 0), (.int .i64 0)]) := by kernel_rfl
theorem bd112_0_1_2v1 (a0l : Nat) (a0i : Nat) (a0n : Nat) (a0e : Nat) (a0c : Option Nat) (a1 : Int) (a2 : Int) : abuild P 112 [(0, (.sl a0l a0i a0n a0e a0c)), (1, (.int .i64 a1)), (2, (.int .i64 a2))] = some (.agg [(.sl a0l a0i a0n a0e a0c), (.int .i64 a1), (.int .i64 a2), (.int .i64 0), (.int .i64 0)]) := by kernel_rfl
theorem bd57_0_1_3 (a0 : Int) (a1 : List UInt8) (a3 : Int) : abuild P 57 [(0, (.int .i64 a0)), (1, (.str a1)), (3, (.int .i64 a3))] = some (.agg [(.int .i64 a0), (.str a1), (.int .i64 0), (.int .i64 a3)]) := by kernel_rfl
theorem bd57_0_2_3 (a0 : Int) (a2 : Int) (a3 : Int) : abuild P 57 [(0, (.int .i64 a0)), (2, (.int .i64 a2)), (3, (.int .i64 a3))] = some (.agg [(.int .i64 a0), (.str []), (.int .i64 a2), (.int .i64 a3)]) := by kernel_rfl
theorem bd43_1 (a1 : Int) : abuild P 43 [(1, (.int .i64 a1))] = some (.agg [(.str []), (.int .i64 a1)]) := by kernel_rfl
theorem bd57_0_2 (a0 : Int) (a2 : Int) : abuild P 57 [(0, (.int .i64 a0)), (2, (.int .i64 a2))] = some (.agg [(.int .i64 a0), (.str []), (.int .i64 a2), (.int .i64 0)]) := by kernel_rfl
theorem bd133_0_1v0 (a1 : Int) : abuild P 133 [(0, AV.nilSl), (1, (.int .i64 a1))] = some (.agg [AV.nilSl, (.int .i64 a1), (.int .i64 0), AV.nilSl, (.int .i64 0), (.int .i64 0)]) := by kernel_rfl
theorem bd133_0_1v1 (a0l : Nat) (a0i : Nat) (a0n : Nat) (a0e : Nat) (a0c : Option Nat) (a1 : Int) : abuild P 133 [(0, (.sl a0l a0i a0n a0e a0c)), (1, (.int .i64 a1))] = some (.agg [(.sl a0l a0i a0n a0e a0c), (.int .i64 a1), (.int .i64 0), AV.nilSl, (.int .i64 0), (.int .i64 0)]) := by kernel_rfl
theorem bd98_6 (a6 : Int) : abuild P 98 [(6, (.int .i64 a6))] = some (.agg [(.int .i64 0), (.str []), (.str []), (.int .i64 0), AV.nilSl, AV.nilSl, AV.nilSl, (.int .i64 a6), (.int .i64 0)]) := by kernel_rfl
theorem bd43_0_1 (a0 : List UInt8) (a1 : Int) : abuild P 43 [(0, (.str a0)), (1, (.int .i64 a1))] = some (.agg [(.str a0), (.int .i64 a1)]) := by kernel_rfl
theorem bd103_0_4_5v0 (a0 : Int) (a5 : Int) : abuild P 103 [(0, (.int .i64 a0)), (4, AV.nilSl), (5, (.int .i64 a5))] = some (.agg [(.int .i64 a0), (.int .i64 0), (.str []), (.str []), (.int .i64 0), AV.nilSl, (.int .i64 a5), (.int .i64 0), (.int .i64 0), (.int .i64 0), (.int .i64 0)]) := by kernel_rfl
theorem bd103_0_4_5v1 (a0 : Int) (a4l : Nat) (a4i : Nat) (a4n : Nat) (a4e : Nat) (a4c : Option Nat) (a5 : Int) : abuild P 103 [(0, (.int .i64 a0)), (4, (.sl a4l a4i a4n a4e a4c)), (5, (.int .i64 a5))] = some (.agg [(.int .i64 a0), (.int .i64 0), (.str []), (.str []), (.int .i64 0), (.sl a4l a4i a4n a4e a4c), (.int .i64 a5), (.int .i64 0), (.int .i64 0), (.int .i64 0), (.int .i64 0)]) := by kernel_rfl
theorem bd98_0_3v0 (a0 : Int) : abuild P 98 [(0, (.int .i64 a0)), (3, AV.nilSl)] = some (.agg [(.int .i64 a0), (.str []), (.str []), (.int .i64 0), AV.nilSl, AV.nilSl, AV.nilSl, (.int .i64 0), (.int .i64 0)]) := by kernel_rfl
theorem bd98_0_3v1 (a0 : Int) (a3l : Nat) (a3i : Nat) (a3n : Nat) (a3e : Nat) (a3c : Option Nat) : abuild P 98 [(0, (.int .i64 a0)), (3, (.sl a3l a3i a3n a3e a3c))] = some (.agg [(.int .i64 a0), (.str []), (.str []), (.int .i64 0), (.sl a3l a3i a3n a3e a3c), AV.nilSl, AV.nilSl, (.int .i64 0), (.int .i64 0)]) := by kernel_rfl
theorem bd98_0_1_3v0 (a0 : Int) (a1 : List UInt8) : abuild P 98 [(0, (.int .i64 a0)), (1, (.str a1)), (3, AV.nilSl)] = some (.agg [(.int .i64 a0), (.str a1), (.str []), (.int .i64 0), AV.nilSl, AV.nilSl, AV.nilSl, (.int .i64 0), (.int .i64 0)]) := by kernel_rfl
theorem bd98_0_1_3v1 (a0 : Int) (a1 : List UInt8) (a3l : Nat) (a3i : Nat) (a3n : Nat) (a3e : Nat) (a3c : Option Nat) : abuild P 98 [(0, (.int .i64 a0)), (1, (.str a1)), (3, (.sl a3l a3i a3n a3e a3c))] = some (.agg [(.int .i64 a0), (.str a1), (.str []), (.int .i64 0), (.sl a3l a3i a3n a3e a3c), AV.nilSl, AV.nilSl, (.int .i64 0), (.int .i64 0)]) := by kernel_rfl
theorem bd98_0_1_2 (a0 : Int) (a1 : List UInt8) (a2_0 : List UInt8) (a2_1 : Int) : abuild P 98 [(0, (.int .i64 a0)), (1, (.str a1)), (2, (.agg [(.str a2_0), (.int .i64 a2_1)]))] = some (.agg [(.int .i64 a0), (.str a1), (.str a2_0), (.int .i64 a2_1), AV.nilSl, AV.nilSl, AV.nilSl, (.int .i64 0), (.int .i64 0)]) := by kernel_rfl
theorem bd98_0_1_2_3v0 (a0 : Int) (a1 : List UInt8) (a2_0 : List UInt8) (a2_1 : Int) : abuild P 98 [(0, (.int .i64 a0)), (1, (.str a1)), (2, (.agg [(.str a2_0), (.int .i64 a2_1)])), (3, AV.nilSl)] = some (.agg [(.int .i64 a0), (.str a1), (.str a2_0), (.int .i64 a2_1), AV.nilSl, AV.nilSl, AV.nilSl, (.int .i64 0), (.int .i64 0)]) := by kernel_rfl
theorem bd98_0_1_2_3v1 (a0 : Int) (a1 : List UInt8) (a2_0 : List UInt8) (a2_1 : Int) (a3l : Nat) (a3i : Nat) (a3n : Nat) (a3e : Nat) (a3c : Option Nat) : abuild P 98 [(0, (.int .i64 a0)), (1, (.str a1)), (2, (.agg [(.str a2_0), (.int .i64 a2_1)])), (3, (.sl a3l a3i a3n a3e a3c))] = some (.agg [(.int .i64 a0), (.str a1), (.str a2_0), (.int .i64 a2_1), (.sl a3l a3i a3n a3e a3c), AV.nilSl, AV.nilSl, (.int .i64 0), (.int .i64 0)]) := by kernel_rfl
theorem bd98_0_3_4v0 (a0 : Int) : abuild P 98 [(0, (.int .i64 a0)), (3, AV.nilSl), (4, AV.nilSl)] = some (.agg [(.int .i64 a0), (.str []), (.str []), (.int .i64 0), AV.nilSl, AV.nilSl, AV.nilSl, (.int .i64 0), (.int .i64 0)]) := by kernel_rfl
theorem bd98_0_3_4v1 (a0 : Int) (a4l : Nat) (a4i : Nat) (a4n : Nat) (a4e : Nat) (a4c : Option Nat) : abuild P 98 [(0, (.int .i64 a0)), (3, AV.nilSl), (4, (.sl a4l a4i a4n a4e a4c))] = some (.agg [(.int .i64 a0), (.str []), (.str []), (.int .i64 0), AV.nilSl, (.sl a4l a4i a4n a4e a4c), AV.nilSl, (.int .i64 0), (.int .i64 0)]) := by kernel_rfl
theorem bd98_0_3_4v2 (a0 : Int) (a3l : Nat) (a3i : Nat) (a3n : Nat) (a3e : Nat) (a3c : Option Nat) : abuild P 98 [(0, (.int .i64 a0)), (3, (.sl a3l a3i a3n a3e a3c)), (4, AV.nilSl)] = some (.agg [(.int .i64 a0), (.str []), (.str []), (.int .i64 0), (.sl a3l a3i a3n a3e a3c), AV.nilSl, AV.nilSl, (.int .i64 0), (.int .i64 0)]) := by kernel_rfl
theorem bd98_0_3_4v3 (a0 : Int) (a3l : Nat) (a3i : Nat) (a3n : Nat) (a3e : Nat) (a3c : Option Nat) (a4l : Nat) (a4i : Nat) (a4n : Nat) (a4e : Nat) (a4c : Option Nat) : abuild P 98 [(0, (.int .i64 a0)), (3, (.sl a3l a3i a3n a3e a3c)), (4, (.sl a4l a4i a4n a4e a4c))] = some (.agg [(.int .i64 a0), (.str []), (.str []), (.int .i64 0), (.sl a3l a3i a3n a3e a3c), (.sl a4l a4i a4n a4e a4c), AV.nilSl, (.int .i64 0), (.int .i64 0)]) := by kernel_rfl
theorem bd98_0 (a0 : Int) : abuild P 98 [(0, (.int .i64 a0))] = some (.agg [(.int .i64 a0), (.str []), (.str []), (.int .i64 0), AV.nilSl, AV.nilSl, AV.nilSl, (.int .i64 0), (.int .i64 0)]) := by kernel_rfl
theorem bd103_0_2_4_5v0 (a0 : Int) (a2 : List UInt8) (a5 : Int) : abuild P 103 [(0, (.int .i64 a0)), (2, (.str a2)), (4, AV.nilSl), (5, (.int .i64 a5))] = some (.agg [(.int .i64 a0), (.int .i64 0), (.str a2), (.str []), (.int .i64 0), AV.nilSl, (.int .i64 a5), (.int .i64 0), (.int .i64 0), (.int .i64 0), (.int .i64 0)]) := by kernel_rfl
theorem bd103_0_2_4_5v1 (a0 : Int) (a2 : List UInt8) (a4l : Nat) (a4i : Nat) (a4n : Nat) (a4e : Nat) (a4c : Option Nat) (a5 : Int) : abuild P 103 [(0, (.int .i64 a0)), (2, (.str a2)), (4, (.sl a4l a4i a4n a4e a4c)), (5, (.int .i64 a5))] = some (.agg [(.int .i64 a0), (.int .i64 0), (.str a2), (.str []), (.int .i64 0), (.sl a4l a4i a4n a4e a4c), (.int .i64 a5), (.int .i64 0), (.int .i64 0), (.int .i64 0), (.int .i64 0)]) := by kernel_rfl
theorem bd103_0_1_5 (a0 : Int) (a1 : Int) (a5 : Int) : abuild P 103 [(0, (.int .i64 a0)), (1, (.int .i64 a1)), (5, (.int .i64 a5))] = some (.agg [(.int .i64 a0), (.int .i64 a1), (.str []), (.str []), (.int .i64 0), AV.nilSl, (.int .i64 a5), (.int .i64 0), (.int .i64 0), (.int .i64 0), (.int .i64 0)]) := by kernel_rfl
theorem bd103_0_3_5 (a0 : Int) (a3_0 : List UInt8) (a3_1 : Int) (a5 : Int) : abuild P 103 [(0, (.int .i64 a0)), (3, (.agg [(.str a3_0), (.int .i64 a3_1)])), (5, (.int .i64 a5))] = some (.agg [(.int .i64 a0), (.int .i64 0), (.str []), (.str a3_0), (.int .i64 a3_1), AV.nilSl, (.int .i64 a5), (.int .i64 0), (.int .i64 0), (.int .i64 0), (.int .i64 0)]) := by kernel_rfl
theorem bd103_0_5 (a0 : Int) (a5 : Int) : abuild P 103 [(0, (.int .i64 a0)), (5, (.int .i64 a5))] = some (.agg [(.int .i64 a0), (.int .i64 0), (.str []), (.str []), (.int .i64 0), AV.nilSl, (.int .i64 a5), (.int .i64 0), (.int .i64 0), (.int .i64 0), (.int .i64 0)]) := by kernel_rfl
theorem bd103_0_2_5 (a0 : Int) (a2 : List UInt8) (a5 : Int) : abuild P 103 [(0, (.int .i64 a0)), (2, (.str a2)), (5, (.int .i64 a5))] = some (.agg [(.int .i64 a0), (.int .i64 0), (.str a2), (.str []), (.int .i64 0), AV.nilSl, (.int .i64 a5), (.int .i64 0), (.int .i64 0), (.int .i64 0), (.int .i64 0)]) := by kernel_rfl
theorem bd133_0_1_2_3v0 (a1 : Int) (a2 : Int) : abuild P 133 [(0, AV.nilSl), (1, (.int .i64 a1)), (2, (.int .i64 a2)), (3, AV.nilSl)] = some (.agg [AV.nilSl, (.int .i64 a1), (.int .i64 a2), AV.nilSl, (.int .i64 0), (.int .i64 0)]) := by kernel_rfl
theorem bd133_0_1_2_3v1 (a1 : Int) (a2 : Int) (a3l : Nat) (a3i : Nat) (a3n : Nat) (a3e : Nat) (a3c : Option Nat) : abuild P 133 [(0, AV.nilSl), (1, (.int .i64 a1)), (2, (.int .i64 a2)), (3, (.sl a3l a3i a3n a3e a3c))] = some (.agg [AV.nilSl, (.int .i64 a1), (.int .i64 a2), (.sl a3l a3i a3n a3e a3c), (.int .i64 0), (.int .i64 0)]) := by kernel_rfl
theorem bd133_0_1_2_3v2 (a0l : Nat) (a0i : Nat) (a0n : Nat) (a0e : Nat) (a0c : Option Nat) (a1 : Int) (a2 : Int) : abuild P 133 [(0, (.sl a0l a0i a0n a0e a0c)), (1, (.int .i64 a1)), (2, (.int .i64 a2)), (3, AV.nilSl)] = some (.agg [(.sl a0l a0i a0n a0e a0c), (.int .i64 a1), (.int .i64 a2), AV.nilSl, (.int .i64 0), (.int .i64 0)]) := by kernel_rfl
theorem bd133_0_1_2_3v3 (a0l : Nat) (a0i : Nat) (a0n : Nat) (a0e : Nat) (a0c : Option Nat) (a1 : Int) (a2 : Int) (a3l : Nat) (a3i : Nat) (a3n : Nat) (a3e : Nat) (a3c : Option Nat) : abuild P 133 [(0, (.sl a0l a0i a0n a0e a0c)), (1, (.int .i64 a1)), (2, (.int .i64 a2)), (3, (.sl a3l a3i a3n a3e a3c))] = some (.agg [(.sl a0l a0i a0n a0e a0c), (.int .i64 a1), (.int .i64 a2), (.sl a3l a3i a3n a3e a3c), (.int .i64 0), (.int .i64 0)]) := by kernel_rfl
theorem bd43_0 (a0 : List UInt8) : abuild P 43 [(0, (.str a0))] = some (.agg [(.str a0), (.int .i64 0)]) := by kernel_rfl
theorem bd103_0_3_4_5v0 (a0 : Int) (a3_0 : List UInt8) (a3_1 : Int) (a5 : Int) : abuild P 103 [(0, (.int .i64 a0)), (3, (.agg [(.str a3_0), (.int .i64 a3_1)])), (4, AV.nilSl), (5, (.int .i64 a5))] = some (.agg [(.int .i64 a0), (.int .i64 0), (.str []), (.str a3_0), (.int .i64 a3_1), AV.nilSl, (.int .i64 a5), (.int .i64 0), (.int .i64 0), (.int .i64 0), (.int .i64 0)]) := by kernel_rfl
theorem bd103_0_3_4_5v1 (a0 : Int) (a3_0 : List UInt8) (a3_1 : Int) (a4l : Nat) (a4i : Nat) (a4n : Nat) (a4e : Nat) (a4c : Option Nat) (a5 : Int) : abuild P 103 [(0, (.int .i64 a0)), (3, (.agg [(.str a3_0), (.int .i64 a3_1)])), (4, (.sl a4l a4i a4n a4e a4c)), (5, (.int .i64 a5))] = some (.agg [(.int .i64 a0), (.int .i64 0), (.str []), (.str a3_0), (.int .i64 a3_1), (.sl a4l a4i a4n a4e a4c), (.int .i64 a5), (.int .i64 0), (.int .i64 0), (.int .i64 0), (.int .i64 0)]) := by kernel_rfl
theorem bd199_0_1 (a0 : List UInt8) (a1 : Int) : abuild P 199 [(0, (.str a0)), (1, (.int .i64 a1))] = some (.agg [(.str a0), (.int .i64 a1)]) := by kernel_rfl
end Go.Proofs.YtghmbpmaafnodaaGreatDoor

namespace Go.Ev
open Go.ChangeShapes Go.WideShapes Go.ChangeAt Go.RowKit
def LawOk (E : Env) (P : Program) (f : Nat) (args : List Value) (W : World) : Prop :=
  ∃ (ρ : Env) (H : AHeap) (avs : List AV) (H' : AHeap), Rel ρ H W ∧ (∀ l, ¬ H.rw l) ∧ (∀ l, H.next ≤ l → ρ l = none) ∧ E.le ρ ∧ H.next ≤ H'.next ∧ VRels ρ avs args ∧ CallOk1 E P f avs H (.bool true) H'
theorem law_walk {E : Env} {P : Program} {f : Nat} {fn : Func} {c : Code} {args : List Value} {W : World} (hP : ProgOk P) (hfn : P.funcs[f]? = some fn) (hc : fn.body = some c) (h : LawOk E P f args W) :
    Calls P f args.toArray W fun e w' => e = .returned (.bool true) ∧ Below W.heap.size W w' := by
  obtain ⟨ρ, H, avs, H', h1, h2, h3, hE, h4, h5, h6⟩ := h
  have hno : ∀ b, ¬ Owned ρ H b := by rintro b ⟨l, loc, hl, _⟩; exact h2 l hl
  have hup := h6 ρ W args h1 ⟨fun l hl _ => h3 l hl, hE⟩ h5 h4 (fun x w' => x = .bool true ∧ Below W.heap.size W w') (fun x w' ρ' hx hs => by
    cases hx
    exact ⟨rfl, hs.os, hs.tape, hs.output, hs.size, fun k hk => hs.frame k hk (hno k)⟩)
  have hname : (fn.name == "runtime.NumGoroutine") = false := hP.names fn (Array.mem_of_getElem? hfn)
  have hrun : (callFunc f args.toArray).run P W = .ok (.enter f args.toArray) W := by
    unfold callFunc
    simp [hfn, hc]
    intro hh
    simp [hh] at hname
  unfold Upon at hup
  rw [hrun] at hup
  simp only at hup
  refine hup.mono fun e w' hr => ?_
  split at hr
  · exact ⟨by rw [hr.1], hr.2⟩
  · exact hr.elim
theorem trodAll_below {H : Type} {enc : TypeId × Value → H} {P : Program} {W W' : World} (hl : laidOutB P = true) (hb : Below W.heap.size W W') : ∀ {ts : List TypeId} {vs : List Value} {ds : List (DataW H)} {ps : List MemPlace}, (∀ t ∈ ts, P.readableRec t = true ∧ t < P.types.size) →
    DataW.TrodAll enc P W 0 (fun _ => true) true ts vs ds ps → ∃ ps', DataW.TrodAll enc P W' 0 (fun b => decide (b < W.heap.size)) true ts vs ds ps'
  | [], vs, ds, ps, _, h => by
    obtain ⟨rfl, rfl, rfl⟩ := trodAll_nil h
    exact ⟨[], trodAll_mk0⟩
  | t :: ts, vs, ds, ps, ht, h => by
    obtain ⟨v, vs', d, ds', p, q, rfl, rfl, rfl, h1, h2⟩ := trodAll_cons h
    obtain ⟨ps', h3⟩ := trodAll_below hl hb (fun t ht' => ht t (List.mem_cons_of_mem _ ht')) h2
    have hlt : ∀ x ∈ p, x.block < W.heap.size := by obtain ⟨m, hm⟩ := h1; exact DataW.trod_lt m _ _ _ hm
    exact ⟨_, trodAll_cons_mk (Below.trod hl (ht t (List.mem_cons_self ..)).1 (ht t (List.mem_cons_self ..)).2 h1 hb hlt) h3⟩
structure Seen (ρ : Env) (H : AHeap) (W : World) : Prop where
  rel : Rel ρ H W
  ro : ∀ l, ¬ H.rw l
  top : ∀ l, H.next ≤ l → ρ l = none
theorem Seen.empty (W : World) : Seen (fun _ => none) AHeap.empty W :=
  have hno : ∀ l, ¬ AHeap.empty.rw l := fun l hl => by
    rcases hl with ⟨e, s, h⟩ | ⟨es, h⟩ <;> rw [AHeap.empty_get] at h <;> cases h
  ⟨rel_empty W, hno, fun _ _ => rfl⟩
theorem Seen.le_upd {ρ : Env} {H : AHeap} {W : World} (h : Seen ρ H W) (loc : Go.Ev.Loc) : ρ.le (ρ.upd H.next loc) := fun l loc' e => by
  have : l ≠ H.next := by rintro rfl; rw [h.top _ (Nat.le_refl _)] at e; cases e
  simp only [Env.upd, if_neg this]; exact e
theorem RowOk.mono {ρ ρ' : Env} (hle : ρ.le ρ') {w : World} {loc : Go.Ev.Loc} {ro : Bool} {esz : Nat} {els : List (List AV)} (h : RowOk ρ w loc ro esz els) : RowOk ρ' w loc ro esz els := by
  obtain ⟨h1, c, t, fz, h2, h3, h4⟩ := h
  refine ⟨h1, c, t, fz, h2, h3, fun i e he => ⟨(h4 i e he).1, fun j v hv => ?_⟩⟩
  obtain ⟨q1, x, q2, q3⟩ := (h4 i e he).2 j v hv
  exact ⟨q1, x, q2, q3.mono hle⟩
theorem Seen.push {ρ : Env} {H : AHeap} {W : World} (h : Seen ρ H W) {loc : Go.Ev.Loc} {esz : Nat} {els : List (List AV)} (hr : RowOk ρ W loc true esz els) : Seen (ρ.upd H.next loc) (H.push (.row true esz els)) W := by
  have hle := h.le_upd loc
  have hrw : ∀ l, ¬ (H.push (.row true esz els)).rw l := by
    rintro l (⟨e, s, hg⟩ | ⟨es, hg⟩)
    · rw [AHeap.get_push] at hg
      split at hg
      · cases hg
      · exact h.ro l (.inl ⟨e, s, hg⟩)
    · rw [AHeap.get_push] at hg
      split at hg
      · cases hg
      · exact h.ro l (.inr ⟨es, hg⟩)
  refine ⟨⟨fun l ro e s hg => ?_, fun l es hg => ?_, fun l l' _ _ hl => absurd hl (hrw l)⟩, hrw, fun l hl => ?_⟩
  · rw [AHeap.get_push] at hg
    split at hg
    · rename_i hl
      cases hg
      exact ⟨loc, by simp [Env.upd, hl], hr.mono hle⟩
    · obtain ⟨loc', h1, h2⟩ := h.rel.row l ro e s hg
      exact ⟨loc', hle _ _ h1, h2.mono hle⟩
  · exact absurd (.inr ⟨es, hg⟩) (hrw l)
  · simp only [AHeap.next_push] at hl
    have : l ≠ H.next := by omega
    simp only [Env.upd, if_neg this]
    exact h.top l (by omega)
end Go.Ev

namespace Go.Proofs.YtghmbpmaafnodaaGreatDoor
open Go.Ev
abbrev Bs := List UInt8
structure Tok where
 kind : Int
 text : Bs
 n : Int
 pos : Int
def Tok.none : Tok := ⟨0, [], 0, 0⟩
def tokAt (T : List Tok) (at_ : Int) : Tok := if at_ < 0 ∨ (T.length : Int) ≤ at_ then .none else T[at_.toNat]?.getD .none
structure St where
 at_ : Int
 opn : Int
 fe : Int
 fa : Int
abbrev w64 (n : Int) : Int := IntKind.i64.wrap n
structure Ea where
 kind : Int
 n : Int := 0
 name : Bs := []
 ofn : Bs := []
 ofd : Int := 0
 pos : Int := 0
 tb : Int := 0
 tr : Int := 0
 td : Int := 0
 ref : Int := 0
inductive Ex where
 | mk (a : Ea) (kids : List Ex)
def Ex.zero : Ex := .mk { kind := 0 } []
def isB (T : List Tok) (s : St) (k : Int) (x : Bs) : Bool := s.fe == 0 && ((tokAt T s.at_).kind == k && (tokAt T s.at_).text == x)
def failS (T : List Tok) (e : Int) (s : St) : St := if s.fe = 0 then { s with fe := e, fa := (tokAt T s.at_).pos } else s
def goS (s : St) : St := { s with at_ := w64 (s.at_ + 1) }
def takesS (T : List Tok) (k : Int) (x : Bs) (s : St) : Bool × St := bif isB T s k x then (true, goS s) else (false, s)
def wantsS (T : List Tok) (x : Bs) (s : St) : Bool × St := bif isB T s 4 x then (true, goS s) else (false, failS T 2 s)
def opensS (T : List Tok) (x : Bs) (s : St) : Bool × St := bif isB T s 4 x then (if 50 ≤ s.opn then (false, failS T 4 s) else (true, { s with at_ := w64 (s.at_ + 1), opn := w64 (s.opn + 1) })) else (false, failS T 2 s)
def outS (s : St) : St := { s with opn := w64 (s.opn - 1) }
def closesS (T : List Tok) (x : Bs) (s : St) : Bool × St := wantsS T x (outS s)
def ofL (T : List Tok) : Nat → Int → St → (Int × St) ⊕ St
 | 0, d, s => bif isB T s 4 [91] then .inr (failS T 4 s) else .inl (d, s)
 | n + 1, d, s => bif isB T s 4 [91] then ofL T n (d + 1) (goS s) else .inl (d, s)
def wantN (T : List Tok) (x : Bs) : Nat → St → St
 | 0, s => s
 | n + 1, s => wantN T x n (wantsS T x s).2
def ofE (T : List Tok) (d : Int) (s : St) : (Bs × Int) × St :=
 bif ((tokAt T s.at_).kind != 1 && (!isB T s 3 [105, 110, 116] && !isB T s 3 [98, 111, 111, 108])) then (([], 0), failS T 2 s)
 else (((tokAt T s.at_).text, d), wantN T [93] d.toNat (goS s))
def ofS (T : List Tok) (s : St) : (Bs × Int) × St := match ofL T 3 0 s with
 | .inr s' => (([], 0), s')
 | .inl (d, s') => ofE T d s'
def lvls : List (List (Bs × Int)) := [[([124, 124], 24)], [([38, 38], 23)], [([60], 19), ([60, 61], 20), ([61, 61], 21), ([33, 61], 22)], [([43], 14), ([45], 15)], [([42], 16), ([47], 17), ([37], 18)]]
def kindL (T : List Tok) (s : St) : List (Bs × Int) → Int
 | [] => 0
 | (x, k) :: r => bif isB T s 4 x then k else kindL T s r
def kindS (T : List Tok) (lev : Nat) (s : St) : Int := kindL T s (lvls[lev]?.getD [])
def truthS (T : List Tok) (s : St) : Ex × St := (.mk { kind := 2, n := bif (tokAt T s.at_).text == [116, 114, 117, 101] then 1 else 0, pos := (tokAt T s.at_).pos } [], goS s)
def nullS (T : List Tok) (s : St) : Ex × St := (.mk { kind := 3, ofn := (ofS T (goS s)).1.1, ofd := (ofS T (goS s)).1.2, pos := (tokAt T s.at_).pos } [], (ofS T (goS s)).2)
def readS (T : List Tok) (s : St) : Ex × St := (.mk { kind := 11, pos := (tokAt T s.at_).pos } [], bif (opensS T [40] (goS s)).1 then (closesS T [41] (opensS T [40] (goS s)).2).2 else (opensS T [40] (goS s)).2)
def fieldS (T : List Tok) (e : Ex) (s : St) : Ex × St :=
 (.mk { kind := 5, name := (tokAt T (goS s).at_).text, pos := (tokAt T s.at_).pos } [e], goS (bif (tokAt T (goS s).at_).kind != 1 then failS T 2 (goS s) else goS s))
abbrev R (α : Type) := Option (α × St)
mutual
def rowF (T : List Tok) : Nat → Nat → St → R Ex
 | 0, _, _ => none
 | n + 1, lev, s => if lev = 5 then unaryF T n s else (rowF T n (lev + 1) s).bind fun p => rowL T n lev p.1 p.2
def rowL (T : List Tok) : Nat → Nat → Ex → St → R Ex
 | 0, _, _, _ => none
 | n + 1, lev, e, s => if kindS T lev s = 0 then some (e, s) else
   (rowF T n (lev + 1) (goS s)).bind fun p => rowL T n lev (.mk { kind := kindS T lev s, pos := (tokAt T s.at_).pos } [e, p.1]) p.2
def unaryF (T : List Tok) : Nat → St → R Ex
 | 0, _ => none
 | n + 1, s => bif isB T s 4 [45] then signF T n [45] 12 s else bif isB T s 4 [33] then signF T n [33] 13 s else chainF T n s
def signF (T : List Tok) : Nat → Bs → Int → St → R Ex
 | 0, _, _, _ => none
 | n + 1, x, k, s => bif (opensS T x s).1 then (unaryF T n (opensS T x s).2).bind fun p => some (.mk { kind := k, pos := (tokAt T s.at_).pos } [p.1], outS p.2) else some (.zero, (opensS T x s).2)
def chainF (T : List Tok) : Nat → St → R Ex
 | 0, _ => none
 | n + 1, s => (firstF T n s).bind fun p => chainL T n p.1 p.2
def chainL (T : List Tok) : Nat → Ex → St → R Ex
 | 0, _, _ => none
 | n + 1, e, s => bif s.fe == 0 && (tokAt T s.at_).kind == 4 then
   (bif (tokAt T s.at_).text == [46] then chainL T n (fieldS T e s).1 (fieldS T e s).2
   else bif (tokAt T s.at_).text == [91] then (singleF T n [91] [93] s).bind fun p => chainL T n (.mk { kind := 6, pos := (tokAt T s.at_).pos } [e, p.1]) p.2
   else some (e, s)) else some (e, s)
def singleF (T : List Tok) : Nat → Bs → Bs → St → R Ex
 | 0, _, _, _ => none
 | n + 1, b, c, s => bif (opensS T b s).1 then (rowF T n 0 (opensS T b s).2).bind fun p => some (p.1, (closesS T c p.2).2) else some (.zero, (opensS T b s).2)
def firstF (T : List Tok) : Nat → St → R Ex
 | 0, _ => none
 | n + 1, s => if s.fe ≠ 0 then some (.zero, s) else
   if (tokAt T s.at_).kind = 2 then some (.mk { kind := 1, n := (tokAt T s.at_).n, pos := (tokAt T s.at_).pos } [], goS s) else
   if (tokAt T s.at_).kind = 1 then nameF T n s else
   if (tokAt T s.at_).kind = 3 ∨ (tokAt T s.at_).kind = 4 then
    (bif (tokAt T s.at_).kind == 4 then (bif (tokAt T s.at_).text == [40] then singleF T n [40] [41] s else some (.zero, failS T 2 s))
    else bif (tokAt T s.at_).text == [116, 114, 117, 101] || (tokAt T s.at_).text == [102, 97, 108, 115, 101] then some (truthS T s)
    else bif (tokAt T s.at_).text == [110, 117, 108, 108] then some (nullS T s)
    else bif (tokAt T s.at_).text == [110, 101, 119] then freshF T n s
    else bif (tokAt T s.at_).text == [108, 101, 110] then (singleF T n [40] [41] (goS s)).bind fun p => some (.mk { kind := 10, pos := (tokAt T s.at_).pos } [p.1], p.2)
    else bif (tokAt T s.at_).text == [114, 101, 97, 100] then some (readS T s)
    else some (.zero, failS T 2 s))
   else some (.zero, failS T 2 s)
def nameF (T : List Tok) : Nat → St → R Ex
 | 0, _ => none
 | n + 1, s => bif isB T (goS s) 4 [40] then (listF T n (goS s)).bind fun p => some (.mk { kind := 7, name := (tokAt T s.at_).text, pos := (tokAt T s.at_).pos } p.1, p.2)
   else some (.mk { kind := 4, name := (tokAt T s.at_).text, pos := (tokAt T s.at_).pos } [], goS s)
def freshF (T : List Tok) : Nat → St → R Ex
 | 0, _ => none
 | n + 1, s => bif isB T (goS s) 4 [91] then
   (singleF T n [40] [41] (wantsS T [93] (ofS T (goS (goS s))).2).2).bind fun p =>
    some (.mk { kind := 9, ofn := (ofS T (goS (goS s))).1.1, ofd := (ofS T (goS (goS s))).1.2, pos := (tokAt T s.at_).pos } [p.1], p.2)
   else some (.mk { kind := 8, ofn := (tokAt T (goS s).at_).text, pos := (tokAt T s.at_).pos } [], goS (bif (tokAt T (goS s).at_).kind != 1 then failS T 2 (goS s) else goS s))
def listF (T : List Tok) : Nat → St → R (List Ex)
 | 0, _ => none
 | n + 1, s => bif (opensS T [40] s).1 then
   (bif isB T (opensS T [40] s).2 4 [41] then some ([], (closesS T [41] (opensS T [40] s).2).2)
   else (rowF T n 0 (opensS T [40] s).2).bind fun p => listL T n [p.1] p.2)
   else some ([], (opensS T [40] s).2)
def listL (T : List Tok) : Nat → List Ex → St → R (List Ex)
 | 0, _, _ => none
 | n + 1, l, s => bif (takesS T 4 [44] s).1 then (rowF T n 0 (takesS T 4 [44] s).2).bind fun p => listL T n (l ++ [p.1]) p.2
   else some (l, (closesS T [41] (takesS T 4 [44] s).2).2)
end
end Go.Proofs.YtghmbpmaafnodaaGreatDoor

namespace Go.Proofs.YtghmbpmaafnodaaGreatDoor
open Go.Ev
def kw (x : Bs) : Int := match x with
 | c :: _ => if 97 ≤ c.toNat ∧ c.toNat ≤ 122 then 3 else 4
 | [] => 4
def isR (T : List Tok) (s : St) (x : Bs) : Bool := isB T s (kw x) x
def takeR (T : List Tok) (x : Bs) (s : St) : St := bif isR T s x then goS s else failS T 2 s
def inS (s : St) : St := { s with opn := w64 (s.opn + 1) }
def opensR (T : List Tok) (x : Bs) (s : St) : St := bif isR T s x && decide (50 ≤ s.opn) then failS T 4 s else inS (takeR T x s)
def closesR (T : List Tok) (x : Bs) (s : St) : St := outS (takeR T x s)
def nameR (T : List Tok) (s : St) : Bs × St := bif s.fe == 0 && (tokAt T s.at_).kind == 1 then ((tokAt T s.at_).text, goS s) else ([], failS T 2 s)
def takeN (T : List Tok) (x : Bs) : Nat → St → St
 | 0, s => s
 | n + 1, s => takeN T x n (takeR T x s)
def ofRL (T : List Tok) : Nat → Int → St → (Int × St) ⊕ St
 | 0, d, s => bif isR T s [91] then .inr (failS T 4 s) else .inl (d, s)
 | n + 1, d, s => bif isR T s [91] then ofRL T n (d + 1) (goS s) else .inl (d, s)
def ofRE (T : List Tok) (d : Int) (s : St) : (Bs × Int) × St :=
 bif isR T s [105, 110, 116] || isR T s [98, 111, 111, 108] then (((tokAt T s.at_).text, d), takeN T [93] d.toNat (goS s))
 else (((nameR T s).1, d), takeN T [93] d.toNat (nameR T s).2)
def ofR (T : List Tok) (s : St) : (Bs × Int) × St := match ofRL T 3 0 s with
 | .inr s' => (([], 0), s')
 | .inl (d, s') => ofRE T d s'
def levL (x : Bs) : List (Bs × Int) → Int
 | [] => 0
 | (y, k) :: r => bif y == x then k else levL x r
def levR (lev : Nat) (t : Tok) : Int := bif t.kind != 4 then 0 else levL t.text (lvls[lev]?.getD [])
mutual
def exprR (T : List Tok) : Nat → Nat → St → R Ex
 | 0, _, _ => none
 | n + 1, lev, s => if lev = 5 then unaryR T n s else (exprR T n (lev + 1) s).bind fun p => exprRL T n lev p.1 p.2
def exprRL (T : List Tok) : Nat → Nat → Ex → St → R Ex
 | 0, _, _, _ => none
 | n + 1, lev, e, s => bif s.fe == 0 && levR lev (tokAt T s.at_) != 0 then
   (exprR T n (lev + 1) (goS s)).bind fun p => exprRL T n lev (.mk { kind := levR lev (tokAt T s.at_), pos := (tokAt T s.at_).pos } [e, p.1]) p.2
   else some (e, s)
def unaryR (T : List Tok) : Nat → St → R Ex
 | 0, _ => none
 | n + 1, s => bif isR T s [45] then signR T n 12 s else bif isR T s [33] then signR T n 13 s else (firstR T n s).bind fun p => behindR T n p.1 p.2
def signR (T : List Tok) : Nat → Int → St → R Ex
 | 0, _, _ => none
 | n + 1, k, s => (exprR T n 5 (opensR T (tokAt T s.at_).text s)).bind fun p => some (.mk { kind := k, pos := (tokAt T s.at_).pos } [p.1], outS p.2)
def behindR (T : List Tok) : Nat → Ex → St → R Ex
 | 0, _, _ => none
 | n + 1, e, s => bif isR T s [46] then behindR T n (.mk { kind := 5, name := (nameR T (goS s)).1, pos := (tokAt T s.at_).pos } [e]) (nameR T (goS s)).2
   else bif isR T s [91] then (exprR T n 0 (opensR T [91] s)).bind fun p => behindR T n (.mk { kind := 6, pos := (tokAt T s.at_).pos } [e, p.1]) (closesR T [93] p.2)
   else some (e, s)
def innerR (T : List Tok) : Nat → St → R Ex
 | 0, _ => none
 | n + 1, s => (exprR T n 0 (opensR T [40] s)).bind fun p => some (p.1, closesR T [41] p.2)
def firstR (T : List Tok) : Nat → St → R Ex
 | 0, _ => none
 | n + 1, s => bif s.fe == 0 && (tokAt T s.at_).kind == 2 then some (.mk { kind := 1, n := (tokAt T s.at_).n, pos := (tokAt T s.at_).pos } [], goS s)
   else bif isR T s [116, 114, 117, 101] || isR T s [102, 97, 108, 115, 101] then some (.mk { kind := 2, n := bif (tokAt T s.at_).text == [116, 114, 117, 101] then 1 else 0, pos := (tokAt T s.at_).pos } [], goS s)
   else bif isR T s [110, 117, 108, 108] then some (.mk { kind := 3, ofn := (ofR T (goS s)).1.1, ofd := (ofR T (goS s)).1.2, pos := (tokAt T s.at_).pos } [], (ofR T (goS s)).2)
   else bif isR T s [110, 101, 119] then freshR T n (tokAt T s.at_).pos (goS s)
   else bif isR T s [108, 101, 110] then (innerR T n (goS s)).bind fun p => some (.mk { kind := 10, pos := (tokAt T s.at_).pos } [p.1], p.2)
   else bif isR T s [114, 101, 97, 100] then some (.mk { kind := 11, pos := (tokAt T s.at_).pos } [], closesR T [41] (opensR T [40] (goS s)))
   else bif isR T s [40] then innerR T n s
   else bif isR T (nameR T s).2 [40] then (argsR T n (nameR T s).2).bind fun p => some (.mk { kind := 7, name := (nameR T s).1, pos := (tokAt T s.at_).pos } p.1, p.2)
   else some (.mk { kind := 4, name := (nameR T s).1, pos := (tokAt T s.at_).pos } [], (nameR T s).2)
def freshR (T : List Tok) : Nat → Int → St → R Ex
 | 0, _, _ => none
 | n + 1, pos, s => bif isR T s [91] then
   (innerR T n (takeR T [93] (ofR T (goS s)).2)).bind fun p => some (.mk { kind := 9, ofn := (ofR T (goS s)).1.1, ofd := (ofR T (goS s)).1.2, pos := pos } [p.1], p.2)
   else some (.mk { kind := 8, ofn := (nameR T s).1, pos := pos } [], (nameR T s).2)
def argsR (T : List Tok) : Nat → St → R (List Ex)
 | 0, _ => none
 | n + 1, s => bif isR T (opensR T [40] s) [41] then some ([], closesR T [41] (opensR T [40] s))
   else (exprR T n 0 (opensR T [40] s)).bind fun p => argsRL T n [p.1] p.2
def argsRL (T : List Tok) : Nat → List Ex → St → R (List Ex)
 | 0, _, _ => none
 | n + 1, l, s => bif isR T s [44] then (exprR T n 0 (goS s)).bind fun p => argsRL T n (l ++ [p.1]) p.2 else some (l, closesR T [41] s)
end
end Go.Proofs.YtghmbpmaafnodaaGreatDoor

namespace Go.Proofs.YtghmbpmaafnodaaGreatDoor
open Go.Ev
def left (T : List Tok) (s : St) : Nat := if s.fe = 0 ∧ 0 ≤ s.at_ ∧ s.at_ < T.length then T.length - s.at_.toNat else 0
def Same {α : Type} (p q : α × St) : Prop := (p.2.fe = 0 ∧ q = p) ∨ (p.2.fe ≠ 0 ∧ q.2.fe = p.2.fe ∧ q.2.fa = p.2.fa)
theorem isB_failed {T : List Tok} {s : St} (h : s.fe ≠ 0) (k : Int) (x : Bs) : isB T s k x = false := by simp [isB, h]
theorem isR_failed {T : List Tok} {s : St} (h : s.fe ≠ 0) (x : Bs) : isR T s x = false := isB_failed h _ _
theorem failS_failed {T : List Tok} {s : St} (h : s.fe ≠ 0) (e : Int) : failS T e s = s := by simp [failS, h]
theorem kindL_failed {T : List Tok} {s : St} (h : s.fe ≠ 0) : ∀ l, kindL T s l = 0
 | [] => rfl
 | (x, k) :: r => by simp [kindL, isB_failed h, kindL_failed h r]
theorem kindS_failed {T : List Tok} {s : St} (h : s.fe ≠ 0) (lev : Nat) : kindS T lev s = 0 := kindL_failed h _
theorem chainF_failed {T : List Tok} {s : St} (h : s.fe ≠ 0) (n : Nat) (hn : 2 ≤ n) : chainF T n s = some (.zero, s) := by
 obtain ⟨n, rfl⟩ : ∃ m, n = m + 2 := ⟨n - 2, by omega⟩
 have hb : (s.fe == 0) = false := by simpa using h
 simp [chainF, firstF, h, chainL, hb]
theorem unaryF_failed {T : List Tok} {s : St} (h : s.fe ≠ 0) (n : Nat) (hn : 3 ≤ n) : unaryF T n s = some (.zero, s) := by
 obtain ⟨n, rfl⟩ : ∃ m, n = m + 1 := ⟨n - 1, by omega⟩
 simp [unaryF, isB_failed h, chainF_failed h n (by omega)]
theorem rowL_failed {T : List Tok} {s : St} (h : s.fe ≠ 0) (n : Nat) (hn : 1 ≤ n) (lev : Nat) (e : Ex) : rowL T n lev e s = some (e, s) := by
 obtain ⟨n, rfl⟩ : ∃ m, n = m + 1 := ⟨n - 1, by omega⟩
 simp [rowL, kindS_failed h]
theorem rowF_failed {T : List Tok} {s : St} (h : s.fe ≠ 0) : ∀ (n lev : Nat), lev ≤ 5 → 9 ≤ n + lev → rowF T n lev s = some (.zero, s)
 | 0, lev, h5, hn => by omega
 | n + 1, lev, h5, hn => by
  by_cases hl : lev = 5
  ·simp [rowF, hl, unaryF_failed h n (by omega)]
  ·simp [rowF, hl, rowF_failed h n (lev + 1) (by omega) (by omega), rowL_failed h n (by omega)]
theorem isB_kind {T : List Tok} {s : St} {k : Int} {x : Bs} (h : isB T s k x = true) : s.fe = 0 ∧ (tokAt T s.at_).kind = k ∧ (tokAt T s.at_).text = x := by
 simpa [isB] using h
def deadE (T : List Tok) (s : St) : Ex := .mk { kind := 4, pos := (tokAt T s.at_).pos } []
theorem nameR_failed {T : List Tok} {s : St} (h : s.fe ≠ 0) : nameR T s = ([], s) := by
 have hb : (s.fe == 0) = false := by simpa using h
 simp [nameR, hb, failS_failed h]
theorem firstR_failed {T : List Tok} {s : St} (h : s.fe ≠ 0) (n : Nat) (hn : 1 ≤ n) : firstR T n s = some (deadE T s, s) := by
 obtain ⟨n, rfl⟩ : ∃ m, n = m + 1 := ⟨n - 1, by omega⟩
 have hb : (s.fe == 0) = false := by simpa using h
 simp [firstR, hb, isR_failed h, nameR_failed h, deadE]
theorem behindR_failed {T : List Tok} {s : St} (h : s.fe ≠ 0) (n : Nat) (hn : 1 ≤ n) (e : Ex) : behindR T n e s = some (e, s) := by
 obtain ⟨n, rfl⟩ : ∃ m, n = m + 1 := ⟨n - 1, by omega⟩
 simp [behindR, isR_failed h]
theorem unaryR_failed {T : List Tok} {s : St} (h : s.fe ≠ 0) (n : Nat) (hn : 2 ≤ n) : unaryR T n s = some (deadE T s, s) := by
 obtain ⟨n, rfl⟩ : ∃ m, n = m + 1 := ⟨n - 1, by omega⟩
 simp [unaryR, isR_failed h, firstR_failed h n (by omega), behindR_failed h n (by omega)]
theorem exprRL_failed {T : List Tok} {s : St} (h : s.fe ≠ 0) (n : Nat) (hn : 1 ≤ n) (lev : Nat) (e : Ex) : exprRL T n lev e s = some (e, s) := by
 obtain ⟨n, rfl⟩ : ∃ m, n = m + 1 := ⟨n - 1, by omega⟩
 have hb : (s.fe == 0) = false := by simpa using h
 simp [exprRL, hb]
theorem exprR_failed {T : List Tok} {s : St} (h : s.fe ≠ 0) : ∀ (n lev : Nat), lev ≤ 5 → 9 ≤ n + lev → exprR T n lev s = some (deadE T s, s)
 | 0, lev, h5, hn => by omega
 | n + 1, lev, h5, hn => by
  by_cases hl : lev = 5
  ·simp [exprR, hl, unaryR_failed h n (by omega)]
  ·simp [exprR, hl, exprR_failed h n (lev + 1) (by omega) (by omega), exprRL_failed h n (by omega)]
theorem levL_zero {x : Bs} : ∀ l : List (Bs × Int), (∀ p ∈ l, p.2 ≠ 0) → ∀ T s, s.fe = 0 → (tokAt T s.at_).kind = 4 → kindL T s l = levL (tokAt T s.at_).text l
 | [], _, _, _, _, _ => rfl
 | (y, k) :: r, h, T, s, hf, hk => by
  have ih := levL_zero (x := x) r (fun p hp => h p (by simp [hp])) T s hf hk
  have hc : isB T s 4 y = (y == (tokAt T s.at_).text) := by
   simp only [isB, hf, hk, beq_self_eq_true, Bool.true_and]
   exact BEq.comm
  simp [kindL, levL, ih, hc]
theorem kindL_other {T : List Tok} {s : St} (hk : (tokAt T s.at_).kind ≠ 4) : ∀ l, kindL T s l = 0
 | [] => rfl
 | (y, k) :: r => by
  have hc : isB T s 4 y = false := by simp [isB, hk]
  simp [kindL, hc, kindL_other hk r]
theorem kindS_levR {T : List Tok} {s : St} (hf : s.fe = 0) {lev : Nat} (hl : lev < 5) : kindS T lev s = levR lev (tokAt T s.at_) := by
 by_cases hk : (tokAt T s.at_).kind = 4
 ·have : ((tokAt T s.at_).kind != 4) = false := by simp [hk]
  simp only [kindS, levR, this, cond_false]
  refine levL_zero (x := []) _ ?_ T s hf hk
  have : lev = 0 ∨ lev = 1 ∨ lev = 2 ∨ lev = 3 ∨ lev = 4 := by omega
  rcases this with rfl | rfl | rfl | rfl | rfl <;> simp [lvls]
 ·have : ((tokAt T s.at_).kind != 4) = true := by simp [hk]
  simp [kindS, levR, this, kindL_other hk]
end Go.Proofs.YtghmbpmaafnodaaGreatDoor

namespace Go.Proofs.YtghmbpmaafnodaaGreatDoor
open Go.Ev
def SameS (s s' : St) : Prop := (s.fe = 0 ∧ s' = s) ∨ (s.fe ≠ 0 ∧ s'.fe = s.fe ∧ s'.fa = s.fa)
theorem SameS.refl (s : St) : SameS s s := by
 by_cases h : s.fe = 0
 ·exact .inl ⟨h, rfl⟩
 ·exact .inr ⟨h, rfl, rfl⟩
theorem SameS.out {s s' : St} (h : SameS s s') : SameS (outS s) (outS s') := by
 rcases h with ⟨h, rfl⟩ | ⟨h, h1, h2⟩
 ·exact .inl ⟨h, rfl⟩
 ·exact .inr ⟨h, h1, h2⟩
theorem failS_fe {T : List Tok} {s : St} (h : s.fe = 0) (e : Int) : (failS T e s).fe = e ∧ (failS T e s).fa = (tokAt T s.at_).pos := by simp [failS, h]
theorem wants_same {T : List Tok} {s s' : St} (h : SameS s s') {x : Bs} (hx : kw x = 4) : SameS (wantsS T x s).2 (takeR T x s') := by
 rcases h with ⟨h, rfl⟩ | ⟨h, h1, h2⟩
 ·cases hb : isB T s' 4 x with
  | true => simp only [wantsS, takeR, isR, hx, hb, cond_true]; exact .refl _
  | false => simp only [wantsS, takeR, isR, hx, hb, cond_false]; exact .refl _
 ·have h' : s'.fe ≠ 0 := by rw [h1]; exact h
  simp only [wantsS, takeR, isB_failed h, isR_failed h', cond_false, failS_failed h, failS_failed h']
  exact .inr ⟨h, h1, h2⟩
theorem closes_same {T : List Tok} {s s' : St} (h : SameS s s') {x : Bs} (hx : kw x = 4) : SameS (closesS T x s).2 (closesR T x s') := by
 have h1 := wants_same (T := T) h.out hx
 have h2 : SameS (takeR T x (outS s')) (closesR T x s') := by
  by_cases hf : s'.fe = 0
  ·have hb : isR T (outS s') x = isR T s' x := rfl
   cases hi : isR T s' x with
   | true => simp only [closesR, takeR, hb, hi, cond_true]; exact .inl ⟨hf, rfl⟩
   | false =>
    simp only [closesR, takeR, hb, hi, cond_false]
    have ho : (outS s').fe = 0 := hf
    refine .inr ⟨by rw [(failS_fe ho 2).1]; decide, ?_, ?_⟩
    ·rw [(failS_fe ho 2).1]; exact (failS_fe hf 2).1
    ·rw [(failS_fe ho 2).2]; exact (failS_fe hf 2).2
  ·have ho : (outS s').fe ≠ 0 := hf
   simp only [closesR, takeR, isR_failed hf, isR_failed ho, cond_false, failS_failed hf, failS_failed ho]
   exact .refl _
 rcases h1 with ⟨a, b⟩ | ⟨a, b, c⟩
 ·rcases h2 with ⟨d, e⟩ | ⟨d, e, f⟩
  ·exact .inl ⟨a, by rw [e, b]; rfl⟩
  ·exact absurd (by rw [b]; exact a) d
 ·rcases h2 with ⟨d, e⟩ | ⟨d, e, f⟩
  ·exact absurd (b.symm.trans d) a
  ·exact .inr ⟨a, e.trans b, f.trans c⟩
theorem opens_same {T : List Tok} {s : St} (h : s.fe = 0) {x : Bs} (hx : kw x = 4) :
  ((opensS T x s).1 = true ∧ isB T s 4 x = true ∧ (opensS T x s).2 = inS (goS s) ∧ opensR T x s = inS (goS s)) ∨
  ((opensS T x s).1 = false ∧ (opensS T x s).2.fe ≠ 0 ∧ SameS (opensS T x s).2 (opensR T x s)) := by
 cases hb : isB T s 4 x with
 | true =>
  by_cases ho : 50 ≤ s.opn
  ·refine .inr ?_
   simp only [opensS, opensR, isR, hx, hb, cond_true, Bool.true_and, decide_eq_true ho, if_pos ho]
   exact ⟨trivial, by rw [(failS_fe h 4).1]; decide, .refl _⟩
  ·refine .inl ?_
   simp only [opensS, opensR, takeR, isR, hx, hb, cond_true, Bool.true_and, decide_eq_false ho, if_neg ho, cond_false]
   exact ⟨trivial, trivial, rfl, trivial⟩
 | false =>
  refine .inr ?_
  simp only [opensS, opensR, takeR, isR, hx, hb, cond_false, Bool.false_and]
  exact ⟨trivial, by rw [(failS_fe h 2).1]; decide, .inr ⟨by rw [(failS_fe h 2).1]; decide, rfl, rfl⟩⟩
end Go.Proofs.YtghmbpmaafnodaaGreatDoor

namespace Go.Proofs.YtghmbpmaafnodaaGreatDoor
open Go.Ev
theorem Same.of {α : Type} {a b : α} {s s' : St} (h : SameS s s') (hab : s.fe = 0 → b = a) : Same (a, s) (b, s') := by
 rcases h with ⟨h, rfl⟩ | ⟨h, h1, h2⟩
 ·exact .inl ⟨h, by rw [hab h]⟩
 ·exact .inr ⟨h, h1, h2⟩
theorem Same.st {α : Type} {p q : α × St} (h : Same p q) : SameS p.2 q.2 := by
 rcases h with ⟨h, rfl⟩ | ⟨h, h1, h2⟩
 ·exact .inl ⟨h, rfl⟩
 ·exact .inr ⟨h, h1, h2⟩
theorem wantN_same {T : List Tok} {x : Bs} (hx : kw x = 4) : ∀ (n : Nat) {s s' : St}, SameS s s' → SameS (wantN T x n s) (takeN T x n s')
 | 0, _, _, h => h
 | n + 1, _, _, h => wantN_same hx n (wants_same h hx)
theorem takeN_failed {T : List Tok} {x : Bs} : ∀ (n : Nat) {s : St}, s.fe ≠ 0 → takeN T x n s = s
 | 0, _, _ => rfl
 | n + 1, s, h => by simp [takeN, takeR, isR_failed h, failS_failed h, takeN_failed n h]
theorem wantN_failed {T : List Tok} {x : Bs} : ∀ (n : Nat) {s : St}, s.fe ≠ 0 → wantN T x n s = s
 | 0, _, _ => rfl
 | n + 1, s, h => by simp [wantN, wantsS, isB_failed h, failS_failed h, wantN_failed n h]
theorem ofL_same {T : List Tok} : ∀ (n : Nat) (d : Int) (s : St), ofRL T n d s = ofL T n d s
 | 0, d, s => rfl
 | n + 1, d, s => by
  have : isR T s [91] = isB T s 4 [91] := rfl
  simp [ofRL, ofL, this, ofL_same n]
theorem ofE_same {T : List Tok} (d : Int) (s : St) : Same (ofE T d s) (ofRE T d s) := by
 have e1 : isR T s [105, 110, 116] = isB T s 3 [105, 110, 116] := rfl
 have e2 : isR T s [98, 111, 111, 108] = isB T s 3 [98, 111, 111, 108] := rfl
 by_cases hf : s.fe = 0
 ·cases h1 : isB T s 3 [105, 110, 116] with
  | true =>
   simp only [ofE, ofRE, e1, e2, h1, Bool.not_true, Bool.false_and, Bool.and_false, cond_false, Bool.true_or, cond_true]
   exact Same.of (wantN_same rfl _ (.refl _)) fun _ => rfl
  | false =>
   cases h2 : isB T s 3 [98, 111, 111, 108] with
   | true =>
    simp only [ofE, ofRE, e1, e2, h1, h2, Bool.not_true, Bool.and_false, cond_false, Bool.false_or, cond_true]
    exact Same.of (wantN_same rfl _ (.refl _)) fun _ => rfl
   | false =>
    by_cases hk : (tokAt T s.at_).kind = 1
    ·simp only [ofE, ofRE, e1, e2, h1, h2, nameR, hf, hk, Bool.not_false, Bool.and_self, Bool.and_true, bne_self_eq_false, cond_false, Bool.or_self, beq_self_eq_true, cond_true]
     exact Same.of (wantN_same rfl _ (.refl _)) fun _ => rfl
    ·have hb : ((tokAt T s.at_).kind == 1) = false := by simpa using hk
     have hb' : ((tokAt T s.at_).kind != 1) = true := by simpa using hk
     have hf2 : (failS T 2 s).fe ≠ 0 := by rw [(failS_fe hf 2).1]; decide
     simp only [ofE, ofRE, e1, e2, h1, h2, nameR, hf, hb, hb', Bool.not_false, Bool.and_self, Bool.and_false, cond_true, Bool.or_self, cond_false, takeN_failed _ hf2]
     exact Same.of (.refl _) fun h => absurd h hf2
 ·have hb : (s.fe == 0) = false := by simpa using hf
  have hg : (goS s).fe ≠ 0 := hf
  simp only [ofE, ofRE, e1, e2, isB_failed hf, nameR, hb, Bool.false_and, Bool.or_self, cond_false, failS_failed hf, takeN_failed _ hf, wantN_failed _ hg, Bool.not_false, Bool.and_self, Bool.and_true]
  cases (tokAt T s.at_).kind != 1 with
  | true => exact .inr ⟨hf, rfl, rfl⟩
  | false => exact .inr ⟨hf, rfl, rfl⟩
theorem of_same (T : List Tok) (s : St) : Same (ofS T s) (ofR T s) := by
 simp only [ofS, ofR, ofL_same]
 cases ofL T 3 0 s with
 | inr s' => exact Same.of (.refl _) fun _ => rfl
 | inl p => exact ofE_same p.1 p.2
end Go.Proofs.YtghmbpmaafnodaaGreatDoor

namespace Go.Proofs.YtghmbpmaafnodaaGreatDoor
open Go.Ev
theorem left_failed {T : List Tok} {s : St} (h : s.fe ≠ 0) : left T s = 0 := by simp [left, h]
theorem left_in {T : List Tok} (s : St) : left T (inS s) = left T s := rfl
theorem left_out {T : List Tok} (s : St) : left T (outS s) = left T s := rfl
theorem left_fail {T : List Tok} (s : St) (e : Int) : left T (failS T e s) ≤ left T s := by
 by_cases h : s.fe = 0
 ·unfold left
  simp only [failS, h, if_true, true_and]
  split
  ·rename_i hh
   rw [if_pos hh.2]
   omega
  ·omega
 ·rw [failS_failed h]; omega
theorem tok_range {T : List Tok} {a : Int} (h : (tokAt T a).kind ≠ 0) : 0 ≤ a ∧ a < T.length := by
 unfold tokAt at h
 split at h
 ·exact absurd rfl h
 ·omega
theorem left_go {T : List Tok} (hT : T.length ≤ 40000000) {s : St} (hf : s.fe = 0) (hk : (tokAt T s.at_).kind ≠ 0) : left T (goS s) + 1 ≤ left T s := by
 obtain ⟨h0, h1⟩ := tok_range hk
 have hw : w64 (s.at_ + 1) = s.at_ + 1 := wrap_i64 (by omega) (by omega)
 have e1 : left T s = T.length - s.at_.toNat := by
  unfold left; rw [if_pos ⟨hf, h0, h1⟩]
 have e2 : left T (goS s) ≤ T.length - (s.at_ + 1).toNat := by
  unfold left
  simp only [goS, hw]
  split <;> omega
 omega
theorem left_is {T : List Tok} (hT : T.length ≤ 40000000) {s : St} {k : Int} {x : Bs} (hk0 : k ≠ 0) (h : isB T s k x = true) : left T (goS s) + 1 ≤ left T s := by
 obtain ⟨h1, h2, _⟩ := isB_kind h
 exact left_go hT h1 (by rw [h2]; exact hk0)
theorem left_wants {T : List Tok} (hT : T.length ≤ 40000000) (s : St) (x : Bs) : left T (wantsS T x s).2 ≤ left T s := by
 cases h : isB T s 4 x with
 | true => simp only [wantsS, h, cond_true]; have := left_is hT (by decide) h; omega
 | false => simp only [wantsS, h, cond_false]; exact left_fail s 2
theorem left_closes {T : List Tok} (hT : T.length ≤ 40000000) (s : St) (x : Bs) : left T (closesS T x s).2 ≤ left T s := left_wants hT (outS s) x
theorem left_wantN {T : List Tok} (hT : T.length ≤ 40000000) (x : Bs) : ∀ (n : Nat) (s : St), left T (wantN T x n s) ≤ left T s
 | 0, s => Nat.le_refl _
 | n + 1, s => Nat.le_trans (left_wantN hT x n _) (left_wants hT s x)
theorem left_ofL {T : List Tok} (hT : T.length ≤ 40000000) : ∀ (n : Nat) (d : Int) (s : St), (∀ d' s', ofL T n d s = .inl (d', s') → left T s' ≤ left T s) ∧ (∀ s', ofL T n d s = .inr s' → left T s' ≤ left T s)
 | 0, d, s => by
  cases h : isB T s 4 [91] with
  | true => simp only [ofL, h, cond_true]; exact ⟨by simp, by rintro _ ⟨⟩; exact left_fail s 4⟩
  | false => simp only [ofL, h, cond_false]; exact ⟨by rintro _ _ ⟨⟩; exact Nat.le_refl _, by simp⟩
 | n + 1, d, s => by
  cases h : isB T s 4 [91] with
  | true =>
   simp only [ofL, h, cond_true]
   obtain ⟨i1, i2⟩ := left_ofL hT n (d + 1) (goS s)
   have hg := left_is hT (by decide) h
   exact ⟨fun d' s' h' => by have := i1 d' s' h'; omega, fun s' h' => by have := i2 s' h'; omega⟩
  | false => simp only [ofL, h, cond_false]; exact ⟨by rintro _ _ ⟨⟩; exact Nat.le_refl _, by simp⟩
theorem left_ofE {T : List Tok} (hT : T.length ≤ 40000000) (d : Int) (s : St) : left T (ofE T d s).2 ≤ left T s := by
 by_cases hf : s.fe = 0
 ·cases hc : ((tokAt T s.at_).kind != 1 && (!isB T s 3 [105, 110, 116] && !isB T s 3 [98, 111, 111, 108])) with
  | true => simp only [ofE, hc, cond_true]; exact left_fail s 2
  | false =>
   simp only [ofE, hc, cond_false]
   have hk : (tokAt T s.at_).kind ≠ 0 := by
    intro hk
    have h1 : ∀ x, isB T s 3 x = false := fun x => by simp [isB, hk]
    simp [hk, h1] at hc
   have := left_wantN hT [93] d.toNat (goS s)
   have := left_go hT hf hk
   omega
 ·have hg : (goS s).fe ≠ 0 := hf
  simp only [ofE]
  cases ((tokAt T s.at_).kind != 1 && (!isB T s 3 [105, 110, 116] && !isB T s 3 [98, 111, 111, 108])) with
  | true => exact left_fail s 2
  | false => simp only [cond_false, wantN_failed _ hg, left_failed hg]; omega
theorem left_of {T : List Tok} (hT : T.length ≤ 40000000) (s : St) : left T (ofS T s).2 ≤ left T s := by
 obtain ⟨i1, i2⟩ := left_ofL hT 3 0 s
 simp only [ofS]
 cases h : ofL T 3 0 s with
 | inr s' => exact i2 s' h
 | inl p =>
  have := i1 p.1 p.2 h
  have := left_ofE hT p.1 p.2
  exact Nat.le_trans (left_ofE hT p.1 p.2) (i1 p.1 p.2 h)
def Both {α : Type} (T : List Tok) (s : St) (a b : Option (α × St)) : Prop := ∃ p q, a = some p ∧ b = some q ∧ Same p q ∧ left T p.2 ≤ left T s
def RowB (T : List Tok) (k : Nat) : Prop := ∀ (s : St), left T s ≤ k → ∀ (lev n n' : Nat), lev ≤ 5 → 30 * k + 20 ≤ n + lev → 30 * k + 20 ≤ n' + lev → Both T s (rowF T n lev s) (exprR T n' lev s)
theorem row_failed {T : List Tok} {s : St} (h : s.fe ≠ 0) (lev n n' : Nat) (hl : lev ≤ 5) (hn : 9 ≤ n + lev) (hn' : 9 ≤ n' + lev) : Both T s (rowF T n lev s) (exprR T n' lev s) :=
 ⟨_, _, rowF_failed h n lev hl hn, exprR_failed h n' lev hl hn', .inr ⟨h, rfl, rfl⟩, Nat.le_refl _⟩
end Go.Proofs.YtghmbpmaafnodaaGreatDoor

namespace Go.Proofs.YtghmbpmaafnodaaGreatDoor
open Go.Ev
theorem row_open {T : List Tok} (hT : T.length ≤ 40000000) {k : Nat} (ih : ∀ j, j < k → RowB T j) {s : St} (hf : s.fe = 0) (hs : left T s ≤ k) {x : Bs} (hx : kw x = 4) (lev n n' : Nat) (hl : lev ≤ 5) (hn : 30 * k + 9 ≤ n) (hn' : 30 * k + 9 ≤ n') :
  ((opensS T x s).1 = true ∧ left T (opensS T x s).2 + 1 ≤ left T s ∧ Both T (opensS T x s).2 (rowF T n lev (opensS T x s).2) (exprR T n' lev (opensR T x s))) ∨
  ((opensS T x s).1 = false ∧ (opensS T x s).2.fe ≠ 0 ∧ (opensR T x s).fe = (opensS T x s).2.fe ∧ (opensR T x s).fa = (opensS T x s).2.fa ∧ exprR T n' lev (opensR T x s) = some (deadE T (opensR T x s), opensR T x s)) := by
 rcases opens_same (T := T) hf hx with ⟨h1, h2, h3, h4⟩ | ⟨h1, h2, h3⟩
 ·refine .inl ⟨h1, ?_, ?_⟩
  ·rw [h3, left_in]; exact left_is hT (by decide) h2
  ·have hg := left_is hT (by decide) h2
   rw [h3, h4]
   exact ih (k - 1) (by omega) _ (by rw [left_in]; omega) lev n n' hl (by omega) (by omega)
 ·rcases h3 with ⟨h3, _⟩ | ⟨_, h4, h5⟩
  ·exact absurd h3 h2
  ·exact .inr ⟨h1, h2, h4, h5, exprR_failed (by rw [h4]; exact h2) n' lev hl (by omega)⟩
theorem single_both {T : List Tok} (hT : T.length ≤ 40000000) {k : Nat} (ih : ∀ j, j < k → RowB T j) {s : St} (hf : s.fe = 0) (hs : left T s ≤ k) (n n' : Nat) (hn : 30 * k + 9 ≤ n) (hn' : 30 * k + 9 ≤ n') : Both T s (singleF T (n + 1) [40] [41] s) (innerR T (n' + 1) s) := by
 rcases row_open hT ih hf hs (x := [40]) rfl 0 n n' (by omega) hn hn' with ⟨h1, h2, p, q, h3, h4, h5, h6⟩ | ⟨h1, h2, h3, h4, h5⟩
 ·refine ⟨(p.1, (closesS T [41] p.2).2), (q.1, closesR T [41] q.2), ?_, ?_, ?_, ?_⟩
  ·simp [singleF, h1, h3]
  ·simp [innerR, h4]
  ·rcases h5 with ⟨h, rfl⟩ | ⟨h, ha, hb⟩
   ·exact Same.of (closes_same (.inl ⟨h, rfl⟩) rfl) fun _ => rfl
   ·refine Same.of (closes_same (.inr ⟨h, ha, hb⟩) rfl) fun hc => absurd hc ?_
    have : (outS p.2).fe ≠ 0 := h
    simp only [closesS, wantsS, isB_failed this, cond_false, failS_failed this]
    exact h
  ·have := left_closes hT p.2 [41]
   simp only
   omega
 ·refine ⟨(.zero, (opensS T [40] s).2), _, by simp [singleF, h1], by simp only [innerR, h5]; rfl, ?_, ?_⟩
  ·have hR : (opensR T [40] s).fe ≠ 0 := by rw [h3]; exact h2
   have hc := closes_same (T := T) (x := [41]) (SameS.refl (opensR T [40] s)) rfl
   refine .inr ⟨h2, ?_, ?_⟩ <;> simp [closesR, takeR, isR_failed hR, failS_failed hR, outS, h3, h4]
  ·simp only [left_failed h2]; omega
end Go.Proofs.YtghmbpmaafnodaaGreatDoor

namespace Go.Proofs.YtghmbpmaafnodaaGreatDoor
open Go.Ev
theorem Both.le {α : Type} {T : List Tok} {s s0 : St} {a b : Option (α × St)} (h : Both T s a b) (hl : left T s ≤ left T s0) : Both T s0 a b := by
 obtain ⟨p, q, h1, h2, h3, h4⟩ := h
 exact ⟨p, q, h1, h2, h3, Nat.le_trans h4 hl⟩
theorem closes_failed {T : List Tok} {s : St} (h : s.fe ≠ 0) (x : Bs) : (closesS T x s).2.fe ≠ 0 := by
 have ho : (outS s).fe ≠ 0 := h
 simp only [closesS, wantsS, isB_failed ho, cond_false, failS_failed ho]
 exact h
theorem list_both {T : List Tok} (hT : T.length ≤ 40000000) {k : Nat} (ih : ∀ j, j < k → RowB T j) : ∀ (c n n' : Nat) (s s' : St) (l l' : List Ex), left T s ≤ c → c ≤ k → 30 * c + 10 ≤ n → 30 * c + 10 ≤ n' → SameS s s' → (s.fe = 0 → l' = l) → Both T s (listL T n l s) (argsRL T n' l' s')
 | c, 0, n', s, s', l, l', h1, h2, h3, h3', h4, h5 => by omega
 | c, n + 1, 0, s, s', l, l', h1, h2, h3, h3', h4, h5 => by omega
 | c, n + 1, n' + 1, s, s', l, l', h1, h2, h3, h3', h4, h5 => by
  by_cases hf : s.fe = 0
  ·obtain ⟨_, rfl⟩ : s.fe = 0 ∧ s' = s := h4.resolve_right (by rintro ⟨h, _⟩; exact h hf)
   cases h5 hf
   have e1 : isR T s' [44] = isB T s' 4 [44] := rfl
   cases hb : isB T s' 4 [44] with
   | true =>
    have hg := left_is hT (by decide) hb
    obtain ⟨p, q, g1, g2, g3, g4⟩ := ih (c - 1) (by omega) (goS s') (by omega) 0 n n' (by omega) (by omega) (by omega)
    have := list_both hT ih (c - 1) n n' p.2 q.2 (l ++ [p.1]) (l ++ [q.1]) (by omega) (by omega) (by omega) (by omega) g3.st (fun hp => by
     rcases g3 with ⟨_, rfl⟩ | ⟨h, _⟩
     ·rfl
     ·exact absurd hp h)
    have := this.le (s0 := s') (by omega)
    simpa [listL, takesS, hb, argsRL, e1, g1, g2] using this
   | false =>
    refine ⟨(l, (closesS T [41] s').2), (l, closesR T [41] s'), by simp [listL, takesS, hb], by simp [argsRL, e1, hb], Same.of (closes_same (.refl _) rfl) fun _ => rfl, left_closes hT s' [41]⟩
  ·have hf' : s'.fe ≠ 0 := by
    rcases h4 with ⟨h, _⟩ | ⟨_, h, _⟩
    ·exact absurd h hf
    ·rw [h]; exact hf
   refine ⟨(l, (closesS T [41] s).2), (l', closesR T [41] s'), by simp [listL, takesS, isB_failed hf], by simp [argsRL, isR_failed hf'], Same.of (closes_same h4 rfl) fun h => absurd h (closes_failed hf _), left_closes hT s [41]⟩
end Go.Proofs.YtghmbpmaafnodaaGreatDoor

namespace Go.Proofs.YtghmbpmaafnodaaGreatDoor
open Go.Ev
theorem args_both {T : List Tok} (hT : T.length ≤ 40000000) {k : Nat} (ih : ∀ j, j < k → RowB T j) {s : St} (hf : s.fe = 0) (hs : left T s ≤ k) (n n' : Nat) (hn : 30 * k + 10 ≤ n) (hn' : 30 * k + 10 ≤ n') : Both T s (listF T (n + 1) s) (argsR T (n' + 1) s) := by
 rcases opens_same (T := T) hf (x := [40]) rfl with ⟨h1, h2, h3, h4⟩ | ⟨h1, h2, h3⟩
 ·have hg := left_is hT (by decide) h2
  have hl : left T (inS (goS s)) = left T (goS s) := rfl
  have hfo : (inS (goS s)).fe = 0 := hf
  have e1 : isR T (inS (goS s)) [41] = isB T (inS (goS s)) 4 [41] := rfl
  cases hb : isB T (inS (goS s)) 4 [41] with
  | true =>
   refine ⟨([], (closesS T [41] (inS (goS s))).2), ([], closesR T [41] (inS (goS s))), by simp [listF, h1, h3, hb], by simp [argsR, h4, e1, hb], Same.of (closes_same (.refl _) rfl) fun _ => rfl, ?_⟩
   have := left_closes hT (inS (goS s)) [41]
   simp only
   omega
  | false =>
   obtain ⟨p, q, g1, g2, g3, g4⟩ := ih (k - 1) (by omega) (inS (goS s)) (by omega) 0 n n' (by omega) (by omega) (by omega)
   have := list_both hT ih k n n' p.2 q.2 [p.1] [q.1] (by omega) (by omega) (by omega) (by omega) g3.st (fun hp => by
    rcases g3 with ⟨_, rfl⟩ | ⟨h, _⟩
    ·rfl
    ·exact absurd hp h)
   have := this.le (s0 := s) (by omega)
   simpa [listF, h1, h3, hb, argsR, h4, e1, g1, g2] using this
 ·have h3' := h3.resolve_left (by rintro ⟨h, _⟩; exact h2 h)
  have hR : (opensR T [40] s).fe ≠ 0 := by rw [h3'.2.1]; exact h2
  have hx := exprR_failed (T := T) hR n' 0 (by omega) (by omega)
  have hL : ∀ l, argsRL T n' l (opensR T [40] s) = some (l, closesR T [41] (opensR T [40] s)) := fun l => by
   obtain ⟨n', rfl⟩ : ∃ m, n' = m + 1 := ⟨n' - 1, by omega⟩
   simp [argsRL, isR_failed hR]
  refine ⟨([], (opensS T [40] s).2), _, by simp [listF, h1], by simp only [argsR, isR_failed hR, cond_false, hx, Option.bind_some, hL]; rfl, ?_, ?_⟩
  ·refine .inr ⟨h2, ?_, ?_⟩ <;> simp [closesR, takeR, isR_failed hR, failS_failed hR, outS, h3'.2.1, h3'.2.2]
  ·simp only [left_failed h2]; omega
end Go.Proofs.YtghmbpmaafnodaaGreatDoor

namespace Go.Proofs.YtghmbpmaafnodaaGreatDoor
open Go.Ev
theorem rowL_both {T : List Tok} (hT : T.length ≤ 40000000) {k : Nat} (ih : ∀ j, j < k → RowB T j) {lev : Nat} (hlev : lev < 5) : ∀ (c n n' : Nat) (s s' : St) (e e' : Ex), left T s ≤ c → c ≤ k → 30 * c + 10 ≤ n → 30 * c + 10 ≤ n' → SameS s s' → (s.fe = 0 → e' = e) → Both T s (rowL T n lev e s) (exprRL T n' lev e' s')
 | c, 0, n', s, s', e, e', h1, h2, h3, h3', h4, h5 => by omega
 | c, n + 1, 0, s, s', e, e', h1, h2, h3, h3', h4, h5 => by omega
 | c, n + 1, n' + 1, s, s', e, e', h1, h2, h3, h3', h4, h5 => by
  by_cases hf : s.fe = 0
  ·obtain ⟨_, rfl⟩ : s.fe = 0 ∧ s' = s := h4.resolve_right (by rintro ⟨h, _⟩; exact h hf)
   cases h5 hf
   have hk := kindS_levR (T := T) hf hlev
   have hb : (s'.fe == 0) = true := by simpa using hf
   by_cases hz : kindS T lev s' = 0
   ·have hz' : (levR lev (tokAt T s'.at_) != 0) = false := by rw [← hk]; simpa using hz
    exact ⟨(e, s'), (e, s'), by simp [rowL, hz], by simp [exprRL, hb, hz'], .inl ⟨hf, rfl⟩, Nat.le_refl _⟩
   ·have hz' : (levR lev (tokAt T s'.at_) != 0) = true := by rw [← hk]; simpa using hz
    have ht : (tokAt T s'.at_).kind ≠ 0 := by
     intro h0
     exact hz (kindL_other (by rw [h0]; decide) _)
    have hg := left_go hT hf ht
    obtain ⟨p, q, g1, g2, g3, g4⟩ := ih (c - 1) (by omega) (goS s') (by omega) (lev + 1) n n' (by omega) (by omega) (by omega)
    have := rowL_both hT ih hlev (c - 1) n n' p.2 q.2 (.mk { kind := kindS T lev s', pos := (tokAt T s'.at_).pos } [e, p.1]) (.mk { kind := levR lev (tokAt T s'.at_), pos := (tokAt T s'.at_).pos } [e, q.1]) (by omega) (by omega) (by omega) (by omega) g3.st (fun hp => by
     rcases g3 with ⟨_, rfl⟩ | ⟨h, _⟩
     ·rw [hk]
     ·exact absurd hp h)
    have := this.le (s0 := s') (by omega)
    simpa [rowL, hz, exprRL, hb, hz', g1, g2] using this
  ·have hf' : s'.fe ≠ 0 := by
    rcases h4 with ⟨h, _⟩ | ⟨_, h, _⟩
    ·exact absurd h hf
    ·rw [h]; exact hf
   exact ⟨(e, s), (e', s'), rowL_failed hf (n + 1) (by omega) lev e, exprRL_failed hf' (n' + 1) (by omega) lev e', Same.of h4 fun h => absurd h hf, Nat.le_refl _⟩
end Go.Proofs.YtghmbpmaafnodaaGreatDoor


/-
  The walks of four laws over num: NumBack, NumDivides, NumOrders, NumRounds return true.
-/
import Derived.Test.YtppndjnklhcbkaaDoorKnown
namespace Go.Proofs.YtppndjnklhcbkaaDoor
open Go.RowKit

theorem cons_size (c : UInt8) (l : List UInt8) : (⟨#[c]⟩ ++ ⟨l.toArray⟩ : ByteArray) = ⟨(c :: l).toArray⟩ := by
  apply ByteArray.ext; simp
theorem snoc_size (c : UInt8) (l : List UInt8) : (⟨l.toArray⟩ ++ ⟨#[c]⟩ : ByteArray) = ⟨(l ++ [c]).toArray⟩ := by
  apply ByteArray.ext; simp

theorem data_toList (l : List UInt8) : ({ data := l.toArray } : ByteArray).data.toList = l := rfl

theorem parse_bad (l : List UInt8) (h : ∀ v, Lib.itoa v ≠ l) : parseB l = false := by
  unfold parseB; rw [parseOk_none l h]; rfl

set_option maxHeartbeats 400000 in
theorem back_law (n : Int) (hn : In64 n) (w : World) (he : Env w) :
    Calls Tryd.prog 4 #[.int .i64 n] w fun e w' => e = .returned (.bool true) ∧ Below w.heap.size w w' := by
  have hl := itoa_len n hn.1 hn.2
  have Hok := Lib.hid (show parseV (Lib.itoa n) = n ∧ parseB (Lib.itoa n) = true by
    unfold parseV parseB; rw [parseOk_itoa n hn.1 hn.2]; exact ⟨rfl, rfl⟩)
  have H0 := Lib.hid (parse_bad _ (itoa_nought n))
  have H1 := Lib.hid (parse_bad _ (itoa_plus n))
  have H2 := Lib.hid (parse_bad _ (itoa_behind n))
  have Hn := Lib.hid hn
  clear hn
  go_enter Tryd.func4, Tryd.ntmps4
  go_wp2_with fail
  refine (text_any _ Hn.out _ he).mono ?_
  rintro e w1 ⟨rfl, hb1⟩
  have he1 := he.on hb1
  generalize hi : Lib.itoa n = l at *
  clear hi
  go_wp2_with fail
  refine (parse_any _ (by show l.toArray.size ≤ _; simp; omega) _ he1).mono ?_
  rintro e w2 ⟨rfl, hb2⟩
  rw [data_toList, Hok.out.1, Hok.out.2]
  have he2 := he1.on hb2
  go_wp2_with fail
  rw [cons_size]
  refine (parse_any _ (by show (48 :: l).toArray.size ≤ _; simp; omega) _ he2).mono ?_
  rintro e w3 ⟨rfl, hb3⟩
  rw [data_toList, H0.out]
  have he3 := he2.on hb3
  go_wp2_with fail
  rw [cons_size]
  refine (parse_any _ (by show (43 :: l).toArray.size ≤ _; simp; omega) _ he3).mono ?_
  rintro e w4 ⟨rfl, hb4⟩
  rw [data_toList, H1.out]
  have he4 := he3.on hb4
  go_wp2_with fail
  rw [snoc_size]
  refine (parse_any _ (by show (l ++ [32]).toArray.size ≤ _; simp; omega) _ he4).mono ?_
  rintro e w5 ⟨rfl, hb5⟩
  rw [data_toList, H2.out]
  have he5 := he4.on hb5
  go_wp2_with fail
  refine (known_any _ he5).mono ?_
  rintro e w6 ⟨rfl, hb6⟩
  go_wp2_with fail
  go_ret
  have s1 := hb1.size
  have s2 := hb2.size
  have s3 := hb3.size
  have s4 := hb4.size
  have s5 := hb5.size
  exact ⟨rfl, hb1.trans ((hb2.mono s1).trans ((hb3.mono (by omega)).trans ((hb4.mono (by omega)).trans ((hb5.mono (by omega)).trans (hb6.mono (by omega))))))⟩


set_option maxHeartbeats 400000 in
theorem orders_lt (a b : Int) (h : a < b) (w : World) (he : Env w) :
    Calls Tryd.prog 6 #[.int .i64 a, .int .i64 b] w fun e w' => e = .returned (.bool true) ∧ Below w.heap.size w w' := by
  have E1 := Lib.hid (show binV 19 a b = 1 by simp [binV, flagI]; try omega)
  have E2 := Lib.hid (show binV 19 b a = 0 by simp [binV, flagI]; try omega)
  have E3 := Lib.hid (show binV 21 a b = 0 by simp [binV, flagI]; try omega)
  have E4 := Lib.hid (show binV 22 a b = 1 by simp [binV, flagI]; try omega)
  have E5 := Lib.hid (show binV 20 a b = 1 by simp [binV, flagI]; try omega)
  clear h
  go_enter Tryd.func6, Tryd.ntmps6
  go_wp2_with fail
  refine (bin_any _ _ _ _).mono ?_
  rintro e w' ⟨rfl, rfl⟩
  rw [E1.out]
  go_wp2_with fail
  refine (bin_any _ _ _ _).mono ?_
  rintro e w' ⟨rfl, rfl⟩
  rw [E2.out]
  go_wp2_with fail
  refine (bin_any _ _ _ _).mono ?_
  rintro e w' ⟨rfl, rfl⟩
  rw [E3.out]
  go_wp2_with fail
  refine (bin_any _ _ _ _).mono ?_
  rintro e w' ⟨rfl, rfl⟩
  rw [E4.out]
  go_wp2_with fail
  refine (bin_any _ _ _ _).mono ?_
  rintro e w' ⟨rfl, rfl⟩
  rw [E5.out]
  go_wp2_with fail
  refine (bin_any _ _ _ _).mono ?_
  rintro e w' ⟨rfl, rfl⟩
  rw [show binV 24 1 0 = 1 by decide +kernel]
  go_wp2_with fail
  refine (un_any _ _ _).mono ?_
  rintro e w' ⟨rfl, rfl⟩
  rw [show unV 13 0 = 1 by decide +kernel]
  go_wp2_with fail
  refine (bin_any _ _ _ _).mono ?_
  rintro e w' ⟨rfl, rfl⟩
  rw [show binV 23 1 1 = 1 by decide +kernel]
  go_wp2_with fail
  refine (known_any _ he).mono ?_
  rintro e w1 ⟨rfl, hb1⟩
  go_wp2_with fail
  go_ret
  exact ⟨rfl, hb1⟩

set_option maxHeartbeats 400000 in
theorem orders_eq (a b : Int) (h : a = b) (w : World) (he : Env w) :
    Calls Tryd.prog 6 #[.int .i64 a, .int .i64 b] w fun e w' => e = .returned (.bool true) ∧ Below w.heap.size w w' := by
  have E1 := Lib.hid (show binV 19 a b = 0 by simp [binV, flagI]; try omega)
  have E2 := Lib.hid (show binV 19 b a = 0 by simp [binV, flagI]; try omega)
  have E3 := Lib.hid (show binV 21 a b = 1 by simp [binV, flagI]; try omega)
  have E4 := Lib.hid (show binV 22 a b = 0 by simp [binV, flagI]; try omega)
  have E5 := Lib.hid (show binV 20 a b = 1 by simp [binV, flagI]; try omega)
  clear h
  go_enter Tryd.func6, Tryd.ntmps6
  go_wp2_with fail
  refine (bin_any _ _ _ _).mono ?_
  rintro e w' ⟨rfl, rfl⟩
  rw [E1.out]
  go_wp2_with fail
  refine (bin_any _ _ _ _).mono ?_
  rintro e w' ⟨rfl, rfl⟩
  rw [E2.out]
  go_wp2_with fail
  refine (bin_any _ _ _ _).mono ?_
  rintro e w' ⟨rfl, rfl⟩
  rw [E3.out]
  go_wp2_with fail
  refine (bin_any _ _ _ _).mono ?_
  rintro e w' ⟨rfl, rfl⟩
  rw [E4.out]
  go_wp2_with fail
  refine (bin_any _ _ _ _).mono ?_
  rintro e w' ⟨rfl, rfl⟩
  rw [E5.out]
  go_wp2_with fail
  refine (bin_any _ _ _ _).mono ?_
  rintro e w' ⟨rfl, rfl⟩
  rw [show binV 24 0 1 = 1 by decide +kernel]
  go_wp2_with fail
  refine (un_any _ _ _).mono ?_
  rintro e w' ⟨rfl, rfl⟩
  rw [show unV 13 0 = 1 by decide +kernel]
  go_wp2_with fail
  refine (bin_any _ _ _ _).mono ?_
  rintro e w' ⟨rfl, rfl⟩
  rw [show binV 23 1 1 = 1 by decide +kernel]
  go_wp2_with fail
  refine (known_any _ he).mono ?_
  rintro e w1 ⟨rfl, hb1⟩
  go_wp2_with fail
  go_ret
  exact ⟨rfl, hb1⟩

set_option maxHeartbeats 400000 in
theorem orders_gt (a b : Int) (h : b < a) (w : World) (he : Env w) :
    Calls Tryd.prog 6 #[.int .i64 a, .int .i64 b] w fun e w' => e = .returned (.bool true) ∧ Below w.heap.size w w' := by
  have E1 := Lib.hid (show binV 19 a b = 0 by simp [binV, flagI]; try omega)
  have E2 := Lib.hid (show binV 19 b a = 1 by simp [binV, flagI]; try omega)
  have E3 := Lib.hid (show binV 21 a b = 0 by simp [binV, flagI]; try omega)
  have E4 := Lib.hid (show binV 22 a b = 1 by simp [binV, flagI]; try omega)
  have E5 := Lib.hid (show binV 20 a b = 0 by simp [binV, flagI]; try omega)
  clear h
  go_enter Tryd.func6, Tryd.ntmps6
  go_wp2_with fail
  refine (bin_any _ _ _ _).mono ?_
  rintro e w' ⟨rfl, rfl⟩
  rw [E1.out]
  go_wp2_with fail
  refine (bin_any _ _ _ _).mono ?_
  rintro e w' ⟨rfl, rfl⟩
  rw [E2.out]
  go_wp2_with fail
  refine (bin_any _ _ _ _).mono ?_
  rintro e w' ⟨rfl, rfl⟩
  rw [E3.out]
  go_wp2_with fail
  refine (bin_any _ _ _ _).mono ?_
  rintro e w' ⟨rfl, rfl⟩
  rw [E4.out]
  go_wp2_with fail
  refine (bin_any _ _ _ _).mono ?_
  rintro e w' ⟨rfl, rfl⟩
  rw [E5.out]
  go_wp2_with fail
  refine (bin_any _ _ _ _).mono ?_
  rintro e w' ⟨rfl, rfl⟩
  rw [show binV 24 0 0 = 0 by decide +kernel]
  go_wp2_with fail
  refine (un_any _ _ _).mono ?_
  rintro e w' ⟨rfl, rfl⟩
  rw [show unV 13 1 = 0 by decide +kernel]
  go_wp2_with fail
  refine (bin_any _ _ _ _).mono ?_
  rintro e w' ⟨rfl, rfl⟩
  rw [show binV 23 0 0 = 0 by decide +kernel]
  go_wp2_with fail
  refine (known_any _ he).mono ?_
  rintro e w1 ⟨rfl, hb1⟩
  go_wp2_with fail
  go_ret
  exact ⟨rfl, hb1⟩

theorem orders_law (a b : Int) (w : World) (he : Env w) :
    Calls Tryd.prog 6 #[.int .i64 a, .int .i64 b] w fun e w' => e = .returned (.bool true) ∧ Below w.heap.size w w' := by
  rcases Int.lt_trichotomy a b with h | h | h
  · exact orders_lt a b h w he
  · exact orders_eq a b h w he
  · exact orders_gt a b h w he


theorem wrap_id (a : Int) (h : In64 a) : wrap64 a = a := IntWalk.wrap64_in a h
theorem round1 (a b : Int) (h : In64 a) : binV 15 (binV 14 a b) b = a := by
  unfold In64 at h; simp [binV]; unfold wrap64; omega
theorem round2 (a : Int) (h : In64 a) : unV 12 (unV 12 a) = a := by
  unfold In64 at h; simp [unV]; unfold wrap64; omega
theorem round3 (a : Int) : binV 16 a (-1) = unV 12 a := by
  simp [binV, unV]
set_option maxHeartbeats 400000 in
theorem rounds_law (a b : Int) (h : In64 a) (w : World) (he : Env w) :
    Calls Tryd.prog 7 #[.int .i64 a, .int .i64 b] w fun e w' => e = .returned (.bool true) ∧ Below w.heap.size w w' := by
  have E1 := Lib.hid (round1 a b h)
  have E2 := Lib.hid (round2 a h)
  have E3 := Lib.hid (round3 a)
  clear h
  go_enter Tryd.func7, Tryd.ntmps7
  go_wp2_with fail
  refine (bin_any _ _ _ _).mono ?_
  rintro e w' ⟨rfl, rfl⟩
  go_wp2_with fail
  refine (bin_any _ _ _ _).mono ?_
  rintro e w' ⟨rfl, rfl⟩
  rw [E1.out]
  go_wp2_with fail
  refine (un_any _ _ _).mono ?_
  rintro e w' ⟨rfl, rfl⟩
  go_wp2_with fail
  refine (un_any _ _ _).mono ?_
  rintro e w' ⟨rfl, rfl⟩
  rw [E2.out]
  go_wp2_with fail
  refine (bin_any _ _ _ _).mono ?_
  rintro e w' ⟨rfl, rfl⟩
  rw [E3.out]
  go_wp2_with fail
  refine (un_any _ _ _).mono ?_
  rintro e w' ⟨rfl, rfl⟩
  go_wp2_with fail
  refine (known_any _ he).mono ?_
  rintro e w1 ⟨rfl, hb1⟩
  go_wp2_with fail
  go_ret
  exact ⟨rfl, hb1⟩

theorem div_sum (a b : Int) (ha : In64 a) (hb : b ≠ 0) : binV 14 (binV 16 (binV 17 a b) b) (binV 18 a b) = a := by
  unfold In64 at ha
  have h := Int.mul_tdiv_add_tmod a b
  simp [binV, hb]
  generalize a.tdiv b = k at *
  generalize a.tmod b = r at *
  have h2 : wrap64 k = k + 18446744073709551616 * (-((k + 9223372036854775808) / 18446744073709551616)) := by unfold wrap64; omega
  rw [h2, Int.add_mul, Int.mul_assoc]
  generalize (-((k + 9223372036854775808) / 18446744073709551616)) * b = m at *
  rw [Int.mul_comm] at h
  generalize k * b = kb at *
  unfold wrap64
  omega
theorem tmod_bound (a b : Int) (hb : b ≠ 0) : (a.tmod b).natAbs < b.natAbs := by
  rw [Int.natAbs_tmod]; exact Nat.mod_lt _ (by omega)
set_option maxHeartbeats 400000 in
theorem div_zero (a : Int) (w : World) (he : Env w) :
    Calls Tryd.prog 5 #[.int .i64 a, .int .i64 0] w fun e w' => e = .returned (.bool true) ∧ Below w.heap.size w w' := by
  go_enter Tryd.func5, Tryd.ntmps5
  go_wp2_with fail
  refine (bin_any _ _ _ _).mono ?_
  rintro e w' ⟨rfl, rfl⟩
  rw [show binV 17 a 0 = 0 by simp [binV], show binT 17 0 = 3 by decide +kernel]
  go_wp2_with fail
  refine (bin_any _ _ _ _).mono ?_
  rintro e w' ⟨rfl, rfl⟩
  rw [show binV 18 a 0 = 0 by simp [binV], show binT 18 0 = 3 by decide +kernel]
  go_wp2_with fail
  refine (known_any _ he).mono ?_
  rintro e w1 ⟨rfl, hb1⟩
  go_wp2_with fail
  go_ret
  exact ⟨rfl, hb1⟩

set_option maxHeartbeats 1000000 in
theorem div_rzero (a b : Int) (ha : In64 a) (hb0 : b ≠ 0) (g0 : (b == 0) = false) (h0 : binV 18 a b = 0) (w : World) (he : Env w) :
    Calls Tryd.prog 5 #[.int .i64 a, .int .i64 b] w fun e w' => e = .returned (.bool true) ∧ Below w.heap.size w w' := by
  have E1 := Lib.hid (div_sum a b ha hb0)
  have E2 := Lib.hid (show binT 17 b = 0 by simp [binT, hb0])
  have E3 := Lib.hid (show binT 18 b = 0 by simp [binT, hb0])
  have E0 := Lib.hid h0
  clear h0
  go_enter Tryd.func5, Tryd.ntmps5
  go_wp2_with fail
  refine (bin_any _ _ _ _).mono ?_
  rintro e w' ⟨rfl, rfl⟩
  rw [E2.out]
  go_wp2_with fail
  refine (bin_any _ _ _ _).mono ?_
  rintro e w' ⟨rfl, rfl⟩
  rw [E3.out]
  go_wp2_with fail
  refine (bin_any _ _ _ _).mono ?_
  rintro e w' ⟨rfl, rfl⟩
  go_wp2_with fail
  refine (bin_any _ _ _ _).mono ?_
  rintro e w' ⟨rfl, rfl⟩
  rw [E1.out, E0.out]
  go_wp2_with fail
  refine (known_any _ he).mono ?_
  rintro e w1 ⟨rfl, hb1⟩
  go_wp2_with fail
  go_ret
  exact ⟨rfl, hb1⟩

set_option maxHeartbeats 1000000 in
theorem div_bmin (a b : Int) (ha : In64 a) (hb : In64 b) (hb0 : b ≠ 0) (g0 : (b == 0) = false) (hm : b = -9223372036854775808) (g1 : (binV 18 a b == 0) = false) (w : World) (he : Env w) :
    Calls Tryd.prog 5 #[.int .i64 a, .int .i64 b] w fun e w' => e = .returned (.bool true) ∧ Below w.heap.size w w' := by
  have E1 := Lib.hid (div_sum a b ha hb0)
  have E2 := Lib.hid (show binT 17 b = 0 by simp [binT, hb0])
  have E3 := Lib.hid (show binT 18 b = 0 by simp [binT, hb0])
  subst hm
  clear hb
  go_enter Tryd.func5, Tryd.ntmps5
  go_wp2_with fail
  refine (bin_any _ _ _ _).mono ?_
  rintro e w' ⟨rfl, rfl⟩
  rw [E2.out]
  go_wp2_with fail
  refine (bin_any _ _ _ _).mono ?_
  rintro e w' ⟨rfl, rfl⟩
  rw [E3.out]
  go_wp2_with fail
  refine (bin_any _ _ _ _).mono ?_
  rintro e w' ⟨rfl, rfl⟩
  go_wp2_with fail
  refine (bin_any _ _ _ _).mono ?_
  rintro e w' ⟨rfl, rfl⟩
  rw [E1.out]
  go_wp2_with fail
  refine (known_any _ he).mono ?_
  rintro e w1 ⟨rfl, hb1⟩
  go_wp2_with fail
  go_ret
  exact ⟨rfl, hb1⟩

set_option maxHeartbeats 1000000 in
theorem div_plain (a b : Int) (ha : In64 a) (hb : In64 b) (hb0 : b ≠ 0) (g0 : (b == 0) = false) (hm : (b == -9223372036854775808) = false) (hm2 : ¬ b = -9223372036854775808) (g1 : (binV 18 a b == 0) = false) (w : World) (he : Env w) :
    Calls Tryd.prog 5 #[.int .i64 a, .int .i64 b] w fun e w' => e = .returned (.bool true) ∧ Below w.heap.size w w' := by
  have E1 := Lib.hid (div_sum a b ha hb0)
  have E2 := Lib.hid (show binT 17 b = 0 by simp [binT, hb0])
  have E3 := Lib.hid (show binT 18 b = 0 by simp [binT, hb0])
  have hr := tmod_bound a b hb0
  have e18 : binV 18 a b = a.tmod b := by simp [binV, hb0]
  have h1 : wrap64 (-max b (wrap64 (-b))) < binV 18 a b := by rw [e18]; unfold In64 at hb; unfold wrap64; omega
  have h2 : binV 18 a b < max b (wrap64 (-b)) := by rw [e18]; unfold In64 at hb; unfold wrap64; omega
  clear e18 hr hb
  go_enter Tryd.func5, Tryd.ntmps5
  go_wp2_with fail
  refine (bin_any _ _ _ _).mono ?_
  rintro e w' ⟨rfl, rfl⟩
  rw [E2.out]
  go_wp2_with fail
  refine (bin_any _ _ _ _).mono ?_
  rintro e w' ⟨rfl, rfl⟩
  rw [E3.out]
  go_wp2_with fail
  refine (bin_any _ _ _ _).mono ?_
  rintro e w' ⟨rfl, rfl⟩
  go_wp2_with fail
  refine (bin_any _ _ _ _).mono ?_
  rintro e w' ⟨rfl, rfl⟩
  rw [E1.out]
  go_wp2_with fail
  refine (known_any _ he).mono ?_
  rintro e w1 ⟨rfl, hb1⟩
  go_wp2_with fail
  go_ret
  exact ⟨rfl, hb1⟩

theorem divides_law (a b : Int) (ha : In64 a) (hb : In64 b) (w : World) (he : Env w) :
    Calls Tryd.prog 5 #[.int .i64 a, .int .i64 b] w fun e w' => e = .returned (.bool true) ∧ Below w.heap.size w w' := by
  by_cases hb0 : b = 0
  · subst hb0; exact div_zero a w he
  · have g0 : (b == 0) = false := by simp [hb0]
    by_cases h0 : binV 18 a b = 0
    · exact div_rzero a b ha hb0 g0 h0 w he
    · by_cases hm : b = -9223372036854775808
      · exact div_bmin a b ha hb hb0 g0 hm (by simp [h0]) w he
      · exact div_plain a b ha hb hb0 g0 (by simp [hm]) hm (by simp [h0]) w he
end Go.Proofs.YtppndjnklhcbkaaDoor

/-
  Walks of num.Bin, num.Un and their references: what each call computes.
-/
import Derived.Test.YtppndjnklhcbkaaDoorRows
import Derived.WalkKit
import Derived.WalkSpells
import Derived.WalkLawsBesides
import Derived.Lib.Hide
namespace Go.Proofs.YtppndjnklhcbkaaDoor
open Go.RowKit

def flagI (b : Bool) : Int := if b then 1 else 0

def binV (op a b : Int) : Int :=
  if op = 14 then wrap64 (a + b) else if op = 15 then wrap64 (a - b) else if op = 16 then wrap64 (a * b)
  else if op = 17 then (if b = 0 then 0 else wrap64 (a.tdiv b)) else if op = 18 then (if b = 0 then 0 else a.tmod b)
  else if op = 19 then flagI (decide (a < b)) else if op = 20 then flagI (decide (a ≤ b)) else if op = 21 then flagI (a == b)
  else if op = 22 then flagI (a != b) else if op = 23 then flagI (a != 0 && b != 0) else if op = 24 then flagI (a != 0 || b != 0) else 0
def binT (op b : Int) : Int := if op = 17 then (if b = 0 then 3 else 0) else if op = 18 then (if b = 0 then 3 else 0) else 0
def unV (op a : Int) : Int := if op = 12 then wrap64 (-a) else if op = 13 then flagI (a == 0) else 0

theorem flag_any (b : Bool) (w : World) :
    Calls Tryd.prog 15 #[.bool b] w fun e w' => e = .returned (.int .i64 (flagI b)) ∧ w = w' := by
  cases b
  all_goals
    go_enter Tryd.func15, Tryd.ntmps15
    go_wp2
    go_ret
    exact ⟨rfl, rfl⟩
theorem bool01_any (b : Bool) (w : World) :
    Calls Tryd.prog 17 #[.bool b] w fun e w' => e = .returned (.int .i64 (flagI b)) ∧ w = w' := by
  cases b
  all_goals
    go_enter Tryd.func17, Tryd.ntmps17
    go_wp2
    go_ret
    exact ⟨rfl, rfl⟩
theorem ret_i {k : IntKind} {a b : Int} (h : a = b) : Ending.returned (.int k a) = .returned (.int k b) := by rw [h]
theorem ret_ii {k : IntKind} {a b c d : Int} (h : a = c) (h' : b = d) : Ending.returned (.tuple #[.int k a, .int k b]) = .returned (.tuple #[.int k c, .int k d]) := by rw [h, h']


theorem wrap_neg (a : Int) : wrap64 (0 - a) = wrap64 (a.tdiv (-1)) := by
  rw [show a.tdiv (-1) = 0 - a by rw [Int.tdiv_neg, Int.tdiv_one]; omega]
set_option maxHeartbeats 1000000 in
theorem divide_any (op a b : Int) (w : World) (h : op = 17 ∨ op = 18) :
    Calls Tryd.prog 16 #[.int .i64 op, .int .i64 a, .int .i64 b] w fun e w' => e = .returned (.tuple #[.int .i64 (binV op a b), .int .i64 (binT op b)]) ∧ w = w' := by
  by_cases hb : b = 0
  · subst hb
    rcases h with rfl | rfl
    all_goals
      go_enter Tryd.func16, Tryd.ntmps16
      go_wp2
      go_ret2
      exact ⟨ret_ii (by simp [binV]) (by simp [binT]), rfl⟩
  by_cases hb1 : b = -1
  · subst hb1
    rcases h with rfl | rfl
    · go_enter Tryd.func16, Tryd.ntmps16
      go_wp2
      go_ret2
      exact ⟨ret_ii (by simp [binV]) (by simp [binT]), rfl⟩
    · go_enter Tryd.func16, Tryd.ntmps16
      go_wp2
      go_ret2
      exact ⟨ret_ii (by simp [binV]) (by simp [binT]), rfl⟩
  have g0 : (b == 0) = false := by simp [hb]
  have g1 : (b == -1) = false := by simp [hb1]
  rcases h with rfl | rfl
  all_goals
    go_enter Tryd.func16, Tryd.ntmps16
    go_wp2
    go_ret2
    exact ⟨ret_ii (by simp [binV, hb]) (by simp [binT, hb]), rfl⟩


set_option maxHeartbeats 4000000 in
theorem bin_any (op a b : Int) (w : World) :
    Calls Tryd.prog 8 #[.int .i64 op, .int .i64 a, .int .i64 b] w fun e w' => e = .returned (.tuple #[.int .i64 (binV op a b), .int .i64 (binT op b)]) ∧ w = w' := by
  by_cases h14 : op = 14
  · subst h14
    go_enter Tryd.func8, Tryd.ntmps8
    go_wp2
    go_ret2
    exact ⟨ret_ii (by simp [binV]) (by simp [binT]), rfl⟩
  by_cases h15 : op = 15
  · subst h15
    go_enter Tryd.func8, Tryd.ntmps8
    go_wp2
    go_ret2
    exact ⟨ret_ii (by simp [binV]) (by simp [binT]), rfl⟩
  by_cases h16 : op = 16
  · subst h16
    go_enter Tryd.func8, Tryd.ntmps8
    go_wp2
    go_ret2
    exact ⟨ret_ii (by simp [binV]) (by simp [binT]), rfl⟩
  by_cases h17 : op = 17
  · subst h17
    by_cases hb : b = 0
    · subst hb
      go_enter Tryd.func8, Tryd.ntmps8
      go_wp2
      go_ret2
      exact ⟨ret_ii (by simp [binV]) (by simp [binT]), rfl⟩
    have g0 : (b == 0) = false := by simp [hb]
    go_enter Tryd.func8, Tryd.ntmps8
    go_wp2
    go_ret2
    exact ⟨ret_ii (by simp [binV, hb]) (by simp [binT, hb]), rfl⟩
  by_cases h18 : op = 18
  · subst h18
    by_cases hb : b = 0
    · subst hb
      go_enter Tryd.func8, Tryd.ntmps8
      go_wp2
      go_ret2
      exact ⟨ret_ii (by simp [binV]) (by simp [binT]), rfl⟩
    have g0 : (b == 0) = false := by simp [hb]
    go_enter Tryd.func8, Tryd.ntmps8
    go_wp2
    go_ret2
    exact ⟨ret_ii (by simp [binV, hb]) (by simp [binT, hb]), rfl⟩
  by_cases h19 : op = 19
  · subst h19
    go_enter Tryd.func8, Tryd.ntmps8
    go_wp2_with (go_at_call 15; refine (flag_any _ _).mono ?_; rintro e w' ⟨rfl, rfl⟩)
    go_ret2
    exact ⟨ret_ii (by simp [binV]) (by simp [binT]), rfl⟩
  by_cases h20 : op = 20
  · subst h20
    go_enter Tryd.func8, Tryd.ntmps8
    go_wp2_with (go_at_call 15; refine (flag_any _ _).mono ?_; rintro e w' ⟨rfl, rfl⟩)
    go_ret2
    exact ⟨ret_ii (by simp [binV]) (by simp [binT]), rfl⟩
  by_cases h21 : op = 21
  · subst h21
    go_enter Tryd.func8, Tryd.ntmps8
    go_wp2_with (go_at_call 15; refine (flag_any _ _).mono ?_; rintro e w' ⟨rfl, rfl⟩)
    go_ret2
    exact ⟨ret_ii (by simp [binV]) (by simp [binT]), rfl⟩
  by_cases h22 : op = 22
  · subst h22
    go_enter Tryd.func8, Tryd.ntmps8
    go_wp2_with (go_at_call 15; refine (flag_any _ _).mono ?_; rintro e w' ⟨rfl, rfl⟩)
    go_ret2
    exact ⟨ret_ii (by simp [binV]) (by simp [binT]), rfl⟩
  by_cases h23 : op = 23
  · subst h23
    by_cases ha : a = 0
    · have ga : (a != 0) = false := by simp [ha]
      clear ha
      go_enter Tryd.func8, Tryd.ntmps8
      go_wp2_with (go_at_call 15; refine (flag_any _ _).mono ?_; rintro e w' ⟨rfl, rfl⟩)
      go_ret2
      exact ⟨ret_ii (by simp [binV, ga]) (by simp [binT]), rfl⟩
    · have ga : (a != 0) = true := by simp [ha]
      clear ha
      go_enter Tryd.func8, Tryd.ntmps8
      go_wp2_with (go_at_call 15; refine (flag_any _ _).mono ?_; rintro e w' ⟨rfl, rfl⟩)
      go_ret2
      exact ⟨ret_ii (by simp [binV, ga]) (by simp [binT]), rfl⟩
  by_cases h24 : op = 24
  · subst h24
    by_cases ha : a = 0
    · have ga : (a != 0) = false := by simp [ha]
      clear ha
      go_enter Tryd.func8, Tryd.ntmps8
      go_wp2_with (go_at_call 15; refine (flag_any _ _).mono ?_; rintro e w' ⟨rfl, rfl⟩)
      go_ret2
      exact ⟨ret_ii (by simp [binV, ga]) (by simp [binT]), rfl⟩
    · have ga : (a != 0) = true := by simp [ha]
      clear ha
      go_enter Tryd.func8, Tryd.ntmps8
      go_wp2_with (go_at_call 15; refine (flag_any _ _).mono ?_; rintro e w' ⟨rfl, rfl⟩)
      go_ret2
      exact ⟨ret_ii (by simp [binV, ga]) (by simp [binT]), rfl⟩
  have g14 : (op == 14) = false := by simp [h14]
  have g15 : (op == 15) = false := by simp [h15]
  have g16 : (op == 16) = false := by simp [h16]
  have g17 : (op == 17) = false := by simp [h17]
  have g18 : (op == 18) = false := by simp [h18]
  have g19 : (op == 19) = false := by simp [h19]
  have g20 : (op == 20) = false := by simp [h20]
  have g21 : (op == 21) = false := by simp [h21]
  have g22 : (op == 22) = false := by simp [h22]
  have g23 : (op == 23) = false := by simp [h23]
  have g24 : (op == 24) = false := by simp [h24]
  have HV : Hid (binV op a b = 0 ∧ binT op b = 0) := Lib.hid (by simp [binV, binT, h14, h15, h16, h17, h18, h19, h20, h21, h22, h23, h24])
  clear h14 h15 h16 h17 h18 h19 h20 h21 h22 h23 h24
  go_enter Tryd.func8, Tryd.ntmps8
  go_wp2
  go_ret2
  exact ⟨ret_ii HV.out.1.symm HV.out.2.symm, rfl⟩

set_option maxHeartbeats 4000000 in
theorem rbin_any (op a b : Int) (w : World) :
    Calls Tryd.prog 9 #[.int .i64 op, .int .i64 a, .int .i64 b] w fun e w' => e = .returned (.tuple #[.int .i64 (binV op a b), .int .i64 (binT op b)]) ∧ w = w' := by
  by_cases h14 : op = 14
  · subst h14
    go_enter Tryd.func9, Tryd.ntmps9
    go_wp2
    go_ret2
    exact ⟨ret_ii (by simp [binV]) (by simp [binT]), rfl⟩
  by_cases h15 : op = 15
  · subst h15
    go_enter Tryd.func9, Tryd.ntmps9
    go_wp2
    go_ret2
    exact ⟨ret_ii (by simp [binV]) (by simp [binT]), rfl⟩
  by_cases h16 : op = 16
  · subst h16
    go_enter Tryd.func9, Tryd.ntmps9
    go_wp2
    go_ret2
    exact ⟨ret_ii (by simp [binV]) (by simp [binT]), rfl⟩
  by_cases h17 : op = 17
  · subst h17
    go_enter Tryd.func9, Tryd.ntmps9
    go_wp2_with (go_at_call 16; refine (divide_any _ _ _ _ (by decide)).mono ?_; rintro e w' ⟨rfl, rfl⟩)
    go_ret2
    exact ⟨rfl, rfl⟩
  by_cases h18 : op = 18
  · subst h18
    go_enter Tryd.func9, Tryd.ntmps9
    go_wp2_with (go_at_call 16; refine (divide_any _ _ _ _ (by decide)).mono ?_; rintro e w' ⟨rfl, rfl⟩)
    go_ret2
    exact ⟨rfl, rfl⟩
  by_cases h19 : op = 19
  · subst h19
    go_enter Tryd.func9, Tryd.ntmps9
    go_wp2_with (go_at_call 17; refine (bool01_any _ _).mono ?_; rintro e w' ⟨rfl, rfl⟩)
    go_ret2
    exact ⟨ret_ii (by simp [binV]) (by simp [binT]), rfl⟩
  by_cases h20 : op = 20
  · subst h20
    go_enter Tryd.func9, Tryd.ntmps9
    go_wp2_with (go_at_call 17; refine (bool01_any _ _).mono ?_; rintro e w' ⟨rfl, rfl⟩)
    go_ret2
    exact ⟨ret_ii (by simp [binV]) (by simp [binT]), rfl⟩
  by_cases h21 : op = 21
  · subst h21
    go_enter Tryd.func9, Tryd.ntmps9
    go_wp2_with (go_at_call 17; refine (bool01_any _ _).mono ?_; rintro e w' ⟨rfl, rfl⟩)
    go_ret2
    exact ⟨ret_ii (by simp [binV]) (by simp [binT]), rfl⟩
  by_cases h22 : op = 22
  · subst h22
    go_enter Tryd.func9, Tryd.ntmps9
    go_wp2_with (go_at_call 17; refine (bool01_any _ _).mono ?_; rintro e w' ⟨rfl, rfl⟩)
    go_ret2
    exact ⟨ret_ii (by simp [binV]) (by simp [binT]), rfl⟩
  by_cases h23 : op = 23
  · subst h23
    by_cases ha : a = 0
    · have ga : (a != 0) = false := by simp [ha]
      clear ha
      go_enter Tryd.func9, Tryd.ntmps9
      go_wp2_with (go_at_call 17; refine (bool01_any _ _).mono ?_; rintro e w' ⟨rfl, rfl⟩)
      go_ret2
      exact ⟨ret_ii (by simp [binV, ga]) (by simp [binT]), rfl⟩
    · have ga : (a != 0) = true := by simp [ha]
      clear ha
      go_enter Tryd.func9, Tryd.ntmps9
      go_wp2_with (go_at_call 17; refine (bool01_any _ _).mono ?_; rintro e w' ⟨rfl, rfl⟩)
      go_ret2
      exact ⟨ret_ii (by simp [binV, ga]) (by simp [binT]), rfl⟩
  by_cases h24 : op = 24
  · subst h24
    by_cases ha : a = 0
    · have ga : (a != 0) = false := by simp [ha]
      clear ha
      go_enter Tryd.func9, Tryd.ntmps9
      go_wp2_with (go_at_call 17; refine (bool01_any _ _).mono ?_; rintro e w' ⟨rfl, rfl⟩)
      go_ret2
      exact ⟨ret_ii (by simp [binV, ga]) (by simp [binT]), rfl⟩
    · have ga : (a != 0) = true := by simp [ha]
      clear ha
      go_enter Tryd.func9, Tryd.ntmps9
      go_wp2_with (go_at_call 17; refine (bool01_any _ _).mono ?_; rintro e w' ⟨rfl, rfl⟩)
      go_ret2
      exact ⟨ret_ii (by simp [binV, ga]) (by simp [binT]), rfl⟩
  have g14 : (op == 14) = false := by simp [h14]
  have g15 : (op == 15) = false := by simp [h15]
  have g16 : (op == 16) = false := by simp [h16]
  have g17 : (op == 17) = false := by simp [h17]
  have g18 : (op == 18) = false := by simp [h18]
  have g19 : (op == 19) = false := by simp [h19]
  have g20 : (op == 20) = false := by simp [h20]
  have g21 : (op == 21) = false := by simp [h21]
  have g22 : (op == 22) = false := by simp [h22]
  have g23 : (op == 23) = false := by simp [h23]
  have g24 : (op == 24) = false := by simp [h24]
  have HV : Hid (binV op a b = 0 ∧ binT op b = 0) := Lib.hid (by simp [binV, binT, h14, h15, h16, h17, h18, h19, h20, h21, h22, h23, h24])
  clear h14 h15 h16 h17 h18 h19 h20 h21 h22 h23 h24
  go_enter Tryd.func9, Tryd.ntmps9
  go_wp2
  go_ret2
  exact ⟨ret_ii HV.out.1.symm HV.out.2.symm, rfl⟩

set_option maxHeartbeats 1000000 in
theorem un_any (op a : Int) (w : World) :
    Calls Tryd.prog 10 #[.int .i64 op, .int .i64 a] w fun e w' => e = .returned (.int .i64 (unV op a)) ∧ w = w' := by
  by_cases h12 : op = 12
  · subst h12
    go_enter Tryd.func10, Tryd.ntmps10
    go_wp2
    go_ret
    exact ⟨ret_i (by simp [unV]), rfl⟩
  by_cases h13 : op = 13
  · subst h13
    go_enter Tryd.func10, Tryd.ntmps10
    go_wp2_with (go_at_call 15; refine (flag_any _ _).mono ?_; rintro e w' ⟨rfl, rfl⟩)
    go_ret
    exact ⟨ret_i (by simp [unV]), rfl⟩
  have g12 : (op == 12) = false := by simp [h12]
  have g13 : (op == 13) = false := by simp [h13]
  have HV : Hid (unV op a = 0) := Lib.hid (by simp [unV, h12, h13])
  clear h12 h13
  go_enter Tryd.func10, Tryd.ntmps10
  go_wp2
  go_ret
  exact ⟨ret_i HV.out.symm, rfl⟩

set_option maxHeartbeats 1000000 in
theorem run_any (op a : Int) (w : World) :
    Calls Tryd.prog 11 #[.int .i64 op, .int .i64 a] w fun e w' => e = .returned (.int .i64 (unV op a)) ∧ w = w' := by
  by_cases h12 : op = 12
  · subst h12
    go_enter Tryd.func11, Tryd.ntmps11
    go_wp2
    go_ret
    exact ⟨ret_i (by simp [unV]), rfl⟩
  by_cases h13 : op = 13
  · subst h13
    go_enter Tryd.func11, Tryd.ntmps11
    go_wp2_with (go_at_call 17; refine (bool01_any _ _).mono ?_; rintro e w' ⟨rfl, rfl⟩)
    go_ret
    exact ⟨ret_i (by simp [unV]), rfl⟩
  have g12 : (op == 12) = false := by simp [h12]
  have g13 : (op == 13) = false := by simp [h13]
  have HV : Hid (unV op a = 0) := Lib.hid (by simp [unV, h12, h13])
  clear h12 h13
  go_enter Tryd.func11, Tryd.ntmps11
  go_wp2
  go_ret
  exact ⟨ret_i HV.out.symm, rfl⟩
end Go.Proofs.YtppndjnklhcbkaaDoor

/-
  Walks of num.Text, num.Parse and the laws' known: what each call computes, under the library's tables and sentinels.
-/
import Derived.Test.YtppndjnklhcbkaaDoorBin
import Derived.Test.YtppndjnklhcbkaaDoorLays
import Derived.Test.YtppndjnklhcbkaaDoorPlain
import Derived.Lib.AtoiErrMem
import Derived.Lib.AppendIntMem
namespace Go.Proofs.YtppndjnklhcbkaaDoor
open Go.RowKit

theorem gTab : Tryd.prog.globalNamed "internal/strconv.uint64pow10" = some 2 := by kernel_rfl
theorem gSyn : Tryd.prog.globalNamed "strconv.ErrSyntax" = some 0 := by kernel_rfl
theorem gRng : Tryd.prog.globalNamed "strconv.ErrRange" = some 1 := by kernel_rfl

/-- What the walks ask of a world: the table of powers and the two sentinels lie there. -/
structure Env (w : World) : Prop where
  size : 3 ≤ w.heap.size
  tab : Lib.TabIs Tryd.prog w "internal/strconv.uint64pow10" .u64 Lib.pow10Tab
  syn : ∃ tp p, w.var? Tryd.prog "strconv.ErrSyntax" = some #[.iface tp p]
  rng : ∃ tp p, w.var? Tryd.prog "strconv.ErrRange" = some #[.iface tp p]

theorem Env.on {w w' : World} (h : Env w) (hb : Below w.heap.size w w') : Env w' := by
  have hs := h.size
  refine ⟨Nat.le_trans hs hb.size, var?_below hb gTab (by omega) h.tab, ?_, ?_⟩
  · obtain ⟨tp, p, hv⟩ := h.syn
    exact ⟨tp, p, var?_below hb gSyn (by omega) hv⟩
  · obtain ⟨tp, p, hv⟩ := h.rng
    exact ⟨tp, p, var?_below hb gRng (by omega) hv⟩

def In64 (n : Int) : Prop := -9223372036854775808 ≤ n ∧ n ≤ 9223372036854775807

theorem itoa_any (n : Int) (hn : In64 n) (w : World) (he : Env w) :
    Calls Tryd.prog 18 #[.int .i64 n] w fun e w' => e = .returned (.string ⟨(Lib.itoa n).toArray⟩) ∧ Below w.heap.size w w' :=
  (Any.strconv_Itoa Tryd.laysM171 n hn.1 hn.2 w he.tab).mono fun _ _ ⟨h1, k, os, h2⟩ => ⟨h1, by subst h2; exact Lib.below_grow _ _ (Nat.le_refl _) _ _⟩

set_option maxHeartbeats 400000 in
theorem text_any (n : Int) (hn : In64 n) (w : World) (he : Env w) :
    Calls Tryd.prog 13 #[.int .i64 n] w fun e w' => e = .returned (.string ⟨(Lib.itoa n).toArray⟩) ∧ Below w.heap.size w w' := by
  have Hn := Lib.hid hn
  clear hn
  go_enter Tryd.func13, Tryd.ntmps13
  go_wp2_with (go_at_call 18; refine (itoa_any _ Hn.out _ he).mono ?_; rintro e w' ⟨rfl, hb⟩)
  go_ret
  exact ⟨rfl, hb⟩

def AtoiBad (w : World) (e : Ending) (w' : World) : Prop := ∃ (n : Int) (N : Nat), e = .returned (.tuple #[.int .i64 n, .iface 43 (.pointer (some ⟨N, 0, none⟩))]) ∧ Below w.heap.size w w'

theorem atoi_bad (s : ByteArray) (hs : s.size ≤ 281474976710656) (w : World) (he : Env w) (h : ∀ v, Lib.atoiAll s.data.toList ≠ .ok v) :
    Calls Tryd.prog 19 #[.string s] w (AtoiBad w) := by
  cases hl : Lib.atoiAll s.data.toList with
  | ok v => exact absurd hl (h v)
  | range =>
    obtain ⟨tp, p, hv⟩ := he.rng
    exact (Any.strconv_Atoi_range_var Tryd.laysC172 s hs hl tp p w hv).mono fun _ _ ⟨N, h1, _, _, h4⟩ => ⟨_, N, h1, h4⟩
  | _ =>
    obtain ⟨tp, p, hv⟩ := he.syn
    exact (Any.strconv_Atoi_syntax_var Tryd.laysC172 s hs hl tp p w hv).mono fun _ _ ⟨N, h1, _, _, h4⟩ => ⟨_, N, h1, h4⟩

theorem atoi_ok (s : ByteArray) (hs : s.size ≤ 281474976710656) (w : World) (v : Int) (h : Lib.atoiAll s.data.toList = .ok v) :
    Calls Tryd.prog 19 #[.string s] w fun e w' => e = .returned (.tuple #[.int .i64 v, .nilIface]) ∧ Below w.heap.size w w' :=
  (Any.strconv_Atoi_ok Tryd.laysC172 s (by omega) v h w).mono fun _ _ ⟨h1, h2⟩ => ⟨h1, by
    rcases h2 with rfl | ⟨t, rfl⟩
    · exact Below.refl _ _
    · exact Lib.bytesWorld_below _ _ _⟩

def parseV (l : List UInt8) : Int := (parseOk l).getD 0
def parseB (l : List UInt8) : Bool := (parseOk l).isSome

set_option maxHeartbeats 400000 in
theorem parse_any (s : ByteArray) (hs : s.size ≤ 281474976710656) (w : World) (he : Env w) :
    Calls Tryd.prog 14 #[.string s] w fun e w' => e = .returned (.tuple #[.int .i64 (parseV s.data.toList), .bool (parseB s.data.toList)]) ∧ Below w.heap.size w w' := by
  by_cases hok : ∃ v, Lib.atoiAll s.data.toList = .ok v
  · obtain ⟨v, hv⟩ := hok
    have hin : In64 v := Lib.atoiAll_bounds hv
    have Hv := Lib.hid hv
    have Hin := Lib.hid hin
    by_cases hself : Lib.itoa v = s.data.toList
    · have HV := Lib.hid (show parseV s.data.toList = v ∧ parseB s.data.toList = true by simp [parseV, parseB, parseOk, hv, hself])
      have ht : (Lib.itoa v == s.toList) = true := by rw [ByteArray.toList_eq]; simp [hself]
      clear hv hin hself
      go_enter Tryd.func14, Tryd.ntmps14
      go_wp2_with (first | (go_at_call 19; refine (atoi_ok _ hs _ v Hv.out).mono ?_; rintro e w1 ⟨rfl, hb1⟩) | (go_at_call 13; refine (text_any _ Hin.out _ (he.on hb1)).mono ?_; rintro e w2 ⟨rfl, hb2⟩))
      go_ret2
      exact ⟨by rw [HV.out.1, HV.out.2]; rfl, hb1.trans (hb2.mono hb1.size)⟩
    · have HV := Lib.hid (show parseV s.data.toList = 0 ∧ parseB s.data.toList = false by simp [parseV, parseB, parseOk, hv, hself])
      have ht : (Lib.itoa v == s.toList) = false := by rw [ByteArray.toList_eq]; simp [hself]
      clear hv hin hself
      go_enter Tryd.func14, Tryd.ntmps14
      go_wp2_with (first | (go_at_call 19; refine (atoi_ok _ hs _ v Hv.out).mono ?_; rintro e w1 ⟨rfl, hb1⟩) | (go_at_call 13; refine (text_any _ Hin.out _ (he.on hb1)).mono ?_; rintro e w2 ⟨rfl, hb2⟩))
      go_ret2
      exact ⟨by rw [HV.out.1, HV.out.2]; rfl, hb1.trans (hb2.mono hb1.size)⟩
  · have hno : ∀ v, Lib.atoiAll s.data.toList ≠ .ok v := fun v h => hok ⟨v, h⟩
    have HV := Lib.hid (show parseV s.data.toList = 0 ∧ parseB s.data.toList = false by
      have : parseOk s.data.toList = none := by unfold parseOk; split <;> simp_all
      simp [parseV, parseB, this])
    have Hno := Lib.hid hno
    clear hok hno
    go_enter Tryd.func14, Tryd.ntmps14
    go_wp2_with (go_at_call 19; refine (atoi_bad _ hs _ he Hno.out).mono ?_; rintro e w1 ⟨n, N, rfl, hb1⟩)
    go_ret2
    exact ⟨by rw [HV.out.1, HV.out.2]; rfl, hb1⟩

theorem itoa_m12 : Lib.itoa (-12) = [45, 49, 50] := by
  unfold Lib.itoa
  rw [if_pos (by decide), show (-12 : Int).natAbs = 12 from rfl, Lib.decDigits_two (by decide) (by decide)]; decide
theorem itoa_105 : Lib.itoa 105 = [49, 48, 53] := by
  unfold Lib.itoa
  rw [if_neg (by decide), show (105 : Int).toNat = 105 from rfl, dec_big (by decide), Lib.decDigits_two (by decide) (by decide)]; decide
theorem parse_m12 : parseV [45, 49, 50] = -12 ∧ parseB [45, 49, 50] = true := by
  unfold parseV parseB
  rw [← itoa_m12, parseOk_itoa _ (by decide) (by decide)]; exact ⟨rfl, rfl⟩

set_option maxHeartbeats 400000 in
theorem known_any (w : World) (he : Env w) :
    Calls Tryd.prog 12 #[] w fun e w' => e = .returned (.bool true) ∧ Below w.heap.size w w' := by
  go_enter Tryd.func12, Tryd.ntmps12
  go_wp2_with fail
  refine (bin_any _ _ _ _).mono ?_
  rintro e w' ⟨rfl, rfl⟩
  rw [show binV 17 (-7) 2 = -3 by decide +kernel, show binT 17 2 = 0 by decide +kernel]
  go_wp2_with fail
  refine (parse_any _ (by decide) _ he).mono ?_
  rintro e w1 ⟨rfl, hb1⟩
  simp only [parse_m12.1, parse_m12.2]
  have he1 := he.on hb1
  go_wp2_with fail
  refine (text_any _ (by unfold In64; decide) _ he1).mono ?_
  rintro e w2 ⟨rfl, hb2⟩
  rw [itoa_105]
  go_wp2_with fail
  refine (un_any _ _ _).mono ?_
  rintro e w' ⟨rfl, rfl⟩
  rw [show unV 12 4 = -4 by decide +kernel]
  go_wp2_with fail
  go_ret
  exact ⟨rfl, hb1.trans (hb2.mono hb1.size)⟩

/-! ### The five laws -/
set_option maxHeartbeats 400000 in
theorem bins_law (op a b : Int) (w : World) (he : Env w) :
    Calls Tryd.prog 3 #[.int .i64 op, .int .i64 a, .int .i64 b] w fun e w' => e = .returned (.bool true) ∧ Below w.heap.size w w' := by
  go_enter Tryd.func3, Tryd.ntmps3
  go_wp2_with (first
    | (go_at_call 8; refine (bin_any _ _ _ _).mono ?_; rintro e w' ⟨rfl, rfl⟩)
    | (go_at_call 9; refine (rbin_any _ _ _ _).mono ?_; rintro e w' ⟨rfl, rfl⟩)
    | (go_at_call 10; refine (un_any _ _ _).mono ?_; rintro e w' ⟨rfl, rfl⟩)
    | (go_at_call 11; refine (run_any _ _ _).mono ?_; rintro e w' ⟨rfl, rfl⟩)
    | (go_at_call 12; refine (known_any _ he).mono ?_; rintro e w1 ⟨rfl, hb1⟩))
  go_ret
  exact ⟨rfl, hb1⟩
end Go.Proofs.YtppndjnklhcbkaaDoor

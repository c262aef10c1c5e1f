/-
  Texts of one proof, laid together: ShC.
-/
import Derived.Test.YtnjoomfeddamcaaME
set_option linter.unusedVariables false
set_option linter.unusedSimpArgs false
/-
  What a program of ours printed of the code: each function's operations, one definition each, and that the evaluator does just these.
-/
namespace Go.Proofs.Ytnjoomfeddamcaa
open Go.Ev
set_option maxRecDepth 100000
noncomputable section
def s66_0 (H_12 : AHeap) (r : AV) : O :=
 some (r, H_12)
def s66_1 x2 H_12 :=
 xb (aload P H_12 65 x2) (s66_0 H_12)
def s66_2 H_11 x2 :=
 xstore H_11 (astore P H_11 65 x2 (.agg [(.int .i64 0), (.str []), (.int .i64 0), (.int .i64 0)])) (s66_1 x2)
def s66_3 (H_12 : AHeap) (r : AV) : O :=
 some (r, H_12)
def s66_4 x2 H_12 :=
 xb (aload P H_12 65 x2) (s66_3 H_12)
def s66_5 H_11 x2 x30 :=
 xstore H_11 (astore P H_11 65 x2 x30) (s66_4 x2)
def s66_6 H_11 x2 x29 :=
 xb (aload P H_11 65 x29) (s66_5 H_11 x2)
def s66_7 x24 H_11 x2 x28 :=
 xb (aindexAddr P 22 x24 x28) (s66_6 H_11 x2)
def s66_8 H_11 x24 x2 x27 :=
 xb (aload P H_11 3 x27) (s66_7 x24 H_11 x2)
def s66_9 H_11 x24 x2 x26 :=
 xb (afieldAddr P 75 x26 1) (s66_8 H_11 x24 x2)
def s66_10 x0 H_11 x2 x24 :=
 xb (anil x0) (s66_9 H_11 x24 x2)
def s66_11 H_11 x0 x2 x23 :=
 xb (aload P H_11 22 x23) (s66_10 x0 H_11 x2)
def s66_12 H_11 x0 x2 x22 :=
 xb (afieldAddr P 75 x22 0) (s66_11 H_11 x0 x2)
def s66_13 x0 H_11 x2 :=
 xb (anil x0) (s66_12 H_11 x0 x2)
def s66_14 H_11 x2 x0 x19 :=
 xif (some x19) (s66_2 H_11 x2) (s66_13 x0 H_11 x2)
def s66_15 x7 x2 x0 x18 H_11 :=
 xb (pickOf x7 (some (.bool true)) (some x18)) (s66_14 H_11 x2 x0)
def s66_16 x7 x12 x2 x0 x17 H_10 :=
 xg x7 false H_10 (fun q => (fbin P .geq 3 false x12 x17).bind fun v => q (.pure v)) (s66_15 x7 x2 x0)
def s66_17 x7 x12 x2 x0 x16 H_9 :=
 xg x7 false H_9 (fun q => xboth (abuiltin P .empty .len [22] [x16]) (abuiltin P H_9 .len [22] [x16]) q) (s66_16 x7 x12 x2 x0)
def s66_18 x7 x12 x2 x0 x15 H_8 :=
 xg x7 false H_8 (fun q => (aload P H_8 22 x15).bind fun v => q (.read v)) (s66_17 x7 x12 x2 x0)
def s66_19 x7 x12 x2 x0 x14 H_7 :=
 xg x7 false H_7 (fun q => (afieldAddr P 75 x14 0).bind fun v => q (.pure v)) (s66_18 x7 x12 x2 x0)
def s66_20 x7 x12 x2 x0 x13 H_6 :=
 xg x7 false H_6 (fun q => (anil x13).bind fun v => q (.pure v)) (s66_19 x7 x12 x2 x0)
def s66_21 x7 x0 x2 x12 H_5 :=
 xg x7 false H_5 (fun q => q (.pure x0)) (s66_20 x7 x12 x2 x0)
def s66_22 x7 x0 x2 x11 H_4 :=
 xg x7 false H_4 (fun q => (aload P H_4 3 x11).bind fun v => q (.read v)) (s66_21 x7 x0 x2)
def s66_23 x7 x0 x2 x10 H_3 :=
 xg x7 false H_3 (fun q => (afieldAddr P 75 x10 1).bind fun v => q (.pure v)) (s66_22 x7 x0 x2)
def s66_24 x7 x0 x2 x9 H_2 :=
 xg x7 false H_2 (fun q => (anil x9).bind fun v => q (.pure v)) (s66_23 x7 x0 x2)
def s66_25 H_1 x0 x2 x7 :=
 xg x7 false H_1 (fun q => q (.pure x0)) (s66_24 x7 x0 x2)
def s66_26 H_1 x0 x2 x6 :=
 xb (fbin P .lss 3 true x6 (.int .i64 0)) (s66_25 H_1 x0 x2)
def s66_27 H_1 x0 x2 x5 :=
 xb (aload P H_1 3 x5) (s66_26 H_1 x0 x2)
def s66_28 H_1 x0 x2 x4 :=
 xb (afieldAddr P 75 x4 1) (s66_27 H_1 x0 x2)
def s66_29 x0 x2 H_1 :=
 xb (anil x0) (s66_28 H_1 x0 x2)
/-- (*runrig/runrigref3.reader).tok -/
def s66 (G : CallT) x0 H :=
 xalloc H [(.int .i64 0), (.str []), (.int .i64 0), (.int .i64 0)] (s66_29 x0)
theorem s66_eq (G : CallT) (N : Nat) (x0 : AV) (H : AHeap) : codeC P G N (bodyOf Try.f66) (retC P Try.f66.results.toList) [] (retC P Try.f66.results.toList) (argsF [x0]) H = s66 G x0 H := by
  refine Eq.trans ((via_leaf _ : ∀ R H, codeC P G N (bodyOf Try.f66) (retC P Try.f66.results.toList) [] (retC P Try.f66.results.toList) R H = _) (argsF [x0]) H) ?_
  delta s66 s66_29 s66_28 s66_27 s66_26 s66_25 s66_24 s66_23 s66_22 s66_21 s66_20 s66_19 s66_18 s66_17 s66_16 s66_15 s66_14 s66_13 s66_12 s66_11 s66_10 s66_9 s66_8 s66_7 s66_6 s66_5 s66_4 s66_3 s66_2 s66_1 s66_0
  kernel_rfl

theorem run66 (N : Nat) {x0 : AV} {H : AHeap} {r : AV × AHeap} (h : s66 (evw P) x0 H = some r) : evw P 66 [x0] H = some r :=
  evw_code (c := (bodyOf Try.f66)) (M := N) Try.func66 (by kernel_rfl) (by kernel_rfl) (by kernel_rfl) (Eq.trans (s66_eq (evw P) N x0 H) h)

def s38_0 (H : AHeap) (x8 : AV) : O :=
 some (x8, H)
def s38_1 H x7 :=
 xb (fbin P .eql 23 true x7 (.int .i64 0)) (s38_0 H)
def s38_2 H x6 :=
 xb (aload P H 23 x6) (s38_1 H)
def s38_3 H x5 :=
 xb (afieldAddr P 25 x5 0) (s38_2 H)
def s38_4 H x4 :=
 xb (afieldAddr P 75 x4 3) (s38_3 H)
/-- (*runrig/runrigref3.reader).ok -/
def s38 (G : CallT) x0 H :=
 xb (anil x0) (s38_4 H)
theorem s38_eq (G : CallT) (N : Nat) (x0 : AV) (H : AHeap) : codeC P G N (bodyOf Try.f38) (retC P Try.f38.results.toList) [] (retC P Try.f38.results.toList) (argsF [x0]) H = s38 G x0 H := by
  refine Eq.trans ((via_leaf _ : ∀ R H, codeC P G N (bodyOf Try.f38) (retC P Try.f38.results.toList) [] (retC P Try.f38.results.toList) R H = _) (argsF [x0]) H) ?_
  delta s38 s38_4 s38_3 s38_2 s38_1 s38_0
  kernel_rfl

theorem run38 (N : Nat) {x0 : AV} {H : AHeap} {r : AV × AHeap} (h : s38 (evw P) x0 H = some r) : evw P 38 [x0] H = some r :=
  evw_code (c := (bodyOf Try.f38)) (M := N) Try.func38 (by kernel_rfl) (by kernel_rfl) (by kernel_rfl) (Eq.trans (s38_eq (evw P) N x0 H) h)

def s65_0 (H_3 : AHeap) : O :=
 some (.tuple [], H_3)
def s65_1 H_2 x11 x13 :=
 xstore H_2 (astore P H_2 25 x13 x11) (s65_0)
def s65_2 H_2 x11 x12 :=
 xb (afieldAddr P 75 x12 3) (s65_1 H_2 x11)
def s65_3 x0 H_2 x11 :=
 xb (anil x0) (s65_2 H_2 x11)
def s65_4 x1 x0 H_2 x10 :=
 xb (abuild P 25 [(0, x1), (1, x10)]) (s65_3 x0 H_2)
def s65_5 x1 x0 x9 H_2 :=
 xb (afield P 65 x9 3) (s65_4 x1 x0 H_2)
def s65_6 (G : CallT) H_1 x0 x1 :=
 xcall H_1 (G 66 [x0] H_1) (s65_5 x1 x0)
def s65_7 (H_1 : AHeap) : O :=
 some (.tuple [], H_1)
def s65_8 G x0 x1 x5 H_1 :=
 xif (some x5) (s65_6 G H_1 x0 x1) (s65_7 H_1)
/-- (*runrig/runrigref3.reader).fail -/
def s65 (G : CallT) x0 x1 H :=
 xcall H (G 38 [x0] H) (s65_8 G x0 x1)
theorem s65_eq (G : CallT) (N : Nat) (x0 : AV) (x1 : AV) (H : AHeap) : codeC P G N (bodyOf Try.f65) (retC P Try.f65.results.toList) [] (retC P Try.f65.results.toList) (argsF [x0, x1]) H = s65 G x0 x1 H := by
  refine Eq.trans ((via_leaf _ : ∀ R H, codeC P G N (bodyOf Try.f65) (retC P Try.f65.results.toList) [] (retC P Try.f65.results.toList) R H = _) (argsF [x0, x1]) H) ?_
  delta s65 s65_8 s65_7 s65_6 s65_5 s65_4 s65_3 s65_2 s65_1 s65_0
  kernel_rfl

theorem run65 (N : Nat) {x0 x1 : AV} {H : AHeap} {r : AV × AHeap} (h : s65 (evw P) x0 x1 H = some r) : evw P 65 [x0, x1] H = some r :=
  evw_code (c := (bodyOf Try.f65)) (M := N) Try.func65 (by kernel_rfl) (by kernel_rfl) (by kernel_rfl) (Eq.trans (s65_eq (evw P) N x0 x1 H) h)

def s64_0 (H_9 : AHeap) (x30 : AV) : O :=
 some (x30, H_9)
def s64_1 x24 x29 H_9 :=
 xb (pickOf x24 (some x29) (some (.bool false))) (s64_0 H_9)
def s64_2 x24 x27 x28 H_8 :=
 xg x24 true H_8 (fun q => (fbin P .eql 9 false x27 x28).bind fun v => q (.pure v)) (s64_1 x24)
def s64_3 x24 x1 x27 H_7 :=
 xg x24 true H_7 (fun q => q (.pure x1)) (s64_2 x24 x27)
def s64_4 x24 x1 x26 H_6 :=
 xg x24 true H_6 (fun q => (aload P H_6 9 x26).bind fun v => q (.read v)) (s64_3 x24 x1)
def s64_5 H_5 x5 x1 x24 :=
 xg x24 true H_5 (fun q => (afieldAddr P 65 x5 1).bind fun v => q (.pure v)) (s64_4 x24 x1)
def s64_6 x18 x5 x1 x23 H_5 :=
 xb (pickOf x18 (some x23) (some (.bool false))) (s64_5 H_5 x5 x1)
def s64_7 x18 x21 x5 x1 x22 H_4 :=
 xg x18 true H_4 (fun q => (fbin P .eql 3 false x21 x22).bind fun v => q (.pure v)) (s64_6 x18 x5 x1)
def s64_8 x18 x6 x5 x1 x21 H_3 :=
 xg x18 true H_3 (fun q => q (.pure x6)) (s64_7 x18 x21 x5 x1)
def s64_9 x18 x6 x5 x1 x20 H_2 :=
 xg x18 true H_2 (fun q => (aload P H_2 3 x20).bind fun v => q (.read v)) (s64_8 x18 x6 x5 x1)
def s64_10 x5 x6 x1 x18 H_1 :=
 xg x18 true H_1 (fun q => (afieldAddr P 65 x5 0).bind fun v => q (.pure v)) (s64_9 x18 x6 x5 x1)
def s64_j0 (G : CallT) x0 x1 x5 x6 H :=
 xcall H (G 38 [x0] H) (s64_10 x5 x6 x1)
theorem s64_j0_eq (G : CallT) (N : Nat) : ∀ R H, codeC P G N (Code.snd (Code.snd (Code.snd (Code.snd (bodyOf Try.f64))))) (retC P Try.f64.results.toList) [] (retC P Try.f64.results.toList) R H = s64_j0 G (R 0) (R 1) (R 5) (R 6) H := by
  intro R H
  refine Eq.trans ((via_leaf _ : ∀ R H, codeC P G N (Code.snd (Code.snd (Code.snd (Code.snd (bodyOf Try.f64))))) (retC P Try.f64.results.toList) [] (retC P Try.f64.results.toList) R H = _) R H) ?_
  delta s64_j0 s64_10 s64_9 s64_8 s64_7 s64_6 s64_5 s64_4 s64_3 s64_2 s64_1 s64_0
  kernel_rfl

def s64_11 G x0 x1 x5 H_6 :=
 s64_j0 G x0 x1 x5 (.int .i64 3) H_6
def s64_12 G x0 x1 x5 H_6 :=
 s64_j0 G x0 x1 x5 (.int .i64 4) H_6
def s64_13 G x0 x1 x5 H_6 x16 :=
 xif (some x16) (s64_11 G x0 x1 x5 H_6) (s64_12 G x0 x1 x5 H_6)
def s64_14 G x11 x0 x1 x5 x15 H_6 :=
 xb (pickOf x11 (some x15) (some (.bool false))) (s64_13 G x0 x1 x5 H_6)
def s64_15 G x11 x0 x1 x5 x14 H_5 :=
 xg x11 true H_5 (fun q => (fbin P .leq 5 true x14 (.int .u8 122)).bind fun v => q (.pure v)) (s64_14 G x11 x0 x1 x5)
def s64_16 G x11 x0 x1 x5 x13 H_4 :=
 xg x11 true H_4 (fun q => (aindex P 9 x13 (.int .i64 0)).bind fun v => q (.pure v)) (s64_15 G x11 x0 x1 x5)
def s64_17 G H_3 x1 x0 x5 x11 :=
 xg x11 true H_3 (fun q => q (.pure x1)) (s64_16 G x11 x0 x1 x5)
def s64_18 G H_3 x1 x0 x5 x10 :=
 xb (fbin P .geq 5 true x10 (.int .u8 97)) (s64_17 G H_3 x1 x0 x5)
def s64_19 G x1 x0 x5 H_3 :=
 xb (aindex P 9 x1 (.int .i64 0)) (s64_18 G H_3 x1 x0 x5)
def s64_20 G x8 x1 x0 x5 H_2 :=
 xstore H_2 (astore P H_2 65 x5 x8) (s64_19 G x1 x0 x5)
def s64_21 G x1 x0 x8 H_1 :=
 xalloc H_1 [(.int .i64 0), (.str []), (.int .i64 0), (.int .i64 0)] (s64_20 G x8 x1 x0)
/-- (*runrig/runrigref3.reader).is -/
def s64 (G : CallT) x0 x1 H :=
 xcall H (G 66 [x0] H) (s64_21 G x1 x0)
theorem s64_eq (G : CallT) (N : Nat) (x0 : AV) (x1 : AV) (H : AHeap) : codeC P G N (bodyOf Try.f64) (retC P Try.f64.results.toList) [] (retC P Try.f64.results.toList) (argsF [x0, x1]) H = s64 G x0 x1 H := by
  refine Eq.trans (((via_seq (by kernel_rfl) ((via_seq (by kernel_rfl) ((via_seq (by kernel_rfl) ((via_seq (by kernel_rfl) (s64_j0_eq G N) (via_leaf _))) (via_leaf _))) (via_leaf _))) (via_leaf _)) : ∀ R H, codeC P G N (bodyOf Try.f64) (retC P Try.f64.results.toList) [] (retC P Try.f64.results.toList) R H = _) (argsF [x0, x1]) H) ?_
  delta s64 s64_21 s64_20 s64_19 s64_18 s64_17 s64_16 s64_15 s64_14 s64_13 s64_12 s64_11
  generalize s64_j0 G = J0
  revert J0
  refine id ?_
  intro J0
  kernel_rfl

theorem run64 (N : Nat) {x0 x1 : AV} {H : AHeap} {r : AV × AHeap} (h : s64 (evw P) x0 x1 H = some r) : evw P 64 [x0, x1] H = some r :=
  evw_code (c := (bodyOf Try.f64)) (M := N) Try.func64 (by kernel_rfl) (by kernel_rfl) (by kernel_rfl) (Eq.trans (s64_eq (evw P) N x0 x1 H) h)

def s68_0 (x9 : AV) (H_2 : AHeap) : O :=
 some (.tuple [], H_2)
def s68_1 (G : CallT) H_1 x0 :=
 xcall H_1 (G 65 [x0, (.int .i64 2)] H_1) (s68_0)
def s68_2 (H_2 : AHeap) : O :=
 some (.tuple [], H_2)
def s68_3 H_1 x14 x16 :=
 xstore H_1 (astore P H_1 3 x16 x14) (s68_2)
def s68_4 H_1 x14 x15 :=
 xb (afieldAddr P 75 x15 1) (s68_3 H_1 x14)
def s68_5 x0 H_1 x14 :=
 xb (anil x0) (s68_4 H_1 x14)
def s68_6 x0 H_1 x13 :=
 xb (fbin P .add 3 true x13 (.int .i64 1)) (s68_5 x0 H_1)
def s68_7 H_1 x0 x12 :=
 xb (aload P H_1 3 x12) (s68_6 x0 H_1)
def s68_8 H_1 x0 x11 :=
 xb (afieldAddr P 75 x11 1) (s68_7 H_1 x0)
def s68_9 x0 H_1 :=
 xb (anil x0) (s68_8 H_1 x0)
def s68_10 G H_1 x0 x7 :=
 xif (some x7) (s68_1 G H_1 x0) (s68_9 x0 H_1)
def s68_11 G x0 x6 H_1 :=
 xb (aun .not x6) (s68_10 G H_1 x0)
/-- (*runrig/runrigref3.reader).take -/
def s68 (G : CallT) x0 x1 H :=
 xcall H (G 64 [x0, x1] H) (s68_11 G x0)
theorem s68_eq (G : CallT) (N : Nat) (x0 : AV) (x1 : AV) (H : AHeap) : codeC P G N (bodyOf Try.f68) (retC P Try.f68.results.toList) [] (retC P Try.f68.results.toList) (argsF [x0, x1]) H = s68 G x0 x1 H := by
  refine Eq.trans ((via_leaf _ : ∀ R H, codeC P G N (bodyOf Try.f68) (retC P Try.f68.results.toList) [] (retC P Try.f68.results.toList) R H = _) (argsF [x0, x1]) H) ?_
  delta s68 s68_11 s68_10 s68_9 s68_8 s68_7 s68_6 s68_5 s68_4 s68_3 s68_2 s68_1 s68_0
  kernel_rfl

theorem run68 (N : Nat) {x0 x1 : AV} {H : AHeap} {r : AV × AHeap} (h : s68 (evw P) x0 x1 H = some r) : evw P 68 [x0, x1] H = some r :=
  evw_code (c := (bodyOf Try.f68)) (M := N) Try.func68 (by kernel_rfl) (by kernel_rfl) (by kernel_rfl) (Eq.trans (s68_eq (evw P) N x0 x1 H) h)

def s74_0 (x15 : AV) (H_7 : AHeap) : O :=
 some (.tuple [], H_7)
def s74_1 (G : CallT) H_6 x0 :=
 xcall H_6 (G 65 [x0, (.int .i64 4)] H_6) (s74_0)
def s74_2 (H_8 : AHeap) : O :=
 some (.tuple [], H_8)
def s74_3 H_7 x23 x25 :=
 xstore H_7 (astore P H_7 3 x25 x23) (s74_2)
def s74_4 H_7 x23 x24 :=
 xb (afieldAddr P 75 x24 2) (s74_3 H_7 x23)
def s74_5 x0 H_7 x23 :=
 xb (anil x0) (s74_4 H_7 x23)
def s74_6 x0 H_7 x22 :=
 xb (fbin P .add 3 true x22 (.int .i64 1)) (s74_5 x0 H_7)
def s74_7 H_7 x0 x21 :=
 xb (aload P H_7 3 x21) (s74_6 x0 H_7)
def s74_8 H_7 x0 x20 :=
 xb (afieldAddr P 75 x20 2) (s74_7 H_7 x0)
def s74_9 x0 (x18 : AV) H_7 :=
 xb (anil x0) (s74_8 H_7 x0)
def s74_10 (G : CallT) H_6 x0 x1 :=
 xcall H_6 (G 68 [x0, x1] H_6) (s74_9 x0)
def s74_11 G H_6 x0 x1 x13 :=
 xif (some x13) (s74_1 G H_6 x0) (s74_10 G H_6 x0 x1)
def s74_12 G x6 x0 x1 x12 H_6 :=
 xb (pickOf x6 (some x12) (some (.bool false))) (s74_11 G H_6 x0 x1)
def s74_13 G x6 x0 x1 x11 H_5 :=
 xg x6 true H_5 (fun q => (fbin P .geq 3 true x11 (.int .i64 50)).bind fun v => q (.pure v)) (s74_12 G x6 x0 x1)
def s74_14 G x6 x0 x1 x10 H_4 :=
 xg x6 true H_4 (fun q => (aload P H_4 3 x10).bind fun v => q (.read v)) (s74_13 G x6 x0 x1)
def s74_15 G x6 x0 x1 x9 H_3 :=
 xg x6 true H_3 (fun q => (afieldAddr P 75 x9 2).bind fun v => q (.pure v)) (s74_14 G x6 x0 x1)
def s74_16 G x6 x0 x1 x8 H_2 :=
 xg x6 true H_2 (fun q => (anil x8).bind fun v => q (.pure v)) (s74_15 G x6 x0 x1)
def s74_17 G x0 x1 x6 H_1 :=
 xg x6 true H_1 (fun q => q (.pure x0)) (s74_16 G x6 x0 x1)
/-- (*runrig/runrigref3.reader).opens -/
def s74 (G : CallT) x0 x1 H :=
 xcall H (G 64 [x0, x1] H) (s74_17 G x0 x1)
theorem s74_eq (G : CallT) (N : Nat) (x0 : AV) (x1 : AV) (H : AHeap) : codeC P G N (bodyOf Try.f74) (retC P Try.f74.results.toList) [] (retC P Try.f74.results.toList) (argsF [x0, x1]) H = s74 G x0 x1 H := by
  refine Eq.trans ((via_leaf _ : ∀ R H, codeC P G N (bodyOf Try.f74) (retC P Try.f74.results.toList) [] (retC P Try.f74.results.toList) R H = _) (argsF [x0, x1]) H) ?_
  delta s74 s74_17 s74_16 s74_15 s74_14 s74_13 s74_12 s74_11 s74_10 s74_9 s74_8 s74_7 s74_6 s74_5 s74_4 s74_3 s74_2 s74_1 s74_0
  kernel_rfl

theorem run74 (N : Nat) {x0 x1 : AV} {H : AHeap} {r : AV × AHeap} (h : s74 (evw P) x0 x1 H = some r) : evw P 74 [x0, x1] H = some r :=
  evw_code (c := (bodyOf Try.f74)) (M := N) Try.func74 (by kernel_rfl) (by kernel_rfl) (by kernel_rfl) (Eq.trans (s74_eq (evw P) N x0 x1 H) h)

def s75_0 (H_2 : AHeap) : O :=
 some (.tuple [], H_2)
def s75_1 H_1 x11 x13 :=
 xstore H_1 (astore P H_1 3 x13 x11) (s75_0)
def s75_2 H_1 x11 x12 :=
 xb (afieldAddr P 75 x12 2) (s75_1 H_1 x11)
def s75_3 x0 H_1 x11 :=
 xb (anil x0) (s75_2 H_1 x11)
def s75_4 x0 H_1 x10 :=
 xb (fbin P .sub 3 true x10 (.int .i64 1)) (s75_3 x0 H_1)
def s75_5 H_1 x0 x9 :=
 xb (aload P H_1 3 x9) (s75_4 x0 H_1)
def s75_6 H_1 x0 x8 :=
 xb (afieldAddr P 75 x8 2) (s75_5 H_1 x0)
def s75_7 x0 (x6 : AV) H_1 :=
 xb (anil x0) (s75_6 H_1 x0)
/-- (*runrig/runrigref3.reader).closes -/
def s75 (G : CallT) x0 x1 H :=
 xcall H (G 68 [x0, x1] H) (s75_7 x0)
theorem s75_eq (G : CallT) (N : Nat) (x0 : AV) (x1 : AV) (H : AHeap) : codeC P G N (bodyOf Try.f75) (retC P Try.f75.results.toList) [] (retC P Try.f75.results.toList) (argsF [x0, x1]) H = s75 G x0 x1 H := by
  refine Eq.trans ((via_leaf _ : ∀ R H, codeC P G N (bodyOf Try.f75) (retC P Try.f75.results.toList) [] (retC P Try.f75.results.toList) R H = _) (argsF [x0, x1]) H) ?_
  delta s75 s75_7 s75_6 s75_5 s75_4 s75_3 s75_2 s75_1 s75_0
  kernel_rfl

theorem run75 (N : Nat) {x0 x1 : AV} {H : AHeap} {r : AV × AHeap} (h : s75 (evw P) x0 x1 H = some r) : evw P 75 [x0, x1] H = some r :=
  evw_code (c := (bodyOf Try.f75)) (M := N) Try.func75 (by kernel_rfl) (by kernel_rfl) (by kernel_rfl) (Eq.trans (s75_eq (evw P) N x0 x1 H) h)

def s67_0 (H_8 : AHeap) (x21 : AV) : O :=
 some (x21, H_8)
def s67_1 H_8 x20 :=
 xb (aload P H_8 9 x20) (s67_0 H_8)
def s67_2 x3 H_8 :=
 xb (afieldAddr P 65 x3 1) (s67_1 H_8)
def s67_3 H_7 x17 x3 x19 :=
 xstore H_7 (astore P H_7 3 x19 x17) (s67_2 x3)
def s67_4 H_7 x17 x3 x18 :=
 xb (afieldAddr P 75 x18 1) (s67_3 H_7 x17 x3)
def s67_5 x0 H_7 x3 x17 :=
 xb (anil x0) (s67_4 H_7 x17 x3)
def s67_6 x0 H_7 x3 x16 :=
 xb (fbin P .add 3 true x16 (.int .i64 1)) (s67_5 x0 H_7 x3)
def s67_7 H_7 x0 x3 x15 :=
 xb (aload P H_7 3 x15) (s67_6 x0 H_7 x3)
def s67_8 H_7 x0 x3 x14 :=
 xb (afieldAddr P 75 x14 1) (s67_7 H_7 x0 x3)
def s67_9 x0 H_7 x3 :=
 xb (anil x0) (s67_8 H_7 x0 x3)
def s67_10 (x23 : AV) (H_8 : AHeap) : O :=
 some ((.str []), H_8)
def s67_11 (G : CallT) H_7 x0 :=
 xcall H_7 (G 65 [x0, (.int .i64 2)] H_7) (s67_10)
def s67_12 G x0 H_7 x3 x12 :=
 xif (some x12) (s67_9 x0 H_7 x3) (s67_11 G H_7 x0)
def s67_13 G x7 x0 x3 x11 H_7 :=
 xb (pickOf x7 (some x11) (some (.bool false))) (s67_12 G x0 H_7 x3)
def s67_14 G x7 x0 x3 x10 H_6 :=
 xg x7 true H_6 (fun q => (fbin P .eql 3 true x10 (.int .i64 1)).bind fun v => q (.pure v)) (s67_13 G x7 x0 x3)
def s67_15 G x7 x0 x3 x9 H_5 :=
 xg x7 true H_5 (fun q => (aload P H_5 3 x9).bind fun v => q (.read v)) (s67_14 G x7 x0 x3)
def s67_16 G x3 x0 x7 H_4 :=
 xg x7 true H_4 (fun q => (afieldAddr P 65 x3 0).bind fun v => q (.pure v)) (s67_15 G x7 x0 x3)
def s67_17 (G : CallT) x0 x3 H_3 :=
 xcall H_3 (G 38 [x0] H_3) (s67_16 G x3 x0)
def s67_18 G x5 x0 x3 H_2 :=
 xstore H_2 (astore P H_2 65 x3 x5) (s67_17 G x0 x3)
def s67_19 G x0 x5 H_1 :=
 xalloc H_1 [(.int .i64 0), (.str []), (.int .i64 0), (.int .i64 0)] (s67_18 G x5 x0)
/-- (*runrig/runrigref3.reader).name -/
def s67 (G : CallT) x0 H :=
 xcall H (G 66 [x0] H) (s67_19 G x0)
theorem s67_eq (G : CallT) (N : Nat) (x0 : AV) (H : AHeap) : codeC P G N (bodyOf Try.f67) (retC P Try.f67.results.toList) [] (retC P Try.f67.results.toList) (argsF [x0]) H = s67 G x0 H := by
  refine Eq.trans ((via_leaf _ : ∀ R H, codeC P G N (bodyOf Try.f67) (retC P Try.f67.results.toList) [] (retC P Try.f67.results.toList) R H = _) (argsF [x0]) H) ?_
  delta s67 s67_19 s67_18 s67_17 s67_16 s67_15 s67_14 s67_13 s67_12 s67_11 s67_10 s67_9 s67_8 s67_7 s67_6 s67_5 s67_4 s67_3 s67_2 s67_1 s67_0
  kernel_rfl

theorem run67 (N : Nat) {x0 : AV} {H : AHeap} {r : AV × AHeap} (h : s67 (evw P) x0 H = some r) : evw P 67 [x0] H = some r :=
  evw_code (c := (bodyOf Try.f67)) (M := N) Try.func67 (by kernel_rfl) (by kernel_rfl) (by kernel_rfl) (Eq.trans (s67_eq (evw P) N x0 H) h)

def s37_0 (H_1 : AHeap) (r : AV) : O :=
 some (r, H_1)
def s37_1 x2 H_1 :=
 xb (aload P H_1 32 x2) (s37_0 H_1)
def s37_2 H x2 x50 :=
 xstore H (astore P H 32 x2 x50) (s37_1 x2)
def s37_j2 (G : CallT) (N : Nat) x2 x4 H :=
 xb (aload P H 32 x4) (s37_2 H x2)
theorem s37_j2_eq (G : CallT) (N : Nat) : ∀ R H, codeC P G N (Code.snd (Code.snd (Code.snd (Code.snd (Code.snd (Code.snd (bodyOf Try.f37))))))) (retC P Try.f37.results.toList) [] (retC P Try.f37.results.toList) R H = s37_j2 G N (R 2) (R 4) H := by
  intro R H
  refine Eq.trans ((via_leaf _ : ∀ R H, codeC P G N (Code.snd (Code.snd (Code.snd (Code.snd (Code.snd (Code.snd (bodyOf Try.f37))))))) (retC P Try.f37.results.toList) [] (retC P Try.f37.results.toList) R H = _) R H) ?_
  delta s37_j2 s37_2 s37_1 s37_0
  kernel_rfl

def s37_3 (L3 : AV → AV → AV → AV → AV → AHeap → O) x0 x2 x3 x4 H_1 x47 :=
 L3 x0 x2 x3 x4 x47 H_1
def s37_4 L3 x5 x0 x2 x3 x4 (x49 : AV) H_1 :=
 xb (fbin P .add 3 true x5 (.int .i64 1)) (s37_3 L3 x0 x2 x3 x4 H_1)
def s37_5 (G : CallT) L3 H x0 x5 x2 x3 x4 :=
 xcall H (G 68 [x0, (.str [93])] H) (s37_4 L3 x5 x0 x2 x3 x4)
def s37_6 G N x2 x4 H :=
 s37_j2 G N x2 x4 H
def s37_7 G N L3 H x0 x5 x2 x3 x4 x45 :=
 xif (some x45) (s37_5 G L3 H x0 x5 x2 x3 x4) (s37_6 G N x2 x4 H)
def s37_b3 G N L3 x0 x2 x3 x4 x5 H :=
 xb (fbin P .lss 3 false x5 x3) (s37_7 G N L3 H x0 x5 x2 x3 x4)
noncomputable def s37_l3 (G : CallT) (N : Nat) : Nat → AV → AV → AV → AV → AV → AHeap → O
  | 0, _, _, _, _, _, _ => none
  | n + 1, x0, x2, x3, x4, x5, H => s37_b3 G N (s37_l3 G N n) x0 x2 x3 x4 x5 H

theorem s37_b3_eq (G : CallT) (N : Nat) (L3 : AV → AV → AV → AV → AV → AHeap → O) : ∀ R H, codeC P G N (Code.fst (Code.fst (Code.snd (Code.fst (Code.snd (Code.snd (Code.snd (Code.snd (Code.snd (bodyOf Try.f37)))))))))) (fun R H => L3 (R 0) (R 2) (R 3) (R 4) (R 5) H) [(3, (fun R H => s37_j2 G N (R 2) (R 4) H))] (retC P Try.f37.results.toList) R H = s37_b3 G N L3 (R 0) (R 2) (R 3) (R 4) (R 5) H := by
  intro R H
  refine Eq.trans ((via_leaf _ : ∀ R H, codeC P G N (Code.fst (Code.fst (Code.snd (Code.fst (Code.snd (Code.snd (Code.snd (Code.snd (Code.snd (bodyOf Try.f37)))))))))) (fun R H => L3 (R 0) (R 2) (R 3) (R 4) (R 5) H) [(3, (fun R H => s37_j2 G N (R 2) (R 4) H))] (retC P Try.f37.results.toList) R H = _) R H) ?_
  delta s37_b3 s37_7 s37_6 s37_5 s37_4 s37_3
  generalize s37_j2 G N = J0
  revert J0
  refine id ?_
  intro J0
  kernel_rfl

def s37_j1 G N x0 x2 x3 x4 H :=
 s37_l3 G N N x0 x2 x3 x4 (.int .i64 0) H
theorem s37_j1_eq (G : CallT) (N : Nat) : ∀ R H, codeC P G N (Code.snd (Code.snd (Code.snd (Code.snd (Code.snd (bodyOf Try.f37)))))) (retC P Try.f37.results.toList) [] (retC P Try.f37.results.toList) R H = s37_j1 G N (R 0) (R 2) (R 3) (R 4) H := by
  intro R H
  refine Eq.trans (((via_seq (by kernel_rfl) (s37_j2_eq G N) ((via_seq (by kernel_rfl) ((via_block (by kernel_rfl) ((via_loop (k := fun m R H => s37_l3 G N m (R 0) (R 2) (R 3) (R 4) (R 5) H) (by kernel_rfl) (fun R H => by kernel_rfl) (fun m => s37_b3_eq G N (s37_l3 G N m)))))) (via_leaf _)))) : ∀ R H, codeC P G N (Code.snd (Code.snd (Code.snd (Code.snd (Code.snd (bodyOf Try.f37)))))) (retC P Try.f37.results.toList) [] (retC P Try.f37.results.toList) R H = _) R H) ?_
  delta s37_j1
  generalize s37_l3 G N N = J0
  revert J0
  refine id ?_
  intro J0
  kernel_rfl

def s37_8 G N x0 x2 x3 x4 H_3 :=
 s37_j1 G N x0 x2 x3 x4 H_3
def s37_9 G N H_2 x40 x0 x2 x3 x4 x42 :=
 xstore H_2 (astore P H_2 3 x42 x40) (s37_8 G N x0 x2 x3 x4)
def s37_10 G N H_2 x40 x0 x2 x3 x4 x41 :=
 xb (afieldAddr P 75 x41 1) (s37_9 G N H_2 x40 x0 x2 x3 x4)
def s37_11 G N x0 H_2 x2 x3 x4 x40 :=
 xb (anil x0) (s37_10 G N H_2 x40 x0 x2 x3 x4)
def s37_12 G N x0 H_2 x2 x3 x4 x39 :=
 xb (fbin P .add 3 true x39 (.int .i64 1)) (s37_11 G N x0 H_2 x2 x3 x4)
def s37_13 G N H_2 x0 x2 x3 x4 x38 :=
 xb (aload P H_2 3 x38) (s37_12 G N x0 H_2 x2 x3 x4)
def s37_14 G N H_2 x0 x2 x3 x4 x37 :=
 xb (afieldAddr P 75 x37 1) (s37_13 G N H_2 x0 x2 x3 x4)
def s37_15 G N x0 x2 x3 x4 H_2 :=
 xb (anil x0) (s37_14 G N H_2 x0 x2 x3 x4)
def s37_16 G N H_1 x34 x0 x2 x3 x4 x35 :=
 xstore H_1 (astore P H_1 9 x35 x34) (s37_15 G N x0 x2 x3 x4)
def s37_17 G N x4 H_1 x0 x2 x3 x34 :=
 xb (afieldAddr P 32 x4 0) (s37_16 G N H_1 x34 x0 x2 x3 x4)
def s37_18 G N x4 x0 x2 x3 x33 H_1 :=
 xb (afield P 65 x33 1) (s37_17 G N x4 H_1 x0 x2 x3)
def s37_19 (G : CallT) N H x0 x4 x2 x3 :=
 xcall H (G 66 [x0] H) (s37_18 G N x4 x0 x2 x3)
def s37_20 G N x0 x2 x3 x4 H_2 :=
 s37_j1 G N x0 x2 x3 x4 H_2
def s37_21 G N H_1 x25 x0 x2 x3 x4 x26 :=
 xstore H_1 (astore P H_1 9 x26 x25) (s37_20 G N x0 x2 x3 x4)
def s37_22 G N x4 x0 x2 x3 x25 H_1 :=
 xb (afieldAddr P 32 x4 0) (s37_21 G N H_1 x25 x0 x2 x3 x4)
def s37_23 (G : CallT) N H x0 x4 x2 x3 :=
 xcall H (G 67 [x0] H) (s37_22 G N x4 x0 x2 x3)
def s37_j4 G N x0 x2 x3 x4 x27 H :=
 xif (some x27) (s37_19 G N H x0 x4 x2 x3) (s37_23 G N H x0 x4 x2 x3)
theorem s37_j4_eq (G : CallT) (N : Nat) : ∀ R H, codeC P G N (Code.snd (Code.fst (Code.fst (Code.snd (Code.snd (Code.snd (Code.snd (bodyOf Try.f37)))))))) (fun R H => s37_j1 G N (R 0) (R 2) (R 3) (R 4) H) [(2, (fun R H => s37_j1 G N (R 0) (R 2) (R 3) (R 4) H))] (retC P Try.f37.results.toList) R H = s37_j4 G N (R 0) (R 2) (R 3) (R 4) (R 27) H := by
  intro R H
  refine Eq.trans ((via_leaf _ : ∀ R H, codeC P G N (Code.snd (Code.fst (Code.fst (Code.snd (Code.snd (Code.snd (Code.snd (bodyOf Try.f37)))))))) (fun R H => s37_j1 G N (R 0) (R 2) (R 3) (R 4) H) [(2, (fun R H => s37_j1 G N (R 0) (R 2) (R 3) (R 4) H))] (retC P Try.f37.results.toList) R H = _) R H) ?_
  delta s37_j4 s37_23 s37_22 s37_21 s37_20 s37_19 s37_18 s37_17 s37_16 s37_15 s37_14 s37_13 s37_12 s37_11 s37_10 s37_9 s37_8
  generalize s37_j1 G N = J0
  revert J0
  refine id ?_
  intro J0
  kernel_rfl

def s37_24 G N x0 x2 x3 x4 x29 H_3 :=
 s37_j4 G N x0 x2 x3 x4 x29 H_3
def s37_25 G N x0 x2 x3 x4 x31 H_4 :=
 s37_j4 G N x0 x2 x3 x4 x31 H_4
def s37_26 (G : CallT) N H_3 x0 x2 x3 x4 :=
 xcall H_3 (G 64 [x0, (.str [98, 111, 111, 108])] H_3) (s37_25 G N x0 x2 x3 x4)
def s37_27 G N x0 x2 x3 x4 x29 H_3 :=
 xif (some x29) (s37_24 G N x0 x2 x3 x4 x29 H_3) (s37_26 G N H_3 x0 x2 x3 x4)
def s37_28 (G : CallT) N x0 x2 x3 x4 H_2 :=
 xcall H_2 (G 64 [x0, (.str [105, 110, 116])] H_2) (s37_27 G N x0 x2 x3 x4)
def s37_29 G N x23 x0 x2 x3 x4 H_1 :=
 xstore H_1 (astore P H_1 32 x4 x23) (s37_28 G N x0 x2 x3 x4)
def s37_30 G N H x0 x2 x3 x23 :=
 xalloc H [(.str []), (.int .i64 0)] (s37_29 G N x23 x0 x2 x3)
def s37_j0 G N x0 x2 x3 H :=
 xb (abuild P 32 [(1, x3)]) (s37_30 G N H x0 x2 x3)
theorem s37_j0_eq (G : CallT) (N : Nat) : ∀ R H, codeC P G N (Code.snd (Code.snd (Code.snd (bodyOf Try.f37)))) (retC P Try.f37.results.toList) [] (retC P Try.f37.results.toList) R H = s37_j0 G N (R 0) (R 2) (R 3) H := by
  intro R H
  refine Eq.trans (((via_seq (by kernel_rfl) ((via_seq (by kernel_rfl) (s37_j1_eq G N) ((via_block (by kernel_rfl) ((via_seq (by kernel_rfl) (s37_j4_eq G N) (via_leaf _))))))) (via_leaf _)) : ∀ R H, codeC P G N (Code.snd (Code.snd (Code.snd (bodyOf Try.f37)))) (retC P Try.f37.results.toList) [] (retC P Try.f37.results.toList) R H = _) R H) ?_
  delta s37_j0 s37_30 s37_29 s37_28 s37_27 s37_26 s37_25 s37_24
  generalize s37_j4 G N = J0
  revert J0
  refine id ?_
  intro J0
  kernel_rfl

def s37_31 (H_3 : AHeap) (r : AV) : O :=
 some (r, H_3)
def s37_32 x2 H_3 :=
 xb (aload P H_3 32 x2) (s37_31 H_3)
def s37_33 x2 (x11 : AV) H_2 :=
 xstore H_2 (astore P H_2 32 x2 (.agg [(.str []), (.int .i64 0)])) (s37_32 x2)
def s37_34 (G : CallT) H_1 x0 x2 :=
 xcall H_1 (G 65 [x0, (.int .i64 4)] H_1) (s37_33 x2)
def s37_35 (L5 : AV → AV → AV → AHeap → O) x0 x2 H_2 x21 :=
 L5 x0 x2 x21 H_2
def s37_36 L5 x3 x0 x2 H_2 :=
 xb (fbin P .add 3 true x3 (.int .i64 1)) (s37_35 L5 x0 x2 H_2)
def s37_37 L5 H_1 x17 x3 x0 x2 x19 :=
 xstore H_1 (astore P H_1 3 x19 x17) (s37_36 L5 x3 x0 x2)
def s37_38 L5 H_1 x17 x3 x0 x2 x18 :=
 xb (afieldAddr P 75 x18 1) (s37_37 L5 H_1 x17 x3 x0 x2)
def s37_39 L5 x0 H_1 x3 x2 x17 :=
 xb (anil x0) (s37_38 L5 H_1 x17 x3 x0 x2)
def s37_40 L5 x0 H_1 x3 x2 x16 :=
 xb (fbin P .add 3 true x16 (.int .i64 1)) (s37_39 L5 x0 H_1 x3 x2)
def s37_41 L5 H_1 x0 x3 x2 x15 :=
 xb (aload P H_1 3 x15) (s37_40 L5 x0 H_1 x3 x2)
def s37_42 L5 H_1 x0 x3 x2 x14 :=
 xb (afieldAddr P 75 x14 1) (s37_41 L5 H_1 x0 x3 x2)
def s37_43 L5 x0 H_1 x3 x2 :=
 xb (anil x0) (s37_42 L5 H_1 x0 x3 x2)
def s37_44 G L5 H_1 x0 x2 x3 x9 :=
 xif (some x9) (s37_34 G H_1 x0 x2) (s37_43 L5 x0 H_1 x3 x2)
def s37_45 G L5 x3 H_1 x0 x2 :=
 xb (fbin P .eql 3 true x3 (.int .i64 3)) (s37_44 G L5 H_1 x0 x2 x3)
def s37_46 G N x0 x2 x3 H_1 :=
 s37_j0 G N x0 x2 x3 H_1
def s37_47 G N L5 x3 x0 x2 x7 H_1 :=
 xif (some x7) (s37_45 G L5 x3 H_1 x0 x2) (s37_46 G N x0 x2 x3 H_1)
def s37_b5 (G : CallT) N L5 x0 x2 x3 H :=
 xcall H (G 64 [x0, (.str [91])] H) (s37_47 G N L5 x3 x0 x2)
noncomputable def s37_l5 (G : CallT) (N : Nat) : Nat → AV → AV → AV → AHeap → O
  | 0, _, _, _, _ => none
  | n + 1, x0, x2, x3, H => s37_b5 G N (s37_l5 G N n) x0 x2 x3 H

theorem s37_b5_eq (G : CallT) (N : Nat) (L5 : AV → AV → AV → AHeap → O) : ∀ R H, codeC P G N (Code.fst (Code.fst (Code.fst (Code.snd (Code.snd (bodyOf Try.f37)))))) (fun R H => L5 (R 0) (R 2) (R 3) H) [(0, (fun R H => s37_j0 G N (R 0) (R 2) (R 3) H))] (retC P Try.f37.results.toList) R H = s37_b5 G N L5 (R 0) (R 2) (R 3) H := by
  intro R H
  refine Eq.trans ((via_leaf _ : ∀ R H, codeC P G N (Code.fst (Code.fst (Code.fst (Code.snd (Code.snd (bodyOf Try.f37)))))) (fun R H => L5 (R 0) (R 2) (R 3) H) [(0, (fun R H => s37_j0 G N (R 0) (R 2) (R 3) H))] (retC P Try.f37.results.toList) R H = _) R H) ?_
  delta s37_b5 s37_47 s37_46 s37_45 s37_44 s37_43 s37_42 s37_41 s37_40 s37_39 s37_38 s37_37 s37_36 s37_35 s37_34 s37_33 s37_32 s37_31
  generalize s37_j0 G N = J0
  revert J0
  refine id ?_
  intro J0
  kernel_rfl

def s37_48 G N x0 x2 H_1 :=
 s37_l5 G N N x0 x2 (.int .i64 0) H_1
/-- (*runrig/runrigref3.reader).of -/
def s37 G N x0 H :=
 xalloc H [(.str []), (.int .i64 0)] (s37_48 G N x0)
theorem s37_eq (G : CallT) (N : Nat) (x0 : AV) (H : AHeap) : codeC P G N (bodyOf Try.f37) (retC P Try.f37.results.toList) [] (retC P Try.f37.results.toList) (argsF [x0]) H = s37 G N x0 H := by
  refine Eq.trans (((via_seq (by kernel_rfl) ((via_seq (by kernel_rfl) ((via_seq (by kernel_rfl) (s37_j0_eq G N) ((via_block (by kernel_rfl) ((via_loop (k := fun m R H => s37_l5 G N m (R 0) (R 2) (R 3) H) (by kernel_rfl) (fun R H => by kernel_rfl) (fun m => s37_b5_eq G N (s37_l5 G N m)))))))) (via_leaf _))) (via_leaf _)) : ∀ R H, codeC P G N (bodyOf Try.f37) (retC P Try.f37.results.toList) [] (retC P Try.f37.results.toList) R H = _) (argsF [x0]) H) ?_
  delta s37 s37_48
  generalize s37_l5 G N N = J0
  revert J0
  refine id ?_
  intro J0
  kernel_rfl

theorem run37 (N : Nat) {x0 : AV} {H : AHeap} {r : AV × AHeap} (h : s37 (evw P) N x0 H = some r) : evw P 37 [x0] H = some r :=
  evw_code (c := (bodyOf Try.f37)) (M := N) Try.func37 (by kernel_rfl) (by kernel_rfl) (by kernel_rfl) (Eq.trans (s37_eq (evw P) N x0 H) h)

def s70_0 (H_1 : AHeap) : O :=
 some ((.int .i64 0), H_1)
def s70_j0 (G : CallT) (N : Nat) (H : AHeap) : O :=
 some ((.int .i64 0), H)
theorem s70_j0_eq (G : CallT) (N : Nat) : ∀ R H, codeC P G N (Code.snd (Code.snd (Code.snd (Code.snd (Code.snd (bodyOf Try.f70)))))) (retC P Try.f70.results.toList) [] (retC P Try.f70.results.toList) R H = s70_j0 G N H := by
  intro R H
  refine Eq.trans ((via_leaf _ : ∀ R H, codeC P G N (Code.snd (Code.snd (Code.snd (Code.snd (Code.snd (bodyOf Try.f70)))))) (retC P Try.f70.results.toList) [] (retC P Try.f70.results.toList) R H = _) R H) ?_
  delta s70_j0
  kernel_rfl

def s70_1 (H : AHeap) (x48 : AV) : O :=
 some (x48, H)
def s70_2 H x47 :=
 xb (aload P H 3 x47) (s70_1 H)
def s70_3 x7 H x45 :=
 xb (aindexAddr P 48 x45 x7) (s70_2 H)
def s70_4 H x7 x44 :=
 xb (aload P H 48 x44) (s70_3 x7 H)
def s70_5 x6 x0 H x7 :=
 xb (aindexAddr P 109 x6 x0) (s70_4 H x7)
def s70_6 (L1 : AV → AV → AV → AV → AV → AHeap → O) x0 x3 x5 x6 H x31 :=
 L1 x0 x3 x5 x6 x31 H
def s70_7 L1 x7 x0 x3 x5 x6 H :=
 xb (fbin P .add 3 true x7 (.int .i64 1)) (s70_6 L1 x0 x3 x5 x6 H)
def s70_8 L1 x6 x0 H x7 x3 x5 x41 :=
 xif (some x41) (s70_5 x6 x0 H x7) (s70_7 L1 x7 x0 x3 x5 x6 H)
def s70_9 L1 x38 x6 x0 H x7 x3 x5 x40 :=
 xb (fbin P .eql 9 false x38 x40) (s70_8 L1 x6 x0 H x7 x3 x5)
def s70_10 L1 H x38 x6 x0 x7 x3 x5 x39 :=
 xb (aload P H 9 x39) (s70_9 L1 x38 x6 x0 H x7 x3 x5)
def s70_11 L1 x3 H x6 x0 x7 x5 x38 :=
 xb (afieldAddr P 65 x3 1) (s70_10 L1 H x38 x6 x0 x7 x3 x5)
def s70_12 L1 H x3 x6 x0 x7 x5 x37 :=
 xb (aload P H 9 x37) (s70_11 L1 x3 H x6 x0 x7 x5)
def s70_13 L1 x7 H x3 x6 x0 x5 x35 :=
 xb (aindexAddr P 46 x35 x7) (s70_12 L1 H x3 x6 x0 x7 x5)
def s70_14 L1 H x7 x3 x6 x0 x5 x34 :=
 xb (aload P H 46 x34) (s70_13 L1 x7 H x3 x6 x0 x5)
def s70_15 L1 x5 x0 H x7 x3 x6 :=
 xb (aindexAddr P 108 x5 x0) (s70_14 L1 H x7 x3 x6 x0 x5)
def s70_16 G N H :=
 s70_j0 G N H
def s70_17 G N L1 x5 x0 H x7 x3 x6 x29 :=
 xif (some x29) (s70_15 L1 x5 x0 H x7 x3 x6) (s70_16 G N H)
def s70_18 G N L1 x7 x5 x0 H x3 x6 x28 :=
 xb (fbin P .lss 3 false x7 x28) (s70_17 G N L1 x5 x0 H x7 x3 x6)
def s70_19 G N L1 H x7 x5 x0 x3 x6 x27 :=
 xlen P .len [46] [x27] H (s70_18 G N L1 x7 x5 x0 H x3 x6)
def s70_20 G N L1 H x7 x5 x0 x3 x6 x26 :=
 xb (aload P H 46 x26) (s70_19 G N L1 H x7 x5 x0 x3 x6)
def s70_b1 G N L1 x0 x3 x5 x6 x7 H :=
 xb (aindexAddr P 108 x5 x0) (s70_20 G N L1 H x7 x5 x0 x3 x6)
noncomputable def s70_l1 (G : CallT) (N : Nat) : Nat → AV → AV → AV → AV → AV → AHeap → O
  | 0, _, _, _, _, _, _ => none
  | n + 1, x0, x3, x5, x6, x7, H => s70_b1 G N (s70_l1 G N n) x0 x3 x5 x6 x7 H

theorem s70_b1_eq (G : CallT) (N : Nat) (L1 : AV → AV → AV → AV → AV → AHeap → O) : ∀ R H, codeC P G N (Code.fst (Code.fst (Code.snd (Code.fst (Code.snd (Code.snd (Code.snd (Code.snd (bodyOf Try.f70))))))))) (fun R H => L1 (R 0) (R 3) (R 5) (R 6) (R 7) H) [(0, (fun R H => s70_j0 G N H))] (retC P Try.f70.results.toList) R H = s70_b1 G N L1 (R 0) (R 3) (R 5) (R 6) (R 7) H := by
  intro R H
  refine Eq.trans ((via_leaf _ : ∀ R H, codeC P G N (Code.fst (Code.fst (Code.snd (Code.fst (Code.snd (Code.snd (Code.snd (Code.snd (bodyOf Try.f70))))))))) (fun R H => L1 (R 0) (R 3) (R 5) (R 6) (R 7) H) [(0, (fun R H => s70_j0 G N H))] (retC P Try.f70.results.toList) R H = _) R H) ?_
  delta s70_b1 s70_20 s70_19 s70_18 s70_17 s70_16 s70_15 s70_14 s70_13 s70_12 s70_11 s70_10 s70_9 s70_8 s70_7 s70_6 s70_5 s70_4 s70_3 s70_2 s70_1
  generalize s70_j0 G N = J0
  revert J0
  refine id ?_
  intro J0
  kernel_rfl

def s70_21 G N x0 x3 x16 x22 H_13 :=
 s70_l1 G N N x0 x3 x16 x22 (.int .i64 0) H_13
def s70_22 G N x17 x18 x19 x20 x0 x3 x16 x21 H_12 :=
 xmake H_12 (sliceOf P (H_12).next 109 5 [(0, x17), (1, x18), (2, x19), (3, x20), (4, x21)]) (s70_21 G N x0 x3 x16)
def s70_23 G N x17 x18 x19 x0 x3 x16 x20 H_11 :=
 xmake H_11 (some (.sl (H_11).next 0 3 1 (some 3), .row false 1 [[(.int .i64 16)], [(.int .i64 17)], [(.int .i64 18)]])) (s70_22 G N x17 x18 x19 x20 x0 x3 x16)
def s70_24 G N x17 x18 x0 x3 x16 x19 H_10 :=
 xmake H_10 (some (.sl (H_10).next 0 2 1 (some 2), .row false 1 [[(.int .i64 14)], [(.int .i64 15)]])) (s70_23 G N x17 x18 x19 x0 x3 x16)
def s70_25 G N x17 x0 x3 x16 x18 H_9 :=
 xmake H_9 (some (.sl (H_9).next 0 4 1 (some 4), .row false 1 [[(.int .i64 19)], [(.int .i64 20)], [(.int .i64 21)], [(.int .i64 22)]])) (s70_24 G N x17 x18 x0 x3 x16)
def s70_26 G N x0 x3 x16 x17 H_8 :=
 xmake H_8 (some (.sl (H_8).next 0 1 1 (some 1), .row false 1 [[(.int .i64 23)]])) (s70_25 G N x17 x0 x3 x16)
def s70_27 G N x0 x3 x16 H_7 :=
 xmake H_7 (some (.sl (H_7).next 0 1 1 (some 1), .row false 1 [[(.int .i64 24)]])) (s70_26 G N x0 x3 x16)
def s70_28 G N x11 x12 x13 x14 x0 x3 x15 H_6 :=
 xmake H_6 (sliceOf P (H_6).next 108 5 [(0, x11), (1, x12), (2, x13), (3, x14), (4, x15)]) (s70_27 G N x0 x3)
def s70_29 G N x11 x12 x13 x0 x3 x14 H_5 :=
 xmake H_5 (some (.sl (H_5).next 0 3 1 (some 3), .row false 1 [[(.str [42])], [(.str [47])], [(.str [37])]])) (s70_28 G N x11 x12 x13 x14 x0 x3)
def s70_30 G N x11 x12 x0 x3 x13 H_4 :=
 xmake H_4 (some (.sl (H_4).next 0 2 1 (some 2), .row false 1 [[(.str [43])], [(.str [45])]])) (s70_29 G N x11 x12 x13 x0 x3)
def s70_31 G N x11 x0 x3 x12 H_3 :=
 xmake H_3 (some (.sl (H_3).next 0 4 1 (some 4), .row false 1 [[(.str [60])], [(.str [60, 61])], [(.str [61, 61])], [(.str [33, 61])]])) (s70_30 G N x11 x12 x0 x3)
def s70_32 G N x0 x3 x11 H_2 :=
 xmake H_2 (some (.sl (H_2).next 0 1 1 (some 1), .row false 1 [[(.str [38, 38])]])) (s70_31 G N x11 x0 x3)
def s70_33 G N H_1 x0 x3 :=
 xmake H_1 (some (.sl (H_1).next 0 1 1 (some 1), .row false 1 [[(.str [124, 124])]])) (s70_32 G N x0 x3)
def s70_34 G N H_1 x0 x3 x10 :=
 xif (some x10) (s70_0 H_1) (s70_33 G N H_1 x0 x3)
def s70_35 G N H_1 x0 x3 x9 :=
 xb (fbin P .neq 3 true x9 (.int .i64 4)) (s70_34 G N H_1 x0 x3)
def s70_36 G N H_1 x0 x3 x8 :=
 xb (aload P H_1 3 x8) (s70_35 G N H_1 x0 x3)
def s70_37 G N x0 x3 H_1 :=
 xb (afieldAddr P 65 x3 0) (s70_36 G N H_1 x0 x3)
/-- runrig/runrigref3.level -/
def s70 G N x0 x1 H :=
 xmake H (boxOf (H).next x1) (s70_37 G N x0)
theorem s70_eq (G : CallT) (N : Nat) (x0 : AV) (x1 : AV) (H : AHeap) : codeC P G N (bodyOf Try.f70) (retC P Try.f70.results.toList) [] (retC P Try.f70.results.toList) (argsF [x0, x1]) H = s70 G N x0 x1 H := by
  refine Eq.trans (((via_seq (by kernel_rfl) ((via_seq (by kernel_rfl) ((via_seq (by kernel_rfl) ((via_seq (by kernel_rfl) ((via_seq (by kernel_rfl) (s70_j0_eq G N) ((via_seq (by kernel_rfl) ((via_block (by kernel_rfl) ((via_loop (k := fun m R H => s70_l1 G N m (R 0) (R 3) (R 5) (R 6) (R 7) H) (by kernel_rfl) (fun R H => by kernel_rfl) (fun m => s70_b1_eq G N (s70_l1 G N m)))))) (via_leaf _))))) (via_leaf _))) (via_leaf _))) (via_leaf _))) (via_leaf _)) : ∀ R H, codeC P G N (bodyOf Try.f70) (retC P Try.f70.results.toList) [] (retC P Try.f70.results.toList) R H = _) (argsF [x0, x1]) H) ?_
  delta s70 s70_37 s70_36 s70_35 s70_34 s70_33 s70_32 s70_31 s70_30 s70_29 s70_28 s70_27 s70_26 s70_25 s70_24 s70_23 s70_22 s70_21 s70_0
  generalize s70_l1 G N N = J0
  revert J0
  refine id ?_
  intro J0
  kernel_rfl

theorem run70 (N : Nat) {x0 x1 : AV} {H : AHeap} {r : AV × AHeap} (h : s70 (evw P) N x0 x1 H = some r) : evw P 70 [x0, x1] H = some r :=
  evw_code (c := (bodyOf Try.f70)) (M := N) Try.func70 (by kernel_rfl) (by kernel_rfl) (by kernel_rfl) (Eq.trans (s70_eq (evw P) N x0 x1 H) h)

def s39_0 (H_3 : AHeap) (r : AV) : O :=
 some (r, H_3)
def s39_1 x4 H_3 :=
 xb (aload P H_3 39 x4) (s39_0 H_3)
def s39_2 x4 x11 H_2 :=
 xstore H_2 (astore P H_2 39 x4 x11) (s39_1 x4)
def s39_3 (G : CallT) H_1 x0 x4 :=
 xcall H_1 (G 69 [x0] H_1) (s39_2 x4)
def s39_4 (H_1 : AHeap) (r : AV) : O :=
 some (r, H_1)
def s39_5 x4 H_1 :=
 xb (aload P H_1 39 x4) (s39_4 H_1)
def s39_6 H x4 x47 :=
 xstore H (astore P H 39 x4 x47) (s39_5 x4)
def s39_j0 (G : CallT) (N : Nat) x4 x5 H :=
 xb (aload P H 39 x5) (s39_6 H x4)
theorem s39_j0_eq (G : CallT) (N : Nat) : ∀ R H, codeC P G N (Code.snd (Code.snd (Code.snd (Code.snd (bodyOf Try.f39))))) (retC P Try.f39.results.toList) [] (retC P Try.f39.results.toList) R H = s39_j0 G N (R 4) (R 5) H := by
  intro R H
  refine Eq.trans ((via_leaf _ : ∀ R H, codeC P G N (Code.snd (Code.snd (Code.snd (Code.snd (bodyOf Try.f39))))) (retC P Try.f39.results.toList) [] (retC P Try.f39.results.toList) R H = _) R H) ?_
  delta s39_j0 s39_6 s39_5 s39_4
  kernel_rfl

def s39_7 (L1 : AV → AV → AV → AV → AHeap → O) x0 x1 x4 x5 H_16 :=
 L1 x0 x1 x4 x5 H_16
def s39_8 L1 H_13 x6 x39 x5 x41 H_14 x7 x42 x44 x45 H_15 x0 x1 x4 H_16 :=
 bif ((rdIs (aload P H_13 65 x6) x39 && true) && ((rdIs (aload P H_13 39 x5) x41 && (rdIs (aload P H_14 39 x5) x41 && true)) && ((rdIs (aload P H_13 39 x7) x42 && (rdIs (aload P H_14 39 x7) x42 && true)) && ((rdIs (aload P H_13 3 x44) x45 && (rdIs (aload P H_14 3 x44) x45 && (rdIs (aload P H_15 3 x44) x45 && true))) && true)))) then s39_7 L1 x0 x1 x4 x5 H_16 else none
def s39_9 L1 H_15 x5 H_13 x6 x39 x41 H_14 x7 x42 x44 x45 x0 x1 x4 x46 :=
 xstore H_15 (astore P H_15 39 x5 x46) (s39_8 L1 H_13 x6 x39 x5 x41 H_14 x7 x42 x44 x45 H_15 x0 x1 x4)
def s39_10 L1 x40 x43 H_15 x5 H_13 x6 x39 x41 H_14 x7 x42 x44 x0 x1 x4 x45 :=
 xb (abuild P 39 [(0, x40), (4, x43), (5, x45)]) (s39_9 L1 H_15 x5 H_13 x6 x39 x41 H_14 x7 x42 x44 x45 x0 x1 x4)
def s39_11 L1 H_15 x40 x43 x5 H_13 x6 x39 x41 H_14 x7 x42 x0 x1 x4 x44 :=
 xb (aload P H_15 3 x44) (s39_10 L1 x40 x43 H_15 x5 H_13 x6 x39 x41 H_14 x7 x42 x44 x0 x1 x4)
def s39_12 L1 x6 x40 x5 H_13 x39 x41 H_14 x7 x42 x0 x1 x4 x43 H_15 :=
 xb (afieldAddr P 65 x6 3) (s39_11 L1 H_15 x40 x43 x5 H_13 x6 x39 x41 H_14 x7 x42 x0 x1 x4)
def s39_13 L1 H_14 x41 x6 x40 x5 H_13 x39 x7 x0 x1 x4 x42 :=
 xmake H_14 (sliceOf P (H_14).next 35 2 [(0, x41), (1, x42)]) (s39_12 L1 x6 x40 x5 H_13 x39 x41 H_14 x7 x42 x0 x1 x4)
def s39_14 L1 H_14 x7 x6 x40 x5 H_13 x39 x0 x1 x4 x41 :=
 xb (aload P H_14 39 x7) (s39_13 L1 H_14 x41 x6 x40 x5 H_13 x39 x7 x0 x1 x4)
def s39_15 L1 x5 x7 x6 H_13 x39 x0 x1 x4 x40 H_14 :=
 xb (aload P H_14 39 x5) (s39_14 L1 H_14 x7 x6 x40 x5 H_13 x39 x0 x1 x4)
def s39_16 (G : CallT) L1 H_13 x1 x5 x7 x6 x0 x4 x39 :=
 xcall H_13 (G 70 [x1, x39] H_13) (s39_15 L1 x5 x7 x6 H_13 x39 x0 x1 x4)
def s39_17 G L1 x6 x1 x5 x7 x0 x4 H_13 :=
 xb (aload P H_13 65 x6) (s39_16 G L1 H_13 x1 x5 x7 x6 x0 x4)
def s39_18 G L1 x37 x6 x1 x5 x0 x4 x7 H_12 :=
 xstore H_12 (astore P H_12 39 x7 x37) (s39_17 G L1 x6 x1 x5 x7 x0 x4)
def s39_19 G L1 x6 x1 x5 x0 x4 x37 H_11 :=
 xalloc H_11 [(.int .i64 0), (.int .i64 0), (.str []), (.str []), (.int .i64 0), AV.nilSl, (.int .i64 0), (.int .i64 0), (.int .i64 0), (.int .i64 0), (.int .i64 0)] (s39_18 G L1 x37 x6 x1 x5 x0 x4)
def s39_20 (G : CallT) L1 H_10 x0 x6 x1 x5 x4 x36 :=
 xcall H_10 (G 39 [x0, x36] H_10) (s39_19 G L1 x6 x1 x5 x0 x4)
def s39_21 G L1 x1 x0 x6 x5 x4 H_10 :=
 xb (fbin P .add 3 true x1 (.int .i64 1)) (s39_20 G L1 H_10 x0 x6 x1 x5 x4)
def s39_22 G L1 H_9 x31 x1 x0 x6 x5 x4 x33 :=
 xstore H_9 (astore P H_9 3 x33 x31) (s39_21 G L1 x1 x0 x6 x5 x4)
def s39_23 G L1 H_9 x31 x1 x0 x6 x5 x4 x32 :=
 xb (afieldAddr P 75 x32 1) (s39_22 G L1 H_9 x31 x1 x0 x6 x5 x4)
def s39_24 G L1 x0 H_9 x1 x6 x5 x4 x31 :=
 xb (anil x0) (s39_23 G L1 H_9 x31 x1 x0 x6 x5 x4)
def s39_25 G L1 x0 H_9 x1 x6 x5 x4 x30 :=
 xb (fbin P .add 3 true x30 (.int .i64 1)) (s39_24 G L1 x0 H_9 x1 x6 x5 x4)
def s39_26 G L1 H_9 x0 x1 x6 x5 x4 x29 :=
 xb (aload P H_9 3 x29) (s39_25 G L1 x0 H_9 x1 x6 x5 x4)
def s39_27 G L1 H_9 x0 x1 x6 x5 x4 x28 :=
 xb (afieldAddr P 75 x28 1) (s39_26 G L1 H_9 x0 x1 x6 x5 x4)
def s39_28 G L1 x0 x1 x6 x5 x4 H_9 :=
 xb (anil x0) (s39_27 G L1 H_9 x0 x1 x6 x5 x4)
def s39_29 G L1 x26 x0 x1 x5 x4 x6 H_8 :=
 xstore H_8 (astore P H_8 65 x6 x26) (s39_28 G L1 x0 x1 x6 x5 x4)
def s39_30 G L1 x0 x1 x5 x4 x26 H_7 :=
 xalloc H_7 [(.int .i64 0), (.str []), (.int .i64 0), (.int .i64 0)] (s39_29 G L1 x26 x0 x1 x5 x4)
def s39_31 (G : CallT) L1 H_6 x0 x1 x5 x4 :=
 xcall H_6 (G 66 [x0] H_6) (s39_30 G L1 x0 x1 x5 x4)
def s39_32 G N x4 x5 H_6 :=
 s39_j0 G N x4 x5 H_6
def s39_33 G N L1 H_6 x0 x1 x5 x4 x24 :=
 xif (some x24) (s39_31 G L1 H_6 x0 x1 x5 x4) (s39_32 G N x4 x5 H_6)
def s39_34 G N L1 x17 x0 x1 x5 x4 x23 H_6 :=
 xb (pickOf x17 (some x23) (some (.bool false))) (s39_33 G N L1 H_6 x0 x1 x5 x4)
def s39_35 G N L1 x17 x0 x1 x5 x4 x22 H_5 :=
 xg x17 true H_5 (fun q => (fbin P .neq 3 true x22 (.int .i64 0)).bind fun v => q (.pure v)) (s39_34 G N L1 x17 x0 x1 x5 x4)
def s39_36 (G : CallT) N L1 x17 x19 x0 x1 x5 x4 x21 H_4 :=
 xg x17 true H_4 (fun q => xeff H_4 (G 70 [x19, x21] H_4) q) (s39_35 G N L1 x17 x0 x1 x5 x4)
def s39_37 (G : CallT) N L1 x17 x19 x0 x1 x5 x4 x20 H_3 :=
 xg x17 true H_3 (fun q => xeff H_3 (G 66 [x20] H_3) q) (s39_36 G N L1 x17 x19 x0 x1 x5 x4)
def s39_38 G N L1 x17 x0 x1 x5 x4 x19 H_2 :=
 xg x17 true H_2 (fun q => q (.pure x0)) (s39_37 G N L1 x17 x19 x0 x1 x5 x4)
def s39_39 G N L1 x1 x0 x5 x4 x17 H_1 :=
 xg x17 true H_1 (fun q => q (.pure x1)) (s39_38 G N L1 x17 x0 x1 x5 x4)
def s39_b1 (G : CallT) N L1 x0 x1 x4 x5 H :=
 xcall H (G 38 [x0] H) (s39_39 G N L1 x1 x0 x5 x4)
noncomputable def s39_l1 (G : CallT) (N : Nat) : Nat → AV → AV → AV → AV → AHeap → O
  | 0, _, _, _, _, _ => none
  | n + 1, x0, x1, x4, x5, H => s39_b1 G N (s39_l1 G N n) x0 x1 x4 x5 H

theorem s39_b1_eq (G : CallT) (N : Nat) (L1 : AV → AV → AV → AV → AHeap → O) : ∀ R H, codeC P G N (Code.fst (Code.fst (Code.fst (Code.snd (Code.snd (Code.snd (bodyOf Try.f39))))))) (fun R H => L1 (R 0) (R 1) (R 4) (R 5) H) [(0, (fun R H => s39_j0 G N (R 4) (R 5) H))] (retC P Try.f39.results.toList) R H = s39_b1 G N L1 (R 0) (R 1) (R 4) (R 5) H := by
  intro R H
  refine Eq.trans ((via_leaf _ : ∀ R H, codeC P G N (Code.fst (Code.fst (Code.fst (Code.snd (Code.snd (Code.snd (bodyOf Try.f39))))))) (fun R H => L1 (R 0) (R 1) (R 4) (R 5) H) [(0, (fun R H => s39_j0 G N (R 4) (R 5) H))] (retC P Try.f39.results.toList) R H = _) R H) ?_
  delta s39_b1 s39_39 s39_38 s39_37 s39_36 s39_35 s39_34 s39_33 s39_32 s39_31 s39_30 s39_29 s39_28 s39_27 s39_26 s39_25 s39_24 s39_23 s39_22 s39_21 s39_20 s39_19 s39_18 s39_17 s39_16 s39_15 s39_14 s39_13 s39_12 s39_11 s39_10 s39_9 s39_8 s39_7
  generalize s39_j0 G N = J0
  revert J0
  refine id ?_
  intro J0
  kernel_rfl

def s39_40 G N x0 x1 x4 x5 H_4 :=
 s39_l1 G N N x0 x1 x4 x5 H_4
def s39_41 G N x15 x0 x1 x4 x5 H_3 :=
 xstore H_3 (astore P H_3 39 x5 x15) (s39_40 G N x0 x1 x4 x5)
def s39_42 G N x0 x1 x4 x15 H_2 :=
 xalloc H_2 [(.int .i64 0), (.int .i64 0), (.str []), (.str []), (.int .i64 0), AV.nilSl, (.int .i64 0), (.int .i64 0), (.int .i64 0), (.int .i64 0), (.int .i64 0)] (s39_41 G N x15 x0 x1 x4)
def s39_43 (G : CallT) N H_1 x0 x1 x4 x14 :=
 xcall H_1 (G 39 [x0, x14] H_1) (s39_42 G N x0 x1 x4)
def s39_44 G N x1 H_1 x0 x4 :=
 xb (fbin P .add 3 true x1 (.int .i64 1)) (s39_43 G N H_1 x0 x1 x4)
def s39_45 G N H_1 x0 x4 x1 x9 :=
 xif (some x9) (s39_3 G H_1 x0 x4) (s39_44 G N x1 H_1 x0 x4)
def s39_46 G N x1 x0 x4 H_1 :=
 xb (fbin P .eql 3 true x1 (.int .i64 5)) (s39_45 G N H_1 x0 x4 x1)
/-- (*runrig/runrigref3.reader).expr -/
def s39 G N x0 x1 H :=
 xalloc H [(.int .i64 0), (.int .i64 0), (.str []), (.str []), (.int .i64 0), AV.nilSl, (.int .i64 0), (.int .i64 0), (.int .i64 0), (.int .i64 0), (.int .i64 0)] (s39_46 G N x1 x0)
theorem s39_eq (G : CallT) (N : Nat) (x0 : AV) (x1 : AV) (H : AHeap) : codeC P G N (bodyOf Try.f39) (retC P Try.f39.results.toList) [] (retC P Try.f39.results.toList) (argsF [x0, x1]) H = s39 G N x0 x1 H := by
  refine Eq.trans (((via_seq (by kernel_rfl) ((via_seq (by kernel_rfl) ((via_seq (by kernel_rfl) ((via_seq (by kernel_rfl) (s39_j0_eq G N) ((via_block (by kernel_rfl) ((via_loop (k := fun m R H => s39_l1 G N m (R 0) (R 1) (R 4) (R 5) H) (by kernel_rfl) (fun R H => by kernel_rfl) (fun m => s39_b1_eq G N (s39_l1 G N m)))))))) (via_leaf _))) (via_leaf _))) (via_leaf _)) : ∀ R H, codeC P G N (bodyOf Try.f39) (retC P Try.f39.results.toList) [] (retC P Try.f39.results.toList) R H = _) (argsF [x0, x1]) H) ?_
  delta s39 s39_46 s39_45 s39_44 s39_43 s39_42 s39_41 s39_40 s39_3 s39_2 s39_1 s39_0
  generalize s39_l1 G N N = J0
  revert J0
  refine id ?_
  intro J0
  kernel_rfl

theorem run39 (N : Nat) {x0 x1 : AV} {H : AHeap} {r : AV × AHeap} (h : s39 (evw P) N x0 x1 H = some r) : evw P 39 [x0, x1] H = some r :=
  evw_code (c := (bodyOf Try.f39)) (M := N) Try.func39 (by kernel_rfl) (by kernel_rfl) (by kernel_rfl) (Eq.trans (s39_eq (evw P) N x0 x1 H) h)

def s69_0 (H_7 : AHeap) (r : AV) : O :=
 some (r, H_7)
def s69_1 x2 H_7 :=
 xb (aload P H_7 39 x2) (s69_0 H_7)
def s69_2 H_6 x2 x36 :=
 xstore H_6 (astore P H_6 39 x2 x36) (s69_1 x2)
def s69_3 x4 x33 H_6 x2 x35 :=
 xb (abuild P 39 [(0, x4), (4, x33), (5, x35)]) (s69_2 H_6 x2)
def s69_4 H_6 x4 x33 x2 x34 :=
 xb (aload P H_6 3 x34) (s69_3 x4 x33 H_6 x2)
def s69_5 x3 x4 x2 x33 H_6 :=
 xb (afieldAddr P 65 x3 3) (s69_4 H_6 x4 x33 x2)
def s69_6 H_5 x3 x4 x2 x32 :=
 xmake H_5 (sliceOf P (H_5).next 35 1 [(0, x32)]) (s69_5 x3 x4 x2)
def s69_7 x5 x3 x4 x2 H_5 :=
 xb (aload P H_5 39 x5) (s69_6 H_5 x3 x4 x2)
def s69_8 H_4 x28 x5 x3 x4 x2 x30 :=
 xstore H_4 (astore P H_4 3 x30 x28) (s69_7 x5 x3 x4 x2)
def s69_9 H_4 x28 x5 x3 x4 x2 x29 :=
 xb (afieldAddr P 75 x29 2) (s69_8 H_4 x28 x5 x3 x4 x2)
def s69_10 x0 H_4 x5 x3 x4 x2 x28 :=
 xb (anil x0) (s69_9 H_4 x28 x5 x3 x4 x2)
def s69_11 x0 H_4 x5 x3 x4 x2 x27 :=
 xb (fbin P .sub 3 true x27 (.int .i64 1)) (s69_10 x0 H_4 x5 x3 x4 x2)
def s69_12 H_4 x0 x5 x3 x4 x2 x26 :=
 xb (aload P H_4 3 x26) (s69_11 x0 H_4 x5 x3 x4 x2)
def s69_13 H_4 x0 x5 x3 x4 x2 x25 :=
 xb (afieldAddr P 75 x25 2) (s69_12 H_4 x0 x5 x3 x4 x2)
def s69_14 x0 x5 x3 x4 x2 H_4 :=
 xb (anil x0) (s69_13 H_4 x0 x5 x3 x4 x2)
def s69_15 x23 x0 x3 x4 x2 x5 H_3 :=
 xstore H_3 (astore P H_3 39 x5 x23) (s69_14 x0 x5 x3 x4 x2)
def s69_16 x0 x3 x4 x2 x23 H_2 :=
 xalloc H_2 [(.int .i64 0), (.int .i64 0), (.str []), (.str []), (.int .i64 0), AV.nilSl, (.int .i64 0), (.int .i64 0), (.int .i64 0), (.int .i64 0), (.int .i64 0)] (s69_15 x23 x0 x3 x4 x2)
def s69_17 (G : CallT) x0 x3 x4 x2 (x21 : AV) H_1 :=
 xcall H_1 (G 39 [x0, (.int .i64 5)] H_1) (s69_16 x0 x3 x4 x2)
def s69_18 (G : CallT) H x0 x3 x4 x2 x20 :=
 xcall H (G 74 [x0, x20] H) (s69_17 G x0 x3 x4 x2)
def s69_19 G H x0 x3 x4 x2 x19 :=
 xb (aload P H 9 x19) (s69_18 G H x0 x3 x4 x2)
def s69_j0 G x0 x2 x3 x4 H :=
 xb (afieldAddr P 65 x3 1) (s69_19 G H x0 x3 x4 x2)
theorem s69_j0_eq (G : CallT) (N : Nat) : ∀ R H, codeC P G N (Code.snd (Code.snd (Code.snd (Code.snd (bodyOf Try.f69))))) (retC P Try.f69.results.toList) [] (retC P Try.f69.results.toList) R H = s69_j0 G (R 0) (R 2) (R 3) (R 4) H := by
  intro R H
  refine Eq.trans ((via_leaf _ : ∀ R H, codeC P G N (Code.snd (Code.snd (Code.snd (Code.snd (bodyOf Try.f69))))) (retC P Try.f69.results.toList) [] (retC P Try.f69.results.toList) R H = _) R H) ?_
  delta s69_j0 s69_19 s69_18 s69_17 s69_16 s69_15 s69_14 s69_13 s69_12 s69_11 s69_10 s69_9 s69_8 s69_7 s69_6 s69_5 s69_4 s69_3 s69_2 s69_1 s69_0
  kernel_rfl

def s69_20 G x0 x2 x3 H_5 :=
 s69_j0 G x0 x2 x3 (.int .i64 12) H_5
def s69_21 G x0 x2 x3 H_6 :=
 s69_j0 G x0 x2 x3 (.int .i64 13) H_6
def s69_22 (H_9 : AHeap) (r : AV) : O :=
 some (r, H_9)
def s69_23 x2 H_9 :=
 xb (aload P H_9 39 x2) (s69_22 H_9)
def s69_24 x2 x11 H_8 :=
 xstore H_8 (astore P H_8 39 x2 x11) (s69_23 x2)
def s69_25 (G : CallT) x0 x2 x10 H_7 :=
 xcall H_7 (G 81 [x0, x10] H_7) (s69_24 x2)
def s69_26 (G : CallT) H_6 x0 x2 :=
 xcall H_6 (G 82 [x0] H_6) (s69_25 G x0 x2)
def s69_27 G x0 x2 x3 x17 H_6 :=
 xif (some x17) (s69_21 G x0 x2 x3 H_6) (s69_26 G H_6 x0 x2)
def s69_28 (G : CallT) H_5 x0 x2 x3 :=
 xcall H_5 (G 64 [x0, (.str [33])] H_5) (s69_27 G x0 x2 x3)
def s69_29 G x0 x2 x3 x14 H_5 :=
 xif (some x14) (s69_20 G x0 x2 x3 H_5) (s69_28 G H_5 x0 x2 x3)
def s69_30 (G : CallT) x0 x2 x3 H_4 :=
 xcall H_4 (G 64 [x0, (.str [45])] H_4) (s69_29 G x0 x2 x3)
def s69_31 G x7 x0 x2 x3 H_3 :=
 xstore H_3 (astore P H_3 65 x3 x7) (s69_30 G x0 x2 x3)
def s69_32 G x0 x2 x7 H_2 :=
 xalloc H_2 [(.int .i64 0), (.str []), (.int .i64 0), (.int .i64 0)] (s69_31 G x7 x0 x2)
def s69_33 (G : CallT) x0 x2 H_1 :=
 xcall H_1 (G 66 [x0] H_1) (s69_32 G x0 x2)
/-- (*runrig/runrigref3.reader).unary -/
def s69 G x0 H :=
 xalloc H [(.int .i64 0), (.int .i64 0), (.str []), (.str []), (.int .i64 0), AV.nilSl, (.int .i64 0), (.int .i64 0), (.int .i64 0), (.int .i64 0), (.int .i64 0)] (s69_33 G x0)
theorem s69_eq (G : CallT) (N : Nat) (x0 : AV) (H : AHeap) : codeC P G N (bodyOf Try.f69) (retC P Try.f69.results.toList) [] (retC P Try.f69.results.toList) (argsF [x0]) H = s69 G x0 H := by
  refine Eq.trans (((via_seq (by kernel_rfl) ((via_seq (by kernel_rfl) ((via_seq (by kernel_rfl) ((via_seq (by kernel_rfl) (s69_j0_eq G N) (via_leaf _))) (via_leaf _))) (via_leaf _))) (via_leaf _)) : ∀ R H, codeC P G N (bodyOf Try.f69) (retC P Try.f69.results.toList) [] (retC P Try.f69.results.toList) R H = _) (argsF [x0]) H) ?_
  delta s69 s69_33 s69_32 s69_31 s69_30 s69_29 s69_28 s69_27 s69_26 s69_25 s69_24 s69_23 s69_22 s69_21 s69_20
  generalize s69_j0 G = J0
  revert J0
  refine id ?_
  intro J0
  kernel_rfl

theorem run69 (N : Nat) {x0 : AV} {H : AHeap} {r : AV × AHeap} (h : s69 (evw P) x0 H = some r) : evw P 69 [x0] H = some r :=
  evw_code (c := (bodyOf Try.f69)) (M := N) Try.func69 (by kernel_rfl) (by kernel_rfl) (by kernel_rfl) (Eq.trans (s69_eq (evw P) N x0 H) h)

def s81_0 (H_1 : AHeap) (r : AV) : O :=
 some (r, H_1)
def s81_1 x4 H_1 :=
 xb (aload P H_1 39 x4) (s81_0 H_1)
def s81_2 H x4 x43 :=
 xstore H (astore P H 39 x4 x43) (s81_1 x4)
def s81_j0 (G : CallT) (N : Nat) x3 x4 H :=
 xb (aload P H 39 x3) (s81_2 H x4)
theorem s81_j0_eq (G : CallT) (N : Nat) : ∀ R H, codeC P G N (Code.snd (Code.snd (bodyOf Try.f81))) (retC P Try.f81.results.toList) [] (retC P Try.f81.results.toList) R H = s81_j0 G N (R 3) (R 4) H := by
  intro R H
  refine Eq.trans ((via_leaf _ : ∀ R H, codeC P G N (Code.snd (Code.snd (bodyOf Try.f81))) (retC P Try.f81.results.toList) [] (retC P Try.f81.results.toList) R H = _) R H) ?_
  delta s81_j0 s81_2 s81_1 s81_0
  kernel_rfl

def s81_3 (L1 : AV → AV → AV → AHeap → O) x0 x3 x4 H_11 :=
 L1 x0 x3 x4 H_11
def s81_4 L1 H_8 x3 x26 H_9 x28 x29 H_10 x0 x4 H_11 :=
 bif ((rdIs (aload P H_8 39 x3) x26 && (rdIs (aload P H_9 39 x3) x26 && true)) && ((rdIs (aload P H_8 3 x28) x29 && (rdIs (aload P H_9 3 x28) x29 && (rdIs (aload P H_10 3 x28) x29 && true))) && true)) then s81_3 L1 x0 x3 x4 H_11 else none
def s81_5 L1 H_10 x3 H_8 x26 H_9 x28 x29 x0 x4 x30 :=
 xstore H_10 (astore P H_10 39 x3 x30) (s81_4 L1 H_8 x3 x26 H_9 x28 x29 H_10 x0 x4)
def s81_6 L1 x25 x27 H_10 x3 H_8 x26 H_9 x28 x0 x4 x29 :=
 xb (abuild P 39 [(0, (.int .i64 5)), (2, x25), (4, x27), (5, x29)]) (s81_5 L1 H_10 x3 H_8 x26 H_9 x28 x29 x0 x4)
def s81_7 L1 H_10 x25 x27 x3 H_8 x26 H_9 x0 x4 x28 :=
 xb (aload P H_10 3 x28) (s81_6 L1 x25 x27 H_10 x3 H_8 x26 H_9 x28 x0 x4)
def s81_8 L1 x5 x25 x3 H_8 x26 H_9 x0 x4 x27 H_10 :=
 xb (afieldAddr P 65 x5 3) (s81_7 L1 H_10 x25 x27 x3 H_8 x26 H_9 x0 x4)
def s81_9 L1 H_9 x5 x25 x3 H_8 x0 x4 x26 :=
 xmake H_9 (sliceOf P (H_9).next 35 1 [(0, x26)]) (s81_8 L1 x5 x25 x3 H_8 x26 H_9 x0 x4)
def s81_10 L1 x3 x5 H_8 x0 x4 x25 H_9 :=
 xb (aload P H_9 39 x3) (s81_9 L1 H_9 x5 x25 x3 H_8 x0 x4)
def s81_11 (G : CallT) L1 x0 x3 x5 x4 H_8 :=
 xcall H_8 (G 67 [x0] H_8) (s81_10 L1 x3 x5 H_8 x0 x4)
def s81_12 G L1 H_7 x21 x0 x3 x5 x4 x23 :=
 xstore H_7 (astore P H_7 3 x23 x21) (s81_11 G L1 x0 x3 x5 x4)
def s81_13 G L1 H_7 x21 x0 x3 x5 x4 x22 :=
 xb (afieldAddr P 75 x22 1) (s81_12 G L1 H_7 x21 x0 x3 x5 x4)
def s81_14 G L1 x0 H_7 x3 x5 x4 x21 :=
 xb (anil x0) (s81_13 G L1 H_7 x21 x0 x3 x5 x4)
def s81_15 G L1 x0 H_7 x3 x5 x4 x20 :=
 xb (fbin P .add 3 true x20 (.int .i64 1)) (s81_14 G L1 x0 H_7 x3 x5 x4)
def s81_16 G L1 H_7 x0 x3 x5 x4 x19 :=
 xb (aload P H_7 3 x19) (s81_15 G L1 x0 H_7 x3 x5 x4)
def s81_17 G L1 H_7 x0 x3 x5 x4 x18 :=
 xb (afieldAddr P 75 x18 1) (s81_16 G L1 H_7 x0 x3 x5 x4)
def s81_18 G L1 x0 H_7 x3 x5 x4 :=
 xb (anil x0) (s81_17 G L1 H_7 x0 x3 x5 x4)
def s81_19 (L1 : AV → AV → AV → AHeap → O) x0 x3 x4 H_14 :=
 L1 x0 x3 x4 H_14
def s81_20 L1 H_13 x3 x0 x4 x42 :=
 xstore H_13 (astore P H_13 39 x3 x42) (s81_19 L1 x0 x3 x4)
def s81_21 L1 x39 H_13 x3 x0 x4 x41 :=
 xb (abuild P 39 [(0, (.int .i64 6)), (4, x39), (5, x41)]) (s81_20 L1 H_13 x3 x0 x4)
def s81_22 L1 H_13 x39 x3 x0 x4 x40 :=
 xb (aload P H_13 3 x40) (s81_21 L1 x39 H_13 x3 x0 x4)
def s81_23 L1 x5 x3 x0 x4 x39 H_13 :=
 xb (afieldAddr P 65 x5 3) (s81_22 L1 H_13 x39 x3 x0 x4)
def s81_24 L1 H_12 x37 x5 x3 x0 x4 x38 :=
 xmake H_12 (sliceOf P (H_12).next 35 2 [(0, x37), (1, x38)]) (s81_23 L1 x5 x3 x0 x4)
def s81_25 L1 H_12 x6 x5 x3 x0 x4 x37 :=
 xb (aload P H_12 39 x6) (s81_24 L1 H_12 x37 x5 x3 x0 x4)
def s81_26 L1 x3 x6 x5 x0 x4 (x36 : AV) H_12 :=
 xb (aload P H_12 39 x3) (s81_25 L1 H_12 x6 x5 x3 x0 x4)
def s81_27 (G : CallT) L1 x0 x3 x6 x5 x4 H_11 :=
 xcall H_11 (G 75 [x0, (.str [93])] H_11) (s81_26 L1 x3 x6 x5 x0 x4)
def s81_28 G L1 x34 x0 x3 x5 x4 x6 H_10 :=
 xstore H_10 (astore P H_10 39 x6 x34) (s81_27 G L1 x0 x3 x6 x5 x4)
def s81_29 G L1 x0 x3 x5 x4 x34 H_9 :=
 xalloc H_9 [(.int .i64 0), (.int .i64 0), (.str []), (.str []), (.int .i64 0), AV.nilSl, (.int .i64 0), (.int .i64 0), (.int .i64 0), (.int .i64 0), (.int .i64 0)] (s81_28 G L1 x34 x0 x3 x5 x4)
def s81_30 (G : CallT) L1 x0 x3 x5 x4 (x32 : AV) H_8 :=
 xcall H_8 (G 39 [x0, (.int .i64 0)] H_8) (s81_29 G L1 x0 x3 x5 x4)
def s81_31 (G : CallT) L1 H_7 x0 x3 x5 x4 :=
 xcall H_7 (G 74 [x0, (.str [91])] H_7) (s81_30 G L1 x0 x3 x5 x4)
def s81_32 G L1 x0 x3 x5 x4 x16 H_7 :=
 xif (some x16) (s81_18 G L1 x0 H_7 x3 x5 x4) (s81_31 G L1 H_7 x0 x3 x5 x4)
def s81_33 (G : CallT) L1 x0 x3 x5 x4 H_6 :=
 xcall H_6 (G 64 [x0, (.str [46])] H_6) (s81_32 G L1 x0 x3 x5 x4)
def s81_34 G L1 x14 x0 x3 x4 x5 H_5 :=
 xstore H_5 (astore P H_5 65 x5 x14) (s81_33 G L1 x0 x3 x5 x4)
def s81_35 G L1 x0 x3 x4 x14 H_4 :=
 xalloc H_4 [(.int .i64 0), (.str []), (.int .i64 0), (.int .i64 0)] (s81_34 G L1 x14 x0 x3 x4)
def s81_36 (G : CallT) L1 H_3 x0 x3 x4 :=
 xcall H_3 (G 66 [x0] H_3) (s81_35 G L1 x0 x3 x4)
def s81_37 G N x3 x4 H_3 :=
 s81_j0 G N x3 x4 H_3
def s81_38 G N L1 H_3 x0 x3 x4 x12 :=
 xif (some x12) (s81_36 G L1 H_3 x0 x3 x4) (s81_37 G N x3 x4 H_3)
def s81_39 G N L1 x8 x0 x3 x4 x11 H_3 :=
 xb (pickOf x8 (some (.bool true)) (some x11)) (s81_38 G N L1 H_3 x0 x3 x4)
def s81_40 (G : CallT) N L1 x8 x0 x3 x4 x10 H_2 :=
 xg x8 false H_2 (fun q => xeff H_2 (G 64 [x10, (.str [91])] H_2) q) (s81_39 G N L1 x8 x0 x3 x4)
def s81_41 G N L1 x0 x3 x4 x8 H_1 :=
 xg x8 false H_1 (fun q => q (.pure x0)) (s81_40 G N L1 x8 x0 x3 x4)
def s81_b1 (G : CallT) N L1 x0 x3 x4 H :=
 xcall H (G 64 [x0, (.str [46])] H) (s81_41 G N L1 x0 x3 x4)
noncomputable def s81_l1 (G : CallT) (N : Nat) : Nat → AV → AV → AV → AHeap → O
  | 0, _, _, _, _ => none
  | n + 1, x0, x3, x4, H => s81_b1 G N (s81_l1 G N n) x0 x3 x4 H

theorem s81_b1_eq (G : CallT) (N : Nat) (L1 : AV → AV → AV → AHeap → O) : ∀ R H, codeC P G N (Code.fst (Code.fst (Code.fst (Code.snd (bodyOf Try.f81))))) (fun R H => L1 (R 0) (R 3) (R 4) H) [(0, (fun R H => s81_j0 G N (R 3) (R 4) H))] (retC P Try.f81.results.toList) R H = s81_b1 G N L1 (R 0) (R 3) (R 4) H := by
  intro R H
  refine Eq.trans ((via_leaf _ : ∀ R H, codeC P G N (Code.fst (Code.fst (Code.fst (Code.snd (bodyOf Try.f81))))) (fun R H => L1 (R 0) (R 3) (R 4) H) [(0, (fun R H => s81_j0 G N (R 3) (R 4) H))] (retC P Try.f81.results.toList) R H = _) R H) ?_
  delta s81_b1 s81_41 s81_40 s81_39 s81_38 s81_37 s81_36 s81_35 s81_34 s81_33 s81_32 s81_31 s81_30 s81_29 s81_28 s81_27 s81_26 s81_25 s81_24 s81_23 s81_22 s81_21 s81_20 s81_19 s81_18 s81_17 s81_16 s81_15 s81_14 s81_13 s81_12 s81_11 s81_10 s81_9 s81_8 s81_7 s81_6 s81_5 s81_4 s81_3
  generalize s81_j0 G N = J0
  revert J0
  refine id ?_
  intro J0
  kernel_rfl

def s81_42 G N x0 x3 x4 H_2 :=
 s81_l1 G N N x0 x3 x4 H_2
def s81_43 G N x0 x3 H_1 :=
 xalloc H_1 [(.int .i64 0), (.int .i64 0), (.str []), (.str []), (.int .i64 0), AV.nilSl, (.int .i64 0), (.int .i64 0), (.int .i64 0), (.int .i64 0), (.int .i64 0)] (s81_42 G N x0 x3)
/-- (*runrig/runrigref3.reader).behind -/
def s81 G N x0 x1 H :=
 xmake H (boxOf (H).next x1) (s81_43 G N x0)
theorem s81_eq (G : CallT) (N : Nat) (x0 : AV) (x1 : AV) (H : AHeap) : codeC P G N (bodyOf Try.f81) (retC P Try.f81.results.toList) [] (retC P Try.f81.results.toList) (argsF [x0, x1]) H = s81 G N x0 x1 H := by
  refine Eq.trans (((via_seq (by kernel_rfl) ((via_seq (by kernel_rfl) (s81_j0_eq G N) ((via_block (by kernel_rfl) ((via_loop (k := fun m R H => s81_l1 G N m (R 0) (R 3) (R 4) H) (by kernel_rfl) (fun R H => by kernel_rfl) (fun m => s81_b1_eq G N (s81_l1 G N m)))))))) (via_leaf _)) : ∀ R H, codeC P G N (bodyOf Try.f81) (retC P Try.f81.results.toList) [] (retC P Try.f81.results.toList) R H = _) (argsF [x0, x1]) H) ?_
  delta s81 s81_43 s81_42
  generalize s81_l1 G N N = J0
  revert J0
  refine id ?_
  intro J0
  kernel_rfl

theorem run81 (N : Nat) {x0 x1 : AV} {H : AHeap} {r : AV × AHeap} (h : s81 (evw P) N x0 x1 H = some r) : evw P 81 [x0, x1] H = some r :=
  evw_code (c := (bodyOf Try.f81)) (M := N) Try.func81 (by kernel_rfl) (by kernel_rfl) (by kernel_rfl) (Eq.trans (s81_eq (evw P) N x0 x1 H) h)

def s99_0 (H_7 : AHeap) (r : AV) : O :=
 some (r, H_7)
def s99_1 x2 H_7 :=
 xb (aload P H_7 39 x2) (s99_0 H_7)
def s99_2 H_6 x2 x10 :=
 xstore H_6 (astore P H_6 39 x2 x10) (s99_1 x2)
def s99_3 x3 x2 (x9 : AV) H_6 :=
 xb (aload P H_6 39 x3) (s99_2 H_6 x2)
def s99_4 (G : CallT) x0 x3 x2 H_5 :=
 xcall H_5 (G 75 [x0, (.str [41])] H_5) (s99_3 x3 x2)
def s99_5 G x7 x0 x2 x3 H_4 :=
 xstore H_4 (astore P H_4 39 x3 x7) (s99_4 G x0 x3 x2)
def s99_6 G x0 x2 x7 H_3 :=
 xalloc H_3 [(.int .i64 0), (.int .i64 0), (.str []), (.str []), (.int .i64 0), AV.nilSl, (.int .i64 0), (.int .i64 0), (.int .i64 0), (.int .i64 0), (.int .i64 0)] (s99_5 G x7 x0 x2)
def s99_7 (G : CallT) x0 x2 (x5 : AV) H_2 :=
 xcall H_2 (G 39 [x0, (.int .i64 0)] H_2) (s99_6 G x0 x2)
def s99_8 (G : CallT) x0 x2 H_1 :=
 xcall H_1 (G 74 [x0, (.str [40])] H_1) (s99_7 G x0 x2)
/-- (*runrig/runrigref3.reader).inner -/
def s99 G x0 H :=
 xalloc H [(.int .i64 0), (.int .i64 0), (.str []), (.str []), (.int .i64 0), AV.nilSl, (.int .i64 0), (.int .i64 0), (.int .i64 0), (.int .i64 0), (.int .i64 0)] (s99_8 G x0)
theorem s99_eq (G : CallT) (N : Nat) (x0 : AV) (H : AHeap) : codeC P G N (bodyOf Try.f99) (retC P Try.f99.results.toList) [] (retC P Try.f99.results.toList) (argsF [x0]) H = s99 G x0 H := by
  refine Eq.trans ((via_leaf _ : ∀ R H, codeC P G N (bodyOf Try.f99) (retC P Try.f99.results.toList) [] (retC P Try.f99.results.toList) R H = _) (argsF [x0]) H) ?_
  delta s99 s99_8 s99_7 s99_6 s99_5 s99_4 s99_3 s99_2 s99_1 s99_0
  kernel_rfl

theorem run99 (N : Nat) {x0 : AV} {H : AHeap} {r : AV × AHeap} (h : s99 (evw P) x0 H = some r) : evw P 99 [x0] H = some r :=
  evw_code (c := (bodyOf Try.f99)) (M := N) Try.func99 (by kernel_rfl) (by kernel_rfl) (by kernel_rfl) (Eq.trans (s99_eq (evw P) N x0 H) h)

def s82_0 (H_3 : AHeap) (r : AV) : O :=
 some (r, H_3)
def s82_1 x2 H_3 :=
 xb (aload P H_3 39 x2) (s82_0 H_3)
def s82_2 H_2 x2 x122 :=
 xstore H_2 (astore P H_2 39 x2 x122) (s82_1 x2)
def s82_3 x115 H_2 x2 x121 :=
 xb (abuild P 39 [(0, (.int .i64 4)), (2, x115), (5, x121)]) (s82_2 H_2 x2)
def s82_4 H_2 x115 x2 x120 :=
 xb (aload P H_2 3 x120) (s82_3 x115 H_2 x2)
def s82_5 x3 H_2 x115 x2 :=
 xb (afieldAddr P 65 x3 3) (s82_4 H_2 x115 x2)
def s82_6 (H_4 : AHeap) (r : AV) : O :=
 some (r, H_4)
def s82_7 H_4 x2 :=
 xb (aload P H_4 39 x2) (s82_6 H_4)
def s82_8 H_2 x126 x127 H_3 x2 H_4 :=
 bif ((rdIs (aload P H_2 3 x126) x127 && (rdIs (aload P H_3 3 x126) x127 && true)) && true) then s82_7 H_4 x2 else none
def s82_9 H_3 x2 H_2 x126 x127 x128 :=
 xstore H_3 (astore P H_3 39 x2 x128) (s82_8 H_2 x126 x127 H_3 x2)
def s82_10 x115 x125 H_3 x2 H_2 x126 x127 :=
 xb (abuild P 39 [(0, (.int .i64 7)), (2, x115), (4, x125), (5, x127)]) (s82_9 H_3 x2 H_2 x126 x127)
def s82_11 H_3 x115 x125 x2 H_2 x126 :=
 xb (aload P H_3 3 x126) (s82_10 x115 x125 H_3 x2 H_2 x126)
def s82_12 x3 x115 x2 H_2 x125 H_3 :=
 xb (afieldAddr P 65 x3 3) (s82_11 H_3 x115 x125 x2 H_2)
def s82_13 (G : CallT) H_2 x0 x3 x115 x2 :=
 xcall H_2 (G 100 [x0] H_2) (s82_12 x3 x115 x2 H_2)
def s82_14 G x3 H_2 x115 x2 x0 x118 :=
 xif (some x118) (s82_5 x3 H_2 x115 x2) (s82_13 G H_2 x0 x3 x115 x2)
def s82_15 G x3 x115 x2 x0 x117 H_2 :=
 xb (aun .not x117) (s82_14 G x3 H_2 x115 x2 x0)
def s82_16 (G : CallT) x0 x3 x2 x115 H_1 :=
 xcall H_1 (G 64 [x0, (.str [40])] H_1) (s82_15 G x3 x115 x2 x0)
def s82_j0 (G : CallT) x0 x2 x3 H :=
 xcall H (G 67 [x0] H) (s82_16 G x0 x3 x2)
theorem s82_j0_eq (G : CallT) (N : Nat) : ∀ R H, codeC P G N (Code.snd (Code.snd (Code.snd (bodyOf Try.f82)))) (retC P Try.f82.results.toList) [] (retC P Try.f82.results.toList) R H = s82_j0 G (R 0) (R 2) (R 3) H := by
  intro R H
  refine Eq.trans ((via_leaf _ : ∀ R H, codeC P G N (Code.snd (Code.snd (Code.snd (bodyOf Try.f82)))) (retC P Try.f82.results.toList) [] (retC P Try.f82.results.toList) R H = _) R H) ?_
  delta s82_j0 s82_16 s82_15 s82_14 s82_13 s82_12 s82_11 s82_10 s82_9 s82_8 s82_7 s82_6 s82_5 s82_4 s82_3 s82_2 s82_1 s82_0
  kernel_rfl

def s82_17 (H_10 : AHeap) (r : AV) : O :=
 some (r, H_10)
def s82_18 x2 H_10 :=
 xb (aload P H_10 39 x2) (s82_17 H_10)
def s82_19 H_9 x2 x27 :=
 xstore H_9 (astore P H_9 39 x2 x27) (s82_18 x2)
def s82_20 x24 H_9 x2 x26 :=
 xb (abuild P 39 [(0, (.int .i64 1)), (1, x24), (5, x26)]) (s82_19 H_9 x2)
def s82_21 H_9 x24 x2 x25 :=
 xb (aload P H_9 3 x25) (s82_20 x24 H_9 x2)
def s82_22 x3 H_9 x2 x24 :=
 xb (afieldAddr P 65 x3 3) (s82_21 H_9 x24 x2)
def s82_23 H_9 x3 x2 x23 :=
 xb (aload P H_9 3 x23) (s82_22 x3 H_9 x2)
def s82_24 x3 x2 H_9 :=
 xb (afieldAddr P 65 x3 2) (s82_23 H_9 x3 x2)
def s82_25 H_8 x20 x3 x2 x22 :=
 xstore H_8 (astore P H_8 3 x22 x20) (s82_24 x3 x2)
def s82_26 H_8 x20 x3 x2 x21 :=
 xb (afieldAddr P 75 x21 1) (s82_25 H_8 x20 x3 x2)
def s82_27 x0 H_8 x3 x2 x20 :=
 xb (anil x0) (s82_26 H_8 x20 x3 x2)
def s82_28 x0 H_8 x3 x2 x19 :=
 xb (fbin P .add 3 true x19 (.int .i64 1)) (s82_27 x0 H_8 x3 x2)
def s82_29 H_8 x0 x3 x2 x18 :=
 xb (aload P H_8 3 x18) (s82_28 x0 H_8 x3 x2)
def s82_30 H_8 x0 x3 x2 x17 :=
 xb (afieldAddr P 75 x17 1) (s82_29 H_8 x0 x3 x2)
def s82_31 x0 H_8 x3 x2 :=
 xb (anil x0) (s82_30 H_8 x0 x3 x2)
def s82_32 (H_1 : AHeap) (r : AV) : O :=
 some (r, H_1)
def s82_33 x2 H_1 :=
 xb (aload P H_1 39 x2) (s82_32 H_1)
def s82_34 H x2 x46 :=
 xstore H (astore P H 39 x2 x46) (s82_33 x2)
def s82_35 x4 H x2 x45 :=
 xb (abuild P 39 [(0, (.int .i64 2)), (1, x4), (5, x45)]) (s82_34 H x2)
def s82_36 H x4 x2 x44 :=
 xb (aload P H 3 x44) (s82_35 x4 H x2)
def s82_j2 (G : CallT) x2 x3 x4 H :=
 xb (afieldAddr P 65 x3 3) (s82_36 H x4 x2)
theorem s82_j2_eq (G : CallT) (N : Nat) : ∀ R H, codeC P G N (Code.snd (Code.snd (Code.snd (Code.fst (Code.snd (Code.snd (Code.snd (Code.fst (Code.fst (Code.snd (Code.snd (bodyOf Try.f82)))))))))))) (fun R H => s82_j0 G (R 0) (R 2) (R 3) H) [(0, (fun R H => s82_j0 G (R 0) (R 2) (R 3) H))] (retC P Try.f82.results.toList) R H = s82_j2 G (R 2) (R 3) (R 4) H := by
  intro R H
  refine Eq.trans ((via_leaf _ : ∀ R H, codeC P G N (Code.snd (Code.snd (Code.snd (Code.fst (Code.snd (Code.snd (Code.snd (Code.fst (Code.fst (Code.snd (Code.snd (bodyOf Try.f82)))))))))))) (fun R H => s82_j0 G (R 0) (R 2) (R 3) H) [(0, (fun R H => s82_j0 G (R 0) (R 2) (R 3) H))] (retC P Try.f82.results.toList) R H = _) R H) ?_
  delta s82_j2 s82_36 s82_35 s82_34 s82_33 s82_32
  kernel_rfl

def s82_37 G x2 x3 H_1 :=
 s82_j2 G x2 x3 (.int .i64 1) H_1
def s82_38 G x2 x3 H_1 :=
 s82_j2 G x2 x3 (.int .i64 0) H_1
def s82_39 G x2 x3 H_1 x42 :=
 xif (some x42) (s82_37 G x2 x3 H_1) (s82_38 G x2 x3 H_1)
def s82_40 G x2 x3 H_1 x41 :=
 xb (fbin P .eql 9 true x41 (.str [116, 114, 117, 101])) (s82_39 G x2 x3 H_1)
def s82_41 G H_1 x2 x3 x40 :=
 xb (aload P H_1 9 x40) (s82_40 G x2 x3 H_1)
def s82_42 G x3 x2 H_1 :=
 xb (afieldAddr P 65 x3 1) (s82_41 G H_1 x2 x3)
def s82_43 G H x37 x3 x2 x39 :=
 xstore H (astore P H 3 x39 x37) (s82_42 G x3 x2)
def s82_44 G H x37 x3 x2 x38 :=
 xb (afieldAddr P 75 x38 1) (s82_43 G H x37 x3 x2)
def s82_45 G x0 H x3 x2 x37 :=
 xb (anil x0) (s82_44 G H x37 x3 x2)
def s82_46 G x0 H x3 x2 x36 :=
 xb (fbin P .add 3 true x36 (.int .i64 1)) (s82_45 G x0 H x3 x2)
def s82_47 G H x0 x3 x2 x35 :=
 xb (aload P H 3 x35) (s82_46 G x0 H x3 x2)
def s82_48 G H x0 x3 x2 x34 :=
 xb (afieldAddr P 75 x34 1) (s82_47 G H x0 x3 x2)
def s82_49 G x0 H x3 x2 :=
 xb (anil x0) (s82_48 G H x0 x3 x2)
def s82_50 (H_4 : AHeap) (r : AV) : O :=
 some (r, H_4)
def s82_51 H_4 x2 :=
 xb (aload P H_4 39 x2) (s82_50 H_4)
def s82_52 H_2 x59 x60 H_3 x2 H_4 :=
 bif ((rdIs (aload P H_2 3 x59) x60 && (rdIs (aload P H_3 3 x59) x60 && true)) && true) then s82_51 H_4 x2 else none
def s82_53 H_3 x2 H_2 x59 x60 x61 :=
 xstore H_3 (astore P H_3 39 x2 x61) (s82_52 H_2 x59 x60 H_3 x2)
def s82_54 x58 H_3 x2 H_2 x59 x60 :=
 xb (abuild P 39 [(0, (.int .i64 3)), (3, x58), (5, x60)]) (s82_53 H_3 x2 H_2 x59 x60)
def s82_55 H_3 x58 x2 H_2 x59 :=
 xb (aload P H_3 3 x59) (s82_54 x58 H_3 x2 H_2 x59)
def s82_56 x3 x2 H_2 x58 H_3 :=
 xb (afieldAddr P 65 x3 3) (s82_55 H_3 x58 x2 H_2)
def s82_57 (G : CallT) x0 x3 x2 H_2 :=
 xcall H_2 (G 37 [x0] H_2) (s82_56 x3 x2 H_2)
def s82_58 G H_1 x54 x0 x3 x2 x56 :=
 xstore H_1 (astore P H_1 3 x56 x54) (s82_57 G x0 x3 x2)
def s82_59 G H_1 x54 x0 x3 x2 x55 :=
 xb (afieldAddr P 75 x55 1) (s82_58 G H_1 x54 x0 x3 x2)
def s82_60 G x0 H_1 x3 x2 x54 :=
 xb (anil x0) (s82_59 G H_1 x54 x0 x3 x2)
def s82_61 G x0 H_1 x3 x2 x53 :=
 xb (fbin P .add 3 true x53 (.int .i64 1)) (s82_60 G x0 H_1 x3 x2)
def s82_62 G H_1 x0 x3 x2 x52 :=
 xb (aload P H_1 3 x52) (s82_61 G x0 H_1 x3 x2)
def s82_63 G H_1 x0 x3 x2 x51 :=
 xb (afieldAddr P 75 x51 1) (s82_62 G H_1 x0 x3 x2)
def s82_64 G x0 H_1 x3 x2 :=
 xb (anil x0) (s82_63 G H_1 x0 x3 x2)
def s82_65 (H_5 : AHeap) (r : AV) : O :=
 some (r, H_5)
def s82_66 x2 H_5 :=
 xb (aload P H_5 39 x2) (s82_65 H_5)
def s82_67 x2 x75 H_4 :=
 xstore H_4 (astore P H_4 39 x2 x75) (s82_66 x2)
def s82_68 (G : CallT) H_3 x0 x2 x74 :=
 xcall H_3 (G 98 [x0, x74] H_3) (s82_67 x2)
def s82_69 G H_3 x0 x2 x73 :=
 xb (aload P H_3 3 x73) (s82_68 G H_3 x0 x2)
def s82_70 G x3 x0 x2 H_3 :=
 xb (afieldAddr P 65 x3 3) (s82_69 G H_3 x0 x2)
def s82_71 G H_2 x69 x3 x0 x2 x71 :=
 xstore H_2 (astore P H_2 3 x71 x69) (s82_70 G x3 x0 x2)
def s82_72 G H_2 x69 x3 x0 x2 x70 :=
 xb (afieldAddr P 75 x70 1) (s82_71 G H_2 x69 x3 x0 x2)
def s82_73 G x0 H_2 x3 x2 x69 :=
 xb (anil x0) (s82_72 G H_2 x69 x3 x0 x2)
def s82_74 G x0 H_2 x3 x2 x68 :=
 xb (fbin P .add 3 true x68 (.int .i64 1)) (s82_73 G x0 H_2 x3 x2)
def s82_75 G H_2 x0 x3 x2 x67 :=
 xb (aload P H_2 3 x67) (s82_74 G x0 H_2 x3 x2)
def s82_76 G H_2 x0 x3 x2 x66 :=
 xb (afieldAddr P 75 x66 1) (s82_75 G H_2 x0 x3 x2)
def s82_77 G x0 H_2 x3 x2 :=
 xb (anil x0) (s82_76 G H_2 x0 x3 x2)
def s82_78 (H_7 : AHeap) (r : AV) : O :=
 some (r, H_7)
def s82_79 H_7 x2 :=
 xb (aload P H_7 39 x2) (s82_78 H_7)
def s82_80 H_4 x89 x90 H_5 H_6 x2 H_7 :=
 bif ((rdIs (aload P H_4 3 x89) x90 && (rdIs (aload P H_5 3 x89) x90 && (rdIs (aload P H_6 3 x89) x90 && true))) && true) then s82_79 H_7 x2 else none
def s82_81 H_6 x2 H_4 x89 x90 H_5 x91 :=
 xstore H_6 (astore P H_6 39 x2 x91) (s82_80 H_4 x89 x90 H_5 H_6 x2)
def s82_82 x88 H_6 x2 H_4 x89 H_5 x90 :=
 xb (abuild P 39 [(0, (.int .i64 10)), (4, x88), (5, x90)]) (s82_81 H_6 x2 H_4 x89 x90 H_5)
def s82_83 H_6 x88 x2 H_4 H_5 x89 :=
 xb (aload P H_6 3 x89) (s82_82 x88 H_6 x2 H_4 x89 H_5)
def s82_84 x3 x2 H_4 H_5 x88 H_6 :=
 xb (afieldAddr P 65 x3 3) (s82_83 H_6 x88 x2 H_4 H_5)
def s82_85 x3 x2 H_4 x87 H_5 :=
 xmake H_5 (sliceOf P (H_5).next 35 1 [(0, x87)]) (s82_84 x3 x2 H_4 H_5)
def s82_86 (G : CallT) x0 x3 x2 H_4 :=
 xcall H_4 (G 99 [x0] H_4) (s82_85 x3 x2 H_4)
def s82_87 G H_3 x83 x0 x3 x2 x85 :=
 xstore H_3 (astore P H_3 3 x85 x83) (s82_86 G x0 x3 x2)
def s82_88 G H_3 x83 x0 x3 x2 x84 :=
 xb (afieldAddr P 75 x84 1) (s82_87 G H_3 x83 x0 x3 x2)
def s82_89 G x0 H_3 x3 x2 x83 :=
 xb (anil x0) (s82_88 G H_3 x83 x0 x3 x2)
def s82_90 G x0 H_3 x3 x2 x82 :=
 xb (fbin P .add 3 true x82 (.int .i64 1)) (s82_89 G x0 H_3 x3 x2)
def s82_91 G H_3 x0 x3 x2 x81 :=
 xb (aload P H_3 3 x81) (s82_90 G x0 H_3 x3 x2)
def s82_92 G H_3 x0 x3 x2 x80 :=
 xb (afieldAddr P 75 x80 1) (s82_91 G H_3 x0 x3 x2)
def s82_93 G x0 H_3 x3 x2 :=
 xb (anil x0) (s82_92 G H_3 x0 x3 x2)
def s82_94 (H_8 : AHeap) (r : AV) : O :=
 some (r, H_8)
def s82_95 x2 H_8 :=
 xb (aload P H_8 39 x2) (s82_94 H_8)
def s82_96 H_7 x2 x108 :=
 xstore H_7 (astore P H_7 39 x2 x108) (s82_95 x2)
def s82_97 H_7 x2 x107 :=
 xb (abuild P 39 [(0, (.int .i64 11)), (5, x107)]) (s82_96 H_7 x2)
def s82_98 H_7 x2 x106 :=
 xb (aload P H_7 3 x106) (s82_97 H_7 x2)
def s82_99 x3 x2 (x105 : AV) H_7 :=
 xb (afieldAddr P 65 x3 3) (s82_98 H_7 x2)
def s82_100 (G : CallT) x0 x3 x2 (x103 : AV) H_6 :=
 xcall H_6 (G 75 [x0, (.str [41])] H_6) (s82_99 x3 x2)
def s82_101 (G : CallT) x0 x3 x2 H_5 :=
 xcall H_5 (G 74 [x0, (.str [40])] H_5) (s82_100 G x0 x3 x2)
def s82_102 G H_4 x99 x0 x3 x2 x101 :=
 xstore H_4 (astore P H_4 3 x101 x99) (s82_101 G x0 x3 x2)
def s82_103 G H_4 x99 x0 x3 x2 x100 :=
 xb (afieldAddr P 75 x100 1) (s82_102 G H_4 x99 x0 x3 x2)
def s82_104 G x0 H_4 x3 x2 x99 :=
 xb (anil x0) (s82_103 G H_4 x99 x0 x3 x2)
def s82_105 G x0 H_4 x3 x2 x98 :=
 xb (fbin P .add 3 true x98 (.int .i64 1)) (s82_104 G x0 H_4 x3 x2)
def s82_106 G H_4 x0 x3 x2 x97 :=
 xb (aload P H_4 3 x97) (s82_105 G x0 H_4 x3 x2)
def s82_107 G H_4 x0 x3 x2 x96 :=
 xb (afieldAddr P 75 x96 1) (s82_106 G H_4 x0 x3 x2)
def s82_108 G x0 H_4 x3 x2 :=
 xb (anil x0) (s82_107 G H_4 x0 x3 x2)
def s82_109 (H_7 : AHeap) (r : AV) : O :=
 some (r, H_7)
def s82_110 x2 H_7 :=
 xb (aload P H_7 39 x2) (s82_109 H_7)
def s82_111 x2 x113 H_6 :=
 xstore H_6 (astore P H_6 39 x2 x113) (s82_110 x2)
def s82_112 (G : CallT) H_5 x0 x2 :=
 xcall H_5 (G 99 [x0] H_5) (s82_111 x2)
def s82_113 G x0 x2 x3 H_5 :=
 s82_j0 G x0 x2 x3 H_5
def s82_114 G x0 x2 x3 x111 H_5 :=
 xif (some x111) (s82_112 G H_5 x0 x2) (s82_113 G x0 x2 x3 H_5)
def s82_115 (G : CallT) H_4 x0 x2 x3 :=
 xcall H_4 (G 64 [x0, (.str [40])] H_4) (s82_114 G x0 x2 x3)
def s82_116 G x0 x3 x2 x94 H_4 :=
 xif (some x94) (s82_108 G x0 H_4 x3 x2) (s82_115 G H_4 x0 x2 x3)
def s82_117 (G : CallT) H_3 x0 x3 x2 :=
 xcall H_3 (G 64 [x0, (.str [114, 101, 97, 100])] H_3) (s82_116 G x0 x3 x2)
def s82_118 G x0 x3 x2 x78 H_3 :=
 xif (some x78) (s82_93 G x0 H_3 x3 x2) (s82_117 G H_3 x0 x3 x2)
def s82_119 (G : CallT) H_2 x0 x3 x2 :=
 xcall H_2 (G 64 [x0, (.str [108, 101, 110])] H_2) (s82_118 G x0 x3 x2)
def s82_120 G x0 x3 x2 x64 H_2 :=
 xif (some x64) (s82_77 G x0 H_2 x3 x2) (s82_119 G H_2 x0 x3 x2)
def s82_121 (G : CallT) H_1 x0 x3 x2 :=
 xcall H_1 (G 64 [x0, (.str [110, 101, 119])] H_1) (s82_120 G x0 x3 x2)
def s82_122 G x0 x3 x2 x49 H_1 :=
 xif (some x49) (s82_64 G x0 H_1 x3 x2) (s82_121 G H_1 x0 x3 x2)
def s82_123 (G : CallT) H x0 x3 x2 :=
 xcall H (G 64 [x0, (.str [110, 117, 108, 108])] H) (s82_122 G x0 x3 x2)
def s82_j1 G x0 x2 x3 x28 H :=
 xif (some x28) (s82_49 G x0 H x3 x2) (s82_123 G H x0 x3 x2)
theorem s82_j1_eq (G : CallT) (N : Nat) : ∀ R H, codeC P G N (Code.snd (Code.snd (Code.snd (Code.fst (Code.fst (Code.snd (Code.snd (bodyOf Try.f82)))))))) (fun R H => s82_j0 G (R 0) (R 2) (R 3) H) [(0, (fun R H => s82_j0 G (R 0) (R 2) (R 3) H))] (retC P Try.f82.results.toList) R H = s82_j1 G (R 0) (R 2) (R 3) (R 28) H := by
  intro R H
  refine Eq.trans (((via_cond (by kernel_rfl) ((via_seq (by kernel_rfl) ((via_seq (by kernel_rfl) ((via_seq (by kernel_rfl) (s82_j2_eq G N) (via_leaf _))) (via_leaf _))) (via_leaf _))) (via_leaf _)) : ∀ R H, codeC P G N (Code.snd (Code.snd (Code.snd (Code.fst (Code.fst (Code.snd (Code.snd (bodyOf Try.f82)))))))) (fun R H => s82_j0 G (R 0) (R 2) (R 3) H) [(0, (fun R H => s82_j0 G (R 0) (R 2) (R 3) H))] (retC P Try.f82.results.toList) R H = _) R H) ?_
  delta s82_j1 s82_123 s82_122 s82_121 s82_120 s82_119 s82_118 s82_117 s82_116 s82_115 s82_114 s82_113 s82_112 s82_111 s82_110 s82_109 s82_108 s82_107 s82_106 s82_105 s82_104 s82_103 s82_102 s82_101 s82_100 s82_99 s82_98 s82_97 s82_96 s82_95 s82_94 s82_93 s82_92 s82_91 s82_90 s82_89 s82_88 s82_87 s82_86 s82_85 s82_84 s82_83 s82_82 s82_81 s82_80 s82_79 s82_78 s82_77 s82_76 s82_75 s82_74 s82_73 s82_72 s82_71 s82_70 s82_69 s82_68 s82_67 s82_66 s82_65 s82_64 s82_63 s82_62 s82_61 s82_60 s82_59 s82_58 s82_57 s82_56 s82_55 s82_54 s82_53 s82_52 s82_51 s82_50 s82_49 s82_48 s82_47 s82_46 s82_45 s82_44 s82_43 s82_42 s82_41 s82_40 s82_39 s82_38 s82_37
  generalize s82_j0 G = J0
  generalize s82_j2 G = J1
  revert J0 J1
  refine id ?_
  intro J0 J1
  kernel_rfl

def s82_124 G x0 x2 x3 x30 H_9 :=
 s82_j1 G x0 x2 x3 x30 H_9
def s82_125 G x0 x2 x3 x32 H_10 :=
 s82_j1 G x0 x2 x3 x32 H_10
def s82_126 (G : CallT) H_9 x0 x2 x3 :=
 xcall H_9 (G 64 [x0, (.str [102, 97, 108, 115, 101])] H_9) (s82_125 G x0 x2 x3)
def s82_127 G x0 x2 x3 x30 H_9 :=
 xif (some x30) (s82_124 G x0 x2 x3 x30 H_9) (s82_126 G H_9 x0 x2 x3)
def s82_128 (G : CallT) H_8 x0 x2 x3 :=
 xcall H_8 (G 64 [x0, (.str [116, 114, 117, 101])] H_8) (s82_127 G x0 x2 x3)
def s82_129 G x0 H_8 x3 x2 x15 :=
 xif (some x15) (s82_31 x0 H_8 x3 x2) (s82_128 G H_8 x0 x2 x3)
def s82_130 G x10 x0 x3 x2 x14 H_8 :=
 xb (pickOf x10 (some x14) (some (.bool false))) (s82_129 G x0 H_8 x3 x2)
def s82_131 G x10 x0 x3 x2 x13 H_7 :=
 xg x10 true H_7 (fun q => (fbin P .eql 3 true x13 (.int .i64 2)).bind fun v => q (.pure v)) (s82_130 G x10 x0 x3 x2)
def s82_132 G x10 x0 x3 x2 x12 H_6 :=
 xg x10 true H_6 (fun q => (aload P H_6 3 x12).bind fun v => q (.read v)) (s82_131 G x10 x0 x3 x2)
def s82_133 G x3 x0 x2 x10 H_5 :=
 xg x10 true H_5 (fun q => (afieldAddr P 65 x3 0).bind fun v => q (.pure v)) (s82_132 G x10 x0 x3 x2)
def s82_134 (G : CallT) x0 x3 x2 H_4 :=
 xcall H_4 (G 38 [x0] H_4) (s82_133 G x3 x0 x2)
def s82_135 G x7 x0 x2 x3 H_3 :=
 xstore H_3 (astore P H_3 65 x3 x7) (s82_134 G x0 x3 x2)
def s82_136 G x0 x2 x7 H_2 :=
 xalloc H_2 [(.int .i64 0), (.str []), (.int .i64 0), (.int .i64 0)] (s82_135 G x7 x0 x2)
def s82_137 (G : CallT) x0 x2 H_1 :=
 xcall H_1 (G 66 [x0] H_1) (s82_136 G x0 x2)
/-- (*runrig/runrigref3.reader).first -/
def s82 G x0 H :=
 xalloc H [(.int .i64 0), (.int .i64 0), (.str []), (.str []), (.int .i64 0), AV.nilSl, (.int .i64 0), (.int .i64 0), (.int .i64 0), (.int .i64 0), (.int .i64 0)] (s82_137 G x0)
theorem s82_eq (G : CallT) (N : Nat) (x0 : AV) (H : AHeap) : codeC P G N (bodyOf Try.f82) (retC P Try.f82.results.toList) [] (retC P Try.f82.results.toList) (argsF [x0]) H = s82 G x0 H := by
  refine Eq.trans (((via_seq (by kernel_rfl) ((via_seq (by kernel_rfl) ((via_seq (by kernel_rfl) (s82_j0_eq G N) ((via_block (by kernel_rfl) ((via_seq (by kernel_rfl) ((via_cond (by kernel_rfl) (via_leaf _) ((via_seq (by kernel_rfl) (s82_j1_eq G N) (via_leaf _))))) (via_leaf _))))))) (via_leaf _))) (via_leaf _)) : ∀ R H, codeC P G N (bodyOf Try.f82) (retC P Try.f82.results.toList) [] (retC P Try.f82.results.toList) R H = _) (argsF [x0]) H) ?_
  delta s82 s82_137 s82_136 s82_135 s82_134 s82_133 s82_132 s82_131 s82_130 s82_129 s82_128 s82_127 s82_126 s82_125 s82_124 s82_31 s82_30 s82_29 s82_28 s82_27 s82_26 s82_25 s82_24 s82_23 s82_22 s82_21 s82_20 s82_19 s82_18 s82_17
  generalize s82_j1 G = J0
  revert J0
  refine id ?_
  intro J0
  kernel_rfl

theorem run82 (N : Nat) {x0 : AV} {H : AHeap} {r : AV × AHeap} (h : s82 (evw P) x0 H = some r) : evw P 82 [x0] H = some r :=
  evw_code (c := (bodyOf Try.f82)) (M := N) Try.func82 (by kernel_rfl) (by kernel_rfl) (by kernel_rfl) (Eq.trans (s82_eq (evw P) N x0 H) h)

def s98_0 (H_4 : AHeap) (r : AV) : O :=
 some (r, H_4)
def s98_1 x4 H_4 :=
 xb (aload P H_4 39 x4) (s98_0 H_4)
def s98_2 H_3 x4 x13 :=
 xstore H_3 (astore P H_3 39 x4 x13) (s98_1 x4)
def s98_3 x1 H_3 x4 x11 :=
 xb (abuild P 39 [(0, (.int .i64 8)), (3, x11), (5, x1)]) (s98_2 H_3 x4)
def s98_4 x1 x4 x10 H_3 :=
 xb (abuild P 32 [(0, x10)]) (s98_3 x1 H_3 x4)
def s98_5 (G : CallT) H_2 x0 x1 x4 :=
 xcall H_2 (G 67 [x0] H_2) (s98_4 x1 x4)
def s98_6 (H_10 : AHeap) (r : AV) : O :=
 some (r, H_10)
def s98_7 H_10 x4 :=
 xb (aload P H_10 39 x4) (s98_6 H_10)
def s98_8 H_7 x5 x25 H_8 H_9 x4 H_10 :=
 bif ((rdIs (aload P H_7 32 x5) x25 && (rdIs (aload P H_8 32 x5) x25 && (rdIs (aload P H_9 32 x5) x25 && true))) && true) then s98_7 H_10 x4 else none
def s98_9 H_9 x4 H_7 x5 x25 H_8 x30 :=
 xstore H_9 (astore P H_9 39 x4 x30) (s98_8 H_7 x5 x25 H_8 H_9 x4)
def s98_10 x25 x1 x4 H_7 x5 H_8 x28 H_9 :=
 xb (abuild P 39 [(0, (.int .i64 9)), (3, x25), (4, x28), (5, x1)]) (s98_9 H_9 x4 H_7 x5 x25 H_8)
def s98_11 H_8 x27 x1 x4 H_7 x5 x25 :=
 xmake H_8 (sliceOf P (H_8).next 35 1 [(0, x27)]) (s98_10 x25 x1 x4 H_7 x5 H_8)
def s98_12 x5 x1 x4 H_7 x27 H_8 :=
 xb (aload P H_8 32 x5) (s98_11 H_8 x27 x1 x4 H_7 x5)
def s98_13 (G : CallT) x0 x5 x1 x4 (x24 : AV) H_7 :=
 xcall H_7 (G 99 [x0] H_7) (s98_12 x5 x1 x4 H_7)
def s98_14 (G : CallT) x0 x5 x1 x4 H_6 :=
 xcall H_6 (G 68 [x0, (.str [93])] H_6) (s98_13 G x0 x5 x1 x4)
def s98_15 G x22 x0 x1 x4 x5 H_5 :=
 xstore H_5 (astore P H_5 32 x5 x22) (s98_14 G x0 x5 x1 x4)
def s98_16 G x0 x1 x4 x22 H_4 :=
 xalloc H_4 [(.str []), (.int .i64 0)] (s98_15 G x22 x0 x1 x4)
def s98_17 (G : CallT) x0 x1 x4 H_3 :=
 xcall H_3 (G 37 [x0] H_3) (s98_16 G x0 x1 x4)
def s98_18 G H_2 x18 x0 x1 x4 x20 :=
 xstore H_2 (astore P H_2 3 x20 x18) (s98_17 G x0 x1 x4)
def s98_19 G H_2 x18 x0 x1 x4 x19 :=
 xb (afieldAddr P 75 x19 1) (s98_18 G H_2 x18 x0 x1 x4)
def s98_20 G x0 H_2 x1 x4 x18 :=
 xb (anil x0) (s98_19 G H_2 x18 x0 x1 x4)
def s98_21 G x0 H_2 x1 x4 x17 :=
 xb (fbin P .add 3 true x17 (.int .i64 1)) (s98_20 G x0 H_2 x1 x4)
def s98_22 G H_2 x0 x1 x4 x16 :=
 xb (aload P H_2 3 x16) (s98_21 G x0 H_2 x1 x4)
def s98_23 G H_2 x0 x1 x4 x15 :=
 xb (afieldAddr P 75 x15 1) (s98_22 G H_2 x0 x1 x4)
def s98_24 G x0 H_2 x1 x4 :=
 xb (anil x0) (s98_23 G H_2 x0 x1 x4)
def s98_25 G H_2 x0 x1 x4 x8 :=
 xif (some x8) (s98_5 G H_2 x0 x1 x4) (s98_24 G x0 H_2 x1 x4)
def s98_26 G x0 x1 x4 x7 H_2 :=
 xb (aun .not x7) (s98_25 G H_2 x0 x1 x4)
def s98_27 (G : CallT) x0 x1 x4 H_1 :=
 xcall H_1 (G 64 [x0, (.str [91])] H_1) (s98_26 G x0 x1 x4)
/-- (*runrig/runrigref3.reader).fresh -/
def s98 G x0 x1 H :=
 xalloc H [(.int .i64 0), (.int .i64 0), (.str []), (.str []), (.int .i64 0), AV.nilSl, (.int .i64 0), (.int .i64 0), (.int .i64 0), (.int .i64 0), (.int .i64 0)] (s98_27 G x0 x1)
theorem s98_eq (G : CallT) (N : Nat) (x0 : AV) (x1 : AV) (H : AHeap) : codeC P G N (bodyOf Try.f98) (retC P Try.f98.results.toList) [] (retC P Try.f98.results.toList) (argsF [x0, x1]) H = s98 G x0 x1 H := by
  refine Eq.trans ((via_leaf _ : ∀ R H, codeC P G N (bodyOf Try.f98) (retC P Try.f98.results.toList) [] (retC P Try.f98.results.toList) R H = _) (argsF [x0, x1]) H) ?_
  delta s98 s98_27 s98_26 s98_25 s98_24 s98_23 s98_22 s98_21 s98_20 s98_19 s98_18 s98_17 s98_16 s98_15 s98_14 s98_13 s98_12 s98_11 s98_10 s98_9 s98_8 s98_7 s98_6 s98_5 s98_4 s98_3 s98_2 s98_1 s98_0
  kernel_rfl

theorem run98 (N : Nat) {x0 x1 : AV} {H : AHeap} {r : AV × AHeap} (h : s98 (evw P) x0 x1 H = some r) : evw P 98 [x0, x1] H = some r :=
  evw_code (c := (bodyOf Try.f98)) (M := N) Try.func98 (by kernel_rfl) (by kernel_rfl) (by kernel_rfl) (Eq.trans (s98_eq (evw P) N x0 x1 H) h)

def s100_0 (x9 : AV) (H_3 : AHeap) : O :=
 some (AV.nilSl, H_3)
def s100_1 (G : CallT) H_2 x0 :=
 xcall H_2 (G 75 [x0, (.str [41])] H_2) (s100_0)
def s100_2 (x3 x30 : AV) (H_1 : AHeap) : O :=
 some (x3, H_1)
def s100_j0 (G : CallT) (N : Nat) x0 x3 H :=
 xcall H (G 75 [x0, (.str [41])] H) (s100_2 x3)
theorem s100_j0_eq (G : CallT) (N : Nat) : ∀ R H, codeC P G N (Code.snd (Code.snd (Code.snd (Code.snd (Code.snd (Code.snd (bodyOf Try.f100))))))) (retC P Try.f100.results.toList) [] (retC P Try.f100.results.toList) R H = s100_j0 G N (R 0) (R 3) H := by
  intro R H
  refine Eq.trans ((via_leaf _ : ∀ R H, codeC P G N (Code.snd (Code.snd (Code.snd (Code.snd (Code.snd (Code.snd (bodyOf Try.f100))))))) (retC P Try.f100.results.toList) [] (retC P Try.f100.results.toList) R H = _) R H) ?_
  delta s100_j0 s100_2
  kernel_rfl

def s100_3 (L1 : AV → AV → AHeap → O) x0 x28 H_5 :=
 L1 x0 x28 H_5
def s100_4 L1 x3 x0 x27 H_4 :=
 xcall H_4 (aappend P H_4 [35, 35] x3 x27) (s100_3 L1 x0)
def s100_5 L1 x3 x0 x26 H_3 :=
 xmake H_3 (sliceOf P (H_3).next 35 1 [(0, x26)]) (s100_4 L1 x3 x0)
def s100_6 (G : CallT) L1 x0 x3 H_2 :=
 xcall H_2 (G 39 [x0, (.int .i64 0)] H_2) (s100_5 L1 x3 x0)
def s100_7 G L1 H_1 x21 x0 x3 x23 :=
 xstore H_1 (astore P H_1 3 x23 x21) (s100_6 G L1 x0 x3)
def s100_8 G L1 H_1 x21 x0 x3 x22 :=
 xb (afieldAddr P 75 x22 1) (s100_7 G L1 H_1 x21 x0 x3)
def s100_9 G L1 x0 H_1 x3 x21 :=
 xb (anil x0) (s100_8 G L1 H_1 x21 x0 x3)
def s100_10 G L1 x0 H_1 x3 x20 :=
 xb (fbin P .add 3 true x20 (.int .i64 1)) (s100_9 G L1 x0 H_1 x3)
def s100_11 G L1 H_1 x0 x3 x19 :=
 xb (aload P H_1 3 x19) (s100_10 G L1 x0 H_1 x3)
def s100_12 G L1 H_1 x0 x3 x18 :=
 xb (afieldAddr P 75 x18 1) (s100_11 G L1 H_1 x0 x3)
def s100_13 G L1 x0 H_1 x3 :=
 xb (anil x0) (s100_12 G L1 H_1 x0 x3)
def s100_14 G N x0 x3 H_1 :=
 s100_j0 G N x0 x3 H_1
def s100_15 G N L1 x0 x3 x16 H_1 :=
 xif (some x16) (s100_13 G L1 x0 H_1 x3) (s100_14 G N x0 x3 H_1)
def s100_b1 (G : CallT) N L1 x0 x3 H :=
 xcall H (G 64 [x0, (.str [44])] H) (s100_15 G N L1 x0 x3)
noncomputable def s100_l1 (G : CallT) (N : Nat) : Nat → AV → AV → AHeap → O
  | 0, _, _, _ => none
  | n + 1, x0, x3, H => s100_b1 G N (s100_l1 G N n) x0 x3 H

theorem s100_b1_eq (G : CallT) (N : Nat) (L1 : AV → AV → AHeap → O) : ∀ R H, codeC P G N (Code.fst (Code.fst (Code.fst (Code.snd (Code.snd (Code.snd (Code.snd (Code.snd (bodyOf Try.f100))))))))) (fun R H => L1 (R 0) (R 3) H) [(0, (fun R H => s100_j0 G N (R 0) (R 3) H))] (retC P Try.f100.results.toList) R H = s100_b1 G N L1 (R 0) (R 3) H := by
  intro R H
  refine Eq.trans ((via_leaf _ : ∀ R H, codeC P G N (Code.fst (Code.fst (Code.fst (Code.snd (Code.snd (Code.snd (Code.snd (Code.snd (bodyOf Try.f100))))))))) (fun R H => L1 (R 0) (R 3) H) [(0, (fun R H => s100_j0 G N (R 0) (R 3) H))] (retC P Try.f100.results.toList) R H = _) R H) ?_
  delta s100_b1 s100_15 s100_14 s100_13 s100_12 s100_11 s100_10 s100_9 s100_8 s100_7 s100_6 s100_5 s100_4 s100_3
  generalize s100_j0 G N = J0
  revert J0
  refine id ?_
  intro J0
  kernel_rfl

def s100_16 G N x0 x14 H_5 :=
 s100_l1 G N N x0 x14 H_5
def s100_17 G N x0 x13 H_4 :=
 xcall H_4 (aappend P H_4 [35, 35] AV.nilSl x13) (s100_16 G N x0)
def s100_18 G N x0 x12 H_3 :=
 xmake H_3 (sliceOf P (H_3).next 35 1 [(0, x12)]) (s100_17 G N x0)
def s100_19 (G : CallT) N H_2 x0 :=
 xcall H_2 (G 39 [x0, (.int .i64 0)] H_2) (s100_18 G N x0)
def s100_20 G N x0 x7 H_2 :=
 xif (some x7) (s100_1 G H_2 x0) (s100_19 G N H_2 x0)
def s100_21 (G : CallT) N x0 (x5 : AV) H_1 :=
 xcall H_1 (G 64 [x0, (.str [41])] H_1) (s100_20 G N x0)
/-- (*runrig/runrigref3.reader).args -/
def s100 (G : CallT) N x0 H :=
 xcall H (G 74 [x0, (.str [40])] H) (s100_21 G N x0)
theorem s100_eq (G : CallT) (N : Nat) (x0 : AV) (H : AHeap) : codeC P G N (bodyOf Try.f100) (retC P Try.f100.results.toList) [] (retC P Try.f100.results.toList) (argsF [x0]) H = s100 G N x0 H := by
  refine Eq.trans (((via_seq (by kernel_rfl) ((via_seq (by kernel_rfl) ((via_seq (by kernel_rfl) ((via_seq (by kernel_rfl) ((via_seq (by kernel_rfl) ((via_seq (by kernel_rfl) (s100_j0_eq G N) ((via_block (by kernel_rfl) ((via_loop (k := fun m R H => s100_l1 G N m (R 0) (R 3) H) (by kernel_rfl) (fun R H => by kernel_rfl) (fun m => s100_b1_eq G N (s100_l1 G N m)))))))) (via_leaf _))) (via_leaf _))) (via_leaf _))) (via_leaf _))) (via_leaf _)) : ∀ R H, codeC P G N (bodyOf Try.f100) (retC P Try.f100.results.toList) [] (retC P Try.f100.results.toList) R H = _) (argsF [x0]) H) ?_
  delta s100 s100_21 s100_20 s100_19 s100_18 s100_17 s100_16 s100_1 s100_0
  generalize s100_l1 G N N = J0
  revert J0
  refine id ?_
  intro J0
  kernel_rfl

theorem run100 (N : Nat) {x0 : AV} {H : AHeap} {r : AV × AHeap} (h : s100 (evw P) N x0 H = some r) : evw P 100 [x0] H = some r :=
  evw_code (c := (bodyOf Try.f100)) (M := N) Try.func100 (by kernel_rfl) (by kernel_rfl) (by kernel_rfl) (Eq.trans (s100_eq (evw P) N x0 H) h)

def s19_0 (r : AV) (H_9 : AHeap) (r_1 : AV) : O :=
 some (.tuple [r, (.int .i64 0), r_1], H_9)
def s19_1 H_9 x6 r :=
 xb (aload P H_9 25 x6) (s19_0 r H_9)
def s19_2 H_9 x4 x6 :=
 xb (aload P H_9 32 x4) (s19_1 H_9 x6)
def s19_3 H_7 x21 x22 H_8 x4 x6 H_9 :=
 bif ((rdIs (aload P H_7 25 x21) x22 && (rdIs (aload P H_8 25 x21) x22 && true)) && true) then s19_2 H_9 x4 x6 else none
def s19_4 H_8 x6 H_7 x21 x4 x22 :=
 xstore H_8 (astore P H_8 25 x6 x22) (s19_3 H_7 x21 x22 H_8 x4 x6)
def s19_5 H_8 x6 H_7 x4 x21 :=
 xb (aload P H_8 25 x21) (s19_4 H_8 x6 H_7 x21 x4)
def s19_6 H_8 x6 H_7 x4 x20 :=
 xb (afieldAddr P 75 x20 3) (s19_5 H_8 x6 H_7 x4)
def s19_7 x12 x6 H_7 x4 H_8 :=
 xb (anil x12) (s19_6 H_8 x6 H_7 x4)
def s19_8 H_7 x4 x12 x6 :=
 xstore H_7 (astore P H_7 32 x4 (.agg [(.str []), (.int .i64 0)])) (s19_7 x12 x6 H_7 x4)
def s19_9 (r x27 : AV) (H_9 : AHeap) (r_1 : AV) : O :=
 some (.tuple [r, x27, r_1], H_9)
def s19_10 H_9 x6 x27 r :=
 xb (aload P H_9 25 x6) (s19_9 r x27 H_9)
def s19_11 H_9 x4 x6 x27 :=
 xb (aload P H_9 32 x4) (s19_10 H_9 x6 x27)
def s19_12 H_7 x26 x27 H_8 x4 x6 H_9 :=
 bif ((rdIs (aload P H_7 3 x26) x27 && (rdIs (aload P H_8 3 x26) x27 && true)) && true) then s19_11 H_9 x4 x6 x27 else none
def s19_13 H_8 x6 H_7 x26 x4 x27 :=
 xstore H_8 (astore P H_8 25 x6 (.agg [(.int .i64 0), (.int .i64 0)])) (s19_12 H_7 x26 x27 H_8 x4 x6)
def s19_14 H_8 x6 H_7 x4 x26 :=
 xb (aload P H_8 3 x26) (s19_13 H_8 x6 H_7 x26 x4)
def s19_15 H_8 x6 H_7 x4 x25 :=
 xb (afieldAddr P 75 x25 1) (s19_14 H_8 x6 H_7 x4)
def s19_16 x12 x6 H_7 x4 H_8 :=
 xb (anil x12) (s19_15 H_8 x6 H_7 x4)
def s19_17 H_7 x4 x12 x6 x23 :=
 xstore H_7 (astore P H_7 32 x4 x23) (s19_16 x12 x6 H_7 x4)
def s19_18 H_7 x8 x4 x12 x6 :=
 xb (aload P H_7 32 x8) (s19_17 H_7 x4 x12 x6)
def s19_19 H_7 x4 x12 x6 x8 x17 :=
 xif (some x17) (s19_8 H_7 x4 x12 x6) (s19_18 H_7 x8 x4 x12 x6)
def s19_20 x4 x12 x6 x8 x16 H_7 :=
 xb (aun .not x16) (s19_19 H_7 x4 x12 x6 x8)
def s19_21 (G : CallT) x12 x4 x6 x8 H_6 :=
 xcall H_6 (G 38 [x12] H_6) (s19_20 x4 x12 x6 x8)
def s19_22 G x14 x12 x4 x6 x8 H_5 :=
 xstore H_5 (astore P H_5 32 x8 x14) (s19_21 G x12 x4 x6 x8)
def s19_23 G x12 x4 x6 x14 H_4 :=
 xalloc H_4 [(.str []), (.int .i64 0)] (s19_22 G x14 x12 x4 x6)
def s19_24 (G : CallT) x4 x6 x12 H_3 :=
 xcall H_3 (G 37 [x12] H_3) (s19_23 G x12 x4 x6)
def s19_25 G H_2 x4 x6 x11 :=
 xmake H_2 (boxOf (H_2).next x11) (s19_24 G x4 x6)
def s19_26 G x0 x1 x4 x6 H_2 :=
 xb (abuild P 75 [(0, x0), (1, x1)]) (s19_25 G H_2 x4 x6)
def s19_27 G x0 x1 x4 H_1 :=
 xalloc H_1 [(.int .i64 0), (.int .i64 0)] (s19_26 G x0 x1 x4)
/-- runrig/runrigref3.Of -/
def s19 G x0 x1 H :=
 xalloc H [(.str []), (.int .i64 0)] (s19_27 G x0 x1)
theorem s19_eq (G : CallT) (N : Nat) (x0 : AV) (x1 : AV) (H : AHeap) : codeC P G N (bodyOf Try.f19) (retC P Try.f19.results.toList) [] (retC P Try.f19.results.toList) (argsF [x0, x1]) H = s19 G x0 x1 H := by
  refine Eq.trans ((via_leaf _ : ∀ R H, codeC P G N (bodyOf Try.f19) (retC P Try.f19.results.toList) [] (retC P Try.f19.results.toList) R H = _) (argsF [x0, x1]) H) ?_
  delta s19 s19_27 s19_26 s19_25 s19_24 s19_23 s19_22 s19_21 s19_20 s19_19 s19_18 s19_17 s19_16 s19_15 s19_14 s19_13 s19_12 s19_11 s19_10 s19_9 s19_8 s19_7 s19_6 s19_5 s19_4 s19_3 s19_2 s19_1 s19_0
  kernel_rfl

theorem run19 (N : Nat) {x0 x1 : AV} {H : AHeap} {r : AV × AHeap} (h : s19 (evw P) x0 x1 H = some r) : evw P 19 [x0, x1] H = some r :=
  evw_code (c := (bodyOf Try.f19)) (M := N) Try.func19 (by kernel_rfl) (by kernel_rfl) (by kernel_rfl) (Eq.trans (s19_eq (evw P) N x0 x1 H) h)

def s20_0 (r : AV) (H_9 : AHeap) (r_1 : AV) : O :=
 some (.tuple [r, (.int .i64 0), r_1], H_9)
def s20_1 H_9 x8 r :=
 xb (aload P H_9 25 x8) (s20_0 r H_9)
def s20_2 H_9 x6 x8 :=
 xb (aload P H_9 39 x6) (s20_1 H_9 x8)
def s20_3 H_7 x25 x26 H_8 x6 x8 H_9 :=
 bif ((rdIs (aload P H_7 25 x25) x26 && (rdIs (aload P H_8 25 x25) x26 && true)) && true) then s20_2 H_9 x6 x8 else none
def s20_4 H_8 x8 H_7 x25 x6 x26 :=
 xstore H_8 (astore P H_8 25 x8 x26) (s20_3 H_7 x25 x26 H_8 x6 x8)
def s20_5 H_8 x8 H_7 x6 x25 :=
 xb (aload P H_8 25 x25) (s20_4 H_8 x8 H_7 x25 x6)
def s20_6 H_8 x8 H_7 x6 x24 :=
 xb (afieldAddr P 75 x24 3) (s20_5 H_8 x8 H_7 x6)
def s20_7 x16 x8 H_7 x6 H_8 :=
 xb (anil x16) (s20_6 H_8 x8 H_7 x6)
def s20_8 H_7 x6 x16 x8 :=
 xstore H_7 (astore P H_7 39 x6 (.agg [(.int .i64 0), (.int .i64 0), (.str []), (.str []), (.int .i64 0), AV.nilSl, (.int .i64 0), (.int .i64 0), (.int .i64 0), (.int .i64 0), (.int .i64 0)])) (s20_7 x16 x8 H_7 x6)
def s20_9 (r x31 : AV) (H_9 : AHeap) (r_1 : AV) : O :=
 some (.tuple [r, x31, r_1], H_9)
def s20_10 H_9 x8 x31 r :=
 xb (aload P H_9 25 x8) (s20_9 r x31 H_9)
def s20_11 H_9 x6 x8 x31 :=
 xb (aload P H_9 39 x6) (s20_10 H_9 x8 x31)
def s20_12 H_7 x30 x31 H_8 x6 x8 H_9 :=
 bif ((rdIs (aload P H_7 3 x30) x31 && (rdIs (aload P H_8 3 x30) x31 && true)) && true) then s20_11 H_9 x6 x8 x31 else none
def s20_13 H_8 x8 H_7 x30 x6 x31 :=
 xstore H_8 (astore P H_8 25 x8 (.agg [(.int .i64 0), (.int .i64 0)])) (s20_12 H_7 x30 x31 H_8 x6 x8)
def s20_14 H_8 x8 H_7 x6 x30 :=
 xb (aload P H_8 3 x30) (s20_13 H_8 x8 H_7 x30 x6)
def s20_15 H_8 x8 H_7 x6 x29 :=
 xb (afieldAddr P 75 x29 1) (s20_14 H_8 x8 H_7 x6)
def s20_16 x16 x8 H_7 x6 H_8 :=
 xb (anil x16) (s20_15 H_8 x8 H_7 x6)
def s20_17 H_7 x6 x16 x8 x27 :=
 xstore H_7 (astore P H_7 39 x6 x27) (s20_16 x16 x8 H_7 x6)
def s20_18 H_7 x10 x6 x16 x8 :=
 xb (aload P H_7 39 x10) (s20_17 H_7 x6 x16 x8)
def s20_19 H_7 x6 x16 x8 x10 x21 :=
 xif (some x21) (s20_8 H_7 x6 x16 x8) (s20_18 H_7 x10 x6 x16 x8)
def s20_20 x6 x16 x8 x10 x20 H_7 :=
 xb (aun .not x20) (s20_19 H_7 x6 x16 x8 x10)
def s20_21 (G : CallT) x16 x6 x8 x10 H_6 :=
 xcall H_6 (G 38 [x16] H_6) (s20_20 x6 x16 x8 x10)
def s20_22 G x18 x16 x6 x8 x10 H_5 :=
 xstore H_5 (astore P H_5 39 x10 x18) (s20_21 G x16 x6 x8 x10)
def s20_23 G x16 x6 x8 x18 H_4 :=
 xalloc H_4 [(.int .i64 0), (.int .i64 0), (.str []), (.str []), (.int .i64 0), AV.nilSl, (.int .i64 0), (.int .i64 0), (.int .i64 0), (.int .i64 0), (.int .i64 0)] (s20_22 G x18 x16 x6 x8)
def s20_24 (G : CallT) x6 x8 x16 H_3 :=
 xcall H_3 (G 39 [x16, (.int .i64 0)] H_3) (s20_23 G x16 x6 x8)
def s20_25 G H_2 x6 x8 x15 :=
 xmake H_2 (boxOf (H_2).next x15) (s20_24 G x6 x8)
def s20_26 G x0 x1 H_2 x6 x8 x14 :=
 xb (abuild P 75 [(0, x0), (1, x1), (2, x14)]) (s20_25 G H_2 x6 x8)
def s20_27 G x2 x0 x1 x6 x8 H_2 :=
 xlen P .max [3, 3] [x2, (.int .i64 0)] H_2 (s20_26 G x0 x1 H_2 x6 x8)
def s20_28 G x2 x0 x1 x6 H_1 :=
 xalloc H_1 [(.int .i64 0), (.int .i64 0)] (s20_27 G x2 x0 x1 x6)
/-- runrig/runrigref3.Expr -/
def s20 G x0 x1 x2 H :=
 xalloc H [(.int .i64 0), (.int .i64 0), (.str []), (.str []), (.int .i64 0), AV.nilSl, (.int .i64 0), (.int .i64 0), (.int .i64 0), (.int .i64 0), (.int .i64 0)] (s20_28 G x2 x0 x1)
theorem s20_eq (G : CallT) (N : Nat) (x0 : AV) (x1 : AV) (x2 : AV) (H : AHeap) : codeC P G N (bodyOf Try.f20) (retC P Try.f20.results.toList) [] (retC P Try.f20.results.toList) (argsF [x0, x1, x2]) H = s20 G x0 x1 x2 H := by
  refine Eq.trans ((via_leaf _ : ∀ R H, codeC P G N (bodyOf Try.f20) (retC P Try.f20.results.toList) [] (retC P Try.f20.results.toList) R H = _) (argsF [x0, x1, x2]) H) ?_
  delta s20 s20_28 s20_27 s20_26 s20_25 s20_24 s20_23 s20_22 s20_21 s20_20 s20_19 s20_18 s20_17 s20_16 s20_15 s20_14 s20_13 s20_12 s20_11 s20_10 s20_9 s20_8 s20_7 s20_6 s20_5 s20_4 s20_3 s20_2 s20_1 s20_0
  kernel_rfl

theorem run20 (N : Nat) {x0 x1 x2 : AV} {H : AHeap} {r : AV × AHeap} (h : s20 (evw P) x0 x1 x2 H = some r) : evw P 20 [x0, x1, x2] H = some r :=
  evw_code (c := (bodyOf Try.f20)) (M := N) Try.func20 (by kernel_rfl) (by kernel_rfl) (by kernel_rfl) (Eq.trans (s20_eq (evw P) N x0 x1 x2 H) h)

def s22_0 (H_32 : AHeap) (x51 : AV) : O :=
 some (x51, H_32)
def s22_1 x44 x50 H_32 :=
 xb (pickOf x44 (some x50) (some (.bool false))) (s22_0 H_32)
def s22_2 (G : CallT) x44 x47 x49 H_31 :=
 xg x44 true H_31 (fun q => xeff H_31 (G 42 [x47, x49] H_31) q) (s22_1 x44)
def s22_3 G x44 x47 x48 H_30 :=
 xg x44 true H_30 (fun q => (aload P H_30 35 x48).bind fun v => q (.read v)) (s22_2 G x44 x47)
def s22_4 G x44 x3 x47 H_29 :=
 xg x44 true H_29 (fun q => (afieldAddr P 39 x3 4).bind fun v => q (.pure v)) (s22_3 G x44 x47)
def s22_5 G x44 x3 x46 H_28 :=
 xg x44 true H_28 (fun q => (aload P H_28 35 x46).bind fun v => q (.read v)) (s22_4 G x44 x3)
def s22_6 G H_27 x2 x3 x44 :=
 xg x44 true H_27 (fun q => (afieldAddr P 39 x2 4).bind fun v => q (.pure v)) (s22_5 G x44 x3)
def s22_7 G x37 x2 x3 x43 H_27 :=
 xb (pickOf x37 (some x43) (some (.bool false))) (s22_6 G H_27 x2 x3)
def s22_8 G x37 x40 x2 x3 x42 H_26 :=
 xg x37 true H_26 (fun q => (fbin P .eql 3 false x40 x42).bind fun v => q (.pure v)) (s22_7 G x37 x2 x3)
def s22_9 G x37 x40 x2 x3 x41 H_25 :=
 xg x37 true H_25 (fun q => (aload P H_25 3 x41).bind fun v => q (.read v)) (s22_8 G x37 x40 x2 x3)
def s22_10 G x37 x3 x2 x40 H_24 :=
 xg x37 true H_24 (fun q => (afieldAddr P 39 x3 7).bind fun v => q (.pure v)) (s22_9 G x37 x40 x2 x3)
def s22_11 G x37 x3 x2 x39 H_23 :=
 xg x37 true H_23 (fun q => (aload P H_23 3 x39).bind fun v => q (.read v)) (s22_10 G x37 x3 x2)
def s22_12 G H_22 x2 x3 x37 :=
 xg x37 true H_22 (fun q => (afieldAddr P 39 x2 7).bind fun v => q (.pure v)) (s22_11 G x37 x3 x2)
def s22_13 G x30 x2 x3 x36 H_22 :=
 xb (pickOf x30 (some x36) (some (.bool false))) (s22_12 G H_22 x2 x3)
def s22_14 G x30 x33 x2 x3 x35 H_21 :=
 xg x30 true H_21 (fun q => (fbin P .eql 37 false x33 x35).bind fun v => q (.pure v)) (s22_13 G x30 x2 x3)
def s22_15 G x30 x33 x2 x3 x34 H_20 :=
 xg x30 true H_20 (fun q => (aload P H_20 37 x34).bind fun v => q (.read v)) (s22_14 G x30 x33 x2 x3)
def s22_16 G x30 x3 x2 x33 H_19 :=
 xg x30 true H_19 (fun q => (afieldAddr P 39 x3 6).bind fun v => q (.pure v)) (s22_15 G x30 x33 x2 x3)
def s22_17 G x30 x3 x2 x32 H_18 :=
 xg x30 true H_18 (fun q => (aload P H_18 37 x32).bind fun v => q (.read v)) (s22_16 G x30 x3 x2)
def s22_18 G H_17 x2 x3 x30 :=
 xg x30 true H_17 (fun q => (afieldAddr P 39 x2 6).bind fun v => q (.pure v)) (s22_17 G x30 x3 x2)
def s22_19 G x23 x2 x3 x29 H_17 :=
 xb (pickOf x23 (some x29) (some (.bool false))) (s22_18 G H_17 x2 x3)
def s22_20 G x23 x26 x2 x3 x28 H_16 :=
 xg x23 true H_16 (fun q => (fbin P .eql 32 false x26 x28).bind fun v => q (.pure v)) (s22_19 G x23 x2 x3)
def s22_21 G x23 x26 x2 x3 x27 H_15 :=
 xg x23 true H_15 (fun q => (aload P H_15 32 x27).bind fun v => q (.read v)) (s22_20 G x23 x26 x2 x3)
def s22_22 G x23 x3 x2 x26 H_14 :=
 xg x23 true H_14 (fun q => (afieldAddr P 39 x3 3).bind fun v => q (.pure v)) (s22_21 G x23 x26 x2 x3)
def s22_23 G x23 x3 x2 x25 H_13 :=
 xg x23 true H_13 (fun q => (aload P H_13 32 x25).bind fun v => q (.read v)) (s22_22 G x23 x3 x2)
def s22_24 G H_12 x2 x3 x23 :=
 xg x23 true H_12 (fun q => (afieldAddr P 39 x2 3).bind fun v => q (.pure v)) (s22_23 G x23 x3 x2)
def s22_25 G x16 x2 x3 x22 H_12 :=
 xb (pickOf x16 (some x22) (some (.bool false))) (s22_24 G H_12 x2 x3)
def s22_26 G x16 x19 x2 x3 x21 H_11 :=
 xg x16 true H_11 (fun q => (fbin P .eql 9 false x19 x21).bind fun v => q (.pure v)) (s22_25 G x16 x2 x3)
def s22_27 G x16 x19 x2 x3 x20 H_10 :=
 xg x16 true H_10 (fun q => (aload P H_10 9 x20).bind fun v => q (.read v)) (s22_26 G x16 x19 x2 x3)
def s22_28 G x16 x3 x2 x19 H_9 :=
 xg x16 true H_9 (fun q => (afieldAddr P 39 x3 2).bind fun v => q (.pure v)) (s22_27 G x16 x19 x2 x3)
def s22_29 G x16 x3 x2 x18 H_8 :=
 xg x16 true H_8 (fun q => (aload P H_8 9 x18).bind fun v => q (.read v)) (s22_28 G x16 x3 x2)
def s22_30 G H_7 x2 x3 x16 :=
 xg x16 true H_7 (fun q => (afieldAddr P 39 x2 2).bind fun v => q (.pure v)) (s22_29 G x16 x3 x2)
def s22_31 G x9 x2 x3 x15 H_7 :=
 xb (pickOf x9 (some x15) (some (.bool false))) (s22_30 G H_7 x2 x3)
def s22_32 G x9 x12 x2 x3 x14 H_6 :=
 xg x9 true H_6 (fun q => (fbin P .eql 3 false x12 x14).bind fun v => q (.pure v)) (s22_31 G x9 x2 x3)
def s22_33 G x9 x12 x2 x3 x13 H_5 :=
 xg x9 true H_5 (fun q => (aload P H_5 3 x13).bind fun v => q (.read v)) (s22_32 G x9 x12 x2 x3)
def s22_34 G x9 x3 x2 x12 H_4 :=
 xg x9 true H_4 (fun q => (afieldAddr P 39 x3 1).bind fun v => q (.pure v)) (s22_33 G x9 x12 x2 x3)
def s22_35 G x9 x3 x2 x11 H_3 :=
 xg x9 true H_3 (fun q => (aload P H_3 3 x11).bind fun v => q (.read v)) (s22_34 G x9 x3 x2)
def s22_36 G H_2 x2 x3 x9 :=
 xg x9 true H_2 (fun q => (afieldAddr P 39 x2 1).bind fun v => q (.pure v)) (s22_35 G x9 x3 x2)
def s22_37 G x6 H_2 x2 x3 x8 :=
 xb (fbin P .eql 3 false x6 x8) (s22_36 G H_2 x2 x3)
def s22_38 G H_2 x6 x2 x3 x7 :=
 xb (aload P H_2 3 x7) (s22_37 G x6 H_2 x2 x3)
def s22_39 G x3 H_2 x2 x6 :=
 xb (afieldAddr P 39 x3 0) (s22_38 G H_2 x6 x2 x3)
def s22_40 G H_2 x3 x2 x5 :=
 xb (aload P H_2 3 x5) (s22_39 G x3 H_2 x2)
def s22_41 G x2 x3 H_2 :=
 xb (afieldAddr P 39 x2 0) (s22_40 G H_2 x3 x2)
def s22_42 G x1 x2 H_1 :=
 xmake H_1 (boxOf (H_1).next x1) (s22_41 G x2)
/-- runrig/runrigref3.SameExpr -/
def s22 G x0 x1 H :=
 xmake H (boxOf (H).next x0) (s22_42 G x1)
theorem s22_eq (G : CallT) (N : Nat) (x0 : AV) (x1 : AV) (H : AHeap) : codeC P G N (bodyOf Try.f22) (retC P Try.f22.results.toList) [] (retC P Try.f22.results.toList) (argsF [x0, x1]) H = s22 G x0 x1 H := by
  refine Eq.trans ((via_leaf _ : ∀ R H, codeC P G N (bodyOf Try.f22) (retC P Try.f22.results.toList) [] (retC P Try.f22.results.toList) R H = _) (argsF [x0, x1]) H) ?_
  delta s22 s22_42 s22_41 s22_40 s22_39 s22_38 s22_37 s22_36 s22_35 s22_34 s22_33 s22_32 s22_31 s22_30 s22_29 s22_28 s22_27 s22_26 s22_25 s22_24 s22_23 s22_22 s22_21 s22_20 s22_19 s22_18 s22_17 s22_16 s22_15 s22_14 s22_13 s22_12 s22_11 s22_10 s22_9 s22_8 s22_7 s22_6 s22_5 s22_4 s22_3 s22_2 s22_1 s22_0
  kernel_rfl

theorem run22 (N : Nat) {x0 x1 : AV} {H : AHeap} {r : AV × AHeap} (h : s22 (evw P) x0 x1 H = some r) : evw P 22 [x0, x1] H = some r :=
  evw_code (c := (bodyOf Try.f22)) (M := N) Try.func22 (by kernel_rfl) (by kernel_rfl) (by kernel_rfl) (Eq.trans (s22_eq (evw P) N x0 x1 H) h)

def s42_0 (H : AHeap) : O :=
 some ((.bool false), H)
def s42_j0 (G : CallT) (N : Nat) (H : AHeap) : O :=
 some ((.bool true), H)
theorem s42_j0_eq (G : CallT) (N : Nat) : ∀ R H, codeC P G N (Code.snd (Code.snd (Code.snd (bodyOf Try.f42)))) (retC P Try.f42.results.toList) [] (retC P Try.f42.results.toList) R H = s42_j0 G N H := by
  intro R H
  refine Eq.trans ((via_leaf _ : ∀ R H, codeC P G N (Code.snd (Code.snd (Code.snd (bodyOf Try.f42)))) (retC P Try.f42.results.toList) [] (retC P Try.f42.results.toList) R H = _) R H) ?_
  delta s42_j0
  kernel_rfl

def s42_1 (H_1 : AHeap) : O :=
 some ((.bool false), H_1)
def s42_2 (L1 : AV → AV → AV → AHeap → O) x0 x1 H_1 x16 :=
 L1 x0 x1 x16 H_1
def s42_3 L1 x5 x0 x1 H_1 :=
 xb (fbin P .add 3 true x5 (.int .i64 1)) (s42_2 L1 x0 x1 H_1)
def s42_4 L1 H_1 x5 x0 x1 x26 :=
 xif (some x26) (s42_1 H_1) (s42_3 L1 x5 x0 x1 H_1)
def s42_5 L1 x5 x0 x1 x25 H_1 :=
 xb (aun .not x25) (s42_4 L1 H_1 x5 x0 x1)
def s42_6 (G : CallT) L1 H x20 x5 x0 x1 x24 :=
 xcall H (G 22 [x20, x24] H) (s42_5 L1 x5 x0 x1)
def s42_7 G L1 H x20 x5 x0 x1 x23 :=
 xb (aload P H 39 x23) (s42_6 G L1 H x20 x5 x0 x1)
def s42_8 G L1 x1 x5 H x0 x20 :=
 xb (aindexAddr P 35 x1 x5) (s42_7 G L1 H x20 x5 x0 x1)
def s42_9 G L1 H x1 x5 x0 x19 :=
 xb (aload P H 39 x19) (s42_8 G L1 x1 x5 H x0)
def s42_10 G L1 x0 x5 H x1 :=
 xb (aindexAddr P 35 x0 x5) (s42_9 G L1 H x1 x5 x0)
def s42_11 G N H :=
 s42_j0 G N H
def s42_12 G N L1 x0 x5 H x1 x14 :=
 xif (some x14) (s42_10 G L1 x0 x5 H x1) (s42_11 G N H)
def s42_13 G N L1 x5 x0 H x1 x13 :=
 xb (fbin P .lss 3 false x5 x13) (s42_12 G N L1 x0 x5 H x1)
def s42_b1 G N L1 x0 x1 x5 H :=
 xlen P .len [35] [x0] H (s42_13 G N L1 x5 x0 H x1)
noncomputable def s42_l1 (G : CallT) (N : Nat) : Nat → AV → AV → AV → AHeap → O
  | 0, _, _, _, _ => none
  | n + 1, x0, x1, x5, H => s42_b1 G N (s42_l1 G N n) x0 x1 x5 H

theorem s42_b1_eq (G : CallT) (N : Nat) (L1 : AV → AV → AV → AHeap → O) : ∀ R H, codeC P G N (Code.fst (Code.fst (Code.snd (Code.fst (Code.snd (Code.snd (bodyOf Try.f42))))))) (fun R H => L1 (R 0) (R 1) (R 5) H) [(0, (fun R H => s42_j0 G N H))] (retC P Try.f42.results.toList) R H = s42_b1 G N L1 (R 0) (R 1) (R 5) H := by
  intro R H
  refine Eq.trans ((via_leaf _ : ∀ R H, codeC P G N (Code.fst (Code.fst (Code.snd (Code.fst (Code.snd (Code.snd (bodyOf Try.f42))))))) (fun R H => L1 (R 0) (R 1) (R 5) H) [(0, (fun R H => s42_j0 G N H))] (retC P Try.f42.results.toList) R H = _) R H) ?_
  delta s42_b1 s42_13 s42_12 s42_11 s42_10 s42_9 s42_8 s42_7 s42_6 s42_5 s42_4 s42_3 s42_2 s42_1
  generalize s42_j0 G N = J0
  revert J0
  refine id ?_
  intro J0
  kernel_rfl

def s42_14 G N x0 x1 H :=
 s42_l1 G N N x0 x1 (.int .i64 0) H
def s42_15 G N H x0 x1 x10 :=
 xif (some x10) (s42_0 H) (s42_14 G N x0 x1 H)
def s42_16 G N x7 H x0 x1 x9 :=
 xb (fbin P .neq 3 false x7 x9) (s42_15 G N H x0 x1)
def s42_17 G N x1 H x0 x7 :=
 xlen P .len [35] [x1] H (s42_16 G N x7 H x0 x1)
/-- runrig/runrigref3.SameExprs -/
def s42 G N x0 x1 H :=
 xlen P .len [35] [x0] H (s42_17 G N x1 H x0)
theorem s42_eq (G : CallT) (N : Nat) (x0 : AV) (x1 : AV) (H : AHeap) : codeC P G N (bodyOf Try.f42) (retC P Try.f42.results.toList) [] (retC P Try.f42.results.toList) (argsF [x0, x1]) H = s42 G N x0 x1 H := by
  refine Eq.trans (((via_seq (by kernel_rfl) ((via_seq (by kernel_rfl) ((via_seq (by kernel_rfl) (s42_j0_eq G N) ((via_seq (by kernel_rfl) ((via_block (by kernel_rfl) ((via_loop (k := fun m R H => s42_l1 G N m (R 0) (R 1) (R 5) H) (by kernel_rfl) (fun R H => by kernel_rfl) (fun m => s42_b1_eq G N (s42_l1 G N m)))))) (via_leaf _))))) (via_leaf _))) (via_leaf _)) : ∀ R H, codeC P G N (bodyOf Try.f42) (retC P Try.f42.results.toList) [] (retC P Try.f42.results.toList) R H = _) (argsF [x0, x1]) H) ?_
  delta s42 s42_17 s42_16 s42_15 s42_14 s42_0
  generalize s42_l1 G N N = J0
  revert J0
  refine id ?_
  intro J0
  kernel_rfl

theorem run42 (N : Nat) {x0 x1 : AV} {H : AHeap} {r : AV × AHeap} (h : s42 (evw P) N x0 x1 H = some r) : evw P 42 [x0, x1] H = some r :=
  evw_code (c := (bodyOf Try.f42)) (M := N) Try.func42 (by kernel_rfl) (by kernel_rfl) (by kernel_rfl) (Eq.trans (s42_eq (evw P) N x0 x1 H) h)


end
end Go.Proofs.Ytnjoomfeddamcaa


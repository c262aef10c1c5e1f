/-
  Texts of one proof, laid together: ShB.
-/
import Derived.Test.YtnjoomfeddamcaaME
set_option linter.unusedVariables false
set_option linter.unusedSimpArgs false
/-
  What a program of ours printed of the code: each function's operations, one definition each, and that the evaluator does just these.
-/
namespace Go.Proofs.Ytnjoomfeddamcaa
open Go.Ev
set_option maxRecDepth 100000
noncomputable section
def s36_0 (H : AHeap) (x8 : AV) : O :=
 some (x8, H)
def s36_1 H x7 :=
 xb (fbin P .neq 23 true x7 (.int .i64 0)) (s36_0 H)
def s36_2 H x6 :=
 xb (aload P H 23 x6) (s36_1 H)
def s36_3 H x5 :=
 xb (afieldAddr P 25 x5 0) (s36_2 H)
def s36_4 H x4 :=
 xb (afieldAddr P 71 x4 4) (s36_3 H)
/-- (*runrig/expr.reader).failed -/
def s36 (G : CallT) x0 H :=
 xb (anil x0) (s36_4 H)
theorem s36_eq (G : CallT) (N : Nat) (x0 : AV) (H : AHeap) : codeC P G N (bodyOf Try.f36) (retC P Try.f36.results.toList) [] (retC P Try.f36.results.toList) (argsF [x0]) H = s36 G x0 H := by
  refine Eq.trans ((via_leaf _ : ∀ R H, codeC P G N (bodyOf Try.f36) (retC P Try.f36.results.toList) [] (retC P Try.f36.results.toList) R H = _) (argsF [x0]) H) ?_
  delta s36 s36_4 s36_3 s36_2 s36_1 s36_0
  kernel_rfl

theorem run36 (N : Nat) {x0 : AV} {H : AHeap} {r : AV × AHeap} (h : s36 (evw P) x0 H = some r) : evw P 36 [x0] H = some r :=
  evw_code (c := (bodyOf Try.f36)) (M := N) Try.func36 (by kernel_rfl) (by kernel_rfl) (by kernel_rfl) (Eq.trans (s36_eq (evw P) N x0 H) h)

def s60_0 (H_12 : AHeap) (x24 : AV) : O :=
 some (x24, H_12)
def s60_1 x18 x23 H_12 :=
 xb (pickOf x18 (some x23) (some (.bool false))) (s60_0 H_12)
def s60_2 x18 x21 x22 H_11 :=
 xg x18 true H_11 (fun q => (fbin P .eql 9 false x21 x22).bind fun v => q (.pure v)) (s60_1 x18)
def s60_3 x18 x2 x21 H_10 :=
 xg x18 true H_10 (fun q => q (.pure x2)) (s60_2 x18 x21)
def s60_4 x18 x2 x20 H_9 :=
 xg x18 true H_9 (fun q => (aload P H_9 9 x20).bind fun v => q (.read v)) (s60_3 x18 x2)
def s60_5 H_8 x7 x2 x18 :=
 xg x18 true H_8 (fun q => (afieldAddr P 65 x7 1).bind fun v => q (.pure v)) (s60_4 x18 x2)
def s60_6 x12 x7 x2 x17 H_8 :=
 xb (pickOf x12 (some x17) (some (.bool false))) (s60_5 H_8 x7 x2)
def s60_7 x12 x15 x7 x2 x16 H_7 :=
 xg x12 true H_7 (fun q => (fbin P .eql 3 false x15 x16).bind fun v => q (.pure v)) (s60_6 x12 x7 x2)
def s60_8 x12 x1 x7 x2 x15 H_6 :=
 xg x12 true H_6 (fun q => q (.pure x1)) (s60_7 x12 x15 x7 x2)
def s60_9 x12 x1 x7 x2 x14 H_5 :=
 xg x12 true H_5 (fun q => (aload P H_5 3 x14).bind fun v => q (.read v)) (s60_8 x12 x1 x7 x2)
def s60_10 H_4 x7 x1 x2 x12 :=
 xg x12 true H_4 (fun q => (afieldAddr P 65 x7 0).bind fun v => q (.pure v)) (s60_9 x12 x1 x7 x2)
def s60_11 x7 x1 x2 x11 H_4 :=
 xb (aun .not x11) (s60_10 H_4 x7 x1 x2)
def s60_12 (G : CallT) x0 x7 x1 x2 H_3 :=
 xcall H_3 (G 36 [x0] H_3) (s60_11 x7 x1 x2)
def s60_13 G x9 x0 x1 x2 x7 H_2 :=
 xstore H_2 (astore P H_2 65 x7 x9) (s60_12 G x0 x7 x1 x2)
def s60_14 G x0 x1 x2 x9 H_1 :=
 xalloc H_1 [(.int .i64 0), (.str []), (.int .i64 0), (.int .i64 0)] (s60_13 G x9 x0 x1 x2)
/-- (*runrig/expr.reader).is -/
def s60 (G : CallT) x0 x1 x2 H :=
 xcall H (G 62 [x0] H) (s60_14 G x0 x1 x2)
theorem s60_eq (G : CallT) (N : Nat) (x0 : AV) (x1 : AV) (x2 : AV) (H : AHeap) : codeC P G N (bodyOf Try.f60) (retC P Try.f60.results.toList) [] (retC P Try.f60.results.toList) (argsF [x0, x1, x2]) H = s60 G x0 x1 x2 H := by
  refine Eq.trans ((via_leaf _ : ∀ R H, codeC P G N (bodyOf Try.f60) (retC P Try.f60.results.toList) [] (retC P Try.f60.results.toList) R H = _) (argsF [x0, x1, x2]) H) ?_
  delta s60 s60_14 s60_13 s60_12 s60_11 s60_10 s60_9 s60_8 s60_7 s60_6 s60_5 s60_4 s60_3 s60_2 s60_1 s60_0
  kernel_rfl

theorem run60 (N : Nat) {x0 x1 x2 : AV} {H : AHeap} {r : AV × AHeap} (h : s60 (evw P) x0 x1 x2 H = some r) : evw P 60 [x0, x1, x2] H = some r :=
  evw_code (c := (bodyOf Try.f60)) (M := N) Try.func60 (by kernel_rfl) (by kernel_rfl) (by kernel_rfl) (Eq.trans (s60_eq (evw P) N x0 x1 x2 H) h)

def s61_j0 (G : CallT) (H : AHeap) : O :=
 some ((.bool false), H)
theorem s61_j0_eq (G : CallT) (N : Nat) : ∀ R H, codeC P G N (Code.snd (Code.snd (bodyOf Try.f61))) (retC P Try.f61.results.toList) [] (retC P Try.f61.results.toList) R H = s61_j0 G H := by
  intro R H
  refine Eq.trans ((via_leaf _ : ∀ R H, codeC P G N (Code.snd (Code.snd (bodyOf Try.f61))) (retC P Try.f61.results.toList) [] (retC P Try.f61.results.toList) R H = _) R H) ?_
  delta s61_j0
  kernel_rfl

def s61_0 G H_3 :=
 s61_j0 G H_3
def s61_1 G H_2 x13 x15 :=
 xstore H_2 (astore P H_2 25 x15 x13) (s61_0 G)
def s61_2 G H_2 x13 x14 :=
 xb (afieldAddr P 71 x14 4) (s61_1 G H_2 x13)
def s61_3 G x0 H_2 x13 :=
 xb (anil x0) (s61_2 G H_2 x13)
def s61_4 G x1 x0 H_2 x12 :=
 xb (abuild P 25 [(0, x1), (1, x12)]) (s61_3 G x0 H_2)
def s61_5 G x1 x0 x11 H_2 :=
 xb (afield P 65 x11 3) (s61_4 G x1 x0 H_2)
def s61_6 (G : CallT) H_1 x0 x1 :=
 xcall H_1 (G 62 [x0] H_1) (s61_5 G x1 x0)
def s61_7 G H_1 :=
 s61_j0 G H_1
def s61_8 G H_1 x0 x1 x7 :=
 xif (some x7) (s61_6 G H_1 x0 x1) (s61_7 G H_1)
def s61_9 G x0 x1 x6 H_1 :=
 xb (aun .not x6) (s61_8 G H_1 x0 x1)
/-- (*runrig/expr.reader).fail -/
def s61 (G : CallT) x0 x1 H :=
 xcall H (G 36 [x0] H) (s61_9 G x0 x1)
theorem s61_eq (G : CallT) (N : Nat) (x0 : AV) (x1 : AV) (H : AHeap) : codeC P G N (bodyOf Try.f61) (retC P Try.f61.results.toList) [] (retC P Try.f61.results.toList) (argsF [x0, x1]) H = s61 G x0 x1 H := by
  refine Eq.trans (((via_seq (by kernel_rfl) ((via_seq (by kernel_rfl) (s61_j0_eq G N) (via_leaf _))) (via_leaf _)) : ∀ R H, codeC P G N (bodyOf Try.f61) (retC P Try.f61.results.toList) [] (retC P Try.f61.results.toList) R H = _) (argsF [x0, x1]) H) ?_
  delta s61 s61_9 s61_8 s61_7 s61_6 s61_5 s61_4 s61_3 s61_2 s61_1 s61_0
  generalize s61_j0 G = J0
  revert J0
  refine id ?_
  intro J0
  kernel_rfl

theorem run61 (N : Nat) {x0 x1 : AV} {H : AHeap} {r : AV × AHeap} (h : s61 (evw P) x0 x1 H = some r) : evw P 61 [x0, x1] H = some r :=
  evw_code (c := (bodyOf Try.f61)) (M := N) Try.func61 (by kernel_rfl) (by kernel_rfl) (by kernel_rfl) (Eq.trans (s61_eq (evw P) N x0 x1 H) h)

def s62_0 (H_12 : AHeap) (r : AV) : O :=
 some (r, H_12)
def s62_1 x2 H_12 :=
 xb (aload P H_12 65 x2) (s62_0 H_12)
def s62_2 H_11 x2 :=
 xstore H_11 (astore P H_11 65 x2 (.agg [(.int .i64 0), (.str []), (.int .i64 0), (.int .i64 0)])) (s62_1 x2)
def s62_3 (H_12 : AHeap) (r : AV) : O :=
 some (r, H_12)
def s62_4 x2 H_12 :=
 xb (aload P H_12 65 x2) (s62_3 H_12)
def s62_5 H_11 x2 x30 :=
 xstore H_11 (astore P H_11 65 x2 x30) (s62_4 x2)
def s62_6 H_11 x2 x29 :=
 xb (aload P H_11 65 x29) (s62_5 H_11 x2)
def s62_7 x24 H_11 x2 x28 :=
 xb (aindexAddr P 22 x24 x28) (s62_6 H_11 x2)
def s62_8 H_11 x24 x2 x27 :=
 xb (aload P H_11 3 x27) (s62_7 x24 H_11 x2)
def s62_9 H_11 x24 x2 x26 :=
 xb (afieldAddr P 71 x26 1) (s62_8 H_11 x24 x2)
def s62_10 x0 H_11 x2 x24 :=
 xb (anil x0) (s62_9 H_11 x24 x2)
def s62_11 H_11 x0 x2 x23 :=
 xb (aload P H_11 22 x23) (s62_10 x0 H_11 x2)
def s62_12 H_11 x0 x2 x22 :=
 xb (afieldAddr P 71 x22 0) (s62_11 H_11 x0 x2)
def s62_13 x0 H_11 x2 :=
 xb (anil x0) (s62_12 H_11 x0 x2)
def s62_14 H_11 x2 x0 x19 :=
 xif (some x19) (s62_2 H_11 x2) (s62_13 x0 H_11 x2)
def s62_15 x7 x2 x0 x18 H_11 :=
 xb (pickOf x7 (some (.bool true)) (some x18)) (s62_14 H_11 x2 x0)
def s62_16 x7 x12 x2 x0 x17 H_10 :=
 xg x7 false H_10 (fun q => (fbin P .geq 3 false x12 x17).bind fun v => q (.pure v)) (s62_15 x7 x2 x0)
def s62_17 x7 x12 x2 x0 x16 H_9 :=
 xg x7 false H_9 (fun q => xboth (abuiltin P .empty .len [22] [x16]) (abuiltin P H_9 .len [22] [x16]) q) (s62_16 x7 x12 x2 x0)
def s62_18 x7 x12 x2 x0 x15 H_8 :=
 xg x7 false H_8 (fun q => (aload P H_8 22 x15).bind fun v => q (.read v)) (s62_17 x7 x12 x2 x0)
def s62_19 x7 x12 x2 x0 x14 H_7 :=
 xg x7 false H_7 (fun q => (afieldAddr P 71 x14 0).bind fun v => q (.pure v)) (s62_18 x7 x12 x2 x0)
def s62_20 x7 x12 x2 x0 x13 H_6 :=
 xg x7 false H_6 (fun q => (anil x13).bind fun v => q (.pure v)) (s62_19 x7 x12 x2 x0)
def s62_21 x7 x0 x2 x12 H_5 :=
 xg x7 false H_5 (fun q => q (.pure x0)) (s62_20 x7 x12 x2 x0)
def s62_22 x7 x0 x2 x11 H_4 :=
 xg x7 false H_4 (fun q => (aload P H_4 3 x11).bind fun v => q (.read v)) (s62_21 x7 x0 x2)
def s62_23 x7 x0 x2 x10 H_3 :=
 xg x7 false H_3 (fun q => (afieldAddr P 71 x10 1).bind fun v => q (.pure v)) (s62_22 x7 x0 x2)
def s62_24 x7 x0 x2 x9 H_2 :=
 xg x7 false H_2 (fun q => (anil x9).bind fun v => q (.pure v)) (s62_23 x7 x0 x2)
def s62_25 H_1 x0 x2 x7 :=
 xg x7 false H_1 (fun q => q (.pure x0)) (s62_24 x7 x0 x2)
def s62_26 H_1 x0 x2 x6 :=
 xb (fbin P .lss 3 true x6 (.int .i64 0)) (s62_25 H_1 x0 x2)
def s62_27 H_1 x0 x2 x5 :=
 xb (aload P H_1 3 x5) (s62_26 H_1 x0 x2)
def s62_28 H_1 x0 x2 x4 :=
 xb (afieldAddr P 71 x4 1) (s62_27 H_1 x0 x2)
def s62_29 x0 x2 H_1 :=
 xb (anil x0) (s62_28 H_1 x0 x2)
/-- (*runrig/expr.reader).tok -/
def s62 (G : CallT) x0 H :=
 xalloc H [(.int .i64 0), (.str []), (.int .i64 0), (.int .i64 0)] (s62_29 x0)
theorem s62_eq (G : CallT) (N : Nat) (x0 : AV) (H : AHeap) : codeC P G N (bodyOf Try.f62) (retC P Try.f62.results.toList) [] (retC P Try.f62.results.toList) (argsF [x0]) H = s62 G x0 H := by
  refine Eq.trans ((via_leaf _ : ∀ R H, codeC P G N (bodyOf Try.f62) (retC P Try.f62.results.toList) [] (retC P Try.f62.results.toList) R H = _) (argsF [x0]) H) ?_
  delta s62 s62_29 s62_28 s62_27 s62_26 s62_25 s62_24 s62_23 s62_22 s62_21 s62_20 s62_19 s62_18 s62_17 s62_16 s62_15 s62_14 s62_13 s62_12 s62_11 s62_10 s62_9 s62_8 s62_7 s62_6 s62_5 s62_4 s62_3 s62_2 s62_1 s62_0
  kernel_rfl

theorem run62 (N : Nat) {x0 : AV} {H : AHeap} {r : AV × AHeap} (h : s62 (evw P) x0 H = some r) : evw P 62 [x0] H = some r :=
  evw_code (c := (bodyOf Try.f62)) (M := N) Try.func62 (by kernel_rfl) (by kernel_rfl) (by kernel_rfl) (Eq.trans (s62_eq (evw P) N x0 H) h)

def s63_0 (H_3 : AHeap) (x11 : AV) : O :=
 some (x11, H_3)
def s63_1 x7 x10 H_3 :=
 xb (pickOf x7 (some (.bool true)) (some x10)) (s63_0 H_3)
def s63_2 (G : CallT) x7 x9 H_2 :=
 xg x7 false H_2 (fun q => xeff H_2 (G 61 [x9, (.int .i64 2)] H_2) q) (s63_1 x7)
def s63_3 G x0 x7 H_1 :=
 xg x7 false H_1 (fun q => q (.pure x0)) (s63_2 G x7)
/-- (*runrig/expr.reader).wants -/
def s63 (G : CallT) x0 x1 H :=
 xcall H (G 80 [x0, (.int .i64 4), x1] H) (s63_3 G x0)
theorem s63_eq (G : CallT) (N : Nat) (x0 : AV) (x1 : AV) (H : AHeap) : codeC P G N (bodyOf Try.f63) (retC P Try.f63.results.toList) [] (retC P Try.f63.results.toList) (argsF [x0, x1]) H = s63 G x0 x1 H := by
  refine Eq.trans ((via_leaf _ : ∀ R H, codeC P G N (bodyOf Try.f63) (retC P Try.f63.results.toList) [] (retC P Try.f63.results.toList) R H = _) (argsF [x0, x1]) H) ?_
  delta s63 s63_3 s63_2 s63_1 s63_0
  kernel_rfl

theorem run63 (N : Nat) {x0 x1 : AV} {H : AHeap} {r : AV × AHeap} (h : s63 (evw P) x0 x1 H = some r) : evw P 63 [x0, x1] H = some r :=
  evw_code (c := (bodyOf Try.f63)) (M := N) Try.func63 (by kernel_rfl) (by kernel_rfl) (by kernel_rfl) (Eq.trans (s63_eq (evw P) N x0 x1 H) h)

def s80_0 (H_1 : AHeap) : O :=
 some ((.bool false), H_1)
def s80_1 (H_2 : AHeap) : O :=
 some ((.bool true), H_2)
def s80_2 H_1 x16 x18 :=
 xstore H_1 (astore P H_1 3 x18 x16) (s80_1)
def s80_3 H_1 x16 x17 :=
 xb (afieldAddr P 71 x17 1) (s80_2 H_1 x16)
def s80_4 x0 H_1 x16 :=
 xb (anil x0) (s80_3 H_1 x16)
def s80_5 x0 H_1 x15 :=
 xb (fbin P .add 3 true x15 (.int .i64 1)) (s80_4 x0 H_1)
def s80_6 H_1 x0 x14 :=
 xb (aload P H_1 3 x14) (s80_5 x0 H_1)
def s80_7 H_1 x0 x13 :=
 xb (afieldAddr P 71 x13 1) (s80_6 H_1 x0)
def s80_8 x0 H_1 :=
 xb (anil x0) (s80_7 H_1 x0)
def s80_9 H_1 x0 x11 :=
 xif (some x11) (s80_0 H_1) (s80_8 x0 H_1)
def s80_10 x0 x10 H_1 :=
 xb (aun .not x10) (s80_9 H_1 x0)
/-- (*runrig/expr.reader).takes -/
def s80 (G : CallT) x0 x1 x2 H :=
 xcall H (G 60 [x0, x1, x2] H) (s80_10 x0)
theorem s80_eq (G : CallT) (N : Nat) (x0 : AV) (x1 : AV) (x2 : AV) (H : AHeap) : codeC P G N (bodyOf Try.f80) (retC P Try.f80.results.toList) [] (retC P Try.f80.results.toList) (argsF [x0, x1, x2]) H = s80 G x0 x1 x2 H := by
  refine Eq.trans ((via_leaf _ : ∀ R H, codeC P G N (bodyOf Try.f80) (retC P Try.f80.results.toList) [] (retC P Try.f80.results.toList) R H = _) (argsF [x0, x1, x2]) H) ?_
  delta s80 s80_10 s80_9 s80_8 s80_7 s80_6 s80_5 s80_4 s80_3 s80_2 s80_1 s80_0
  kernel_rfl

theorem run80 (N : Nat) {x0 x1 x2 : AV} {H : AHeap} {r : AV × AHeap} (h : s80 (evw P) x0 x1 x2 H = some r) : evw P 80 [x0, x1, x2] H = some r :=
  evw_code (c := (bodyOf Try.f80)) (M := N) Try.func80 (by kernel_rfl) (by kernel_rfl) (by kernel_rfl) (Eq.trans (s80_eq (evw P) N x0 x1 x2 H) h)

def s101_0 (x11 : AV) (H_2 : AHeap) : O :=
 some (x11, H_2)
def s101_1 (G : CallT) H_1 x0 :=
 xcall H_1 (G 61 [x0, (.int .i64 2)] H_1) (s101_0)
def s101_2 (x19 : AV) (H_2 : AHeap) : O :=
 some (x19, H_2)
def s101_3 (G : CallT) H_1 x0 :=
 xcall H_1 (G 61 [x0, (.int .i64 4)] H_1) (s101_2)
def s101_4 (H_3 : AHeap) : O :=
 some ((.bool true), H_3)
def s101_5 H_2 x31 x33 :=
 xstore H_2 (astore P H_2 3 x33 x31) (s101_4)
def s101_6 H_2 x31 x32 :=
 xb (afieldAddr P 71 x32 2) (s101_5 H_2 x31)
def s101_7 x0 H_2 x31 :=
 xb (anil x0) (s101_6 H_2 x31)
def s101_8 x0 H_2 x30 :=
 xb (fbin P .add 3 true x30 (.int .i64 1)) (s101_7 x0 H_2)
def s101_9 H_2 x0 x29 :=
 xb (aload P H_2 3 x29) (s101_8 x0 H_2)
def s101_10 H_2 x0 x28 :=
 xb (afieldAddr P 71 x28 2) (s101_9 H_2 x0)
def s101_11 x0 H_2 :=
 xb (anil x0) (s101_10 H_2 x0)
def s101_12 H_1 x24 x0 x26 :=
 xstore H_1 (astore P H_1 3 x26 x24) (s101_11 x0)
def s101_13 H_1 x24 x0 x25 :=
 xb (afieldAddr P 71 x25 1) (s101_12 H_1 x24 x0)
def s101_14 x0 H_1 x24 :=
 xb (anil x0) (s101_13 H_1 x24 x0)
def s101_15 x0 H_1 x23 :=
 xb (fbin P .add 3 true x23 (.int .i64 1)) (s101_14 x0 H_1)
def s101_16 H_1 x0 x22 :=
 xb (aload P H_1 3 x22) (s101_15 x0 H_1)
def s101_17 H_1 x0 x21 :=
 xb (afieldAddr P 71 x21 1) (s101_16 H_1 x0)
def s101_18 x0 H_1 :=
 xb (anil x0) (s101_17 H_1 x0)
def s101_19 G H_1 x0 x17 :=
 xif (some x17) (s101_3 G H_1 x0) (s101_18 x0 H_1)
def s101_20 G H_1 x0 x16 :=
 xb (fbin P .geq 3 true x16 (.int .i64 50)) (s101_19 G H_1 x0)
def s101_21 G H_1 x0 x15 :=
 xb (aload P H_1 3 x15) (s101_20 G H_1 x0)
def s101_22 G H_1 x0 x14 :=
 xb (afieldAddr P 71 x14 2) (s101_21 G H_1 x0)
def s101_23 G x0 H_1 :=
 xb (anil x0) (s101_22 G H_1 x0)
def s101_24 G H_1 x0 x9 :=
 xif (some x9) (s101_1 G H_1 x0) (s101_23 G x0 H_1)
def s101_25 G x0 x8 H_1 :=
 xb (aun .not x8) (s101_24 G H_1 x0)
/-- (*runrig/expr.reader).opens -/
def s101 (G : CallT) x0 x1 H :=
 xcall H (G 60 [x0, (.int .i64 4), x1] H) (s101_25 G x0)
theorem s101_eq (G : CallT) (N : Nat) (x0 : AV) (x1 : AV) (H : AHeap) : codeC P G N (bodyOf Try.f101) (retC P Try.f101.results.toList) [] (retC P Try.f101.results.toList) (argsF [x0, x1]) H = s101 G x0 x1 H := by
  refine Eq.trans ((via_leaf _ : ∀ R H, codeC P G N (bodyOf Try.f101) (retC P Try.f101.results.toList) [] (retC P Try.f101.results.toList) R H = _) (argsF [x0, x1]) H) ?_
  delta s101 s101_25 s101_24 s101_23 s101_22 s101_21 s101_20 s101_19 s101_18 s101_17 s101_16 s101_15 s101_14 s101_13 s101_12 s101_11 s101_10 s101_9 s101_8 s101_7 s101_6 s101_5 s101_4 s101_3 s101_2 s101_1 s101_0
  kernel_rfl

theorem run101 (N : Nat) {x0 x1 : AV} {H : AHeap} {r : AV × AHeap} (h : s101 (evw P) x0 x1 H = some r) : evw P 101 [x0, x1] H = some r :=
  evw_code (c := (bodyOf Try.f101)) (M := N) Try.func101 (by kernel_rfl) (by kernel_rfl) (by kernel_rfl) (Eq.trans (s101_eq (evw P) N x0 x1 H) h)

def s120_0 (x14 : AV) (H_2 : AHeap) : O :=
 some (x14, H_2)
def s120_1 (G : CallT) x0 x1 H_1 :=
 xcall H_1 (G 63 [x0, x1] H_1) (s120_0)
def s120_2 G H x9 x0 x1 x11 :=
 xstore H (astore P H 3 x11 x9) (s120_1 G x0 x1)
def s120_3 G H x9 x0 x1 x10 :=
 xb (afieldAddr P 71 x10 2) (s120_2 G H x9 x0 x1)
def s120_4 G x0 H x1 x9 :=
 xb (anil x0) (s120_3 G H x9 x0 x1)
def s120_5 G x0 H x1 x8 :=
 xb (fbin P .sub 3 true x8 (.int .i64 1)) (s120_4 G x0 H x1)
def s120_6 G H x0 x1 x7 :=
 xb (aload P H 3 x7) (s120_5 G x0 H x1)
def s120_7 G H x0 x1 x6 :=
 xb (afieldAddr P 71 x6 2) (s120_6 G H x0 x1)
/-- (*runrig/expr.reader).closes -/
def s120 G x0 x1 H :=
 xb (anil x0) (s120_7 G H x0 x1)
theorem s120_eq (G : CallT) (N : Nat) (x0 : AV) (x1 : AV) (H : AHeap) : codeC P G N (bodyOf Try.f120) (retC P Try.f120.results.toList) [] (retC P Try.f120.results.toList) (argsF [x0, x1]) H = s120 G x0 x1 H := by
  refine Eq.trans ((via_leaf _ : ∀ R H, codeC P G N (bodyOf Try.f120) (retC P Try.f120.results.toList) [] (retC P Try.f120.results.toList) R H = _) (argsF [x0, x1]) H) ?_
  delta s120 s120_7 s120_6 s120_5 s120_4 s120_3 s120_2 s120_1 s120_0
  kernel_rfl

theorem run120 (N : Nat) {x0 x1 : AV} {H : AHeap} {r : AV × AHeap} (h : s120 (evw P) x0 x1 H = some r) : evw P 120 [x0, x1] H = some r :=
  evw_code (c := (bodyOf Try.f120)) (M := N) Try.func120 (by kernel_rfl) (by kernel_rfl) (by kernel_rfl) (Eq.trans (s120_eq (evw P) N x0 x1 H) h)

def s35_0 (H_11 : AHeap) (r : AV) : O :=
 some (r, H_11)
def s35_1 x2 H_11 :=
 xb (aload P H_11 32 x2) (s35_0 H_11)
def s35_2 x2 (x37 : AV) H_10 :=
 xstore H_10 (astore P H_10 32 x2 (.agg [(.str []), (.int .i64 0)])) (s35_1 x2)
def s35_3 (G : CallT) H_9 x0 x2 :=
 xcall H_9 (G 61 [x0, (.int .i64 2)] H_9) (s35_2 x2)
def s35_4 (H_1 : AHeap) (r : AV) : O :=
 some (r, H_1)
def s35_5 x2 H_1 :=
 xb (aload P H_1 32 x2) (s35_4 H_1)
def s35_6 H x2 x55 :=
 xstore H (astore P H 32 x2 x55) (s35_5 x2)
def s35_7 x3 H x2 x53 :=
 xb (abuild P 32 [(0, x53), (1, x3)]) (s35_6 H x2)
def s35_8 H x3 x2 x52 :=
 xb (aload P H 9 x52) (s35_7 x3 H x2)
def s35_j1 (G : CallT) (N : Nat) x2 x3 x4 H :=
 xb (afieldAddr P 65 x4 1) (s35_8 H x3 x2)
theorem s35_j1_eq (G : CallT) (N : Nat) : ∀ R H, codeC P G N (Code.snd (Code.snd (Code.snd (Code.snd (Code.snd (Code.snd (Code.snd (bodyOf Try.f35)))))))) (retC P Try.f35.results.toList) [] (retC P Try.f35.results.toList) R H = s35_j1 G N (R 2) (R 3) (R 4) H := by
  intro R H
  refine Eq.trans ((via_leaf _ : ∀ R H, codeC P G N (Code.snd (Code.snd (Code.snd (Code.snd (Code.snd (Code.snd (Code.snd (bodyOf Try.f35)))))))) (retC P Try.f35.results.toList) [] (retC P Try.f35.results.toList) R H = _) R H) ?_
  delta s35_j1 s35_8 s35_7 s35_6 s35_5 s35_4
  kernel_rfl

def s35_9 (L2 : AV → AV → AV → AV → AV → AV → AHeap → O) x0 x2 x3 x4 x46 H_1 x51 :=
 L2 x0 x2 x3 x4 x46 x51 H_1
def s35_10 L2 x47 x0 x2 x3 x4 x46 (x50 : AV) H_1 :=
 xb (fbin P .add 3 true x47 (.int .i64 1)) (s35_9 L2 x0 x2 x3 x4 x46 H_1)
def s35_11 (G : CallT) L2 H x0 x47 x2 x3 x4 x46 :=
 xcall H (G 63 [x0, (.str [93])] H) (s35_10 L2 x47 x0 x2 x3 x4 x46)
def s35_12 G N x2 x3 x4 H :=
 s35_j1 G N x2 x3 x4 H
def s35_13 G N L2 H x0 x47 x2 x3 x4 x46 x48 :=
 xif (some x48) (s35_11 G L2 H x0 x47 x2 x3 x4 x46) (s35_12 G N x2 x3 x4 H)
def s35_b2 G N L2 x0 x2 x3 x4 x46 x47 H :=
 xb (fbin P .lss 3 false x47 x46) (s35_13 G N L2 H x0 x47 x2 x3 x4 x46)
noncomputable def s35_l2 (G : CallT) (N : Nat) : Nat → AV → AV → AV → AV → AV → AV → AHeap → O
  | 0, _, _, _, _, _, _, _ => none
  | n + 1, x0, x2, x3, x4, x46, x47, H => s35_b2 G N (s35_l2 G N n) x0 x2 x3 x4 x46 x47 H

theorem s35_b2_eq (G : CallT) (N : Nat) (L2 : AV → AV → AV → AV → AV → AV → AHeap → O) : ∀ R H, codeC P G N (Code.fst (Code.fst (Code.snd (Code.fst (Code.snd (Code.snd (Code.snd (Code.snd (Code.snd (Code.snd (bodyOf Try.f35))))))))))) (fun R H => L2 (R 0) (R 2) (R 3) (R 4) (R 46) (R 47) H) [(2, (fun R H => s35_j1 G N (R 2) (R 3) (R 4) H))] (retC P Try.f35.results.toList) R H = s35_b2 G N L2 (R 0) (R 2) (R 3) (R 4) (R 46) (R 47) H := by
  intro R H
  refine Eq.trans ((via_leaf _ : ∀ R H, codeC P G N (Code.fst (Code.fst (Code.snd (Code.fst (Code.snd (Code.snd (Code.snd (Code.snd (Code.snd (Code.snd (bodyOf Try.f35))))))))))) (fun R H => L2 (R 0) (R 2) (R 3) (R 4) (R 46) (R 47) H) [(2, (fun R H => s35_j1 G N (R 2) (R 3) (R 4) H))] (retC P Try.f35.results.toList) R H = _) R H) ?_
  delta s35_b2 s35_13 s35_12 s35_11 s35_10 s35_9
  generalize s35_j1 G N = J0
  revert J0
  refine id ?_
  intro J0
  kernel_rfl

def s35_14 G N x0 x2 x3 x4 H_10 :=
 s35_l2 G N N x0 x2 x3 x4 x3 (.int .i64 0) H_10
def s35_15 G N H_9 x43 x0 x2 x3 x4 x45 :=
 xstore H_9 (astore P H_9 3 x45 x43) (s35_14 G N x0 x2 x3 x4)
def s35_16 G N H_9 x43 x0 x2 x3 x4 x44 :=
 xb (afieldAddr P 71 x44 1) (s35_15 G N H_9 x43 x0 x2 x3 x4)
def s35_17 G N x0 H_9 x2 x3 x4 x43 :=
 xb (anil x0) (s35_16 G N H_9 x43 x0 x2 x3 x4)
def s35_18 G N x0 H_9 x2 x3 x4 x42 :=
 xb (fbin P .add 3 true x42 (.int .i64 1)) (s35_17 G N x0 H_9 x2 x3 x4)
def s35_19 G N H_9 x0 x2 x3 x4 x41 :=
 xb (aload P H_9 3 x41) (s35_18 G N x0 H_9 x2 x3 x4)
def s35_20 G N H_9 x0 x2 x3 x4 x40 :=
 xb (afieldAddr P 71 x40 1) (s35_19 G N H_9 x0 x2 x3 x4)
def s35_21 G N x0 H_9 x2 x3 x4 :=
 xb (anil x0) (s35_20 G N H_9 x0 x2 x3 x4)
def s35_22 G N H_9 x0 x2 x3 x4 x35 :=
 xif (some x35) (s35_3 G H_9 x0 x2) (s35_21 G N x0 H_9 x2 x3 x4)
def s35_23 G N x30 x0 x2 x3 x4 x34 H_9 :=
 xb (pickOf x30 (some x34) (some (.bool false))) (s35_22 G N H_9 x0 x2 x3 x4)
def s35_24 G N x30 x0 x2 x3 x4 x33 H_8 :=
 xg x30 true H_8 (fun q => (aun .not x33).bind fun v => q (.pure v)) (s35_23 G N x30 x0 x2 x3 x4)
def s35_25 (G : CallT) N x30 x0 x2 x3 x4 x32 H_7 :=
 xg x30 true H_7 (fun q => xeff H_7 (G 60 [x32, (.int .i64 3), (.str [98, 111, 111, 108])] H_7) q) (s35_24 G N x30 x0 x2 x3 x4)
def s35_26 G N H_6 x0 x2 x3 x4 x30 :=
 xg x30 true H_6 (fun q => q (.pure x0)) (s35_25 G N x30 x0 x2 x3 x4)
def s35_27 G N x25 x0 x2 x3 x4 x29 H_6 :=
 xb (pickOf x25 (some x29) (some (.bool false))) (s35_26 G N H_6 x0 x2 x3 x4)
def s35_28 G N x25 x0 x2 x3 x4 x28 H_5 :=
 xg x25 true H_5 (fun q => (aun .not x28).bind fun v => q (.pure v)) (s35_27 G N x25 x0 x2 x3 x4)
def s35_29 (G : CallT) N x25 x0 x2 x3 x4 x27 H_4 :=
 xg x25 true H_4 (fun q => xeff H_4 (G 60 [x27, (.int .i64 3), (.str [105, 110, 116])] H_4) q) (s35_28 G N x25 x0 x2 x3 x4)
def s35_30 G N H_3 x0 x2 x3 x4 x25 :=
 xg x25 true H_3 (fun q => q (.pure x0)) (s35_29 G N x25 x0 x2 x3 x4)
def s35_31 G N H_3 x0 x2 x3 x4 x24 :=
 xb (fbin P .neq 3 true x24 (.int .i64 1)) (s35_30 G N H_3 x0 x2 x3 x4)
def s35_32 G N H_3 x0 x2 x3 x4 x23 :=
 xb (aload P H_3 3 x23) (s35_31 G N H_3 x0 x2 x3 x4)
def s35_33 G N x4 x0 x2 x3 H_3 :=
 xb (afieldAddr P 65 x4 0) (s35_32 G N H_3 x0 x2 x3 x4)
def s35_34 G N x22 x0 x2 x3 x4 H_2 :=
 xstore H_2 (astore P H_2 65 x4 x22) (s35_33 G N x4 x0 x2 x3)
def s35_35 G N x0 x2 x3 x22 H_1 :=
 xalloc H_1 [(.int .i64 0), (.str []), (.int .i64 0), (.int .i64 0)] (s35_34 G N x22 x0 x2 x3)
def s35_j0 (G : CallT) N x0 x2 x3 H :=
 xcall H (G 62 [x0] H) (s35_35 G N x0 x2 x3)
theorem s35_j0_eq (G : CallT) (N : Nat) : ∀ R H, codeC P G N (Code.snd (Code.snd (Code.snd (bodyOf Try.f35)))) (retC P Try.f35.results.toList) [] (retC P Try.f35.results.toList) R H = s35_j0 G N (R 0) (R 2) (R 3) H := by
  intro R H
  refine Eq.trans (((via_seq (by kernel_rfl) ((via_seq (by kernel_rfl) ((via_seq (by kernel_rfl) ((via_seq (by kernel_rfl) (s35_j1_eq G N) ((via_seq (by kernel_rfl) ((via_block (by kernel_rfl) ((via_loop (k := fun m R H => s35_l2 G N m (R 0) (R 2) (R 3) (R 4) (R 46) (R 47) H) (by kernel_rfl) (fun R H => by kernel_rfl) (fun m => s35_b2_eq G N (s35_l2 G N m)))))) (via_leaf _))))) (via_leaf _))) (via_leaf _))) (via_leaf _)) : ∀ R H, codeC P G N (Code.snd (Code.snd (Code.snd (bodyOf Try.f35)))) (retC P Try.f35.results.toList) [] (retC P Try.f35.results.toList) R H = _) R H) ?_
  delta s35_j0 s35_35 s35_34 s35_33 s35_32 s35_31 s35_30 s35_29 s35_28 s35_27 s35_26 s35_25 s35_24 s35_23 s35_22 s35_21 s35_20 s35_19 s35_18 s35_17 s35_16 s35_15 s35_14 s35_3 s35_2 s35_1 s35_0
  generalize s35_l2 G N N = J0
  revert J0
  refine id ?_
  intro J0
  kernel_rfl

def s35_36 (H_3 : AHeap) (r : AV) : O :=
 some (r, H_3)
def s35_37 x2 H_3 :=
 xb (aload P H_3 32 x2) (s35_36 H_3)
def s35_38 x2 (x10 : AV) H_2 :=
 xstore H_2 (astore P H_2 32 x2 (.agg [(.str []), (.int .i64 0)])) (s35_37 x2)
def s35_39 (G : CallT) H_1 x0 x2 :=
 xcall H_1 (G 61 [x0, (.int .i64 4)] H_1) (s35_38 x2)
def s35_40 (L3 : AV → AV → AV → AHeap → O) x0 x2 x13 H_2 :=
 L3 x0 x2 x13 H_2
def s35_41 L3 H_1 x18 x0 x2 x13 x20 :=
 xstore H_1 (astore P H_1 3 x20 x18) (s35_40 L3 x0 x2 x13)
def s35_42 L3 H_1 x18 x0 x2 x13 x19 :=
 xb (afieldAddr P 71 x19 1) (s35_41 L3 H_1 x18 x0 x2 x13)
def s35_43 L3 x0 H_1 x2 x13 x18 :=
 xb (anil x0) (s35_42 L3 H_1 x18 x0 x2 x13)
def s35_44 L3 x0 H_1 x2 x13 x17 :=
 xb (fbin P .add 3 true x17 (.int .i64 1)) (s35_43 L3 x0 H_1 x2 x13)
def s35_45 L3 H_1 x0 x2 x13 x16 :=
 xb (aload P H_1 3 x16) (s35_44 L3 x0 H_1 x2 x13)
def s35_46 L3 H_1 x0 x2 x13 x15 :=
 xb (afieldAddr P 71 x15 1) (s35_45 L3 H_1 x0 x2 x13)
def s35_47 L3 x0 H_1 x2 x13 :=
 xb (anil x0) (s35_46 L3 H_1 x0 x2 x13)
def s35_48 L3 x3 x0 H_1 x2 :=
 xb (fbin P .add 3 true x3 (.int .i64 1)) (s35_47 L3 x0 H_1 x2)
def s35_49 G L3 H_1 x0 x2 x3 x8 :=
 xif (some x8) (s35_39 G H_1 x0 x2) (s35_48 L3 x3 x0 H_1 x2)
def s35_50 G L3 x3 H_1 x0 x2 :=
 xb (fbin P .eql 3 true x3 (.int .i64 3)) (s35_49 G L3 H_1 x0 x2 x3)
def s35_51 G N x0 x2 x3 H_1 :=
 s35_j0 G N x0 x2 x3 H_1
def s35_52 G N L3 x3 x0 x2 x6 H_1 :=
 xif (some x6) (s35_50 G L3 x3 H_1 x0 x2) (s35_51 G N x0 x2 x3 H_1)
def s35_b3 (G : CallT) N L3 x0 x2 x3 H :=
 xcall H (G 60 [x0, (.int .i64 4), (.str [91])] H) (s35_52 G N L3 x3 x0 x2)
noncomputable def s35_l3 (G : CallT) (N : Nat) : Nat → AV → AV → AV → AHeap → O
  | 0, _, _, _, _ => none
  | n + 1, x0, x2, x3, H => s35_b3 G N (s35_l3 G N n) x0 x2 x3 H

theorem s35_b3_eq (G : CallT) (N : Nat) (L3 : AV → AV → AV → AHeap → O) : ∀ R H, codeC P G N (Code.fst (Code.fst (Code.fst (Code.snd (Code.snd (bodyOf Try.f35)))))) (fun R H => L3 (R 0) (R 2) (R 3) H) [(0, (fun R H => s35_j0 G N (R 0) (R 2) (R 3) H))] (retC P Try.f35.results.toList) R H = s35_b3 G N L3 (R 0) (R 2) (R 3) H := by
  intro R H
  refine Eq.trans ((via_leaf _ : ∀ R H, codeC P G N (Code.fst (Code.fst (Code.fst (Code.snd (Code.snd (bodyOf Try.f35)))))) (fun R H => L3 (R 0) (R 2) (R 3) H) [(0, (fun R H => s35_j0 G N (R 0) (R 2) (R 3) H))] (retC P Try.f35.results.toList) R H = _) R H) ?_
  delta s35_b3 s35_52 s35_51 s35_50 s35_49 s35_48 s35_47 s35_46 s35_45 s35_44 s35_43 s35_42 s35_41 s35_40 s35_39 s35_38 s35_37 s35_36
  generalize s35_j0 G N = J0
  revert J0
  refine id ?_
  intro J0
  kernel_rfl

def s35_53 G N x0 x2 H_1 :=
 s35_l3 G N N x0 x2 (.int .i64 0) H_1
/-- (*runrig/expr.reader).of -/
def s35 G N x0 H :=
 xalloc H [(.str []), (.int .i64 0)] (s35_53 G N x0)
theorem s35_eq (G : CallT) (N : Nat) (x0 : AV) (H : AHeap) : codeC P G N (bodyOf Try.f35) (retC P Try.f35.results.toList) [] (retC P Try.f35.results.toList) (argsF [x0]) H = s35 G N x0 H := by
  refine Eq.trans (((via_seq (by kernel_rfl) ((via_seq (by kernel_rfl) ((via_seq (by kernel_rfl) (s35_j0_eq G N) ((via_block (by kernel_rfl) ((via_loop (k := fun m R H => s35_l3 G N m (R 0) (R 2) (R 3) H) (by kernel_rfl) (fun R H => by kernel_rfl) (fun m => s35_b3_eq G N (s35_l3 G N m)))))))) (via_leaf _))) (via_leaf _)) : ∀ R H, codeC P G N (bodyOf Try.f35) (retC P Try.f35.results.toList) [] (retC P Try.f35.results.toList) R H = _) (argsF [x0]) H) ?_
  delta s35 s35_53
  generalize s35_l3 G N N = J0
  revert J0
  refine id ?_
  intro J0
  kernel_rfl

theorem run35 (N : Nat) {x0 : AV} {H : AHeap} {r : AV × AHeap} (h : s35 (evw P) N x0 H = some r) : evw P 35 [x0] H = some r :=
  evw_code (c := (bodyOf Try.f35)) (M := N) Try.func35 (by kernel_rfl) (by kernel_rfl) (by kernel_rfl) (Eq.trans (s35_eq (evw P) N x0 H) h)

def s84_j0 (G : CallT) (N : Nat) (H : AHeap) : O :=
 some ((.int .i64 0), H)
theorem s84_j0_eq (G : CallT) (N : Nat) : ∀ R H, codeC P G N (Code.snd (Code.snd (bodyOf Try.f84))) (retC P Try.f84.results.toList) [] (retC P Try.f84.results.toList) R H = s84_j0 G N H := by
  intro R H
  refine Eq.trans ((via_leaf _ : ∀ R H, codeC P G N (Code.snd (Code.snd (bodyOf Try.f84))) (retC P Try.f84.results.toList) [] (retC P Try.f84.results.toList) R H = _) R H) ?_
  delta s84_j0
  kernel_rfl

def s84_0 (H_3 : AHeap) (x24 : AV) : O :=
 some (x24, H_3)
def s84_1 H_3 x23 :=
 xb (aload P H_3 3 x23) (s84_0 H_3)
def s84_2 x6 H_3 :=
 xb (afieldAddr P 101 x6 1) (s84_1 H_3)
def s84_3 (L1 : AV → AV → AV → AV → AHeap → O) x0 x13 x14 H_3 x25 :=
 L1 x0 x13 x14 x25 H_3
def s84_4 L1 x15 x0 x13 x14 H_3 :=
 xb (fbin P .add 3 true x15 (.int .i64 1)) (s84_3 L1 x0 x13 x14 H_3)
def s84_5 L1 x6 x15 x0 x13 x14 x22 H_3 :=
 xif (some x22) (s84_2 x6 H_3) (s84_4 L1 x15 x0 x13 x14 H_3)
def s84_6 (G : CallT) L1 H_2 x0 x6 x15 x13 x14 x21 :=
 xcall H_2 (G 60 [x0, (.int .i64 4), x21] H_2) (s84_5 L1 x6 x15 x0 x13 x14)
def s84_7 G L1 H_2 x0 x6 x15 x13 x14 x20 :=
 xb (aload P H_2 9 x20) (s84_6 G L1 H_2 x0 x6 x15 x13 x14)
def s84_8 G L1 x6 x0 x15 x13 x14 H_2 :=
 xb (afieldAddr P 101 x6 0) (s84_7 G L1 H_2 x0 x6 x15 x13 x14)
def s84_9 G L1 x18 x0 x15 x13 x14 x6 H_1 :=
 xstore H_1 (astore P H_1 101 x6 x18) (s84_8 G L1 x6 x0 x15 x13 x14)
def s84_10 G L1 H x0 x15 x13 x14 x18 :=
 xalloc H [(.str []), (.int .i64 0)] (s84_9 G L1 x18 x0 x15 x13 x14)
def s84_11 G L1 H x0 x15 x13 x14 x17 :=
 xb (aload P H 101 x17) (s84_10 G L1 H x0 x15 x13 x14)
def s84_12 G L1 x13 x15 H x0 x14 :=
 xb (aindexAddr P 102 x13 x15) (s84_11 G L1 H x0 x15 x13 x14)
def s84_13 G N H :=
 s84_j0 G N H
def s84_14 G N L1 x13 x15 H x0 x14 x16 :=
 xif (some x16) (s84_12 G L1 x13 x15 H x0 x14) (s84_13 G N H)
def s84_b1 G N L1 x0 x13 x14 x15 H :=
 xb (fbin P .lss 3 false x15 x14) (s84_14 G N L1 x13 x15 H x0 x14)
noncomputable def s84_l1 (G : CallT) (N : Nat) : Nat → AV → AV → AV → AV → AHeap → O
  | 0, _, _, _, _, _ => none
  | n + 1, x0, x13, x14, x15, H => s84_b1 G N (s84_l1 G N n) x0 x13 x14 x15 H

theorem s84_b1_eq (G : CallT) (N : Nat) (L1 : AV → AV → AV → AV → AHeap → O) : ∀ R H, codeC P G N (Code.fst (Code.fst (Code.snd (Code.fst (Code.snd (bodyOf Try.f84)))))) (fun R H => L1 (R 0) (R 13) (R 14) (R 15) H) [(0, (fun R H => s84_j0 G N H))] (retC P Try.f84.results.toList) R H = s84_b1 G N L1 (R 0) (R 13) (R 14) (R 15) H := by
  intro R H
  refine Eq.trans ((via_leaf _ : ∀ R H, codeC P G N (Code.fst (Code.fst (Code.snd (Code.fst (Code.snd (bodyOf Try.f84)))))) (fun R H => L1 (R 0) (R 13) (R 14) (R 15) H) [(0, (fun R H => s84_j0 G N H))] (retC P Try.f84.results.toList) R H = _) R H) ?_
  delta s84_b1 s84_14 s84_13 s84_12 s84_11 s84_10 s84_9 s84_8 s84_7 s84_6 s84_5 s84_4 s84_3 s84_2 s84_1 s84_0
  generalize s84_j0 G N = J0
  revert J0
  refine id ?_
  intro J0
  kernel_rfl

def s84_15 G N x0 x13 H x14 :=
 s84_l1 G N N x0 x13 x14 (.int .i64 0) H
def s84_16 G N H x0 x13 :=
 xlen P .len [102] [x13] H (s84_15 G N x0 x13 H)
def s84_17 G N H x0 x12 :=
 xb (aload P H 102 x12) (s84_16 G N H x0)
def s84_18 G N x1 H x0 x10 :=
 xb (aindexAddr P 69 x10 x1) (s84_17 G N H x0)
def s84_19 G N H x1 x0 x9 :=
 xb (aload P H 69 x9) (s84_18 G N x1 H x0)
def s84_20 G N H x1 x0 x8 :=
 xb (afieldAddr P 71 x8 3) (s84_19 G N H x1 x0)
/-- (*runrig/expr.reader).kind -/
def s84 G N x0 x1 H :=
 xb (anil x0) (s84_20 G N H x1 x0)
theorem s84_eq (G : CallT) (N : Nat) (x0 : AV) (x1 : AV) (H : AHeap) : codeC P G N (bodyOf Try.f84) (retC P Try.f84.results.toList) [] (retC P Try.f84.results.toList) (argsF [x0, x1]) H = s84 G N x0 x1 H := by
  refine Eq.trans (((via_seq (by kernel_rfl) ((via_seq (by kernel_rfl) (s84_j0_eq G N) ((via_seq (by kernel_rfl) ((via_block (by kernel_rfl) ((via_loop (k := fun m R H => s84_l1 G N m (R 0) (R 13) (R 14) (R 15) H) (by kernel_rfl) (fun R H => by kernel_rfl) (fun m => s84_b1_eq G N (s84_l1 G N m)))))) (via_leaf _))))) (via_leaf _)) : ∀ R H, codeC P G N (bodyOf Try.f84) (retC P Try.f84.results.toList) [] (retC P Try.f84.results.toList) R H = _) (argsF [x0, x1]) H) ?_
  delta s84 s84_20 s84_19 s84_18 s84_17 s84_16 s84_15
  generalize s84_l1 G N N = J0
  revert J0
  refine id ?_
  intro J0
  kernel_rfl

theorem run84 (N : Nat) {x0 x1 : AV} {H : AHeap} {r : AV × AHeap} (h : s84 (evw P) N x0 x1 H = some r) : evw P 84 [x0, x1] H = some r :=
  evw_code (c := (bodyOf Try.f84)) (M := N) Try.func84 (by kernel_rfl) (by kernel_rfl) (by kernel_rfl) (Eq.trans (s84_eq (evw P) N x0 x1 H) h)

def s71_0 (H_3 : AHeap) (r : AV) : O :=
 some (r, H_3)
def s71_1 x4 H_3 :=
 xb (aload P H_3 39 x4) (s71_0 H_3)
def s71_2 x4 x16 H_2 :=
 xstore H_2 (astore P H_2 39 x4 x16) (s71_1 x4)
def s71_3 (G : CallT) H_1 x0 x4 :=
 xcall H_1 (G 83 [x0] H_1) (s71_2 x4)
def s71_4 (H_1 : AHeap) (r : AV) : O :=
 some (r, H_1)
def s71_5 x4 H_1 :=
 xb (aload P H_1 39 x4) (s71_4 H_1)
def s71_6 H x4 x48 :=
 xstore H (astore P H 39 x4 x48) (s71_5 x4)
def s71_j0 (G : CallT) (N : Nat) x4 x5 H :=
 xb (aload P H 39 x5) (s71_6 H x4)
theorem s71_j0_eq (G : CallT) (N : Nat) : ∀ R H, codeC P G N (Code.snd (Code.snd (Code.snd (Code.snd (bodyOf Try.f71))))) (retC P Try.f71.results.toList) [] (retC P Try.f71.results.toList) R H = s71_j0 G N (R 4) (R 5) H := by
  intro R H
  refine Eq.trans ((via_leaf _ : ∀ R H, codeC P G N (Code.snd (Code.snd (Code.snd (Code.snd (bodyOf Try.f71))))) (retC P Try.f71.results.toList) [] (retC P Try.f71.results.toList) R H = _) R H) ?_
  delta s71_j0 s71_6 s71_5 s71_4
  kernel_rfl

def s71_7 (L1 : AV → AV → AV → AV → AV → AHeap → O) x0 x1 x4 x5 x28 H_6 :=
 L1 x0 x1 x4 x5 x28 H_6
def s71_8 (G : CallT) L1 H_5 x0 x1 x4 x5 :=
 xcall H_5 (G 84 [x0, x1] H_5) (s71_7 L1 x0 x1 x4 x5)
def s71_9 G L1 H_2 x5 x40 H_3 x0 x1 x4 H_5 :=
 bif ((rdIs (aload P H_2 39 x5) x40 && (rdIs (aload P H_3 39 x5) x40 && true)) && true) then s71_8 G L1 H_5 x0 x1 x4 x5 else none
def s71_10 G L1 H_4 x5 H_2 x40 H_3 x0 x1 x4 x47 :=
 xstore H_4 (astore P H_4 39 x5 x47) (s71_9 G L1 H_2 x5 x40 H_3 x0 x1 x4)
def s71_11 G L1 x6 x31 x5 H_2 x40 H_3 x0 x1 x4 x45 H_4 :=
 xb (abuild P 39 [(0, x6), (4, x45), (5, x31)]) (s71_10 G L1 H_4 x5 H_2 x40 H_3 x0 x1 x4)
def s71_12 G L1 H_3 x44 x6 x31 x5 H_2 x0 x1 x4 x40 :=
 xmake H_3 (sliceOf P (H_3).next 35 2 [(0, x40), (1, x44)]) (s71_11 G L1 x6 x31 x5 H_2 x40 H_3 x0 x1 x4)
def s71_13 G L1 x5 x6 x31 H_2 x0 x1 x4 x44 H_3 :=
 xb (aload P H_3 39 x5) (s71_12 G L1 H_3 x44 x6 x31 x5 H_2 x0 x1 x4)
def s71_14 (G : CallT) L1 H_2 x0 x5 x6 x31 x1 x4 x43 :=
 xcall H_2 (G 71 [x0, x43] H_2) (s71_13 G L1 x5 x6 x31 H_2 x0 x1 x4)
def s71_15 G L1 x1 x0 x5 x6 x31 x4 H_2 :=
 xb (fbin P .add 3 true x1 (.int .i64 1)) (s71_14 G L1 H_2 x0 x5 x6 x31 x1 x4)
def s71_16 G L1 H_1 x36 x1 x0 x5 x6 x31 x4 x38 :=
 xstore H_1 (astore P H_1 3 x38 x36) (s71_15 G L1 x1 x0 x5 x6 x31 x4)
def s71_17 G L1 H_1 x36 x1 x0 x5 x6 x31 x4 x37 :=
 xb (afieldAddr P 71 x37 1) (s71_16 G L1 H_1 x36 x1 x0 x5 x6 x31 x4)
def s71_18 G L1 x0 H_1 x1 x5 x6 x31 x4 x36 :=
 xb (anil x0) (s71_17 G L1 H_1 x36 x1 x0 x5 x6 x31 x4)
def s71_19 G L1 x0 H_1 x1 x5 x6 x31 x4 x35 :=
 xb (fbin P .add 3 true x35 (.int .i64 1)) (s71_18 G L1 x0 H_1 x1 x5 x6 x31 x4)
def s71_20 G L1 H_1 x0 x1 x5 x6 x31 x4 x34 :=
 xb (aload P H_1 3 x34) (s71_19 G L1 x0 H_1 x1 x5 x6 x31 x4)
def s71_21 G L1 H_1 x0 x1 x5 x6 x31 x4 x33 :=
 xb (afieldAddr P 71 x33 1) (s71_20 G L1 H_1 x0 x1 x5 x6 x31 x4)
def s71_22 G L1 x0 H_1 x1 x5 x6 x4 x31 :=
 xb (anil x0) (s71_21 G L1 H_1 x0 x1 x5 x6 x31 x4)
def s71_23 G L1 x0 x1 x5 x6 x4 x30 H_1 :=
 xb (afield P 65 x30 3) (s71_22 G L1 x0 H_1 x1 x5 x6 x4)
def s71_24 (G : CallT) L1 H x0 x1 x5 x6 x4 :=
 xcall H (G 62 [x0] H) (s71_23 G L1 x0 x1 x5 x6 x4)
def s71_25 G N x4 x5 H :=
 s71_j0 G N x4 x5 H
def s71_26 G N L1 H x0 x1 x5 x6 x4 x25 :=
 xif (some x25) (s71_24 G L1 H x0 x1 x5 x6 x4) (s71_25 G N x4 x5 H)
def s71_b1 G N L1 x0 x1 x4 x5 x6 H :=
 xb (fbin P .neq 3 true x6 (.int .i64 0)) (s71_26 G N L1 H x0 x1 x5 x6 x4)
noncomputable def s71_l1 (G : CallT) (N : Nat) : Nat → AV → AV → AV → AV → AV → AHeap → O
  | 0, _, _, _, _, _, _ => none
  | n + 1, x0, x1, x4, x5, x6, H => s71_b1 G N (s71_l1 G N n) x0 x1 x4 x5 x6 H

theorem s71_b1_eq (G : CallT) (N : Nat) (L1 : AV → AV → AV → AV → AV → AHeap → O) : ∀ R H, codeC P G N (Code.fst (Code.fst (Code.snd (Code.fst (Code.snd (Code.snd (Code.snd (bodyOf Try.f71)))))))) (fun R H => L1 (R 0) (R 1) (R 4) (R 5) (R 6) H) [(0, (fun R H => s71_j0 G N (R 4) (R 5) H))] (retC P Try.f71.results.toList) R H = s71_b1 G N L1 (R 0) (R 1) (R 4) (R 5) (R 6) H := by
  intro R H
  refine Eq.trans ((via_leaf _ : ∀ R H, codeC P G N (Code.fst (Code.fst (Code.snd (Code.fst (Code.snd (Code.snd (Code.snd (bodyOf Try.f71)))))))) (fun R H => L1 (R 0) (R 1) (R 4) (R 5) (R 6) H) [(0, (fun R H => s71_j0 G N (R 4) (R 5) H))] (retC P Try.f71.results.toList) R H = _) R H) ?_
  delta s71_b1 s71_26 s71_25 s71_24 s71_23 s71_22 s71_21 s71_20 s71_19 s71_18 s71_17 s71_16 s71_15 s71_14 s71_13 s71_12 s71_11 s71_10 s71_9 s71_8 s71_7
  generalize s71_j0 G N = J0
  revert J0
  refine id ?_
  intro J0
  kernel_rfl

def s71_27 G N x0 x1 x4 x5 x23 H_5 :=
 s71_l1 G N N x0 x1 x4 x5 x23 H_5
def s71_28 (G : CallT) N x0 x1 x4 x5 H_4 :=
 xcall H_4 (G 84 [x0, x1] H_4) (s71_27 G N x0 x1 x4 x5)
def s71_29 G N x20 x0 x1 x4 x5 H_3 :=
 xstore H_3 (astore P H_3 39 x5 x20) (s71_28 G N x0 x1 x4 x5)
def s71_30 G N x0 x1 x4 x20 H_2 :=
 xalloc H_2 [(.int .i64 0), (.int .i64 0), (.str []), (.str []), (.int .i64 0), AV.nilSl, (.int .i64 0), (.int .i64 0), (.int .i64 0), (.int .i64 0), (.int .i64 0)] (s71_29 G N x20 x0 x1 x4)
def s71_31 (G : CallT) N H_1 x0 x1 x4 x19 :=
 xcall H_1 (G 71 [x0, x19] H_1) (s71_30 G N x0 x1 x4)
def s71_32 G N x1 H_1 x0 x4 :=
 xb (fbin P .add 3 true x1 (.int .i64 1)) (s71_31 G N H_1 x0 x1 x4)
def s71_33 G N H_1 x0 x4 x1 x14 :=
 xif (some x14) (s71_3 G H_1 x0 x4) (s71_32 G N x1 H_1 x0 x4)
def s71_34 G N x1 H_1 x0 x4 x13 :=
 xb (fbin P .eql 3 false x1 x13) (s71_33 G N H_1 x0 x4 x1)
def s71_35 G N H_1 x1 x0 x4 x12 :=
 xlen P .len [69] [x12] H_1 (s71_34 G N x1 H_1 x0 x4)
def s71_36 G N H_1 x1 x0 x4 x11 :=
 xb (aload P H_1 69 x11) (s71_35 G N H_1 x1 x0 x4)
def s71_37 G N H_1 x1 x0 x4 x10 :=
 xb (afieldAddr P 71 x10 3) (s71_36 G N H_1 x1 x0 x4)
def s71_38 G N x0 x1 x4 H_1 :=
 xb (anil x0) (s71_37 G N H_1 x1 x0 x4)
/-- (*runrig/expr.reader).row -/
def s71 G N x0 x1 H :=
 xalloc H [(.int .i64 0), (.int .i64 0), (.str []), (.str []), (.int .i64 0), AV.nilSl, (.int .i64 0), (.int .i64 0), (.int .i64 0), (.int .i64 0), (.int .i64 0)] (s71_38 G N x0 x1)
theorem s71_eq (G : CallT) (N : Nat) (x0 : AV) (x1 : AV) (H : AHeap) : codeC P G N (bodyOf Try.f71) (retC P Try.f71.results.toList) [] (retC P Try.f71.results.toList) (argsF [x0, x1]) H = s71 G N x0 x1 H := by
  refine Eq.trans (((via_seq (by kernel_rfl) ((via_seq (by kernel_rfl) ((via_seq (by kernel_rfl) ((via_seq (by kernel_rfl) (s71_j0_eq G N) ((via_seq (by kernel_rfl) ((via_block (by kernel_rfl) ((via_loop (k := fun m R H => s71_l1 G N m (R 0) (R 1) (R 4) (R 5) (R 6) H) (by kernel_rfl) (fun R H => by kernel_rfl) (fun m => s71_b1_eq G N (s71_l1 G N m)))))) (via_leaf _))))) (via_leaf _))) (via_leaf _))) (via_leaf _)) : ∀ R H, codeC P G N (bodyOf Try.f71) (retC P Try.f71.results.toList) [] (retC P Try.f71.results.toList) R H = _) (argsF [x0, x1]) H) ?_
  delta s71 s71_38 s71_37 s71_36 s71_35 s71_34 s71_33 s71_32 s71_31 s71_30 s71_29 s71_28 s71_27 s71_3 s71_2 s71_1 s71_0
  generalize s71_l1 G N N = J0
  revert J0
  refine id ?_
  intro J0
  kernel_rfl

theorem run71 (N : Nat) {x0 x1 : AV} {H : AHeap} {r : AV × AHeap} (h : s71 (evw P) N x0 x1 H = some r) : evw P 71 [x0, x1] H = some r :=
  evw_code (c := (bodyOf Try.f71)) (M := N) Try.func71 (by kernel_rfl) (by kernel_rfl) (by kernel_rfl) (Eq.trans (s71_eq (evw P) N x0 x1 H) h)

def s41_0 (H_3 : AHeap) (r : AV) : O :=
 some (r, H_3)
def s41_1 x2 H_3 :=
 xb (aload P H_3 39 x2) (s41_0 H_3)
def s41_2 x2 x4 H_2 :=
 xstore H_2 (astore P H_2 39 x2 x4) (s41_1 x2)
def s41_3 (G : CallT) x0 x2 H_1 :=
 xcall H_1 (G 71 [x0, (.int .i64 0)] H_1) (s41_2 x2)
/-- (*runrig/expr.reader).whole -/
def s41 G x0 H :=
 xalloc H [(.int .i64 0), (.int .i64 0), (.str []), (.str []), (.int .i64 0), AV.nilSl, (.int .i64 0), (.int .i64 0), (.int .i64 0), (.int .i64 0), (.int .i64 0)] (s41_3 G x0)
theorem s41_eq (G : CallT) (N : Nat) (x0 : AV) (H : AHeap) : codeC P G N (bodyOf Try.f41) (retC P Try.f41.results.toList) [] (retC P Try.f41.results.toList) (argsF [x0]) H = s41 G x0 H := by
  refine Eq.trans ((via_leaf _ : ∀ R H, codeC P G N (bodyOf Try.f41) (retC P Try.f41.results.toList) [] (retC P Try.f41.results.toList) R H = _) (argsF [x0]) H) ?_
  delta s41 s41_3 s41_2 s41_1 s41_0
  kernel_rfl

theorem run41 (N : Nat) {x0 : AV} {H : AHeap} {r : AV × AHeap} (h : s41 (evw P) x0 H = some r) : evw P 41 [x0] H = some r :=
  evw_code (c := (bodyOf Try.f41)) (M := N) Try.func41 (by kernel_rfl) (by kernel_rfl) (by kernel_rfl) (Eq.trans (s41_eq (evw P) N x0 H) h)

def s83_0 (H_2 : AHeap) (r : AV) : O :=
 some (r, H_2)
def s83_1 x2 H_2 :=
 xb (aload P H_2 39 x2) (s83_0 H_2)
def s83_2 x2 x45 H_1 :=
 xstore H_1 (astore P H_1 39 x2 x45) (s83_1 x2)
def s83_j0 (G : CallT) (N : Nat) x0 x2 H :=
 xcall H (G 102 [x0] H) (s83_2 x2)
theorem s83_j0_eq (G : CallT) (N : Nat) : ∀ R H, codeC P G N (Code.snd (Code.snd (bodyOf Try.f83))) (retC P Try.f83.results.toList) [] (retC P Try.f83.results.toList) R H = s83_j0 G N (R 0) (R 2) H := by
  intro R H
  refine Eq.trans ((via_leaf _ : ∀ R H, codeC P G N (Code.snd (Code.snd (bodyOf Try.f83))) (retC P Try.f83.results.toList) [] (retC P Try.f83.results.toList) R H = _) R H) ?_
  delta s83_j0 s83_2 s83_1 s83_0
  kernel_rfl

def s83_3 (H_6 : AHeap) (r : AV) : O :=
 some (r, H_6)
def s83_4 x2 H_6 :=
 xb (aload P H_6 39 x2) (s83_3 H_6)
def s83_5 H_5 x2 :=
 xstore H_5 (astore P H_5 39 x2 (.agg [(.int .i64 0), (.int .i64 0), (.str []), (.str []), (.int .i64 0), AV.nilSl, (.int .i64 0), (.int .i64 0), (.int .i64 0), (.int .i64 0), (.int .i64 0)])) (s83_4 x2)
def s83_6 (H_11 : AHeap) (r : AV) : O :=
 some (r, H_11)
def s83_7 x2 H_11 :=
 xb (aload P H_11 39 x2) (s83_6 H_11)
def s83_8 H_10 x2 x42 :=
 xstore H_10 (astore P H_10 39 x2 x42) (s83_7 x2)
def s83_9 x38 x17 x2 x40 H_10 :=
 xb (abuild P 39 [(0, x38), (4, x40), (5, x17)]) (s83_8 H_10 x2)
def s83_10 H_9 x38 x17 x2 x39 :=
 xmake H_9 (sliceOf P (H_9).next 35 1 [(0, x39)]) (s83_9 x38 x17 x2)
def s83_11 H_9 x6 x17 x2 x38 :=
 xb (aload P H_9 39 x6) (s83_10 H_9 x38 x17 x2)
def s83_12 H_9 x6 x17 x2 x37 :=
 xb (aload P H_9 3 x37) (s83_11 H_9 x6 x17 x2)
def s83_13 x4 x6 x17 x2 H_9 :=
 xb (afieldAddr P 101 x4 1) (s83_12 H_9 x6 x17 x2)
def s83_14 H_8 x34 x4 x6 x17 x2 x36 :=
 xstore H_8 (astore P H_8 3 x36 x34) (s83_13 x4 x6 x17 x2)
def s83_15 H_8 x34 x4 x6 x17 x2 x35 :=
 xb (afieldAddr P 71 x35 2) (s83_14 H_8 x34 x4 x6 x17 x2)
def s83_16 x0 H_8 x4 x6 x17 x2 x34 :=
 xb (anil x0) (s83_15 H_8 x34 x4 x6 x17 x2)
def s83_17 x0 H_8 x4 x6 x17 x2 x33 :=
 xb (fbin P .sub 3 true x33 (.int .i64 1)) (s83_16 x0 H_8 x4 x6 x17 x2)
def s83_18 H_8 x0 x4 x6 x17 x2 x32 :=
 xb (aload P H_8 3 x32) (s83_17 x0 H_8 x4 x6 x17 x2)
def s83_19 H_8 x0 x4 x6 x17 x2 x31 :=
 xb (afieldAddr P 71 x31 2) (s83_18 H_8 x0 x4 x6 x17 x2)
def s83_20 x0 x4 x6 x17 x2 H_8 :=
 xb (anil x0) (s83_19 H_8 x0 x4 x6 x17 x2)
def s83_21 x29 x0 x4 x17 x2 x6 H_7 :=
 xstore H_7 (astore P H_7 39 x6 x29) (s83_20 x0 x4 x6 x17 x2)
def s83_22 x0 x4 x17 x2 x29 H_6 :=
 xalloc H_6 [(.int .i64 0), (.int .i64 0), (.str []), (.str []), (.int .i64 0), AV.nilSl, (.int .i64 0), (.int .i64 0), (.int .i64 0), (.int .i64 0), (.int .i64 0)] (s83_21 x29 x0 x4 x17 x2)
def s83_23 (G : CallT) H_5 x0 x4 x17 x2 :=
 xcall H_5 (G 83 [x0] H_5) (s83_22 x0 x4 x17 x2)
def s83_24 G H_5 x2 x0 x4 x17 x26 :=
 xif (some x26) (s83_5 H_5 x2) (s83_23 G H_5 x0 x4 x17 x2)
def s83_25 G x2 x0 x4 x17 x25 H_5 :=
 xb (aun .not x25) (s83_24 G H_5 x2 x0 x4 x17)
def s83_26 (G : CallT) H_4 x0 x2 x4 x17 x24 :=
 xcall H_4 (G 101 [x0, x24] H_4) (s83_25 G x2 x0 x4 x17)
def s83_27 G H_4 x0 x2 x4 x17 x23 :=
 xb (aload P H_4 9 x23) (s83_26 G H_4 x0 x2 x4 x17)
def s83_28 G x4 H_4 x0 x2 x17 :=
 xb (afieldAddr P 101 x4 0) (s83_27 G H_4 x0 x2 x4 x17)
def s83_29 (L1 : AV → AV → AV → AV → AV → AHeap → O) x0 x2 x9 x10 H_4 x43 :=
 L1 x0 x2 x9 x10 x43 H_4
def s83_30 L1 x11 x0 x2 x9 x10 H_4 :=
 xb (fbin P .add 3 true x11 (.int .i64 1)) (s83_29 L1 x0 x2 x9 x10 H_4)
def s83_31 G L1 x4 x0 x2 x17 x11 x9 x10 x21 H_4 :=
 xif (some x21) (s83_28 G x4 H_4 x0 x2 x17) (s83_30 L1 x11 x0 x2 x9 x10 H_4)
def s83_32 (G : CallT) L1 H_3 x0 x4 x2 x17 x11 x9 x10 x20 :=
 xcall H_3 (G 60 [x0, (.int .i64 4), x20] H_3) (s83_31 G L1 x4 x0 x2 x17 x11 x9 x10)
def s83_33 G L1 H_3 x0 x4 x2 x17 x11 x9 x10 x19 :=
 xb (aload P H_3 9 x19) (s83_32 G L1 H_3 x0 x4 x2 x17 x11 x9 x10)
def s83_34 G L1 x4 H_3 x0 x2 x11 x9 x10 x17 :=
 xb (afieldAddr P 101 x4 0) (s83_33 G L1 H_3 x0 x4 x2 x17 x11 x9 x10)
def s83_35 G L1 x4 x0 x2 x11 x9 x10 x16 H_3 :=
 xb (afield P 65 x16 3) (s83_34 G L1 x4 H_3 x0 x2 x11 x9 x10)
def s83_36 (G : CallT) L1 x0 x4 x2 x11 x9 x10 H_2 :=
 xcall H_2 (G 62 [x0] H_2) (s83_35 G L1 x4 x0 x2 x11 x9 x10)
def s83_37 G L1 x14 x0 x2 x11 x9 x10 x4 H_1 :=
 xstore H_1 (astore P H_1 101 x4 x14) (s83_36 G L1 x0 x4 x2 x11 x9 x10)
def s83_38 G L1 H x0 x2 x11 x9 x10 x14 :=
 xalloc H [(.str []), (.int .i64 0)] (s83_37 G L1 x14 x0 x2 x11 x9 x10)
def s83_39 G L1 H x0 x2 x11 x9 x10 x13 :=
 xb (aload P H 101 x13) (s83_38 G L1 H x0 x2 x11 x9 x10)
def s83_40 G L1 x9 x11 H x0 x2 x10 :=
 xb (aindexAddr P 102 x9 x11) (s83_39 G L1 H x0 x2 x11 x9 x10)
def s83_41 G N x0 x2 H :=
 s83_j0 G N x0 x2 H
def s83_42 G N L1 x9 x11 H x0 x2 x10 x12 :=
 xif (some x12) (s83_40 G L1 x9 x11 H x0 x2 x10) (s83_41 G N x0 x2 H)
def s83_b1 G N L1 x0 x2 x9 x10 x11 H :=
 xb (fbin P .lss 3 false x11 x10) (s83_42 G N L1 x9 x11 H x0 x2 x10)
noncomputable def s83_l1 (G : CallT) (N : Nat) : Nat → AV → AV → AV → AV → AV → AHeap → O
  | 0, _, _, _, _, _, _ => none
  | n + 1, x0, x2, x9, x10, x11, H => s83_b1 G N (s83_l1 G N n) x0 x2 x9 x10 x11 H

theorem s83_b1_eq (G : CallT) (N : Nat) (L1 : AV → AV → AV → AV → AV → AHeap → O) : ∀ R H, codeC P G N (Code.fst (Code.fst (Code.snd (Code.fst (Code.snd (bodyOf Try.f83)))))) (fun R H => L1 (R 0) (R 2) (R 9) (R 10) (R 11) H) [(0, (fun R H => s83_j0 G N (R 0) (R 2) H))] (retC P Try.f83.results.toList) R H = s83_b1 G N L1 (R 0) (R 2) (R 9) (R 10) (R 11) H := by
  intro R H
  refine Eq.trans ((via_leaf _ : ∀ R H, codeC P G N (Code.fst (Code.fst (Code.snd (Code.fst (Code.snd (bodyOf Try.f83)))))) (fun R H => L1 (R 0) (R 2) (R 9) (R 10) (R 11) H) [(0, (fun R H => s83_j0 G N (R 0) (R 2) H))] (retC P Try.f83.results.toList) R H = _) R H) ?_
  delta s83_b1 s83_42 s83_41 s83_40 s83_39 s83_38 s83_37 s83_36 s83_35 s83_34 s83_33 s83_32 s83_31 s83_30 s83_29 s83_28 s83_27 s83_26 s83_25 s83_24 s83_23 s83_22 s83_21 s83_20 s83_19 s83_18 s83_17 s83_16 s83_15 s83_14 s83_13 s83_12 s83_11 s83_10 s83_9 s83_8 s83_7 s83_6 s83_5 s83_4 s83_3
  generalize s83_j0 G N = J0
  revert J0
  refine id ?_
  intro J0
  kernel_rfl

def s83_43 G N x0 x2 x9 H_2 :=
 s83_l1 G N N x0 x2 x9 (.int .i64 2) (.int .i64 0) H_2
def s83_44 G N x0 x2 H_1 :=
 xmake H_1 (some (.sl (H_1).next 0 2 2 (some 2), .row false 2 [[(.str [45]), (.int .i64 12)], [(.str [33]), (.int .i64 13)]])) (s83_43 G N x0 x2)
/-- (*runrig/expr.reader).unary -/
def s83 G N x0 H :=
 xalloc H [(.int .i64 0), (.int .i64 0), (.str []), (.str []), (.int .i64 0), AV.nilSl, (.int .i64 0), (.int .i64 0), (.int .i64 0), (.int .i64 0), (.int .i64 0)] (s83_44 G N x0)
theorem s83_eq (G : CallT) (N : Nat) (x0 : AV) (H : AHeap) : codeC P G N (bodyOf Try.f83) (retC P Try.f83.results.toList) [] (retC P Try.f83.results.toList) (argsF [x0]) H = s83 G N x0 H := by
  refine Eq.trans (((via_seq (by kernel_rfl) ((via_seq (by kernel_rfl) (s83_j0_eq G N) ((via_seq (by kernel_rfl) ((via_block (by kernel_rfl) ((via_loop (k := fun m R H => s83_l1 G N m (R 0) (R 2) (R 9) (R 10) (R 11) H) (by kernel_rfl) (fun R H => by kernel_rfl) (fun m => s83_b1_eq G N (s83_l1 G N m)))))) (via_leaf _))))) (via_leaf _)) : ∀ R H, codeC P G N (bodyOf Try.f83) (retC P Try.f83.results.toList) [] (retC P Try.f83.results.toList) R H = _) (argsF [x0]) H) ?_
  delta s83 s83_44 s83_43
  generalize s83_l1 G N N = J0
  revert J0
  refine id ?_
  intro J0
  kernel_rfl

theorem run83 (N : Nat) {x0 : AV} {H : AHeap} {r : AV × AHeap} (h : s83 (evw P) N x0 H = some r) : evw P 83 [x0] H = some r :=
  evw_code (c := (bodyOf Try.f83)) (M := N) Try.func83 (by kernel_rfl) (by kernel_rfl) (by kernel_rfl) (Eq.trans (s83_eq (evw P) N x0 H) h)

def s102_0 (H_1 : AHeap) (r : AV) : O :=
 some (r, H_1)
def s102_1 x2 H_1 :=
 xb (aload P H_1 39 x2) (s102_0 H_1)
def s102_2 H x2 x29 :=
 xstore H (astore P H 39 x2 x29) (s102_1 x2)
def s102_j0 (G : CallT) (N : Nat) x2 x3 H :=
 xb (aload P H 39 x3) (s102_2 H x2)
theorem s102_j0_eq (G : CallT) (N : Nat) : ∀ R H, codeC P G N (Code.snd (Code.snd (Code.snd (Code.snd (bodyOf Try.f102))))) (retC P Try.f102.results.toList) [] (retC P Try.f102.results.toList) R H = s102_j0 G N (R 2) (R 3) H := by
  intro R H
  refine Eq.trans ((via_leaf _ : ∀ R H, codeC P G N (Code.snd (Code.snd (Code.snd (Code.snd (bodyOf Try.f102))))) (retC P Try.f102.results.toList) [] (retC P Try.f102.results.toList) R H = _) R H) ?_
  delta s102_j0 s102_2 s102_1 s102_0
  kernel_rfl

def s102_3 G N x2 x3 H_6 :=
 s102_j0 G N x2 x3 H_6
def s102_4 (L1 : AV → AV → AV → AV → AHeap → O) x0 x2 x3 x4 H_8 :=
 L1 x0 x2 x3 x4 H_8
def s102_5 L1 x3 x0 x2 x4 x28 H_7 :=
 xstore H_7 (astore P H_7 39 x3 x28) (s102_4 L1 x0 x2 x3 x4)
def s102_6 G L1 H_6 x22 x0 x3 x2 x4 x27 :=
 xapply G H_6 x22 [x0, x27] (s102_5 L1 x3 x0 x2 x4)
def s102_7 G L1 H_6 x3 x22 x0 x2 x4 :=
 xb (aload P H_6 39 x3) (s102_6 G L1 H_6 x22 x0 x3 x2 x4)
def s102_8 G N L1 x2 x3 H_6 x22 x0 x4 x24 :=
 xif (some x24) (s102_3 G N x2 x3 H_6) (s102_7 G L1 H_6 x3 x22 x0 x2 x4)
def s102_9 G N L1 x2 x3 H_6 x0 x4 x22 :=
 xb (fbin P .eql 120 true x22 AV.nilFunc) (s102_8 G N L1 x2 x3 H_6 x22 x0 x4)
def s102_10 G N L1 H_6 x4 x2 x3 x0 x21 :=
 xb (alookup P H_6 118 x4 x21 false) (s102_9 G N L1 x2 x3 H_6 x0 x4)
def s102_11 G N L1 x4 x2 x3 x0 x20 H_6 :=
 xb (afield P 65 x20 1) (s102_10 G N L1 H_6 x4 x2 x3 x0)
def s102_12 (G : CallT) N L1 H_5 x0 x4 x2 x3 :=
 xcall H_5 (G 62 [x0] H_5) (s102_11 G N L1 x4 x2 x3 x0)
def s102_13 G N x2 x3 H_5 :=
 s102_j0 G N x2 x3 H_5
def s102_14 G N L1 H_5 x0 x4 x2 x3 x17 :=
 xif (some x17) (s102_12 G N L1 H_5 x0 x4 x2 x3) (s102_13 G N x2 x3 H_5)
def s102_15 G N L1 x11 x0 x4 x2 x3 x16 H_5 :=
 xb (pickOf x11 (some x16) (some (.bool false))) (s102_14 G N L1 H_5 x0 x4 x2 x3)
def s102_16 G N L1 x11 x0 x4 x2 x3 x15 H_4 :=
 xg x11 true H_4 (fun q => (fbin P .eql 3 true x15 (.int .i64 4)).bind fun v => q (.pure v)) (s102_15 G N L1 x11 x0 x4 x2 x3)
def s102_17 G N L1 x11 x0 x4 x2 x3 x14 H_3 :=
 xg x11 true H_3 (fun q => (afield P 65 x14 0).bind fun v => q (.pure v)) (s102_16 G N L1 x11 x0 x4 x2 x3)
def s102_18 (G : CallT) N L1 x11 x0 x4 x2 x3 x13 H_2 :=
 xg x11 true H_2 (fun q => xeff H_2 (G 62 [x13] H_2) q) (s102_17 G N L1 x11 x0 x4 x2 x3)
def s102_19 G N L1 H_1 x0 x4 x2 x3 x11 :=
 xg x11 true H_1 (fun q => q (.pure x0)) (s102_18 G N L1 x11 x0 x4 x2 x3)
def s102_20 G N L1 x0 x4 x2 x3 x10 H_1 :=
 xb (aun .not x10) (s102_19 G N L1 H_1 x0 x4 x2 x3)
def s102_b1 (G : CallT) N L1 x0 x2 x3 x4 H :=
 xcall H (G 36 [x0] H) (s102_20 G N L1 x0 x4 x2 x3)
noncomputable def s102_l1 (G : CallT) (N : Nat) : Nat → AV → AV → AV → AV → AHeap → O
  | 0, _, _, _, _, _ => none
  | n + 1, x0, x2, x3, x4, H => s102_b1 G N (s102_l1 G N n) x0 x2 x3 x4 H

theorem s102_b1_eq (G : CallT) (N : Nat) (L1 : AV → AV → AV → AV → AHeap → O) : ∀ R H, codeC P G N (Code.fst (Code.fst (Code.fst (Code.snd (Code.snd (Code.snd (bodyOf Try.f102))))))) (fun R H => L1 (R 0) (R 2) (R 3) (R 4) H) [(0, (fun R H => s102_j0 G N (R 2) (R 3) H))] (retC P Try.f102.results.toList) R H = s102_b1 G N L1 (R 0) (R 2) (R 3) (R 4) H := by
  intro R H
  refine Eq.trans ((via_leaf _ : ∀ R H, codeC P G N (Code.fst (Code.fst (Code.fst (Code.snd (Code.snd (Code.snd (bodyOf Try.f102))))))) (fun R H => L1 (R 0) (R 2) (R 3) (R 4) H) [(0, (fun R H => s102_j0 G N (R 2) (R 3) H))] (retC P Try.f102.results.toList) R H = _) R H) ?_
  delta s102_b1 s102_20 s102_19 s102_18 s102_17 s102_16 s102_15 s102_14 s102_13 s102_12 s102_11 s102_10 s102_9 s102_8 s102_7 s102_6 s102_5 s102_4 s102_3
  generalize s102_j0 G N = J0
  revert J0
  refine id ?_
  intro J0
  kernel_rfl

def s102_21 G N x0 x2 x3 x8 H_5 :=
 s102_l1 G N N x0 x2 x3 x8 H_5
def s102_22 (G : CallT) N x0 x2 x3 H_4 :=
 xcall H_4 (G 107 [] H_4) (s102_21 G N x0 x2 x3)
def s102_23 G N x7 x0 x2 x3 H_3 :=
 xstore H_3 (astore P H_3 39 x3 x7) (s102_22 G N x0 x2 x3)
def s102_24 G N x0 x2 x7 H_2 :=
 xalloc H_2 [(.int .i64 0), (.int .i64 0), (.str []), (.str []), (.int .i64 0), AV.nilSl, (.int .i64 0), (.int .i64 0), (.int .i64 0), (.int .i64 0), (.int .i64 0)] (s102_23 G N x7 x0 x2)
def s102_25 (G : CallT) N x0 x2 H_1 :=
 xcall H_1 (G 106 [x0] H_1) (s102_24 G N x0 x2)
/-- (*runrig/expr.reader).chain -/
def s102 G N x0 H :=
 xalloc H [(.int .i64 0), (.int .i64 0), (.str []), (.str []), (.int .i64 0), AV.nilSl, (.int .i64 0), (.int .i64 0), (.int .i64 0), (.int .i64 0), (.int .i64 0)] (s102_25 G N x0)
theorem s102_eq (G : CallT) (N : Nat) (x0 : AV) (H : AHeap) : codeC P G N (bodyOf Try.f102) (retC P Try.f102.results.toList) [] (retC P Try.f102.results.toList) (argsF [x0]) H = s102 G N x0 H := by
  refine Eq.trans (((via_seq (by kernel_rfl) ((via_seq (by kernel_rfl) ((via_seq (by kernel_rfl) ((via_seq (by kernel_rfl) (s102_j0_eq G N) ((via_block (by kernel_rfl) ((via_loop (k := fun m R H => s102_l1 G N m (R 0) (R 2) (R 3) (R 4) H) (by kernel_rfl) (fun R H => by kernel_rfl) (fun m => s102_b1_eq G N (s102_l1 G N m)))))))) (via_leaf _))) (via_leaf _))) (via_leaf _)) : ∀ R H, codeC P G N (bodyOf Try.f102) (retC P Try.f102.results.toList) [] (retC P Try.f102.results.toList) R H = _) (argsF [x0]) H) ?_
  delta s102 s102_25 s102_24 s102_23 s102_22 s102_21
  generalize s102_l1 G N N = J0
  revert J0
  refine id ?_
  intro J0
  kernel_rfl

theorem run102 (N : Nat) {x0 : AV} {H : AHeap} {r : AV × AHeap} (h : s102 (evw P) N x0 H = some r) : evw P 102 [x0] H = some r :=
  evw_code (c := (bodyOf Try.f102)) (M := N) Try.func102 (by kernel_rfl) (by kernel_rfl) (by kernel_rfl) (Eq.trans (s102_eq (evw P) N x0 H) h)

def s106_0 (H_3 : AHeap) (r : AV) : O :=
 some (r, H_3)
def s106_1 x2 H_3 :=
 xb (aload P H_3 39 x2) (s106_0 H_3)
def s106_2 H_2 x2 :=
 xstore H_2 (astore P H_2 39 x2 (.agg [(.int .i64 0), (.int .i64 0), (.str []), (.str []), (.int .i64 0), AV.nilSl, (.int .i64 0), (.int .i64 0), (.int .i64 0), (.int .i64 0), (.int .i64 0)])) (s106_1 x2)
def s106_3 (H_2 : AHeap) (r : AV) : O :=
 some (r, H_2)
def s106_4 x2 H_2 :=
 xb (aload P H_2 39 x2) (s106_3 H_2)
def s106_5 x2 (x52 : AV) H_1 :=
 xstore H_1 (astore P H_1 39 x2 (.agg [(.int .i64 0), (.int .i64 0), (.str []), (.str []), (.int .i64 0), AV.nilSl, (.int .i64 0), (.int .i64 0), (.int .i64 0), (.int .i64 0), (.int .i64 0)])) (s106_4 x2)
def s106_j0 (G : CallT) x0 x2 H :=
 xcall H (G 61 [x0, (.int .i64 2)] H) (s106_5 x2)
theorem s106_j0_eq (G : CallT) (N : Nat) : ∀ R H, codeC P G N (Code.snd (Code.snd (Code.snd (bodyOf Try.f106)))) (retC P Try.f106.results.toList) [] (retC P Try.f106.results.toList) R H = s106_j0 G (R 0) (R 2) H := by
  intro R H
  refine Eq.trans ((via_leaf _ : ∀ R H, codeC P G N (Code.snd (Code.snd (Code.snd (bodyOf Try.f106)))) (retC P Try.f106.results.toList) [] (retC P Try.f106.results.toList) R H = _) R H) ?_
  delta s106_j0 s106_5 s106_4 s106_3
  kernel_rfl

def s106_6 (H_7 : AHeap) (r : AV) : O :=
 some (r, H_7)
def s106_7 x2 H_7 :=
 xb (aload P H_7 39 x2) (s106_6 H_7)
def s106_8 H_6 x2 x25 :=
 xstore H_6 (astore P H_6 39 x2 x25) (s106_7 x2)
def s106_9 x22 H_6 x2 x24 :=
 xb (abuild P 39 [(0, (.int .i64 1)), (1, x22), (5, x24)]) (s106_8 H_6 x2)
def s106_10 H_6 x22 x2 x23 :=
 xb (aload P H_6 3 x23) (s106_9 x22 H_6 x2)
def s106_11 x3 H_6 x2 x22 :=
 xb (afieldAddr P 65 x3 3) (s106_10 H_6 x22 x2)
def s106_12 H_6 x3 x2 x21 :=
 xb (aload P H_6 3 x21) (s106_11 x3 H_6 x2)
def s106_13 x3 x2 H_6 :=
 xb (afieldAddr P 65 x3 2) (s106_12 H_6 x3 x2)
def s106_14 H_5 x18 x3 x2 x20 :=
 xstore H_5 (astore P H_5 3 x20 x18) (s106_13 x3 x2)
def s106_15 H_5 x18 x3 x2 x19 :=
 xb (afieldAddr P 71 x19 1) (s106_14 H_5 x18 x3 x2)
def s106_16 x0 H_5 x3 x2 x18 :=
 xb (anil x0) (s106_15 H_5 x18 x3 x2)
def s106_17 x0 H_5 x3 x2 x17 :=
 xb (fbin P .add 3 true x17 (.int .i64 1)) (s106_16 x0 H_5 x3 x2)
def s106_18 H_5 x0 x3 x2 x16 :=
 xb (aload P H_5 3 x16) (s106_17 x0 H_5 x3 x2)
def s106_19 H_5 x0 x3 x2 x15 :=
 xb (afieldAddr P 71 x15 1) (s106_18 H_5 x0 x3 x2)
def s106_20 x0 H_5 x3 x2 :=
 xb (anil x0) (s106_19 H_5 x0 x3 x2)
def s106_21 (H_7 : AHeap) (r : AV) : O :=
 some (r, H_7)
def s106_22 x2 H_7 :=
 xb (aload P H_7 39 x2) (s106_21 H_7)
def s106_23 x2 x29 H_6 :=
 xstore H_6 (astore P H_6 39 x2 x29) (s106_22 x2)
def s106_24 (G : CallT) H_5 x0 x2 :=
 xcall H_5 (G 108 [x0] H_5) (s106_23 x2)
def s106_25 (H_10 : AHeap) (r : AV) : O :=
 some (r, H_10)
def s106_26 x2 H_10 :=
 xb (aload P H_10 39 x2) (s106_25 H_10)
def s106_27 x2 x50 H_9 :=
 xstore H_9 (astore P H_9 39 x2 x50) (s106_26 x2)
def s106_28 G H_8 x36 x0 x2 :=
 xapply G H_8 x36 [x0] (s106_27 x2)
def s106_29 G x0 x2 H_8 :=
 s106_j0 G x0 x2 H_8
def s106_30 G H_8 x36 x0 x2 x47 :=
 xif (some x47) (s106_28 G H_8 x36 x0 x2) (s106_29 G x0 x2 H_8)
def s106_31 G x38 x36 x0 x2 x46 H_8 :=
 xb (pickOf x38 (some x46) (some (.bool false))) (s106_30 G H_8 x36 x0 x2)
def s106_32 G x38 x42 x36 x0 x2 x45 H_7 :=
 xg x38 true H_7 (fun q => (fbin P .eql 4 false x42 x45).bind fun v => q (.pure v)) (s106_31 G x38 x36 x0 x2)
def s106_33 G x38 x42 x36 x0 x2 x44 H_6 :=
 xg x38 true H_6 (fun q => (fbin P .eql 9 true x44 (.str [40])).bind fun v => q (.pure v)) (s106_32 G x38 x42 x36 x0 x2)
def s106_34 G x38 x42 x36 x0 x2 x43 H_5 :=
 xg x38 true H_5 (fun q => (aload P H_5 9 x43).bind fun v => q (.read v)) (s106_33 G x38 x42 x36 x0 x2)
def s106_35 G x38 x3 x36 x0 x2 x42 H_4 :=
 xg x38 true H_4 (fun q => (afieldAddr P 65 x3 1).bind fun v => q (.pure v)) (s106_34 G x38 x42 x36 x0 x2)
def s106_36 G x38 x3 x36 x0 x2 x41 H_3 :=
 xg x38 true H_3 (fun q => (fbin P .eql 3 true x41 (.int .i64 4)).bind fun v => q (.pure v)) (s106_35 G x38 x3 x36 x0 x2)
def s106_37 G x38 x3 x36 x0 x2 x40 H_2 :=
 xg x38 true H_2 (fun q => (aload P H_2 3 x40).bind fun v => q (.read v)) (s106_36 G x38 x3 x36 x0 x2)
def s106_38 G H_1 x3 x36 x0 x2 x38 :=
 xg x38 true H_1 (fun q => (afieldAddr P 65 x3 0).bind fun v => q (.pure v)) (s106_37 G x38 x3 x36 x0 x2)
def s106_39 G x36 H_1 x3 x0 x2 :=
 xb (fbin P .neq 121 true x36 AV.nilFunc) (s106_38 G H_1 x3 x36 x0 x2)
def s106_40 G H x34 x35 H_1 x3 x0 x2 x36 :=
 bif ((rdIs (aload P H 9 x34) x35 && rdIs (aload P H_1 9 x34) x35) && true) then s106_39 G x36 H_1 x3 x0 x2 else none
def s106_41 G H_1 x33 H x34 x3 x0 x2 x35 :=
 xb (alookup P H_1 122 x33 x35 false) (s106_40 G H x34 x35 H_1 x3 x0 x2)
def s106_42 G H_1 x33 H x3 x0 x2 x34 :=
 xb (aload P H_1 9 x34) (s106_41 G H_1 x33 H x34 x3 x0 x2)
def s106_43 G x3 H x0 x2 x33 H_1 :=
 xb (afieldAddr P 65 x3 1) (s106_42 G H_1 x33 H x3 x0 x2)
def s106_44 (G : CallT) H x3 x0 x2 :=
 xcall H (G 109 [] H) (s106_43 G x3 H x0 x2)
def s106_45 G x0 x2 H :=
 s106_j0 G x0 x2 H
def s106_j1 G x0 x2 x3 x30 H :=
 xif (some x30) (s106_44 G H x3 x0 x2) (s106_45 G x0 x2 H)
theorem s106_j1_eq (G : CallT) (N : Nat) : ∀ R H, codeC P G N (Code.snd (Code.snd (Code.snd (Code.snd (Code.snd (Code.fst (Code.snd (Code.snd (Code.fst (Code.snd (Code.snd (bodyOf Try.f106)))))))))))) (fun R H => s106_j0 G (R 0) (R 2) H) [(0, (fun R H => s106_j0 G (R 0) (R 2) H))] (retC P Try.f106.results.toList) R H = s106_j1 G (R 0) (R 2) (R 3) (R 30) H := by
  intro R H
  refine Eq.trans ((via_leaf _ : ∀ R H, codeC P G N (Code.snd (Code.snd (Code.snd (Code.snd (Code.snd (Code.fst (Code.snd (Code.snd (Code.fst (Code.snd (Code.snd (bodyOf Try.f106)))))))))))) (fun R H => s106_j0 G (R 0) (R 2) H) [(0, (fun R H => s106_j0 G (R 0) (R 2) H))] (retC P Try.f106.results.toList) R H = _) R H) ?_
  delta s106_j1 s106_45 s106_44 s106_43 s106_42 s106_41 s106_40 s106_39 s106_38 s106_37 s106_36 s106_35 s106_34 s106_33 s106_32 s106_31 s106_30 s106_29 s106_28 s106_27 s106_26 s106_25
  generalize s106_j0 G = J0
  revert J0
  refine id ?_
  intro J0
  kernel_rfl

def s106_46 G x0 x2 x3 x31 H_5 :=
 s106_j1 G x0 x2 x3 x31 H_5
def s106_47 G x0 x2 x3 H_5 x32 :=
 s106_j1 G x0 x2 x3 x32 H_5
def s106_48 G x11 x0 x2 x3 H_5 :=
 xb (fbin P .eql 3 true x11 (.int .i64 4)) (s106_47 G x0 x2 x3 H_5)
def s106_49 G x0 x2 x3 H_5 x11 x31 :=
 xif (some x31) (s106_46 G x0 x2 x3 x31 H_5) (s106_48 G x11 x0 x2 x3 H_5)
def s106_50 G x11 x0 x2 x3 H_5 :=
 xb (fbin P .eql 3 true x11 (.int .i64 3)) (s106_49 G x0 x2 x3 H_5 x11)
def s106_51 G H_5 x0 x2 x11 x3 x27 :=
 xif (some x27) (s106_24 G H_5 x0 x2) (s106_50 G x11 x0 x2 x3 H_5)
def s106_52 G x11 H_5 x0 x2 x3 :=
 xb (fbin P .eql 3 true x11 (.int .i64 1)) (s106_51 G H_5 x0 x2 x11 x3)
def s106_53 G x0 H_5 x3 x2 x11 x13 :=
 xif (some x13) (s106_20 x0 H_5 x3 x2) (s106_52 G x11 H_5 x0 x2 x3)
def s106_54 G x0 H_5 x3 x2 x11 :=
 xb (fbin P .eql 3 true x11 (.int .i64 2)) (s106_53 G x0 H_5 x3 x2 x11)
def s106_55 G H_5 x0 x3 x2 x10 :=
 xb (aload P H_5 3 x10) (s106_54 G x0 H_5 x3 x2)
def s106_56 G x3 x0 x2 H_5 :=
 xb (afieldAddr P 65 x3 0) (s106_55 G H_5 x0 x3 x2)
def s106_57 G x9 x0 x2 x3 H_4 :=
 xstore H_4 (astore P H_4 65 x3 x9) (s106_56 G x3 x0 x2)
def s106_58 G x0 x2 x9 H_3 :=
 xalloc H_3 [(.int .i64 0), (.str []), (.int .i64 0), (.int .i64 0)] (s106_57 G x9 x0 x2)
def s106_59 (G : CallT) H_2 x0 x2 :=
 xcall H_2 (G 62 [x0] H_2) (s106_58 G x0 x2)
def s106_60 G x2 x0 x6 H_2 :=
 xif (some x6) (s106_2 H_2 x2) (s106_59 G H_2 x0 x2)
def s106_61 (G : CallT) x0 x2 H_1 :=
 xcall H_1 (G 36 [x0] H_1) (s106_60 G x2 x0)
/-- (*runrig/expr.reader).first -/
def s106 G x0 H :=
 xalloc H [(.int .i64 0), (.int .i64 0), (.str []), (.str []), (.int .i64 0), AV.nilSl, (.int .i64 0), (.int .i64 0), (.int .i64 0), (.int .i64 0), (.int .i64 0)] (s106_61 G x0)
theorem s106_eq (G : CallT) (N : Nat) (x0 : AV) (H : AHeap) : codeC P G N (bodyOf Try.f106) (retC P Try.f106.results.toList) [] (retC P Try.f106.results.toList) (argsF [x0]) H = s106 G x0 H := by
  refine Eq.trans (((via_seq (by kernel_rfl) ((via_seq (by kernel_rfl) ((via_seq (by kernel_rfl) (s106_j0_eq G N) ((via_seq (by kernel_rfl) ((via_seq (by kernel_rfl) ((via_block (by kernel_rfl) ((via_seq (by kernel_rfl) ((via_cond (by kernel_rfl) (via_leaf _) ((via_seq (by kernel_rfl) ((via_cond (by kernel_rfl) (via_leaf _) ((via_seq (by kernel_rfl) (s106_j1_eq G N) (via_leaf _))))) (via_leaf _))))) (via_leaf _))))) (via_leaf _))) (via_leaf _))))) (via_leaf _))) (via_leaf _)) : ∀ R H, codeC P G N (bodyOf Try.f106) (retC P Try.f106.results.toList) [] (retC P Try.f106.results.toList) R H = _) (argsF [x0]) H) ?_
  delta s106 s106_61 s106_60 s106_59 s106_58 s106_57 s106_56 s106_55 s106_54 s106_53 s106_52 s106_51 s106_50 s106_49 s106_48 s106_47 s106_46 s106_24 s106_23 s106_22 s106_21 s106_20 s106_19 s106_18 s106_17 s106_16 s106_15 s106_14 s106_13 s106_12 s106_11 s106_10 s106_9 s106_8 s106_7 s106_6 s106_2 s106_1 s106_0
  generalize s106_j1 G = J0
  revert J0
  refine id ?_
  intro J0
  kernel_rfl

theorem run106 (N : Nat) {x0 : AV} {H : AHeap} {r : AV × AHeap} (h : s106 (evw P) x0 H = some r) : evw P 106 [x0] H = some r :=
  evw_code (c := (bodyOf Try.f106)) (M := N) Try.func106 (by kernel_rfl) (by kernel_rfl) (by kernel_rfl) (Eq.trans (s106_eq (evw P) N x0 H) h)

def s107_0 (x1 : AV) (H_3 : AHeap) : O :=
 some (x1, H_3)
def s107_1 x1 H_2 :=
 xstore H_2 (amapUpdate P H_2 118 x1 (.str [91]) (.func (.func 111) [] [])) (s107_0 x1)
def s107_2 x1 H_1 :=
 xstore H_1 (amapUpdate P H_1 118 x1 (.str [46]) (.func (.func 110) [] [])) (s107_1 x1)
/-- runrig/expr.behinds -/
def s107 (G : CallT) H :=
 xmake H (some (.map (H).next, .map [])) (s107_2)
theorem s107_eq (G : CallT) (N : Nat) (H : AHeap) : codeC P G N (bodyOf Try.f107) (retC P Try.f107.results.toList) [] (retC P Try.f107.results.toList) (argsF []) H = s107 G H := by
  refine Eq.trans ((via_leaf _ : ∀ R H, codeC P G N (bodyOf Try.f107) (retC P Try.f107.results.toList) [] (retC P Try.f107.results.toList) R H = _) (argsF []) H) ?_
  delta s107 s107_2 s107_1 s107_0
  kernel_rfl

theorem run107 (N : Nat) {H : AHeap} {r : AV × AHeap} (h : s107 (evw P) H = some r) : evw P 107 [] H = some r :=
  evw_code (c := (bodyOf Try.f107)) (M := N) Try.func107 (by kernel_rfl) (by kernel_rfl) (by kernel_rfl) (Eq.trans (s107_eq (evw P) N H) h)

def s108_0 (H_7 : AHeap) (r : AV) : O :=
 some (r, H_7)
def s108_1 x2 H_7 :=
 xb (aload P H_7 39 x2) (s108_0 H_7)
def s108_2 H_6 x2 x20 :=
 xstore H_6 (astore P H_6 39 x2 x20) (s108_1 x2)
def s108_3 x17 H_6 x2 x19 :=
 xb (abuild P 39 [(0, (.int .i64 4)), (2, x17), (5, x19)]) (s108_2 H_6 x2)
def s108_4 H_6 x17 x2 x18 :=
 xb (aload P H_6 3 x18) (s108_3 x17 H_6 x2)
def s108_5 x3 H_6 x2 x17 :=
 xb (afieldAddr P 65 x3 3) (s108_4 H_6 x17 x2)
def s108_6 H_6 x3 x2 x16 :=
 xb (aload P H_6 9 x16) (s108_5 x3 H_6 x2)
def s108_7 x3 H_6 x2 :=
 xb (afieldAddr P 65 x3 1) (s108_6 H_6 x3 x2)
def s108_8 (H_8 : AHeap) (r : AV) : O :=
 some (r, H_8)
def s108_9 H_8 x2 :=
 xb (aload P H_8 39 x2) (s108_8 H_8)
def s108_10 H_6 x21 x22 H_7 x27 x28 x2 H_8 :=
 bif ((rdIs (aload P H_6 9 x21) x22 && (rdIs (aload P H_7 9 x21) x22 && true)) && ((rdIs (aload P H_6 3 x27) x28 && (rdIs (aload P H_7 3 x27) x28 && true)) && true)) then s108_9 H_8 x2 else none
def s108_11 H_7 x2 H_6 x21 x22 x27 x28 x29 :=
 xstore H_7 (astore P H_7 39 x2 x29) (s108_10 H_6 x21 x22 H_7 x27 x28 x2)
def s108_12 x22 x26 H_7 x2 H_6 x21 x27 x28 :=
 xb (abuild P 39 [(0, (.int .i64 7)), (2, x22), (4, x26), (5, x28)]) (s108_11 H_7 x2 H_6 x21 x22 x27 x28)
def s108_13 H_7 x22 x26 x2 H_6 x21 x27 :=
 xb (aload P H_7 3 x27) (s108_12 x22 x26 H_7 x2 H_6 x21 x27)
def s108_14 x3 H_7 x26 x2 H_6 x21 x22 :=
 xb (afieldAddr P 65 x3 3) (s108_13 H_7 x22 x26 x2 H_6 x21)
def s108_15 H_7 x3 x26 x2 H_6 x21 :=
 xb (aload P H_7 9 x21) (s108_14 x3 H_7 x26 x2 H_6 x21)
def s108_16 x3 x2 H_6 x26 H_7 :=
 xb (afieldAddr P 65 x3 1) (s108_15 H_7 x3 x26 x2 H_6)
def s108_17 (G : CallT) H_6 x0 x3 x2 :=
 xcall H_6 (G 112 [x0, (.func (.func 41) [x0] [])] H_6) (s108_16 x3 x2 H_6)
def s108_18 G x3 H_6 x2 x0 x15 :=
 xif (some x15) (s108_7 x3 H_6 x2) (s108_17 G H_6 x0 x3 x2)
def s108_19 G x3 x2 x0 x14 H_6 :=
 xb (aun .not x14) (s108_18 G x3 H_6 x2 x0)
def s108_20 (G : CallT) x0 x3 x2 H_5 :=
 xcall H_5 (G 60 [x0, (.int .i64 4), (.str [40])] H_5) (s108_19 G x3 x2 x0)
def s108_21 G H_4 x10 x0 x3 x2 x12 :=
 xstore H_4 (astore P H_4 3 x12 x10) (s108_20 G x0 x3 x2)
def s108_22 G H_4 x10 x0 x3 x2 x11 :=
 xb (afieldAddr P 71 x11 1) (s108_21 G H_4 x10 x0 x3 x2)
def s108_23 G x0 H_4 x3 x2 x10 :=
 xb (anil x0) (s108_22 G H_4 x10 x0 x3 x2)
def s108_24 G x0 H_4 x3 x2 x9 :=
 xb (fbin P .add 3 true x9 (.int .i64 1)) (s108_23 G x0 H_4 x3 x2)
def s108_25 G H_4 x0 x3 x2 x8 :=
 xb (aload P H_4 3 x8) (s108_24 G x0 H_4 x3 x2)
def s108_26 G H_4 x0 x3 x2 x7 :=
 xb (afieldAddr P 71 x7 1) (s108_25 G H_4 x0 x3 x2)
def s108_27 G x0 x3 x2 H_4 :=
 xb (anil x0) (s108_26 G H_4 x0 x3 x2)
def s108_28 G x5 x0 x2 x3 H_3 :=
 xstore H_3 (astore P H_3 65 x3 x5) (s108_27 G x0 x3 x2)
def s108_29 G x0 x2 x5 H_2 :=
 xalloc H_2 [(.int .i64 0), (.str []), (.int .i64 0), (.int .i64 0)] (s108_28 G x5 x0 x2)
def s108_30 (G : CallT) x0 x2 H_1 :=
 xcall H_1 (G 62 [x0] H_1) (s108_29 G x0 x2)
/-- (*runrig/expr.reader).name -/
def s108 G x0 H :=
 xalloc H [(.int .i64 0), (.int .i64 0), (.str []), (.str []), (.int .i64 0), AV.nilSl, (.int .i64 0), (.int .i64 0), (.int .i64 0), (.int .i64 0), (.int .i64 0)] (s108_30 G x0)
theorem s108_eq (G : CallT) (N : Nat) (x0 : AV) (H : AHeap) : codeC P G N (bodyOf Try.f108) (retC P Try.f108.results.toList) [] (retC P Try.f108.results.toList) (argsF [x0]) H = s108 G x0 H := by
  refine Eq.trans ((via_leaf _ : ∀ R H, codeC P G N (bodyOf Try.f108) (retC P Try.f108.results.toList) [] (retC P Try.f108.results.toList) R H = _) (argsF [x0]) H) ?_
  delta s108 s108_30 s108_29 s108_28 s108_27 s108_26 s108_25 s108_24 s108_23 s108_22 s108_21 s108_20 s108_19 s108_18 s108_17 s108_16 s108_15 s108_14 s108_13 s108_12 s108_11 s108_10 s108_9 s108_8 s108_7 s108_6 s108_5 s108_4 s108_3 s108_2 s108_1 s108_0
  kernel_rfl

theorem run108 (N : Nat) {x0 : AV} {H : AHeap} {r : AV × AHeap} (h : s108 (evw P) x0 H = some r) : evw P 108 [x0] H = some r :=
  evw_code (c := (bodyOf Try.f108)) (M := N) Try.func108 (by kernel_rfl) (by kernel_rfl) (by kernel_rfl) (Eq.trans (s108_eq (evw P) N x0 H) h)

def s109_0 (x1 : AV) (H_8 : AHeap) : O :=
 some (x1, H_8)
def s109_1 x1 H_7 :=
 xstore H_7 (amapUpdate P H_7 122 x1 (.str [40]) (.func (.func 118) [] [])) (s109_0 x1)
def s109_2 x1 H_6 :=
 xstore H_6 (amapUpdate P H_6 122 x1 (.str [114, 101, 97, 100]) (.func (.func 117) [] [])) (s109_1 x1)
def s109_3 x1 H_5 :=
 xstore H_5 (amapUpdate P H_5 122 x1 (.str [108, 101, 110]) (.func (.func 116) [] [])) (s109_2 x1)
def s109_4 x1 H_4 :=
 xstore H_4 (amapUpdate P H_4 122 x1 (.str [110, 101, 119]) (.func (.func 115) [] [])) (s109_3 x1)
def s109_5 x1 H_3 :=
 xstore H_3 (amapUpdate P H_3 122 x1 (.str [110, 117, 108, 108]) (.func (.func 114) [] [])) (s109_4 x1)
def s109_6 x1 H_2 :=
 xstore H_2 (amapUpdate P H_2 122 x1 (.str [102, 97, 108, 115, 101]) (.func (.func 113) [] [])) (s109_5 x1)
def s109_7 x1 H_1 :=
 xstore H_1 (amapUpdate P H_1 122 x1 (.str [116, 114, 117, 101]) (.func (.func 113) [] [])) (s109_6 x1)
/-- runrig/expr.firsts -/
def s109 (G : CallT) H :=
 xmake H (some (.map (H).next, .map [])) (s109_7)
theorem s109_eq (G : CallT) (N : Nat) (H : AHeap) : codeC P G N (bodyOf Try.f109) (retC P Try.f109.results.toList) [] (retC P Try.f109.results.toList) (argsF []) H = s109 G H := by
  refine Eq.trans ((via_leaf _ : ∀ R H, codeC P G N (bodyOf Try.f109) (retC P Try.f109.results.toList) [] (retC P Try.f109.results.toList) R H = _) (argsF []) H) ?_
  delta s109 s109_7 s109_6 s109_5 s109_4 s109_3 s109_2 s109_1 s109_0
  kernel_rfl

theorem run109 (N : Nat) {H : AHeap} {r : AV × AHeap} (h : s109 (evw P) H = some r) : evw P 109 [] H = some r :=
  evw_code (c := (bodyOf Try.f109)) (M := N) Try.func109 (by kernel_rfl) (by kernel_rfl) (by kernel_rfl) (Eq.trans (s109_eq (evw P) N H) h)

def s110_0 (H_3 : AHeap) (r : AV) : O :=
 some (r, H_3)
def s110_1 x4 H_3 :=
 xb (aload P H_3 39 x4) (s110_0 H_3)
def s110_2 H_2 x4 x36 :=
 xstore H_2 (astore P H_2 39 x4 x36) (s110_1 x4)
def s110_3 x32 x5 x4 x34 H_2 :=
 xb (abuild P 39 [(0, (.int .i64 5)), (2, x32), (4, x34), (5, x5)]) (s110_2 H_2 x4)
def s110_4 H_1 x32 x5 x4 x33 :=
 xmake H_1 (sliceOf P (H_1).next 35 1 [(0, x33)]) (s110_3 x32 x5 x4)
def s110_5 H_1 x3 x5 x4 x32 :=
 xb (aload P H_1 39 x3) (s110_4 H_1 x32 x5 x4)
def s110_6 H_1 x3 x5 x4 x31 :=
 xb (aload P H_1 9 x31) (s110_5 H_1 x3 x5 x4)
def s110_7 x6 x3 x5 x4 H_1 :=
 xb (afieldAddr P 65 x6 1) (s110_6 H_1 x3 x5 x4)
def s110_8 H x28 x6 x3 x5 x4 x30 :=
 xstore H (astore P H 3 x30 x28) (s110_7 x6 x3 x5 x4)
def s110_9 H x28 x6 x3 x5 x4 x29 :=
 xb (afieldAddr P 71 x29 1) (s110_8 H x28 x6 x3 x5 x4)
def s110_10 x0 H x6 x3 x5 x4 x28 :=
 xb (anil x0) (s110_9 H x28 x6 x3 x5 x4)
def s110_11 x0 H x6 x3 x5 x4 x27 :=
 xb (fbin P .add 3 true x27 (.int .i64 1)) (s110_10 x0 H x6 x3 x5 x4)
def s110_12 H x0 x6 x3 x5 x4 x26 :=
 xb (aload P H 3 x26) (s110_11 x0 H x6 x3 x5 x4)
def s110_13 H x0 x6 x3 x5 x4 x25 :=
 xb (afieldAddr P 71 x25 1) (s110_12 H x0 x6 x3 x5 x4)
def s110_j0 (G : CallT) x0 x3 x4 x5 x6 H :=
 xb (anil x0) (s110_13 H x0 x6 x3 x5 x4)
theorem s110_j0_eq (G : CallT) (N : Nat) : ∀ R H, codeC P G N (Code.snd (Code.snd (Code.snd (Code.snd (Code.snd (bodyOf Try.f110)))))) (retC P Try.f110.results.toList) [] (retC P Try.f110.results.toList) R H = s110_j0 G (R 0) (R 3) (R 4) (R 5) (R 6) H := by
  intro R H
  refine Eq.trans ((via_leaf _ : ∀ R H, codeC P G N (Code.snd (Code.snd (Code.snd (Code.snd (Code.snd (bodyOf Try.f110)))))) (retC P Try.f110.results.toList) [] (retC P Try.f110.results.toList) R H = _) R H) ?_
  delta s110_j0 s110_13 s110_12 s110_11 s110_10 s110_9 s110_8 s110_7 s110_6 s110_5 s110_4 s110_3 s110_2 s110_1 s110_0
  kernel_rfl

def s110_14 G x0 x3 x4 x9 x6 (x23 : AV) H_8 :=
 s110_j0 G x0 x3 x4 x9 x6 H_8
def s110_15 (G : CallT) H_7 x0 x3 x4 x9 x6 :=
 xcall H_7 (G 61 [x0, (.int .i64 2)] H_7) (s110_14 G x0 x3 x4 x9 x6)
def s110_16 G x0 x3 x4 x9 x6 H_7 :=
 s110_j0 G x0 x3 x4 x9 x6 H_7
def s110_17 G H_7 x0 x3 x4 x9 x6 x21 :=
 xif (some x21) (s110_15 G H_7 x0 x3 x4 x9 x6) (s110_16 G x0 x3 x4 x9 x6 H_7)
def s110_18 G H_7 x0 x3 x4 x9 x6 x20 :=
 xb (fbin P .neq 3 true x20 (.int .i64 1)) (s110_17 G H_7 x0 x3 x4 x9 x6)
def s110_19 G H_7 x0 x3 x4 x9 x6 x19 :=
 xb (aload P H_7 3 x19) (s110_18 G H_7 x0 x3 x4 x9 x6)
def s110_20 G x6 x0 x3 x4 x9 H_7 :=
 xb (afieldAddr P 65 x6 0) (s110_19 G H_7 x0 x3 x4 x9 x6)
def s110_21 G x18 x0 x3 x4 x9 x6 H_6 :=
 xstore H_6 (astore P H_6 65 x6 x18) (s110_20 G x6 x0 x3 x4 x9)
def s110_22 G x0 x3 x4 x9 x18 H_5 :=
 xalloc H_5 [(.int .i64 0), (.str []), (.int .i64 0), (.int .i64 0)] (s110_21 G x18 x0 x3 x4 x9)
def s110_23 (G : CallT) x0 x3 x4 x9 H_4 :=
 xcall H_4 (G 62 [x0] H_4) (s110_22 G x0 x3 x4 x9)
def s110_24 G H_3 x14 x0 x3 x4 x9 x16 :=
 xstore H_3 (astore P H_3 3 x16 x14) (s110_23 G x0 x3 x4 x9)
def s110_25 G H_3 x14 x0 x3 x4 x9 x15 :=
 xb (afieldAddr P 71 x15 1) (s110_24 G H_3 x14 x0 x3 x4 x9)
def s110_26 G x0 H_3 x3 x4 x9 x14 :=
 xb (anil x0) (s110_25 G H_3 x14 x0 x3 x4 x9)
def s110_27 G x0 H_3 x3 x4 x9 x13 :=
 xb (fbin P .add 3 true x13 (.int .i64 1)) (s110_26 G x0 H_3 x3 x4 x9)
def s110_28 G H_3 x0 x3 x4 x9 x12 :=
 xb (aload P H_3 3 x12) (s110_27 G x0 H_3 x3 x4 x9)
def s110_29 G H_3 x0 x3 x4 x9 x11 :=
 xb (afieldAddr P 71 x11 1) (s110_28 G H_3 x0 x3 x4 x9)
def s110_30 G x0 H_3 x3 x4 x9 :=
 xb (anil x0) (s110_29 G H_3 x0 x3 x4 x9)
def s110_31 G x0 x3 x4 x8 H_3 :=
 xb (afield P 65 x8 3) (s110_30 G x0 H_3 x3 x4)
def s110_32 (G : CallT) x0 x3 x4 H_2 :=
 xcall H_2 (G 62 [x0] H_2) (s110_31 G x0 x3 x4)
def s110_33 G x0 x3 H_1 :=
 xalloc H_1 [(.int .i64 0), (.int .i64 0), (.str []), (.str []), (.int .i64 0), AV.nilSl, (.int .i64 0), (.int .i64 0), (.int .i64 0), (.int .i64 0), (.int .i64 0)] (s110_32 G x0 x3)
/-- (*runrig/expr.reader).field -/
def s110 G x0 x1 H :=
 xmake H (boxOf (H).next x1) (s110_33 G x0)
theorem s110_eq (G : CallT) (N : Nat) (x0 : AV) (x1 : AV) (H : AHeap) : codeC P G N (bodyOf Try.f110) (retC P Try.f110.results.toList) [] (retC P Try.f110.results.toList) (argsF [x0, x1]) H = s110 G x0 x1 H := by
  refine Eq.trans (((via_seq (by kernel_rfl) ((via_seq (by kernel_rfl) ((via_seq (by kernel_rfl) ((via_seq (by kernel_rfl) ((via_seq (by kernel_rfl) (s110_j0_eq G N) (via_leaf _))) (via_leaf _))) (via_leaf _))) (via_leaf _))) (via_leaf _)) : ∀ R H, codeC P G N (bodyOf Try.f110) (retC P Try.f110.results.toList) [] (retC P Try.f110.results.toList) R H = _) (argsF [x0, x1]) H) ?_
  delta s110 s110_33 s110_32 s110_31 s110_30 s110_29 s110_28 s110_27 s110_26 s110_25 s110_24 s110_23 s110_22 s110_21 s110_20 s110_19 s110_18 s110_17 s110_16 s110_15 s110_14
  generalize s110_j0 G = J0
  revert J0
  refine id ?_
  intro J0
  kernel_rfl

theorem run110 (N : Nat) {x0 x1 : AV} {H : AHeap} {r : AV × AHeap} (h : s110 (evw P) x0 x1 H = some r) : evw P 110 [x0, x1] H = some r :=
  evw_code (c := (bodyOf Try.f110)) (M := N) Try.func110 (by kernel_rfl) (by kernel_rfl) (by kernel_rfl) (Eq.trans (s110_eq (evw P) N x0 x1 H) h)

def s111_0 (H_6 : AHeap) (r : AV) : O :=
 some (r, H_6)
def s111_1 H_6 x4 :=
 xb (aload P H_6 39 x4) (s111_0 H_6)
def s111_2 H_3 x3 x9 H_4 x4 H_6 :=
 bif ((rdIs (aload P H_3 39 x3) x9 && (rdIs (aload P H_4 39 x3) x9 && true)) && true) then s111_1 H_6 x4 else none
def s111_3 H_5 x4 H_3 x3 x9 H_4 x14 :=
 xstore H_5 (astore P H_5 39 x4 x14) (s111_2 H_3 x3 x9 H_4 x4)
def s111_4 x8 x4 H_3 x3 x9 H_4 x12 H_5 :=
 xb (abuild P 39 [(0, (.int .i64 6)), (4, x12), (5, x8)]) (s111_3 H_5 x4 H_3 x3 x9 H_4)
def s111_5 H_4 x11 x8 x4 H_3 x3 x9 :=
 xmake H_4 (sliceOf P (H_4).next 35 2 [(0, x9), (1, x11)]) (s111_4 x8 x4 H_3 x3 x9 H_4)
def s111_6 x3 x8 x4 H_3 x11 H_4 :=
 xb (aload P H_4 39 x3) (s111_5 H_4 x11 x8 x4 H_3 x3)
def s111_7 (G : CallT) H_3 x0 x3 x4 x8 :=
 xcall H_3 (G 119 [x0, (.str [91]), (.str [93])] H_3) (s111_6 x3 x8 x4 H_3)
def s111_8 G x0 x3 x4 x7 H_3 :=
 xb (afield P 65 x7 3) (s111_7 G H_3 x0 x3 x4)
def s111_9 (G : CallT) x0 x3 x4 H_2 :=
 xcall H_2 (G 62 [x0] H_2) (s111_8 G x0 x3 x4)
def s111_10 G x0 x3 H_1 :=
 xalloc H_1 [(.int .i64 0), (.int .i64 0), (.str []), (.str []), (.int .i64 0), AV.nilSl, (.int .i64 0), (.int .i64 0), (.int .i64 0), (.int .i64 0), (.int .i64 0)] (s111_9 G x0 x3)
/-- (*runrig/expr.reader).item -/
def s111 G x0 x1 H :=
 xmake H (boxOf (H).next x1) (s111_10 G x0)
theorem s111_eq (G : CallT) (N : Nat) (x0 : AV) (x1 : AV) (H : AHeap) : codeC P G N (bodyOf Try.f111) (retC P Try.f111.results.toList) [] (retC P Try.f111.results.toList) (argsF [x0, x1]) H = s111 G x0 x1 H := by
  refine Eq.trans ((via_leaf _ : ∀ R H, codeC P G N (bodyOf Try.f111) (retC P Try.f111.results.toList) [] (retC P Try.f111.results.toList) R H = _) (argsF [x0, x1]) H) ?_
  delta s111 s111_10 s111_9 s111_8 s111_7 s111_6 s111_5 s111_4 s111_3 s111_2 s111_1 s111_0
  kernel_rfl

theorem run111 (N : Nat) {x0 x1 : AV} {H : AHeap} {r : AV × AHeap} (h : s111 (evw P) x0 x1 H = some r) : evw P 111 [x0, x1] H = some r :=
  evw_code (c := (bodyOf Try.f111)) (M := N) Try.func111 (by kernel_rfl) (by kernel_rfl) (by kernel_rfl) (Eq.trans (s111_eq (evw P) N x0 x1 H) h)

def s112_0 (H_1 : AHeap) : O :=
 some (AV.nilSl, H_1)
def s112_1 (x5 x25 : AV) (H_1 : AHeap) : O :=
 some (x5, H_1)
def s112_j0 (G : CallT) (N : Nat) x0 x5 H :=
 xcall H (G 120 [x0, (.str [41])] H) (s112_1 x5)
theorem s112_j0_eq (G : CallT) (N : Nat) : ∀ R H, codeC P G N (Code.snd (Code.snd (Code.snd (Code.snd (bodyOf Try.f112))))) (retC P Try.f112.results.toList) [] (retC P Try.f112.results.toList) R H = s112_j0 G N (R 0) (R 5) H := by
  intro R H
  refine Eq.trans ((via_leaf _ : ∀ R H, codeC P G N (Code.snd (Code.snd (Code.snd (Code.snd (bodyOf Try.f112))))) (retC P Try.f112.results.toList) [] (retC P Try.f112.results.toList) R H = _) R H) ?_
  delta s112_j0 s112_1
  kernel_rfl

def s112_2 (L1 : AV → AV → AV → AHeap → O) x0 x1 x23 H_4 :=
 L1 x0 x1 x23 H_4
def s112_3 L1 x5 x0 x1 x22 H_3 :=
 xcall H_3 (aappend P H_3 [35, 35] x5 x22) (s112_2 L1 x0 x1)
def s112_4 L1 x5 x0 x1 x21 H_2 :=
 xmake H_2 (sliceOf P (H_2).next 35 1 [(0, x21)]) (s112_3 L1 x5 x0 x1)
def s112_5 G L1 H_1 x1 x5 x0 :=
 xapply G H_1 x1 [] (s112_4 L1 x5 x0 x1)
def s112_6 G N x0 x5 H_1 :=
 s112_j0 G N x0 x5 H_1
def s112_7 G N L1 x1 x5 x0 x18 H_1 :=
 xif (some x18) (s112_5 G L1 H_1 x1 x5 x0) (s112_6 G N x0 x5 H_1)
def s112_b1 (G : CallT) N L1 x0 x1 x5 H :=
 xcall H (G 80 [x0, (.int .i64 4), (.str [44])] H) (s112_7 G N L1 x1 x5 x0)
noncomputable def s112_l1 (G : CallT) (N : Nat) : Nat → AV → AV → AV → AHeap → O
  | 0, _, _, _, _ => none
  | n + 1, x0, x1, x5, H => s112_b1 G N (s112_l1 G N n) x0 x1 x5 H

theorem s112_b1_eq (G : CallT) (N : Nat) (L1 : AV → AV → AV → AHeap → O) : ∀ R H, codeC P G N (Code.fst (Code.fst (Code.snd (Code.fst (Code.snd (Code.fst (Code.snd (Code.snd (Code.snd (bodyOf Try.f112)))))))))) (fun R H => L1 (R 0) (R 1) (R 5) H) [(0, (fun R H => s112_j0 G N (R 0) (R 5) H))] (retC P Try.f112.results.toList) R H = s112_b1 G N L1 (R 0) (R 1) (R 5) H := by
  intro R H
  refine Eq.trans ((via_leaf _ : ∀ R H, codeC P G N (Code.fst (Code.fst (Code.snd (Code.fst (Code.snd (Code.fst (Code.snd (Code.snd (Code.snd (bodyOf Try.f112)))))))))) (fun R H => L1 (R 0) (R 1) (R 5) H) [(0, (fun R H => s112_j0 G N (R 0) (R 5) H))] (retC P Try.f112.results.toList) R H = _) R H) ?_
  delta s112_b1 s112_7 s112_6 s112_5 s112_4 s112_3 s112_2
  generalize s112_j0 G N = J0
  revert J0
  refine id ?_
  intro J0
  kernel_rfl

def s112_8 G N x0 x1 x16 H_5 :=
 s112_l1 G N N x0 x1 x16 H_5
def s112_9 G N x0 x1 x15 H_4 :=
 xcall H_4 (aappend P H_4 [35, 35] AV.nilSl x15) (s112_8 G N x0 x1)
def s112_10 G N x0 x1 x14 H_3 :=
 xmake H_3 (sliceOf P (H_3).next 35 1 [(0, x14)]) (s112_9 G N x0 x1)
def s112_11 G N H_2 x1 x0 :=
 xapply G H_2 x1 [] (s112_10 G N x0 x1)
def s112_12 G N x0 H_2 :=
 s112_j0 G N x0 AV.nilSl H_2
def s112_13 G N H_2 x1 x0 x11 :=
 xif (some x11) (s112_11 G N H_2 x1 x0) (s112_12 G N x0 H_2)
def s112_14 G N x1 x0 x10 H_2 :=
 xb (aun .not x10) (s112_13 G N H_2 x1 x0)
def s112_15 (G : CallT) N H_1 x0 x1 :=
 xcall H_1 (G 60 [x0, (.int .i64 4), (.str [41])] H_1) (s112_14 G N x1 x0)
def s112_16 G N H_1 x0 x1 x8 :=
 xif (some x8) (s112_0 H_1) (s112_15 G N H_1 x0 x1)
def s112_17 G N x0 x1 x7 H_1 :=
 xb (aun .not x7) (s112_16 G N H_1 x0 x1)
/-- (*runrig/expr.reader).list -/
def s112 (G : CallT) N x0 x1 H :=
 xcall H (G 101 [x0, (.str [40])] H) (s112_17 G N x0 x1)
theorem s112_eq (G : CallT) (N : Nat) (x0 : AV) (x1 : AV) (H : AHeap) : codeC P G N (bodyOf Try.f112) (retC P Try.f112.results.toList) [] (retC P Try.f112.results.toList) (argsF [x0, x1]) H = s112 G N x0 x1 H := by
  refine Eq.trans (((via_seq (by kernel_rfl) ((via_seq (by kernel_rfl) ((via_seq (by kernel_rfl) ((via_seq (by kernel_rfl) (s112_j0_eq G N) ((via_seq (by kernel_rfl) ((via_cond (by kernel_rfl) ((via_seq (by kernel_rfl) ((via_block (by kernel_rfl) ((via_loop (k := fun m R H => s112_l1 G N m (R 0) (R 1) (R 5) H) (by kernel_rfl) (fun R H => by kernel_rfl) (fun m => s112_b1_eq G N (s112_l1 G N m)))))) (via_leaf _))) (via_leaf _))) (via_leaf _))))) (via_leaf _))) (via_leaf _))) (via_leaf _)) : ∀ R H, codeC P G N (bodyOf Try.f112) (retC P Try.f112.results.toList) [] (retC P Try.f112.results.toList) R H = _) (argsF [x0, x1]) H) ?_
  delta s112 s112_17 s112_16 s112_15 s112_14 s112_13 s112_12 s112_11 s112_10 s112_9 s112_8 s112_0
  generalize s112_j0 G N = J0
  generalize s112_l1 G N N = J1
  revert J0 J1
  refine id ?_
  intro J0 J1
  kernel_rfl

theorem run112 (N : Nat) {x0 x1 : AV} {H : AHeap} {r : AV × AHeap} (h : s112 (evw P) N x0 x1 H = some r) : evw P 112 [x0, x1] H = some r :=
  evw_code (c := (bodyOf Try.f112)) (M := N) Try.func112 (by kernel_rfl) (by kernel_rfl) (by kernel_rfl) (Eq.trans (s112_eq (evw P) N x0 x1 H) h)

def s113_0 (H_1 : AHeap) (r : AV) : O :=
 some (r, H_1)
def s113_1 x2 H_1 :=
 xb (aload P H_1 39 x2) (s113_0 H_1)
def s113_2 H x2 x21 :=
 xstore H (astore P H 39 x2 x21) (s113_1 x2)
def s113_j0 (G : CallT) x2 x4 H :=
 xb (aload P H 39 x4) (s113_2 H x2)
theorem s113_j0_eq (G : CallT) (N : Nat) : ∀ R H, codeC P G N (Code.snd (Code.snd (Code.snd (Code.snd (Code.snd (bodyOf Try.f113)))))) (retC P Try.f113.results.toList) [] (retC P Try.f113.results.toList) R H = s113_j0 G (R 2) (R 4) H := by
  intro R H
  refine Eq.trans ((via_leaf _ : ∀ R H, codeC P G N (Code.snd (Code.snd (Code.snd (Code.snd (Code.snd (bodyOf Try.f113)))))) (retC P Try.f113.results.toList) [] (retC P Try.f113.results.toList) R H = _) R H) ?_
  delta s113_j0 s113_2 s113_1 s113_0
  kernel_rfl

def s113_3 G x2 x4 H_8 :=
 s113_j0 G x2 x4 H_8
def s113_4 G H_7 x2 x4 x20 :=
 xstore H_7 (astore P H_7 3 x20 (.int .i64 1)) (s113_3 G x2 x4)
def s113_5 G x4 H_7 x2 :=
 xb (afieldAddr P 39 x4 1) (s113_4 G H_7 x2 x4)
def s113_6 G x2 x4 H_7 :=
 s113_j0 G x2 x4 H_7
def s113_7 G x4 H_7 x2 x19 :=
 xif (some x19) (s113_5 G x4 H_7 x2) (s113_6 G x2 x4 H_7)
def s113_8 G x4 H_7 x2 x18 :=
 xb (fbin P .eql 9 true x18 (.str [116, 114, 117, 101])) (s113_7 G x4 H_7 x2)
def s113_9 G H_7 x4 x2 x17 :=
 xb (aload P H_7 9 x17) (s113_8 G x4 H_7 x2)
def s113_10 G x3 x4 x2 H_7 :=
 xb (afieldAddr P 65 x3 1) (s113_9 G H_7 x4 x2)
def s113_11 G x16 x3 x2 x4 H_6 :=
 xstore H_6 (astore P H_6 39 x4 x16) (s113_10 G x3 x4 x2)
def s113_12 G H_5 x3 x2 x16 :=
 xalloc H_5 [(.int .i64 0), (.int .i64 0), (.str []), (.str []), (.int .i64 0), AV.nilSl, (.int .i64 0), (.int .i64 0), (.int .i64 0), (.int .i64 0), (.int .i64 0)] (s113_11 G x16 x3 x2)
def s113_13 G H_5 x3 x2 x15 :=
 xb (abuild P 39 [(0, (.int .i64 2)), (5, x15)]) (s113_12 G H_5 x3 x2)
def s113_14 G H_5 x3 x2 x14 :=
 xb (aload P H_5 3 x14) (s113_13 G H_5 x3 x2)
def s113_15 G x3 x2 H_5 :=
 xb (afieldAddr P 65 x3 3) (s113_14 G H_5 x3 x2)
def s113_16 G H_4 x11 x3 x2 x13 :=
 xstore H_4 (astore P H_4 3 x13 x11) (s113_15 G x3 x2)
def s113_17 G H_4 x11 x3 x2 x12 :=
 xb (afieldAddr P 71 x12 1) (s113_16 G H_4 x11 x3 x2)
def s113_18 G x0 H_4 x3 x2 x11 :=
 xb (anil x0) (s113_17 G H_4 x11 x3 x2)
def s113_19 G x0 H_4 x3 x2 x10 :=
 xb (fbin P .add 3 true x10 (.int .i64 1)) (s113_18 G x0 H_4 x3 x2)
def s113_20 G H_4 x0 x3 x2 x9 :=
 xb (aload P H_4 3 x9) (s113_19 G x0 H_4 x3 x2)
def s113_21 G H_4 x0 x3 x2 x8 :=
 xb (afieldAddr P 71 x8 1) (s113_20 G H_4 x0 x3 x2)
def s113_22 G x0 x3 x2 H_4 :=
 xb (anil x0) (s113_21 G H_4 x0 x3 x2)
def s113_23 G x6 x0 x2 x3 H_3 :=
 xstore H_3 (astore P H_3 65 x3 x6) (s113_22 G x0 x3 x2)
def s113_24 G x0 x2 x6 H_2 :=
 xalloc H_2 [(.int .i64 0), (.str []), (.int .i64 0), (.int .i64 0)] (s113_23 G x6 x0 x2)
def s113_25 (G : CallT) x0 x2 H_1 :=
 xcall H_1 (G 62 [x0] H_1) (s113_24 G x0 x2)
/-- (*runrig/expr.reader).truth -/
def s113 G x0 H :=
 xalloc H [(.int .i64 0), (.int .i64 0), (.str []), (.str []), (.int .i64 0), AV.nilSl, (.int .i64 0), (.int .i64 0), (.int .i64 0), (.int .i64 0), (.int .i64 0)] (s113_25 G x0)
theorem s113_eq (G : CallT) (N : Nat) (x0 : AV) (H : AHeap) : codeC P G N (bodyOf Try.f113) (retC P Try.f113.results.toList) [] (retC P Try.f113.results.toList) (argsF [x0]) H = s113 G x0 H := by
  refine Eq.trans (((via_seq (by kernel_rfl) ((via_seq (by kernel_rfl) ((via_seq (by kernel_rfl) ((via_seq (by kernel_rfl) ((via_seq (by kernel_rfl) (s113_j0_eq G N) (via_leaf _))) (via_leaf _))) (via_leaf _))) (via_leaf _))) (via_leaf _)) : ∀ R H, codeC P G N (bodyOf Try.f113) (retC P Try.f113.results.toList) [] (retC P Try.f113.results.toList) R H = _) (argsF [x0]) H) ?_
  delta s113 s113_25 s113_24 s113_23 s113_22 s113_21 s113_20 s113_19 s113_18 s113_17 s113_16 s113_15 s113_14 s113_13 s113_12 s113_11 s113_10 s113_9 s113_8 s113_7 s113_6 s113_5 s113_4 s113_3
  generalize s113_j0 G = J0
  revert J0
  refine id ?_
  intro J0
  kernel_rfl

theorem run113 (N : Nat) {x0 : AV} {H : AHeap} {r : AV × AHeap} (h : s113 (evw P) x0 H = some r) : evw P 113 [x0] H = some r :=
  evw_code (c := (bodyOf Try.f113)) (M := N) Try.func113 (by kernel_rfl) (by kernel_rfl) (by kernel_rfl) (Eq.trans (s113_eq (evw P) N x0 H) h)

def s114_0 (H_5 : AHeap) (r : AV) : O :=
 some (r, H_5)
def s114_1 x2 H_5 :=
 xb (aload P H_5 39 x2) (s114_0 H_5)
def s114_2 H_4 x2 x17 :=
 xstore H_4 (astore P H_4 39 x2 x17) (s114_1 x2)
def s114_3 x6 x2 x15 H_4 :=
 xb (abuild P 39 [(0, (.int .i64 3)), (3, x15), (5, x6)]) (s114_2 H_4 x2)
def s114_4 (G : CallT) x0 x6 x2 H_3 :=
 xcall H_3 (G 35 [x0] H_3) (s114_3 x6 x2)
def s114_5 G H_2 x11 x0 x6 x2 x13 :=
 xstore H_2 (astore P H_2 3 x13 x11) (s114_4 G x0 x6 x2)
def s114_6 G H_2 x11 x0 x6 x2 x12 :=
 xb (afieldAddr P 71 x12 1) (s114_5 G H_2 x11 x0 x6 x2)
def s114_7 G x0 H_2 x6 x2 x11 :=
 xb (anil x0) (s114_6 G H_2 x11 x0 x6 x2)
def s114_8 G x0 H_2 x6 x2 x10 :=
 xb (fbin P .add 3 true x10 (.int .i64 1)) (s114_7 G x0 H_2 x6 x2)
def s114_9 G H_2 x0 x6 x2 x9 :=
 xb (aload P H_2 3 x9) (s114_8 G x0 H_2 x6 x2)
def s114_10 G H_2 x0 x6 x2 x8 :=
 xb (afieldAddr P 71 x8 1) (s114_9 G H_2 x0 x6 x2)
def s114_11 G x0 H_2 x2 x6 :=
 xb (anil x0) (s114_10 G H_2 x0 x6 x2)
def s114_12 G x0 x2 x5 H_2 :=
 xb (afield P 65 x5 3) (s114_11 G x0 H_2 x2)
def s114_13 (G : CallT) x0 x2 H_1 :=
 xcall H_1 (G 62 [x0] H_1) (s114_12 G x0 x2)
/-- (*runrig/expr.reader).null -/
def s114 G x0 H :=
 xalloc H [(.int .i64 0), (.int .i64 0), (.str []), (.str []), (.int .i64 0), AV.nilSl, (.int .i64 0), (.int .i64 0), (.int .i64 0), (.int .i64 0), (.int .i64 0)] (s114_13 G x0)
theorem s114_eq (G : CallT) (N : Nat) (x0 : AV) (H : AHeap) : codeC P G N (bodyOf Try.f114) (retC P Try.f114.results.toList) [] (retC P Try.f114.results.toList) (argsF [x0]) H = s114 G x0 H := by
  refine Eq.trans ((via_leaf _ : ∀ R H, codeC P G N (bodyOf Try.f114) (retC P Try.f114.results.toList) [] (retC P Try.f114.results.toList) R H = _) (argsF [x0]) H) ?_
  delta s114 s114_13 s114_12 s114_11 s114_10 s114_9 s114_8 s114_7 s114_6 s114_5 s114_4 s114_3 s114_2 s114_1 s114_0
  kernel_rfl

theorem run114 (N : Nat) {x0 : AV} {H : AHeap} {r : AV × AHeap} (h : s114 (evw P) x0 H = some r) : evw P 114 [x0] H = some r :=
  evw_code (c := (bodyOf Try.f114)) (M := N) Try.func114 (by kernel_rfl) (by kernel_rfl) (by kernel_rfl) (Eq.trans (s114_eq (evw P) N x0 H) h)

def s115_0 (H_11 : AHeap) (r : AV) : O :=
 some (r, H_11)
def s115_1 H_11 x2 :=
 xb (aload P H_11 39 x2) (s115_0 H_11)
def s115_2 H_8 x4 x22 H_9 H_10 x2 H_11 :=
 bif ((rdIs (aload P H_8 32 x4) x22 && (rdIs (aload P H_9 32 x4) x22 && (rdIs (aload P H_10 32 x4) x22 && true))) && true) then s115_1 H_11 x2 else none
def s115_3 H_10 x2 H_8 x4 x22 H_9 x27 :=
 xstore H_10 (astore P H_10 39 x2 x27) (s115_2 H_8 x4 x22 H_9 H_10 x2)
def s115_4 x22 x8 x2 H_8 x4 H_9 x25 H_10 :=
 xb (abuild P 39 [(0, (.int .i64 9)), (3, x22), (4, x25), (5, x8)]) (s115_3 H_10 x2 H_8 x4 x22 H_9)
def s115_5 H_9 x24 x8 x2 H_8 x4 x22 :=
 xmake H_9 (sliceOf P (H_9).next 35 1 [(0, x24)]) (s115_4 x22 x8 x2 H_8 x4 H_9)
def s115_6 x4 x8 x2 H_8 x24 H_9 :=
 xb (aload P H_9 32 x4) (s115_5 H_9 x24 x8 x2 H_8 x4)
def s115_7 (G : CallT) x0 x4 x8 x2 (x21 : AV) H_8 :=
 xcall H_8 (G 119 [x0, (.str [40]), (.str [41])] H_8) (s115_6 x4 x8 x2 H_8)
def s115_8 (G : CallT) x0 x4 x8 x2 H_7 :=
 xcall H_7 (G 63 [x0, (.str [93])] H_7) (s115_7 G x0 x4 x8 x2)
def s115_9 G x19 x0 x8 x2 x4 H_6 :=
 xstore H_6 (astore P H_6 32 x4 x19) (s115_8 G x0 x4 x8 x2)
def s115_10 G x0 x8 x2 x19 H_5 :=
 xalloc H_5 [(.str []), (.int .i64 0)] (s115_9 G x19 x0 x8 x2)
def s115_11 (G : CallT) H_4 x0 x8 x2 :=
 xcall H_4 (G 35 [x0] H_4) (s115_10 G x0 x8 x2)
def s115_12 (H_2 : AHeap) (r : AV) : O :=
 some (r, H_2)
def s115_13 x2 H_2 :=
 xb (aload P H_2 39 x2) (s115_12 H_2)
def s115_14 H_1 x2 x46 :=
 xstore H_1 (astore P H_1 39 x2 x46) (s115_13 x2)
def s115_15 x3 H_1 x2 x44 :=
 xb (abuild P 39 [(0, (.int .i64 8)), (3, x44), (5, x3)]) (s115_14 H_1 x2)
def s115_16 x3 H_1 x2 x43 :=
 xb (abuild P 32 [(0, x43)]) (s115_15 x3 H_1 x2)
def s115_17 H_1 x3 x2 x42 :=
 xb (aload P H_1 9 x42) (s115_16 x3 H_1 x2)
def s115_18 x5 x3 x2 H_1 :=
 xb (afieldAddr P 65 x5 1) (s115_17 H_1 x3 x2)
def s115_19 H x39 x5 x3 x2 x41 :=
 xstore H (astore P H 3 x41 x39) (s115_18 x5 x3 x2)
def s115_20 H x39 x5 x3 x2 x40 :=
 xb (afieldAddr P 71 x40 1) (s115_19 H x39 x5 x3 x2)
def s115_21 x0 H x5 x3 x2 x39 :=
 xb (anil x0) (s115_20 H x39 x5 x3 x2)
def s115_22 x0 H x5 x3 x2 x38 :=
 xb (fbin P .add 3 true x38 (.int .i64 1)) (s115_21 x0 H x5 x3 x2)
def s115_23 H x0 x5 x3 x2 x37 :=
 xb (aload P H 3 x37) (s115_22 x0 H x5 x3 x2)
def s115_24 H x0 x5 x3 x2 x36 :=
 xb (afieldAddr P 71 x36 1) (s115_23 H x0 x5 x3 x2)
def s115_j0 (G : CallT) x0 x2 x3 x5 H :=
 xb (anil x0) (s115_24 H x0 x5 x3 x2)
theorem s115_j0_eq (G : CallT) (N : Nat) : ∀ R H, codeC P G N (Code.snd (Code.snd (Code.snd (Code.snd (Code.snd (Code.snd (bodyOf Try.f115))))))) (retC P Try.f115.results.toList) [] (retC P Try.f115.results.toList) R H = s115_j0 G (R 0) (R 2) (R 3) (R 5) H := by
  intro R H
  refine Eq.trans ((via_leaf _ : ∀ R H, codeC P G N (Code.snd (Code.snd (Code.snd (Code.snd (Code.snd (Code.snd (bodyOf Try.f115))))))) (retC P Try.f115.results.toList) [] (retC P Try.f115.results.toList) R H = _) R H) ?_
  delta s115_j0 s115_24 s115_23 s115_22 s115_21 s115_20 s115_19 s115_18 s115_17 s115_16 s115_15 s115_14 s115_13 s115_12
  kernel_rfl

def s115_25 G x0 x2 x8 x5 (x34 : AV) H_8 :=
 s115_j0 G x0 x2 x8 x5 H_8
def s115_26 (G : CallT) H_7 x0 x2 x8 x5 :=
 xcall H_7 (G 61 [x0, (.int .i64 2)] H_7) (s115_25 G x0 x2 x8 x5)
def s115_27 G x0 x2 x8 x5 H_7 :=
 s115_j0 G x0 x2 x8 x5 H_7
def s115_28 G H_7 x0 x2 x8 x5 x32 :=
 xif (some x32) (s115_26 G H_7 x0 x2 x8 x5) (s115_27 G x0 x2 x8 x5 H_7)
def s115_29 G H_7 x0 x2 x8 x5 x31 :=
 xb (fbin P .neq 3 true x31 (.int .i64 1)) (s115_28 G H_7 x0 x2 x8 x5)
def s115_30 G H_7 x0 x2 x8 x5 x30 :=
 xb (aload P H_7 3 x30) (s115_29 G H_7 x0 x2 x8 x5)
def s115_31 G x5 x0 x2 x8 H_7 :=
 xb (afieldAddr P 65 x5 0) (s115_30 G H_7 x0 x2 x8 x5)
def s115_32 G x29 x0 x2 x8 x5 H_6 :=
 xstore H_6 (astore P H_6 65 x5 x29) (s115_31 G x5 x0 x2 x8)
def s115_33 G x0 x2 x8 x29 H_5 :=
 xalloc H_5 [(.int .i64 0), (.str []), (.int .i64 0), (.int .i64 0)] (s115_32 G x29 x0 x2 x8)
def s115_34 (G : CallT) H_4 x0 x2 x8 :=
 xcall H_4 (G 62 [x0] H_4) (s115_33 G x0 x2 x8)
def s115_35 G x0 x8 x2 x17 H_4 :=
 xif (some x17) (s115_11 G H_4 x0 x8 x2) (s115_34 G H_4 x0 x2 x8)
def s115_36 (G : CallT) x0 x8 x2 H_3 :=
 xcall H_3 (G 80 [x0, (.int .i64 4), (.str [91])] H_3) (s115_35 G x0 x8 x2)
def s115_37 G H_2 x13 x0 x8 x2 x15 :=
 xstore H_2 (astore P H_2 3 x15 x13) (s115_36 G x0 x8 x2)
def s115_38 G H_2 x13 x0 x8 x2 x14 :=
 xb (afieldAddr P 71 x14 1) (s115_37 G H_2 x13 x0 x8 x2)
def s115_39 G x0 H_2 x8 x2 x13 :=
 xb (anil x0) (s115_38 G H_2 x13 x0 x8 x2)
def s115_40 G x0 H_2 x8 x2 x12 :=
 xb (fbin P .add 3 true x12 (.int .i64 1)) (s115_39 G x0 H_2 x8 x2)
def s115_41 G H_2 x0 x8 x2 x11 :=
 xb (aload P H_2 3 x11) (s115_40 G x0 H_2 x8 x2)
def s115_42 G H_2 x0 x8 x2 x10 :=
 xb (afieldAddr P 71 x10 1) (s115_41 G H_2 x0 x8 x2)
def s115_43 G x0 H_2 x2 x8 :=
 xb (anil x0) (s115_42 G H_2 x0 x8 x2)
def s115_44 G x0 x2 x7 H_2 :=
 xb (afield P 65 x7 3) (s115_43 G x0 H_2 x2)
def s115_45 (G : CallT) x0 x2 H_1 :=
 xcall H_1 (G 62 [x0] H_1) (s115_44 G x0 x2)
/-- (*runrig/expr.reader).fresh -/
def s115 G x0 H :=
 xalloc H [(.int .i64 0), (.int .i64 0), (.str []), (.str []), (.int .i64 0), AV.nilSl, (.int .i64 0), (.int .i64 0), (.int .i64 0), (.int .i64 0), (.int .i64 0)] (s115_45 G x0)
theorem s115_eq (G : CallT) (N : Nat) (x0 : AV) (H : AHeap) : codeC P G N (bodyOf Try.f115) (retC P Try.f115.results.toList) [] (retC P Try.f115.results.toList) (argsF [x0]) H = s115 G x0 H := by
  refine Eq.trans (((via_seq (by kernel_rfl) ((via_seq (by kernel_rfl) ((via_seq (by kernel_rfl) ((via_seq (by kernel_rfl) ((via_seq (by kernel_rfl) ((via_seq (by kernel_rfl) (s115_j0_eq G N) (via_leaf _))) (via_leaf _))) (via_leaf _))) (via_leaf _))) (via_leaf _))) (via_leaf _)) : ∀ R H, codeC P G N (bodyOf Try.f115) (retC P Try.f115.results.toList) [] (retC P Try.f115.results.toList) R H = _) (argsF [x0]) H) ?_
  delta s115 s115_45 s115_44 s115_43 s115_42 s115_41 s115_40 s115_39 s115_38 s115_37 s115_36 s115_35 s115_34 s115_33 s115_32 s115_31 s115_30 s115_29 s115_28 s115_27 s115_26 s115_25 s115_11 s115_10 s115_9 s115_8 s115_7 s115_6 s115_5 s115_4 s115_3 s115_2 s115_1 s115_0
  generalize s115_j0 G = J0
  revert J0
  refine id ?_
  intro J0
  kernel_rfl

theorem run115 (N : Nat) {x0 : AV} {H : AHeap} {r : AV × AHeap} (h : s115 (evw P) x0 H = some r) : evw P 115 [x0] H = some r :=
  evw_code (c := (bodyOf Try.f115)) (M := N) Try.func115 (by kernel_rfl) (by kernel_rfl) (by kernel_rfl) (Eq.trans (s115_eq (evw P) N x0 H) h)

def s116_0 (H_6 : AHeap) (r : AV) : O :=
 some (r, H_6)
def s116_1 x2 H_6 :=
 xb (aload P H_6 39 x2) (s116_0 H_6)
def s116_2 H_5 x2 x18 :=
 xstore H_5 (astore P H_5 39 x2 x18) (s116_1 x2)
def s116_3 x6 x2 x16 H_5 :=
 xb (abuild P 39 [(0, (.int .i64 10)), (4, x16), (5, x6)]) (s116_2 H_5 x2)
def s116_4 x6 x2 x15 H_4 :=
 xmake H_4 (sliceOf P (H_4).next 35 1 [(0, x15)]) (s116_3 x6 x2)
def s116_5 (G : CallT) x0 x6 x2 H_3 :=
 xcall H_3 (G 119 [x0, (.str [40]), (.str [41])] H_3) (s116_4 x6 x2)
def s116_6 G H_2 x11 x0 x6 x2 x13 :=
 xstore H_2 (astore P H_2 3 x13 x11) (s116_5 G x0 x6 x2)
def s116_7 G H_2 x11 x0 x6 x2 x12 :=
 xb (afieldAddr P 71 x12 1) (s116_6 G H_2 x11 x0 x6 x2)
def s116_8 G x0 H_2 x6 x2 x11 :=
 xb (anil x0) (s116_7 G H_2 x11 x0 x6 x2)
def s116_9 G x0 H_2 x6 x2 x10 :=
 xb (fbin P .add 3 true x10 (.int .i64 1)) (s116_8 G x0 H_2 x6 x2)
def s116_10 G H_2 x0 x6 x2 x9 :=
 xb (aload P H_2 3 x9) (s116_9 G x0 H_2 x6 x2)
def s116_11 G H_2 x0 x6 x2 x8 :=
 xb (afieldAddr P 71 x8 1) (s116_10 G H_2 x0 x6 x2)
def s116_12 G x0 H_2 x2 x6 :=
 xb (anil x0) (s116_11 G H_2 x0 x6 x2)
def s116_13 G x0 x2 x5 H_2 :=
 xb (afield P 65 x5 3) (s116_12 G x0 H_2 x2)
def s116_14 (G : CallT) x0 x2 H_1 :=
 xcall H_1 (G 62 [x0] H_1) (s116_13 G x0 x2)
/-- (*runrig/expr.reader).length -/
def s116 G x0 H :=
 xalloc H [(.int .i64 0), (.int .i64 0), (.str []), (.str []), (.int .i64 0), AV.nilSl, (.int .i64 0), (.int .i64 0), (.int .i64 0), (.int .i64 0), (.int .i64 0)] (s116_14 G x0)
theorem s116_eq (G : CallT) (N : Nat) (x0 : AV) (H : AHeap) : codeC P G N (bodyOf Try.f116) (retC P Try.f116.results.toList) [] (retC P Try.f116.results.toList) (argsF [x0]) H = s116 G x0 H := by
  refine Eq.trans ((via_leaf _ : ∀ R H, codeC P G N (bodyOf Try.f116) (retC P Try.f116.results.toList) [] (retC P Try.f116.results.toList) R H = _) (argsF [x0]) H) ?_
  delta s116 s116_14 s116_13 s116_12 s116_11 s116_10 s116_9 s116_8 s116_7 s116_6 s116_5 s116_4 s116_3 s116_2 s116_1 s116_0
  kernel_rfl

theorem run116 (N : Nat) {x0 : AV} {H : AHeap} {r : AV × AHeap} (h : s116 (evw P) x0 H = some r) : evw P 116 [x0] H = some r :=
  evw_code (c := (bodyOf Try.f116)) (M := N) Try.func116 (by kernel_rfl) (by kernel_rfl) (by kernel_rfl) (Eq.trans (s116_eq (evw P) N x0 H) h)

def s117_0 (H_1 : AHeap) (r : AV) : O :=
 some (r, H_1)
def s117_1 x2 H_1 :=
 xb (aload P H_1 39 x2) (s117_0 H_1)
def s117_2 H x2 x19 :=
 xstore H (astore P H 39 x2 x19) (s117_1 x2)
def s117_j0 (G : CallT) x2 x3 H :=
 xb (abuild P 39 [(0, (.int .i64 11)), (5, x3)]) (s117_2 H x2)
theorem s117_j0_eq (G : CallT) (N : Nat) : ∀ R H, codeC P G N (Code.snd (Code.snd (Code.snd (Code.snd (bodyOf Try.f117))))) (retC P Try.f117.results.toList) [] (retC P Try.f117.results.toList) R H = s117_j0 G (R 2) (R 3) H := by
  intro R H
  refine Eq.trans ((via_leaf _ : ∀ R H, codeC P G N (Code.snd (Code.snd (Code.snd (Code.snd (bodyOf Try.f117))))) (retC P Try.f117.results.toList) [] (retC P Try.f117.results.toList) R H = _) R H) ?_
  delta s117_j0 s117_2 s117_1 s117_0
  kernel_rfl

def s117_3 G x2 x6 (x17 : AV) H_5 :=
 s117_j0 G x2 x6 H_5
def s117_4 (G : CallT) H_4 x0 x2 x6 :=
 xcall H_4 (G 120 [x0, (.str [41])] H_4) (s117_3 G x2 x6)
def s117_5 G x2 x6 H_4 :=
 s117_j0 G x2 x6 H_4
def s117_6 G x0 x2 x6 x15 H_4 :=
 xif (some x15) (s117_4 G H_4 x0 x2 x6) (s117_5 G x2 x6 H_4)
def s117_7 (G : CallT) x0 x2 x6 H_3 :=
 xcall H_3 (G 101 [x0, (.str [40])] H_3) (s117_6 G x0 x2 x6)
def s117_8 G H_2 x11 x0 x2 x6 x13 :=
 xstore H_2 (astore P H_2 3 x13 x11) (s117_7 G x0 x2 x6)
def s117_9 G H_2 x11 x0 x2 x6 x12 :=
 xb (afieldAddr P 71 x12 1) (s117_8 G H_2 x11 x0 x2 x6)
def s117_10 G x0 H_2 x2 x6 x11 :=
 xb (anil x0) (s117_9 G H_2 x11 x0 x2 x6)
def s117_11 G x0 H_2 x2 x6 x10 :=
 xb (fbin P .add 3 true x10 (.int .i64 1)) (s117_10 G x0 H_2 x2 x6)
def s117_12 G H_2 x0 x2 x6 x9 :=
 xb (aload P H_2 3 x9) (s117_11 G x0 H_2 x2 x6)
def s117_13 G H_2 x0 x2 x6 x8 :=
 xb (afieldAddr P 71 x8 1) (s117_12 G H_2 x0 x2 x6)
def s117_14 G x0 H_2 x2 x6 :=
 xb (anil x0) (s117_13 G H_2 x0 x2 x6)
def s117_15 G x0 x2 x5 H_2 :=
 xb (afield P 65 x5 3) (s117_14 G x0 H_2 x2)
def s117_16 (G : CallT) x0 x2 H_1 :=
 xcall H_1 (G 62 [x0] H_1) (s117_15 G x0 x2)
/-- (*runrig/expr.reader).read -/
def s117 G x0 H :=
 xalloc H [(.int .i64 0), (.int .i64 0), (.str []), (.str []), (.int .i64 0), AV.nilSl, (.int .i64 0), (.int .i64 0), (.int .i64 0), (.int .i64 0), (.int .i64 0)] (s117_16 G x0)
theorem s117_eq (G : CallT) (N : Nat) (x0 : AV) (H : AHeap) : codeC P G N (bodyOf Try.f117) (retC P Try.f117.results.toList) [] (retC P Try.f117.results.toList) (argsF [x0]) H = s117 G x0 H := by
  refine Eq.trans (((via_seq (by kernel_rfl) ((via_seq (by kernel_rfl) ((via_seq (by kernel_rfl) ((via_seq (by kernel_rfl) (s117_j0_eq G N) (via_leaf _))) (via_leaf _))) (via_leaf _))) (via_leaf _)) : ∀ R H, codeC P G N (bodyOf Try.f117) (retC P Try.f117.results.toList) [] (retC P Try.f117.results.toList) R H = _) (argsF [x0]) H) ?_
  delta s117 s117_16 s117_15 s117_14 s117_13 s117_12 s117_11 s117_10 s117_9 s117_8 s117_7 s117_6 s117_5 s117_4 s117_3
  generalize s117_j0 G = J0
  revert J0
  refine id ?_
  intro J0
  kernel_rfl

theorem run117 (N : Nat) {x0 : AV} {H : AHeap} {r : AV × AHeap} (h : s117 (evw P) x0 H = some r) : evw P 117 [x0] H = some r :=
  evw_code (c := (bodyOf Try.f117)) (M := N) Try.func117 (by kernel_rfl) (by kernel_rfl) (by kernel_rfl) (Eq.trans (s117_eq (evw P) N x0 H) h)

def s118_0 (H_3 : AHeap) (r : AV) : O :=
 some (r, H_3)
def s118_1 x2 H_3 :=
 xb (aload P H_3 39 x2) (s118_0 H_3)
def s118_2 x2 x4 H_2 :=
 xstore H_2 (astore P H_2 39 x2 x4) (s118_1 x2)
def s118_3 (G : CallT) x0 x2 H_1 :=
 xcall H_1 (G 119 [x0, (.str [40]), (.str [41])] H_1) (s118_2 x2)
/-- (*runrig/expr.reader).within -/
def s118 G x0 H :=
 xalloc H [(.int .i64 0), (.int .i64 0), (.str []), (.str []), (.int .i64 0), AV.nilSl, (.int .i64 0), (.int .i64 0), (.int .i64 0), (.int .i64 0), (.int .i64 0)] (s118_3 G x0)
theorem s118_eq (G : CallT) (N : Nat) (x0 : AV) (H : AHeap) : codeC P G N (bodyOf Try.f118) (retC P Try.f118.results.toList) [] (retC P Try.f118.results.toList) (argsF [x0]) H = s118 G x0 H := by
  refine Eq.trans ((via_leaf _ : ∀ R H, codeC P G N (bodyOf Try.f118) (retC P Try.f118.results.toList) [] (retC P Try.f118.results.toList) R H = _) (argsF [x0]) H) ?_
  delta s118 s118_3 s118_2 s118_1 s118_0
  kernel_rfl

theorem run118 (N : Nat) {x0 : AV} {H : AHeap} {r : AV × AHeap} (h : s118 (evw P) x0 H = some r) : evw P 118 [x0] H = some r :=
  evw_code (c := (bodyOf Try.f118)) (M := N) Try.func118 (by kernel_rfl) (by kernel_rfl) (by kernel_rfl) (Eq.trans (s118_eq (evw P) N x0 H) h)

def s119_0 (H_3 : AHeap) (r : AV) : O :=
 some (r, H_3)
def s119_1 x6 H_3 :=
 xb (aload P H_3 39 x6) (s119_0 H_3)
def s119_2 H_2 x6 :=
 xstore H_2 (astore P H_2 39 x6 (.agg [(.int .i64 0), (.int .i64 0), (.str []), (.str []), (.int .i64 0), AV.nilSl, (.int .i64 0), (.int .i64 0), (.int .i64 0), (.int .i64 0), (.int .i64 0)])) (s119_1 x6)
def s119_3 (H_7 : AHeap) (r : AV) : O :=
 some (r, H_7)
def s119_4 x6 H_7 :=
 xb (aload P H_7 39 x6) (s119_3 H_7)
def s119_5 H_6 x6 x18 :=
 xstore H_6 (astore P H_6 39 x6 x18) (s119_4 x6)
def s119_6 x7 x6 (x17 : AV) H_6 :=
 xb (aload P H_6 39 x7) (s119_5 H_6 x6)
def s119_7 (G : CallT) x0 x2 x7 x6 H_5 :=
 xcall H_5 (G 120 [x0, x2] H_5) (s119_6 x7 x6)
def s119_8 G x14 x0 x2 x6 x7 H_4 :=
 xstore H_4 (astore P H_4 39 x7 x14) (s119_7 G x0 x2 x7 x6)
def s119_9 G x0 x2 x6 x14 H_3 :=
 xalloc H_3 [(.int .i64 0), (.int .i64 0), (.str []), (.str []), (.int .i64 0), AV.nilSl, (.int .i64 0), (.int .i64 0), (.int .i64 0), (.int .i64 0), (.int .i64 0)] (s119_8 G x14 x0 x2 x6)
def s119_10 (G : CallT) H_2 x0 x2 x6 :=
 xcall H_2 (G 41 [x0] H_2) (s119_9 G x0 x2 x6)
def s119_11 G H_2 x6 x0 x2 x11 :=
 xif (some x11) (s119_2 H_2 x6) (s119_10 G H_2 x0 x2 x6)
def s119_12 G x6 x0 x2 x10 H_2 :=
 xb (aun .not x10) (s119_11 G H_2 x6 x0 x2)
def s119_13 (G : CallT) x0 x1 x2 x6 H_1 :=
 xcall H_1 (G 101 [x0, x1] H_1) (s119_12 G x6 x0 x2)
/-- (*runrig/expr.reader).single -/
def s119 G x0 x1 x2 H :=
 xalloc H [(.int .i64 0), (.int .i64 0), (.str []), (.str []), (.int .i64 0), AV.nilSl, (.int .i64 0), (.int .i64 0), (.int .i64 0), (.int .i64 0), (.int .i64 0)] (s119_13 G x0 x1 x2)
theorem s119_eq (G : CallT) (N : Nat) (x0 : AV) (x1 : AV) (x2 : AV) (H : AHeap) : codeC P G N (bodyOf Try.f119) (retC P Try.f119.results.toList) [] (retC P Try.f119.results.toList) (argsF [x0, x1, x2]) H = s119 G x0 x1 x2 H := by
  refine Eq.trans ((via_leaf _ : ∀ R H, codeC P G N (bodyOf Try.f119) (retC P Try.f119.results.toList) [] (retC P Try.f119.results.toList) R H = _) (argsF [x0, x1, x2]) H) ?_
  delta s119 s119_13 s119_12 s119_11 s119_10 s119_9 s119_8 s119_7 s119_6 s119_5 s119_4 s119_3 s119_2 s119_1 s119_0
  kernel_rfl

theorem run119 (N : Nat) {x0 x1 x2 : AV} {H : AHeap} {r : AV × AHeap} (h : s119 (evw P) x0 x1 x2 H = some r) : evw P 119 [x0, x1, x2] H = some r :=
  evw_code (c := (bodyOf Try.f119)) (M := N) Try.func119 (by kernel_rfl) (by kernel_rfl) (by kernel_rfl) (Eq.trans (s119_eq (evw P) N x0 x1 x2 H) h)

def s40_0 (x17 : AV) (H_6 : AHeap) : O :=
 some (x17, H_6)
def s40_1 x2 x4 x9 x12 x16 H_5 :=
 xmake H_5 (sliceOf P (H_5).next 69 5 [(0, x2), (1, x4), (2, x9), (3, x12), (4, x16)]) (s40_0)
def s40_2 x2 x4 x9 x12 H_4 :=
 xmake H_4 (some (.sl (H_4).next 0 3 2 (some 3), .row false 2 [[(.str [42]), (.int .i64 16)], [(.str [47]), (.int .i64 17)], [(.str [37]), (.int .i64 18)]])) (s40_1 x2 x4 x9 x12)
def s40_3 x2 x4 x9 H_3 :=
 xmake H_3 (some (.sl (H_3).next 0 2 2 (some 2), .row false 2 [[(.str [43]), (.int .i64 14)], [(.str [45]), (.int .i64 15)]])) (s40_2 x2 x4 x9)
def s40_4 x2 x4 H_2 :=
 xmake H_2 (some (.sl (H_2).next 0 4 2 (some 4), .row false 2 [[(.str [60]), (.int .i64 19)], [(.str [60, 61]), (.int .i64 20)], [(.str [61, 61]), (.int .i64 21)], [(.str [33, 61]), (.int .i64 22)]])) (s40_3 x2 x4)
def s40_5 x2 H_1 :=
 xmake H_1 (some (.sl (H_1).next 0 1 2 (some 1), .row false 2 [[(.str [38, 38]), (.int .i64 23)]])) (s40_4 x2)
/-- runrig/expr.levels -/
def s40 (G : CallT) H :=
 xmake H (some (.sl (H).next 0 1 2 (some 1), .row false 2 [[(.str [124, 124]), (.int .i64 24)]])) (s40_5)
theorem s40_eq (G : CallT) (N : Nat) (H : AHeap) : codeC P G N (bodyOf Try.f40) (retC P Try.f40.results.toList) [] (retC P Try.f40.results.toList) (argsF []) H = s40 G H := by
  refine Eq.trans ((via_leaf _ : ∀ R H, codeC P G N (bodyOf Try.f40) (retC P Try.f40.results.toList) [] (retC P Try.f40.results.toList) R H = _) (argsF []) H) ?_
  delta s40 s40_5 s40_4 s40_3 s40_2 s40_1 s40_0
  kernel_rfl

theorem run40 (N : Nat) {H : AHeap} {r : AV × AHeap} (h : s40 (evw P) H = some r) : evw P 40 [] H = some r :=
  evw_code (c := (bodyOf Try.f40)) (M := N) Try.func40 (by kernel_rfl) (by kernel_rfl) (by kernel_rfl) (Eq.trans (s40_eq (evw P) N H) h)

def s18_0 (r : AV) (H_9 : AHeap) (r_1 : AV) : O :=
 some (.tuple [r, (.int .i64 0), r_1], H_9)
def s18_1 H_9 x6 r :=
 xb (aload P H_9 25 x6) (s18_0 r H_9)
def s18_2 H_9 x4 x6 :=
 xb (aload P H_9 32 x4) (s18_1 H_9 x6)
def s18_3 H_7 x20 x21 H_8 x4 x6 H_9 :=
 bif ((rdIs (aload P H_7 25 x20) x21 && (rdIs (aload P H_8 25 x20) x21 && true)) && true) then s18_2 H_9 x4 x6 else none
def s18_4 H_8 x6 H_7 x20 x4 x21 :=
 xstore H_8 (astore P H_8 25 x6 x21) (s18_3 H_7 x20 x21 H_8 x4 x6)
def s18_5 H_8 x6 H_7 x4 x20 :=
 xb (aload P H_8 25 x20) (s18_4 H_8 x6 H_7 x20 x4)
def s18_6 H_8 x6 H_7 x4 x19 :=
 xb (afieldAddr P 71 x19 4) (s18_5 H_8 x6 H_7 x4)
def s18_7 x12 x6 H_7 x4 H_8 :=
 xb (anil x12) (s18_6 H_8 x6 H_7 x4)
def s18_8 H_7 x4 x12 x6 :=
 xstore H_7 (astore P H_7 32 x4 (.agg [(.str []), (.int .i64 0)])) (s18_7 x12 x6 H_7 x4)
def s18_9 (r x26 : AV) (H_9 : AHeap) (r_1 : AV) : O :=
 some (.tuple [r, x26, r_1], H_9)
def s18_10 H_9 x6 x26 r :=
 xb (aload P H_9 25 x6) (s18_9 r x26 H_9)
def s18_11 H_9 x4 x6 x26 :=
 xb (aload P H_9 32 x4) (s18_10 H_9 x6 x26)
def s18_12 H_7 x25 x26 H_8 x4 x6 H_9 :=
 bif ((rdIs (aload P H_7 3 x25) x26 && (rdIs (aload P H_8 3 x25) x26 && true)) && true) then s18_11 H_9 x4 x6 x26 else none
def s18_13 H_8 x6 H_7 x25 x4 x26 :=
 xstore H_8 (astore P H_8 25 x6 (.agg [(.int .i64 0), (.int .i64 0)])) (s18_12 H_7 x25 x26 H_8 x4 x6)
def s18_14 H_8 x6 H_7 x4 x25 :=
 xb (aload P H_8 3 x25) (s18_13 H_8 x6 H_7 x25 x4)
def s18_15 H_8 x6 H_7 x4 x24 :=
 xb (afieldAddr P 71 x24 1) (s18_14 H_8 x6 H_7 x4)
def s18_16 x12 x6 H_7 x4 H_8 :=
 xb (anil x12) (s18_15 H_8 x6 H_7 x4)
def s18_17 H_7 x4 x12 x6 x22 :=
 xstore H_7 (astore P H_7 32 x4 x22) (s18_16 x12 x6 H_7 x4)
def s18_18 H_7 x8 x4 x12 x6 :=
 xb (aload P H_7 32 x8) (s18_17 H_7 x4 x12 x6)
def s18_19 x4 x12 x6 x8 x16 H_7 :=
 xif (some x16) (s18_8 H_7 x4 x12 x6) (s18_18 H_7 x8 x4 x12 x6)
def s18_20 (G : CallT) x12 x4 x6 x8 H_6 :=
 xcall H_6 (G 36 [x12] H_6) (s18_19 x4 x12 x6 x8)
def s18_21 G x14 x12 x4 x6 x8 H_5 :=
 xstore H_5 (astore P H_5 32 x8 x14) (s18_20 G x12 x4 x6 x8)
def s18_22 G x12 x4 x6 x14 H_4 :=
 xalloc H_4 [(.str []), (.int .i64 0)] (s18_21 G x14 x12 x4 x6)
def s18_23 (G : CallT) x4 x6 x12 H_3 :=
 xcall H_3 (G 35 [x12] H_3) (s18_22 G x12 x4 x6)
def s18_24 G H_2 x4 x6 x11 :=
 xmake H_2 (boxOf (H_2).next x11) (s18_23 G x4 x6)
def s18_25 G x0 x1 x4 x6 H_2 :=
 xb (abuild P 71 [(0, x0), (1, x1)]) (s18_24 G H_2 x4 x6)
def s18_26 G x0 x1 x4 H_1 :=
 xalloc H_1 [(.int .i64 0), (.int .i64 0)] (s18_25 G x0 x1 x4)
/-- runrig/expr.Of -/
def s18 G x0 x1 H :=
 xalloc H [(.str []), (.int .i64 0)] (s18_26 G x0 x1)
theorem s18_eq (G : CallT) (N : Nat) (x0 : AV) (x1 : AV) (H : AHeap) : codeC P G N (bodyOf Try.f18) (retC P Try.f18.results.toList) [] (retC P Try.f18.results.toList) (argsF [x0, x1]) H = s18 G x0 x1 H := by
  refine Eq.trans ((via_leaf _ : ∀ R H, codeC P G N (bodyOf Try.f18) (retC P Try.f18.results.toList) [] (retC P Try.f18.results.toList) R H = _) (argsF [x0, x1]) H) ?_
  delta s18 s18_26 s18_25 s18_24 s18_23 s18_22 s18_21 s18_20 s18_19 s18_18 s18_17 s18_16 s18_15 s18_14 s18_13 s18_12 s18_11 s18_10 s18_9 s18_8 s18_7 s18_6 s18_5 s18_4 s18_3 s18_2 s18_1 s18_0
  kernel_rfl

theorem run18 (N : Nat) {x0 x1 : AV} {H : AHeap} {r : AV × AHeap} (h : s18 (evw P) x0 x1 H = some r) : evw P 18 [x0, x1] H = some r :=
  evw_code (c := (bodyOf Try.f18)) (M := N) Try.func18 (by kernel_rfl) (by kernel_rfl) (by kernel_rfl) (Eq.trans (s18_eq (evw P) N x0 x1 H) h)

def s21_0 (r : AV) (H_10 : AHeap) (r_1 : AV) : O :=
 some (.tuple [r, (.int .i64 0), r_1], H_10)
def s21_1 H_10 x8 r :=
 xb (aload P H_10 25 x8) (s21_0 r H_10)
def s21_2 H_10 x6 x8 :=
 xb (aload P H_10 39 x6) (s21_1 H_10 x8)
def s21_3 H_8 x25 x26 H_9 x6 x8 H_10 :=
 bif ((rdIs (aload P H_8 25 x25) x26 && (rdIs (aload P H_9 25 x25) x26 && true)) && true) then s21_2 H_10 x6 x8 else none
def s21_4 H_9 x8 H_8 x25 x6 x26 :=
 xstore H_9 (astore P H_9 25 x8 x26) (s21_3 H_8 x25 x26 H_9 x6 x8)
def s21_5 H_9 x8 H_8 x6 x25 :=
 xb (aload P H_9 25 x25) (s21_4 H_9 x8 H_8 x25 x6)
def s21_6 H_9 x8 H_8 x6 x24 :=
 xb (afieldAddr P 71 x24 4) (s21_5 H_9 x8 H_8 x6)
def s21_7 x17 x8 H_8 x6 H_9 :=
 xb (anil x17) (s21_6 H_9 x8 H_8 x6)
def s21_8 H_8 x6 x17 x8 :=
 xstore H_8 (astore P H_8 39 x6 (.agg [(.int .i64 0), (.int .i64 0), (.str []), (.str []), (.int .i64 0), AV.nilSl, (.int .i64 0), (.int .i64 0), (.int .i64 0), (.int .i64 0), (.int .i64 0)])) (s21_7 x17 x8 H_8 x6)
def s21_9 (r x31 : AV) (H_10 : AHeap) (r_1 : AV) : O :=
 some (.tuple [r, x31, r_1], H_10)
def s21_10 H_10 x8 x31 r :=
 xb (aload P H_10 25 x8) (s21_9 r x31 H_10)
def s21_11 H_10 x6 x8 x31 :=
 xb (aload P H_10 39 x6) (s21_10 H_10 x8 x31)
def s21_12 H_8 x30 x31 H_9 x6 x8 H_10 :=
 bif ((rdIs (aload P H_8 3 x30) x31 && (rdIs (aload P H_9 3 x30) x31 && true)) && true) then s21_11 H_10 x6 x8 x31 else none
def s21_13 H_9 x8 H_8 x30 x6 x31 :=
 xstore H_9 (astore P H_9 25 x8 (.agg [(.int .i64 0), (.int .i64 0)])) (s21_12 H_8 x30 x31 H_9 x6 x8)
def s21_14 H_9 x8 H_8 x6 x30 :=
 xb (aload P H_9 3 x30) (s21_13 H_9 x8 H_8 x30 x6)
def s21_15 H_9 x8 H_8 x6 x29 :=
 xb (afieldAddr P 71 x29 1) (s21_14 H_9 x8 H_8 x6)
def s21_16 x17 x8 H_8 x6 H_9 :=
 xb (anil x17) (s21_15 H_9 x8 H_8 x6)
def s21_17 H_8 x6 x17 x8 x27 :=
 xstore H_8 (astore P H_8 39 x6 x27) (s21_16 x17 x8 H_8 x6)
def s21_18 H_8 x10 x6 x17 x8 :=
 xb (aload P H_8 39 x10) (s21_17 H_8 x6 x17 x8)
def s21_19 x6 x17 x8 x10 x21 H_8 :=
 xif (some x21) (s21_8 H_8 x6 x17 x8) (s21_18 H_8 x10 x6 x17 x8)
def s21_20 (G : CallT) x17 x6 x8 x10 H_7 :=
 xcall H_7 (G 36 [x17] H_7) (s21_19 x6 x17 x8 x10)
def s21_21 G x19 x17 x6 x8 x10 H_6 :=
 xstore H_6 (astore P H_6 39 x10 x19) (s21_20 G x17 x6 x8 x10)
def s21_22 G x17 x6 x8 x19 H_5 :=
 xalloc H_5 [(.int .i64 0), (.int .i64 0), (.str []), (.str []), (.int .i64 0), AV.nilSl, (.int .i64 0), (.int .i64 0), (.int .i64 0), (.int .i64 0), (.int .i64 0)] (s21_21 G x19 x17 x6 x8)
def s21_23 (G : CallT) x6 x8 x17 H_4 :=
 xcall H_4 (G 41 [x17] H_4) (s21_22 G x17 x6 x8)
def s21_24 G H_3 x6 x8 x16 :=
 xmake H_3 (boxOf (H_3).next x16) (s21_23 G x6 x8)
def s21_25 G x0 x1 x14 x6 x8 x15 H_3 :=
 xb (abuild P 71 [(0, x0), (1, x1), (2, x14), (3, x15)]) (s21_24 G H_3 x6 x8)
def s21_26 (G : CallT) H_2 x0 x1 x6 x8 x14 :=
 xcall H_2 (G 40 [] H_2) (s21_25 G x0 x1 x14 x6 x8)
def s21_27 G x2 x0 x1 x6 x8 H_2 :=
 xlen P .max [3, 3] [x2, (.int .i64 0)] H_2 (s21_26 G H_2 x0 x1 x6 x8)
def s21_28 G x2 x0 x1 x6 H_1 :=
 xalloc H_1 [(.int .i64 0), (.int .i64 0)] (s21_27 G x2 x0 x1 x6)
/-- runrig/expr.Parse -/
def s21 G x0 x1 x2 H :=
 xalloc H [(.int .i64 0), (.int .i64 0), (.str []), (.str []), (.int .i64 0), AV.nilSl, (.int .i64 0), (.int .i64 0), (.int .i64 0), (.int .i64 0), (.int .i64 0)] (s21_28 G x2 x0 x1)
theorem s21_eq (G : CallT) (N : Nat) (x0 : AV) (x1 : AV) (x2 : AV) (H : AHeap) : codeC P G N (bodyOf Try.f21) (retC P Try.f21.results.toList) [] (retC P Try.f21.results.toList) (argsF [x0, x1, x2]) H = s21 G x0 x1 x2 H := by
  refine Eq.trans ((via_leaf _ : ∀ R H, codeC P G N (bodyOf Try.f21) (retC P Try.f21.results.toList) [] (retC P Try.f21.results.toList) R H = _) (argsF [x0, x1, x2]) H) ?_
  delta s21 s21_28 s21_27 s21_26 s21_25 s21_24 s21_23 s21_22 s21_21 s21_20 s21_19 s21_18 s21_17 s21_16 s21_15 s21_14 s21_13 s21_12 s21_11 s21_10 s21_9 s21_8 s21_7 s21_6 s21_5 s21_4 s21_3 s21_2 s21_1 s21_0
  kernel_rfl

theorem run21 (N : Nat) {x0 x1 x2 : AV} {H : AHeap} {r : AV × AHeap} (h : s21 (evw P) x0 x1 x2 H = some r) : evw P 21 [x0, x1, x2] H = some r :=
  evw_code (c := (bodyOf Try.f21)) (M := N) Try.func21 (by kernel_rfl) (by kernel_rfl) (by kernel_rfl) (Eq.trans (s21_eq (evw P) N x0 x1 x2 H) h)

def s24_0 (H_32 : AHeap) (x51 : AV) : O :=
 some (x51, H_32)
def s24_1 x44 x50 H_32 :=
 xb (pickOf x44 (some x50) (some (.bool false))) (s24_0 H_32)
def s24_2 (G : CallT) x44 x47 x49 H_31 :=
 xg x44 true H_31 (fun q => xeff H_31 (G 43 [x47, x49, (.func (.func 24) [] [])] H_31) q) (s24_1 x44)
def s24_3 G x44 x47 x48 H_30 :=
 xg x44 true H_30 (fun q => (aload P H_30 35 x48).bind fun v => q (.read v)) (s24_2 G x44 x47)
def s24_4 G x44 x3 x47 H_29 :=
 xg x44 true H_29 (fun q => (afieldAddr P 39 x3 4).bind fun v => q (.pure v)) (s24_3 G x44 x47)
def s24_5 G x44 x3 x46 H_28 :=
 xg x44 true H_28 (fun q => (aload P H_28 35 x46).bind fun v => q (.read v)) (s24_4 G x44 x3)
def s24_6 G H_27 x2 x3 x44 :=
 xg x44 true H_27 (fun q => (afieldAddr P 39 x2 4).bind fun v => q (.pure v)) (s24_5 G x44 x3)
def s24_7 G x37 x2 x3 x43 H_27 :=
 xb (pickOf x37 (some x43) (some (.bool false))) (s24_6 G H_27 x2 x3)
def s24_8 G x37 x40 x2 x3 x42 H_26 :=
 xg x37 true H_26 (fun q => (fbin P .eql 3 false x40 x42).bind fun v => q (.pure v)) (s24_7 G x37 x2 x3)
def s24_9 G x37 x40 x2 x3 x41 H_25 :=
 xg x37 true H_25 (fun q => (aload P H_25 3 x41).bind fun v => q (.read v)) (s24_8 G x37 x40 x2 x3)
def s24_10 G x37 x3 x2 x40 H_24 :=
 xg x37 true H_24 (fun q => (afieldAddr P 39 x3 7).bind fun v => q (.pure v)) (s24_9 G x37 x40 x2 x3)
def s24_11 G x37 x3 x2 x39 H_23 :=
 xg x37 true H_23 (fun q => (aload P H_23 3 x39).bind fun v => q (.read v)) (s24_10 G x37 x3 x2)
def s24_12 G H_22 x2 x3 x37 :=
 xg x37 true H_22 (fun q => (afieldAddr P 39 x2 7).bind fun v => q (.pure v)) (s24_11 G x37 x3 x2)
def s24_13 G x30 x2 x3 x36 H_22 :=
 xb (pickOf x30 (some x36) (some (.bool false))) (s24_12 G H_22 x2 x3)
def s24_14 G x30 x33 x2 x3 x35 H_21 :=
 xg x30 true H_21 (fun q => (fbin P .eql 37 false x33 x35).bind fun v => q (.pure v)) (s24_13 G x30 x2 x3)
def s24_15 G x30 x33 x2 x3 x34 H_20 :=
 xg x30 true H_20 (fun q => (aload P H_20 37 x34).bind fun v => q (.read v)) (s24_14 G x30 x33 x2 x3)
def s24_16 G x30 x3 x2 x33 H_19 :=
 xg x30 true H_19 (fun q => (afieldAddr P 39 x3 6).bind fun v => q (.pure v)) (s24_15 G x30 x33 x2 x3)
def s24_17 G x30 x3 x2 x32 H_18 :=
 xg x30 true H_18 (fun q => (aload P H_18 37 x32).bind fun v => q (.read v)) (s24_16 G x30 x3 x2)
def s24_18 G H_17 x2 x3 x30 :=
 xg x30 true H_17 (fun q => (afieldAddr P 39 x2 6).bind fun v => q (.pure v)) (s24_17 G x30 x3 x2)
def s24_19 G x23 x2 x3 x29 H_17 :=
 xb (pickOf x23 (some x29) (some (.bool false))) (s24_18 G H_17 x2 x3)
def s24_20 G x23 x26 x2 x3 x28 H_16 :=
 xg x23 true H_16 (fun q => (fbin P .eql 32 false x26 x28).bind fun v => q (.pure v)) (s24_19 G x23 x2 x3)
def s24_21 G x23 x26 x2 x3 x27 H_15 :=
 xg x23 true H_15 (fun q => (aload P H_15 32 x27).bind fun v => q (.read v)) (s24_20 G x23 x26 x2 x3)
def s24_22 G x23 x3 x2 x26 H_14 :=
 xg x23 true H_14 (fun q => (afieldAddr P 39 x3 3).bind fun v => q (.pure v)) (s24_21 G x23 x26 x2 x3)
def s24_23 G x23 x3 x2 x25 H_13 :=
 xg x23 true H_13 (fun q => (aload P H_13 32 x25).bind fun v => q (.read v)) (s24_22 G x23 x3 x2)
def s24_24 G H_12 x2 x3 x23 :=
 xg x23 true H_12 (fun q => (afieldAddr P 39 x2 3).bind fun v => q (.pure v)) (s24_23 G x23 x3 x2)
def s24_25 G x16 x2 x3 x22 H_12 :=
 xb (pickOf x16 (some x22) (some (.bool false))) (s24_24 G H_12 x2 x3)
def s24_26 G x16 x19 x2 x3 x21 H_11 :=
 xg x16 true H_11 (fun q => (fbin P .eql 9 false x19 x21).bind fun v => q (.pure v)) (s24_25 G x16 x2 x3)
def s24_27 G x16 x19 x2 x3 x20 H_10 :=
 xg x16 true H_10 (fun q => (aload P H_10 9 x20).bind fun v => q (.read v)) (s24_26 G x16 x19 x2 x3)
def s24_28 G x16 x3 x2 x19 H_9 :=
 xg x16 true H_9 (fun q => (afieldAddr P 39 x3 2).bind fun v => q (.pure v)) (s24_27 G x16 x19 x2 x3)
def s24_29 G x16 x3 x2 x18 H_8 :=
 xg x16 true H_8 (fun q => (aload P H_8 9 x18).bind fun v => q (.read v)) (s24_28 G x16 x3 x2)
def s24_30 G H_7 x2 x3 x16 :=
 xg x16 true H_7 (fun q => (afieldAddr P 39 x2 2).bind fun v => q (.pure v)) (s24_29 G x16 x3 x2)
def s24_31 G x9 x2 x3 x15 H_7 :=
 xb (pickOf x9 (some x15) (some (.bool false))) (s24_30 G H_7 x2 x3)
def s24_32 G x9 x12 x2 x3 x14 H_6 :=
 xg x9 true H_6 (fun q => (fbin P .eql 3 false x12 x14).bind fun v => q (.pure v)) (s24_31 G x9 x2 x3)
def s24_33 G x9 x12 x2 x3 x13 H_5 :=
 xg x9 true H_5 (fun q => (aload P H_5 3 x13).bind fun v => q (.read v)) (s24_32 G x9 x12 x2 x3)
def s24_34 G x9 x3 x2 x12 H_4 :=
 xg x9 true H_4 (fun q => (afieldAddr P 39 x3 1).bind fun v => q (.pure v)) (s24_33 G x9 x12 x2 x3)
def s24_35 G x9 x3 x2 x11 H_3 :=
 xg x9 true H_3 (fun q => (aload P H_3 3 x11).bind fun v => q (.read v)) (s24_34 G x9 x3 x2)
def s24_36 G H_2 x2 x3 x9 :=
 xg x9 true H_2 (fun q => (afieldAddr P 39 x2 1).bind fun v => q (.pure v)) (s24_35 G x9 x3 x2)
def s24_37 G x6 H_2 x2 x3 x8 :=
 xb (fbin P .eql 3 false x6 x8) (s24_36 G H_2 x2 x3)
def s24_38 G H_2 x6 x2 x3 x7 :=
 xb (aload P H_2 3 x7) (s24_37 G x6 H_2 x2 x3)
def s24_39 G x3 H_2 x2 x6 :=
 xb (afieldAddr P 39 x3 0) (s24_38 G H_2 x6 x2 x3)
def s24_40 G H_2 x3 x2 x5 :=
 xb (aload P H_2 3 x5) (s24_39 G x3 H_2 x2)
def s24_41 G x2 x3 H_2 :=
 xb (afieldAddr P 39 x2 0) (s24_40 G H_2 x3 x2)
def s24_42 G x1 x2 H_1 :=
 xmake H_1 (boxOf (H_1).next x1) (s24_41 G x2)
/-- runrig/expr.Same -/
def s24 G x0 x1 H :=
 xmake H (boxOf (H).next x0) (s24_42 G x1)
theorem s24_eq (G : CallT) (N : Nat) (x0 : AV) (x1 : AV) (H : AHeap) : codeC P G N (bodyOf Try.f24) (retC P Try.f24.results.toList) [] (retC P Try.f24.results.toList) (argsF [x0, x1]) H = s24 G x0 x1 H := by
  refine Eq.trans ((via_leaf _ : ∀ R H, codeC P G N (bodyOf Try.f24) (retC P Try.f24.results.toList) [] (retC P Try.f24.results.toList) R H = _) (argsF [x0, x1]) H) ?_
  delta s24 s24_42 s24_41 s24_40 s24_39 s24_38 s24_37 s24_36 s24_35 s24_34 s24_33 s24_32 s24_31 s24_30 s24_29 s24_28 s24_27 s24_26 s24_25 s24_24 s24_23 s24_22 s24_21 s24_20 s24_19 s24_18 s24_17 s24_16 s24_15 s24_14 s24_13 s24_12 s24_11 s24_10 s24_9 s24_8 s24_7 s24_6 s24_5 s24_4 s24_3 s24_2 s24_1 s24_0
  kernel_rfl

theorem run24 (N : Nat) {x0 x1 : AV} {H : AHeap} {r : AV × AHeap} (h : s24 (evw P) x0 x1 H = some r) : evw P 24 [x0, x1] H = some r :=
  evw_code (c := (bodyOf Try.f24)) (M := N) Try.func24 (by kernel_rfl) (by kernel_rfl) (by kernel_rfl) (Eq.trans (s24_eq (evw P) N x0 x1 H) h)

def s43_0 (H : AHeap) : O :=
 some ((.bool false), H)
def s43_j0 (G : CallT) (N : Nat) (H : AHeap) : O :=
 some ((.bool true), H)
theorem s43_j0_eq (G : CallT) (N : Nat) : ∀ R H, codeC P G N (Code.snd (Code.snd (Code.snd (bodyOf Try.f43)))) (retC P Try.f43.results.toList) [] (retC P Try.f43.results.toList) R H = s43_j0 G N H := by
  intro R H
  refine Eq.trans ((via_leaf _ : ∀ R H, codeC P G N (Code.snd (Code.snd (Code.snd (bodyOf Try.f43)))) (retC P Try.f43.results.toList) [] (retC P Try.f43.results.toList) R H = _) R H) ?_
  delta s43_j0
  kernel_rfl

def s43_1 (H_5 : AHeap) : O :=
 some ((.bool false), H_5)
def s43_2 (L1 : AV → AV → AV → AV → AV → AHeap → O) x1 x2 x15 x16 H_5 x31 :=
 L1 x1 x2 x15 x16 x31 H_5
def s43_3 L1 x17 x1 x2 x15 x16 H_5 :=
 xb (fbin P .add 3 true x17 (.int .i64 1)) (s43_2 L1 x1 x2 x15 x16 H_5)
def s43_4 L1 H_5 x17 x1 x2 x15 x16 x30 :=
 xif (some x30) (s43_1 H_5) (s43_3 L1 x17 x1 x2 x15 x16 H_5)
def s43_5 L1 x17 x1 x2 x15 x16 x29 H_5 :=
 xb (aun .not x29) (s43_4 L1 H_5 x17 x1 x2 x15 x16)
def s43_6 G L1 H_4 x2 x27 x17 x1 x15 x16 x28 :=
 xapply G H_4 x2 [x27, x28] (s43_5 L1 x17 x1 x2 x15 x16)
def s43_7 G L1 H_4 x9 x2 x17 x1 x15 x16 x27 :=
 xb (aload P H_4 39 x9) (s43_6 G L1 H_4 x2 x27 x17 x1 x15 x16)
def s43_8 G L1 x8 x9 x2 x17 x1 x15 x16 H_4 :=
 xb (aload P H_4 39 x8) (s43_7 G L1 H_4 x9 x2 x17 x1 x15 x16)
def s43_9 G L1 x25 x8 x2 x17 x1 x15 x16 x9 H_3 :=
 xstore H_3 (astore P H_3 39 x9 x25) (s43_8 G L1 x8 x9 x2 x17 x1 x15 x16)
def s43_10 G L1 H_2 x8 x2 x17 x1 x15 x16 x25 :=
 xalloc H_2 [(.int .i64 0), (.int .i64 0), (.str []), (.str []), (.int .i64 0), AV.nilSl, (.int .i64 0), (.int .i64 0), (.int .i64 0), (.int .i64 0), (.int .i64 0)] (s43_9 G L1 x25 x8 x2 x17 x1 x15 x16)
def s43_11 G L1 H_2 x8 x2 x17 x1 x15 x16 x24 :=
 xb (aload P H_2 39 x24) (s43_10 G L1 H_2 x8 x2 x17 x1 x15 x16)
def s43_12 G L1 x1 x17 x8 x2 x15 x16 H_2 :=
 xb (aindexAddr P 35 x1 x17) (s43_11 G L1 H_2 x8 x2 x17 x1 x15 x16)
def s43_13 G L1 x21 x1 x17 x2 x15 x16 x8 H_1 :=
 xstore H_1 (astore P H_1 39 x8 x21) (s43_12 G L1 x1 x17 x8 x2 x15 x16)
def s43_14 G L1 H x1 x17 x2 x15 x16 x21 :=
 xalloc H [(.int .i64 0), (.int .i64 0), (.str []), (.str []), (.int .i64 0), AV.nilSl, (.int .i64 0), (.int .i64 0), (.int .i64 0), (.int .i64 0), (.int .i64 0)] (s43_13 G L1 x21 x1 x17 x2 x15 x16)
def s43_15 G L1 H x1 x17 x2 x15 x16 x20 :=
 xb (aload P H 39 x20) (s43_14 G L1 H x1 x17 x2 x15 x16)
def s43_16 G L1 x15 x17 H x1 x2 x16 :=
 xb (aindexAddr P 35 x15 x17) (s43_15 G L1 H x1 x17 x2 x15 x16)
def s43_17 G N H :=
 s43_j0 G N H
def s43_18 G N L1 x15 x17 H x1 x2 x16 x18 :=
 xif (some x18) (s43_16 G L1 x15 x17 H x1 x2 x16) (s43_17 G N H)
def s43_b1 G N L1 x1 x2 x15 x16 x17 H :=
 xb (fbin P .lss 3 false x17 x16) (s43_18 G N L1 x15 x17 H x1 x2 x16)
noncomputable def s43_l1 (G : CallT) (N : Nat) : Nat → AV → AV → AV → AV → AV → AHeap → O
  | 0, _, _, _, _, _, _ => none
  | n + 1, x1, x2, x15, x16, x17, H => s43_b1 G N (s43_l1 G N n) x1 x2 x15 x16 x17 H

theorem s43_b1_eq (G : CallT) (N : Nat) (L1 : AV → AV → AV → AV → AV → AHeap → O) : ∀ R H, codeC P G N (Code.fst (Code.fst (Code.snd (Code.fst (Code.snd (Code.snd (bodyOf Try.f43))))))) (fun R H => L1 (R 1) (R 2) (R 15) (R 16) (R 17) H) [(0, (fun R H => s43_j0 G N H))] (retC P Try.f43.results.toList) R H = s43_b1 G N L1 (R 1) (R 2) (R 15) (R 16) (R 17) H := by
  intro R H
  refine Eq.trans ((via_leaf _ : ∀ R H, codeC P G N (Code.fst (Code.fst (Code.snd (Code.fst (Code.snd (Code.snd (bodyOf Try.f43))))))) (fun R H => L1 (R 1) (R 2) (R 15) (R 16) (R 17) H) [(0, (fun R H => s43_j0 G N H))] (retC P Try.f43.results.toList) R H = _) R H) ?_
  delta s43_b1 s43_18 s43_17 s43_16 s43_15 s43_14 s43_13 s43_12 s43_11 s43_10 s43_9 s43_8 s43_7 s43_6 s43_5 s43_4 s43_3 s43_2 s43_1
  generalize s43_j0 G N = J0
  revert J0
  refine id ?_
  intro J0
  kernel_rfl

def s43_19 G N x1 x2 x0 H x16 :=
 s43_l1 G N N x1 x2 x0 x16 (.int .i64 0) H
def s43_20 G N x0 H x1 x2 :=
 xlen P .len [35] [x0] H (s43_19 G N x1 x2 x0 H)
def s43_21 G N H x0 x1 x2 x14 :=
 xif (some x14) (s43_0 H) (s43_20 G N x0 H x1 x2)
def s43_22 G N x11 H x0 x1 x2 x13 :=
 xb (fbin P .neq 3 false x11 x13) (s43_21 G N H x0 x1 x2)
def s43_23 G N x1 H x0 x2 x11 :=
 xlen P .len [35] [x1] H (s43_22 G N x11 H x0 x1 x2)
/-- slices.EqualFunc[[]runrig/api.Expr,[]runrig/api.Expr,runrig/api.Expr,runrig/api.Expr] -/
def s43 G N x0 x1 x2 H :=
 xlen P .len [35] [x0] H (s43_23 G N x1 H x0 x2)
theorem s43_eq (G : CallT) (N : Nat) (x0 : AV) (x1 : AV) (x2 : AV) (H : AHeap) : codeC P G N (bodyOf Try.f43) (retC P Try.f43.results.toList) [] (retC P Try.f43.results.toList) (argsF [x0, x1, x2]) H = s43 G N x0 x1 x2 H := by
  refine Eq.trans (((via_seq (by kernel_rfl) ((via_seq (by kernel_rfl) ((via_seq (by kernel_rfl) (s43_j0_eq G N) ((via_seq (by kernel_rfl) ((via_block (by kernel_rfl) ((via_loop (k := fun m R H => s43_l1 G N m (R 1) (R 2) (R 15) (R 16) (R 17) H) (by kernel_rfl) (fun R H => by kernel_rfl) (fun m => s43_b1_eq G N (s43_l1 G N m)))))) (via_leaf _))))) (via_leaf _))) (via_leaf _)) : ∀ R H, codeC P G N (bodyOf Try.f43) (retC P Try.f43.results.toList) [] (retC P Try.f43.results.toList) R H = _) (argsF [x0, x1, x2]) H) ?_
  delta s43 s43_23 s43_22 s43_21 s43_20 s43_19 s43_0
  generalize s43_l1 G N N = J0
  revert J0
  refine id ?_
  intro J0
  kernel_rfl

theorem run43 (N : Nat) {x0 x1 x2 : AV} {H : AHeap} {r : AV × AHeap} (h : s43 (evw P) N x0 x1 x2 H = some r) : evw P 43 [x0, x1, x2] H = some r :=
  evw_code (c := (bodyOf Try.f43)) (M := N) Try.func43 (by kernel_rfl) (by kernel_rfl) (by kernel_rfl) (Eq.trans (s43_eq (evw P) N x0 x1 x2 H) h)


end
end Go.Proofs.Ytnjoomfeddamcaa


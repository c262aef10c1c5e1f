/-
  Texts of one proof, laid together: ShC Y1 Y2 Y3.
-/
import Derived.Test.YtnjoomfeddamcaaMD
import Derived.Test.YtnjoomfeddamcaaMG
import Derived.Test.YtnjoomfeddamcaaMF
set_option linter.unusedVariables false
set_option linter.unusedSimpArgs false
namespace Go.Proofs.Ytnjoomfeddamcaa
open Go.Ev
set_option maxRecDepth 100000
noncomputable section
def s66 (G : CallT) (x0 : AV) (H : AHeap) : O :=
 xalloc H [(.int .i64 0), (.str []), (.int .i64 0), (.int .i64 0)] fun x2 h1 =>
 xb (anil x0) fun x4 =>
 xb (afieldAddr P 75 x4 1) fun x5 =>
 xb (aload P h1 3 x5) fun x6 =>
 xb (fbin P .lss 3 true x6 (.int .i64 0)) fun x7 =>
 xg x7 false h1 (qv x0) fun x9 h2 =>
 xg x7 false h2 (qp (anil x9)) fun x10 h3 =>
 xg x7 false h3 (qp (afieldAddr P 75 x10 1)) fun x11 h4 =>
 xg x7 false h4 (qr (aload P h4 3 x11)) fun x12 h5 =>
 xg x7 false h5 (qv x0) fun x13 h6 =>
 xg x7 false h6 (qp (anil x13)) fun x14 h7 =>
 xg x7 false h7 (qp (afieldAddr P 75 x14 0)) fun x15 h8 =>
 xg x7 false h8 (qr (aload P h8 22 x15)) fun x16 h9 =>
 xg x7 false h9 (fun q => xboth (abuiltin P .empty .len [22] [x16]) (abuiltin P h9 .len [22] [x16]) q) fun x17 h10 =>
 xg x7 false h10 (qp (fbin P .geq 3 false x12 x17)) fun x18 h11 =>
 xb (pickOf x7 (some (.bool true)) (some x18)) fun x19 =>
 xif (some x19) (xstore h11 (astore P h11 65 x2 (.agg [(.int .i64 0), (.str []), (.int .i64 0), (.int .i64 0)])) fun h12 =>
 xb (aload P h12 65 x2) fun r =>
 some (r, h12)) (xb (anil x0) fun x22 =>
 xb (afieldAddr P 75 x22 0) fun x23 =>
 xb (aload P h11 22 x23) fun x24 =>
 xb (anil x0) fun x26 =>
 xb (afieldAddr P 75 x26 1) fun x27 =>
 xb (aload P h11 3 x27) fun x28 =>
 xb (aindexAddr P 22 x24 x28) fun x29 =>
 xb (aload P h11 65 x29) fun x30 =>
 xstore h11 (astore P h11 65 x2 x30) fun h12 =>
 xb (aload P h12 65 x2) fun r =>
 some (r, h12))
theorem s66_eq (G : CallT) (N : Nat) (x0 : AV) (H : AHeap) : cF Try.f66 G N (argsF [x0]) H = s66 G x0 H := by
 refine via_top (A := cF Try.f66 G N) (via_leaf _) ?_
 delta s66
 kernel_rfl
theorem run66 (N : Nat) {x0 : AV} {H : AHeap} {r : AV × AHeap} (h : s66 (evw P) x0 H = some r) : evw P 66 [x0] H = some r :=
 runF Try.func66 (by kernel_rfl) (by kernel_rfl) (by kernel_rfl) ((s66_eq (evw P) N x0 H).trans h)
def s38 (G : CallT) (x0 : AV) (H : AHeap) : O :=
 xb (anil x0) fun x4 =>
 xb (afieldAddr P 75 x4 3) fun x5 =>
 xb (afieldAddr P 25 x5 0) fun x6 =>
 xb (aload P H 23 x6) fun x7 =>
 xb (fbin P .eql 23 true x7 (.int .i64 0)) fun x8 =>
 some (x8, H)
theorem s38_eq (G : CallT) (N : Nat) (x0 : AV) (H : AHeap) : cF Try.f38 G N (argsF [x0]) H = s38 G x0 H := by
 refine via_top (A := cF Try.f38 G N) (via_leaf _) ?_
 delta s38
 kernel_rfl
theorem run38 (N : Nat) {x0 : AV} {H : AHeap} {r : AV × AHeap} (h : s38 (evw P) x0 H = some r) : evw P 38 [x0] H = some r :=
 runF Try.func38 (by kernel_rfl) (by kernel_rfl) (by kernel_rfl) ((s38_eq (evw P) N x0 H).trans h)
def s65 (G : CallT) (x0 x1 : AV) (H : AHeap) : O :=
 xcall H (G 38 [x0] H) fun x5 h1 =>
 xif (some x5) (xcall h1 (G 66 [x0] h1) fun x9 h2 =>
 xb (afield P 65 x9 3) fun x10 =>
 xb (abuild P 25 [(0, x1), (1, x10)]) fun x11 =>
 xb (anil x0) fun x12 =>
 xb (afieldAddr P 75 x12 3) fun x13 =>
 xstore h2 (astore P h2 25 x13 x11) fun h3 =>
 some (.tuple [], h3)) (some (.tuple [], h1))
theorem s65_eq (G : CallT) (N : Nat) (x0 : AV) (x1 : AV) (H : AHeap) : cF Try.f65 G N (argsF [x0, x1]) H = s65 G x0 x1 H := by
 refine via_top (A := cF Try.f65 G N) (via_leaf _) ?_
 delta s65
 kernel_rfl
theorem run65 (N : Nat) {x0 x1 : AV} {H : AHeap} {r : AV × AHeap} (h : s65 (evw P) x0 x1 H = some r) : evw P 65 [x0, x1] H = some r :=
 runF Try.func65 (by kernel_rfl) (by kernel_rfl) (by kernel_rfl) ((s65_eq (evw P) N x0 x1 H).trans h)
def s64_j0 (G : CallT) (x0 x1 : AV) (x5 x6 : AV) (H : AHeap) : O :=
 xcall H (G 38 [x0] H) fun x18 h1 =>
 xg x18 true h1 (qp (afieldAddr P 65 x5 0)) fun x20 h2 =>
 xg x18 true h2 (qr (aload P h2 3 x20)) fun x21 h3 =>
 xg x18 true h3 (qv x6) fun x22 h4 =>
 xg x18 true h4 (qp (fbin P .eql 3 false x21 x22)) fun x23 h5 =>
 xb (pickOf x18 (some x23) (some (.bool false))) fun x24 =>
 xg x24 true h5 (qp (afieldAddr P 65 x5 1)) fun x26 h6 =>
 xg x24 true h6 (qr (aload P h6 9 x26)) fun x27 h7 =>
 xg x24 true h7 (qv x1) fun x28 h8 =>
 xg x24 true h8 (qp (fbin P .eql 9 false x27 x28)) fun x29 h9 =>
 xb (pickOf x24 (some x29) (some (.bool false))) fun x30 =>
 some (x30, h9)
theorem s64_j0_eq (G : CallT) (N : Nat) : ∀ R H, codeC P G N (Code.snd (Code.snd (Code.snd (Code.snd (bodyOf Try.f64))))) (rC Try.f64) [] (rC Try.f64) R H = s64_j0 G (R 0) (R 1) (R 5) (R 6) H := by
 refine via_trans (via_leaf _) fun R H => ?_
 delta s64_j0
 kernel_rfl
def s64 (G : CallT) (x0 x1 : AV) (H : AHeap) : O :=
 xcall H (G 66 [x0] H) fun x8 h1 =>
 xalloc h1 [(.int .i64 0), (.str []), (.int .i64 0), (.int .i64 0)] fun x5 h2 =>
 xstore h2 (astore P h2 65 x5 x8) fun h3 =>
 xb (aindex P 9 x1 (.int .i64 0)) fun x10 =>
 xb (fbin P .geq 5 true x10 (.int .u8 97)) fun x11 =>
 xg x11 true h3 (qv x1) fun x13 h4 =>
 xg x11 true h4 (qp (aindex P 9 x13 (.int .i64 0))) fun x14 h5 =>
 xg x11 true h5 (qp (fbin P .leq 5 true x14 (.int .u8 122))) fun x15 h6 =>
 xb (pickOf x11 (some x15) (some (.bool false))) fun x16 =>
 xif (some x16) (s64_j0 G x0 x1 x5 (.int .i64 3) h6) (s64_j0 G x0 x1 x5 (.int .i64 4) h6)
theorem s64_eq (G : CallT) (N : Nat) (x0 : AV) (x1 : AV) (H : AHeap) : cF Try.f64 G N (argsF [x0, x1]) H = s64 G x0 x1 H := by
 refine via_top (A := cF Try.f64 G N) ((via_seq (by kernel_rfl) ((via_seq (by kernel_rfl) ((via_seq (by kernel_rfl) ((via_seq (by kernel_rfl) (s64_j0_eq G N) (via_leaf _))) (via_leaf _))) (via_leaf _))) (via_leaf _))) ?_
 delta s64
 generalize s64_j0 G = J0
 revert J0
 refine id ?_
 intro J0
 kernel_rfl
theorem run64 (N : Nat) {x0 x1 : AV} {H : AHeap} {r : AV × AHeap} (h : s64 (evw P) x0 x1 H = some r) : evw P 64 [x0, x1] H = some r :=
 runF Try.func64 (by kernel_rfl) (by kernel_rfl) (by kernel_rfl) ((s64_eq (evw P) N x0 x1 H).trans h)
def s68 (G : CallT) (x0 x1 : AV) (H : AHeap) : O :=
 xcall H (G 64 [x0, x1] H) fun x6 h1 =>
 xb (aun .not x6) fun x7 =>
 xif (some x7) (xcall h1 (G 65 [x0, (.int .i64 2)] h1) fun x9 h2 =>
 some (.tuple [], h2)) (xb (anil x0) fun x11 =>
 xb (afieldAddr P 75 x11 1) fun x12 =>
 xb (aload P h1 3 x12) fun x13 =>
 xb (fbin P .add 3 true x13 (.int .i64 1)) fun x14 =>
 xb (anil x0) fun x15 =>
 xb (afieldAddr P 75 x15 1) fun x16 =>
 xstore h1 (astore P h1 3 x16 x14) fun h2 =>
 some (.tuple [], h2))
theorem s68_eq (G : CallT) (N : Nat) (x0 : AV) (x1 : AV) (H : AHeap) : cF Try.f68 G N (argsF [x0, x1]) H = s68 G x0 x1 H := by
 refine via_top (A := cF Try.f68 G N) (via_leaf _) ?_
 delta s68
 kernel_rfl
theorem run68 (N : Nat) {x0 x1 : AV} {H : AHeap} {r : AV × AHeap} (h : s68 (evw P) x0 x1 H = some r) : evw P 68 [x0, x1] H = some r :=
 runF Try.func68 (by kernel_rfl) (by kernel_rfl) (by kernel_rfl) ((s68_eq (evw P) N x0 x1 H).trans h)
def s74_9 (x0 x18 : AV) (h7 : AHeap) : O :=
 xb (anil x0) fun x20 =>
 xb (afieldAddr P 75 x20 2) fun x21 =>
 xb (aload P h7 3 x21) fun x22 =>
 xb (fbin P .add 3 true x22 (.int .i64 1)) fun x23 =>
 xb (anil x0) fun x24 =>
 xb (afieldAddr P 75 x24 2) fun x25 =>
 xstore h7 (astore P h7 3 x25 x23) fun h8 =>
 some (.tuple [], h8)
def s74 (G : CallT) (x0 x1 : AV) (H : AHeap) : O :=
 xcall H (G 64 [x0, x1] H) fun x6 h1 =>
 xg x6 true h1 (qv x0) fun x8 h2 =>
 xg x6 true h2 (qp (anil x8)) fun x9 h3 =>
 xg x6 true h3 (qp (afieldAddr P 75 x9 2)) fun x10 h4 =>
 xg x6 true h4 (qr (aload P h4 3 x10)) fun x11 h5 =>
 xg x6 true h5 (qp (fbin P .geq 3 true x11 (.int .i64 50))) fun x12 h6 =>
 xb (pickOf x6 (some x12) (some (.bool false))) fun x13 =>
 xif (some x13) (xcall h6 (G 65 [x0, (.int .i64 4)] h6) fun x15 h7 =>
 some (.tuple [], h7)) (xcall h6 (G 68 [x0, x1] h6) (s74_9 x0))
theorem s74_eq (G : CallT) (N : Nat) (x0 : AV) (x1 : AV) (H : AHeap) : cF Try.f74 G N (argsF [x0, x1]) H = s74 G x0 x1 H := by
 refine via_top (A := cF Try.f74 G N) (via_leaf _) ?_
 delta s74 s74_9
 kernel_rfl
theorem run74 (N : Nat) {x0 x1 : AV} {H : AHeap} {r : AV × AHeap} (h : s74 (evw P) x0 x1 H = some r) : evw P 74 [x0, x1] H = some r :=
 runF Try.func74 (by kernel_rfl) (by kernel_rfl) (by kernel_rfl) ((s74_eq (evw P) N x0 x1 H).trans h)
def s75 (G : CallT) (x0 x1 : AV) (H : AHeap) : O :=
 xcall H (G 68 [x0, x1] H) fun x6 h1 =>
 xb (anil x0) fun x8 =>
 xb (afieldAddr P 75 x8 2) fun x9 =>
 xb (aload P h1 3 x9) fun x10 =>
 xb (fbin P .sub 3 true x10 (.int .i64 1)) fun x11 =>
 xb (anil x0) fun x12 =>
 xb (afieldAddr P 75 x12 2) fun x13 =>
 xstore h1 (astore P h1 3 x13 x11) fun h2 =>
 some (.tuple [], h2)
theorem s75_eq (G : CallT) (N : Nat) (x0 : AV) (x1 : AV) (H : AHeap) : cF Try.f75 G N (argsF [x0, x1]) H = s75 G x0 x1 H := by
 refine via_top (A := cF Try.f75 G N) (via_leaf _) ?_
 delta s75
 kernel_rfl
theorem run75 (N : Nat) {x0 x1 : AV} {H : AHeap} {r : AV × AHeap} (h : s75 (evw P) x0 x1 H = some r) : evw P 75 [x0, x1] H = some r :=
 runF Try.func75 (by kernel_rfl) (by kernel_rfl) (by kernel_rfl) ((s75_eq (evw P) N x0 x1 H).trans h)
def s67_10 (x23 : AV) (h8 : AHeap) : O :=
 some ((.str []), h8)
def s67 (G : CallT) (x0 : AV) (H : AHeap) : O :=
 xcall H (G 66 [x0] H) fun x5 h1 =>
 xalloc h1 [(.int .i64 0), (.str []), (.int .i64 0), (.int .i64 0)] fun x3 h2 =>
 xstore h2 (astore P h2 65 x3 x5) fun h3 =>
 xcall h3 (G 38 [x0] h3) fun x7 h4 =>
 xg x7 true h4 (qp (afieldAddr P 65 x3 0)) fun x9 h5 =>
 xg x7 true h5 (qr (aload P h5 3 x9)) fun x10 h6 =>
 xg x7 true h6 (qp (fbin P .eql 3 true x10 (.int .i64 1))) fun x11 h7 =>
 xb (pickOf x7 (some x11) (some (.bool false))) fun x12 =>
 xif (some x12) (xb (anil x0) fun x14 =>
 xb (afieldAddr P 75 x14 1) fun x15 =>
 xb (aload P h7 3 x15) fun x16 =>
 xb (fbin P .add 3 true x16 (.int .i64 1)) fun x17 =>
 xb (anil x0) fun x18 =>
 xb (afieldAddr P 75 x18 1) fun x19 =>
 xstore h7 (astore P h7 3 x19 x17) fun h8 =>
 xb (afieldAddr P 65 x3 1) fun x20 =>
 xb (aload P h8 9 x20) fun x21 =>
 some (x21, h8)) (xcall h7 (G 65 [x0, (.int .i64 2)] h7) (s67_10))
theorem s67_eq (G : CallT) (N : Nat) (x0 : AV) (H : AHeap) : cF Try.f67 G N (argsF [x0]) H = s67 G x0 H := by
 refine via_top (A := cF Try.f67 G N) (via_leaf _) ?_
 delta s67 s67_10
 kernel_rfl
theorem run67 (N : Nat) {x0 : AV} {H : AHeap} {r : AV × AHeap} (h : s67 (evw P) x0 H = some r) : evw P 67 [x0] H = some r :=
 runF Try.func67 (by kernel_rfl) (by kernel_rfl) (by kernel_rfl) ((s67_eq (evw P) N x0 H).trans h)
def s37_j2 (G : CallT) (N : Nat) (x2 x4 : AV) (H : AHeap) : O :=
 xb (aload P H 32 x4) fun x50 =>
 xstore H (astore P H 32 x2 x50) fun h1 =>
 xb (aload P h1 32 x2) fun r =>
 some (r, h1)
theorem s37_j2_eq (G : CallT) (N : Nat) : ∀ R H, codeC P G N (Code.snd (Code.snd (Code.snd (Code.snd (Code.snd (Code.snd (bodyOf Try.f37))))))) (rC Try.f37) [] (rC Try.f37) R H = s37_j2 G N (R 2) (R 4) H := by
 refine via_trans (via_leaf _) fun R H => ?_
 delta s37_j2
 kernel_rfl
def s37_b3 (G : CallT) (N : Nat) (L3 : AV → AV → AV → AV → AV → AHeap → O) (x0 x2 : AV) (x3 x4 x5 : AV) (H : AHeap) : O :=
 xb (fbin P .lss 3 false x5 x3) fun x45 =>
 xif (some x45) (xcall H (G 68 [x0, (.str [93])] H) fun x49 h1 =>
 xb (fbin P .add 3 true x5 (.int .i64 1)) fun x47 =>
 L3 x0 x2 x3 x4 x47 h1) (s37_j2 G N x2 x4 H)
def s37_l3 (G : CallT) (N : Nat) : Nat → AV → AV → AV → AV → AV → AHeap → O
 | 0, _, _, _, _, _, _ => none
 | n + 1, x0, x2, x3, x4, x5, H => s37_b3 G N (s37_l3 G N n) x0 x2 x3 x4 x5 H
theorem s37_b3_eq (G : CallT) (N : Nat) (L3 : AV → AV → AV → AV → AV → AHeap → O) : ∀ R H, codeC P G N (Code.fst (Code.fst (Code.snd (Code.fst (Code.snd (Code.snd (Code.snd (Code.snd (Code.snd (bodyOf Try.f37)))))))))) (fun R H => L3 (R 0) (R 2) (R 3) (R 4) (R 5) H) [(3, (fun R H => s37_j2 G N (R 2) (R 4) H))] (rC Try.f37) R H = s37_b3 G N L3 (R 0) (R 2) (R 3) (R 4) (R 5) H := by
 refine via_trans (via_leaf _) fun R H => ?_
 delta s37_b3
 generalize s37_j2 G N = J0
 revert J0
 refine id ?_
 intro J0
 kernel_rfl
def s37_j1 (G : CallT) (N : Nat) (x0 x2 : AV) (x3 x4 : AV) (H : AHeap) : O :=
 s37_l3 G N N x0 x2 x3 x4 (.int .i64 0) H
theorem s37_j1_eq (G : CallT) (N : Nat) : ∀ R H, codeC P G N (Code.snd (Code.snd (Code.snd (Code.snd (Code.snd (bodyOf Try.f37)))))) (rC Try.f37) [] (rC Try.f37) R H = s37_j1 G N (R 0) (R 2) (R 3) (R 4) H := by
 refine via_trans ((via_seq (by kernel_rfl) (s37_j2_eq G N) ((via_seq (by kernel_rfl) ((via_block (by kernel_rfl) ((via_loop (k := fun m R H => s37_l3 G N m (R 0) (R 2) (R 3) (R 4) (R 5) H) (by kernel_rfl) (fun R H => by kernel_rfl) (fun m => s37_b3_eq G N (s37_l3 G N m)))))) (via_leaf _))))) fun R H => ?_
 delta s37_j1
 generalize s37_l3 G N N = J0
 revert J0
 refine id ?_
 intro J0
 kernel_rfl
def s37_j4 (G : CallT) (N : Nat) (x0 x2 : AV) (x3 x4 x27 : AV) (H : AHeap) : O :=
 xif (some x27) (xcall H (G 66 [x0] H) fun x33 h1 =>
 xb (afield P 65 x33 1) fun x34 =>
 xb (afieldAddr P 32 x4 0) fun x35 =>
 xstore h1 (astore P h1 9 x35 x34) fun h2 =>
 xb (anil x0) fun x37 =>
 xb (afieldAddr P 75 x37 1) fun x38 =>
 xb (aload P h2 3 x38) fun x39 =>
 xb (fbin P .add 3 true x39 (.int .i64 1)) fun x40 =>
 xb (anil x0) fun x41 =>
 xb (afieldAddr P 75 x41 1) fun x42 =>
 xstore h2 (astore P h2 3 x42 x40) fun h3 =>
 s37_j1 G N x0 x2 x3 x4 h3) (xcall H (G 67 [x0] H) fun x25 h1 =>
 xb (afieldAddr P 32 x4 0) fun x26 =>
 xstore h1 (astore P h1 9 x26 x25) fun h2 =>
 s37_j1 G N x0 x2 x3 x4 h2)
theorem s37_j4_eq (G : CallT) (N : Nat) : ∀ R H, codeC P G N (Code.snd (Code.fst (Code.fst (Code.snd (Code.snd (Code.snd (Code.snd (bodyOf Try.f37)))))))) (fun R H => s37_j1 G N (R 0) (R 2) (R 3) (R 4) H) [(2, (fun R H => s37_j1 G N (R 0) (R 2) (R 3) (R 4) H))] (rC Try.f37) R H = s37_j4 G N (R 0) (R 2) (R 3) (R 4) (R 27) H := by
 refine via_trans (via_leaf _) fun R H => ?_
 delta s37_j4
 generalize s37_j1 G N = J0
 revert J0
 refine id ?_
 intro J0
 kernel_rfl
def s37_j0 (G : CallT) (N : Nat) (x0 x2 x3 : AV) (H : AHeap) : O :=
 xb (abuild P 32 [(1, x3)]) fun x23 =>
 xalloc H [(.str []), (.int .i64 0)] fun x4 h1 =>
 xstore h1 (astore P h1 32 x4 x23) fun h2 =>
 xcall h2 (G 64 [x0, (.str [105, 110, 116])] h2) fun x29 h3 =>
 xif (some x29) (s37_j4 G N x0 x2 x3 x4 x29 h3) (xcall h3 (G 64 [x0, (.str [98, 111, 111, 108])] h3) fun x31 h4 =>
 s37_j4 G N x0 x2 x3 x4 x31 h4)
theorem s37_j0_eq (G : CallT) (N : Nat) : ∀ R H, codeC P G N (Code.snd (Code.snd (Code.snd (bodyOf Try.f37)))) (rC Try.f37) [] (rC Try.f37) R H = s37_j0 G N (R 0) (R 2) (R 3) H := by
 refine via_trans ((via_seq (by kernel_rfl) ((via_seq (by kernel_rfl) (s37_j1_eq G N) ((via_block (by kernel_rfl) ((via_seq (by kernel_rfl) (s37_j4_eq G N) (via_leaf _))))))) (via_leaf _))) fun R H => ?_
 delta s37_j0
 generalize s37_j4 G N = J0
 revert J0
 refine id ?_
 intro J0
 kernel_rfl
def s37_b5 (G : CallT) (N : Nat) (L5 : AV → AV → AV → AHeap → O) (x0 x2 x3 : AV) (H : AHeap) : O :=
 xcall H (G 64 [x0, (.str [91])] H) fun x7 h1 =>
 xif (some x7) (xb (fbin P .eql 3 true x3 (.int .i64 3)) fun x9 =>
 xif (some x9) (xcall h1 (G 65 [x0, (.int .i64 4)] h1) fun x11 h2 =>
 xstore h2 (astore P h2 32 x2 (.agg [(.str []), (.int .i64 0)])) fun h3 =>
 xb (aload P h3 32 x2) fun r =>
 some (r, h3)) (xb (anil x0) fun x14 =>
 xb (afieldAddr P 75 x14 1) fun x15 =>
 xb (aload P h1 3 x15) fun x16 =>
 xb (fbin P .add 3 true x16 (.int .i64 1)) fun x17 =>
 xb (anil x0) fun x18 =>
 xb (afieldAddr P 75 x18 1) fun x19 =>
 xstore h1 (astore P h1 3 x19 x17) fun h2 =>
 xb (fbin P .add 3 true x3 (.int .i64 1)) fun x21 =>
 L5 x0 x2 x21 h2)) (s37_j0 G N x0 x2 x3 h1)
def s37_l5 (G : CallT) (N : Nat) : Nat → AV → AV → AV → AHeap → O
 | 0, _, _, _, _ => none
 | n + 1, x0, x2, x3, H => s37_b5 G N (s37_l5 G N n) x0 x2 x3 H
theorem s37_b5_eq (G : CallT) (N : Nat) (L5 : AV → AV → AV → AHeap → O) : ∀ R H, codeC P G N (Code.fst (Code.fst (Code.fst (Code.snd (Code.snd (bodyOf Try.f37)))))) (fun R H => L5 (R 0) (R 2) (R 3) H) [(0, (fun R H => s37_j0 G N (R 0) (R 2) (R 3) H))] (rC Try.f37) R H = s37_b5 G N L5 (R 0) (R 2) (R 3) H := by
 refine via_trans (via_leaf _) fun R H => ?_
 delta s37_b5
 generalize s37_j0 G N = J0
 revert J0
 refine id ?_
 intro J0
 kernel_rfl
def s37 (G : CallT) (N : Nat) (x0 : AV) (H : AHeap) : O :=
 xalloc H [(.str []), (.int .i64 0)] fun x2 h1 =>
 s37_l5 G N N x0 x2 (.int .i64 0) h1
theorem s37_eq (G : CallT) (N : Nat) (x0 : AV) (H : AHeap) : cF Try.f37 G N (argsF [x0]) H = s37 G N x0 H := by
 refine via_top (A := cF Try.f37 G N) ((via_seq (by kernel_rfl) ((via_seq (by kernel_rfl) ((via_seq (by kernel_rfl) (s37_j0_eq G N) ((via_block (by kernel_rfl) ((via_loop (k := fun m R H => s37_l5 G N m (R 0) (R 2) (R 3) H) (by kernel_rfl) (fun R H => by kernel_rfl) (fun m => s37_b5_eq G N (s37_l5 G N m)))))))) (via_leaf _))) (via_leaf _))) ?_
 delta s37
 generalize s37_l5 G N N = J0
 revert J0
 refine id ?_
 intro J0
 kernel_rfl
theorem run37 (N : Nat) {x0 : AV} {H : AHeap} {r : AV × AHeap} (h : s37 (evw P) N x0 H = some r) : evw P 37 [x0] H = some r :=
 runF Try.func37 (by kernel_rfl) (by kernel_rfl) (by kernel_rfl) ((s37_eq (evw P) N x0 H).trans h)
def s70_j0 (G : CallT) (N : Nat) (H : AHeap) : O :=
 some ((.int .i64 0), H)
theorem s70_j0_eq (G : CallT) (N : Nat) : ∀ R H, codeC P G N (Code.snd (Code.snd (Code.snd (Code.snd (Code.snd (bodyOf Try.f70)))))) (rC Try.f70) [] (rC Try.f70) R H = s70_j0 G N H := by
 refine via_trans (via_leaf _) fun R H => ?_
 delta s70_j0
 kernel_rfl
def s70_b1 (G : CallT) (N : Nat) (L1 : AV → AV → AV → AV → AV → AHeap → O) (x0 x3 : AV) (x5 x6 x7 : AV) (H : AHeap) : O :=
 xb (aindexAddr P 108 x5 x0) fun x26 =>
 xb (aload P H 46 x26) fun x27 =>
 xlen P .len [46] [x27] H fun x28 =>
 xb (fbin P .lss 3 false x7 x28) fun x29 =>
 xif (some x29) (xb (aindexAddr P 108 x5 x0) fun x34 =>
 xb (aload P H 46 x34) fun x35 =>
 xb (aindexAddr P 46 x35 x7) fun x37 =>
 xb (aload P H 9 x37) fun x38 =>
 xb (afieldAddr P 65 x3 1) fun x39 =>
 xb (aload P H 9 x39) fun x40 =>
 xb (fbin P .eql 9 false x38 x40) fun x41 =>
 xif (some x41) (xb (aindexAddr P 109 x6 x0) fun x44 =>
 xb (aload P H 48 x44) fun x45 =>
 xb (aindexAddr P 48 x45 x7) fun x47 =>
 xb (aload P H 3 x47) fun x48 =>
 some (x48, H)) (xb (fbin P .add 3 true x7 (.int .i64 1)) fun x31 =>
 L1 x0 x3 x5 x6 x31 H)) (s70_j0 G N H)
def s70_l1 (G : CallT) (N : Nat) : Nat → AV → AV → AV → AV → AV → AHeap → O
 | 0, _, _, _, _, _, _ => none
 | n + 1, x0, x3, x5, x6, x7, H => s70_b1 G N (s70_l1 G N n) x0 x3 x5 x6 x7 H
theorem s70_b1_eq (G : CallT) (N : Nat) (L1 : AV → AV → AV → AV → AV → AHeap → O) : ∀ R H, codeC P G N (Code.fst (Code.fst (Code.snd (Code.fst (Code.snd (Code.snd (Code.snd (Code.snd (bodyOf Try.f70))))))))) (fun R H => L1 (R 0) (R 3) (R 5) (R 6) (R 7) H) [(0, (fun R H => s70_j0 G N H))] (rC Try.f70) R H = s70_b1 G N L1 (R 0) (R 3) (R 5) (R 6) (R 7) H := by
 refine via_trans (via_leaf _) fun R H => ?_
 delta s70_b1
 generalize s70_j0 G N = J0
 revert J0
 refine id ?_
 intro J0
 kernel_rfl
def s70 (G : CallT) (N : Nat) (x0 x1 : AV) (H : AHeap) : O :=
 xmake H (boxOf (H).next x1) fun x3 h1 =>
 xb (afieldAddr P 65 x3 0) fun x8 =>
 xb (aload P h1 3 x8) fun x9 =>
 xb (fbin P .neq 3 true x9 (.int .i64 4)) fun x10 =>
 xif (some x10) (some ((.int .i64 0), h1)) (xmake h1 (some (.sl (h1).next 0 1 1 (some 1), .row false 1 [[(.str [124, 124])]])) fun x11 h2 =>
 xmake h2 (some (.sl (h2).next 0 1 1 (some 1), .row false 1 [[(.str [38, 38])]])) fun x12 h3 =>
 xmake h3 (some (.sl (h3).next 0 4 1 (some 4), .row false 1 [[(.str [60])], [(.str [60, 61])], [(.str [61, 61])], [(.str [33, 61])]])) fun x13 h4 =>
 xmake h4 (some (.sl (h4).next 0 2 1 (some 2), .row false 1 [[(.str [43])], [(.str [45])]])) fun x14 h5 =>
 xmake h5 (some (.sl (h5).next 0 3 1 (some 3), .row false 1 [[(.str [42])], [(.str [47])], [(.str [37])]])) fun x15 h6 =>
 xmake h6 (sliceOf P (h6).next 108 5 [(0, x11), (1, x12), (2, x13), (3, x14), (4, x15)]) fun x16 h7 =>
 xmake h7 (some (.sl (h7).next 0 1 1 (some 1), .row false 1 [[(.int .i64 24)]])) fun x17 h8 =>
 xmake h8 (some (.sl (h8).next 0 1 1 (some 1), .row false 1 [[(.int .i64 23)]])) fun x18 h9 =>
 xmake h9 (some (.sl (h9).next 0 4 1 (some 4), .row false 1 [[(.int .i64 19)], [(.int .i64 20)], [(.int .i64 21)], [(.int .i64 22)]])) fun x19 h10 =>
 xmake h10 (some (.sl (h10).next 0 2 1 (some 2), .row false 1 [[(.int .i64 14)], [(.int .i64 15)]])) fun x20 h11 =>
 xmake h11 (some (.sl (h11).next 0 3 1 (some 3), .row false 1 [[(.int .i64 16)], [(.int .i64 17)], [(.int .i64 18)]])) fun x21 h12 =>
 xmake h12 (sliceOf P (h12).next 109 5 [(0, x17), (1, x18), (2, x19), (3, x20), (4, x21)]) fun x22 h13 =>
 s70_l1 G N N x0 x3 x16 x22 (.int .i64 0) h13)
theorem s70_eq (G : CallT) (N : Nat) (x0 : AV) (x1 : AV) (H : AHeap) : cF Try.f70 G N (argsF [x0, x1]) H = s70 G N x0 x1 H := by
 refine via_top (A := cF Try.f70 G N) ((via_seq (by kernel_rfl) ((via_seq (by kernel_rfl) ((via_seq (by kernel_rfl) ((via_seq (by kernel_rfl) ((via_seq (by kernel_rfl) (s70_j0_eq G N) ((via_seq (by kernel_rfl) ((via_block (by kernel_rfl) ((via_loop (k := fun m R H => s70_l1 G N m (R 0) (R 3) (R 5) (R 6) (R 7) H) (by kernel_rfl) (fun R H => by kernel_rfl) (fun m => s70_b1_eq G N (s70_l1 G N m)))))) (via_leaf _))))) (via_leaf _))) (via_leaf _))) (via_leaf _))) (via_leaf _))) ?_
 delta s70
 generalize s70_l1 G N N = J0
 revert J0
 refine id ?_
 intro J0
 kernel_rfl
theorem run70 (N : Nat) {x0 x1 : AV} {H : AHeap} {r : AV × AHeap} (h : s70 (evw P) N x0 x1 H = some r) : evw P 70 [x0, x1] H = some r :=
 runF Try.func70 (by kernel_rfl) (by kernel_rfl) (by kernel_rfl) ((s70_eq (evw P) N x0 x1 H).trans h)
def s39_j0 (G : CallT) (N : Nat) (x4 x5 : AV) (H : AHeap) : O :=
 xb (aload P H 39 x5) fun x47 =>
 xstore H (astore P H 39 x4 x47) fun h1 =>
 xb (aload P h1 39 x4) fun r =>
 some (r, h1)
theorem s39_j0_eq (G : CallT) (N : Nat) : ∀ R H, codeC P G N (Code.snd (Code.snd (Code.snd (Code.snd (bodyOf Try.f39))))) (rC Try.f39) [] (rC Try.f39) R H = s39_j0 G N (R 4) (R 5) H := by
 refine via_trans (via_leaf _) fun R H => ?_
 delta s39_j0
 kernel_rfl
def s39_7 (L1 : AV → AV → AV → AV → AHeap → O) (x0 x1 : AV) (x4 x5 : AV) (h16 : AHeap) : O :=
 L1 x0 x1 x4 x5 h16
def s39_b1 (G : CallT) (N : Nat) (L1 : AV → AV → AV → AV → AHeap → O) (x0 x1 : AV) (x4 x5 : AV) (H : AHeap) : O :=
 xcall H (G 38 [x0] H) fun x17 h1 =>
 xg x17 true h1 (qv x1) fun x19 h2 =>
 xg x17 true h2 (qv x0) fun x20 h3 =>
 xg x17 true h3 (fun q => xeff h3 (G 66 [x20] h3) q) fun x21 h4 =>
 xg x17 true h4 (fun q => xeff h4 (G 70 [x19, x21] h4) q) fun x22 h5 =>
 xg x17 true h5 (qp (fbin P .neq 3 true x22 (.int .i64 0))) fun x23 h6 =>
 xb (pickOf x17 (some x23) (some (.bool false))) fun x24 =>
 xif (some x24) (xcall h6 (G 66 [x0] h6) fun x26 h7 =>
 xalloc h7 [(.int .i64 0), (.str []), (.int .i64 0), (.int .i64 0)] fun x6 h8 =>
 xstore h8 (astore P h8 65 x6 x26) fun h9 =>
 xb (anil x0) fun x28 =>
 xb (afieldAddr P 75 x28 1) fun x29 =>
 xb (aload P h9 3 x29) fun x30 =>
 xb (fbin P .add 3 true x30 (.int .i64 1)) fun x31 =>
 xb (anil x0) fun x32 =>
 xb (afieldAddr P 75 x32 1) fun x33 =>
 xstore h9 (astore P h9 3 x33 x31) fun h10 =>
 xb (fbin P .add 3 true x1 (.int .i64 1)) fun x36 =>
 xcall h10 (G 39 [x0, x36] h10) fun x37 h11 =>
 xalloc h11 [(.int .i64 0), (.int .i64 0), (.str []), (.str []), (.int .i64 0), AV.nilSl, (.int .i64 0), (.int .i64 0), (.int .i64 0), (.int .i64 0), (.int .i64 0)] fun x7 h12 =>
 xstore h12 (astore P h12 39 x7 x37) fun h13 =>
 xb (aload P h13 65 x6) fun x39 =>
 xcall h13 (G 70 [x1, x39] h13) fun x40 h14 =>
 xb (aload P h14 39 x5) fun x41 =>
 xb (aload P h14 39 x7) fun x42 =>
 xmake h14 (sliceOf P (h14).next 35 2 [(0, x41), (1, x42)]) fun x43 h15 =>
 xb (afieldAddr P 65 x6 3) fun x44 =>
 xb (aload P h15 3 x44) fun x45 =>
 xb (abuild P 39 [(0, x40), (4, x43), (5, x45)]) fun x46 =>
 xstore h15 (astore P h15 39 x5 x46) fun h16 =>
 bif ((rdIs (aload P h13 65 x6) x39 && true) && ((rdIs (aload P h13 39 x5) x41 && (rdIs (aload P h14 39 x5) x41 && true)) && ((rdIs (aload P h13 39 x7) x42 && (rdIs (aload P h14 39 x7) x42 && true)) && ((rdIs (aload P h13 3 x44) x45 && (rdIs (aload P h14 3 x44) x45 && (rdIs (aload P h15 3 x44) x45 && true))) && true)))) then (s39_7 L1 x0 x1 x4 x5 h16) else none) (s39_j0 G N x4 x5 h6)
def s39_l1 (G : CallT) (N : Nat) : Nat → AV → AV → AV → AV → AHeap → O
 | 0, _, _, _, _, _ => none
 | n + 1, x0, x1, x4, x5, H => s39_b1 G N (s39_l1 G N n) x0 x1 x4 x5 H
theorem s39_b1_eq (G : CallT) (N : Nat) (L1 : AV → AV → AV → AV → AHeap → O) : ∀ R H, codeC P G N (Code.fst (Code.fst (Code.fst (Code.snd (Code.snd (Code.snd (bodyOf Try.f39))))))) (fun R H => L1 (R 0) (R 1) (R 4) (R 5) H) [(0, (fun R H => s39_j0 G N (R 4) (R 5) H))] (rC Try.f39) R H = s39_b1 G N L1 (R 0) (R 1) (R 4) (R 5) H := by
 refine via_trans (via_leaf _) fun R H => ?_
 delta s39_b1 s39_7
 generalize s39_j0 G N = J0
 revert J0
 refine id ?_
 intro J0
 kernel_rfl
def s39_40 (G : CallT) (N : Nat) (x0 x1 : AV) (x4 x5 : AV) (h4 : AHeap) : O :=
 s39_l1 G N N x0 x1 x4 x5 h4
def s39_41 (G : CallT) (N : Nat) (x15 x0 : AV) (x1 x4 x5 : AV) (h3 : AHeap) : O :=
 xstore h3 (astore P h3 39 x5 x15) (s39_40 G N x0 x1 x4 x5)
def s39_42 (G : CallT) (N : Nat) (x0 x1 : AV) (x4 x15 : AV) (h2 : AHeap) : O :=
 xalloc h2 [(.int .i64 0), (.int .i64 0), (.str []), (.str []), (.int .i64 0), AV.nilSl, (.int .i64 0), (.int .i64 0), (.int .i64 0), (.int .i64 0), (.int .i64 0)] (s39_41 G N x15 x0 x1 x4)
def s39 (G : CallT) (N : Nat) (x0 x1 : AV) (H : AHeap) : O :=
 xalloc H [(.int .i64 0), (.int .i64 0), (.str []), (.str []), (.int .i64 0), AV.nilSl, (.int .i64 0), (.int .i64 0), (.int .i64 0), (.int .i64 0), (.int .i64 0)] fun x4 h1 =>
 xb (fbin P .eql 3 true x1 (.int .i64 5)) fun x9 =>
 xif (some x9) (xcall h1 (G 69 [x0] h1) fun x11 h2 =>
 xstore h2 (astore P h2 39 x4 x11) fun h3 =>
 xb (aload P h3 39 x4) fun r =>
 some (r, h3)) (xb (fbin P .add 3 true x1 (.int .i64 1)) fun x14 =>
 xcall h1 (G 39 [x0, x14] h1) (s39_42 G N x0 x1 x4))
theorem s39_eq (G : CallT) (N : Nat) (x0 : AV) (x1 : AV) (H : AHeap) : cF Try.f39 G N (argsF [x0, x1]) H = s39 G N x0 x1 H := by
 refine via_top (A := cF Try.f39 G N) ((via_seq (by kernel_rfl) ((via_seq (by kernel_rfl) ((via_seq (by kernel_rfl) ((via_seq (by kernel_rfl) (s39_j0_eq G N) ((via_block (by kernel_rfl) ((via_loop (k := fun m R H => s39_l1 G N m (R 0) (R 1) (R 4) (R 5) H) (by kernel_rfl) (fun R H => by kernel_rfl) (fun m => s39_b1_eq G N (s39_l1 G N m)))))))) (via_leaf _))) (via_leaf _))) (via_leaf _))) ?_
 delta s39 s39_42 s39_41 s39_40
 generalize s39_l1 G N N = J0
 revert J0
 refine id ?_
 intro J0
 kernel_rfl
theorem run39 (N : Nat) {x0 x1 : AV} {H : AHeap} {r : AV × AHeap} (h : s39 (evw P) N x0 x1 H = some r) : evw P 39 [x0, x1] H = some r :=
 runF Try.func39 (by kernel_rfl) (by kernel_rfl) (by kernel_rfl) ((s39_eq (evw P) N x0 x1 H).trans h)
def s69_j0 (G : CallT) (x0 x2 : AV) (x3 x4 : AV) (H : AHeap) : O :=
 xb (afieldAddr P 65 x3 1) fun x19 =>
 xb (aload P H 9 x19) fun x20 =>
 xcall H (G 74 [x0, x20] H) fun x21 h1 =>
 xcall h1 (G 39 [x0, (.int .i64 5)] h1) fun x23 h2 =>
 xalloc h2 [(.int .i64 0), (.int .i64 0), (.str []), (.str []), (.int .i64 0), AV.nilSl, (.int .i64 0), (.int .i64 0), (.int .i64 0), (.int .i64 0), (.int .i64 0)] fun x5 h3 =>
 xstore h3 (astore P h3 39 x5 x23) fun h4 =>
 xb (anil x0) fun x25 =>
 xb (afieldAddr P 75 x25 2) fun x26 =>
 xb (aload P h4 3 x26) fun x27 =>
 xb (fbin P .sub 3 true x27 (.int .i64 1)) fun x28 =>
 xb (anil x0) fun x29 =>
 xb (afieldAddr P 75 x29 2) fun x30 =>
 xstore h4 (astore P h4 3 x30 x28) fun h5 =>
 xb (aload P h5 39 x5) fun x32 =>
 xmake h5 (sliceOf P (h5).next 35 1 [(0, x32)]) fun x33 h6 =>
 xb (afieldAddr P 65 x3 3) fun x34 =>
 xb (aload P h6 3 x34) fun x35 =>
 xb (abuild P 39 [(0, x4), (4, x33), (5, x35)]) fun x36 =>
 xstore h6 (astore P h6 39 x2 x36) fun h7 =>
 xb (aload P h7 39 x2) fun r =>
 some (r, h7)
theorem s69_j0_eq (G : CallT) (N : Nat) : ∀ R H, codeC P G N (Code.snd (Code.snd (Code.snd (Code.snd (bodyOf Try.f69))))) (rC Try.f69) [] (rC Try.f69) R H = s69_j0 G (R 0) (R 2) (R 3) (R 4) H := by
 refine via_trans (via_leaf _) fun R H => ?_
 delta s69_j0
 kernel_rfl
def s69_33 (G : CallT) (x0 x2 : AV) (h1 : AHeap) : O :=
 xcall h1 (G 66 [x0] h1) fun x7 h2 =>
 xalloc h2 [(.int .i64 0), (.str []), (.int .i64 0), (.int .i64 0)] fun x3 h3 =>
 xstore h3 (astore P h3 65 x3 x7) fun h4 =>
 xcall h4 (G 64 [x0, (.str [45])] h4) fun x14 h5 =>
 xif (some x14) (s69_j0 G x0 x2 x3 (.int .i64 12) h5) (xcall h5 (G 64 [x0, (.str [33])] h5) fun x17 h6 =>
 xif (some x17) (s69_j0 G x0 x2 x3 (.int .i64 13) h6) (xcall h6 (G 82 [x0] h6) fun x10 h7 =>
 xcall h7 (G 81 [x0, x10] h7) fun x11 h8 =>
 xstore h8 (astore P h8 39 x2 x11) fun h9 =>
 xb (aload P h9 39 x2) fun r =>
 some (r, h9)))
def s69 (G : CallT) (x0 : AV) (H : AHeap) : O :=
 xalloc H [(.int .i64 0), (.int .i64 0), (.str []), (.str []), (.int .i64 0), AV.nilSl, (.int .i64 0), (.int .i64 0), (.int .i64 0), (.int .i64 0), (.int .i64 0)] (s69_33 G x0)
theorem s69_eq (G : CallT) (N : Nat) (x0 : AV) (H : AHeap) : cF Try.f69 G N (argsF [x0]) H = s69 G x0 H := by
 refine via_top (A := cF Try.f69 G N) ((via_seq (by kernel_rfl) ((via_seq (by kernel_rfl) ((via_seq (by kernel_rfl) ((via_seq (by kernel_rfl) (s69_j0_eq G N) (via_leaf _))) (via_leaf _))) (via_leaf _))) (via_leaf _))) ?_
 delta s69 s69_33
 generalize s69_j0 G = J0
 revert J0
 refine id ?_
 intro J0
 kernel_rfl
theorem run69 (N : Nat) {x0 : AV} {H : AHeap} {r : AV × AHeap} (h : s69 (evw P) x0 H = some r) : evw P 69 [x0] H = some r :=
 runF Try.func69 (by kernel_rfl) (by kernel_rfl) (by kernel_rfl) ((s69_eq (evw P) N x0 H).trans h)
def s81_j0 (G : CallT) (N : Nat) (x3 x4 : AV) (H : AHeap) : O :=
 xb (aload P H 39 x3) fun x43 =>
 xstore H (astore P H 39 x4 x43) fun h1 =>
 xb (aload P h1 39 x4) fun r =>
 some (r, h1)
theorem s81_j0_eq (G : CallT) (N : Nat) : ∀ R H, codeC P G N (Code.snd (Code.snd (bodyOf Try.f81))) (rC Try.f81) [] (rC Try.f81) R H = s81_j0 G N (R 3) (R 4) H := by
 refine via_trans (via_leaf _) fun R H => ?_
 delta s81_j0
 kernel_rfl
def s81_3 (L1 : AV → AV → AV → AHeap → O) (x0 x3 x4 : AV) (h11 : AHeap) : O :=
 L1 x0 x3 x4 h11
def s81_19 (L1 : AV → AV → AV → AHeap → O) (x0 x3 x4 : AV) (h14 : AHeap) : O :=
 L1 x0 x3 x4 h14
def s81_33 (G : CallT) (L1 : AV → AV → AV → AHeap → O) (x0 x3 : AV) (x5 x4 : AV) (h6 : AHeap) : O :=
 xcall h6 (G 64 [x0, (.str [46])] h6) fun x16 h7 =>
 xif (some x16) (xb (anil x0) fun x18 =>
 xb (afieldAddr P 75 x18 1) fun x19 =>
 xb (aload P h7 3 x19) fun x20 =>
 xb (fbin P .add 3 true x20 (.int .i64 1)) fun x21 =>
 xb (anil x0) fun x22 =>
 xb (afieldAddr P 75 x22 1) fun x23 =>
 xstore h7 (astore P h7 3 x23 x21) fun h8 =>
 xcall h8 (G 67 [x0] h8) fun x25 h9 =>
 xb (aload P h9 39 x3) fun x26 =>
 xmake h9 (sliceOf P (h9).next 35 1 [(0, x26)]) fun x27 h10 =>
 xb (afieldAddr P 65 x5 3) fun x28 =>
 xb (aload P h10 3 x28) fun x29 =>
 xb (abuild P 39 [(0, (.int .i64 5)), (2, x25), (4, x27), (5, x29)]) fun x30 =>
 xstore h10 (astore P h10 39 x3 x30) fun h11 =>
 bif ((rdIs (aload P h8 39 x3) x26 && (rdIs (aload P h9 39 x3) x26 && true)) && ((rdIs (aload P h8 3 x28) x29 && (rdIs (aload P h9 3 x28) x29 && (rdIs (aload P h10 3 x28) x29 && true))) && true)) then (s81_3 L1 x0 x3 x4 h11) else none) (xcall h7 (G 74 [x0, (.str [91])] h7) fun x32 h8 =>
 xcall h8 (G 39 [x0, (.int .i64 0)] h8) fun x34 h9 =>
 xalloc h9 [(.int .i64 0), (.int .i64 0), (.str []), (.str []), (.int .i64 0), AV.nilSl, (.int .i64 0), (.int .i64 0), (.int .i64 0), (.int .i64 0), (.int .i64 0)] fun x6 h10 =>
 xstore h10 (astore P h10 39 x6 x34) fun h11 =>
 xcall h11 (G 75 [x0, (.str [93])] h11) fun x36 h12 =>
 xb (aload P h12 39 x3) fun x37 =>
 xb (aload P h12 39 x6) fun x38 =>
 xmake h12 (sliceOf P (h12).next 35 2 [(0, x37), (1, x38)]) fun x39 h13 =>
 xb (afieldAddr P 65 x5 3) fun x40 =>
 xb (aload P h13 3 x40) fun x41 =>
 xb (abuild P 39 [(0, (.int .i64 6)), (4, x39), (5, x41)]) fun x42 =>
 xstore h13 (astore P h13 39 x3 x42) (s81_19 L1 x0 x3 x4))
def s81_34 (G : CallT) (L1 : AV → AV → AV → AHeap → O) (x14 x0 : AV) (x3 x4 x5 : AV) (h5 : AHeap) : O :=
 xstore h5 (astore P h5 65 x5 x14) (s81_33 G L1 x0 x3 x5 x4)
def s81_35 (G : CallT) (L1 : AV → AV → AV → AHeap → O) (x0 x3 : AV) (x4 x14 : AV) (h4 : AHeap) : O :=
 xalloc h4 [(.int .i64 0), (.str []), (.int .i64 0), (.int .i64 0)] (s81_34 G L1 x14 x0 x3 x4)
def s81_36 (G : CallT) (L1 : AV → AV → AV → AHeap → O) (h3 : AHeap) (x0 x3 x4 : AV) : O :=
 xcall h3 (G 66 [x0] h3) (s81_35 G L1 x0 x3 x4)
def s81_b1 (G : CallT) (N : Nat) (L1 : AV → AV → AV → AHeap → O) (x0 x3 x4 : AV) (H : AHeap) : O :=
 xcall H (G 64 [x0, (.str [46])] H) fun x8 h1 =>
 xg x8 false h1 (qv x0) fun x10 h2 =>
 xg x8 false h2 (fun q => xeff h2 (G 64 [x10, (.str [91])] h2) q) fun x11 h3 =>
 xb (pickOf x8 (some (.bool true)) (some x11)) fun x12 =>
 xif (some x12) (s81_36 G L1 h3 x0 x3 x4) (s81_j0 G N x3 x4 h3)
def s81_l1 (G : CallT) (N : Nat) : Nat → AV → AV → AV → AHeap → O
 | 0, _, _, _, _ => none
 | n + 1, x0, x3, x4, H => s81_b1 G N (s81_l1 G N n) x0 x3 x4 H
theorem s81_b1_eq (G : CallT) (N : Nat) (L1 : AV → AV → AV → AHeap → O) : ∀ R H, codeC P G N (Code.fst (Code.fst (Code.fst (Code.snd (bodyOf Try.f81))))) (fun R H => L1 (R 0) (R 3) (R 4) H) [(0, (fun R H => s81_j0 G N (R 3) (R 4) H))] (rC Try.f81) R H = s81_b1 G N L1 (R 0) (R 3) (R 4) H := by
 refine via_trans (via_leaf _) fun R H => ?_
 delta s81_b1 s81_36 s81_35 s81_34 s81_33 s81_19 s81_3
 generalize s81_j0 G N = J0
 revert J0
 refine id ?_
 intro J0
 kernel_rfl
def s81_42 (G : CallT) (N : Nat) (x0 x3 x4 : AV) (h2 : AHeap) : O :=
 s81_l1 G N N x0 x3 x4 h2
def s81_43 (G : CallT) (N : Nat) (x0 x3 : AV) (h1 : AHeap) : O :=
 xalloc h1 [(.int .i64 0), (.int .i64 0), (.str []), (.str []), (.int .i64 0), AV.nilSl, (.int .i64 0), (.int .i64 0), (.int .i64 0), (.int .i64 0), (.int .i64 0)] (s81_42 G N x0 x3)
def s81 (G : CallT) (N : Nat) (x0 x1 : AV) (H : AHeap) : O :=
 xmake H (boxOf (H).next x1) (s81_43 G N x0)
theorem s81_eq (G : CallT) (N : Nat) (x0 : AV) (x1 : AV) (H : AHeap) : cF Try.f81 G N (argsF [x0, x1]) H = s81 G N x0 x1 H := by
 refine via_top (A := cF Try.f81 G N) ((via_seq (by kernel_rfl) ((via_seq (by kernel_rfl) (s81_j0_eq G N) ((via_block (by kernel_rfl) ((via_loop (k := fun m R H => s81_l1 G N m (R 0) (R 3) (R 4) H) (by kernel_rfl) (fun R H => by kernel_rfl) (fun m => s81_b1_eq G N (s81_l1 G N m)))))))) (via_leaf _))) ?_
 delta s81 s81_43 s81_42
 generalize s81_l1 G N N = J0
 revert J0
 refine id ?_
 intro J0
 kernel_rfl
theorem run81 (N : Nat) {x0 x1 : AV} {H : AHeap} {r : AV × AHeap} (h : s81 (evw P) N x0 x1 H = some r) : evw P 81 [x0, x1] H = some r :=
 runF Try.func81 (by kernel_rfl) (by kernel_rfl) (by kernel_rfl) ((s81_eq (evw P) N x0 x1 H).trans h)
def s99 (G : CallT) (x0 : AV) (H : AHeap) : O :=
 xalloc H [(.int .i64 0), (.int .i64 0), (.str []), (.str []), (.int .i64 0), AV.nilSl, (.int .i64 0), (.int .i64 0), (.int .i64 0), (.int .i64 0), (.int .i64 0)] fun x2 h1 =>
 xcall h1 (G 74 [x0, (.str [40])] h1) fun x5 h2 =>
 xcall h2 (G 39 [x0, (.int .i64 0)] h2) fun x7 h3 =>
 xalloc h3 [(.int .i64 0), (.int .i64 0), (.str []), (.str []), (.int .i64 0), AV.nilSl, (.int .i64 0), (.int .i64 0), (.int .i64 0), (.int .i64 0), (.int .i64 0)] fun x3 h4 =>
 xstore h4 (astore P h4 39 x3 x7) fun h5 =>
 xcall h5 (G 75 [x0, (.str [41])] h5) fun x9 h6 =>
 xb (aload P h6 39 x3) fun x10 =>
 xstore h6 (astore P h6 39 x2 x10) fun h7 =>
 xb (aload P h7 39 x2) fun r =>
 some (r, h7)
theorem s99_eq (G : CallT) (N : Nat) (x0 : AV) (H : AHeap) : cF Try.f99 G N (argsF [x0]) H = s99 G x0 H := by
 refine via_top (A := cF Try.f99 G N) (via_leaf _) ?_
 delta s99
 kernel_rfl
theorem run99 (N : Nat) {x0 : AV} {H : AHeap} {r : AV × AHeap} (h : s99 (evw P) x0 H = some r) : evw P 99 [x0] H = some r :=
 runF Try.func99 (by kernel_rfl) (by kernel_rfl) (by kernel_rfl) ((s99_eq (evw P) N x0 H).trans h)
def s82_j0 (G : CallT) (x0 x2 x3 : AV) (H : AHeap) : O :=
 xcall H (G 67 [x0] H) fun x115 h1 =>
 xcall h1 (G 64 [x0, (.str [40])] h1) fun x117 h2 =>
 xb (aun .not x117) fun x118 =>
 xif (some x118) (xb (afieldAddr P 65 x3 3) fun x120 =>
 xb (aload P h2 3 x120) fun x121 =>
 xb (abuild P 39 [(0, (.int .i64 4)), (2, x115), (5, x121)]) fun x122 =>
 xstore h2 (astore P h2 39 x2 x122) fun h3 =>
 xb (aload P h3 39 x2) fun r =>
 some (r, h3)) (xcall h2 (G 100 [x0] h2) fun x125 h3 =>
 xb (afieldAddr P 65 x3 3) fun x126 =>
 xb (aload P h3 3 x126) fun x127 =>
 xb (abuild P 39 [(0, (.int .i64 7)), (2, x115), (4, x125), (5, x127)]) fun x128 =>
 xstore h3 (astore P h3 39 x2 x128) fun h4 =>
 bif ((rdIs (aload P h2 3 x126) x127 && (rdIs (aload P h3 3 x126) x127 && true)) && true) then (xb (aload P h4 39 x2) fun r =>
 some (r, h4)) else none)
theorem s82_j0_eq (G : CallT) (N : Nat) : ∀ R H, codeC P G N (Code.snd (Code.snd (Code.snd (bodyOf Try.f82)))) (rC Try.f82) [] (rC Try.f82) R H = s82_j0 G (R 0) (R 2) (R 3) H := by
 refine via_trans (via_leaf _) fun R H => ?_
 delta s82_j0
 kernel_rfl
def s82_31 (x0 : AV) (h8 : AHeap) (x3 x2 : AV) : O :=
 xb (anil x0) fun x17 =>
 xb (afieldAddr P 75 x17 1) fun x18 =>
 xb (aload P h8 3 x18) fun x19 =>
 xb (fbin P .add 3 true x19 (.int .i64 1)) fun x20 =>
 xb (anil x0) fun x21 =>
 xb (afieldAddr P 75 x21 1) fun x22 =>
 xstore h8 (astore P h8 3 x22 x20) fun h9 =>
 xb (afieldAddr P 65 x3 2) fun x23 =>
 xb (aload P h9 3 x23) fun x24 =>
 xb (afieldAddr P 65 x3 3) fun x25 =>
 xb (aload P h9 3 x25) fun x26 =>
 xb (abuild P 39 [(0, (.int .i64 1)), (1, x24), (5, x26)]) fun x27 =>
 xstore h9 (astore P h9 39 x2 x27) fun h10 =>
 xb (aload P h10 39 x2) fun r =>
 some (r, h10)
def s82_j2 (G : CallT) (x2 x3 x4 : AV) (H : AHeap) : O :=
 xb (afieldAddr P 65 x3 3) fun x44 =>
 xb (aload P H 3 x44) fun x45 =>
 xb (abuild P 39 [(0, (.int .i64 2)), (1, x4), (5, x45)]) fun x46 =>
 xstore H (astore P H 39 x2 x46) fun h1 =>
 xb (aload P h1 39 x2) fun r =>
 some (r, h1)
theorem s82_j2_eq (G : CallT) (N : Nat) : ∀ R H, codeC P G N (Code.snd (Code.snd (Code.snd (Code.fst (Code.snd (Code.snd (Code.snd (Code.fst (Code.fst (Code.snd (Code.snd (bodyOf Try.f82)))))))))))) (fun R H => s82_j0 G (R 0) (R 2) (R 3) H) [(0, (fun R H => s82_j0 G (R 0) (R 2) (R 3) H))] (rC Try.f82) R H = s82_j2 G (R 2) (R 3) (R 4) H := by
 refine via_trans (via_leaf _) fun R H => ?_
 delta s82_j2
 kernel_rfl
def s82_49 (G : CallT) (x0 : AV) (H : AHeap) (x3 x2 : AV) : O :=
 xb (anil x0) fun x34 =>
 xb (afieldAddr P 75 x34 1) fun x35 =>
 xb (aload P H 3 x35) fun x36 =>
 xb (fbin P .add 3 true x36 (.int .i64 1)) fun x37 =>
 xb (anil x0) fun x38 =>
 xb (afieldAddr P 75 x38 1) fun x39 =>
 xstore H (astore P H 3 x39 x37) fun h1 =>
 xb (afieldAddr P 65 x3 1) fun x40 =>
 xb (aload P h1 9 x40) fun x41 =>
 xb (fbin P .eql 9 true x41 (.str [116, 114, 117, 101])) fun x42 =>
 xif (some x42) (s82_j2 G x2 x3 (.int .i64 1) h1) (s82_j2 G x2 x3 (.int .i64 0) h1)
def s82_64 (G : CallT) (x0 : AV) (h1 : AHeap) (x3 x2 : AV) : O :=
 xb (anil x0) fun x51 =>
 xb (afieldAddr P 75 x51 1) fun x52 =>
 xb (aload P h1 3 x52) fun x53 =>
 xb (fbin P .add 3 true x53 (.int .i64 1)) fun x54 =>
 xb (anil x0) fun x55 =>
 xb (afieldAddr P 75 x55 1) fun x56 =>
 xstore h1 (astore P h1 3 x56 x54) fun h2 =>
 xcall h2 (G 37 [x0] h2) fun x58 h3 =>
 xb (afieldAddr P 65 x3 3) fun x59 =>
 xb (aload P h3 3 x59) fun x60 =>
 xb (abuild P 39 [(0, (.int .i64 3)), (3, x58), (5, x60)]) fun x61 =>
 xstore h3 (astore P h3 39 x2 x61) fun h4 =>
 bif ((rdIs (aload P h2 3 x59) x60 && (rdIs (aload P h3 3 x59) x60 && true)) && true) then (xb (aload P h4 39 x2) fun r =>
 some (r, h4)) else none
def s82_77 (G : CallT) (x0 : AV) (h2 : AHeap) (x3 x2 : AV) : O :=
 xb (anil x0) fun x66 =>
 xb (afieldAddr P 75 x66 1) fun x67 =>
 xb (aload P h2 3 x67) fun x68 =>
 xb (fbin P .add 3 true x68 (.int .i64 1)) fun x69 =>
 xb (anil x0) fun x70 =>
 xb (afieldAddr P 75 x70 1) fun x71 =>
 xstore h2 (astore P h2 3 x71 x69) fun h3 =>
 xb (afieldAddr P 65 x3 3) fun x73 =>
 xb (aload P h3 3 x73) fun x74 =>
 xcall h3 (G 98 [x0, x74] h3) fun x75 h4 =>
 xstore h4 (astore P h4 39 x2 x75) fun h5 =>
 xb (aload P h5 39 x2) fun r =>
 some (r, h5)
def s82_93 (G : CallT) (x0 : AV) (h3 : AHeap) (x3 x2 : AV) : O :=
 xb (anil x0) fun x80 =>
 xb (afieldAddr P 75 x80 1) fun x81 =>
 xb (aload P h3 3 x81) fun x82 =>
 xb (fbin P .add 3 true x82 (.int .i64 1)) fun x83 =>
 xb (anil x0) fun x84 =>
 xb (afieldAddr P 75 x84 1) fun x85 =>
 xstore h3 (astore P h3 3 x85 x83) fun h4 =>
 xcall h4 (G 99 [x0] h4) fun x87 h5 =>
 xmake h5 (sliceOf P (h5).next 35 1 [(0, x87)]) fun x88 h6 =>
 xb (afieldAddr P 65 x3 3) fun x89 =>
 xb (aload P h6 3 x89) fun x90 =>
 xb (abuild P 39 [(0, (.int .i64 10)), (4, x88), (5, x90)]) fun x91 =>
 xstore h6 (astore P h6 39 x2 x91) fun h7 =>
 bif ((rdIs (aload P h4 3 x89) x90 && (rdIs (aload P h5 3 x89) x90 && (rdIs (aload P h6 3 x89) x90 && true))) && true) then (xb (aload P h7 39 x2) fun r =>
 some (r, h7)) else none
def s82_108 (G : CallT) (x0 : AV) (h4 : AHeap) (x3 x2 : AV) : O :=
 xb (anil x0) fun x96 =>
 xb (afieldAddr P 75 x96 1) fun x97 =>
 xb (aload P h4 3 x97) fun x98 =>
 xb (fbin P .add 3 true x98 (.int .i64 1)) fun x99 =>
 xb (anil x0) fun x100 =>
 xb (afieldAddr P 75 x100 1) fun x101 =>
 xstore h4 (astore P h4 3 x101 x99) fun h5 =>
 xcall h5 (G 74 [x0, (.str [40])] h5) fun x103 h6 =>
 xcall h6 (G 75 [x0, (.str [41])] h6) fun x105 h7 =>
 xb (afieldAddr P 65 x3 3) fun x106 =>
 xb (aload P h7 3 x106) fun x107 =>
 xb (abuild P 39 [(0, (.int .i64 11)), (5, x107)]) fun x108 =>
 xstore h7 (astore P h7 39 x2 x108) fun h8 =>
 xb (aload P h8 39 x2) fun r =>
 some (r, h8)
def s82_112 (G : CallT) (h5 : AHeap) (x0 x2 : AV) : O :=
 xcall h5 (G 99 [x0] h5) fun x113 h6 =>
 xstore h6 (astore P h6 39 x2 x113) fun h7 =>
 xb (aload P h7 39 x2) fun r =>
 some (r, h7)
def s82_113 (G : CallT) (x0 x2 x3 : AV) (h5 : AHeap) : O :=
 s82_j0 G x0 x2 x3 h5
def s82_114 (G : CallT) (x0 x2 : AV) (x3 x111 : AV) (h5 : AHeap) : O :=
 xif (some x111) (s82_112 G h5 x0 x2) (s82_113 G x0 x2 x3 h5)
def s82_115 (G : CallT) (h4 : AHeap) (x0 x2 x3 : AV) : O :=
 xcall h4 (G 64 [x0, (.str [40])] h4) (s82_114 G x0 x2 x3)
def s82_116 (G : CallT) (x0 x3 : AV) (x2 x94 : AV) (h4 : AHeap) : O :=
 xif (some x94) (s82_108 G x0 h4 x3 x2) (s82_115 G h4 x0 x2 x3)
def s82_117 (G : CallT) (h3 : AHeap) (x0 x3 x2 : AV) : O :=
 xcall h3 (G 64 [x0, (.str [114, 101, 97, 100])] h3) (s82_116 G x0 x3 x2)
def s82_118 (G : CallT) (x0 x3 : AV) (x2 x78 : AV) (h3 : AHeap) : O :=
 xif (some x78) (s82_93 G x0 h3 x3 x2) (s82_117 G h3 x0 x3 x2)
def s82_119 (G : CallT) (h2 : AHeap) (x0 x3 x2 : AV) : O :=
 xcall h2 (G 64 [x0, (.str [108, 101, 110])] h2) (s82_118 G x0 x3 x2)
def s82_120 (G : CallT) (x0 x3 : AV) (x2 x64 : AV) (h2 : AHeap) : O :=
 xif (some x64) (s82_77 G x0 h2 x3 x2) (s82_119 G h2 x0 x3 x2)
def s82_121 (G : CallT) (h1 : AHeap) (x0 x3 x2 : AV) : O :=
 xcall h1 (G 64 [x0, (.str [110, 101, 119])] h1) (s82_120 G x0 x3 x2)
def s82_122 (G : CallT) (x0 x3 : AV) (x2 x49 : AV) (h1 : AHeap) : O :=
 xif (some x49) (s82_64 G x0 h1 x3 x2) (s82_121 G h1 x0 x3 x2)
def s82_123 (G : CallT) (H : AHeap) (x0 x3 x2 : AV) : O :=
 xcall H (G 64 [x0, (.str [110, 117, 108, 108])] H) (s82_122 G x0 x3 x2)
def s82_j1 (G : CallT) (x0 x2 : AV) (x3 x28 : AV) (H : AHeap) : O :=
 xif (some x28) (s82_49 G x0 H x3 x2) (s82_123 G H x0 x3 x2)
theorem s82_j1_eq (G : CallT) (N : Nat) : ∀ R H, codeC P G N (Code.snd (Code.snd (Code.snd (Code.fst (Code.fst (Code.snd (Code.snd (bodyOf Try.f82)))))))) (fun R H => s82_j0 G (R 0) (R 2) (R 3) H) [(0, (fun R H => s82_j0 G (R 0) (R 2) (R 3) H))] (rC Try.f82) R H = s82_j1 G (R 0) (R 2) (R 3) (R 28) H := by
 refine via_trans ((via_cond (by kernel_rfl) ((via_seq (by kernel_rfl) ((via_seq (by kernel_rfl) ((via_seq (by kernel_rfl) (s82_j2_eq G N) (via_leaf _))) (via_leaf _))) (via_leaf _))) (via_leaf _))) fun R H => ?_
 delta s82_j1 s82_123 s82_122 s82_121 s82_120 s82_119 s82_118 s82_117 s82_116 s82_115 s82_114 s82_113 s82_112 s82_108 s82_93 s82_77 s82_64 s82_49
 generalize s82_j0 G = J0
 generalize s82_j2 G = J1
 revert J0 J1
 refine id ?_
 intro J0 J1
 kernel_rfl
def s82_124 (G : CallT) (x0 x2 : AV) (x3 x30 : AV) (h9 : AHeap) : O :=
 s82_j1 G x0 x2 x3 x30 h9
def s82_125 (G : CallT) (x0 x2 : AV) (x3 x32 : AV) (h10 : AHeap) : O :=
 s82_j1 G x0 x2 x3 x32 h10
def s82_126 (G : CallT) (h9 : AHeap) (x0 x2 x3 : AV) : O :=
 xcall h9 (G 64 [x0, (.str [102, 97, 108, 115, 101])] h9) (s82_125 G x0 x2 x3)
def s82_127 (G : CallT) (x0 x2 : AV) (x3 x30 : AV) (h9 : AHeap) : O :=
 xif (some x30) (s82_124 G x0 x2 x3 x30 h9) (s82_126 G h9 x0 x2 x3)
def s82_128 (G : CallT) (h8 : AHeap) (x0 x2 x3 : AV) : O :=
 xcall h8 (G 64 [x0, (.str [116, 114, 117, 101])] h8) (s82_127 G x0 x2 x3)
def s82_129 (G : CallT) (x0 : AV) (h8 : AHeap) (x3 x2 x15 : AV) : O :=
 xif (some x15) (s82_31 x0 h8 x3 x2) (s82_128 G h8 x0 x2 x3)
def s82_130 (G : CallT) (x10 x0 : AV) (x3 x2 x14 : AV) (h8 : AHeap) : O :=
 xb (pickOf x10 (some x14) (some (.bool false))) (s82_129 G x0 h8 x3 x2)
def s82_131 (G : CallT) (x10 x0 : AV) (x3 x2 x13 : AV) (h7 : AHeap) : O :=
 xg x10 true h7 (qp (fbin P .eql 3 true x13 (.int .i64 2))) (s82_130 G x10 x0 x3 x2)
def s82_132 (G : CallT) (x10 x0 : AV) (x3 x2 x12 : AV) (h6 : AHeap) : O :=
 xg x10 true h6 (qr (aload P h6 3 x12)) (s82_131 G x10 x0 x3 x2)
def s82_133 (G : CallT) (x3 x0 : AV) (x2 x10 : AV) (h5 : AHeap) : O :=
 xg x10 true h5 (qp (afieldAddr P 65 x3 0)) (s82_132 G x10 x0 x3 x2)
def s82_134 (G : CallT) (x0 x3 x2 : AV) (h4 : AHeap) : O :=
 xcall h4 (G 38 [x0] h4) (s82_133 G x3 x0 x2)
def s82_135 (G : CallT) (x7 x0 : AV) (x2 x3 : AV) (h3 : AHeap) : O :=
 xstore h3 (astore P h3 65 x3 x7) (s82_134 G x0 x3 x2)
def s82_136 (G : CallT) (x0 x2 x7 : AV) (h2 : AHeap) : O :=
 xalloc h2 [(.int .i64 0), (.str []), (.int .i64 0), (.int .i64 0)] (s82_135 G x7 x0 x2)
def s82_137 (G : CallT) (x0 x2 : AV) (h1 : AHeap) : O :=
 xcall h1 (G 66 [x0] h1) (s82_136 G x0 x2)
def s82 (G : CallT) (x0 : AV) (H : AHeap) : O :=
 xalloc H [(.int .i64 0), (.int .i64 0), (.str []), (.str []), (.int .i64 0), AV.nilSl, (.int .i64 0), (.int .i64 0), (.int .i64 0), (.int .i64 0), (.int .i64 0)] (s82_137 G x0)
theorem s82_eq (G : CallT) (N : Nat) (x0 : AV) (H : AHeap) : cF Try.f82 G N (argsF [x0]) H = s82 G x0 H := by
 refine via_top (A := cF Try.f82 G N) ((via_seq (by kernel_rfl) ((via_seq (by kernel_rfl) ((via_seq (by kernel_rfl) (s82_j0_eq G N) ((via_block (by kernel_rfl) ((via_seq (by kernel_rfl) ((via_cond (by kernel_rfl) (via_leaf _) ((via_seq (by kernel_rfl) (s82_j1_eq G N) (via_leaf _))))) (via_leaf _))))))) (via_leaf _))) (via_leaf _))) ?_
 delta s82 s82_137 s82_136 s82_135 s82_134 s82_133 s82_132 s82_131 s82_130 s82_129 s82_128 s82_127 s82_126 s82_125 s82_124 s82_31
 generalize s82_j1 G = J0
 revert J0
 refine id ?_
 intro J0
 kernel_rfl
theorem run82 (N : Nat) {x0 : AV} {H : AHeap} {r : AV × AHeap} (h : s82 (evw P) x0 H = some r) : evw P 82 [x0] H = some r :=
 runF Try.func82 (by kernel_rfl) (by kernel_rfl) (by kernel_rfl) ((s82_eq (evw P) N x0 H).trans h)
def s98 (G : CallT) (x0 x1 : AV) (H : AHeap) : O :=
 xalloc H [(.int .i64 0), (.int .i64 0), (.str []), (.str []), (.int .i64 0), AV.nilSl, (.int .i64 0), (.int .i64 0), (.int .i64 0), (.int .i64 0), (.int .i64 0)] fun x4 h1 =>
 xcall h1 (G 64 [x0, (.str [91])] h1) fun x7 h2 =>
 xb (aun .not x7) fun x8 =>
 xif (some x8) (xcall h2 (G 67 [x0] h2) fun x10 h3 =>
 xb (abuild P 32 [(0, x10)]) fun x11 =>
 xb (abuild P 39 [(0, (.int .i64 8)), (3, x11), (5, x1)]) fun x13 =>
 xstore h3 (astore P h3 39 x4 x13) fun h4 =>
 xb (aload P h4 39 x4) fun r =>
 some (r, h4)) (xb (anil x0) fun x15 =>
 xb (afieldAddr P 75 x15 1) fun x16 =>
 xb (aload P h2 3 x16) fun x17 =>
 xb (fbin P .add 3 true x17 (.int .i64 1)) fun x18 =>
 xb (anil x0) fun x19 =>
 xb (afieldAddr P 75 x19 1) fun x20 =>
 xstore h2 (astore P h2 3 x20 x18) fun h3 =>
 xcall h3 (G 37 [x0] h3) fun x22 h4 =>
 xalloc h4 [(.str []), (.int .i64 0)] fun x5 h5 =>
 xstore h5 (astore P h5 32 x5 x22) fun h6 =>
 xcall h6 (G 68 [x0, (.str [93])] h6) fun x24 h7 =>
 xcall h7 (G 99 [x0] h7) fun x27 h8 =>
 xb (aload P h8 32 x5) fun x25 =>
 xmake h8 (sliceOf P (h8).next 35 1 [(0, x27)]) fun x28 h9 =>
 xb (abuild P 39 [(0, (.int .i64 9)), (3, x25), (4, x28), (5, x1)]) fun x30 =>
 xstore h9 (astore P h9 39 x4 x30) fun h10 =>
 bif ((rdIs (aload P h7 32 x5) x25 && (rdIs (aload P h8 32 x5) x25 && (rdIs (aload P h9 32 x5) x25 && true))) && true) then (xb (aload P h10 39 x4) fun r =>
 some (r, h10)) else none)
theorem s98_eq (G : CallT) (N : Nat) (x0 : AV) (x1 : AV) (H : AHeap) : cF Try.f98 G N (argsF [x0, x1]) H = s98 G x0 x1 H := by
 refine via_top (A := cF Try.f98 G N) (via_leaf _) ?_
 delta s98
 kernel_rfl
theorem run98 (N : Nat) {x0 x1 : AV} {H : AHeap} {r : AV × AHeap} (h : s98 (evw P) x0 x1 H = some r) : evw P 98 [x0, x1] H = some r :=
 runF Try.func98 (by kernel_rfl) (by kernel_rfl) (by kernel_rfl) ((s98_eq (evw P) N x0 x1 H).trans h)
def s100_j0 (G : CallT) (N : Nat) (x0 x3 : AV) (H : AHeap) : O :=
 xcall H (G 75 [x0, (.str [41])] H) fun x30 h1 =>
 some (x3, h1)
theorem s100_j0_eq (G : CallT) (N : Nat) : ∀ R H, codeC P G N (Code.snd (Code.snd (Code.snd (Code.snd (Code.snd (Code.snd (bodyOf Try.f100))))))) (rC Try.f100) [] (rC Try.f100) R H = s100_j0 G N (R 0) (R 3) H := by
 refine via_trans (via_leaf _) fun R H => ?_
 delta s100_j0
 kernel_rfl
def s100_b1 (G : CallT) (N : Nat) (L1 : AV → AV → AHeap → O) (x0 x3 : AV) (H : AHeap) : O :=
 xcall H (G 64 [x0, (.str [44])] H) fun x16 h1 =>
 xif (some x16) (xb (anil x0) fun x18 =>
 xb (afieldAddr P 75 x18 1) fun x19 =>
 xb (aload P h1 3 x19) fun x20 =>
 xb (fbin P .add 3 true x20 (.int .i64 1)) fun x21 =>
 xb (anil x0) fun x22 =>
 xb (afieldAddr P 75 x22 1) fun x23 =>
 xstore h1 (astore P h1 3 x23 x21) fun h2 =>
 xcall h2 (G 39 [x0, (.int .i64 0)] h2) fun x26 h3 =>
 xmake h3 (sliceOf P (h3).next 35 1 [(0, x26)]) fun x27 h4 =>
 xcall h4 (aappend P h4 [35, 35] x3 x27) fun x28 h5 =>
 L1 x0 x28 h5) (s100_j0 G N x0 x3 h1)
def s100_l1 (G : CallT) (N : Nat) : Nat → AV → AV → AHeap → O
 | 0, _, _, _ => none
 | n + 1, x0, x3, H => s100_b1 G N (s100_l1 G N n) x0 x3 H
theorem s100_b1_eq (G : CallT) (N : Nat) (L1 : AV → AV → AHeap → O) : ∀ R H, codeC P G N (Code.fst (Code.fst (Code.fst (Code.snd (Code.snd (Code.snd (Code.snd (Code.snd (bodyOf Try.f100))))))))) (fun R H => L1 (R 0) (R 3) H) [(0, (fun R H => s100_j0 G N (R 0) (R 3) H))] (rC Try.f100) R H = s100_b1 G N L1 (R 0) (R 3) H := by
 refine via_trans (via_leaf _) fun R H => ?_
 delta s100_b1
 generalize s100_j0 G N = J0
 revert J0
 refine id ?_
 intro J0
 kernel_rfl
def s100 (G : CallT) (N : Nat) (x0 : AV) (H : AHeap) : O :=
 xcall H (G 74 [x0, (.str [40])] H) fun x5 h1 =>
 xcall h1 (G 64 [x0, (.str [41])] h1) fun x7 h2 =>
 xif (some x7) (xcall h2 (G 75 [x0, (.str [41])] h2) fun x9 h3 =>
 some (AV.nilSl, h3)) (xcall h2 (G 39 [x0, (.int .i64 0)] h2) fun x12 h3 =>
 xmake h3 (sliceOf P (h3).next 35 1 [(0, x12)]) fun x13 h4 =>
 xcall h4 (aappend P h4 [35, 35] AV.nilSl x13) fun x14 h5 =>
 s100_l1 G N N x0 x14 h5)
theorem s100_eq (G : CallT) (N : Nat) (x0 : AV) (H : AHeap) : cF Try.f100 G N (argsF [x0]) H = s100 G N x0 H := by
 refine via_top (A := cF Try.f100 G N) ((via_seq (by kernel_rfl) ((via_seq (by kernel_rfl) ((via_seq (by kernel_rfl) ((via_seq (by kernel_rfl) ((via_seq (by kernel_rfl) ((via_seq (by kernel_rfl) (s100_j0_eq G N) ((via_block (by kernel_rfl) ((via_loop (k := fun m R H => s100_l1 G N m (R 0) (R 3) H) (by kernel_rfl) (fun R H => by kernel_rfl) (fun m => s100_b1_eq G N (s100_l1 G N m)))))))) (via_leaf _))) (via_leaf _))) (via_leaf _))) (via_leaf _))) (via_leaf _))) ?_
 delta s100
 generalize s100_l1 G N N = J0
 revert J0
 refine id ?_
 intro J0
 kernel_rfl
theorem run100 (N : Nat) {x0 : AV} {H : AHeap} {r : AV × AHeap} (h : s100 (evw P) N x0 H = some r) : evw P 100 [x0] H = some r :=
 runF Try.func100 (by kernel_rfl) (by kernel_rfl) (by kernel_rfl) ((s100_eq (evw P) N x0 H).trans h)
def s19 (G : CallT) (x0 x1 : AV) (H : AHeap) : O :=
 xalloc H [(.str []), (.int .i64 0)] fun x4 h1 =>
 xalloc h1 [(.int .i64 0), (.int .i64 0)] fun x6 h2 =>
 xb (abuild P 75 [(0, x0), (1, x1)]) fun x11 =>
 xmake h2 (boxOf (h2).next x11) fun x12 h3 =>
 xcall h3 (G 37 [x12] h3) fun x14 h4 =>
 xalloc h4 [(.str []), (.int .i64 0)] fun x8 h5 =>
 xstore h5 (astore P h5 32 x8 x14) fun h6 =>
 xcall h6 (G 38 [x12] h6) fun x16 h7 =>
 xb (aun .not x16) fun x17 =>
 xif (some x17) (xstore h7 (astore P h7 32 x4 (.agg [(.str []), (.int .i64 0)])) fun h8 =>
 xb (anil x12) fun x20 =>
 xb (afieldAddr P 75 x20 3) fun x21 =>
 xb (aload P h8 25 x21) fun x22 =>
 xstore h8 (astore P h8 25 x6 x22) fun h9 =>
 bif ((rdIs (aload P h7 25 x21) x22 && (rdIs (aload P h8 25 x21) x22 && true)) && true) then (xb (aload P h9 32 x4) fun r =>
 xb (aload P h9 25 x6) fun r_1 =>
 some (.tuple [r, (.int .i64 0), r_1], h9)) else none) (xb (aload P h7 32 x8) fun x23 =>
 xstore h7 (astore P h7 32 x4 x23) fun h8 =>
 xb (anil x12) fun x25 =>
 xb (afieldAddr P 75 x25 1) fun x26 =>
 xb (aload P h8 3 x26) fun x27 =>
 xstore h8 (astore P h8 25 x6 (.agg [(.int .i64 0), (.int .i64 0)])) fun h9 =>
 bif ((rdIs (aload P h7 3 x26) x27 && (rdIs (aload P h8 3 x26) x27 && true)) && true) then (xb (aload P h9 32 x4) fun r =>
 xb (aload P h9 25 x6) fun r_1 =>
 some (.tuple [r, x27, r_1], h9)) else none)
theorem s19_eq (G : CallT) (N : Nat) (x0 : AV) (x1 : AV) (H : AHeap) : cF Try.f19 G N (argsF [x0, x1]) H = s19 G x0 x1 H := by
 refine via_top (A := cF Try.f19 G N) (via_leaf _) ?_
 delta s19
 kernel_rfl
theorem run19 (N : Nat) {x0 x1 : AV} {H : AHeap} {r : AV × AHeap} (h : s19 (evw P) x0 x1 H = some r) : evw P 19 [x0, x1] H = some r :=
 runF Try.func19 (by kernel_rfl) (by kernel_rfl) (by kernel_rfl) ((s19_eq (evw P) N x0 x1 H).trans h)
def s20 (G : CallT) (x0 x1 x2 : AV) (H : AHeap) : O :=
 xalloc H [(.int .i64 0), (.int .i64 0), (.str []), (.str []), (.int .i64 0), AV.nilSl, (.int .i64 0), (.int .i64 0), (.int .i64 0), (.int .i64 0), (.int .i64 0)] fun x6 h1 =>
 xalloc h1 [(.int .i64 0), (.int .i64 0)] fun x8 h2 =>
 xlen P .max [3, 3] [x2, (.int .i64 0)] h2 fun x14 =>
 xb (abuild P 75 [(0, x0), (1, x1), (2, x14)]) fun x15 =>
 xmake h2 (boxOf (h2).next x15) fun x16 h3 =>
 xcall h3 (G 39 [x16, (.int .i64 0)] h3) fun x18 h4 =>
 xalloc h4 [(.int .i64 0), (.int .i64 0), (.str []), (.str []), (.int .i64 0), AV.nilSl, (.int .i64 0), (.int .i64 0), (.int .i64 0), (.int .i64 0), (.int .i64 0)] fun x10 h5 =>
 xstore h5 (astore P h5 39 x10 x18) fun h6 =>
 xcall h6 (G 38 [x16] h6) fun x20 h7 =>
 xb (aun .not x20) fun x21 =>
 xif (some x21) (xstore h7 (astore P h7 39 x6 (.agg [(.int .i64 0), (.int .i64 0), (.str []), (.str []), (.int .i64 0), AV.nilSl, (.int .i64 0), (.int .i64 0), (.int .i64 0), (.int .i64 0), (.int .i64 0)])) fun h8 =>
 xb (anil x16) fun x24 =>
 xb (afieldAddr P 75 x24 3) fun x25 =>
 xb (aload P h8 25 x25) fun x26 =>
 xstore h8 (astore P h8 25 x8 x26) fun h9 =>
 bif ((rdIs (aload P h7 25 x25) x26 && (rdIs (aload P h8 25 x25) x26 && true)) && true) then (xb (aload P h9 39 x6) fun r =>
 xb (aload P h9 25 x8) fun r_1 =>
 some (.tuple [r, (.int .i64 0), r_1], h9)) else none) (xb (aload P h7 39 x10) fun x27 =>
 xstore h7 (astore P h7 39 x6 x27) fun h8 =>
 xb (anil x16) fun x29 =>
 xb (afieldAddr P 75 x29 1) fun x30 =>
 xb (aload P h8 3 x30) fun x31 =>
 xstore h8 (astore P h8 25 x8 (.agg [(.int .i64 0), (.int .i64 0)])) fun h9 =>
 bif ((rdIs (aload P h7 3 x30) x31 && (rdIs (aload P h8 3 x30) x31 && true)) && true) then (xb (aload P h9 39 x6) fun r =>
 xb (aload P h9 25 x8) fun r_1 =>
 some (.tuple [r, x31, r_1], h9)) else none)
theorem s20_eq (G : CallT) (N : Nat) (x0 : AV) (x1 : AV) (x2 : AV) (H : AHeap) : cF Try.f20 G N (argsF [x0, x1, x2]) H = s20 G x0 x1 x2 H := by
 refine via_top (A := cF Try.f20 G N) (via_leaf _) ?_
 delta s20
 kernel_rfl
theorem run20 (N : Nat) {x0 x1 x2 : AV} {H : AHeap} {r : AV × AHeap} (h : s20 (evw P) x0 x1 x2 H = some r) : evw P 20 [x0, x1, x2] H = some r :=
 runF Try.func20 (by kernel_rfl) (by kernel_rfl) (by kernel_rfl) ((s20_eq (evw P) N x0 x1 x2 H).trans h)
def s22 (G : CallT) (x0 x1 : AV) (H : AHeap) : O :=
 xmake H (boxOf (H).next x0) fun x2 h1 =>
 xmake h1 (boxOf (h1).next x1) fun x3 h2 =>
 xb (afieldAddr P 39 x2 0) fun x5 =>
 xb (aload P h2 3 x5) fun x6 =>
 xb (afieldAddr P 39 x3 0) fun x7 =>
 xb (aload P h2 3 x7) fun x8 =>
 xb (fbin P .eql 3 false x6 x8) fun x9 =>
 xg x9 true h2 (qp (afieldAddr P 39 x2 1)) fun x11 h3 =>
 xg x9 true h3 (qr (aload P h3 3 x11)) fun x12 h4 =>
 xg x9 true h4 (qp (afieldAddr P 39 x3 1)) fun x13 h5 =>
 xg x9 true h5 (qr (aload P h5 3 x13)) fun x14 h6 =>
 xg x9 true h6 (qp (fbin P .eql 3 false x12 x14)) fun x15 h7 =>
 xb (pickOf x9 (some x15) (some (.bool false))) fun x16 =>
 xg x16 true h7 (qp (afieldAddr P 39 x2 2)) fun x18 h8 =>
 xg x16 true h8 (qr (aload P h8 9 x18)) fun x19 h9 =>
 xg x16 true h9 (qp (afieldAddr P 39 x3 2)) fun x20 h10 =>
 xg x16 true h10 (qr (aload P h10 9 x20)) fun x21 h11 =>
 xg x16 true h11 (qp (fbin P .eql 9 false x19 x21)) fun x22 h12 =>
 xb (pickOf x16 (some x22) (some (.bool false))) fun x23 =>
 xg x23 true h12 (qp (afieldAddr P 39 x2 3)) fun x25 h13 =>
 xg x23 true h13 (qr (aload P h13 32 x25)) fun x26 h14 =>
 xg x23 true h14 (qp (afieldAddr P 39 x3 3)) fun x27 h15 =>
 xg x23 true h15 (qr (aload P h15 32 x27)) fun x28 h16 =>
 xg x23 true h16 (qp (fbin P .eql 32 false x26 x28)) fun x29 h17 =>
 xb (pickOf x23 (some x29) (some (.bool false))) fun x30 =>
 xg x30 true h17 (qp (afieldAddr P 39 x2 6)) fun x32 h18 =>
 xg x30 true h18 (qr (aload P h18 37 x32)) fun x33 h19 =>
 xg x30 true h19 (qp (afieldAddr P 39 x3 6)) fun x34 h20 =>
 xg x30 true h20 (qr (aload P h20 37 x34)) fun x35 h21 =>
 xg x30 true h21 (qp (fbin P .eql 37 false x33 x35)) fun x36 h22 =>
 xb (pickOf x30 (some x36) (some (.bool false))) fun x37 =>
 xg x37 true h22 (qp (afieldAddr P 39 x2 7)) fun x39 h23 =>
 xg x37 true h23 (qr (aload P h23 3 x39)) fun x40 h24 =>
 xg x37 true h24 (qp (afieldAddr P 39 x3 7)) fun x41 h25 =>
 xg x37 true h25 (qr (aload P h25 3 x41)) fun x42 h26 =>
 xg x37 true h26 (qp (fbin P .eql 3 false x40 x42)) fun x43 h27 =>
 xb (pickOf x37 (some x43) (some (.bool false))) fun x44 =>
 xg x44 true h27 (qp (afieldAddr P 39 x2 4)) fun x46 h28 =>
 xg x44 true h28 (qr (aload P h28 35 x46)) fun x47 h29 =>
 xg x44 true h29 (qp (afieldAddr P 39 x3 4)) fun x48 h30 =>
 xg x44 true h30 (qr (aload P h30 35 x48)) fun x49 h31 =>
 xg x44 true h31 (fun q => xeff h31 (G 42 [x47, x49] h31) q) fun x50 h32 =>
 xb (pickOf x44 (some x50) (some (.bool false))) fun x51 =>
 some (x51, h32)
theorem s22_eq (G : CallT) (N : Nat) (x0 : AV) (x1 : AV) (H : AHeap) : cF Try.f22 G N (argsF [x0, x1]) H = s22 G x0 x1 H := by
 refine via_top (A := cF Try.f22 G N) (via_leaf _) ?_
 delta s22
 kernel_rfl
theorem run22 (N : Nat) {x0 x1 : AV} {H : AHeap} {r : AV × AHeap} (h : s22 (evw P) x0 x1 H = some r) : evw P 22 [x0, x1] H = some r :=
 runF Try.func22 (by kernel_rfl) (by kernel_rfl) (by kernel_rfl) ((s22_eq (evw P) N x0 x1 H).trans h)
def s42_j0 (G : CallT) (N : Nat) (H : AHeap) : O :=
 some ((.bool true), H)
theorem s42_j0_eq (G : CallT) (N : Nat) : ∀ R H, codeC P G N (Code.snd (Code.snd (Code.snd (bodyOf Try.f42)))) (rC Try.f42) [] (rC Try.f42) R H = s42_j0 G N H := by
 refine via_trans (via_leaf _) fun R H => ?_
 delta s42_j0
 kernel_rfl
def s42_b1 (G : CallT) (N : Nat) (L1 : AV → AV → AV → AHeap → O) (x0 x1 x5 : AV) (H : AHeap) : O :=
 xlen P .len [35] [x0] H fun x13 =>
 xb (fbin P .lss 3 false x5 x13) fun x14 =>
 xif (some x14) (xb (aindexAddr P 35 x0 x5) fun x19 =>
 xb (aload P H 39 x19) fun x20 =>
 xb (aindexAddr P 35 x1 x5) fun x23 =>
 xb (aload P H 39 x23) fun x24 =>
 xcall H (G 22 [x20, x24] H) fun x25 h1 =>
 xb (aun .not x25) fun x26 =>
 xif (some x26) (some ((.bool false), h1)) (xb (fbin P .add 3 true x5 (.int .i64 1)) fun x16 =>
 L1 x0 x1 x16 h1)) (s42_j0 G N H)
def s42_l1 (G : CallT) (N : Nat) : Nat → AV → AV → AV → AHeap → O
 | 0, _, _, _, _ => none
 | n + 1, x0, x1, x5, H => s42_b1 G N (s42_l1 G N n) x0 x1 x5 H
theorem s42_b1_eq (G : CallT) (N : Nat) (L1 : AV → AV → AV → AHeap → O) : ∀ R H, codeC P G N (Code.fst (Code.fst (Code.snd (Code.fst (Code.snd (Code.snd (bodyOf Try.f42))))))) (fun R H => L1 (R 0) (R 1) (R 5) H) [(0, (fun R H => s42_j0 G N H))] (rC Try.f42) R H = s42_b1 G N L1 (R 0) (R 1) (R 5) H := by
 refine via_trans (via_leaf _) fun R H => ?_
 delta s42_b1
 generalize s42_j0 G N = J0
 revert J0
 refine id ?_
 intro J0
 kernel_rfl
def s42 (G : CallT) (N : Nat) (x0 x1 : AV) (H : AHeap) : O :=
 xlen P .len [35] [x0] H fun x7 =>
 xlen P .len [35] [x1] H fun x9 =>
 xb (fbin P .neq 3 false x7 x9) fun x10 =>
 xif (some x10) (some ((.bool false), H)) (s42_l1 G N N x0 x1 (.int .i64 0) H)
theorem s42_eq (G : CallT) (N : Nat) (x0 : AV) (x1 : AV) (H : AHeap) : cF Try.f42 G N (argsF [x0, x1]) H = s42 G N x0 x1 H := by
 refine via_top (A := cF Try.f42 G N) ((via_seq (by kernel_rfl) ((via_seq (by kernel_rfl) ((via_seq (by kernel_rfl) (s42_j0_eq G N) ((via_seq (by kernel_rfl) ((via_block (by kernel_rfl) ((via_loop (k := fun m R H => s42_l1 G N m (R 0) (R 1) (R 5) H) (by kernel_rfl) (fun R H => by kernel_rfl) (fun m => s42_b1_eq G N (s42_l1 G N m)))))) (via_leaf _))))) (via_leaf _))) (via_leaf _))) ?_
 delta s42
 generalize s42_l1 G N N = J0
 revert J0
 refine id ?_
 intro J0
 kernel_rfl
theorem run42 (N : Nat) {x0 x1 : AV} {H : AHeap} {r : AV × AHeap} (h : s42 (evw P) N x0 x1 H = some r) : evw P 42 [x0, x1] H = some r :=
 runF Try.func42 (by kernel_rfl) (by kernel_rfl) (by kernel_rfl) ((s42_eq (evw P) N x0 x1 H).trans h)
end
end Go.Proofs.Ytnjoomfeddamcaa
namespace Go.Proofs.Ytnjoomfeddamcaa
open Go.Ev
def Rd5 (H : AHeap) (r : Nat) (tv : AV) (s : St) : Prop := H.get r = some (.row false 5 [[tv, .int .i64 s.at_, .int .i64 s.opn, .int .i64 s.fe, .int .i64 s.fa]])
structure Ry (H : AHeap) (r : Nat) (T : List Tok) (tv : AV) (s : St) : Prop where
 rd : Rd5 H r tv s
 tk : TokSl H tv T
theorem Rd5.pur {H H' : AHeap} {r : Nat} {tv : AV} {s : St} (hr : Rd5 H r tv s) (p : Pur H H') : Rd5 H' r tv s := p.get hr
theorem Rd5.lt {H : AHeap} {r : Nat} {tv : AV} {s : St} (hr : Rd5 H r tv s) : r < H.next := AHeap.get_lt hr
theorem Ry.mut {H H' : AHeap} {r : Nat} {T : List Tok} {tv : AV} {s s' : St} (h : Ry H r T tv s) (m : Mt r H H') (hd : Rd5 H' r tv s') : Ry H' r T tv s' :=
 ⟨hd, h.tk.keep fun l ro els e => m.get e (by
  rintro rfl
  rw [h.rd] at e
  simp only [Option.some.injEq, ABlk.row.injEq] at e
  omega)⟩
theorem Ry.pur {H H' : AHeap} {r : Nat} {T : List Tok} {tv : AV} {s : St} (h : Ry H r T tv s) (p : Pur H H') : Ry H' r T tv s := h.mut (p.mut _) (h.rd.pur p)
theorem rset {H : AHeap} {r : Nat} {tv : AV} {s : St} (hr : Rd5 H r tv s) (s' : St) : Mt r H (H.set r (.row false 5 [[tv, .int .i64 s'.at_, .int .i64 s'.opn, .int .i64 s'.fe, .int .i64 s'.fa]])) ∧ Rd5 (H.set r (.row false 5 [[tv, .int .i64 s'.at_, .int .i64 s'.opn, .int .i64 s'.fe, .int .i64 s'.fa]])) r tv s' :=
 ⟨Mut.then_set (S := (· = r)) (Mut.refl _ _) (.inl rfl) _, AHeap.get_set_same hr.lt⟩
theorem rtok_spec {H : AHeap} {r : Nat} {tv : AV} {s : St} {T : List Tok} (hr : Rd5 H r tv s) (ht : TokSl H tv T) : W (evw P 66 [.ptr r 0 0] H) fun v H' => v = (tokAt T s.at_).v ∧ Pur H H' := by
 unfold Rd5 at hr
 have hl := AHeap.get_lt hr
 refine W_of (fun _ => run66 0) ?_
 by_cases h0 : s.at_ < 0
 ·simp -implicitDefEqProofs (disch := first | assumption | omega | (simp only [nxB]; omega) | (simp only [oneB])) only [s66, xlen, evB, Nat.reduceAdd, Nat.reduceLeDiff, reduceIte, AV.cells, splice, lsB, aload, tyB, astore, tyB, binB, heapB, fa75_0, fa75_1, hr, h0, decide_true, W_some]
  exact ⟨by simp [tokAt, h0, Tok.v, Tok.none], Pur.push _ _⟩
 ·rcases ht with ⟨rfl, rfl⟩ | ⟨l, i, cap, rfl, h23⟩
  ·have h1 : (0 : Int) ≤ s.at_ := by omega
   simp -implicitDefEqProofs (disch := first | assumption | omega | (simp only [nxB]; omega) | (simp only [oneB])) only [s66, xlen, evB, Nat.reduceAdd, Nat.reduceLeDiff, reduceIte, AV.cells, splice, lsB, aload, tyB, astore, tyB, binB, heapB, fa75_0, fa75_1, hr, h0, h1, decide_true, decide_false, W_some, ln22n]
   exact ⟨by simp [tokAt, h0, Tok.v, Tok.none, h1], Pur.push _ _⟩
  ·by_cases h1 : (T.length : Int) ≤ s.at_
   ·simp -implicitDefEqProofs (disch := first | assumption | omega | (simp only [nxB]; omega) | (simp only [oneB])) only [s66, xlen, evB, Nat.reduceAdd, Nat.reduceLeDiff, reduceIte, AV.cells, splice, lsB, aload, tyB, astore, tyB, binB, heapB, fa75_0, fa75_1, hr, h0, h1, decide_true, decide_false, W_some, ln22]
    exact ⟨by simp [tokAt, h0, Tok.v, Tok.none, h1], Pur.push _ _⟩
   ·have hlt : s.at_.toNat < T.length := by omega
    obtain ⟨ro, els, h2, h3⟩ := h23.resolve_left (by rintro rfl; simp at hlt)
    have hl2 := AHeap.get_lt h2
    have h4 := h3 s.at_.toNat T[s.at_.toNat] (by simp [hlt])
    simp only [Tok.cells] at h4
    simp -implicitDefEqProofs (disch := first | assumption | omega | (simp only [nxB]; omega) | (simp only [oneB])) only [s66, xlen, evB, Nat.reduceAdd, Nat.reduceLeDiff, reduceIte, AV.cells, splice, lsB, aload, tyB, astore, tyB, binB, heapB, fa75_0, fa75_1, hr, h0, h1, decide_true, decide_false, W_some, ln22, ia22, h2, h4]
    refine ⟨?_, Pur.push _ _⟩
    simp [tokAt, h0, h1, Tok.v, hlt]
theorem rok_spec {H : AHeap} {r : Nat} {tv : AV} {s : St} (hr : Rd5 H r tv s) : W (evw P 38 [.ptr r 0 0] H) fun v H' => v = .bool (s.fe == 0) ∧ H' = H := by
 unfold Rd5 at hr
 refine W_of (fun _ => run38 0) ?_
 simp -implicitDefEqProofs (disch := first | assumption | omega | (simp only [nxB]; omega) | (simp only [oneB])) only [s38, xlen, AV.cells, splice, aload, astore, Nat.reduceAdd, Nat.reduceLeDiff, reduceIte, allB, hr]
 exact W_some.2 ⟨rfl, rfl⟩
theorem rfail_spec {H : AHeap} {r : Nat} {T : List Tok} {tv : AV} {s : St} (hx : Ry H r T tv s) (e : Int) : W (evw P 65 [.ptr r 0 0, .int .i64 e] H) fun v H' => v = .tuple [] ∧ Mt r H H' ∧ Ry H' r T tv (failS T e s) := by
 refine W_of (fun _ => run65 0) ?_
 have hr := hx.rd
 have ho1 := hx.tk.one
 rw [s65]
 refine W_call (rok_spec hr) ?_
 rintro _ H1 ⟨rfl, rfl⟩
 refine ⟨Nat.le_refl _, ?_⟩
 by_cases h1 : s.fe = 0
 ·rw [show failS T e s = { s with fe := e, fa := (tokAt T s.at_).pos } by simp [failS, h1]]
  simp -implicitDefEqProofs (disch := first | assumption | omega | (simp only [nxB]; omega) | (simp only [oneB])) only [s65, xlen, evB, h1, beq_self_eq_true]
  refine W_call (rtok_spec hr hx.tk) ?_
  rintro _ H2 ⟨rfl, p2⟩
  refine ⟨p2.1, ?_⟩
  have hr2 : Rd5 H2 r tv s := hr.pur p2
  have hr2' := hr2
  unfold Rd5 at hr2'
  simp -implicitDefEqProofs (disch := first | assumption | omega | (simp only [nxB]; omega) | (simp only [oneB])) only [s65, xlen, AV.cells, splice, aload, astore, Nat.reduceAdd, Nat.reduceLeDiff, reduceIte, allB, Tok.v, hr2', ho1]
  obtain ⟨m, hd⟩ := rset hr2 { s with fe := e, fa := (tokAt T s.at_).pos }
  exact W_some.2 ⟨rfl, (p2.mut _).trans m, hx.mut ((p2.mut _).trans m) hd⟩
 ·have h1' : (s.fe == 0) = false := by simpa using h1
  rw [show failS T e s = s by simp [failS, h1]]
  simp -implicitDefEqProofs (disch := first | assumption | omega | (simp only [nxB]; omega) | (simp only [oneB])) only [s65, xlen, evB, h1']
  exact W_some.2 ⟨rfl, Mut.refl _ _, hx⟩
theorem ix9 (s : Bs) (c : UInt8) : aindex P 9 (.str (c :: s)) (.int .i64 0) = some (.int .u8 c.toNat) := by kernel_rfl
theorem ris_end {H0 H : AHeap} {r : Nat} {T : List Tok} {tv : AV} {s : St} (p : Pur H0 H) (hrd : Rd5 H r tv s) {b : Nat} (hb : H.get b = some (.row false 4 [[.int .i64 (tokAt T s.at_).kind, .str (tokAt T s.at_).text, .int .i64 (tokAt T s.at_).n, .int .i64 (tokAt T s.at_).pos]])) (x : Bs) (k : Int) :
  W (s64_j0 (evw P) (.ptr r 0 0) (.str x) (.ptr b 0 0) (.int .i64 k) H) fun v H' => v = .bool (isB T s k x) ∧ Pur H0 H' := by
 rw [s64_j0]
 refine W_call (rok_spec hrd) ?_
 rintro _ H1 ⟨rfl, rfl⟩
 refine ⟨Nat.le_refl _, ?_⟩
 by_cases h1 : s.fe = 0
 ·by_cases h2 : (tokAt T s.at_).kind = k
  ·simp -implicitDefEqProofs (disch := first | assumption | omega | (simp only [nxB]; omega) | (simp only [oneB])) only [s64, xlen, AV.cells, splice, aload, astore, Nat.reduceAdd, Nat.reduceLeDiff, reduceIte, allB, h1, h2, hb, beq_self_eq_true]
   exact W_some.2 ⟨by simp [isB, h1, h2], p⟩
  ·have h2' : ((tokAt T s.at_).kind == k) = false := by simpa using h2
   simp -implicitDefEqProofs (disch := first | assumption | omega | (simp only [nxB]; omega) | (simp only [oneB])) only [s64, xlen, AV.cells, splice, aload, astore, Nat.reduceAdd, Nat.reduceLeDiff, reduceIte, allB, h1, h2', hb, beq_self_eq_true]
   exact W_some.2 ⟨by simp [isB, h1, h2], p⟩
 ·have h1' : (s.fe == 0) = false := by simpa using h1
  simp -implicitDefEqProofs (disch := first | assumption | omega | (simp only [nxB]; omega) | (simp only [oneB])) only [s64, xlen, AV.cells, splice, aload, astore, Nat.reduceAdd, Nat.reduceLeDiff, reduceIte, allB, h1', hb]
  exact W_some.2 ⟨by simp [isB, h1], p⟩
theorem ris_spec {H : AHeap} {r : Nat} {T : List Tok} {tv : AV} {s : St} (hr : Rd5 H r tv s) (ht : TokSl H tv T) (x : Bs) (hx : x ≠ []) : W (evw P 64 [.ptr r 0 0, .str x] H) fun v H' => v = .bool (isR T s x) ∧ Pur H H' := by
 refine W_of (fun _ => run64 0) ?_
 obtain ⟨c, x, rfl⟩ : ∃ c y, x = c :: y := by cases x with
  | nil => exact absurd rfl hx
  | cons c y => exact ⟨c, y, rfl⟩
 rw [s64]
 refine W_call (rtok_spec hr ht) ?_
 rintro _ H1 ⟨rfl, p1⟩
 refine ⟨p1.1, ?_⟩
 have p2 := p1.then_push (.row false 4 [[.int .i64 (tokAt T s.at_).kind, .str (tokAt T s.at_).text, .int .i64 (tokAt T s.at_).n, .int .i64 (tokAt T s.at_).pos]])
 have hb := AHeap.get_push_same H1 (.row false 4 [[.int .i64 (tokAt T s.at_).kind, .str (tokAt T s.at_).text, .int .i64 (tokAt T s.at_).n, .int .i64 (tokAt T s.at_).pos]])
 by_cases h1 : 97 ≤ c.toNat
 ·have h1' : (97 : Int) ≤ (c.toNat : Int) := by omega
  by_cases h2 : c.toNat ≤ 122
  ·have h2' : (c.toNat : Int) ≤ 122 := by omega
   rw [show isR T s (c :: x) = isB T s 3 (c :: x) by simp [isR, kw, h1, h2]]
   simp -implicitDefEqProofs (disch := first | assumption | omega | (simp only [nxB]; omega) | (simp only [oneB])) only [s64, xlen, AV.cells, splice, aload, astore, Nat.reduceAdd, Nat.reduceLeDiff, reduceIte, allB, Tok.v, ix9, h1', h2', decide_true]
   exact ris_end p2 (hr.pur p2) hb _ 3
  ·have h2' : ¬ (c.toNat : Int) ≤ 122 := by omega
   rw [show isR T s (c :: x) = isB T s 4 (c :: x) by simp [isR, kw, h1, h2]]
   simp -implicitDefEqProofs (disch := first | assumption | omega | (simp only [nxB]; omega) | (simp only [oneB])) only [s64, xlen, AV.cells, splice, aload, astore, Nat.reduceAdd, Nat.reduceLeDiff, reduceIte, allB, Tok.v, ix9, h1', h2', decide_true, decide_false]
   exact ris_end p2 (hr.pur p2) hb _ 4
 ·have h1' : ¬ (97 : Int) ≤ (c.toNat : Int) := by omega
  rw [show isR T s (c :: x) = isB T s 4 (c :: x) by simp [isR, kw, h1]]
  simp -implicitDefEqProofs (disch := first | assumption | omega | (simp only [nxB]; omega) | (simp only [oneB])) only [s64, xlen, AV.cells, splice, aload, astore, Nat.reduceAdd, Nat.reduceLeDiff, reduceIte, allB, Tok.v, ix9, h1', decide_false]
  exact ris_end p2 (hr.pur p2) hb _ 4
theorem take_spec {H : AHeap} {r : Nat} {T : List Tok} {tv : AV} {s : St} (hx : Ry H r T tv s) (x : Bs) (hne : x ≠ []) : W (evw P 68 [.ptr r 0 0, .str x] H) fun v H' => v = .tuple [] ∧ Mt r H H' ∧ Ry H' r T tv (takeR T x s) := by
 refine W_of (fun _ => run68 0) ?_
 have ho1 := hx.tk.one
 rw [s68]
 refine W_call (ris_spec hx.rd hx.tk x hne) ?_
 rintro _ H1 ⟨rfl, p1⟩
 refine ⟨p1.1, ?_⟩
 have hr2 := hx.rd.pur p1
 have hr2' := hr2
 unfold Rd5 at hr2'
 cases hb : isR T s x with
 | false =>
  rw [show takeR T x s = failS T 2 s by simp [takeR, hb]]
  simp -implicitDefEqProofs (disch := first | assumption | omega | (simp only [nxB]; omega) | (simp only [oneB])) only [s68, xlen, AV.cells, splice, aload, astore, Nat.reduceAdd, Nat.reduceLeDiff, reduceIte, allB, Bool.not_false]
  refine W_call (rfail_spec (hx.pur p1) 2) ?_
  rintro _ H2 ⟨rfl, m2, hx2⟩
  refine ⟨m2.1, ?_⟩
  try simp only [s68]
  exact W_some.2 ⟨rfl, (p1.mut _).trans m2, hx2⟩
 | true =>
  rw [show takeR T x s = goS s by simp [takeR, hb]]
  simp -implicitDefEqProofs (disch := first | assumption | omega | (simp only [nxB]; omega) | (simp only [oneB])) only [s68, xlen, AV.cells, splice, aload, astore, Nat.reduceAdd, Nat.reduceLeDiff, reduceIte, allB, hr2', ho1, Bool.not_true]
  obtain ⟨m, hd⟩ := rset hr2 (goS s)
  exact W_some.2 ⟨rfl, (p1.mut _).trans m, hx.mut ((p1.mut _).trans m) hd⟩
theorem ropens_spec {H : AHeap} {r : Nat} {T : List Tok} {tv : AV} {s : St} (hx : Ry H r T tv s) (x : Bs) (hne : x ≠ []) : W (evw P 74 [.ptr r 0 0, .str x] H) fun v H' => v = .tuple [] ∧ Mt r H H' ∧ Ry H' r T tv (opensR T x s) := by
 refine W_of (fun _ => run74 0) ?_
 have ho1 := hx.tk.one
 rw [s74]
 refine W_call (ris_spec hx.rd hx.tk x hne) ?_
 rintro _ H1 ⟨rfl, p1⟩
 refine ⟨p1.1, ?_⟩
 have hx1 := hx.pur p1
 have hr2' := hx1.rd
 unfold Rd5 at hr2'
 have more : opensR T x s = inS (takeR T x s) → W (xcall H1 (evw P 68 [.ptr r 0 0, .str x] H1) (s74_9 (.ptr r 0 0))) fun v H' => v = .tuple [] ∧ Mt r H H' ∧ Ry H' r T tv (opensR T x s) := by
  intro he
  rw [he]
  refine W_call (take_spec hx1 x hne) ?_
  rintro _ H2 ⟨rfl, m2, hx2⟩
  refine ⟨m2.1, ?_⟩
  have hr3 := hx2.rd
  have hr3' := hr3
  unfold Rd5 at hr3'
  simp -implicitDefEqProofs (disch := first | assumption | omega | (simp only [nxB]; omega) | (simp only [oneB])) only [s74_9, s74, xlen, AV.cells, splice, aload, astore, Nat.reduceAdd, Nat.reduceLeDiff, reduceIte, allB, hr3', ho1]
  obtain ⟨m, hd⟩ := rset hr3 (inS (takeR T x s))
  exact W_some.2 ⟨rfl, ((p1.mut _).trans m2).trans m, hx.mut (((p1.mut _).trans m2).trans m) hd⟩
 cases hb : isR T s x with
 | false =>
  simp -implicitDefEqProofs (disch := first | assumption | omega | (simp only [nxB]; omega) | (simp only [oneB])) only [s74, xlen, AV.cells, splice, aload, astore, Nat.reduceAdd, Nat.reduceLeDiff, reduceIte, allB]
  exact more (by simp [opensR, hb])
 | true =>
  by_cases ho : 50 ≤ s.opn
  ·rw [show opensR T x s = failS T 4 s by simp [opensR, hb, ho]]
   simp -implicitDefEqProofs (disch := first | assumption | omega | (simp only [nxB]; omega) | (simp only [oneB])) only [s74, xlen, AV.cells, splice, aload, astore, Nat.reduceAdd, Nat.reduceLeDiff, reduceIte, allB, hr2', ho, decide_true]
   refine W_call (rfail_spec hx1 4) ?_
   rintro _ H2 ⟨rfl, m2, hx2⟩
   refine ⟨m2.1, ?_⟩
   try simp only [s74]
   exact W_some.2 ⟨rfl, (p1.mut _).trans m2, hx2⟩
  ·simp -implicitDefEqProofs (disch := first | assumption | omega | (simp only [nxB]; omega) | (simp only [oneB])) only [s74, xlen, AV.cells, splice, aload, astore, Nat.reduceAdd, Nat.reduceLeDiff, reduceIte, allB, hr2', ho, decide_false]
   exact more (by simp [opensR, hb, ho])
theorem rcloses_spec {H : AHeap} {r : Nat} {T : List Tok} {tv : AV} {s : St} (hx : Ry H r T tv s) (x : Bs) (hne : x ≠ []) : W (evw P 75 [.ptr r 0 0, .str x] H) fun v H' => v = .tuple [] ∧ Mt r H H' ∧ Ry H' r T tv (closesR T x s) := by
 refine W_of (fun _ => run75 0) ?_
 have ho1 := hx.tk.one
 rw [s75]
 refine W_call (take_spec hx x hne) ?_
 rintro _ H2 ⟨rfl, m2, hx2⟩
 refine ⟨m2.1, ?_⟩
 have hr3 := hx2.rd
 have hr3' := hr3
 unfold Rd5 at hr3'
 simp -implicitDefEqProofs (disch := first | assumption | omega | (simp only [nxB]; omega) | (simp only [oneB])) only [s75, xlen, AV.cells, splice, aload, astore, Nat.reduceAdd, Nat.reduceLeDiff, reduceIte, allB, hr3', ho1]
 obtain ⟨m, hd⟩ := rset hr3 (outS (takeR T x s))
 exact W_some.2 ⟨rfl, m2.trans m, hx.mut (m2.trans m) hd⟩
theorem rname_spec {H : AHeap} {r : Nat} {T : List Tok} {tv : AV} {s : St} (hx : Ry H r T tv s) : W (evw P 67 [.ptr r 0 0] H) fun v H' => v = .str (nameR T s).1 ∧ Mt r H H' ∧ Ry H' r T tv (nameR T s).2 := by
 refine W_of (fun _ => run67 0) ?_
 have ho1 := hx.tk.one
 have hl := hx.rd.lt
 rw [s67]
 refine W_call (rtok_spec hx.rd hx.tk) ?_
 rintro _ H1 ⟨rfl, p1⟩
 refine ⟨p1.1, ?_⟩
 have p2 := p1.then_push (.row false 4 [[.int .i64 (tokAt T s.at_).kind, .str (tokAt T s.at_).text, .int .i64 (tokAt T s.at_).n, .int .i64 (tokAt T s.at_).pos]])
 have hb := AHeap.get_push_same H1 (.row false 4 [[.int .i64 (tokAt T s.at_).kind, .str (tokAt T s.at_).text, .int .i64 (tokAt T s.at_).n, .int .i64 (tokAt T s.at_).pos]])
 simp -implicitDefEqProofs (disch := first | assumption | omega | (simp only [nxB]; omega) | (simp only [oneB])) only [s67_10, s67, xlen, AV.cells, splice, aload, astore, Nat.reduceAdd, Nat.reduceLeDiff, reduceIte, allB, Tok.v]
 have hx2 := hx.pur p2
 refine W_call (rok_spec hx2.rd) ?_
 rintro _ H3 ⟨rfl, rfl⟩
 refine ⟨Nat.le_refl _, ?_⟩
 have hn1 := p1.1
 have hr2' := hx.rd.pur p1
 unfold Rd5 at hr2'
 have fl : nameR T s = ([], failS T 2 s) → W (xcall (H1.push (.row false 4 [[.int .i64 (tokAt T s.at_).kind, .str (tokAt T s.at_).text, .int .i64 (tokAt T s.at_).n, .int .i64 (tokAt T s.at_).pos]])) (evw P 65 [.ptr r 0 0, .int .i64 2] (H1.push (.row false 4 [[.int .i64 (tokAt T s.at_).kind, .str (tokAt T s.at_).text, .int .i64 (tokAt T s.at_).n, .int .i64 (tokAt T s.at_).pos]]))) s67_10) fun v H' => v = .str (nameR T s).1 ∧ Mt r H H' ∧ Ry H' r T tv (nameR T s).2 := by
  intro he
  rw [he]
  refine W_call (rfail_spec hx2 2) ?_
  rintro _ H4 ⟨rfl, m4, hx4⟩
  refine ⟨m4.1, ?_⟩
  try simp only [s67_10, s67]
  exact W_some.2 ⟨rfl, (p2.mut _).trans m4, hx4⟩
 by_cases h1 : s.fe = 0
 ·by_cases h2 : (tokAt T s.at_).kind = 1
  ·have h1' : (s.fe == 0) = true := by simpa using h1
   have h2' : ((tokAt T s.at_).kind == 1) = true := by simpa using h2
   rw [show nameR T s = ((tokAt T s.at_).text, goS s) by simp [nameR, h1, h2]]
   simp -implicitDefEqProofs (disch := first | assumption | omega | (simp only [nxB]; omega) | (simp only [oneB])) only [s67_10, s67, xlen, AV.cells, splice, aload, astore, Nat.reduceAdd, Nat.reduceLeDiff, reduceIte, allB, h1', h2', hr2', ho1]
   obtain ⟨m, hd⟩ := rset hx2.rd (goS s)
   exact W_some.2 ⟨rfl, (p2.mut _).trans m, hx.mut ((p2.mut _).trans m) hd⟩
  ·have h2' : ((tokAt T s.at_).kind == 1) = false := by simpa using h2
   simp -implicitDefEqProofs (disch := first | assumption | omega | (simp only [nxB]; omega) | (simp only [oneB])) only [s67, xlen, AV.cells, splice, aload, astore, Nat.reduceAdd, Nat.reduceLeDiff, reduceIte, allB, h1, h2', beq_self_eq_true]
   exact fl (by simp [nameR, h2'])
 ·have h1' : (s.fe == 0) = false := by simpa using h1
  simp -implicitDefEqProofs (disch := first | assumption | omega | (simp only [nxB]; omega) | (simp only [oneB])) only [s67, xlen, AV.cells, splice, aload, astore, Nat.reduceAdd, Nat.reduceLeDiff, reduceIte, allB, h1']
  exact fl (by simp [nameR, h1'])
end Go.Proofs.Ytnjoomfeddamcaa

namespace Go.Proofs.Ytnjoomfeddamcaa
open Go.Ev
theorem sl108_5 (l : Nat) (l1 l2 l3 l4 l5 : Nat) : sliceOf P l 108 5 [(0, .sl l1 0 1 1 (some 1)), (1, .sl l2 0 1 1 (some 1)), (2, .sl l3 0 4 1 (some 4)), (3, .sl l4 0 2 1 (some 2)), (4, .sl l5 0 3 1 (some 3))] =
  some (.sl l 0 5 1 (some 5), .row false 1 [[.sl l1 0 1 1 (some 1)], [.sl l2 0 1 1 (some 1)], [.sl l3 0 4 1 (some 4)], [.sl l4 0 2 1 (some 2)], [.sl l5 0 3 1 (some 3)]]) := by kernel_rfl
theorem sl109_5 (l : Nat) (l1 l2 l3 l4 l5 : Nat) : sliceOf P l 109 5 [(0, .sl l1 0 1 1 (some 1)), (1, .sl l2 0 1 1 (some 1)), (2, .sl l3 0 4 1 (some 4)), (3, .sl l4 0 2 1 (some 2)), (4, .sl l5 0 3 1 (some 3))] =
  some (.sl l 0 5 1 (some 5), .row false 1 [[.sl l1 0 1 1 (some 1)], [.sl l2 0 1 1 (some 1)], [.sl l3 0 4 1 (some 4)], [.sl l4 0 2 1 (some 2)], [.sl l5 0 3 1 (some 3)]]) := by kernel_rfl
theorem level_loop {H0 H : AHeap} (p0 : Pur H0 H) {b S K Ls Lk : Nat} {t : Tok} (hb : H.get b = some (.row false 4 [[.int .i64 t.kind, .str t.text, .int .i64 t.n, .int .i64 t.pos]])) {sr kr : List (List AV)} (hS : H.get S = some (.row false 1 sr)) (hK : H.get K = some (.row false 1 kr)) {lev : Nat} (hlev : lev < 5) (all : List (Bs × Int)) (hA : all.length ≤ 1000) {cs ck : Option Nat}
  (hs : sr[lev]? = some [.sl Ls 0 all.length 1 cs]) (hk : kr[lev]? = some [.sl Lk 0 all.length 1 ck]) (hLs : H.get Ls = some (.row false 1 (all.map fun p => [AV.str p.1]))) (hLk : H.get Lk = some (.row false 1 (all.map fun p => [AV.int .i64 p.2]))) (N : Nat) :
  ∀ (rest pre : List (Bs × Int)), all = pre ++ rest → ∀ (n : Nat), rest.length < n →
   W (s70_l1 (evw P) N n (.int .i64 lev) (.ptr b 0 0) (.sl S 0 5 1 (some 5)) (.sl K 0 5 1 (some 5)) (.int .i64 pre.length) H) fun v H' => v = .int .i64 (levL t.text rest) ∧ Pur H0 H' := by
 have h0 : (0 : Int) ≤ (lev : Int) := by omega
 have h5 : (lev : Int) < ((5 : Nat) : Int) := by omega
 have ht : ((lev : Int)).toNat = lev := by omega
 have i1 : aindexAddr P 108 (.sl S 0 5 1 (some 5)) (.int .i64 (lev : Int)) = some (.ptr S lev 0) := by rw [ia108 h0 h5, ht, Nat.zero_add]
 have i2 : aindexAddr P 109 (.sl K 0 5 1 (some 5)) (.int .i64 (lev : Int)) = some (.ptr K lev 0) := by rw [ia109 h0 h5, ht, Nat.zero_add]
 intro rest
 induction rest with
 | nil =>
  intro pre hp n hn
  obtain ⟨n, rfl⟩ : ∃ k, n = k + 1 := ⟨n - 1, by simp at hn; omega⟩
  have h1 : ¬ ((pre.length : Int) < (all.length : Int)) := by rw [hp]; simp
  simp -implicitDefEqProofs (disch := first | assumption | omega | (simp only [nxB]; omega) | (simp only [oneB])) only [s70_l1, s70_j0, s70_b1, s70, xlen, AV.cells, splice, aload, astore, Nat.reduceAdd, Nat.reduceLeDiff, reduceIte, allB, ta46, ta48, i1, hS, hs, h1, decide_false]
  exact W_some.2 ⟨rfl, p0⟩
 | cons q rest ih =>
  intro pre hp n hn
  obtain ⟨x, k⟩ := q
  obtain ⟨n, rfl⟩ : ∃ k, n = k + 1 := ⟨n - 1, by simp at hn; omega⟩
  have h1 : (pre.length : Int) < (all.length : Int) := by rw [hp]; simp; omega
  have hp0 : (0 : Int) ≤ (pre.length : Int) := by omega
  have e1 : ((pre.length : Int)).toNat = pre.length := by omega
  have ea : all[pre.length]? = some (x, k) := by rw [hp]; simp
  have i3 : aindexAddr P 46 (.sl Ls 0 all.length 1 cs) (.int .i64 (pre.length : Int)) = some (.ptr Ls pre.length 0) := by rw [ia46 hp0 h1, e1, Nat.zero_add]
  have i4 : aindexAddr P 48 (.sl Lk 0 all.length 1 ck) (.int .i64 (pre.length : Int)) = some (.ptr Lk pre.length 0) := by rw [ia48 hp0 h1, e1, Nat.zero_add]
  have g1 : (all.map fun p => [AV.str p.1])[pre.length]? = some [.str x] := by rw [List.getElem?_map, ea]; rfl
  have g2 : (all.map fun p => [AV.int .i64 p.2])[pre.length]? = some [.int .i64 k] := by rw [List.getElem?_map, ea]; rfl
  cases hx : x == t.text with
  | true =>
   simp -implicitDefEqProofs (disch := first | assumption | omega | (simp only [nxB]; omega) | (simp only [oneB])) only [s70_l1, s70_j0, s70_b1, s70, xlen, AV.cells, splice, aload, astore, Nat.reduceAdd, Nat.reduceLeDiff, reduceIte, allB, ta46, ta48, i1, i2, i3, i4, hS, hK, hs, hk, hLs, hLk, g1, g2, hb, h1, decide_true, hx]
   exact W_some.2 ⟨by simp [levL, hx], p0⟩
  | false =>
   have hw : IntKind.i64.wrap ((pre.length : Int) + 1) = ((pre ++ [(x, k)]).length : Int) := by
    have hlt : pre.length < all.length := by omega
    rw [wrap_i64 (by omega) (by omega)]; simp
   simp -implicitDefEqProofs (disch := first | assumption | omega | (simp only [nxB]; omega) | (simp only [oneB])) only [s70_l1, s70_j0, s70_b1, s70, xlen, AV.cells, splice, aload, astore, Nat.reduceAdd, Nat.reduceLeDiff, reduceIte, allB, ta46, ta48, i1, i3, hS, hs, hLs, g1, hb, h1, decide_true, hx, hw]
   refine (ih (pre ++ [(x, k)]) (by simp [hp]) n (by simp at hn; omega)).mono ?_
   rintro v H' ⟨rfl, q⟩
   exact ⟨by simp [levL, hx], q⟩
set_option maxHeartbeats 1000000 in
theorem level_spec {H : AHeap} (lev : Nat) (hlev : lev < 5) (t : Tok) : W (evw P 70 [.int .i64 lev, t.v] H) fun v H' => v = .int .i64 (levR lev t) ∧ Pur H H' := by
 refine W_of (fun _ => run70 10) ?_
 have hbx : ∀ l, boxOf l t.v = some (.ptr l 0 0, .row false 4 [[.int .i64 t.kind, .str t.text, .int .i64 t.n, .int .i64 t.pos]]) := fun l => boxOf_agg l _ rfl
 cases hk : t.kind != 4 with
 | true =>
  simp -implicitDefEqProofs (disch := first | assumption | omega | (simp only [nxB]; omega) | (simp only [oneB])) only [s70_j0, s70_b1, s70, xlen, AV.cells, splice, aload, astore, Nat.reduceAdd, Nat.reduceLeDiff, reduceIte, allB, hbx, hk]
  exact W_some.2 ⟨by simp [levR, hk], Pur.push _ _⟩
 | false =>
  simp -implicitDefEqProofs (disch := first | assumption | omega | (simp only [nxB]; omega) | (simp only [oneB])) only [s70_j0, s70, xlen, AV.cells, splice, aload, astore, Nat.reduceAdd, Nat.reduceLeDiff, reduceIte, allB, hbx, hk, sl108_5, sl109_5]
  obtain ⟨all, hall⟩ : ∃ all, lvls[lev]? = some all := ⟨lvls[lev]'(by simpa [lvls] using hlev), by simp [lvls]⟩
  have hlt : all.length < 10 := by
   have : ∀ a ∈ lvls, a.length < 10 := by decide
   exact this all (List.mem_of_getElem? hall)
  have key : ∀ (Hf : AHeap), Pur H Hf → Hf.get H.next = some (.row false 4 [[.int .i64 t.kind, .str t.text, .int .i64 t.n, .int .i64 t.pos]]) → ∀ (S K Ls Lk : Nat) (sr kr : List (List AV)) (cs ck : Option Nat), Hf.get S = some (.row false 1 sr) → Hf.get K = some (.row false 1 kr) → sr[lev]? = some [.sl Ls 0 all.length 1 cs] → kr[lev]? = some [.sl Lk 0 all.length 1 ck] →
    Hf.get Ls = some (.row false 1 (all.map fun p => [AV.str p.1])) → Hf.get Lk = some (.row false 1 (all.map fun p => [AV.int .i64 p.2])) →
    W (s70_l1 (evw P) 10 10 (.int .i64 lev) (.ptr H.next 0 0) (.sl S 0 5 1 (some 5)) (.sl K 0 5 1 (some 5)) (.int .i64 0) Hf) fun v H' => v = .int .i64 (levR lev t) ∧ Pur H H' := by
   intro Hf p hb S K Ls Lk sr kr cs ck h1 h2 h3 h4 h5 h6
   refine (level_loop p hb h1 h2 hlev all (by omega) h3 h4 h5 h6 10 all [] rfl 10 hlt).mono ?_
   rintro v H' ⟨rfl, q⟩
   exact ⟨by simp [levR, hk, hall], q⟩
  have h5 : lev = 0 ∨ lev = 1 ∨ lev = 2 ∨ lev = 3 ∨ lev = 4 := by omega
  rcases h5 with rfl | rfl | rfl | rfl | rfl <;> (simp only [lvls, List.getElem?_cons_zero, List.getElem?_cons_succ, Option.some.injEq] at hall; subst hall)
  ·refine key _ ?_ ?_ (H.next + 1 + 1 + 1 + 1 + 1 + 1) (H.next + 1 + 1 + 1 + 1 + 1 + 1 + 1 + 1 + 1 + 1 + 1 + 1) (H.next + 1) (H.next + 1 + 1 + 1 + 1 + 1 + 1 + 1) [[.sl (H.next + 1) 0 1 1 (some 1)], [.sl (H.next + 1 + 1) 0 1 1 (some 1)], [.sl (H.next + 1 + 1 + 1) 0 4 1 (some 4)], [.sl (H.next + 1 + 1 + 1 + 1) 0 2 1 (some 2)], [.sl (H.next + 1 + 1 + 1 + 1 + 1) 0 3 1 (some 3)]] [[.sl (H.next + 1 + 1 + 1 + 1 + 1 + 1 + 1) 0 1 1 (some 1)], [.sl (H.next + 1 + 1 + 1 + 1 + 1 + 1 + 1 + 1) 0 1 1 (some 1)], [.sl (H.next + 1 + 1 + 1 + 1 + 1 + 1 + 1 + 1 + 1) 0 4 1 (some 4)], [.sl (H.next + 1 + 1 + 1 + 1 + 1 + 1 + 1 + 1 + 1 + 1) 0 2 1 (some 2)], [.sl (H.next + 1 + 1 + 1 + 1 + 1 + 1 + 1 + 1 + 1 + 1 + 1) 0 3 1 (some 3)]] (some 1) (some 1) ?_ ?_ rfl rfl ?_ ?_
   ·exact ((((((((((((Pur.push H _).then_push _).then_push _).then_push _).then_push _).then_push _).then_push _).then_push _).then_push _).then_push _).then_push _).then_push _).then_push _
   all_goals (simp -implicitDefEqProofs (disch := first | assumption | omega | (simp only [nxB]; omega) | (simp only [oneB])) only [heapB]; try rfl)
  ·refine key _ ?_ ?_ (H.next + 1 + 1 + 1 + 1 + 1 + 1) (H.next + 1 + 1 + 1 + 1 + 1 + 1 + 1 + 1 + 1 + 1 + 1 + 1) (H.next + 1 + 1) (H.next + 1 + 1 + 1 + 1 + 1 + 1 + 1 + 1) [[.sl (H.next + 1) 0 1 1 (some 1)], [.sl (H.next + 1 + 1) 0 1 1 (some 1)], [.sl (H.next + 1 + 1 + 1) 0 4 1 (some 4)], [.sl (H.next + 1 + 1 + 1 + 1) 0 2 1 (some 2)], [.sl (H.next + 1 + 1 + 1 + 1 + 1) 0 3 1 (some 3)]] [[.sl (H.next + 1 + 1 + 1 + 1 + 1 + 1 + 1) 0 1 1 (some 1)], [.sl (H.next + 1 + 1 + 1 + 1 + 1 + 1 + 1 + 1) 0 1 1 (some 1)], [.sl (H.next + 1 + 1 + 1 + 1 + 1 + 1 + 1 + 1 + 1) 0 4 1 (some 4)], [.sl (H.next + 1 + 1 + 1 + 1 + 1 + 1 + 1 + 1 + 1 + 1) 0 2 1 (some 2)], [.sl (H.next + 1 + 1 + 1 + 1 + 1 + 1 + 1 + 1 + 1 + 1 + 1) 0 3 1 (some 3)]] (some 1) (some 1) ?_ ?_ rfl rfl ?_ ?_
   ·exact ((((((((((((Pur.push H _).then_push _).then_push _).then_push _).then_push _).then_push _).then_push _).then_push _).then_push _).then_push _).then_push _).then_push _).then_push _
   all_goals (simp -implicitDefEqProofs (disch := first | assumption | omega | (simp only [nxB]; omega) | (simp only [oneB])) only [heapB]; try rfl)
  ·refine key _ ?_ ?_ (H.next + 1 + 1 + 1 + 1 + 1 + 1) (H.next + 1 + 1 + 1 + 1 + 1 + 1 + 1 + 1 + 1 + 1 + 1 + 1) (H.next + 1 + 1 + 1) (H.next + 1 + 1 + 1 + 1 + 1 + 1 + 1 + 1 + 1) [[.sl (H.next + 1) 0 1 1 (some 1)], [.sl (H.next + 1 + 1) 0 1 1 (some 1)], [.sl (H.next + 1 + 1 + 1) 0 4 1 (some 4)], [.sl (H.next + 1 + 1 + 1 + 1) 0 2 1 (some 2)], [.sl (H.next + 1 + 1 + 1 + 1 + 1) 0 3 1 (some 3)]] [[.sl (H.next + 1 + 1 + 1 + 1 + 1 + 1 + 1) 0 1 1 (some 1)], [.sl (H.next + 1 + 1 + 1 + 1 + 1 + 1 + 1 + 1) 0 1 1 (some 1)], [.sl (H.next + 1 + 1 + 1 + 1 + 1 + 1 + 1 + 1 + 1) 0 4 1 (some 4)], [.sl (H.next + 1 + 1 + 1 + 1 + 1 + 1 + 1 + 1 + 1 + 1) 0 2 1 (some 2)], [.sl (H.next + 1 + 1 + 1 + 1 + 1 + 1 + 1 + 1 + 1 + 1 + 1) 0 3 1 (some 3)]] (some 4) (some 4) ?_ ?_ rfl rfl ?_ ?_
   ·exact ((((((((((((Pur.push H _).then_push _).then_push _).then_push _).then_push _).then_push _).then_push _).then_push _).then_push _).then_push _).then_push _).then_push _).then_push _
   all_goals (simp -implicitDefEqProofs (disch := first | assumption | omega | (simp only [nxB]; omega) | (simp only [oneB])) only [heapB]; try rfl)
  ·refine key _ ?_ ?_ (H.next + 1 + 1 + 1 + 1 + 1 + 1) (H.next + 1 + 1 + 1 + 1 + 1 + 1 + 1 + 1 + 1 + 1 + 1 + 1) (H.next + 1 + 1 + 1 + 1) (H.next + 1 + 1 + 1 + 1 + 1 + 1 + 1 + 1 + 1 + 1) [[.sl (H.next + 1) 0 1 1 (some 1)], [.sl (H.next + 1 + 1) 0 1 1 (some 1)], [.sl (H.next + 1 + 1 + 1) 0 4 1 (some 4)], [.sl (H.next + 1 + 1 + 1 + 1) 0 2 1 (some 2)], [.sl (H.next + 1 + 1 + 1 + 1 + 1) 0 3 1 (some 3)]] [[.sl (H.next + 1 + 1 + 1 + 1 + 1 + 1 + 1) 0 1 1 (some 1)], [.sl (H.next + 1 + 1 + 1 + 1 + 1 + 1 + 1 + 1) 0 1 1 (some 1)], [.sl (H.next + 1 + 1 + 1 + 1 + 1 + 1 + 1 + 1 + 1) 0 4 1 (some 4)], [.sl (H.next + 1 + 1 + 1 + 1 + 1 + 1 + 1 + 1 + 1 + 1) 0 2 1 (some 2)], [.sl (H.next + 1 + 1 + 1 + 1 + 1 + 1 + 1 + 1 + 1 + 1 + 1) 0 3 1 (some 3)]] (some 2) (some 2) ?_ ?_ rfl rfl ?_ ?_
   ·exact ((((((((((((Pur.push H _).then_push _).then_push _).then_push _).then_push _).then_push _).then_push _).then_push _).then_push _).then_push _).then_push _).then_push _).then_push _
   all_goals (simp -implicitDefEqProofs (disch := first | assumption | omega | (simp only [nxB]; omega) | (simp only [oneB])) only [heapB]; try rfl)
  ·refine key _ ?_ ?_ (H.next + 1 + 1 + 1 + 1 + 1 + 1) (H.next + 1 + 1 + 1 + 1 + 1 + 1 + 1 + 1 + 1 + 1 + 1 + 1) (H.next + 1 + 1 + 1 + 1 + 1) (H.next + 1 + 1 + 1 + 1 + 1 + 1 + 1 + 1 + 1 + 1 + 1) [[.sl (H.next + 1) 0 1 1 (some 1)], [.sl (H.next + 1 + 1) 0 1 1 (some 1)], [.sl (H.next + 1 + 1 + 1) 0 4 1 (some 4)], [.sl (H.next + 1 + 1 + 1 + 1) 0 2 1 (some 2)], [.sl (H.next + 1 + 1 + 1 + 1 + 1) 0 3 1 (some 3)]] [[.sl (H.next + 1 + 1 + 1 + 1 + 1 + 1 + 1) 0 1 1 (some 1)], [.sl (H.next + 1 + 1 + 1 + 1 + 1 + 1 + 1 + 1) 0 1 1 (some 1)], [.sl (H.next + 1 + 1 + 1 + 1 + 1 + 1 + 1 + 1 + 1) 0 4 1 (some 4)], [.sl (H.next + 1 + 1 + 1 + 1 + 1 + 1 + 1 + 1 + 1 + 1) 0 2 1 (some 2)], [.sl (H.next + 1 + 1 + 1 + 1 + 1 + 1 + 1 + 1 + 1 + 1 + 1) 0 3 1 (some 3)]] (some 3) (some 3) ?_ ?_ rfl rfl ?_ ?_
   ·exact ((((((((((((Pur.push H _).then_push _).then_push _).then_push _).then_push _).then_push _).then_push _).then_push _).then_push _).then_push _).then_push _).then_push _).then_push _
   all_goals (simp -implicitDefEqProofs (disch := first | assumption | omega | (simp only [nxB]; omega) | (simp only [oneB])) only [heapB]; try rfl)
end Go.Proofs.Ytnjoomfeddamcaa

namespace Go.Proofs.Ytnjoomfeddamcaa
open Go.Ev
theorem rof_take {r : Nat} {T : List Tok} {tv : AV} {H0 : AHeap} {s0 : St} (hx0 : Ry H0 r T tv s0) {b t : Nat} (hb : H0.next ≤ b) (ht : H0.next ≤ t) (hbt : b ≠ t) {x : Bs} (d : Nat) (hd : d ≤ 1000) (N : Nat) :
  ∀ (j i : Nat), i + j = d → ∀ (m : Nat) (H : AHeap) (s : St), j < m → Mt r H0 H → Rd5 H r tv s → H.get b = some (.row false 2 [[.str [], .int .i64 0]]) → H.get t = some (.row false 2 [[.str x, .int .i64 d]]) →
   W (s37_l3 (evw P) N m (.ptr r 0 0) (.ptr b 0 0) (.int .i64 d) (.ptr t 0 0) (.int .i64 i) H) fun v H' => v = .agg [.str x, .int .i64 d] ∧ Mt r H0 H' ∧ Ry H' r T tv (takeN T [93] j s)
 | 0, i, hi, 0, H, s, hm, mt, hd', hgb, hgt => by omega
 | 0, i, hi, m + 1, H, s, hm, mt, hd', hgb, hgt => by
  have h1 : ¬ ((i : Int) < (d : Int)) := by omega
  have hlb := AHeap.get_lt hgb
  simp -implicitDefEqProofs (disch := first | assumption | omega | (simp only [nxB]; omega) | (simp only [oneB])) only [s37_l3, s37_j2, s37_b3, s37_j1, s37_j4, s37_j0, s37_b5, s37, xlen, AV.cells, splice, aload, astore, Nat.reduceAdd, Nat.reduceLeDiff, reduceIte, allB, h1, decide_false, hgb, hgt]
  exact W_some.2 ⟨rfl, mt.then_set (.inr hb) _, hx0.mut (mt.then_set (.inr hb) _) (by
   have := hx0.rd.lt
   unfold Rd5 at hd' ⊢; rw [AHeap.get_set_other (by omega)]; exact hd')⟩
 | j + 1, i, hi, 0, H, s, hm, mt, hd', hgb, hgt => by omega
 | j + 1, i, hi, m + 1, H, s, hm, mt, hd', hgb, hgt => by
  have h1 : ((i : Int) < (d : Int)) := by omega
  have hlr := hx0.rd.lt
  simp -implicitDefEqProofs (disch := first | assumption | omega | (simp only [nxB]; omega) | (simp only [oneB])) only [s37_l3, s37_j2, s37_b3, s37_j1, s37_j4, s37_j0, s37_b5, s37, xlen, AV.cells, splice, aload, astore, Nat.reduceAdd, Nat.reduceLeDiff, reduceIte, allB, h1, decide_true]
  refine W_call (take_spec (hx0.mut mt hd') [93] (by simp)) ?_
  rintro _ H2 ⟨rfl, m2, hx2⟩
  refine ⟨m2.1, ?_⟩
  have hw : IntKind.i64.wrap ((i : Int) + 1) = ((i + 1 : Nat) : Int) := by rw [wrap_i64 (by omega) (by omega)]; simp
  simp -implicitDefEqProofs (disch := first | assumption | omega | (simp only [nxB]; omega) | (simp only [oneB])) only [s37_j2, s37_b3, s37_j1, s37_j4, s37_j0, s37_b5, s37, xlen, AV.cells, splice, aload, astore, Nat.reduceAdd, Nat.reduceLeDiff, reduceIte, allB, hw]
  refine (rof_take hx0 hb ht hbt d hd N j (i + 1) (by omega) m H2 _ (by omega) (mt.trans m2) hx2.rd (m2.get hgb (by omega)) (m2.get hgt (by omega))).mono ?_
  rintro v H' ⟨rfl, q1, q2⟩
  exact ⟨rfl, q1, q2⟩
theorem rof_mid {r : Nat} {T : List Tok} {tv : AV} {H0 : AHeap} {s0 : St} (hx0 : Ry H0 r T tv s0) {b t : Nat} (hb : H0.next ≤ b) (ht : H0.next ≤ t) (hbt : b ≠ t) (d : Nat) (hd : d ≤ 1000) (N : Nat) (hN : d < N) {H : AHeap} {s : St} (mt : Mt r H0 H) (hrd : Rd5 H r tv s) (hgb : H.get b = some (.row false 2 [[.str [], .int .i64 0]]))
  (hgt : H.get t = some (.row false 2 [[.str [], .int .i64 d]])) {c : Bool} (hc : (isR T s [105, 110, 116] || isR T s [98, 111, 111, 108]) = c) :
  W (s37_j4 (evw P) N (.ptr r 0 0) (.ptr b 0 0) (.int .i64 d) (.ptr t 0 0) (.bool c) H) fun v H' => v = .agg [.str (ofRE T d s).1.1, .int .i64 (ofRE T d s).1.2] ∧ Mt r H0 H' ∧ Ry H' r T tv (ofRE T d s).2 := by
 have hlr := hx0.rd.lt
 have hlb := AHeap.get_lt hgb
 have hlt := AHeap.get_lt hgt
 have hle := mt.1
 have hx := hx0.mut mt hrd
 have ho1 := hx.tk.one
 cases c with
 | true =>
  rw [show ofRE T d s = (((tokAt T s.at_).text, (d : Int)), takeN T [93] d (goS s)) by simp [ofRE, hc]]
  simp -implicitDefEqProofs (disch := first | assumption | omega | (simp only [nxB]; omega) | (simp only [oneB])) only [s37_j2, s37_b3, s37_j4, s37_j0, s37_b5, s37, xlen, AV.cells, splice, aload, astore, Nat.reduceAdd, Nat.reduceLeDiff, reduceIte, allB]
  refine W_call (rtok_spec hrd hx.tk) ?_
  rintro _ H1 ⟨rfl, p1⟩
  refine ⟨p1.1, ?_⟩
  have hgt1 := p1.get hgt
  have hlt1 := AHeap.get_lt hgt1
  have hr1 := hrd.pur p1
  have hr1' := hr1
  unfold Rd5 at hr1'
  have hlr1 := hr1.lt
  simp -implicitDefEqProofs (disch := first | assumption | omega | (simp only [nxB]; omega) | (simp only [oneB])) only [s37_j2, s37_b3, s37_j4, s37_j0, s37_b5, s37, xlen, AV.cells, splice, aload, astore, Nat.reduceAdd, Nat.reduceLeDiff, reduceIte, allB, Tok.v, hgt1, hr1', ho1]
  simp only [s37_j1]
  have m2 : Mt r H0 (H1.set t (.row false 2 [[.str (tokAt T s.at_).text, .int .i64 d]])) := (mt.trans (p1.mut _)).then_set (.inr ht) _
  have hr2 : Rd5 (H1.set t (.row false 2 [[.str (tokAt T s.at_).text, .int .i64 d]])) r tv s := by
   unfold Rd5; rw [AHeap.get_set_other (by omega)]; exact hr1'
  obtain ⟨m3, hd3⟩ := rset hr2 (goS s)
  refine rof_take hx0 hb ht hbt d hd N d 0 (by omega) N _ _ hN (m2.trans m3) hd3 (m3.get ?_ (by omega)) (m3.get (AHeap.get_set_same hlt1) (by omega))
  rw [AHeap.get_set_other (by omega)]; exact p1.get hgb
 | false =>
  rw [show ofRE T d s = (((nameR T s).1, (d : Int)), takeN T [93] d (nameR T s).2) by simp [ofRE, hc]]
  simp -implicitDefEqProofs (disch := first | assumption | omega | (simp only [nxB]; omega) | (simp only [oneB])) only [s37_j2, s37_b3, s37_j4, s37_j0, s37_b5, s37, xlen, AV.cells, splice, aload, astore, Nat.reduceAdd, Nat.reduceLeDiff, reduceIte, allB]
  refine W_call (rname_spec hx) ?_
  rintro _ H1 ⟨rfl, m1, hx1⟩
  refine ⟨m1.1, ?_⟩
  have hgt1 := m1.get hgt (by omega)
  have hlt1 := AHeap.get_lt hgt1
  simp -implicitDefEqProofs (disch := first | assumption | omega | (simp only [nxB]; omega) | (simp only [oneB])) only [s37_j2, s37_b3, s37_j4, s37_j0, s37_b5, s37, xlen, AV.cells, splice, aload, astore, Nat.reduceAdd, Nat.reduceLeDiff, reduceIte, allB, hgt1]
  simp only [s37_j1]
  refine rof_take hx0 hb ht hbt d hd N d 0 (by omega) N _ _ hN ((mt.trans m1).then_set (.inr ht) _) ?_ ?_ (AHeap.get_set_same hlt1)
  ·have := hx1.rd
   unfold Rd5 at this ⊢; rw [AHeap.get_set_other (by omega)]; exact this
  ·rw [AHeap.get_set_other (by omega)]; exact m1.get hgb (by omega)
theorem rof_end {r : Nat} {T : List Tok} {tv : AV} {H0 : AHeap} {s0 : St} (hx0 : Ry H0 r T tv s0) {b : Nat} (hb : H0.next ≤ b) (d : Nat) (hd : d ≤ 1000) (N : Nat) (hN : d < N) {H : AHeap} {s : St} (mt : Mt r H0 H) (hrd : Rd5 H r tv s) (hgb : H.get b = some (.row false 2 [[.str [], .int .i64 0]])) :
  W (s37_j0 (evw P) N (.ptr r 0 0) (.ptr b 0 0) (.int .i64 d) H) fun v H' => v = .agg [.str (ofRE T d s).1.1, .int .i64 (ofRE T d s).1.2] ∧ Mt r H0 H' ∧ Ry H' r T tv (ofRE T d s).2 := by
 have hlr := hx0.rd.lt
 have hlb := AHeap.get_lt hgb
 have hle := mt.1
 have hx := hx0.mut mt hrd
 simp -implicitDefEqProofs (disch := first | assumption | omega | (simp only [nxB]; omega) | (simp only [oneB])) only [s37_j2, s37_b3, s37_j0, s37_b5, s37, xlen, AV.cells, splice, aload, astore, Nat.reduceAdd, Nat.reduceLeDiff, reduceIte, allB]
 have p1 := Pur.push H (.row false 2 [[.str [], .int .i64 d]])
 have hgt := AHeap.get_push_same H (.row false 2 [[.str [], .int .i64 d]])
 refine W_call (ris_spec (hrd.pur p1) (hx.tk.pur p1) _ (by simp)) ?_
 rintro _ H2 ⟨rfl, p2⟩
 refine ⟨p2.1, ?_⟩
 have p3 := p1.trans p2
 cases hi : isR T s [105, 110, 116] with
 | true =>
  simp -implicitDefEqProofs (disch := first | assumption | omega | (simp only [nxB]; omega) | (simp only [oneB])) only [s37_j2, s37_b3, s37_j0, s37_b5, s37, xlen, AV.cells, splice, aload, astore, Nat.reduceAdd, Nat.reduceLeDiff, reduceIte, allB]
  exact rof_mid hx0 hb (by omega) (by omega) d hd N hN (mt.trans (p3.mut _)) (hrd.pur p3) (p3.get hgb) (p2.get hgt) (by simp [hi])
 | false =>
  simp -implicitDefEqProofs (disch := first | assumption | omega | (simp only [nxB]; omega) | (simp only [oneB])) only [s37_j2, s37_b3, s37_j0, s37_b5, s37, xlen, AV.cells, splice, aload, astore, Nat.reduceAdd, Nat.reduceLeDiff, reduceIte, allB]
  refine W_call (ris_spec (hrd.pur p3) (hx.tk.pur p3) _ (by simp)) ?_
  rintro _ H4 ⟨rfl, p4⟩
  refine ⟨p4.1, ?_⟩
  have p5 := p3.trans p4
  try simp only [s37_j2, s37_b3, s37_j0, s37_b5, s37]
  exact rof_mid hx0 hb (by omega) (by omega) d hd N hN (mt.trans (p5.mut _)) (hrd.pur p5) (p5.get hgb) ((p2.trans p4).get hgt) (by simp [hi])
theorem rof_loop {r : Nat} {T : List Tok} {tv : AV} {H0 : AHeap} {s0 : St} (hx0 : Ry H0 r T tv s0) {b : Nat} (hb : H0.next ≤ b) (N : Nat) (hN : 3 < N) :
  ∀ (n d : Nat), n + d = 3 → ∀ (m : Nat) (H : AHeap) (s : St), n < m → Mt r H0 H → Rd5 H r tv s → H.get b = some (.row false 2 [[.str [], .int .i64 0]]) →
   W (s37_l5 (evw P) N m (.ptr r 0 0) (.ptr b 0 0) (.int .i64 d) H) fun v H' => ∃ p : (Bs × Int) × St, p = (match ofRL T n d s with | .inr s' => (([], 0), s') | .inl (d, s') => ofRE T d s') ∧ v = .agg [.str p.1.1, .int .i64 p.1.2] ∧ Mt r H0 H' ∧ Ry H' r T tv p.2 := by
 intro n
 induction n with
 | zero =>
  intro d hd m H s hm mt hrd hgb
  obtain ⟨m, rfl⟩ : ∃ k, m = k + 1 := ⟨m - 1, by omega⟩
  have hd3 : d = 3 := by omega
  subst hd3
  have hx := hx0.mut mt hrd
  have hlr := hx0.rd.lt
  have hlb := AHeap.get_lt hgb
  simp only [s37_l5]
  rw [s37_b5]
  refine W_call (ris_spec hrd hx.tk [91] (by simp)) ?_
  rintro _ H1 ⟨rfl, p1⟩
  refine ⟨p1.1, ?_⟩
  have hgb1 := p1.get hgb
  cases hi : isR T s [91] with
  | true =>
   simp -implicitDefEqProofs (disch := first | assumption | omega | (simp only [nxB]; omega) | (simp only [oneB])) only [s37_j2, s37_b3, s37_j1, s37_j4, s37_b5, s37, xlen, AV.cells, splice, aload, astore, Nat.reduceAdd, Nat.reduceLeDiff, reduceIte, allB, beq_self_eq_true, Int.cast_ofNat_Int]
   refine W_call (rfail_spec (hx.pur p1) 4) ?_
   rintro _ H2 ⟨rfl, m2, hx2⟩
   refine ⟨m2.1, ?_⟩
   have hgb2 := m2.get hgb1 (by omega)
   have hlb2 := AHeap.get_lt hgb2
   simp -implicitDefEqProofs (disch := first | assumption | omega | (simp only [nxB]; omega) | (simp only [oneB])) only [s37_j2, s37_b3, s37_j1, s37_j4, s37_b5, s37, xlen, AV.cells, splice, aload, astore, Nat.reduceAdd, Nat.reduceLeDiff, reduceIte, allB, hgb2]
   have m3 := ((mt.trans (p1.mut _)).trans m2).then_set (.inr hb) (.row false 2 [[.str [], .int .i64 0]])
   refine W_some.2 ⟨(([], 0), failS T 4 s), by simp [ofRL, hi], rfl, m3, hx0.mut m3 ?_⟩
   have := hx2.rd
   unfold Rd5 at this ⊢
   rw [AHeap.get_set_other (by omega)]; exact this
  | false =>
   simp -implicitDefEqProofs (disch := first | assumption | omega | (simp only [nxB]; omega) | (simp only [oneB])) only [s37_j2, s37_b3, s37_j1, s37_j4, s37_b5, s37, xlen, AV.cells, splice, aload, astore, Nat.reduceAdd, Nat.reduceLeDiff, reduceIte, allB]
   refine (rof_end hx0 hb 3 (by omega) N hN (mt.trans (p1.mut _)) (hrd.pur p1) hgb1).mono ?_
   rintro v H' ⟨rfl, q1, q2⟩
   exact ⟨ofRE T 3 s, by simp [ofRL, hi], rfl, q1, q2⟩
 | succ n ih =>
  intro d hd m H s hm mt hrd hgb
  obtain ⟨m, rfl⟩ : ∃ k, m = k + 1 := ⟨m - 1, by omega⟩
  have hx := hx0.mut mt hrd
  have hlr := hx0.rd.lt
  have hlb := AHeap.get_lt hgb
  have ho1 := hx.tk.one
  simp only [s37_l5]
  rw [s37_b5]
  refine W_call (ris_spec hrd hx.tk [91] (by simp)) ?_
  rintro _ H1 ⟨rfl, p1⟩
  refine ⟨p1.1, ?_⟩
  have hgb1 := p1.get hgb
  have hrd1 := hrd.pur p1
  have hrd1' := hrd1
  unfold Rd5 at hrd1'
  cases hi : isR T s [91] with
  | true =>
   have h3 : ((d : Int) == 3) = false := by simp; omega
   have hw : IntKind.i64.wrap ((d : Int) + 1) = ((d + 1 : Nat) : Int) := by rw [wrap_i64 (by omega) (by omega)]; simp
   obtain ⟨m2, hd2⟩ := rset hrd1 (goS s)
   simp -implicitDefEqProofs (disch := first | assumption | omega | (simp only [nxB]; omega) | (simp only [oneB])) only [s37_j2, s37_b3, s37_j1, s37_j4, s37, xlen, AV.cells, splice, aload, astore, Nat.reduceAdd, Nat.reduceLeDiff, reduceIte, allB, h3, hw, hrd1', ho1]
   refine (ih (d + 1) (by omega) m _ _ (by omega) ((mt.trans (p1.mut _)).trans m2) hd2 (m2.get hgb1 (by omega))).mono ?_
   rintro v H' ⟨p, hp, rfl, q1, q2⟩
   exact ⟨p, by rw [hp]; simp [ofRL, hi], rfl, q1, q2⟩
  | false =>
   simp -implicitDefEqProofs (disch := first | assumption | omega | (simp only [nxB]; omega) | (simp only [oneB])) only [s37_j2, s37_b3, s37_j1, s37_j4, s37, xlen, AV.cells, splice, aload, astore, Nat.reduceAdd, Nat.reduceLeDiff, reduceIte, allB]
   refine (rof_end hx0 hb d (by omega) N (by omega) (mt.trans (p1.mut _)) (hrd.pur p1) hgb1).mono ?_
   rintro v H' ⟨rfl, q1, q2⟩
   exact ⟨ofRE T d s, by simp [ofRL, hi], rfl, q1, q2⟩
theorem rof_spec {H : AHeap} {r : Nat} {T : List Tok} {tv : AV} {s : St} (hx : Ry H r T tv s) : W (evw P 37 [.ptr r 0 0] H) fun v H' => v = .agg [.str (ofR T s).1.1, .int .i64 (ofR T s).1.2] ∧ Mt r H H' ∧ Ry H' r T tv (ofR T s).2 := by
 refine W_of (fun _ => run37 10) ?_
 simp only [s37_j2, s37_b3, s37_j1, s37_j4, s37, xalloc]
 have p := Pur.push H (.row false 2 [[.str [], .int .i64 0]])
 refine (rof_loop hx (Nat.le_refl _) 10 (by omega) 3 0 rfl 10 _ s (by omega) (p.mut _) (hx.rd.pur p) (AHeap.get_push_same _ _)).mono ?_
 rintro v H' ⟨q, hq, rfl, q1, q2⟩
 have : q = ofR T s := by rw [hq]; rfl
 subst this
 exact ⟨rfl, q1, q2⟩
end Go.Proofs.Ytnjoomfeddamcaa


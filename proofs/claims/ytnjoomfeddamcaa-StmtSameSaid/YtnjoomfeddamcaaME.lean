/-
  Texts of one proof, laid together: ShB Tab.
-/
import Derived.Test.YtnjoomfeddamcaaMD
set_option linter.unusedVariables false
set_option linter.unusedSimpArgs false
namespace Go.Proofs.Ytnjoomfeddamcaa
open Go.Ev
set_option maxRecDepth 100000
noncomputable section
def s36 (G : CallT) (x0 : AV) (H : AHeap) : O :=
 xb (anil x0) fun x4 =>
 xb (afieldAddr P 71 x4 4) fun x5 =>
 xb (afieldAddr P 25 x5 0) fun x6 =>
 xb (aload P H 23 x6) fun x7 =>
 xb (fbin P .neq 23 true x7 (.int .i64 0)) fun x8 =>
 some (x8, H)
theorem s36_eq (G : CallT) (N : Nat) (x0 : AV) (H : AHeap) : cF Try.f36 G N (argsF [x0]) H = s36 G x0 H := by
 refine via_top (A := cF Try.f36 G N) (via_leaf _) ?_
 delta s36
 kernel_rfl
theorem run36 (N : Nat) {x0 : AV} {H : AHeap} {r : AV × AHeap} (h : s36 (evw P) x0 H = some r) : evw P 36 [x0] H = some r :=
 runF Try.func36 (by kernel_rfl) (by kernel_rfl) (by kernel_rfl) ((s36_eq (evw P) N x0 H).trans h)
def s60 (G : CallT) (x0 x1 x2 : AV) (H : AHeap) : O :=
 xcall H (G 62 [x0] H) fun x9 h1 =>
 xalloc h1 [(.int .i64 0), (.str []), (.int .i64 0), (.int .i64 0)] fun x7 h2 =>
 xstore h2 (astore P h2 65 x7 x9) fun h3 =>
 xcall h3 (G 36 [x0] h3) fun x11 h4 =>
 xb (aun .not x11) fun x12 =>
 xg x12 true h4 (qp (afieldAddr P 65 x7 0)) fun x14 h5 =>
 xg x12 true h5 (qr (aload P h5 3 x14)) fun x15 h6 =>
 xg x12 true h6 (qv x1) fun x16 h7 =>
 xg x12 true h7 (qp (fbin P .eql 3 false x15 x16)) fun x17 h8 =>
 xb (pickOf x12 (some x17) (some (.bool false))) fun x18 =>
 xg x18 true h8 (qp (afieldAddr P 65 x7 1)) fun x20 h9 =>
 xg x18 true h9 (qr (aload P h9 9 x20)) fun x21 h10 =>
 xg x18 true h10 (qv x2) fun x22 h11 =>
 xg x18 true h11 (qp (fbin P .eql 9 false x21 x22)) fun x23 h12 =>
 xb (pickOf x18 (some x23) (some (.bool false))) fun x24 =>
 some (x24, h12)
theorem s60_eq (G : CallT) (N : Nat) (x0 : AV) (x1 : AV) (x2 : AV) (H : AHeap) : cF Try.f60 G N (argsF [x0, x1, x2]) H = s60 G x0 x1 x2 H := by
 refine via_top (A := cF Try.f60 G N) (via_leaf _) ?_
 delta s60
 kernel_rfl
theorem run60 (N : Nat) {x0 x1 x2 : AV} {H : AHeap} {r : AV × AHeap} (h : s60 (evw P) x0 x1 x2 H = some r) : evw P 60 [x0, x1, x2] H = some r :=
 runF Try.func60 (by kernel_rfl) (by kernel_rfl) (by kernel_rfl) ((s60_eq (evw P) N x0 x1 x2 H).trans h)
def s61_j0 (G : CallT) (H : AHeap) : O :=
 some ((.bool false), H)
theorem s61_j0_eq (G : CallT) (N : Nat) : ∀ R H, codeC P G N (Code.snd (Code.snd (bodyOf Try.f61))) (rC Try.f61) [] (rC Try.f61) R H = s61_j0 G H := by
 refine via_trans (via_leaf _) fun R H => ?_
 delta s61_j0
 kernel_rfl
def s61 (G : CallT) (x0 x1 : AV) (H : AHeap) : O :=
 xcall H (G 36 [x0] H) fun x6 h1 =>
 xb (aun .not x6) fun x7 =>
 xif (some x7) (xcall h1 (G 62 [x0] h1) fun x11 h2 =>
 xb (afield P 65 x11 3) fun x12 =>
 xb (abuild P 25 [(0, x1), (1, x12)]) fun x13 =>
 xb (anil x0) fun x14 =>
 xb (afieldAddr P 71 x14 4) fun x15 =>
 xstore h2 (astore P h2 25 x15 x13) fun h3 =>
 s61_j0 G h3) (s61_j0 G h1)
theorem s61_eq (G : CallT) (N : Nat) (x0 : AV) (x1 : AV) (H : AHeap) : cF Try.f61 G N (argsF [x0, x1]) H = s61 G x0 x1 H := by
 refine via_top (A := cF Try.f61 G N) ((via_seq (by kernel_rfl) ((via_seq (by kernel_rfl) (s61_j0_eq G N) (via_leaf _))) (via_leaf _))) ?_
 delta s61
 generalize s61_j0 G = J0
 revert J0
 refine id ?_
 intro J0
 kernel_rfl
theorem run61 (N : Nat) {x0 x1 : AV} {H : AHeap} {r : AV × AHeap} (h : s61 (evw P) x0 x1 H = some r) : evw P 61 [x0, x1] H = some r :=
 runF Try.func61 (by kernel_rfl) (by kernel_rfl) (by kernel_rfl) ((s61_eq (evw P) N x0 x1 H).trans h)
def s62 (G : CallT) (x0 : AV) (H : AHeap) : O :=
 xalloc H [(.int .i64 0), (.str []), (.int .i64 0), (.int .i64 0)] fun x2 h1 =>
 xb (anil x0) fun x4 =>
 xb (afieldAddr P 71 x4 1) fun x5 =>
 xb (aload P h1 3 x5) fun x6 =>
 xb (fbin P .lss 3 true x6 (.int .i64 0)) fun x7 =>
 xg x7 false h1 (qv x0) fun x9 h2 =>
 xg x7 false h2 (qp (anil x9)) fun x10 h3 =>
 xg x7 false h3 (qp (afieldAddr P 71 x10 1)) fun x11 h4 =>
 xg x7 false h4 (qr (aload P h4 3 x11)) fun x12 h5 =>
 xg x7 false h5 (qv x0) fun x13 h6 =>
 xg x7 false h6 (qp (anil x13)) fun x14 h7 =>
 xg x7 false h7 (qp (afieldAddr P 71 x14 0)) fun x15 h8 =>
 xg x7 false h8 (qr (aload P h8 22 x15)) fun x16 h9 =>
 xg x7 false h9 (fun q => xboth (abuiltin P .empty .len [22] [x16]) (abuiltin P h9 .len [22] [x16]) q) fun x17 h10 =>
 xg x7 false h10 (qp (fbin P .geq 3 false x12 x17)) fun x18 h11 =>
 xb (pickOf x7 (some (.bool true)) (some x18)) fun x19 =>
 xif (some x19) (xstore h11 (astore P h11 65 x2 (.agg [(.int .i64 0), (.str []), (.int .i64 0), (.int .i64 0)])) fun h12 =>
 xb (aload P h12 65 x2) fun r =>
 some (r, h12)) (xb (anil x0) fun x22 =>
 xb (afieldAddr P 71 x22 0) fun x23 =>
 xb (aload P h11 22 x23) fun x24 =>
 xb (anil x0) fun x26 =>
 xb (afieldAddr P 71 x26 1) fun x27 =>
 xb (aload P h11 3 x27) fun x28 =>
 xb (aindexAddr P 22 x24 x28) fun x29 =>
 xb (aload P h11 65 x29) fun x30 =>
 xstore h11 (astore P h11 65 x2 x30) fun h12 =>
 xb (aload P h12 65 x2) fun r =>
 some (r, h12))
theorem s62_eq (G : CallT) (N : Nat) (x0 : AV) (H : AHeap) : cF Try.f62 G N (argsF [x0]) H = s62 G x0 H := by
 refine via_top (A := cF Try.f62 G N) (via_leaf _) ?_
 delta s62
 kernel_rfl
theorem run62 (N : Nat) {x0 : AV} {H : AHeap} {r : AV × AHeap} (h : s62 (evw P) x0 H = some r) : evw P 62 [x0] H = some r :=
 runF Try.func62 (by kernel_rfl) (by kernel_rfl) (by kernel_rfl) ((s62_eq (evw P) N x0 H).trans h)
def s63 (G : CallT) (x0 x1 : AV) (H : AHeap) : O :=
 xcall H (G 80 [x0, (.int .i64 4), x1] H) fun x7 h1 =>
 xg x7 false h1 (qv x0) fun x9 h2 =>
 xg x7 false h2 (fun q => xeff h2 (G 61 [x9, (.int .i64 2)] h2) q) fun x10 h3 =>
 xb (pickOf x7 (some (.bool true)) (some x10)) fun x11 =>
 some (x11, h3)
theorem s63_eq (G : CallT) (N : Nat) (x0 : AV) (x1 : AV) (H : AHeap) : cF Try.f63 G N (argsF [x0, x1]) H = s63 G x0 x1 H := by
 refine via_top (A := cF Try.f63 G N) (via_leaf _) ?_
 delta s63
 kernel_rfl
theorem run63 (N : Nat) {x0 x1 : AV} {H : AHeap} {r : AV × AHeap} (h : s63 (evw P) x0 x1 H = some r) : evw P 63 [x0, x1] H = some r :=
 runF Try.func63 (by kernel_rfl) (by kernel_rfl) (by kernel_rfl) ((s63_eq (evw P) N x0 x1 H).trans h)
def s80 (G : CallT) (x0 x1 x2 : AV) (H : AHeap) : O :=
 xcall H (G 60 [x0, x1, x2] H) fun x10 h1 =>
 xb (aun .not x10) fun x11 =>
 xif (some x11) (some ((.bool false), h1)) (xb (anil x0) fun x13 =>
 xb (afieldAddr P 71 x13 1) fun x14 =>
 xb (aload P h1 3 x14) fun x15 =>
 xb (fbin P .add 3 true x15 (.int .i64 1)) fun x16 =>
 xb (anil x0) fun x17 =>
 xb (afieldAddr P 71 x17 1) fun x18 =>
 xstore h1 (astore P h1 3 x18 x16) fun h2 =>
 some ((.bool true), h2))
theorem s80_eq (G : CallT) (N : Nat) (x0 : AV) (x1 : AV) (x2 : AV) (H : AHeap) : cF Try.f80 G N (argsF [x0, x1, x2]) H = s80 G x0 x1 x2 H := by
 refine via_top (A := cF Try.f80 G N) (via_leaf _) ?_
 delta s80
 kernel_rfl
theorem run80 (N : Nat) {x0 x1 x2 : AV} {H : AHeap} {r : AV × AHeap} (h : s80 (evw P) x0 x1 x2 H = some r) : evw P 80 [x0, x1, x2] H = some r :=
 runF Try.func80 (by kernel_rfl) (by kernel_rfl) (by kernel_rfl) ((s80_eq (evw P) N x0 x1 x2 H).trans h)
def s101 (G : CallT) (x0 x1 : AV) (H : AHeap) : O :=
 xcall H (G 60 [x0, (.int .i64 4), x1] H) fun x8 h1 =>
 xb (aun .not x8) fun x9 =>
 xif (some x9) (xcall h1 (G 61 [x0, (.int .i64 2)] h1) fun x11 h2 =>
 some (x11, h2)) (xb (anil x0) fun x14 =>
 xb (afieldAddr P 71 x14 2) fun x15 =>
 xb (aload P h1 3 x15) fun x16 =>
 xb (fbin P .geq 3 true x16 (.int .i64 50)) fun x17 =>
 xif (some x17) (xcall h1 (G 61 [x0, (.int .i64 4)] h1) fun x19 h2 =>
 some (x19, h2)) (xb (anil x0) fun x21 =>
 xb (afieldAddr P 71 x21 1) fun x22 =>
 xb (aload P h1 3 x22) fun x23 =>
 xb (fbin P .add 3 true x23 (.int .i64 1)) fun x24 =>
 xb (anil x0) fun x25 =>
 xb (afieldAddr P 71 x25 1) fun x26 =>
 xstore h1 (astore P h1 3 x26 x24) fun h2 =>
 xb (anil x0) fun x28 =>
 xb (afieldAddr P 71 x28 2) fun x29 =>
 xb (aload P h2 3 x29) fun x30 =>
 xb (fbin P .add 3 true x30 (.int .i64 1)) fun x31 =>
 xb (anil x0) fun x32 =>
 xb (afieldAddr P 71 x32 2) fun x33 =>
 xstore h2 (astore P h2 3 x33 x31) fun h3 =>
 some ((.bool true), h3)))
theorem s101_eq (G : CallT) (N : Nat) (x0 : AV) (x1 : AV) (H : AHeap) : cF Try.f101 G N (argsF [x0, x1]) H = s101 G x0 x1 H := by
 refine via_top (A := cF Try.f101 G N) (via_leaf _) ?_
 delta s101
 kernel_rfl
theorem run101 (N : Nat) {x0 x1 : AV} {H : AHeap} {r : AV × AHeap} (h : s101 (evw P) x0 x1 H = some r) : evw P 101 [x0, x1] H = some r :=
 runF Try.func101 (by kernel_rfl) (by kernel_rfl) (by kernel_rfl) ((s101_eq (evw P) N x0 x1 H).trans h)
def s120_0 (x14 : AV) (h2 : AHeap) : O :=
 some (x14, h2)
def s120 (G : CallT) (x0 x1 : AV) (H : AHeap) : O :=
 xb (anil x0) fun x6 =>
 xb (afieldAddr P 71 x6 2) fun x7 =>
 xb (aload P H 3 x7) fun x8 =>
 xb (fbin P .sub 3 true x8 (.int .i64 1)) fun x9 =>
 xb (anil x0) fun x10 =>
 xb (afieldAddr P 71 x10 2) fun x11 =>
 xstore H (astore P H 3 x11 x9) fun h1 =>
 xcall h1 (G 63 [x0, x1] h1) (s120_0)
theorem s120_eq (G : CallT) (N : Nat) (x0 : AV) (x1 : AV) (H : AHeap) : cF Try.f120 G N (argsF [x0, x1]) H = s120 G x0 x1 H := by
 refine via_top (A := cF Try.f120 G N) (via_leaf _) ?_
 delta s120 s120_0
 kernel_rfl
theorem run120 (N : Nat) {x0 x1 : AV} {H : AHeap} {r : AV × AHeap} (h : s120 (evw P) x0 x1 H = some r) : evw P 120 [x0, x1] H = some r :=
 runF Try.func120 (by kernel_rfl) (by kernel_rfl) (by kernel_rfl) ((s120_eq (evw P) N x0 x1 H).trans h)
def s35_j1 (G : CallT) (N : Nat) (x2 x3 x4 : AV) (H : AHeap) : O :=
 xb (afieldAddr P 65 x4 1) fun x52 =>
 xb (aload P H 9 x52) fun x53 =>
 xb (abuild P 32 [(0, x53), (1, x3)]) fun x55 =>
 xstore H (astore P H 32 x2 x55) fun h1 =>
 xb (aload P h1 32 x2) fun r =>
 some (r, h1)
theorem s35_j1_eq (G : CallT) (N : Nat) : ∀ R H, codeC P G N (Code.snd (Code.snd (Code.snd (Code.snd (Code.snd (Code.snd (Code.snd (bodyOf Try.f35)))))))) (rC Try.f35) [] (rC Try.f35) R H = s35_j1 G N (R 2) (R 3) (R 4) H := by
 refine via_trans (via_leaf _) fun R H => ?_
 delta s35_j1
 kernel_rfl
def s35_b2 (G : CallT) (N : Nat) (L2 : AV → AV → AV → AV → AV → AV → AHeap → O) (x0 x2 : AV) (x3 x4 : AV) (x46 x47 : AV) (H : AHeap) : O :=
 xb (fbin P .lss 3 false x47 x46) fun x48 =>
 xif (some x48) (xcall H (G 63 [x0, (.str [93])] H) fun x50 h1 =>
 xb (fbin P .add 3 true x47 (.int .i64 1)) fun x51 =>
 L2 x0 x2 x3 x4 x46 x51 h1) (s35_j1 G N x2 x3 x4 H)
def s35_l2 (G : CallT) (N : Nat) : Nat → AV → AV → AV → AV → AV → AV → AHeap → O
 | 0, _, _, _, _, _, _, _ => none
 | n + 1, x0, x2, x3, x4, x46, x47, H => s35_b2 G N (s35_l2 G N n) x0 x2 x3 x4 x46 x47 H
theorem s35_b2_eq (G : CallT) (N : Nat) (L2 : AV → AV → AV → AV → AV → AV → AHeap → O) : ∀ R H, codeC P G N (Code.fst (Code.fst (Code.snd (Code.fst (Code.snd (Code.snd (Code.snd (Code.snd (Code.snd (Code.snd (bodyOf Try.f35))))))))))) (fun R H => L2 (R 0) (R 2) (R 3) (R 4) (R 46) (R 47) H) [(2, (fun R H => s35_j1 G N (R 2) (R 3) (R 4) H))] (rC Try.f35) R H = s35_b2 G N L2 (R 0) (R 2) (R 3) (R 4) (R 46) (R 47) H := by
 refine via_trans (via_leaf _) fun R H => ?_
 delta s35_b2
 generalize s35_j1 G N = J0
 revert J0
 refine id ?_
 intro J0
 kernel_rfl
def s35_22 (G : CallT) (N : Nat) (h9 : AHeap) (x0 x2 : AV) (x3 x4 x35 : AV) : O :=
 xif (some x35) (xcall h9 (G 61 [x0, (.int .i64 2)] h9) fun x37 h10 =>
 xstore h10 (astore P h10 32 x2 (.agg [(.str []), (.int .i64 0)])) fun h11 =>
 xb (aload P h11 32 x2) fun r =>
 some (r, h11)) (xb (anil x0) fun x40 =>
 xb (afieldAddr P 71 x40 1) fun x41 =>
 xb (aload P h9 3 x41) fun x42 =>
 xb (fbin P .add 3 true x42 (.int .i64 1)) fun x43 =>
 xb (anil x0) fun x44 =>
 xb (afieldAddr P 71 x44 1) fun x45 =>
 xstore h9 (astore P h9 3 x45 x43) fun h10 =>
 s35_l2 G N N x0 x2 x3 x4 x3 (.int .i64 0) h10)
def s35_23 (G : CallT) (N : Nat) (x30 x0 : AV) (x2 x3 : AV) (x4 x34 : AV) (h9 : AHeap) : O :=
 xb (pickOf x30 (some x34) (some (.bool false))) (s35_22 G N h9 x0 x2 x3 x4)
def s35_24 (G : CallT) (N : Nat) (x30 x0 : AV) (x2 x3 : AV) (x4 x33 : AV) (h8 : AHeap) : O :=
 xg x30 true h8 (qp (aun .not x33)) (s35_23 G N x30 x0 x2 x3 x4)
def s35_25 (G : CallT) (N : Nat) (x30 x0 : AV) (x2 x3 : AV) (x4 x32 : AV) (h7 : AHeap) : O :=
 xg x30 true h7 (fun q => xeff h7 (G 60 [x32, (.int .i64 3), (.str [98, 111, 111, 108])] h7) q) (s35_24 G N x30 x0 x2 x3 x4)
def s35_26 (G : CallT) (N : Nat) (h6 : AHeap) (x0 x2 : AV) (x3 x4 x30 : AV) : O :=
 xg x30 true h6 (qv x0) (s35_25 G N x30 x0 x2 x3 x4)
def s35_27 (G : CallT) (N : Nat) (x25 x0 : AV) (x2 x3 : AV) (x4 x29 : AV) (h6 : AHeap) : O :=
 xb (pickOf x25 (some x29) (some (.bool false))) (s35_26 G N h6 x0 x2 x3 x4)
def s35_28 (G : CallT) (N : Nat) (x25 x0 : AV) (x2 x3 : AV) (x4 x28 : AV) (h5 : AHeap) : O :=
 xg x25 true h5 (qp (aun .not x28)) (s35_27 G N x25 x0 x2 x3 x4)
def s35_29 (G : CallT) (N : Nat) (x25 x0 : AV) (x2 x3 : AV) (x4 x27 : AV) (h4 : AHeap) : O :=
 xg x25 true h4 (fun q => xeff h4 (G 60 [x27, (.int .i64 3), (.str [105, 110, 116])] h4) q) (s35_28 G N x25 x0 x2 x3 x4)
def s35_30 (G : CallT) (N : Nat) (h3 : AHeap) (x0 x2 : AV) (x3 x4 x25 : AV) : O :=
 xg x25 true h3 (qv x0) (s35_29 G N x25 x0 x2 x3 x4)
def s35_31 (G : CallT) (N : Nat) (h3 : AHeap) (x0 x2 : AV) (x3 x4 x24 : AV) : O :=
 xb (fbin P .neq 3 true x24 (.int .i64 1)) (s35_30 G N h3 x0 x2 x3 x4)
def s35_32 (G : CallT) (N : Nat) (h3 : AHeap) (x0 x2 : AV) (x3 x4 x23 : AV) : O :=
 xb (aload P h3 3 x23) (s35_31 G N h3 x0 x2 x3 x4)
def s35_33 (G : CallT) (N : Nat) (x4 x0 : AV) (x2 x3 : AV) (h3 : AHeap) : O :=
 xb (afieldAddr P 65 x4 0) (s35_32 G N h3 x0 x2 x3 x4)
def s35_34 (G : CallT) (N : Nat) (x22 x0 : AV) (x2 x3 x4 : AV) (h2 : AHeap) : O :=
 xstore h2 (astore P h2 65 x4 x22) (s35_33 G N x4 x0 x2 x3)
def s35_35 (G : CallT) (N : Nat) (x0 x2 : AV) (x3 x22 : AV) (h1 : AHeap) : O :=
 xalloc h1 [(.int .i64 0), (.str []), (.int .i64 0), (.int .i64 0)] (s35_34 G N x22 x0 x2 x3)
def s35_j0 (G : CallT) (N : Nat) (x0 x2 x3 : AV) (H : AHeap) : O :=
 xcall H (G 62 [x0] H) (s35_35 G N x0 x2 x3)
theorem s35_j0_eq (G : CallT) (N : Nat) : ∀ R H, codeC P G N (Code.snd (Code.snd (Code.snd (bodyOf Try.f35)))) (rC Try.f35) [] (rC Try.f35) R H = s35_j0 G N (R 0) (R 2) (R 3) H := by
 refine via_trans ((via_seq (by kernel_rfl) ((via_seq (by kernel_rfl) ((via_seq (by kernel_rfl) ((via_seq (by kernel_rfl) (s35_j1_eq G N) ((via_seq (by kernel_rfl) ((via_block (by kernel_rfl) ((via_loop (k := fun m R H => s35_l2 G N m (R 0) (R 2) (R 3) (R 4) (R 46) (R 47) H) (by kernel_rfl) (fun R H => by kernel_rfl) (fun m => s35_b2_eq G N (s35_l2 G N m)))))) (via_leaf _))))) (via_leaf _))) (via_leaf _))) (via_leaf _))) fun R H => ?_
 delta s35_j0 s35_35 s35_34 s35_33 s35_32 s35_31 s35_30 s35_29 s35_28 s35_27 s35_26 s35_25 s35_24 s35_23 s35_22
 generalize s35_l2 G N N = J0
 revert J0
 refine id ?_
 intro J0
 kernel_rfl
def s35_51 (G : CallT) (N : Nat) (x0 x2 x3 : AV) (h1 : AHeap) : O :=
 s35_j0 G N x0 x2 x3 h1
def s35_52 (G : CallT) (N : Nat) (L3 : AV → AV → AV → AHeap → O) (x3 x0 : AV) (x2 x6 : AV) (h1 : AHeap) : O :=
 xif (some x6) (xb (fbin P .eql 3 true x3 (.int .i64 3)) fun x8 =>
 xif (some x8) (xcall h1 (G 61 [x0, (.int .i64 4)] h1) fun x10 h2 =>
 xstore h2 (astore P h2 32 x2 (.agg [(.str []), (.int .i64 0)])) fun h3 =>
 xb (aload P h3 32 x2) fun r =>
 some (r, h3)) (xb (fbin P .add 3 true x3 (.int .i64 1)) fun x13 =>
 xb (anil x0) fun x15 =>
 xb (afieldAddr P 71 x15 1) fun x16 =>
 xb (aload P h1 3 x16) fun x17 =>
 xb (fbin P .add 3 true x17 (.int .i64 1)) fun x18 =>
 xb (anil x0) fun x19 =>
 xb (afieldAddr P 71 x19 1) fun x20 =>
 xstore h1 (astore P h1 3 x20 x18) fun h2 =>
 L3 x0 x2 x13 h2)) (s35_51 G N x0 x2 x3 h1)
def s35_b3 (G : CallT) (N : Nat) (L3 : AV → AV → AV → AHeap → O) (x0 x2 x3 : AV) (H : AHeap) : O :=
 xcall H (G 60 [x0, (.int .i64 4), (.str [91])] H) (s35_52 G N L3 x3 x0 x2)
def s35_l3 (G : CallT) (N : Nat) : Nat → AV → AV → AV → AHeap → O
 | 0, _, _, _, _ => none
 | n + 1, x0, x2, x3, H => s35_b3 G N (s35_l3 G N n) x0 x2 x3 H
theorem s35_b3_eq (G : CallT) (N : Nat) (L3 : AV → AV → AV → AHeap → O) : ∀ R H, codeC P G N (Code.fst (Code.fst (Code.fst (Code.snd (Code.snd (bodyOf Try.f35)))))) (fun R H => L3 (R 0) (R 2) (R 3) H) [(0, (fun R H => s35_j0 G N (R 0) (R 2) (R 3) H))] (rC Try.f35) R H = s35_b3 G N L3 (R 0) (R 2) (R 3) H := by
 refine via_trans (via_leaf _) fun R H => ?_
 delta s35_b3 s35_52 s35_51
 generalize s35_j0 G N = J0
 revert J0
 refine id ?_
 intro J0
 kernel_rfl
def s35_53 (G : CallT) (N : Nat) (x0 x2 : AV) (h1 : AHeap) : O :=
 s35_l3 G N N x0 x2 (.int .i64 0) h1
def s35 (G : CallT) (N : Nat) (x0 : AV) (H : AHeap) : O :=
 xalloc H [(.str []), (.int .i64 0)] (s35_53 G N x0)
theorem s35_eq (G : CallT) (N : Nat) (x0 : AV) (H : AHeap) : cF Try.f35 G N (argsF [x0]) H = s35 G N x0 H := by
 refine via_top (A := cF Try.f35 G N) ((via_seq (by kernel_rfl) ((via_seq (by kernel_rfl) ((via_seq (by kernel_rfl) (s35_j0_eq G N) ((via_block (by kernel_rfl) ((via_loop (k := fun m R H => s35_l3 G N m (R 0) (R 2) (R 3) H) (by kernel_rfl) (fun R H => by kernel_rfl) (fun m => s35_b3_eq G N (s35_l3 G N m)))))))) (via_leaf _))) (via_leaf _))) ?_
 delta s35 s35_53
 generalize s35_l3 G N N = J0
 revert J0
 refine id ?_
 intro J0
 kernel_rfl
theorem run35 (N : Nat) {x0 : AV} {H : AHeap} {r : AV × AHeap} (h : s35 (evw P) N x0 H = some r) : evw P 35 [x0] H = some r :=
 runF Try.func35 (by kernel_rfl) (by kernel_rfl) (by kernel_rfl) ((s35_eq (evw P) N x0 H).trans h)
def s84_j0 (G : CallT) (N : Nat) (H : AHeap) : O :=
 some ((.int .i64 0), H)
theorem s84_j0_eq (G : CallT) (N : Nat) : ∀ R H, codeC P G N (Code.snd (Code.snd (bodyOf Try.f84))) (rC Try.f84) [] (rC Try.f84) R H = s84_j0 G N H := by
 refine via_trans (via_leaf _) fun R H => ?_
 delta s84_j0
 kernel_rfl
def s84_b1 (G : CallT) (N : Nat) (L1 : AV → AV → AV → AV → AHeap → O) (x0 x13 : AV) (x14 x15 : AV) (H : AHeap) : O :=
 xb (fbin P .lss 3 false x15 x14) fun x16 =>
 xif (some x16) (xb (aindexAddr P 102 x13 x15) fun x17 =>
 xb (aload P H 101 x17) fun x18 =>
 xalloc H [(.str []), (.int .i64 0)] fun x6 h1 =>
 xstore h1 (astore P h1 101 x6 x18) fun h2 =>
 xb (afieldAddr P 101 x6 0) fun x20 =>
 xb (aload P h2 9 x20) fun x21 =>
 xcall h2 (G 60 [x0, (.int .i64 4), x21] h2) fun x22 h3 =>
 xif (some x22) (xb (afieldAddr P 101 x6 1) fun x23 =>
 xb (aload P h3 3 x23) fun x24 =>
 some (x24, h3)) (xb (fbin P .add 3 true x15 (.int .i64 1)) fun x25 =>
 L1 x0 x13 x14 x25 h3)) (s84_j0 G N H)
def s84_l1 (G : CallT) (N : Nat) : Nat → AV → AV → AV → AV → AHeap → O
 | 0, _, _, _, _, _ => none
 | n + 1, x0, x13, x14, x15, H => s84_b1 G N (s84_l1 G N n) x0 x13 x14 x15 H
theorem s84_b1_eq (G : CallT) (N : Nat) (L1 : AV → AV → AV → AV → AHeap → O) : ∀ R H, codeC P G N (Code.fst (Code.fst (Code.snd (Code.fst (Code.snd (bodyOf Try.f84)))))) (fun R H => L1 (R 0) (R 13) (R 14) (R 15) H) [(0, (fun R H => s84_j0 G N H))] (rC Try.f84) R H = s84_b1 G N L1 (R 0) (R 13) (R 14) (R 15) H := by
 refine via_trans (via_leaf _) fun R H => ?_
 delta s84_b1
 generalize s84_j0 G N = J0
 revert J0
 refine id ?_
 intro J0
 kernel_rfl
def s84 (G : CallT) (N : Nat) (x0 x1 : AV) (H : AHeap) : O :=
 xb (anil x0) fun x8 =>
 xb (afieldAddr P 71 x8 3) fun x9 =>
 xb (aload P H 69 x9) fun x10 =>
 xb (aindexAddr P 69 x10 x1) fun x12 =>
 xb (aload P H 102 x12) fun x13 =>
 xlen P .len [102] [x13] H fun x14 =>
 s84_l1 G N N x0 x13 x14 (.int .i64 0) H
theorem s84_eq (G : CallT) (N : Nat) (x0 : AV) (x1 : AV) (H : AHeap) : cF Try.f84 G N (argsF [x0, x1]) H = s84 G N x0 x1 H := by
 refine via_top (A := cF Try.f84 G N) ((via_seq (by kernel_rfl) ((via_seq (by kernel_rfl) (s84_j0_eq G N) ((via_seq (by kernel_rfl) ((via_block (by kernel_rfl) ((via_loop (k := fun m R H => s84_l1 G N m (R 0) (R 13) (R 14) (R 15) H) (by kernel_rfl) (fun R H => by kernel_rfl) (fun m => s84_b1_eq G N (s84_l1 G N m)))))) (via_leaf _))))) (via_leaf _))) ?_
 delta s84
 generalize s84_l1 G N N = J0
 revert J0
 refine id ?_
 intro J0
 kernel_rfl
theorem run84 (N : Nat) {x0 x1 : AV} {H : AHeap} {r : AV × AHeap} (h : s84 (evw P) N x0 x1 H = some r) : evw P 84 [x0, x1] H = some r :=
 runF Try.func84 (by kernel_rfl) (by kernel_rfl) (by kernel_rfl) ((s84_eq (evw P) N x0 x1 H).trans h)
def s71_j0 (G : CallT) (N : Nat) (x4 x5 : AV) (H : AHeap) : O :=
 xb (aload P H 39 x5) fun x48 =>
 xstore H (astore P H 39 x4 x48) fun h1 =>
 xb (aload P h1 39 x4) fun r =>
 some (r, h1)
theorem s71_j0_eq (G : CallT) (N : Nat) : ∀ R H, codeC P G N (Code.snd (Code.snd (Code.snd (Code.snd (bodyOf Try.f71))))) (rC Try.f71) [] (rC Try.f71) R H = s71_j0 G N (R 4) (R 5) H := by
 refine via_trans (via_leaf _) fun R H => ?_
 delta s71_j0
 kernel_rfl
def s71_7 (L1 : AV → AV → AV → AV → AV → AHeap → O) (x0 x1 : AV) (x4 x5 x28 : AV) (h6 : AHeap) : O :=
 L1 x0 x1 x4 x5 x28 h6
def s71_8 (G : CallT) (L1 : AV → AV → AV → AV → AV → AHeap → O) (h5 : AHeap) (x0 x1 : AV) (x4 x5 : AV) : O :=
 xcall h5 (G 84 [x0, x1] h5) (s71_7 L1 x0 x1 x4 x5)
def s71_25 (G : CallT) (N : Nat) (x4 x5 : AV) (H : AHeap) : O :=
 s71_j0 G N x4 x5 H
def s71_26 (G : CallT) (N : Nat) (L1 : AV → AV → AV → AV → AV → AHeap → O) (H : AHeap) (x0 x1 : AV) (x5 x6 : AV) (x4 x25 : AV) : O :=
 xif (some x25) (xcall H (G 62 [x0] H) fun x30 h1 =>
 xb (afield P 65 x30 3) fun x31 =>
 xb (anil x0) fun x33 =>
 xb (afieldAddr P 71 x33 1) fun x34 =>
 xb (aload P h1 3 x34) fun x35 =>
 xb (fbin P .add 3 true x35 (.int .i64 1)) fun x36 =>
 xb (anil x0) fun x37 =>
 xb (afieldAddr P 71 x37 1) fun x38 =>
 xstore h1 (astore P h1 3 x38 x36) fun h2 =>
 xb (fbin P .add 3 true x1 (.int .i64 1)) fun x43 =>
 xcall h2 (G 71 [x0, x43] h2) fun x44 h3 =>
 xb (aload P h3 39 x5) fun x40 =>
 xmake h3 (sliceOf P (h3).next 35 2 [(0, x40), (1, x44)]) fun x45 h4 =>
 xb (abuild P 39 [(0, x6), (4, x45), (5, x31)]) fun x47 =>
 xstore h4 (astore P h4 39 x5 x47) fun h5 =>
 bif ((rdIs (aload P h2 39 x5) x40 && (rdIs (aload P h3 39 x5) x40 && true)) && true) then (s71_8 G L1 h5 x0 x1 x4 x5) else none) (s71_25 G N x4 x5 H)
def s71_b1 (G : CallT) (N : Nat) (L1 : AV → AV → AV → AV → AV → AHeap → O) (x0 x1 : AV) (x4 x5 x6 : AV) (H : AHeap) : O :=
 xb (fbin P .neq 3 true x6 (.int .i64 0)) (s71_26 G N L1 H x0 x1 x5 x6 x4)
def s71_l1 (G : CallT) (N : Nat) : Nat → AV → AV → AV → AV → AV → AHeap → O
 | 0, _, _, _, _, _, _ => none
 | n + 1, x0, x1, x4, x5, x6, H => s71_b1 G N (s71_l1 G N n) x0 x1 x4 x5 x6 H
theorem s71_b1_eq (G : CallT) (N : Nat) (L1 : AV → AV → AV → AV → AV → AHeap → O) : ∀ R H, codeC P G N (Code.fst (Code.fst (Code.snd (Code.fst (Code.snd (Code.snd (Code.snd (bodyOf Try.f71)))))))) (fun R H => L1 (R 0) (R 1) (R 4) (R 5) (R 6) H) [(0, (fun R H => s71_j0 G N (R 4) (R 5) H))] (rC Try.f71) R H = s71_b1 G N L1 (R 0) (R 1) (R 4) (R 5) (R 6) H := by
 refine via_trans (via_leaf _) fun R H => ?_
 delta s71_b1 s71_26 s71_25 s71_8 s71_7
 generalize s71_j0 G N = J0
 revert J0
 refine id ?_
 intro J0
 kernel_rfl
def s71_27 (G : CallT) (N : Nat) (x0 x1 : AV) (x4 x5 x23 : AV) (h5 : AHeap) : O :=
 s71_l1 G N N x0 x1 x4 x5 x23 h5
def s71 (G : CallT) (N : Nat) (x0 x1 : AV) (H : AHeap) : O :=
 xalloc H [(.int .i64 0), (.int .i64 0), (.str []), (.str []), (.int .i64 0), AV.nilSl, (.int .i64 0), (.int .i64 0), (.int .i64 0), (.int .i64 0), (.int .i64 0)] fun x4 h1 =>
 xb (anil x0) fun x10 =>
 xb (afieldAddr P 71 x10 3) fun x11 =>
 xb (aload P h1 69 x11) fun x12 =>
 xlen P .len [69] [x12] h1 fun x13 =>
 xb (fbin P .eql 3 false x1 x13) fun x14 =>
 xif (some x14) (xcall h1 (G 83 [x0] h1) fun x16 h2 =>
 xstore h2 (astore P h2 39 x4 x16) fun h3 =>
 xb (aload P h3 39 x4) fun r =>
 some (r, h3)) (xb (fbin P .add 3 true x1 (.int .i64 1)) fun x19 =>
 xcall h1 (G 71 [x0, x19] h1) fun x20 h2 =>
 xalloc h2 [(.int .i64 0), (.int .i64 0), (.str []), (.str []), (.int .i64 0), AV.nilSl, (.int .i64 0), (.int .i64 0), (.int .i64 0), (.int .i64 0), (.int .i64 0)] fun x5 h3 =>
 xstore h3 (astore P h3 39 x5 x20) fun h4 =>
 xcall h4 (G 84 [x0, x1] h4) (s71_27 G N x0 x1 x4 x5))
theorem s71_eq (G : CallT) (N : Nat) (x0 : AV) (x1 : AV) (H : AHeap) : cF Try.f71 G N (argsF [x0, x1]) H = s71 G N x0 x1 H := by
 refine via_top (A := cF Try.f71 G N) ((via_seq (by kernel_rfl) ((via_seq (by kernel_rfl) ((via_seq (by kernel_rfl) ((via_seq (by kernel_rfl) (s71_j0_eq G N) ((via_seq (by kernel_rfl) ((via_block (by kernel_rfl) ((via_loop (k := fun m R H => s71_l1 G N m (R 0) (R 1) (R 4) (R 5) (R 6) H) (by kernel_rfl) (fun R H => by kernel_rfl) (fun m => s71_b1_eq G N (s71_l1 G N m)))))) (via_leaf _))))) (via_leaf _))) (via_leaf _))) (via_leaf _))) ?_
 delta s71 s71_27
 generalize s71_l1 G N N = J0
 revert J0
 refine id ?_
 intro J0
 kernel_rfl
theorem run71 (N : Nat) {x0 x1 : AV} {H : AHeap} {r : AV × AHeap} (h : s71 (evw P) N x0 x1 H = some r) : evw P 71 [x0, x1] H = some r :=
 runF Try.func71 (by kernel_rfl) (by kernel_rfl) (by kernel_rfl) ((s71_eq (evw P) N x0 x1 H).trans h)
def s41 (G : CallT) (x0 : AV) (H : AHeap) : O :=
 xalloc H [(.int .i64 0), (.int .i64 0), (.str []), (.str []), (.int .i64 0), AV.nilSl, (.int .i64 0), (.int .i64 0), (.int .i64 0), (.int .i64 0), (.int .i64 0)] fun x2 h1 =>
 xcall h1 (G 71 [x0, (.int .i64 0)] h1) fun x4 h2 =>
 xstore h2 (astore P h2 39 x2 x4) fun h3 =>
 xb (aload P h3 39 x2) fun r =>
 some (r, h3)
theorem s41_eq (G : CallT) (N : Nat) (x0 : AV) (H : AHeap) : cF Try.f41 G N (argsF [x0]) H = s41 G x0 H := by
 refine via_top (A := cF Try.f41 G N) (via_leaf _) ?_
 delta s41
 kernel_rfl
theorem run41 (N : Nat) {x0 : AV} {H : AHeap} {r : AV × AHeap} (h : s41 (evw P) x0 H = some r) : evw P 41 [x0] H = some r :=
 runF Try.func41 (by kernel_rfl) (by kernel_rfl) (by kernel_rfl) ((s41_eq (evw P) N x0 H).trans h)
def s83_j0 (G : CallT) (N : Nat) (x0 x2 : AV) (H : AHeap) : O :=
 xcall H (G 102 [x0] H) fun x45 h1 =>
 xstore h1 (astore P h1 39 x2 x45) fun h2 =>
 xb (aload P h2 39 x2) fun r =>
 some (r, h2)
theorem s83_j0_eq (G : CallT) (N : Nat) : ∀ R H, codeC P G N (Code.snd (Code.snd (bodyOf Try.f83))) (rC Try.f83) [] (rC Try.f83) R H = s83_j0 G N (R 0) (R 2) H := by
 refine via_trans (via_leaf _) fun R H => ?_
 delta s83_j0
 kernel_rfl
def s83_28 (G : CallT) (x4 : AV) (h4 : AHeap) (x0 x2 x17 : AV) : O :=
 xb (afieldAddr P 101 x4 0) fun x23 =>
 xb (aload P h4 9 x23) fun x24 =>
 xcall h4 (G 101 [x0, x24] h4) fun x25 h5 =>
 xb (aun .not x25) fun x26 =>
 xif (some x26) (xstore h5 (astore P h5 39 x2 (.agg [(.int .i64 0), (.int .i64 0), (.str []), (.str []), (.int .i64 0), AV.nilSl, (.int .i64 0), (.int .i64 0), (.int .i64 0), (.int .i64 0), (.int .i64 0)])) fun h6 =>
 xb (aload P h6 39 x2) fun r =>
 some (r, h6)) (xcall h5 (G 83 [x0] h5) fun x29 h6 =>
 xalloc h6 [(.int .i64 0), (.int .i64 0), (.str []), (.str []), (.int .i64 0), AV.nilSl, (.int .i64 0), (.int .i64 0), (.int .i64 0), (.int .i64 0), (.int .i64 0)] fun x6 h7 =>
 xstore h7 (astore P h7 39 x6 x29) fun h8 =>
 xb (anil x0) fun x31 =>
 xb (afieldAddr P 71 x31 2) fun x32 =>
 xb (aload P h8 3 x32) fun x33 =>
 xb (fbin P .sub 3 true x33 (.int .i64 1)) fun x34 =>
 xb (anil x0) fun x35 =>
 xb (afieldAddr P 71 x35 2) fun x36 =>
 xstore h8 (astore P h8 3 x36 x34) fun h9 =>
 xb (afieldAddr P 101 x4 1) fun x37 =>
 xb (aload P h9 3 x37) fun x38 =>
 xb (aload P h9 39 x6) fun x39 =>
 xmake h9 (sliceOf P (h9).next 35 1 [(0, x39)]) fun x40 h10 =>
 xb (abuild P 39 [(0, x38), (4, x40), (5, x17)]) fun x42 =>
 xstore h10 (astore P h10 39 x2 x42) fun h11 =>
 xb (aload P h11 39 x2) fun r =>
 some (r, h11))
def s83_41 (G : CallT) (N : Nat) (x0 x2 : AV) (H : AHeap) : O :=
 s83_j0 G N x0 x2 H
def s83_42 (G : CallT) (N : Nat) (L1 : AV → AV → AV → AV → AV → AHeap → O) (x9 x11 : AV) (H : AHeap) (x0 x2 : AV) (x10 x12 : AV) : O :=
 xif (some x12) (xb (aindexAddr P 102 x9 x11) fun x13 =>
 xb (aload P H 101 x13) fun x14 =>
 xalloc H [(.str []), (.int .i64 0)] fun x4 h1 =>
 xstore h1 (astore P h1 101 x4 x14) fun h2 =>
 xcall h2 (G 62 [x0] h2) fun x16 h3 =>
 xb (afield P 65 x16 3) fun x17 =>
 xb (afieldAddr P 101 x4 0) fun x19 =>
 xb (aload P h3 9 x19) fun x20 =>
 xcall h3 (G 60 [x0, (.int .i64 4), x20] h3) fun x21 h4 =>
 xif (some x21) (s83_28 G x4 h4 x0 x2 x17) (xb (fbin P .add 3 true x11 (.int .i64 1)) fun x43 =>
 L1 x0 x2 x9 x10 x43 h4)) (s83_41 G N x0 x2 H)
def s83_b1 (G : CallT) (N : Nat) (L1 : AV → AV → AV → AV → AV → AHeap → O) (x0 x2 : AV) (x9 x10 x11 : AV) (H : AHeap) : O :=
 xb (fbin P .lss 3 false x11 x10) (s83_42 G N L1 x9 x11 H x0 x2 x10)
def s83_l1 (G : CallT) (N : Nat) : Nat → AV → AV → AV → AV → AV → AHeap → O
 | 0, _, _, _, _, _, _ => none
 | n + 1, x0, x2, x9, x10, x11, H => s83_b1 G N (s83_l1 G N n) x0 x2 x9 x10 x11 H
theorem s83_b1_eq (G : CallT) (N : Nat) (L1 : AV → AV → AV → AV → AV → AHeap → O) : ∀ R H, codeC P G N (Code.fst (Code.fst (Code.snd (Code.fst (Code.snd (bodyOf Try.f83)))))) (fun R H => L1 (R 0) (R 2) (R 9) (R 10) (R 11) H) [(0, (fun R H => s83_j0 G N (R 0) (R 2) H))] (rC Try.f83) R H = s83_b1 G N L1 (R 0) (R 2) (R 9) (R 10) (R 11) H := by
 refine via_trans (via_leaf _) fun R H => ?_
 delta s83_b1 s83_42 s83_41 s83_28
 generalize s83_j0 G N = J0
 revert J0
 refine id ?_
 intro J0
 kernel_rfl
def s83 (G : CallT) (N : Nat) (x0 : AV) (H : AHeap) : O :=
 xalloc H [(.int .i64 0), (.int .i64 0), (.str []), (.str []), (.int .i64 0), AV.nilSl, (.int .i64 0), (.int .i64 0), (.int .i64 0), (.int .i64 0), (.int .i64 0)] fun x2 h1 =>
 xmake h1 (some (.sl (h1).next 0 2 2 (some 2), .row false 2 [[(.str [45]), (.int .i64 12)], [(.str [33]), (.int .i64 13)]])) fun x9 h2 =>
 s83_l1 G N N x0 x2 x9 (.int .i64 2) (.int .i64 0) h2
theorem s83_eq (G : CallT) (N : Nat) (x0 : AV) (H : AHeap) : cF Try.f83 G N (argsF [x0]) H = s83 G N x0 H := by
 refine via_top (A := cF Try.f83 G N) ((via_seq (by kernel_rfl) ((via_seq (by kernel_rfl) (s83_j0_eq G N) ((via_seq (by kernel_rfl) ((via_block (by kernel_rfl) ((via_loop (k := fun m R H => s83_l1 G N m (R 0) (R 2) (R 9) (R 10) (R 11) H) (by kernel_rfl) (fun R H => by kernel_rfl) (fun m => s83_b1_eq G N (s83_l1 G N m)))))) (via_leaf _))))) (via_leaf _))) ?_
 delta s83
 generalize s83_l1 G N N = J0
 revert J0
 refine id ?_
 intro J0
 kernel_rfl
theorem run83 (N : Nat) {x0 : AV} {H : AHeap} {r : AV × AHeap} (h : s83 (evw P) N x0 H = some r) : evw P 83 [x0] H = some r :=
 runF Try.func83 (by kernel_rfl) (by kernel_rfl) (by kernel_rfl) ((s83_eq (evw P) N x0 H).trans h)
def s102_j0 (G : CallT) (N : Nat) (x2 x3 : AV) (H : AHeap) : O :=
 xb (aload P H 39 x3) fun x29 =>
 xstore H (astore P H 39 x2 x29) fun h1 =>
 xb (aload P h1 39 x2) fun r =>
 some (r, h1)
theorem s102_j0_eq (G : CallT) (N : Nat) : ∀ R H, codeC P G N (Code.snd (Code.snd (Code.snd (Code.snd (bodyOf Try.f102))))) (rC Try.f102) [] (rC Try.f102) R H = s102_j0 G N (R 2) (R 3) H := by
 refine via_trans (via_leaf _) fun R H => ?_
 delta s102_j0
 kernel_rfl
def s102_5 (L1 : AV → AV → AV → AV → AHeap → O) (x3 x0 : AV) (x2 x4 x28 : AV) (h7 : AHeap) : O :=
 xstore h7 (astore P h7 39 x3 x28) fun h8 =>
 L1 x0 x2 x3 x4 h8
def s102_b1 (G : CallT) (N : Nat) (L1 : AV → AV → AV → AV → AHeap → O) (x0 x2 : AV) (x3 x4 : AV) (H : AHeap) : O :=
 xcall H (G 36 [x0] H) fun x10 h1 =>
 xb (aun .not x10) fun x11 =>
 xg x11 true h1 (qv x0) fun x13 h2 =>
 xg x11 true h2 (fun q => xeff h2 (G 62 [x13] h2) q) fun x14 h3 =>
 xg x11 true h3 (qp (afield P 65 x14 0)) fun x15 h4 =>
 xg x11 true h4 (qp (fbin P .eql 3 true x15 (.int .i64 4))) fun x16 h5 =>
 xb (pickOf x11 (some x16) (some (.bool false))) fun x17 =>
 xif (some x17) (xcall h5 (G 62 [x0] h5) fun x20 h6 =>
 xb (afield P 65 x20 1) fun x21 =>
 xb (alookup P h6 118 x4 x21 false) fun x22 =>
 xb (fbin P .eql 120 true x22 AV.nilFunc) fun x24 =>
 xif (some x24) (s102_j0 G N x2 x3 h6) (xb (aload P h6 39 x3) fun x27 =>
 xapply G h6 x22 [x0, x27] (s102_5 L1 x3 x0 x2 x4))) (s102_j0 G N x2 x3 h5)
def s102_l1 (G : CallT) (N : Nat) : Nat → AV → AV → AV → AV → AHeap → O
 | 0, _, _, _, _, _ => none
 | n + 1, x0, x2, x3, x4, H => s102_b1 G N (s102_l1 G N n) x0 x2 x3 x4 H
theorem s102_b1_eq (G : CallT) (N : Nat) (L1 : AV → AV → AV → AV → AHeap → O) : ∀ R H, codeC P G N (Code.fst (Code.fst (Code.fst (Code.snd (Code.snd (Code.snd (bodyOf Try.f102))))))) (fun R H => L1 (R 0) (R 2) (R 3) (R 4) H) [(0, (fun R H => s102_j0 G N (R 2) (R 3) H))] (rC Try.f102) R H = s102_b1 G N L1 (R 0) (R 2) (R 3) (R 4) H := by
 refine via_trans (via_leaf _) fun R H => ?_
 delta s102_b1 s102_5
 generalize s102_j0 G N = J0
 revert J0
 refine id ?_
 intro J0
 kernel_rfl
def s102 (G : CallT) (N : Nat) (x0 : AV) (H : AHeap) : O :=
 xalloc H [(.int .i64 0), (.int .i64 0), (.str []), (.str []), (.int .i64 0), AV.nilSl, (.int .i64 0), (.int .i64 0), (.int .i64 0), (.int .i64 0), (.int .i64 0)] fun x2 h1 =>
 xcall h1 (G 106 [x0] h1) fun x7 h2 =>
 xalloc h2 [(.int .i64 0), (.int .i64 0), (.str []), (.str []), (.int .i64 0), AV.nilSl, (.int .i64 0), (.int .i64 0), (.int .i64 0), (.int .i64 0), (.int .i64 0)] fun x3 h3 =>
 xstore h3 (astore P h3 39 x3 x7) fun h4 =>
 xcall h4 (G 107 [] h4) fun x8 h5 =>
 s102_l1 G N N x0 x2 x3 x8 h5
theorem s102_eq (G : CallT) (N : Nat) (x0 : AV) (H : AHeap) : cF Try.f102 G N (argsF [x0]) H = s102 G N x0 H := by
 refine via_top (A := cF Try.f102 G N) ((via_seq (by kernel_rfl) ((via_seq (by kernel_rfl) ((via_seq (by kernel_rfl) ((via_seq (by kernel_rfl) (s102_j0_eq G N) ((via_block (by kernel_rfl) ((via_loop (k := fun m R H => s102_l1 G N m (R 0) (R 2) (R 3) (R 4) H) (by kernel_rfl) (fun R H => by kernel_rfl) (fun m => s102_b1_eq G N (s102_l1 G N m)))))))) (via_leaf _))) (via_leaf _))) (via_leaf _))) ?_
 delta s102
 generalize s102_l1 G N N = J0
 revert J0
 refine id ?_
 intro J0
 kernel_rfl
theorem run102 (N : Nat) {x0 : AV} {H : AHeap} {r : AV × AHeap} (h : s102 (evw P) N x0 H = some r) : evw P 102 [x0] H = some r :=
 runF Try.func102 (by kernel_rfl) (by kernel_rfl) (by kernel_rfl) ((s102_eq (evw P) N x0 H).trans h)
def s106_j0 (G : CallT) (x0 x2 : AV) (H : AHeap) : O :=
 xcall H (G 61 [x0, (.int .i64 2)] H) fun x52 h1 =>
 xstore h1 (astore P h1 39 x2 (.agg [(.int .i64 0), (.int .i64 0), (.str []), (.str []), (.int .i64 0), AV.nilSl, (.int .i64 0), (.int .i64 0), (.int .i64 0), (.int .i64 0), (.int .i64 0)])) fun h2 =>
 xb (aload P h2 39 x2) fun r =>
 some (r, h2)
theorem s106_j0_eq (G : CallT) (N : Nat) : ∀ R H, codeC P G N (Code.snd (Code.snd (Code.snd (bodyOf Try.f106)))) (rC Try.f106) [] (rC Try.f106) R H = s106_j0 G (R 0) (R 2) H := by
 refine via_trans (via_leaf _) fun R H => ?_
 delta s106_j0
 kernel_rfl
def s106_j1 (G : CallT) (x0 x2 : AV) (x3 x30 : AV) (H : AHeap) : O :=
 xif (some x30) (xcall H (G 109 [] H) fun x33 h1 =>
 xb (afieldAddr P 65 x3 1) fun x34 =>
 xb (aload P h1 9 x34) fun x35 =>
 xb (alookup P h1 122 x33 x35 false) fun x36 =>
 bif ((rdIs (aload P H 9 x34) x35 && rdIs (aload P h1 9 x34) x35) && true) then (xb (fbin P .neq 121 true x36 AV.nilFunc) fun x38 =>
 xg x38 true h1 (qp (afieldAddr P 65 x3 0)) fun x40 h2 =>
 xg x38 true h2 (qr (aload P h2 3 x40)) fun x41 h3 =>
 xg x38 true h3 (qp (fbin P .eql 3 true x41 (.int .i64 4))) fun x42 h4 =>
 xg x38 true h4 (qp (afieldAddr P 65 x3 1)) fun x43 h5 =>
 xg x38 true h5 (qr (aload P h5 9 x43)) fun x44 h6 =>
 xg x38 true h6 (qp (fbin P .eql 9 true x44 (.str [40]))) fun x45 h7 =>
 xg x38 true h7 (qp (fbin P .eql 4 false x42 x45)) fun x46 h8 =>
 xb (pickOf x38 (some x46) (some (.bool false))) fun x47 =>
 xif (some x47) (xapply G h8 x36 [x0] fun x50 h9 =>
 xstore h9 (astore P h9 39 x2 x50) fun h10 =>
 xb (aload P h10 39 x2) fun r =>
 some (r, h10)) (s106_j0 G x0 x2 h8)) else none) (s106_j0 G x0 x2 H)
theorem s106_j1_eq (G : CallT) (N : Nat) : ∀ R H, codeC P G N (Code.snd (Code.snd (Code.snd (Code.snd (Code.snd (Code.fst (Code.snd (Code.snd (Code.fst (Code.snd (Code.snd (bodyOf Try.f106)))))))))))) (fun R H => s106_j0 G (R 0) (R 2) H) [(0, (fun R H => s106_j0 G (R 0) (R 2) H))] (rC Try.f106) R H = s106_j1 G (R 0) (R 2) (R 3) (R 30) H := by
 refine via_trans (via_leaf _) fun R H => ?_
 delta s106_j1
 generalize s106_j0 G = J0
 revert J0
 refine id ?_
 intro J0
 kernel_rfl
def s106 (G : CallT) (x0 : AV) (H : AHeap) : O :=
 xalloc H [(.int .i64 0), (.int .i64 0), (.str []), (.str []), (.int .i64 0), AV.nilSl, (.int .i64 0), (.int .i64 0), (.int .i64 0), (.int .i64 0), (.int .i64 0)] fun x2 h1 =>
 xcall h1 (G 36 [x0] h1) fun x6 h2 =>
 xif (some x6) (xstore h2 (astore P h2 39 x2 (.agg [(.int .i64 0), (.int .i64 0), (.str []), (.str []), (.int .i64 0), AV.nilSl, (.int .i64 0), (.int .i64 0), (.int .i64 0), (.int .i64 0), (.int .i64 0)])) fun h3 =>
 xb (aload P h3 39 x2) fun r =>
 some (r, h3)) (xcall h2 (G 62 [x0] h2) fun x9 h3 =>
 xalloc h3 [(.int .i64 0), (.str []), (.int .i64 0), (.int .i64 0)] fun x3 h4 =>
 xstore h4 (astore P h4 65 x3 x9) fun h5 =>
 xb (afieldAddr P 65 x3 0) fun x10 =>
 xb (aload P h5 3 x10) fun x11 =>
 xb (fbin P .eql 3 true x11 (.int .i64 2)) fun x13 =>
 xif (some x13) (xb (anil x0) fun x15 =>
 xb (afieldAddr P 71 x15 1) fun x16 =>
 xb (aload P h5 3 x16) fun x17 =>
 xb (fbin P .add 3 true x17 (.int .i64 1)) fun x18 =>
 xb (anil x0) fun x19 =>
 xb (afieldAddr P 71 x19 1) fun x20 =>
 xstore h5 (astore P h5 3 x20 x18) fun h6 =>
 xb (afieldAddr P 65 x3 2) fun x21 =>
 xb (aload P h6 3 x21) fun x22 =>
 xb (afieldAddr P 65 x3 3) fun x23 =>
 xb (aload P h6 3 x23) fun x24 =>
 xb (abuild P 39 [(0, (.int .i64 1)), (1, x22), (5, x24)]) fun x25 =>
 xstore h6 (astore P h6 39 x2 x25) fun h7 =>
 xb (aload P h7 39 x2) fun r =>
 some (r, h7)) (xb (fbin P .eql 3 true x11 (.int .i64 1)) fun x27 =>
 xif (some x27) (xcall h5 (G 108 [x0] h5) fun x29 h6 =>
 xstore h6 (astore P h6 39 x2 x29) fun h7 =>
 xb (aload P h7 39 x2) fun r =>
 some (r, h7)) (xb (fbin P .eql 3 true x11 (.int .i64 3)) fun x31 =>
 xif (some x31) (s106_j1 G x0 x2 x3 x31 h5) (xb (fbin P .eql 3 true x11 (.int .i64 4)) fun x32 =>
 s106_j1 G x0 x2 x3 x32 h5))))
theorem s106_eq (G : CallT) (N : Nat) (x0 : AV) (H : AHeap) : cF Try.f106 G N (argsF [x0]) H = s106 G x0 H := by
 refine via_top (A := cF Try.f106 G N) ((via_seq (by kernel_rfl) ((via_seq (by kernel_rfl) ((via_seq (by kernel_rfl) (s106_j0_eq G N) ((via_seq (by kernel_rfl) ((via_seq (by kernel_rfl) ((via_block (by kernel_rfl) ((via_seq (by kernel_rfl) ((via_cond (by kernel_rfl) (via_leaf _) ((via_seq (by kernel_rfl) ((via_cond (by kernel_rfl) (via_leaf _) ((via_seq (by kernel_rfl) (s106_j1_eq G N) (via_leaf _))))) (via_leaf _))))) (via_leaf _))))) (via_leaf _))) (via_leaf _))))) (via_leaf _))) (via_leaf _))) ?_
 delta s106
 generalize s106_j1 G = J0
 revert J0
 refine id ?_
 intro J0
 kernel_rfl
theorem run106 (N : Nat) {x0 : AV} {H : AHeap} {r : AV × AHeap} (h : s106 (evw P) x0 H = some r) : evw P 106 [x0] H = some r :=
 runF Try.func106 (by kernel_rfl) (by kernel_rfl) (by kernel_rfl) ((s106_eq (evw P) N x0 H).trans h)
def s107 (G : CallT) (H : AHeap) : O :=
 xmake H (some (.map (H).next, .map [])) fun x1 h1 =>
 xstore h1 (amapUpdate P h1 118 x1 (.str [46]) (.func (.func 110) [] [])) fun h2 =>
 xstore h2 (amapUpdate P h2 118 x1 (.str [91]) (.func (.func 111) [] [])) fun h3 =>
 some (x1, h3)
theorem s107_eq (G : CallT) (N : Nat) (H : AHeap) : cF Try.f107 G N (argsF []) H = s107 G H := by
 refine via_top (A := cF Try.f107 G N) (via_leaf _) ?_
 delta s107
 kernel_rfl
theorem run107 (N : Nat) {H : AHeap} {r : AV × AHeap} (h : s107 (evw P) H = some r) : evw P 107 [] H = some r :=
 runF Try.func107 (by kernel_rfl) (by kernel_rfl) (by kernel_rfl) ((s107_eq (evw P) N H).trans h)
def s108 (G : CallT) (x0 : AV) (H : AHeap) : O :=
 xalloc H [(.int .i64 0), (.int .i64 0), (.str []), (.str []), (.int .i64 0), AV.nilSl, (.int .i64 0), (.int .i64 0), (.int .i64 0), (.int .i64 0), (.int .i64 0)] fun x2 h1 =>
 xcall h1 (G 62 [x0] h1) fun x5 h2 =>
 xalloc h2 [(.int .i64 0), (.str []), (.int .i64 0), (.int .i64 0)] fun x3 h3 =>
 xstore h3 (astore P h3 65 x3 x5) fun h4 =>
 xb (anil x0) fun x7 =>
 xb (afieldAddr P 71 x7 1) fun x8 =>
 xb (aload P h4 3 x8) fun x9 =>
 xb (fbin P .add 3 true x9 (.int .i64 1)) fun x10 =>
 xb (anil x0) fun x11 =>
 xb (afieldAddr P 71 x11 1) fun x12 =>
 xstore h4 (astore P h4 3 x12 x10) fun h5 =>
 xcall h5 (G 60 [x0, (.int .i64 4), (.str [40])] h5) fun x14 h6 =>
 xb (aun .not x14) fun x15 =>
 xif (some x15) (xb (afieldAddr P 65 x3 1) fun x16 =>
 xb (aload P h6 9 x16) fun x17 =>
 xb (afieldAddr P 65 x3 3) fun x18 =>
 xb (aload P h6 3 x18) fun x19 =>
 xb (abuild P 39 [(0, (.int .i64 4)), (2, x17), (5, x19)]) fun x20 =>
 xstore h6 (astore P h6 39 x2 x20) fun h7 =>
 xb (aload P h7 39 x2) fun r =>
 some (r, h7)) (xcall h6 (G 112 [x0, (.func (.func 41) [x0] [])] h6) fun x26 h7 =>
 xb (afieldAddr P 65 x3 1) fun x21 =>
 xb (aload P h7 9 x21) fun x22 =>
 xb (afieldAddr P 65 x3 3) fun x27 =>
 xb (aload P h7 3 x27) fun x28 =>
 xb (abuild P 39 [(0, (.int .i64 7)), (2, x22), (4, x26), (5, x28)]) fun x29 =>
 xstore h7 (astore P h7 39 x2 x29) fun h8 =>
 bif ((rdIs (aload P h6 9 x21) x22 && (rdIs (aload P h7 9 x21) x22 && true)) && ((rdIs (aload P h6 3 x27) x28 && (rdIs (aload P h7 3 x27) x28 && true)) && true)) then (xb (aload P h8 39 x2) fun r =>
 some (r, h8)) else none)
theorem s108_eq (G : CallT) (N : Nat) (x0 : AV) (H : AHeap) : cF Try.f108 G N (argsF [x0]) H = s108 G x0 H := by
 refine via_top (A := cF Try.f108 G N) (via_leaf _) ?_
 delta s108
 kernel_rfl
theorem run108 (N : Nat) {x0 : AV} {H : AHeap} {r : AV × AHeap} (h : s108 (evw P) x0 H = some r) : evw P 108 [x0] H = some r :=
 runF Try.func108 (by kernel_rfl) (by kernel_rfl) (by kernel_rfl) ((s108_eq (evw P) N x0 H).trans h)
def s109 (G : CallT) (H : AHeap) : O :=
 xmake H (some (.map (H).next, .map [])) fun x1 h1 =>
 xstore h1 (amapUpdate P h1 122 x1 (.str [116, 114, 117, 101]) (.func (.func 113) [] [])) fun h2 =>
 xstore h2 (amapUpdate P h2 122 x1 (.str [102, 97, 108, 115, 101]) (.func (.func 113) [] [])) fun h3 =>
 xstore h3 (amapUpdate P h3 122 x1 (.str [110, 117, 108, 108]) (.func (.func 114) [] [])) fun h4 =>
 xstore h4 (amapUpdate P h4 122 x1 (.str [110, 101, 119]) (.func (.func 115) [] [])) fun h5 =>
 xstore h5 (amapUpdate P h5 122 x1 (.str [108, 101, 110]) (.func (.func 116) [] [])) fun h6 =>
 xstore h6 (amapUpdate P h6 122 x1 (.str [114, 101, 97, 100]) (.func (.func 117) [] [])) fun h7 =>
 xstore h7 (amapUpdate P h7 122 x1 (.str [40]) (.func (.func 118) [] [])) fun h8 =>
 some (x1, h8)
theorem s109_eq (G : CallT) (N : Nat) (H : AHeap) : cF Try.f109 G N (argsF []) H = s109 G H := by
 refine via_top (A := cF Try.f109 G N) (via_leaf _) ?_
 delta s109
 kernel_rfl
theorem run109 (N : Nat) {H : AHeap} {r : AV × AHeap} (h : s109 (evw P) H = some r) : evw P 109 [] H = some r :=
 runF Try.func109 (by kernel_rfl) (by kernel_rfl) (by kernel_rfl) ((s109_eq (evw P) N H).trans h)
def s110_j0 (G : CallT) (x0 x3 : AV) (x4 x5 x6 : AV) (H : AHeap) : O :=
 xb (anil x0) fun x25 =>
 xb (afieldAddr P 71 x25 1) fun x26 =>
 xb (aload P H 3 x26) fun x27 =>
 xb (fbin P .add 3 true x27 (.int .i64 1)) fun x28 =>
 xb (anil x0) fun x29 =>
 xb (afieldAddr P 71 x29 1) fun x30 =>
 xstore H (astore P H 3 x30 x28) fun h1 =>
 xb (afieldAddr P 65 x6 1) fun x31 =>
 xb (aload P h1 9 x31) fun x32 =>
 xb (aload P h1 39 x3) fun x33 =>
 xmake h1 (sliceOf P (h1).next 35 1 [(0, x33)]) fun x34 h2 =>
 xb (abuild P 39 [(0, (.int .i64 5)), (2, x32), (4, x34), (5, x5)]) fun x36 =>
 xstore h2 (astore P h2 39 x4 x36) fun h3 =>
 xb (aload P h3 39 x4) fun r =>
 some (r, h3)
theorem s110_j0_eq (G : CallT) (N : Nat) : ∀ R H, codeC P G N (Code.snd (Code.snd (Code.snd (Code.snd (Code.snd (bodyOf Try.f110)))))) (rC Try.f110) [] (rC Try.f110) R H = s110_j0 G (R 0) (R 3) (R 4) (R 5) (R 6) H := by
 refine via_trans (via_leaf _) fun R H => ?_
 delta s110_j0
 kernel_rfl
def s110 (G : CallT) (x0 x1 : AV) (H : AHeap) : O :=
 xmake H (boxOf (H).next x1) fun x3 h1 =>
 xalloc h1 [(.int .i64 0), (.int .i64 0), (.str []), (.str []), (.int .i64 0), AV.nilSl, (.int .i64 0), (.int .i64 0), (.int .i64 0), (.int .i64 0), (.int .i64 0)] fun x4 h2 =>
 xcall h2 (G 62 [x0] h2) fun x8 h3 =>
 xb (afield P 65 x8 3) fun x9 =>
 xb (anil x0) fun x11 =>
 xb (afieldAddr P 71 x11 1) fun x12 =>
 xb (aload P h3 3 x12) fun x13 =>
 xb (fbin P .add 3 true x13 (.int .i64 1)) fun x14 =>
 xb (anil x0) fun x15 =>
 xb (afieldAddr P 71 x15 1) fun x16 =>
 xstore h3 (astore P h3 3 x16 x14) fun h4 =>
 xcall h4 (G 62 [x0] h4) fun x18 h5 =>
 xalloc h5 [(.int .i64 0), (.str []), (.int .i64 0), (.int .i64 0)] fun x6 h6 =>
 xstore h6 (astore P h6 65 x6 x18) fun h7 =>
 xb (afieldAddr P 65 x6 0) fun x19 =>
 xb (aload P h7 3 x19) fun x20 =>
 xb (fbin P .neq 3 true x20 (.int .i64 1)) fun x21 =>
 xif (some x21) (xcall h7 (G 61 [x0, (.int .i64 2)] h7) fun x23 h8 =>
 s110_j0 G x0 x3 x4 x9 x6 h8) (s110_j0 G x0 x3 x4 x9 x6 h7)
theorem s110_eq (G : CallT) (N : Nat) (x0 : AV) (x1 : AV) (H : AHeap) : cF Try.f110 G N (argsF [x0, x1]) H = s110 G x0 x1 H := by
 refine via_top (A := cF Try.f110 G N) ((via_seq (by kernel_rfl) ((via_seq (by kernel_rfl) ((via_seq (by kernel_rfl) ((via_seq (by kernel_rfl) ((via_seq (by kernel_rfl) (s110_j0_eq G N) (via_leaf _))) (via_leaf _))) (via_leaf _))) (via_leaf _))) (via_leaf _))) ?_
 delta s110
 generalize s110_j0 G = J0
 revert J0
 refine id ?_
 intro J0
 kernel_rfl
theorem run110 (N : Nat) {x0 x1 : AV} {H : AHeap} {r : AV × AHeap} (h : s110 (evw P) x0 x1 H = some r) : evw P 110 [x0, x1] H = some r :=
 runF Try.func110 (by kernel_rfl) (by kernel_rfl) (by kernel_rfl) ((s110_eq (evw P) N x0 x1 H).trans h)
def s111 (G : CallT) (x0 x1 : AV) (H : AHeap) : O :=
 xmake H (boxOf (H).next x1) fun x3 h1 =>
 xalloc h1 [(.int .i64 0), (.int .i64 0), (.str []), (.str []), (.int .i64 0), AV.nilSl, (.int .i64 0), (.int .i64 0), (.int .i64 0), (.int .i64 0), (.int .i64 0)] fun x4 h2 =>
 xcall h2 (G 62 [x0] h2) fun x7 h3 =>
 xb (afield P 65 x7 3) fun x8 =>
 xcall h3 (G 119 [x0, (.str [91]), (.str [93])] h3) fun x11 h4 =>
 xb (aload P h4 39 x3) fun x9 =>
 xmake h4 (sliceOf P (h4).next 35 2 [(0, x9), (1, x11)]) fun x12 h5 =>
 xb (abuild P 39 [(0, (.int .i64 6)), (4, x12), (5, x8)]) fun x14 =>
 xstore h5 (astore P h5 39 x4 x14) fun h6 =>
 bif ((rdIs (aload P h3 39 x3) x9 && (rdIs (aload P h4 39 x3) x9 && true)) && true) then (xb (aload P h6 39 x4) fun r =>
 some (r, h6)) else none
theorem s111_eq (G : CallT) (N : Nat) (x0 : AV) (x1 : AV) (H : AHeap) : cF Try.f111 G N (argsF [x0, x1]) H = s111 G x0 x1 H := by
 refine via_top (A := cF Try.f111 G N) (via_leaf _) ?_
 delta s111
 kernel_rfl
theorem run111 (N : Nat) {x0 x1 : AV} {H : AHeap} {r : AV × AHeap} (h : s111 (evw P) x0 x1 H = some r) : evw P 111 [x0, x1] H = some r :=
 runF Try.func111 (by kernel_rfl) (by kernel_rfl) (by kernel_rfl) ((s111_eq (evw P) N x0 x1 H).trans h)
def s112_j0 (G : CallT) (N : Nat) (x0 x5 : AV) (H : AHeap) : O :=
 xcall H (G 120 [x0, (.str [41])] H) fun x25 h1 =>
 some (x5, h1)
theorem s112_j0_eq (G : CallT) (N : Nat) : ∀ R H, codeC P G N (Code.snd (Code.snd (Code.snd (Code.snd (bodyOf Try.f112))))) (rC Try.f112) [] (rC Try.f112) R H = s112_j0 G N (R 0) (R 5) H := by
 refine via_trans (via_leaf _) fun R H => ?_
 delta s112_j0
 kernel_rfl
def s112_b1 (G : CallT) (N : Nat) (L1 : AV → AV → AV → AHeap → O) (x0 x1 x5 : AV) (H : AHeap) : O :=
 xcall H (G 80 [x0, (.int .i64 4), (.str [44])] H) fun x18 h1 =>
 xif (some x18) (xapply G h1 x1 [] fun x21 h2 =>
 xmake h2 (sliceOf P (h2).next 35 1 [(0, x21)]) fun x22 h3 =>
 xcall h3 (aappend P h3 [35, 35] x5 x22) fun x23 h4 =>
 L1 x0 x1 x23 h4) (s112_j0 G N x0 x5 h1)
def s112_l1 (G : CallT) (N : Nat) : Nat → AV → AV → AV → AHeap → O
 | 0, _, _, _, _ => none
 | n + 1, x0, x1, x5, H => s112_b1 G N (s112_l1 G N n) x0 x1 x5 H
theorem s112_b1_eq (G : CallT) (N : Nat) (L1 : AV → AV → AV → AHeap → O) : ∀ R H, codeC P G N (Code.fst (Code.fst (Code.snd (Code.fst (Code.snd (Code.fst (Code.snd (Code.snd (Code.snd (bodyOf Try.f112)))))))))) (fun R H => L1 (R 0) (R 1) (R 5) H) [(0, (fun R H => s112_j0 G N (R 0) (R 5) H))] (rC Try.f112) R H = s112_b1 G N L1 (R 0) (R 1) (R 5) H := by
 refine via_trans (via_leaf _) fun R H => ?_
 delta s112_b1
 generalize s112_j0 G N = J0
 revert J0
 refine id ?_
 intro J0
 kernel_rfl
def s112 (G : CallT) (N : Nat) (x0 x1 : AV) (H : AHeap) : O :=
 xcall H (G 101 [x0, (.str [40])] H) fun x7 h1 =>
 xb (aun .not x7) fun x8 =>
 xif (some x8) (some (AV.nilSl, h1)) (xcall h1 (G 60 [x0, (.int .i64 4), (.str [41])] h1) fun x10 h2 =>
 xb (aun .not x10) fun x11 =>
 xif (some x11) (xapply G h2 x1 [] fun x14 h3 =>
 xmake h3 (sliceOf P (h3).next 35 1 [(0, x14)]) fun x15 h4 =>
 xcall h4 (aappend P h4 [35, 35] AV.nilSl x15) fun x16 h5 =>
 s112_l1 G N N x0 x1 x16 h5) (s112_j0 G N x0 AV.nilSl h2))
theorem s112_eq (G : CallT) (N : Nat) (x0 : AV) (x1 : AV) (H : AHeap) : cF Try.f112 G N (argsF [x0, x1]) H = s112 G N x0 x1 H := by
 refine via_top (A := cF Try.f112 G N) ((via_seq (by kernel_rfl) ((via_seq (by kernel_rfl) ((via_seq (by kernel_rfl) ((via_seq (by kernel_rfl) (s112_j0_eq G N) ((via_seq (by kernel_rfl) ((via_cond (by kernel_rfl) ((via_seq (by kernel_rfl) ((via_block (by kernel_rfl) ((via_loop (k := fun m R H => s112_l1 G N m (R 0) (R 1) (R 5) H) (by kernel_rfl) (fun R H => by kernel_rfl) (fun m => s112_b1_eq G N (s112_l1 G N m)))))) (via_leaf _))) (via_leaf _))) (via_leaf _))))) (via_leaf _))) (via_leaf _))) (via_leaf _))) ?_
 delta s112
 generalize s112_j0 G N = J0
 generalize s112_l1 G N N = J1
 revert J0 J1
 refine id ?_
 intro J0 J1
 kernel_rfl
theorem run112 (N : Nat) {x0 x1 : AV} {H : AHeap} {r : AV × AHeap} (h : s112 (evw P) N x0 x1 H = some r) : evw P 112 [x0, x1] H = some r :=
 runF Try.func112 (by kernel_rfl) (by kernel_rfl) (by kernel_rfl) ((s112_eq (evw P) N x0 x1 H).trans h)
def s113_j0 (G : CallT) (x2 x4 : AV) (H : AHeap) : O :=
 xb (aload P H 39 x4) fun x21 =>
 xstore H (astore P H 39 x2 x21) fun h1 =>
 xb (aload P h1 39 x2) fun r =>
 some (r, h1)
theorem s113_j0_eq (G : CallT) (N : Nat) : ∀ R H, codeC P G N (Code.snd (Code.snd (Code.snd (Code.snd (Code.snd (bodyOf Try.f113)))))) (rC Try.f113) [] (rC Try.f113) R H = s113_j0 G (R 2) (R 4) H := by
 refine via_trans (via_leaf _) fun R H => ?_
 delta s113_j0
 kernel_rfl
def s113 (G : CallT) (x0 : AV) (H : AHeap) : O :=
 xalloc H [(.int .i64 0), (.int .i64 0), (.str []), (.str []), (.int .i64 0), AV.nilSl, (.int .i64 0), (.int .i64 0), (.int .i64 0), (.int .i64 0), (.int .i64 0)] fun x2 h1 =>
 xcall h1 (G 62 [x0] h1) fun x6 h2 =>
 xalloc h2 [(.int .i64 0), (.str []), (.int .i64 0), (.int .i64 0)] fun x3 h3 =>
 xstore h3 (astore P h3 65 x3 x6) fun h4 =>
 xb (anil x0) fun x8 =>
 xb (afieldAddr P 71 x8 1) fun x9 =>
 xb (aload P h4 3 x9) fun x10 =>
 xb (fbin P .add 3 true x10 (.int .i64 1)) fun x11 =>
 xb (anil x0) fun x12 =>
 xb (afieldAddr P 71 x12 1) fun x13 =>
 xstore h4 (astore P h4 3 x13 x11) fun h5 =>
 xb (afieldAddr P 65 x3 3) fun x14 =>
 xb (aload P h5 3 x14) fun x15 =>
 xb (abuild P 39 [(0, (.int .i64 2)), (5, x15)]) fun x16 =>
 xalloc h5 [(.int .i64 0), (.int .i64 0), (.str []), (.str []), (.int .i64 0), AV.nilSl, (.int .i64 0), (.int .i64 0), (.int .i64 0), (.int .i64 0), (.int .i64 0)] fun x4 h6 =>
 xstore h6 (astore P h6 39 x4 x16) fun h7 =>
 xb (afieldAddr P 65 x3 1) fun x17 =>
 xb (aload P h7 9 x17) fun x18 =>
 xb (fbin P .eql 9 true x18 (.str [116, 114, 117, 101])) fun x19 =>
 xif (some x19) (xb (afieldAddr P 39 x4 1) fun x20 =>
 xstore h7 (astore P h7 3 x20 (.int .i64 1)) fun h8 =>
 s113_j0 G x2 x4 h8) (s113_j0 G x2 x4 h7)
theorem s113_eq (G : CallT) (N : Nat) (x0 : AV) (H : AHeap) : cF Try.f113 G N (argsF [x0]) H = s113 G x0 H := by
 refine via_top (A := cF Try.f113 G N) ((via_seq (by kernel_rfl) ((via_seq (by kernel_rfl) ((via_seq (by kernel_rfl) ((via_seq (by kernel_rfl) ((via_seq (by kernel_rfl) (s113_j0_eq G N) (via_leaf _))) (via_leaf _))) (via_leaf _))) (via_leaf _))) (via_leaf _))) ?_
 delta s113
 generalize s113_j0 G = J0
 revert J0
 refine id ?_
 intro J0
 kernel_rfl
theorem run113 (N : Nat) {x0 : AV} {H : AHeap} {r : AV × AHeap} (h : s113 (evw P) x0 H = some r) : evw P 113 [x0] H = some r :=
 runF Try.func113 (by kernel_rfl) (by kernel_rfl) (by kernel_rfl) ((s113_eq (evw P) N x0 H).trans h)
def s114 (G : CallT) (x0 : AV) (H : AHeap) : O :=
 xalloc H [(.int .i64 0), (.int .i64 0), (.str []), (.str []), (.int .i64 0), AV.nilSl, (.int .i64 0), (.int .i64 0), (.int .i64 0), (.int .i64 0), (.int .i64 0)] fun x2 h1 =>
 xcall h1 (G 62 [x0] h1) fun x5 h2 =>
 xb (afield P 65 x5 3) fun x6 =>
 xb (anil x0) fun x8 =>
 xb (afieldAddr P 71 x8 1) fun x9 =>
 xb (aload P h2 3 x9) fun x10 =>
 xb (fbin P .add 3 true x10 (.int .i64 1)) fun x11 =>
 xb (anil x0) fun x12 =>
 xb (afieldAddr P 71 x12 1) fun x13 =>
 xstore h2 (astore P h2 3 x13 x11) fun h3 =>
 xcall h3 (G 35 [x0] h3) fun x15 h4 =>
 xb (abuild P 39 [(0, (.int .i64 3)), (3, x15), (5, x6)]) fun x17 =>
 xstore h4 (astore P h4 39 x2 x17) fun h5 =>
 xb (aload P h5 39 x2) fun r =>
 some (r, h5)
theorem s114_eq (G : CallT) (N : Nat) (x0 : AV) (H : AHeap) : cF Try.f114 G N (argsF [x0]) H = s114 G x0 H := by
 refine via_top (A := cF Try.f114 G N) (via_leaf _) ?_
 delta s114
 kernel_rfl
theorem run114 (N : Nat) {x0 : AV} {H : AHeap} {r : AV × AHeap} (h : s114 (evw P) x0 H = some r) : evw P 114 [x0] H = some r :=
 runF Try.func114 (by kernel_rfl) (by kernel_rfl) (by kernel_rfl) ((s114_eq (evw P) N x0 H).trans h)
def s115_j0 (G : CallT) (x0 x2 : AV) (x3 x5 : AV) (H : AHeap) : O :=
 xb (anil x0) fun x36 =>
 xb (afieldAddr P 71 x36 1) fun x37 =>
 xb (aload P H 3 x37) fun x38 =>
 xb (fbin P .add 3 true x38 (.int .i64 1)) fun x39 =>
 xb (anil x0) fun x40 =>
 xb (afieldAddr P 71 x40 1) fun x41 =>
 xstore H (astore P H 3 x41 x39) fun h1 =>
 xb (afieldAddr P 65 x5 1) fun x42 =>
 xb (aload P h1 9 x42) fun x43 =>
 xb (abuild P 32 [(0, x43)]) fun x44 =>
 xb (abuild P 39 [(0, (.int .i64 8)), (3, x44), (5, x3)]) fun x46 =>
 xstore h1 (astore P h1 39 x2 x46) fun h2 =>
 xb (aload P h2 39 x2) fun r =>
 some (r, h2)
theorem s115_j0_eq (G : CallT) (N : Nat) : ∀ R H, codeC P G N (Code.snd (Code.snd (Code.snd (Code.snd (Code.snd (Code.snd (bodyOf Try.f115))))))) (rC Try.f115) [] (rC Try.f115) R H = s115_j0 G (R 0) (R 2) (R 3) (R 5) H := by
 refine via_trans (via_leaf _) fun R H => ?_
 delta s115_j0
 kernel_rfl
def s115 (G : CallT) (x0 : AV) (H : AHeap) : O :=
 xalloc H [(.int .i64 0), (.int .i64 0), (.str []), (.str []), (.int .i64 0), AV.nilSl, (.int .i64 0), (.int .i64 0), (.int .i64 0), (.int .i64 0), (.int .i64 0)] fun x2 h1 =>
 xcall h1 (G 62 [x0] h1) fun x7 h2 =>
 xb (afield P 65 x7 3) fun x8 =>
 xb (anil x0) fun x10 =>
 xb (afieldAddr P 71 x10 1) fun x11 =>
 xb (aload P h2 3 x11) fun x12 =>
 xb (fbin P .add 3 true x12 (.int .i64 1)) fun x13 =>
 xb (anil x0) fun x14 =>
 xb (afieldAddr P 71 x14 1) fun x15 =>
 xstore h2 (astore P h2 3 x15 x13) fun h3 =>
 xcall h3 (G 80 [x0, (.int .i64 4), (.str [91])] h3) fun x17 h4 =>
 xif (some x17) (xcall h4 (G 35 [x0] h4) fun x19 h5 =>
 xalloc h5 [(.str []), (.int .i64 0)] fun x4 h6 =>
 xstore h6 (astore P h6 32 x4 x19) fun h7 =>
 xcall h7 (G 63 [x0, (.str [93])] h7) fun x21 h8 =>
 xcall h8 (G 119 [x0, (.str [40]), (.str [41])] h8) fun x24 h9 =>
 xb (aload P h9 32 x4) fun x22 =>
 xmake h9 (sliceOf P (h9).next 35 1 [(0, x24)]) fun x25 h10 =>
 xb (abuild P 39 [(0, (.int .i64 9)), (3, x22), (4, x25), (5, x8)]) fun x27 =>
 xstore h10 (astore P h10 39 x2 x27) fun h11 =>
 bif ((rdIs (aload P h8 32 x4) x22 && (rdIs (aload P h9 32 x4) x22 && (rdIs (aload P h10 32 x4) x22 && true))) && true) then (xb (aload P h11 39 x2) fun r =>
 some (r, h11)) else none) (xcall h4 (G 62 [x0] h4) fun x29 h5 =>
 xalloc h5 [(.int .i64 0), (.str []), (.int .i64 0), (.int .i64 0)] fun x5 h6 =>
 xstore h6 (astore P h6 65 x5 x29) fun h7 =>
 xb (afieldAddr P 65 x5 0) fun x30 =>
 xb (aload P h7 3 x30) fun x31 =>
 xb (fbin P .neq 3 true x31 (.int .i64 1)) fun x32 =>
 xif (some x32) (xcall h7 (G 61 [x0, (.int .i64 2)] h7) fun x34 h8 =>
 s115_j0 G x0 x2 x8 x5 h8) (s115_j0 G x0 x2 x8 x5 h7))
theorem s115_eq (G : CallT) (N : Nat) (x0 : AV) (H : AHeap) : cF Try.f115 G N (argsF [x0]) H = s115 G x0 H := by
 refine via_top (A := cF Try.f115 G N) ((via_seq (by kernel_rfl) ((via_seq (by kernel_rfl) ((via_seq (by kernel_rfl) ((via_seq (by kernel_rfl) ((via_seq (by kernel_rfl) ((via_seq (by kernel_rfl) (s115_j0_eq G N) (via_leaf _))) (via_leaf _))) (via_leaf _))) (via_leaf _))) (via_leaf _))) (via_leaf _))) ?_
 delta s115
 generalize s115_j0 G = J0
 revert J0
 refine id ?_
 intro J0
 kernel_rfl
theorem run115 (N : Nat) {x0 : AV} {H : AHeap} {r : AV × AHeap} (h : s115 (evw P) x0 H = some r) : evw P 115 [x0] H = some r :=
 runF Try.func115 (by kernel_rfl) (by kernel_rfl) (by kernel_rfl) ((s115_eq (evw P) N x0 H).trans h)
def s116 (G : CallT) (x0 : AV) (H : AHeap) : O :=
 xalloc H [(.int .i64 0), (.int .i64 0), (.str []), (.str []), (.int .i64 0), AV.nilSl, (.int .i64 0), (.int .i64 0), (.int .i64 0), (.int .i64 0), (.int .i64 0)] fun x2 h1 =>
 xcall h1 (G 62 [x0] h1) fun x5 h2 =>
 xb (afield P 65 x5 3) fun x6 =>
 xb (anil x0) fun x8 =>
 xb (afieldAddr P 71 x8 1) fun x9 =>
 xb (aload P h2 3 x9) fun x10 =>
 xb (fbin P .add 3 true x10 (.int .i64 1)) fun x11 =>
 xb (anil x0) fun x12 =>
 xb (afieldAddr P 71 x12 1) fun x13 =>
 xstore h2 (astore P h2 3 x13 x11) fun h3 =>
 xcall h3 (G 119 [x0, (.str [40]), (.str [41])] h3) fun x15 h4 =>
 xmake h4 (sliceOf P (h4).next 35 1 [(0, x15)]) fun x16 h5 =>
 xb (abuild P 39 [(0, (.int .i64 10)), (4, x16), (5, x6)]) fun x18 =>
 xstore h5 (astore P h5 39 x2 x18) fun h6 =>
 xb (aload P h6 39 x2) fun r =>
 some (r, h6)
theorem s116_eq (G : CallT) (N : Nat) (x0 : AV) (H : AHeap) : cF Try.f116 G N (argsF [x0]) H = s116 G x0 H := by
 refine via_top (A := cF Try.f116 G N) (via_leaf _) ?_
 delta s116
 kernel_rfl
theorem run116 (N : Nat) {x0 : AV} {H : AHeap} {r : AV × AHeap} (h : s116 (evw P) x0 H = some r) : evw P 116 [x0] H = some r :=
 runF Try.func116 (by kernel_rfl) (by kernel_rfl) (by kernel_rfl) ((s116_eq (evw P) N x0 H).trans h)
def s117_j0 (G : CallT) (x2 x3 : AV) (H : AHeap) : O :=
 xb (abuild P 39 [(0, (.int .i64 11)), (5, x3)]) fun x19 =>
 xstore H (astore P H 39 x2 x19) fun h1 =>
 xb (aload P h1 39 x2) fun r =>
 some (r, h1)
theorem s117_j0_eq (G : CallT) (N : Nat) : ∀ R H, codeC P G N (Code.snd (Code.snd (Code.snd (Code.snd (bodyOf Try.f117))))) (rC Try.f117) [] (rC Try.f117) R H = s117_j0 G (R 2) (R 3) H := by
 refine via_trans (via_leaf _) fun R H => ?_
 delta s117_j0
 kernel_rfl
def s117 (G : CallT) (x0 : AV) (H : AHeap) : O :=
 xalloc H [(.int .i64 0), (.int .i64 0), (.str []), (.str []), (.int .i64 0), AV.nilSl, (.int .i64 0), (.int .i64 0), (.int .i64 0), (.int .i64 0), (.int .i64 0)] fun x2 h1 =>
 xcall h1 (G 62 [x0] h1) fun x5 h2 =>
 xb (afield P 65 x5 3) fun x6 =>
 xb (anil x0) fun x8 =>
 xb (afieldAddr P 71 x8 1) fun x9 =>
 xb (aload P h2 3 x9) fun x10 =>
 xb (fbin P .add 3 true x10 (.int .i64 1)) fun x11 =>
 xb (anil x0) fun x12 =>
 xb (afieldAddr P 71 x12 1) fun x13 =>
 xstore h2 (astore P h2 3 x13 x11) fun h3 =>
 xcall h3 (G 101 [x0, (.str [40])] h3) fun x15 h4 =>
 xif (some x15) (xcall h4 (G 120 [x0, (.str [41])] h4) fun x17 h5 =>
 s117_j0 G x2 x6 h5) (s117_j0 G x2 x6 h4)
theorem s117_eq (G : CallT) (N : Nat) (x0 : AV) (H : AHeap) : cF Try.f117 G N (argsF [x0]) H = s117 G x0 H := by
 refine via_top (A := cF Try.f117 G N) ((via_seq (by kernel_rfl) ((via_seq (by kernel_rfl) ((via_seq (by kernel_rfl) ((via_seq (by kernel_rfl) (s117_j0_eq G N) (via_leaf _))) (via_leaf _))) (via_leaf _))) (via_leaf _))) ?_
 delta s117
 generalize s117_j0 G = J0
 revert J0
 refine id ?_
 intro J0
 kernel_rfl
theorem run117 (N : Nat) {x0 : AV} {H : AHeap} {r : AV × AHeap} (h : s117 (evw P) x0 H = some r) : evw P 117 [x0] H = some r :=
 runF Try.func117 (by kernel_rfl) (by kernel_rfl) (by kernel_rfl) ((s117_eq (evw P) N x0 H).trans h)
def s118 (G : CallT) (x0 : AV) (H : AHeap) : O :=
 xalloc H [(.int .i64 0), (.int .i64 0), (.str []), (.str []), (.int .i64 0), AV.nilSl, (.int .i64 0), (.int .i64 0), (.int .i64 0), (.int .i64 0), (.int .i64 0)] fun x2 h1 =>
 xcall h1 (G 119 [x0, (.str [40]), (.str [41])] h1) fun x4 h2 =>
 xstore h2 (astore P h2 39 x2 x4) fun h3 =>
 xb (aload P h3 39 x2) fun r =>
 some (r, h3)
theorem s118_eq (G : CallT) (N : Nat) (x0 : AV) (H : AHeap) : cF Try.f118 G N (argsF [x0]) H = s118 G x0 H := by
 refine via_top (A := cF Try.f118 G N) (via_leaf _) ?_
 delta s118
 kernel_rfl
theorem run118 (N : Nat) {x0 : AV} {H : AHeap} {r : AV × AHeap} (h : s118 (evw P) x0 H = some r) : evw P 118 [x0] H = some r :=
 runF Try.func118 (by kernel_rfl) (by kernel_rfl) (by kernel_rfl) ((s118_eq (evw P) N x0 H).trans h)
def s119 (G : CallT) (x0 x1 x2 : AV) (H : AHeap) : O :=
 xalloc H [(.int .i64 0), (.int .i64 0), (.str []), (.str []), (.int .i64 0), AV.nilSl, (.int .i64 0), (.int .i64 0), (.int .i64 0), (.int .i64 0), (.int .i64 0)] fun x6 h1 =>
 xcall h1 (G 101 [x0, x1] h1) fun x10 h2 =>
 xb (aun .not x10) fun x11 =>
 xif (some x11) (xstore h2 (astore P h2 39 x6 (.agg [(.int .i64 0), (.int .i64 0), (.str []), (.str []), (.int .i64 0), AV.nilSl, (.int .i64 0), (.int .i64 0), (.int .i64 0), (.int .i64 0), (.int .i64 0)])) fun h3 =>
 xb (aload P h3 39 x6) fun r =>
 some (r, h3)) (xcall h2 (G 41 [x0] h2) fun x14 h3 =>
 xalloc h3 [(.int .i64 0), (.int .i64 0), (.str []), (.str []), (.int .i64 0), AV.nilSl, (.int .i64 0), (.int .i64 0), (.int .i64 0), (.int .i64 0), (.int .i64 0)] fun x7 h4 =>
 xstore h4 (astore P h4 39 x7 x14) fun h5 =>
 xcall h5 (G 120 [x0, x2] h5) fun x17 h6 =>
 xb (aload P h6 39 x7) fun x18 =>
 xstore h6 (astore P h6 39 x6 x18) fun h7 =>
 xb (aload P h7 39 x6) fun r =>
 some (r, h7))
theorem s119_eq (G : CallT) (N : Nat) (x0 : AV) (x1 : AV) (x2 : AV) (H : AHeap) : cF Try.f119 G N (argsF [x0, x1, x2]) H = s119 G x0 x1 x2 H := by
 refine via_top (A := cF Try.f119 G N) (via_leaf _) ?_
 delta s119
 kernel_rfl
theorem run119 (N : Nat) {x0 x1 x2 : AV} {H : AHeap} {r : AV × AHeap} (h : s119 (evw P) x0 x1 x2 H = some r) : evw P 119 [x0, x1, x2] H = some r :=
 runF Try.func119 (by kernel_rfl) (by kernel_rfl) (by kernel_rfl) ((s119_eq (evw P) N x0 x1 x2 H).trans h)
def s40 (G : CallT) (H : AHeap) : O :=
 xmake H (some (.sl (H).next 0 1 2 (some 1), .row false 2 [[(.str [124, 124]), (.int .i64 24)]])) fun x2 h1 =>
 xmake h1 (some (.sl (h1).next 0 1 2 (some 1), .row false 2 [[(.str [38, 38]), (.int .i64 23)]])) fun x4 h2 =>
 xmake h2 (some (.sl (h2).next 0 4 2 (some 4), .row false 2 [[(.str [60]), (.int .i64 19)], [(.str [60, 61]), (.int .i64 20)], [(.str [61, 61]), (.int .i64 21)], [(.str [33, 61]), (.int .i64 22)]])) fun x9 h3 =>
 xmake h3 (some (.sl (h3).next 0 2 2 (some 2), .row false 2 [[(.str [43]), (.int .i64 14)], [(.str [45]), (.int .i64 15)]])) fun x12 h4 =>
 xmake h4 (some (.sl (h4).next 0 3 2 (some 3), .row false 2 [[(.str [42]), (.int .i64 16)], [(.str [47]), (.int .i64 17)], [(.str [37]), (.int .i64 18)]])) fun x16 h5 =>
 xmake h5 (sliceOf P (h5).next 69 5 [(0, x2), (1, x4), (2, x9), (3, x12), (4, x16)]) fun x17 h6 =>
 some (x17, h6)
theorem s40_eq (G : CallT) (N : Nat) (H : AHeap) : cF Try.f40 G N (argsF []) H = s40 G H := by
 refine via_top (A := cF Try.f40 G N) (via_leaf _) ?_
 delta s40
 kernel_rfl
theorem run40 (N : Nat) {H : AHeap} {r : AV × AHeap} (h : s40 (evw P) H = some r) : evw P 40 [] H = some r :=
 runF Try.func40 (by kernel_rfl) (by kernel_rfl) (by kernel_rfl) ((s40_eq (evw P) N H).trans h)
def s18 (G : CallT) (x0 x1 : AV) (H : AHeap) : O :=
 xalloc H [(.str []), (.int .i64 0)] fun x4 h1 =>
 xalloc h1 [(.int .i64 0), (.int .i64 0)] fun x6 h2 =>
 xb (abuild P 71 [(0, x0), (1, x1)]) fun x11 =>
 xmake h2 (boxOf (h2).next x11) fun x12 h3 =>
 xcall h3 (G 35 [x12] h3) fun x14 h4 =>
 xalloc h4 [(.str []), (.int .i64 0)] fun x8 h5 =>
 xstore h5 (astore P h5 32 x8 x14) fun h6 =>
 xcall h6 (G 36 [x12] h6) fun x16 h7 =>
 xif (some x16) (xstore h7 (astore P h7 32 x4 (.agg [(.str []), (.int .i64 0)])) fun h8 =>
 xb (anil x12) fun x19 =>
 xb (afieldAddr P 71 x19 4) fun x20 =>
 xb (aload P h8 25 x20) fun x21 =>
 xstore h8 (astore P h8 25 x6 x21) fun h9 =>
 bif ((rdIs (aload P h7 25 x20) x21 && (rdIs (aload P h8 25 x20) x21 && true)) && true) then (xb (aload P h9 32 x4) fun r =>
 xb (aload P h9 25 x6) fun r_1 =>
 some (.tuple [r, (.int .i64 0), r_1], h9)) else none) (xb (aload P h7 32 x8) fun x22 =>
 xstore h7 (astore P h7 32 x4 x22) fun h8 =>
 xb (anil x12) fun x24 =>
 xb (afieldAddr P 71 x24 1) fun x25 =>
 xb (aload P h8 3 x25) fun x26 =>
 xstore h8 (astore P h8 25 x6 (.agg [(.int .i64 0), (.int .i64 0)])) fun h9 =>
 bif ((rdIs (aload P h7 3 x25) x26 && (rdIs (aload P h8 3 x25) x26 && true)) && true) then (xb (aload P h9 32 x4) fun r =>
 xb (aload P h9 25 x6) fun r_1 =>
 some (.tuple [r, x26, r_1], h9)) else none)
theorem s18_eq (G : CallT) (N : Nat) (x0 : AV) (x1 : AV) (H : AHeap) : cF Try.f18 G N (argsF [x0, x1]) H = s18 G x0 x1 H := by
 refine via_top (A := cF Try.f18 G N) (via_leaf _) ?_
 delta s18
 kernel_rfl
theorem run18 (N : Nat) {x0 x1 : AV} {H : AHeap} {r : AV × AHeap} (h : s18 (evw P) x0 x1 H = some r) : evw P 18 [x0, x1] H = some r :=
 runF Try.func18 (by kernel_rfl) (by kernel_rfl) (by kernel_rfl) ((s18_eq (evw P) N x0 x1 H).trans h)
def s21 (G : CallT) (x0 x1 x2 : AV) (H : AHeap) : O :=
 xalloc H [(.int .i64 0), (.int .i64 0), (.str []), (.str []), (.int .i64 0), AV.nilSl, (.int .i64 0), (.int .i64 0), (.int .i64 0), (.int .i64 0), (.int .i64 0)] fun x6 h1 =>
 xalloc h1 [(.int .i64 0), (.int .i64 0)] fun x8 h2 =>
 xlen P .max [3, 3] [x2, (.int .i64 0)] h2 fun x14 =>
 xcall h2 (G 40 [] h2) fun x15 h3 =>
 xb (abuild P 71 [(0, x0), (1, x1), (2, x14), (3, x15)]) fun x16 =>
 xmake h3 (boxOf (h3).next x16) fun x17 h4 =>
 xcall h4 (G 41 [x17] h4) fun x19 h5 =>
 xalloc h5 [(.int .i64 0), (.int .i64 0), (.str []), (.str []), (.int .i64 0), AV.nilSl, (.int .i64 0), (.int .i64 0), (.int .i64 0), (.int .i64 0), (.int .i64 0)] fun x10 h6 =>
 xstore h6 (astore P h6 39 x10 x19) fun h7 =>
 xcall h7 (G 36 [x17] h7) fun x21 h8 =>
 xif (some x21) (xstore h8 (astore P h8 39 x6 (.agg [(.int .i64 0), (.int .i64 0), (.str []), (.str []), (.int .i64 0), AV.nilSl, (.int .i64 0), (.int .i64 0), (.int .i64 0), (.int .i64 0), (.int .i64 0)])) fun h9 =>
 xb (anil x17) fun x24 =>
 xb (afieldAddr P 71 x24 4) fun x25 =>
 xb (aload P h9 25 x25) fun x26 =>
 xstore h9 (astore P h9 25 x8 x26) fun h10 =>
 bif ((rdIs (aload P h8 25 x25) x26 && (rdIs (aload P h9 25 x25) x26 && true)) && true) then (xb (aload P h10 39 x6) fun r =>
 xb (aload P h10 25 x8) fun r_1 =>
 some (.tuple [r, (.int .i64 0), r_1], h10)) else none) (xb (aload P h8 39 x10) fun x27 =>
 xstore h8 (astore P h8 39 x6 x27) fun h9 =>
 xb (anil x17) fun x29 =>
 xb (afieldAddr P 71 x29 1) fun x30 =>
 xb (aload P h9 3 x30) fun x31 =>
 xstore h9 (astore P h9 25 x8 (.agg [(.int .i64 0), (.int .i64 0)])) fun h10 =>
 bif ((rdIs (aload P h8 3 x30) x31 && (rdIs (aload P h9 3 x30) x31 && true)) && true) then (xb (aload P h10 39 x6) fun r =>
 xb (aload P h10 25 x8) fun r_1 =>
 some (.tuple [r, x31, r_1], h10)) else none)
theorem s21_eq (G : CallT) (N : Nat) (x0 : AV) (x1 : AV) (x2 : AV) (H : AHeap) : cF Try.f21 G N (argsF [x0, x1, x2]) H = s21 G x0 x1 x2 H := by
 refine via_top (A := cF Try.f21 G N) (via_leaf _) ?_
 delta s21
 kernel_rfl
theorem run21 (N : Nat) {x0 x1 x2 : AV} {H : AHeap} {r : AV × AHeap} (h : s21 (evw P) x0 x1 x2 H = some r) : evw P 21 [x0, x1, x2] H = some r :=
 runF Try.func21 (by kernel_rfl) (by kernel_rfl) (by kernel_rfl) ((s21_eq (evw P) N x0 x1 x2 H).trans h)
def s24 (G : CallT) (x0 x1 : AV) (H : AHeap) : O :=
 xmake H (boxOf (H).next x0) fun x2 h1 =>
 xmake h1 (boxOf (h1).next x1) fun x3 h2 =>
 xb (afieldAddr P 39 x2 0) fun x5 =>
 xb (aload P h2 3 x5) fun x6 =>
 xb (afieldAddr P 39 x3 0) fun x7 =>
 xb (aload P h2 3 x7) fun x8 =>
 xb (fbin P .eql 3 false x6 x8) fun x9 =>
 xg x9 true h2 (qp (afieldAddr P 39 x2 1)) fun x11 h3 =>
 xg x9 true h3 (qr (aload P h3 3 x11)) fun x12 h4 =>
 xg x9 true h4 (qp (afieldAddr P 39 x3 1)) fun x13 h5 =>
 xg x9 true h5 (qr (aload P h5 3 x13)) fun x14 h6 =>
 xg x9 true h6 (qp (fbin P .eql 3 false x12 x14)) fun x15 h7 =>
 xb (pickOf x9 (some x15) (some (.bool false))) fun x16 =>
 xg x16 true h7 (qp (afieldAddr P 39 x2 2)) fun x18 h8 =>
 xg x16 true h8 (qr (aload P h8 9 x18)) fun x19 h9 =>
 xg x16 true h9 (qp (afieldAddr P 39 x3 2)) fun x20 h10 =>
 xg x16 true h10 (qr (aload P h10 9 x20)) fun x21 h11 =>
 xg x16 true h11 (qp (fbin P .eql 9 false x19 x21)) fun x22 h12 =>
 xb (pickOf x16 (some x22) (some (.bool false))) fun x23 =>
 xg x23 true h12 (qp (afieldAddr P 39 x2 3)) fun x25 h13 =>
 xg x23 true h13 (qr (aload P h13 32 x25)) fun x26 h14 =>
 xg x23 true h14 (qp (afieldAddr P 39 x3 3)) fun x27 h15 =>
 xg x23 true h15 (qr (aload P h15 32 x27)) fun x28 h16 =>
 xg x23 true h16 (qp (fbin P .eql 32 false x26 x28)) fun x29 h17 =>
 xb (pickOf x23 (some x29) (some (.bool false))) fun x30 =>
 xg x30 true h17 (qp (afieldAddr P 39 x2 6)) fun x32 h18 =>
 xg x30 true h18 (qr (aload P h18 37 x32)) fun x33 h19 =>
 xg x30 true h19 (qp (afieldAddr P 39 x3 6)) fun x34 h20 =>
 xg x30 true h20 (qr (aload P h20 37 x34)) fun x35 h21 =>
 xg x30 true h21 (qp (fbin P .eql 37 false x33 x35)) fun x36 h22 =>
 xb (pickOf x30 (some x36) (some (.bool false))) fun x37 =>
 xg x37 true h22 (qp (afieldAddr P 39 x2 7)) fun x39 h23 =>
 xg x37 true h23 (qr (aload P h23 3 x39)) fun x40 h24 =>
 xg x37 true h24 (qp (afieldAddr P 39 x3 7)) fun x41 h25 =>
 xg x37 true h25 (qr (aload P h25 3 x41)) fun x42 h26 =>
 xg x37 true h26 (qp (fbin P .eql 3 false x40 x42)) fun x43 h27 =>
 xb (pickOf x37 (some x43) (some (.bool false))) fun x44 =>
 xg x44 true h27 (qp (afieldAddr P 39 x2 4)) fun x46 h28 =>
 xg x44 true h28 (qr (aload P h28 35 x46)) fun x47 h29 =>
 xg x44 true h29 (qp (afieldAddr P 39 x3 4)) fun x48 h30 =>
 xg x44 true h30 (qr (aload P h30 35 x48)) fun x49 h31 =>
 xg x44 true h31 (fun q => xeff h31 (G 43 [x47, x49, (.func (.func 24) [] [])] h31) q) fun x50 h32 =>
 xb (pickOf x44 (some x50) (some (.bool false))) fun x51 =>
 some (x51, h32)
theorem s24_eq (G : CallT) (N : Nat) (x0 : AV) (x1 : AV) (H : AHeap) : cF Try.f24 G N (argsF [x0, x1]) H = s24 G x0 x1 H := by
 refine via_top (A := cF Try.f24 G N) (via_leaf _) ?_
 delta s24
 kernel_rfl
theorem run24 (N : Nat) {x0 x1 : AV} {H : AHeap} {r : AV × AHeap} (h : s24 (evw P) x0 x1 H = some r) : evw P 24 [x0, x1] H = some r :=
 runF Try.func24 (by kernel_rfl) (by kernel_rfl) (by kernel_rfl) ((s24_eq (evw P) N x0 x1 H).trans h)
def s43_j0 (G : CallT) (N : Nat) (H : AHeap) : O :=
 some ((.bool true), H)
theorem s43_j0_eq (G : CallT) (N : Nat) : ∀ R H, codeC P G N (Code.snd (Code.snd (Code.snd (bodyOf Try.f43)))) (rC Try.f43) [] (rC Try.f43) R H = s43_j0 G N H := by
 refine via_trans (via_leaf _) fun R H => ?_
 delta s43_j0
 kernel_rfl
def s43_b1 (G : CallT) (N : Nat) (L1 : AV → AV → AV → AV → AV → AHeap → O) (x1 x2 : AV) (x15 x16 x17 : AV) (H : AHeap) : O :=
 xb (fbin P .lss 3 false x17 x16) fun x18 =>
 xif (some x18) (xb (aindexAddr P 35 x15 x17) fun x20 =>
 xb (aload P H 39 x20) fun x21 =>
 xalloc H [(.int .i64 0), (.int .i64 0), (.str []), (.str []), (.int .i64 0), AV.nilSl, (.int .i64 0), (.int .i64 0), (.int .i64 0), (.int .i64 0), (.int .i64 0)] fun x8 h1 =>
 xstore h1 (astore P h1 39 x8 x21) fun h2 =>
 xb (aindexAddr P 35 x1 x17) fun x24 =>
 xb (aload P h2 39 x24) fun x25 =>
 xalloc h2 [(.int .i64 0), (.int .i64 0), (.str []), (.str []), (.int .i64 0), AV.nilSl, (.int .i64 0), (.int .i64 0), (.int .i64 0), (.int .i64 0), (.int .i64 0)] fun x9 h3 =>
 xstore h3 (astore P h3 39 x9 x25) fun h4 =>
 xb (aload P h4 39 x8) fun x27 =>
 xb (aload P h4 39 x9) fun x28 =>
 xapply G h4 x2 [x27, x28] fun x29 h5 =>
 xb (aun .not x29) fun x30 =>
 xif (some x30) (some ((.bool false), h5)) (xb (fbin P .add 3 true x17 (.int .i64 1)) fun x31 =>
 L1 x1 x2 x15 x16 x31 h5)) (s43_j0 G N H)
def s43_l1 (G : CallT) (N : Nat) : Nat → AV → AV → AV → AV → AV → AHeap → O
 | 0, _, _, _, _, _, _ => none
 | n + 1, x1, x2, x15, x16, x17, H => s43_b1 G N (s43_l1 G N n) x1 x2 x15 x16 x17 H
theorem s43_b1_eq (G : CallT) (N : Nat) (L1 : AV → AV → AV → AV → AV → AHeap → O) : ∀ R H, codeC P G N (Code.fst (Code.fst (Code.snd (Code.fst (Code.snd (Code.snd (bodyOf Try.f43))))))) (fun R H => L1 (R 1) (R 2) (R 15) (R 16) (R 17) H) [(0, (fun R H => s43_j0 G N H))] (rC Try.f43) R H = s43_b1 G N L1 (R 1) (R 2) (R 15) (R 16) (R 17) H := by
 refine via_trans (via_leaf _) fun R H => ?_
 delta s43_b1
 generalize s43_j0 G N = J0
 revert J0
 refine id ?_
 intro J0
 kernel_rfl
def s43 (G : CallT) (N : Nat) (x0 x1 x2 : AV) (H : AHeap) : O :=
 xlen P .len [35] [x0] H fun x11 =>
 xlen P .len [35] [x1] H fun x13 =>
 xb (fbin P .neq 3 false x11 x13) fun x14 =>
 xif (some x14) (some ((.bool false), H)) (xlen P .len [35] [x0] H fun x16 =>
 s43_l1 G N N x1 x2 x0 x16 (.int .i64 0) H)
theorem s43_eq (G : CallT) (N : Nat) (x0 : AV) (x1 : AV) (x2 : AV) (H : AHeap) : cF Try.f43 G N (argsF [x0, x1, x2]) H = s43 G N x0 x1 x2 H := by
 refine via_top (A := cF Try.f43 G N) ((via_seq (by kernel_rfl) ((via_seq (by kernel_rfl) ((via_seq (by kernel_rfl) (s43_j0_eq G N) ((via_seq (by kernel_rfl) ((via_block (by kernel_rfl) ((via_loop (k := fun m R H => s43_l1 G N m (R 1) (R 2) (R 15) (R 16) (R 17) H) (by kernel_rfl) (fun R H => by kernel_rfl) (fun m => s43_b1_eq G N (s43_l1 G N m)))))) (via_leaf _))))) (via_leaf _))) (via_leaf _))) ?_
 delta s43
 generalize s43_l1 G N N = J0
 revert J0
 refine id ?_
 intro J0
 kernel_rfl
theorem run43 (N : Nat) {x0 x1 x2 : AV} {H : AHeap} {r : AV × AHeap} (h : s43 (evw P) N x0 x1 x2 H = some r) : evw P 43 [x0, x1, x2] H = some r :=
 runF Try.func43 (by kernel_rfl) (by kernel_rfl) (by kernel_rfl) ((s43_eq (evw P) N x0 x1 x2 H).trans h)
end
end Go.Proofs.Ytnjoomfeddamcaa
namespace Go.Proofs.Ytnjoomfeddamcaa
open Go.Ev
theorem ta3 : tyAgg P 3 = some false := by kernel_rfl
theorem ts3 : tySize P 3 = some 1 := by kernel_rfl
theorem ta4 : tyAgg P 4 = some false := by kernel_rfl
theorem ts4 : tySize P 4 = some 1 := by kernel_rfl
theorem eq4 {c : Bool} (a b : Bool) : fbin P .eql 4 c (.bool a) (.bool b) = some (.bool (a == b)) := by kernel_rfl
theorem ne4 {c : Bool} (a b : Bool) : fbin P .neq 4 c (.bool a) (.bool b) = some (.bool (!(a == b))) := by kernel_rfl
theorem ta5 : tyAgg P 5 = some false := by kernel_rfl
theorem ts5 : tySize P 5 = some 1 := by kernel_rfl
theorem ta9 : tyAgg P 9 = some false := by kernel_rfl
theorem ts9 : tySize P 9 = some 1 := by kernel_rfl
theorem ln9 {H : AHeap} {s : List UInt8} : abuiltin P H .len [9] [.str s] = some (.int .i64 s.length) := by kernel_rfl
theorem ta22 : tyAgg P 22 = some false := by kernel_rfl
theorem ts22 : tySize P 22 = some 1 := by kernel_rfl
theorem ia22' (l i n : Nat) (cap : Option Nat) (k : Int) : aindexAddr P 22 (.sl l i n 4 cap) (.int .i64 k) = if 4 = 4 ∧ 0 ≤ k ∧ k < n then some (.ptr l (i + k.toNat) 0) else none := by kernel_rfl
theorem ia22 {l i n : Nat} {cap : Option Nat} {k : Int} (h0 : 0 ≤ k) (h1 : k < n) : aindexAddr P 22 (.sl l i n 4 cap) (.int .i64 k) = some (.ptr l (i + k.toNat) 0) := by rw [ia22', if_pos ⟨rfl, h0, h1⟩]
theorem ln22 {H : AHeap} {l i n e : Nat} {cap : Option Nat} : abuiltin P H .len [22] [.sl l i n e cap] = some (.int .i64 n) := by kernel_rfl
theorem ln22n {H : AHeap} : abuiltin P H .len [22] [.nilSl] = some (.int .i64 0) := by kernel_rfl
theorem ta23 : tyAgg P 23 = some false := by kernel_rfl
theorem ts23 : tySize P 23 = some 1 := by kernel_rfl
theorem ta25 : tyAgg P 25 = some true := by kernel_rfl
theorem ts25 : tySize P 25 = some 2 := by kernel_rfl
theorem fa25_0 (l i c : Nat) : afieldAddr P 25 (.ptr l i c) 0 = some (.ptr l i (c + 0)) := by kernel_rfl
theorem fl25_0 (a0 a1 : AV) : afield P 25 (.agg [a0, a1]) 0 = some a0 := by kernel_rfl
theorem fa25_1 (l i c : Nat) : afieldAddr P 25 (.ptr l i c) 1 = some (.ptr l i (c + 1)) := by kernel_rfl
theorem fl25_1 (a0 a1 : AV) : afield P 25 (.agg [a0, a1]) 1 = some a1 := by kernel_rfl
theorem ta32 : tyAgg P 32 = some true := by kernel_rfl
theorem ts32 : tySize P 32 = some 2 := by kernel_rfl
theorem fa32_0 (l i c : Nat) : afieldAddr P 32 (.ptr l i c) 0 = some (.ptr l i (c + 0)) := by kernel_rfl
theorem fl32_0 (a0 a1 : AV) : afield P 32 (.agg [a0, a1]) 0 = some a0 := by kernel_rfl
theorem fa32_1 (l i c : Nat) : afieldAddr P 32 (.ptr l i c) 1 = some (.ptr l i (c + 1)) := by kernel_rfl
theorem fl32_1 (a0 a1 : AV) : afield P 32 (.agg [a0, a1]) 1 = some a1 := by kernel_rfl
theorem ta35 : tyAgg P 35 = some false := by kernel_rfl
theorem ts35 : tySize P 35 = some 1 := by kernel_rfl
theorem ia35' (l i n : Nat) (cap : Option Nat) (k : Int) : aindexAddr P 35 (.sl l i n 11 cap) (.int .i64 k) = if 11 = 11 ∧ 0 ≤ k ∧ k < n then some (.ptr l (i + k.toNat) 0) else none := by kernel_rfl
theorem ia35 {l i n : Nat} {cap : Option Nat} {k : Int} (h0 : 0 ≤ k) (h1 : k < n) : aindexAddr P 35 (.sl l i n 11 cap) (.int .i64 k) = some (.ptr l (i + k.toNat) 0) := by rw [ia35', if_pos ⟨rfl, h0, h1⟩]
theorem ln35 {H : AHeap} {l i n e : Nat} {cap : Option Nat} : abuiltin P H .len [35] [.sl l i n e cap] = some (.int .i64 n) := by kernel_rfl
theorem ln35n {H : AHeap} : abuiltin P H .len [35] [.nilSl] = some (.int .i64 0) := by kernel_rfl
theorem ta37 : tyAgg P 37 = some true := by kernel_rfl
theorem ts37 : tySize P 37 = some 3 := by kernel_rfl
theorem fa37_0 (l i c : Nat) : afieldAddr P 37 (.ptr l i c) 0 = some (.ptr l i (c + 0)) := by kernel_rfl
theorem fl37_0 (a0 a1 a2 : AV) : afield P 37 (.agg [a0, a1, a2]) 0 = some a0 := by kernel_rfl
theorem fa37_1 (l i c : Nat) : afieldAddr P 37 (.ptr l i c) 1 = some (.ptr l i (c + 1)) := by kernel_rfl
theorem fl37_1 (a0 a1 a2 : AV) : afield P 37 (.agg [a0, a1, a2]) 1 = some a1 := by kernel_rfl
theorem fa37_2 (l i c : Nat) : afieldAddr P 37 (.ptr l i c) 2 = some (.ptr l i (c + 2)) := by kernel_rfl
theorem fl37_2 (a0 a1 a2 : AV) : afield P 37 (.agg [a0, a1, a2]) 2 = some a2 := by kernel_rfl
theorem ta39 : tyAgg P 39 = some true := by kernel_rfl
theorem ts39 : tySize P 39 = some 11 := by kernel_rfl
theorem fa39_0 (l i c : Nat) : afieldAddr P 39 (.ptr l i c) 0 = some (.ptr l i (c + 0)) := by kernel_rfl
theorem fl39_0 (a0 a1 a2 a3 a4 a5 a6 a7 a8 a9 a10 : AV) : afield P 39 (.agg [a0, a1, a2, a3, a4, a5, a6, a7, a8, a9, a10]) 0 = some a0 := by kernel_rfl
theorem fa39_1 (l i c : Nat) : afieldAddr P 39 (.ptr l i c) 1 = some (.ptr l i (c + 1)) := by kernel_rfl
theorem fl39_1 (a0 a1 a2 a3 a4 a5 a6 a7 a8 a9 a10 : AV) : afield P 39 (.agg [a0, a1, a2, a3, a4, a5, a6, a7, a8, a9, a10]) 1 = some a1 := by kernel_rfl
theorem fa39_2 (l i c : Nat) : afieldAddr P 39 (.ptr l i c) 2 = some (.ptr l i (c + 2)) := by kernel_rfl
theorem fl39_2 (a0 a1 a2 a3 a4 a5 a6 a7 a8 a9 a10 : AV) : afield P 39 (.agg [a0, a1, a2, a3, a4, a5, a6, a7, a8, a9, a10]) 2 = some a2 := by kernel_rfl
theorem fa39_3 (l i c : Nat) : afieldAddr P 39 (.ptr l i c) 3 = some (.ptr l i (c + 3)) := by kernel_rfl
theorem fl39_3 (a0 a1 a2 a3 a4 a5 a6 a7 a8 a9 a10 : AV) : afield P 39 (.agg [a0, a1, a2, a3, a4, a5, a6, a7, a8, a9, a10]) 3 = some (.agg [a3, a4]) := by kernel_rfl
theorem fa39_4 (l i c : Nat) : afieldAddr P 39 (.ptr l i c) 4 = some (.ptr l i (c + 5)) := by kernel_rfl
theorem fl39_4 (a0 a1 a2 a3 a4 a5 a6 a7 a8 a9 a10 : AV) : afield P 39 (.agg [a0, a1, a2, a3, a4, a5, a6, a7, a8, a9, a10]) 4 = some a5 := by kernel_rfl
theorem fa39_5 (l i c : Nat) : afieldAddr P 39 (.ptr l i c) 5 = some (.ptr l i (c + 6)) := by kernel_rfl
theorem fl39_5 (a0 a1 a2 a3 a4 a5 a6 a7 a8 a9 a10 : AV) : afield P 39 (.agg [a0, a1, a2, a3, a4, a5, a6, a7, a8, a9, a10]) 5 = some a6 := by kernel_rfl
theorem fa39_6 (l i c : Nat) : afieldAddr P 39 (.ptr l i c) 6 = some (.ptr l i (c + 7)) := by kernel_rfl
theorem fl39_6 (a0 a1 a2 a3 a4 a5 a6 a7 a8 a9 a10 : AV) : afield P 39 (.agg [a0, a1, a2, a3, a4, a5, a6, a7, a8, a9, a10]) 6 = some (.agg [a7, a8, a9]) := by kernel_rfl
theorem fa39_7 (l i c : Nat) : afieldAddr P 39 (.ptr l i c) 7 = some (.ptr l i (c + 10)) := by kernel_rfl
theorem fl39_7 (a0 a1 a2 a3 a4 a5 a6 a7 a8 a9 a10 : AV) : afield P 39 (.agg [a0, a1, a2, a3, a4, a5, a6, a7, a8, a9, a10]) 7 = some a10 := by kernel_rfl
theorem ta46 : tyAgg P 46 = some false := by kernel_rfl
theorem ts46 : tySize P 46 = some 1 := by kernel_rfl
theorem ia46' (l i n : Nat) (cap : Option Nat) (k : Int) : aindexAddr P 46 (.sl l i n 1 cap) (.int .i64 k) = if 1 = 1 ∧ 0 ≤ k ∧ k < n then some (.ptr l (i + k.toNat) 0) else none := by kernel_rfl
theorem ia46 {l i n : Nat} {cap : Option Nat} {k : Int} (h0 : 0 ≤ k) (h1 : k < n) : aindexAddr P 46 (.sl l i n 1 cap) (.int .i64 k) = some (.ptr l (i + k.toNat) 0) := by rw [ia46', if_pos ⟨rfl, h0, h1⟩]
theorem ln46 {H : AHeap} {l i n e : Nat} {cap : Option Nat} : abuiltin P H .len [46] [.sl l i n e cap] = some (.int .i64 n) := by kernel_rfl
theorem ln46n {H : AHeap} : abuiltin P H .len [46] [.nilSl] = some (.int .i64 0) := by kernel_rfl
theorem ta48 : tyAgg P 48 = some false := by kernel_rfl
theorem ts48 : tySize P 48 = some 1 := by kernel_rfl
theorem ia48' (l i n : Nat) (cap : Option Nat) (k : Int) : aindexAddr P 48 (.sl l i n 1 cap) (.int .i64 k) = if 1 = 1 ∧ 0 ≤ k ∧ k < n then some (.ptr l (i + k.toNat) 0) else none := by kernel_rfl
theorem ia48 {l i n : Nat} {cap : Option Nat} {k : Int} (h0 : 0 ≤ k) (h1 : k < n) : aindexAddr P 48 (.sl l i n 1 cap) (.int .i64 k) = some (.ptr l (i + k.toNat) 0) := by rw [ia48', if_pos ⟨rfl, h0, h1⟩]
theorem ln48 {H : AHeap} {l i n e : Nat} {cap : Option Nat} : abuiltin P H .len [48] [.sl l i n e cap] = some (.int .i64 n) := by kernel_rfl
theorem ln48n {H : AHeap} : abuiltin P H .len [48] [.nilSl] = some (.int .i64 0) := by kernel_rfl
theorem ta50 : tyAgg P 50 = some false := by kernel_rfl
theorem ts50 : tySize P 50 = some 1 := by kernel_rfl
theorem ia50' (l i n : Nat) (cap : Option Nat) (k : Int) : aindexAddr P 50 (.sl l i n 9 cap) (.int .i64 k) = if 9 = 9 ∧ 0 ≤ k ∧ k < n then some (.ptr l (i + k.toNat) 0) else none := by kernel_rfl
theorem ia50 {l i n : Nat} {cap : Option Nat} {k : Int} (h0 : 0 ≤ k) (h1 : k < n) : aindexAddr P 50 (.sl l i n 9 cap) (.int .i64 k) = some (.ptr l (i + k.toNat) 0) := by rw [ia50', if_pos ⟨rfl, h0, h1⟩]
theorem ln50 {H : AHeap} {l i n e : Nat} {cap : Option Nat} : abuiltin P H .len [50] [.sl l i n e cap] = some (.int .i64 n) := by kernel_rfl
theorem ln50n {H : AHeap} : abuiltin P H .len [50] [.nilSl] = some (.int .i64 0) := by kernel_rfl
theorem ta54 : tyAgg P 54 = some true := by kernel_rfl
theorem ts54 : tySize P 54 = some 9 := by kernel_rfl
theorem fa54_0 (l i c : Nat) : afieldAddr P 54 (.ptr l i c) 0 = some (.ptr l i (c + 0)) := by kernel_rfl
theorem fl54_0 (a0 a1 a2 a3 a4 a5 a6 a7 a8 : AV) : afield P 54 (.agg [a0, a1, a2, a3, a4, a5, a6, a7, a8]) 0 = some a0 := by kernel_rfl
theorem fa54_1 (l i c : Nat) : afieldAddr P 54 (.ptr l i c) 1 = some (.ptr l i (c + 1)) := by kernel_rfl
theorem fl54_1 (a0 a1 a2 a3 a4 a5 a6 a7 a8 : AV) : afield P 54 (.agg [a0, a1, a2, a3, a4, a5, a6, a7, a8]) 1 = some a1 := by kernel_rfl
theorem fa54_2 (l i c : Nat) : afieldAddr P 54 (.ptr l i c) 2 = some (.ptr l i (c + 2)) := by kernel_rfl
theorem fl54_2 (a0 a1 a2 a3 a4 a5 a6 a7 a8 : AV) : afield P 54 (.agg [a0, a1, a2, a3, a4, a5, a6, a7, a8]) 2 = some (.agg [a2, a3]) := by kernel_rfl
theorem fa54_3 (l i c : Nat) : afieldAddr P 54 (.ptr l i c) 3 = some (.ptr l i (c + 4)) := by kernel_rfl
theorem fl54_3 (a0 a1 a2 a3 a4 a5 a6 a7 a8 : AV) : afield P 54 (.agg [a0, a1, a2, a3, a4, a5, a6, a7, a8]) 3 = some a4 := by kernel_rfl
theorem fa54_4 (l i c : Nat) : afieldAddr P 54 (.ptr l i c) 4 = some (.ptr l i (c + 5)) := by kernel_rfl
theorem fl54_4 (a0 a1 a2 a3 a4 a5 a6 a7 a8 : AV) : afield P 54 (.agg [a0, a1, a2, a3, a4, a5, a6, a7, a8]) 4 = some a5 := by kernel_rfl
theorem fa54_5 (l i c : Nat) : afieldAddr P 54 (.ptr l i c) 5 = some (.ptr l i (c + 6)) := by kernel_rfl
theorem fl54_5 (a0 a1 a2 a3 a4 a5 a6 a7 a8 : AV) : afield P 54 (.agg [a0, a1, a2, a3, a4, a5, a6, a7, a8]) 5 = some a6 := by kernel_rfl
theorem fa54_6 (l i c : Nat) : afieldAddr P 54 (.ptr l i c) 6 = some (.ptr l i (c + 7)) := by kernel_rfl
theorem fl54_6 (a0 a1 a2 a3 a4 a5 a6 a7 a8 : AV) : afield P 54 (.agg [a0, a1, a2, a3, a4, a5, a6, a7, a8]) 6 = some a7 := by kernel_rfl
theorem fa54_7 (l i c : Nat) : afieldAddr P 54 (.ptr l i c) 7 = some (.ptr l i (c + 8)) := by kernel_rfl
theorem fl54_7 (a0 a1 a2 a3 a4 a5 a6 a7 a8 : AV) : afield P 54 (.agg [a0, a1, a2, a3, a4, a5, a6, a7, a8]) 7 = some a8 := by kernel_rfl
theorem ta65 : tyAgg P 65 = some true := by kernel_rfl
theorem ts65 : tySize P 65 = some 4 := by kernel_rfl
theorem fa65_0 (l i c : Nat) : afieldAddr P 65 (.ptr l i c) 0 = some (.ptr l i (c + 0)) := by kernel_rfl
theorem fl65_0 (a0 a1 a2 a3 : AV) : afield P 65 (.agg [a0, a1, a2, a3]) 0 = some a0 := by kernel_rfl
theorem fa65_1 (l i c : Nat) : afieldAddr P 65 (.ptr l i c) 1 = some (.ptr l i (c + 1)) := by kernel_rfl
theorem fl65_1 (a0 a1 a2 a3 : AV) : afield P 65 (.agg [a0, a1, a2, a3]) 1 = some a1 := by kernel_rfl
theorem fa65_2 (l i c : Nat) : afieldAddr P 65 (.ptr l i c) 2 = some (.ptr l i (c + 2)) := by kernel_rfl
theorem fl65_2 (a0 a1 a2 a3 : AV) : afield P 65 (.agg [a0, a1, a2, a3]) 2 = some a2 := by kernel_rfl
theorem fa65_3 (l i c : Nat) : afieldAddr P 65 (.ptr l i c) 3 = some (.ptr l i (c + 3)) := by kernel_rfl
theorem fl65_3 (a0 a1 a2 a3 : AV) : afield P 65 (.agg [a0, a1, a2, a3]) 3 = some a3 := by kernel_rfl
theorem ta68 : tyAgg P 68 = some false := by kernel_rfl
theorem ts68 : tySize P 68 = some 1 := by kernel_rfl
theorem ta69 : tyAgg P 69 = some false := by kernel_rfl
theorem ts69 : tySize P 69 = some 1 := by kernel_rfl
theorem ia69' (l i n : Nat) (cap : Option Nat) (k : Int) : aindexAddr P 69 (.sl l i n 1 cap) (.int .i64 k) = if 1 = 1 ∧ 0 ≤ k ∧ k < n then some (.ptr l (i + k.toNat) 0) else none := by kernel_rfl
theorem ia69 {l i n : Nat} {cap : Option Nat} {k : Int} (h0 : 0 ≤ k) (h1 : k < n) : aindexAddr P 69 (.sl l i n 1 cap) (.int .i64 k) = some (.ptr l (i + k.toNat) 0) := by rw [ia69', if_pos ⟨rfl, h0, h1⟩]
theorem ln69 {H : AHeap} {l i n e : Nat} {cap : Option Nat} : abuiltin P H .len [69] [.sl l i n e cap] = some (.int .i64 n) := by kernel_rfl
theorem ln69n {H : AHeap} : abuiltin P H .len [69] [.nilSl] = some (.int .i64 0) := by kernel_rfl
theorem ta71 : tyAgg P 71 = some true := by kernel_rfl
theorem ts71 : tySize P 71 = some 6 := by kernel_rfl
theorem fa71_0 (l i c : Nat) : afieldAddr P 71 (.ptr l i c) 0 = some (.ptr l i (c + 0)) := by kernel_rfl
theorem fl71_0 (a0 a1 a2 a3 a4 a5 : AV) : afield P 71 (.agg [a0, a1, a2, a3, a4, a5]) 0 = some a0 := by kernel_rfl
theorem fa71_1 (l i c : Nat) : afieldAddr P 71 (.ptr l i c) 1 = some (.ptr l i (c + 1)) := by kernel_rfl
theorem fl71_1 (a0 a1 a2 a3 a4 a5 : AV) : afield P 71 (.agg [a0, a1, a2, a3, a4, a5]) 1 = some a1 := by kernel_rfl
theorem fa71_2 (l i c : Nat) : afieldAddr P 71 (.ptr l i c) 2 = some (.ptr l i (c + 2)) := by kernel_rfl
theorem fl71_2 (a0 a1 a2 a3 a4 a5 : AV) : afield P 71 (.agg [a0, a1, a2, a3, a4, a5]) 2 = some a2 := by kernel_rfl
theorem fa71_3 (l i c : Nat) : afieldAddr P 71 (.ptr l i c) 3 = some (.ptr l i (c + 3)) := by kernel_rfl
theorem fl71_3 (a0 a1 a2 a3 a4 a5 : AV) : afield P 71 (.agg [a0, a1, a2, a3, a4, a5]) 3 = some a3 := by kernel_rfl
theorem fa71_4 (l i c : Nat) : afieldAddr P 71 (.ptr l i c) 4 = some (.ptr l i (c + 4)) := by kernel_rfl
theorem fl71_4 (a0 a1 a2 a3 a4 a5 : AV) : afield P 71 (.agg [a0, a1, a2, a3, a4, a5]) 4 = some (.agg [a4, a5]) := by kernel_rfl
theorem ta73 : tyAgg P 73 = some false := by kernel_rfl
theorem ts73 : tySize P 73 = some 1 := by kernel_rfl
theorem ta75 : tyAgg P 75 = some true := by kernel_rfl
theorem ts75 : tySize P 75 = some 5 := by kernel_rfl
theorem fa75_0 (l i c : Nat) : afieldAddr P 75 (.ptr l i c) 0 = some (.ptr l i (c + 0)) := by kernel_rfl
theorem fl75_0 (a0 a1 a2 a3 a4 : AV) : afield P 75 (.agg [a0, a1, a2, a3, a4]) 0 = some a0 := by kernel_rfl
theorem fa75_1 (l i c : Nat) : afieldAddr P 75 (.ptr l i c) 1 = some (.ptr l i (c + 1)) := by kernel_rfl
theorem fl75_1 (a0 a1 a2 a3 a4 : AV) : afield P 75 (.agg [a0, a1, a2, a3, a4]) 1 = some a1 := by kernel_rfl
theorem fa75_2 (l i c : Nat) : afieldAddr P 75 (.ptr l i c) 2 = some (.ptr l i (c + 2)) := by kernel_rfl
theorem fl75_2 (a0 a1 a2 a3 a4 : AV) : afield P 75 (.agg [a0, a1, a2, a3, a4]) 2 = some a2 := by kernel_rfl
theorem fa75_3 (l i c : Nat) : afieldAddr P 75 (.ptr l i c) 3 = some (.ptr l i (c + 3)) := by kernel_rfl
theorem fl75_3 (a0 a1 a2 a3 a4 : AV) : afield P 75 (.agg [a0, a1, a2, a3, a4]) 3 = some (.agg [a3, a4]) := by kernel_rfl
theorem ta83 : tyAgg P 83 = some false := by kernel_rfl
theorem ts83 : tySize P 83 = some 1 := by kernel_rfl
theorem ta85 : tyAgg P 85 = some true := by kernel_rfl
theorem ts85 : tySize P 85 = some 5 := by kernel_rfl
theorem fa85_0 (l i c : Nat) : afieldAddr P 85 (.ptr l i c) 0 = some (.ptr l i (c + 0)) := by kernel_rfl
theorem fl85_0 (a0 a1 a2 a3 a4 : AV) : afield P 85 (.agg [a0, a1, a2, a3, a4]) 0 = some a0 := by kernel_rfl
theorem fa85_1 (l i c : Nat) : afieldAddr P 85 (.ptr l i c) 1 = some (.ptr l i (c + 1)) := by kernel_rfl
theorem fl85_1 (a0 a1 a2 a3 a4 : AV) : afield P 85 (.agg [a0, a1, a2, a3, a4]) 1 = some a1 := by kernel_rfl
theorem fa85_2 (l i c : Nat) : afieldAddr P 85 (.ptr l i c) 2 = some (.ptr l i (c + 2)) := by kernel_rfl
theorem fl85_2 (a0 a1 a2 a3 a4 : AV) : afield P 85 (.agg [a0, a1, a2, a3, a4]) 2 = some a2 := by kernel_rfl
theorem fa85_3 (l i c : Nat) : afieldAddr P 85 (.ptr l i c) 3 = some (.ptr l i (c + 3)) := by kernel_rfl
theorem fl85_3 (a0 a1 a2 a3 a4 : AV) : afield P 85 (.agg [a0, a1, a2, a3, a4]) 3 = some (.agg [a3, a4]) := by kernel_rfl
theorem ta101 : tyAgg P 101 = some true := by kernel_rfl
theorem ts101 : tySize P 101 = some 2 := by kernel_rfl
theorem fa101_0 (l i c : Nat) : afieldAddr P 101 (.ptr l i c) 0 = some (.ptr l i (c + 0)) := by kernel_rfl
theorem fl101_0 (a0 a1 : AV) : afield P 101 (.agg [a0, a1]) 0 = some a0 := by kernel_rfl
theorem fa101_1 (l i c : Nat) : afieldAddr P 101 (.ptr l i c) 1 = some (.ptr l i (c + 1)) := by kernel_rfl
theorem fl101_1 (a0 a1 : AV) : afield P 101 (.agg [a0, a1]) 1 = some a1 := by kernel_rfl
theorem ta102 : tyAgg P 102 = some false := by kernel_rfl
theorem ts102 : tySize P 102 = some 1 := by kernel_rfl
theorem ia102' (l i n : Nat) (cap : Option Nat) (k : Int) : aindexAddr P 102 (.sl l i n 2 cap) (.int .i64 k) = if 2 = 2 ∧ 0 ≤ k ∧ k < n then some (.ptr l (i + k.toNat) 0) else none := by kernel_rfl
theorem ia102 {l i n : Nat} {cap : Option Nat} {k : Int} (h0 : 0 ≤ k) (h1 : k < n) : aindexAddr P 102 (.sl l i n 2 cap) (.int .i64 k) = some (.ptr l (i + k.toNat) 0) := by rw [ia102', if_pos ⟨rfl, h0, h1⟩]
theorem ln102 {H : AHeap} {l i n e : Nat} {cap : Option Nat} : abuiltin P H .len [102] [.sl l i n e cap] = some (.int .i64 n) := by kernel_rfl
theorem ln102n {H : AHeap} : abuiltin P H .len [102] [.nilSl] = some (.int .i64 0) := by kernel_rfl
theorem ta108 : tyAgg P 108 = some false := by kernel_rfl
theorem ts108 : tySize P 108 = some 1 := by kernel_rfl
theorem ia108' (l i n : Nat) (cap : Option Nat) (k : Int) : aindexAddr P 108 (.sl l i n 1 cap) (.int .i64 k) = if 1 = 1 ∧ 0 ≤ k ∧ k < n then some (.ptr l (i + k.toNat) 0) else none := by kernel_rfl
theorem ia108 {l i n : Nat} {cap : Option Nat} {k : Int} (h0 : 0 ≤ k) (h1 : k < n) : aindexAddr P 108 (.sl l i n 1 cap) (.int .i64 k) = some (.ptr l (i + k.toNat) 0) := by rw [ia108', if_pos ⟨rfl, h0, h1⟩]
theorem ln108 {H : AHeap} {l i n e : Nat} {cap : Option Nat} : abuiltin P H .len [108] [.sl l i n e cap] = some (.int .i64 n) := by kernel_rfl
theorem ln108n {H : AHeap} : abuiltin P H .len [108] [.nilSl] = some (.int .i64 0) := by kernel_rfl
theorem ta109 : tyAgg P 109 = some false := by kernel_rfl
theorem ts109 : tySize P 109 = some 1 := by kernel_rfl
theorem ia109' (l i n : Nat) (cap : Option Nat) (k : Int) : aindexAddr P 109 (.sl l i n 1 cap) (.int .i64 k) = if 1 = 1 ∧ 0 ≤ k ∧ k < n then some (.ptr l (i + k.toNat) 0) else none := by kernel_rfl
theorem ia109 {l i n : Nat} {cap : Option Nat} {k : Int} (h0 : 0 ≤ k) (h1 : k < n) : aindexAddr P 109 (.sl l i n 1 cap) (.int .i64 k) = some (.ptr l (i + k.toNat) 0) := by rw [ia109', if_pos ⟨rfl, h0, h1⟩]
theorem ln109 {H : AHeap} {l i n e : Nat} {cap : Option Nat} : abuiltin P H .len [109] [.sl l i n e cap] = some (.int .i64 n) := by kernel_rfl
theorem ln109n {H : AHeap} : abuiltin P H .len [109] [.nilSl] = some (.int .i64 0) := by kernel_rfl
theorem ta118 : tyAgg P 118 = some false := by kernel_rfl
theorem ts118 : tySize P 118 = some 1 := by kernel_rfl
theorem ta120 : tyAgg P 120 = some false := by kernel_rfl
theorem ts120 : tySize P 120 = some 1 := by kernel_rfl
theorem ta121 : tyAgg P 121 = some false := by kernel_rfl
theorem ts121 : tySize P 121 = some 1 := by kernel_rfl
theorem ta122 : tyAgg P 122 = some false := by kernel_rfl
theorem ts122 : tySize P 122 = some 1 := by kernel_rfl
theorem bd25_0_1 (a0 : Int) (a1 : Int) : abuild P 25 [(0, (.int .i64 a0)), (1, (.int .i64 a1))] = some (.agg [(.int .i64 a0), (.int .i64 a1)]) := by kernel_rfl
theorem bd25_0 (a0 : Int) : abuild P 25 [(0, (.int .i64 a0))] = some (.agg [(.int .i64 a0), (.int .i64 0)]) := by kernel_rfl
theorem bd65_0_3 (a0 : Int) (a3 : Int) : abuild P 65 [(0, (.int .i64 a0)), (3, (.int .i64 a3))] = some (.agg [(.int .i64 a0), (.str []), (.int .i64 0), (.int .i64 a3)]) := by kernel_rfl
theorem bd71_0_1v0 (a1 : Int) : abuild P 71 [(0, AV.nilSl), (1, (.int .i64 a1))] = some (.agg [AV.nilSl, (.int .i64 a1), (.int .i64 0), AV.nilSl, (.int .i64 0), (.int .i64 0)]) := by kernel_rfl
theorem bd71_0_1v1 (a0l : Nat) (a0i : Nat) (a0n : Nat) (a0e : Nat) (a0c : Option Nat) (a1 : Int) : abuild P 71 [(0, (.sl a0l a0i a0n a0e a0c)), (1, (.int .i64 a1))] = some (.agg [(.sl a0l a0i a0n a0e a0c), (.int .i64 a1), (.int .i64 0), AV.nilSl, (.int .i64 0), (.int .i64 0)]) := by kernel_rfl
theorem bd75_0_1v0 (a1 : Int) : abuild P 75 [(0, AV.nilSl), (1, (.int .i64 a1))] = some (.agg [AV.nilSl, (.int .i64 a1), (.int .i64 0), (.int .i64 0), (.int .i64 0)]) := by kernel_rfl
theorem bd75_0_1v1 (a0l : Nat) (a0i : Nat) (a0n : Nat) (a0e : Nat) (a0c : Option Nat) (a1 : Int) : abuild P 75 [(0, (.sl a0l a0i a0n a0e a0c)), (1, (.int .i64 a1))] = some (.agg [(.sl a0l a0i a0n a0e a0c), (.int .i64 a1), (.int .i64 0), (.int .i64 0), (.int .i64 0)]) := by kernel_rfl
theorem bd75_0_1_2v0 (a1 : Int) (a2 : Int) : abuild P 75 [(0, AV.nilSl), (1, (.int .i64 a1)), (2, (.int .i64 a2))] = some (.agg [AV.nilSl, (.int .i64 a1), (.int .i64 a2), (.int .i64 0), (.int .i64 0)]) := by kernel_rfl
theorem bd75_0_1_2v1 (a0l : Nat) (a0i : Nat) (a0n : Nat) (a0e : Nat) (a0c : Option Nat) (a1 : Int) (a2 : Int) : abuild P 75 [(0, (.sl a0l a0i a0n a0e a0c)), (1, (.int .i64 a1)), (2, (.int .i64 a2))] = some (.agg [(.sl a0l a0i a0n a0e a0c), (.int .i64 a1), (.int .i64 a2), (.int .i64 0), (.int .i64 0)]) := by kernel_rfl
theorem bd71_0_1_2_3v0 (a1 : Int) (a2 : Int) : abuild P 71 [(0, AV.nilSl), (1, (.int .i64 a1)), (2, (.int .i64 a2)), (3, AV.nilSl)] = some (.agg [AV.nilSl, (.int .i64 a1), (.int .i64 a2), AV.nilSl, (.int .i64 0), (.int .i64 0)]) := by kernel_rfl
theorem bd71_0_1_2_3v1 (a1 : Int) (a2 : Int) (a3l : Nat) (a3i : Nat) (a3n : Nat) (a3e : Nat) (a3c : Option Nat) : abuild P 71 [(0, AV.nilSl), (1, (.int .i64 a1)), (2, (.int .i64 a2)), (3, (.sl a3l a3i a3n a3e a3c))] = some (.agg [AV.nilSl, (.int .i64 a1), (.int .i64 a2), (.sl a3l a3i a3n a3e a3c), (.int .i64 0), (.int .i64 0)]) := by kernel_rfl
theorem bd71_0_1_2_3v2 (a0l : Nat) (a0i : Nat) (a0n : Nat) (a0e : Nat) (a0c : Option Nat) (a1 : Int) (a2 : Int) : abuild P 71 [(0, (.sl a0l a0i a0n a0e a0c)), (1, (.int .i64 a1)), (2, (.int .i64 a2)), (3, AV.nilSl)] = some (.agg [(.sl a0l a0i a0n a0e a0c), (.int .i64 a1), (.int .i64 a2), AV.nilSl, (.int .i64 0), (.int .i64 0)]) := by kernel_rfl
theorem bd71_0_1_2_3v3 (a0l : Nat) (a0i : Nat) (a0n : Nat) (a0e : Nat) (a0c : Option Nat) (a1 : Int) (a2 : Int) (a3l : Nat) (a3i : Nat) (a3n : Nat) (a3e : Nat) (a3c : Option Nat) : abuild P 71 [(0, (.sl a0l a0i a0n a0e a0c)), (1, (.int .i64 a1)), (2, (.int .i64 a2)), (3, (.sl a3l a3i a3n a3e a3c))] = some (.agg [(.sl a0l a0i a0n a0e a0c), (.int .i64 a1), (.int .i64 a2), (.sl a3l a3i a3n a3e a3c), (.int .i64 0), (.int .i64 0)]) := by kernel_rfl
theorem bd85_0_1_2v0 (a1 : Int) (a2 : Int) : abuild P 85 [(0, AV.nilSl), (1, (.int .i64 a1)), (2, (.int .i64 a2))] = some (.agg [AV.nilSl, (.int .i64 a1), (.int .i64 a2), (.int .i64 0), (.int .i64 0)]) := by kernel_rfl
theorem bd85_0_1_2v1 (a0l : Nat) (a0i : Nat) (a0n : Nat) (a0e : Nat) (a0c : Option Nat) (a1 : Int) (a2 : Int) : abuild P 85 [(0, (.sl a0l a0i a0n a0e a0c)), (1, (.int .i64 a1)), (2, (.int .i64 a2))] = some (.agg [(.sl a0l a0i a0n a0e a0c), (.int .i64 a1), (.int .i64 a2), (.int .i64 0), (.int .i64 0)]) := by kernel_rfl
theorem bd65_0_1_3 (a0 : Int) (a1 : List UInt8) (a3 : Int) : abuild P 65 [(0, (.int .i64 a0)), (1, (.str a1)), (3, (.int .i64 a3))] = some (.agg [(.int .i64 a0), (.str a1), (.int .i64 0), (.int .i64 a3)]) := by kernel_rfl
theorem bd65_0_2_3 (a0 : Int) (a2 : Int) (a3 : Int) : abuild P 65 [(0, (.int .i64 a0)), (2, (.int .i64 a2)), (3, (.int .i64 a3))] = some (.agg [(.int .i64 a0), (.str []), (.int .i64 a2), (.int .i64 a3)]) := by kernel_rfl
theorem bd32_0_1 (a0 : List UInt8) (a1 : Int) : abuild P 32 [(0, (.str a0)), (1, (.int .i64 a1))] = some (.agg [(.str a0), (.int .i64 a1)]) := by kernel_rfl
theorem bd32_1 (a1 : Int) : abuild P 32 [(1, (.int .i64 a1))] = some (.agg [(.str []), (.int .i64 a1)]) := by kernel_rfl
theorem bd39_0_4_5v0 (a0 : Int) (a5 : Int) : abuild P 39 [(0, (.int .i64 a0)), (4, AV.nilSl), (5, (.int .i64 a5))] = some (.agg [(.int .i64 a0), (.int .i64 0), (.str []), (.str []), (.int .i64 0), AV.nilSl, (.int .i64 a5), (.int .i64 0), (.int .i64 0), (.int .i64 0), (.int .i64 0)]) := by kernel_rfl
theorem bd39_0_4_5v1 (a0 : Int) (a4l : Nat) (a4i : Nat) (a4n : Nat) (a4e : Nat) (a4c : Option Nat) (a5 : Int) : abuild P 39 [(0, (.int .i64 a0)), (4, (.sl a4l a4i a4n a4e a4c)), (5, (.int .i64 a5))] = some (.agg [(.int .i64 a0), (.int .i64 0), (.str []), (.str []), (.int .i64 0), (.sl a4l a4i a4n a4e a4c), (.int .i64 a5), (.int .i64 0), (.int .i64 0), (.int .i64 0), (.int .i64 0)]) := by kernel_rfl
theorem bd101_0_1 (a0 : List UInt8) (a1 : Int) : abuild P 101 [(0, (.str a0)), (1, (.int .i64 a1))] = some (.agg [(.str a0), (.int .i64 a1)]) := by kernel_rfl
theorem bd65_0 (a0 : Int) : abuild P 65 [(0, (.int .i64 a0))] = some (.agg [(.int .i64 a0), (.str []), (.int .i64 0), (.int .i64 0)]) := by kernel_rfl
theorem bd54_6 (a6 : Int) : abuild P 54 [(6, (.int .i64 a6))] = some (.agg [(.int .i64 0), (.str []), (.str []), (.int .i64 0), AV.nilSl, AV.nilSl, AV.nilSl, (.int .i64 a6), (.int .i64 0)]) := by kernel_rfl
theorem bd54_0_3v0 (a0 : Int) : abuild P 54 [(0, (.int .i64 a0)), (3, AV.nilSl)] = some (.agg [(.int .i64 a0), (.str []), (.str []), (.int .i64 0), AV.nilSl, AV.nilSl, AV.nilSl, (.int .i64 0), (.int .i64 0)]) := by kernel_rfl
theorem bd54_0_3v1 (a0 : Int) (a3l : Nat) (a3i : Nat) (a3n : Nat) (a3e : Nat) (a3c : Option Nat) : abuild P 54 [(0, (.int .i64 a0)), (3, (.sl a3l a3i a3n a3e a3c))] = some (.agg [(.int .i64 a0), (.str []), (.str []), (.int .i64 0), (.sl a3l a3i a3n a3e a3c), AV.nilSl, AV.nilSl, (.int .i64 0), (.int .i64 0)]) := by kernel_rfl
theorem bd39_0_2_4_5v0 (a0 : Int) (a2 : List UInt8) (a5 : Int) : abuild P 39 [(0, (.int .i64 a0)), (2, (.str a2)), (4, AV.nilSl), (5, (.int .i64 a5))] = some (.agg [(.int .i64 a0), (.int .i64 0), (.str a2), (.str []), (.int .i64 0), AV.nilSl, (.int .i64 a5), (.int .i64 0), (.int .i64 0), (.int .i64 0), (.int .i64 0)]) := by kernel_rfl
theorem bd39_0_2_4_5v1 (a0 : Int) (a2 : List UInt8) (a4l : Nat) (a4i : Nat) (a4n : Nat) (a4e : Nat) (a4c : Option Nat) (a5 : Int) : abuild P 39 [(0, (.int .i64 a0)), (2, (.str a2)), (4, (.sl a4l a4i a4n a4e a4c)), (5, (.int .i64 a5))] = some (.agg [(.int .i64 a0), (.int .i64 0), (.str a2), (.str []), (.int .i64 0), (.sl a4l a4i a4n a4e a4c), (.int .i64 a5), (.int .i64 0), (.int .i64 0), (.int .i64 0), (.int .i64 0)]) := by kernel_rfl
theorem bd39_0_1_5 (a0 : Int) (a1 : Int) (a5 : Int) : abuild P 39 [(0, (.int .i64 a0)), (1, (.int .i64 a1)), (5, (.int .i64 a5))] = some (.agg [(.int .i64 a0), (.int .i64 a1), (.str []), (.str []), (.int .i64 0), AV.nilSl, (.int .i64 a5), (.int .i64 0), (.int .i64 0), (.int .i64 0), (.int .i64 0)]) := by kernel_rfl
theorem bd39_0_3_5 (a0 : Int) (a3_0 : List UInt8) (a3_1 : Int) (a5 : Int) : abuild P 39 [(0, (.int .i64 a0)), (3, (.agg [(.str a3_0), (.int .i64 a3_1)])), (5, (.int .i64 a5))] = some (.agg [(.int .i64 a0), (.int .i64 0), (.str []), (.str a3_0), (.int .i64 a3_1), AV.nilSl, (.int .i64 a5), (.int .i64 0), (.int .i64 0), (.int .i64 0), (.int .i64 0)]) := by kernel_rfl
theorem bd39_0_5 (a0 : Int) (a5 : Int) : abuild P 39 [(0, (.int .i64 a0)), (5, (.int .i64 a5))] = some (.agg [(.int .i64 a0), (.int .i64 0), (.str []), (.str []), (.int .i64 0), AV.nilSl, (.int .i64 a5), (.int .i64 0), (.int .i64 0), (.int .i64 0), (.int .i64 0)]) := by kernel_rfl
theorem bd39_0_2_5 (a0 : Int) (a2 : List UInt8) (a5 : Int) : abuild P 39 [(0, (.int .i64 a0)), (2, (.str a2)), (5, (.int .i64 a5))] = some (.agg [(.int .i64 a0), (.int .i64 0), (.str a2), (.str []), (.int .i64 0), AV.nilSl, (.int .i64 a5), (.int .i64 0), (.int .i64 0), (.int .i64 0), (.int .i64 0)]) := by kernel_rfl
theorem bd54_0_1_3v0 (a0 : Int) (a1 : List UInt8) : abuild P 54 [(0, (.int .i64 a0)), (1, (.str a1)), (3, AV.nilSl)] = some (.agg [(.int .i64 a0), (.str a1), (.str []), (.int .i64 0), AV.nilSl, AV.nilSl, AV.nilSl, (.int .i64 0), (.int .i64 0)]) := by kernel_rfl
theorem bd54_0_1_3v1 (a0 : Int) (a1 : List UInt8) (a3l : Nat) (a3i : Nat) (a3n : Nat) (a3e : Nat) (a3c : Option Nat) : abuild P 54 [(0, (.int .i64 a0)), (1, (.str a1)), (3, (.sl a3l a3i a3n a3e a3c))] = some (.agg [(.int .i64 a0), (.str a1), (.str []), (.int .i64 0), (.sl a3l a3i a3n a3e a3c), AV.nilSl, AV.nilSl, (.int .i64 0), (.int .i64 0)]) := by kernel_rfl
theorem bd54_0_1_2 (a0 : Int) (a1 : List UInt8) (a2_0 : List UInt8) (a2_1 : Int) : abuild P 54 [(0, (.int .i64 a0)), (1, (.str a1)), (2, (.agg [(.str a2_0), (.int .i64 a2_1)]))] = some (.agg [(.int .i64 a0), (.str a1), (.str a2_0), (.int .i64 a2_1), AV.nilSl, AV.nilSl, AV.nilSl, (.int .i64 0), (.int .i64 0)]) := by kernel_rfl
theorem bd54_0_1_2_3v0 (a0 : Int) (a1 : List UInt8) (a2_0 : List UInt8) (a2_1 : Int) : abuild P 54 [(0, (.int .i64 a0)), (1, (.str a1)), (2, (.agg [(.str a2_0), (.int .i64 a2_1)])), (3, AV.nilSl)] = some (.agg [(.int .i64 a0), (.str a1), (.str a2_0), (.int .i64 a2_1), AV.nilSl, AV.nilSl, AV.nilSl, (.int .i64 0), (.int .i64 0)]) := by kernel_rfl
theorem bd54_0_1_2_3v1 (a0 : Int) (a1 : List UInt8) (a2_0 : List UInt8) (a2_1 : Int) (a3l : Nat) (a3i : Nat) (a3n : Nat) (a3e : Nat) (a3c : Option Nat) : abuild P 54 [(0, (.int .i64 a0)), (1, (.str a1)), (2, (.agg [(.str a2_0), (.int .i64 a2_1)])), (3, (.sl a3l a3i a3n a3e a3c))] = some (.agg [(.int .i64 a0), (.str a1), (.str a2_0), (.int .i64 a2_1), (.sl a3l a3i a3n a3e a3c), AV.nilSl, AV.nilSl, (.int .i64 0), (.int .i64 0)]) := by kernel_rfl
theorem bd54_0_3_4v0 (a0 : Int) : abuild P 54 [(0, (.int .i64 a0)), (3, AV.nilSl), (4, AV.nilSl)] = some (.agg [(.int .i64 a0), (.str []), (.str []), (.int .i64 0), AV.nilSl, AV.nilSl, AV.nilSl, (.int .i64 0), (.int .i64 0)]) := by kernel_rfl
theorem bd54_0_3_4v1 (a0 : Int) (a4l : Nat) (a4i : Nat) (a4n : Nat) (a4e : Nat) (a4c : Option Nat) : abuild P 54 [(0, (.int .i64 a0)), (3, AV.nilSl), (4, (.sl a4l a4i a4n a4e a4c))] = some (.agg [(.int .i64 a0), (.str []), (.str []), (.int .i64 0), AV.nilSl, (.sl a4l a4i a4n a4e a4c), AV.nilSl, (.int .i64 0), (.int .i64 0)]) := by kernel_rfl
theorem bd54_0_3_4v2 (a0 : Int) (a3l : Nat) (a3i : Nat) (a3n : Nat) (a3e : Nat) (a3c : Option Nat) : abuild P 54 [(0, (.int .i64 a0)), (3, (.sl a3l a3i a3n a3e a3c)), (4, AV.nilSl)] = some (.agg [(.int .i64 a0), (.str []), (.str []), (.int .i64 0), (.sl a3l a3i a3n a3e a3c), AV.nilSl, AV.nilSl, (.int .i64 0), (.int .i64 0)]) := by kernel_rfl
theorem bd54_0_3_4v3 (a0 : Int) (a3l : Nat) (a3i : Nat) (a3n : Nat) (a3e : Nat) (a3c : Option Nat) (a4l : Nat) (a4i : Nat) (a4n : Nat) (a4e : Nat) (a4c : Option Nat) : abuild P 54 [(0, (.int .i64 a0)), (3, (.sl a3l a3i a3n a3e a3c)), (4, (.sl a4l a4i a4n a4e a4c))] = some (.agg [(.int .i64 a0), (.str []), (.str []), (.int .i64 0), (.sl a3l a3i a3n a3e a3c), (.sl a4l a4i a4n a4e a4c), AV.nilSl, (.int .i64 0), (.int .i64 0)]) := by kernel_rfl
theorem bd54_0 (a0 : Int) : abuild P 54 [(0, (.int .i64 a0))] = some (.agg [(.int .i64 a0), (.str []), (.str []), (.int .i64 0), AV.nilSl, AV.nilSl, AV.nilSl, (.int .i64 0), (.int .i64 0)]) := by kernel_rfl
theorem bd32_0 (a0 : List UInt8) : abuild P 32 [(0, (.str a0))] = some (.agg [(.str a0), (.int .i64 0)]) := by kernel_rfl
theorem bd39_0_3_4_5v0 (a0 : Int) (a3_0 : List UInt8) (a3_1 : Int) (a5 : Int) : abuild P 39 [(0, (.int .i64 a0)), (3, (.agg [(.str a3_0), (.int .i64 a3_1)])), (4, AV.nilSl), (5, (.int .i64 a5))] = some (.agg [(.int .i64 a0), (.int .i64 0), (.str []), (.str a3_0), (.int .i64 a3_1), AV.nilSl, (.int .i64 a5), (.int .i64 0), (.int .i64 0), (.int .i64 0), (.int .i64 0)]) := by kernel_rfl
theorem bd39_0_3_4_5v1 (a0 : Int) (a3_0 : List UInt8) (a3_1 : Int) (a4l : Nat) (a4i : Nat) (a4n : Nat) (a4e : Nat) (a4c : Option Nat) (a5 : Int) : abuild P 39 [(0, (.int .i64 a0)), (3, (.agg [(.str a3_0), (.int .i64 a3_1)])), (4, (.sl a4l a4i a4n a4e a4c)), (5, (.int .i64 a5))] = some (.agg [(.int .i64 a0), (.int .i64 0), (.str []), (.str a3_0), (.int .i64 a3_1), (.sl a4l a4i a4n a4e a4c), (.int .i64 a5), (.int .i64 0), (.int .i64 0), (.int .i64 0), (.int .i64 0)]) := by kernel_rfl
end Go.Proofs.Ytnjoomfeddamcaa


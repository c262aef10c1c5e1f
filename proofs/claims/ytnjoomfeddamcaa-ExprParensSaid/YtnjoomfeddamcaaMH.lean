/-
  Texts of one proof, laid together: ShD ShA ShG.
-/
import Derived.Test.YtnjoomfeddamcaaME
set_option linter.unusedVariables false
set_option linter.unusedSimpArgs false
namespace Go.Proofs.Ytnjoomfeddamcaa
open Go.Ev
set_option maxRecDepth 100000
noncomputable section
def s34_j0 (G : CallT) (N : Nat) (H : AHeap) : O :=
 some ((.bool true), H)
theorem s34_j0_eq (G : CallT) (N : Nat) : ∀ R H, codeC P G N (Code.snd (Code.snd (Code.snd (bodyOf Try.f34)))) (rC Try.f34) [] (rC Try.f34) R H = s34_j0 G N H := by
  refine via_trans (via_leaf _) fun R H => ?_
  delta s34_j0
  kernel_rfl
def s34_b1 (G : CallT) (N : Nat) (L1 : AV → AV → AV → AHeap → O) (x2 x3 x5 : AV) (H : AHeap) : O :=
 xb (afieldAddr P 39 x2 4) fun x27 =>
 xb (aload P H 35 x27) fun x28 =>
 xlen P .len [35] [x28] H fun x29 =>
 xb (fbin P .lss 3 false x5 x29) fun x30 =>
 xif (some x30) (xb (afieldAddr P 39 x2 4) fun x33 =>
 xb (aload P H 35 x33) fun x34 =>
 xb (aindexAddr P 35 x34 x5) fun x36 =>
 xb (aload P H 39 x36) fun x37 =>
 xb (afieldAddr P 39 x3 4) fun x38 =>
 xb (aload P H 35 x38) fun x39 =>
 xb (aindexAddr P 35 x39 x5) fun x41 =>
 xb (aload P H 39 x41) fun x42 =>
 xcall H (G 34 [x37, x42] H) fun x43 h1 =>
 xb (aun .not x43) fun x44 =>
 xif (some x44) (some ((.bool false), h1)) (xb (fbin P .add 3 true x5 (.int .i64 1)) fun x32 =>
 L1 x2 x3 x32 h1)) (s34_j0 G N H)
def s34_l1 (G : CallT) (N : Nat) : Nat → AV → AV → AV → AHeap → O
  | 0, _, _, _, _ => none
  | n + 1, x2, x3, x5, H => s34_b1 G N (s34_l1 G N n) x2 x3 x5 H
theorem s34_b1_eq (G : CallT) (N : Nat) (L1 : AV → AV → AV → AHeap → O) : ∀ R H, codeC P G N (Code.fst (Code.fst (Code.snd (Code.fst (Code.snd (Code.snd (bodyOf Try.f34))))))) (fun R H => L1 (R 2) (R 3) (R 5) H) [(0, (fun R H => s34_j0 G N H))] (rC Try.f34) R H = s34_b1 G N L1 (R 2) (R 3) (R 5) H := by
  refine via_trans (via_leaf _) fun R H => ?_
  delta s34_b1
  generalize s34_j0 G N = J0
  revert J0
  refine id ?_
  intro J0
  kernel_rfl
def s34 (G : CallT) (N : Nat) (x0 x1 : AV) (H : AHeap) : O :=
 xmake H (boxOf (H).next x0) fun x2 h1 =>
 xmake h1 (boxOf (h1).next x1) fun x3 h2 =>
 xb (afieldAddr P 39 x2 5) fun x6 =>
 xb (aload P h2 3 x6) fun x7 =>
 xb (afieldAddr P 39 x3 5) fun x8 =>
 xb (aload P h2 3 x8) fun x9 =>
 xb (fbin P .neq 3 false x7 x9) fun x10 =>
 xg x10 false h2 (qp (afieldAddr P 39 x2 4)) fun x12 h3 =>
 xg x10 false h3 (qr (aload P h3 35 x12)) fun x13 h4 =>
 xg x10 false h4 (fun q => xboth (abuiltin P .empty .len [35] [x13]) (abuiltin P h4 .len [35] [x13]) q) fun x14 h5 =>
 xg x10 false h5 (qp (afieldAddr P 39 x3 4)) fun x15 h6 =>
 xg x10 false h6 (qr (aload P h6 35 x15)) fun x16 h7 =>
 xg x10 false h7 (fun q => xboth (abuiltin P .empty .len [35] [x16]) (abuiltin P h7 .len [35] [x16]) q) fun x17 h8 =>
 xg x10 false h8 (qp (fbin P .neq 3 false x14 x17)) fun x18 h9 =>
 xb (pickOf x10 (some (.bool true)) (some x18)) fun x19 =>
 xg x19 false h9 (qr (aload P h9 39 x2)) fun x21 h10 =>
 xg x19 false h10 (qr (aload P h10 39 x3)) fun x22 h11 =>
 xg x19 false h11 (fun q => xeff h11 (G 22 [x21, x22] h11) q) fun x23 h12 =>
 xg x19 false h12 (qp (aun .not x23)) fun x24 h13 =>
 xb (pickOf x19 (some (.bool true)) (some x24)) fun x25 =>
 xif (some x25) (some ((.bool false), h13)) (s34_l1 G N N x2 x3 (.int .i64 0) h13)
theorem s34_eq (G : CallT) (N : Nat) (x0 : AV) (x1 : AV) (H : AHeap) : cF Try.f34 G N (argsF [x0, x1]) H = s34 G N x0 x1 H := by
  refine via_top (A := cF Try.f34 G N) ((via_seq (by kernel_rfl) ((via_seq (by kernel_rfl) ((via_seq (by kernel_rfl) (s34_j0_eq G N) ((via_seq (by kernel_rfl) ((via_block (by kernel_rfl) ((via_loop (k := fun m R H => s34_l1 G N m (R 2) (R 3) (R 5) H) (by kernel_rfl) (fun R H => by kernel_rfl) (fun m => s34_b1_eq G N (s34_l1 G N m)))))) (via_leaf _))))) (via_leaf _))) (via_leaf _))) ?_
  delta s34
  generalize s34_l1 G N N = J0
  revert J0
  refine id ?_
  intro J0
  kernel_rfl
theorem run34 (N : Nat) {x0 x1 : AV} {H : AHeap} {r : AV × AHeap} (h : s34 (evw P) N x0 x1 H = some r) : evw P 34 [x0, x1] H = some r :=
  runF Try.func34 (by kernel_rfl) (by kernel_rfl) (by kernel_rfl) ((s34_eq (evw P) N x0 x1 H).trans h)
def s16 (G : CallT) (x0 x1 x2 : AV) (H : AHeap) : O :=
 xcall H (G 21 [x0, x1, x2] H) fun x17 h1 =>
 xb (aextract x17 0) fun x18 =>
 xb (aextract x17 1) fun x19 =>
 xb (aextract x17 2) fun x20 =>
 xalloc h1 [(.int .i64 0), (.int .i64 0), (.str []), (.str []), (.int .i64 0), AV.nilSl, (.int .i64 0), (.int .i64 0), (.int .i64 0), (.int .i64 0), (.int .i64 0)] fun x7 h2 =>
 xalloc h2 [(.int .i64 0), (.int .i64 0)] fun x9 h3 =>
 xstore h3 (astore P h3 39 x7 x18) fun h4 =>
 xstore h4 (astore P h4 25 x9 x20) fun h5 =>
 xcall h5 (G 20 [x0, x1, x2] h5) fun x25 h6 =>
 xb (aextract x25 0) fun x26 =>
 xb (aextract x25 1) fun x27 =>
 xb (aextract x25 2) fun x28 =>
 xalloc h6 [(.int .i64 0), (.int .i64 0), (.str []), (.str []), (.int .i64 0), AV.nilSl, (.int .i64 0), (.int .i64 0), (.int .i64 0), (.int .i64 0), (.int .i64 0)] fun x10 h7 =>
 xalloc h7 [(.int .i64 0), (.int .i64 0)] fun x12 h8 =>
 xstore h8 (astore P h8 39 x10 x26) fun h9 =>
 xstore h9 (astore P h9 25 x12 x28) fun h10 =>
 xb (aload P h10 39 x7) fun x29 =>
 xb (aload P h10 39 x10) fun x30 =>
 xcall h10 (G 34 [x29, x30] h10) fun x31 h11 =>
 xg x31 true h11 (qv x19) fun x33 h12 =>
 xg x31 true h12 (qv x27) fun x34 h13 =>
 xg x31 true h13 (qp (fbin P .eql 3 false x33 x34)) fun x35 h14 =>
 xb (pickOf x31 (some x35) (some (.bool false))) fun x36 =>
 xg x36 true h14 (qr (aload P h14 25 x9)) fun x38 h15 =>
 xg x36 true h15 (qr (aload P h15 25 x12)) fun x39 h16 =>
 xg x36 true h16 (qp (fbin P .eql 25 false x38 x39)) fun x40 h17 =>
 xb (pickOf x36 (some x40) (some (.bool false))) fun x41 =>
 some (x41, h17)
theorem s16_eq (G : CallT) (N : Nat) (x0 : AV) (x1 : AV) (x2 : AV) (H : AHeap) : cF Try.f16 G N (argsF [x0, x1, x2]) H = s16 G x0 x1 x2 H := by
  refine via_top (A := cF Try.f16 G N) (via_leaf _) ?_
  delta s16
  kernel_rfl
theorem run16 (N : Nat) {x0 x1 x2 : AV} {H : AHeap} {r : AV × AHeap} (h : s16 (evw P) x0 x1 x2 H = some r) : evw P 16 [x0, x1, x2] H = some r :=
  runF Try.func16 (by kernel_rfl) (by kernel_rfl) (by kernel_rfl) ((s16_eq (evw P) N x0 x1 x2 H).trans h)
def s23_j0 (G : CallT) (N : Nat) (x1 : AV) (H : AHeap) : O :=
 some (x1, H)
theorem s23_j0_eq (G : CallT) (N : Nat) : ∀ R H, codeC P G N (Code.snd (Code.snd (Code.snd (bodyOf Try.f23)))) (rC Try.f23) [] (rC Try.f23) R H = s23_j0 G N (R 1) H := by
  refine via_trans (via_leaf _) fun R H => ?_
  delta s23_j0
  kernel_rfl
def s23_b1 (G : CallT) (N : Nat) (L1 : AV → AV → AV → AHeap → O) (x1 x2 x5 : AV) (H : AHeap) : O :=
 xb (afieldAddr P 39 x2 4) fun x9 =>
 xb (aload P H 35 x9) fun x10 =>
 xlen P .len [35] [x10] H fun x11 =>
 xb (fbin P .lss 3 false x5 x11) fun x12 =>
 xg x12 true H (qv x1) fun x14 h1 =>
 xg x12 true h1 (qp (fbin P .gtr 3 true x14 (.int .i64 0))) fun x15 h2 =>
 xb (pickOf x12 (some x15) (some (.bool false))) fun x16 =>
 xif (some x16) (xb (afieldAddr P 39 x2 4) fun x19 =>
 xb (aload P h2 35 x19) fun x20 =>
 xb (aindexAddr P 35 x20 x5) fun x22 =>
 xb (aload P h2 39 x22) fun x23 =>
 xcall h2 (G 23 [x23, x1] h2) fun x25 h3 =>
 xb (fbin P .add 3 true x5 (.int .i64 1)) fun x18 =>
 L1 x25 x2 x18 h3) (s23_j0 G N x1 h2)
def s23_l1 (G : CallT) (N : Nat) : Nat → AV → AV → AV → AHeap → O
  | 0, _, _, _, _ => none
  | n + 1, x1, x2, x5, H => s23_b1 G N (s23_l1 G N n) x1 x2 x5 H
theorem s23_b1_eq (G : CallT) (N : Nat) (L1 : AV → AV → AV → AHeap → O) : ∀ R H, codeC P G N (Code.fst (Code.fst (Code.snd (Code.fst (Code.snd (Code.snd (bodyOf Try.f23))))))) (fun R H => L1 (R 1) (R 2) (R 5) H) [(0, (fun R H => s23_j0 G N (R 1) H))] (rC Try.f23) R H = s23_b1 G N L1 (R 1) (R 2) (R 5) H := by
  refine via_trans (via_leaf _) fun R H => ?_
  delta s23_b1
  generalize s23_j0 G N = J0
  revert J0
  refine id ?_
  intro J0
  kernel_rfl
def s23 (G : CallT) (N : Nat) (x0 x1 : AV) (H : AHeap) : O :=
 xmake H (boxOf (H).next x0) fun x2 h1 =>
 xb (fbin P .sub 3 true x1 (.int .i64 1)) fun x7 =>
 s23_l1 G N N x7 x2 (.int .i64 0) h1
theorem s23_eq (G : CallT) (N : Nat) (x0 : AV) (x1 : AV) (H : AHeap) : cF Try.f23 G N (argsF [x0, x1]) H = s23 G N x0 x1 H := by
  refine via_top (A := cF Try.f23 G N) ((via_seq (by kernel_rfl) ((via_seq (by kernel_rfl) ((via_seq (by kernel_rfl) (s23_j0_eq G N) ((via_seq (by kernel_rfl) ((via_block (by kernel_rfl) ((via_loop (k := fun m R H => s23_l1 G N m (R 1) (R 2) (R 5) H) (by kernel_rfl) (fun R H => by kernel_rfl) (fun m => s23_b1_eq G N (s23_l1 G N m)))))) (via_leaf _))))) (via_leaf _))) (via_leaf _))) ?_
  delta s23
  generalize s23_l1 G N N = J0
  revert J0
  refine id ?_
  intro J0
  kernel_rfl
theorem run23 (N : Nat) {x0 x1 : AV} {H : AHeap} {r : AV × AHeap} (h : s23 (evw P) N x0 x1 H = some r) : evw P 23 [x0, x1] H = some r :=
  runF Try.func23 (by kernel_rfl) (by kernel_rfl) (by kernel_rfl) ((s23_eq (evw P) N x0 x1 H).trans h)
def s3 (G : CallT) (x0 x1 x2 : AV) (H : AHeap) : O :=
 xcall H (G 15 [x0] H) fun x11 h1 =>
 xb (aextract x11 0) fun x12 =>
 xb (aextract x11 1) fun x13 =>
 xalloc h1 [(.int .i64 0), (.int .i64 0)] fun x8 h2 =>
 xstore h2 (astore P h2 25 x8 x13) fun h3 =>
 xlen P .len [9] [x0] h3 fun x15 =>
 xb (fbin P .gtr 3 true x15 (.int .i64 2000)) fun x16 =>
 xg x16 false h3 (qp (afieldAddr P 25 x8 0)) fun x18 h4 =>
 xg x16 false h4 (qr (aload P h4 23 x18)) fun x19 h5 =>
 xg x16 false h5 (qp (fbin P .neq 23 true x19 (.int .i64 0))) fun x20 h6 =>
 xb (pickOf x16 (some (.bool true)) (some x20)) fun x21 =>
 xif (some x21) (some ((.bool true), h6)) (xcall h6 (G 16 [x12, x1, x2] h6) fun x25 h7 =>
 xg x25 true h7 (fun q => xeff h7 (G 17 [] h7) q) fun x27 h8 =>
 xb (pickOf x25 (some x27) (some (.bool false))) fun x28 =>
 some (x28, h8))
theorem s3_eq (G : CallT) (N : Nat) (x0 : AV) (x1 : AV) (x2 : AV) (H : AHeap) : cF Try.f3 G N (argsF [x0, x1, x2]) H = s3 G x0 x1 x2 H := by
  refine via_top (A := cF Try.f3 G N) (via_leaf _) ?_
  delta s3
  kernel_rfl
theorem run3 (N : Nat) {x0 x1 x2 : AV} {H : AHeap} {r : AV × AHeap} (h : s3 (evw P) x0 x1 x2 H = some r) : evw P 3 [x0, x1, x2] H = some r :=
  runF Try.func3 (by kernel_rfl) (by kernel_rfl) (by kernel_rfl) ((s3_eq (evw P) N x0 x1 x2 H).trans h)
def s4 (G : CallT) (x0 x1 x2 : AV) (H : AHeap) : O :=
 xlen P .len [22] [x0] H fun x14 =>
 xb (fbin P .gtr 3 true x14 (.int .i64 60)) fun x15 =>
 xif (some x15) (some ((.bool true), H)) (xcall H (G 18 [x0, x1] H) fun x19 h1 =>
 xb (aextract x19 0) fun x20 =>
 xb (aextract x19 1) fun x21 =>
 xb (aextract x19 2) fun x22 =>
 xalloc h1 [(.str []), (.int .i64 0)] fun x7 h2 =>
 xalloc h2 [(.int .i64 0), (.int .i64 0)] fun x9 h3 =>
 xstore h3 (astore P h3 32 x7 x20) fun h4 =>
 xstore h4 (astore P h4 25 x9 x22) fun h5 =>
 xcall h5 (G 19 [x0, x1] h5) fun x26 h6 =>
 xb (aextract x26 0) fun x27 =>
 xb (aextract x26 1) fun x28 =>
 xb (aextract x26 2) fun x29 =>
 xalloc h6 [(.str []), (.int .i64 0)] fun x10 h7 =>
 xalloc h7 [(.int .i64 0), (.int .i64 0)] fun x12 h8 =>
 xstore h8 (astore P h8 32 x10 x27) fun h9 =>
 xstore h9 (astore P h9 25 x12 x29) fun h10 =>
 xb (aload P h10 32 x7) fun x30 =>
 xb (aload P h10 32 x10) fun x31 =>
 xb (fbin P .eql 32 false x30 x31) fun x32 =>
 xg x32 true h10 (qv x21) fun x34 h11 =>
 xg x32 true h11 (qv x28) fun x35 h12 =>
 xg x32 true h12 (qp (fbin P .eql 3 false x34 x35)) fun x36 h13 =>
 xb (pickOf x32 (some x36) (some (.bool false))) fun x37 =>
 xg x37 true h13 (qr (aload P h13 25 x9)) fun x39 h14 =>
 xg x37 true h14 (qr (aload P h14 25 x12)) fun x40 h15 =>
 xg x37 true h15 (qp (fbin P .eql 25 false x39 x40)) fun x41 h16 =>
 xb (pickOf x37 (some x41) (some (.bool false))) fun x42 =>
 xg x42 true h16 (qv x0) fun x44 h17 =>
 xg x42 true h17 (qv x1) fun x45 h18 =>
 xg x42 true h18 (qv x2) fun x46 h19 =>
 xg x42 true h19 (fun q => xeff h19 (G 16 [x44, x45, x46] h19) q) fun x47 h20 =>
 xb (pickOf x42 (some x47) (some (.bool false))) fun x48 =>
 xg x48 true h20 (fun q => xeff h20 (G 17 [] h20) q) fun x50 h21 =>
 xb (pickOf x48 (some x50) (some (.bool false))) fun x51 =>
 some (x51, h21))
theorem s4_eq (G : CallT) (N : Nat) (x0 : AV) (x1 : AV) (x2 : AV) (H : AHeap) : cF Try.f4 G N (argsF [x0, x1, x2]) H = s4 G x0 x1 x2 H := by
  refine via_top (A := cF Try.f4 G N) (via_leaf _) ?_
  delta s4
  kernel_rfl
theorem run4 (N : Nat) {x0 x1 x2 : AV} {H : AHeap} {r : AV × AHeap} (h : s4 (evw P) x0 x1 x2 H = some r) : evw P 4 [x0, x1, x2] H = some r :=
  runF Try.func4 (by kernel_rfl) (by kernel_rfl) (by kernel_rfl) ((s4_eq (evw P) N x0 x1 x2 H).trans h)
end
end Go.Proofs.Ytnjoomfeddamcaa

namespace Go.Proofs.Ytnjoomfeddamcaa
open Go.Ev
set_option maxRecDepth 100000
noncomputable section
def s15_j0 (G : CallT) (N : Nat) (x0 x3 x4 : AV) (H : AHeap) : O :=
 xlen P .len [9] [x0] H fun x39 =>
 xb (abuild P 65 [(0, (.int .i64 0)), (3, x39)]) fun x40 =>
 xmake H (sliceOf P (H).next 22 1 [(0, x40)]) fun x41 h1 =>
 xcall h1 (aappend P h1 [22, 22] x4 x41) fun x42 h2 =>
 xstore h2 (astore P h2 25 x3 (.agg [(.int .i64 0), (.int .i64 0)])) fun h3 =>
 xb (aload P h3 25 x3) fun r =>
 some (.tuple [x42, r], h3)
theorem s15_j0_eq (G : CallT) (N : Nat) : ∀ R H, codeC P G N (Code.snd (Code.snd (Code.snd (Code.snd (Code.snd (bodyOf Try.f15)))))) (rC Try.f15) [] (rC Try.f15) R H = s15_j0 G N (R 0) (R 3) (R 4) H := by
  refine via_trans (via_leaf _) fun R H => ?_
  delta s15_j0
  kernel_rfl
def s15_13 (L1 : AV → AV → AV → AV → AHeap → O) (x0 x3 : AV) (x31 x36 : AV) (h6 : AHeap) : O :=
 L1 x0 x3 x31 x36 h6
def s15_b1 (G : CallT) (N : Nat) (L1 : AV → AV → AV → AV → AHeap → O) (x0 x3 : AV) (x4 x5 : AV) (H : AHeap) : O :=
 xlen P .len [9] [x0] H fun x16 =>
 xb (fbin P .lss 3 false x5 x16) fun x17 =>
 xif (some x17) (xcall H (G 33 [x0, x5] H) fun x21 h1 =>
 xb (aextract x21 0) fun x22 =>
 xb (aextract x21 1) fun x23 =>
 xalloc h1 [(.int .i64 0), (.str []), (.int .i64 0), (.int .i64 0)] fun x6 h2 =>
 xstore h2 (astore P h2 65 x6 x22) fun h3 =>
 xb (fbin P .eql 3 true x23 (.int .i64 0)) fun x25 =>
 xif (some x25) (xb (abuild P 25 [(0, (.int .i64 1)), (1, x5)]) fun x27 =>
 xstore h3 (astore P h3 25 x3 x27) fun h4 =>
 xb (aload P h4 25 x3) fun r =>
 some (.tuple [AV.nilSl, r], h4)) (xb (aload P h3 65 x6) fun x29 =>
 xmake h3 (sliceOf P (h3).next 22 1 [(0, x29)]) fun x30 h4 =>
 xcall h4 (aappend P h4 [22, 22] x4 x30) fun x31 h5 =>
 xb (fbin P .add 3 false x5 x23) fun x35 =>
 xcall h5 (G 32 [x0, x35] h5) (s15_13 L1 x0 x3 x31))) (s15_j0 G N x0 x3 x4 H)
def s15_l1 (G : CallT) (N : Nat) : Nat → AV → AV → AV → AV → AHeap → O
  | 0, _, _, _, _, _ => none
  | n + 1, x0, x3, x4, x5, H => s15_b1 G N (s15_l1 G N n) x0 x3 x4 x5 H
theorem s15_b1_eq (G : CallT) (N : Nat) (L1 : AV → AV → AV → AV → AHeap → O) : ∀ R H, codeC P G N (Code.fst (Code.fst (Code.fst (Code.snd (Code.snd (Code.snd (Code.snd (bodyOf Try.f15)))))))) (fun R H => L1 (R 0) (R 3) (R 4) (R 5) H) [(0, (fun R H => s15_j0 G N (R 0) (R 3) (R 4) H))] (rC Try.f15) R H = s15_b1 G N L1 (R 0) (R 3) (R 4) (R 5) H := by
  refine via_trans (via_leaf _) fun R H => ?_
  delta s15_b1 s15_13
  generalize s15_j0 G N = J0
  revert J0
  refine id ?_
  intro J0
  kernel_rfl
def s15_29 (G : CallT) (N : Nat) (x0 x3 x13 : AV) (h2 : AHeap) : O :=
 s15_l1 G N N x0 x3 AV.nilSl x13 h2
def s15 (G : CallT) (N : Nat) (x0 : AV) (H : AHeap) : O :=
 xalloc H [(.int .i64 0), (.int .i64 0)] fun x3 h1 =>
 xlen P .len [9] [x0] h1 fun x9 =>
 xb (fbin P .gtr 3 true x9 (.int .i64 6000)) fun x10 =>
 xif (some x10) (xstore h1 (astore P h1 25 x3 (.agg [(.int .i64 4), (.int .i64 0)])) fun h2 =>
 xb (aload P h2 25 x3) fun r =>
 some (.tuple [AV.nilSl, r], h2)) (xcall h1 (G 32 [x0, (.int .i64 0)] h1) (s15_29 G N x0 x3))
theorem s15_eq (G : CallT) (N : Nat) (x0 : AV) (H : AHeap) : cF Try.f15 G N (argsF [x0]) H = s15 G N x0 H := by
  refine via_top (A := cF Try.f15 G N) ((via_seq (by kernel_rfl) ((via_seq (by kernel_rfl) ((via_seq (by kernel_rfl) ((via_seq (by kernel_rfl) ((via_seq (by kernel_rfl) (s15_j0_eq G N) ((via_block (by kernel_rfl) ((via_loop (k := fun m R H => s15_l1 G N m (R 0) (R 3) (R 4) (R 5) H) (by kernel_rfl) (fun R H => by kernel_rfl) (fun m => s15_b1_eq G N (s15_l1 G N m)))))))) (via_leaf _))) (via_leaf _))) (via_leaf _))) (via_leaf _))) ?_
  delta s15 s15_29
  generalize s15_l1 G N N = J0
  revert J0
  refine id ?_
  intro J0
  kernel_rfl
theorem run15 (N : Nat) {x0 : AV} {H : AHeap} {r : AV × AHeap} (h : s15 (evw P) N x0 H = some r) : evw P 15 [x0] H = some r :=
  runF Try.func15 (by kernel_rfl) (by kernel_rfl) (by kernel_rfl) ((s15_eq (evw P) N x0 H).trans h)
def s32_j0 (G : CallT) (N : Nat) (x1 : AV) (H : AHeap) : O :=
 some (x1, H)
theorem s32_j0_eq (G : CallT) (N : Nat) : ∀ R H, codeC P G N (Code.snd (Code.snd (bodyOf Try.f32))) (rC Try.f32) [] (rC Try.f32) R H = s32_j0 G N (R 1) H := by
  refine via_trans (via_leaf _) fun R H => ?_
  delta s32_j0
  kernel_rfl
def s32_b2 (G : CallT) (N : Nat) (L1 : AV → AV → AHeap → O) (L2 : AV → AV → AHeap → O) (x0 x1 : AV) (H : AHeap) : O :=
 xlen P .len [9] [x0] H fun x51 =>
 xb (fbin P .lss 3 false x1 x51) fun x52 =>
 xg x52 true H (qv x0) fun x54 h1 =>
 xg x52 true h1 (qv x1) fun x55 h2 =>
 xg x52 true h2 (qp (aindex P 9 x54 x55)) fun x56 h3 =>
 xg x52 true h3 (qp (fbin P .neq 5 true x56 (.int .u8 10))) fun x57 h4 =>
 xb (pickOf x52 (some x57) (some (.bool false))) fun x58 =>
 xif (some x58) (xb (fbin P .add 3 true x1 (.int .i64 1)) fun x60 =>
 L2 x0 x60 h4) (L1 x0 x1 h4)
def s32_l2 (G : CallT) (N : Nat) (L1 : AV → AV → AHeap → O) : Nat → AV → AV → AHeap → O
  | 0, _, _, _ => none
  | n + 1, x0, x1, H => s32_b2 G N L1 (s32_l2 G N L1 n) x0 x1 H
theorem s32_b2_eq (G : CallT) (N : Nat) (L1 : AV → AV → AHeap → O) (L2 : AV → AV → AHeap → O) : ∀ R H, codeC P G N (Code.fst (Code.fst (Code.fst (Code.snd (Code.snd (Code.snd (Code.fst (Code.fst (Code.snd (Code.fst (Code.fst (Code.fst (Code.snd (bodyOf Try.f32)))))))))))))) (fun R H => L2 (R 0) (R 1) H) [(3, (fun R H => L1 (R 0) (R 1) H)), (2, (fun R H => L1 (R 0) (R 1) H)), (1, (fun R H => L1 (R 0) (R 1) H)), (0, (fun R H => s32_j0 G N (R 1) H))] (rC Try.f32) R H = s32_b2 G N L1 L2 (R 0) (R 1) H := by
  refine via_trans (via_leaf _) fun R H => ?_
  delta s32_b2
  generalize L1 = J0
  revert J0
  refine id ?_
  intro J0
  kernel_rfl
def s32_b1 (G : CallT) (N : Nat) (L1 : AV → AV → AHeap → O) (x0 x1 : AV) (H : AHeap) : O :=
 xlen P .len [9] [x0] H fun x7 =>
 xb (fbin P .lss 3 false x1 x7) fun x8 =>
 xif (some x8) (xb (aindex P 9 x0 x1) fun x13 =>
 xb (fbin P .eql 5 true x13 (.int .u8 32)) fun x14 =>
 xg x14 false H (qv x0) fun x16 h1 =>
 xg x14 false h1 (qv x1) fun x17 h2 =>
 xg x14 false h2 (qp (aindex P 9 x16 x17)) fun x18 h3 =>
 xg x14 false h3 (qp (fbin P .eql 5 true x18 (.int .u8 9))) fun x19 h4 =>
 xb (pickOf x14 (some (.bool true)) (some x19)) fun x20 =>
 xg x20 false h4 (qv x0) fun x22 h5 =>
 xg x20 false h5 (qv x1) fun x23 h6 =>
 xg x20 false h6 (qp (aindex P 9 x22 x23)) fun x24 h7 =>
 xg x20 false h7 (qp (fbin P .eql 5 true x24 (.int .u8 10))) fun x25 h8 =>
 xb (pickOf x20 (some (.bool true)) (some x25)) fun x26 =>
 xg x26 false h8 (qv x0) fun x28 h9 =>
 xg x26 false h9 (qv x1) fun x29 h10 =>
 xg x26 false h10 (qp (aindex P 9 x28 x29)) fun x30 h11 =>
 xg x26 false h11 (qp (fbin P .eql 5 true x30 (.int .u8 13))) fun x31 h12 =>
 xb (pickOf x26 (some (.bool true)) (some x31)) fun x32 =>
 xif (some x32) (xb (fbin P .add 3 true x1 (.int .i64 1)) fun x34 =>
 L1 x0 x34 h12) (xlen P .len [9] [x0] h12 fun x37 =>
 xb (fbin P .sub 3 false x37 x1) fun x39 =>
 xb (fbin P .geq 3 true x39 (.int .i64 2)) fun x40 =>
 xg x40 true h12 (qv x0) fun x42 h13 =>
 xg x40 true h13 (qv x1) fun x43 h14 =>
 xg x40 true h14 (qv x1) fun x44 h15 =>
 xg x40 true h15 (qp (fbin P .add 3 true x44 (.int .i64 2))) fun x45 h16 =>
 xg x40 true h16 (qp (aslice P 9 x42 (some x43) (some x45) none)) fun x46 h17 =>
 xg x40 true h17 (qp (fbin P .eql 9 true x46 (.str [47, 47]))) fun x47 h18 =>
 xb (pickOf x40 (some x47) (some (.bool false))) fun x48 =>
 xif (some x48) (s32_l2 G N L1 N x0 x1 h18) (some (x1, h18)))) (s32_j0 G N x1 H)
def s32_l1 (G : CallT) (N : Nat) : Nat → AV → AV → AHeap → O
  | 0, _, _, _ => none
  | n + 1, x0, x1, H => s32_b1 G N (s32_l1 G N n) x0 x1 H
theorem s32_b1_eq (G : CallT) (N : Nat) (L1 : AV → AV → AHeap → O) : ∀ R H, codeC P G N (Code.fst (Code.fst (Code.fst (Code.snd (bodyOf Try.f32))))) (fun R H => L1 (R 0) (R 1) H) [(0, (fun R H => s32_j0 G N (R 1) H))] (rC Try.f32) R H = s32_b1 G N L1 (R 0) (R 1) H := by
  refine via_trans ((via_seq (by kernel_rfl) ((via_block (by kernel_rfl) ((via_block (by kernel_rfl) ((via_seq (by kernel_rfl) ((via_cond (by kernel_rfl) (via_leaf _) ((via_seq (by kernel_rfl) ((via_cond (by kernel_rfl) ((via_block (by kernel_rfl) ((via_loop (k := fun m R H => s32_l2 G N L1 m (R 0) (R 1) H) (by kernel_rfl) (fun R H => by kernel_rfl) (fun m => s32_b2_eq G N L1 (s32_l2 G N L1 m)))))) (via_leaf _))) (via_leaf _))))) (via_leaf _))))))) (via_leaf _))) fun R H => ?_
  delta s32_b1
  generalize s32_j0 G N = J0
  generalize s32_l2 G N L1 N = J1
  revert J0 J1
  refine id ?_
  intro J0 J1
  kernel_rfl
def s32 (G : CallT) (N : Nat) (x0 x1 : AV) (H : AHeap) : O :=
 s32_l1 G N N x0 x1 H
theorem s32_eq (G : CallT) (N : Nat) (x0 : AV) (x1 : AV) (H : AHeap) : cF Try.f32 G N (argsF [x0, x1]) H = s32 G N x0 x1 H := by
  refine via_top (A := cF Try.f32 G N) ((via_seq (by kernel_rfl) ((via_seq (by kernel_rfl) (s32_j0_eq G N) ((via_block (by kernel_rfl) ((via_loop (k := fun m R H => s32_l1 G N m (R 0) (R 1) H) (by kernel_rfl) (fun R H => by kernel_rfl) (fun m => s32_b1_eq G N (s32_l1 G N m)))))))) (via_leaf _))) ?_
  delta s32
  generalize s32_l1 G N N = J0
  revert J0
  refine id ?_
  intro J0
  kernel_rfl
theorem run32 (N : Nat) {x0 x1 : AV} {H : AHeap} {r : AV × AHeap} (h : s32 (evw P) N x0 x1 H = some r) : evw P 32 [x0, x1] H = some r :=
  runF Try.func32 (by kernel_rfl) (by kernel_rfl) (by kernel_rfl) ((s32_eq (evw P) N x0 x1 H).trans h)
def s33 (G : CallT) (x0 x1 : AV) (H : AHeap) : O :=
 xalloc H [(.int .i64 0), (.str []), (.int .i64 0), (.int .i64 0)] fun x4 h1 =>
 xb (aindex P 9 x0 x1) fun x15 =>
 xcall h1 (G 53 [x15] h1) fun x16 h2 =>
 xif (some x16) (xcall h2 (G 54 [x0, x1, (.bool false)] h2) fun x19 h3 =>
 xb (fbin P .add 3 false x1 x19) fun x24 =>
 xb (aslice P 9 x0 (some x1) (some x24) none) fun x25 =>
 xcall h3 (G 55 [x25] h3) fun x27 h4 =>
 xif (some x27) (xb (abuild P 65 [(0, (.int .i64 3)), (1, x25), (3, x1)]) fun x30 =>
 xstore h4 (astore P h4 65 x4 x30) fun h5 =>
 xb (aload P h5 65 x4) fun r =>
 some (.tuple [r, x19], h5)) (xcall h4 (G 56 [x25] h4) fun x33 h5 =>
 xif (some x33) (xb (abuild P 65 [(0, (.int .i64 1)), (1, x25), (3, x1)]) fun x36 =>
 xstore h5 (astore P h5 65 x4 x36) fun h6 =>
 xb (aload P h6 65 x4) fun r =>
 some (.tuple [r, x19], h6)) (xstore h5 (astore P h5 65 x4 (.agg [(.int .i64 0), (.str []), (.int .i64 0), (.int .i64 0)])) fun h6 =>
 xb (aload P h6 65 x4) fun r =>
 some (.tuple [r, (.int .i64 0)], h6)))) (xb (aindex P 9 x0 x1) fun x42 =>
 xcall h2 (G 57 [x42] h2) fun x43 h3 =>
 xif (some x43) (xcall h3 (G 54 [x0, x1, (.bool true)] h3) fun x46 h4 =>
 xb (fbin P .add 3 false x1 x46) fun x52 =>
 xb (aslice P 9 x0 (some x1) (some x52) none) fun x53 =>
 xcall h4 (G 58 [x53] h4) fun x54 h5 =>
 xb (aextract x54 0) fun x55 =>
 xb (aextract x54 1) fun x56 =>
 xb (aun .not x56) fun x58 =>
 xg x58 false h5 (qv x46) fun x60 h6 =>
 xg x58 false h6 (qp (fbin P .gtr 3 true x60 (.int .i64 1))) fun x61 h7 =>
 xg x58 false h7 (qv x61) fun x62 h8 =>
 xg x62 true h8 (qv x0) fun x63 h9 =>
 xg x62 true h9 (qv x1) fun x64 h10 =>
 xg x62 true h10 (qp (aindex P 9 x63 x64)) fun x65 h11 =>
 xg x62 true h11 (qp (fbin P .eql 5 true x65 (.int .u8 48))) fun x66 h12 =>
 xg x58 false h12 (qp (pickOf x62 (some x66) (some (.bool false)))) fun x67 h13 =>
 xb (pickOf x58 (some (.bool true)) (some x67)) fun x68 =>
 xg x68 false h13 (qv x1) fun x70 h14 =>
 xg x68 false h14 (qv x46) fun x71 h15 =>
 xg x68 false h15 (qp (fbin P .add 3 false x70 x71)) fun x72 h16 =>
 xg x68 false h16 (qv x0) fun x73 h17 =>
 xg x68 false h17 (fun q => xboth (abuiltin P .empty .len [9] [x73]) (abuiltin P h17 .len [9] [x73]) q) fun x74 h18 =>
 xg x68 false h18 (qp (fbin P .lss 3 false x72 x74)) fun x75 h19 =>
 xg x68 false h19 (qv x75) fun x76 h20 =>
 xg x76 true h20 (qv x0) fun x77 h21 =>
 xg x76 true h21 (qv x1) fun x78 h22 =>
 xg x76 true h22 (qv x46) fun x79 h23 =>
 xg x76 true h23 (qp (fbin P .add 3 false x78 x79)) fun x80 h24 =>
 xg x76 true h24 (qp (aindex P 9 x77 x80)) fun x81 h25 =>
 xg x76 true h25 (fun q => xeff h25 (G 53 [x81] h25) q) fun x82 h26 =>
 xg x68 false h26 (qp (pickOf x76 (some x82) (some (.bool false)))) fun x83 h27 =>
 xb (pickOf x68 (some (.bool true)) (some x83)) fun x84 =>
 xif (some x84) (xstore h27 (astore P h27 65 x4 (.agg [(.int .i64 0), (.str []), (.int .i64 0), (.int .i64 0)])) fun h28 =>
 xb (aload P h28 65 x4) fun r =>
 some (.tuple [r, (.int .i64 0)], h28)) (xb (abuild P 65 [(0, (.int .i64 2)), (2, x55), (3, x1)]) fun x88 =>
 xstore h27 (astore P h27 65 x4 x88) fun h28 =>
 xb (aload P h28 65 x4) fun r =>
 some (.tuple [r, x46], h28))) (xcall h3 (G 59 [x0, x1] h3) fun x92 h4 =>
 xb (fbin P .eql 9 true x92 (.str [])) fun x94 =>
 xif (some x94) (xstore h4 (astore P h4 65 x4 (.agg [(.int .i64 0), (.str []), (.int .i64 0), (.int .i64 0)])) fun h5 =>
 xb (aload P h5 65 x4) fun r =>
 some (.tuple [r, (.int .i64 0)], h5)) (xb (abuild P 65 [(0, (.int .i64 4)), (1, x92), (3, x1)]) fun x98 =>
 xlen P .len [9] [x92] h4 fun x100 =>
 xstore h4 (astore P h4 65 x4 x98) fun h5 =>
 xb (aload P h5 65 x4) fun r =>
 some (.tuple [r, x100], h5))))
theorem s33_eq (G : CallT) (N : Nat) (x0 : AV) (x1 : AV) (H : AHeap) : cF Try.f33 G N (argsF [x0, x1]) H = s33 G x0 x1 H := by
  refine via_top (A := cF Try.f33 G N) (via_leaf _) ?_
  delta s33
  kernel_rfl
theorem run33 (N : Nat) {x0 x1 : AV} {H : AHeap} {r : AV × AHeap} (h : s33 (evw P) x0 x1 H = some r) : evw P 33 [x0, x1] H = some r :=
  runF Try.func33 (by kernel_rfl) (by kernel_rfl) (by kernel_rfl) ((s33_eq (evw P) N x0 x1 H).trans h)
def s53 (G : CallT) (x0 : AV) (H : AHeap) : O :=
 xb (fbin P .geq 5 true x0 (.int .u8 97)) fun x4 =>
 xg x4 true H (qv x0) fun x6 h1 =>
 xg x4 true h1 (qp (fbin P .leq 5 true x6 (.int .u8 122))) fun x7 h2 =>
 xb (pickOf x4 (some x7) (some (.bool false))) fun x8 =>
 xg x8 false h2 (qv x0) fun x10 h3 =>
 xg x8 false h3 (qp (fbin P .geq 5 true x10 (.int .u8 65))) fun x11 h4 =>
 xg x8 false h4 (qv x11) fun x12 h5 =>
 xg x12 true h5 (qv x0) fun x13 h6 =>
 xg x12 true h6 (qp (fbin P .leq 5 true x13 (.int .u8 90))) fun x14 h7 =>
 xg x8 false h7 (qp (pickOf x12 (some x14) (some (.bool false)))) fun x15 h8 =>
 xb (pickOf x8 (some (.bool true)) (some x15)) fun x16 =>
 some (x16, h8)
theorem s53_eq (G : CallT) (N : Nat) (x0 : AV) (H : AHeap) : cF Try.f53 G N (argsF [x0]) H = s53 G x0 H := by
  refine via_top (A := cF Try.f53 G N) (via_leaf _) ?_
  delta s53
  kernel_rfl
theorem run53 (N : Nat) {x0 : AV} {H : AHeap} {r : AV × AHeap} (h : s53 (evw P) x0 H = some r) : evw P 53 [x0] H = some r :=
  runF Try.func53 (by kernel_rfl) (by kernel_rfl) (by kernel_rfl) ((s53_eq (evw P) N x0 H).trans h)
def s54_j0 (G : CallT) (N : Nat) (x7 : AV) (H : AHeap) : O :=
 some (x7, H)
theorem s54_j0_eq (G : CallT) (N : Nat) : ∀ R H, codeC P G N (Code.snd (Code.snd (Code.snd (bodyOf Try.f54)))) (rC Try.f54) [] (rC Try.f54) R H = s54_j0 G N (R 7) H := by
  refine via_trans (via_leaf _) fun R H => ?_
  delta s54_j0
  kernel_rfl
def s54_b1 (G : CallT) (N : Nat) (L1 : AV → AV → AV → AV → AHeap → O) (x0 x1 : AV) (x2 x7 : AV) (H : AHeap) : O :=
 xb (fbin P .add 3 false x1 x7) fun x10 =>
 xlen P .len [9] [x0] H fun x12 =>
 xb (fbin P .lss 3 false x10 x12) fun x13 =>
 xg x13 true H (qv x0) fun x15 h1 =>
 xg x13 true h1 (qv x1) fun x16 h2 =>
 xg x13 true h2 (qv x7) fun x17 h3 =>
 xg x13 true h3 (qp (fbin P .add 3 false x16 x17)) fun x18 h4 =>
 xg x13 true h4 (qp (aindex P 9 x15 x18)) fun x19 h5 =>
 xg x13 true h5 (fun q => xeff h5 (G 57 [x19] h5) q) fun x20 h6 =>
 xg x13 true h6 (qv x20) fun x21 h7 =>
 xg x21 false h7 (qv x2) fun x22 h8 =>
 xg x21 false h8 (qp (aun .not x22)) fun x23 h9 =>
 xg x21 false h9 (qv x23) fun x24 h10 =>
 xg x24 true h10 (qv x0) fun x25 h11 =>
 xg x24 true h11 (qv x1) fun x26 h12 =>
 xg x24 true h12 (qv x7) fun x27 h13 =>
 xg x24 true h13 (qp (fbin P .add 3 false x26 x27)) fun x28 h14 =>
 xg x24 true h14 (qp (aindex P 9 x25 x28)) fun x29 h15 =>
 xg x24 true h15 (fun q => xeff h15 (G 53 [x29] h15) q) fun x30 h16 =>
 xg x21 false h16 (qp (pickOf x24 (some x30) (some (.bool false)))) fun x31 h17 =>
 xg x13 true h17 (qp (pickOf x21 (some (.bool true)) (some x31))) fun x32 h18 =>
 xb (pickOf x13 (some x32) (some (.bool false))) fun x33 =>
 xif (some x33) (xb (fbin P .add 3 true x7 (.int .i64 1)) fun x35 =>
 L1 x0 x1 x2 x35 h18) (s54_j0 G N x7 h18)
def s54_l1 (G : CallT) (N : Nat) : Nat → AV → AV → AV → AV → AHeap → O
  | 0, _, _, _, _, _ => none
  | n + 1, x0, x1, x2, x7, H => s54_b1 G N (s54_l1 G N n) x0 x1 x2 x7 H
theorem s54_b1_eq (G : CallT) (N : Nat) (L1 : AV → AV → AV → AV → AHeap → O) : ∀ R H, codeC P G N (Code.fst (Code.fst (Code.fst (Code.snd (Code.snd (bodyOf Try.f54)))))) (fun R H => L1 (R 0) (R 1) (R 2) (R 7) H) [(0, (fun R H => s54_j0 G N (R 7) H))] (rC Try.f54) R H = s54_b1 G N L1 (R 0) (R 1) (R 2) (R 7) H := by
  refine via_trans (via_leaf _) fun R H => ?_
  delta s54_b1
  generalize s54_j0 G N = J0
  revert J0
  refine id ?_
  intro J0
  kernel_rfl
def s54 (G : CallT) (N : Nat) (x0 x1 x2 : AV) (H : AHeap) : O :=
 s54_l1 G N N x0 x1 x2 (.int .i64 0) H
theorem s54_eq (G : CallT) (N : Nat) (x0 : AV) (x1 : AV) (x2 : AV) (H : AHeap) : cF Try.f54 G N (argsF [x0, x1, x2]) H = s54 G N x0 x1 x2 H := by
  refine via_top (A := cF Try.f54 G N) ((via_seq (by kernel_rfl) ((via_seq (by kernel_rfl) ((via_seq (by kernel_rfl) (s54_j0_eq G N) ((via_block (by kernel_rfl) ((via_loop (k := fun m R H => s54_l1 G N m (R 0) (R 1) (R 2) (R 7) H) (by kernel_rfl) (fun R H => by kernel_rfl) (fun m => s54_b1_eq G N (s54_l1 G N m)))))))) (via_leaf _))) (via_leaf _))) ?_
  delta s54
  generalize s54_l1 G N N = J0
  revert J0
  refine id ?_
  intro J0
  kernel_rfl
theorem run54 (N : Nat) {x0 x1 x2 : AV} {H : AHeap} {r : AV × AHeap} (h : s54 (evw P) N x0 x1 x2 H = some r) : evw P 54 [x0, x1, x2] H = some r :=
  runF Try.func54 (by kernel_rfl) (by kernel_rfl) (by kernel_rfl) ((s54_eq (evw P) N x0 x1 x2 H).trans h)
def s55_j0 (G : CallT) (N : Nat) (H : AHeap) : O :=
 some ((.bool false), H)
theorem s55_j0_eq (G : CallT) (N : Nat) : ∀ R H, codeC P G N (Code.snd (Code.snd (Code.snd (bodyOf Try.f55)))) (rC Try.f55) [] (rC Try.f55) R H = s55_j0 G N H := by
  refine via_trans (via_leaf _) fun R H => ?_
  delta s55_j0
  kernel_rfl
def s55_b1 (G : CallT) (N : Nat) (L1 : AV → AV → AV → AHeap → O) (x0 x3 x4 : AV) (H : AHeap) : O :=
 xlen P .len [46] [x3] H fun x8 =>
 xb (fbin P .lss 3 false x4 x8) fun x9 =>
 xif (some x9) (xb (aindexAddr P 46 x3 x4) fun x14 =>
 xb (aload P H 9 x14) fun x15 =>
 xb (fbin P .eql 9 false x15 x0) fun x17 =>
 xif (some x17) (some ((.bool true), H)) (xb (fbin P .add 3 true x4 (.int .i64 1)) fun x11 =>
 L1 x0 x3 x11 H)) (s55_j0 G N H)
def s55_l1 (G : CallT) (N : Nat) : Nat → AV → AV → AV → AHeap → O
  | 0, _, _, _, _ => none
  | n + 1, x0, x3, x4, H => s55_b1 G N (s55_l1 G N n) x0 x3 x4 H
theorem s55_b1_eq (G : CallT) (N : Nat) (L1 : AV → AV → AV → AHeap → O) : ∀ R H, codeC P G N (Code.fst (Code.fst (Code.snd (Code.fst (Code.snd (Code.snd (bodyOf Try.f55))))))) (fun R H => L1 (R 0) (R 3) (R 4) H) [(0, (fun R H => s55_j0 G N H))] (rC Try.f55) R H = s55_b1 G N L1 (R 0) (R 3) (R 4) H := by
  refine via_trans (via_leaf _) fun R H => ?_
  delta s55_b1
  generalize s55_j0 G N = J0
  revert J0
  refine id ?_
  intro J0
  kernel_rfl
def s55_10 (G : CallT) (N : Nat) (x0 x5 : AV) (h1 : AHeap) : O :=
 s55_l1 G N N x0 x5 (.int .i64 0) h1
def s55 (G : CallT) (N : Nat) (x0 : AV) (H : AHeap) : O :=
 xcall H (G 79 [] H) (s55_10 G N x0)
theorem s55_eq (G : CallT) (N : Nat) (x0 : AV) (H : AHeap) : cF Try.f55 G N (argsF [x0]) H = s55 G N x0 H := by
  refine via_top (A := cF Try.f55 G N) ((via_seq (by kernel_rfl) ((via_seq (by kernel_rfl) ((via_seq (by kernel_rfl) (s55_j0_eq G N) ((via_seq (by kernel_rfl) ((via_block (by kernel_rfl) ((via_loop (k := fun m R H => s55_l1 G N m (R 0) (R 3) (R 4) H) (by kernel_rfl) (fun R H => by kernel_rfl) (fun m => s55_b1_eq G N (s55_l1 G N m)))))) (via_leaf _))))) (via_leaf _))) (via_leaf _))) ?_
  delta s55 s55_10
  generalize s55_l1 G N N = J0
  revert J0
  refine id ?_
  intro J0
  kernel_rfl
theorem run55 (N : Nat) {x0 : AV} {H : AHeap} {r : AV × AHeap} (h : s55 (evw P) N x0 H = some r) : evw P 55 [x0] H = some r :=
  runF Try.func55 (by kernel_rfl) (by kernel_rfl) (by kernel_rfl) ((s55_eq (evw P) N x0 H).trans h)
def s56_j0 (G : CallT) (N : Nat) (H : AHeap) : O :=
 some ((.bool true), H)
theorem s56_j0_eq (G : CallT) (N : Nat) : ∀ R H, codeC P G N (Code.snd (Code.snd (Code.snd (bodyOf Try.f56)))) (rC Try.f56) [] (rC Try.f56) R H = s56_j0 G N H := by
  refine via_trans (via_leaf _) fun R H => ?_
  delta s56_j0
  kernel_rfl
def s56_b1 (G : CallT) (N : Nat) (L1 : AV → AV → AHeap → O) (x0 x3 : AV) (H : AHeap) : O :=
 xlen P .len [9] [x0] H fun x24 =>
 xb (fbin P .lss 3 false x3 x24) fun x25 =>
 xif (some x25) (xb (aindex P 9 x0 x3) fun x30 =>
 xcall H (G 53 [x30] H) fun x31 h1 =>
 xb (aun .not x31) fun x32 =>
 xg x32 true h1 (qv x0) fun x34 h2 =>
 xg x32 true h2 (qv x3) fun x35 h3 =>
 xg x32 true h3 (qp (aindex P 9 x34 x35)) fun x36 h4 =>
 xg x32 true h4 (fun q => xeff h4 (G 57 [x36] h4) q) fun x37 h5 =>
 xg x32 true h5 (qp (aun .not x37)) fun x38 h6 =>
 xb (pickOf x32 (some x38) (some (.bool false))) fun x39 =>
 xif (some x39) (some ((.bool false), h6)) (xb (fbin P .add 3 true x3 (.int .i64 1)) fun x27 =>
 L1 x0 x27 h6)) (s56_j0 G N H)
def s56_l1 (G : CallT) (N : Nat) : Nat → AV → AV → AHeap → O
  | 0, _, _, _ => none
  | n + 1, x0, x3, H => s56_b1 G N (s56_l1 G N n) x0 x3 H
theorem s56_b1_eq (G : CallT) (N : Nat) (L1 : AV → AV → AHeap → O) : ∀ R H, codeC P G N (Code.fst (Code.fst (Code.snd (Code.fst (Code.snd (Code.snd (bodyOf Try.f56))))))) (fun R H => L1 (R 0) (R 3) H) [(0, (fun R H => s56_j0 G N H))] (rC Try.f56) R H = s56_b1 G N L1 (R 0) (R 3) H := by
  refine via_trans (via_leaf _) fun R H => ?_
  delta s56_b1
  generalize s56_j0 G N = J0
  revert J0
  refine id ?_
  intro J0
  kernel_rfl
def s56 (G : CallT) (N : Nat) (x0 : AV) (H : AHeap) : O :=
 xlen P .len [9] [x0] H fun x5 =>
 xb (fbin P .lss 3 true x5 (.int .i64 1)) fun x6 =>
 xg x6 false H (qv x0) fun x8 h1 =>
 xg x6 false h1 (fun q => xboth (abuiltin P .empty .len [9] [x8]) (abuiltin P h1 .len [9] [x8]) q) fun x9 h2 =>
 xg x6 false h2 (qp (fbin P .gtr 3 true x9 (.int .i64 8))) fun x10 h3 =>
 xb (pickOf x6 (some (.bool true)) (some x10)) fun x11 =>
 xg x11 false h3 (qv x0) fun x13 h4 =>
 xg x11 false h4 (qp (aindex P 9 x13 (.int .i64 0))) fun x14 h5 =>
 xg x11 false h5 (fun q => xeff h5 (G 53 [x14] h5) q) fun x15 h6 =>
 xg x11 false h6 (qp (aun .not x15)) fun x16 h7 =>
 xb (pickOf x11 (some (.bool true)) (some x16)) fun x17 =>
 xg x17 false h7 (qv x0) fun x19 h8 =>
 xg x17 false h8 (fun q => xeff h8 (G 55 [x19] h8) q) fun x20 h9 =>
 xb (pickOf x17 (some (.bool true)) (some x20)) fun x21 =>
 xif (some x21) (some ((.bool false), h9)) (s56_l1 G N N x0 (.int .i64 0) h9)
theorem s56_eq (G : CallT) (N : Nat) (x0 : AV) (H : AHeap) : cF Try.f56 G N (argsF [x0]) H = s56 G N x0 H := by
  refine via_top (A := cF Try.f56 G N) ((via_seq (by kernel_rfl) ((via_seq (by kernel_rfl) ((via_seq (by kernel_rfl) (s56_j0_eq G N) ((via_seq (by kernel_rfl) ((via_block (by kernel_rfl) ((via_loop (k := fun m R H => s56_l1 G N m (R 0) (R 3) H) (by kernel_rfl) (fun R H => by kernel_rfl) (fun m => s56_b1_eq G N (s56_l1 G N m)))))) (via_leaf _))))) (via_leaf _))) (via_leaf _))) ?_
  delta s56
  generalize s56_l1 G N N = J0
  revert J0
  refine id ?_
  intro J0
  kernel_rfl
theorem run56 (N : Nat) {x0 : AV} {H : AHeap} {r : AV × AHeap} (h : s56 (evw P) N x0 H = some r) : evw P 56 [x0] H = some r :=
  runF Try.func56 (by kernel_rfl) (by kernel_rfl) (by kernel_rfl) ((s56_eq (evw P) N x0 H).trans h)
def s57 (G : CallT) (x0 : AV) (H : AHeap) : O :=
 xb (fbin P .geq 5 true x0 (.int .u8 48)) fun x4 =>
 xg x4 true H (qv x0) fun x6 h1 =>
 xg x4 true h1 (qp (fbin P .leq 5 true x6 (.int .u8 57))) fun x7 h2 =>
 xb (pickOf x4 (some x7) (some (.bool false))) fun x8 =>
 some (x8, h2)
theorem s57_eq (G : CallT) (N : Nat) (x0 : AV) (H : AHeap) : cF Try.f57 G N (argsF [x0]) H = s57 G x0 H := by
  refine via_top (A := cF Try.f57 G N) (via_leaf _) ?_
  delta s57
  kernel_rfl
theorem run57 (N : Nat) {x0 : AV} {H : AHeap} {r : AV × AHeap} (h : s57 (evw P) x0 H = some r) : evw P 57 [x0] H = some r :=
  runF Try.func57 (by kernel_rfl) (by kernel_rfl) (by kernel_rfl) ((s57_eq (evw P) N x0 H).trans h)
def s58_j0 (G : CallT) (N : Nat) (x4 : AV) (H : AHeap) : O :=
 some (.tuple [x4, (.bool true)], H)
theorem s58_j0_eq (G : CallT) (N : Nat) : ∀ R H, codeC P G N (Code.snd (Code.snd (Code.snd (bodyOf Try.f58)))) (rC Try.f58) [] (rC Try.f58) R H = s58_j0 G N (R 4) H := by
  refine via_trans (via_leaf _) fun R H => ?_
  delta s58_j0
  kernel_rfl
def s58_b1 (G : CallT) (N : Nat) (L1 : AV → AV → AV → AHeap → O) (x0 x4 x5 : AV) (H : AHeap) : O :=
 xlen P .len [9] [x0] H fun x9 =>
 xb (fbin P .lss 3 false x5 x9) fun x10 =>
 xif (some x10) (xb (aindex P 9 x0 x5) fun x15 =>
 xb (fbin P .sub 5 true x15 (.int .u8 48)) fun x16 =>
 xconv P 5 3 x16 H fun x17 =>
 xb (fbin P .sub 3 true (.int .i64 9223372036854775807) x17) fun x20 =>
 xb (fbin P .quo 3 true x20 (.int .i64 10)) fun x21 =>
 xb (fbin P .gtr 3 false x4 x21) fun x22 =>
 xif (some x22) (some (.tuple [(.int .i64 0), (.bool false)], H)) (xb (fbin P .mul 3 true (.int .i64 10) x4) fun x24 =>
 xb (fbin P .add 3 false x24 x17) fun x26 =>
 xb (fbin P .add 3 true x5 (.int .i64 1)) fun x12 =>
 L1 x0 x26 x12 H)) (s58_j0 G N x4 H)
def s58_l1 (G : CallT) (N : Nat) : Nat → AV → AV → AV → AHeap → O
  | 0, _, _, _, _ => none
  | n + 1, x0, x4, x5, H => s58_b1 G N (s58_l1 G N n) x0 x4 x5 H
theorem s58_b1_eq (G : CallT) (N : Nat) (L1 : AV → AV → AV → AHeap → O) : ∀ R H, codeC P G N (Code.fst (Code.fst (Code.snd (Code.fst (Code.snd (Code.snd (bodyOf Try.f58))))))) (fun R H => L1 (R 0) (R 4) (R 5) H) [(0, (fun R H => s58_j0 G N (R 4) H))] (rC Try.f58) R H = s58_b1 G N L1 (R 0) (R 4) (R 5) H := by
  refine via_trans (via_leaf _) fun R H => ?_
  delta s58_b1
  generalize s58_j0 G N = J0
  revert J0
  refine id ?_
  intro J0
  kernel_rfl
def s58 (G : CallT) (N : Nat) (x0 : AV) (H : AHeap) : O :=
 s58_l1 G N N x0 (.int .i64 0) (.int .i64 0) H
theorem s58_eq (G : CallT) (N : Nat) (x0 : AV) (H : AHeap) : cF Try.f58 G N (argsF [x0]) H = s58 G N x0 H := by
  refine via_top (A := cF Try.f58 G N) ((via_seq (by kernel_rfl) ((via_seq (by kernel_rfl) ((via_seq (by kernel_rfl) (s58_j0_eq G N) ((via_seq (by kernel_rfl) ((via_block (by kernel_rfl) ((via_loop (k := fun m R H => s58_l1 G N m (R 0) (R 4) (R 5) H) (by kernel_rfl) (fun R H => by kernel_rfl) (fun m => s58_b1_eq G N (s58_l1 G N m)))))) (via_leaf _))))) (via_leaf _))) (via_leaf _))) ?_
  delta s58
  generalize s58_l1 G N N = J0
  revert J0
  refine id ?_
  intro J0
  kernel_rfl
theorem run58 (N : Nat) {x0 : AV} {H : AHeap} {r : AV × AHeap} (h : s58 (evw P) N x0 H = some r) : evw P 58 [x0] H = some r :=
  runF Try.func58 (by kernel_rfl) (by kernel_rfl) (by kernel_rfl) ((s58_eq (evw P) N x0 H).trans h)
def s59_j1 (G : CallT) (N : Nat) (H : AHeap) : O :=
 some ((.str []), H)
theorem s59_j1_eq (G : CallT) (N : Nat) : ∀ R H, codeC P G N (Code.snd (Code.snd (Code.snd (Code.snd (Code.snd (bodyOf Try.f59)))))) (rC Try.f59) [] (rC Try.f59) R H = s59_j1 G N H := by
  refine via_trans (via_leaf _) fun R H => ?_
  delta s59_j1
  kernel_rfl
def s59_b2 (G : CallT) (N : Nat) (L2 : AV → AV → AV → AV → AHeap → O) (x0 x1 : AV) (x7 x8 : AV) (H : AHeap) : O :=
 xlen P .len [9] [x7] H fun x39 =>
 xb (fbin P .lss 3 false x8 x39) fun x40 =>
 xif (some x40) (xb (aindex P 9 x0 x1) fun x45 =>
 xb (aindex P 9 x7 x8) fun x48 =>
 xb (fbin P .eql 5 false x45 x48) fun x49 =>
 xif (some x49) (xb (fbin P .add 3 true x8 (.int .i64 1)) fun x53 =>
 xb (aslice P 9 x7 (some x8) (some x53) none) fun x54 =>
 some (x54, H)) (xb (fbin P .add 3 true x8 (.int .i64 1)) fun x42 =>
 L2 x0 x1 x7 x42 H)) (s59_j1 G N H)
def s59_l2 (G : CallT) (N : Nat) : Nat → AV → AV → AV → AV → AHeap → O
  | 0, _, _, _, _, _ => none
  | n + 1, x0, x1, x7, x8, H => s59_b2 G N (s59_l2 G N n) x0 x1 x7 x8 H
theorem s59_b2_eq (G : CallT) (N : Nat) (L2 : AV → AV → AV → AV → AHeap → O) : ∀ R H, codeC P G N (Code.fst (Code.fst (Code.snd (Code.fst (Code.snd (Code.snd (Code.snd (Code.snd (bodyOf Try.f59))))))))) (fun R H => L2 (R 0) (R 1) (R 7) (R 8) H) [(2, (fun R H => s59_j1 G N H))] (rC Try.f59) R H = s59_b2 G N L2 (R 0) (R 1) (R 7) (R 8) H := by
  refine via_trans (via_leaf _) fun R H => ?_
  delta s59_b2
  generalize s59_j1 G N = J0
  revert J0
  refine id ?_
  intro J0
  kernel_rfl
def s59_j0 (G : CallT) (N : Nat) (x0 x1 : AV) (H : AHeap) : O :=
 s59_l2 G N N x0 x1 (.str [123, 125, 40, 41, 91, 93, 59, 58, 44, 46, 61, 43, 45, 42, 47, 37, 60, 33]) (.int .i64 0) H
theorem s59_j0_eq (G : CallT) (N : Nat) : ∀ R H, codeC P G N (Code.snd (Code.snd (Code.snd (bodyOf Try.f59)))) (rC Try.f59) [] (rC Try.f59) R H = s59_j0 G N (R 0) (R 1) H := by
  refine via_trans ((via_seq (by kernel_rfl) ((via_seq (by kernel_rfl) (s59_j1_eq G N) ((via_seq (by kernel_rfl) ((via_block (by kernel_rfl) ((via_loop (k := fun m R H => s59_l2 G N m (R 0) (R 1) (R 7) (R 8) H) (by kernel_rfl) (fun R H => by kernel_rfl) (fun m => s59_b2_eq G N (s59_l2 G N m)))))) (via_leaf _))))) (via_leaf _))) fun R H => ?_
  delta s59_j0
  generalize s59_l2 G N N = J0
  revert J0
  refine id ?_
  intro J0
  kernel_rfl
def s59_b3 (G : CallT) (N : Nat) (L3 : AV → AV → AV → AV → AHeap → O) (x0 x1 : AV) (x5 x6 : AV) (H : AHeap) : O :=
 xlen P .len [46] [x5] H fun x12 =>
 xb (fbin P .lss 3 false x6 x12) fun x13 =>
 xif (some x13) (xlen P .len [9] [x0] H fun x17 =>
 xb (fbin P .sub 3 false x17 x1) fun x19 =>
 xb (fbin P .geq 3 true x19 (.int .i64 2)) fun x20 =>
 xg x20 true H (qv x0) fun x22 h1 =>
 xg x20 true h1 (qv x1) fun x23 h2 =>
 xg x20 true h2 (qv x1) fun x24 h3 =>
 xg x20 true h3 (qp (fbin P .add 3 true x24 (.int .i64 2))) fun x25 h4 =>
 xg x20 true h4 (qp (aslice P 9 x22 (some x23) (some x25) none)) fun x26 h5 =>
 xg x20 true h5 (qv x5) fun x27 h6 =>
 xg x20 true h6 (qv x6) fun x28 h7 =>
 xg x20 true h7 (qp (aindexAddr P 46 x27 x28)) fun x29 h8 =>
 xg x20 true h8 (qr (aload P h8 9 x29)) fun x30 h9 =>
 xg x20 true h9 (qp (fbin P .eql 9 false x26 x30)) fun x31 h10 =>
 xb (pickOf x20 (some x31) (some (.bool false))) fun x32 =>
 xif (some x32) (xb (aindexAddr P 46 x5 x6) fun x35 =>
 xb (aload P h10 9 x35) fun x36 =>
 some (x36, h10)) (xb (fbin P .add 3 true x6 (.int .i64 1)) fun x15 =>
 L3 x0 x1 x5 x15 h10)) (s59_j0 G N x0 x1 H)
def s59_l3 (G : CallT) (N : Nat) : Nat → AV → AV → AV → AV → AHeap → O
  | 0, _, _, _, _, _ => none
  | n + 1, x0, x1, x5, x6, H => s59_b3 G N (s59_l3 G N n) x0 x1 x5 x6 H
theorem s59_b3_eq (G : CallT) (N : Nat) (L3 : AV → AV → AV → AV → AHeap → O) : ∀ R H, codeC P G N (Code.fst (Code.fst (Code.snd (Code.fst (Code.snd (Code.snd (bodyOf Try.f59))))))) (fun R H => L3 (R 0) (R 1) (R 5) (R 6) H) [(0, (fun R H => s59_j0 G N (R 0) (R 1) H))] (rC Try.f59) R H = s59_b3 G N L3 (R 0) (R 1) (R 5) (R 6) H := by
  refine via_trans (via_leaf _) fun R H => ?_
  delta s59_b3
  generalize s59_j0 G N = J0
  revert J0
  refine id ?_
  intro J0
  kernel_rfl
def s59_35 (G : CallT) (N : Nat) (x0 x1 x9 : AV) (h1 : AHeap) : O :=
 s59_l3 G N N x0 x1 x9 (.int .i64 0) h1
def s59 (G : CallT) (N : Nat) (x0 x1 : AV) (H : AHeap) : O :=
 xmake H (some (.sl (H).next 0 5 1 (some 5), .row false 1 [[(.str [60, 61])], [(.str [61, 61])], [(.str [33, 61])], [(.str [38, 38])], [(.str [124, 124])]])) (s59_35 G N x0 x1)
theorem s59_eq (G : CallT) (N : Nat) (x0 : AV) (x1 : AV) (H : AHeap) : cF Try.f59 G N (argsF [x0, x1]) H = s59 G N x0 x1 H := by
  refine via_top (A := cF Try.f59 G N) ((via_seq (by kernel_rfl) ((via_seq (by kernel_rfl) ((via_seq (by kernel_rfl) (s59_j0_eq G N) ((via_seq (by kernel_rfl) ((via_block (by kernel_rfl) ((via_loop (k := fun m R H => s59_l3 G N m (R 0) (R 1) (R 5) (R 6) H) (by kernel_rfl) (fun R H => by kernel_rfl) (fun m => s59_b3_eq G N (s59_l3 G N m)))))) (via_leaf _))))) (via_leaf _))) (via_leaf _))) ?_
  delta s59 s59_35
  generalize s59_l3 G N N = J0
  revert J0
  refine id ?_
  intro J0
  kernel_rfl
theorem run59 (N : Nat) {x0 x1 : AV} {H : AHeap} {r : AV × AHeap} (h : s59 (evw P) N x0 x1 H = some r) : evw P 59 [x0, x1] H = some r :=
  runF Try.func59 (by kernel_rfl) (by kernel_rfl) (by kernel_rfl) ((s59_eq (evw P) N x0 x1 H).trans h)
def s79_0 (x1 : AV) (h1 : AHeap) : O :=
 some (x1, h1)
def s79 (G : CallT) (H : AHeap) : O :=
 xmake H (some (.sl (H).next 0 18 1 (some 18), .row false 1 [[(.str [114, 101, 99, 111, 114, 100])], [(.str [103, 108, 111, 98, 97, 108])], [(.str [102, 117, 110, 99])], [(.str [118, 97, 114])], [(.str [108, 101, 116])], [(.str [105, 102])], [(.str [101, 108, 115, 101])], [(.str [119, 104, 105, 108, 101])], [(.str [114, 101, 116, 117, 114, 110])], [(.str [112, 114, 105, 110, 116])], [(.str [110, 117, 108, 108])], [(.str [110, 101, 119])], [(.str [108, 101, 110])], [(.str [114, 101, 97, 100])], [(.str [116, 114, 117, 101])], [(.str [102, 97, 108, 115, 101])], [(.str [105, 110, 116])], [(.str [98, 111, 111, 108])]])) (s79_0)
theorem s79_eq (G : CallT) (N : Nat) (H : AHeap) : cF Try.f79 G N (argsF []) H = s79 G H := by
  refine via_top (A := cF Try.f79 G N) (via_leaf _) ?_
  delta s79 s79_0
  kernel_rfl
theorem run79 (N : Nat) {H : AHeap} {r : AV × AHeap} (h : s79 (evw P) H = some r) : evw P 79 [] H = some r :=
  runF Try.func79 (by kernel_rfl) (by kernel_rfl) (by kernel_rfl) ((s79_eq (evw P) N H).trans h)
end
end Go.Proofs.Ytnjoomfeddamcaa

namespace Go.Proofs.Ytnjoomfeddamcaa
open Go.Ev
set_option maxRecDepth 100000
noncomputable section
def s7_j0 (G : CallT) (N : Nat) (x0 x2 : AV) (x7 x9 x10 : AV) (H : AHeap) : O :=
 xb (fbin P .add 9 false x9 x10) fun x62 =>
 xcall H (G 15 [x62] H) fun x63 h1 =>
 xb (aextract x63 0) fun x64 =>
 xb (aextract x63 1) fun x65 =>
 xalloc h1 [(.int .i64 0), (.int .i64 0)] fun x13 h2 =>
 xstore h2 (astore P h2 25 x13 x65) fun h3 =>
 xcall h3 (G 21 [x64, (.int .i64 0), x2] h3) fun x69 h4 =>
 xb (aextract x69 0) fun x70 =>
 xb (aextract x69 1) fun x71 =>
 xb (aextract x69 2) fun x72 =>
 xalloc h4 [(.int .i64 0), (.int .i64 0), (.str []), (.str []), (.int .i64 0), AV.nilSl, (.int .i64 0), (.int .i64 0), (.int .i64 0), (.int .i64 0), (.int .i64 0)] fun x14 h5 =>
 xalloc h5 [(.int .i64 0), (.int .i64 0)] fun x16 h6 =>
 xstore h6 (astore P h6 39 x14 x70) fun h7 =>
 xstore h7 (astore P h7 25 x16 x72) fun h8 =>
 xb (fbin P .eql 3 true x0 (.int .i64 0)) fun x74 =>
 xg x74 false h8 (qv x0) fun x76 h9 =>
 xg x74 false h9 (qv x2) fun x77 h10 =>
 xg x74 false h10 (qp (fbin P .add 3 false x76 x77)) fun x78 h11 =>
 xg x74 false h11 (qp (fbin P .leq 3 true x78 (.int .i64 50))) fun x79 h12 =>
 xb (pickOf x74 (some (.bool true)) (some x79)) fun x80 =>
 xif (some x80) (xb (afieldAddr P 25 x16 0) fun x81 =>
 xb (aload P h12 23 x81) fun x82 =>
 xb (fbin P .eql 23 true x82 (.int .i64 0)) fun x83 =>
 xg x83 true h12 (qv x71) fun x85 h13 =>
 xg x83 true h13 (qv x64) fun x86 h14 =>
 xg x83 true h14 (fun q => xboth (abuiltin P .empty .len [22] [x86]) (abuiltin P h14 .len [22] [x86]) q) fun x87 h15 =>
 xg x83 true h15 (qp (fbin P .sub 3 true x87 (.int .i64 1))) fun x88 h16 =>
 xg x83 true h16 (qp (fbin P .eql 3 false x85 x88)) fun x89 h17 =>
 xb (pickOf x83 (some x89) (some (.bool false))) fun x90 =>
 xg x90 true h17 (fun q => xeff h17 (G 17 [] h17) q) fun x92 h18 =>
 xb (pickOf x90 (some x92) (some (.bool false))) fun x93 =>
 some (x93, h18)) (xb (fbin P .sub 3 true (.int .i64 50) x2) fun x95 =>
 xlen P .max [3, 3] [x95, (.int .i64 0)] h12 fun x96 =>
 xb (aload P h12 25 x16) fun x97 =>
 xlen P .len [9] [x7] h12 fun x100 =>
 xb (fbin P .mul 3 false x96 x100) fun x101 =>
 xlen P .len [9] [x7] h12 fun x103 =>
 xb (fbin P .add 3 false x101 x103) fun x104 =>
 xb (fbin P .sub 3 true x104 (.int .i64 1)) fun x105 =>
 xb (abuild P 25 [(0, (.int .i64 4)), (1, x105)]) fun x106 =>
 xb (fbin P .eql 25 false x97 x106) fun x107 =>
 xg x107 true h12 (qv x71) fun x109 h13 =>
 xg x107 true h13 (qp (fbin P .eql 3 true x109 (.int .i64 0))) fun x110 h14 =>
 xb (pickOf x107 (some x110) (some (.bool false))) fun x111 =>
 xg x111 true h14 (fun q => xeff h14 (G 17 [] h14) q) fun x113 h15 =>
 xb (pickOf x111 (some x113) (some (.bool false))) fun x114 =>
 some (x114, h15))
theorem s7_j0_eq (G : CallT) (N : Nat) : ∀ R H, codeC P G N (Code.snd (Code.snd (Code.snd (Code.snd (Code.snd (bodyOf Try.f7)))))) (rC Try.f7) [] (rC Try.f7) R H = s7_j0 G N (R 0) (R 2) (R 7) (R 9) (R 10) H := by
  refine via_trans (via_leaf _) fun R H => ?_
  delta s7_j0
  kernel_rfl
def s7_49 (L1 : AV → AV → AV → AV → AV → AV → AV → AHeap → O) (x0 x2 : AV) (x7 x8 : AV) (x55 x58 : AV) (H : AHeap) (x52 : AV) : O :=
 L1 x0 x2 x7 x8 x55 x58 x52 H
def s7_50 (L1 : AV → AV → AV → AV → AV → AV → AV → AHeap → O) (x11 x0 : AV) (x2 x7 : AV) (x8 x55 : AV) (H : AHeap) (x58 : AV) : O :=
 xb (fbin P .add 3 true x11 (.int .i64 1)) (s7_49 L1 x0 x2 x7 x8 x55 x58 H)
def s7_51 (L1 : AV → AV → AV → AV → AV → AV → AV → AHeap → O) (x10 x8 : AV) (x11 x0 : AV) (x2 x7 : AV) (H : AHeap) (x55 : AV) : O :=
 xb (fbin P .add 9 false x10 x8) (s7_50 L1 x11 x0 x2 x7 x8 x55 H)
def s7_52 (L1 : AV → AV → AV → AV → AV → AV → AV → AHeap → O) (x9 x7 : AV) (x10 x8 : AV) (x11 x0 x2 : AV) (H : AHeap) : O :=
 xb (fbin P .add 9 false x9 x7) (s7_51 L1 x10 x8 x11 x0 x2 x7 H)
def s7_53 (G : CallT) (N : Nat) (x0 x2 : AV) (x7 x9 x10 : AV) (H : AHeap) : O :=
 s7_j0 G N x0 x2 x7 x9 x10 H
def s7_54 (G : CallT) (N : Nat) (L1 : AV → AV → AV → AV → AV → AV → AV → AHeap → O) (x9 x7 : AV) (x10 x8 : AV) (x11 x0 x2 : AV) (H : AHeap) (x50 : AV) : O :=
 xif (some x50) (s7_52 L1 x9 x7 x10 x8 x11 x0 x2 H) (s7_53 G N x0 x2 x7 x9 x10 H)
def s7_b1 (G : CallT) (N : Nat) (L1 : AV → AV → AV → AV → AV → AV → AV → AHeap → O) (x0 x2 : AV) (x7 x8 : AV) (x9 x10 x11 : AV) (H : AHeap) : O :=
 xb (fbin P .lss 3 false x11 x0) (s7_54 G N L1 x9 x7 x10 x8 x11 x0 x2 H)
def s7_l1 (G : CallT) (N : Nat) : Nat → AV → AV → AV → AV → AV → AV → AV → AHeap → O
  | 0, _, _, _, _, _, _, _, _ => none
  | n + 1, x0, x2, x7, x8, x9, x10, x11, H => s7_b1 G N (s7_l1 G N n) x0 x2 x7 x8 x9 x10 x11 H
theorem s7_b1_eq (G : CallT) (N : Nat) (L1 : AV → AV → AV → AV → AV → AV → AV → AHeap → O) : ∀ R H, codeC P G N (Code.fst (Code.fst (Code.snd (Code.fst (Code.snd (Code.snd (Code.snd (Code.snd (bodyOf Try.f7))))))))) (fun R H => L1 (R 0) (R 2) (R 7) (R 8) (R 9) (R 10) (R 11) H) [(0, (fun R H => s7_j0 G N (R 0) (R 2) (R 7) (R 9) (R 10) H))] (rC Try.f7) R H = s7_b1 G N L1 (R 0) (R 2) (R 7) (R 8) (R 9) (R 10) (R 11) H := by
  refine via_trans (via_leaf _) fun R H => ?_
  delta s7_b1 s7_54 s7_53 s7_52 s7_51 s7_50 s7_49
  generalize s7_j0 G N = J0
  revert J0
  refine id ?_
  intro J0
  kernel_rfl
def s7 (G : CallT) (N : Nat) (x0 x1 x2 : AV) (H : AHeap) : O :=
 xb (fbin P .lss 3 true x0 (.int .i64 0)) fun x19 =>
 xg x19 false H (qv x0) fun x21 h1 =>
 xg x19 false h1 (qp (fbin P .gtr 3 true x21 (.int .i64 60))) fun x22 h2 =>
 xb (pickOf x19 (some (.bool true)) (some x22)) fun x23 =>
 xg x23 false h2 (qv x1) fun x25 h3 =>
 xg x23 false h3 (qp (fbin P .lss 3 true x25 (.int .i64 0))) fun x26 h4 =>
 xb (pickOf x23 (some (.bool true)) (some x26)) fun x27 =>
 xg x27 false h4 (qv x1) fun x29 h5 =>
 xg x27 false h5 (qp (fbin P .gtr 3 true x29 (.int .i64 3))) fun x30 h6 =>
 xb (pickOf x27 (some (.bool true)) (some x30)) fun x31 =>
 xg x31 false h6 (qv x2) fun x33 h7 =>
 xg x31 false h7 (qp (fbin P .lss 3 true x33 (.int .i64 0))) fun x34 h8 =>
 xb (pickOf x31 (some (.bool true)) (some x34)) fun x35 =>
 xg x35 false h8 (qv x2) fun x37 h9 =>
 xg x35 false h9 (qp (fbin P .gtr 3 true x37 (.int .i64 60))) fun x38 h10 =>
 xb (pickOf x35 (some (.bool true)) (some x38)) fun x39 =>
 xif (some x39) (some ((.bool true), h10)) (xmake h10 (some (.sl (h10).next 0 4 1 (some 4), .row false 1 [[(.str [45])], [(.str [40])], [(.str [102, 40])], [(.str [120, 91])]])) fun x40 h11 =>
 xb (aindexAddr P 46 x40 x1) fun x42 =>
 xb (aload P h11 9 x42) fun x43 =>
 xmake h11 (some (.sl (h11).next 0 4 1 (some 4), .row false 1 [[(.str [])], [(.str [41])], [(.str [41])], [(.str [93])]])) fun x44 h12 =>
 xb (aindexAddr P 46 x44 x1) fun x46 =>
 xb (aload P h12 9 x46) fun x47 =>
 bif ((rdIs (aload P h11 9 x42) x43 && rdIs (aload P h12 9 x42) x43) && (((rdIs (aload P h10 9 x46) x47 && rdIs (aload P h12 9 x46) x47) || (rdIs (aload P (AHeap.only h12) 9 x46) x47 || false)) && true)) then (s7_l1 G N N x0 x2 x43 x47 (.str []) (.str [49]) (.int .i64 0) h12) else none)
theorem s7_eq (G : CallT) (N : Nat) (x0 : AV) (x1 : AV) (x2 : AV) (H : AHeap) : cF Try.f7 G N (argsF [x0, x1, x2]) H = s7 G N x0 x1 x2 H := by
  refine via_top (A := cF Try.f7 G N) ((via_seq (by kernel_rfl) ((via_seq (by kernel_rfl) ((via_seq (by kernel_rfl) ((via_seq (by kernel_rfl) ((via_seq (by kernel_rfl) (s7_j0_eq G N) ((via_seq (by kernel_rfl) ((via_block (by kernel_rfl) ((via_loop (k := fun m R H => s7_l1 G N m (R 0) (R 2) (R 7) (R 8) (R 9) (R 10) (R 11) H) (by kernel_rfl) (fun R H => by kernel_rfl) (fun m => s7_b1_eq G N (s7_l1 G N m)))))) (via_leaf _))))) (via_leaf _))) (via_leaf _))) (via_leaf _))) (via_leaf _))) ?_
  delta s7
  generalize s7_l1 G N N = J0
  revert J0
  refine id ?_
  intro J0
  kernel_rfl
theorem run7 (N : Nat) {x0 x1 x2 : AV} {H : AHeap} {r : AV × AHeap} (h : s7 (evw P) N x0 x1 x2 H = some r) : evw P 7 [x0, x1, x2] H = some r :=
  runF Try.func7 (by kernel_rfl) (by kernel_rfl) (by kernel_rfl) ((s7_eq (evw P) N x0 x1 x2 H).trans h)
def s5_j0 (G : CallT) (N : Nat) (x1 x7 : AV) (x12 x13 : AV) (H : AHeap) : O :=
 xcall H (G 15 [x13] H) fun x76 h1 =>
 xb (aextract x76 0) fun x77 =>
 xb (aextract x76 1) fun x78 =>
 xalloc h1 [(.int .i64 0), (.int .i64 0)] fun x16 h2 =>
 xstore h2 (astore P h2 25 x16 x78) fun h3 =>
 xcall h3 (G 21 [x77, (.int .i64 0), (.int .i64 0)] h3) fun x81 h4 =>
 xb (aextract x81 0) fun x82 =>
 xb (aextract x81 1) fun x83 =>
 xb (aextract x81 2) fun x84 =>
 xalloc h4 [(.int .i64 0), (.int .i64 0), (.str []), (.str []), (.int .i64 0), AV.nilSl, (.int .i64 0), (.int .i64 0), (.int .i64 0), (.int .i64 0), (.int .i64 0)] fun x17 h5 =>
 xalloc h5 [(.int .i64 0), (.int .i64 0)] fun x19 h6 =>
 xstore h6 (astore P h6 39 x17 x82) fun h7 =>
 xstore h7 (astore P h7 25 x19 x84) fun h8 =>
 xb (fbin P .gtr 3 true x1 (.int .i64 50)) fun x86 =>
 xg x86 false h8 (qp (afieldAddr P 25 x12 0)) fun x88 h9 =>
 xg x86 false h9 (qr (aload P h9 23 x88)) fun x89 h10 =>
 xg x86 false h10 (qp (fbin P .neq 23 true x89 (.int .i64 0))) fun x90 h11 =>
 xb (pickOf x86 (some (.bool true)) (some x90)) fun x91 =>
 xif (some x91) (xb (afieldAddr P 25 x19 0) fun x92 =>
 xb (aload P h11 23 x92) fun x93 =>
 xb (fbin P .eql 23 true x93 (.int .i64 4)) fun x94 =>
 xg x94 true h11 (qv x83) fun x96 h12 =>
 xg x94 true h12 (qp (fbin P .eql 3 true x96 (.int .i64 0))) fun x97 h13 =>
 xb (pickOf x94 (some x97) (some (.bool false))) fun x98 =>
 xg x98 true h13 (fun q => xeff h13 (G 17 [] h13) q) fun x100 h14 =>
 xb (pickOf x98 (some x100) (some (.bool false))) fun x101 =>
 some (x101, h14)) (xb (afieldAddr P 25 x19 0) fun x102 =>
 xb (aload P h11 23 x102) fun x103 =>
 xb (fbin P .eql 23 true x103 (.int .i64 0)) fun x104 =>
 xg x104 true h11 (qv x83) fun x106 h12 =>
 xg x104 true h12 (qv x77) fun x107 h13 =>
 xg x104 true h13 (fun q => xboth (abuiltin P .empty .len [22] [x107]) (abuiltin P h13 .len [22] [x107]) q) fun x108 h14 =>
 xg x104 true h14 (qp (fbin P .sub 3 true x108 (.int .i64 1))) fun x109 h15 =>
 xg x104 true h15 (qp (fbin P .eql 3 false x106 x109)) fun x110 h16 =>
 xb (pickOf x104 (some x110) (some (.bool false))) fun x111 =>
 xg x111 true h16 (qr (aload P h16 39 x17)) fun x113 h17 =>
 xg x111 true h17 (qr (aload P h17 39 x7)) fun x114 h18 =>
 xg x111 true h18 (fun q => xeff h18 (G 22 [x113, x114] h18) q) fun x115 h19 =>
 xb (pickOf x111 (some x115) (some (.bool false))) fun x116 =>
 xg x116 true h19 (fun q => xeff h19 (G 17 [] h19) q) fun x118 h20 =>
 xb (pickOf x116 (some x118) (some (.bool false))) fun x119 =>
 some (x119, h20))
theorem s5_j0_eq (G : CallT) (N : Nat) : ∀ R H, codeC P G N (Code.snd (Code.snd (Code.snd (Code.snd (Code.snd (Code.snd (Code.snd (Code.snd (bodyOf Try.f5))))))))) (rC Try.f5) [] (rC Try.f5) R H = s5_j0 G N (R 1) (R 7) (R 12) (R 13) H := by
  refine via_trans (via_leaf _) fun R H => ?_
  delta s5_j0
  kernel_rfl
def s5_b1 (G : CallT) (N : Nat) (L1 : AV → AV → AV → AV → AV → AHeap → O) (x1 x7 : AV) (x12 x13 x14 : AV) (H : AHeap) : O :=
 xb (fbin P .lss 3 false x14 x1) fun x68 =>
 xif (some x68) (xb (fbin P .add 9 true (.str [40]) x13) fun x72 =>
 xb (fbin P .add 9 true x72 (.str [10, 41])) fun x73 =>
 xb (fbin P .add 3 true x14 (.int .i64 1)) fun x70 =>
 L1 x1 x7 x12 x73 x70 H) (s5_j0 G N x1 x7 x12 x13 H)
def s5_l1 (G : CallT) (N : Nat) : Nat → AV → AV → AV → AV → AV → AHeap → O
  | 0, _, _, _, _, _, _ => none
  | n + 1, x1, x7, x12, x13, x14, H => s5_b1 G N (s5_l1 G N n) x1 x7 x12 x13 x14 H
theorem s5_b1_eq (G : CallT) (N : Nat) (L1 : AV → AV → AV → AV → AV → AHeap → O) : ∀ R H, codeC P G N (Code.fst (Code.fst (Code.snd (Code.fst (Code.snd (Code.snd (Code.snd (Code.snd (Code.snd (Code.snd (Code.snd (bodyOf Try.f5)))))))))))) (fun R H => L1 (R 1) (R 7) (R 12) (R 13) (R 14) H) [(0, (fun R H => s5_j0 G N (R 1) (R 7) (R 12) (R 13) H))] (rC Try.f5) R H = s5_b1 G N L1 (R 1) (R 7) (R 12) (R 13) (R 14) H := by
  refine via_trans (via_leaf _) fun R H => ?_
  delta s5_b1
  generalize s5_j0 G N = J0
  revert J0
  refine id ?_
  intro J0
  kernel_rfl
def s5 (G : CallT) (N : Nat) (x0 x1 : AV) (H : AHeap) : O :=
 xcall H (G 15 [x0] H) fun x22 h1 =>
 xb (aextract x22 0) fun x23 =>
 xb (aextract x22 1) fun x24 =>
 xalloc h1 [(.int .i64 0), (.int .i64 0)] fun x6 h2 =>
 xstore h2 (astore P h2 25 x6 x24) fun h3 =>
 xlen P .len [9] [x0] h3 fun x26 =>
 xb (fbin P .gtr 3 true x26 (.int .i64 500)) fun x27 =>
 xg x27 false h3 (qp (afieldAddr P 25 x6 0)) fun x29 h4 =>
 xg x27 false h4 (qr (aload P h4 23 x29)) fun x30 h5 =>
 xg x27 false h5 (qp (fbin P .neq 23 true x30 (.int .i64 0))) fun x31 h6 =>
 xb (pickOf x27 (some (.bool true)) (some x31)) fun x32 =>
 xg x32 false h6 (qv x1) fun x34 h7 =>
 xg x32 false h7 (qp (fbin P .lss 3 true x34 (.int .i64 0))) fun x35 h8 =>
 xb (pickOf x32 (some (.bool true)) (some x35)) fun x36 =>
 xg x36 false h8 (qv x1) fun x38 h9 =>
 xg x36 false h9 (qp (fbin P .gtr 3 true x38 (.int .i64 60))) fun x39 h10 =>
 xb (pickOf x36 (some (.bool true)) (some x39)) fun x40 =>
 xif (some x40) (some ((.bool true), h10)) (xcall h10 (G 20 [x23, (.int .i64 0), (.int .i64 0)] h10) fun x43 h11 =>
 xb (aextract x43 0) fun x44 =>
 xb (aextract x43 1) fun x45 =>
 xb (aextract x43 2) fun x46 =>
 xalloc h11 [(.int .i64 0), (.int .i64 0), (.str []), (.str []), (.int .i64 0), AV.nilSl, (.int .i64 0), (.int .i64 0), (.int .i64 0), (.int .i64 0), (.int .i64 0)] fun x7 h12 =>
 xalloc h12 [(.int .i64 0), (.int .i64 0)] fun x9 h13 =>
 xstore h13 (astore P h13 39 x7 x44) fun h14 =>
 xstore h14 (astore P h14 25 x9 x46) fun h15 =>
 xb (afieldAddr P 25 x9 0) fun x47 =>
 xb (aload P h15 23 x47) fun x48 =>
 xb (fbin P .neq 23 true x48 (.int .i64 0)) fun x49 =>
 xg x49 false h15 (qv x45) fun x51 h16 =>
 xg x49 false h16 (qv x23) fun x52 h17 =>
 xg x49 false h17 (fun q => xboth (abuiltin P .empty .len [22] [x52]) (abuiltin P h17 .len [22] [x52]) q) fun x53 h18 =>
 xg x49 false h18 (qp (fbin P .sub 3 true x53 (.int .i64 1))) fun x54 h19 =>
 xg x49 false h19 (qp (fbin P .neq 3 false x51 x54)) fun x55 h20 =>
 xb (pickOf x49 (some (.bool true)) (some x55)) fun x56 =>
 xif (some x56) (xcall h20 (G 17 [] h20) fun x57 h21 =>
 some (x57, h21)) (xcall h20 (G 20 [x23, (.int .i64 0), x1] h20) fun x61 h21 =>
 xb (aextract x61 0) fun x62 =>
 xb (aextract x61 1) fun x63 =>
 xb (aextract x61 2) fun x64 =>
 xalloc h21 [(.int .i64 0), (.int .i64 0), (.str []), (.str []), (.int .i64 0), AV.nilSl, (.int .i64 0), (.int .i64 0), (.int .i64 0), (.int .i64 0), (.int .i64 0)] fun x10 h22 =>
 xalloc h22 [(.int .i64 0), (.int .i64 0)] fun x12 h23 =>
 xstore h23 (astore P h23 39 x10 x62) fun h24 =>
 xstore h24 (astore P h24 25 x12 x64) fun h25 =>
 s5_l1 G N N x1 x7 x12 x0 (.int .i64 0) h25))
theorem s5_eq (G : CallT) (N : Nat) (x0 : AV) (x1 : AV) (H : AHeap) : cF Try.f5 G N (argsF [x0, x1]) H = s5 G N x0 x1 H := by
  refine via_top (A := cF Try.f5 G N) ((via_seq (by kernel_rfl) ((via_seq (by kernel_rfl) ((via_seq (by kernel_rfl) ((via_seq (by kernel_rfl) ((via_seq (by kernel_rfl) ((via_seq (by kernel_rfl) ((via_seq (by kernel_rfl) ((via_seq (by kernel_rfl) (s5_j0_eq G N) ((via_seq (by kernel_rfl) ((via_block (by kernel_rfl) ((via_loop (k := fun m R H => s5_l1 G N m (R 1) (R 7) (R 12) (R 13) (R 14) H) (by kernel_rfl) (fun R H => by kernel_rfl) (fun m => s5_b1_eq G N (s5_l1 G N m)))))) (via_leaf _))))) (via_leaf _))) (via_leaf _))) (via_leaf _))) (via_leaf _))) (via_leaf _))) (via_leaf _))) (via_leaf _))) ?_
  delta s5
  generalize s5_l1 G N N = J0
  revert J0
  refine id ?_
  intro J0
  kernel_rfl
theorem run5 (N : Nat) {x0 x1 : AV} {H : AHeap} {r : AV × AHeap} (h : s5 (evw P) N x0 x1 H = some r) : evw P 5 [x0, x1] H = some r :=
  runF Try.func5 (by kernel_rfl) (by kernel_rfl) (by kernel_rfl) ((s5_eq (evw P) N x0 x1 H).trans h)
end
end Go.Proofs.Ytnjoomfeddamcaa


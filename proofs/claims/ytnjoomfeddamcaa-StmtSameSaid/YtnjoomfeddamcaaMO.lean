/-
  Texts of one proof, laid together: ShA Lx L1 L2 L3 L4 Lz.
-/
import Derived.Test.YtnjoomfeddamcaaMD
import Derived.Test.YtnjoomfeddamcaaMF
set_option linter.unusedVariables false
set_option linter.unusedSimpArgs false
namespace Go.Proofs.Ytnjoomfeddamcaa
open Go.Ev
set_option maxRecDepth 100000
noncomputable section
def s15_j0 (G : CallT) (N : Nat) (x0 x3 x4 : AV) (H : AHeap) : O :=
 xlen P .len [9] [x0] H fun x39 =>
 xb (abuild P 65 [(0, (.int .i64 0)), (3, x39)]) fun x40 =>
 xmake H (sliceOf P (H).next 22 1 [(0, x40)]) fun x41 h1 =>
 xcall h1 (aappend P h1 [22, 22] x4 x41) fun x42 h2 =>
 xstore h2 (astore P h2 25 x3 (.agg [(.int .i64 0), (.int .i64 0)])) fun h3 =>
 xb (aload P h3 25 x3) fun r =>
 some (.tuple [x42, r], h3)
theorem s15_j0_eq (G : CallT) (N : Nat) : ∀ R H, codeC P G N (Code.snd (Code.snd (Code.snd (Code.snd (Code.snd (bodyOf Try.f15)))))) (rC Try.f15) [] (rC Try.f15) R H = s15_j0 G N (R 0) (R 3) (R 4) H := by
 refine via_trans (via_leaf _) fun R H => ?_
 delta s15_j0
 kernel_rfl
def s15_13 (L1 : AV → AV → AV → AV → AHeap → O) (x0 x3 : AV) (x31 x36 : AV) (h6 : AHeap) : O :=
 L1 x0 x3 x31 x36 h6
def s15_b1 (G : CallT) (N : Nat) (L1 : AV → AV → AV → AV → AHeap → O) (x0 x3 : AV) (x4 x5 : AV) (H : AHeap) : O :=
 xlen P .len [9] [x0] H fun x16 =>
 xb (fbin P .lss 3 false x5 x16) fun x17 =>
 xif (some x17) (xcall H (G 33 [x0, x5] H) fun x21 h1 =>
 xb (aextract x21 0) fun x22 =>
 xb (aextract x21 1) fun x23 =>
 xalloc h1 [(.int .i64 0), (.str []), (.int .i64 0), (.int .i64 0)] fun x6 h2 =>
 xstore h2 (astore P h2 65 x6 x22) fun h3 =>
 xb (fbin P .eql 3 true x23 (.int .i64 0)) fun x25 =>
 xif (some x25) (xb (abuild P 25 [(0, (.int .i64 1)), (1, x5)]) fun x27 =>
 xstore h3 (astore P h3 25 x3 x27) fun h4 =>
 xb (aload P h4 25 x3) fun r =>
 some (.tuple [AV.nilSl, r], h4)) (xb (aload P h3 65 x6) fun x29 =>
 xmake h3 (sliceOf P (h3).next 22 1 [(0, x29)]) fun x30 h4 =>
 xcall h4 (aappend P h4 [22, 22] x4 x30) fun x31 h5 =>
 xb (fbin P .add 3 false x5 x23) fun x35 =>
 xcall h5 (G 32 [x0, x35] h5) (s15_13 L1 x0 x3 x31))) (s15_j0 G N x0 x3 x4 H)
def s15_l1 (G : CallT) (N : Nat) : Nat → AV → AV → AV → AV → AHeap → O
 | 0, _, _, _, _, _ => none
 | n + 1, x0, x3, x4, x5, H => s15_b1 G N (s15_l1 G N n) x0 x3 x4 x5 H
theorem s15_b1_eq (G : CallT) (N : Nat) (L1 : AV → AV → AV → AV → AHeap → O) : ∀ R H, codeC P G N (Code.fst (Code.fst (Code.fst (Code.snd (Code.snd (Code.snd (Code.snd (bodyOf Try.f15)))))))) (fun R H => L1 (R 0) (R 3) (R 4) (R 5) H) [(0, (fun R H => s15_j0 G N (R 0) (R 3) (R 4) H))] (rC Try.f15) R H = s15_b1 G N L1 (R 0) (R 3) (R 4) (R 5) H := by
 refine via_trans (via_leaf _) fun R H => ?_
 delta s15_b1 s15_13
 generalize s15_j0 G N = J0
 revert J0
 refine id ?_
 intro J0
 kernel_rfl
def s15_29 (G : CallT) (N : Nat) (x0 x3 x13 : AV) (h2 : AHeap) : O :=
 s15_l1 G N N x0 x3 AV.nilSl x13 h2
def s15 (G : CallT) (N : Nat) (x0 : AV) (H : AHeap) : O :=
 xalloc H [(.int .i64 0), (.int .i64 0)] fun x3 h1 =>
 xlen P .len [9] [x0] h1 fun x9 =>
 xb (fbin P .gtr 3 true x9 (.int .i64 6000)) fun x10 =>
 xif (some x10) (xstore h1 (astore P h1 25 x3 (.agg [(.int .i64 4), (.int .i64 0)])) fun h2 =>
 xb (aload P h2 25 x3) fun r =>
 some (.tuple [AV.nilSl, r], h2)) (xcall h1 (G 32 [x0, (.int .i64 0)] h1) (s15_29 G N x0 x3))
theorem s15_eq (G : CallT) (N : Nat) (x0 : AV) (H : AHeap) : cF Try.f15 G N (argsF [x0]) H = s15 G N x0 H := by
 refine via_top (A := cF Try.f15 G N) ((via_seq (by kernel_rfl) ((via_seq (by kernel_rfl) ((via_seq (by kernel_rfl) ((via_seq (by kernel_rfl) ((via_seq (by kernel_rfl) (s15_j0_eq G N) ((via_block (by kernel_rfl) ((via_loop (k := fun m R H => s15_l1 G N m (R 0) (R 3) (R 4) (R 5) H) (by kernel_rfl) (fun R H => by kernel_rfl) (fun m => s15_b1_eq G N (s15_l1 G N m)))))))) (via_leaf _))) (via_leaf _))) (via_leaf _))) (via_leaf _))) ?_
 delta s15 s15_29
 generalize s15_l1 G N N = J0
 revert J0
 refine id ?_
 intro J0
 kernel_rfl
theorem run15 (N : Nat) {x0 : AV} {H : AHeap} {r : AV × AHeap} (h : s15 (evw P) N x0 H = some r) : evw P 15 [x0] H = some r :=
 runF Try.func15 (by kernel_rfl) (by kernel_rfl) (by kernel_rfl) ((s15_eq (evw P) N x0 H).trans h)
def s32_j0 (G : CallT) (N : Nat) (x1 : AV) (H : AHeap) : O :=
 some (x1, H)
theorem s32_j0_eq (G : CallT) (N : Nat) : ∀ R H, codeC P G N (Code.snd (Code.snd (bodyOf Try.f32))) (rC Try.f32) [] (rC Try.f32) R H = s32_j0 G N (R 1) H := by
 refine via_trans (via_leaf _) fun R H => ?_
 delta s32_j0
 kernel_rfl
def s32_b2 (G : CallT) (N : Nat) (L1 : AV → AV → AHeap → O) (L2 : AV → AV → AHeap → O) (x0 x1 : AV) (H : AHeap) : O :=
 xlen P .len [9] [x0] H fun x51 =>
 xb (fbin P .lss 3 false x1 x51) fun x52 =>
 xg x52 true H (qv x0) fun x54 h1 =>
 xg x52 true h1 (qv x1) fun x55 h2 =>
 xg x52 true h2 (qp (aindex P 9 x54 x55)) fun x56 h3 =>
 xg x52 true h3 (qp (fbin P .neq 5 true x56 (.int .u8 10))) fun x57 h4 =>
 xb (pickOf x52 (some x57) (some (.bool false))) fun x58 =>
 xif (some x58) (xb (fbin P .add 3 true x1 (.int .i64 1)) fun x60 =>
 L2 x0 x60 h4) (L1 x0 x1 h4)
def s32_l2 (G : CallT) (N : Nat) (L1 : AV → AV → AHeap → O) : Nat → AV → AV → AHeap → O
 | 0, _, _, _ => none
 | n + 1, x0, x1, H => s32_b2 G N L1 (s32_l2 G N L1 n) x0 x1 H
theorem s32_b2_eq (G : CallT) (N : Nat) (L1 : AV → AV → AHeap → O) (L2 : AV → AV → AHeap → O) : ∀ R H, codeC P G N (Code.fst (Code.fst (Code.fst (Code.snd (Code.snd (Code.snd (Code.fst (Code.fst (Code.snd (Code.fst (Code.fst (Code.fst (Code.snd (bodyOf Try.f32)))))))))))))) (fun R H => L2 (R 0) (R 1) H) [(3, (fun R H => L1 (R 0) (R 1) H)), (2, (fun R H => L1 (R 0) (R 1) H)), (1, (fun R H => L1 (R 0) (R 1) H)), (0, (fun R H => s32_j0 G N (R 1) H))] (rC Try.f32) R H = s32_b2 G N L1 L2 (R 0) (R 1) H := by
 refine via_trans (via_leaf _) fun R H => ?_
 delta s32_b2
 generalize L1 = J0
 revert J0
 refine id ?_
 intro J0
 kernel_rfl
def s32_b1 (G : CallT) (N : Nat) (L1 : AV → AV → AHeap → O) (x0 x1 : AV) (H : AHeap) : O :=
 xlen P .len [9] [x0] H fun x7 =>
 xb (fbin P .lss 3 false x1 x7) fun x8 =>
 xif (some x8) (xb (aindex P 9 x0 x1) fun x13 =>
 xb (fbin P .eql 5 true x13 (.int .u8 32)) fun x14 =>
 xg x14 false H (qv x0) fun x16 h1 =>
 xg x14 false h1 (qv x1) fun x17 h2 =>
 xg x14 false h2 (qp (aindex P 9 x16 x17)) fun x18 h3 =>
 xg x14 false h3 (qp (fbin P .eql 5 true x18 (.int .u8 9))) fun x19 h4 =>
 xb (pickOf x14 (some (.bool true)) (some x19)) fun x20 =>
 xg x20 false h4 (qv x0) fun x22 h5 =>
 xg x20 false h5 (qv x1) fun x23 h6 =>
 xg x20 false h6 (qp (aindex P 9 x22 x23)) fun x24 h7 =>
 xg x20 false h7 (qp (fbin P .eql 5 true x24 (.int .u8 10))) fun x25 h8 =>
 xb (pickOf x20 (some (.bool true)) (some x25)) fun x26 =>
 xg x26 false h8 (qv x0) fun x28 h9 =>
 xg x26 false h9 (qv x1) fun x29 h10 =>
 xg x26 false h10 (qp (aindex P 9 x28 x29)) fun x30 h11 =>
 xg x26 false h11 (qp (fbin P .eql 5 true x30 (.int .u8 13))) fun x31 h12 =>
 xb (pickOf x26 (some (.bool true)) (some x31)) fun x32 =>
 xif (some x32) (xb (fbin P .add 3 true x1 (.int .i64 1)) fun x34 =>
 L1 x0 x34 h12) (xlen P .len [9] [x0] h12 fun x37 =>
 xb (fbin P .sub 3 false x37 x1) fun x39 =>
 xb (fbin P .geq 3 true x39 (.int .i64 2)) fun x40 =>
 xg x40 true h12 (qv x0) fun x42 h13 =>
 xg x40 true h13 (qv x1) fun x43 h14 =>
 xg x40 true h14 (qv x1) fun x44 h15 =>
 xg x40 true h15 (qp (fbin P .add 3 true x44 (.int .i64 2))) fun x45 h16 =>
 xg x40 true h16 (qp (aslice P 9 x42 (some x43) (some x45) none)) fun x46 h17 =>
 xg x40 true h17 (qp (fbin P .eql 9 true x46 (.str [47, 47]))) fun x47 h18 =>
 xb (pickOf x40 (some x47) (some (.bool false))) fun x48 =>
 xif (some x48) (s32_l2 G N L1 N x0 x1 h18) (some (x1, h18)))) (s32_j0 G N x1 H)
def s32_l1 (G : CallT) (N : Nat) : Nat → AV → AV → AHeap → O
 | 0, _, _, _ => none
 | n + 1, x0, x1, H => s32_b1 G N (s32_l1 G N n) x0 x1 H
theorem s32_b1_eq (G : CallT) (N : Nat) (L1 : AV → AV → AHeap → O) : ∀ R H, codeC P G N (Code.fst (Code.fst (Code.fst (Code.snd (bodyOf Try.f32))))) (fun R H => L1 (R 0) (R 1) H) [(0, (fun R H => s32_j0 G N (R 1) H))] (rC Try.f32) R H = s32_b1 G N L1 (R 0) (R 1) H := by
 refine via_trans ((via_seq (by kernel_rfl) ((via_block (by kernel_rfl) ((via_block (by kernel_rfl) ((via_seq (by kernel_rfl) ((via_cond (by kernel_rfl) (via_leaf _) ((via_seq (by kernel_rfl) ((via_cond (by kernel_rfl) ((via_block (by kernel_rfl) ((via_loop (k := fun m R H => s32_l2 G N L1 m (R 0) (R 1) H) (by kernel_rfl) (fun R H => by kernel_rfl) (fun m => s32_b2_eq G N L1 (s32_l2 G N L1 m)))))) (via_leaf _))) (via_leaf _))))) (via_leaf _))))))) (via_leaf _))) fun R H => ?_
 delta s32_b1
 generalize s32_j0 G N = J0
 generalize s32_l2 G N L1 N = J1
 revert J0 J1
 refine id ?_
 intro J0 J1
 kernel_rfl
def s32 (G : CallT) (N : Nat) (x0 x1 : AV) (H : AHeap) : O :=
 s32_l1 G N N x0 x1 H
theorem s32_eq (G : CallT) (N : Nat) (x0 : AV) (x1 : AV) (H : AHeap) : cF Try.f32 G N (argsF [x0, x1]) H = s32 G N x0 x1 H := by
 refine via_top (A := cF Try.f32 G N) ((via_seq (by kernel_rfl) ((via_seq (by kernel_rfl) (s32_j0_eq G N) ((via_block (by kernel_rfl) ((via_loop (k := fun m R H => s32_l1 G N m (R 0) (R 1) H) (by kernel_rfl) (fun R H => by kernel_rfl) (fun m => s32_b1_eq G N (s32_l1 G N m)))))))) (via_leaf _))) ?_
 delta s32
 generalize s32_l1 G N N = J0
 revert J0
 refine id ?_
 intro J0
 kernel_rfl
theorem run32 (N : Nat) {x0 x1 : AV} {H : AHeap} {r : AV × AHeap} (h : s32 (evw P) N x0 x1 H = some r) : evw P 32 [x0, x1] H = some r :=
 runF Try.func32 (by kernel_rfl) (by kernel_rfl) (by kernel_rfl) ((s32_eq (evw P) N x0 x1 H).trans h)
def s33 (G : CallT) (x0 x1 : AV) (H : AHeap) : O :=
 xalloc H [(.int .i64 0), (.str []), (.int .i64 0), (.int .i64 0)] fun x4 h1 =>
 xb (aindex P 9 x0 x1) fun x15 =>
 xcall h1 (G 53 [x15] h1) fun x16 h2 =>
 xif (some x16) (xcall h2 (G 54 [x0, x1, (.bool false)] h2) fun x19 h3 =>
 xb (fbin P .add 3 false x1 x19) fun x24 =>
 xb (aslice P 9 x0 (some x1) (some x24) none) fun x25 =>
 xcall h3 (G 55 [x25] h3) fun x27 h4 =>
 xif (some x27) (xb (abuild P 65 [(0, (.int .i64 3)), (1, x25), (3, x1)]) fun x30 =>
 xstore h4 (astore P h4 65 x4 x30) fun h5 =>
 xb (aload P h5 65 x4) fun r =>
 some (.tuple [r, x19], h5)) (xcall h4 (G 56 [x25] h4) fun x33 h5 =>
 xif (some x33) (xb (abuild P 65 [(0, (.int .i64 1)), (1, x25), (3, x1)]) fun x36 =>
 xstore h5 (astore P h5 65 x4 x36) fun h6 =>
 xb (aload P h6 65 x4) fun r =>
 some (.tuple [r, x19], h6)) (xstore h5 (astore P h5 65 x4 (.agg [(.int .i64 0), (.str []), (.int .i64 0), (.int .i64 0)])) fun h6 =>
 xb (aload P h6 65 x4) fun r =>
 some (.tuple [r, (.int .i64 0)], h6)))) (xb (aindex P 9 x0 x1) fun x42 =>
 xcall h2 (G 57 [x42] h2) fun x43 h3 =>
 xif (some x43) (xcall h3 (G 54 [x0, x1, (.bool true)] h3) fun x46 h4 =>
 xb (fbin P .add 3 false x1 x46) fun x52 =>
 xb (aslice P 9 x0 (some x1) (some x52) none) fun x53 =>
 xcall h4 (G 58 [x53] h4) fun x54 h5 =>
 xb (aextract x54 0) fun x55 =>
 xb (aextract x54 1) fun x56 =>
 xb (aun .not x56) fun x58 =>
 xg x58 false h5 (qv x46) fun x60 h6 =>
 xg x58 false h6 (qp (fbin P .gtr 3 true x60 (.int .i64 1))) fun x61 h7 =>
 xg x58 false h7 (qv x61) fun x62 h8 =>
 xg x62 true h8 (qv x0) fun x63 h9 =>
 xg x62 true h9 (qv x1) fun x64 h10 =>
 xg x62 true h10 (qp (aindex P 9 x63 x64)) fun x65 h11 =>
 xg x62 true h11 (qp (fbin P .eql 5 true x65 (.int .u8 48))) fun x66 h12 =>
 xg x58 false h12 (qp (pickOf x62 (some x66) (some (.bool false)))) fun x67 h13 =>
 xb (pickOf x58 (some (.bool true)) (some x67)) fun x68 =>
 xg x68 false h13 (qv x1) fun x70 h14 =>
 xg x68 false h14 (qv x46) fun x71 h15 =>
 xg x68 false h15 (qp (fbin P .add 3 false x70 x71)) fun x72 h16 =>
 xg x68 false h16 (qv x0) fun x73 h17 =>
 xg x68 false h17 (fun q => xboth (abuiltin P .empty .len [9] [x73]) (abuiltin P h17 .len [9] [x73]) q) fun x74 h18 =>
 xg x68 false h18 (qp (fbin P .lss 3 false x72 x74)) fun x75 h19 =>
 xg x68 false h19 (qv x75) fun x76 h20 =>
 xg x76 true h20 (qv x0) fun x77 h21 =>
 xg x76 true h21 (qv x1) fun x78 h22 =>
 xg x76 true h22 (qv x46) fun x79 h23 =>
 xg x76 true h23 (qp (fbin P .add 3 false x78 x79)) fun x80 h24 =>
 xg x76 true h24 (qp (aindex P 9 x77 x80)) fun x81 h25 =>
 xg x76 true h25 (fun q => xeff h25 (G 53 [x81] h25) q) fun x82 h26 =>
 xg x68 false h26 (qp (pickOf x76 (some x82) (some (.bool false)))) fun x83 h27 =>
 xb (pickOf x68 (some (.bool true)) (some x83)) fun x84 =>
 xif (some x84) (xstore h27 (astore P h27 65 x4 (.agg [(.int .i64 0), (.str []), (.int .i64 0), (.int .i64 0)])) fun h28 =>
 xb (aload P h28 65 x4) fun r =>
 some (.tuple [r, (.int .i64 0)], h28)) (xb (abuild P 65 [(0, (.int .i64 2)), (2, x55), (3, x1)]) fun x88 =>
 xstore h27 (astore P h27 65 x4 x88) fun h28 =>
 xb (aload P h28 65 x4) fun r =>
 some (.tuple [r, x46], h28))) (xcall h3 (G 59 [x0, x1] h3) fun x92 h4 =>
 xb (fbin P .eql 9 true x92 (.str [])) fun x94 =>
 xif (some x94) (xstore h4 (astore P h4 65 x4 (.agg [(.int .i64 0), (.str []), (.int .i64 0), (.int .i64 0)])) fun h5 =>
 xb (aload P h5 65 x4) fun r =>
 some (.tuple [r, (.int .i64 0)], h5)) (xb (abuild P 65 [(0, (.int .i64 4)), (1, x92), (3, x1)]) fun x98 =>
 xlen P .len [9] [x92] h4 fun x100 =>
 xstore h4 (astore P h4 65 x4 x98) fun h5 =>
 xb (aload P h5 65 x4) fun r =>
 some (.tuple [r, x100], h5))))
theorem s33_eq (G : CallT) (N : Nat) (x0 : AV) (x1 : AV) (H : AHeap) : cF Try.f33 G N (argsF [x0, x1]) H = s33 G x0 x1 H := by
 refine via_top (A := cF Try.f33 G N) (via_leaf _) ?_
 delta s33
 kernel_rfl
theorem run33 (N : Nat) {x0 x1 : AV} {H : AHeap} {r : AV × AHeap} (h : s33 (evw P) x0 x1 H = some r) : evw P 33 [x0, x1] H = some r :=
 runF Try.func33 (by kernel_rfl) (by kernel_rfl) (by kernel_rfl) ((s33_eq (evw P) N x0 x1 H).trans h)
def s53 (G : CallT) (x0 : AV) (H : AHeap) : O :=
 xb (fbin P .geq 5 true x0 (.int .u8 97)) fun x4 =>
 xg x4 true H (qv x0) fun x6 h1 =>
 xg x4 true h1 (qp (fbin P .leq 5 true x6 (.int .u8 122))) fun x7 h2 =>
 xb (pickOf x4 (some x7) (some (.bool false))) fun x8 =>
 xg x8 false h2 (qv x0) fun x10 h3 =>
 xg x8 false h3 (qp (fbin P .geq 5 true x10 (.int .u8 65))) fun x11 h4 =>
 xg x8 false h4 (qv x11) fun x12 h5 =>
 xg x12 true h5 (qv x0) fun x13 h6 =>
 xg x12 true h6 (qp (fbin P .leq 5 true x13 (.int .u8 90))) fun x14 h7 =>
 xg x8 false h7 (qp (pickOf x12 (some x14) (some (.bool false)))) fun x15 h8 =>
 xb (pickOf x8 (some (.bool true)) (some x15)) fun x16 =>
 some (x16, h8)
theorem s53_eq (G : CallT) (N : Nat) (x0 : AV) (H : AHeap) : cF Try.f53 G N (argsF [x0]) H = s53 G x0 H := by
 refine via_top (A := cF Try.f53 G N) (via_leaf _) ?_
 delta s53
 kernel_rfl
theorem run53 (N : Nat) {x0 : AV} {H : AHeap} {r : AV × AHeap} (h : s53 (evw P) x0 H = some r) : evw P 53 [x0] H = some r :=
 runF Try.func53 (by kernel_rfl) (by kernel_rfl) (by kernel_rfl) ((s53_eq (evw P) N x0 H).trans h)
def s54_j0 (G : CallT) (N : Nat) (x7 : AV) (H : AHeap) : O :=
 some (x7, H)
theorem s54_j0_eq (G : CallT) (N : Nat) : ∀ R H, codeC P G N (Code.snd (Code.snd (Code.snd (bodyOf Try.f54)))) (rC Try.f54) [] (rC Try.f54) R H = s54_j0 G N (R 7) H := by
 refine via_trans (via_leaf _) fun R H => ?_
 delta s54_j0
 kernel_rfl
def s54_b1 (G : CallT) (N : Nat) (L1 : AV → AV → AV → AV → AHeap → O) (x0 x1 : AV) (x2 x7 : AV) (H : AHeap) : O :=
 xb (fbin P .add 3 false x1 x7) fun x10 =>
 xlen P .len [9] [x0] H fun x12 =>
 xb (fbin P .lss 3 false x10 x12) fun x13 =>
 xg x13 true H (qv x0) fun x15 h1 =>
 xg x13 true h1 (qv x1) fun x16 h2 =>
 xg x13 true h2 (qv x7) fun x17 h3 =>
 xg x13 true h3 (qp (fbin P .add 3 false x16 x17)) fun x18 h4 =>
 xg x13 true h4 (qp (aindex P 9 x15 x18)) fun x19 h5 =>
 xg x13 true h5 (fun q => xeff h5 (G 57 [x19] h5) q) fun x20 h6 =>
 xg x13 true h6 (qv x20) fun x21 h7 =>
 xg x21 false h7 (qv x2) fun x22 h8 =>
 xg x21 false h8 (qp (aun .not x22)) fun x23 h9 =>
 xg x21 false h9 (qv x23) fun x24 h10 =>
 xg x24 true h10 (qv x0) fun x25 h11 =>
 xg x24 true h11 (qv x1) fun x26 h12 =>
 xg x24 true h12 (qv x7) fun x27 h13 =>
 xg x24 true h13 (qp (fbin P .add 3 false x26 x27)) fun x28 h14 =>
 xg x24 true h14 (qp (aindex P 9 x25 x28)) fun x29 h15 =>
 xg x24 true h15 (fun q => xeff h15 (G 53 [x29] h15) q) fun x30 h16 =>
 xg x21 false h16 (qp (pickOf x24 (some x30) (some (.bool false)))) fun x31 h17 =>
 xg x13 true h17 (qp (pickOf x21 (some (.bool true)) (some x31))) fun x32 h18 =>
 xb (pickOf x13 (some x32) (some (.bool false))) fun x33 =>
 xif (some x33) (xb (fbin P .add 3 true x7 (.int .i64 1)) fun x35 =>
 L1 x0 x1 x2 x35 h18) (s54_j0 G N x7 h18)
def s54_l1 (G : CallT) (N : Nat) : Nat → AV → AV → AV → AV → AHeap → O
 | 0, _, _, _, _, _ => none
 | n + 1, x0, x1, x2, x7, H => s54_b1 G N (s54_l1 G N n) x0 x1 x2 x7 H
theorem s54_b1_eq (G : CallT) (N : Nat) (L1 : AV → AV → AV → AV → AHeap → O) : ∀ R H, codeC P G N (Code.fst (Code.fst (Code.fst (Code.snd (Code.snd (bodyOf Try.f54)))))) (fun R H => L1 (R 0) (R 1) (R 2) (R 7) H) [(0, (fun R H => s54_j0 G N (R 7) H))] (rC Try.f54) R H = s54_b1 G N L1 (R 0) (R 1) (R 2) (R 7) H := by
 refine via_trans (via_leaf _) fun R H => ?_
 delta s54_b1
 generalize s54_j0 G N = J0
 revert J0
 refine id ?_
 intro J0
 kernel_rfl
def s54 (G : CallT) (N : Nat) (x0 x1 x2 : AV) (H : AHeap) : O :=
 s54_l1 G N N x0 x1 x2 (.int .i64 0) H
theorem s54_eq (G : CallT) (N : Nat) (x0 : AV) (x1 : AV) (x2 : AV) (H : AHeap) : cF Try.f54 G N (argsF [x0, x1, x2]) H = s54 G N x0 x1 x2 H := by
 refine via_top (A := cF Try.f54 G N) ((via_seq (by kernel_rfl) ((via_seq (by kernel_rfl) ((via_seq (by kernel_rfl) (s54_j0_eq G N) ((via_block (by kernel_rfl) ((via_loop (k := fun m R H => s54_l1 G N m (R 0) (R 1) (R 2) (R 7) H) (by kernel_rfl) (fun R H => by kernel_rfl) (fun m => s54_b1_eq G N (s54_l1 G N m)))))))) (via_leaf _))) (via_leaf _))) ?_
 delta s54
 generalize s54_l1 G N N = J0
 revert J0
 refine id ?_
 intro J0
 kernel_rfl
theorem run54 (N : Nat) {x0 x1 x2 : AV} {H : AHeap} {r : AV × AHeap} (h : s54 (evw P) N x0 x1 x2 H = some r) : evw P 54 [x0, x1, x2] H = some r :=
 runF Try.func54 (by kernel_rfl) (by kernel_rfl) (by kernel_rfl) ((s54_eq (evw P) N x0 x1 x2 H).trans h)
def s55_j0 (G : CallT) (N : Nat) (H : AHeap) : O :=
 some ((.bool false), H)
theorem s55_j0_eq (G : CallT) (N : Nat) : ∀ R H, codeC P G N (Code.snd (Code.snd (Code.snd (bodyOf Try.f55)))) (rC Try.f55) [] (rC Try.f55) R H = s55_j0 G N H := by
 refine via_trans (via_leaf _) fun R H => ?_
 delta s55_j0
 kernel_rfl
def s55_b1 (G : CallT) (N : Nat) (L1 : AV → AV → AV → AHeap → O) (x0 x3 x4 : AV) (H : AHeap) : O :=
 xlen P .len [46] [x3] H fun x8 =>
 xb (fbin P .lss 3 false x4 x8) fun x9 =>
 xif (some x9) (xb (aindexAddr P 46 x3 x4) fun x14 =>
 xb (aload P H 9 x14) fun x15 =>
 xb (fbin P .eql 9 false x15 x0) fun x17 =>
 xif (some x17) (some ((.bool true), H)) (xb (fbin P .add 3 true x4 (.int .i64 1)) fun x11 =>
 L1 x0 x3 x11 H)) (s55_j0 G N H)
def s55_l1 (G : CallT) (N : Nat) : Nat → AV → AV → AV → AHeap → O
 | 0, _, _, _, _ => none
 | n + 1, x0, x3, x4, H => s55_b1 G N (s55_l1 G N n) x0 x3 x4 H
theorem s55_b1_eq (G : CallT) (N : Nat) (L1 : AV → AV → AV → AHeap → O) : ∀ R H, codeC P G N (Code.fst (Code.fst (Code.snd (Code.fst (Code.snd (Code.snd (bodyOf Try.f55))))))) (fun R H => L1 (R 0) (R 3) (R 4) H) [(0, (fun R H => s55_j0 G N H))] (rC Try.f55) R H = s55_b1 G N L1 (R 0) (R 3) (R 4) H := by
 refine via_trans (via_leaf _) fun R H => ?_
 delta s55_b1
 generalize s55_j0 G N = J0
 revert J0
 refine id ?_
 intro J0
 kernel_rfl
def s55_10 (G : CallT) (N : Nat) (x0 x5 : AV) (h1 : AHeap) : O :=
 s55_l1 G N N x0 x5 (.int .i64 0) h1
def s55 (G : CallT) (N : Nat) (x0 : AV) (H : AHeap) : O :=
 xcall H (G 79 [] H) (s55_10 G N x0)
theorem s55_eq (G : CallT) (N : Nat) (x0 : AV) (H : AHeap) : cF Try.f55 G N (argsF [x0]) H = s55 G N x0 H := by
 refine via_top (A := cF Try.f55 G N) ((via_seq (by kernel_rfl) ((via_seq (by kernel_rfl) ((via_seq (by kernel_rfl) (s55_j0_eq G N) ((via_seq (by kernel_rfl) ((via_block (by kernel_rfl) ((via_loop (k := fun m R H => s55_l1 G N m (R 0) (R 3) (R 4) H) (by kernel_rfl) (fun R H => by kernel_rfl) (fun m => s55_b1_eq G N (s55_l1 G N m)))))) (via_leaf _))))) (via_leaf _))) (via_leaf _))) ?_
 delta s55 s55_10
 generalize s55_l1 G N N = J0
 revert J0
 refine id ?_
 intro J0
 kernel_rfl
theorem run55 (N : Nat) {x0 : AV} {H : AHeap} {r : AV × AHeap} (h : s55 (evw P) N x0 H = some r) : evw P 55 [x0] H = some r :=
 runF Try.func55 (by kernel_rfl) (by kernel_rfl) (by kernel_rfl) ((s55_eq (evw P) N x0 H).trans h)
def s56_j0 (G : CallT) (N : Nat) (H : AHeap) : O :=
 some ((.bool true), H)
theorem s56_j0_eq (G : CallT) (N : Nat) : ∀ R H, codeC P G N (Code.snd (Code.snd (Code.snd (bodyOf Try.f56)))) (rC Try.f56) [] (rC Try.f56) R H = s56_j0 G N H := by
 refine via_trans (via_leaf _) fun R H => ?_
 delta s56_j0
 kernel_rfl
def s56_b1 (G : CallT) (N : Nat) (L1 : AV → AV → AHeap → O) (x0 x3 : AV) (H : AHeap) : O :=
 xlen P .len [9] [x0] H fun x24 =>
 xb (fbin P .lss 3 false x3 x24) fun x25 =>
 xif (some x25) (xb (aindex P 9 x0 x3) fun x30 =>
 xcall H (G 53 [x30] H) fun x31 h1 =>
 xb (aun .not x31) fun x32 =>
 xg x32 true h1 (qv x0) fun x34 h2 =>
 xg x32 true h2 (qv x3) fun x35 h3 =>
 xg x32 true h3 (qp (aindex P 9 x34 x35)) fun x36 h4 =>
 xg x32 true h4 (fun q => xeff h4 (G 57 [x36] h4) q) fun x37 h5 =>
 xg x32 true h5 (qp (aun .not x37)) fun x38 h6 =>
 xb (pickOf x32 (some x38) (some (.bool false))) fun x39 =>
 xif (some x39) (some ((.bool false), h6)) (xb (fbin P .add 3 true x3 (.int .i64 1)) fun x27 =>
 L1 x0 x27 h6)) (s56_j0 G N H)
def s56_l1 (G : CallT) (N : Nat) : Nat → AV → AV → AHeap → O
 | 0, _, _, _ => none
 | n + 1, x0, x3, H => s56_b1 G N (s56_l1 G N n) x0 x3 H
theorem s56_b1_eq (G : CallT) (N : Nat) (L1 : AV → AV → AHeap → O) : ∀ R H, codeC P G N (Code.fst (Code.fst (Code.snd (Code.fst (Code.snd (Code.snd (bodyOf Try.f56))))))) (fun R H => L1 (R 0) (R 3) H) [(0, (fun R H => s56_j0 G N H))] (rC Try.f56) R H = s56_b1 G N L1 (R 0) (R 3) H := by
 refine via_trans (via_leaf _) fun R H => ?_
 delta s56_b1
 generalize s56_j0 G N = J0
 revert J0
 refine id ?_
 intro J0
 kernel_rfl
def s56 (G : CallT) (N : Nat) (x0 : AV) (H : AHeap) : O :=
 xlen P .len [9] [x0] H fun x5 =>
 xb (fbin P .lss 3 true x5 (.int .i64 1)) fun x6 =>
 xg x6 false H (qv x0) fun x8 h1 =>
 xg x6 false h1 (fun q => xboth (abuiltin P .empty .len [9] [x8]) (abuiltin P h1 .len [9] [x8]) q) fun x9 h2 =>
 xg x6 false h2 (qp (fbin P .gtr 3 true x9 (.int .i64 8))) fun x10 h3 =>
 xb (pickOf x6 (some (.bool true)) (some x10)) fun x11 =>
 xg x11 false h3 (qv x0) fun x13 h4 =>
 xg x11 false h4 (qp (aindex P 9 x13 (.int .i64 0))) fun x14 h5 =>
 xg x11 false h5 (fun q => xeff h5 (G 53 [x14] h5) q) fun x15 h6 =>
 xg x11 false h6 (qp (aun .not x15)) fun x16 h7 =>
 xb (pickOf x11 (some (.bool true)) (some x16)) fun x17 =>
 xg x17 false h7 (qv x0) fun x19 h8 =>
 xg x17 false h8 (fun q => xeff h8 (G 55 [x19] h8) q) fun x20 h9 =>
 xb (pickOf x17 (some (.bool true)) (some x20)) fun x21 =>
 xif (some x21) (some ((.bool false), h9)) (s56_l1 G N N x0 (.int .i64 0) h9)
theorem s56_eq (G : CallT) (N : Nat) (x0 : AV) (H : AHeap) : cF Try.f56 G N (argsF [x0]) H = s56 G N x0 H := by
 refine via_top (A := cF Try.f56 G N) ((via_seq (by kernel_rfl) ((via_seq (by kernel_rfl) ((via_seq (by kernel_rfl) (s56_j0_eq G N) ((via_seq (by kernel_rfl) ((via_block (by kernel_rfl) ((via_loop (k := fun m R H => s56_l1 G N m (R 0) (R 3) H) (by kernel_rfl) (fun R H => by kernel_rfl) (fun m => s56_b1_eq G N (s56_l1 G N m)))))) (via_leaf _))))) (via_leaf _))) (via_leaf _))) ?_
 delta s56
 generalize s56_l1 G N N = J0
 revert J0
 refine id ?_
 intro J0
 kernel_rfl
theorem run56 (N : Nat) {x0 : AV} {H : AHeap} {r : AV × AHeap} (h : s56 (evw P) N x0 H = some r) : evw P 56 [x0] H = some r :=
 runF Try.func56 (by kernel_rfl) (by kernel_rfl) (by kernel_rfl) ((s56_eq (evw P) N x0 H).trans h)
def s57 (G : CallT) (x0 : AV) (H : AHeap) : O :=
 xb (fbin P .geq 5 true x0 (.int .u8 48)) fun x4 =>
 xg x4 true H (qv x0) fun x6 h1 =>
 xg x4 true h1 (qp (fbin P .leq 5 true x6 (.int .u8 57))) fun x7 h2 =>
 xb (pickOf x4 (some x7) (some (.bool false))) fun x8 =>
 some (x8, h2)
theorem s57_eq (G : CallT) (N : Nat) (x0 : AV) (H : AHeap) : cF Try.f57 G N (argsF [x0]) H = s57 G x0 H := by
 refine via_top (A := cF Try.f57 G N) (via_leaf _) ?_
 delta s57
 kernel_rfl
theorem run57 (N : Nat) {x0 : AV} {H : AHeap} {r : AV × AHeap} (h : s57 (evw P) x0 H = some r) : evw P 57 [x0] H = some r :=
 runF Try.func57 (by kernel_rfl) (by kernel_rfl) (by kernel_rfl) ((s57_eq (evw P) N x0 H).trans h)
def s58_j0 (G : CallT) (N : Nat) (x4 : AV) (H : AHeap) : O :=
 some (.tuple [x4, (.bool true)], H)
theorem s58_j0_eq (G : CallT) (N : Nat) : ∀ R H, codeC P G N (Code.snd (Code.snd (Code.snd (bodyOf Try.f58)))) (rC Try.f58) [] (rC Try.f58) R H = s58_j0 G N (R 4) H := by
 refine via_trans (via_leaf _) fun R H => ?_
 delta s58_j0
 kernel_rfl
def s58_b1 (G : CallT) (N : Nat) (L1 : AV → AV → AV → AHeap → O) (x0 x4 x5 : AV) (H : AHeap) : O :=
 xlen P .len [9] [x0] H fun x9 =>
 xb (fbin P .lss 3 false x5 x9) fun x10 =>
 xif (some x10) (xb (aindex P 9 x0 x5) fun x15 =>
 xb (fbin P .sub 5 true x15 (.int .u8 48)) fun x16 =>
 xconv P 5 3 x16 H fun x17 =>
 xb (fbin P .sub 3 true (.int .i64 9223372036854775807) x17) fun x20 =>
 xb (fbin P .quo 3 true x20 (.int .i64 10)) fun x21 =>
 xb (fbin P .gtr 3 false x4 x21) fun x22 =>
 xif (some x22) (some (.tuple [(.int .i64 0), (.bool false)], H)) (xb (fbin P .mul 3 true (.int .i64 10) x4) fun x24 =>
 xb (fbin P .add 3 false x24 x17) fun x26 =>
 xb (fbin P .add 3 true x5 (.int .i64 1)) fun x12 =>
 L1 x0 x26 x12 H)) (s58_j0 G N x4 H)
def s58_l1 (G : CallT) (N : Nat) : Nat → AV → AV → AV → AHeap → O
 | 0, _, _, _, _ => none
 | n + 1, x0, x4, x5, H => s58_b1 G N (s58_l1 G N n) x0 x4 x5 H
theorem s58_b1_eq (G : CallT) (N : Nat) (L1 : AV → AV → AV → AHeap → O) : ∀ R H, codeC P G N (Code.fst (Code.fst (Code.snd (Code.fst (Code.snd (Code.snd (bodyOf Try.f58))))))) (fun R H => L1 (R 0) (R 4) (R 5) H) [(0, (fun R H => s58_j0 G N (R 4) H))] (rC Try.f58) R H = s58_b1 G N L1 (R 0) (R 4) (R 5) H := by
 refine via_trans (via_leaf _) fun R H => ?_
 delta s58_b1
 generalize s58_j0 G N = J0
 revert J0
 refine id ?_
 intro J0
 kernel_rfl
def s58 (G : CallT) (N : Nat) (x0 : AV) (H : AHeap) : O :=
 s58_l1 G N N x0 (.int .i64 0) (.int .i64 0) H
theorem s58_eq (G : CallT) (N : Nat) (x0 : AV) (H : AHeap) : cF Try.f58 G N (argsF [x0]) H = s58 G N x0 H := by
 refine via_top (A := cF Try.f58 G N) ((via_seq (by kernel_rfl) ((via_seq (by kernel_rfl) ((via_seq (by kernel_rfl) (s58_j0_eq G N) ((via_seq (by kernel_rfl) ((via_block (by kernel_rfl) ((via_loop (k := fun m R H => s58_l1 G N m (R 0) (R 4) (R 5) H) (by kernel_rfl) (fun R H => by kernel_rfl) (fun m => s58_b1_eq G N (s58_l1 G N m)))))) (via_leaf _))))) (via_leaf _))) (via_leaf _))) ?_
 delta s58
 generalize s58_l1 G N N = J0
 revert J0
 refine id ?_
 intro J0
 kernel_rfl
theorem run58 (N : Nat) {x0 : AV} {H : AHeap} {r : AV × AHeap} (h : s58 (evw P) N x0 H = some r) : evw P 58 [x0] H = some r :=
 runF Try.func58 (by kernel_rfl) (by kernel_rfl) (by kernel_rfl) ((s58_eq (evw P) N x0 H).trans h)
def s59_j1 (G : CallT) (N : Nat) (H : AHeap) : O :=
 some ((.str []), H)
theorem s59_j1_eq (G : CallT) (N : Nat) : ∀ R H, codeC P G N (Code.snd (Code.snd (Code.snd (Code.snd (Code.snd (bodyOf Try.f59)))))) (rC Try.f59) [] (rC Try.f59) R H = s59_j1 G N H := by
 refine via_trans (via_leaf _) fun R H => ?_
 delta s59_j1
 kernel_rfl
def s59_b2 (G : CallT) (N : Nat) (L2 : AV → AV → AV → AV → AHeap → O) (x0 x1 : AV) (x7 x8 : AV) (H : AHeap) : O :=
 xlen P .len [9] [x7] H fun x39 =>
 xb (fbin P .lss 3 false x8 x39) fun x40 =>
 xif (some x40) (xb (aindex P 9 x0 x1) fun x45 =>
 xb (aindex P 9 x7 x8) fun x48 =>
 xb (fbin P .eql 5 false x45 x48) fun x49 =>
 xif (some x49) (xb (fbin P .add 3 true x8 (.int .i64 1)) fun x53 =>
 xb (aslice P 9 x7 (some x8) (some x53) none) fun x54 =>
 some (x54, H)) (xb (fbin P .add 3 true x8 (.int .i64 1)) fun x42 =>
 L2 x0 x1 x7 x42 H)) (s59_j1 G N H)
def s59_l2 (G : CallT) (N : Nat) : Nat → AV → AV → AV → AV → AHeap → O
 | 0, _, _, _, _, _ => none
 | n + 1, x0, x1, x7, x8, H => s59_b2 G N (s59_l2 G N n) x0 x1 x7 x8 H
theorem s59_b2_eq (G : CallT) (N : Nat) (L2 : AV → AV → AV → AV → AHeap → O) : ∀ R H, codeC P G N (Code.fst (Code.fst (Code.snd (Code.fst (Code.snd (Code.snd (Code.snd (Code.snd (bodyOf Try.f59))))))))) (fun R H => L2 (R 0) (R 1) (R 7) (R 8) H) [(2, (fun R H => s59_j1 G N H))] (rC Try.f59) R H = s59_b2 G N L2 (R 0) (R 1) (R 7) (R 8) H := by
 refine via_trans (via_leaf _) fun R H => ?_
 delta s59_b2
 generalize s59_j1 G N = J0
 revert J0
 refine id ?_
 intro J0
 kernel_rfl
def s59_j0 (G : CallT) (N : Nat) (x0 x1 : AV) (H : AHeap) : O :=
 s59_l2 G N N x0 x1 (.str [123, 125, 40, 41, 91, 93, 59, 58, 44, 46, 61, 43, 45, 42, 47, 37, 60, 33]) (.int .i64 0) H
theorem s59_j0_eq (G : CallT) (N : Nat) : ∀ R H, codeC P G N (Code.snd (Code.snd (Code.snd (bodyOf Try.f59)))) (rC Try.f59) [] (rC Try.f59) R H = s59_j0 G N (R 0) (R 1) H := by
 refine via_trans ((via_seq (by kernel_rfl) ((via_seq (by kernel_rfl) (s59_j1_eq G N) ((via_seq (by kernel_rfl) ((via_block (by kernel_rfl) ((via_loop (k := fun m R H => s59_l2 G N m (R 0) (R 1) (R 7) (R 8) H) (by kernel_rfl) (fun R H => by kernel_rfl) (fun m => s59_b2_eq G N (s59_l2 G N m)))))) (via_leaf _))))) (via_leaf _))) fun R H => ?_
 delta s59_j0
 generalize s59_l2 G N N = J0
 revert J0
 refine id ?_
 intro J0
 kernel_rfl
def s59_b3 (G : CallT) (N : Nat) (L3 : AV → AV → AV → AV → AHeap → O) (x0 x1 : AV) (x5 x6 : AV) (H : AHeap) : O :=
 xlen P .len [46] [x5] H fun x12 =>
 xb (fbin P .lss 3 false x6 x12) fun x13 =>
 xif (some x13) (xlen P .len [9] [x0] H fun x17 =>
 xb (fbin P .sub 3 false x17 x1) fun x19 =>
 xb (fbin P .geq 3 true x19 (.int .i64 2)) fun x20 =>
 xg x20 true H (qv x0) fun x22 h1 =>
 xg x20 true h1 (qv x1) fun x23 h2 =>
 xg x20 true h2 (qv x1) fun x24 h3 =>
 xg x20 true h3 (qp (fbin P .add 3 true x24 (.int .i64 2))) fun x25 h4 =>
 xg x20 true h4 (qp (aslice P 9 x22 (some x23) (some x25) none)) fun x26 h5 =>
 xg x20 true h5 (qv x5) fun x27 h6 =>
 xg x20 true h6 (qv x6) fun x28 h7 =>
 xg x20 true h7 (qp (aindexAddr P 46 x27 x28)) fun x29 h8 =>
 xg x20 true h8 (qr (aload P h8 9 x29)) fun x30 h9 =>
 xg x20 true h9 (qp (fbin P .eql 9 false x26 x30)) fun x31 h10 =>
 xb (pickOf x20 (some x31) (some (.bool false))) fun x32 =>
 xif (some x32) (xb (aindexAddr P 46 x5 x6) fun x35 =>
 xb (aload P h10 9 x35) fun x36 =>
 some (x36, h10)) (xb (fbin P .add 3 true x6 (.int .i64 1)) fun x15 =>
 L3 x0 x1 x5 x15 h10)) (s59_j0 G N x0 x1 H)
def s59_l3 (G : CallT) (N : Nat) : Nat → AV → AV → AV → AV → AHeap → O
 | 0, _, _, _, _, _ => none
 | n + 1, x0, x1, x5, x6, H => s59_b3 G N (s59_l3 G N n) x0 x1 x5 x6 H
theorem s59_b3_eq (G : CallT) (N : Nat) (L3 : AV → AV → AV → AV → AHeap → O) : ∀ R H, codeC P G N (Code.fst (Code.fst (Code.snd (Code.fst (Code.snd (Code.snd (bodyOf Try.f59))))))) (fun R H => L3 (R 0) (R 1) (R 5) (R 6) H) [(0, (fun R H => s59_j0 G N (R 0) (R 1) H))] (rC Try.f59) R H = s59_b3 G N L3 (R 0) (R 1) (R 5) (R 6) H := by
 refine via_trans (via_leaf _) fun R H => ?_
 delta s59_b3
 generalize s59_j0 G N = J0
 revert J0
 refine id ?_
 intro J0
 kernel_rfl
def s59_35 (G : CallT) (N : Nat) (x0 x1 x9 : AV) (h1 : AHeap) : O :=
 s59_l3 G N N x0 x1 x9 (.int .i64 0) h1
def s59 (G : CallT) (N : Nat) (x0 x1 : AV) (H : AHeap) : O :=
 xmake H (some (.sl (H).next 0 5 1 (some 5), .row false 1 [[(.str [60, 61])], [(.str [61, 61])], [(.str [33, 61])], [(.str [38, 38])], [(.str [124, 124])]])) (s59_35 G N x0 x1)
theorem s59_eq (G : CallT) (N : Nat) (x0 : AV) (x1 : AV) (H : AHeap) : cF Try.f59 G N (argsF [x0, x1]) H = s59 G N x0 x1 H := by
 refine via_top (A := cF Try.f59 G N) ((via_seq (by kernel_rfl) ((via_seq (by kernel_rfl) ((via_seq (by kernel_rfl) (s59_j0_eq G N) ((via_seq (by kernel_rfl) ((via_block (by kernel_rfl) ((via_loop (k := fun m R H => s59_l3 G N m (R 0) (R 1) (R 5) (R 6) H) (by kernel_rfl) (fun R H => by kernel_rfl) (fun m => s59_b3_eq G N (s59_l3 G N m)))))) (via_leaf _))))) (via_leaf _))) (via_leaf _))) ?_
 delta s59 s59_35
 generalize s59_l3 G N N = J0
 revert J0
 refine id ?_
 intro J0
 kernel_rfl
theorem run59 (N : Nat) {x0 x1 : AV} {H : AHeap} {r : AV × AHeap} (h : s59 (evw P) N x0 x1 H = some r) : evw P 59 [x0, x1] H = some r :=
 runF Try.func59 (by kernel_rfl) (by kernel_rfl) (by kernel_rfl) ((s59_eq (evw P) N x0 x1 H).trans h)
def s79_0 (x1 : AV) (h1 : AHeap) : O :=
 some (x1, h1)
def s79 (G : CallT) (H : AHeap) : O :=
 xmake H (some (.sl (H).next 0 18 1 (some 18), .row false 1 [[(.str [114, 101, 99, 111, 114, 100])], [(.str [103, 108, 111, 98, 97, 108])], [(.str [102, 117, 110, 99])], [(.str [118, 97, 114])], [(.str [108, 101, 116])], [(.str [105, 102])], [(.str [101, 108, 115, 101])], [(.str [119, 104, 105, 108, 101])], [(.str [114, 101, 116, 117, 114, 110])], [(.str [112, 114, 105, 110, 116])], [(.str [110, 117, 108, 108])], [(.str [110, 101, 119])], [(.str [108, 101, 110])], [(.str [114, 101, 97, 100])], [(.str [116, 114, 117, 101])], [(.str [102, 97, 108, 115, 101])], [(.str [105, 110, 116])], [(.str [98, 111, 111, 108])]])) (s79_0)
theorem s79_eq (G : CallT) (N : Nat) (H : AHeap) : cF Try.f79 G N (argsF []) H = s79 G H := by
 refine via_top (A := cF Try.f79 G N) (via_leaf _) ?_
 delta s79 s79_0
 kernel_rfl
theorem run79 (N : Nat) {H : AHeap} {r : AV × AHeap} (h : s79 (evw P) H = some r) : evw P 79 [] H = some r :=
 runF Try.func79 (by kernel_rfl) (by kernel_rfl) (by kernel_rfl) ((s79_eq (evw P) N H).trans h)
end
end Go.Proofs.Ytnjoomfeddamcaa
namespace Go.Proofs.Ytnjoomfeddamcaa
open Go.Ev
def lettI (c : Int) : Bool := (decide (97 ≤ c) && decide (c ≤ 122)) || (decide (65 ≤ c) && decide (c ≤ 90))
def diggI (c : Int) : Bool := decide (48 ≤ c) && decide (c ≤ 57)
def letB (b : UInt8) : Bool := lettI b.toNat
def digB (b : UInt8) : Bool := diggI b.toNat
def wordsL : List Bs := [[114, 101, 99, 111, 114, 100], [103, 108, 111, 98, 97, 108], [102, 117, 110, 99], [118, 97, 114], [108, 101, 116], [105, 102], [101, 108, 115, 101], [119, 104, 105, 108, 101], [114, 101, 116, 117, 114, 110], [112, 114, 105, 110, 116], [110, 117, 108, 108], [110, 101, 119], [108, 101, 110], [114, 101, 97, 100], [116, 114, 117, 101], [102, 97, 108, 115, 101], [105, 110, 116], [98, 111, 111, 108]]
def memB (x : Bs) : List Bs → Bool
 | [] => false
 | y :: ys => y == x || memB x ys
def wordB (x : Bs) : Bool := memB x wordsL
def allP : Bs → Bool
 | [] => true
 | c :: r => (letB c || digB c) && allP r
def nameB (x : Bs) : Bool := decide (1 ≤ x.length) && (decide (x.length ≤ 8) && (letB (x.headD 0) && (!wordB x && allP x)))
def runN (d : Bool) : Bs → Nat
 | [] => 0
 | c :: r => bif digB c || (!d && letB c) then runN d r + 1 else 0
def wholeN : Int → Bs → Option Int
 | n, [] => some n
 | n, c :: r => if (9223372036854775807 - ((c.toNat : Int) - 48)) / 10 < n then none else wholeN (10 * n + ((c.toNat : Int) - 48)) r
def twosL : List Bs := [[60, 61], [61, 61], [33, 61], [38, 38], [124, 124]]
def onesL : Bs := [123, 125, 40, 41, 91, 93, 59, 58, 44, 46, 61, 43, 45, 42, 47, 37, 60, 33]
def memC (c : UInt8) : Bs → Bool
 | [] => false
 | y :: ys => c.toNat == y.toNat || memC c ys
def signN (s : Bs) : Bs := bif decide (2 ≤ s.length) && memB (s.take 2) twosL then s.take 2 else match s with
 | c :: _ => bif memC c onesL then [c] else []
 | [] => []
def isBlank (c : UInt8) : Bool := c.toNat == 32 || (c.toNat == 9 || (c.toNat == 10 || c.toNat == 13))
def blankN : Bool → Bs → Nat
 | _, [] => 0
 | true, c :: r => bif c.toNat == 10 then blankN false r + 1 else blankN true r + 1
 | false, c :: r => bif isBlank c then blankN false r + 1 else bif c == 47 && r.head? == some 47 then blankN true r + 1 else 0
def oneN (s : Bs) : Option (Int × Bs × Int × Nat) := match s with
 | [] => none
 | c :: _ =>
  bif letB c then (bif wordB (s.take (runN false s)) then some (3, s.take (runN false s), 0, runN false s) else bif nameB (s.take (runN false s)) then some (1, s.take (runN false s), 0, runN false s) else none)
  else bif digB c then
   (match wholeN 0 (s.take (runN true s)) with
   | none => none
   | some v => bif (decide (1 < runN true s) && c.toNat == 48) || (decide (runN true s < s.length) && letB ((s[runN true s]?).getD 0)) then none else some (2, [], v, runN true s))
  else bif signN s == [] then none else some (4, signN s, 0, (signN s).length)
def lexL : Nat → Bs → Nat → Nat ⊕ List Tok
 | 0, _, p => .inl p
 | _ + 1, [], p => .inr [⟨0, [], 0, p⟩]
 | n + 1, c :: r, p => match oneN (c :: r) with
  | none => .inl p
  | some (k, t, v, m) => match lexL n (((c :: r).drop m).drop (blankN false ((c :: r).drop m))) (p + m + blankN false ((c :: r).drop m)) with
   | .inl e => .inl e
   | .inr l => .inr (⟨k, t, v, p⟩ :: l)
def lexS (s : Bs) : Nat ⊕ List Tok := lexL (s.length + 1) (s.drop (blankN false s)) (blankN false s)
def tokensS (s : Bs) : List Tok × Int × Int := if 6000 < s.length then ([], 4, 0) else match lexS s with
 | .inl e => ([], 1, e)
 | .inr l => (l, 0, 0)
end Go.Proofs.Ytnjoomfeddamcaa

namespace Go.Proofs.Ytnjoomfeddamcaa
open Go.Ev
theorem jx9' (s : List UInt8) (k : Int) : aindex P 9 (.str s) (.int .i64 k) = if 0 ≤ k then (match s[k.toNat]? with | some b => some (.int .u8 b.toNat) | none => none) else none := by kernel_rfl
theorem jx9 {s : List UInt8} {k : Nat} {b : UInt8} (h : s[k]? = some b) : aindex P 9 (.str s) (.int .i64 (k : Int)) = some (.int .u8 b.toNat) := by
 rw [jx9', if_pos (by omega)]; simp [h]
theorem jx9_0 {s : List UInt8} {b : UInt8} (h : s[0]? = some b) : aindex P 9 (.str s) (.int .i64 0) = some (.int .u8 b.toNat) := jx9 (k := 0) h
theorem wnn (a b : Nat) (h : a + b ≤ 4000000000000000000) : IntKind.i64.wrap ((a : Int) + (b : Int)) = ((a + b : Nat) : Int) := by rw [wrap_i64 (by omega) (by omega)]; omega
theorem wn1 (a : Nat) (h : a ≤ 4000000000000000000) : IntKind.i64.wrap ((a : Int) + 1) = ((a + 1 : Nat) : Int) := by rw [wrap_i64 (by omega) (by omega)]; omega
theorem wn2 (a : Nat) (h : a ≤ 4000000000000000000) : IntKind.i64.wrap ((a : Int) + 2) = ((a + 2 : Nat) : Int) := by rw [wrap_i64 (by omega) (by omega)]; omega
theorem wns (a b : Nat) (h : a ≤ 4000000000000000000) (hb : b ≤ a) : IntKind.i64.wrap ((a : Int) - (b : Int)) = ((a - b : Nat) : Int) := by rw [wrap_i64 (by omega) (by omega)]; omega
theorem letter_spec {H : AHeap} (c : Int) : W (evw P 53 [.int .u8 c] H) fun v H' => v = .bool (lettI c) ∧ H' = H := by
 refine W_of (fun _ => run53 0) ?_
 unfold lettI
 cases h1 : decide (97 ≤ c) <;> cases h2 : decide (c ≤ 122) <;> cases h3 : decide (65 ≤ c) <;> cases h4 : decide (c ≤ 90) <;>
  (simp -implicitDefEqProofs (disch := first | assumption | omega | (simp only [nxB]; omega) | (simp only [oneB])) only [s53, xlen, evB, binB, h1, h2, h3, h4]; exact W_some.2 ⟨rfl, rfl⟩)
theorem digit_spec {H : AHeap} (c : Int) : W (evw P 57 [.int .u8 c] H) fun v H' => v = .bool (diggI c) ∧ H' = H := by
 refine W_of (fun _ => run57 0) ?_
 unfold diggI
 cases h1 : decide (48 ≤ c) <;> cases h2 : decide (c ≤ 57) <;>
  (simp -implicitDefEqProofs (disch := first | assumption | omega | (simp only [nxB]; omega) | (simp only [oneB])) only [s57, xlen, evB, binB, h1, h2]; exact W_some.2 ⟨rfl, rfl⟩)
theorem drop_cons {s : Bs} {k : Nat} {c : UInt8} {r : Bs} (h : s.drop k = c :: r) : s[k]? = some c ∧ s.drop (k + 1) = r ∧ k < s.length ∧ s.length = k + 1 + r.length := by
 have h1 : s[k]? = some c := by
  have := List.getElem?_drop (xs := s) (i := k) (j := 0)
  rw [h] at this
  simpa using this.symm
 have h2 : s.drop (k + 1) = r := by
  have : (s.drop k).drop 1 = r := by rw [h]; rfl
  rwa [List.drop_drop] at this
 have h3 : k < s.length := (List.getElem?_eq_some_iff.1 h1).1
 have h4 := congrArg List.length h
 simp at h4
 exact ⟨h1, h2, h3, by omega⟩
theorem drop_nil {s : Bs} {k : Nat} (h : s.drop k = []) : s.length ≤ k := List.drop_eq_nil_iff.1 h
theorem run_loop {H : AHeap} {s : Bs} (hs : s.length ≤ 1000000000000000000) (at_ : Nat) (d : Bool) (N : Nat) : ∀ (rest : Bs) (n m : Nat), s.drop (at_ + n) = rest → at_ + n ≤ s.length → rest.length < m →
  W (s54_l1 (evw P) N m (.str s) (.int .i64 at_) (.bool d) (.int .i64 n) H) fun v H' => v = .int .i64 ((n + runN d rest : Nat) : Int) ∧ H' = H
 | _, _, 0, _, _, hm => by omega
 | [], n, m + 1, h, hn, hm => by
  have := drop_nil h
  have h1 : ¬ (((at_ + n : Nat) : Int) < (s.length : Int)) := by omega
  simp -implicitDefEqProofs (disch := first | assumption | omega | (simp only [nxB]; omega) | (simp only [oneB])) only [s54_l1, s54_j0, s54_b1, s54, xlen, AV.cells, splice, aload, astore, Nat.reduceAdd, Nat.reduceLeDiff, reduceIte, allB, wnn, h1, decide_false]
  exact W_some.2 ⟨by simp [runN], rfl⟩
 | c :: r, n, m + 1, h, hn, hm => by
  obtain ⟨e1, e2, e3, e4⟩ := drop_cons h
  have h1 : (((at_ + n : Nat) : Int) < (s.length : Int)) := by omega
  have ih := run_loop (H := H) hs at_ d N r (n + 1) m (by rw [← Nat.add_assoc]; exact e2) (by omega) (by simp at hm; omega)
  have e1' := jx9 e1
  simp -implicitDefEqProofs (disch := first | assumption | omega | (simp only [nxB]; omega) | (simp only [oneB])) only [s54_l1, s54_j0, s54_b1, s54, xlen, AV.cells, splice, aload, astore, Nat.reduceAdd, Nat.reduceLeDiff, reduceIte, allB, wnn, h1, decide_true, e1']
  refine W_eff0 (digit_spec _) ?_
  have fin : ∀ b, (digB c || (!d && letB c)) = b → (b = true → W (s54_l1 (evw P) N m (.str s) (.int .i64 at_) (.bool d) (.int .i64 ((n + 1 : Nat) : Int)) H) fun v H' => v = .int .i64 ((n + runN d (c :: r) : Nat) : Int) ∧ H' = H) ∧ (b = false → n + runN d (c :: r) = n) := by
   intro b hb
   refine ⟨fun h => ?_, fun h => ?_⟩
   ·refine ih.mono ?_
    rintro v H' ⟨rfl, rfl⟩
    subst h
    have e : runN d (c :: r) = runN d r + 1 := by rw [runN, hb]; rfl
    have e' : n + 1 + runN d r = n + runN d (c :: r) := by rw [e]; omega
    exact ⟨by rw [e'], rfl⟩
   ·subst h
    rw [runN, hb]; rfl
  cases hd : diggI (c.toNat : Int) with
  | true =>
   simp -implicitDefEqProofs (disch := first | assumption | omega | (simp only [nxB]; omega) | (simp only [oneB])) only [s54_j0, s54_b1, s54, xlen, evB, binB, wn1]
   exact (fin true (by simp [digB, hd])).1 rfl
  | false =>
   cases d with
   | true =>
    simp -implicitDefEqProofs (disch := first | assumption | omega | (simp only [nxB]; omega) | (simp only [oneB])) only [s54_j0, s54_b1, s54, xlen, evB, Bool.not_true]
    exact W_some.2 ⟨by rw [(fin false (by simp [digB, hd])).2 rfl], rfl⟩
   | false =>
    simp -implicitDefEqProofs (disch := first | assumption | omega | (simp only [nxB]; omega) | (simp only [oneB])) only [s54_j0, s54_b1, s54, xlen, AV.cells, splice, aload, astore, Nat.reduceAdd, Nat.reduceLeDiff, reduceIte, allB, Bool.not_false, wnn, e1']
    refine W_eff0 (letter_spec _) ?_
    cases hl : lettI (c.toNat : Int) with
    | true =>
     simp -implicitDefEqProofs (disch := first | assumption | omega | (simp only [nxB]; omega) | (simp only [oneB])) only [s54_j0, s54_b1, s54, xlen, evB, binB, wn1]
     exact (fin true (by simp [digB, letB, hd, hl])).1 rfl
    | false =>
     simp -implicitDefEqProofs (disch := first | assumption | omega | (simp only [nxB]; omega) | (simp only [oneB])) only [s54_j0, s54_b1, s54, xlen, evB]
     exact W_some.2 ⟨by rw [(fin false (by simp [digB, letB, hd, hl])).2 rfl], rfl⟩
theorem run_spec {H : AHeap} {s : Bs} (hs : s.length ≤ 1000000000000000000) (at_ : Nat) (ha : at_ ≤ s.length) (d : Bool) : W (evw P 54 [.str s, .int .i64 at_, .bool d] H) fun v H' => v = .int .i64 (runN d (s.drop at_) : Nat) ∧ H' = H := by
 refine W_of (fun _ => run54 (s.length + 1)) ?_
 rw [s54]
 have := run_loop (H := H) hs at_ d (s.length + 1) (s.drop at_) 0 (s.length + 1) rfl (by omega) (by simp; omega)
 simpa using this
theorem Word_loop {H : AHeap} {x : Bs} {l : Nat} (N : Nat) (all : List Bs) (hA : all.length ≤ 1000) (hg : H.get l = some (.row false 1 (all.map fun y => [AV.str y]))) : ∀ (rest pre : List Bs), all = pre ++ rest → ∀ (m : Nat), rest.length < m →
  W (s55_l1 (evw P) N m (.str x) (.sl l 0 all.length 1 (some all.length)) (.int .i64 pre.length) H) fun v H' => v = .bool (memB x rest) ∧ H' = H
 | _, _, _, 0, hm => by omega
 | [], pre, hp, m + 1, hm => by
  have h1 : ¬ ((pre.length : Int) < (all.length : Int)) := by rw [hp]; simp
  simp -implicitDefEqProofs (disch := first | assumption | omega | (simp only [nxB]; omega) | (simp only [oneB])) only [s55_l1, s55_j0, s55_b1, s55_10, s55, xlen, AV.cells, splice, aload, astore, Nat.reduceAdd, Nat.reduceLeDiff, reduceIte, allB, h1, decide_false]
  exact W_some.2 ⟨rfl, rfl⟩
 | y :: ys, pre, hp, m + 1, hm => by
  have h1 : ((pre.length : Int) < (all.length : Int)) := by rw [hp]; simp; omega
  have h0 : (0 : Int) ≤ (pre.length : Int) := by omega
  have e1 : ((pre.length : Int)).toNat = pre.length := by omega
  have hle : pre.length < all.length := by omega
  have he : (all.map fun y => [AV.str y])[pre.length]? = some [AV.str y] := by rw [hp]; simp
  have hw : ((pre ++ [y]).length : Int) = ((pre.length + 1 : Nat) : Int) := by simp
  simp -implicitDefEqProofs (disch := first | assumption | omega | (simp only [nxB]; omega) | (simp only [oneB])) only [s55_l1, s55_j0, s55_b1, s55_10, s55, xlen, AV.cells, splice, aload, astore, Nat.reduceAdd, Nat.reduceLeDiff, reduceIte, allB, h1, decide_true, hg, e1, he]
  cases hc : y == x with
  | true =>
   simp -implicitDefEqProofs (disch := first | assumption | omega | (simp only [nxB]; omega) | (simp only [oneB])) only [s55_j0, s55_b1, s55_10, s55, xlen, evB]
   exact W_some.2 ⟨by simp [memB, hc], rfl⟩
  | false =>
   have ih := Word_loop (H := H) (x := x) N all hA hg ys (pre ++ [y]) (by simp [hp]) m (by simp at hm; omega)
   rw [hw] at ih
   simp -implicitDefEqProofs (disch := first | assumption | omega | (simp only [nxB]; omega) | (simp only [oneB])) only [s55_j0, s55_b1, s55_10, s55, xlen, evB, binB, wn1]
   refine ih.mono ?_
   rintro v H' ⟨rfl, rfl⟩
   exact ⟨by simp [memB, hc], rfl⟩
theorem Word_spec {H : AHeap} (x : Bs) : W (evw P 55 [.str x] H) fun v H' => v = .bool (wordB x) ∧ Pur H H' := by
 refine W_of (fun _ => run55 19) ?_
 rw [s55]
 have hw : W (evw P 79 [] H) fun v H' => v = .sl H.next 0 wordsL.length 1 (some wordsL.length) ∧ H' = H.push (.row false 1 (wordsL.map fun y => [AV.str y])) := by
  refine W_of (fun _ => run79 0) ?_
  rw [s79]
  simp only [xmake_some, s79_0]
  exact W_some.2 ⟨rfl, rfl⟩
 refine W_call hw ?_
 rintro _ _ ⟨rfl, rfl⟩
 refine ⟨(Pur.push _ _).1, ?_⟩
 rw [s55_10]
 refine (Word_loop (x := x) 19 wordsL (by decide) (AHeap.get_push_same _ _) wordsL [] rfl 19 (by decide)).mono ?_
 rintro v H' ⟨rfl, rfl⟩
 exact ⟨rfl, Pur.push _ _⟩
end Go.Proofs.Ytnjoomfeddamcaa

namespace Go.Proofs.Ytnjoomfeddamcaa
open Go.Ev
theorem Name_loop {H : AHeap} {s : Bs} (hs : s.length ≤ 1000000000000000000) (N : Nat) : ∀ (rest : Bs) (n m : Nat), s.drop n = rest → n ≤ s.length → rest.length < m →
  W (s56_l1 (evw P) N m (.str s) (.int .i64 n) H) fun v H' => v = .bool (allP rest) ∧ H' = H
 | _, _, 0, _, _, hm => by omega
 | [], n, m + 1, h, hn, hm => by
  have := drop_nil h
  have h1 : ¬ ((n : Int) < (s.length : Int)) := by omega
  simp -implicitDefEqProofs (disch := first | assumption | omega | (simp only [nxB]; omega) | (simp only [oneB])) only [s56_l1, s56_j0, s56_b1, s56, xlen, AV.cells, splice, aload, astore, Nat.reduceAdd, Nat.reduceLeDiff, reduceIte, allB, h1, decide_false]
  exact W_some.2 ⟨by simp [allP], rfl⟩
 | c :: r, n, m + 1, h, hn, hm => by
  obtain ⟨e1, e2, e3, e4⟩ := drop_cons h
  have h1 : ((n : Int) < (s.length : Int)) := by omega
  have ih := Name_loop (H := H) hs N r (n + 1) m e2 (by omega) (by simp at hm; omega)
  have e1' := jx9 e1
  simp -implicitDefEqProofs (disch := first | assumption | omega | (simp only [nxB]; omega) | (simp only [oneB])) only [s56_l1, s56_j0, s56_b1, s56, xlen, AV.cells, splice, aload, astore, Nat.reduceAdd, Nat.reduceLeDiff, reduceIte, allB, h1, decide_true, e1']
  refine W_call0 (letter_spec _) ?_
  cases hl : lettI (c.toNat : Int) with
  | true =>
   simp -implicitDefEqProofs (disch := first | assumption | omega | (simp only [nxB]; omega) | (simp only [oneB])) only [s56_j0, s56_b1, s56, xlen, evB, binB, Bool.not_true, wn1]
   refine ih.mono ?_
   rintro v H' ⟨rfl, e⟩
   exact ⟨by simp [allP, letB, hl], e⟩
  | false =>
   simp -implicitDefEqProofs (disch := first | assumption | omega | (simp only [nxB]; omega) | (simp only [oneB])) only [s56_j0, s56_b1, s56, xlen, AV.cells, splice, aload, astore, Nat.reduceAdd, Nat.reduceLeDiff, reduceIte, allB, Bool.not_false, e1']
   refine W_eff0 (digit_spec _) ?_
   cases hd : diggI (c.toNat : Int) with
   | true =>
    simp -implicitDefEqProofs (disch := first | assumption | omega | (simp only [nxB]; omega) | (simp only [oneB])) only [s56_j0, s56_b1, s56, xlen, evB, binB, Bool.not_true, wn1]
    refine ih.mono ?_
    rintro v H' ⟨rfl, e⟩
    exact ⟨by simp [allP, digB, hd], e⟩
   | false =>
    simp -implicitDefEqProofs (disch := first | assumption | omega | (simp only [nxB]; omega) | (simp only [oneB])) only [s56_j0, s56_b1, s56, xlen, evB, binB, Bool.not_false]
    exact W_some.2 ⟨by simp [allP, letB, digB, hl, hd], rfl⟩
theorem Name_spec {H : AHeap} {s : Bs} (hs : s.length ≤ 1000000000000000000) : W (evw P 56 [.str s] H) fun v H' => v = .bool (nameB s) ∧ Pur H H' := by
 refine W_of (fun _ => run56 (s.length + 1)) ?_
 cases hl : s with
 | nil =>
  have h1 : ((([] : Bs).length : Nat) : Int) < 1 := by simp
  simp -implicitDefEqProofs (disch := first | assumption | omega | (simp only [nxB]; omega) | (simp only [oneB])) only [s56_j0, s56_b1, s56, xlen, evB, tabB, binB, h1, decide_true]
  exact W_some.2 ⟨by simp [nameB], .refl _⟩
 | cons c r =>
  rw [← hl]
  have hpos : 1 ≤ s.length := by rw [hl]; simp
  have h1 : ¬ ((s.length : Int) < 1) := by omega
  have e0 : s[0]? = some c := by rw [hl]; rfl
  have e0' := jx9_0 e0
  have hh : s.headD 0 = c := by rw [hl]; rfl
  by_cases h8 : (8 : Int) < (s.length : Int)
  ·have h8' : ¬ s.length ≤ 8 := by omega
   simp -implicitDefEqProofs (disch := first | assumption | omega | (simp only [nxB]; omega) | (simp only [oneB])) only [s56_j0, s56_b1, s56, xlen, evB, tabB, binB, h1, h8, decide_true, decide_false]
   exact W_some.2 ⟨by simp [nameB, h8'], .refl _⟩
  ·have h8' : s.length ≤ 8 := by omega
   simp -implicitDefEqProofs (disch := first | assumption | omega | (simp only [nxB]; omega) | (simp only [oneB])) only [s56_j0, s56_b1, s56, xlen, evB, tabB, binB, h1, h8, decide_false, e0']
   refine W_eff0 (letter_spec _) ?_
   cases hc : lettI (c.toNat : Int) with
   | false =>
    simp -implicitDefEqProofs (disch := first | assumption | omega | (simp only [nxB]; omega) | (simp only [oneB])) only [s56_j0, s56_b1, s56, xlen, evB, Bool.not_false]
    exact W_some.2 ⟨by unfold nameB; rw [hh]; simp [letB, hc], .refl _⟩
   | true =>
    simp -implicitDefEqProofs (disch := first | assumption | omega | (simp only [nxB]; omega) | (simp only [oneB])) only [s56_j0, s56_b1, s56, xlen, evB, Bool.not_true]
    refine W_eff (Word_spec s) ?_
    rintro _ H2 ⟨rfl, p2⟩
    refine ⟨p2.1, ?_⟩
    cases hw : wordB s with
    | true =>
     simp -implicitDefEqProofs (disch := first | assumption | omega | (simp only [nxB]; omega) | (simp only [oneB])) only [s56_j0, s56_b1, s56, xlen, evB]
     exact W_some.2 ⟨by simp [nameB, hw], p2⟩
    | false =>
     simp -implicitDefEqProofs (disch := first | assumption | omega | (simp only [nxB]; omega) | (simp only [oneB])) only [s56_j0, s56, xlen, evB]
     refine (Name_loop (H := H2) hs (s.length + 1) s 0 (s.length + 1) rfl (by omega) (by omega)).mono ?_
     rintro v H' ⟨rfl, e⟩
     exact ⟨by unfold nameB; rw [hh]; simp [hpos, h8', letB, hc, hw], by rw [e]; exact p2⟩
theorem cv53 (n : Int) : aconv P 5 3 (.int .u8 n) = some (.int .i64 (IntKind.i64.wrap n)) := by kernel_rfl
theorem quo3 (t : Bool) (a : Int) : fbin P .quo 3 t (.int .i64 a) (.int .i64 10) = some (.int .i64 (IntKind.i64.wrap (a.tdiv 10))) := by simp [fbin, intBin]
theorem mul3 (t : Bool) (a b : Int) : fbin P .mul 3 t (.int .i64 a) (.int .i64 b) = some (.int .i64 (IntKind.i64.wrap (a * b))) := fbin_mul _ _ _ _ _
theorem wrap_u8 {n : Int} (h0 : 0 ≤ n) (h1 : n ≤ 255) : IntKind.u8.wrap n = n := by
 show n % 256 = n
 omega
theorem whole_loop {H : AHeap} {s : Bs} (hs : s.length ≤ 1000000000000000000) (N : Nat) : ∀ (rest : Bs) (n m : Nat) (acc : Int), s.drop n = rest → n ≤ s.length → rest.length < m → 0 ≤ acc → acc ≤ 9223372036854775807 → (∀ c ∈ rest, digB c = true) →
  W (s58_l1 (evw P) N m (.str s) (.int .i64 acc) (.int .i64 n) H) fun v H' => v = (match wholeN acc rest with | some z => .tuple [.int .i64 z, .bool true] | none => .tuple [.int .i64 0, .bool false]) ∧ H' = H
 | _, _, 0, _, _, _, hm, _, _, _ => by omega
 | [], n, m + 1, acc, h, hn, hm, ha, ha', hd => by
  have := drop_nil h
  have h1 : ¬ ((n : Int) < (s.length : Int)) := by omega
  simp -implicitDefEqProofs (disch := first | assumption | omega | (simp only [nxB]; omega) | (simp only [oneB])) only [s58_l1, s58_j0, s58_b1, s58, xlen, AV.cells, splice, aload, astore, Nat.reduceAdd, Nat.reduceLeDiff, reduceIte, allB, h1, decide_false]
  exact W_some.2 ⟨by simp [wholeN], rfl⟩
 | c :: r, n, m + 1, acc, h, hn, hm, ha, ha', hd => by
  obtain ⟨e1, e2, e3, e4⟩ := drop_cons h
  have h1 : ((n : Int) < (s.length : Int)) := by omega
  have e1' := jx9 e1
  have hc := hd c (by simp)
  simp only [digB, diggI, Bool.and_eq_true, decide_eq_true_eq] at hc
  have w1 : IntKind.u8.wrap ((c.toNat : Int) - 48) = (c.toNat : Int) - 48 := wrap_u8 (by omega) (by omega)
  have w2 : IntKind.i64.wrap ((c.toNat : Int) - 48) = (c.toNat : Int) - 48 := wrap_i64 (by omega) (by omega)
  have w3 : IntKind.i64.wrap (9223372036854775807 - ((c.toNat : Int) - 48)) = 9223372036854775807 - ((c.toNat : Int) - 48) := wrap_i64 (by omega) (by omega)
  have w4 : (9223372036854775807 - ((c.toNat : Int) - 48)).tdiv 10 = (9223372036854775807 - ((c.toNat : Int) - 48)) / 10 := Int.tdiv_eq_ediv_of_nonneg (by omega)
  have w5 : IntKind.i64.wrap ((9223372036854775807 - ((c.toNat : Int) - 48)) / 10) = (9223372036854775807 - ((c.toNat : Int) - 48)) / 10 := wrap_i64 (by omega) (by omega)
  by_cases hg : (9223372036854775807 - ((c.toNat : Int) - 48)) / 10 < acc
  ·simp -implicitDefEqProofs (disch := first | assumption | omega | (simp only [nxB]; omega) | (simp only [oneB])) only [s58_l1, s58_j0, s58_b1, s58, xlen, AV.cells, splice, aload, astore, Nat.reduceAdd, Nat.reduceLeDiff, reduceIte, allB, h1, decide_true, e1', w1, w2, w3, w4, w5, quo3, xconv, cv53, hg]
   exact W_some.2 ⟨by simp [wholeN, hg], rfl⟩
  ·have w6 : IntKind.i64.wrap (10 * acc) = 10 * acc := wrap_i64 (by omega) (by omega)
   have w7 : IntKind.i64.wrap (10 * acc + ((c.toNat : Int) - 48)) = 10 * acc + ((c.toNat : Int) - 48) := wrap_i64 (by omega) (by omega)
   have ih := whole_loop (H := H) hs N r (n + 1) m (10 * acc + ((c.toNat : Int) - 48)) e2 (by omega) (by simp at hm; omega) (by omega) (by omega) (fun c hc => hd c (by simp [hc]))
   simp -implicitDefEqProofs (disch := first | assumption | omega | (simp only [nxB]; omega) | (simp only [oneB])) only [s58_l1, s58_j0, s58_b1, s58, xlen, AV.cells, splice, aload, astore, Nat.reduceAdd, Nat.reduceLeDiff, reduceIte, allB, h1, decide_true, e1', w1, w2, w3, w4, w5, w6, w7, quo3, mul3, xconv, cv53, hg, decide_false, wn1]
   refine ih.mono ?_
   rintro v H' ⟨rfl, e⟩
   exact ⟨by rw [wholeN, if_neg hg], e⟩
theorem runN_dig : ∀ (s : Bs), ∀ c ∈ s.take (runN true s), digB c = true
 | [], c, h => by simp [runN] at h
 | x :: r, c, h => by
  rw [runN] at h
  cases hx : digB x with
  | true =>
   simp only [hx, Bool.true_or, cond_true, List.take_succ_cons, List.mem_cons] at h
   rcases h with rfl | h
   ·exact hx
   ·exact runN_dig r c h
  | false => simp [hx] at h
theorem whole_spec' {H : AHeap} {s : Bs} (hs : s.length ≤ 1000000000000000000) (hd : ∀ c ∈ s, digB c = true) : W (evw P 58 [.str s] H) fun v H' => v = (match wholeN 0 s with | some z => .tuple [.int .i64 z, .bool true] | none => .tuple [.int .i64 0, .bool false]) ∧ H' = H := by
 refine W_of (fun _ => run58 (s.length + 1)) ?_
 rw [s58]
 exact whole_loop hs (s.length + 1) s 0 (s.length + 1) 0 rfl (by omega) (by omega) (by omega) (by omega) hd
theorem une9 : P.underlying 9 = some .string := by kernel_rfl
theorem sl9 {s : List UInt8} {a b : Nat} (h1 : a ≤ b) (h2 : b ≤ s.length) : aslice P 9 (.str s) (some (.int .i64 (a : Int))) (some (.int .i64 (b : Int))) none = some (.str ((s.drop a).take (b - a))) := by
 have e1 : abound (some (.int .i64 (b : Int))) s.length s.length = some b := by simp [abound]; omega
 have e2 : abound (some (.int .i64 (a : Int))) 0 b = some a := by simp [abound]; omega
 simp only [aslice, une9, e1, e2]
def onesS (s : Bs) : Bs := match s with
 | c :: _ => bif memC c onesL then [c] else []
 | [] => []
theorem ones_loop {H : AHeap} {s : Bs} {at_ : Nat} {c : UInt8} (hc : s[at_]? = some c) (N : Nat) : ∀ (rest : Bs) (j m : Nat), onesL.drop j = rest → j ≤ 18 → rest.length < m →
  W (s59_l2 (evw P) N m (.str s) (.int .i64 at_) (.str onesL) (.int .i64 j) H) fun v H' => v = .str (bif memC c rest then [c] else []) ∧ H' = H
 | _, _, 0, _, _, hm => by omega
 | [], j, m + 1, h, hj, hm => by
  have := drop_nil h
  have hl : onesL.length = 18 := rfl
  have h1 : ¬ ((j : Int) < (onesL.length : Int)) := by omega
  simp -implicitDefEqProofs (disch := first | assumption | omega | (simp only [nxB]; omega) | (simp only [oneB])) only [s59_l2, s59_j1, s59_b2, s59_j0, s59_b3, s59_35, s59, xlen, AV.cells, splice, aload, astore, Nat.reduceAdd, Nat.reduceLeDiff, reduceIte, allB, h1, decide_false]
  exact W_some.2 ⟨by simp [memC], rfl⟩
 | y :: r, j, m + 1, h, hj, hm => by
  obtain ⟨e1, e2, e3, e4⟩ := drop_cons h
  have hl : onesL.length = 18 := rfl
  have h1 : ((j : Int) < (onesL.length : Int)) := by omega
  have e1' := jx9 e1
  have hc' := jx9 hc
  have ih := ones_loop (H := H) hc N r (j + 1) m e2 (by omega) (by simp at hm; omega)
  have hsl := sl9 (s := onesL) (a := j) (b := j + 1) (by omega) (by omega)
  have e5 : (onesL.drop j).take (j + 1 - j) = [y] := by rw [h, Nat.add_sub_cancel_left]; rfl
  rw [e5] at hsl
  cases he : ((c.toNat : Int) == (y.toNat : Int)) with
  | true =>
   have hcy : c = y := by
    have : (c.toNat : Int) = (y.toNat : Int) := by simpa using he
    exact UInt8.toNat_inj.1 (by omega)
   have he2 : (c.toNat == y.toNat) = true := by rw [hcy]; simp
   simp -implicitDefEqProofs (disch := first | assumption | omega | (simp only [nxB]; omega) | (simp only [oneB])) only [s59_l2, s59_j1, s59_b2, s59_j0, s59_b3, s59_35, s59, xlen, AV.cells, splice, aload, astore, Nat.reduceAdd, Nat.reduceLeDiff, reduceIte, allB, h1, decide_true, e1', hc', he, wn1, hsl]
   exact W_some.2 ⟨by simp [memC, he2, hcy], rfl⟩
  | false =>
   have he2 : (c.toNat == y.toNat) = false := by
    have : ¬ (c.toNat : Int) = (y.toNat : Int) := by simpa using he
    simp; omega
   simp -implicitDefEqProofs (disch := first | assumption | omega | (simp only [nxB]; omega) | (simp only [oneB])) only [s59_l2, s59_j1, s59_b2, s59_j0, s59_b3, s59_35, s59, xlen, AV.cells, splice, aload, astore, Nat.reduceAdd, Nat.reduceLeDiff, reduceIte, allB, h1, decide_true, e1', hc', he, wn1]
   refine ih.mono ?_
   rintro v H' ⟨rfl, e⟩
   exact ⟨by simp [memC, he2], e⟩
theorem ones_spec {H : AHeap} {s : Bs} {at_ : Nat} {c : UInt8} (hc : s[at_]? = some c) {N : Nat} (hN : 18 < N) : W (s59_j0 (evw P) N (.str s) (.int .i64 at_) H) fun v H' => v = .str (bif memC c onesL then [c] else []) ∧ H' = H := by
 rw [s59_j0]
 exact ones_loop hc N onesL 0 N rfl (by omega) (by simp [onesL]; omega)
theorem two_loop {H : AHeap} {s : Bs} (hs : s.length ≤ 1000000000000000000) {at_ : Nat} {c : UInt8} {r : Bs} (hd : s.drop at_ = c :: r) {l : Nat} {N : Nat} (hN : 18 < N) (hg : H.get l = some (.row false 1 (twosL.map fun y => [AV.str y]))) : ∀ (rest pre : List Bs), twosL = pre ++ rest → ∀ (m : Nat), rest.length < m →
  W (s59_l3 (evw P) N m (.str s) (.int .i64 at_) (.sl l 0 5 1 (some 5)) (.int .i64 pre.length) H) fun v H' => v = .str (bif decide (2 ≤ (s.drop at_).length) && memB ((s.drop at_).take 2) rest then (s.drop at_).take 2 else bif memC c onesL then [c] else []) ∧ H' = H
 | _, _, _, 0, hm => by omega
 | [], pre, hp, m + 1, hm => by
  have hl : pre.length = 5 := by have := congrArg List.length hp; simpa [twosL] using this.symm
  have h1 : ¬ ((pre.length : Int) < ((5 : Nat) : Int)) := by omega
  obtain ⟨e1, e2, e3, e4⟩ := drop_cons hd
  simp -implicitDefEqProofs (disch := first | assumption | omega | (simp only [nxB]; omega) | (simp only [oneB])) only [s59_l3, s59_j1, s59_b3, s59_35, s59, xlen, AV.cells, splice, aload, astore, Nat.reduceAdd, Nat.reduceLeDiff, reduceIte, allB, h1, decide_false]
  refine (ones_spec e1 hN).mono ?_
  rintro v H' ⟨rfl, e⟩
  exact ⟨by simp [memB], e⟩
 | y :: ys, pre, hp, m + 1, hm => by
  obtain ⟨e1, e2, e3, e4⟩ := drop_cons hd
  have hl : pre.length + (ys.length + 1) = 5 := by have := congrArg List.length hp; simpa [twosL] using this.symm
  have h1 : ((pre.length : Int) < ((5 : Nat) : Int)) := by omega
  have h0 : (0 : Int) ≤ (pre.length : Int) := by omega
  have t1 : ((pre.length : Int)).toNat = pre.length := by omega
  have he : (twosL.map fun y => [AV.str y])[pre.length]? = some [AV.str y] := by rw [hp]; simp
  have hw : ((pre ++ [y]).length : Int) = ((pre.length + 1 : Nat) : Int) := by simp
  have ih := two_loop (H := H) hs hd hN hg ys (pre ++ [y]) (by simp [hp]) m (by simp at hm; omega)
  rw [hw] at ih
  have hdl : (s.drop at_).length = s.length - at_ := by simp
  have wsb : IntKind.i64.wrap ((s.length : Int) - (at_ : Int)) = ((s.length - at_ : Nat) : Int) := wns s.length at_ (by omega) (by omega)
  have hgl := AHeap.get_lt hg
  by_cases h2 : (2 : Int) ≤ ((s.length - at_ : Nat) : Int)
  ·have h2' : decide (2 ≤ (s.drop at_).length) = true := by rw [hdl]; simp; omega
   have hsl := sl9 (s := s) (a := at_) (b := at_ + 2) (by omega) (by omega)
   rw [Nat.add_sub_cancel_left] at hsl
   cases hc : ((s.drop at_).take 2 == y) with
   | true =>
    have hy : (s.drop at_).take 2 = y := by simpa using hc
    have hyy : (y == (s.drop at_).take 2) = true := by rw [hy]; simp
    simp -implicitDefEqProofs (disch := first | assumption | omega | (simp only [nxB]; omega) | (simp only [oneB])) only [s59_l3, s59_j1, s59_b3, s59_35, s59, xlen, AV.cells, splice, aload, astore, Nat.reduceAdd, Nat.reduceLeDiff, reduceIte, allB, h1, decide_true, wsb, h2, wn2, hsl, hg, he, t1, hc]
    exact W_some.2 ⟨by rw [memB, h2', hyy]; rw [hy]; rfl, rfl⟩
   | false =>
    have hyy : (y == (s.drop at_).take 2) = false := by
     have : ¬ (s.drop at_).take 2 = y := by simpa using hc
     simp; exact fun e => this e.symm
    simp -implicitDefEqProofs (disch := first | assumption | omega | (simp only [nxB]; omega) | (simp only [oneB])) only [s59_l3, s59_j1, s59_b3, s59_35, s59, xlen, AV.cells, splice, aload, astore, Nat.reduceAdd, Nat.reduceLeDiff, reduceIte, allB, h1, decide_true, wsb, h2, wn2, hsl, hg, he, t1, hc, wn1]
    refine ih.mono ?_
    rintro v H' ⟨rfl, e⟩
    exact ⟨by simp only [memB, hyy, Bool.false_or], e⟩
  ·have h2' : decide (2 ≤ (s.drop at_).length) = false := by rw [hdl]; simp; omega
   simp -implicitDefEqProofs (disch := first | assumption | omega | (simp only [nxB]; omega) | (simp only [oneB])) only [s59_l3, s59_j1, s59_b3, s59_35, s59, xlen, AV.cells, splice, aload, astore, Nat.reduceAdd, Nat.reduceLeDiff, reduceIte, allB, h1, decide_true, wsb, h2, decide_false, wn1]
   refine ih.mono ?_
   rintro v H' ⟨rfl, e⟩
   exact ⟨by simp only [h2', Bool.false_and], e⟩
theorem sign_spec {H : AHeap} {s : Bs} (hs : s.length ≤ 1000000000000000000) {at_ : Nat} (ha : at_ < s.length) : W (evw P 59 [.str s, .int .i64 at_] H) fun v H' => v = .str (signN (s.drop at_)) ∧ Pur H H' := by
 refine W_of (fun _ => run59 30) ?_
 obtain ⟨c, r, hd⟩ : ∃ c r, s.drop at_ = c :: r := by
  cases h : s.drop at_ with
  | nil => have := drop_nil h; omega
  | cons c r => exact ⟨c, r, rfl⟩
 rw [s59]
 simp only [xmake_some]
 rw [s59_35]
 refine (two_loop (H := H.push _) hs hd (by omega) (AHeap.get_push_same _ _) twosL [] rfl 30 (by decide)).mono ?_
 rintro v H' ⟨rfl, rfl⟩
 refine ⟨?_, Pur.push _ _⟩
 rw [hd]; rfl
theorem rem_loop {H : AHeap} {s : Bs} (hs : s.length ≤ 1000000000000000000) (L1 : AV → AV → AHeap → O) (N : Nat) (Q : AV → AHeap → Prop) : ∀ (rest : Bs) (at_ m : Nat), s.drop at_ = rest → at_ ≤ s.length → rest.length < m →
  (∀ (k : Nat), (∀ c' r', rest = c' :: r' → c'.toNat ≠ 10 → 0 < k) → at_ + k ≤ s.length → (s.drop (at_ + k)).length ≤ rest.length → k + blankN false (s.drop (at_ + k)) = blankN true rest → W (L1 (.str s) (.int .i64 ((at_ + k : Nat) : Int)) H) Q) →
  W (s32_l2 (evw P) N L1 m (.str s) (.int .i64 at_) H) Q
 | _, _, 0, _, _, hm, _ => by omega
 | [], at_, m + 1, h, ha, hm, hk => by
  have := drop_nil h
  have h1 : ¬ ((at_ : Int) < (s.length : Int)) := by omega
  simp -implicitDefEqProofs (disch := first | assumption | omega | (simp only [nxB]; omega) | (simp only [oneB])) only [s32_l2, s32_j0, s32_b2, s32, xlen, AV.cells, splice, aload, astore, Nat.reduceAdd, Nat.reduceLeDiff, reduceIte, allB, h1, decide_false]
  exact hk 0 (fun _ _ e => by cases e) ha (by simpa using congrArg List.length h) (by simp [h, blankN])
 | c :: r, at_, m + 1, h, ha, hm, hk => by
  obtain ⟨e1, e2, e3, e4⟩ := drop_cons h
  have h1 : ((at_ : Int) < (s.length : Int)) := by omega
  have e1' := jx9 e1
  cases hc : ((c.toNat : Int) != 10) with
  | false =>
   have hc' : c.toNat = 10 := by
    have : (c.toNat : Int) = 10 := by simpa using hc
    omega
   simp -implicitDefEqProofs (disch := first | assumption | omega | (simp only [nxB]; omega) | (simp only [oneB])) only [s32_l2, s32_j0, s32_b2, s32, xlen, AV.cells, splice, aload, astore, Nat.reduceAdd, Nat.reduceLeDiff, reduceIte, allB, h1, decide_true, e1', hc]
   refine hk 0 (fun _ _ e hn => by cases e; exact absurd hc' hn) ha (by simp only [Nat.add_zero, h]; omega) ?_
   simp [h, blankN, isBlank, hc']
  | true =>
   have hc' : (c.toNat == 10) = false := by
    have : ¬ (c.toNat : Int) = 10 := by simpa using hc
    simp; omega
   simp -implicitDefEqProofs (disch := first | assumption | omega | (simp only [nxB]; omega) | (simp only [oneB])) only [s32_l2, s32_j0, s32_b2, s32, xlen, AV.cells, splice, aload, astore, Nat.reduceAdd, Nat.reduceLeDiff, reduceIte, allB, h1, decide_true, e1', hc, wn1]
   refine rem_loop hs L1 N Q r (at_ + 1) m e2 (by omega) (by simp at hm; omega) (fun k _ h1 h2 h3 => ?_)
   have hka : at_ + 1 + k = at_ + (k + 1) := by omega
   rw [hka] at h1 h2 h3 ⊢
   refine hk (k + 1) (fun _ _ _ _ => by omega) h1 (by simp only [List.length_cons]; omega) ?_
   simp only [blankN, hc', cond_false]
   omega
theorem blank_loop {H : AHeap} {s : Bs} (hs : s.length ≤ 1000000000000000000) (N : Nat) (hN : s.length < N) : ∀ (q : Nat) (rest : Bs) (at_ m : Nat), rest.length ≤ q → s.drop at_ = rest → at_ ≤ s.length → rest.length < m →
  W (s32_l1 (evw P) N m (.str s) (.int .i64 at_) H) fun v H' => v = .int .i64 ((at_ + blankN false rest : Nat) : Int) ∧ H' = H
 | _, _, _, 0, _, _, _, hm => by omega
 | _, [], at_, m + 1, _, h, ha, hm => by
  have := drop_nil h
  have h1 : ¬ ((at_ : Int) < (s.length : Int)) := by omega
  simp -implicitDefEqProofs (disch := first | assumption | omega | (simp only [nxB]; omega) | (simp only [oneB])) only [s32_l1, s32_j0, s32_b1, s32, xlen, AV.cells, splice, aload, astore, Nat.reduceAdd, Nat.reduceLeDiff, reduceIte, allB, h1, decide_false]
  exact W_some.2 ⟨by simp [blankN], rfl⟩
 | 0, c :: r, at_, m + 1, hq, h, ha, hm => by simp at hq
 | q + 1, c :: r, at_, m + 1, hq, h, ha, hm => by
  obtain ⟨e1, e2, e3, e4⟩ := drop_cons h
  have h1 : ((at_ : Int) < (s.length : Int)) := by omega
  have e1' := jx9 e1
  simp only [List.length_cons] at hq hm
  have ihn : isBlank c = true → W (s32_l1 (evw P) N m (.str s) (.int .i64 ((at_ + 1 : Nat) : Int)) H) fun v H' => v = .int .i64 ((at_ + blankN false (c :: r) : Nat) : Int) ∧ H' = H := by
   intro hb
   refine (blank_loop (H := H) hs N hN q r (at_ + 1) m (by omega) e2 (by omega) (by omega)).mono ?_
   rintro v H' ⟨rfl, e⟩
   have e' : at_ + 1 + blankN false r = at_ + blankN false (c :: r) := by
    rw [blankN, hb, cond_true]; omega
   exact ⟨by rw [e'], e⟩
  have q32 : ((c.toNat : Int) == 32) = (c.toNat == 32) := by rw [Bool.eq_iff_iff]; simp; omega
  have q9 : ((c.toNat : Int) == 9) = (c.toNat == 9) := by rw [Bool.eq_iff_iff]; simp; omega
  have q10 : ((c.toNat : Int) == 10) = (c.toNat == 10) := by rw [Bool.eq_iff_iff]; simp; omega
  have q13 : ((c.toNat : Int) == 13) = (c.toNat == 13) := by rw [Bool.eq_iff_iff]; simp; omega
  cases c32 : c.toNat == 32 with
  | true =>
   simp -implicitDefEqProofs (disch := first | assumption | omega | (simp only [nxB]; omega) | (simp only [oneB])) only [s32_l1, s32_j0, s32_b1, s32, xlen, AV.cells, splice, aload, astore, Nat.reduceAdd, Nat.reduceLeDiff, reduceIte, allB, h1, decide_true, e1', q32, c32, wn1]
   exact ihn (by simp only [isBlank, c32, Bool.true_or])
  | false =>
   cases c9 : c.toNat == 9 with
   | true =>
    simp -implicitDefEqProofs (disch := first | assumption | omega | (simp only [nxB]; omega) | (simp only [oneB])) only [s32_l1, s32_j0, s32_b1, s32, xlen, AV.cells, splice, aload, astore, Nat.reduceAdd, Nat.reduceLeDiff, reduceIte, allB, h1, decide_true, e1', q32, c32, q9, c9, wn1]
    exact ihn (by simp only [isBlank, c9, Bool.true_or, Bool.or_true])
   | false =>
    cases c10 : c.toNat == 10 with
    | true =>
     simp -implicitDefEqProofs (disch := first | assumption | omega | (simp only [nxB]; omega) | (simp only [oneB])) only [s32_l1, s32_j0, s32_b1, s32, xlen, AV.cells, splice, aload, astore, Nat.reduceAdd, Nat.reduceLeDiff, reduceIte, allB, h1, decide_true, e1', q32, c32, q9, c9, q10, c10, wn1]
     exact ihn (by simp only [isBlank, c10, Bool.true_or, Bool.or_true])
    | false =>
     cases c13 : c.toNat == 13 with
     | true =>
      simp -implicitDefEqProofs (disch := first | assumption | omega | (simp only [nxB]; omega) | (simp only [oneB])) only [s32_l1, s32_j0, s32_b1, s32, xlen, AV.cells, splice, aload, astore, Nat.reduceAdd, Nat.reduceLeDiff, reduceIte, allB, h1, decide_true, e1', q32, c32, q9, c9, q10, c10, q13, c13, wn1]
      exact ihn (by simp only [isBlank, c13, Bool.or_true])
     | false =>
      have hnb : isBlank c = false := by simp only [isBlank, c32, c9, c10, c13, Bool.or_self]
      have wsb : IntKind.i64.wrap ((s.length : Int) - (at_ : Int)) = ((s.length - at_ : Nat) : Int) := wns s.length at_ (by omega) (by omega)
      have hno : (c == 47 && r.head? == some 47) = false → blankN false (c :: r) = 0 := fun hh => by rw [blankN, hnb, cond_false, hh, cond_false]
      by_cases h2 : (2 : Int) ≤ ((s.length - at_ : Nat) : Int)
      ·have hsl := sl9 (s := s) (a := at_) (b := at_ + 2) (by omega) (by omega)
       rw [Nat.add_sub_cancel_left, h] at hsl
       obtain ⟨y, ys, rfl⟩ : ∃ y ys, r = y :: ys := by
        cases r with
        | nil => simp at e4; omega
        | cons y ys => exact ⟨y, ys, rfl⟩
       simp only [List.take_succ_cons, List.take_zero] at hsl
       cases hr : (([c, y] : Bs) == [47, 47]) with
       | true =>
        have hcy : c = 47 ∧ y = 47 := by simpa using hr
        obtain ⟨rfl, rfl⟩ := hcy
        simp -implicitDefEqProofs (disch := first | assumption | omega | (simp only [nxB]; omega) | (simp only [oneB])) only [s32_l1, s32_j0, s32_b1, s32, xlen, AV.cells, splice, aload, astore, Nat.reduceAdd, Nat.reduceLeDiff, reduceIte, allB, h1, decide_true, e1', q32, c32, q9, c9, q10, c10, q13, c13, wsb, h2, wn2, hsl, hr]
        refine rem_loop hs (s32_l1 (evw P) N m) N _ (47 :: 47 :: ys) at_ N h ha (by simp only [List.length_cons] at e4 ⊢; omega) (fun k k0 k1 k2 k3 => ?_)
        have kp := k0 47 _ rfl (by decide)
        have hle : (s.drop (at_ + k)).length ≤ q := by
         simp only [List.length_drop, List.length_cons] at hq e4 ⊢
         omega
        refine (blank_loop (H := H) hs N hN q (s.drop (at_ + k)) (at_ + k) m hle rfl k1 (by simp only [List.length_drop, List.length_cons] at hm e4 ⊢; omega)).mono ?_
        rintro v H' ⟨rfl, e⟩
        have hb : blankN false (47 :: 47 :: ys) = blankN true (47 :: 47 :: ys) := by
         have e1 : blankN false (47 :: 47 :: ys) = blankN true (47 :: ys) + 1 := rfl
         have e2 : blankN true (47 :: 47 :: ys) = blankN true (47 :: ys) + 1 := rfl
         rw [e1, e2]
        refine ⟨?_, e⟩
        rw [hb, ← k3, Nat.add_assoc]
       | false =>
        have hh : (c == 47 && (y :: ys).head? == some 47) = false := by
         have : ¬ (c = 47 ∧ y = 47) := by simpa using hr
         simpa using this
        simp -implicitDefEqProofs (disch := first | assumption | omega | (simp only [nxB]; omega) | (simp only [oneB])) only [s32_l1, s32_j0, s32_b1, s32, xlen, AV.cells, splice, aload, astore, Nat.reduceAdd, Nat.reduceLeDiff, reduceIte, allB, h1, decide_true, e1', q32, c32, q9, c9, q10, c10, q13, c13, wsb, h2, wn2, hsl, hr]
        exact W_some.2 ⟨by rw [hno hh, Nat.add_zero], rfl⟩
      ·have hr : r = [] := by
        cases r with
        | nil => rfl
        | cons y ys => simp only [List.length_cons] at e4; omega
       have hh : (c == 47 && r.head? == some 47) = false := by rw [hr]; simp
       simp -implicitDefEqProofs (disch := first | assumption | omega | (simp only [nxB]; omega) | (simp only [oneB])) only [s32_l1, s32_j0, s32_b1, s32, xlen, AV.cells, splice, aload, astore, Nat.reduceAdd, Nat.reduceLeDiff, reduceIte, allB, h1, decide_true, e1', q32, c32, q9, c9, q10, c10, q13, c13, wsb, h2, decide_false]
       exact W_some.2 ⟨by rw [hno hh, Nat.add_zero], rfl⟩
theorem blank_spec {H : AHeap} {s : Bs} (hs : s.length ≤ 1000000000000000000) {at_ : Nat} (ha : at_ ≤ s.length) : W (evw P 32 [.str s, .int .i64 at_] H) fun v H' => v = .int .i64 ((at_ + blankN false (s.drop at_) : Nat) : Int) ∧ H' = H := by
 refine W_of (fun _ => run32 (s.length + 1)) ?_
 rw [s32]
 exact blank_loop hs (s.length + 1) (by omega) s.length (s.drop at_) at_ (s.length + 1) (by simp) rfl ha (by simp; omega)
end Go.Proofs.Ytnjoomfeddamcaa

namespace Go.Proofs.Ytnjoomfeddamcaa
open Go.Ev
theorem bd65w (k : Int) (x : Bs) (p : Int) : abuild P 65 [(0, .int .i64 k), (1, .str x), (3, .int .i64 p)] = some (.agg [.int .i64 k, .str x, .int .i64 0, .int .i64 p]) := by kernel_rfl
theorem bd65n (k : Int) (z : Int) (p : Int) : abuild P 65 [(0, .int .i64 k), (2, .int .i64 z), (3, .int .i64 p)] = some (.agg [.int .i64 k, .str [], .int .i64 z, .int .i64 p]) := by kernel_rfl
theorem bd65e (k : Int) (p : Int) : abuild P 65 [(0, .int .i64 k), (3, .int .i64 p)] = some (.agg [.int .i64 k, .str [], .int .i64 0, .int .i64 p]) := by kernel_rfl
theorem runN_le (d : Bool) : ∀ s : Bs, runN d s ≤ s.length
 | [] => Nat.le_refl _
 | c :: r => by
  rw [runN]
  have := runN_le d r
  cases digB c || (!d && letB c) with
  | true => simp only [cond_true, List.length_cons]; omega
  | false => simp only [cond_false, List.length_cons]; omega
def oneV (p : Nat) : Option (Int × Bs × Int × Nat) → AV
 | none => .tuple [.agg [.int .i64 0, .str [], .int .i64 0, .int .i64 0], .int .i64 0]
 | some (k, t, v, m) => .tuple [.agg [.int .i64 k, .str t, .int .i64 v, .int .i64 p], .int .i64 m]
theorem one_spec {H : AHeap} {s : Bs} (hs : s.length ≤ 1000000000000000000) {at_ : Nat} (ha : at_ < s.length) : W (evw P 33 [.str s, .int .i64 at_] H) fun v H' => v = oneV at_ (oneN (s.drop at_)) ∧ Pur H H' := by
 refine W_of (fun _ => run33 0) ?_
 obtain ⟨c, r, hd⟩ : ∃ c r, s.drop at_ = c :: r := by
  cases h : s.drop at_ with
  | nil => have := drop_nil h; omega
  | cons c r => exact ⟨c, r, rfl⟩
 obtain ⟨e1, e2, e3, e4⟩ := drop_cons hd
 have e1' := jx9 e1
 have p1 := Pur.push H (.row false 4 [[.int .i64 0, .str [], .int .i64 0, .int .i64 0]])
 have hrl := fun d => runN_le d (s.drop at_)
 have hdl : (s.drop at_).length = s.length - at_ := by simp
 simp -implicitDefEqProofs (disch := first | assumption | omega | (simp only [nxB]; omega) | (simp only [oneB])) only [s33, xlen, AV.cells, splice, aload, astore, Nat.reduceAdd, Nat.reduceLeDiff, reduceIte, allB, e1']
 refine W_call0 (letter_spec _) ?_
 cases hl : lettI (c.toNat : Int) with
 | true =>
  simp -implicitDefEqProofs (disch := first | assumption | omega | (simp only [nxB]; omega) | (simp only [oneB])) only [s33, xlen, evB]
  refine W_call0 (run_spec hs at_ (by omega) false) ?_
  have hr := hrl false
  have hsl := sl9 (s := s) (a := at_) (b := at_ + runN false (s.drop at_)) (by omega) (by omega)
  rw [Nat.add_sub_cancel_left] at hsl
  simp -implicitDefEqProofs (disch := first | assumption | omega | (simp only [nxB]; omega) | (simp only [oneB])) only [s33, xlen, evB, binB, wnn, hsl]
  refine W_call (Word_spec _) ?_
  rintro _ H2 ⟨rfl, p2⟩
  refine ⟨p2.1, ?_⟩
  have g2 : H2.get H.next = some (.row false 4 [[.int .i64 0, .str [], .int .i64 0, .int .i64 0]]) := p2.get (AHeap.get_push_same _ _)
  have l2 := AHeap.get_lt g2
  have hone : oneN (s.drop at_) = (bif wordB ((s.drop at_).take (runN false (s.drop at_))) then some (3, (s.drop at_).take (runN false (s.drop at_)), 0, runN false (s.drop at_)) else bif nameB ((s.drop at_).take (runN false (s.drop at_))) then some (1, (s.drop at_).take (runN false (s.drop at_)), 0, runN false (s.drop at_)) else none) := by
   have hlb : letB c = true := hl
   simp only [hd, oneN, hlb, cond_true]
  cases hw : wordB ((s.drop at_).take (runN false (s.drop at_))) with
  | true =>
   rw [hone, hw]
   simp -implicitDefEqProofs (disch := first | assumption | omega | (simp only [nxB]; omega) | (simp only [oneB])) only [s33, xlen, AV.cells, splice, aload, astore, Nat.reduceAdd, Nat.reduceLeDiff, reduceIte, allB, bd65w, g2]
   exact W_some.2 ⟨rfl, (p1.trans p2).then_set (Nat.le_refl _) _⟩
  | false =>
   rw [hone, hw]
   simp -implicitDefEqProofs (disch := first | assumption | omega | (simp only [nxB]; omega) | (simp only [oneB])) only [s33, xlen, evB]
   refine W_call (Name_spec (by simp only [List.length_take]; omega)) ?_
   rintro _ H3 ⟨rfl, p3⟩
   refine ⟨p3.1, ?_⟩
   have g3 := p3.get g2
   have l3 := AHeap.get_lt g3
   cases hn : nameB ((s.drop at_).take (runN false (s.drop at_))) with
   | true =>
    simp -implicitDefEqProofs (disch := first | assumption | omega | (simp only [nxB]; omega) | (simp only [oneB])) only [s33, xlen, AV.cells, splice, aload, astore, Nat.reduceAdd, Nat.reduceLeDiff, reduceIte, allB, bd65w, g3]
    exact W_some.2 ⟨rfl, ((p1.trans p2).trans p3).then_set (Nat.le_refl _) _⟩
   | false =>
    simp -implicitDefEqProofs (disch := first | assumption | omega | (simp only [nxB]; omega) | (simp only [oneB])) only [s33, xlen, AV.cells, splice, aload, astore, Nat.reduceAdd, Nat.reduceLeDiff, reduceIte, allB, g3]
    exact W_some.2 ⟨rfl, ((p1.trans p2).trans p3).then_set (Nat.le_refl _) _⟩
 | false =>
  simp -implicitDefEqProofs (disch := first | assumption | omega | (simp only [nxB]; omega) | (simp only [oneB])) only [s33, xlen, evB, e1']
  refine W_call0 (digit_spec _) ?_
  have hlb : letB c = false := hl
  have g1 : (H.push (.row false 4 [[.int .i64 0, .str [], .int .i64 0, .int .i64 0]])).get H.next = some (.row false 4 [[.int .i64 0, .str [], .int .i64 0, .int .i64 0]]) := AHeap.get_push_same _ _
  cases hg : diggI (c.toNat : Int) with
  | true =>
   have hgb : digB c = true := hg
   simp -implicitDefEqProofs (disch := first | assumption | omega | (simp only [nxB]; omega) | (simp only [oneB])) only [s33, xlen, evB]
   refine W_call0 (run_spec hs at_ (by omega) true) ?_
   have hr := hrl true
   have hsl := sl9 (s := s) (a := at_) (b := at_ + runN true (s.drop at_)) (by omega) (by omega)
   rw [Nat.add_sub_cancel_left] at hsl
   simp -implicitDefEqProofs (disch := first | assumption | omega | (simp only [nxB]; omega) | (simp only [oneB])) only [s33, xlen, evB, binB, wnn, hsl]
   refine W_call0 (whole_spec' (by simp only [List.length_take]; omega) (fun c hc => runN_dig _ c hc)) ?_
   have hone : oneN (s.drop at_) = (match wholeN 0 ((s.drop at_).take (runN true (s.drop at_))) with
    | none => none
    | some v => bif (decide (1 < runN true (s.drop at_)) && c.toNat == 48) || (decide (runN true (s.drop at_) < (s.drop at_).length) && letB (((s.drop at_)[runN true (s.drop at_)]?).getD 0)) then none else some (2, [], v, runN true (s.drop at_))) := by
    simp only [hd, oneN, hlb, hgb, cond_true, cond_false] <;> rfl
   rw [hone]
   cases hv : wholeN 0 ((s.drop at_).take (runN true (s.drop at_))) with
   | none =>
    simp -implicitDefEqProofs (disch := first | assumption | omega | (simp only [nxB]; omega) | (simp only [oneB])) only [s33, xlen, AV.cells, splice, aload, astore, Nat.reduceAdd, Nat.reduceLeDiff, reduceIte, allB, Bool.not_false, g1]
    exact W_some.2 ⟨rfl, Pur.push _ _⟩
   | some z =>
    generalize hR : runN true (s.drop at_) = R at *
    have q1 : decide (1 < R) = decide ((1 : Int) < (R : Int)) := by rw [decide_eq_decide]; omega
    have q48 : ((c.toNat : Int) == 48) = (c.toNat == 48) := by rw [Bool.eq_iff_iff]; simp; omega
    have q2 : decide (R < (s.drop at_).length) = decide (((at_ + R : Nat) : Int) < (s.length : Int)) := by rw [decide_eq_decide, hdl]; omega
    rw [q1, q2]
    simp only
    cases h1 : decide ((1 : Int) < (R : Int)) with
    | true =>
     cases h48 : c.toNat == 48 with
     | true =>
      simp -implicitDefEqProofs (disch := first | assumption | omega | (simp only [nxB]; omega) | (simp only [oneB])) only [s33, xlen, AV.cells, splice, aload, astore, Nat.reduceAdd, Nat.reduceLeDiff, reduceIte, allB, Bool.not_true, h1, e1', q48, h48, g1]
      exact W_some.2 ⟨rfl, Pur.push _ _⟩
     | false =>
      cases h2 : decide (((at_ + R : Nat) : Int) < (s.length : Int)) with
      | false =>
       simp -implicitDefEqProofs (disch := first | assumption | omega | (simp only [nxB]; omega) | (simp only [oneB])) only [s33, xlen, AV.cells, splice, aload, astore, Nat.reduceAdd, Nat.reduceLeDiff, reduceIte, allB, Bool.not_true, h1, e1', q48, h48, wnn, h2, g1, bd65n]
       exact W_some.2 ⟨rfl, Pur.push _ _⟩
      | true =>
       obtain ⟨y, hy⟩ : ∃ y, s[at_ + R]? = some y := ⟨s[at_ + R]'(by have := of_decide_eq_true h2; omega), by simp⟩
       have hy' := jx9 hy
       have hy2 : (s.drop at_)[R]? = some y := by rw [List.getElem?_drop]; exact hy
       simp -implicitDefEqProofs (disch := first | assumption | omega | (simp only [nxB]; omega) | (simp only [oneB])) only [s33, xlen, AV.cells, splice, aload, astore, Nat.reduceAdd, Nat.reduceLeDiff, reduceIte, allB, Bool.not_true, h1, e1', q48, h48, wnn, h2, hy']
       refine W_eff0 (letter_spec _) ?_
       rw [hy2]
       cases hyl : lettI (y.toNat : Int) with
       | true =>
        have hyb : letB y = true := hyl
        simp -implicitDefEqProofs (disch := first | assumption | omega | (simp only [nxB]; omega) | (simp only [oneB])) only [s33, xlen, AV.cells, splice, aload, astore, Nat.reduceAdd, Nat.reduceLeDiff, reduceIte, allB, g1, Option.getD_some, hyb]
        exact W_some.2 ⟨rfl, Pur.push _ _⟩
       | false =>
        have hyb : letB y = false := hyl
        simp -implicitDefEqProofs (disch := first | assumption | omega | (simp only [nxB]; omega) | (simp only [oneB])) only [s33, xlen, AV.cells, splice, aload, astore, Nat.reduceAdd, Nat.reduceLeDiff, reduceIte, allB, g1, bd65n, Option.getD_some, hyb]
        exact W_some.2 ⟨rfl, Pur.push _ _⟩
    | false =>
     cases h2 : decide (((at_ + R : Nat) : Int) < (s.length : Int)) with
     | false =>
      simp -implicitDefEqProofs (disch := first | assumption | omega | (simp only [nxB]; omega) | (simp only [oneB])) only [s33, xlen, AV.cells, splice, aload, astore, Nat.reduceAdd, Nat.reduceLeDiff, reduceIte, allB, Bool.not_true, h1, wnn, h2, g1, bd65n]
      exact W_some.2 ⟨rfl, Pur.push _ _⟩
     | true =>
      obtain ⟨y, hy⟩ : ∃ y, s[at_ + R]? = some y := ⟨s[at_ + R]'(by have := of_decide_eq_true h2; omega), by simp⟩
      have hy' := jx9 hy
      have hy2 : (s.drop at_)[R]? = some y := by rw [List.getElem?_drop]; exact hy
      simp -implicitDefEqProofs (disch := first | assumption | omega | (simp only [nxB]; omega) | (simp only [oneB])) only [s33, xlen, AV.cells, splice, aload, astore, Nat.reduceAdd, Nat.reduceLeDiff, reduceIte, allB, Bool.not_true, h1, wnn, h2, hy']
      refine W_eff0 (letter_spec _) ?_
      rw [hy2]
      cases hyl : lettI (y.toNat : Int) with
      | true =>
       have hyb : letB y = true := hyl
       simp -implicitDefEqProofs (disch := first | assumption | omega | (simp only [nxB]; omega) | (simp only [oneB])) only [s33, xlen, AV.cells, splice, aload, astore, Nat.reduceAdd, Nat.reduceLeDiff, reduceIte, allB, g1, Option.getD_some, hyb]
       exact W_some.2 ⟨rfl, Pur.push _ _⟩
      | false =>
       have hyb : letB y = false := hyl
       simp -implicitDefEqProofs (disch := first | assumption | omega | (simp only [nxB]; omega) | (simp only [oneB])) only [s33, xlen, AV.cells, splice, aload, astore, Nat.reduceAdd, Nat.reduceLeDiff, reduceIte, allB, g1, bd65n, Option.getD_some, hyb]
       exact W_some.2 ⟨rfl, Pur.push _ _⟩
  | false =>
   have hgb : digB c = false := hg
   simp -implicitDefEqProofs (disch := first | assumption | omega | (simp only [nxB]; omega) | (simp only [oneB])) only [s33, xlen, evB]
   refine W_call (sign_spec hs ha) ?_
   rintro _ H2 ⟨rfl, p2⟩
   refine ⟨p2.1, ?_⟩
   have g2 : H2.get H.next = some (.row false 4 [[.int .i64 0, .str [], .int .i64 0, .int .i64 0]]) := p2.get (AHeap.get_push_same _ _)
   have l2 := AHeap.get_lt g2
   have hone : oneN (s.drop at_) = (bif signN (s.drop at_) == [] then none else some (4, signN (s.drop at_), 0, (signN (s.drop at_)).length)) := by
    simp only [hd, oneN, hlb, hgb, cond_false]
   rw [hone]
   cases hsg : signN (s.drop at_) == [] with
   | true =>
    simp -implicitDefEqProofs (disch := first | assumption | omega | (simp only [nxB]; omega) | (simp only [oneB])) only [s33, xlen, AV.cells, splice, aload, astore, Nat.reduceAdd, Nat.reduceLeDiff, reduceIte, allB, hsg, g2]
    exact W_some.2 ⟨rfl, (p1.trans p2).then_set (Nat.le_refl _) _⟩
   | false =>
    simp -implicitDefEqProofs (disch := first | assumption | omega | (simp only [nxB]; omega) | (simp only [oneB])) only [s33, xlen, AV.cells, splice, aload, astore, Nat.reduceAdd, Nat.reduceLeDiff, reduceIte, allB, hsg, g2, bd65w]
    exact W_some.2 ⟨rfl, (p1.trans p2).then_set (Nat.le_refl _) _⟩
theorem sl22_1 (l : Nat) (t : Tok) : sliceOf P l 22 1 [(0, t.v)] = some (.sl l 0 1 4 (some 1), .row false 4 [t.cells]) := by
 obtain ⟨k, x, n, p⟩ := t
 kernel_rfl
theorem un22 : P.underlying 22 = some (.slice 65) := by kernel_rfl
theorem by65 : tyBytes P 65 = some 40 := by kernel_rfl
theorem az65 : azero P 65 = some (.agg [.int .i64 0, .str [], .int .i64 0, .int .i64 0]) := by kernel_rfl
theorem ap22_nil {H : AHeap} {L : Nat} {cs : List AV} {cap : Option Nat} {ro : Bool} (hg : H.get L = some (.row ro 4 [cs])) : aappend P H [22, 22] .nilSl (.sl L 0 1 4 cap) = some (.sl H.next 0 1 4 none, H.push (.row false 4 [cs])) := by
 simp [aappend, un22, ts65, by65, az65, anews, aels, hg, AV.cells]
theorem ap22_sl {H : AHeap} {L l n : Nat} {cs : List AV} {els : List (List AV)} {cap : Option Nat} {ro : Bool} (hg : H.get L = some (.row ro 4 [cs])) (hl : H.get l = some (.row false 4 els)) (hn : els.length = n) (hb : n ≤ 1000000000) : aappend P H [22, 22] (.sl l 0 n 4 none) (.sl L 0 1 4 cap) = some (.sl H.next 0 (n + 1) 4 none, (H.set l .dead).push (.row false 4 (els ++ [cs]))) := by
 have h1 : (n + 1) * 40 ≤ 140737488355328 := by omega
 have h2 : n + 1 ≤ 9223372036854775807 := by omega
 simp [aappend, un22, ts65, by65, az65, anews, aels, hg, hl, AV.cells, hn, h1, h2]
 rw [List.take_of_length_le (by omega)]
def Bld (H0 H : AHeap) (v : AV) (T : List Tok) : Prop := (v = .nilSl ∧ T = []) ∨ ∃ l, v = .sl l 0 T.length 4 none ∧ H0.next ≤ l ∧ H.get l = some (.row false 4 (T.map Tok.cells))
theorem Bld.tok {H0 H : AHeap} {v : AV} {T : List Tok} (h : Bld H0 H v T) : TokSl H v T := by
 rcases h with h | ⟨l, rfl, _, h2⟩
 ·exact .inl h
 ·refine .inr ⟨l, 0, none, rfl, .inr ⟨false, _, h2, fun k t hk => ?_⟩⟩
  simp [hk]
theorem Bld.pur {H0 H H' : AHeap} {v : AV} {T : List Tok} (h : Bld H0 H v T) (p : Pur H H') : Bld H0 H' v T := by
 rcases h with h | ⟨l, e, h1, h2⟩
 ·exact .inl h
 ·exact .inr ⟨l, e, h1, p.get h2⟩
theorem app_tok {H0 H : AHeap} {v : AV} {T : List Tok} (h : Bld H0 H v T) (p : Pur H0 H) (hT : T.length ≤ 1000000) (t : Tok) : ∃ v' H', aappend P (H.push (.row false 4 [t.cells])) [22, 22] v (.sl H.next 0 1 4 (some 1)) = some (v', H') ∧ Bld H0 H' v' (T ++ [t]) ∧ Pur H0 H' ∧ (H.push (.row false 4 [t.cells])).next ≤ H'.next ∧ (∀ l, l < H.next → (∀ e, v ≠ .sl l 0 T.length 4 e) → H'.get l = H.get l) := by
 have hg : (H.push (.row false 4 [t.cells])).get H.next = some (.row false 4 [t.cells]) := AHeap.get_push_same _ _
 rcases h with ⟨rfl, rfl⟩ | ⟨l, rfl, h1, h2⟩
 ·refine ⟨_, _, ap22_nil hg, .inr ⟨_, rfl, ?_, ?_⟩, (p.then_push _).then_push _, by simp, fun l hl _ => ?_⟩
  ·have := p.1; simp only [AHeap.next_push]; omega
  ·exact AHeap.get_push_same (H.push (.row false 4 [t.cells])) _
  ·rw [AHeap.get_push_other (by simp only [AHeap.next_push]; omega), AHeap.get_push_other (by omega)]
 ·have hl := AHeap.get_lt h2
  have h2' : (H.push (.row false 4 [t.cells])).get l = some (.row false 4 (T.map Tok.cells)) := by rw [AHeap.get_push_other (by omega)]; exact h2
  refine ⟨_, _, ap22_sl hg h2' (by simp) (by omega), .inr ⟨(H.push (.row false 4 [t.cells])).next, by simp, ?_, ?_⟩, ?_, by simp, fun j hj hne => ?_⟩
  ·have := p.1; simp only [AHeap.next_push, AHeap.next_set]; omega
  ·have e : ((H.push (.row false 4 [t.cells])).set l .dead).next = (H.push (.row false 4 [t.cells])).next := rfl
   simp only [List.map_append, List.map_cons, List.map_nil]
   rw [← e]
   exact AHeap.get_push_same _ _
  ·exact ((p.then_push _).then_set h1 _).then_push _
  ·rw [AHeap.get_push_other (by simp only [AHeap.next_push, AHeap.next_set]; omega), AHeap.get_set_other (by rintro rfl; exact hne _ rfl), AHeap.get_push_other (by omega)]
end Go.Proofs.Ytnjoomfeddamcaa

namespace Go.Proofs.Ytnjoomfeddamcaa
open Go.Ev
theorem runN_pos (d : Bool) (c : UInt8) (r : Bs) (h : (digB c || (!d && letB c)) = true) : 1 ≤ runN d (c :: r) := by
 rw [runN, h]; simp
theorem signN_le (s : Bs) : (signN s).length ≤ s.length := by
 unfold signN
 cases decide (2 ≤ s.length) && memB (s.take 2) twosL with
 | true => simp only [cond_true, List.length_take]; omega
 | false =>
  simp only [cond_false]
  cases s with
  | nil => simp
  | cons c r => simp only [List.length_cons]; cases memC c onesL <;> simp
theorem oneN_len {s : Bs} {k : Int} {t : Bs} {v : Int} {m : Nat} (h : oneN s = some (k, t, v, m)) : 1 ≤ m ∧ m ≤ s.length := by
 cases s with
 | nil => simp [oneN] at h
 | cons c r =>
  have hr := fun d => runN_le d (c :: r)
  rw [oneN] at h
  cases hl : letB c with
  | true =>
   have hp := runN_pos false c r (by simp [hl])
   rw [hl, cond_true] at h
   cases hw : wordB ((c :: r).take (runN false (c :: r))) with
   | true => rw [hw, cond_true] at h; cases h; exact ⟨hp, hr false⟩
   | false =>
    rw [hw, cond_false] at h
    cases hn : nameB ((c :: r).take (runN false (c :: r))) with
    | true => rw [hn, cond_true] at h; cases h; exact ⟨hp, hr false⟩
    | false => rw [hn, cond_false] at h; cases h
  | false =>
   rw [hl, cond_false] at h
   cases hd : digB c with
   | true =>
    have hp := runN_pos true c r (by simp [hd])
    rw [hd, cond_true] at h
    split at h
    ·cases h
    ·rename_i z hz
     rw [Bool.cond_eq_ite] at h
     split at h
     ·cases h
     ·cases h; exact ⟨hp, hr true⟩
   | false =>
    rw [hd, cond_false] at h
    cases hs : signN (c :: r) == [] with
    | true => rw [hs, cond_true] at h; cases h
    | false =>
     rw [hs, cond_false] at h
     cases h
     have hne : ¬ signN (c :: r) = [] := by simpa using hs
     have := signN_le (c :: r)
     exact ⟨List.length_pos_iff.2 hne, this⟩
theorem blankN_le : ∀ (s : Bs) (b : Bool), blankN b s ≤ s.length
 | [], b => by cases b <;> simp [blankN]
 | c :: r, true => by
  have h1 := blankN_le r true
  have h2 := blankN_le r false
  rw [blankN]
  cases c.toNat == 10 <;> simp only [cond_true, cond_false, List.length_cons] <;> omega
 | c :: r, false => by
  have h1 := blankN_le r true
  have h2 := blankN_le r false
  rw [blankN]
  cases isBlank c
  ·cases (c == 47 && r.head? == some 47) <;> simp only [cond_true, cond_false, List.length_cons] <;> omega
  ·simp only [cond_true, List.length_cons]; omega
def TokPost (H0 : AHeap) (x : List Tok × Int × Int) (r : AV) (H' : AHeap) : Prop := ∃ tv, r = .tuple [tv, .agg [.int .i64 x.2.1, .int .i64 x.2.2]] ∧ TokSl H' tv x.1 ∧ Pur H0 H'
def lexR (T : List Tok) : Nat ⊕ List Tok → List Tok × Int × Int
 | .inl e => ([], 1, e)
 | .inr l => (T ++ l, 0, 0)
theorem bd25w (k p : Int) : abuild P 25 [(0, .int .i64 k), (1, .int .i64 p)] = some (.agg [.int .i64 k, .int .i64 p]) := by kernel_rfl
theorem tok_loop {H0 : AHeap} {s : Bs} (hs : s.length ≤ 100000) (N : Nat) : ∀ (n : Nat) (rest : Bs) (at_ m : Nat) (T : List Tok) (v : AV) (H : AHeap), s.drop at_ = rest → at_ ≤ s.length → Bld (H0.push (.row false 2 [[.int .i64 0, .int .i64 0]])) H v T → Pur (H0.push (.row false 2 [[.int .i64 0, .int .i64 0]])) H → T.length ≤ at_ → rest.length < n → rest.length < m →
  W (s15_l1 (evw P) N m (.str s) (.ptr H0.next 0 0) v (.int .i64 at_) H) (TokPost H0 (lexR T (lexL n rest at_)))
 | 0, _, _, _, _, _, _, _, _, _, _, _, hn, _ => by omega
 | _, _, _, 0, _, _, _, _, _, _, _, _, _, hm => by omega
 | n + 1, [], at_, m + 1, T, v, H, h, ha, hb, p, hT, hn, hm => by
  have hlen := drop_nil h
  have h1 : ¬ ((at_ : Int) < (s.length : Int)) := by omega
  have hat : s.length = at_ := by omega
  have g : H.get H0.next = some (.row false 2 [[.int .i64 0, .int .i64 0]]) := p.get (AHeap.get_push_same _ _)
  have gl := AHeap.get_lt g
  obtain ⟨v', H', ea, hb', p', hnx, hkeep⟩ := app_tok hb p (by omega) ⟨0, [], 0, s.length⟩
  have hsl := sl22_1 H.next ⟨0, [], 0, s.length⟩
  simp only [Tok.v] at hsl
  simp -implicitDefEqProofs (disch := first | assumption | omega | (simp only [nxB]; omega) | (simp only [oneB])) only [s15_l1, s15_j0, s15_13, s15_b1, s15_29, s15, xlen, AV.cells, splice, aload, astore, Nat.reduceAdd, Nat.reduceLeDiff, reduceIte, allB, h1, decide_false, bd65e, hsl, ea, xcall_some]
  have g' : H'.get H0.next = some (.row false 2 [[.int .i64 0, .int .i64 0]]) := by
   rw [hkeep _ gl ?_]; exact g
   intro e he
   rcases hb with ⟨rfl, _⟩ | ⟨l, rfl, hl, _⟩
   ·cases he
   ·cases he; simp only [AHeap.next_push] at hl; omega
  have gl' := AHeap.get_lt g'
  have hrd : rdIs (some (.agg [.int .i64 0, .int .i64 0])) (.agg [.int .i64 0, .int .i64 0]) = true := by simp [rdIs, AV.beq, AVs.beq]
  simp -implicitDefEqProofs (disch := first | assumption | omega | (simp only [nxB]; omega) | (simp only [oneB])) only [s15_j0, s15_13, s15_b1, s15_29, s15, xlen, AV.cells, splice, aload, astore, Nat.reduceAdd, Nat.reduceLeDiff, reduceIte, allB, g', hrd]
  have p0 : Pur H0 H' := (Pur.push _ _).trans p'
  have ps : Pur H0 (H'.set H0.next (.row false 2 [[.int .i64 0, .int .i64 0]])) := p0.then_set (Nat.le_refl _) _
  refine W_some.2 ⟨v', rfl, ?_, ps⟩
  rw [lexL]
  simp only [lexR]
  rw [hat] at hb'
  exact hb'.tok.keep fun l ro els e => by
   rw [AHeap.get_set_other]; exact e
   rintro rfl
   rw [g'] at e; cases e
 | n + 1, c :: r, at_, m + 1, T, v, H, h, ha, hb, p, hT, hn, hm => by
  obtain ⟨e1, e2, e3, e4⟩ := drop_cons h
  have h1 : ((at_ : Int) < (s.length : Int)) := by omega
  have g : H.get H0.next = some (.row false 2 [[.int .i64 0, .int .i64 0]]) := p.get (AHeap.get_push_same _ _)
  have gl := AHeap.get_lt g
  simp -implicitDefEqProofs (disch := first | assumption | omega | (simp only [nxB]; omega) | (simp only [oneB])) only [s15_l1, s15_j0, s15_13, s15_b1, s15_29, s15, xlen, AV.cells, splice, aload, astore, Nat.reduceAdd, Nat.reduceLeDiff, reduceIte, allB, h1, decide_true]
  refine W_call (one_spec (by omega) e3) ?_
  rintro _ H2 ⟨rfl, p2⟩
  refine ⟨p2.1, ?_⟩
  have g2 := p2.get g
  have gl2 := AHeap.get_lt g2
  have hb2 := hb.pur p2
  replace p := p.trans p2
  rw [h, lexL]
  cases ho : oneN (c :: r) with
  | none =>
   simp only [oneV]
   simp -implicitDefEqProofs (disch := first | assumption | omega | (simp only [nxB]; omega) | (simp only [oneB])) only [s15_j0, s15_13, s15_b1, s15_29, s15, xlen, AV.cells, splice, aload, astore, Nat.reduceAdd, Nat.reduceLeDiff, reduceIte, allB, bd25w, beq_self_eq_true, g2, AHeap.push_set_lt]
   have hrd : rdIs (some (.agg [.int .i64 1, .int .i64 at_])) (.agg [.int .i64 1, .int .i64 at_]) = true := by simp [rdIs, AV.beq, AVs.beq]
   refine W_some.2 ⟨.nilSl, rfl, .inl ⟨rfl, rfl⟩, ?_⟩
   exact (((Pur.push _ _).trans p).then_set (Nat.le_refl _) _).then_push _
  | some q =>
   obtain ⟨k, t, z, b⟩ := q
   obtain ⟨b1, b2⟩ := oneN_len ho
   have hb0 : ((b : Int) == 0) = false := by simp; omega
   simp only [oneV]
   simp only [List.length_cons] at b2 hn hm
   obtain ⟨v', H', ea, hb', p', hnx, hkeep⟩ := app_tok (hb2.pur (Pur.push H2 (.row false 4 [Tok.cells ⟨k, t, z, at_⟩]))) (p.then_push _) (by omega) ⟨k, t, z, at_⟩
   have hsl := sl22_1 (H2.next + 1) ⟨k, t, z, at_⟩
   simp only [Tok.v] at hsl
   simp only [Tok.cells, AHeap.next_push] at ea hnx
   simp only [Tok.cells] at hsl
   have hrd : ∀ HH : AHeap, rdIs (some (.agg [.int .i64 k, .str t, .int .i64 z, .int .i64 at_])) (.agg [.int .i64 k, .str t, .int .i64 z, .int .i64 at_]) = true := fun _ => by simp [rdIs, AV.beq, AVs.beq]
   simp -implicitDefEqProofs (disch := first | assumption | omega | (simp only [nxB]; omega) | (simp only [oneB])) only [s15_j0, s15_13, s15_b1, s15_29, s15, xlen, AV.cells, splice, aload, astore, Nat.reduceAdd, Nat.reduceLeDiff, reduceIte, allB, hb0, hsl, ea, xcall_some, wnn]
   have hd2 : s.drop (at_ + b) = (c :: r).drop b := by rw [← List.drop_drop, h]
   have hbl := blankN_le ((c :: r).drop b) false
   simp only [List.length_drop, List.length_cons] at hbl
   refine W_call0 (blank_spec (by omega) (at_ := at_ + b) (by omega)) ?_
   rw [hd2]
   simp only [s15_13]
   have hbl' : at_ + b + blankN false ((c :: r).drop b) ≤ s.length := by omega
   have ih := tok_loop hs N n (s.drop (at_ + b + blankN false ((c :: r).drop b))) (at_ + b + blankN false ((c :: r).drop b)) m (T ++ [⟨k, t, z, at_⟩]) v' H' rfl hbl' hb' p' (by simp; omega) (by simp; omega) (by simp; omega)
   refine ih.mono ?_
   rintro w H'' ⟨tv, q1, q2, q3⟩
   have hdd : s.drop (at_ + b + blankN false ((c :: r).drop b)) = ((c :: r).drop b).drop (blankN false ((c :: r).drop b)) := by rw [← List.drop_drop, hd2]
   rw [hdd] at q1 q2
   have hE : lexR (T ++ [⟨k, t, z, at_⟩]) (lexL n (((c :: r).drop b).drop (blankN false ((c :: r).drop b))) (at_ + b + blankN false ((c :: r).drop b))) = lexR T (match lexL n (((c :: r).drop b).drop (blankN false ((c :: r).drop b))) (at_ + b + blankN false ((c :: r).drop b)) with
     | .inl e => .inl e
     | .inr l => .inr (⟨k, t, z, at_⟩ :: l)) := by
    cases lexL n (((c :: r).drop b).drop (blankN false ((c :: r).drop b))) (at_ + b + blankN false ((c :: r).drop b)) with
    | inl e => rfl
    | inr l => simp [lexR]
   rw [hE] at q1 q2
   exact ⟨tv, q1, q2, q3⟩
theorem Tokens_spec {H : AHeap} (s : Bs) : W (evw P 15 [.str s] H) (TokPost H (tokensS s)) := by
 refine W_of (fun _ => run15 (s.length + 1)) ?_
 by_cases h6 : (6000 : Int) < (s.length : Int)
 ·have h6' : 6000 < s.length := by omega
  simp -implicitDefEqProofs (disch := first | assumption | omega | (simp only [nxB]; omega) | (simp only [oneB])) only [s15_j0, s15_13, s15_b1, s15_29, s15, xlen, AV.cells, splice, aload, astore, Nat.reduceAdd, Nat.reduceLeDiff, reduceIte, allB, h6, decide_true]
  refine W_some.2 ⟨.nilSl, by simp [tokensS, h6'], .inl ⟨rfl, by simp [tokensS, h6']⟩, Pur.push _ _⟩
 ·have h6' : ¬ 6000 < s.length := by omega
  simp -implicitDefEqProofs (disch := first | assumption | omega | (simp only [nxB]; omega) | (simp only [oneB])) only [s15_j0, s15_13, s15_29, s15, xlen, AV.cells, splice, aload, astore, Nat.reduceAdd, Nat.reduceLeDiff, reduceIte, allB, h6, decide_false]
  refine W_call0 (blank_spec (s := s) (by omega) (at_ := 0) (by omega)) ?_
  simp only [List.drop_zero, Nat.zero_add, s15_29]
  have hbl := blankN_le s false
  refine (tok_loop (H0 := H) (by omega) (s.length + 1) (s.length + 1) (s.drop (blankN false s)) (blankN false s) (s.length + 1) [] .nilSl _ rfl hbl (.inl ⟨rfl, rfl⟩) (.refl _) (by simp) (by simp; omega) (by simp; omega)).mono ?_
  rintro v H' ⟨tv, q1, q2, q3⟩
  have hE : lexR [] (lexL (s.length + 1) (s.drop (blankN false s)) (blankN false s)) = tokensS s := by
   simp only [tokensS, if_neg h6', lexS]
   cases lexL (s.length + 1) (s.drop (blankN false s)) (blankN false s) <;> rfl
  rw [hE] at q1 q2
  exact ⟨tv, q1, q2, q3⟩
end Go.Proofs.Ytnjoomfeddamcaa

namespace Go.Proofs.Ytnjoomfeddamcaa
open Go.Ev
theorem lexL_len : ∀ (n : Nat) (rest : Bs) (p : Nat) (l : List Tok), lexL n rest p = .inr l → l.length ≤ rest.length + 1
 | 0, _, _, _, h => by simp [lexL] at h
 | n + 1, [], p, l, h => by simp [lexL] at h; subst h; simp
 | n + 1, c :: r, p, l, h => by
  rw [lexL] at h
  cases ho : oneN (c :: r) with
  | none => rw [ho] at h; simp at h
  | some q =>
   obtain ⟨k, t, z, b⟩ := q
   obtain ⟨b1, b2⟩ := oneN_len ho
   rw [ho] at h
   simp only at h
   cases hl : lexL n (((c :: r).drop b).drop (blankN false ((c :: r).drop b))) (p + b + blankN false ((c :: r).drop b)) with
   | inl e => rw [hl] at h; cases h
   | inr l' =>
    rw [hl] at h
    cases h
    have := lexL_len n _ _ l' hl
    simp only [List.length_drop, List.length_cons] at this b2 ⊢
    omega
theorem tokensS_len (s : Bs) : (tokensS s).1.length ≤ s.length + 1 := by
 unfold tokensS
 split
 ·simp
 ·cases h : lexS s with
  | inl e => simp
  | inr l =>
   have := lexL_len _ _ _ l h
   simp only [List.length_drop] at this
   simp only
   omega
end Go.Proofs.Ytnjoomfeddamcaa


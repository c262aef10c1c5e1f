/-
  Texts of one proof, laid together: ShA.
-/
import Derived.Test.YtnjoomfeddamcaaME
set_option linter.unusedVariables false
set_option linter.unusedSimpArgs false
/-
  What a program of ours printed of the code: each function's operations, one definition each, and that the evaluator does just these.
-/
namespace Go.Proofs.Ytnjoomfeddamcaa
open Go.Ev
set_option maxRecDepth 100000
noncomputable section
def s15_0 (H_2 : AHeap) (r : AV) : O :=
 some (.tuple [AV.nilSl, r], H_2)
def s15_1 x3 H_2 :=
 xb (aload P H_2 25 x3) (s15_0 H_2)
def s15_2 H_1 x3 :=
 xstore H_1 (astore P H_1 25 x3 (.agg [(.int .i64 4), (.int .i64 0)])) (s15_1 x3)
def s15_3 (x42 : AV) (H_3 : AHeap) (r : AV) : O :=
 some (.tuple [x42, r], H_3)
def s15_4 x3 x42 H_3 :=
 xb (aload P H_3 25 x3) (s15_3 x42 H_3)
def s15_5 x3 x42 H_2 :=
 xstore H_2 (astore P H_2 25 x3 (.agg [(.int .i64 0), (.int .i64 0)])) (s15_4 x3 x42)
def s15_6 x4 x3 x41 H_1 :=
 xcall H_1 (aappend P H_1 [22, 22] x4 x41) (s15_5 x3)
def s15_7 H x4 x3 x40 :=
 xmake H (sliceOf P (H).next 22 1 [(0, x40)]) (s15_6 x4 x3)
def s15_8 H x4 x3 x39 :=
 xb (abuild P 65 [(0, (.int .i64 0)), (3, x39)]) (s15_7 H x4 x3)
def s15_j0 (G : CallT) (N : Nat) x0 x3 x4 H :=
 xlen P .len [9] [x0] H (s15_8 H x4 x3)
theorem s15_j0_eq (G : CallT) (N : Nat) : ∀ R H, codeC P G N (Code.snd (Code.snd (Code.snd (Code.snd (Code.snd (bodyOf Try.f15)))))) (retC P Try.f15.results.toList) [] (retC P Try.f15.results.toList) R H = s15_j0 G N (R 0) (R 3) (R 4) H := by
  intro R H
  refine Eq.trans ((via_leaf _ : ∀ R H, codeC P G N (Code.snd (Code.snd (Code.snd (Code.snd (Code.snd (bodyOf Try.f15)))))) (retC P Try.f15.results.toList) [] (retC P Try.f15.results.toList) R H = _) R H) ?_
  delta s15_j0 s15_8 s15_7 s15_6 s15_5 s15_4 s15_3
  kernel_rfl

def s15_9 (H_4 : AHeap) (r : AV) : O :=
 some (.tuple [AV.nilSl, r], H_4)
def s15_10 x3 H_4 :=
 xb (aload P H_4 25 x3) (s15_9 H_4)
def s15_11 H_3 x3 x27 :=
 xstore H_3 (astore P H_3 25 x3 x27) (s15_10 x3)
def s15_12 x5 H_3 x3 :=
 xb (abuild P 25 [(0, (.int .i64 1)), (1, x5)]) (s15_11 H_3 x3)
def s15_13 (L1 : AV → AV → AV → AV → AHeap → O) x0 x3 x31 x36 H_6 :=
 L1 x0 x3 x31 x36 H_6
def s15_14 (G : CallT) L1 H_5 x0 x3 x31 x35 :=
 xcall H_5 (G 32 [x0, x35] H_5) (s15_13 L1 x0 x3 x31)
def s15_15 G L1 x5 x23 x0 x3 x31 H_5 :=
 xb (fbin P .add 3 false x5 x23) (s15_14 G L1 H_5 x0 x3 x31)
def s15_16 G L1 x4 x5 x23 x0 x3 x30 H_4 :=
 xcall H_4 (aappend P H_4 [22, 22] x4 x30) (s15_15 G L1 x5 x23 x0 x3)
def s15_17 G L1 H_3 x4 x5 x23 x0 x3 x29 :=
 xmake H_3 (sliceOf P (H_3).next 22 1 [(0, x29)]) (s15_16 G L1 x4 x5 x23 x0 x3)
def s15_18 G L1 H_3 x6 x4 x5 x23 x0 x3 :=
 xb (aload P H_3 65 x6) (s15_17 G L1 H_3 x4 x5 x23 x0 x3)
def s15_19 G L1 x5 H_3 x3 x6 x4 x23 x0 x25 :=
 xif (some x25) (s15_12 x5 H_3 x3) (s15_18 G L1 H_3 x6 x4 x5 x23 x0 x3)
def s15_20 G L1 x23 x5 x3 x6 x4 x0 H_3 :=
 xb (fbin P .eql 3 true x23 (.int .i64 0)) (s15_19 G L1 x5 H_3 x3 x6 x4 x23 x0)
def s15_21 G L1 x22 x23 x5 x3 x4 x0 x6 H_2 :=
 xstore H_2 (astore P H_2 65 x6 x22) (s15_20 G L1 x23 x5 x3 x6 x4 x0)
def s15_22 G L1 H_1 x22 x5 x3 x4 x0 x23 :=
 xalloc H_1 [(.int .i64 0), (.str []), (.int .i64 0), (.int .i64 0)] (s15_21 G L1 x22 x23 x5 x3 x4 x0)
def s15_23 G L1 x21 H_1 x5 x3 x4 x0 x22 :=
 xb (aextract x21 1) (s15_22 G L1 H_1 x22 x5 x3 x4 x0)
def s15_24 G L1 x5 x3 x4 x0 x21 H_1 :=
 xb (aextract x21 0) (s15_23 G L1 x21 H_1 x5 x3 x4 x0)
def s15_25 (G : CallT) L1 H x0 x5 x3 x4 :=
 xcall H (G 33 [x0, x5] H) (s15_24 G L1 x5 x3 x4 x0)
def s15_26 G N x0 x3 x4 H :=
 s15_j0 G N x0 x3 x4 H
def s15_27 G N L1 H x0 x5 x3 x4 x17 :=
 xif (some x17) (s15_25 G L1 H x0 x5 x3 x4) (s15_26 G N x0 x3 x4 H)
def s15_28 G N L1 x5 H x0 x3 x4 x16 :=
 xb (fbin P .lss 3 false x5 x16) (s15_27 G N L1 H x0 x5 x3 x4)
def s15_b1 G N L1 x0 x3 x4 x5 H :=
 xlen P .len [9] [x0] H (s15_28 G N L1 x5 H x0 x3 x4)
noncomputable def s15_l1 (G : CallT) (N : Nat) : Nat → AV → AV → AV → AV → AHeap → O
  | 0, _, _, _, _, _ => none
  | n + 1, x0, x3, x4, x5, H => s15_b1 G N (s15_l1 G N n) x0 x3 x4 x5 H

theorem s15_b1_eq (G : CallT) (N : Nat) (L1 : AV → AV → AV → AV → AHeap → O) : ∀ R H, codeC P G N (Code.fst (Code.fst (Code.fst (Code.snd (Code.snd (Code.snd (Code.snd (bodyOf Try.f15)))))))) (fun R H => L1 (R 0) (R 3) (R 4) (R 5) H) [(0, (fun R H => s15_j0 G N (R 0) (R 3) (R 4) H))] (retC P Try.f15.results.toList) R H = s15_b1 G N L1 (R 0) (R 3) (R 4) (R 5) H := by
  intro R H
  refine Eq.trans ((via_leaf _ : ∀ R H, codeC P G N (Code.fst (Code.fst (Code.fst (Code.snd (Code.snd (Code.snd (Code.snd (bodyOf Try.f15)))))))) (fun R H => L1 (R 0) (R 3) (R 4) (R 5) H) [(0, (fun R H => s15_j0 G N (R 0) (R 3) (R 4) H))] (retC P Try.f15.results.toList) R H = _) R H) ?_
  delta s15_b1 s15_28 s15_27 s15_26 s15_25 s15_24 s15_23 s15_22 s15_21 s15_20 s15_19 s15_18 s15_17 s15_16 s15_15 s15_14 s15_13 s15_12 s15_11 s15_10 s15_9
  generalize s15_j0 G N = J0
  revert J0
  refine id ?_
  intro J0
  kernel_rfl

def s15_29 G N x0 x3 x13 H_2 :=
 s15_l1 G N N x0 x3 AV.nilSl x13 H_2
def s15_30 (G : CallT) N H_1 x0 x3 :=
 xcall H_1 (G 32 [x0, (.int .i64 0)] H_1) (s15_29 G N x0 x3)
def s15_31 G N H_1 x3 x0 x10 :=
 xif (some x10) (s15_2 H_1 x3) (s15_30 G N H_1 x0 x3)
def s15_32 G N H_1 x3 x0 x9 :=
 xb (fbin P .gtr 3 true x9 (.int .i64 6000)) (s15_31 G N H_1 x3 x0)
def s15_33 G N x0 x3 H_1 :=
 xlen P .len [9] [x0] H_1 (s15_32 G N H_1 x3 x0)
/-- runrig/runrigref2.Tokens -/
def s15 G N x0 H :=
 xalloc H [(.int .i64 0), (.int .i64 0)] (s15_33 G N x0)
theorem s15_eq (G : CallT) (N : Nat) (x0 : AV) (H : AHeap) : codeC P G N (bodyOf Try.f15) (retC P Try.f15.results.toList) [] (retC P Try.f15.results.toList) (argsF [x0]) H = s15 G N x0 H := by
  refine Eq.trans (((via_seq (by kernel_rfl) ((via_seq (by kernel_rfl) ((via_seq (by kernel_rfl) ((via_seq (by kernel_rfl) ((via_seq (by kernel_rfl) (s15_j0_eq G N) ((via_block (by kernel_rfl) ((via_loop (k := fun m R H => s15_l1 G N m (R 0) (R 3) (R 4) (R 5) H) (by kernel_rfl) (fun R H => by kernel_rfl) (fun m => s15_b1_eq G N (s15_l1 G N m)))))))) (via_leaf _))) (via_leaf _))) (via_leaf _))) (via_leaf _)) : ∀ R H, codeC P G N (bodyOf Try.f15) (retC P Try.f15.results.toList) [] (retC P Try.f15.results.toList) R H = _) (argsF [x0]) H) ?_
  delta s15 s15_33 s15_32 s15_31 s15_30 s15_29 s15_2 s15_1 s15_0
  generalize s15_l1 G N N = J0
  revert J0
  refine id ?_
  intro J0
  kernel_rfl

theorem run15 (N : Nat) {x0 : AV} {H : AHeap} {r : AV × AHeap} (h : s15 (evw P) N x0 H = some r) : evw P 15 [x0] H = some r :=
  evw_code (c := (bodyOf Try.f15)) (M := N) Try.func15 (by kernel_rfl) (by kernel_rfl) (by kernel_rfl) (Eq.trans (s15_eq (evw P) N x0 H) h)

def s32_j0 (G : CallT) (N : Nat) (x1 : AV) (H : AHeap) : O :=
 some (x1, H)
theorem s32_j0_eq (G : CallT) (N : Nat) : ∀ R H, codeC P G N (Code.snd (Code.snd (bodyOf Try.f32))) (retC P Try.f32.results.toList) [] (retC P Try.f32.results.toList) R H = s32_j0 G N (R 1) H := by
  intro R H
  refine Eq.trans ((via_leaf _ : ∀ R H, codeC P G N (Code.snd (Code.snd (bodyOf Try.f32))) (retC P Try.f32.results.toList) [] (retC P Try.f32.results.toList) R H = _) R H) ?_
  delta s32_j0
  kernel_rfl

def s32_0 (L1 : AV → AV → AHeap → O) x0 H_12 x34 :=
 L1 x0 x34 H_12
def s32_1 L1 x1 x0 H_12 :=
 xb (fbin P .add 3 true x1 (.int .i64 1)) (s32_0 L1 x0 H_12)
def s32_2 (L2 : AV → AV → AHeap → O) x0 H_4 x60 :=
 L2 x0 x60 H_4
def s32_3 L2 x1 x0 H_4 :=
 xb (fbin P .add 3 true x1 (.int .i64 1)) (s32_2 L2 x0 H_4)
def s32_4 (L1 : AV → AV → AHeap → O) x0 x1 H_4 :=
 L1 x0 x1 H_4
def s32_5 L2 L1 x1 x0 H_4 x58 :=
 xif (some x58) (s32_3 L2 x1 x0 H_4) (s32_4 L1 x0 x1 H_4)
def s32_6 L2 L1 x52 x1 x0 x57 H_4 :=
 xb (pickOf x52 (some x57) (some (.bool false))) (s32_5 L2 L1 x1 x0 H_4)
def s32_7 L2 L1 x52 x1 x0 x56 H_3 :=
 xg x52 true H_3 (fun q => (fbin P .neq 5 true x56 (.int .u8 10)).bind fun v => q (.pure v)) (s32_6 L2 L1 x52 x1 x0)
def s32_8 L2 L1 x52 x54 x1 x0 x55 H_2 :=
 xg x52 true H_2 (fun q => (aindex P 9 x54 x55).bind fun v => q (.pure v)) (s32_7 L2 L1 x52 x1 x0)
def s32_9 L2 L1 x52 x1 x0 x54 H_1 :=
 xg x52 true H_1 (fun q => q (.pure x1)) (s32_8 L2 L1 x52 x54 x1 x0)
def s32_10 L2 L1 H x0 x1 x52 :=
 xg x52 true H (fun q => q (.pure x0)) (s32_9 L2 L1 x52 x1 x0)
def s32_11 L2 L1 x1 H x0 x51 :=
 xb (fbin P .lss 3 false x1 x51) (s32_10 L2 L1 H x0 x1)
def s32_b2 (G : CallT) (N : Nat) L1 L2 x0 x1 H :=
 xlen P .len [9] [x0] H (s32_11 L2 L1 x1 H x0)
noncomputable def s32_l2 (G : CallT) (N : Nat) (L1 : AV → AV → AHeap → O) : Nat → AV → AV → AHeap → O
  | 0, _, _, _ => none
  | n + 1, x0, x1, H => s32_b2 G N L1 (s32_l2 G N L1 n) x0 x1 H

theorem s32_b2_eq (G : CallT) (N : Nat) (L1 : AV → AV → AHeap → O) (L2 : AV → AV → AHeap → O) : ∀ R H, codeC P G N (Code.fst (Code.fst (Code.fst (Code.snd (Code.snd (Code.snd (Code.fst (Code.fst (Code.snd (Code.fst (Code.fst (Code.fst (Code.snd (bodyOf Try.f32)))))))))))))) (fun R H => L2 (R 0) (R 1) H) [(3, (fun R H => L1 (R 0) (R 1) H)), (2, (fun R H => L1 (R 0) (R 1) H)), (1, (fun R H => L1 (R 0) (R 1) H)), (0, (fun R H => s32_j0 G N (R 1) H))] (retC P Try.f32.results.toList) R H = s32_b2 G N L1 L2 (R 0) (R 1) H := by
  intro R H
  refine Eq.trans ((via_leaf _ : ∀ R H, codeC P G N (Code.fst (Code.fst (Code.fst (Code.snd (Code.snd (Code.snd (Code.fst (Code.fst (Code.snd (Code.fst (Code.fst (Code.fst (Code.snd (bodyOf Try.f32)))))))))))))) (fun R H => L2 (R 0) (R 1) H) [(3, (fun R H => L1 (R 0) (R 1) H)), (2, (fun R H => L1 (R 0) (R 1) H)), (1, (fun R H => L1 (R 0) (R 1) H)), (0, (fun R H => s32_j0 G N (R 1) H))] (retC P Try.f32.results.toList) R H = _) R H) ?_
  delta s32_b2 s32_11 s32_10 s32_9 s32_8 s32_7 s32_6 s32_5 s32_4 s32_3 s32_2
  generalize L1 = J0
  revert J0
  refine id ?_
  intro J0
  kernel_rfl

def s32_12 G N L1 x0 x1 H_18 :=
 s32_l2 G N L1 N x0 x1 H_18
def s32_13 (x1 : AV) (H_18 : AHeap) : O :=
 some (x1, H_18)
def s32_14 G N L1 x0 x1 H_18 x48 :=
 xif (some x48) (s32_12 G N L1 x0 x1 H_18) (s32_13 x1 H_18)
def s32_15 G N L1 x40 x0 x1 x47 H_18 :=
 xb (pickOf x40 (some x47) (some (.bool false))) (s32_14 G N L1 x0 x1 H_18)
def s32_16 G N L1 x40 x0 x1 x46 H_17 :=
 xg x40 true H_17 (fun q => (fbin P .eql 9 true x46 (.str [47, 47])).bind fun v => q (.pure v)) (s32_15 G N L1 x40 x0 x1)
def s32_17 G N L1 x40 x42 x43 x0 x1 x45 H_16 :=
 xg x40 true H_16 (fun q => (aslice P 9 x42 (some x43) (some x45) none).bind fun v => q (.pure v)) (s32_16 G N L1 x40 x0 x1)
def s32_18 G N L1 x40 x42 x43 x0 x1 x44 H_15 :=
 xg x40 true H_15 (fun q => (fbin P .add 3 true x44 (.int .i64 2)).bind fun v => q (.pure v)) (s32_17 G N L1 x40 x42 x43 x0 x1)
def s32_19 G N L1 x40 x1 x42 x0 x43 H_14 :=
 xg x40 true H_14 (fun q => q (.pure x1)) (s32_18 G N L1 x40 x42 x43 x0 x1)
def s32_20 G N L1 x40 x1 x0 x42 H_13 :=
 xg x40 true H_13 (fun q => q (.pure x1)) (s32_19 G N L1 x40 x1 x42 x0)
def s32_21 G N L1 H_12 x0 x1 x40 :=
 xg x40 true H_12 (fun q => q (.pure x0)) (s32_20 G N L1 x40 x1 x0)
def s32_22 G N L1 H_12 x0 x1 x39 :=
 xb (fbin P .geq 3 true x39 (.int .i64 2)) (s32_21 G N L1 H_12 x0 x1)
def s32_23 G N L1 x1 H_12 x0 x37 :=
 xb (fbin P .sub 3 false x37 x1) (s32_22 G N L1 H_12 x0 x1)
def s32_24 G N L1 x0 H_12 x1 :=
 xlen P .len [9] [x0] H_12 (s32_23 G N L1 x1 H_12 x0)
def s32_25 G N L1 x1 x0 H_12 x32 :=
 xif (some x32) (s32_1 L1 x1 x0 H_12) (s32_24 G N L1 x0 H_12 x1)
def s32_26 G N L1 x26 x1 x0 x31 H_12 :=
 xb (pickOf x26 (some (.bool true)) (some x31)) (s32_25 G N L1 x1 x0 H_12)
def s32_27 G N L1 x26 x1 x0 x30 H_11 :=
 xg x26 false H_11 (fun q => (fbin P .eql 5 true x30 (.int .u8 13)).bind fun v => q (.pure v)) (s32_26 G N L1 x26 x1 x0)
def s32_28 G N L1 x26 x28 x1 x0 x29 H_10 :=
 xg x26 false H_10 (fun q => (aindex P 9 x28 x29).bind fun v => q (.pure v)) (s32_27 G N L1 x26 x1 x0)
def s32_29 G N L1 x26 x1 x0 x28 H_9 :=
 xg x26 false H_9 (fun q => q (.pure x1)) (s32_28 G N L1 x26 x28 x1 x0)
def s32_30 G N L1 H_8 x0 x1 x26 :=
 xg x26 false H_8 (fun q => q (.pure x0)) (s32_29 G N L1 x26 x1 x0)
def s32_31 G N L1 x20 x0 x1 x25 H_8 :=
 xb (pickOf x20 (some (.bool true)) (some x25)) (s32_30 G N L1 H_8 x0 x1)
def s32_32 G N L1 x20 x0 x1 x24 H_7 :=
 xg x20 false H_7 (fun q => (fbin P .eql 5 true x24 (.int .u8 10)).bind fun v => q (.pure v)) (s32_31 G N L1 x20 x0 x1)
def s32_33 G N L1 x20 x22 x0 x1 x23 H_6 :=
 xg x20 false H_6 (fun q => (aindex P 9 x22 x23).bind fun v => q (.pure v)) (s32_32 G N L1 x20 x0 x1)
def s32_34 G N L1 x20 x1 x0 x22 H_5 :=
 xg x20 false H_5 (fun q => q (.pure x1)) (s32_33 G N L1 x20 x22 x0 x1)
def s32_35 G N L1 H_4 x0 x1 x20 :=
 xg x20 false H_4 (fun q => q (.pure x0)) (s32_34 G N L1 x20 x1 x0)
def s32_36 G N L1 x14 x0 x1 x19 H_4 :=
 xb (pickOf x14 (some (.bool true)) (some x19)) (s32_35 G N L1 H_4 x0 x1)
def s32_37 G N L1 x14 x0 x1 x18 H_3 :=
 xg x14 false H_3 (fun q => (fbin P .eql 5 true x18 (.int .u8 9)).bind fun v => q (.pure v)) (s32_36 G N L1 x14 x0 x1)
def s32_38 G N L1 x14 x16 x0 x1 x17 H_2 :=
 xg x14 false H_2 (fun q => (aindex P 9 x16 x17).bind fun v => q (.pure v)) (s32_37 G N L1 x14 x0 x1)
def s32_39 G N L1 x14 x1 x0 x16 H_1 :=
 xg x14 false H_1 (fun q => q (.pure x1)) (s32_38 G N L1 x14 x16 x0 x1)
def s32_40 G N L1 H x0 x1 x14 :=
 xg x14 false H (fun q => q (.pure x0)) (s32_39 G N L1 x14 x1 x0)
def s32_41 G N L1 H x0 x1 x13 :=
 xb (fbin P .eql 5 true x13 (.int .u8 32)) (s32_40 G N L1 H x0 x1)
def s32_42 G N L1 x0 x1 H :=
 xb (aindex P 9 x0 x1) (s32_41 G N L1 H x0 x1)
def s32_43 G N x1 H :=
 s32_j0 G N x1 H
def s32_44 G N L1 x0 x1 H x8 :=
 xif (some x8) (s32_42 G N L1 x0 x1 H) (s32_43 G N x1 H)
def s32_45 G N L1 x1 x0 H x7 :=
 xb (fbin P .lss 3 false x1 x7) (s32_44 G N L1 x0 x1 H)
def s32_b1 G N L1 x0 x1 H :=
 xlen P .len [9] [x0] H (s32_45 G N L1 x1 x0 H)
noncomputable def s32_l1 (G : CallT) (N : Nat) : Nat → AV → AV → AHeap → O
  | 0, _, _, _ => none
  | n + 1, x0, x1, H => s32_b1 G N (s32_l1 G N n) x0 x1 H

theorem s32_b1_eq (G : CallT) (N : Nat) (L1 : AV → AV → AHeap → O) : ∀ R H, codeC P G N (Code.fst (Code.fst (Code.fst (Code.snd (bodyOf Try.f32))))) (fun R H => L1 (R 0) (R 1) H) [(0, (fun R H => s32_j0 G N (R 1) H))] (retC P Try.f32.results.toList) R H = s32_b1 G N L1 (R 0) (R 1) H := by
  intro R H
  refine Eq.trans (((via_seq (by kernel_rfl) ((via_block (by kernel_rfl) ((via_block (by kernel_rfl) ((via_seq (by kernel_rfl) ((via_cond (by kernel_rfl) (via_leaf _) ((via_seq (by kernel_rfl) ((via_cond (by kernel_rfl) ((via_block (by kernel_rfl) ((via_loop (k := fun m R H => s32_l2 G N L1 m (R 0) (R 1) H) (by kernel_rfl) (fun R H => by kernel_rfl) (fun m => s32_b2_eq G N L1 (s32_l2 G N L1 m)))))) (via_leaf _))) (via_leaf _))))) (via_leaf _))))))) (via_leaf _)) : ∀ R H, codeC P G N (Code.fst (Code.fst (Code.fst (Code.snd (bodyOf Try.f32))))) (fun R H => L1 (R 0) (R 1) H) [(0, (fun R H => s32_j0 G N (R 1) H))] (retC P Try.f32.results.toList) R H = _) R H) ?_
  delta s32_b1 s32_45 s32_44 s32_43 s32_42 s32_41 s32_40 s32_39 s32_38 s32_37 s32_36 s32_35 s32_34 s32_33 s32_32 s32_31 s32_30 s32_29 s32_28 s32_27 s32_26 s32_25 s32_24 s32_23 s32_22 s32_21 s32_20 s32_19 s32_18 s32_17 s32_16 s32_15 s32_14 s32_13 s32_12 s32_1 s32_0
  generalize s32_j0 G N = J0
  generalize s32_l2 G N L1 N = J1
  revert J0 J1
  refine id ?_
  intro J0 J1
  kernel_rfl

/-- runrig/runrigref2.blank -/
def s32 G N x0 x1 H :=
 s32_l1 G N N x0 x1 H
theorem s32_eq (G : CallT) (N : Nat) (x0 : AV) (x1 : AV) (H : AHeap) : codeC P G N (bodyOf Try.f32) (retC P Try.f32.results.toList) [] (retC P Try.f32.results.toList) (argsF [x0, x1]) H = s32 G N x0 x1 H := by
  refine Eq.trans (((via_seq (by kernel_rfl) ((via_seq (by kernel_rfl) (s32_j0_eq G N) ((via_block (by kernel_rfl) ((via_loop (k := fun m R H => s32_l1 G N m (R 0) (R 1) H) (by kernel_rfl) (fun R H => by kernel_rfl) (fun m => s32_b1_eq G N (s32_l1 G N m)))))))) (via_leaf _)) : ∀ R H, codeC P G N (bodyOf Try.f32) (retC P Try.f32.results.toList) [] (retC P Try.f32.results.toList) R H = _) (argsF [x0, x1]) H) ?_
  delta s32
  generalize s32_l1 G N N = J0
  revert J0
  refine id ?_
  intro J0
  kernel_rfl

theorem run32 (N : Nat) {x0 x1 : AV} {H : AHeap} {r : AV × AHeap} (h : s32 (evw P) N x0 x1 H = some r) : evw P 32 [x0, x1] H = some r :=
  evw_code (c := (bodyOf Try.f32)) (M := N) Try.func32 (by kernel_rfl) (by kernel_rfl) (by kernel_rfl) (Eq.trans (s32_eq (evw P) N x0 x1 H) h)

def s33_0 (x19 : AV) (H_5 : AHeap) (r : AV) : O :=
 some (.tuple [r, x19], H_5)
def s33_1 x4 x19 H_5 :=
 xb (aload P H_5 65 x4) (s33_0 x19 H_5)
def s33_2 H_4 x4 x19 x30 :=
 xstore H_4 (astore P H_4 65 x4 x30) (s33_1 x4 x19)
def s33_3 x25 x1 H_4 x4 x19 :=
 xb (abuild P 65 [(0, (.int .i64 3)), (1, x25), (3, x1)]) (s33_2 H_4 x4 x19)
def s33_4 (x19 : AV) (H_6 : AHeap) (r : AV) : O :=
 some (.tuple [r, x19], H_6)
def s33_5 x4 x19 H_6 :=
 xb (aload P H_6 65 x4) (s33_4 x19 H_6)
def s33_6 H_5 x4 x19 x36 :=
 xstore H_5 (astore P H_5 65 x4 x36) (s33_5 x4 x19)
def s33_7 x25 x1 H_5 x4 x19 :=
 xb (abuild P 65 [(0, (.int .i64 1)), (1, x25), (3, x1)]) (s33_6 H_5 x4 x19)
def s33_8 (H_6 : AHeap) (r : AV) : O :=
 some (.tuple [r, (.int .i64 0)], H_6)
def s33_9 x4 H_6 :=
 xb (aload P H_6 65 x4) (s33_8 H_6)
def s33_10 H_5 x4 :=
 xstore H_5 (astore P H_5 65 x4 (.agg [(.int .i64 0), (.str []), (.int .i64 0), (.int .i64 0)])) (s33_9 x4)
def s33_11 x25 x1 x4 x19 x33 H_5 :=
 xif (some x33) (s33_7 x25 x1 H_5 x4 x19) (s33_10 H_5 x4)
def s33_12 (G : CallT) H_4 x25 x1 x4 x19 :=
 xcall H_4 (G 56 [x25] H_4) (s33_11 x25 x1 x4 x19)
def s33_13 G x25 x1 x4 x19 x27 H_4 :=
 xif (some x27) (s33_3 x25 x1 H_4 x4 x19) (s33_12 G H_4 x25 x1 x4 x19)
def s33_14 (G : CallT) H_3 x1 x4 x19 x25 :=
 xcall H_3 (G 55 [x25] H_3) (s33_13 G x25 x1 x4 x19)
def s33_15 G x0 x1 H_3 x4 x19 x24 :=
 xb (aslice P 9 x0 (some x1) (some x24) none) (s33_14 G H_3 x1 x4 x19)
def s33_16 G x1 x0 x4 x19 H_3 :=
 xb (fbin P .add 3 false x1 x19) (s33_15 G x0 x1 H_3 x4 x19)
def s33_17 (G : CallT) H_2 x0 x1 x4 :=
 xcall H_2 (G 54 [x0, x1, (.bool false)] H_2) (s33_16 G x1 x0 x4)
def s33_18 (H_28 : AHeap) (r : AV) : O :=
 some (.tuple [r, (.int .i64 0)], H_28)
def s33_19 x4 H_28 :=
 xb (aload P H_28 65 x4) (s33_18 H_28)
def s33_20 H_27 x4 :=
 xstore H_27 (astore P H_27 65 x4 (.agg [(.int .i64 0), (.str []), (.int .i64 0), (.int .i64 0)])) (s33_19 x4)
def s33_21 (x46 : AV) (H_28 : AHeap) (r : AV) : O :=
 some (.tuple [r, x46], H_28)
def s33_22 x4 x46 H_28 :=
 xb (aload P H_28 65 x4) (s33_21 x46 H_28)
def s33_23 H_27 x4 x46 x88 :=
 xstore H_27 (astore P H_27 65 x4 x88) (s33_22 x4 x46)
def s33_24 x55 x1 H_27 x4 x46 :=
 xb (abuild P 65 [(0, (.int .i64 2)), (2, x55), (3, x1)]) (s33_23 H_27 x4 x46)
def s33_25 H_27 x4 x55 x1 x46 x84 :=
 xif (some x84) (s33_20 H_27 x4) (s33_24 x55 x1 H_27 x4 x46)
def s33_26 x68 x4 x55 x1 x46 x83 H_27 :=
 xb (pickOf x68 (some (.bool true)) (some x83)) (s33_25 H_27 x4 x55 x1 x46)
def s33_27 x68 x76 x4 x55 x1 x46 x82 H_26 :=
 xg x68 false H_26 (fun q => (pickOf x76 (some x82) (some (.bool false))).bind fun v => q (.pure v)) (s33_26 x68 x4 x55 x1 x46)
def s33_28 (G : CallT) x76 x68 x4 x55 x1 x46 x81 H_25 :=
 xg x76 true H_25 (fun q => xeff H_25 (G 53 [x81] H_25) q) (s33_27 x68 x76 x4 x55 x1 x46)
def s33_29 G x76 x77 x68 x4 x55 x1 x46 x80 H_24 :=
 xg x76 true H_24 (fun q => (aindex P 9 x77 x80).bind fun v => q (.pure v)) (s33_28 G x76 x68 x4 x55 x1 x46)
def s33_30 G x76 x78 x77 x68 x4 x55 x1 x46 x79 H_23 :=
 xg x76 true H_23 (fun q => (fbin P .add 3 false x78 x79).bind fun v => q (.pure v)) (s33_29 G x76 x77 x68 x4 x55 x1 x46)
def s33_31 G x76 x46 x77 x68 x4 x55 x1 x78 H_22 :=
 xg x76 true H_22 (fun q => q (.pure x46)) (s33_30 G x76 x78 x77 x68 x4 x55 x1 x46)
def s33_32 G x76 x1 x46 x68 x4 x55 x77 H_21 :=
 xg x76 true H_21 (fun q => q (.pure x1)) (s33_31 G x76 x46 x77 x68 x4 x55 x1)
def s33_33 G x0 x1 x46 x68 x4 x55 x76 H_20 :=
 xg x76 true H_20 (fun q => q (.pure x0)) (s33_32 G x76 x1 x46 x68 x4 x55)
def s33_34 G x68 x0 x1 x46 x4 x55 x75 H_19 :=
 xg x68 false H_19 (fun q => q (.pure x75)) (s33_33 G x0 x1 x46 x68 x4 x55)
def s33_35 G x68 x72 x0 x1 x46 x4 x55 x74 H_18 :=
 xg x68 false H_18 (fun q => (fbin P .lss 3 false x72 x74).bind fun v => q (.pure v)) (s33_34 G x68 x0 x1 x46 x4 x55)
def s33_36 G x68 x72 x0 x1 x46 x4 x55 x73 H_17 :=
 xg x68 false H_17 (fun q => xboth (abuiltin P .empty .len [9] [x73]) (abuiltin P H_17 .len [9] [x73]) q) (s33_35 G x68 x72 x0 x1 x46 x4 x55)
def s33_37 G x68 x0 x1 x46 x4 x55 x72 H_16 :=
 xg x68 false H_16 (fun q => q (.pure x0)) (s33_36 G x68 x72 x0 x1 x46 x4 x55)
def s33_38 G x68 x70 x0 x1 x46 x4 x55 x71 H_15 :=
 xg x68 false H_15 (fun q => (fbin P .add 3 false x70 x71).bind fun v => q (.pure v)) (s33_37 G x68 x0 x1 x46 x4 x55)
def s33_39 G x68 x46 x0 x1 x4 x55 x70 H_14 :=
 xg x68 false H_14 (fun q => q (.pure x46)) (s33_38 G x68 x70 x0 x1 x46 x4 x55)
def s33_40 G H_13 x1 x46 x0 x4 x55 x68 :=
 xg x68 false H_13 (fun q => q (.pure x1)) (s33_39 G x68 x46 x0 x1 x4 x55)
def s33_41 G x58 x1 x46 x0 x4 x55 x67 H_13 :=
 xb (pickOf x58 (some (.bool true)) (some x67)) (s33_40 G H_13 x1 x46 x0 x4 x55)
def s33_42 G x58 x62 x1 x46 x0 x4 x55 x66 H_12 :=
 xg x58 false H_12 (fun q => (pickOf x62 (some x66) (some (.bool false))).bind fun v => q (.pure v)) (s33_41 G x58 x1 x46 x0 x4 x55)
def s33_43 G x62 x58 x1 x46 x0 x4 x55 x65 H_11 :=
 xg x62 true H_11 (fun q => (fbin P .eql 5 true x65 (.int .u8 48)).bind fun v => q (.pure v)) (s33_42 G x58 x62 x1 x46 x0 x4 x55)
def s33_44 G x62 x63 x58 x1 x46 x0 x4 x55 x64 H_10 :=
 xg x62 true H_10 (fun q => (aindex P 9 x63 x64).bind fun v => q (.pure v)) (s33_43 G x62 x58 x1 x46 x0 x4 x55)
def s33_45 G x62 x1 x58 x46 x0 x4 x55 x63 H_9 :=
 xg x62 true H_9 (fun q => q (.pure x1)) (s33_44 G x62 x63 x58 x1 x46 x0 x4 x55)
def s33_46 G x0 x1 x58 x46 x4 x55 x62 H_8 :=
 xg x62 true H_8 (fun q => q (.pure x0)) (s33_45 G x62 x1 x58 x46 x0 x4 x55)
def s33_47 G x58 x0 x1 x46 x4 x55 x61 H_7 :=
 xg x58 false H_7 (fun q => q (.pure x61)) (s33_46 G x0 x1 x58 x46 x4 x55)
def s33_48 G x58 x0 x1 x46 x4 x55 x60 H_6 :=
 xg x58 false H_6 (fun q => (fbin P .gtr 3 true x60 (.int .i64 1)).bind fun v => q (.pure v)) (s33_47 G x58 x0 x1 x46 x4 x55)
def s33_49 G H_5 x46 x0 x1 x4 x55 x58 :=
 xg x58 false H_5 (fun q => q (.pure x46)) (s33_48 G x58 x0 x1 x46 x4 x55)
def s33_50 G H_5 x46 x0 x1 x4 x55 x56 :=
 xb (aun .not x56) (s33_49 G H_5 x46 x0 x1 x4 x55)
def s33_51 G x54 H_5 x46 x0 x1 x4 x55 :=
 xb (aextract x54 1) (s33_50 G H_5 x46 x0 x1 x4 x55)
def s33_52 G x46 x0 x1 x4 x54 H_5 :=
 xb (aextract x54 0) (s33_51 G x54 H_5 x46 x0 x1 x4)
def s33_53 (G : CallT) H_4 x46 x0 x1 x4 x53 :=
 xcall H_4 (G 58 [x53] H_4) (s33_52 G x46 x0 x1 x4)
def s33_54 G x0 x1 H_4 x46 x4 x52 :=
 xb (aslice P 9 x0 (some x1) (some x52) none) (s33_53 G H_4 x46 x0 x1 x4)
def s33_55 G x1 x0 x4 x46 H_4 :=
 xb (fbin P .add 3 false x1 x46) (s33_54 G x0 x1 H_4 x46 x4)
def s33_56 (G : CallT) H_3 x0 x1 x4 :=
 xcall H_3 (G 54 [x0, x1, (.bool true)] H_3) (s33_55 G x1 x0 x4)
def s33_57 (H_5 : AHeap) (r : AV) : O :=
 some (.tuple [r, (.int .i64 0)], H_5)
def s33_58 x4 H_5 :=
 xb (aload P H_5 65 x4) (s33_57 H_5)
def s33_59 H_4 x4 :=
 xstore H_4 (astore P H_4 65 x4 (.agg [(.int .i64 0), (.str []), (.int .i64 0), (.int .i64 0)])) (s33_58 x4)
def s33_60 (x100 : AV) (H_5 : AHeap) (r : AV) : O :=
 some (.tuple [r, x100], H_5)
def s33_61 x4 x100 H_5 :=
 xb (aload P H_5 65 x4) (s33_60 x100 H_5)
def s33_62 H_4 x4 x98 x100 :=
 xstore H_4 (astore P H_4 65 x4 x98) (s33_61 x4 x100)
def s33_63 x92 H_4 x4 x98 :=
 xlen P .len [9] [x92] H_4 (s33_62 H_4 x4 x98)
def s33_64 x92 x1 H_4 x4 :=
 xb (abuild P 65 [(0, (.int .i64 4)), (1, x92), (3, x1)]) (s33_63 x92 H_4 x4)
def s33_65 H_4 x4 x92 x1 x94 :=
 xif (some x94) (s33_59 H_4 x4) (s33_64 x92 x1 H_4 x4)
def s33_66 x4 x1 x92 H_4 :=
 xb (fbin P .eql 9 true x92 (.str [])) (s33_65 H_4 x4 x92 x1)
def s33_67 (G : CallT) H_3 x0 x1 x4 :=
 xcall H_3 (G 59 [x0, x1] H_3) (s33_66 x4 x1)
def s33_68 G x0 x1 x4 x43 H_3 :=
 xif (some x43) (s33_56 G H_3 x0 x1 x4) (s33_67 G H_3 x0 x1 x4)
def s33_69 (G : CallT) H_2 x0 x1 x4 x42 :=
 xcall H_2 (G 57 [x42] H_2) (s33_68 G x0 x1 x4)
def s33_70 G x0 x1 H_2 x4 :=
 xb (aindex P 9 x0 x1) (s33_69 G H_2 x0 x1 x4)
def s33_71 G x0 x1 x4 x16 H_2 :=
 xif (some x16) (s33_17 G H_2 x0 x1 x4) (s33_70 G x0 x1 H_2 x4)
def s33_72 (G : CallT) H_1 x0 x1 x4 x15 :=
 xcall H_1 (G 53 [x15] H_1) (s33_71 G x0 x1 x4)
def s33_73 G x0 x1 x4 H_1 :=
 xb (aindex P 9 x0 x1) (s33_72 G H_1 x0 x1 x4)
/-- runrig/runrigref2.one -/
def s33 G x0 x1 H :=
 xalloc H [(.int .i64 0), (.str []), (.int .i64 0), (.int .i64 0)] (s33_73 G x0 x1)
theorem s33_eq (G : CallT) (N : Nat) (x0 : AV) (x1 : AV) (H : AHeap) : codeC P G N (bodyOf Try.f33) (retC P Try.f33.results.toList) [] (retC P Try.f33.results.toList) (argsF [x0, x1]) H = s33 G x0 x1 H := by
  refine Eq.trans ((via_leaf _ : ∀ R H, codeC P G N (bodyOf Try.f33) (retC P Try.f33.results.toList) [] (retC P Try.f33.results.toList) R H = _) (argsF [x0, x1]) H) ?_
  delta s33 s33_73 s33_72 s33_71 s33_70 s33_69 s33_68 s33_67 s33_66 s33_65 s33_64 s33_63 s33_62 s33_61 s33_60 s33_59 s33_58 s33_57 s33_56 s33_55 s33_54 s33_53 s33_52 s33_51 s33_50 s33_49 s33_48 s33_47 s33_46 s33_45 s33_44 s33_43 s33_42 s33_41 s33_40 s33_39 s33_38 s33_37 s33_36 s33_35 s33_34 s33_33 s33_32 s33_31 s33_30 s33_29 s33_28 s33_27 s33_26 s33_25 s33_24 s33_23 s33_22 s33_21 s33_20 s33_19 s33_18 s33_17 s33_16 s33_15 s33_14 s33_13 s33_12 s33_11 s33_10 s33_9 s33_8 s33_7 s33_6 s33_5 s33_4 s33_3 s33_2 s33_1 s33_0
  kernel_rfl

theorem run33 (N : Nat) {x0 x1 : AV} {H : AHeap} {r : AV × AHeap} (h : s33 (evw P) x0 x1 H = some r) : evw P 33 [x0, x1] H = some r :=
  evw_code (c := (bodyOf Try.f33)) (M := N) Try.func33 (by kernel_rfl) (by kernel_rfl) (by kernel_rfl) (Eq.trans (s33_eq (evw P) N x0 x1 H) h)

def s53_0 (H_8 : AHeap) (x16 : AV) : O :=
 some (x16, H_8)
def s53_1 x8 x15 H_8 :=
 xb (pickOf x8 (some (.bool true)) (some x15)) (s53_0 H_8)
def s53_2 x8 x12 x14 H_7 :=
 xg x8 false H_7 (fun q => (pickOf x12 (some x14) (some (.bool false))).bind fun v => q (.pure v)) (s53_1 x8)
def s53_3 x12 x8 x13 H_6 :=
 xg x12 true H_6 (fun q => (fbin P .leq 5 true x13 (.int .u8 90)).bind fun v => q (.pure v)) (s53_2 x8 x12)
def s53_4 x0 x8 x12 H_5 :=
 xg x12 true H_5 (fun q => q (.pure x0)) (s53_3 x12 x8)
def s53_5 x8 x0 x11 H_4 :=
 xg x8 false H_4 (fun q => q (.pure x11)) (s53_4 x0 x8)
def s53_6 x8 x0 x10 H_3 :=
 xg x8 false H_3 (fun q => (fbin P .geq 5 true x10 (.int .u8 65)).bind fun v => q (.pure v)) (s53_5 x8 x0)
def s53_7 H_2 x0 x8 :=
 xg x8 false H_2 (fun q => q (.pure x0)) (s53_6 x8 x0)
def s53_8 x4 x0 x7 H_2 :=
 xb (pickOf x4 (some x7) (some (.bool false))) (s53_7 H_2 x0)
def s53_9 x4 x0 x6 H_1 :=
 xg x4 true H_1 (fun q => (fbin P .leq 5 true x6 (.int .u8 122)).bind fun v => q (.pure v)) (s53_8 x4 x0)
def s53_10 H x0 x4 :=
 xg x4 true H (fun q => q (.pure x0)) (s53_9 x4 x0)
/-- runrig/runrigref2.letter -/
def s53 (G : CallT) x0 H :=
 xb (fbin P .geq 5 true x0 (.int .u8 97)) (s53_10 H x0)
theorem s53_eq (G : CallT) (N : Nat) (x0 : AV) (H : AHeap) : codeC P G N (bodyOf Try.f53) (retC P Try.f53.results.toList) [] (retC P Try.f53.results.toList) (argsF [x0]) H = s53 G x0 H := by
  refine Eq.trans ((via_leaf _ : ∀ R H, codeC P G N (bodyOf Try.f53) (retC P Try.f53.results.toList) [] (retC P Try.f53.results.toList) R H = _) (argsF [x0]) H) ?_
  delta s53 s53_10 s53_9 s53_8 s53_7 s53_6 s53_5 s53_4 s53_3 s53_2 s53_1 s53_0
  kernel_rfl

theorem run53 (N : Nat) {x0 : AV} {H : AHeap} {r : AV × AHeap} (h : s53 (evw P) x0 H = some r) : evw P 53 [x0] H = some r :=
  evw_code (c := (bodyOf Try.f53)) (M := N) Try.func53 (by kernel_rfl) (by kernel_rfl) (by kernel_rfl) (Eq.trans (s53_eq (evw P) N x0 H) h)

def s54_j0 (G : CallT) (N : Nat) (x7 : AV) (H : AHeap) : O :=
 some (x7, H)
theorem s54_j0_eq (G : CallT) (N : Nat) : ∀ R H, codeC P G N (Code.snd (Code.snd (Code.snd (bodyOf Try.f54)))) (retC P Try.f54.results.toList) [] (retC P Try.f54.results.toList) R H = s54_j0 G N (R 7) H := by
  intro R H
  refine Eq.trans ((via_leaf _ : ∀ R H, codeC P G N (Code.snd (Code.snd (Code.snd (bodyOf Try.f54)))) (retC P Try.f54.results.toList) [] (retC P Try.f54.results.toList) R H = _) R H) ?_
  delta s54_j0
  kernel_rfl

def s54_0 (L1 : AV → AV → AV → AV → AHeap → O) x0 x1 x2 H_18 x35 :=
 L1 x0 x1 x2 x35 H_18
def s54_1 L1 x7 x0 x1 x2 H_18 :=
 xb (fbin P .add 3 true x7 (.int .i64 1)) (s54_0 L1 x0 x1 x2 H_18)
def s54_2 G N x7 H_18 :=
 s54_j0 G N x7 H_18
def s54_3 G N L1 x7 x0 x1 x2 H_18 x33 :=
 xif (some x33) (s54_1 L1 x7 x0 x1 x2 H_18) (s54_2 G N x7 H_18)
def s54_4 G N L1 x13 x7 x0 x1 x2 x32 H_18 :=
 xb (pickOf x13 (some x32) (some (.bool false))) (s54_3 G N L1 x7 x0 x1 x2 H_18)
def s54_5 G N L1 x13 x21 x7 x0 x1 x2 x31 H_17 :=
 xg x13 true H_17 (fun q => (pickOf x21 (some (.bool true)) (some x31)).bind fun v => q (.pure v)) (s54_4 G N L1 x13 x7 x0 x1 x2)
def s54_6 G N L1 x21 x24 x13 x7 x0 x1 x2 x30 H_16 :=
 xg x21 false H_16 (fun q => (pickOf x24 (some x30) (some (.bool false))).bind fun v => q (.pure v)) (s54_5 G N L1 x13 x21 x7 x0 x1 x2)
def s54_7 (G : CallT) N L1 x24 x21 x13 x7 x0 x1 x2 x29 H_15 :=
 xg x24 true H_15 (fun q => xeff H_15 (G 53 [x29] H_15) q) (s54_6 G N L1 x21 x24 x13 x7 x0 x1 x2)
def s54_8 G N L1 x24 x25 x21 x13 x7 x0 x1 x2 x28 H_14 :=
 xg x24 true H_14 (fun q => (aindex P 9 x25 x28).bind fun v => q (.pure v)) (s54_7 G N L1 x24 x21 x13 x7 x0 x1 x2)
def s54_9 G N L1 x24 x26 x25 x21 x13 x7 x0 x1 x2 x27 H_13 :=
 xg x24 true H_13 (fun q => (fbin P .add 3 false x26 x27).bind fun v => q (.pure v)) (s54_8 G N L1 x24 x25 x21 x13 x7 x0 x1 x2)
def s54_10 G N L1 x24 x7 x25 x21 x13 x0 x1 x2 x26 H_12 :=
 xg x24 true H_12 (fun q => q (.pure x7)) (s54_9 G N L1 x24 x26 x25 x21 x13 x7 x0 x1 x2)
def s54_11 G N L1 x24 x1 x7 x21 x13 x0 x2 x25 H_11 :=
 xg x24 true H_11 (fun q => q (.pure x1)) (s54_10 G N L1 x24 x7 x25 x21 x13 x0 x1 x2)
def s54_12 G N L1 x0 x1 x7 x21 x13 x2 x24 H_10 :=
 xg x24 true H_10 (fun q => q (.pure x0)) (s54_11 G N L1 x24 x1 x7 x21 x13 x0 x2)
def s54_13 G N L1 x21 x0 x1 x7 x13 x2 x23 H_9 :=
 xg x21 false H_9 (fun q => q (.pure x23)) (s54_12 G N L1 x0 x1 x7 x21 x13 x2)
def s54_14 G N L1 x21 x0 x1 x7 x13 x2 x22 H_8 :=
 xg x21 false H_8 (fun q => (aun .not x22).bind fun v => q (.pure v)) (s54_13 G N L1 x21 x0 x1 x7 x13 x2)
def s54_15 G N L1 x2 x0 x1 x7 x13 x21 H_7 :=
 xg x21 false H_7 (fun q => q (.pure x2)) (s54_14 G N L1 x21 x0 x1 x7 x13 x2)
def s54_16 G N L1 x13 x2 x0 x1 x7 x20 H_6 :=
 xg x13 true H_6 (fun q => q (.pure x20)) (s54_15 G N L1 x2 x0 x1 x7 x13)
def s54_17 (G : CallT) N L1 x13 x2 x0 x1 x7 x19 H_5 :=
 xg x13 true H_5 (fun q => xeff H_5 (G 57 [x19] H_5) q) (s54_16 G N L1 x13 x2 x0 x1 x7)
def s54_18 G N L1 x13 x15 x2 x0 x1 x7 x18 H_4 :=
 xg x13 true H_4 (fun q => (aindex P 9 x15 x18).bind fun v => q (.pure v)) (s54_17 G N L1 x13 x2 x0 x1 x7)
def s54_19 G N L1 x13 x16 x15 x2 x0 x1 x7 x17 H_3 :=
 xg x13 true H_3 (fun q => (fbin P .add 3 false x16 x17).bind fun v => q (.pure v)) (s54_18 G N L1 x13 x15 x2 x0 x1 x7)
def s54_20 G N L1 x13 x7 x15 x2 x0 x1 x16 H_2 :=
 xg x13 true H_2 (fun q => q (.pure x7)) (s54_19 G N L1 x13 x16 x15 x2 x0 x1 x7)
def s54_21 G N L1 x13 x1 x7 x2 x0 x15 H_1 :=
 xg x13 true H_1 (fun q => q (.pure x1)) (s54_20 G N L1 x13 x7 x15 x2 x0 x1)
def s54_22 G N L1 H x0 x1 x7 x2 x13 :=
 xg x13 true H (fun q => q (.pure x0)) (s54_21 G N L1 x13 x1 x7 x2 x0)
def s54_23 G N L1 x10 H x0 x1 x7 x2 x12 :=
 xb (fbin P .lss 3 false x10 x12) (s54_22 G N L1 H x0 x1 x7 x2)
def s54_24 G N L1 x0 H x1 x7 x2 x10 :=
 xlen P .len [9] [x0] H (s54_23 G N L1 x10 H x0 x1 x7 x2)
def s54_b1 G N L1 x0 x1 x2 x7 H :=
 xb (fbin P .add 3 false x1 x7) (s54_24 G N L1 x0 H x1 x7 x2)
noncomputable def s54_l1 (G : CallT) (N : Nat) : Nat → AV → AV → AV → AV → AHeap → O
  | 0, _, _, _, _, _ => none
  | n + 1, x0, x1, x2, x7, H => s54_b1 G N (s54_l1 G N n) x0 x1 x2 x7 H

theorem s54_b1_eq (G : CallT) (N : Nat) (L1 : AV → AV → AV → AV → AHeap → O) : ∀ R H, codeC P G N (Code.fst (Code.fst (Code.fst (Code.snd (Code.snd (bodyOf Try.f54)))))) (fun R H => L1 (R 0) (R 1) (R 2) (R 7) H) [(0, (fun R H => s54_j0 G N (R 7) H))] (retC P Try.f54.results.toList) R H = s54_b1 G N L1 (R 0) (R 1) (R 2) (R 7) H := by
  intro R H
  refine Eq.trans ((via_leaf _ : ∀ R H, codeC P G N (Code.fst (Code.fst (Code.fst (Code.snd (Code.snd (bodyOf Try.f54)))))) (fun R H => L1 (R 0) (R 1) (R 2) (R 7) H) [(0, (fun R H => s54_j0 G N (R 7) H))] (retC P Try.f54.results.toList) R H = _) R H) ?_
  delta s54_b1 s54_24 s54_23 s54_22 s54_21 s54_20 s54_19 s54_18 s54_17 s54_16 s54_15 s54_14 s54_13 s54_12 s54_11 s54_10 s54_9 s54_8 s54_7 s54_6 s54_5 s54_4 s54_3 s54_2 s54_1 s54_0
  generalize s54_j0 G N = J0
  revert J0
  refine id ?_
  intro J0
  kernel_rfl

/-- runrig/runrigref2.run -/
def s54 G N x0 x1 x2 H :=
 s54_l1 G N N x0 x1 x2 (.int .i64 0) H
theorem s54_eq (G : CallT) (N : Nat) (x0 : AV) (x1 : AV) (x2 : AV) (H : AHeap) : codeC P G N (bodyOf Try.f54) (retC P Try.f54.results.toList) [] (retC P Try.f54.results.toList) (argsF [x0, x1, x2]) H = s54 G N x0 x1 x2 H := by
  refine Eq.trans (((via_seq (by kernel_rfl) ((via_seq (by kernel_rfl) ((via_seq (by kernel_rfl) (s54_j0_eq G N) ((via_block (by kernel_rfl) ((via_loop (k := fun m R H => s54_l1 G N m (R 0) (R 1) (R 2) (R 7) H) (by kernel_rfl) (fun R H => by kernel_rfl) (fun m => s54_b1_eq G N (s54_l1 G N m)))))))) (via_leaf _))) (via_leaf _)) : ∀ R H, codeC P G N (bodyOf Try.f54) (retC P Try.f54.results.toList) [] (retC P Try.f54.results.toList) R H = _) (argsF [x0, x1, x2]) H) ?_
  delta s54
  generalize s54_l1 G N N = J0
  revert J0
  refine id ?_
  intro J0
  kernel_rfl

theorem run54 (N : Nat) {x0 x1 x2 : AV} {H : AHeap} {r : AV × AHeap} (h : s54 (evw P) N x0 x1 x2 H = some r) : evw P 54 [x0, x1, x2] H = some r :=
  evw_code (c := (bodyOf Try.f54)) (M := N) Try.func54 (by kernel_rfl) (by kernel_rfl) (by kernel_rfl) (Eq.trans (s54_eq (evw P) N x0 x1 x2 H) h)

def s55_j0 (G : CallT) (N : Nat) (H : AHeap) : O :=
 some ((.bool false), H)
theorem s55_j0_eq (G : CallT) (N : Nat) : ∀ R H, codeC P G N (Code.snd (Code.snd (Code.snd (bodyOf Try.f55)))) (retC P Try.f55.results.toList) [] (retC P Try.f55.results.toList) R H = s55_j0 G N H := by
  intro R H
  refine Eq.trans ((via_leaf _ : ∀ R H, codeC P G N (Code.snd (Code.snd (Code.snd (bodyOf Try.f55)))) (retC P Try.f55.results.toList) [] (retC P Try.f55.results.toList) R H = _) R H) ?_
  delta s55_j0
  kernel_rfl

def s55_0 (H : AHeap) : O :=
 some ((.bool true), H)
def s55_1 (L1 : AV → AV → AV → AHeap → O) x0 x3 H x11 :=
 L1 x0 x3 x11 H
def s55_2 L1 x4 x0 x3 H :=
 xb (fbin P .add 3 true x4 (.int .i64 1)) (s55_1 L1 x0 x3 H)
def s55_3 L1 H x4 x0 x3 x17 :=
 xif (some x17) (s55_0 H) (s55_2 L1 x4 x0 x3 H)
def s55_4 L1 x0 H x4 x3 x15 :=
 xb (fbin P .eql 9 false x15 x0) (s55_3 L1 H x4 x0 x3)
def s55_5 L1 H x0 x4 x3 x14 :=
 xb (aload P H 9 x14) (s55_4 L1 x0 H x4 x3)
def s55_6 L1 x3 x4 H x0 :=
 xb (aindexAddr P 46 x3 x4) (s55_5 L1 H x0 x4 x3)
def s55_7 G N H :=
 s55_j0 G N H
def s55_8 G N L1 x3 x4 H x0 x9 :=
 xif (some x9) (s55_6 L1 x3 x4 H x0) (s55_7 G N H)
def s55_9 G N L1 x4 x3 H x0 x8 :=
 xb (fbin P .lss 3 false x4 x8) (s55_8 G N L1 x3 x4 H x0)
def s55_b1 G N L1 x0 x3 x4 H :=
 xlen P .len [46] [x3] H (s55_9 G N L1 x4 x3 H x0)
noncomputable def s55_l1 (G : CallT) (N : Nat) : Nat → AV → AV → AV → AHeap → O
  | 0, _, _, _, _ => none
  | n + 1, x0, x3, x4, H => s55_b1 G N (s55_l1 G N n) x0 x3 x4 H

theorem s55_b1_eq (G : CallT) (N : Nat) (L1 : AV → AV → AV → AHeap → O) : ∀ R H, codeC P G N (Code.fst (Code.fst (Code.snd (Code.fst (Code.snd (Code.snd (bodyOf Try.f55))))))) (fun R H => L1 (R 0) (R 3) (R 4) H) [(0, (fun R H => s55_j0 G N H))] (retC P Try.f55.results.toList) R H = s55_b1 G N L1 (R 0) (R 3) (R 4) H := by
  intro R H
  refine Eq.trans ((via_leaf _ : ∀ R H, codeC P G N (Code.fst (Code.fst (Code.snd (Code.fst (Code.snd (Code.snd (bodyOf Try.f55))))))) (fun R H => L1 (R 0) (R 3) (R 4) H) [(0, (fun R H => s55_j0 G N H))] (retC P Try.f55.results.toList) R H = _) R H) ?_
  delta s55_b1 s55_9 s55_8 s55_7 s55_6 s55_5 s55_4 s55_3 s55_2 s55_1 s55_0
  generalize s55_j0 G N = J0
  revert J0
  refine id ?_
  intro J0
  kernel_rfl

def s55_10 G N x0 x5 H_1 :=
 s55_l1 G N N x0 x5 (.int .i64 0) H_1
/-- runrig/runrigref2.Word -/
def s55 (G : CallT) N x0 H :=
 xcall H (G 79 [] H) (s55_10 G N x0)
theorem s55_eq (G : CallT) (N : Nat) (x0 : AV) (H : AHeap) : codeC P G N (bodyOf Try.f55) (retC P Try.f55.results.toList) [] (retC P Try.f55.results.toList) (argsF [x0]) H = s55 G N x0 H := by
  refine Eq.trans (((via_seq (by kernel_rfl) ((via_seq (by kernel_rfl) ((via_seq (by kernel_rfl) (s55_j0_eq G N) ((via_seq (by kernel_rfl) ((via_block (by kernel_rfl) ((via_loop (k := fun m R H => s55_l1 G N m (R 0) (R 3) (R 4) H) (by kernel_rfl) (fun R H => by kernel_rfl) (fun m => s55_b1_eq G N (s55_l1 G N m)))))) (via_leaf _))))) (via_leaf _))) (via_leaf _)) : ∀ R H, codeC P G N (bodyOf Try.f55) (retC P Try.f55.results.toList) [] (retC P Try.f55.results.toList) R H = _) (argsF [x0]) H) ?_
  delta s55 s55_10
  generalize s55_l1 G N N = J0
  revert J0
  refine id ?_
  intro J0
  kernel_rfl

theorem run55 (N : Nat) {x0 : AV} {H : AHeap} {r : AV × AHeap} (h : s55 (evw P) N x0 H = some r) : evw P 55 [x0] H = some r :=
  evw_code (c := (bodyOf Try.f55)) (M := N) Try.func55 (by kernel_rfl) (by kernel_rfl) (by kernel_rfl) (Eq.trans (s55_eq (evw P) N x0 H) h)

def s56_0 (H_9 : AHeap) : O :=
 some ((.bool false), H_9)
def s56_j0 (G : CallT) (N : Nat) (H : AHeap) : O :=
 some ((.bool true), H)
theorem s56_j0_eq (G : CallT) (N : Nat) : ∀ R H, codeC P G N (Code.snd (Code.snd (Code.snd (bodyOf Try.f56)))) (retC P Try.f56.results.toList) [] (retC P Try.f56.results.toList) R H = s56_j0 G N H := by
  intro R H
  refine Eq.trans ((via_leaf _ : ∀ R H, codeC P G N (Code.snd (Code.snd (Code.snd (bodyOf Try.f56)))) (retC P Try.f56.results.toList) [] (retC P Try.f56.results.toList) R H = _) R H) ?_
  delta s56_j0
  kernel_rfl

def s56_1 (H_6 : AHeap) : O :=
 some ((.bool false), H_6)
def s56_2 (L1 : AV → AV → AHeap → O) x0 H_6 x27 :=
 L1 x0 x27 H_6
def s56_3 L1 x3 x0 H_6 :=
 xb (fbin P .add 3 true x3 (.int .i64 1)) (s56_2 L1 x0 H_6)
def s56_4 L1 H_6 x3 x0 x39 :=
 xif (some x39) (s56_1 H_6) (s56_3 L1 x3 x0 H_6)
def s56_5 L1 x32 x3 x0 x38 H_6 :=
 xb (pickOf x32 (some x38) (some (.bool false))) (s56_4 L1 H_6 x3 x0)
def s56_6 L1 x32 x3 x0 x37 H_5 :=
 xg x32 true H_5 (fun q => (aun .not x37).bind fun v => q (.pure v)) (s56_5 L1 x32 x3 x0)
def s56_7 (G : CallT) L1 x32 x3 x0 x36 H_4 :=
 xg x32 true H_4 (fun q => xeff H_4 (G 57 [x36] H_4) q) (s56_6 L1 x32 x3 x0)
def s56_8 G L1 x32 x34 x3 x0 x35 H_3 :=
 xg x32 true H_3 (fun q => (aindex P 9 x34 x35).bind fun v => q (.pure v)) (s56_7 G L1 x32 x3 x0)
def s56_9 G L1 x32 x3 x0 x34 H_2 :=
 xg x32 true H_2 (fun q => q (.pure x3)) (s56_8 G L1 x32 x34 x3 x0)
def s56_10 G L1 H_1 x0 x3 x32 :=
 xg x32 true H_1 (fun q => q (.pure x0)) (s56_9 G L1 x32 x3 x0)
def s56_11 G L1 x0 x3 x31 H_1 :=
 xb (aun .not x31) (s56_10 G L1 H_1 x0 x3)
def s56_12 (G : CallT) L1 H x0 x3 x30 :=
 xcall H (G 53 [x30] H) (s56_11 G L1 x0 x3)
def s56_13 G L1 x0 x3 H :=
 xb (aindex P 9 x0 x3) (s56_12 G L1 H x0 x3)
def s56_14 G N H :=
 s56_j0 G N H
def s56_15 G N L1 x0 x3 H x25 :=
 xif (some x25) (s56_13 G L1 x0 x3 H) (s56_14 G N H)
def s56_16 G N L1 x3 x0 H x24 :=
 xb (fbin P .lss 3 false x3 x24) (s56_15 G N L1 x0 x3 H)
def s56_b1 G N L1 x0 x3 H :=
 xlen P .len [9] [x0] H (s56_16 G N L1 x3 x0 H)
noncomputable def s56_l1 (G : CallT) (N : Nat) : Nat → AV → AV → AHeap → O
  | 0, _, _, _ => none
  | n + 1, x0, x3, H => s56_b1 G N (s56_l1 G N n) x0 x3 H

theorem s56_b1_eq (G : CallT) (N : Nat) (L1 : AV → AV → AHeap → O) : ∀ R H, codeC P G N (Code.fst (Code.fst (Code.snd (Code.fst (Code.snd (Code.snd (bodyOf Try.f56))))))) (fun R H => L1 (R 0) (R 3) H) [(0, (fun R H => s56_j0 G N H))] (retC P Try.f56.results.toList) R H = s56_b1 G N L1 (R 0) (R 3) H := by
  intro R H
  refine Eq.trans ((via_leaf _ : ∀ R H, codeC P G N (Code.fst (Code.fst (Code.snd (Code.fst (Code.snd (Code.snd (bodyOf Try.f56))))))) (fun R H => L1 (R 0) (R 3) H) [(0, (fun R H => s56_j0 G N H))] (retC P Try.f56.results.toList) R H = _) R H) ?_
  delta s56_b1 s56_16 s56_15 s56_14 s56_13 s56_12 s56_11 s56_10 s56_9 s56_8 s56_7 s56_6 s56_5 s56_4 s56_3 s56_2 s56_1
  generalize s56_j0 G N = J0
  revert J0
  refine id ?_
  intro J0
  kernel_rfl

def s56_17 G N x0 H_9 :=
 s56_l1 G N N x0 (.int .i64 0) H_9
def s56_18 G N H_9 x0 x21 :=
 xif (some x21) (s56_0 H_9) (s56_17 G N x0 H_9)
def s56_19 G N x17 x0 x20 H_9 :=
 xb (pickOf x17 (some (.bool true)) (some x20)) (s56_18 G N H_9 x0)
def s56_20 (G : CallT) N x17 x0 x19 H_8 :=
 xg x17 false H_8 (fun q => xeff H_8 (G 55 [x19] H_8) q) (s56_19 G N x17 x0)
def s56_21 G N H_7 x0 x17 :=
 xg x17 false H_7 (fun q => q (.pure x0)) (s56_20 G N x17 x0)
def s56_22 G N x11 x0 x16 H_7 :=
 xb (pickOf x11 (some (.bool true)) (some x16)) (s56_21 G N H_7 x0)
def s56_23 G N x11 x0 x15 H_6 :=
 xg x11 false H_6 (fun q => (aun .not x15).bind fun v => q (.pure v)) (s56_22 G N x11 x0)
def s56_24 (G : CallT) N x11 x0 x14 H_5 :=
 xg x11 false H_5 (fun q => xeff H_5 (G 53 [x14] H_5) q) (s56_23 G N x11 x0)
def s56_25 G N x11 x0 x13 H_4 :=
 xg x11 false H_4 (fun q => (aindex P 9 x13 (.int .i64 0)).bind fun v => q (.pure v)) (s56_24 G N x11 x0)
def s56_26 G N H_3 x0 x11 :=
 xg x11 false H_3 (fun q => q (.pure x0)) (s56_25 G N x11 x0)
def s56_27 G N x6 x0 x10 H_3 :=
 xb (pickOf x6 (some (.bool true)) (some x10)) (s56_26 G N H_3 x0)
def s56_28 G N x6 x0 x9 H_2 :=
 xg x6 false H_2 (fun q => (fbin P .gtr 3 true x9 (.int .i64 8)).bind fun v => q (.pure v)) (s56_27 G N x6 x0)
def s56_29 G N x6 x0 x8 H_1 :=
 xg x6 false H_1 (fun q => xboth (abuiltin P .empty .len [9] [x8]) (abuiltin P H_1 .len [9] [x8]) q) (s56_28 G N x6 x0)
def s56_30 G N H x0 x6 :=
 xg x6 false H (fun q => q (.pure x0)) (s56_29 G N x6 x0)
def s56_31 G N H x0 x5 :=
 xb (fbin P .lss 3 true x5 (.int .i64 1)) (s56_30 G N H x0)
/-- runrig/runrigref2.Name -/
def s56 G N x0 H :=
 xlen P .len [9] [x0] H (s56_31 G N H x0)
theorem s56_eq (G : CallT) (N : Nat) (x0 : AV) (H : AHeap) : codeC P G N (bodyOf Try.f56) (retC P Try.f56.results.toList) [] (retC P Try.f56.results.toList) (argsF [x0]) H = s56 G N x0 H := by
  refine Eq.trans (((via_seq (by kernel_rfl) ((via_seq (by kernel_rfl) ((via_seq (by kernel_rfl) (s56_j0_eq G N) ((via_seq (by kernel_rfl) ((via_block (by kernel_rfl) ((via_loop (k := fun m R H => s56_l1 G N m (R 0) (R 3) H) (by kernel_rfl) (fun R H => by kernel_rfl) (fun m => s56_b1_eq G N (s56_l1 G N m)))))) (via_leaf _))))) (via_leaf _))) (via_leaf _)) : ∀ R H, codeC P G N (bodyOf Try.f56) (retC P Try.f56.results.toList) [] (retC P Try.f56.results.toList) R H = _) (argsF [x0]) H) ?_
  delta s56 s56_31 s56_30 s56_29 s56_28 s56_27 s56_26 s56_25 s56_24 s56_23 s56_22 s56_21 s56_20 s56_19 s56_18 s56_17 s56_0
  generalize s56_l1 G N N = J0
  revert J0
  refine id ?_
  intro J0
  kernel_rfl

theorem run56 (N : Nat) {x0 : AV} {H : AHeap} {r : AV × AHeap} (h : s56 (evw P) N x0 H = some r) : evw P 56 [x0] H = some r :=
  evw_code (c := (bodyOf Try.f56)) (M := N) Try.func56 (by kernel_rfl) (by kernel_rfl) (by kernel_rfl) (Eq.trans (s56_eq (evw P) N x0 H) h)

def s57_0 (H_2 : AHeap) (x8 : AV) : O :=
 some (x8, H_2)
def s57_1 x4 x7 H_2 :=
 xb (pickOf x4 (some x7) (some (.bool false))) (s57_0 H_2)
def s57_2 x4 x6 H_1 :=
 xg x4 true H_1 (fun q => (fbin P .leq 5 true x6 (.int .u8 57)).bind fun v => q (.pure v)) (s57_1 x4)
def s57_3 H x0 x4 :=
 xg x4 true H (fun q => q (.pure x0)) (s57_2 x4)
/-- runrig/runrigref2.digit -/
def s57 (G : CallT) x0 H :=
 xb (fbin P .geq 5 true x0 (.int .u8 48)) (s57_3 H x0)
theorem s57_eq (G : CallT) (N : Nat) (x0 : AV) (H : AHeap) : codeC P G N (bodyOf Try.f57) (retC P Try.f57.results.toList) [] (retC P Try.f57.results.toList) (argsF [x0]) H = s57 G x0 H := by
  refine Eq.trans ((via_leaf _ : ∀ R H, codeC P G N (bodyOf Try.f57) (retC P Try.f57.results.toList) [] (retC P Try.f57.results.toList) R H = _) (argsF [x0]) H) ?_
  delta s57 s57_3 s57_2 s57_1 s57_0
  kernel_rfl

theorem run57 (N : Nat) {x0 : AV} {H : AHeap} {r : AV × AHeap} (h : s57 (evw P) x0 H = some r) : evw P 57 [x0] H = some r :=
  evw_code (c := (bodyOf Try.f57)) (M := N) Try.func57 (by kernel_rfl) (by kernel_rfl) (by kernel_rfl) (Eq.trans (s57_eq (evw P) N x0 H) h)

def s58_j0 (G : CallT) (N : Nat) (x4 : AV) (H : AHeap) : O :=
 some (.tuple [x4, (.bool true)], H)
theorem s58_j0_eq (G : CallT) (N : Nat) : ∀ R H, codeC P G N (Code.snd (Code.snd (Code.snd (bodyOf Try.f58)))) (retC P Try.f58.results.toList) [] (retC P Try.f58.results.toList) R H = s58_j0 G N (R 4) H := by
  intro R H
  refine Eq.trans ((via_leaf _ : ∀ R H, codeC P G N (Code.snd (Code.snd (Code.snd (bodyOf Try.f58)))) (retC P Try.f58.results.toList) [] (retC P Try.f58.results.toList) R H = _) R H) ?_
  delta s58_j0
  kernel_rfl

def s58_0 (H : AHeap) : O :=
 some (.tuple [(.int .i64 0), (.bool false)], H)
def s58_1 (L1 : AV → AV → AV → AHeap → O) x0 x26 H x12 :=
 L1 x0 x26 x12 H
def s58_2 L1 x5 x0 H x26 :=
 xb (fbin P .add 3 true x5 (.int .i64 1)) (s58_1 L1 x0 x26 H)
def s58_3 L1 x17 x5 x0 H x24 :=
 xb (fbin P .add 3 false x24 x17) (s58_2 L1 x5 x0 H)
def s58_4 L1 x4 x17 x5 x0 H :=
 xb (fbin P .mul 3 true (.int .i64 10) x4) (s58_3 L1 x17 x5 x0 H)
def s58_5 L1 H x4 x17 x5 x0 x22 :=
 xif (some x22) (s58_0 H) (s58_4 L1 x4 x17 x5 x0 H)
def s58_6 L1 x4 H x17 x5 x0 x21 :=
 xb (fbin P .gtr 3 false x4 x21) (s58_5 L1 H x4 x17 x5 x0)
def s58_7 L1 x4 H x17 x5 x0 x20 :=
 xb (fbin P .quo 3 true x20 (.int .i64 10)) (s58_6 L1 x4 H x17 x5 x0)
def s58_8 L1 x4 H x5 x0 x17 :=
 xb (fbin P .sub 3 true (.int .i64 9223372036854775807) x17) (s58_7 L1 x4 H x17 x5 x0)
def s58_9 L1 H x4 x5 x0 x16 :=
 xconv P 5 3 x16 H (s58_8 L1 x4 H x5 x0)
def s58_10 L1 H x4 x5 x0 x15 :=
 xb (fbin P .sub 5 true x15 (.int .u8 48)) (s58_9 L1 H x4 x5 x0)
def s58_11 L1 x0 x5 H x4 :=
 xb (aindex P 9 x0 x5) (s58_10 L1 H x4 x5 x0)
def s58_12 G N x4 H :=
 s58_j0 G N x4 H
def s58_13 G N L1 x0 x5 H x4 x10 :=
 xif (some x10) (s58_11 L1 x0 x5 H x4) (s58_12 G N x4 H)
def s58_14 G N L1 x5 x0 H x4 x9 :=
 xb (fbin P .lss 3 false x5 x9) (s58_13 G N L1 x0 x5 H x4)
def s58_b1 G N L1 x0 x4 x5 H :=
 xlen P .len [9] [x0] H (s58_14 G N L1 x5 x0 H x4)
noncomputable def s58_l1 (G : CallT) (N : Nat) : Nat → AV → AV → AV → AHeap → O
  | 0, _, _, _, _ => none
  | n + 1, x0, x4, x5, H => s58_b1 G N (s58_l1 G N n) x0 x4 x5 H

theorem s58_b1_eq (G : CallT) (N : Nat) (L1 : AV → AV → AV → AHeap → O) : ∀ R H, codeC P G N (Code.fst (Code.fst (Code.snd (Code.fst (Code.snd (Code.snd (bodyOf Try.f58))))))) (fun R H => L1 (R 0) (R 4) (R 5) H) [(0, (fun R H => s58_j0 G N (R 4) H))] (retC P Try.f58.results.toList) R H = s58_b1 G N L1 (R 0) (R 4) (R 5) H := by
  intro R H
  refine Eq.trans ((via_leaf _ : ∀ R H, codeC P G N (Code.fst (Code.fst (Code.snd (Code.fst (Code.snd (Code.snd (bodyOf Try.f58))))))) (fun R H => L1 (R 0) (R 4) (R 5) H) [(0, (fun R H => s58_j0 G N (R 4) H))] (retC P Try.f58.results.toList) R H = _) R H) ?_
  delta s58_b1 s58_14 s58_13 s58_12 s58_11 s58_10 s58_9 s58_8 s58_7 s58_6 s58_5 s58_4 s58_3 s58_2 s58_1 s58_0
  generalize s58_j0 G N = J0
  revert J0
  refine id ?_
  intro J0
  kernel_rfl

/-- runrig/runrigref2.whole -/
def s58 G N x0 H :=
 s58_l1 G N N x0 (.int .i64 0) (.int .i64 0) H
theorem s58_eq (G : CallT) (N : Nat) (x0 : AV) (H : AHeap) : codeC P G N (bodyOf Try.f58) (retC P Try.f58.results.toList) [] (retC P Try.f58.results.toList) (argsF [x0]) H = s58 G N x0 H := by
  refine Eq.trans (((via_seq (by kernel_rfl) ((via_seq (by kernel_rfl) ((via_seq (by kernel_rfl) (s58_j0_eq G N) ((via_seq (by kernel_rfl) ((via_block (by kernel_rfl) ((via_loop (k := fun m R H => s58_l1 G N m (R 0) (R 4) (R 5) H) (by kernel_rfl) (fun R H => by kernel_rfl) (fun m => s58_b1_eq G N (s58_l1 G N m)))))) (via_leaf _))))) (via_leaf _))) (via_leaf _)) : ∀ R H, codeC P G N (bodyOf Try.f58) (retC P Try.f58.results.toList) [] (retC P Try.f58.results.toList) R H = _) (argsF [x0]) H) ?_
  delta s58
  generalize s58_l1 G N N = J0
  revert J0
  refine id ?_
  intro J0
  kernel_rfl

theorem run58 (N : Nat) {x0 : AV} {H : AHeap} {r : AV × AHeap} (h : s58 (evw P) N x0 H = some r) : evw P 58 [x0] H = some r :=
  evw_code (c := (bodyOf Try.f58)) (M := N) Try.func58 (by kernel_rfl) (by kernel_rfl) (by kernel_rfl) (Eq.trans (s58_eq (evw P) N x0 H) h)

def s59_j1 (G : CallT) (N : Nat) (H : AHeap) : O :=
 some ((.str []), H)
theorem s59_j1_eq (G : CallT) (N : Nat) : ∀ R H, codeC P G N (Code.snd (Code.snd (Code.snd (Code.snd (Code.snd (bodyOf Try.f59)))))) (retC P Try.f59.results.toList) [] (retC P Try.f59.results.toList) R H = s59_j1 G N H := by
  intro R H
  refine Eq.trans ((via_leaf _ : ∀ R H, codeC P G N (Code.snd (Code.snd (Code.snd (Code.snd (Code.snd (bodyOf Try.f59)))))) (retC P Try.f59.results.toList) [] (retC P Try.f59.results.toList) R H = _) R H) ?_
  delta s59_j1
  kernel_rfl

def s59_0 (H : AHeap) (x54 : AV) : O :=
 some (x54, H)
def s59_1 x7 x8 H x53 :=
 xb (aslice P 9 x7 (some x8) (some x53) none) (s59_0 H)
def s59_2 x8 x7 H :=
 xb (fbin P .add 3 true x8 (.int .i64 1)) (s59_1 x7 x8 H)
def s59_3 (L2 : AV → AV → AV → AV → AHeap → O) x0 x1 x7 H x42 :=
 L2 x0 x1 x7 x42 H
def s59_4 L2 x8 x0 x1 x7 H :=
 xb (fbin P .add 3 true x8 (.int .i64 1)) (s59_3 L2 x0 x1 x7 H)
def s59_5 L2 x8 x7 H x0 x1 x49 :=
 xif (some x49) (s59_2 x8 x7 H) (s59_4 L2 x8 x0 x1 x7 H)
def s59_6 L2 x45 x8 x7 H x0 x1 x48 :=
 xb (fbin P .eql 5 false x45 x48) (s59_5 L2 x8 x7 H x0 x1)
def s59_7 L2 x7 x8 H x0 x1 x45 :=
 xb (aindex P 9 x7 x8) (s59_6 L2 x45 x8 x7 H x0 x1)
def s59_8 L2 x0 x1 x7 x8 H :=
 xb (aindex P 9 x0 x1) (s59_7 L2 x7 x8 H x0 x1)
def s59_9 G N H :=
 s59_j1 G N H
def s59_10 G N L2 x0 x1 x7 x8 H x40 :=
 xif (some x40) (s59_8 L2 x0 x1 x7 x8 H) (s59_9 G N H)
def s59_11 G N L2 x8 x0 x1 x7 H x39 :=
 xb (fbin P .lss 3 false x8 x39) (s59_10 G N L2 x0 x1 x7 x8 H)
def s59_b2 G N L2 x0 x1 x7 x8 H :=
 xlen P .len [9] [x7] H (s59_11 G N L2 x8 x0 x1 x7 H)
noncomputable def s59_l2 (G : CallT) (N : Nat) : Nat → AV → AV → AV → AV → AHeap → O
  | 0, _, _, _, _, _ => none
  | n + 1, x0, x1, x7, x8, H => s59_b2 G N (s59_l2 G N n) x0 x1 x7 x8 H

theorem s59_b2_eq (G : CallT) (N : Nat) (L2 : AV → AV → AV → AV → AHeap → O) : ∀ R H, codeC P G N (Code.fst (Code.fst (Code.snd (Code.fst (Code.snd (Code.snd (Code.snd (Code.snd (bodyOf Try.f59))))))))) (fun R H => L2 (R 0) (R 1) (R 7) (R 8) H) [(2, (fun R H => s59_j1 G N H))] (retC P Try.f59.results.toList) R H = s59_b2 G N L2 (R 0) (R 1) (R 7) (R 8) H := by
  intro R H
  refine Eq.trans ((via_leaf _ : ∀ R H, codeC P G N (Code.fst (Code.fst (Code.snd (Code.fst (Code.snd (Code.snd (Code.snd (Code.snd (bodyOf Try.f59))))))))) (fun R H => L2 (R 0) (R 1) (R 7) (R 8) H) [(2, (fun R H => s59_j1 G N H))] (retC P Try.f59.results.toList) R H = _) R H) ?_
  delta s59_b2 s59_11 s59_10 s59_9 s59_8 s59_7 s59_6 s59_5 s59_4 s59_3 s59_2 s59_1 s59_0
  generalize s59_j1 G N = J0
  revert J0
  refine id ?_
  intro J0
  kernel_rfl

def s59_j0 G N x0 x1 H :=
 s59_l2 G N N x0 x1 (.str [123, 125, 40, 41, 91, 93, 59, 58, 44, 46, 61, 43, 45, 42, 47, 37, 60, 33]) (.int .i64 0) H
theorem s59_j0_eq (G : CallT) (N : Nat) : ∀ R H, codeC P G N (Code.snd (Code.snd (Code.snd (bodyOf Try.f59)))) (retC P Try.f59.results.toList) [] (retC P Try.f59.results.toList) R H = s59_j0 G N (R 0) (R 1) H := by
  intro R H
  refine Eq.trans (((via_seq (by kernel_rfl) ((via_seq (by kernel_rfl) (s59_j1_eq G N) ((via_seq (by kernel_rfl) ((via_block (by kernel_rfl) ((via_loop (k := fun m R H => s59_l2 G N m (R 0) (R 1) (R 7) (R 8) H) (by kernel_rfl) (fun R H => by kernel_rfl) (fun m => s59_b2_eq G N (s59_l2 G N m)))))) (via_leaf _))))) (via_leaf _)) : ∀ R H, codeC P G N (Code.snd (Code.snd (Code.snd (bodyOf Try.f59)))) (retC P Try.f59.results.toList) [] (retC P Try.f59.results.toList) R H = _) R H) ?_
  delta s59_j0
  generalize s59_l2 G N N = J0
  revert J0
  refine id ?_
  intro J0
  kernel_rfl

def s59_12 (H_10 : AHeap) (x36 : AV) : O :=
 some (x36, H_10)
def s59_13 H_10 x35 :=
 xb (aload P H_10 9 x35) (s59_12 H_10)
def s59_14 x5 x6 H_10 :=
 xb (aindexAddr P 46 x5 x6) (s59_13 H_10)
def s59_15 (L3 : AV → AV → AV → AV → AHeap → O) x0 x1 x5 H_10 x15 :=
 L3 x0 x1 x5 x15 H_10
def s59_16 L3 x6 x0 x1 x5 H_10 :=
 xb (fbin P .add 3 true x6 (.int .i64 1)) (s59_15 L3 x0 x1 x5 H_10)
def s59_17 L3 x5 x6 H_10 x0 x1 x32 :=
 xif (some x32) (s59_14 x5 x6 H_10) (s59_16 L3 x6 x0 x1 x5 H_10)
def s59_18 L3 x20 x5 x6 x0 x1 x31 H_10 :=
 xb (pickOf x20 (some x31) (some (.bool false))) (s59_17 L3 x5 x6 H_10 x0 x1)
def s59_19 L3 x20 x26 x5 x6 x0 x1 x30 H_9 :=
 xg x20 true H_9 (fun q => (fbin P .eql 9 false x26 x30).bind fun v => q (.pure v)) (s59_18 L3 x20 x5 x6 x0 x1)
def s59_20 L3 x20 x26 x5 x6 x0 x1 x29 H_8 :=
 xg x20 true H_8 (fun q => (aload P H_8 9 x29).bind fun v => q (.read v)) (s59_19 L3 x20 x26 x5 x6 x0 x1)
def s59_21 L3 x20 x27 x26 x5 x6 x0 x1 x28 H_7 :=
 xg x20 true H_7 (fun q => (aindexAddr P 46 x27 x28).bind fun v => q (.pure v)) (s59_20 L3 x20 x26 x5 x6 x0 x1)
def s59_22 L3 x20 x6 x26 x5 x0 x1 x27 H_6 :=
 xg x20 true H_6 (fun q => q (.pure x6)) (s59_21 L3 x20 x27 x26 x5 x6 x0 x1)
def s59_23 L3 x20 x5 x6 x0 x1 x26 H_5 :=
 xg x20 true H_5 (fun q => q (.pure x5)) (s59_22 L3 x20 x6 x26 x5 x0 x1)
def s59_24 L3 x20 x22 x23 x5 x6 x0 x1 x25 H_4 :=
 xg x20 true H_4 (fun q => (aslice P 9 x22 (some x23) (some x25) none).bind fun v => q (.pure v)) (s59_23 L3 x20 x5 x6 x0 x1)
def s59_25 L3 x20 x22 x23 x5 x6 x0 x1 x24 H_3 :=
 xg x20 true H_3 (fun q => (fbin P .add 3 true x24 (.int .i64 2)).bind fun v => q (.pure v)) (s59_24 L3 x20 x22 x23 x5 x6 x0 x1)
def s59_26 L3 x20 x1 x22 x5 x6 x0 x23 H_2 :=
 xg x20 true H_2 (fun q => q (.pure x1)) (s59_25 L3 x20 x22 x23 x5 x6 x0 x1)
def s59_27 L3 x20 x1 x5 x6 x0 x22 H_1 :=
 xg x20 true H_1 (fun q => q (.pure x1)) (s59_26 L3 x20 x1 x22 x5 x6 x0)
def s59_28 L3 H x0 x1 x5 x6 x20 :=
 xg x20 true H (fun q => q (.pure x0)) (s59_27 L3 x20 x1 x5 x6 x0)
def s59_29 L3 H x0 x1 x5 x6 x19 :=
 xb (fbin P .geq 3 true x19 (.int .i64 2)) (s59_28 L3 H x0 x1 x5 x6)
def s59_30 L3 x1 H x0 x5 x6 x17 :=
 xb (fbin P .sub 3 false x17 x1) (s59_29 L3 H x0 x1 x5 x6)
def s59_31 L3 x0 H x1 x5 x6 :=
 xlen P .len [9] [x0] H (s59_30 L3 x1 H x0 x5 x6)
def s59_32 G N x0 x1 H :=
 s59_j0 G N x0 x1 H
def s59_33 G N L3 x0 H x1 x5 x6 x13 :=
 xif (some x13) (s59_31 L3 x0 H x1 x5 x6) (s59_32 G N x0 x1 H)
def s59_34 G N L3 x6 x0 H x1 x5 x12 :=
 xb (fbin P .lss 3 false x6 x12) (s59_33 G N L3 x0 H x1 x5 x6)
def s59_b3 G N L3 x0 x1 x5 x6 H :=
 xlen P .len [46] [x5] H (s59_34 G N L3 x6 x0 H x1 x5)
noncomputable def s59_l3 (G : CallT) (N : Nat) : Nat → AV → AV → AV → AV → AHeap → O
  | 0, _, _, _, _, _ => none
  | n + 1, x0, x1, x5, x6, H => s59_b3 G N (s59_l3 G N n) x0 x1 x5 x6 H

theorem s59_b3_eq (G : CallT) (N : Nat) (L3 : AV → AV → AV → AV → AHeap → O) : ∀ R H, codeC P G N (Code.fst (Code.fst (Code.snd (Code.fst (Code.snd (Code.snd (bodyOf Try.f59))))))) (fun R H => L3 (R 0) (R 1) (R 5) (R 6) H) [(0, (fun R H => s59_j0 G N (R 0) (R 1) H))] (retC P Try.f59.results.toList) R H = s59_b3 G N L3 (R 0) (R 1) (R 5) (R 6) H := by
  intro R H
  refine Eq.trans ((via_leaf _ : ∀ R H, codeC P G N (Code.fst (Code.fst (Code.snd (Code.fst (Code.snd (Code.snd (bodyOf Try.f59))))))) (fun R H => L3 (R 0) (R 1) (R 5) (R 6) H) [(0, (fun R H => s59_j0 G N (R 0) (R 1) H))] (retC P Try.f59.results.toList) R H = _) R H) ?_
  delta s59_b3 s59_34 s59_33 s59_32 s59_31 s59_30 s59_29 s59_28 s59_27 s59_26 s59_25 s59_24 s59_23 s59_22 s59_21 s59_20 s59_19 s59_18 s59_17 s59_16 s59_15 s59_14 s59_13 s59_12
  generalize s59_j0 G N = J0
  revert J0
  refine id ?_
  intro J0
  kernel_rfl

def s59_35 G N x0 x1 x9 H_1 :=
 s59_l3 G N N x0 x1 x9 (.int .i64 0) H_1
/-- runrig/runrigref2.sign -/
def s59 G N x0 x1 H :=
 xmake H (some (.sl (H).next 0 5 1 (some 5), .row false 1 [[(.str [60, 61])], [(.str [61, 61])], [(.str [33, 61])], [(.str [38, 38])], [(.str [124, 124])]])) (s59_35 G N x0 x1)
theorem s59_eq (G : CallT) (N : Nat) (x0 : AV) (x1 : AV) (H : AHeap) : codeC P G N (bodyOf Try.f59) (retC P Try.f59.results.toList) [] (retC P Try.f59.results.toList) (argsF [x0, x1]) H = s59 G N x0 x1 H := by
  refine Eq.trans (((via_seq (by kernel_rfl) ((via_seq (by kernel_rfl) ((via_seq (by kernel_rfl) (s59_j0_eq G N) ((via_seq (by kernel_rfl) ((via_block (by kernel_rfl) ((via_loop (k := fun m R H => s59_l3 G N m (R 0) (R 1) (R 5) (R 6) H) (by kernel_rfl) (fun R H => by kernel_rfl) (fun m => s59_b3_eq G N (s59_l3 G N m)))))) (via_leaf _))))) (via_leaf _))) (via_leaf _)) : ∀ R H, codeC P G N (bodyOf Try.f59) (retC P Try.f59.results.toList) [] (retC P Try.f59.results.toList) R H = _) (argsF [x0, x1]) H) ?_
  delta s59 s59_35
  generalize s59_l3 G N N = J0
  revert J0
  refine id ?_
  intro J0
  kernel_rfl

theorem run59 (N : Nat) {x0 x1 : AV} {H : AHeap} {r : AV × AHeap} (h : s59 (evw P) N x0 x1 H = some r) : evw P 59 [x0, x1] H = some r :=
  evw_code (c := (bodyOf Try.f59)) (M := N) Try.func59 (by kernel_rfl) (by kernel_rfl) (by kernel_rfl) (Eq.trans (s59_eq (evw P) N x0 x1 H) h)

def s79_0 (x1 : AV) (H_1 : AHeap) : O :=
 some (x1, H_1)
/-- runrig/runrigref2.words -/
def s79 (G : CallT) H :=
 xmake H (some (.sl (H).next 0 18 1 (some 18), .row false 1 [[(.str [114, 101, 99, 111, 114, 100])], [(.str [103, 108, 111, 98, 97, 108])], [(.str [102, 117, 110, 99])], [(.str [118, 97, 114])], [(.str [108, 101, 116])], [(.str [105, 102])], [(.str [101, 108, 115, 101])], [(.str [119, 104, 105, 108, 101])], [(.str [114, 101, 116, 117, 114, 110])], [(.str [112, 114, 105, 110, 116])], [(.str [110, 117, 108, 108])], [(.str [110, 101, 119])], [(.str [108, 101, 110])], [(.str [114, 101, 97, 100])], [(.str [116, 114, 117, 101])], [(.str [102, 97, 108, 115, 101])], [(.str [105, 110, 116])], [(.str [98, 111, 111, 108])]])) (s79_0)
theorem s79_eq (G : CallT) (N : Nat) (H : AHeap) : codeC P G N (bodyOf Try.f79) (retC P Try.f79.results.toList) [] (retC P Try.f79.results.toList) (argsF []) H = s79 G H := by
  refine Eq.trans ((via_leaf _ : ∀ R H, codeC P G N (bodyOf Try.f79) (retC P Try.f79.results.toList) [] (retC P Try.f79.results.toList) R H = _) (argsF []) H) ?_
  delta s79 s79_0
  kernel_rfl

theorem run79 (N : Nat) {H : AHeap} {r : AV × AHeap} (h : s79 (evw P) H = some r) : evw P 79 [] H = some r :=
  evw_code (c := (bodyOf Try.f79)) (M := N) Try.func79 (by kernel_rfl) (by kernel_rfl) (by kernel_rfl) (Eq.trans (s79_eq (evw P) N H) h)


end
end Go.Proofs.Ytnjoomfeddamcaa


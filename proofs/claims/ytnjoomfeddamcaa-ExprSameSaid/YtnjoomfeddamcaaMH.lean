/-
  Texts of one proof, laid together: ShD.
-/
import Derived.Test.YtnjoomfeddamcaaME
set_option linter.unusedVariables false
set_option linter.unusedSimpArgs false
/-
  What a program of ours printed of the code: each function's operations, one definition each, and that the evaluator does just these.
-/
namespace Go.Proofs.Ytnjoomfeddamcaa
open Go.Ev
set_option maxRecDepth 100000
noncomputable section
def s34_0 (H_13 : AHeap) : O :=
 some ((.bool false), H_13)
def s34_j0 (G : CallT) (N : Nat) (H : AHeap) : O :=
 some ((.bool true), H)
theorem s34_j0_eq (G : CallT) (N : Nat) : ∀ R H, codeC P G N (Code.snd (Code.snd (Code.snd (bodyOf Try.f34)))) (retC P Try.f34.results.toList) [] (retC P Try.f34.results.toList) R H = s34_j0 G N H := by
  intro R H
  refine Eq.trans ((via_leaf _ : ∀ R H, codeC P G N (Code.snd (Code.snd (Code.snd (bodyOf Try.f34)))) (retC P Try.f34.results.toList) [] (retC P Try.f34.results.toList) R H = _) R H) ?_
  delta s34_j0
  kernel_rfl

def s34_1 (H_1 : AHeap) : O :=
 some ((.bool false), H_1)
def s34_2 (L1 : AV → AV → AV → AHeap → O) x2 x3 H_1 x32 :=
 L1 x2 x3 x32 H_1
def s34_3 L1 x5 x2 x3 H_1 :=
 xb (fbin P .add 3 true x5 (.int .i64 1)) (s34_2 L1 x2 x3 H_1)
def s34_4 L1 H_1 x5 x2 x3 x44 :=
 xif (some x44) (s34_1 H_1) (s34_3 L1 x5 x2 x3 H_1)
def s34_5 L1 x5 x2 x3 x43 H_1 :=
 xb (aun .not x43) (s34_4 L1 H_1 x5 x2 x3)
def s34_6 (G : CallT) L1 H x37 x5 x2 x3 x42 :=
 xcall H (G 34 [x37, x42] H) (s34_5 L1 x5 x2 x3)
def s34_7 G L1 H x37 x5 x2 x3 x41 :=
 xb (aload P H 39 x41) (s34_6 G L1 H x37 x5 x2 x3)
def s34_8 G L1 x5 H x37 x2 x3 x39 :=
 xb (aindexAddr P 35 x39 x5) (s34_7 G L1 H x37 x5 x2 x3)
def s34_9 G L1 H x5 x37 x2 x3 x38 :=
 xb (aload P H 35 x38) (s34_8 G L1 x5 H x37 x2 x3)
def s34_10 G L1 x3 H x5 x2 x37 :=
 xb (afieldAddr P 39 x3 4) (s34_9 G L1 H x5 x37 x2 x3)
def s34_11 G L1 H x3 x5 x2 x36 :=
 xb (aload P H 39 x36) (s34_10 G L1 x3 H x5 x2)
def s34_12 G L1 x5 H x3 x2 x34 :=
 xb (aindexAddr P 35 x34 x5) (s34_11 G L1 H x3 x5 x2)
def s34_13 G L1 H x5 x3 x2 x33 :=
 xb (aload P H 35 x33) (s34_12 G L1 x5 H x3 x2)
def s34_14 G L1 x2 H x5 x3 :=
 xb (afieldAddr P 39 x2 4) (s34_13 G L1 H x5 x3 x2)
def s34_15 G N H :=
 s34_j0 G N H
def s34_16 G N L1 x2 H x5 x3 x30 :=
 xif (some x30) (s34_14 G L1 x2 H x5 x3) (s34_15 G N H)
def s34_17 G N L1 x5 x2 H x3 x29 :=
 xb (fbin P .lss 3 false x5 x29) (s34_16 G N L1 x2 H x5 x3)
def s34_18 G N L1 H x5 x2 x3 x28 :=
 xlen P .len [35] [x28] H (s34_17 G N L1 x5 x2 H x3)
def s34_19 G N L1 H x5 x2 x3 x27 :=
 xb (aload P H 35 x27) (s34_18 G N L1 H x5 x2 x3)
def s34_b1 G N L1 x2 x3 x5 H :=
 xb (afieldAddr P 39 x2 4) (s34_19 G N L1 H x5 x2 x3)
noncomputable def s34_l1 (G : CallT) (N : Nat) : Nat → AV → AV → AV → AHeap → O
  | 0, _, _, _, _ => none
  | n + 1, x2, x3, x5, H => s34_b1 G N (s34_l1 G N n) x2 x3 x5 H

theorem s34_b1_eq (G : CallT) (N : Nat) (L1 : AV → AV → AV → AHeap → O) : ∀ R H, codeC P G N (Code.fst (Code.fst (Code.snd (Code.fst (Code.snd (Code.snd (bodyOf Try.f34))))))) (fun R H => L1 (R 2) (R 3) (R 5) H) [(0, (fun R H => s34_j0 G N H))] (retC P Try.f34.results.toList) R H = s34_b1 G N L1 (R 2) (R 3) (R 5) H := by
  intro R H
  refine Eq.trans ((via_leaf _ : ∀ R H, codeC P G N (Code.fst (Code.fst (Code.snd (Code.fst (Code.snd (Code.snd (bodyOf Try.f34))))))) (fun R H => L1 (R 2) (R 3) (R 5) H) [(0, (fun R H => s34_j0 G N H))] (retC P Try.f34.results.toList) R H = _) R H) ?_
  delta s34_b1 s34_19 s34_18 s34_17 s34_16 s34_15 s34_14 s34_13 s34_12 s34_11 s34_10 s34_9 s34_8 s34_7 s34_6 s34_5 s34_4 s34_3 s34_2 s34_1
  generalize s34_j0 G N = J0
  revert J0
  refine id ?_
  intro J0
  kernel_rfl

def s34_20 G N x2 x3 H_13 :=
 s34_l1 G N N x2 x3 (.int .i64 0) H_13
def s34_21 G N H_13 x2 x3 x25 :=
 xif (some x25) (s34_0 H_13) (s34_20 G N x2 x3 H_13)
def s34_22 G N x19 x2 x3 x24 H_13 :=
 xb (pickOf x19 (some (.bool true)) (some x24)) (s34_21 G N H_13 x2 x3)
def s34_23 G N x19 x2 x3 x23 H_12 :=
 xg x19 false H_12 (fun q => (aun .not x23).bind fun v => q (.pure v)) (s34_22 G N x19 x2 x3)
def s34_24 (G : CallT) N x19 x21 x2 x3 x22 H_11 :=
 xg x19 false H_11 (fun q => xeff H_11 (G 22 [x21, x22] H_11) q) (s34_23 G N x19 x2 x3)
def s34_25 G N x19 x3 x2 x21 H_10 :=
 xg x19 false H_10 (fun q => (aload P H_10 39 x3).bind fun v => q (.read v)) (s34_24 G N x19 x21 x2 x3)
def s34_26 G N H_9 x2 x3 x19 :=
 xg x19 false H_9 (fun q => (aload P H_9 39 x2).bind fun v => q (.read v)) (s34_25 G N x19 x3 x2)
def s34_27 G N x10 x2 x3 x18 H_9 :=
 xb (pickOf x10 (some (.bool true)) (some x18)) (s34_26 G N H_9 x2 x3)
def s34_28 G N x10 x14 x2 x3 x17 H_8 :=
 xg x10 false H_8 (fun q => (fbin P .neq 3 false x14 x17).bind fun v => q (.pure v)) (s34_27 G N x10 x2 x3)
def s34_29 G N x10 x14 x2 x3 x16 H_7 :=
 xg x10 false H_7 (fun q => xboth (abuiltin P .empty .len [35] [x16]) (abuiltin P H_7 .len [35] [x16]) q) (s34_28 G N x10 x14 x2 x3)
def s34_30 G N x10 x14 x2 x3 x15 H_6 :=
 xg x10 false H_6 (fun q => (aload P H_6 35 x15).bind fun v => q (.read v)) (s34_29 G N x10 x14 x2 x3)
def s34_31 G N x10 x3 x2 x14 H_5 :=
 xg x10 false H_5 (fun q => (afieldAddr P 39 x3 4).bind fun v => q (.pure v)) (s34_30 G N x10 x14 x2 x3)
def s34_32 G N x10 x3 x2 x13 H_4 :=
 xg x10 false H_4 (fun q => xboth (abuiltin P .empty .len [35] [x13]) (abuiltin P H_4 .len [35] [x13]) q) (s34_31 G N x10 x3 x2)
def s34_33 G N x10 x3 x2 x12 H_3 :=
 xg x10 false H_3 (fun q => (aload P H_3 35 x12).bind fun v => q (.read v)) (s34_32 G N x10 x3 x2)
def s34_34 G N H_2 x2 x3 x10 :=
 xg x10 false H_2 (fun q => (afieldAddr P 39 x2 4).bind fun v => q (.pure v)) (s34_33 G N x10 x3 x2)
def s34_35 G N x7 H_2 x2 x3 x9 :=
 xb (fbin P .neq 3 false x7 x9) (s34_34 G N H_2 x2 x3)
def s34_36 G N H_2 x7 x2 x3 x8 :=
 xb (aload P H_2 3 x8) (s34_35 G N x7 H_2 x2 x3)
def s34_37 G N x3 H_2 x2 x7 :=
 xb (afieldAddr P 39 x3 5) (s34_36 G N H_2 x7 x2 x3)
def s34_38 G N H_2 x3 x2 x6 :=
 xb (aload P H_2 3 x6) (s34_37 G N x3 H_2 x2)
def s34_39 G N x2 x3 H_2 :=
 xb (afieldAddr P 39 x2 5) (s34_38 G N H_2 x3 x2)
def s34_40 G N x1 x2 H_1 :=
 xmake H_1 (boxOf (H_1).next x1) (s34_39 G N x2)
/-- runrig/runriglaw3.alike -/
def s34 G N x0 x1 H :=
 xmake H (boxOf (H).next x0) (s34_40 G N x1)
theorem s34_eq (G : CallT) (N : Nat) (x0 : AV) (x1 : AV) (H : AHeap) : codeC P G N (bodyOf Try.f34) (retC P Try.f34.results.toList) [] (retC P Try.f34.results.toList) (argsF [x0, x1]) H = s34 G N x0 x1 H := by
  refine Eq.trans (((via_seq (by kernel_rfl) ((via_seq (by kernel_rfl) ((via_seq (by kernel_rfl) (s34_j0_eq G N) ((via_seq (by kernel_rfl) ((via_block (by kernel_rfl) ((via_loop (k := fun m R H => s34_l1 G N m (R 2) (R 3) (R 5) H) (by kernel_rfl) (fun R H => by kernel_rfl) (fun m => s34_b1_eq G N (s34_l1 G N m)))))) (via_leaf _))))) (via_leaf _))) (via_leaf _)) : ∀ R H, codeC P G N (bodyOf Try.f34) (retC P Try.f34.results.toList) [] (retC P Try.f34.results.toList) R H = _) (argsF [x0, x1]) H) ?_
  delta s34 s34_40 s34_39 s34_38 s34_37 s34_36 s34_35 s34_34 s34_33 s34_32 s34_31 s34_30 s34_29 s34_28 s34_27 s34_26 s34_25 s34_24 s34_23 s34_22 s34_21 s34_20 s34_0
  generalize s34_l1 G N N = J0
  revert J0
  refine id ?_
  intro J0
  kernel_rfl

theorem run34 (N : Nat) {x0 x1 : AV} {H : AHeap} {r : AV × AHeap} (h : s34 (evw P) N x0 x1 H = some r) : evw P 34 [x0, x1] H = some r :=
  evw_code (c := (bodyOf Try.f34)) (M := N) Try.func34 (by kernel_rfl) (by kernel_rfl) (by kernel_rfl) (Eq.trans (s34_eq (evw P) N x0 x1 H) h)

def s16_0 (H_17 : AHeap) (x41 : AV) : O :=
 some (x41, H_17)
def s16_1 x36 x40 H_17 :=
 xb (pickOf x36 (some x40) (some (.bool false))) (s16_0 H_17)
def s16_2 x36 x38 x39 H_16 :=
 xg x36 true H_16 (fun q => (fbin P .eql 25 false x38 x39).bind fun v => q (.pure v)) (s16_1 x36)
def s16_3 x36 x12 x38 H_15 :=
 xg x36 true H_15 (fun q => (aload P H_15 25 x12).bind fun v => q (.read v)) (s16_2 x36 x38)
def s16_4 H_14 x9 x12 x36 :=
 xg x36 true H_14 (fun q => (aload P H_14 25 x9).bind fun v => q (.read v)) (s16_3 x36 x12)
def s16_5 x31 x9 x12 x35 H_14 :=
 xb (pickOf x31 (some x35) (some (.bool false))) (s16_4 H_14 x9 x12)
def s16_6 x31 x33 x9 x12 x34 H_13 :=
 xg x31 true H_13 (fun q => (fbin P .eql 3 false x33 x34).bind fun v => q (.pure v)) (s16_5 x31 x9 x12)
def s16_7 x31 x27 x9 x12 x33 H_12 :=
 xg x31 true H_12 (fun q => q (.pure x27)) (s16_6 x31 x33 x9 x12)
def s16_8 x19 x27 x9 x12 x31 H_11 :=
 xg x31 true H_11 (fun q => q (.pure x19)) (s16_7 x31 x27 x9 x12)
def s16_9 (G : CallT) H_10 x29 x19 x27 x9 x12 x30 :=
 xcall H_10 (G 34 [x29, x30] H_10) (s16_8 x19 x27 x9 x12)
def s16_10 G H_10 x10 x19 x27 x9 x12 x29 :=
 xb (aload P H_10 39 x10) (s16_9 G H_10 x29 x19 x27 x9 x12)
def s16_11 G x7 x10 x19 x27 x9 x12 H_10 :=
 xb (aload P H_10 39 x7) (s16_10 G H_10 x10 x19 x27 x9 x12)
def s16_12 G x12 x28 x7 x10 x19 x27 x9 H_9 :=
 xstore H_9 (astore P H_9 25 x12 x28) (s16_11 G x7 x10 x19 x27 x9 x12)
def s16_13 G x10 x26 x28 x7 x19 x27 x9 x12 H_8 :=
 xstore H_8 (astore P H_8 39 x10 x26) (s16_12 G x12 x28 x7 x10 x19 x27 x9)
def s16_14 G x26 x28 x7 x19 x27 x9 x10 H_7 :=
 xalloc H_7 [(.int .i64 0), (.int .i64 0)] (s16_13 G x10 x26 x28 x7 x19 x27 x9)
def s16_15 G H_6 x26 x7 x19 x27 x9 x28 :=
 xalloc H_6 [(.int .i64 0), (.int .i64 0), (.str []), (.str []), (.int .i64 0), AV.nilSl, (.int .i64 0), (.int .i64 0), (.int .i64 0), (.int .i64 0), (.int .i64 0)] (s16_14 G x26 x28 x7 x19 x27 x9)
def s16_16 G x25 H_6 x26 x7 x19 x9 x27 :=
 xb (aextract x25 2) (s16_15 G H_6 x26 x7 x19 x27 x9)
def s16_17 G x25 H_6 x7 x19 x9 x26 :=
 xb (aextract x25 1) (s16_16 G x25 H_6 x26 x7 x19 x9)
def s16_18 G x7 x19 x9 x25 H_6 :=
 xb (aextract x25 0) (s16_17 G x25 H_6 x7 x19 x9)
def s16_19 (G : CallT) x0 x1 x2 x7 x19 x9 H_5 :=
 xcall H_5 (G 20 [x0, x1, x2] H_5) (s16_18 G x7 x19 x9)
def s16_20 G x9 x20 x0 x1 x2 x7 x19 H_4 :=
 xstore H_4 (astore P H_4 25 x9 x20) (s16_19 G x0 x1 x2 x7 x19 x9)
def s16_21 G x7 x18 x20 x0 x1 x2 x19 x9 H_3 :=
 xstore H_3 (astore P H_3 39 x7 x18) (s16_20 G x9 x20 x0 x1 x2 x7 x19)
def s16_22 G x18 x20 x0 x1 x2 x19 x7 H_2 :=
 xalloc H_2 [(.int .i64 0), (.int .i64 0)] (s16_21 G x7 x18 x20 x0 x1 x2 x19)
def s16_23 G H_1 x18 x0 x1 x2 x19 x20 :=
 xalloc H_1 [(.int .i64 0), (.int .i64 0), (.str []), (.str []), (.int .i64 0), AV.nilSl, (.int .i64 0), (.int .i64 0), (.int .i64 0), (.int .i64 0), (.int .i64 0)] (s16_22 G x18 x20 x0 x1 x2 x19)
def s16_24 G x17 H_1 x18 x0 x1 x2 x19 :=
 xb (aextract x17 2) (s16_23 G H_1 x18 x0 x1 x2 x19)
def s16_25 G x17 H_1 x0 x1 x2 x18 :=
 xb (aextract x17 1) (s16_24 G x17 H_1 x18 x0 x1 x2)
def s16_26 G x0 x1 x2 x17 H_1 :=
 xb (aextract x17 0) (s16_25 G x17 H_1 x0 x1 x2)
/-- runrig/runriglaw3.held -/
def s16 (G : CallT) x0 x1 x2 H :=
 xcall H (G 21 [x0, x1, x2] H) (s16_26 G x0 x1 x2)
theorem s16_eq (G : CallT) (N : Nat) (x0 : AV) (x1 : AV) (x2 : AV) (H : AHeap) : codeC P G N (bodyOf Try.f16) (retC P Try.f16.results.toList) [] (retC P Try.f16.results.toList) (argsF [x0, x1, x2]) H = s16 G x0 x1 x2 H := by
  refine Eq.trans ((via_leaf _ : ∀ R H, codeC P G N (bodyOf Try.f16) (retC P Try.f16.results.toList) [] (retC P Try.f16.results.toList) R H = _) (argsF [x0, x1, x2]) H) ?_
  delta s16 s16_26 s16_25 s16_24 s16_23 s16_22 s16_21 s16_20 s16_19 s16_18 s16_17 s16_16 s16_15 s16_14 s16_13 s16_12 s16_11 s16_10 s16_9 s16_8 s16_7 s16_6 s16_5 s16_4 s16_3 s16_2 s16_1 s16_0
  kernel_rfl

theorem run16 (N : Nat) {x0 x1 x2 : AV} {H : AHeap} {r : AV × AHeap} (h : s16 (evw P) x0 x1 x2 H = some r) : evw P 16 [x0, x1, x2] H = some r :=
  evw_code (c := (bodyOf Try.f16)) (M := N) Try.func16 (by kernel_rfl) (by kernel_rfl) (by kernel_rfl) (Eq.trans (s16_eq (evw P) N x0 x1 x2 H) h)

def s23_j0 (G : CallT) (N : Nat) (x1 : AV) (H : AHeap) : O :=
 some (x1, H)
theorem s23_j0_eq (G : CallT) (N : Nat) : ∀ R H, codeC P G N (Code.snd (Code.snd (Code.snd (bodyOf Try.f23)))) (retC P Try.f23.results.toList) [] (retC P Try.f23.results.toList) R H = s23_j0 G N (R 1) H := by
  intro R H
  refine Eq.trans ((via_leaf _ : ∀ R H, codeC P G N (Code.snd (Code.snd (Code.snd (bodyOf Try.f23)))) (retC P Try.f23.results.toList) [] (retC P Try.f23.results.toList) R H = _) R H) ?_
  delta s23_j0
  kernel_rfl

def s23_0 (L1 : AV → AV → AV → AHeap → O) x25 x2 H_3 x18 :=
 L1 x25 x2 x18 H_3
def s23_1 L1 x5 x2 x25 H_3 :=
 xb (fbin P .add 3 true x5 (.int .i64 1)) (s23_0 L1 x25 x2 H_3)
def s23_2 (G : CallT) L1 H_2 x1 x5 x2 x23 :=
 xcall H_2 (G 23 [x23, x1] H_2) (s23_1 L1 x5 x2)
def s23_3 G L1 H_2 x1 x5 x2 x22 :=
 xb (aload P H_2 39 x22) (s23_2 G L1 H_2 x1 x5 x2)
def s23_4 G L1 x5 H_2 x1 x2 x20 :=
 xb (aindexAddr P 35 x20 x5) (s23_3 G L1 H_2 x1 x5 x2)
def s23_5 G L1 H_2 x5 x1 x2 x19 :=
 xb (aload P H_2 35 x19) (s23_4 G L1 x5 H_2 x1 x2)
def s23_6 G L1 x2 H_2 x5 x1 :=
 xb (afieldAddr P 39 x2 4) (s23_5 G L1 H_2 x5 x1 x2)
def s23_7 G N x1 H_2 :=
 s23_j0 G N x1 H_2
def s23_8 G N L1 x2 H_2 x5 x1 x16 :=
 xif (some x16) (s23_6 G L1 x2 H_2 x5 x1) (s23_7 G N x1 H_2)
def s23_9 G N L1 x12 x2 x5 x1 x15 H_2 :=
 xb (pickOf x12 (some x15) (some (.bool false))) (s23_8 G N L1 x2 H_2 x5 x1)
def s23_10 G N L1 x12 x2 x5 x1 x14 H_1 :=
 xg x12 true H_1 (fun q => (fbin P .gtr 3 true x14 (.int .i64 0)).bind fun v => q (.pure v)) (s23_9 G N L1 x12 x2 x5 x1)
def s23_11 G N L1 H x1 x2 x5 x12 :=
 xg x12 true H (fun q => q (.pure x1)) (s23_10 G N L1 x12 x2 x5 x1)
def s23_12 G N L1 x5 H x1 x2 x11 :=
 xb (fbin P .lss 3 false x5 x11) (s23_11 G N L1 H x1 x2 x5)
def s23_13 G N L1 H x5 x1 x2 x10 :=
 xlen P .len [35] [x10] H (s23_12 G N L1 x5 H x1 x2)
def s23_14 G N L1 H x5 x1 x2 x9 :=
 xb (aload P H 35 x9) (s23_13 G N L1 H x5 x1 x2)
def s23_b1 G N L1 x1 x2 x5 H :=
 xb (afieldAddr P 39 x2 4) (s23_14 G N L1 H x5 x1 x2)
noncomputable def s23_l1 (G : CallT) (N : Nat) : Nat → AV → AV → AV → AHeap → O
  | 0, _, _, _, _ => none
  | n + 1, x1, x2, x5, H => s23_b1 G N (s23_l1 G N n) x1 x2 x5 H

theorem s23_b1_eq (G : CallT) (N : Nat) (L1 : AV → AV → AV → AHeap → O) : ∀ R H, codeC P G N (Code.fst (Code.fst (Code.snd (Code.fst (Code.snd (Code.snd (bodyOf Try.f23))))))) (fun R H => L1 (R 1) (R 2) (R 5) H) [(0, (fun R H => s23_j0 G N (R 1) H))] (retC P Try.f23.results.toList) R H = s23_b1 G N L1 (R 1) (R 2) (R 5) H := by
  intro R H
  refine Eq.trans ((via_leaf _ : ∀ R H, codeC P G N (Code.fst (Code.fst (Code.snd (Code.fst (Code.snd (Code.snd (bodyOf Try.f23))))))) (fun R H => L1 (R 1) (R 2) (R 5) H) [(0, (fun R H => s23_j0 G N (R 1) H))] (retC P Try.f23.results.toList) R H = _) R H) ?_
  delta s23_b1 s23_14 s23_13 s23_12 s23_11 s23_10 s23_9 s23_8 s23_7 s23_6 s23_5 s23_4 s23_3 s23_2 s23_1 s23_0
  generalize s23_j0 G N = J0
  revert J0
  refine id ?_
  intro J0
  kernel_rfl

def s23_15 G N x2 H_1 x7 :=
 s23_l1 G N N x7 x2 (.int .i64 0) H_1
def s23_16 G N x1 x2 H_1 :=
 xb (fbin P .sub 3 true x1 (.int .i64 1)) (s23_15 G N x2 H_1)
/-- runrig/runriglaw3.small -/
def s23 G N x0 x1 H :=
 xmake H (boxOf (H).next x0) (s23_16 G N x1)
theorem s23_eq (G : CallT) (N : Nat) (x0 : AV) (x1 : AV) (H : AHeap) : codeC P G N (bodyOf Try.f23) (retC P Try.f23.results.toList) [] (retC P Try.f23.results.toList) (argsF [x0, x1]) H = s23 G N x0 x1 H := by
  refine Eq.trans (((via_seq (by kernel_rfl) ((via_seq (by kernel_rfl) ((via_seq (by kernel_rfl) (s23_j0_eq G N) ((via_seq (by kernel_rfl) ((via_block (by kernel_rfl) ((via_loop (k := fun m R H => s23_l1 G N m (R 1) (R 2) (R 5) H) (by kernel_rfl) (fun R H => by kernel_rfl) (fun m => s23_b1_eq G N (s23_l1 G N m)))))) (via_leaf _))))) (via_leaf _))) (via_leaf _)) : ∀ R H, codeC P G N (bodyOf Try.f23) (retC P Try.f23.results.toList) [] (retC P Try.f23.results.toList) R H = _) (argsF [x0, x1]) H) ?_
  delta s23 s23_16 s23_15
  generalize s23_l1 G N N = J0
  revert J0
  refine id ?_
  intro J0
  kernel_rfl

theorem run23 (N : Nat) {x0 x1 : AV} {H : AHeap} {r : AV × AHeap} (h : s23 (evw P) N x0 x1 H = some r) : evw P 23 [x0, x1] H = some r :=
  evw_code (c := (bodyOf Try.f23)) (M := N) Try.func23 (by kernel_rfl) (by kernel_rfl) (by kernel_rfl) (Eq.trans (s23_eq (evw P) N x0 x1 H) h)

def s3_0 (H_6 : AHeap) : O :=
 some ((.bool true), H_6)
def s3_1 (H_8 : AHeap) (x28 : AV) : O :=
 some (x28, H_8)
def s3_2 x25 x27 H_8 :=
 xb (pickOf x25 (some x27) (some (.bool false))) (s3_1 H_8)
def s3_3 (G : CallT) x25 H_7 :=
 xg x25 true H_7 (fun q => xeff H_7 (G 17 [] H_7) q) (s3_2 x25)
def s3_4 (G : CallT) H_6 x12 x1 x2 :=
 xcall H_6 (G 16 [x12, x1, x2] H_6) (s3_3 G)
def s3_5 G H_6 x12 x1 x2 x21 :=
 xif (some x21) (s3_0 H_6) (s3_4 G H_6 x12 x1 x2)
def s3_6 G x16 x12 x1 x2 x20 H_6 :=
 xb (pickOf x16 (some (.bool true)) (some x20)) (s3_5 G H_6 x12 x1 x2)
def s3_7 G x16 x12 x1 x2 x19 H_5 :=
 xg x16 false H_5 (fun q => (fbin P .neq 23 true x19 (.int .i64 0)).bind fun v => q (.pure v)) (s3_6 G x16 x12 x1 x2)
def s3_8 G x16 x12 x1 x2 x18 H_4 :=
 xg x16 false H_4 (fun q => (aload P H_4 23 x18).bind fun v => q (.read v)) (s3_7 G x16 x12 x1 x2)
def s3_9 G H_3 x8 x12 x1 x2 x16 :=
 xg x16 false H_3 (fun q => (afieldAddr P 25 x8 0).bind fun v => q (.pure v)) (s3_8 G x16 x12 x1 x2)
def s3_10 G H_3 x8 x12 x1 x2 x15 :=
 xb (fbin P .gtr 3 true x15 (.int .i64 2000)) (s3_9 G H_3 x8 x12 x1 x2)
def s3_11 G x0 x8 x12 x1 x2 H_3 :=
 xlen P .len [9] [x0] H_3 (s3_10 G H_3 x8 x12 x1 x2)
def s3_12 G x13 x0 x12 x1 x2 x8 H_2 :=
 xstore H_2 (astore P H_2 25 x8 x13) (s3_11 G x0 x8 x12 x1 x2)
def s3_13 G H_1 x0 x12 x1 x2 x13 :=
 xalloc H_1 [(.int .i64 0), (.int .i64 0)] (s3_12 G x13 x0 x12 x1 x2)
def s3_14 G x11 H_1 x0 x1 x2 x12 :=
 xb (aextract x11 1) (s3_13 G H_1 x0 x12 x1 x2)
def s3_15 G x0 x1 x2 x11 H_1 :=
 xb (aextract x11 0) (s3_14 G x11 H_1 x0 x1 x2)
/-- runrig/runriglaw3.ExprReads -/
def s3 (G : CallT) x0 x1 x2 H :=
 xcall H (G 15 [x0] H) (s3_15 G x0 x1 x2)
theorem s3_eq (G : CallT) (N : Nat) (x0 : AV) (x1 : AV) (x2 : AV) (H : AHeap) : codeC P G N (bodyOf Try.f3) (retC P Try.f3.results.toList) [] (retC P Try.f3.results.toList) (argsF [x0, x1, x2]) H = s3 G x0 x1 x2 H := by
  refine Eq.trans ((via_leaf _ : ∀ R H, codeC P G N (bodyOf Try.f3) (retC P Try.f3.results.toList) [] (retC P Try.f3.results.toList) R H = _) (argsF [x0, x1, x2]) H) ?_
  delta s3 s3_15 s3_14 s3_13 s3_12 s3_11 s3_10 s3_9 s3_8 s3_7 s3_6 s3_5 s3_4 s3_3 s3_2 s3_1 s3_0
  kernel_rfl

theorem run3 (N : Nat) {x0 x1 x2 : AV} {H : AHeap} {r : AV × AHeap} (h : s3 (evw P) x0 x1 x2 H = some r) : evw P 3 [x0, x1, x2] H = some r :=
  evw_code (c := (bodyOf Try.f3)) (M := N) Try.func3 (by kernel_rfl) (by kernel_rfl) (by kernel_rfl) (Eq.trans (s3_eq (evw P) N x0 x1 x2 H) h)

def s4_0 (H : AHeap) : O :=
 some ((.bool true), H)
def s4_1 (H_21 : AHeap) (x51 : AV) : O :=
 some (x51, H_21)
def s4_2 x48 x50 H_21 :=
 xb (pickOf x48 (some x50) (some (.bool false))) (s4_1 H_21)
def s4_3 (G : CallT) H_20 x48 :=
 xg x48 true H_20 (fun q => xeff H_20 (G 17 [] H_20) q) (s4_2 x48)
def s4_4 G x42 x47 H_20 :=
 xb (pickOf x42 (some x47) (some (.bool false))) (s4_3 G H_20)
def s4_5 (G : CallT) x42 x44 x45 x46 H_19 :=
 xg x42 true H_19 (fun q => xeff H_19 (G 16 [x44, x45, x46] H_19) q) (s4_4 G x42)
def s4_6 G x42 x2 x44 x45 H_18 :=
 xg x42 true H_18 (fun q => q (.pure x2)) (s4_5 G x42 x44 x45)
def s4_7 G x42 x1 x2 x44 H_17 :=
 xg x42 true H_17 (fun q => q (.pure x1)) (s4_6 G x42 x2 x44)
def s4_8 G H_16 x0 x1 x2 x42 :=
 xg x42 true H_16 (fun q => q (.pure x0)) (s4_7 G x42 x1 x2)
def s4_9 G x37 x0 x1 x2 x41 H_16 :=
 xb (pickOf x37 (some x41) (some (.bool false))) (s4_8 G H_16 x0 x1 x2)
def s4_10 G x37 x39 x0 x1 x2 x40 H_15 :=
 xg x37 true H_15 (fun q => (fbin P .eql 25 false x39 x40).bind fun v => q (.pure v)) (s4_9 G x37 x0 x1 x2)
def s4_11 G x37 x12 x0 x1 x2 x39 H_14 :=
 xg x37 true H_14 (fun q => (aload P H_14 25 x12).bind fun v => q (.read v)) (s4_10 G x37 x39 x0 x1 x2)
def s4_12 G H_13 x9 x12 x0 x1 x2 x37 :=
 xg x37 true H_13 (fun q => (aload P H_13 25 x9).bind fun v => q (.read v)) (s4_11 G x37 x12 x0 x1 x2)
def s4_13 G x32 x9 x12 x0 x1 x2 x36 H_13 :=
 xb (pickOf x32 (some x36) (some (.bool false))) (s4_12 G H_13 x9 x12 x0 x1 x2)
def s4_14 G x32 x34 x9 x12 x0 x1 x2 x35 H_12 :=
 xg x32 true H_12 (fun q => (fbin P .eql 3 false x34 x35).bind fun v => q (.pure v)) (s4_13 G x32 x9 x12 x0 x1 x2)
def s4_15 G x32 x28 x9 x12 x0 x1 x2 x34 H_11 :=
 xg x32 true H_11 (fun q => q (.pure x28)) (s4_14 G x32 x34 x9 x12 x0 x1 x2)
def s4_16 G H_10 x21 x28 x9 x12 x0 x1 x2 x32 :=
 xg x32 true H_10 (fun q => q (.pure x21)) (s4_15 G x32 x28 x9 x12 x0 x1 x2)
def s4_17 G x30 H_10 x21 x28 x9 x12 x0 x1 x2 x31 :=
 xb (fbin P .eql 32 false x30 x31) (s4_16 G H_10 x21 x28 x9 x12 x0 x1 x2)
def s4_18 G H_10 x10 x21 x28 x9 x12 x0 x1 x2 x30 :=
 xb (aload P H_10 32 x10) (s4_17 G x30 H_10 x21 x28 x9 x12 x0 x1 x2)
def s4_19 G x7 x10 x21 x28 x9 x12 x0 x1 x2 H_10 :=
 xb (aload P H_10 32 x7) (s4_18 G H_10 x10 x21 x28 x9 x12 x0 x1 x2)
def s4_20 G x12 x29 x7 x10 x21 x28 x9 x0 x1 x2 H_9 :=
 xstore H_9 (astore P H_9 25 x12 x29) (s4_19 G x7 x10 x21 x28 x9 x12 x0 x1 x2)
def s4_21 G x10 x27 x29 x7 x21 x28 x9 x0 x1 x2 x12 H_8 :=
 xstore H_8 (astore P H_8 32 x10 x27) (s4_20 G x12 x29 x7 x10 x21 x28 x9 x0 x1 x2)
def s4_22 G x27 x29 x7 x21 x28 x9 x0 x1 x2 x10 H_7 :=
 xalloc H_7 [(.int .i64 0), (.int .i64 0)] (s4_21 G x10 x27 x29 x7 x21 x28 x9 x0 x1 x2)
def s4_23 G H_6 x27 x7 x21 x28 x9 x0 x1 x2 x29 :=
 xalloc H_6 [(.str []), (.int .i64 0)] (s4_22 G x27 x29 x7 x21 x28 x9 x0 x1 x2)
def s4_24 G x26 H_6 x27 x7 x21 x9 x0 x1 x2 x28 :=
 xb (aextract x26 2) (s4_23 G H_6 x27 x7 x21 x28 x9 x0 x1 x2)
def s4_25 G x26 H_6 x7 x21 x9 x0 x1 x2 x27 :=
 xb (aextract x26 1) (s4_24 G x26 H_6 x27 x7 x21 x9 x0 x1 x2)
def s4_26 G x7 x21 x9 x0 x1 x2 x26 H_6 :=
 xb (aextract x26 0) (s4_25 G x26 H_6 x7 x21 x9 x0 x1 x2)
def s4_27 (G : CallT) x0 x1 x7 x21 x9 x2 H_5 :=
 xcall H_5 (G 19 [x0, x1] H_5) (s4_26 G x7 x21 x9 x0 x1 x2)
def s4_28 G x9 x22 x0 x1 x7 x21 x2 H_4 :=
 xstore H_4 (astore P H_4 25 x9 x22) (s4_27 G x0 x1 x7 x21 x9 x2)
def s4_29 G x7 x20 x22 x0 x1 x21 x2 x9 H_3 :=
 xstore H_3 (astore P H_3 32 x7 x20) (s4_28 G x9 x22 x0 x1 x7 x21 x2)
def s4_30 G x20 x22 x0 x1 x21 x2 x7 H_2 :=
 xalloc H_2 [(.int .i64 0), (.int .i64 0)] (s4_29 G x7 x20 x22 x0 x1 x21 x2)
def s4_31 G H_1 x20 x0 x1 x21 x2 x22 :=
 xalloc H_1 [(.str []), (.int .i64 0)] (s4_30 G x20 x22 x0 x1 x21 x2)
def s4_32 G x19 H_1 x20 x0 x1 x2 x21 :=
 xb (aextract x19 2) (s4_31 G H_1 x20 x0 x1 x21 x2)
def s4_33 G x19 H_1 x0 x1 x2 x20 :=
 xb (aextract x19 1) (s4_32 G x19 H_1 x20 x0 x1 x2)
def s4_34 G x0 x1 x2 x19 H_1 :=
 xb (aextract x19 0) (s4_33 G x19 H_1 x0 x1 x2)
def s4_35 (G : CallT) H x0 x1 x2 :=
 xcall H (G 18 [x0, x1] H) (s4_34 G x0 x1 x2)
def s4_36 G H x0 x1 x2 x15 :=
 xif (some x15) (s4_0 H) (s4_35 G H x0 x1 x2)
def s4_37 G H x0 x1 x2 x14 :=
 xb (fbin P .gtr 3 true x14 (.int .i64 60)) (s4_36 G H x0 x1 x2)
/-- runrig/runriglaw3.ExprRaw -/
def s4 G x0 x1 x2 H :=
 xlen P .len [22] [x0] H (s4_37 G H x0 x1 x2)
theorem s4_eq (G : CallT) (N : Nat) (x0 : AV) (x1 : AV) (x2 : AV) (H : AHeap) : codeC P G N (bodyOf Try.f4) (retC P Try.f4.results.toList) [] (retC P Try.f4.results.toList) (argsF [x0, x1, x2]) H = s4 G x0 x1 x2 H := by
  refine Eq.trans ((via_leaf _ : ∀ R H, codeC P G N (bodyOf Try.f4) (retC P Try.f4.results.toList) [] (retC P Try.f4.results.toList) R H = _) (argsF [x0, x1, x2]) H) ?_
  delta s4 s4_37 s4_36 s4_35 s4_34 s4_33 s4_32 s4_31 s4_30 s4_29 s4_28 s4_27 s4_26 s4_25 s4_24 s4_23 s4_22 s4_21 s4_20 s4_19 s4_18 s4_17 s4_16 s4_15 s4_14 s4_13 s4_12 s4_11 s4_10 s4_9 s4_8 s4_7 s4_6 s4_5 s4_4 s4_3 s4_2 s4_1 s4_0
  kernel_rfl

theorem run4 (N : Nat) {x0 x1 x2 : AV} {H : AHeap} {r : AV × AHeap} (h : s4 (evw P) x0 x1 x2 H = some r) : evw P 4 [x0, x1, x2] H = some r :=
  evw_code (c := (bodyOf Try.f4)) (M := N) Try.func4 (by kernel_rfl) (by kernel_rfl) (by kernel_rfl) (Eq.trans (s4_eq (evw P) N x0 x1 x2 H) h)


end
end Go.Proofs.Ytnjoomfeddamcaa


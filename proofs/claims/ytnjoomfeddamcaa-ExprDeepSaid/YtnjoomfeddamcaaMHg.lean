/-
  Texts of one proof, laid together: ShG.
-/
import Derived.Test.YtnjoomfeddamcaaME
set_option linter.unusedVariables false
set_option linter.unusedSimpArgs false
/-
  What a program of ours printed of the code: each function's operations, one definition each, and that the evaluator does just these.
-/
namespace Go.Proofs.Ytnjoomfeddamcaa
open Go.Ev
set_option maxRecDepth 100000
noncomputable section
def s7_0 (H_10 : AHeap) : O :=
 some ((.bool true), H_10)
def s7_1 (H_18 : AHeap) (x93 : AV) : O :=
 some (x93, H_18)
def s7_2 x90 x92 H_18 :=
 xb (pickOf x90 (some x92) (some (.bool false))) (s7_1 H_18)
def s7_3 (G : CallT) H_17 x90 :=
 xg x90 true H_17 (fun q => xeff H_17 (G 17 [] H_17) q) (s7_2 x90)
def s7_4 G x83 x89 H_17 :=
 xb (pickOf x83 (some x89) (some (.bool false))) (s7_3 G H_17)
def s7_5 G x83 x85 x88 H_16 :=
 xg x83 true H_16 (fun q => (fbin P .eql 3 false x85 x88).bind fun v => q (.pure v)) (s7_4 G x83)
def s7_6 G x83 x85 x87 H_15 :=
 xg x83 true H_15 (fun q => (fbin P .sub 3 true x87 (.int .i64 1)).bind fun v => q (.pure v)) (s7_5 G x83 x85)
def s7_7 G x83 x85 x86 H_14 :=
 xg x83 true H_14 (fun q => xboth (abuiltin P .empty .len [22] [x86]) (abuiltin P H_14 .len [22] [x86]) q) (s7_6 G x83 x85)
def s7_8 G x83 x64 x85 H_13 :=
 xg x83 true H_13 (fun q => q (.pure x64)) (s7_7 G x83 x85)
def s7_9 G H_12 x71 x64 x83 :=
 xg x83 true H_12 (fun q => q (.pure x71)) (s7_8 G x83 x64)
def s7_10 G H_12 x71 x64 x82 :=
 xb (fbin P .eql 23 true x82 (.int .i64 0)) (s7_9 G H_12 x71 x64)
def s7_11 G H_12 x71 x64 x81 :=
 xb (aload P H_12 23 x81) (s7_10 G H_12 x71 x64)
def s7_12 G x16 H_12 x71 x64 :=
 xb (afieldAddr P 25 x16 0) (s7_11 G H_12 x71 x64)
def s7_13 (H_15 : AHeap) (x114 : AV) : O :=
 some (x114, H_15)
def s7_14 x111 x113 H_15 :=
 xb (pickOf x111 (some x113) (some (.bool false))) (s7_13 H_15)
def s7_15 (G : CallT) H_14 x111 :=
 xg x111 true H_14 (fun q => xeff H_14 (G 17 [] H_14) q) (s7_14 x111)
def s7_16 G x107 x110 H_14 :=
 xb (pickOf x107 (some x110) (some (.bool false))) (s7_15 G H_14)
def s7_17 G x107 x109 H_13 :=
 xg x107 true H_13 (fun q => (fbin P .eql 3 true x109 (.int .i64 0)).bind fun v => q (.pure v)) (s7_16 G x107)
def s7_18 G H_12 x71 x107 :=
 xg x107 true H_12 (fun q => q (.pure x71)) (s7_17 G x107)
def s7_19 G x97 H_12 x71 x106 :=
 xb (fbin P .eql 25 false x97 x106) (s7_18 G H_12 x71)
def s7_20 G x97 H_12 x71 x105 :=
 xb (abuild P 25 [(0, (.int .i64 4)), (1, x105)]) (s7_19 G x97 H_12 x71)
def s7_21 G x97 H_12 x71 x104 :=
 xb (fbin P .sub 3 true x104 (.int .i64 1)) (s7_20 G x97 H_12 x71)
def s7_22 G x101 x97 H_12 x71 x103 :=
 xb (fbin P .add 3 false x101 x103) (s7_21 G x97 H_12 x71)
def s7_23 G x7 H_12 x97 x71 x101 :=
 xlen P .len [9] [x7] H_12 (s7_22 G x101 x97 H_12 x71)
def s7_24 G x96 x7 H_12 x97 x71 x100 :=
 xb (fbin P .mul 3 false x96 x100) (s7_23 G x7 H_12 x97 x71)
def s7_25 G x7 H_12 x96 x71 x97 :=
 xlen P .len [9] [x7] H_12 (s7_24 G x96 x7 H_12 x97 x71)
def s7_26 G H_12 x16 x7 x71 x96 :=
 xb (aload P H_12 25 x16) (s7_25 G x7 H_12 x96 x71)
def s7_27 G H_12 x16 x7 x71 x95 :=
 xlen P .max [3, 3] [x95, (.int .i64 0)] H_12 (s7_26 G H_12 x16 x7 x71)
def s7_28 G x2 H_12 x16 x7 x71 :=
 xb (fbin P .sub 3 true (.int .i64 50) x2) (s7_27 G H_12 x16 x7 x71)
def s7_29 G x16 H_12 x71 x64 x2 x7 x80 :=
 xif (some x80) (s7_12 G x16 H_12 x71 x64) (s7_28 G x2 H_12 x16 x7 x71)
def s7_30 G x74 x16 x71 x64 x2 x7 x79 H_12 :=
 xb (pickOf x74 (some (.bool true)) (some x79)) (s7_29 G x16 H_12 x71 x64 x2 x7)
def s7_31 G x74 x16 x71 x64 x2 x7 x78 H_11 :=
 xg x74 false H_11 (fun q => (fbin P .leq 3 true x78 (.int .i64 50)).bind fun v => q (.pure v)) (s7_30 G x74 x16 x71 x64 x2 x7)
def s7_32 G x74 x76 x16 x71 x64 x2 x7 x77 H_10 :=
 xg x74 false H_10 (fun q => (fbin P .add 3 false x76 x77).bind fun v => q (.pure v)) (s7_31 G x74 x16 x71 x64 x2 x7)
def s7_33 G x74 x2 x16 x71 x64 x7 x76 H_9 :=
 xg x74 false H_9 (fun q => q (.pure x2)) (s7_32 G x74 x76 x16 x71 x64 x2 x7)
def s7_34 G H_8 x0 x2 x16 x71 x64 x7 x74 :=
 xg x74 false H_8 (fun q => q (.pure x0)) (s7_33 G x74 x2 x16 x71 x64 x7)
def s7_35 G x0 x2 x16 x71 x64 x7 H_8 :=
 xb (fbin P .eql 3 true x0 (.int .i64 0)) (s7_34 G H_8 x0 x2 x16 x71 x64 x7)
def s7_36 G x16 x72 x0 x2 x71 x64 x7 H_7 :=
 xstore H_7 (astore P H_7 25 x16 x72) (s7_35 G x0 x2 x16 x71 x64 x7)
def s7_37 G x14 x70 x72 x0 x2 x71 x64 x7 x16 H_6 :=
 xstore H_6 (astore P H_6 39 x14 x70) (s7_36 G x16 x72 x0 x2 x71 x64 x7)
def s7_38 G x70 x72 x0 x2 x71 x64 x7 x14 H_5 :=
 xalloc H_5 [(.int .i64 0), (.int .i64 0)] (s7_37 G x14 x70 x72 x0 x2 x71 x64 x7)
def s7_39 G H_4 x70 x0 x2 x71 x64 x7 x72 :=
 xalloc H_4 [(.int .i64 0), (.int .i64 0), (.str []), (.str []), (.int .i64 0), AV.nilSl, (.int .i64 0), (.int .i64 0), (.int .i64 0), (.int .i64 0), (.int .i64 0)] (s7_38 G x70 x72 x0 x2 x71 x64 x7)
def s7_40 G x69 H_4 x70 x0 x2 x64 x7 x71 :=
 xb (aextract x69 2) (s7_39 G H_4 x70 x0 x2 x71 x64 x7)
def s7_41 G x69 H_4 x0 x2 x64 x7 x70 :=
 xb (aextract x69 1) (s7_40 G x69 H_4 x70 x0 x2 x64 x7)
def s7_42 G x0 x2 x64 x7 x69 H_4 :=
 xb (aextract x69 0) (s7_41 G x69 H_4 x0 x2 x64 x7)
def s7_43 (G : CallT) x64 x2 x0 x7 H_3 :=
 xcall H_3 (G 21 [x64, (.int .i64 0), x2] H_3) (s7_42 G x0 x2 x64 x7)
def s7_44 G x65 x64 x2 x0 x7 x13 H_2 :=
 xstore H_2 (astore P H_2 25 x13 x65) (s7_43 G x64 x2 x0 x7)
def s7_45 G H_1 x64 x2 x0 x7 x65 :=
 xalloc H_1 [(.int .i64 0), (.int .i64 0)] (s7_44 G x65 x64 x2 x0 x7)
def s7_46 G x63 H_1 x2 x0 x7 x64 :=
 xb (aextract x63 1) (s7_45 G H_1 x64 x2 x0 x7)
def s7_47 G x2 x0 x7 x63 H_1 :=
 xb (aextract x63 0) (s7_46 G x63 H_1 x2 x0 x7)
def s7_48 (G : CallT) H x2 x0 x7 x62 :=
 xcall H (G 15 [x62] H) (s7_47 G x2 x0 x7)
def s7_j0 G (N : Nat) x0 x2 x7 x9 x10 H :=
 xb (fbin P .add 9 false x9 x10) (s7_48 G H x2 x0 x7)
theorem s7_j0_eq (G : CallT) (N : Nat) : ∀ R H, codeC P G N (Code.snd (Code.snd (Code.snd (Code.snd (Code.snd (bodyOf Try.f7)))))) (retC P Try.f7.results.toList) [] (retC P Try.f7.results.toList) R H = s7_j0 G N (R 0) (R 2) (R 7) (R 9) (R 10) H := by
  intro R H
  refine Eq.trans ((via_leaf _ : ∀ R H, codeC P G N (Code.snd (Code.snd (Code.snd (Code.snd (Code.snd (bodyOf Try.f7)))))) (retC P Try.f7.results.toList) [] (retC P Try.f7.results.toList) R H = _) R H) ?_
  delta s7_j0 s7_48 s7_47 s7_46 s7_45 s7_44 s7_43 s7_42 s7_41 s7_40 s7_39 s7_38 s7_37 s7_36 s7_35 s7_34 s7_33 s7_32 s7_31 s7_30 s7_29 s7_28 s7_27 s7_26 s7_25 s7_24 s7_23 s7_22 s7_21 s7_20 s7_19 s7_18 s7_17 s7_16 s7_15 s7_14 s7_13 s7_12 s7_11 s7_10 s7_9 s7_8 s7_7 s7_6 s7_5 s7_4 s7_3 s7_2 s7_1
  kernel_rfl

def s7_49 (L1 : AV → AV → AV → AV → AV → AV → AV → AHeap → O) x0 x2 x7 x8 x55 x58 H x52 :=
 L1 x0 x2 x7 x8 x55 x58 x52 H
def s7_50 L1 x11 x0 x2 x7 x8 x55 H x58 :=
 xb (fbin P .add 3 true x11 (.int .i64 1)) (s7_49 L1 x0 x2 x7 x8 x55 x58 H)
def s7_51 L1 x10 x8 x11 x0 x2 x7 H x55 :=
 xb (fbin P .add 9 false x10 x8) (s7_50 L1 x11 x0 x2 x7 x8 x55 H)
def s7_52 L1 x9 x7 x10 x8 x11 x0 x2 H :=
 xb (fbin P .add 9 false x9 x7) (s7_51 L1 x10 x8 x11 x0 x2 x7 H)
def s7_53 G N x0 x2 x7 x9 x10 H :=
 s7_j0 G N x0 x2 x7 x9 x10 H
def s7_54 G N L1 x9 x7 x10 x8 x11 x0 x2 H x50 :=
 xif (some x50) (s7_52 L1 x9 x7 x10 x8 x11 x0 x2 H) (s7_53 G N x0 x2 x7 x9 x10 H)
def s7_b1 G N L1 x0 x2 x7 x8 x9 x10 x11 H :=
 xb (fbin P .lss 3 false x11 x0) (s7_54 G N L1 x9 x7 x10 x8 x11 x0 x2 H)
noncomputable def s7_l1 (G : CallT) (N : Nat) : Nat → AV → AV → AV → AV → AV → AV → AV → AHeap → O
  | 0, _, _, _, _, _, _, _, _ => none
  | n + 1, x0, x2, x7, x8, x9, x10, x11, H => s7_b1 G N (s7_l1 G N n) x0 x2 x7 x8 x9 x10 x11 H

theorem s7_b1_eq (G : CallT) (N : Nat) (L1 : AV → AV → AV → AV → AV → AV → AV → AHeap → O) : ∀ R H, codeC P G N (Code.fst (Code.fst (Code.snd (Code.fst (Code.snd (Code.snd (Code.snd (Code.snd (bodyOf Try.f7))))))))) (fun R H => L1 (R 0) (R 2) (R 7) (R 8) (R 9) (R 10) (R 11) H) [(0, (fun R H => s7_j0 G N (R 0) (R 2) (R 7) (R 9) (R 10) H))] (retC P Try.f7.results.toList) R H = s7_b1 G N L1 (R 0) (R 2) (R 7) (R 8) (R 9) (R 10) (R 11) H := by
  intro R H
  refine Eq.trans ((via_leaf _ : ∀ R H, codeC P G N (Code.fst (Code.fst (Code.snd (Code.fst (Code.snd (Code.snd (Code.snd (Code.snd (bodyOf Try.f7))))))))) (fun R H => L1 (R 0) (R 2) (R 7) (R 8) (R 9) (R 10) (R 11) H) [(0, (fun R H => s7_j0 G N (R 0) (R 2) (R 7) (R 9) (R 10) H))] (retC P Try.f7.results.toList) R H = _) R H) ?_
  delta s7_b1 s7_54 s7_53 s7_52 s7_51 s7_50 s7_49
  generalize s7_j0 G N = J0
  revert J0
  refine id ?_
  intro J0
  kernel_rfl

def s7_55 G N x0 x2 x43 x47 H_12 :=
 s7_l1 G N N x0 x2 x43 x47 (.str []) (.str [49]) (.int .i64 0) H_12
def s7_56 G N H_11 x42 x43 H_12 H_10 x46 x0 x2 x47 :=
 bif ((rdIs (aload P H_11 9 x42) x43 && rdIs (aload P H_12 9 x42) x43) && (((rdIs (aload P H_10 9 x46) x47 && rdIs (aload P H_12 9 x46) x47) || (rdIs (aload P (AHeap.only H_12) 9 x46) x47 || false)) && true)) then s7_55 G N x0 x2 x43 x47 H_12 else none
def s7_57 G N H_12 H_11 x42 x43 H_10 x0 x2 x46 :=
 xb (aload P H_12 9 x46) (s7_56 G N H_11 x42 x43 H_12 H_10 x46 x0 x2)
def s7_58 G N x1 H_11 x42 x43 H_10 x0 x2 x44 H_12 :=
 xb (aindexAddr P 46 x44 x1) (s7_57 G N H_12 H_11 x42 x43 H_10 x0 x2)
def s7_59 G N H_11 x1 x42 H_10 x0 x2 x43 :=
 xmake H_11 (some (.sl (H_11).next 0 4 1 (some 4), .row false 1 [[(.str [])], [(.str [41])], [(.str [41])], [(.str [93])]])) (s7_58 G N x1 H_11 x42 x43 H_10 x0 x2)
def s7_60 G N H_11 x1 H_10 x0 x2 x42 :=
 xb (aload P H_11 9 x42) (s7_59 G N H_11 x1 x42 H_10 x0 x2)
def s7_61 G N x1 H_10 x0 x2 x40 H_11 :=
 xb (aindexAddr P 46 x40 x1) (s7_60 G N H_11 x1 H_10 x0 x2)
def s7_62 G N H_10 x1 x0 x2 :=
 xmake H_10 (some (.sl (H_10).next 0 4 1 (some 4), .row false 1 [[(.str [45])], [(.str [40])], [(.str [102, 40])], [(.str [120, 91])]])) (s7_61 G N x1 H_10 x0 x2)
def s7_63 G N H_10 x1 x0 x2 x39 :=
 xif (some x39) (s7_0 H_10) (s7_62 G N H_10 x1 x0 x2)
def s7_64 G N x35 x1 x0 x2 x38 H_10 :=
 xb (pickOf x35 (some (.bool true)) (some x38)) (s7_63 G N H_10 x1 x0 x2)
def s7_65 G N x35 x1 x0 x2 x37 H_9 :=
 xg x35 false H_9 (fun q => (fbin P .gtr 3 true x37 (.int .i64 60)).bind fun v => q (.pure v)) (s7_64 G N x35 x1 x0 x2)
def s7_66 G N H_8 x2 x1 x0 x35 :=
 xg x35 false H_8 (fun q => q (.pure x2)) (s7_65 G N x35 x1 x0 x2)
def s7_67 G N x31 x2 x1 x0 x34 H_8 :=
 xb (pickOf x31 (some (.bool true)) (some x34)) (s7_66 G N H_8 x2 x1 x0)
def s7_68 G N x31 x2 x1 x0 x33 H_7 :=
 xg x31 false H_7 (fun q => (fbin P .lss 3 true x33 (.int .i64 0)).bind fun v => q (.pure v)) (s7_67 G N x31 x2 x1 x0)
def s7_69 G N H_6 x2 x1 x0 x31 :=
 xg x31 false H_6 (fun q => q (.pure x2)) (s7_68 G N x31 x2 x1 x0)
def s7_70 G N x27 x2 x1 x0 x30 H_6 :=
 xb (pickOf x27 (some (.bool true)) (some x30)) (s7_69 G N H_6 x2 x1 x0)
def s7_71 G N x27 x2 x1 x0 x29 H_5 :=
 xg x27 false H_5 (fun q => (fbin P .gtr 3 true x29 (.int .i64 3)).bind fun v => q (.pure v)) (s7_70 G N x27 x2 x1 x0)
def s7_72 G N H_4 x1 x2 x0 x27 :=
 xg x27 false H_4 (fun q => q (.pure x1)) (s7_71 G N x27 x2 x1 x0)
def s7_73 G N x23 x1 x2 x0 x26 H_4 :=
 xb (pickOf x23 (some (.bool true)) (some x26)) (s7_72 G N H_4 x1 x2 x0)
def s7_74 G N x23 x1 x2 x0 x25 H_3 :=
 xg x23 false H_3 (fun q => (fbin P .lss 3 true x25 (.int .i64 0)).bind fun v => q (.pure v)) (s7_73 G N x23 x1 x2 x0)
def s7_75 G N H_2 x1 x2 x0 x23 :=
 xg x23 false H_2 (fun q => q (.pure x1)) (s7_74 G N x23 x1 x2 x0)
def s7_76 G N x19 x1 x2 x0 x22 H_2 :=
 xb (pickOf x19 (some (.bool true)) (some x22)) (s7_75 G N H_2 x1 x2 x0)
def s7_77 G N x19 x1 x2 x0 x21 H_1 :=
 xg x19 false H_1 (fun q => (fbin P .gtr 3 true x21 (.int .i64 60)).bind fun v => q (.pure v)) (s7_76 G N x19 x1 x2 x0)
def s7_78 G N H x0 x1 x2 x19 :=
 xg x19 false H (fun q => q (.pure x0)) (s7_77 G N x19 x1 x2 x0)
/-- runrig/runriglaw3.ExprDeep -/
def s7 G N x0 x1 x2 H :=
 xb (fbin P .lss 3 true x0 (.int .i64 0)) (s7_78 G N H x0 x1 x2)
theorem s7_eq (G : CallT) (N : Nat) (x0 : AV) (x1 : AV) (x2 : AV) (H : AHeap) : codeC P G N (bodyOf Try.f7) (retC P Try.f7.results.toList) [] (retC P Try.f7.results.toList) (argsF [x0, x1, x2]) H = s7 G N x0 x1 x2 H := by
  refine Eq.trans (((via_seq (by kernel_rfl) ((via_seq (by kernel_rfl) ((via_seq (by kernel_rfl) ((via_seq (by kernel_rfl) ((via_seq (by kernel_rfl) (s7_j0_eq G N) ((via_seq (by kernel_rfl) ((via_block (by kernel_rfl) ((via_loop (k := fun m R H => s7_l1 G N m (R 0) (R 2) (R 7) (R 8) (R 9) (R 10) (R 11) H) (by kernel_rfl) (fun R H => by kernel_rfl) (fun m => s7_b1_eq G N (s7_l1 G N m)))))) (via_leaf _))))) (via_leaf _))) (via_leaf _))) (via_leaf _))) (via_leaf _)) : ∀ R H, codeC P G N (bodyOf Try.f7) (retC P Try.f7.results.toList) [] (retC P Try.f7.results.toList) R H = _) (argsF [x0, x1, x2]) H) ?_
  delta s7 s7_78 s7_77 s7_76 s7_75 s7_74 s7_73 s7_72 s7_71 s7_70 s7_69 s7_68 s7_67 s7_66 s7_65 s7_64 s7_63 s7_62 s7_61 s7_60 s7_59 s7_58 s7_57 s7_56 s7_55 s7_0
  generalize s7_l1 G N N = J0
  revert J0
  refine id ?_
  intro J0
  kernel_rfl

theorem run7 (N : Nat) {x0 x1 x2 : AV} {H : AHeap} {r : AV × AHeap} (h : s7 (evw P) N x0 x1 x2 H = some r) : evw P 7 [x0, x1, x2] H = some r :=
  evw_code (c := (bodyOf Try.f7)) (M := N) Try.func7 (by kernel_rfl) (by kernel_rfl) (by kernel_rfl) (Eq.trans (s7_eq (evw P) N x0 x1 x2 H) h)

def s5_0 (H_10 : AHeap) : O :=
 some ((.bool true), H_10)
def s5_1 (x57 : AV) (H_21 : AHeap) : O :=
 some (x57, H_21)
def s5_2 (G : CallT) H_20 :=
 xcall H_20 (G 17 [] H_20) (s5_1)
def s5_3 (H_14 : AHeap) (x101 : AV) : O :=
 some (x101, H_14)
def s5_4 x98 x100 H_14 :=
 xb (pickOf x98 (some x100) (some (.bool false))) (s5_3 H_14)
def s5_5 (G : CallT) H_13 x98 :=
 xg x98 true H_13 (fun q => xeff H_13 (G 17 [] H_13) q) (s5_4 x98)
def s5_6 G x94 x97 H_13 :=
 xb (pickOf x94 (some x97) (some (.bool false))) (s5_5 G H_13)
def s5_7 G x94 x96 H_12 :=
 xg x94 true H_12 (fun q => (fbin P .eql 3 true x96 (.int .i64 0)).bind fun v => q (.pure v)) (s5_6 G x94)
def s5_8 G H_11 x83 x94 :=
 xg x94 true H_11 (fun q => q (.pure x83)) (s5_7 G x94)
def s5_9 G H_11 x83 x93 :=
 xb (fbin P .eql 23 true x93 (.int .i64 4)) (s5_8 G H_11 x83)
def s5_10 G H_11 x83 x92 :=
 xb (aload P H_11 23 x92) (s5_9 G H_11 x83)
def s5_11 G x19 H_11 x83 :=
 xb (afieldAddr P 25 x19 0) (s5_10 G H_11 x83)
def s5_12 (H_20 : AHeap) (x119 : AV) : O :=
 some (x119, H_20)
def s5_13 x116 x118 H_20 :=
 xb (pickOf x116 (some x118) (some (.bool false))) (s5_12 H_20)
def s5_14 (G : CallT) H_19 x116 :=
 xg x116 true H_19 (fun q => xeff H_19 (G 17 [] H_19) q) (s5_13 x116)
def s5_15 G x111 x115 H_19 :=
 xb (pickOf x111 (some x115) (some (.bool false))) (s5_14 G H_19)
def s5_16 (G : CallT) x111 x113 x114 H_18 :=
 xg x111 true H_18 (fun q => xeff H_18 (G 22 [x113, x114] H_18) q) (s5_15 G x111)
def s5_17 G x111 x7 x113 H_17 :=
 xg x111 true H_17 (fun q => (aload P H_17 39 x7).bind fun v => q (.read v)) (s5_16 G x111 x113)
def s5_18 G H_16 x17 x7 x111 :=
 xg x111 true H_16 (fun q => (aload P H_16 39 x17).bind fun v => q (.read v)) (s5_17 G x111 x7)
def s5_19 G x104 x17 x7 x110 H_16 :=
 xb (pickOf x104 (some x110) (some (.bool false))) (s5_18 G H_16 x17 x7)
def s5_20 G x104 x106 x17 x7 x109 H_15 :=
 xg x104 true H_15 (fun q => (fbin P .eql 3 false x106 x109).bind fun v => q (.pure v)) (s5_19 G x104 x17 x7)
def s5_21 G x104 x106 x17 x7 x108 H_14 :=
 xg x104 true H_14 (fun q => (fbin P .sub 3 true x108 (.int .i64 1)).bind fun v => q (.pure v)) (s5_20 G x104 x106 x17 x7)
def s5_22 G x104 x106 x17 x7 x107 H_13 :=
 xg x104 true H_13 (fun q => xboth (abuiltin P .empty .len [22] [x107]) (abuiltin P H_13 .len [22] [x107]) q) (s5_21 G x104 x106 x17 x7)
def s5_23 G x104 x77 x17 x7 x106 H_12 :=
 xg x104 true H_12 (fun q => q (.pure x77)) (s5_22 G x104 x106 x17 x7)
def s5_24 G H_11 x83 x77 x17 x7 x104 :=
 xg x104 true H_11 (fun q => q (.pure x83)) (s5_23 G x104 x77 x17 x7)
def s5_25 G H_11 x83 x77 x17 x7 x103 :=
 xb (fbin P .eql 23 true x103 (.int .i64 0)) (s5_24 G H_11 x83 x77 x17 x7)
def s5_26 G H_11 x83 x77 x17 x7 x102 :=
 xb (aload P H_11 23 x102) (s5_25 G H_11 x83 x77 x17 x7)
def s5_27 G x19 H_11 x83 x77 x17 x7 :=
 xb (afieldAddr P 25 x19 0) (s5_26 G H_11 x83 x77 x17 x7)
def s5_28 G x19 H_11 x83 x77 x17 x7 x91 :=
 xif (some x91) (s5_11 G x19 H_11 x83) (s5_27 G x19 H_11 x83 x77 x17 x7)
def s5_29 G x86 x19 x83 x77 x17 x7 x90 H_11 :=
 xb (pickOf x86 (some (.bool true)) (some x90)) (s5_28 G x19 H_11 x83 x77 x17 x7)
def s5_30 G x86 x19 x83 x77 x17 x7 x89 H_10 :=
 xg x86 false H_10 (fun q => (fbin P .neq 23 true x89 (.int .i64 0)).bind fun v => q (.pure v)) (s5_29 G x86 x19 x83 x77 x17 x7)
def s5_31 G x86 x19 x83 x77 x17 x7 x88 H_9 :=
 xg x86 false H_9 (fun q => (aload P H_9 23 x88).bind fun v => q (.read v)) (s5_30 G x86 x19 x83 x77 x17 x7)
def s5_32 G H_8 x12 x19 x83 x77 x17 x7 x86 :=
 xg x86 false H_8 (fun q => (afieldAddr P 25 x12 0).bind fun v => q (.pure v)) (s5_31 G x86 x19 x83 x77 x17 x7)
def s5_33 G x1 x12 x19 x83 x77 x17 x7 H_8 :=
 xb (fbin P .gtr 3 true x1 (.int .i64 50)) (s5_32 G H_8 x12 x19 x83 x77 x17 x7)
def s5_34 G x19 x84 x1 x12 x83 x77 x17 x7 H_7 :=
 xstore H_7 (astore P H_7 25 x19 x84) (s5_33 G x1 x12 x19 x83 x77 x17 x7)
def s5_35 G x17 x82 x84 x1 x12 x83 x77 x7 x19 H_6 :=
 xstore H_6 (astore P H_6 39 x17 x82) (s5_34 G x19 x84 x1 x12 x83 x77 x17 x7)
def s5_36 G x82 x84 x1 x12 x83 x77 x7 x17 H_5 :=
 xalloc H_5 [(.int .i64 0), (.int .i64 0)] (s5_35 G x17 x82 x84 x1 x12 x83 x77 x7)
def s5_37 G H_4 x82 x1 x12 x83 x77 x7 x84 :=
 xalloc H_4 [(.int .i64 0), (.int .i64 0), (.str []), (.str []), (.int .i64 0), AV.nilSl, (.int .i64 0), (.int .i64 0), (.int .i64 0), (.int .i64 0), (.int .i64 0)] (s5_36 G x82 x84 x1 x12 x83 x77 x7)
def s5_38 G x81 H_4 x82 x1 x12 x77 x7 x83 :=
 xb (aextract x81 2) (s5_37 G H_4 x82 x1 x12 x83 x77 x7)
def s5_39 G x81 H_4 x1 x12 x77 x7 x82 :=
 xb (aextract x81 1) (s5_38 G x81 H_4 x82 x1 x12 x77 x7)
def s5_40 G x1 x12 x77 x7 x81 H_4 :=
 xb (aextract x81 0) (s5_39 G x81 H_4 x1 x12 x77 x7)
def s5_41 (G : CallT) x77 x1 x12 x7 H_3 :=
 xcall H_3 (G 21 [x77, (.int .i64 0), (.int .i64 0)] H_3) (s5_40 G x1 x12 x77 x7)
def s5_42 G x78 x77 x1 x12 x7 x16 H_2 :=
 xstore H_2 (astore P H_2 25 x16 x78) (s5_41 G x77 x1 x12 x7)
def s5_43 G H_1 x77 x1 x12 x7 x78 :=
 xalloc H_1 [(.int .i64 0), (.int .i64 0)] (s5_42 G x78 x77 x1 x12 x7)
def s5_44 G x76 H_1 x1 x12 x7 x77 :=
 xb (aextract x76 1) (s5_43 G H_1 x77 x1 x12 x7)
def s5_45 G x1 x12 x7 x76 H_1 :=
 xb (aextract x76 0) (s5_44 G x76 H_1 x1 x12 x7)
def s5_j0 (G : CallT) (N : Nat) x1 x7 x12 x13 H :=
 xcall H (G 15 [x13] H) (s5_45 G x1 x12 x7)
theorem s5_j0_eq (G : CallT) (N : Nat) : ∀ R H, codeC P G N (Code.snd (Code.snd (Code.snd (Code.snd (Code.snd (Code.snd (Code.snd (Code.snd (bodyOf Try.f5))))))))) (retC P Try.f5.results.toList) [] (retC P Try.f5.results.toList) R H = s5_j0 G N (R 1) (R 7) (R 12) (R 13) H := by
  intro R H
  refine Eq.trans ((via_leaf _ : ∀ R H, codeC P G N (Code.snd (Code.snd (Code.snd (Code.snd (Code.snd (Code.snd (Code.snd (Code.snd (bodyOf Try.f5))))))))) (retC P Try.f5.results.toList) [] (retC P Try.f5.results.toList) R H = _) R H) ?_
  delta s5_j0 s5_45 s5_44 s5_43 s5_42 s5_41 s5_40 s5_39 s5_38 s5_37 s5_36 s5_35 s5_34 s5_33 s5_32 s5_31 s5_30 s5_29 s5_28 s5_27 s5_26 s5_25 s5_24 s5_23 s5_22 s5_21 s5_20 s5_19 s5_18 s5_17 s5_16 s5_15 s5_14 s5_13 s5_12 s5_11 s5_10 s5_9 s5_8 s5_7 s5_6 s5_5 s5_4 s5_3
  kernel_rfl

def s5_46 (L1 : AV → AV → AV → AV → AV → AHeap → O) x1 x7 x12 x73 H x70 :=
 L1 x1 x7 x12 x73 x70 H
def s5_47 L1 x14 x1 x7 x12 H x73 :=
 xb (fbin P .add 3 true x14 (.int .i64 1)) (s5_46 L1 x1 x7 x12 x73 H)
def s5_48 L1 x14 x1 x7 x12 H x72 :=
 xb (fbin P .add 9 true x72 (.str [10, 41])) (s5_47 L1 x14 x1 x7 x12 H)
def s5_49 L1 x13 x14 x1 x7 x12 H :=
 xb (fbin P .add 9 true (.str [40]) x13) (s5_48 L1 x14 x1 x7 x12 H)
def s5_50 G N x1 x7 x12 x13 H :=
 s5_j0 G N x1 x7 x12 x13 H
def s5_51 G N L1 x13 x14 x1 x7 x12 H x68 :=
 xif (some x68) (s5_49 L1 x13 x14 x1 x7 x12 H) (s5_50 G N x1 x7 x12 x13 H)
def s5_b1 G N L1 x1 x7 x12 x13 x14 H :=
 xb (fbin P .lss 3 false x14 x1) (s5_51 G N L1 x13 x14 x1 x7 x12 H)
noncomputable def s5_l1 (G : CallT) (N : Nat) : Nat → AV → AV → AV → AV → AV → AHeap → O
  | 0, _, _, _, _, _, _ => none
  | n + 1, x1, x7, x12, x13, x14, H => s5_b1 G N (s5_l1 G N n) x1 x7 x12 x13 x14 H

theorem s5_b1_eq (G : CallT) (N : Nat) (L1 : AV → AV → AV → AV → AV → AHeap → O) : ∀ R H, codeC P G N (Code.fst (Code.fst (Code.snd (Code.fst (Code.snd (Code.snd (Code.snd (Code.snd (Code.snd (Code.snd (Code.snd (bodyOf Try.f5)))))))))))) (fun R H => L1 (R 1) (R 7) (R 12) (R 13) (R 14) H) [(0, (fun R H => s5_j0 G N (R 1) (R 7) (R 12) (R 13) H))] (retC P Try.f5.results.toList) R H = s5_b1 G N L1 (R 1) (R 7) (R 12) (R 13) (R 14) H := by
  intro R H
  refine Eq.trans ((via_leaf _ : ∀ R H, codeC P G N (Code.fst (Code.fst (Code.snd (Code.fst (Code.snd (Code.snd (Code.snd (Code.snd (Code.snd (Code.snd (Code.snd (bodyOf Try.f5)))))))))))) (fun R H => L1 (R 1) (R 7) (R 12) (R 13) (R 14) H) [(0, (fun R H => s5_j0 G N (R 1) (R 7) (R 12) (R 13) H))] (retC P Try.f5.results.toList) R H = _) R H) ?_
  delta s5_b1 s5_51 s5_50 s5_49 s5_48 s5_47 s5_46
  generalize s5_j0 G N = J0
  revert J0
  refine id ?_
  intro J0
  kernel_rfl

def s5_52 G N x1 x7 x12 x0 H_25 :=
 s5_l1 G N N x1 x7 x12 x0 (.int .i64 0) H_25
def s5_53 G N x12 x64 x1 x7 x0 H_24 :=
 xstore H_24 (astore P H_24 25 x12 x64) (s5_52 G N x1 x7 x12 x0)
def s5_54 G N x10 x62 x64 x1 x7 x0 x12 H_23 :=
 xstore H_23 (astore P H_23 39 x10 x62) (s5_53 G N x12 x64 x1 x7 x0)
def s5_55 G N x62 x64 x1 x7 x0 x10 H_22 :=
 xalloc H_22 [(.int .i64 0), (.int .i64 0)] (s5_54 G N x10 x62 x64 x1 x7 x0)
def s5_56 G N H_21 x62 x1 x7 x0 x64 :=
 xalloc H_21 [(.int .i64 0), (.int .i64 0), (.str []), (.str []), (.int .i64 0), AV.nilSl, (.int .i64 0), (.int .i64 0), (.int .i64 0), (.int .i64 0), (.int .i64 0)] (s5_55 G N x62 x64 x1 x7 x0)
def s5_57 G N x61 H_21 x62 x1 x7 x0 (x63 : AV) :=
 xb (aextract x61 2) (s5_56 G N H_21 x62 x1 x7 x0)
def s5_58 G N x61 H_21 x1 x7 x0 x62 :=
 xb (aextract x61 1) (s5_57 G N x61 H_21 x62 x1 x7 x0)
def s5_59 G N x1 x7 x0 x61 H_21 :=
 xb (aextract x61 0) (s5_58 G N x61 H_21 x1 x7 x0)
def s5_60 (G : CallT) N H_20 x23 x1 x7 x0 :=
 xcall H_20 (G 20 [x23, (.int .i64 0), x1] H_20) (s5_59 G N x1 x7 x0)
def s5_61 G N H_20 x23 x1 x7 x0 x56 :=
 xif (some x56) (s5_2 G H_20) (s5_60 G N H_20 x23 x1 x7 x0)
def s5_62 G N x49 x23 x1 x7 x0 x55 H_20 :=
 xb (pickOf x49 (some (.bool true)) (some x55)) (s5_61 G N H_20 x23 x1 x7 x0)
def s5_63 G N x49 x51 x23 x1 x7 x0 x54 H_19 :=
 xg x49 false H_19 (fun q => (fbin P .neq 3 false x51 x54).bind fun v => q (.pure v)) (s5_62 G N x49 x23 x1 x7 x0)
def s5_64 G N x49 x51 x23 x1 x7 x0 x53 H_18 :=
 xg x49 false H_18 (fun q => (fbin P .sub 3 true x53 (.int .i64 1)).bind fun v => q (.pure v)) (s5_63 G N x49 x51 x23 x1 x7 x0)
def s5_65 G N x49 x51 x23 x1 x7 x0 x52 H_17 :=
 xg x49 false H_17 (fun q => xboth (abuiltin P .empty .len [22] [x52]) (abuiltin P H_17 .len [22] [x52]) q) (s5_64 G N x49 x51 x23 x1 x7 x0)
def s5_66 G N x49 x23 x1 x7 x0 x51 H_16 :=
 xg x49 false H_16 (fun q => q (.pure x23)) (s5_65 G N x49 x51 x23 x1 x7 x0)
def s5_67 G N H_15 x45 x23 x1 x7 x0 x49 :=
 xg x49 false H_15 (fun q => q (.pure x45)) (s5_66 G N x49 x23 x1 x7 x0)
def s5_68 G N H_15 x45 x23 x1 x7 x0 x48 :=
 xb (fbin P .neq 23 true x48 (.int .i64 0)) (s5_67 G N H_15 x45 x23 x1 x7 x0)
def s5_69 G N H_15 x45 x23 x1 x7 x0 x47 :=
 xb (aload P H_15 23 x47) (s5_68 G N H_15 x45 x23 x1 x7 x0)
def s5_70 G N x9 x45 x23 x1 x7 x0 H_15 :=
 xb (afieldAddr P 25 x9 0) (s5_69 G N H_15 x45 x23 x1 x7 x0)
def s5_71 G N x9 x46 x45 x23 x1 x7 x0 H_14 :=
 xstore H_14 (astore P H_14 25 x9 x46) (s5_70 G N x9 x45 x23 x1 x7 x0)
def s5_72 G N x7 x44 x46 x45 x23 x1 x0 x9 H_13 :=
 xstore H_13 (astore P H_13 39 x7 x44) (s5_71 G N x9 x46 x45 x23 x1 x7 x0)
def s5_73 G N x44 x46 x45 x23 x1 x0 x7 H_12 :=
 xalloc H_12 [(.int .i64 0), (.int .i64 0)] (s5_72 G N x7 x44 x46 x45 x23 x1 x0)
def s5_74 G N H_11 x44 x45 x23 x1 x0 x46 :=
 xalloc H_11 [(.int .i64 0), (.int .i64 0), (.str []), (.str []), (.int .i64 0), AV.nilSl, (.int .i64 0), (.int .i64 0), (.int .i64 0), (.int .i64 0), (.int .i64 0)] (s5_73 G N x44 x46 x45 x23 x1 x0)
def s5_75 G N x43 H_11 x44 x23 x1 x0 x45 :=
 xb (aextract x43 2) (s5_74 G N H_11 x44 x45 x23 x1 x0)
def s5_76 G N x43 H_11 x23 x1 x0 x44 :=
 xb (aextract x43 1) (s5_75 G N x43 H_11 x44 x23 x1 x0)
def s5_77 G N x23 x1 x0 x43 H_11 :=
 xb (aextract x43 0) (s5_76 G N x43 H_11 x23 x1 x0)
def s5_78 (G : CallT) N H_10 x23 x1 x0 :=
 xcall H_10 (G 20 [x23, (.int .i64 0), (.int .i64 0)] H_10) (s5_77 G N x23 x1 x0)
def s5_79 G N H_10 x23 x1 x0 x40 :=
 xif (some x40) (s5_0 H_10) (s5_78 G N H_10 x23 x1 x0)
def s5_80 G N x36 x23 x1 x0 x39 H_10 :=
 xb (pickOf x36 (some (.bool true)) (some x39)) (s5_79 G N H_10 x23 x1 x0)
def s5_81 G N x36 x23 x1 x0 x38 H_9 :=
 xg x36 false H_9 (fun q => (fbin P .gtr 3 true x38 (.int .i64 60)).bind fun v => q (.pure v)) (s5_80 G N x36 x23 x1 x0)
def s5_82 G N H_8 x1 x23 x0 x36 :=
 xg x36 false H_8 (fun q => q (.pure x1)) (s5_81 G N x36 x23 x1 x0)
def s5_83 G N x32 x1 x23 x0 x35 H_8 :=
 xb (pickOf x32 (some (.bool true)) (some x35)) (s5_82 G N H_8 x1 x23 x0)
def s5_84 G N x32 x1 x23 x0 x34 H_7 :=
 xg x32 false H_7 (fun q => (fbin P .lss 3 true x34 (.int .i64 0)).bind fun v => q (.pure v)) (s5_83 G N x32 x1 x23 x0)
def s5_85 G N H_6 x1 x23 x0 x32 :=
 xg x32 false H_6 (fun q => q (.pure x1)) (s5_84 G N x32 x1 x23 x0)
def s5_86 G N x27 x1 x23 x0 x31 H_6 :=
 xb (pickOf x27 (some (.bool true)) (some x31)) (s5_85 G N H_6 x1 x23 x0)
def s5_87 G N x27 x1 x23 x0 x30 H_5 :=
 xg x27 false H_5 (fun q => (fbin P .neq 23 true x30 (.int .i64 0)).bind fun v => q (.pure v)) (s5_86 G N x27 x1 x23 x0)
def s5_88 G N x27 x1 x23 x0 x29 H_4 :=
 xg x27 false H_4 (fun q => (aload P H_4 23 x29).bind fun v => q (.read v)) (s5_87 G N x27 x1 x23 x0)
def s5_89 G N H_3 x6 x1 x23 x0 x27 :=
 xg x27 false H_3 (fun q => (afieldAddr P 25 x6 0).bind fun v => q (.pure v)) (s5_88 G N x27 x1 x23 x0)
def s5_90 G N H_3 x6 x1 x23 x0 x26 :=
 xb (fbin P .gtr 3 true x26 (.int .i64 500)) (s5_89 G N H_3 x6 x1 x23 x0)
def s5_91 G N x0 x6 x1 x23 H_3 :=
 xlen P .len [9] [x0] H_3 (s5_90 G N H_3 x6 x1 x23 x0)
def s5_92 G N x24 x0 x1 x23 x6 H_2 :=
 xstore H_2 (astore P H_2 25 x6 x24) (s5_91 G N x0 x6 x1 x23)
def s5_93 G N H_1 x0 x1 x23 x24 :=
 xalloc H_1 [(.int .i64 0), (.int .i64 0)] (s5_92 G N x24 x0 x1 x23)
def s5_94 G N x22 H_1 x0 x1 x23 :=
 xb (aextract x22 1) (s5_93 G N H_1 x0 x1 x23)
def s5_95 G N x0 x1 x22 H_1 :=
 xb (aextract x22 0) (s5_94 G N x22 H_1 x0 x1)
/-- runrig/runriglaw3.ExprParens -/
def s5 (G : CallT) N x0 x1 H :=
 xcall H (G 15 [x0] H) (s5_95 G N x0 x1)
theorem s5_eq (G : CallT) (N : Nat) (x0 : AV) (x1 : AV) (H : AHeap) : codeC P G N (bodyOf Try.f5) (retC P Try.f5.results.toList) [] (retC P Try.f5.results.toList) (argsF [x0, x1]) H = s5 G N x0 x1 H := by
  refine Eq.trans (((via_seq (by kernel_rfl) ((via_seq (by kernel_rfl) ((via_seq (by kernel_rfl) ((via_seq (by kernel_rfl) ((via_seq (by kernel_rfl) ((via_seq (by kernel_rfl) ((via_seq (by kernel_rfl) ((via_seq (by kernel_rfl) (s5_j0_eq G N) ((via_seq (by kernel_rfl) ((via_block (by kernel_rfl) ((via_loop (k := fun m R H => s5_l1 G N m (R 1) (R 7) (R 12) (R 13) (R 14) H) (by kernel_rfl) (fun R H => by kernel_rfl) (fun m => s5_b1_eq G N (s5_l1 G N m)))))) (via_leaf _))))) (via_leaf _))) (via_leaf _))) (via_leaf _))) (via_leaf _))) (via_leaf _))) (via_leaf _))) (via_leaf _)) : ∀ R H, codeC P G N (bodyOf Try.f5) (retC P Try.f5.results.toList) [] (retC P Try.f5.results.toList) R H = _) (argsF [x0, x1]) H) ?_
  delta s5 s5_95 s5_94 s5_93 s5_92 s5_91 s5_90 s5_89 s5_88 s5_87 s5_86 s5_85 s5_84 s5_83 s5_82 s5_81 s5_80 s5_79 s5_78 s5_77 s5_76 s5_75 s5_74 s5_73 s5_72 s5_71 s5_70 s5_69 s5_68 s5_67 s5_66 s5_65 s5_64 s5_63 s5_62 s5_61 s5_60 s5_59 s5_58 s5_57 s5_56 s5_55 s5_54 s5_53 s5_52 s5_2 s5_1 s5_0
  generalize s5_l1 G N N = J0
  revert J0
  refine id ?_
  intro J0
  kernel_rfl

theorem run5 (N : Nat) {x0 x1 : AV} {H : AHeap} {r : AV × AHeap} (h : s5 (evw P) N x0 x1 H = some r) : evw P 5 [x0, x1] H = some r :=
  evw_code (c := (bodyOf Try.f5)) (M := N) Try.func5 (by kernel_rfl) (by kernel_rfl) (by kernel_rfl) (Eq.trans (s5_eq (evw P) N x0 x1 H) h)


end
end Go.Proofs.Ytnjoomfeddamcaa


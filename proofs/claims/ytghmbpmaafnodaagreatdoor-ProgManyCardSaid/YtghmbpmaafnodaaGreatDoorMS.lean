/-
  Texts of one proof, laid together: ShPc Qk Sk ShQa Ql ShQe Qm ShQd.
-/
import Derived.Test.YtghmbpmaafnodaaGreatDoorMD
import Derived.Test.YtghmbpmaafnodaaGreatDoorMR
import Derived.Test.YtghmbpmaafnodaaGreatDoorMK
set_option linter.unusedVariables false
set_option linter.unusedSimpArgs false
namespace Go.Proofs.YtghmbpmaafnodaaGreatDoor
open Go.Ev
set_option maxRecDepth 100000
noncomputable section
def s14 (G : CallT) (x0 x1 : AV) (H : AHeap) : O :=
 xmake H (boxOf (H).next x0) fun x2 h1 =>
 xmake h1 (boxOf (h1).next x1) fun x3 h2 =>
 xb (afieldAddr P 26 x2 0) fun x5 =>
 xb (aload P h2 22 x5) fun x6 =>
 xb (afieldAddr P 26 x3 0) fun x7 =>
 xb (aload P h2 22 x7) fun x8 =>
 xcall h2 (G 40 [x6, x8, (.func (.func 41) [] [])] h2) fun x9 h3 =>
 xg x9 true h3 (qp (afieldAddr P 26 x2 1)) fun x11 h4 =>
 xg x9 true h4 (qr (aload P h4 23 x11)) fun x12 h5 =>
 xg x9 true h5 (qp (afieldAddr P 26 x3 1)) fun x13 h6 =>
 xg x9 true h6 (qr (aload P h6 23 x13)) fun x14 h7 =>
 xg x9 true h7 (fun q => xeff h7 (G 42 [x12, x14, (.func (.func 43) [] [])] h7) q) fun x15 h8 =>
 xb (pickOf x9 (some x15) (some (.bool false))) fun x16 =>
 xg x16 true h8 (qp (afieldAddr P 26 x2 2)) fun x18 h9 =>
 xg x16 true h9 (qr (aload P h9 24 x18)) fun x19 h10 =>
 xg x16 true h10 (qp (afieldAddr P 26 x3 2)) fun x20 h11 =>
 xg x16 true h11 (qr (aload P h11 24 x20)) fun x21 h12 =>
 xg x16 true h12 (fun q => xeff h12 (G 44 [x19, x21, (.func (.func 45) [] [])] h12) q) fun x22 h13 =>
 xb (pickOf x16 (some x22) (some (.bool false))) fun x23 =>
 some (x23, h13)
theorem s14_eq (G : CallT) (N : Nat) (x0 : AV) (x1 : AV) (H : AHeap) : cF Tryz.f14 G N (argsF [x0, x1]) H = s14 G x0 x1 H := by
 refine via_top (A := cF Tryz.f14 G N) (via_leaf _) ?_
 delta s14
 kernel_rfl
theorem run14 (N : Nat) {x0 x1 : AV} {H : AHeap} {r : AV × AHeap} (h : s14 (evw P orc) x0 x1 H = some r) : evw P orc 14 [x0, x1] H = some r :=
 runF (by kernel_rfl) Tryz.func14 (by kernel_rfl) (by kernel_rfl) (by kernel_rfl) ((s14_eq (evw P orc) N x0 x1 H).trans h)
def s40_j0 (G : CallT) (N : Nat) (H : AHeap) : O :=
 some ((.bool true), H)
theorem s40_j0_eq (G : CallT) (N : Nat) : ∀ R H, codeC P G N (Code.snd (Code.snd (Code.snd (bodyOf Tryz.f40)))) (rC Tryz.f40) [] (rC Tryz.f40) R H = s40_j0 G N H := by
 refine via_trans (via_leaf _) fun R H => ?_
 delta s40_j0
 kernel_rfl
def s40_b1 (G : CallT) (N : Nat) (L1 : AV → AV → AV → AV → AV → AHeap → O) (x1 x2 : AV) (x15 x16 x17 : AV) (H : AHeap) : O :=
 xb (fbin P .lss 3 false x17 x16) fun x18 =>
 xif (some x18) (xb (aindexAddr P 22 x15 x17) fun x20 =>
 xb (aload P H 41 x20) fun x21 =>
 xalloc H [(.str []), AV.nilSl, (.int .i64 0)] fun x8 h1 =>
 xstore h1 (astore P h1 41 x8 x21) fun h2 =>
 xb (aindexAddr P 22 x1 x17) fun x24 =>
 xb (aload P h2 41 x24) fun x25 =>
 xalloc h2 [(.str []), AV.nilSl, (.int .i64 0)] fun x9 h3 =>
 xstore h3 (astore P h3 41 x9 x25) fun h4 =>
 xb (aload P h4 41 x8) fun x27 =>
 xb (aload P h4 41 x9) fun x28 =>
 xapply G h4 x2 [x27, x28] fun x29 h5 =>
 xb (aun .not x29) fun x30 =>
 xif (some x30) (some ((.bool false), h5)) (xb (fbin P .add 3 true x17 (.int .i64 1)) fun x31 =>
 L1 x1 x2 x15 x16 x31 h5)) (s40_j0 G N H)
def s40_l1 (G : CallT) (N : Nat) : Nat → AV → AV → AV → AV → AV → AHeap → O
 | 0, _, _, _, _, _, _ => none
 | n + 1, x1, x2, x15, x16, x17, H => s40_b1 G N (s40_l1 G N n) x1 x2 x15 x16 x17 H
theorem s40_b1_eq (G : CallT) (N : Nat) (L1 : AV → AV → AV → AV → AV → AHeap → O) : ∀ R H, codeC P G N (Code.fst (Code.fst (Code.snd (Code.fst (Code.snd (Code.snd (bodyOf Tryz.f40))))))) (fun R H => L1 (R 1) (R 2) (R 15) (R 16) (R 17) H) [(0, (fun R H => s40_j0 G N H))] (rC Tryz.f40) R H = s40_b1 G N L1 (R 1) (R 2) (R 15) (R 16) (R 17) H := by
 refine via_trans (via_leaf _) fun R H => ?_
 delta s40_b1
 generalize s40_j0 G N = J0
 revert J0
 refine id ?_
 intro J0
 kernel_rfl
def s40 (G : CallT) (N : Nat) (x0 x1 x2 : AV) (H : AHeap) : O :=
 xlen P .len [22] [x0] H fun x11 =>
 xlen P .len [22] [x1] H fun x13 =>
 xb (fbin P .neq 3 false x11 x13) fun x14 =>
 xif (some x14) (some ((.bool false), H)) (xlen P .len [22] [x0] H fun x16 =>
 s40_l1 G N N x1 x2 x0 x16 (.int .i64 0) H)
theorem s40_eq (G : CallT) (N : Nat) (x0 : AV) (x1 : AV) (x2 : AV) (H : AHeap) : cF Tryz.f40 G N (argsF [x0, x1, x2]) H = s40 G N x0 x1 x2 H := by
 refine via_top (A := cF Tryz.f40 G N) ((via_seq (by kernel_rfl) ((via_seq (by kernel_rfl) ((via_seq (by kernel_rfl) (s40_j0_eq G N) ((via_seq (by kernel_rfl) ((via_block (by kernel_rfl) ((via_loop (k := fun m R H => s40_l1 G N m (R 1) (R 2) (R 15) (R 16) (R 17) H) (by kernel_rfl) (fun R H => by kernel_rfl) (fun m => s40_b1_eq G N (s40_l1 G N m)))))) (via_leaf _))))) (via_leaf _))) (via_leaf _))) ?_
 delta s40
 generalize s40_l1 G N N = J0
 revert J0
 refine id ?_
 intro J0
 kernel_rfl
theorem run40 (N : Nat) {x0 x1 x2 : AV} {H : AHeap} {r : AV × AHeap} (h : s40 (evw P orc) N x0 x1 x2 H = some r) : evw P orc 40 [x0, x1, x2] H = some r :=
 runF (by kernel_rfl) Tryz.func40 (by kernel_rfl) (by kernel_rfl) (by kernel_rfl) ((s40_eq (evw P orc) N x0 x1 x2 H).trans h)
def s41 (G : CallT) (x0 x1 : AV) (H : AHeap) : O :=
 xmake H (boxOf (H).next x0) fun x2 h1 =>
 xmake h1 (boxOf (h1).next x1) fun x3 h2 =>
 xb (afieldAddr P 41 x2 0) fun x5 =>
 xb (aload P h2 9 x5) fun x6 =>
 xb (afieldAddr P 41 x3 0) fun x7 =>
 xb (aload P h2 9 x7) fun x8 =>
 xb (fbin P .eql 9 false x6 x8) fun x9 =>
 xg x9 true h2 (qp (afieldAddr P 41 x2 1)) fun x11 h3 =>
 xg x9 true h3 (qr (aload P h3 23 x11)) fun x12 h4 =>
 xg x9 true h4 (qp (afieldAddr P 41 x3 1)) fun x13 h5 =>
 xg x9 true h5 (qr (aload P h5 23 x13)) fun x14 h6 =>
 xg x9 true h6 (fun q => xeff h6 (G 42 [x12, x14, (.func (.func 43) [] [])] h6) q) fun x15 h7 =>
 xb (pickOf x9 (some x15) (some (.bool false))) fun x16 =>
 some (x16, h7)
theorem s41_eq (G : CallT) (N : Nat) (x0 : AV) (x1 : AV) (H : AHeap) : cF Tryz.f41 G N (argsF [x0, x1]) H = s41 G x0 x1 H := by
 refine via_top (A := cF Tryz.f41 G N) (via_leaf _) ?_
 delta s41
 kernel_rfl
theorem run41 (N : Nat) {x0 x1 : AV} {H : AHeap} {r : AV × AHeap} (h : s41 (evw P orc) x0 x1 H = some r) : evw P orc 41 [x0, x1] H = some r :=
 runF (by kernel_rfl) Tryz.func41 (by kernel_rfl) (by kernel_rfl) (by kernel_rfl) ((s41_eq (evw P orc) N x0 x1 H).trans h)
def s42_j0 (G : CallT) (N : Nat) (H : AHeap) : O :=
 some ((.bool true), H)
theorem s42_j0_eq (G : CallT) (N : Nat) : ∀ R H, codeC P G N (Code.snd (Code.snd (Code.snd (bodyOf Tryz.f42)))) (rC Tryz.f42) [] (rC Tryz.f42) R H = s42_j0 G N H := by
 refine via_trans (via_leaf _) fun R H => ?_
 delta s42_j0
 kernel_rfl
def s42_b1 (G : CallT) (N : Nat) (L1 : AV → AV → AV → AV → AV → AHeap → O) (x1 x2 : AV) (x15 x16 x17 : AV) (H : AHeap) : O :=
 xb (fbin P .lss 3 false x17 x16) fun x18 =>
 xif (some x18) (xb (aindexAddr P 23 x15 x17) fun x20 =>
 xb (aload P H 66 x20) fun x21 =>
 xalloc H [(.str []), (.str []), (.int .i64 0), (.int .i64 0)] fun x8 h1 =>
 xstore h1 (astore P h1 66 x8 x21) fun h2 =>
 xb (aindexAddr P 23 x1 x17) fun x24 =>
 xb (aload P h2 66 x24) fun x25 =>
 xalloc h2 [(.str []), (.str []), (.int .i64 0), (.int .i64 0)] fun x9 h3 =>
 xstore h3 (astore P h3 66 x9 x25) fun h4 =>
 xb (aload P h4 66 x8) fun x27 =>
 xb (aload P h4 66 x9) fun x28 =>
 xapply G h4 x2 [x27, x28] fun x29 h5 =>
 xb (aun .not x29) fun x30 =>
 xif (some x30) (some ((.bool false), h5)) (xb (fbin P .add 3 true x17 (.int .i64 1)) fun x31 =>
 L1 x1 x2 x15 x16 x31 h5)) (s42_j0 G N H)
def s42_l1 (G : CallT) (N : Nat) : Nat → AV → AV → AV → AV → AV → AHeap → O
 | 0, _, _, _, _, _, _ => none
 | n + 1, x1, x2, x15, x16, x17, H => s42_b1 G N (s42_l1 G N n) x1 x2 x15 x16 x17 H
theorem s42_b1_eq (G : CallT) (N : Nat) (L1 : AV → AV → AV → AV → AV → AHeap → O) : ∀ R H, codeC P G N (Code.fst (Code.fst (Code.snd (Code.fst (Code.snd (Code.snd (bodyOf Tryz.f42))))))) (fun R H => L1 (R 1) (R 2) (R 15) (R 16) (R 17) H) [(0, (fun R H => s42_j0 G N H))] (rC Tryz.f42) R H = s42_b1 G N L1 (R 1) (R 2) (R 15) (R 16) (R 17) H := by
 refine via_trans (via_leaf _) fun R H => ?_
 delta s42_b1
 generalize s42_j0 G N = J0
 revert J0
 refine id ?_
 intro J0
 kernel_rfl
def s42 (G : CallT) (N : Nat) (x0 x1 x2 : AV) (H : AHeap) : O :=
 xlen P .len [23] [x0] H fun x11 =>
 xlen P .len [23] [x1] H fun x13 =>
 xb (fbin P .neq 3 false x11 x13) fun x14 =>
 xif (some x14) (some ((.bool false), H)) (xlen P .len [23] [x0] H fun x16 =>
 s42_l1 G N N x1 x2 x0 x16 (.int .i64 0) H)
theorem s42_eq (G : CallT) (N : Nat) (x0 : AV) (x1 : AV) (x2 : AV) (H : AHeap) : cF Tryz.f42 G N (argsF [x0, x1, x2]) H = s42 G N x0 x1 x2 H := by
 refine via_top (A := cF Tryz.f42 G N) ((via_seq (by kernel_rfl) ((via_seq (by kernel_rfl) ((via_seq (by kernel_rfl) (s42_j0_eq G N) ((via_seq (by kernel_rfl) ((via_block (by kernel_rfl) ((via_loop (k := fun m R H => s42_l1 G N m (R 1) (R 2) (R 15) (R 16) (R 17) H) (by kernel_rfl) (fun R H => by kernel_rfl) (fun m => s42_b1_eq G N (s42_l1 G N m)))))) (via_leaf _))))) (via_leaf _))) (via_leaf _))) ?_
 delta s42
 generalize s42_l1 G N N = J0
 revert J0
 refine id ?_
 intro J0
 kernel_rfl
theorem run42 (N : Nat) {x0 x1 x2 : AV} {H : AHeap} {r : AV × AHeap} (h : s42 (evw P orc) N x0 x1 x2 H = some r) : evw P orc 42 [x0, x1, x2] H = some r :=
 runF (by kernel_rfl) Tryz.func42 (by kernel_rfl) (by kernel_rfl) (by kernel_rfl) ((s42_eq (evw P orc) N x0 x1 x2 H).trans h)
def s43 (G : CallT) (x0 x1 : AV) (H : AHeap) : O :=
 xmake H (boxOf (H).next x0) fun x2 h1 =>
 xmake h1 (boxOf (h1).next x1) fun x3 h2 =>
 xb (afieldAddr P 66 x2 0) fun x5 =>
 xb (aload P h2 9 x5) fun x6 =>
 xb (afieldAddr P 66 x3 0) fun x7 =>
 xb (aload P h2 9 x7) fun x8 =>
 xb (fbin P .eql 9 false x6 x8) fun x9 =>
 xg x9 true h2 (qp (afieldAddr P 66 x2 1)) fun x11 h3 =>
 xg x9 true h3 (qr (aload P h3 43 x11)) fun x12 h4 =>
 xg x9 true h4 (qp (afieldAddr P 66 x3 1)) fun x13 h5 =>
 xg x9 true h5 (qr (aload P h5 43 x13)) fun x14 h6 =>
 xg x9 true h6 (qp (fbin P .eql 43 false x12 x14)) fun x15 h7 =>
 xb (pickOf x9 (some x15) (some (.bool false))) fun x16 =>
 some (x16, h7)
theorem s43_eq (G : CallT) (N : Nat) (x0 : AV) (x1 : AV) (H : AHeap) : cF Tryz.f43 G N (argsF [x0, x1]) H = s43 G x0 x1 H := by
 refine via_top (A := cF Tryz.f43 G N) (via_leaf _) ?_
 delta s43
 kernel_rfl
theorem run43 (N : Nat) {x0 x1 : AV} {H : AHeap} {r : AV × AHeap} (h : s43 (evw P orc) x0 x1 H = some r) : evw P orc 43 [x0, x1] H = some r :=
 runF (by kernel_rfl) Tryz.func43 (by kernel_rfl) (by kernel_rfl) (by kernel_rfl) ((s43_eq (evw P orc) N x0 x1 H).trans h)
def s44_j0 (G : CallT) (N : Nat) (H : AHeap) : O :=
 some ((.bool true), H)
theorem s44_j0_eq (G : CallT) (N : Nat) : ∀ R H, codeC P G N (Code.snd (Code.snd (Code.snd (bodyOf Tryz.f44)))) (rC Tryz.f44) [] (rC Tryz.f44) R H = s44_j0 G N H := by
 refine via_trans (via_leaf _) fun R H => ?_
 delta s44_j0
 kernel_rfl
def s44_b1 (G : CallT) (N : Nat) (L1 : AV → AV → AV → AV → AV → AHeap → O) (x1 x2 : AV) (x15 x16 x17 : AV) (H : AHeap) : O :=
 xb (fbin P .lss 3 false x17 x16) fun x18 =>
 xif (some x18) (xb (aindexAddr P 24 x15 x17) fun x20 =>
 xb (aload P H 46 x20) fun x21 =>
 xalloc H [(.str []), AV.nilSl, (.bool false), (.str []), (.int .i64 0), AV.nilSl, (.int .i64 0)] fun x8 h1 =>
 xstore h1 (astore P h1 46 x8 x21) fun h2 =>
 xb (aindexAddr P 24 x1 x17) fun x24 =>
 xb (aload P h2 46 x24) fun x25 =>
 xalloc h2 [(.str []), AV.nilSl, (.bool false), (.str []), (.int .i64 0), AV.nilSl, (.int .i64 0)] fun x9 h3 =>
 xstore h3 (astore P h3 46 x9 x25) fun h4 =>
 xb (aload P h4 46 x8) fun x27 =>
 xb (aload P h4 46 x9) fun x28 =>
 xapply G h4 x2 [x27, x28] fun x29 h5 =>
 xb (aun .not x29) fun x30 =>
 xif (some x30) (some ((.bool false), h5)) (xb (fbin P .add 3 true x17 (.int .i64 1)) fun x31 =>
 L1 x1 x2 x15 x16 x31 h5)) (s44_j0 G N H)
def s44_l1 (G : CallT) (N : Nat) : Nat → AV → AV → AV → AV → AV → AHeap → O
 | 0, _, _, _, _, _, _ => none
 | n + 1, x1, x2, x15, x16, x17, H => s44_b1 G N (s44_l1 G N n) x1 x2 x15 x16 x17 H
theorem s44_b1_eq (G : CallT) (N : Nat) (L1 : AV → AV → AV → AV → AV → AHeap → O) : ∀ R H, codeC P G N (Code.fst (Code.fst (Code.snd (Code.fst (Code.snd (Code.snd (bodyOf Tryz.f44))))))) (fun R H => L1 (R 1) (R 2) (R 15) (R 16) (R 17) H) [(0, (fun R H => s44_j0 G N H))] (rC Tryz.f44) R H = s44_b1 G N L1 (R 1) (R 2) (R 15) (R 16) (R 17) H := by
 refine via_trans (via_leaf _) fun R H => ?_
 delta s44_b1
 generalize s44_j0 G N = J0
 revert J0
 refine id ?_
 intro J0
 kernel_rfl
def s44 (G : CallT) (N : Nat) (x0 x1 x2 : AV) (H : AHeap) : O :=
 xlen P .len [24] [x0] H fun x11 =>
 xlen P .len [24] [x1] H fun x13 =>
 xb (fbin P .neq 3 false x11 x13) fun x14 =>
 xif (some x14) (some ((.bool false), H)) (xlen P .len [24] [x0] H fun x16 =>
 s44_l1 G N N x1 x2 x0 x16 (.int .i64 0) H)
theorem s44_eq (G : CallT) (N : Nat) (x0 : AV) (x1 : AV) (x2 : AV) (H : AHeap) : cF Tryz.f44 G N (argsF [x0, x1, x2]) H = s44 G N x0 x1 x2 H := by
 refine via_top (A := cF Tryz.f44 G N) ((via_seq (by kernel_rfl) ((via_seq (by kernel_rfl) ((via_seq (by kernel_rfl) (s44_j0_eq G N) ((via_seq (by kernel_rfl) ((via_block (by kernel_rfl) ((via_loop (k := fun m R H => s44_l1 G N m (R 1) (R 2) (R 15) (R 16) (R 17) H) (by kernel_rfl) (fun R H => by kernel_rfl) (fun m => s44_b1_eq G N (s44_l1 G N m)))))) (via_leaf _))))) (via_leaf _))) (via_leaf _))) ?_
 delta s44
 generalize s44_l1 G N N = J0
 revert J0
 refine id ?_
 intro J0
 kernel_rfl
theorem run44 (N : Nat) {x0 x1 x2 : AV} {H : AHeap} {r : AV × AHeap} (h : s44 (evw P orc) N x0 x1 x2 H = some r) : evw P orc 44 [x0, x1, x2] H = some r :=
 runF (by kernel_rfl) Tryz.func44 (by kernel_rfl) (by kernel_rfl) (by kernel_rfl) ((s44_eq (evw P orc) N x0 x1 x2 H).trans h)
def s45 (G : CallT) (x0 x1 : AV) (H : AHeap) : O :=
 xmake H (boxOf (H).next x0) fun x2 h1 =>
 xmake h1 (boxOf (h1).next x1) fun x3 h2 =>
 xb (afieldAddr P 46 x2 0) fun x5 =>
 xb (aload P h2 9 x5) fun x6 =>
 xb (afieldAddr P 46 x3 0) fun x7 =>
 xb (aload P h2 9 x7) fun x8 =>
 xb (fbin P .eql 9 false x6 x8) fun x9 =>
 xg x9 true h2 (qp (afieldAddr P 46 x2 1)) fun x11 h3 =>
 xg x9 true h3 (qr (aload P h3 23 x11)) fun x12 h4 =>
 xg x9 true h4 (qp (afieldAddr P 46 x3 1)) fun x13 h5 =>
 xg x9 true h5 (qr (aload P h5 23 x13)) fun x14 h6 =>
 xg x9 true h6 (fun q => xeff h6 (G 42 [x12, x14, (.func (.func 43) [] [])] h6) q) fun x15 h7 =>
 xb (pickOf x9 (some x15) (some (.bool false))) fun x16 =>
 xg x16 true h7 (qp (afieldAddr P 46 x2 2)) fun x18 h8 =>
 xg x16 true h8 (qr (aload P h8 4 x18)) fun x19 h9 =>
 xg x16 true h9 (qp (afieldAddr P 46 x3 2)) fun x20 h10 =>
 xg x16 true h10 (qr (aload P h10 4 x20)) fun x21 h11 =>
 xg x16 true h11 (qp (fbin P .eql 4 false x19 x21)) fun x22 h12 =>
 xb (pickOf x16 (some x22) (some (.bool false))) fun x23 =>
 xg x23 true h12 (qp (afieldAddr P 46 x2 3)) fun x25 h13 =>
 xg x23 true h13 (qr (aload P h13 43 x25)) fun x26 h14 =>
 xg x23 true h14 (qp (afieldAddr P 46 x3 3)) fun x27 h15 =>
 xg x23 true h15 (qr (aload P h15 43 x27)) fun x28 h16 =>
 xg x23 true h16 (qp (fbin P .eql 43 false x26 x28)) fun x29 h17 =>
 xb (pickOf x23 (some x29) (some (.bool false))) fun x30 =>
 xg x30 true h17 (qp (afieldAddr P 46 x2 4)) fun x32 h18 =>
 xg x30 true h18 (qr (aload P h18 44 x32)) fun x33 h19 =>
 xg x30 true h19 (qp (afieldAddr P 46 x3 4)) fun x34 h20 =>
 xg x30 true h20 (qr (aload P h20 44 x34)) fun x35 h21 =>
 xg x30 true h21 (fun q => xeff h21 (G 64 [x33, x35, (.func (.func 65) [] [])] h21) q) fun x36 h22 =>
 xb (pickOf x30 (some x36) (some (.bool false))) fun x37 =>
 some (x37, h22)
theorem s45_eq (G : CallT) (N : Nat) (x0 : AV) (x1 : AV) (H : AHeap) : cF Tryz.f45 G N (argsF [x0, x1]) H = s45 G x0 x1 H := by
 refine via_top (A := cF Tryz.f45 G N) (via_leaf _) ?_
 delta s45
 kernel_rfl
theorem run45 (N : Nat) {x0 x1 : AV} {H : AHeap} {r : AV × AHeap} (h : s45 (evw P orc) x0 x1 H = some r) : evw P orc 45 [x0, x1] H = some r :=
 runF (by kernel_rfl) Tryz.func45 (by kernel_rfl) (by kernel_rfl) (by kernel_rfl) ((s45_eq (evw P orc) N x0 x1 H).trans h)
end
end Go.Proofs.YtghmbpmaafnodaaGreatDoor
namespace Go.Proofs.YtghmbpmaafnodaaGreatDoor
open Go.Ev
def eqL {α : Type} (f : α → α → Bool) : List α → List α → Bool
 | [], [] => true
 | a :: l, b :: m => f a b && eqL f l m
 | _, _ => false
theorem eqL_len {α : Type} {f : α → α → Bool} : ∀ (l m : List α), l.length ≠ m.length → eqL f l m = false
 | [], [], h => absurd rfl h
 | [], _ :: _, _ => rfl
 | _ :: _, [], _ => rfl
 | a :: l, b :: m, h => by rw [eqL, eqL_len l m (by simpa using h), Bool.and_false]
theorem eqL_refl {α : Type} {f : α → α → Bool} (h : ∀ a, f a a = true) : ∀ l, eqL f l l = true
 | [] => rfl
 | a :: l => by rw [eqL, h, eqL_refl h l]; rfl
def samePm (a b : Pm) : Bool := a.name == b.name && (a.ofn == b.ofn && a.ofd == b.ofd)
def sameRc (a b : Rc) : Bool := a.name == b.name && eqL samePm a.fields b.fields
def sameFn (a b : Fn) : Bool := a.name == b.name && (eqL samePm a.params b.params && (a.has == b.has && ((a.rn == b.rn && a.rd == b.rd) && sameMs a.body b.body)))
def samePg (a b : Pg) : Bool := eqL sameRc a.recs b.recs && (eqL samePm a.globals b.globals && eqL sameFn a.funcs b.funcs)
section
variable {α : Type} {K : Kd α} {H : AHeap} {ok : Nat → Prop}
theorem Sl.row {l : List α} {v : AV} (h : Sl K H ok l v) (hl : ¬ l.length = 0) : ∃ L i cap ro els, v = .sl L i l.length K.esz cap ∧ H.get L = some (.row ro K.esz els) ∧ ∀ (j : Nat) (a : α), l[j]? = some a → ∃ cs, els[i + j]? = some cs ∧ K.V H ok a cs := by
 rcases h with ⟨rfl, h⟩ | ⟨L, i, cap, ro, els, e1, e2, e3, e4⟩ | ⟨L, i, cap, rfl, h⟩
 ·rw [h] at hl; exact absurd rfl hl
 ·exact ⟨L, i, _, ro, els, e1, e3, e4⟩
 ·rw [h] at hl; exact absurd rfl hl
end
theorem Sl.len23 {H : AHeap} {ok : Nat → Prop} {l : List Pm} {v : AV} (h : Sl kPm H ok l v) (H' : AHeap) : abuiltin P H' .len [23] [v] = some (.int .i64 l.length) := by
 rcases h with ⟨rfl, rfl⟩ | ⟨L, i, cap, ro, els, rfl, _⟩ | ⟨L, i, cap, rfl, rfl⟩
 ·exact ln23n
 ·exact ln23
 ·exact ln23
theorem eloop42 {Φ : Pm → Prop} (hf : ∀ (a b : Pm) (cs ds : List AV) (H : AHeap) (ok ok' : Nat → Prop), Φ a → kPm.V H ok a cs → kPm.V H ok' b ds → W (evw P orc 43 [.agg cs, .agg ds] H) fun r H' => r = .bool (samePm a b) ∧ Pur H H') {N : Nat} {l m : List Pm} (hl : l.length ≤ 1000000000) (hm : l.length = m.length) (hΦ : ∀ a ∈ l, Φ a) {kl ki ll li : Nat} {kc lc : Option Nat} {kro lro : Bool} {kels lels : List (List AV)} {ok ok' : Nat → Prop} :
  ∀ (c j n : Nat) (H : AHeap), j + c = l.length → c < n → H.get kl = some (.row kro 4 kels) → H.get ll = some (.row lro 4 lels) → (∀ (j : Nat) (a : Pm), l[j]? = some a → ∃ cs, kels[ki + j]? = some cs ∧ kPm.V H ok a cs) → (∀ (j : Nat) (a : Pm), m[j]? = some a → ∃ cs, lels[li + j]? = some cs ∧ kPm.V H ok' a cs) →
  W (s42_l1 (evw P orc) N n (.sl ll li m.length 4 lc) (.func (.func 43) [] []) (.sl kl ki l.length 4 kc) (.int .i64 l.length) (.int .i64 j) H) fun r H' => r = .bool (eqL samePm (l.drop j) (m.drop j)) ∧ Pur H H'
 | _, _, 0, _, _, hn, _, _, _, _ => by omega
 | 0, j, n + 1, H, hc, hn, h6, h7, e1, e2 => by
  have hj : ¬ ((j : Int) < (l.length : Int)) := by omega
  have d1 : l.drop j = [] := List.drop_eq_nil_of_le (by omega)
  have d2 : m.drop j = [] := List.drop_eq_nil_of_le (by omega)
  simp -implicitDefEqProofs (disch := first | assumption | omega | (simp only [nxB]; omega) | (simp only [oneB])) only [s42_l1, s42_j0, s42_b1, s42, xlen, evB, binB, hj, decide_false]
  exact W_some.2 ⟨by rw [d1, d2]; rfl, .refl _⟩
 | c + 1, j, n + 1, H, hc, hn, h6, h7, e1, e2 => by
  have hj1 : j < l.length := by omega
  have hj2 : j < m.length := by omega
  have hj : (j : Int) < (l.length : Int) := by omega
  have hjm : (j : Int) < (m.length : Int) := by omega
  have h0 : (0 : Int) ≤ (j : Int) := by omega
  have ht : ((j : Int)).toNat = j := by omega
  obtain ⟨cs, g1, g2⟩ := e1 j l[j] (List.getElem?_eq_getElem hj1)
  obtain ⟨ds, g4, g5⟩ := e2 j m[j] (List.getElem?_eq_getElem hj2)
  obtain ⟨q2, q3⟩ := kPm.len g2
  obtain ⟨q5, q6⟩ := kPm.len g5
  have kz : kPm.esz = 4 := rfl
  rw [kz] at q2 q5
  have tk1 : List.take 4 cs = cs := List.take_of_length_le (by omega)
  have tk2 : List.take 4 ds = ds := List.take_of_length_le (by omega)
  have l1 := AHeap.get_lt h6
  have l2 := AHeap.get_lt h7
  have hw : IntKind.i64.wrap ((j : Int) + 1) = ((j + 1 : Nat) : Int) := by rw [wrap_i64 (by omega) (by omega)]; omega
  have pa := (Pur.push H (.row false 4 [cs])).then_push (.row false 4 [ds])
  simp -implicitDefEqProofs (disch := first | assumption | omega | (simp only [nxB]; omega) | (simp only [oneB])) only [s42_l1, s42_j0, s42_b1, s42, xlen, AV.cells, splice, aload, astore, Nat.reduceAdd, Nat.reduceLeDiff, reduceIte, allB, hj, hjm, decide_true, ht, h6, h7, g1, g4, tk1, tk2, q2, q3, q5, q6, List.append_nil, xapply_fn, List.nil_append]
  refine W_call (hf l[j] m[j] _ _ _ ok ok' (hΦ _ (List.getElem_mem _)) (kPm.keep (KeepA.pur pa) g2) (kPm.keep (KeepA.pur pa) g5)) ?_
  rintro _ H2 ⟨rfl, p2⟩
  refine ⟨p2.1, ?_⟩
  have dl : l.drop j = l[j] :: l.drop (j + 1) := List.drop_eq_getElem_cons hj1
  have dm : m.drop j = m[j] :: m.drop (j + 1) := List.drop_eq_getElem_cons hj2
  cases hc' : samePm l[j] m[j] with
  | false =>
   simp -implicitDefEqProofs (disch := first | assumption | omega | (simp only [nxB]; omega) | (simp only [oneB])) only [xlen, evB, Bool.not_false]
   exact W_some.2 ⟨by rw [dl, dm, eqL, hc', Bool.false_and], pa.trans p2⟩
  | true =>
   simp -implicitDefEqProofs (disch := first | assumption | omega | (simp only [nxB]; omega) | (simp only [oneB])) only [xlen, evB, binB, Bool.not_true, hw]
   have pp := pa.trans p2
   refine (eloop42 hf hl hm hΦ (ok := ok) (ok' := ok') c (j + 1) n H2 (by omega) (by omega) (pp.get h6) (pp.get h7) (fun i a hi => ?_) (fun i a hi => ?_)).mono ?_
   ·obtain ⟨x, y, z⟩ := e1 i a hi
    exact ⟨x, y, kPm.keep (KeepA.pur pp) z⟩
   ·obtain ⟨x, y, z⟩ := e2 i a hi
    exact ⟨x, y, kPm.keep (KeepA.pur pp) z⟩
   ·rintro v H' ⟨rfl, q⟩
    exact ⟨by rw [dl, dm, eqL, hc', Bool.true_and], pp.trans q⟩
theorem eqf42 {Φ : Pm → Prop} (hf : ∀ (a b : Pm) (cs ds : List AV) (H : AHeap) (ok ok' : Nat → Prop), Φ a → kPm.V H ok a cs → kPm.V H ok' b ds → W (evw P orc 43 [.agg cs, .agg ds] H) fun r H' => r = .bool (samePm a b) ∧ Pur H H') {H : AHeap} {l m : List Pm} (hl : l.length ≤ 1000000000) (hΦ : ∀ a ∈ l, Φ a) {v w : AV} {ok ok' : Nat → Prop} (h1 : Sl kPm H ok l v) (h2 : Sl kPm H ok' m w) : W (evw P orc 42 [v, w, .func (.func 43) [] []] H) fun r H' => r = .bool (eqL samePm l m) ∧ Pur H H' := by
 refine W_of (fun _ => run42 (l.length + 1)) ?_
 have c1 := fun H' => h1.len23 H'
 have c2 := fun H' => h2.len23 H'
 have z0 : ((0 : Nat) : Int) = 0 := rfl
 by_cases hn : l.length = m.length
 ·by_cases hz : l.length = 0
  ·have hz2 : m.length = 0 := by omega
   obtain rfl := List.length_eq_zero_iff.1 hz
   obtain rfl := List.length_eq_zero_iff.1 hz2
   simp -implicitDefEqProofs (disch := first | assumption | omega | (simp only [nxB]; omega) | (simp only [oneB])) only [s42_l1, s42_j0, s42_b1, s42, xlen, AV.cells, splice, aload, astore, Nat.reduceAdd, Nat.reduceLeDiff, reduceIte, allB, c1, c2, List.length_nil, z0, bne_self_eq_false, Int.lt_irrefl, decide_false]
   exact W_some.2 ⟨rfl, .refl _⟩
  ·obtain ⟨l1, i1, k1, r1, el1, rfl, g1, w1⟩ := h1.row hz
   obtain ⟨l2, i2, k2, r2, el2, rfl, g2, w2⟩ := h2.row (by omega)
   have hns : ((l.length : Int) != (m.length : Int)) = false := by simp; omega
   have kz : kPm.esz = 4 := rfl
   rw [kz] at c1 c2 g1 g2 ⊢
   simp -implicitDefEqProofs (disch := first | assumption | omega | (simp only [nxB]; omega) | (simp only [oneB])) only [s42_j0, s42, xlen, xlen, evB, binB, c1, c2, hns]
   have := eloop42 hf (N := l.length + 1) hl hn hΦ (kc := k1) (lc := k2) l.length 0 (l.length + 1) H (by omega) (by omega) g1 g2 w1 w2
   simpa using this
 ·have hn' : ((l.length : Int) != (m.length : Int)) = true := by simp; omega
  simp -implicitDefEqProofs (disch := first | assumption | omega | (simp only [nxB]; omega) | (simp only [oneB])) only [s42_j0, s42_b1, s42, xlen, xlen, evB, binB, c1, c2, hn']
  exact W_some.2 ⟨by rw [eqL_len _ _ hn], .refl _⟩
theorem same_pm (a b : Pm) (cs ds : List AV) (H : AHeap) (ok ok' : Nat → Prop) (_ : True) (h1 : kPm.V H ok a cs) (h2 : kPm.V H ok' b ds) : W (evw P orc 43 [.agg cs, .agg ds] H) fun r H' => r = .bool (samePm a b) ∧ Pur H H' := by
 obtain rfl : cs = a.cells := h1
 obtain rfl : ds = b.cells := h2
 refine W_of (fun _ => run43 0) ?_
 have hb1 : ∀ l, boxOf l (.agg a.cells) = some (.ptr l 0 0, .row false 4 [a.cells]) := fun l => boxOf_agg l _ rfl
 have hb2 : ∀ l, boxOf l (.agg b.cells) = some (.ptr l 0 0, .row false 4 [b.cells]) := fun l => boxOf_agg l _ rfl
 have p2 := (Pur.push H (.row false 4 [a.cells])).then_push (.row false 4 [b.cells])
 unfold samePm
 simp only [Pm.cells] at hb1 hb2 p2 ⊢
 cases c0 : a.name == b.name with
 | false =>
  simp -implicitDefEqProofs (disch := first | assumption | omega | (simp only [nxB]; omega) | (simp only [oneB])) only [s43, xlen, AV.cells, splice, aload, astore, Nat.reduceAdd, Nat.reduceLeDiff, reduceIte, allB, hb1, hb2, c0]
  exact W_some.2 ⟨by simp only [Bool.false_and], p2⟩
 | true =>
  simp -implicitDefEqProofs (disch := first | assumption | omega | (simp only [nxB]; omega) | (simp only [oneB])) only [s43, xlen, AV.cells, splice, aload, astore, Nat.reduceAdd, Nat.reduceLeDiff, reduceIte, allB, hb1, hb2, c0, eq32]
  exact W_some.2 ⟨by simp only [Bool.true_and], p2⟩
theorem Sl.len22 {H : AHeap} {ok : Nat → Prop} {l : List Rc} {v : AV} (h : Sl kRc H ok l v) (H' : AHeap) : abuiltin P H' .len [22] [v] = some (.int .i64 l.length) := by
 rcases h with ⟨rfl, rfl⟩ | ⟨L, i, cap, ro, els, rfl, _⟩ | ⟨L, i, cap, rfl, rfl⟩
 ·exact ln22n
 ·exact ln22
 ·exact ln22
theorem eloop40 {Φ : Rc → Prop} (hf : ∀ (a b : Rc) (cs ds : List AV) (H : AHeap) (ok ok' : Nat → Prop), Φ a → kRc.V H ok a cs → kRc.V H ok' b ds → W (evw P orc 41 [.agg cs, .agg ds] H) fun r H' => r = .bool (sameRc a b) ∧ Pur H H') {N : Nat} {l m : List Rc} (hl : l.length ≤ 1000000000) (hm : l.length = m.length) (hΦ : ∀ a ∈ l, Φ a) {kl ki ll li : Nat} {kc lc : Option Nat} {kro lro : Bool} {kels lels : List (List AV)} {ok ok' : Nat → Prop} :
  ∀ (c j n : Nat) (H : AHeap), j + c = l.length → c < n → H.get kl = some (.row kro 3 kels) → H.get ll = some (.row lro 3 lels) → (∀ (j : Nat) (a : Rc), l[j]? = some a → ∃ cs, kels[ki + j]? = some cs ∧ kRc.V H ok a cs) → (∀ (j : Nat) (a : Rc), m[j]? = some a → ∃ cs, lels[li + j]? = some cs ∧ kRc.V H ok' a cs) →
  W (s40_l1 (evw P orc) N n (.sl ll li m.length 3 lc) (.func (.func 41) [] []) (.sl kl ki l.length 3 kc) (.int .i64 l.length) (.int .i64 j) H) fun r H' => r = .bool (eqL sameRc (l.drop j) (m.drop j)) ∧ Pur H H'
 | _, _, 0, _, _, hn, _, _, _, _ => by omega
 | 0, j, n + 1, H, hc, hn, h6, h7, e1, e2 => by
  have hj : ¬ ((j : Int) < (l.length : Int)) := by omega
  have d1 : l.drop j = [] := List.drop_eq_nil_of_le (by omega)
  have d2 : m.drop j = [] := List.drop_eq_nil_of_le (by omega)
  simp -implicitDefEqProofs (disch := first | assumption | omega | (simp only [nxB]; omega) | (simp only [oneB])) only [s40_l1, s40_j0, s40_b1, s40, xlen, evB, binB, hj, decide_false]
  exact W_some.2 ⟨by rw [d1, d2]; rfl, .refl _⟩
 | c + 1, j, n + 1, H, hc, hn, h6, h7, e1, e2 => by
  have hj1 : j < l.length := by omega
  have hj2 : j < m.length := by omega
  have hj : (j : Int) < (l.length : Int) := by omega
  have hjm : (j : Int) < (m.length : Int) := by omega
  have h0 : (0 : Int) ≤ (j : Int) := by omega
  have ht : ((j : Int)).toNat = j := by omega
  obtain ⟨cs, g1, g2⟩ := e1 j l[j] (List.getElem?_eq_getElem hj1)
  obtain ⟨ds, g4, g5⟩ := e2 j m[j] (List.getElem?_eq_getElem hj2)
  obtain ⟨q2, q3⟩ := kRc.len g2
  obtain ⟨q5, q6⟩ := kRc.len g5
  have kz : kRc.esz = 3 := rfl
  rw [kz] at q2 q5
  have tk1 : List.take 3 cs = cs := List.take_of_length_le (by omega)
  have tk2 : List.take 3 ds = ds := List.take_of_length_le (by omega)
  have l1 := AHeap.get_lt h6
  have l2 := AHeap.get_lt h7
  have hw : IntKind.i64.wrap ((j : Int) + 1) = ((j + 1 : Nat) : Int) := by rw [wrap_i64 (by omega) (by omega)]; omega
  have pa := (Pur.push H (.row false 3 [cs])).then_push (.row false 3 [ds])
  simp -implicitDefEqProofs (disch := first | assumption | omega | (simp only [nxB]; omega) | (simp only [oneB])) only [s40_l1, s40_j0, s40_b1, s40, xlen, AV.cells, splice, aload, astore, Nat.reduceAdd, Nat.reduceLeDiff, reduceIte, allB, hj, hjm, decide_true, ht, h6, h7, g1, g4, tk1, tk2, q2, q3, q5, q6, List.append_nil, xapply_fn, List.nil_append]
  refine W_call (hf l[j] m[j] _ _ _ ok ok' (hΦ _ (List.getElem_mem _)) (kRc.keep (KeepA.pur pa) g2) (kRc.keep (KeepA.pur pa) g5)) ?_
  rintro _ H2 ⟨rfl, p2⟩
  refine ⟨p2.1, ?_⟩
  have dl : l.drop j = l[j] :: l.drop (j + 1) := List.drop_eq_getElem_cons hj1
  have dm : m.drop j = m[j] :: m.drop (j + 1) := List.drop_eq_getElem_cons hj2
  cases hc' : sameRc l[j] m[j] with
  | false =>
   simp -implicitDefEqProofs (disch := first | assumption | omega | (simp only [nxB]; omega) | (simp only [oneB])) only [xlen, evB, Bool.not_false]
   exact W_some.2 ⟨by rw [dl, dm, eqL, hc', Bool.false_and], pa.trans p2⟩
  | true =>
   simp -implicitDefEqProofs (disch := first | assumption | omega | (simp only [nxB]; omega) | (simp only [oneB])) only [xlen, evB, binB, Bool.not_true, hw]
   have pp := pa.trans p2
   refine (eloop40 hf hl hm hΦ (ok := ok) (ok' := ok') c (j + 1) n H2 (by omega) (by omega) (pp.get h6) (pp.get h7) (fun i a hi => ?_) (fun i a hi => ?_)).mono ?_
   ·obtain ⟨x, y, z⟩ := e1 i a hi
    exact ⟨x, y, kRc.keep (KeepA.pur pp) z⟩
   ·obtain ⟨x, y, z⟩ := e2 i a hi
    exact ⟨x, y, kRc.keep (KeepA.pur pp) z⟩
   ·rintro v H' ⟨rfl, q⟩
    exact ⟨by rw [dl, dm, eqL, hc', Bool.true_and], pp.trans q⟩
theorem eqf40 {Φ : Rc → Prop} (hf : ∀ (a b : Rc) (cs ds : List AV) (H : AHeap) (ok ok' : Nat → Prop), Φ a → kRc.V H ok a cs → kRc.V H ok' b ds → W (evw P orc 41 [.agg cs, .agg ds] H) fun r H' => r = .bool (sameRc a b) ∧ Pur H H') {H : AHeap} {l m : List Rc} (hl : l.length ≤ 1000000000) (hΦ : ∀ a ∈ l, Φ a) {v w : AV} {ok ok' : Nat → Prop} (h1 : Sl kRc H ok l v) (h2 : Sl kRc H ok' m w) : W (evw P orc 40 [v, w, .func (.func 41) [] []] H) fun r H' => r = .bool (eqL sameRc l m) ∧ Pur H H' := by
 refine W_of (fun _ => run40 (l.length + 1)) ?_
 have c1 := fun H' => h1.len22 H'
 have c2 := fun H' => h2.len22 H'
 have z0 : ((0 : Nat) : Int) = 0 := rfl
 by_cases hn : l.length = m.length
 ·by_cases hz : l.length = 0
  ·have hz2 : m.length = 0 := by omega
   obtain rfl := List.length_eq_zero_iff.1 hz
   obtain rfl := List.length_eq_zero_iff.1 hz2
   simp -implicitDefEqProofs (disch := first | assumption | omega | (simp only [nxB]; omega) | (simp only [oneB])) only [s40_l1, s40_j0, s40_b1, s40, xlen, AV.cells, splice, aload, astore, Nat.reduceAdd, Nat.reduceLeDiff, reduceIte, allB, c1, c2, List.length_nil, z0, bne_self_eq_false, Int.lt_irrefl, decide_false]
   exact W_some.2 ⟨rfl, .refl _⟩
  ·obtain ⟨l1, i1, k1, r1, el1, rfl, g1, w1⟩ := h1.row hz
   obtain ⟨l2, i2, k2, r2, el2, rfl, g2, w2⟩ := h2.row (by omega)
   have hns : ((l.length : Int) != (m.length : Int)) = false := by simp; omega
   have kz : kRc.esz = 3 := rfl
   rw [kz] at c1 c2 g1 g2 ⊢
   simp -implicitDefEqProofs (disch := first | assumption | omega | (simp only [nxB]; omega) | (simp only [oneB])) only [s40_j0, s40, xlen, xlen, evB, binB, c1, c2, hns]
   have := eloop40 hf (N := l.length + 1) hl hn hΦ (kc := k1) (lc := k2) l.length 0 (l.length + 1) H (by omega) (by omega) g1 g2 w1 w2
   simpa using this
 ·have hn' : ((l.length : Int) != (m.length : Int)) = true := by simp; omega
  simp -implicitDefEqProofs (disch := first | assumption | omega | (simp only [nxB]; omega) | (simp only [oneB])) only [s40_j0, s40_b1, s40, xlen, xlen, evB, binB, c1, c2, hn']
  exact W_some.2 ⟨by rw [eqL_len _ _ hn], .refl _⟩
theorem same_rc (a b : Rc) (cs ds : List AV) (H : AHeap) (ok ok' : Nat → Prop) (hs : a.fields.length ≤ 1000000000) (h1 : kRc.V H ok a cs) (h2 : kRc.V H ok' b ds) : W (evw P orc 41 [.agg cs, .agg ds] H) fun r H' => r = .bool (sameRc a b) ∧ Pur H H' := by
 obtain ⟨v, rfl, w1⟩ := h1
 obtain ⟨w, rfl, w2⟩ := h2
 refine W_of (fun _ => run41 0) ?_
 have o1 := w1.one
 have o2 := w2.one
 have hb1 : ∀ l, boxOf l (.agg [.str a.name, v, .int .i64 a.pos]) = some (.ptr l 0 0, .row false 3 [[.str a.name, v, .int .i64 a.pos]]) := fun l => boxOf_agg l _ (by simp only [List.all_cons, List.all_nil, one_str, one_int, o1, Bool.and_self])
 have hb2 : ∀ l, boxOf l (.agg [.str b.name, w, .int .i64 b.pos]) = some (.ptr l 0 0, .row false 3 [[.str b.name, w, .int .i64 b.pos]]) := fun l => boxOf_agg l _ (by simp only [List.all_cons, List.all_nil, one_str, one_int, o2, Bool.and_self])
 have p2 := (Pur.push H (.row false 3 [[.str a.name, v, .int .i64 a.pos]])).then_push (.row false 3 [[.str b.name, w, .int .i64 b.pos]])
 unfold sameRc
 cases c0 : a.name == b.name with
 | false =>
  simp -implicitDefEqProofs (disch := first | assumption | omega | (simp only [nxB]; omega) | (simp only [oneB])) only [s41, xlen, AV.cells, splice, aload, astore, Nat.reduceAdd, Nat.reduceLeDiff, reduceIte, allB, hb1, hb2, c0]
  exact W_some.2 ⟨by simp only [Bool.false_and], p2⟩
 | true =>
  simp -implicitDefEqProofs (disch := first | assumption | omega | (simp only [nxB]; omega) | (simp only [oneB])) only [s41, xlen, AV.cells, splice, aload, astore, Nat.reduceAdd, Nat.reduceLeDiff, reduceIte, allB, hb1, hb2, c0]
  refine W_eff (eqf42 (Φ := fun _ => True) same_pm hs (fun _ _ => trivial) (w1.keep (KeepA.pur p2)) (w2.keep (KeepA.pur p2))) ?_
  rintro _ H2 ⟨rfl, p3⟩
  refine ⟨p3.1, ?_⟩
  simp -implicitDefEqProofs (disch := first | assumption | omega | (simp only [nxB]; omega) | (simp only [oneB])) only [xlen, evB]
  exact W_some.2 ⟨by simp only [Bool.true_and], p2.trans p3⟩
theorem Sl.len24 {H : AHeap} {ok : Nat → Prop} {l : List Fn} {v : AV} (h : Sl kFn H ok l v) (H' : AHeap) : abuiltin P H' .len [24] [v] = some (.int .i64 l.length) := by
 rcases h with ⟨rfl, rfl⟩ | ⟨L, i, cap, ro, els, rfl, _⟩ | ⟨L, i, cap, rfl, rfl⟩
 ·exact ln24n
 ·exact ln24
 ·exact ln24
theorem eloop44 {Φ : Fn → Prop} (hf : ∀ (a b : Fn) (cs ds : List AV) (H : AHeap) (ok ok' : Nat → Prop), Φ a → kFn.V H ok a cs → kFn.V H ok' b ds → W (evw P orc 45 [.agg cs, .agg ds] H) fun r H' => r = .bool (sameFn a b) ∧ Pur H H') {N : Nat} {l m : List Fn} (hl : l.length ≤ 1000000000) (hm : l.length = m.length) (hΦ : ∀ a ∈ l, Φ a) {kl ki ll li : Nat} {kc lc : Option Nat} {kro lro : Bool} {kels lels : List (List AV)} {ok ok' : Nat → Prop} :
  ∀ (c j n : Nat) (H : AHeap), j + c = l.length → c < n → H.get kl = some (.row kro 7 kels) → H.get ll = some (.row lro 7 lels) → (∀ (j : Nat) (a : Fn), l[j]? = some a → ∃ cs, kels[ki + j]? = some cs ∧ kFn.V H ok a cs) → (∀ (j : Nat) (a : Fn), m[j]? = some a → ∃ cs, lels[li + j]? = some cs ∧ kFn.V H ok' a cs) →
  W (s44_l1 (evw P orc) N n (.sl ll li m.length 7 lc) (.func (.func 45) [] []) (.sl kl ki l.length 7 kc) (.int .i64 l.length) (.int .i64 j) H) fun r H' => r = .bool (eqL sameFn (l.drop j) (m.drop j)) ∧ Pur H H'
 | _, _, 0, _, _, hn, _, _, _, _ => by omega
 | 0, j, n + 1, H, hc, hn, h6, h7, e1, e2 => by
  have hj : ¬ ((j : Int) < (l.length : Int)) := by omega
  have d1 : l.drop j = [] := List.drop_eq_nil_of_le (by omega)
  have d2 : m.drop j = [] := List.drop_eq_nil_of_le (by omega)
  simp -implicitDefEqProofs (disch := first | assumption | omega | (simp only [nxB]; omega) | (simp only [oneB])) only [s44_l1, s44_j0, s44_b1, s44, xlen, evB, binB, hj, decide_false]
  exact W_some.2 ⟨by rw [d1, d2]; rfl, .refl _⟩
 | c + 1, j, n + 1, H, hc, hn, h6, h7, e1, e2 => by
  have hj1 : j < l.length := by omega
  have hj2 : j < m.length := by omega
  have hj : (j : Int) < (l.length : Int) := by omega
  have hjm : (j : Int) < (m.length : Int) := by omega
  have h0 : (0 : Int) ≤ (j : Int) := by omega
  have ht : ((j : Int)).toNat = j := by omega
  obtain ⟨cs, g1, g2⟩ := e1 j l[j] (List.getElem?_eq_getElem hj1)
  obtain ⟨ds, g4, g5⟩ := e2 j m[j] (List.getElem?_eq_getElem hj2)
  obtain ⟨q2, q3⟩ := kFn.len g2
  obtain ⟨q5, q6⟩ := kFn.len g5
  have kz : kFn.esz = 7 := rfl
  rw [kz] at q2 q5
  have tk1 : List.take 7 cs = cs := List.take_of_length_le (by omega)
  have tk2 : List.take 7 ds = ds := List.take_of_length_le (by omega)
  have l1 := AHeap.get_lt h6
  have l2 := AHeap.get_lt h7
  have hw : IntKind.i64.wrap ((j : Int) + 1) = ((j + 1 : Nat) : Int) := by rw [wrap_i64 (by omega) (by omega)]; omega
  have pa := (Pur.push H (.row false 7 [cs])).then_push (.row false 7 [ds])
  simp -implicitDefEqProofs (disch := first | assumption | omega | (simp only [nxB]; omega) | (simp only [oneB])) only [s44_l1, s44_j0, s44_b1, s44, xlen, AV.cells, splice, aload, astore, Nat.reduceAdd, Nat.reduceLeDiff, reduceIte, allB, hj, hjm, decide_true, ht, h6, h7, g1, g4, tk1, tk2, q2, q3, q5, q6, List.append_nil, xapply_fn, List.nil_append]
  refine W_call (hf l[j] m[j] _ _ _ ok ok' (hΦ _ (List.getElem_mem _)) (kFn.keep (KeepA.pur pa) g2) (kFn.keep (KeepA.pur pa) g5)) ?_
  rintro _ H2 ⟨rfl, p2⟩
  refine ⟨p2.1, ?_⟩
  have dl : l.drop j = l[j] :: l.drop (j + 1) := List.drop_eq_getElem_cons hj1
  have dm : m.drop j = m[j] :: m.drop (j + 1) := List.drop_eq_getElem_cons hj2
  cases hc' : sameFn l[j] m[j] with
  | false =>
   simp -implicitDefEqProofs (disch := first | assumption | omega | (simp only [nxB]; omega) | (simp only [oneB])) only [xlen, evB, Bool.not_false]
   exact W_some.2 ⟨by rw [dl, dm, eqL, hc', Bool.false_and], pa.trans p2⟩
  | true =>
   simp -implicitDefEqProofs (disch := first | assumption | omega | (simp only [nxB]; omega) | (simp only [oneB])) only [xlen, evB, binB, Bool.not_true, hw]
   have pp := pa.trans p2
   refine (eloop44 hf hl hm hΦ (ok := ok) (ok' := ok') c (j + 1) n H2 (by omega) (by omega) (pp.get h6) (pp.get h7) (fun i a hi => ?_) (fun i a hi => ?_)).mono ?_
   ·obtain ⟨x, y, z⟩ := e1 i a hi
    exact ⟨x, y, kFn.keep (KeepA.pur pp) z⟩
   ·obtain ⟨x, y, z⟩ := e2 i a hi
    exact ⟨x, y, kFn.keep (KeepA.pur pp) z⟩
   ·rintro v H' ⟨rfl, q⟩
    exact ⟨by rw [dl, dm, eqL, hc', Bool.true_and], pp.trans q⟩
theorem eqf44 {Φ : Fn → Prop} (hf : ∀ (a b : Fn) (cs ds : List AV) (H : AHeap) (ok ok' : Nat → Prop), Φ a → kFn.V H ok a cs → kFn.V H ok' b ds → W (evw P orc 45 [.agg cs, .agg ds] H) fun r H' => r = .bool (sameFn a b) ∧ Pur H H') {H : AHeap} {l m : List Fn} (hl : l.length ≤ 1000000000) (hΦ : ∀ a ∈ l, Φ a) {v w : AV} {ok ok' : Nat → Prop} (h1 : Sl kFn H ok l v) (h2 : Sl kFn H ok' m w) : W (evw P orc 44 [v, w, .func (.func 45) [] []] H) fun r H' => r = .bool (eqL sameFn l m) ∧ Pur H H' := by
 refine W_of (fun _ => run44 (l.length + 1)) ?_
 have c1 := fun H' => h1.len24 H'
 have c2 := fun H' => h2.len24 H'
 have z0 : ((0 : Nat) : Int) = 0 := rfl
 by_cases hn : l.length = m.length
 ·by_cases hz : l.length = 0
  ·have hz2 : m.length = 0 := by omega
   obtain rfl := List.length_eq_zero_iff.1 hz
   obtain rfl := List.length_eq_zero_iff.1 hz2
   simp -implicitDefEqProofs (disch := first | assumption | omega | (simp only [nxB]; omega) | (simp only [oneB])) only [s44_l1, s44_j0, s44_b1, s44, xlen, AV.cells, splice, aload, astore, Nat.reduceAdd, Nat.reduceLeDiff, reduceIte, allB, c1, c2, List.length_nil, z0, bne_self_eq_false, Int.lt_irrefl, decide_false]
   exact W_some.2 ⟨rfl, .refl _⟩
  ·obtain ⟨l1, i1, k1, r1, el1, rfl, g1, w1⟩ := h1.row hz
   obtain ⟨l2, i2, k2, r2, el2, rfl, g2, w2⟩ := h2.row (by omega)
   have hns : ((l.length : Int) != (m.length : Int)) = false := by simp; omega
   have kz : kFn.esz = 7 := rfl
   rw [kz] at c1 c2 g1 g2 ⊢
   simp -implicitDefEqProofs (disch := first | assumption | omega | (simp only [nxB]; omega) | (simp only [oneB])) only [s44_j0, s44, xlen, xlen, evB, binB, c1, c2, hns]
   have := eloop44 hf (N := l.length + 1) hl hn hΦ (kc := k1) (lc := k2) l.length 0 (l.length + 1) H (by omega) (by omega) g1 g2 w1 w2
   simpa using this
 ·have hn' : ((l.length : Int) != (m.length : Int)) = true := by simp; omega
  simp -implicitDefEqProofs (disch := first | assumption | omega | (simp only [nxB]; omega) | (simp only [oneB])) only [s44_j0, s44_b1, s44, xlen, xlen, evB, binB, c1, c2, hn']
  exact W_some.2 ⟨by rw [eqL_len _ _ hn], .refl _⟩
def FnSm (a : Fn) : Prop := a.params.length ≤ 1000000000 ∧ a.body.length ≤ 1000000000 ∧ SmMs 1000000000 a.body
theorem same_fn (a b : Fn) (cs ds : List AV) (H : AHeap) (ok ok' : Nat → Prop) (hs : FnSm a) (h1 : kFn.V H ok a cs) (h2 : kFn.V H ok' b ds) : W (evw P orc 45 [.agg cs, .agg ds] H) fun r H' => r = .bool (sameFn a b) ∧ Pur H H' := by
 obtain ⟨v, bv, rfl, w1, w3⟩ := h1
 obtain ⟨w, bw, rfl, w2, w4⟩ := h2
 refine W_of (fun _ => run45 0) ?_
 have o1 := w1.one
 have o2 := w2.one
 have o3 := w3.oneAV
 have o4 := w4.oneAV
 have hb1 : ∀ l, boxOf l (.agg [.str a.name, v, .bool a.has, .str a.rn, .int .i64 a.rd, bv, .int .i64 a.pos]) = some (.ptr l 0 0, .row false 7 [[.str a.name, v, .bool a.has, .str a.rn, .int .i64 a.rd, bv, .int .i64 a.pos]]) := fun l => boxOf_agg l _ (by simp only [List.all_cons, List.all_nil, one_str, one_int, one_bool, o1, o3, Bool.and_self])
 have hb2 : ∀ l, boxOf l (.agg [.str b.name, w, .bool b.has, .str b.rn, .int .i64 b.rd, bw, .int .i64 b.pos]) = some (.ptr l 0 0, .row false 7 [[.str b.name, w, .bool b.has, .str b.rn, .int .i64 b.rd, bw, .int .i64 b.pos]]) := fun l => boxOf_agg l _ (by simp only [List.all_cons, List.all_nil, one_str, one_int, one_bool, o2, o4, Bool.and_self])
 have p2 := (Pur.push H (.row false 7 [[.str a.name, v, .bool a.has, .str a.rn, .int .i64 a.rd, bv, .int .i64 a.pos]])).then_push (.row false 7 [[.str b.name, w, .bool b.has, .str b.rn, .int .i64 b.rd, bw, .int .i64 b.pos]])
 have ga := (Pur.push (H.push (.row false 7 [[.str a.name, v, .bool a.has, .str a.rn, .int .i64 a.rd, bv, .int .i64 a.pos]])) (.row false 7 [[.str b.name, w, .bool b.has, .str b.rn, .int .i64 b.rd, bw, .int .i64 b.pos]])).get (AHeap.get_push_same H (.row false 7 [[.str a.name, v, .bool a.has, .str a.rn, .int .i64 a.rd, bv, .int .i64 a.pos]]))
 have gb := AHeap.get_push_same (H.push (.row false 7 [[.str a.name, v, .bool a.has, .str a.rn, .int .i64 a.rd, bv, .int .i64 a.pos]])) (.row false 7 [[.str b.name, w, .bool b.has, .str b.rn, .int .i64 b.rd, bw, .int .i64 b.pos]])
 simp only [AHeap.next_push] at gb
 unfold sameFn
 cases c0 : a.name == b.name with
 | false =>
  simp -implicitDefEqProofs (disch := first | assumption | omega | (simp only [nxB]; omega) | (simp only [oneB])) only [s45, xlen, AV.cells, splice, aload, astore, Nat.reduceAdd, Nat.reduceLeDiff, reduceIte, allB, hb1, hb2, c0]
  exact W_some.2 ⟨by simp only [Bool.false_and], p2⟩
 | true =>
  simp -implicitDefEqProofs (disch := first | assumption | omega | (simp only [nxB]; omega) | (simp only [oneB])) only [s45, xlen, AV.cells, splice, aload, astore, Nat.reduceAdd, Nat.reduceLeDiff, reduceIte, allB, hb1, hb2, c0]
  refine W_eff (eqf42 (Φ := fun _ => True) same_pm hs.1 (fun _ _ => trivial) (w1.keep (KeepA.pur p2)) (w2.keep (KeepA.pur p2))) ?_
  rintro _ H2 ⟨rfl, p3⟩
  refine ⟨p3.1, ?_⟩
  have ga2 := p3.get ga
  have gb2 := p3.get gb
  have p23 := p2.trans p3
  cases c1 : eqL samePm a.params b.params with
  | false =>
   simp -implicitDefEqProofs (disch := first | assumption | omega | (simp only [nxB]; omega) | (simp only [oneB])) only [xlen, evB]
   exact W_some.2 ⟨by simp only [Bool.false_and, Bool.and_false], p23⟩
  | true =>
  cases c2 : a.has == b.has with
  | false =>
   simp -implicitDefEqProofs (disch := first | assumption | omega | (simp only [nxB]; omega) | (simp only [oneB])) only [xlen, AV.cells, splice, aload, astore, Nat.reduceAdd, Nat.reduceLeDiff, reduceIte, allB, ga2, gb2, c2]
   exact W_some.2 ⟨by simp only [Bool.false_and, Bool.and_false], p23⟩
  | true =>
  cases c3 : (a.rn == b.rn && a.rd == b.rd) with
  | false =>
   simp -implicitDefEqProofs (disch := first | assumption | omega | (simp only [nxB]; omega) | (simp only [oneB])) only [xlen, AV.cells, splice, aload, astore, Nat.reduceAdd, Nat.reduceLeDiff, reduceIte, allB, ga2, gb2, c2, eq32, c3]
   exact W_some.2 ⟨by simp only [Bool.false_and, Bool.and_false], p23⟩
  | true =>
   simp -implicitDefEqProofs (disch := first | assumption | omega | (simp only [nxB]; omega) | (simp only [oneB])) only [xlen, AV.cells, splice, aload, astore, Nat.reduceAdd, Nat.reduceLeDiff, reduceIte, allB, ga2, gb2, c2, eq32, c3]
   refine W_eff (list51 (B := 1000000000) (by decide) (fun e _ => specM30 (by decide) e) hs.2 (w3.pur p23) (w4.pur p23)) ?_
   rintro _ H4 ⟨rfl, p4⟩
   refine ⟨p4.1, ?_⟩
   simp -implicitDefEqProofs (disch := first | assumption | omega | (simp only [nxB]; omega) | (simp only [oneB])) only [xlen, evB]
   exact W_some.2 ⟨by simp only [Bool.true_and], p23.trans p4⟩
structure PgSm (g : Pg) : Prop where
 r : g.recs.length ≤ 1000000000 ∧ ∀ a ∈ g.recs, a.fields.length ≤ 1000000000
 gl : g.globals.length ≤ 1000000000
 f : g.funcs.length ≤ 1000000000 ∧ ∀ a ∈ g.funcs, FnSm a
theorem psame_spec {g g' : Pg} (hs : PgSm g) {H : AHeap} {ok ok' : Nat → Prop} {rv gv fv rw gw fw : AV} (h1 : Sl kRc H ok g.recs rv) (h2 : Sl kPm H ok g.globals gv) (h3 : Sl kFn H ok g.funcs fv) (k1 : Sl kRc H ok' g'.recs rw) (k2 : Sl kPm H ok' g'.globals gw) (k3 : Sl kFn H ok' g'.funcs fw) :
  W (evw P orc 14 [.agg [rv, gv, fv], .agg [rw, gw, fw]] H) fun r H' => r = .bool (samePg g g') ∧ Pur H H' := by
 refine W_of (fun _ => run14 0) ?_
 have o1 := h1.one
 have o2 := h2.one
 have o3 := h3.one
 have q1 := k1.one
 have q2 := k2.one
 have q3 := k3.one
 have hb1 : ∀ l, boxOf l (.agg [rv, gv, fv]) = some (.ptr l 0 0, .row false 3 [[rv, gv, fv]]) := fun l => boxOf_agg l _ (by simp only [List.all_cons, List.all_nil, o1, o2, o3, Bool.and_self])
 have hb2 : ∀ l, boxOf l (.agg [rw, gw, fw]) = some (.ptr l 0 0, .row false 3 [[rw, gw, fw]]) := fun l => boxOf_agg l _ (by simp only [List.all_cons, List.all_nil, q1, q2, q3, Bool.and_self])
 have p2 := (Pur.push H (.row false 3 [[rv, gv, fv]])).then_push (.row false 3 [[rw, gw, fw]])
 have ga := (Pur.push (H.push (.row false 3 [[rv, gv, fv]])) (.row false 3 [[rw, gw, fw]])).get (AHeap.get_push_same H (.row false 3 [[rv, gv, fv]]))
 have gb := AHeap.get_push_same (H.push (.row false 3 [[rv, gv, fv]])) (.row false 3 [[rw, gw, fw]])
 simp only [AHeap.next_push] at gb
 unfold samePg
 simp -implicitDefEqProofs (disch := first | assumption | omega | (simp only [nxB]; omega) | (simp only [oneB])) only [s14, xlen, AV.cells, splice, aload, astore, Nat.reduceAdd, Nat.reduceLeDiff, reduceIte, allB, hb1, hb2]
 refine W_call (eqf40 (Φ := fun a => a.fields.length ≤ 1000000000) same_rc hs.r.1 hs.r.2 (h1.keep (KeepA.pur p2)) (k1.keep (KeepA.pur p2))) ?_
 rintro _ H2 ⟨rfl, p3⟩
 refine ⟨p3.1, ?_⟩
 have ga2 := p3.get ga
 have gb2 := p3.get gb
 have p23 := p2.trans p3
 cases c1 : eqL sameRc g.recs g'.recs with
 | false =>
  simp -implicitDefEqProofs (disch := first | assumption | omega | (simp only [nxB]; omega) | (simp only [oneB])) only [xlen, evB]
  exact W_some.2 ⟨by simp only [Bool.false_and], p23⟩
 | true =>
  simp -implicitDefEqProofs (disch := first | assumption | omega | (simp only [nxB]; omega) | (simp only [oneB])) only [xlen, AV.cells, splice, aload, astore, Nat.reduceAdd, Nat.reduceLeDiff, reduceIte, allB, ga2, gb2]
  refine W_eff (eqf42 (Φ := fun _ => True) same_pm hs.gl (fun _ _ => trivial) (h2.keep (KeepA.pur p23)) (k2.keep (KeepA.pur p23))) ?_
  rintro _ H4 ⟨rfl, p4⟩
  refine ⟨p4.1, ?_⟩
  have ga4 := p4.get ga2
  have gb4 := p4.get gb2
  have p24 := p23.trans p4
  cases c2 : eqL samePm g.globals g'.globals with
  | false =>
   simp -implicitDefEqProofs (disch := first | assumption | omega | (simp only [nxB]; omega) | (simp only [oneB])) only [xlen, evB]
   exact W_some.2 ⟨by simp only [Bool.false_and, Bool.and_false], p24⟩
  | true =>
   simp -implicitDefEqProofs (disch := first | assumption | omega | (simp only [nxB]; omega) | (simp only [oneB])) only [xlen, AV.cells, splice, aload, astore, Nat.reduceAdd, Nat.reduceLeDiff, reduceIte, allB, ga4, gb4]
   refine W_eff (eqf44 (Φ := FnSm) same_fn hs.f.1 hs.f.2 (h3.keep (KeepA.pur p24)) (k3.keep (KeepA.pur p24))) ?_
   rintro _ H5 ⟨rfl, p5⟩
   refine ⟨p5.1, ?_⟩
   simp -implicitDefEqProofs (disch := first | assumption | omega | (simp only [nxB]; omega) | (simp only [oneB])) only [xlen, evB]
   exact W_some.2 ⟨by simp only [Bool.true_and], p24.trans p5⟩
end Go.Proofs.YtghmbpmaafnodaaGreatDoor

namespace Go.Proofs.YtghmbpmaafnodaaGreatDoor
open Go.Ev
theorem smE (T : List Tok) (s : St) : Sm 1000000000 (exprP T s).1 := by
 unfold exprP
 split
 ·exact Sm.leaf _
 ·split
  ·rename_i e s' h
   split
   ·exact (sm_all T 1000000000 800000000 (by omega)).row _ _ (e, s') h
   ·exact Sm.leaf _
  ·exact Sm.leaf _
theorem SmMs.append {B : Nat} {e : Stm} (h : SmM B e) : ∀ {l : List Stm}, SmMs B l → SmMs B (l ++ [e])
 | [], _ => by rw [List.nil_append, SmMs, SmMs]; exact ⟨h, trivial⟩
 | x :: xs, hl => by
  rw [SmMs] at hl
  rw [List.cons_append, SmMs]
  exact ⟨hl.1, SmMs.append h hl.2⟩
theorem smM1 (a : Sa) {e : Ex} (h : Sm 1000000000 e) : SmM 1000000000 (.mk a [e] [] []) := by
 rw [SmM, SmL, SmL, SmMs]; exact ⟨⟨by simp, h, trivial⟩, ⟨by simp, trivial⟩, ⟨by simp, trivial⟩⟩
theorem smM0 (a : Sa) : SmM 1000000000 (.mk a [] [] []) := by
 rw [SmM, SmL, SmMs]; exact ⟨⟨by simp, trivial⟩, ⟨by simp, trivial⟩, ⟨by simp, trivial⟩⟩
theorem smMat {e : Stm} (p : Int) (h : SmM 1000000000 e) : SmM 1000000000 (e.at p) := by
 cases e; rw [Stm.at, SmM]; rw [SmM] at h; exact h
structure SmK (T : List Tok) (n : Nat) : Prop where
 stmt : ∀ s x, stmtF T n s = some x → SmM 1000000000 x.1
 block : ∀ s x, blockF T n s = some x → x.1.length ≤ 1000000000 ∧ SmMs 1000000000 x.1
 loop : ∀ l s x, untilF T n l s = some x → l.length + n ≤ 1000000000 → SmMs 1000000000 l → x.1.length ≤ 1000000000 ∧ SmMs 1000000000 x.1
 choose : ∀ s x, chooseF T n s = some x → SmM 1000000000 x.1
 rep : ∀ s x, repeatF T n s = some x → SmM 1000000000 x.1
theorem smK (T : List Tok) : ∀ n, n + 2 ≤ 1000000000 → SmK T n
 | 0, _ => ⟨fun _ _ h => (by cases h), fun _ _ h => (by cases h), fun _ _ _ h => (by cases h), fun _ _ h => (by cases h), fun _ _ h => (by cases h)⟩
 | n + 1, hn => by
  have ih := smK T n (by omega)
  refine ⟨fun s x h => ?_, fun s x h => ?_, fun l s x h hl hs => ?_, fun s x h => ?_, fun s x h => ?_⟩
  ·rw [stmtF] at h
   obtain ⟨p, h1, h2⟩ := bindS h
   cases h2
   refine smMat _ ?_
   have hplain : SmM 1000000000 (plainS T s).1 := by
    unfold plainS
    cases isB T (exprP T s).2 4 [61] with
    | false => exact smM1 _ (smE _ _)
    | true =>
     simp only [cond_true, setsS]
     cases (exprP T s).1.kind == 4 with
     | true => exact smM1 _ (smE _ _)
     | false =>
      simp only [cond_false]
      rw [SmM, SmL, SmL, SmL, SmMs]
      exact ⟨⟨by simp, smE _ _, smE _ _, trivial⟩, ⟨by simp, trivial⟩, ⟨by simp, trivial⟩⟩
   revert h1
   cases (tokAt T s.at_).kind == 3 with
   | false => intro h1; cases h1; exact hplain
   | true =>
    simp only [cond_true]
    cases (tokAt T s.at_).text == [118, 97, 114] with
    | true => intro h1; cases h1; exact smM0 _
    | false =>
    simp only [cond_false]
    cases (tokAt T s.at_).text == [108, 101, 116] with
    | true => intro h1; cases h1; exact smM1 _ (smE _ _)
    | false =>
    simp only [cond_false]
    cases (tokAt T s.at_).text == [105, 102] with
    | true => exact fun h1 => ih.choose _ _ h1
    | false =>
    simp only [cond_false]
    cases (tokAt T s.at_).text == [119, 104, 105, 108, 101] with
    | true => exact fun h1 => ih.rep _ _ h1
    | false =>
    simp only [cond_false]
    cases (tokAt T s.at_).text == [114, 101, 116, 117, 114, 110] with
    | true =>
     intro h1; cases h1
     unfold retsS
     cases isB T (goS s) 4 [59] with
     | true => exact smM0 _
     | false => exact smM1 _ (smE _ _)
    | false =>
    simp only [cond_false]
    cases (tokAt T s.at_).text == [112, 114, 105, 110, 116] with
    | true => intro h1; cases h1; exact smM1 _ (smE _ _)
    | false => intro h1; cases h1; exact hplain
  ·rw [blockF] at h
   have h0 : ∀ {l : List Stm}, l = [] → l.length ≤ 1000000000 ∧ SmMs 1000000000 l := fun {l} h => by rw [h, SmMs]; exact ⟨by simp, trivial⟩
   revert h
   cases isB T s 4 [123] with
   | false => intro h; cases h; exact h0 rfl
   | true =>
    simp only [cond_true]
    split
    ·intro h; cases h; exact h0 rfl
    ·intro h
     obtain ⟨p, h1, h2⟩ := bindS h
     cases h2
     exact ih.loop [] _ p h1 (by simp; omega) (by rw [SmMs]; trivial)
  ·rw [untilF] at h
   revert h
   cases (s.fe == 0 && !isB T s 4 [125]) with
   | false => intro h; cases h; exact ⟨by show l.length ≤ 1000000000; omega, hs⟩
   | true =>
    intro h
    obtain ⟨p, h1, h2⟩ := bindS h
    exact ih.loop _ _ _ h2 (by simp; omega) (SmMs.append (ih.stmt _ _ h1) hs)
  ·rw [chooseF] at h
   obtain ⟨p, h1, h2⟩ := bindS h
   obtain ⟨b1, b2⟩ := ih.block _ _ h1
   revert h2
   cases isB T p.2 3 [101, 108, 115, 101] with
   | false =>
    intro h2; cases h2
    rw [SmM, SmL, SmL]
    exact ⟨⟨by simp, smE _ _, trivial⟩, ⟨b1, b2⟩, ⟨by simp, by rw [SmMs]; trivial⟩⟩
   | true =>
    intro h2
    obtain ⟨q, h3, h4⟩ := bindS h2
    cases h4
    rw [SmM, SmL, SmL]
    exact ⟨⟨by simp, smE _ _, trivial⟩, ⟨b1, b2⟩, ih.block _ _ h3⟩
  ·rw [repeatF] at h
   obtain ⟨p, h1, h2⟩ := bindS h
   cases h2
   obtain ⟨b1, b2⟩ := ih.block _ _ h1
   rw [SmM, SmL, SmL]
   exact ⟨⟨by simp, smE _ _, trivial⟩, ⟨b1, b2⟩, ⟨by simp, by rw [SmMs]; trivial⟩⟩
end Go.Proofs.YtghmbpmaafnodaaGreatDoor

namespace Go.Proofs.YtghmbpmaafnodaaGreatDoor
open Go.Ev
set_option maxRecDepth 100000
noncomputable section
def s12 (G : CallT) (H : AHeap) : O :=
 xcall H (G 8 [(.str [114, 101, 99, 111, 114, 100, 32, 82, 32, 123, 32, 97, 58, 32, 105, 110, 116, 59, 32, 125, 32, 102, 117, 110, 99, 32, 109, 97, 105, 110, 40, 41, 32, 123, 32, 112, 114, 105, 110, 116, 32, 49, 59, 32, 125, 32, 103, 108, 111, 98, 97, 108, 32, 103, 58, 32, 91, 82, 93, 59])] H) fun x4 h1 =>
 xb (aextract x4 0) fun x5 =>
 xb (aextract x4 1) fun x6 =>
 xalloc h1 [AV.nilSl, AV.nilSl, AV.nilSl] fun x1 h2 =>
 xalloc h2 [(.int .i64 0), (.int .i64 0)] fun x2 h3 =>
 xstore h3 (astore P h3 26 x1 x5) fun h4 =>
 xstore h4 (astore P h4 29 x2 x6) fun h5 =>
 xb (afieldAddr P 29 x2 0) fun x7 =>
 xb (aload P h5 27 x7) fun x8 =>
 xb (fbin P .eql 27 true x8 (.int .i64 0)) fun x9 =>
 xg x9 true h5 (qp (afieldAddr P 26 x1 0)) fun x11 h6 =>
 xg x9 true h6 (qr (aload P h6 22 x11)) fun x12 h7 =>
 xg x9 true h7 (fun q => xboth (abuiltin P .empty .len [22] [x12]) (abuiltin P h7 .len [22] [x12]) q) fun x13 h8 =>
 xg x9 true h8 (qp (fbin P .eql 3 true x13 (.int .i64 1))) fun x14 h9 =>
 xb (pickOf x9 (some x14) (some (.bool false))) fun x15 =>
 xg x15 true h9 (qp (afieldAddr P 26 x1 1)) fun x17 h10 =>
 xg x15 true h10 (qr (aload P h10 23 x17)) fun x18 h11 =>
 xg x15 true h11 (fun q => xboth (abuiltin P .empty .len [23] [x18]) (abuiltin P h11 .len [23] [x18]) q) fun x19 h12 =>
 xg x15 true h12 (qp (fbin P .eql 3 true x19 (.int .i64 1))) fun x20 h13 =>
 xb (pickOf x15 (some x20) (some (.bool false))) fun x21 =>
 xg x21 true h13 (qp (afieldAddr P 26 x1 2)) fun x23 h14 =>
 xg x21 true h14 (qr (aload P h14 24 x23)) fun x24 h15 =>
 xg x21 true h15 (fun q => xboth (abuiltin P .empty .len [24] [x24]) (abuiltin P h15 .len [24] [x24]) q) fun x25 h16 =>
 xg x21 true h16 (qp (fbin P .eql 3 true x25 (.int .i64 1))) fun x26 h17 =>
 xb (pickOf x21 (some x26) (some (.bool false))) fun x27 =>
 xg x27 true h17 (qp (afieldAddr P 26 x1 1)) fun x29 h18 =>
 xg x27 true h18 (qr (aload P h18 23 x29)) fun x30 h19 =>
 xg x27 true h19 (qp (aindexAddr P 23 x30 (.int .i64 0))) fun x31 h20 =>
 xg x27 true h20 (qp (afieldAddr P 66 x31 1)) fun x32 h21 =>
 xg x27 true h21 (qp (afieldAddr P 43 x32 1)) fun x33 h22 =>
 xg x27 true h22 (qr (aload P h22 3 x33)) fun x34 h23 =>
 xg x27 true h23 (qp (fbin P .eql 3 true x34 (.int .i64 1))) fun x35 h24 =>
 xb (pickOf x27 (some x35) (some (.bool false))) fun x36 =>
 xg x36 true h24 (qp (afieldAddr P 26 x1 0)) fun x38 h25 =>
 xg x36 true h25 (qr (aload P h25 22 x38)) fun x39 h26 =>
 xg x36 true h26 (qp (aindexAddr P 22 x39 (.int .i64 0))) fun x40 h27 =>
 xg x36 true h27 (qp (afieldAddr P 41 x40 2)) fun x41 h28 =>
 xg x36 true h28 (qr (aload P h28 3 x41)) fun x42 h29 =>
 xg x36 true h29 (qp (fbin P .eql 3 true x42 (.int .i64 7))) fun x43 h30 =>
 xb (pickOf x36 (some x43) (some (.bool false))) fun x44 =>
 xg x44 true h30 (qr (aload P h30 26 x1)) fun x46 h31 =>
 xg x44 true h31 (qr (aload P h31 26 x1)) fun x47 h32 =>
 xg x44 true h32 (fun q => xeff h32 (G 14 [x46, x47] h32) q) fun x48 h33 =>
 xb (pickOf x44 (some x48) (some (.bool false))) fun x49 =>
 xg x49 true h33 (qr (aload P h33 26 x1)) fun x51 h34 =>
 xg x49 true h34 (qv (.agg [AV.nilSl, AV.nilSl, AV.nilSl])) fun x52 h35 =>
 xg x49 true h35 (fun q => xeff h35 (G 14 [x51, x52] h35) q) fun x53 h36 =>
 xg x49 true h36 (qp (aun .not x53)) fun x54 h37 =>
 xb (pickOf x49 (some x54) (some (.bool false))) fun x55 =>
 some (x55, h37)
theorem s12_eq (G : CallT) (N : Nat) (H : AHeap) : cF Tryz.f12 G N (argsF []) H = s12 G H := by
 refine via_top (A := cF Tryz.f12 G N) (via_leaf _) ?_
 delta s12
 kernel_rfl
theorem run12 (N : Nat) {H : AHeap} {r : AV × AHeap} (h : s12 (evw P orc) H = some r) : evw P orc 12 [] H = some r :=
 runF (by kernel_rfl) Tryz.func12 (by kernel_rfl) (by kernel_rfl) (by kernel_rfl) ((s12_eq (evw P orc) N H).trans h)
end
end Go.Proofs.YtghmbpmaafnodaaGreatDoor
namespace Go.Proofs.YtghmbpmaafnodaaGreatDoor
open Go.Ev
section
variable {T : List Tok}
theorem fields_len : ∀ (n : Nat) (l : List Pm) (s : St) (p : List Pm × St), fieldsP T n l s = some p → p.1.length ≤ l.length + n
 | 0, _, _, _, h => by cases h
 | n + 1, l, s, p, h => by
  rw [fieldsP] at h
  cases hc : (s.fe == 0 && !isB T s 4 [125]) with
  | true =>
   rw [hc, cond_true] at h
   have := fields_len n _ _ _ h
   simp only [List.length_append, List.length_cons, List.length_nil] at this
   omega
  | false => rw [hc, cond_false] at h; cases h; simp
theorem params_len : ∀ (n : Nat) (l : List Pm) (s : St) (p : List Pm × St), paramsP T n l s = some p → p.1.length ≤ l.length + n
 | 0, _, _, _, h => by cases h
 | n + 1, l, s, p, h => by
  rw [paramsP] at h
  cases hc : (takesS T 4 [44] s).1 with
  | true =>
   rw [hc, cond_true] at h
   have := params_len n _ _ _ h
   simp only [paramP, List.length_append, List.length_cons, List.length_nil] at this
   omega
  | false => rw [hc, cond_false] at h; cases h; simp
theorem parseB_sm {l : List Stm} {s : St} {st : St} (h : blockF T 800000000 st = some (l, s)) : (parseB l s).1.length ≤ 1000000000 ∧ SmMs 1000000000 (parseB l s).1 := by
 unfold parseB
 split
 ·exact (smK T 800000000 (by omega)).block _ _ h
 ·rw [SmMs]; exact ⟨by simp, trivial⟩
theorem blockP_sm (s : St) : (blockP T s).1.length ≤ 1000000000 ∧ SmMs 1000000000 (blockP T s).1 := by
 unfold blockP
 split
 ·rename_i p hp
  exact parseB_sm hp
 ·rw [SmMs]; exact ⟨by simp, trivial⟩
theorem prog_sm {M : Nat} (hM : M ≤ 800000000) : ∀ (n : Nat) (g : Pg) (s : St) (p : Pg × St), PgSm g → g.recs.length + n ≤ 1000000000 → g.globals.length + n ≤ 1000000000 → g.funcs.length + n ≤ 1000000000 → progPL T M n g s = some p → PgSm p.1
 | 0, _, _, _, _, _, _, _, h => by cases h
 | n + 1, g, s, p, hg, h1, h2, h3, h => by
  rw [progPL] at h
  cases hc : (s.fe == 0 && (tokAt T s.at_).kind != 0) with
  | false => rw [hc, cond_false] at h; cases h; exact hg
  | true =>
   rw [hc, cond_true] at h
   cases c1 : isB T s 3 [114, 101, 99, 111, 114, 100] with
   | true =>
    rw [c1, cond_true] at h
    obtain ⟨⟨g2, s2⟩, e1, e2⟩ := bindS h
    have hl := rec_len e1
    obtain ⟨q, f1, f2⟩ := bindS e1
    have hq := fields_len _ _ _ _ f1
    simp only [List.length_nil] at hq
    simp only [Option.some.injEq, Prod.mk.injEq] at f2
    obtain ⟨rfl, rfl⟩ := f2
    simp only at hl
    refine prog_sm hM n _ _ p ?_ ?_ ?_ ?_ e2
    ·refine ⟨⟨by simp; omega, fun a ha => ?_⟩, hg.gl, hg.f⟩
     rcases List.mem_append.1 ha with ha | ha
     ·exact hg.r.2 a ha
     ·simp only [List.mem_cons, List.not_mem_nil, or_false] at ha
      rw [ha]
      show q.1.length ≤ _
      omega
    ·simp; omega
    ·simp only; omega
    ·simp only; omega
   | false =>
    rw [c1, cond_false] at h
    cases c2 : isB T s 3 [103, 108, 111, 98, 97, 108] with
    | true =>
     rw [c2, cond_true] at h
     refine prog_sm hM n _ _ p ?_ ?_ ?_ ?_ h
     ·exact ⟨hg.r, by simp only [globalP, List.length_append, List.length_cons, List.length_nil]; omega, hg.f⟩
     ·simp only [globalP]; omega
     ·simp only [globalP, List.length_append, List.length_cons, List.length_nil]; omega
     ·simp only [globalP]; omega
    | false =>
     rw [c2, cond_false] at h
     cases c3 : isB T s 3 [102, 117, 110, 99] with
     | true =>
      rw [c3, cond_true] at h
      obtain ⟨⟨g2, s2⟩, e1, e2⟩ := bindS h
      have hl := fun_len e1
      obtain ⟨q, f1, f2⟩ := bindS e1
      have hq : q.1.length ≤ M + 1 := by
       unfold fnParams at f1
       revert f1
       cases isB T (wantsS T [40] (nameP T (goS (moreS T true g.funcs.length 16 s))).2).2 4 [41] with
       | true => intro f1; rw [cond_true] at f1; cases f1; simp
       | false =>
        intro f1
        rw [cond_false] at f1
        have := params_len _ _ _ _ f1
        simp only [paramP, List.nil_append, List.length_cons, List.length_nil] at this
        omega
      simp only [Option.some.injEq] at f2
      have ga := congrArg Prod.fst f2
      refine prog_sm hM n g2 s2 p ?_ (by omega) (by omega) (by omega) e2
      simp only at ga
      rw [← ga]
      unfold fnEnd
      split
      ·exact hg
      ·refine ⟨hg.r, hg.gl, by simp; omega, fun a ha => ?_⟩
       rcases List.mem_append.1 ha with ha | ha
       ·exact hg.f.2 a ha
       ·simp only [List.mem_cons, List.not_mem_nil, or_false] at ha
        rw [ha]
        exact ⟨by show q.1.length ≤ _; omega, blockP_sm _⟩
     | false =>
      rw [c3, cond_false] at h
      exact prog_sm hM n g _ p hg (by omega) (by omega) (by omega) h
theorem pgSm_none : PgSm .none := ⟨⟨by simp [Pg.none], fun a ha => by cases ha⟩, by simp [Pg.none], by simp [Pg.none], fun a ha => by cases ha⟩
end
theorem samePm_refl (a : Pm) : samePm a a = true := by simp [samePm]
theorem sameRc_refl (a : Rc) : sameRc a a = true := by simp [sameRc, eqL_refl samePm_refl]
theorem sameFn_refl (a : Fn) : sameFn a a = true := by simp [sameFn, eqL_refl samePm_refl, sameMs_refl]
theorem samePg_refl (g : Pg) : samePg g g = true := by simp [samePg, eqL_refl sameRc_refl, eqL_refl samePm_refl, eqL_refl sameFn_refl]
def knownT : Bs := [114, 101, 99, 111, 114, 100, 32, 82, 32, 123, 32, 97, 58, 32, 105, 110, 116, 59, 32, 125, 32, 102, 117, 110, 99, 32, 109, 97, 105, 110, 40, 41, 32, 123, 32, 112, 114, 105, 110, 116, 32, 49, 59, 32, 125, 32, 103, 108, 111, 98, 97, 108, 32, 103, 58, 32, 91, 82, 93, 59]
def kOk : Bool := (tokensS knownT).2.1 == 0 && (match progPL (tokensS knownT).1 800000000 800000000 .none ⟨0, 0, 0, 0⟩ with
 | some (g, s) => s.fe == 0 && (g.recs.length == 1 && (g.globals.length == 1 && (g.funcs.length == 1 && ((g.recs.all fun x => x.pos == 7) && (g.globals.all fun x => x.ofd == 1)))))
 | none => false)
set_option maxRecDepth 100000 in
theorem kOk_true : kOk = true := by decide +kernel
theorem one_of {α : Type} {l : List α} (h : l.length = 1) : ∃ a, l = [a] := by
 rcases l with _ | ⟨a, _ | ⟨b, l⟩⟩
 ·cases h
 ·exact ⟨a, rfl⟩
 ·simp at h
theorem known_spec {H : AHeap} (hg : Lp.Gl H) : W (evw P orc 12 [] H) fun v H' => v = .bool true ∧ Pur H H' := by
 refine W_of (fun _ => run12 0) ?_
 have hk := kOk_true
 unfold kOk at hk
 simp only [Bool.and_eq_true, beq_iff_eq] at hk
 obtain ⟨hf, hk⟩ := hk
 split at hk
 ·rename_i g s hp
  simp only [Bool.and_eq_true, beq_iff_eq] at hk
  obtain ⟨h0, h1, h2, h3, h4, h5⟩ := hk
  have hsm := prog_sm (Nat.le_refl _) 800000000 .none _ _ pgSm_none (by decide) (by decide) (by decide) hp
  simp only at hsm
  rw [s12]
  refine W_call (pParse_spec hg knownT (M := 800000000) (n := 800000000) (Nat.le_refl _) (Nat.le_refl _) (fun _ => hp)) ?_
  rintro _ H1 ⟨rv, gv, fv, rfl, r1, r2, r3, p1⟩
  refine ⟨p1.1, ?_⟩
  have ev : progV knownT g s = (g, 0, 0) := by unfold progV progE; rw [if_pos hf, if_pos h0]
  rw [ev] at r1 r2 r3 ⊢
  simp only at r1 r2 r3 ⊢
  have c1 := fun H' => r1.len22 H'
  have c2 := fun H' => r2.len23 H'
  have c3 := fun H' => r3.len24 H'
  rw [h1] at c1
  rw [h2] at c2
  rw [h3] at c3
  have o1 := r1.one
  have o2 := r2.one
  have o3 := r3.one
  have p2 := (p1.then_push (.row false 3 [[rv, gv, fv]])).then_push (.row false 2 [[.int .i64 0, .int .i64 0]])
  have q2 := (Pur.push H1 (.row false 3 [[rv, gv, fv]])).then_push (.row false 2 [[.int .i64 0, .int .i64 0]])
  have e1 : (((1 : Nat) : Int) == 1) = true := rfl
  have e0 : ((0 : Int) == 0) = true := rfl
  obtain ⟨a, ha⟩ := one_of h2
  obtain ⟨b, hb⟩ := one_of h1
  rw [ha] at h5
  rw [hb] at h4
  simp only [List.all_cons, List.all_nil, Bool.and_true, beq_iff_eq] at h4 h5
  obtain ⟨L1, i1, cap1, ro1, els1, y1, y2, y3⟩ := r2.row (by omega)
  obtain ⟨L2, i2, cap2, ro2, els2, z1, z2, z3⟩ := r1.row (by omega)
  obtain ⟨cs1, w1, w2⟩ := y3 0 a (by rw [ha]; rfl)
  obtain ⟨cs2, x1, v2, rfl, -⟩ := z3 0 b (by rw [hb]; rfl)
  obtain rfl : cs1 = a.cells := w2
  have kz4 : kPm.esz = 4 := rfl
  have kz3 : kRc.esz = 3 := rfl
  rw [h2, kz4] at y1
  rw [h1, kz3] at z1
  rw [kz4] at y2
  rw [kz3] at z2
  simp only [Pm.cells, h5, Nat.add_zero] at w1
  rw [h4, Nat.add_zero] at x1
  have lL1 := AHeap.get_lt y2
  have lL2 := AHeap.get_lt z2
  have ht0 : ((0 : Int)).toNat = 0 := rfl
  have hle : (0 : Int) ≤ 0 := Int.le_refl _
  have hlt : (0 : Int) < ((1 : Nat) : Int) := by decide
  have ix1 : aindexAddr P 23 gv (.int .i64 0) = some (.ptr L1 i1 0) := by rw [y1]; exact ia23 hle hlt
  have ix2 : aindexAddr P 22 rv (.int .i64 0) = some (.ptr L2 i2 0) := by rw [z1]; exact ia22 hle hlt
  have e7 : ((7 : Int) == 7) = true := rfl
  have e11 : ((1 : Int) == 1) = true := rfl
  simp -implicitDefEqProofs (disch := first | assumption | omega | (simp only [nxB]; omega) | (simp only [oneB])) only [xlen, AV.cells, splice, aload, astore, Nat.reduceAdd, Nat.reduceLeDiff, reduceIte, allB, AHeap.push_set_lt, c1, c2, c3, e1, e0, o1, o2, o3, ix1, ix2, y2, z2, w1, x1, e7, e11]
  refine W_eff (psame_spec hsm (r1.keep (KeepA.pur q2)) (r2.keep (KeepA.pur q2)) (r3.keep (KeepA.pur q2)) (r1.keep (KeepA.pur q2)) (r2.keep (KeepA.pur q2)) (r3.keep (KeepA.pur q2))) ?_
  rintro _ H2 ⟨rfl, p3⟩
  refine ⟨p3.1, ?_⟩
  have g2 := p3.get ((Pur.push (H1.push (.row false 3 [[rv, gv, fv]])) (.row false 2 [[.int .i64 0, .int .i64 0]])).get (AHeap.get_push_same H1 (.row false 3 [[rv, gv, fv]])))
  have q3 := q2.trans p3
  rw [samePg_refl]
  simp -implicitDefEqProofs (disch := first | assumption | omega | (simp only [nxB]; omega) | (simp only [oneB])) only [xlen, AV.cells, splice, aload, astore, Nat.reduceAdd, Nat.reduceLeDiff, reduceIte, allB, g2]
  have none_sl : ∀ (H : AHeap), Sl kRc H (fun _ => True) Pg.none.recs .nilSl ∧ Sl kPm H (fun _ => True) Pg.none.globals .nilSl ∧ Sl kFn H (fun _ => True) Pg.none.funcs .nilSl := fun H => ⟨Sl.nil, Sl.nil, Sl.nil⟩
  refine W_eff (psame_spec (g' := .none) hsm (r1.keep (KeepA.pur q3)) (r2.keep (KeepA.pur q3)) (r3.keep (KeepA.pur q3)) (none_sl _).1 (none_sl _).2.1 (none_sl _).2.2) ?_
  rintro _ H4 ⟨rfl, p4⟩
  refine ⟨p4.1, ?_⟩
  have hne : samePg g .none = false := by
   unfold samePg
   rw [eqL_len g.recs Pg.none.recs (by rw [h1]; simp [Pg.none]), Bool.false_and]
  rw [hne]
  simp -implicitDefEqProofs (disch := first | assumption | omega | (simp only [nxB]; omega) | (simp only [oneB])) only [xlen, evB, Bool.not_false]
  exact W_some.2 ⟨rfl, (p2.trans p3).trans p4⟩
 ·cases hk
end Go.Proofs.YtghmbpmaafnodaaGreatDoor

namespace Go.Proofs.YtghmbpmaafnodaaGreatDoor
open Go.Ev
set_option maxRecDepth 100000
noncomputable section
def s7 (G : CallT) (x0 : AV) (H : AHeap) : O :=
 xmake H (some (.sl (H).next 0 12 1 (some 12), .row false 1 [[(.str [102, 117, 110, 99, 32, 40, 41, 32, 123, 32, 125])], [(.str [102, 117, 110, 99, 32, 102, 40, 32, 123, 32, 125])], [(.str [114, 101, 99, 111, 114, 100, 32, 123, 32, 125])], [(.str [103, 108, 111, 98, 97, 108, 32, 103, 32, 105, 110, 116, 59])], [(.str [102, 117, 110, 99, 32, 102, 40, 97, 58, 32, 105, 110, 116, 44, 41, 32, 123, 32, 125])], [(.str [120])], [(.str [102, 117, 110, 99, 32, 102, 40, 41, 32, 123, 32])], [(.str [114, 101, 99, 111, 114, 100, 32, 82, 32, 123, 32, 97, 58, 32, 105, 110, 116, 32, 125])], [(.str [102, 117, 110, 99, 32, 102, 40, 41, 58, 32, 123, 32, 125])], [(.str [103, 108, 111, 98, 97, 108, 32, 103, 58, 32, 91, 105, 110, 116, 59])], [(.str [102, 117, 110, 99, 32, 102, 40, 41, 32, 123, 32, 125, 32, 125])], [(.str [114, 101, 99, 111, 114, 100, 32, 82, 32, 123, 32, 114, 101, 99, 111, 114, 100, 58, 32, 105, 110, 116, 59, 32, 125])]])) fun x7 h1 =>
 xmake h1 (some (.sl (h1).next 0 12 1 (some 12), .row false 1 [[(.int .i64 5)], [(.int .i64 8)], [(.int .i64 7)], [(.int .i64 9)], [(.int .i64 14)], [(.int .i64 0)], [(.int .i64 11)], [(.int .i64 18)], [(.int .i64 10)], [(.int .i64 14)], [(.int .i64 13)], [(.int .i64 11)]])) fun x8 h2 =>
 xb (fbin P .lss 3 true x0 (.int .i64 0)) fun x10 =>
 xg x10 false h2 (qv x0) fun x12 h3 =>
 xg x10 false h3 (qv x7) fun x13 h4 =>
 xg x10 false h4 (fun q => xboth (abuiltin P .empty .len [48] [x13]) (abuiltin P h4 .len [48] [x13]) q) fun x14 h5 =>
 xg x10 false h5 (qp (fbin P .geq 3 false x12 x14)) fun x15 h6 =>
 xb (pickOf x10 (some (.bool true)) (some x15)) fun x16 =>
 xif (some x16) (some ((.bool true), h6)) (xb (aindexAddr P 48 x7 x0) fun x20 =>
 xb (aload P h6 9 x20) fun x21 =>
 xcall h6 (G 8 [x21] h6) fun x22 h7 =>
 xb (aextract x22 0) fun x23 =>
 xb (aextract x22 1) fun x24 =>
 xalloc h7 [AV.nilSl, AV.nilSl, AV.nilSl] fun x5 h8 =>
 xalloc h8 [(.int .i64 0), (.int .i64 0)] fun x6 h9 =>
 xstore h9 (astore P h9 26 x5 x23) fun h10 =>
 xstore h10 (astore P h10 29 x6 x24) fun h11 =>
 xb (aload P h11 29 x6) fun x25 =>
 xb (aindexAddr P 35 x8 x0) fun x28 =>
 xb (aload P h11 3 x28) fun x29 =>
 xb (abuild P 29 [(0, (.int .i64 2)), (1, x29)]) fun x30 =>
 xb (fbin P .eql 29 false x25 x30) fun x31 =>
 xguard x31 true (qp (afieldAddr P 26 x5 0)) fun k_ =>
 xguard x31 true (qr (aload P (k_.heap h11) 22 k_.val)) fun k__1 =>
 xguard x31 true (fun q => xboth (abuiltin P .empty .len [22] [k__1.val]) (abuiltin P (k__1.heap (k_.heap h11)) .len [22] [k__1.val]) q) fun k__2 =>
 xguard x31 true (qp (afieldAddr P 26 x5 1)) fun k__3 =>
 xguard x31 true (qr (aload P (k__3.heap (k__2.heap (k__1.heap (k_.heap h11)))) 23 k__3.val)) fun k__4 =>
 xguard x31 true (fun q => xboth (abuiltin P .empty .len [23] [k__4.val]) (abuiltin P (k__4.heap (k__3.heap (k__2.heap (k__1.heap (k_.heap h11))))) .len [23] [k__4.val]) q) fun k__5 =>
 xguard x31 true (qp (fbin P .add 3 false k__2.val k__5.val)) fun k__6 =>
 xguard x31 true (qp (afieldAddr P 26 x5 2)) fun k__7 =>
 xguard x31 true (qr (aload P (k__7.heap (k__6.heap (k__5.heap (k__4.heap (k__3.heap (k__2.heap (k__1.heap (k_.heap h11)))))))) 24 k__7.val)) fun k__8 =>
 xguard x31 true (fun q => xboth (abuiltin P .empty .len [24] [k__8.val]) (abuiltin P (k__8.heap (k__7.heap (k__6.heap (k__5.heap (k__4.heap (k__3.heap (k__2.heap (k__1.heap (k_.heap h11))))))))) .len [24] [k__8.val]) q) fun k__9 =>
 xguard x31 true (qp (fbin P .add 3 false k__6.val k__9.val)) fun k__10 =>
 xguard x31 true (qp (fbin P .eql 3 true k__10.val (.int .i64 0))) fun k__11 =>
 xb (pickOf x31 (some k__11.val) (some (.bool false))) fun x45 =>
 xguard x45 true (fun q => xeff (k__11.heap (k__10.heap (k__9.heap (k__8.heap (k__7.heap (k__6.heap (k__5.heap (k__4.heap (k__3.heap (k__2.heap (k__1.heap (k_.heap h11)))))))))))) (G 12 [] (k__11.heap (k__10.heap (k__9.heap (k__8.heap (k__7.heap (k__6.heap (k__5.heap (k__4.heap (k__3.heap (k__2.heap (k__1.heap (k_.heap h11))))))))))))) q) fun k__12 =>
 xb (pickOf x45 (some k__12.val) (some (.bool false))) fun x48 =>
 bif dchk [0, 0, 0, 6, 14, 30, 63, 127, 255, 511, 1023, 255, 2303, 6399, 16383, 255, 33023, 98559, 262143, 524287, 1048575, 2097151, 4194303, 8388607, 16777215] [0, 1, 2, 3, 4, 5, 6, 7, 8, 9, 10, 11, 12, 13, 14, 15, 16, 17, 18, 19, 20, 21, 22, 23, 24] [⟨0, (.read x25), fun H => aload P H 29 x6⟩, ⟨1, (.pure x8), fun H => none⟩, ⟨2, (.pure x0), fun H => none⟩, ⟨3, (.pure x28), fun H => none⟩, ⟨4, (.read x29), fun H => aload P H 3 x28⟩, ⟨5, (.pure x30), fun H => none⟩, ⟨6, (.pure x31), fun H => none⟩, ⟨7, (.pure x31), fun H => none⟩, ⟨8, k_, fun H => none⟩, ⟨9, k__1, fun H => aload P H 22 k_.val⟩, ⟨10, k__2, fun H => abuiltin P H .len [22] [k__1.val]⟩, ⟨11, k__3, fun H => none⟩, ⟨12, k__4, fun H => aload P H 23 k__3.val⟩, ⟨13, k__5, fun H => abuiltin P H .len [23] [k__4.val]⟩, ⟨14, k__6, fun H => none⟩, ⟨15, k__7, fun H => none⟩, ⟨16, k__8, fun H => aload P H 24 k__7.val⟩, ⟨17, k__9, fun H => abuiltin P H .len [24] [k__8.val]⟩, ⟨18, k__10, fun H => none⟩, ⟨19, k__11, fun H => none⟩, ⟨20, (.pure x45), fun H => none⟩, ⟨21, (.pure x45), fun H => none⟩, ⟨22, k__12, fun H => none⟩, ⟨23, (.pure x48), fun H => none⟩, ⟨24, (.pure x48), fun H => none⟩] h11 then (some (x48, (k__12.heap (k__11.heap (k__10.heap (k__9.heap (k__8.heap (k__7.heap (k__6.heap (k__5.heap (k__4.heap (k__3.heap (k__2.heap (k__1.heap (k_.heap h11))))))))))))))) else none)
end
end Go.Proofs.YtghmbpmaafnodaaGreatDoor
namespace Go.Proofs.YtghmbpmaafnodaaGreatDoor
open Go.Ev
theorem get_map {α : Type} {l : List α} {f : α → List AV} {k : Nat} {d : α} (h : k < l.length) : (l.map f)[k]? = some (f (l[k]?.getD d)) := by
 rw [List.getElem?_map]
 simp [h]
def badOk (tx : Bs) (e a : Int) : Bool := (tokensS tx).2.1 == 0 && (match progPL (tokensS tx).1 800000000 800000000 .none ⟨0, 0, 0, 0⟩ with
 | some (_, s) => s.fe != 0 && (s.fe == e && s.fa == a)
 | none => false)
theorem eq29 {c : Bool} (a a' : Int) (b b' : Int) : fbin P .eql 29 c (.agg [.int .i64 a, .int .i64 b]) (.agg [.int .i64 a', .int .i64 b']) = some (.bool (a == a' && b == b')) :=
 Eq.trans (by kernel_rfl) (map_and2 (a == a') (b == b'))
theorem bad_spec {H : AHeap} (hg : Lp.Gl H) {tx : Bs} {e a : Int} (h : badOk tx e a = true) : W (evw P orc 8 [.str tx] H) fun v H' => ∃ rv gv fv, v = .tuple [.agg [rv, gv, fv], .agg [.int .i64 e, .int .i64 a]] ∧ (rv.one = true ∧ gv.one = true ∧ fv.one = true) ∧ (∀ H', abuiltin P H' .len [22] [rv] = some (.int .i64 0)) ∧ (∀ H', abuiltin P H' .len [23] [gv] = some (.int .i64 0)) ∧ (∀ H', abuiltin P H' .len [24] [fv] = some (.int .i64 0)) ∧ Pur H H' := by
 unfold badOk at h
 simp only [Bool.and_eq_true, beq_iff_eq] at h
 obtain ⟨hf, h⟩ := h
 split at h
 ·rename_i g s hp
  simp only [Bool.and_eq_true, beq_iff_eq, bne_iff_ne, ne_eq] at h
  obtain ⟨h0, h1, h2⟩ := h
  refine (pParse_spec hg tx (M := 800000000) (n := 800000000) (Nat.le_refl _) (Nat.le_refl _) (fun _ => hp)).mono ?_
  rintro _ H1 ⟨rv, gv, fv, rfl, r1, r2, r3, p1⟩
  have ev : progV tx g s = (.none, e, a) := by unfold progV progE; rw [if_pos hf, if_neg h0, h1, h2]
  rw [ev] at r1 r2 r3 ⊢
  exact ⟨rv, gv, fv, rfl, ⟨r1.one, r2.one, r3.one⟩, r1.len22, r2.len23, r3.len24, p1⟩
 ·cases h
end Go.Proofs.YtghmbpmaafnodaaGreatDoor

namespace Go.Proofs.YtghmbpmaafnodaaGreatDoor
open Go.Ev
set_option maxRecDepth 100000
noncomputable section
def s6_j0 (G : CallT) (x0 x1 : AV) (x5 x6 : AV) (x7 x8 : AV) (H : AHeap) : O :=
 xcall H (G 8 [x6] H) fun x65 h1 =>
 xb (aextract x65 0) fun x66 =>
 xb (aextract x65 1) fun x67 =>
 xalloc h1 [AV.nilSl, AV.nilSl, AV.nilSl] fun x10 h2 =>
 xalloc h2 [(.int .i64 0), (.int .i64 0)] fun x11 h3 =>
 xstore h3 (astore P h3 26 x10 x66) fun h4 =>
 xstore h4 (astore P h4 29 x11 x67) fun h5 =>
 xb (fbin P .gtr 3 false x1 x5) fun x70 =>
 xif (some x70) (xb (aload P h5 29 x11) fun x71 =>
 xb (fbin P .mul 3 false x5 x7) fun x75 =>
 xb (fbin P .add 3 false x8 x75) fun x76 =>
 xb (abuild P 29 [(0, (.int .i64 4)), (1, x76)]) fun x77 =>
 xb (fbin P .eql 29 false x71 x77) fun x78 =>
 xg x78 true h5 (qp (afieldAddr P 26 x10 0)) fun x80 h6 =>
 xg x78 true h6 (qr (aload P h6 22 x80)) fun x81 h7 =>
 xg x78 true h7 (fun q => xboth (abuiltin P .empty .len [22] [x81]) (abuiltin P h7 .len [22] [x81]) q) fun x82 h8 =>
 xg x78 true h8 (qp (afieldAddr P 26 x10 1)) fun x83 h9 =>
 xg x78 true h9 (qr (aload P h9 23 x83)) fun x84 h10 =>
 xg x78 true h10 (fun q => xboth (abuiltin P .empty .len [23] [x84]) (abuiltin P h10 .len [23] [x84]) q) fun x85 h11 =>
 xg x78 true h11 (qp (fbin P .add 3 false x82 x85)) fun x86 h12 =>
 xg x78 true h12 (qp (afieldAddr P 26 x10 2)) fun x87 h13 =>
 xg x78 true h13 (qr (aload P h13 24 x87)) fun x88 h14 =>
 xg x78 true h14 (fun q => xboth (abuiltin P .empty .len [24] [x88]) (abuiltin P h14 .len [24] [x88]) q) fun x89 h15 =>
 xg x78 true h15 (qp (fbin P .add 3 false x86 x89)) fun x90 h16 =>
 xg x78 true h16 (qp (fbin P .eql 3 true x90 (.int .i64 0))) fun x91 h17 =>
 xb (pickOf x78 (some x91) (some (.bool false))) fun x92 =>
 xg x92 true h17 (fun q => xeff h17 (G 12 [] h17) q) fun x94 h18 =>
 xb (pickOf x92 (some x94) (some (.bool false))) fun x95 =>
 some (x95, h18)) (xb (afieldAddr P 29 x11 0) fun x96 =>
 xb (aload P h5 27 x96) fun x97 =>
 xb (fbin P .neq 27 true x97 (.int .i64 0)) fun x98 =>
 xif (some x98) (some ((.bool false), h5)) (xb (fbin P .eql 3 true x0 (.int .i64 3)) fun x101 =>
 xif (some x101) (xb (afieldAddr P 26 x10 0) fun x102 =>
 xb (aload P h5 22 x102) fun x103 =>
 xlen P .len [22] [x103] h5 fun x104 =>
 xb (fbin P .eql 3 true x104 (.int .i64 1)) fun x105 =>
 xg x105 true h5 (qp (afieldAddr P 26 x10 0)) fun x107 h6 =>
 xg x105 true h6 (qr (aload P h6 22 x107)) fun x108 h7 =>
 xg x105 true h7 (qp (aindexAddr P 22 x108 (.int .i64 0))) fun x109 h8 =>
 xg x105 true h8 (qp (afieldAddr P 41 x109 1)) fun x110 h9 =>
 xg x105 true h9 (qr (aload P h9 23 x110)) fun x111 h10 =>
 xg x105 true h10 (fun q => xboth (abuiltin P .empty .len [23] [x111]) (abuiltin P h10 .len [23] [x111]) q) fun x112 h11 =>
 xg x105 true h11 (qv x1) fun x113 h12 =>
 xg x105 true h12 (qp (fbin P .eql 3 false x112 x113)) fun x114 h13 =>
 xb (pickOf x105 (some x114) (some (.bool false))) fun x115 =>
 xg x115 true h13 (fun q => xeff h13 (G 12 [] h13) q) fun x117 h14 =>
 xb (pickOf x115 (some x117) (some (.bool false))) fun x118 =>
 some (x118, h14)) (xb (fbin P .eql 3 true x0 (.int .i64 4)) fun x120 =>
 xif (some x120) (xb (afieldAddr P 26 x10 2) fun x121 =>
 xb (aload P h5 24 x121) fun x122 =>
 xlen P .len [24] [x122] h5 fun x123 =>
 xb (fbin P .eql 3 true x123 (.int .i64 1)) fun x124 =>
 xg x124 true h5 (qp (afieldAddr P 26 x10 2)) fun x126 h6 =>
 xg x124 true h6 (qr (aload P h6 24 x126)) fun x127 h7 =>
 xg x124 true h7 (qp (aindexAddr P 24 x127 (.int .i64 0))) fun x128 h8 =>
 xg x124 true h8 (qp (afieldAddr P 46 x128 1)) fun x129 h9 =>
 xg x124 true h9 (qr (aload P h9 23 x129)) fun x130 h10 =>
 xg x124 true h10 (fun q => xboth (abuiltin P .empty .len [23] [x130]) (abuiltin P h10 .len [23] [x130]) q) fun x131 h11 =>
 xg x124 true h11 (qv x1) fun x132 h12 =>
 xg x124 true h12 (qp (fbin P .eql 3 false x131 x132)) fun x133 h13 =>
 xb (pickOf x124 (some x133) (some (.bool false))) fun x134 =>
 xg x134 true h13 (fun q => xeff h13 (G 12 [] h13) q) fun x136 h14 =>
 xb (pickOf x134 (some x136) (some (.bool false))) fun x137 =>
 some (x137, h14)) (xb (afieldAddr P 26 x10 0) fun x138 =>
 xb (aload P h5 22 x138) fun x139 =>
 xlen P .len [22] [x139] h5 fun x140 =>
 xb (afieldAddr P 26 x10 1) fun x141 =>
 xb (aload P h5 23 x141) fun x142 =>
 xlen P .len [23] [x142] h5 fun x143 =>
 xb (fbin P .add 3 false x140 x143) fun x144 =>
 xb (afieldAddr P 26 x10 2) fun x145 =>
 xb (aload P h5 24 x145) fun x146 =>
 xlen P .len [24] [x146] h5 fun x147 =>
 xb (fbin P .add 3 false x144 x147) fun x148 =>
 xb (fbin P .eql 3 false x148 x1) fun x150 =>
 xg x150 true h5 (fun q => xeff h5 (G 12 [] h5) q) fun x152 h6 =>
 xb (pickOf x150 (some x152) (some (.bool false))) fun x153 =>
 some (x153, h6)))))
theorem s6_j0_eq (G : CallT) (N : Nat) : ∀ R H, codeC P G N (Code.snd (Code.snd (Code.snd (Code.snd (Code.snd (bodyOf Tryz.f6)))))) (rC Tryz.f6) [] (rC Tryz.f6) R H = s6_j0 G (R 0) (R 1) (R 5) (R 6) (R 7) (R 8) H := by
 refine via_trans (via_leaf _) fun R H => ?_
 delta s6_j0
 kernel_rfl
def s6_j1 (G : CallT) (x0 x1 : AV) (x5 x9 : AV) (H : AHeap) : O :=
 xb (fbin P .add 9 true (.str [102, 117, 110, 99, 32, 102, 40]) x9) fun x61 =>
 xb (fbin P .add 9 true x61 (.str [41, 32, 123, 32, 125])) fun x62 =>
 s6_j0 G x0 x1 x5 x62 (.int .i64 8) (.int .i64 7) H
theorem s6_j1_eq (G : CallT) (N : Nat) : ∀ R H, codeC P G N (Code.snd (Code.snd (Code.fst (Code.snd (Code.snd (Code.snd (Code.snd (Code.snd (Code.snd (Code.snd (Code.snd (Code.snd (Code.fst (Code.snd (Code.fst (Code.snd (Code.snd (Code.snd (Code.snd (bodyOf Tryz.f6)))))))))))))))))))) (fun R H => s6_j0 G (R 0) (R 1) (R 5) (R 6) (R 7) (R 8) H) [(0, (fun R H => s6_j0 G (R 0) (R 1) (R 5) (R 6) (R 7) (R 8) H))] (rC Tryz.f6) R H = s6_j1 G (R 0) (R 1) (R 5) (R 9) H := by
 refine via_trans (via_leaf _) fun R H => ?_
 delta s6_j1
 generalize s6_j0 G = J0
 revert J0
 refine id ?_
 intro J0
 kernel_rfl
def s6 (G : CallT) (x0 x1 : AV) (H : AHeap) : O :=
 xb (fbin P .lss 3 true x0 (.int .i64 0)) fun x13 =>
 xg x13 false H (qv x0) fun x15 h1 =>
 xg x13 false h1 (qp (fbin P .gtr 3 true x15 (.int .i64 4))) fun x16 h2 =>
 xb (pickOf x13 (some (.bool true)) (some x16)) fun x17 =>
 xg x17 false h2 (qv x1) fun x19 h3 =>
 xg x17 false h3 (qp (fbin P .lss 3 true x19 (.int .i64 0))) fun x20 h4 =>
 xb (pickOf x17 (some (.bool true)) (some x20)) fun x21 =>
 xg x21 false h4 (qv x1) fun x23 h5 =>
 xg x21 false h5 (qp (fbin P .gtr 3 true x23 (.int .i64 20))) fun x24 h6 =>
 xb (pickOf x21 (some (.bool true)) (some x24)) fun x25 =>
 xif (some x25) (some ((.bool true), h6)) (xmake h6 (some (.sl (h6).next 0 5 1 (some 5), .row false 1 [[(.int .i64 12)], [(.int .i64 8)], [(.int .i64 16)], [(.int .i64 8)], [(.int .i64 6)]])) fun x26 h7 =>
 xb (aindexAddr P 35 x26 x0) fun x28 =>
 xb (aload P h7 3 x28) fun x29 =>
 xb (fbin P .eql 3 true x0 (.int .i64 0)) fun x32 =>
 xif (some x32) (xcall h7 (G 15 [x1, (.str [114, 101, 99, 111, 114, 100, 32]), (.str [32, 123, 32, 125, 32])] h7) fun x34 h8 =>
 s6_j0 G x0 x1 x29 x34 (.int .i64 13) (.int .i64 0) h8) (xb (fbin P .eql 3 true x0 (.int .i64 1)) fun x36 =>
 xif (some x36) (xcall h7 (G 15 [x1, (.str [103, 108, 111, 98, 97, 108, 32]), (.str [58, 32, 105, 110, 116, 59, 32])] h7) fun x38 h8 =>
 s6_j0 G x0 x1 x29 x38 (.int .i64 15) (.int .i64 0) h8) (xb (fbin P .eql 3 true x0 (.int .i64 2)) fun x40 =>
 xif (some x40) (xcall h7 (G 15 [x1, (.str [102, 117, 110, 99, 32]), (.str [40, 41, 32, 123, 32, 125, 32])] h7) fun x42 h8 =>
 s6_j0 G x0 x1 x29 x42 (.int .i64 13) (.int .i64 0) h8) (xb (fbin P .eql 3 true x0 (.int .i64 3)) fun x44 =>
 xif (some x44) (xcall h7 (G 15 [x1, (.str []), (.str [58, 32, 105, 110, 116, 59, 32])] h7) fun x46 h8 =>
 xb (fbin P .add 9 true (.str [114, 101, 99, 111, 114, 100, 32, 82, 32, 123, 32]) x46) fun x47 =>
 xb (fbin P .add 9 true x47 (.str [125])) fun x48 =>
 s6_j0 G x0 x1 x29 x48 (.int .i64 8) (.int .i64 11) h8) (xb (fbin P .eql 3 true x0 (.int .i64 4)) fun x50 =>
 xif (some x50) (xcall h7 (G 15 [x1, (.str []), (.str [58, 32, 105, 110, 116, 44, 32])] h7) fun x52 h8 =>
 xb (fbin P .gtr 3 true x1 (.int .i64 0)) fun x54 =>
 xif (some x54) (xlen P .len [9] [x52] h8 fun x57 =>
 xb (fbin P .sub 3 true x57 (.int .i64 2)) fun x58 =>
 xb (aslice P 9 x52 none (some x58) none) fun x59 =>
 s6_j1 G x0 x1 x29 x59 h8) (s6_j1 G x0 x1 x29 x52 h8)) (s6_j0 G x0 x1 x29 (.str []) (.int .i64 0) (.int .i64 0) h7))))))
theorem s6_eq (G : CallT) (N : Nat) (x0 : AV) (x1 : AV) (H : AHeap) : cF Tryz.f6 G N (argsF [x0, x1]) H = s6 G x0 x1 H := by
 refine via_top (A := cF Tryz.f6 G N) ((via_seq (by kernel_rfl) ((via_seq (by kernel_rfl) ((via_seq (by kernel_rfl) ((via_seq (by kernel_rfl) ((via_seq (by kernel_rfl) (s6_j0_eq G N) ((via_seq (by kernel_rfl) ((via_block (by kernel_rfl) ((via_seq (by kernel_rfl) ((via_cond (by kernel_rfl) (via_leaf _) ((via_seq (by kernel_rfl) ((via_cond (by kernel_rfl) (via_leaf _) ((via_seq (by kernel_rfl) ((via_cond (by kernel_rfl) (via_leaf _) ((via_seq (by kernel_rfl) ((via_cond (by kernel_rfl) (via_leaf _) ((via_seq (by kernel_rfl) ((via_cond (by kernel_rfl) ((via_seq (by kernel_rfl) ((via_seq (by kernel_rfl) (s6_j1_eq G N) (via_leaf _))) (via_leaf _))) (via_leaf _))) (via_leaf _))))) (via_leaf _))))) (via_leaf _))))) (via_leaf _))))) (via_leaf _))))) (via_leaf _))))) (via_leaf _))) (via_leaf _))) (via_leaf _))) (via_leaf _))) ?_
 delta s6
 generalize s6_j1 G = J0
 generalize s6_j0 G = J1
 revert J0 J1
 refine id ?_
 intro J0 J1
 kernel_rfl
def s15_j0 (G : CallT) (N : Nat) (x7 : AV) (H : AHeap) : O :=
 some (x7, H)
theorem s15_j0_eq (G : CallT) (N : Nat) : ∀ R H, codeC P G N (Code.snd (Code.snd (Code.snd (bodyOf Tryz.f15)))) (rC Tryz.f15) [] (rC Tryz.f15) R H = s15_j0 G N (R 7) H := by
 refine via_trans (via_leaf _) fun R H => ?_
 delta s15_j0
 kernel_rfl
def s15_b1 (G : CallT) (N : Nat) (L1 : AV → AV → AV → AV → AV → AHeap → O) (x0 x1 : AV) (x2 x7 x8 : AV) (H : AHeap) : O :=
 xb (fbin P .lss 3 false x8 x0) fun x11 =>
 xif (some x11) (xb (fbin P .add 9 false x7 x1) fun x16 =>
 xb (fbin P .add 3 true (.int .i64 97) x8) fun x18 =>
 xconv P 3 5 x18 H fun x19 =>
 xmake H (sliceOf P (H).next 81 1 [(0, x19)]) fun x20 h1 =>
 xconv P 81 9 x20 h1 fun x21 =>
 xb (fbin P .add 9 false x16 x21) fun x22 =>
 xb (fbin P .add 9 false x22 x2) fun x24 =>
 xb (fbin P .add 3 true x8 (.int .i64 1)) fun x13 =>
 L1 x0 x1 x2 x24 x13 h1) (s15_j0 G N x7 H)
def s15_l1 (G : CallT) (N : Nat) : Nat → AV → AV → AV → AV → AV → AHeap → O
 | 0, _, _, _, _, _, _ => none
 | n + 1, x0, x1, x2, x7, x8, H => s15_b1 G N (s15_l1 G N n) x0 x1 x2 x7 x8 H
theorem s15_b1_eq (G : CallT) (N : Nat) (L1 : AV → AV → AV → AV → AV → AHeap → O) : ∀ R H, codeC P G N (Code.fst (Code.fst (Code.snd (Code.fst (Code.snd (Code.snd (bodyOf Tryz.f15))))))) (fun R H => L1 (R 0) (R 1) (R 2) (R 7) (R 8) H) [(0, (fun R H => s15_j0 G N (R 7) H))] (rC Tryz.f15) R H = s15_b1 G N L1 (R 0) (R 1) (R 2) (R 7) (R 8) H := by
 refine via_trans (via_leaf _) fun R H => ?_
 delta s15_b1
 generalize s15_j0 G N = J0
 revert J0
 refine id ?_
 intro J0
 kernel_rfl
def s15 (G : CallT) (N : Nat) (x0 x1 x2 : AV) (H : AHeap) : O :=
 s15_l1 G N N x0 x1 x2 (.str []) (.int .i64 0) H
theorem s15_eq (G : CallT) (N : Nat) (x0 : AV) (x1 : AV) (x2 : AV) (H : AHeap) : cF Tryz.f15 G N (argsF [x0, x1, x2]) H = s15 G N x0 x1 x2 H := by
 refine via_top (A := cF Tryz.f15 G N) ((via_seq (by kernel_rfl) ((via_seq (by kernel_rfl) ((via_seq (by kernel_rfl) (s15_j0_eq G N) ((via_seq (by kernel_rfl) ((via_block (by kernel_rfl) ((via_loop (k := fun m R H => s15_l1 G N m (R 0) (R 1) (R 2) (R 7) (R 8) H) (by kernel_rfl) (fun R H => by kernel_rfl) (fun m => s15_b1_eq G N (s15_l1 G N m)))))) (via_leaf _))))) (via_leaf _))) (via_leaf _))) ?_
 delta s15
 generalize s15_l1 G N N = J0
 revert J0
 refine id ?_
 intro J0
 kernel_rfl
theorem run15 (N : Nat) {x0 x1 x2 : AV} {H : AHeap} {r : AV × AHeap} (h : s15 (evw P orc) N x0 x1 x2 H = some r) : evw P orc 15 [x0, x1, x2] H = some r :=
 runF (by kernel_rfl) Tryz.func15 (by kernel_rfl) (by kernel_rfl) (by kernel_rfl) ((s15_eq (evw P orc) N x0 x1 x2 H).trans h)
end
end Go.Proofs.YtghmbpmaafnodaaGreatDoor

/-
  Texts of one proof, laid together: ShG B4.
-/
import Derived.Test.YtgcamjgnfeajiaaDoorMD
import Derived.Test.YtgcamjgnfeajiaaDoorMG
set_option linter.unusedVariables false
set_option linter.unusedSimpArgs false
namespace Go.Proofs.YtgcamjgnfeajiaaDoor
open Go.Ev
set_option maxRecDepth 100000
noncomputable section
def s6_j3 (G : CallT) (N : Nat) (x0 x7 : AV) (x8 x9 x10 : AV) (H : AHeap) : O :=
 xb (aslice P 9 x10 none (some (.int .i64 6000)) none) fun x53 =>
 xcall H (G 9 [x53] H) fun x54 h1 =>
 xb (aextract x54 0) fun x55 =>
 xb (aextract x54 1) fun x56 =>
 xalloc h1 [(.int .i64 0), (.int .i64 0)] fun x13 h2 =>
 xstore h2 (astore P h2 25 x13 x56) fun h3 =>
 xb (aslice P 9 x10 none (some (.int .i64 6001)) none) fun x59 =>
 xcall h3 (G 9 [x59] h3) fun x60 h4 =>
 xb (aextract x60 0) fun x61 =>
 xb (aextract x60 1) fun x62 =>
 xalloc h4 [(.int .i64 0), (.int .i64 0)] fun x15 h5 =>
 xstore h5 (astore P h5 25 x15 x62) fun h6 =>
 xb (afieldAddr P 25 x13 0) fun x63 =>
 xb (aload P h6 23 x63) fun x64 =>
 xb (fbin P .neq 23 true x64 (.int .i64 0)) fun x65 =>
 xg x65 false h6 (qr (aload P h6 25 x15)) fun x67 h7 =>
 xg x65 false h7 (qv (.agg [(.int .i64 4), (.int .i64 0)])) fun x68 h8 =>
 xg x65 false h8 (qp (fbin P .neq 25 false x67 x68)) fun x69 h9 =>
 xb (pickOf x65 (some (.bool true)) (some x69)) fun x70 =>
 xif (some x70) (some ((.bool false), h9)) (xb (fbin P .gtr 3 false x0 x7) fun x73 =>
 xif (some x73) (xb (aload P h9 25 x9) fun x74 =>
 xb (fbin P .eql 25 false x74 (.agg [(.int .i64 1), (.int .i64 1)])) fun x76 =>
 xg x76 true h9 (qv x8) fun x78 h10 =>
 xg x76 true h10 (fun q => xboth (abuiltin P .empty .len [22] [x78]) (abuiltin P h10 .len [22] [x78]) q) fun x79 h11 =>
 xg x76 true h11 (qp (fbin P .eql 3 true x79 (.int .i64 0))) fun x80 h12 =>
 xb (pickOf x76 (some x80) (some (.bool false))) fun x81 =>
 xg x81 true h12 (fun q => xeff h12 (G 12 [] h12) q) fun x83 h13 =>
 xb (pickOf x81 (some x83) (some (.bool false))) fun x84 =>
 some (x84, h13)) (xb (afieldAddr P 25 x9 0) fun x85 =>
 xb (aload P h9 23 x85) fun x86 =>
 xb (fbin P .eql 23 true x86 (.int .i64 0)) fun x87 =>
 xg x87 true h9 (qv x8) fun x89 h10 =>
 xg x87 true h10 (fun q => xboth (abuiltin P .empty .len [22] [x89]) (abuiltin P h10 .len [22] [x89]) q) fun x90 h11 =>
 xg x87 true h11 (qp (fbin P .eql 3 true x90 (.int .i64 2))) fun x91 h12 =>
 xb (pickOf x87 (some x91) (some (.bool false))) fun x92 =>
 xg x92 true h12 (qv x8) fun x94 h13 =>
 xg x92 true h13 (qp (aindexAddr P 22 x94 (.int .i64 0))) fun x95 h14 =>
 xg x92 true h14 (qp (afieldAddr P 34 x95 3)) fun x96 h15 =>
 xg x92 true h15 (qr (aload P h15 3 x96)) fun x97 h16 =>
 xg x92 true h16 (qp (fbin P .eql 3 true x97 (.int .i64 1))) fun x98 h17 =>
 xb (pickOf x92 (some x98) (some (.bool false))) fun x99 =>
 xg x99 true h17 (qv x8) fun x101 h18 =>
 xg x99 true h18 (qp (aindexAddr P 22 x101 (.int .i64 1))) fun x102 h19 =>
 xg x99 true h19 (qp (afieldAddr P 34 x102 3)) fun x103 h20 =>
 xg x99 true h20 (qr (aload P h20 3 x103)) fun x104 h21 =>
 xg x99 true h21 (qv x0) fun x105 h22 =>
 xg x99 true h22 (qp (fbin P .add 3 true x105 (.int .i64 1))) fun x106 h23 =>
 xg x99 true h23 (qp (fbin P .eql 3 false x104 x106)) fun x107 h24 =>
 xb (pickOf x99 (some x107) (some (.bool false))) fun x108 =>
 xg x108 true h24 (fun q => xeff h24 (G 12 [] h24) q) fun x110 h25 =>
 xb (pickOf x108 (some x110) (some (.bool false))) fun x111 =>
 some (x111, h25)))
theorem s6_j3_eq (G : CallT) (N : Nat) : ∀ R H, codeC P G N (Code.snd (Code.snd (Code.snd (Code.snd (Code.snd (Code.snd (Code.snd (Code.snd (Code.snd (Code.snd (bodyOf Tryd.f6))))))))))) (rC Tryd.f6) [] (rC Tryd.f6) R H = s6_j3 G N (R 0) (R 7) (R 8) (R 9) (R 10) H := by
 refine via_trans (via_leaf _) fun R H => ?_
 delta s6_j3
 kernel_rfl
def s6_b4 (G : CallT) (N : Nat) (L4 : AV → AV → AV → AV → AV → AHeap → O) (x0 x7 : AV) (x8 x9 x10 : AV) (H : AHeap) : O :=
 xlen P .len [9] [x10] H fun x46 =>
 xb (fbin P .leq 3 true x46 (.int .i64 6000)) fun x47 =>
 xif (some x47) (xb (fbin P .add 9 false x10 x10) fun x50 =>
 L4 x0 x7 x8 x9 x50 H) (s6_j3 G N x0 x7 x8 x9 x10 H)
def s6_l4 (G : CallT) (N : Nat) : Nat → AV → AV → AV → AV → AV → AHeap → O
 | 0, _, _, _, _, _, _ => none
 | n + 1, x0, x7, x8, x9, x10, H => s6_b4 G N (s6_l4 G N n) x0 x7 x8 x9 x10 H
theorem s6_b4_eq (G : CallT) (N : Nat) (L4 : AV → AV → AV → AV → AV → AHeap → O) : ∀ R H, codeC P G N (Code.fst (Code.fst (Code.fst (Code.snd (Code.snd (Code.snd (Code.snd (Code.snd (Code.snd (Code.snd (Code.snd (Code.snd (bodyOf Tryd.f6))))))))))))) (fun R H => L4 (R 0) (R 7) (R 8) (R 9) (R 10) H) [(4, (fun R H => s6_j3 G N (R 0) (R 7) (R 8) (R 9) (R 10) H))] (rC Tryd.f6) R H = s6_b4 G N L4 (R 0) (R 7) (R 8) (R 9) (R 10) H := by
 refine via_trans (via_leaf _) fun R H => ?_
 delta s6_b4
 generalize s6_j3 G N = J0
 revert J0
 refine id ?_
 intro J0
 kernel_rfl
def s6_j2 (G : CallT) (N : Nat) (x0 x7 : AV) (x8 x9 x10 : AV) (H : AHeap) : O :=
 s6_l4 G N N x0 x7 x8 x9 x10 H
theorem s6_j2_eq (G : CallT) (N : Nat) : ∀ R H, codeC P G N (Code.snd (Code.snd (Code.snd (Code.snd (Code.snd (Code.snd (Code.snd (Code.snd (Code.snd (bodyOf Tryd.f6)))))))))) (rC Tryd.f6) [] (rC Tryd.f6) R H = s6_j2 G N (R 0) (R 7) (R 8) (R 9) (R 10) H := by
 refine via_trans ((via_seq (by kernel_rfl) (s6_j3_eq G N) ((via_block (by kernel_rfl) ((via_loop (k := fun m R H => s6_l4 G N m (R 0) (R 7) (R 8) (R 9) (R 10) H) (by kernel_rfl) (fun R H => by kernel_rfl) (fun m => s6_b4_eq G N (s6_l4 G N m)))))))) fun R H => ?_
 delta s6_j2
 generalize s6_l4 G N N = J0
 revert J0
 refine id ?_
 intro J0
 kernel_rfl
def s6_b5 (G : CallT) (N : Nat) (L5 : AV → AV → AV → AV → AV → AV → AHeap → O) (x0 x7 : AV) (x8 x9 : AV) (x10 x11 : AV) (H : AHeap) : O :=
 xb (fbin P .lss 3 true x11 (.int .i64 11)) fun x40 =>
 xif (some x40) (xb (fbin P .add 9 true x10 (.str [32, 32, 32, 32, 32, 32, 32, 32, 32, 32])) fun x44 =>
 xb (fbin P .add 3 true x11 (.int .i64 1)) fun x42 =>
 L5 x0 x7 x8 x9 x44 x42 H) (s6_j2 G N x0 x7 x8 x9 x10 H)
def s6_l5 (G : CallT) (N : Nat) : Nat → AV → AV → AV → AV → AV → AV → AHeap → O
 | 0, _, _, _, _, _, _, _ => none
 | n + 1, x0, x7, x8, x9, x10, x11, H => s6_b5 G N (s6_l5 G N n) x0 x7 x8 x9 x10 x11 H
theorem s6_b5_eq (G : CallT) (N : Nat) (L5 : AV → AV → AV → AV → AV → AV → AHeap → O) : ∀ R H, codeC P G N (Code.fst (Code.fst (Code.snd (Code.fst (Code.snd (Code.snd (Code.snd (Code.snd (Code.snd (Code.snd (Code.snd (Code.snd (bodyOf Tryd.f6))))))))))))) (fun R H => L5 (R 0) (R 7) (R 8) (R 9) (R 10) (R 11) H) [(2, (fun R H => s6_j2 G N (R 0) (R 7) (R 8) (R 9) (R 10) H))] (rC Tryd.f6) R H = s6_b5 G N L5 (R 0) (R 7) (R 8) (R 9) (R 10) (R 11) H := by
 refine via_trans (via_leaf _) fun R H => ?_
 delta s6_b5
 generalize s6_j2 G N = J0
 revert J0
 refine id ?_
 intro J0
 kernel_rfl
def s6_j1 (G : CallT) (N : Nat) (x0 x5 x7 : AV) (H : AHeap) : O :=
 xb (fbin P .add 9 true (.str [32]) x5) fun x35 =>
 xcall H (G 9 [x35] H) fun x36 h1 =>
 xb (aextract x36 0) fun x37 =>
 xb (aextract x36 1) fun x38 =>
 xalloc h1 [(.int .i64 0), (.int .i64 0)] fun x9 h2 =>
 xstore h2 (astore P h2 25 x9 x38) fun h3 =>
 s6_l5 G N N x0 x7 x37 x9 (.str []) (.int .i64 0) h3
theorem s6_j1_eq (G : CallT) (N : Nat) : ∀ R H, codeC P G N (Code.snd (Code.snd (Code.snd (Code.snd (Code.snd (Code.snd (bodyOf Tryd.f6))))))) (rC Tryd.f6) [] (rC Tryd.f6) R H = s6_j1 G N (R 0) (R 5) (R 7) H := by
 refine via_trans ((via_seq (by kernel_rfl) ((via_seq (by kernel_rfl) ((via_seq (by kernel_rfl) (s6_j2_eq G N) ((via_seq (by kernel_rfl) ((via_block (by kernel_rfl) ((via_loop (k := fun m R H => s6_l5 G N m (R 0) (R 7) (R 8) (R 9) (R 10) (R 11) H) (by kernel_rfl) (fun R H => by kernel_rfl) (fun m => s6_b5_eq G N (s6_l5 G N m)))))) (via_leaf _))))) (via_leaf _))) (via_leaf _))) fun R H => ?_
 delta s6_j1
 generalize s6_l5 G N N = J0
 revert J0
 refine id ?_
 intro J0
 kernel_rfl
def s6_j0 (G : CallT) (N : Nat) (x0 x1 x5 : AV) (H : AHeap) : O :=
 xif (some x1) (s6_j1 G N x0 x5 (.int .i64 19) H) (s6_j1 G N x0 x5 (.int .i64 8) H)
theorem s6_j0_eq (G : CallT) (N : Nat) : ∀ R H, codeC P G N (Code.snd (Code.snd (Code.snd (Code.snd (bodyOf Tryd.f6))))) (rC Tryd.f6) [] (rC Tryd.f6) R H = s6_j0 G N (R 0) (R 1) (R 5) H := by
 refine via_trans ((via_seq (by kernel_rfl) ((via_seq (by kernel_rfl) (s6_j1_eq G N) (via_leaf _))) (via_leaf _))) fun R H => ?_
 delta s6_j0
 generalize s6_j1 G N = J0
 revert J0
 refine id ?_
 intro J0
 kernel_rfl
def s6_j7 (G : CallT) (N : Nat) (L6 : AV → AV → AV → AV → AHeap → O) (x0 x1 : AV) (x5 x6 : AV) (H : AHeap) : O :=
 xb (fbin P .add 3 true x6 (.int .i64 1)) fun x26 =>
 L6 x0 x1 x5 x26 H
theorem s6_j7_eq (G : CallT) (N : Nat) (L6 : AV → AV → AV → AV → AHeap → O) : ∀ R H, codeC P G N (Code.snd (Code.snd (Code.fst (Code.fst (Code.snd (Code.fst (Code.snd (Code.snd (Code.snd (bodyOf Tryd.f6)))))))))) (fun R H => L6 (R 0) (R 1) (R 5) (R 6) H) [(0, (fun R H => s6_j0 G N (R 0) (R 1) (R 5) H))] (rC Tryd.f6) R H = s6_j7 G N L6 (R 0) (R 1) (R 5) (R 6) H := by
 refine via_trans (via_leaf _) fun R H => ?_
 delta s6_j7
 kernel_rfl
def s6_b6 (G : CallT) (N : Nat) (L6 : AV → AV → AV → AV → AHeap → O) (x0 x1 : AV) (x5 x6 : AV) (H : AHeap) : O :=
 xb (fbin P .lss 3 false x6 x0) fun x24 =>
 xif (some x24) (xif (some x1) (xb (fbin P .add 9 true x5 (.str [49])) fun x29 =>
 s6_j7 G N L6 x0 x1 x29 x6 H) (xb (fbin P .add 9 true x5 (.str [113])) fun x31 =>
 s6_j7 G N L6 x0 x1 x31 x6 H)) (s6_j0 G N x0 x1 x5 H)
def s6_l6 (G : CallT) (N : Nat) : Nat → AV → AV → AV → AV → AHeap → O
 | 0, _, _, _, _, _ => none
 | n + 1, x0, x1, x5, x6, H => s6_b6 G N (s6_l6 G N n) x0 x1 x5 x6 H
theorem s6_b6_eq (G : CallT) (N : Nat) (L6 : AV → AV → AV → AV → AHeap → O) : ∀ R H, codeC P G N (Code.fst (Code.fst (Code.snd (Code.fst (Code.snd (Code.snd (Code.snd (bodyOf Tryd.f6)))))))) (fun R H => L6 (R 0) (R 1) (R 5) (R 6) H) [(0, (fun R H => s6_j0 G N (R 0) (R 1) (R 5) H))] (rC Tryd.f6) R H = s6_b6 G N L6 (R 0) (R 1) (R 5) (R 6) H := by
 refine via_trans ((via_seq (by kernel_rfl) ((via_seq (by kernel_rfl) (s6_j7_eq G N L6) (via_leaf _))) (via_leaf _))) fun R H => ?_
 delta s6_b6
 generalize s6_j0 G N = J0
 generalize s6_j7 G N L6 = J1
 revert J0 J1
 refine id ?_
 intro J0 J1
 kernel_rfl
def s6 (G : CallT) (N : Nat) (x0 x1 : AV) (H : AHeap) : O :=
 xb (fbin P .lss 3 true x0 (.int .i64 1)) fun x17 =>
 xg x17 false H (qv x0) fun x19 h1 =>
 xg x17 false h1 (qp (fbin P .gtr 3 true x19 (.int .i64 30))) fun x20 h2 =>
 xb (pickOf x17 (some (.bool true)) (some x20)) fun x21 =>
 xif (some x21) (some ((.bool true), h2)) (s6_l6 G N N x0 x1 (.str []) (.int .i64 0) h2)
theorem s6_eq (G : CallT) (N : Nat) (x0 : AV) (x1 : AV) (H : AHeap) : cF Tryd.f6 G N (argsF [x0, x1]) H = s6 G N x0 x1 H := by
 refine via_top (A := cF Tryd.f6 G N) ((via_seq (by kernel_rfl) ((via_seq (by kernel_rfl) ((via_seq (by kernel_rfl) ((via_seq (by kernel_rfl) (s6_j0_eq G N) ((via_seq (by kernel_rfl) ((via_block (by kernel_rfl) ((via_loop (k := fun m R H => s6_l6 G N m (R 0) (R 1) (R 5) (R 6) H) (by kernel_rfl) (fun R H => by kernel_rfl) (fun m => s6_b6_eq G N (s6_l6 G N m)))))) (via_leaf _))))) (via_leaf _))) (via_leaf _))) (via_leaf _))) ?_
 delta s6
 generalize s6_l6 G N N = J0
 revert J0
 refine id ?_
 intro J0
 kernel_rfl
theorem run6 (N : Nat) {x0 x1 : AV} {H : AHeap} {r : AV × AHeap} (h : s6 (evw P orc) N x0 x1 H = some r) : evw P orc 6 [x0, x1] H = some r :=
 runF (by kernel_rfl) Tryd.func6 (by kernel_rfl) (by kernel_rfl) (by kernel_rfl) ((s6_eq (evw P orc) N x0 x1 H).trans h)
end
end Go.Proofs.YtgcamjgnfeajiaaDoor
namespace Go.Proofs.YtgcamjgnfeajiaaDoor
open Go.Ev
theorem blank_rep : ∀ k, blankN false (List.replicate k 32) = k
 | 0 => rfl
 | k + 1 => by
  rw [List.replicate_succ, blankN]
  have : isBlank 32 = true := by rfl
  rw [this, cond_true, blank_rep k]
theorem tokens_rep {k : Nat} (h : k ≤ 6000) : tokensS (List.replicate k 32) = ([⟨0, [], 0, k⟩], 0, 0) := by
 have e : (List.replicate k (32 : UInt8)).drop k = [] := List.drop_eq_nil_of_le (by simp)
 unfold tokensS
 rw [if_neg (by simp; omega), lexS, blank_rep, e]
 simp only [List.length_replicate, lexL]
theorem tokens_long {k : Nat} (h : 6000 < k) : tokensS (List.replicate k 32) = ([], 4, 0) := by
 unfold tokensS
 rw [if_pos (by simpa using h)]
def longMost (d : Bool) : Nat := bif d then 19 else 8
def longC (d : Bool) : UInt8 := bif d then 49 else 113
def longOk (d : Bool) (n : Nat) : Bool :=
 bif Nat.ble (n + 1) (longMost d + 1) then (match tokensS (32 :: List.replicate n (longC d)) with
  | ([a, b], f, _) => f == 0 && a.pos == 1 && b.pos == (n : Int) + 1
  | _ => false)
 else (match tokensS (32 :: List.replicate n (longC d)) with
  | ([], f, p) => f == 1 && p == 1
  | _ => false)
theorem long_all : [true, false].all (fun d => (List.range 30).all fun n => longOk d (n + 1)) = true := by decide +kernel
theorem map_nand2 (x y : Bool) : Option.map (fun b => AV.bool (!b)) (bif x then (bif y then some true else some false) else some false) = some (.bool (!(x && y))) := by cases x <;> cases y <;> rfl
theorem ne25 {c : Bool} (a a' : Int) (b b' : Int) : fbin P .neq 25 c (.agg [.int .i64 a, .int .i64 b]) (.agg [.int .i64 a', .int .i64 b']) = some (.bool (!(a == a' && b == b'))) :=
 Eq.trans (by kernel_rfl) (map_nand2 (a == a') (b == b'))
theorem long_j3 {H0 H : AHeap} (hg : Gl H0) {n m : Nat} {d : Bool} (hn : 1 ≤ n) (hn' : n ≤ 30) (hm : 6000 < m) (N : Nat) {v : AV} {f p : Int} {T : List Tok} (ht : TokSl H v T) (pp : Pur H0 H) {l : Nat} (gl : H.get l = some (.row false 2 [[.int .i64 f, .int .i64 p]])) (hok : longOk d n = true) (hq : tokensS (32 :: List.replicate n (longC d)) = (T, f, p)) :
  W (s6_j3 (evw P orc) N (.int .i64 n) (.int .i64 (longMost d)) v (.ptr l 0 0) (.str (List.replicate m 32)) H) fun v H' => v = .bool true ∧ Pur H0 H' := by
 have hc1 := sl9_to (s := List.replicate m 32) (b := 6000) (by simp; omega)
 have hc2 := sl9_to (s := List.replicate m 32) (b := 6001) (by simp; omega)
 rw [List.take_replicate, Nat.min_eq_left (by omega)] at hc1 hc2
 have e6 : ((6000 : Nat) : Int) = 6000 := rfl
 have e7 : ((6001 : Nat) : Int) = 6001 := rfl
 rw [e6] at hc1
 rw [e7] at hc2
 simp -implicitDefEqProofs (disch := first | assumption | omega | (simp only [nxB]; omega) | (simp only [oneB])) only [s6_j3, xlen, AV.cells, splice, aload, astore, Nat.reduceAdd, Nat.reduceLeDiff, reduceIte, allB, hc1]
 refine W_call (lTokens_spec (hg.pur pp) _) ?_
 rintro _ H1 ⟨tv, rfl, -, p1⟩
 refine ⟨p1.1, ?_⟩
 rw [tokens_rep (Nat.le_refl _)]
 have p1' := (pp.trans p1).then_push (.row false 2 [[.int .i64 0, .int .i64 0]])
 simp -implicitDefEqProofs (disch := first | assumption | omega | (simp only [nxB]; omega) | (simp only [oneB])) only [xlen, AV.cells, splice, aload, astore, Nat.reduceAdd, Nat.reduceLeDiff, reduceIte, allB, AHeap.push_set_lt, hc2]
 refine W_call (lTokens_spec (hg.pur p1') _) ?_
 rintro _ H2 ⟨tv2, rfl, -, p2⟩
 refine ⟨p2.1, ?_⟩
 rw [tokens_long (by omega)]
 have p2' := (p1'.trans p2).then_push (.row false 2 [[.int .i64 4, .int .i64 0]])
 have g1 := ((Pur.push H2 (.row false 2 [[.int .i64 4, .int .i64 0]])).get (p2.get (AHeap.get_push_same H1 (.row false 2 [[.int .i64 0, .int .i64 0]]))))
 have g2 := AHeap.get_push_same H2 (.row false 2 [[.int .i64 4, .int .i64 0]])
 have pH := ((p1.then_push (.row false 2 [[.int .i64 0, .int .i64 0]])).trans p2).then_push (.row false 2 [[.int .i64 4, .int .i64 0]])
 have gl' := pH.get gl
 have ht' := ht.pur pH
 have hlen := fun H' => ht.len5 H'
 have z0 : ((0 : Int) != 0) = false := rfl
 simp -implicitDefEqProofs (disch := first | assumption | omega | (simp only [nxB]; omega) | (simp only [oneB])) only [xlen, evB, aload, tyB, astore, tyB, Nat.reduceAdd, Nat.reduceLeDiff, reduceIte, AV.cells, splice, lsB, heapB, AHeap.push_set_lt]
 generalize (H2.push (.row false 2 [[.int .i64 4, .int .i64 0]])) = H3 at *
 simp -implicitDefEqProofs (disch := first | assumption | omega | (simp only [nxB]; omega) | (simp only [oneB])) only [xlen, AV.cells, splice, aload, astore, Nat.reduceAdd, Nat.reduceLeDiff, reduceIte, allB, g1, g2, z0, ne25, beq_self_eq_true, Bool.and_self, Bool.not_true]
 unfold longOk at hok
 rw [hq] at hok
 by_cases hc : n ≤ longMost d
 ·have hb : Nat.ble (n + 1) (longMost d + 1) = true := Nat.ble_eq_true_of_le (by omega)
  rw [hb, cond_true] at hok
  have hlt : ¬ ((longMost d : Int) < (n : Int)) := by omega
  rcases T with _ | ⟨a, _ | ⟨b, _ | ⟨c, T⟩⟩⟩ <;> try (cases hok; done)
  simp only [Bool.and_eq_true, beq_iff_eq] at hok
  obtain ⟨⟨rfl, e2⟩, e3⟩ := hok
  rcases ht' with ⟨_, h⟩ | ⟨k, i, cap, rfl, h⟩
  ·cases h
  obtain ⟨ro, els, q1, q2⟩ := h.resolve_left (by simp)
  have r0 := q2 0 a rfl
  have r1 := q2 1 b rfl
  simp only [Tok.cells] at r0 r1
  have h00 : ((0 : Int)).toNat = 0 := rfl
  have h11 : ((1 : Int)).toNat = 1 := rfl
  have h02 : (0 : Int) < ((2 : Nat) : Int) := by decide
  have h12 : (1 : Int) < ((2 : Nat) : Int) := by decide
  have hl2 : (((2 : Nat) : Int) == 2) = true := rfl
  have w1 : IntKind.i64.wrap ((n : Int) + 1) = (n : Int) + 1 := IntWalk.i64_in _ ⟨by omega, by omega⟩
  have z00 : ((0 : Int) == 0) = true := rfl
  have zs : (0 : Int) ≤ 1 := by omega
  have zt : (0 : Int) ≤ 0 := by omega
  have x1 : aindexAddr P 22 (.sl k i 2 4 cap) (.int .i64 0) = some (.ptr k (i + 0) 0) := ia22 zt h02
  have x2 : aindexAddr P 22 (.sl k i 2 4 cap) (.int .i64 1) = some (.ptr k (i + 1) 0) := ia22 zs h12
  simp only [Nat.add_zero] at x1 r0
  simp -implicitDefEqProofs (disch := first | assumption | omega | (simp only [nxB]; omega) | (simp only [oneB])) only [xlen, AV.cells, splice, aload, astore, Nat.reduceAdd, Nat.reduceLeDiff, reduceIte, allB, hlt, decide_false, gl', z00, hlen, hl2, x1, x2, q1, r0, r1, e2, e3, w1, beq_self_eq_true]
  refine W_eff (known_spec (hg.pur p2')) ?_
  rintro _ H4 ⟨rfl, p4⟩
  refine ⟨p4.1, ?_⟩
  simp -implicitDefEqProofs (disch := first | assumption | omega | (simp only [nxB]; omega) | (simp only [oneB])) only [xlen, evB]
  exact W_some.2 ⟨rfl, p2'.trans p4⟩
 ·have hb : Nat.ble (n + 1) (longMost d + 1) = false := by
   rw [← Bool.not_eq_true, Nat.ble_eq]; omega
  rw [hb, cond_false] at hok
  have hlt : ((longMost d : Int) < (n : Int)) := by omega
  rcases T with _ | ⟨a, T⟩ <;> try (cases hok; done)
  simp only [Bool.and_eq_true, beq_iff_eq] at hok
  obtain ⟨rfl, rfl⟩ := hok
  have hl0 : (((0 : Nat) : Int) == 0) = true := rfl
  simp -implicitDefEqProofs (disch := first | assumption | omega | (simp only [nxB]; omega) | (simp only [oneB])) only [xlen, AV.cells, splice, aload, astore, Nat.reduceAdd, Nat.reduceLeDiff, reduceIte, allB, hlt, decide_true, gl', eq25, beq_self_eq_true, Bool.and_self, hlen, hl0]
  refine W_eff (known_spec (hg.pur p2')) ?_
  rintro _ H4 ⟨rfl, p4⟩
  refine ⟨p4.1, ?_⟩
  simp -implicitDefEqProofs (disch := first | assumption | omega | (simp only [nxB]; omega) | (simp only [oneB])) only [xlen, evB]
  exact W_some.2 ⟨rfl, p2'.trans p4⟩
theorem long_loop4 {G : CallT} {N : Nat} {Q : AV → AHeap → Prop} {x0 x7 x8 x9 : AV} {H : AHeap} (hQ : ∀ m, 6000 < m → W (s6_j3 G N x0 x7 x8 x9 (.str (List.replicate m 32)) H) Q) :
  ∀ (c m n : Nat), 6000 < m * 2 ^ c → m ≤ 12000 → c < n → W (s6_l4 G N n x0 x7 x8 x9 (.str (List.replicate m 32)) H) Q
 | _, _, 0, _, _, hn => by omega
 | c, m, n + 1, hc, hm, hn => by
  have hl : (List.replicate m (32 : UInt8)).length = m := by simp
  by_cases h : 6000 < m
  ·have h1 : ¬ (((List.replicate m (32 : UInt8)).length : Int) ≤ 6000) := by rw [hl]; omega
   simp -implicitDefEqProofs (disch := first | assumption | omega | (simp only [nxB]; omega) | (simp only [oneB])) only [s6_l4, s6_b4, xlen, AV.cells, splice, aload, astore, Nat.reduceAdd, Nat.reduceLeDiff, reduceIte, allB, h1, decide_false]
   exact hQ m h
  ·have h1 : (((List.replicate m (32 : UInt8)).length : Int) ≤ 6000) := by rw [hl]; omega
   have ea : fbin P .add 9 false (.str (List.replicate m 32)) (.str (List.replicate m 32)) = some (.str (List.replicate (m + m) 32)) := by
    rw [fbin_sadd _ _ _ _ (by rw [hl]; omega), List.replicate_append_replicate]
   simp -implicitDefEqProofs (disch := first | assumption | omega | (simp only [nxB]; omega) | (simp only [oneB])) only [s6_l4, s6_b4, xlen, AV.cells, splice, aload, astore, Nat.reduceAdd, Nat.reduceLeDiff, reduceIte, allB, h1, decide_true, ea]
   cases c with
   | zero => omega
   | succ c => exact long_loop4 hQ c (m + m) n (by rw [Nat.pow_succ] at hc; rw [← Nat.two_mul, Nat.mul_comm 2 m, Nat.mul_assoc, Nat.mul_comm 2]; exact hc) (by omega) (by omega)
theorem long_loop5 {G : CallT} {N : Nat} {Q : AV → AHeap → Prop} {x0 x7 x8 x9 : AV} {H : AHeap} (hQ : W (s6_l4 G N N x0 x7 x8 x9 (.str (List.replicate 110 32)) H) Q) :
  ∀ (c i n : Nat), i + c = 11 → c < n → W (s6_l5 G N n x0 x7 x8 x9 (.str (List.replicate (i * 10) 32)) (.int .i64 (i : Int)) H) Q
 | _, _, 0, _, hn => by omega
 | 0, i, n + 1, hi, hn => by
  obtain rfl : i = 11 := by omega
  have h1 : ¬ (((11 : Nat) : Int) < 11) := by decide
  simp -implicitDefEqProofs (disch := first | assumption | omega | (simp only [nxB]; omega) | (simp only [oneB])) only [s6_l5, s6_b5, s6_j2, xlen, AV.cells, splice, aload, astore, Nat.reduceAdd, Nat.reduceLeDiff, reduceIte, allB, h1, decide_false]
  exact hQ
 | c + 1, i, n + 1, hi, hn => by
  have h1 : ((i : Int) < 11) := by omega
  have ea : fbin P .add 9 true (.str (List.replicate (i * 10) 32)) (.str [32, 32, 32, 32, 32, 32, 32, 32, 32, 32]) = some (.str (List.replicate ((i + 1) * 10) 32)) := by
   rw [fbin_sadd _ _ _ _ (by simp; omega), Nat.succ_mul, ← List.replicate_append_replicate]; rfl
  simp -implicitDefEqProofs (disch := first | assumption | omega | (simp only [nxB]; omega) | (simp only [oneB])) only [s6_l5, s6_b5, xlen, AV.cells, splice, aload, astore, Nat.reduceAdd, Nat.reduceLeDiff, reduceIte, allB, h1, decide_true, ea, wn1]
  exact long_loop5 hQ c (i + 1) n (by omega) (by omega)
theorem long_loop6 {G : CallT} {N : Nat} {Q : AV → AHeap → Prop} {m : Nat} (hm : m ≤ 30) {d : Bool} {H : AHeap} (hQ : W (s6_j0 G N (.int .i64 m) (.bool d) (.str (List.replicate m (longC d))) H) Q) :
  ∀ (c i n : Nat), i + c = m → c < n → W (s6_l6 G N n (.int .i64 m) (.bool d) (.str (List.replicate i (longC d))) (.int .i64 (i : Int)) H) Q
 | _, _, 0, _, hn => by omega
 | 0, i, n + 1, hi, hn => by
  obtain rfl : i = m := by omega
  have h1 : ¬ ((i : Int) < (i : Int)) := by omega
  simp -implicitDefEqProofs (disch := first | assumption | omega | (simp only [nxB]; omega) | (simp only [oneB])) only [s6_l6, s6_b6, xlen, AV.cells, splice, aload, astore, Nat.reduceAdd, Nat.reduceLeDiff, reduceIte, allB, h1, decide_false]
  exact hQ
 | c + 1, i, n + 1, hi, hn => by
  have h1 : ((i : Int) < (m : Int)) := by omega
  have ea : fbin P .add 9 true (.str (List.replicate i (longC d))) (.str [longC d]) = some (.str (List.replicate (i + 1) (longC d))) := by
   rw [fbin_sadd _ _ _ _ (by simp; omega), ← List.replicate_succ']
  cases d <;> (simp only [longC, cond_true, cond_false] at ea hQ ⊢; simp -implicitDefEqProofs (disch := first | assumption | omega | (simp only [nxB]; omega) | (simp only [oneB])) only [s6_l6, s6_b6, s6_j7, xlen, AV.cells, splice, aload, astore, Nat.reduceAdd, Nat.reduceLeDiff, reduceIte, allB, h1, decide_true, ea, wn1])
  ·exact long_loop6 (d := false) hm hQ c (i + 1) n (by omega) (by omega)
  ·exact long_loop6 (d := true) hm hQ c (i + 1) n (by omega) (by omega)
theorem long_run {H : AHeap} (hg : Gl H) (i : Int) (d : Bool) : W (s6 (evw P orc) 40 (.int .i64 i) (.bool d) H) fun v H' => v = .bool true ∧ Pur H H' := by
 rw [s6]
 by_cases c1 : i < 1
 ·simp -implicitDefEqProofs (disch := first | assumption | omega | (simp only [nxB]; omega) | (simp only [oneB])) only [xlen, evB, binB, c1, decide_true]
  exact W_some.2 ⟨rfl, .refl _⟩
 by_cases c2 : 30 < i
 ·simp -implicitDefEqProofs (disch := first | assumption | omega | (simp only [nxB]; omega) | (simp only [oneB])) only [xlen, evB, binB, c1, c2, decide_true, decide_false]
  exact W_some.2 ⟨rfl, .refl _⟩
 obtain ⟨n, rfl⟩ : ∃ k : Nat, i = k := ⟨i.toNat, by omega⟩
 simp -implicitDefEqProofs (disch := first | assumption | omega | (simp only [nxB]; omega) | (simp only [oneB])) only [xlen, evB, binB, c1, c2, decide_false]
 refine long_loop6 (m := n) (by omega) ?_ n 0 40 (by omega) (by omega)
 have hok : longOk d n = true := by
  have h := List.all_eq_true.1 long_all d (by cases d <;> simp)
  have h := List.all_eq_true.1 h (n - 1) (List.mem_range.2 (by omega))
  have e : n - 1 + 1 = n := by omega
  rw [e] at h
  exact h
 have ea : fbin P .add 9 true (.str [32]) (.str (List.replicate n (longC d))) = some (.str (32 :: List.replicate n (longC d))) := fbin_sadd _ _ _ _ (by simp; omega)
 have key : W (s6_j1 (evw P orc) 40 (.int .i64 n) (.str (List.replicate n (longC d))) (.int .i64 (longMost d)) H) fun v H' => v = .bool true ∧ Pur H H' := by
  simp -implicitDefEqProofs (disch := first | assumption | omega | (simp only [nxB]; omega) | (simp only [oneB])) only [s6_j1, xlen, AV.cells, splice, aload, astore, Nat.reduceAdd, Nat.reduceLeDiff, reduceIte, allB, ea]
  refine W_call (lTokens_spec hg _) ?_
  rintro _ H1 ⟨tv, rfl, ht, p1⟩
  refine ⟨p1.1, ?_⟩
  rcases hq : tokensS (32 :: List.replicate n (longC d)) with ⟨T, f, p⟩
  rw [hq] at ht
  have p1' := p1.then_push (.row false 2 [[.int .i64 f, .int .i64 p]])
  simp -implicitDefEqProofs (disch := first | assumption | omega | (simp only [nxB]; omega) | (simp only [oneB])) only [xlen, AV.cells, splice, aload, astore, Nat.reduceAdd, Nat.reduceLeDiff, reduceIte, allB, AHeap.push_set_lt]
  refine long_loop5 ?_ 11 0 40 (by omega) (by omega)
  refine long_loop4 (fun m hm => ?_) 6 110 40 (by decide) (by omega) (by omega)
  exact long_j3 hg (by omega) (by omega) hm 40 (ht.pur (Pur.push _ _)) p1' (AHeap.get_push_same _ _) hok hq
 cases d
 ·simp -implicitDefEqProofs (disch := first | assumption | omega | (simp only [nxB]; omega) | (simp only [oneB])) only [s6_j0, xlen, evB]; exact key
 ·simp -implicitDefEqProofs (disch := first | assumption | omega | (simp only [nxB]; omega) | (simp only [oneB])) only [s6_j0, xlen, evB]; exact key
end Go.Proofs.YtgcamjgnfeajiaaDoor


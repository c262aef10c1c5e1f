/-
  Texts of one proof, laid together: L2 L3 L4 ShL A1.
-/
import Derived.Test.YtghmbpmaafnodaaGreatDoorMO
import Derived.Test.YtghmbpmaafnodaaGreatDoorMD
import Derived.Test.YtghmbpmaafnodaaGreatDoorMG
set_option linter.unusedVariables false
set_option linter.unusedSimpArgs false
namespace Go.Proofs.YtghmbpmaafnodaaGreatDoor
open Go.Ev
theorem une9 : P.underlying 9 = some .string := by kernel_rfl
end Go.Proofs.YtghmbpmaafnodaaGreatDoor

namespace Go.Proofs.YtghmbpmaafnodaaGreatDoor
open Go.Ev
theorem bd57e (k : Int) (p : Int) : abuild P 57 [(0, .int .i64 k), (3, .int .i64 p)] = some (.agg [.int .i64 k, .str [], .int .i64 0, .int .i64 p]) := by kernel_rfl
theorem runN_le (d : Bool) : ∀ s : Bs, runN d s ≤ s.length
 | [] => Nat.le_refl _
 | c :: r => by
  rw [runN]
  have := runN_le d r
  cases digB c || (!d && letB c) with
  | true => simp only [cond_true, List.length_cons]; omega
  | false => simp only [cond_false, List.length_cons]; omega
def oneV (p : Nat) : Option (Int × Bs × Int × Nat) → AV
 | none => .tuple [.agg [.int .i64 0, .str [], .int .i64 0, .int .i64 0], .int .i64 0]
 | some (k, t, v, m) => .tuple [.agg [.int .i64 k, .str t, .int .i64 v, .int .i64 p], .int .i64 m]
theorem sl22_1 (l : Nat) (t : Tok) : sliceOf P l 50 1 [(0, t.v)] = some (.sl l 0 1 4 (some 1), .row false 4 [t.cells]) := by
 obtain ⟨k, x, n, p⟩ := t
 kernel_rfl
theorem un50 : P.underlying 50 = some (.slice 57) := by kernel_rfl
theorem by57 : tyBytes P 57 = some 40 := by kernel_rfl
theorem az57 : azero P 57 = some (.agg [.int .i64 0, .str [], .int .i64 0, .int .i64 0]) := by kernel_rfl
theorem ap22_nil {H : AHeap} {L : Nat} {cs : List AV} {cap : Option Nat} {ro : Bool} (hg : H.get L = some (.row ro 4 [cs])) : aappend P H [50, 50] .nilSl (.sl L 0 1 4 cap) = some (.sl H.next 0 1 4 none, H.push (.row false 4 [cs])) := by
 simp [aappend, un50, ts57, by57, az57, anews, aels, hg, AV.cells]
theorem ap22_sl {H : AHeap} {L l n : Nat} {cs : List AV} {els : List (List AV)} {cap : Option Nat} {ro : Bool} (hg : H.get L = some (.row ro 4 [cs])) (hl : H.get l = some (.row false 4 els)) (hn : els.length = n) (hb : n ≤ 1000000000) : aappend P H [50, 50] (.sl l 0 n 4 none) (.sl L 0 1 4 cap) = some (.sl H.next 0 (n + 1) 4 none, (H.set l .dead).push (.row false 4 (els ++ [cs]))) := by
 have h1 : (n + 1) * 40 ≤ 140737488355328 := by omega
 have h2 : n + 1 ≤ 9223372036854775807 := by omega
 simp [aappend, un50, ts57, by57, az57, anews, aels, hg, hl, AV.cells, hn, h1, h2]
 rw [List.take_of_length_le (by omega)]
def Bld (H0 H : AHeap) (v : AV) (T : List Tok) : Prop := (v = .nilSl ∧ T = []) ∨ ∃ l, v = .sl l 0 T.length 4 none ∧ H0.next ≤ l ∧ H.get l = some (.row false 4 (T.map Tok.cells))
theorem Bld.tok {H0 H : AHeap} {v : AV} {T : List Tok} (h : Bld H0 H v T) : TokSl H v T := by
 rcases h with h | ⟨l, rfl, _, h2⟩
 ·exact .inl h
 ·refine .inr ⟨l, 0, none, rfl, .inr ⟨false, _, h2, fun k t hk => ?_⟩⟩
  simp [hk]
theorem Bld.pur {H0 H H' : AHeap} {v : AV} {T : List Tok} (h : Bld H0 H v T) (p : Pur H H') : Bld H0 H' v T := by
 rcases h with h | ⟨l, e, h1, h2⟩
 ·exact .inl h
 ·exact .inr ⟨l, e, h1, p.get h2⟩
theorem app_tok {H0 H : AHeap} {v : AV} {T : List Tok} (h : Bld H0 H v T) (p : Pur H0 H) (hT : T.length ≤ 1000000) (t : Tok) : ∃ v' H', aappend P (H.push (.row false 4 [t.cells])) [50, 50] v (.sl H.next 0 1 4 (some 1)) = some (v', H') ∧ Bld H0 H' v' (T ++ [t]) ∧ Pur H0 H' ∧ (H.push (.row false 4 [t.cells])).next ≤ H'.next ∧ (∀ l, l < H.next → (∀ e, v ≠ .sl l 0 T.length 4 e) → H'.get l = H.get l) := by
 have hg : (H.push (.row false 4 [t.cells])).get H.next = some (.row false 4 [t.cells]) := AHeap.get_push_same _ _
 rcases h with ⟨rfl, rfl⟩ | ⟨l, rfl, h1, h2⟩
 ·refine ⟨_, _, ap22_nil hg, .inr ⟨_, rfl, ?_, ?_⟩, (p.then_push _).then_push _, by simp, fun l hl _ => ?_⟩
  ·have := p.1; simp only [AHeap.next_push]; omega
  ·exact AHeap.get_push_same (H.push (.row false 4 [t.cells])) _
  ·rw [AHeap.get_push_other (by simp only [AHeap.next_push]; omega), AHeap.get_push_other (by omega)]
 ·have hl := AHeap.get_lt h2
  have h2' : (H.push (.row false 4 [t.cells])).get l = some (.row false 4 (T.map Tok.cells)) := by rw [AHeap.get_push_other (by omega)]; exact h2
  refine ⟨_, _, ap22_sl hg h2' (by simp) (by omega), .inr ⟨(H.push (.row false 4 [t.cells])).next, by simp, ?_, ?_⟩, ?_, by simp, fun j hj hne => ?_⟩
  ·have := p.1; simp only [AHeap.next_push, AHeap.next_set]; omega
  ·have e : ((H.push (.row false 4 [t.cells])).set l .dead).next = (H.push (.row false 4 [t.cells])).next := rfl
   simp only [List.map_append, List.map_cons, List.map_nil]
   rw [← e]
   exact AHeap.get_push_same _ _
  ·exact ((p.then_push _).then_set h1 _).then_push _
  ·rw [AHeap.get_push_other (by simp only [AHeap.next_push, AHeap.next_set]; omega), AHeap.get_set_other (by rintro rfl; exact hne _ rfl), AHeap.get_push_other (by omega)]
end Go.Proofs.YtghmbpmaafnodaaGreatDoor

namespace Go.Proofs.YtghmbpmaafnodaaGreatDoor
open Go.Ev
theorem runN_pos (d : Bool) (c : UInt8) (r : Bs) (h : (digB c || (!d && letB c)) = true) : 1 ≤ runN d (c :: r) := by
 rw [runN, h]; simp
theorem signN_le (s : Bs) : (signN s).length ≤ s.length := by
 unfold signN
 cases decide (2 ≤ s.length) && memB (s.take 2) twosL with
 | true => simp only [cond_true, List.length_take]; omega
 | false =>
  simp only [cond_false]
  cases s with
  | nil => simp
  | cons c r => simp only [List.length_cons]; cases memC c onesL <;> simp
theorem oneN_len {s : Bs} {k : Int} {t : Bs} {v : Int} {m : Nat} (h : oneN s = some (k, t, v, m)) : 1 ≤ m ∧ m ≤ s.length := by
 cases s with
 | nil => simp [oneN] at h
 | cons c r =>
  have hr := fun d => runN_le d (c :: r)
  rw [oneN] at h
  cases hl : letB c with
  | true =>
   have hp := runN_pos false c r (by simp [hl])
   rw [hl, cond_true] at h
   cases hw : wordB ((c :: r).take (runN false (c :: r))) with
   | true => rw [hw, cond_true] at h; cases h; exact ⟨hp, hr false⟩
   | false =>
    rw [hw, cond_false] at h
    cases hn : nameB ((c :: r).take (runN false (c :: r))) with
    | true => rw [hn, cond_true] at h; cases h; exact ⟨hp, hr false⟩
    | false => rw [hn, cond_false] at h; cases h
  | false =>
   rw [hl, cond_false] at h
   cases hd : digB c with
   | true =>
    have hp := runN_pos true c r (by simp [hd])
    rw [hd, cond_true] at h
    split at h
    ·cases h
    ·rename_i z hz
     rw [Bool.cond_eq_ite] at h
     split at h
     ·cases h
     ·cases h; exact ⟨hp, hr true⟩
   | false =>
    rw [hd, cond_false] at h
    cases hs : signN (c :: r) == [] with
    | true => rw [hs, cond_true] at h; cases h
    | false =>
     rw [hs, cond_false] at h
     cases h
     have hne : ¬ signN (c :: r) = [] := by simpa using hs
     have := signN_le (c :: r)
     exact ⟨List.length_pos_iff.2 hne, this⟩
theorem blankN_le : ∀ (s : Bs) (b : Bool), blankN b s ≤ s.length
 | [], b => by cases b <;> simp [blankN]
 | c :: r, true => by
  have h1 := blankN_le r true
  have h2 := blankN_le r false
  rw [blankN]
  cases c.toNat == 10 <;> simp only [cond_true, cond_false, List.length_cons] <;> omega
 | c :: r, false => by
  have h1 := blankN_le r true
  have h2 := blankN_le r false
  rw [blankN]
  cases isBlank c
  ·cases (c == 47 && r.head? == some 47) <;> simp only [cond_true, cond_false, List.length_cons] <;> omega
  ·simp only [cond_true, List.length_cons]; omega
def TokPost (H0 : AHeap) (x : List Tok × Int × Int) (r : AV) (H' : AHeap) : Prop := ∃ tv, r = .tuple [tv, .agg [.int .i64 x.2.1, .int .i64 x.2.2]] ∧ TokSl H' tv x.1 ∧ Pur H0 H'
def lexR (T : List Tok) : Nat ⊕ List Tok → List Tok × Int × Int
 | .inl e => ([], 1, e)
 | .inr l => (T ++ l, 0, 0)
theorem bd29w (k p : Int) : abuild P 29 [(0, .int .i64 k), (1, .int .i64 p)] = some (.agg [.int .i64 k, .int .i64 p]) := by kernel_rfl
end Go.Proofs.YtghmbpmaafnodaaGreatDoor

namespace Go.Proofs.YtghmbpmaafnodaaGreatDoor
open Go.Ev
set_option maxRecDepth 100000
noncomputable section
def s97 (G : CallT) (x0 : AV) (H : AHeap) : O :=
 xcall H (G 114 [] H) fun x3 h1 =>
 xcall h1 (G 113 [x3, x0] h1) fun x5 h2 =>
 some (x5, h2)
theorem s97_eq (G : CallT) (N : Nat) (x0 : AV) (H : AHeap) : cF Tryz.f97 G N (argsF [x0]) H = s97 G x0 H := by
 refine via_top (A := cF Tryz.f97 G N) (via_leaf _) ?_
 delta s97
 kernel_rfl
theorem run97 (N : Nat) {x0 : AV} {H : AHeap} {r : AV × AHeap} (h : s97 (evw P orc) x0 H = some r) : evw P orc 97 [x0] H = some r :=
 runF (by kernel_rfl) Tryz.func97 (by kernel_rfl) (by kernel_rfl) (by kernel_rfl) ((s97_eq (evw P orc) N x0 H).trans h)
def s98_13 (G : CallT) (x9 x0 x11 : AV) (h4 : AHeap) : O :=
 xg x9 true h4 (qp (aindex P 9 x11 (.int .i64 0))) fun x12 h5 =>
 xg x9 true h5 (fun q => xeff h5 (G 68 [x12] h5) q) fun x13 h6 =>
 xb (pickOf x9 (some x13) (some (.bool false))) fun x14 =>
 xg x14 true h6 (qv x0) fun x16 h7 =>
 xg x14 true h7 (fun q => xeff h7 (G 95 [x16, (.func (.func 96) [] [])] h7) q) fun x17 h8 =>
 xg x14 true h8 (qv x0) fun x18 h9 =>
 xg x14 true h9 (fun q => xboth (abuiltin P .empty .len [9] [x18]) (abuiltin P h9 .len [9] [x18]) q) fun x19 h10 =>
 xg x14 true h10 (qp (fbin P .eql 3 false x17 x19)) fun x20 h11 =>
 xb (pickOf x14 (some x20) (some (.bool false))) fun x21 =>
 xg x21 true h11 (qv x0) fun x23 h12 =>
 xg x21 true h12 (fun q => xeff h12 (G 97 [x23] h12) q) fun x24 h13 =>
 xg x21 true h13 (qp (aun .not x24)) fun x25 h14 =>
 xb (pickOf x21 (some x25) (some (.bool false))) fun x26 =>
 some (x26, h14)
def s98 (G : CallT) (x0 : AV) (H : AHeap) : O :=
 xb (fbin P .neq 9 true x0 (.str [])) fun x4 =>
 xg x4 true H (qv x0) fun x6 h1 =>
 xg x4 true h1 (fun q => xboth (abuiltin P .empty .len [9] [x6]) (abuiltin P h1 .len [9] [x6]) q) fun x7 h2 =>
 xg x4 true h2 (qp (fbin P .leq 3 true x7 (.int .i64 8))) fun x8 h3 =>
 xb (pickOf x4 (some x8) (some (.bool false))) fun x9 =>
 xg x9 true h3 (qv x0) (s98_13 G x9 x0)
theorem s98_eq (G : CallT) (N : Nat) (x0 : AV) (H : AHeap) : cF Tryz.f98 G N (argsF [x0]) H = s98 G x0 H := by
 refine via_top (A := cF Tryz.f98 G N) (via_leaf _) ?_
 delta s98 s98_13
 kernel_rfl
theorem run98 (N : Nat) {x0 : AV} {H : AHeap} {r : AV × AHeap} (h : s98 (evw P orc) x0 H = some r) : evw P orc 98 [x0] H = some r :=
 runF (by kernel_rfl) Tryz.func98 (by kernel_rfl) (by kernel_rfl) (by kernel_rfl) ((s98_eq (evw P orc) N x0 H).trans h)
def s46_j0 (G : CallT) (N : Nat) (x1 : AV) (H : AHeap) : O :=
 some (x1, H)
theorem s46_j0_eq (G : CallT) (N : Nat) : ∀ R H, codeC P G N (Code.snd (Code.snd (bodyOf Tryz.f46))) (rC Tryz.f46) [] (rC Tryz.f46) R H = s46_j0 G N (R 1) H := by
 refine via_trans (via_leaf _) fun R H => ?_
 delta s46_j0
 kernel_rfl
def s46_b1 (G : CallT) (N : Nat) (L1 : AV → AV → AHeap → O) (x0 x1 : AV) (H : AHeap) : O :=
 xlen P .len [9] [x0] H fun x8 =>
 xb (fbin P .lss 3 false x1 x8) fun x9 =>
 xif (some x9) (xb (aindex P 9 x0 x1) fun x14 =>
 xcall H (G 66 [(.str [32, 9, 10, 13]), x14] H) fun x15 h1 =>
 xb (fbin P .geq 3 true x15 (.int .i64 0)) fun x16 =>
 xif (some x16) (xb (fbin P .add 3 true x1 (.int .i64 1)) fun x18 =>
 L1 x0 x18 h1) (xb (aslice P 9 x0 (some x1) none none) fun x22 =>
 xcall h1 (G 67 [x22, (.str [47, 47])] h1) fun x23 h2 =>
 xif (some x23) (xb (aslice P 9 x0 (some x1) none none) fun x26 =>
 xcall h2 (G 66 [x26, (.int .u8 10)] h2) fun x27 h3 =>
 xb (fbin P .lss 3 true x27 (.int .i64 0)) fun x29 =>
 xif (some x29) (xlen P .len [9] [x0] h3 fun x31 =>
 some (x31, h3)) (xb (fbin P .add 3 false x1 x27) fun x34 =>
 L1 x0 x34 h3)) (some (x1, h2)))) (s46_j0 G N x1 H)
def s46_l1 (G : CallT) (N : Nat) : Nat → AV → AV → AHeap → O
 | 0, _, _, _ => none
 | n + 1, x0, x1, H => s46_b1 G N (s46_l1 G N n) x0 x1 H
theorem s46_b1_eq (G : CallT) (N : Nat) (L1 : AV → AV → AHeap → O) : ∀ R H, codeC P G N (Code.fst (Code.fst (Code.fst (Code.snd (bodyOf Tryz.f46))))) (fun R H => L1 (R 0) (R 1) H) [(0, (fun R H => s46_j0 G N (R 1) H))] (rC Tryz.f46) R H = s46_b1 G N L1 (R 0) (R 1) H := by
 refine via_trans (via_leaf _) fun R H => ?_
 delta s46_b1
 generalize s46_j0 G N = J0
 revert J0
 refine id ?_
 intro J0
 kernel_rfl
def s46 (G : CallT) (N : Nat) (x0 x1 : AV) (H : AHeap) : O :=
 s46_l1 G N N x0 x1 H
theorem s46_eq (G : CallT) (N : Nat) (x0 : AV) (x1 : AV) (H : AHeap) : cF Tryz.f46 G N (argsF [x0, x1]) H = s46 G N x0 x1 H := by
 refine via_top (A := cF Tryz.f46 G N) ((via_seq (by kernel_rfl) ((via_seq (by kernel_rfl) (s46_j0_eq G N) ((via_block (by kernel_rfl) ((via_loop (k := fun m R H => s46_l1 G N m (R 0) (R 1) H) (by kernel_rfl) (fun R H => by kernel_rfl) (fun m => s46_b1_eq G N (s46_l1 G N m)))))))) (via_leaf _))) ?_
 delta s46
 generalize s46_l1 G N N = J0
 revert J0
 refine id ?_
 intro J0
 kernel_rfl
theorem run46 (N : Nat) {x0 x1 : AV} {H : AHeap} {r : AV × AHeap} (h : s46 (evw P orc) N x0 x1 H = some r) : evw P orc 46 [x0, x1] H = some r :=
 runF (by kernel_rfl) Tryz.func46 (by kernel_rfl) (by kernel_rfl) (by kernel_rfl) ((s46_eq (evw P orc) N x0 x1 H).trans h)
def s47_j0 (G : CallT) (N : Nat) (x2 : AV) (H : AHeap) : O :=
 xstore H (astore P H 57 x2 (.agg [(.int .i64 0), (.str []), (.int .i64 0), (.int .i64 0)])) fun h1 =>
 xb (aload P h1 57 x2) fun r =>
 some (.tuple [r, (.int .i64 0)], h1)
theorem s47_j0_eq (G : CallT) (N : Nat) : ∀ R H, codeC P G N (Code.snd (Code.snd (Code.snd (bodyOf Tryz.f47)))) (rC Tryz.f47) [] (rC Tryz.f47) R H = s47_j0 G N (R 2) H := by
 refine via_trans (via_leaf _) fun R H => ?_
 delta s47_j0
 kernel_rfl
def s47_b1 (G : CallT) (N : Nat) (L1 : AV → AV → AV → AV → AV → AHeap → O) (x0 x2 : AV) (x22 x23 x24 : AV) (H : AHeap) : O :=
 xb (fbin P .lss 3 false x24 x23) fun x25 =>
 xif (some x25) (xb (aindexAddr P 48 x22 x24) fun x26 =>
 xb (aload P H 9 x26) fun x27 =>
 xcall H (G 67 [x0, x27] H) fun x30 h1 =>
 xif (some x30) (xb (abuild P 57 [(0, (.int .i64 4)), (1, x27)]) fun x32 =>
 xlen P .len [9] [x27] h1 fun x34 =>
 xstore h1 (astore P h1 57 x2 x32) fun h2 =>
 xb (aload P h2 57 x2) fun r =>
 some (.tuple [r, x34], h2)) (xb (fbin P .add 3 true x24 (.int .i64 1)) fun x35 =>
 L1 x0 x2 x22 x23 x35 h1)) (s47_j0 G N x2 H)
def s47_l1 (G : CallT) (N : Nat) : Nat → AV → AV → AV → AV → AV → AHeap → O
 | 0, _, _, _, _, _, _ => none
 | n + 1, x0, x2, x22, x23, x24, H => s47_b1 G N (s47_l1 G N n) x0 x2 x22 x23 x24 H
theorem s47_b1_eq (G : CallT) (N : Nat) (L1 : AV → AV → AV → AV → AV → AHeap → O) : ∀ R H, codeC P G N (Code.fst (Code.fst (Code.snd (Code.fst (Code.snd (Code.snd (bodyOf Tryz.f47))))))) (fun R H => L1 (R 0) (R 2) (R 22) (R 23) (R 24) H) [(1, (fun R H => s47_j0 G N (R 2) H))] (rC Tryz.f47) R H = s47_b1 G N L1 (R 0) (R 2) (R 22) (R 23) (R 24) H := by
 refine via_trans (via_leaf _) fun R H => ?_
 delta s47_b1
 generalize s47_j0 G N = J0
 revert J0
 refine id ?_
 intro J0
 kernel_rfl
def s47 (G : CallT) (N : Nat) (x0 : AV) (H : AHeap) : O :=
 xalloc H [(.int .i64 0), (.str []), (.int .i64 0), (.int .i64 0)] fun x2 h1 =>
 xb (aindex P 9 x0 (.int .i64 0)) fun x8 =>
 xcall h1 (G 68 [x8] h1) fun x9 h2 =>
 xif (some x9) (xcall h2 (G 69 [x0] h2) fun x11 h3 =>
 xb (aextract x11 0) fun x12 =>
 xb (aextract x11 1) fun x13 =>
 xstore h3 (astore P h3 57 x2 x12) fun h4 =>
 xb (aload P h4 57 x2) fun r =>
 some (.tuple [r, x13], h4)) (xb (aindex P 9 x0 (.int .i64 0)) fun x16 =>
 xcall h2 (G 70 [x16] h2) fun x17 h3 =>
 xif (some x17) (xcall h3 (G 71 [x0] h3) fun x19 h4 =>
 xb (aextract x19 0) fun x20 =>
 xb (aextract x19 1) fun x21 =>
 xstore h4 (astore P h4 57 x2 x20) fun h5 =>
 xb (aload P h5 57 x2) fun r =>
 some (.tuple [r, x21], h5)) (xcall h3 (G 72 [] h3) fun x22 h4 =>
 xlen P .len [48] [x22] h4 fun x23 =>
 s47_l1 G N N x0 x2 x22 x23 (.int .i64 0) h4))
theorem s47_eq (G : CallT) (N : Nat) (x0 : AV) (H : AHeap) : cF Tryz.f47 G N (argsF [x0]) H = s47 G N x0 H := by
 refine via_top (A := cF Tryz.f47 G N) ((via_seq (by kernel_rfl) ((via_seq (by kernel_rfl) ((via_seq (by kernel_rfl) (s47_j0_eq G N) ((via_seq (by kernel_rfl) ((via_block (by kernel_rfl) ((via_loop (k := fun m R H => s47_l1 G N m (R 0) (R 2) (R 22) (R 23) (R 24) H) (by kernel_rfl) (fun R H => by kernel_rfl) (fun m => s47_b1_eq G N (s47_l1 G N m)))))) (via_leaf _))))) (via_leaf _))) (via_leaf _))) ?_
 delta s47
 generalize s47_l1 G N N = J0
 revert J0
 refine id ?_
 intro J0
 kernel_rfl
theorem run47 (N : Nat) {x0 : AV} {H : AHeap} {r : AV × AHeap} (h : s47 (evw P orc) N x0 H = some r) : evw P orc 47 [x0] H = some r :=
 runF (by kernel_rfl) Tryz.func47 (by kernel_rfl) (by kernel_rfl) (by kernel_rfl) ((s47_eq (evw P orc) N x0 H).trans h)
def s113 (G : CallT) (x0 x1 : AV) (H : AHeap) : O :=
 xcall H (G 129 [x0, x1] H) fun x7 h1 =>
 xb (fbin P .geq 3 true x7 (.int .i64 0)) fun x8 =>
 some (x8, h1)
theorem s113_eq (G : CallT) (N : Nat) (x0 : AV) (x1 : AV) (H : AHeap) : cF Tryz.f113 G N (argsF [x0, x1]) H = s113 G x0 x1 H := by
 refine via_top (A := cF Tryz.f113 G N) (via_leaf _) ?_
 delta s113
 kernel_rfl
theorem run113 (N : Nat) {x0 x1 : AV} {H : AHeap} {r : AV × AHeap} (h : s113 (evw P orc) x0 x1 H = some r) : evw P orc 113 [x0, x1] H = some r :=
 runF (by kernel_rfl) Tryz.func113 (by kernel_rfl) (by kernel_rfl) (by kernel_rfl) ((s113_eq (evw P orc) N x0 x1 H).trans h)
def s114 (G : CallT) (H : AHeap) : O :=
 xcall H (G 100 [(.str [114, 101, 99, 111, 114, 100, 32, 103, 108, 111, 98, 97, 108, 32, 102, 117, 110, 99, 32, 118, 97, 114, 32, 108, 101, 116, 32, 105, 102, 32, 101, 108, 115, 101, 32, 119, 104, 105, 108, 101, 32, 114, 101, 116, 117, 114, 110, 32, 112, 114, 105, 110, 116, 32, 110, 117, 108, 108, 32, 110, 101, 119, 32, 108, 101, 110, 32, 114, 101, 97, 100, 32, 116, 114, 117, 101, 32, 102, 97, 108, 115, 101, 32, 105, 110, 116, 32, 98, 111, 111, 108])] H) fun x1 h1 =>
 some (x1, h1)
theorem s114_eq (G : CallT) (N : Nat) (H : AHeap) : cF Tryz.f114 G N (argsF []) H = s114 G H := by
 refine via_top (A := cF Tryz.f114 G N) (via_leaf _) ?_
 delta s114
 kernel_rfl
theorem run114 (N : Nat) {H : AHeap} {r : AV × AHeap} (h : s114 (evw P orc) H = some r) : evw P orc 114 [] H = some r :=
 runF (by kernel_rfl) Tryz.func114 (by kernel_rfl) (by kernel_rfl) (by kernel_rfl) ((s114_eq (evw P orc) N H).trans h)
def s68 (G : CallT) (x0 : AV) (H : AHeap) : O :=
 xb (fbin P .geq 5 true x0 (.int .u8 97)) fun x4 =>
 xg x4 true H (qv x0) fun x6 h1 =>
 xg x4 true h1 (qp (fbin P .leq 5 true x6 (.int .u8 122))) fun x7 h2 =>
 xb (pickOf x4 (some x7) (some (.bool false))) fun x8 =>
 xg x8 false h2 (qv x0) fun x10 h3 =>
 xg x8 false h3 (qp (fbin P .geq 5 true x10 (.int .u8 65))) fun x11 h4 =>
 xg x8 false h4 (qv x11) fun x12 h5 =>
 xg x12 true h5 (qv x0) fun x13 h6 =>
 xg x12 true h6 (qp (fbin P .leq 5 true x13 (.int .u8 90))) fun x14 h7 =>
 xg x8 false h7 (qp (pickOf x12 (some x14) (some (.bool false)))) fun x15 h8 =>
 xb (pickOf x8 (some (.bool true)) (some x15)) fun x16 =>
 some (x16, h8)
theorem s68_eq (G : CallT) (N : Nat) (x0 : AV) (H : AHeap) : cF Tryz.f68 G N (argsF [x0]) H = s68 G x0 H := by
 refine via_top (A := cF Tryz.f68 G N) (via_leaf _) ?_
 delta s68
 kernel_rfl
theorem run68 (N : Nat) {x0 : AV} {H : AHeap} {r : AV × AHeap} (h : s68 (evw P orc) x0 H = some r) : evw P orc 68 [x0] H = some r :=
 runF (by kernel_rfl) Tryz.func68 (by kernel_rfl) (by kernel_rfl) (by kernel_rfl) ((s68_eq (evw P orc) N x0 H).trans h)
def s95_j0 (G : CallT) (N : Nat) (x5 : AV) (H : AHeap) : O :=
 some (x5, H)
theorem s95_j0_eq (G : CallT) (N : Nat) : ∀ R H, codeC P G N (Code.snd (Code.snd (Code.snd (bodyOf Tryz.f95)))) (rC Tryz.f95) [] (rC Tryz.f95) R H = s95_j0 G N (R 5) H := by
 refine via_trans (via_leaf _) fun R H => ?_
 delta s95_j0
 kernel_rfl
def s95_b1 (G : CallT) (N : Nat) (L1 : AV → AV → AV → AHeap → O) (x0 x1 x5 : AV) (H : AHeap) : O :=
 xlen P .len [9] [x0] H fun x8 =>
 xb (fbin P .lss 3 false x5 x8) fun x9 =>
 xg x9 true H (qv x1) fun x11 h1 =>
 xg x9 true h1 (qv x0) fun x12 h2 =>
 xg x9 true h2 (qv x5) fun x13 h3 =>
 xg x9 true h3 (qp (aindex P 9 x12 x13)) fun x14 h4 =>
 xg x9 true h4 (fun q => (calleeOf x11 [x14]).bind fun p => xeff h4 (G p.1 p.2 h4) q) fun x15 h5 =>
 xb (pickOf x9 (some x15) (some (.bool false))) fun x16 =>
 xif (some x16) (xb (fbin P .add 3 true x5 (.int .i64 1)) fun x18 =>
 L1 x0 x1 x18 h5) (s95_j0 G N x5 h5)
def s95_l1 (G : CallT) (N : Nat) : Nat → AV → AV → AV → AHeap → O
 | 0, _, _, _, _ => none
 | n + 1, x0, x1, x5, H => s95_b1 G N (s95_l1 G N n) x0 x1 x5 H
theorem s95_b1_eq (G : CallT) (N : Nat) (L1 : AV → AV → AV → AHeap → O) : ∀ R H, codeC P G N (Code.fst (Code.fst (Code.fst (Code.snd (Code.snd (bodyOf Tryz.f95)))))) (fun R H => L1 (R 0) (R 1) (R 5) H) [(0, (fun R H => s95_j0 G N (R 5) H))] (rC Tryz.f95) R H = s95_b1 G N L1 (R 0) (R 1) (R 5) H := by
 refine via_trans (via_leaf _) fun R H => ?_
 delta s95_b1
 generalize s95_j0 G N = J0
 revert J0
 refine id ?_
 intro J0
 kernel_rfl
def s95 (G : CallT) (N : Nat) (x0 x1 : AV) (H : AHeap) : O :=
 s95_l1 G N N x0 x1 (.int .i64 0) H
theorem s95_eq (G : CallT) (N : Nat) (x0 : AV) (x1 : AV) (H : AHeap) : cF Tryz.f95 G N (argsF [x0, x1]) H = s95 G N x0 x1 H := by
 refine via_top (A := cF Tryz.f95 G N) ((via_seq (by kernel_rfl) ((via_seq (by kernel_rfl) ((via_seq (by kernel_rfl) (s95_j0_eq G N) ((via_block (by kernel_rfl) ((via_loop (k := fun m R H => s95_l1 G N m (R 0) (R 1) (R 5) H) (by kernel_rfl) (fun R H => by kernel_rfl) (fun m => s95_b1_eq G N (s95_l1 G N m)))))))) (via_leaf _))) (via_leaf _))) ?_
 delta s95
 generalize s95_l1 G N N = J0
 revert J0
 refine id ?_
 intro J0
 kernel_rfl
theorem run95 (N : Nat) {x0 x1 : AV} {H : AHeap} {r : AV × AHeap} (h : s95 (evw P orc) N x0 x1 H = some r) : evw P orc 95 [x0, x1] H = some r :=
 runF (by kernel_rfl) Tryz.func95 (by kernel_rfl) (by kernel_rfl) (by kernel_rfl) ((s95_eq (evw P orc) N x0 x1 H).trans h)
def s96 (G : CallT) (x0 : AV) (H : AHeap) : O :=
 xcall H (G 68 [x0] H) fun x4 h1 =>
 xg x4 false h1 (qv x0) fun x6 h2 =>
 xg x4 false h2 (fun q => xeff h2 (G 70 [x6] h2) q) fun x7 h3 =>
 xb (pickOf x4 (some (.bool true)) (some x7)) fun x8 =>
 some (x8, h3)
theorem s96_eq (G : CallT) (N : Nat) (x0 : AV) (H : AHeap) : cF Tryz.f96 G N (argsF [x0]) H = s96 G x0 H := by
 refine via_top (A := cF Tryz.f96 G N) (via_leaf _) ?_
 delta s96
 kernel_rfl
theorem run96 (N : Nat) {x0 : AV} {H : AHeap} {r : AV × AHeap} (h : s96 (evw P orc) x0 H = some r) : evw P orc 96 [x0] H = some r :=
 runF (by kernel_rfl) Tryz.func96 (by kernel_rfl) (by kernel_rfl) (by kernel_rfl) ((s96_eq (evw P orc) N x0 H).trans h)
def s67 (G : CallT) (x0 x1 : AV) (H : AHeap) : O :=
 xcall H (G 94 [x0, x1] H) fun x7 h1 =>
 some (x7, h1)
theorem s67_eq (G : CallT) (N : Nat) (x0 : AV) (x1 : AV) (H : AHeap) : cF Tryz.f67 G N (argsF [x0, x1]) H = s67 G x0 x1 H := by
 refine via_top (A := cF Tryz.f67 G N) (via_leaf _) ?_
 delta s67
 kernel_rfl
theorem run67 (N : Nat) {x0 x1 : AV} {H : AHeap} {r : AV × AHeap} (h : s67 (evw P orc) x0 x1 H = some r) : evw P orc 67 [x0, x1] H = some r :=
 runF (by kernel_rfl) Tryz.func67 (by kernel_rfl) (by kernel_rfl) (by kernel_rfl) ((s67_eq (evw P orc) N x0 x1 H).trans h)
def s69 (G : CallT) (x0 : AV) (H : AHeap) : O :=
 xalloc H [(.int .i64 0), (.str []), (.int .i64 0), (.int .i64 0)] fun x2 h1 =>
 xcall h1 (G 95 [x0, (.func (.func 96) [] [])] h1) fun x7 h2 =>
 xb (aslice P 9 x0 none (some x7) none) fun x10 =>
 xcall h2 (G 97 [x10] h2) fun x13 h3 =>
 xif (some x13) (xb (abuild P 57 [(0, (.int .i64 3)), (1, x10)]) fun x15 =>
 xstore h3 (astore P h3 57 x2 x15) fun h4 =>
 xb (aload P h4 57 x2) fun r =>
 some (.tuple [r, x7], h4)) (xcall h3 (G 98 [x10] h3) fun x19 h4 =>
 xif (some x19) (xb (abuild P 57 [(0, (.int .i64 1)), (1, x10)]) fun x21 =>
 xstore h4 (astore P h4 57 x2 x21) fun h5 =>
 xb (aload P h5 57 x2) fun r =>
 some (.tuple [r, x7], h5)) (xstore h4 (astore P h4 57 x2 (.agg [(.int .i64 0), (.str []), (.int .i64 0), (.int .i64 0)])) fun h5 =>
 xb (aload P h5 57 x2) fun r =>
 some (.tuple [r, (.int .i64 0)], h5)))
theorem s69_eq (G : CallT) (N : Nat) (x0 : AV) (H : AHeap) : cF Tryz.f69 G N (argsF [x0]) H = s69 G x0 H := by
 refine via_top (A := cF Tryz.f69 G N) (via_leaf _) ?_
 delta s69
 kernel_rfl
theorem run69 (N : Nat) {x0 : AV} {H : AHeap} {r : AV × AHeap} (h : s69 (evw P orc) x0 H = some r) : evw P orc 69 [x0] H = some r :=
 runF (by kernel_rfl) Tryz.func69 (by kernel_rfl) (by kernel_rfl) (by kernel_rfl) ((s69_eq (evw P orc) N x0 H).trans h)
def s70 (G : CallT) (x0 : AV) (H : AHeap) : O :=
 xb (fbin P .geq 5 true x0 (.int .u8 48)) fun x4 =>
 xg x4 true H (qv x0) fun x6 h1 =>
 xg x4 true h1 (qp (fbin P .leq 5 true x6 (.int .u8 57))) fun x7 h2 =>
 xb (pickOf x4 (some x7) (some (.bool false))) fun x8 =>
 some (x8, h2)
theorem s70_eq (G : CallT) (N : Nat) (x0 : AV) (H : AHeap) : cF Tryz.f70 G N (argsF [x0]) H = s70 G x0 H := by
 refine via_top (A := cF Tryz.f70 G N) (via_leaf _) ?_
 delta s70
 kernel_rfl
theorem run70 (N : Nat) {x0 : AV} {H : AHeap} {r : AV × AHeap} (h : s70 (evw P orc) x0 H = some r) : evw P orc 70 [x0] H = some r :=
 runF (by kernel_rfl) Tryz.func70 (by kernel_rfl) (by kernel_rfl) (by kernel_rfl) ((s70_eq (evw P orc) N x0 H).trans h)
def s71 (G : CallT) (x0 : AV) (H : AHeap) : O :=
 xalloc H [(.int .i64 0), (.str []), (.int .i64 0), (.int .i64 0)] fun x2 h1 =>
 xcall h1 (G 95 [x0, (.func (.func 70) [] [])] h1) fun x8 h2 =>
 xb (aslice P 9 x0 none (some x8) none) fun x12 =>
 xcall h2 (G 99 [x12] h2) fun x13 h3 =>
 xb (aextract x13 0) fun x14 =>
 xb (aextract x13 1) fun x15 =>
 xb (fbin P .neq 126 true x15 AV.nilIface) fun x17 =>
 xg x17 false h3 (qv x8) fun x19 h4 =>
 xg x17 false h4 (qp (fbin P .gtr 3 true x19 (.int .i64 1))) fun x20 h5 =>
 xg x17 false h5 (qv x20) fun x21 h6 =>
 xg x21 true h6 (qv x0) fun x22 h7 =>
 xg x21 true h7 (qp (aindex P 9 x22 (.int .i64 0))) fun x23 h8 =>
 xg x21 true h8 (qp (fbin P .eql 5 true x23 (.int .u8 48))) fun x24 h9 =>
 xg x17 false h9 (qp (pickOf x21 (some x24) (some (.bool false)))) fun x25 h10 =>
 xb (pickOf x17 (some (.bool true)) (some x25)) fun x26 =>
 xg x26 false h10 (qv x8) fun x28 h11 =>
 xg x26 false h11 (qv x0) fun x29 h12 =>
 xg x26 false h12 (fun q => xboth (abuiltin P .empty .len [9] [x29]) (abuiltin P h12 .len [9] [x29]) q) fun x30 h13 =>
 xg x26 false h13 (qp (fbin P .lss 3 false x28 x30)) fun x31 h14 =>
 xg x26 false h14 (qv x31) fun x32 h15 =>
 xg x32 true h15 (qv x0) fun x33 h16 =>
 xg x32 true h16 (qv x8) fun x34 h17 =>
 xg x32 true h17 (qp (aindex P 9 x33 x34)) fun x35 h18 =>
 xg x32 true h18 (fun q => xeff h18 (G 68 [x35] h18) q) fun x36 h19 =>
 xg x26 false h19 (qp (pickOf x32 (some x36) (some (.bool false)))) fun x37 h20 =>
 xb (pickOf x26 (some (.bool true)) (some x37)) fun x38 =>
 xif (some x38) (xstore h20 (astore P h20 57 x2 (.agg [(.int .i64 0), (.str []), (.int .i64 0), (.int .i64 0)])) fun h21 =>
 xb (aload P h21 57 x2) fun r =>
 some (.tuple [r, (.int .i64 0)], h21)) (xb (abuild P 57 [(0, (.int .i64 2)), (2, x14)]) fun x41 =>
 xstore h20 (astore P h20 57 x2 x41) fun h21 =>
 xb (aload P h21 57 x2) fun r =>
 some (.tuple [r, x8], h21))
theorem s71_eq (G : CallT) (N : Nat) (x0 : AV) (H : AHeap) : cF Tryz.f71 G N (argsF [x0]) H = s71 G x0 H := by
 refine via_top (A := cF Tryz.f71 G N) (via_leaf _) ?_
 delta s71
 kernel_rfl
theorem run71 (N : Nat) {x0 : AV} {H : AHeap} {r : AV × AHeap} (h : s71 (evw P orc) x0 H = some r) : evw P orc 71 [x0] H = some r :=
 runF (by kernel_rfl) Tryz.func71 (by kernel_rfl) (by kernel_rfl) (by kernel_rfl) ((s71_eq (evw P orc) N x0 H).trans h)
def s72 (G : CallT) (H : AHeap) : O :=
 xcall H (G 100 [(.str [60, 61, 32, 61, 61, 32, 33, 61, 32, 38, 38, 32, 124, 124, 32, 123, 32, 125, 32, 40, 32, 41, 32, 91, 32, 93, 32, 59, 32, 58, 32, 44, 32, 46, 32, 61, 32, 43, 32, 45, 32, 42, 32, 47, 32, 37, 32, 60, 32, 33])] H) fun x1 h1 =>
 some (x1, h1)
theorem s72_eq (G : CallT) (N : Nat) (H : AHeap) : cF Tryz.f72 G N (argsF []) H = s72 G H := by
 refine via_top (A := cF Tryz.f72 G N) (via_leaf _) ?_
 delta s72
 kernel_rfl
theorem run72 (N : Nat) {H : AHeap} {r : AV × AHeap} (h : s72 (evw P orc) H = some r) : evw P orc 72 [] H = some r :=
 runF (by kernel_rfl) Tryz.func72 (by kernel_rfl) (by kernel_rfl) (by kernel_rfl) ((s72_eq (evw P orc) N H).trans h)
def s129_j0 (G : CallT) (N : Nat) (H : AHeap) : O :=
 some ((.int .i64 (-1)), H)
theorem s129_j0_eq (G : CallT) (N : Nat) : ∀ R H, codeC P G N (Code.snd (Code.snd (bodyOf Tryz.f129))) (rC Tryz.f129) [] (rC Tryz.f129) R H = s129_j0 G N H := by
 refine via_trans (via_leaf _) fun R H => ?_
 delta s129_j0
 kernel_rfl
def s129_b1 (G : CallT) (N : Nat) (L1 : AV → AV → AV → AV → AHeap → O) (x0 x1 : AV) (x7 x8 : AV) (H : AHeap) : O :=
 xb (fbin P .lss 3 false x8 x7) fun x9 =>
 xif (some x9) (xb (aindexAddr P 48 x0 x8) fun x14 =>
 xb (aload P H 9 x14) fun x15 =>
 xb (fbin P .eql 9 false x1 x15) fun x16 =>
 xif (some x16) (some (x8, H)) (xb (fbin P .add 3 true x8 (.int .i64 1)) fun x18 =>
 L1 x0 x1 x7 x18 H)) (s129_j0 G N H)
def s129_l1 (G : CallT) (N : Nat) : Nat → AV → AV → AV → AV → AHeap → O
 | 0, _, _, _, _, _ => none
 | n + 1, x0, x1, x7, x8, H => s129_b1 G N (s129_l1 G N n) x0 x1 x7 x8 H
theorem s129_b1_eq (G : CallT) (N : Nat) (L1 : AV → AV → AV → AV → AHeap → O) : ∀ R H, codeC P G N (Code.fst (Code.fst (Code.snd (Code.fst (Code.snd (bodyOf Tryz.f129)))))) (fun R H => L1 (R 0) (R 1) (R 7) (R 8) H) [(0, (fun R H => s129_j0 G N H))] (rC Tryz.f129) R H = s129_b1 G N L1 (R 0) (R 1) (R 7) (R 8) H := by
 refine via_trans (via_leaf _) fun R H => ?_
 delta s129_b1
 generalize s129_j0 G N = J0
 revert J0
 refine id ?_
 intro J0
 kernel_rfl
def s129 (G : CallT) (N : Nat) (x0 x1 : AV) (H : AHeap) : O :=
 xlen P .len [48] [x0] H fun x7 =>
 s129_l1 G N N x0 x1 x7 (.int .i64 0) H
theorem s129_eq (G : CallT) (N : Nat) (x0 : AV) (x1 : AV) (H : AHeap) : cF Tryz.f129 G N (argsF [x0, x1]) H = s129 G N x0 x1 H := by
 refine via_top (A := cF Tryz.f129 G N) ((via_seq (by kernel_rfl) ((via_seq (by kernel_rfl) (s129_j0_eq G N) ((via_seq (by kernel_rfl) ((via_block (by kernel_rfl) ((via_loop (k := fun m R H => s129_l1 G N m (R 0) (R 1) (R 7) (R 8) H) (by kernel_rfl) (fun R H => by kernel_rfl) (fun m => s129_b1_eq G N (s129_l1 G N m)))))) (via_leaf _))))) (via_leaf _))) ?_
 delta s129
 generalize s129_l1 G N N = J0
 revert J0
 refine id ?_
 intro J0
 kernel_rfl
theorem run129 (N : Nat) {x0 x1 : AV} {H : AHeap} {r : AV × AHeap} (h : s129 (evw P orc) N x0 x1 H = some r) : evw P orc 129 [x0, x1] H = some r :=
 runF (by kernel_rfl) Tryz.func129 (by kernel_rfl) (by kernel_rfl) (by kernel_rfl) ((s129_eq (evw P orc) N x0 x1 H).trans h)
def s94 (G : CallT) (x0 x1 : AV) (H : AHeap) : O :=
 xlen P .len [9] [x0] H fun x6 =>
 xlen P .len [9] [x1] H fun x8 =>
 xb (fbin P .geq 3 false x6 x8) fun x9 =>
 xg x9 true H (qv x0) fun x11 h1 =>
 xg x9 true h1 (qv x1) fun x12 h2 =>
 xg x9 true h2 (fun q => xboth (abuiltin P .empty .len [9] [x12]) (abuiltin P h2 .len [9] [x12]) q) fun x13 h3 =>
 xg x9 true h3 (qp (aslice P 9 x11 none (some x13) none)) fun x14 h4 =>
 xg x9 true h4 (qv x1) fun x15 h5 =>
 xg x9 true h5 (qp (fbin P .eql 9 false x14 x15)) fun x16 h6 =>
 xb (pickOf x9 (some x16) (some (.bool false))) fun x17 =>
 some (x17, h6)
theorem s94_eq (G : CallT) (N : Nat) (x0 : AV) (x1 : AV) (H : AHeap) : cF Tryz.f94 G N (argsF [x0, x1]) H = s94 G x0 x1 H := by
 refine via_top (A := cF Tryz.f94 G N) (via_leaf _) ?_
 delta s94
 kernel_rfl
theorem run94 (N : Nat) {x0 x1 : AV} {H : AHeap} {r : AV × AHeap} (h : s94 (evw P orc) x0 x1 H = some r) : evw P orc 94 [x0, x1] H = some r :=
 runF (by kernel_rfl) Tryz.func94 (by kernel_rfl) (by kernel_rfl) (by kernel_rfl) ((s94_eq (evw P orc) N x0 x1 H).trans h)
def s16_j0 (G : CallT) (N : Nat) (x0 x3 x4 : AV) (H : AHeap) : O :=
 xlen P .len [9] [x0] H fun x42 =>
 xb (abuild P 57 [(0, (.int .i64 0)), (3, x42)]) fun x43 =>
 xmake H (sliceOf P (H).next 50 1 [(0, x43)]) fun x44 h1 =>
 xcall h1 (aappend P h1 [50, 50] x4 x44) fun x45 h2 =>
 xstore h2 (astore P h2 29 x3 (.agg [(.int .i64 0), (.int .i64 0)])) fun h3 =>
 xb (aload P h3 29 x3) fun r =>
 some (.tuple [x45, r], h3)
theorem s16_j0_eq (G : CallT) (N : Nat) : ∀ R H, codeC P G N (Code.snd (Code.snd (Code.snd (Code.snd (bodyOf Tryz.f16))))) (rC Tryz.f16) [] (rC Tryz.f16) R H = s16_j0 G N (R 0) (R 3) (R 4) H := by
 refine via_trans (via_leaf _) fun R H => ?_
 delta s16_j0
 kernel_rfl
def s16_b1 (G : CallT) (N : Nat) (L1 : AV → AV → AV → AV → AHeap → O) (x0 x3 : AV) (x4 x5 : AV) (H : AHeap) : O :=
 xlen P .len [9] [x0] H fun x16 =>
 xb (fbin P .lss 3 false x5 x16) fun x17 =>
 xif (some x17) (xb (aslice P 9 x0 (some x5) none none) fun x21 =>
 xcall H (G 47 [x21] H) fun x22 h1 =>
 xb (aextract x22 0) fun x23 =>
 xb (aextract x22 1) fun x24 =>
 xalloc h1 [(.int .i64 0), (.str []), (.int .i64 0), (.int .i64 0)] fun x6 h2 =>
 xstore h2 (astore P h2 57 x6 x23) fun h3 =>
 xb (fbin P .eql 3 true x24 (.int .i64 0)) fun x26 =>
 xif (some x26) (xb (abuild P 29 [(0, (.int .i64 1)), (1, x5)]) fun x28 =>
 xstore h3 (astore P h3 29 x3 x28) fun h4 =>
 xb (aload P h4 29 x3) fun r =>
 some (.tuple [AV.nilSl, r], h4)) (xb (afieldAddr P 57 x6 3) fun x30 =>
 xstore h3 (astore P h3 3 x30 x5) fun h4 =>
 xb (aload P h4 57 x6) fun x32 =>
 xmake h4 (sliceOf P (h4).next 50 1 [(0, x32)]) fun x33 h5 =>
 xcall h5 (aappend P h5 [50, 50] x4 x33) fun x34 h6 =>
 xb (fbin P .add 3 false x5 x24) fun x38 =>
 xcall h6 (G 46 [x0, x38] h6) fun x39 h7 =>
 L1 x0 x3 x34 x39 h7)) (s16_j0 G N x0 x3 x4 H)
def s16_l1 (G : CallT) (N : Nat) : Nat → AV → AV → AV → AV → AHeap → O
 | 0, _, _, _, _, _ => none
 | n + 1, x0, x3, x4, x5, H => s16_b1 G N (s16_l1 G N n) x0 x3 x4 x5 H
theorem s16_b1_eq (G : CallT) (N : Nat) (L1 : AV → AV → AV → AV → AHeap → O) : ∀ R H, codeC P G N (Code.fst (Code.fst (Code.snd (Code.fst (Code.snd (Code.snd (Code.snd (bodyOf Tryz.f16)))))))) (fun R H => L1 (R 0) (R 3) (R 4) (R 5) H) [(0, (fun R H => s16_j0 G N (R 0) (R 3) (R 4) H))] (rC Tryz.f16) R H = s16_b1 G N L1 (R 0) (R 3) (R 4) (R 5) H := by
 refine via_trans (via_leaf _) fun R H => ?_
 delta s16_b1
 generalize s16_j0 G N = J0
 revert J0
 refine id ?_
 intro J0
 kernel_rfl
def s16 (G : CallT) (N : Nat) (x0 : AV) (H : AHeap) : O :=
 xalloc H [(.int .i64 0), (.int .i64 0)] fun x3 h1 =>
 xlen P .len [9] [x0] h1 fun x9 =>
 xb (fbin P .gtr 3 true x9 (.int .i64 6000)) fun x10 =>
 xif (some x10) (xstore h1 (astore P h1 29 x3 (.agg [(.int .i64 4), (.int .i64 0)])) fun h2 =>
 xb (aload P h2 29 x3) fun r =>
 some (.tuple [AV.nilSl, r], h2)) (xcall h1 (G 46 [x0, (.int .i64 0)] h1) fun x13 h2 =>
 s16_l1 G N N x0 x3 AV.nilSl x13 h2)
theorem s16_eq (G : CallT) (N : Nat) (x0 : AV) (H : AHeap) : cF Tryz.f16 G N (argsF [x0]) H = s16 G N x0 H := by
 refine via_top (A := cF Tryz.f16 G N) ((via_seq (by kernel_rfl) ((via_seq (by kernel_rfl) ((via_seq (by kernel_rfl) ((via_seq (by kernel_rfl) (s16_j0_eq G N) ((via_seq (by kernel_rfl) ((via_block (by kernel_rfl) ((via_loop (k := fun m R H => s16_l1 G N m (R 0) (R 3) (R 4) (R 5) H) (by kernel_rfl) (fun R H => by kernel_rfl) (fun m => s16_b1_eq G N (s16_l1 G N m)))))) (via_leaf _))))) (via_leaf _))) (via_leaf _))) (via_leaf _))) ?_
 delta s16
 generalize s16_l1 G N N = J0
 revert J0
 refine id ?_
 intro J0
 kernel_rfl
theorem run16 (N : Nat) {x0 : AV} {H : AHeap} {r : AV × AHeap} (h : s16 (evw P orc) N x0 H = some r) : evw P orc 16 [x0] H = some r :=
 runF (by kernel_rfl) Tryz.func16 (by kernel_rfl) (by kernel_rfl) (by kernel_rfl) ((s16_eq (evw P orc) N x0 H).trans h)
end
end Go.Proofs.YtghmbpmaafnodaaGreatDoor
namespace Go.Proofs.YtghmbpmaafnodaaGreatDoor.Lp
open Go.Ev
structure Gl (H : AHeap) : Prop where
 tab : H.get 0 = some (.row true 1 tab0)
 err : H.get 1 = some (.row true 1 row1)
theorem Gl.pur {H H' : AHeap} (h : Gl H) (p : Pur H H') : Gl H' := ⟨p.get h.tab, p.get h.err⟩
theorem isLetter_spec {H : AHeap} (c : Int) : W (evw P orc 68 [.int .u8 c] H) fun v H' => v = .bool (lettI c) ∧ H' = H := by
 refine W_of (fun _ => run68 0) ?_
 unfold lettI
 cases h1 : decide (97 ≤ c) <;> cases h2 : decide (c ≤ 122) <;> cases h3 : decide (65 ≤ c) <;> cases h4 : decide (c ≤ 90) <;>
  (simp -implicitDefEqProofs (disch := first | assumption | omega | (simp only [nxB]; omega) | (simp only [oneB])) only [s68, xlen, evB, binB, h1, h2, h3, h4]; exact W_some.2 ⟨rfl, rfl⟩)
theorem isDigit_spec {H : AHeap} (c : Int) : W (evw P orc 70 [.int .u8 c] H) fun v H' => v = .bool (diggI c) ∧ H' = H := by
 refine W_of (fun _ => run70 0) ?_
 unfold diggI
 cases h1 : decide (48 ≤ c) <;> cases h2 : decide (c ≤ 57) <;>
  (simp -implicitDefEqProofs (disch := first | assumption | omega | (simp only [nxB]; omega) | (simp only [oneB])) only [s70, xlen, evB, binB, h1, h2]; exact W_some.2 ⟨rfl, rfl⟩)
theorem isPart_spec {H : AHeap} (c : Int) : W (evw P orc 96 [.int .u8 c] H) fun v H' => v = .bool (lettI c || diggI c) ∧ H' = H := by
 refine W_of (fun _ => run96 0) ?_
 rw [s96]
 refine W_call0 (isLetter_spec c) ?_
 cases h : lettI c with
 | true =>
  simp -implicitDefEqProofs (disch := first | assumption | omega | (simp only [nxB]; omega) | (simp only [oneB])) only [xlen, evB]
  exact W_some.2 ⟨rfl, rfl⟩
 | false =>
  simp -implicitDefEqProofs (disch := first | assumption | omega | (simp only [nxB]; omega) | (simp only [oneB])) only [xlen, evB]
  refine W_eff0 (isDigit_spec c) ?_
  simp -implicitDefEqProofs (disch := first | assumption | omega | (simp only [nxB]; omega) | (simp only [oneB])) only [xlen, evB]
  exact W_some.2 ⟨rfl, rfl⟩
def takesB (d : Bool) (c : UInt8) : Bool := digB c || (!d && letB c)
def isF (d : Bool) : Nat := if d then 70 else 96
theorem is_spec {H : AHeap} (d : Bool) (c : UInt8) : W (evw P orc (isF d) [.int .u8 c.toNat] H) fun v H' => v = .bool (takesB d c) ∧ H' = H := by
 cases d with
 | true =>
  refine (isDigit_spec (H := H) (c.toNat : Int)).mono ?_
  rintro v H' ⟨rfl, rfl⟩
  exact ⟨by simp [takesB, digB], rfl⟩
 | false =>
  refine (isPart_spec (H := H) (c.toNat : Int)).mono ?_
  rintro v H' ⟨rfl, rfl⟩
  exact ⟨by simp [takesB, digB, letB, Bool.or_comm], rfl⟩
theorem calleeOf_fn (g : Nat) (vs : List AV) : calleeOf (.func (.func g) [] []) vs = some (g, vs) := by simp [calleeOf]
theorem lrun_loop {H : AHeap} {s : Bs} (hs : s.length ≤ 1000000000000000000) (d : Bool) (N : Nat) : ∀ (rest : Bs) (n m : Nat), s.drop n = rest → n ≤ s.length → rest.length < m →
  W (s95_l1 (evw P orc) N m (.str s) (.func (.func (isF d)) [] []) (.int .i64 n) H) fun v H' => v = .int .i64 ((n + runN d rest : Nat) : Int) ∧ H' = H
 | _, _, 0, _, _, hm => by omega
 | [], n, m + 1, h, hn, hm => by
  have := drop_nil h
  have h1 : ¬ ((n : Int) < (s.length : Int)) := by omega
  simp -implicitDefEqProofs (disch := first | assumption | omega | (simp only [nxB]; omega) | (simp only [oneB])) only [s95_l1, s95_j0, s95_b1, s95, xlen, AV.cells, splice, aload, astore, Nat.reduceAdd, Nat.reduceLeDiff, reduceIte, allB, h1, decide_false]
  exact W_some.2 ⟨by simp [runN], rfl⟩
 | c :: r, n, m + 1, h, hn, hm => by
  obtain ⟨e1, e2, e3, e4⟩ := drop_cons h
  have h1 : ((n : Int) < (s.length : Int)) := by omega
  have e1' := jx9 e1
  simp -implicitDefEqProofs (disch := first | assumption | omega | (simp only [nxB]; omega) | (simp only [oneB])) only [s95_l1, s95_j0, s95_b1, s95, xlen, AV.cells, splice, aload, astore, Nat.reduceAdd, Nat.reduceLeDiff, reduceIte, allB, h1, decide_true, e1', calleeOf_fn]
  refine W_eff0 (is_spec d c) ?_
  cases hb : takesB d c with
  | true =>
   simp -implicitDefEqProofs (disch := first | assumption | omega | (simp only [nxB]; omega) | (simp only [oneB])) only [xlen, evB, binB, wn1]
   refine (lrun_loop (H := H) hs d N r (n + 1) m e2 (by omega) (by simp at hm; omega)).mono ?_
   rintro v H' ⟨rfl, rfl⟩
   have e : runN d (c :: r) = runN d r + 1 := by
    have : (digB c || (!d && letB c)) = true := hb
    rw [runN, this]; rfl
   have e' : n + 1 + runN d r = n + runN d (c :: r) := by rw [e]; omega
   exact ⟨by rw [e'], rfl⟩
  | false =>
   simp -implicitDefEqProofs (disch := first | assumption | omega | (simp only [nxB]; omega) | (simp only [oneB])) only [xlen, evB, s95_j0]
   have e : runN d (c :: r) = 0 := by
    have : (digB c || (!d && letB c)) = false := hb
    rw [runN, this]; rfl
   exact W_some.2 ⟨by rw [e]; rfl, rfl⟩
theorem lrun_spec {H : AHeap} {s : Bs} (hs : s.length ≤ 1000000000000000000) (d : Bool) : W (evw P orc 95 [.str s, .func (.func (isF d)) [] []] H) fun v H' => v = .int .i64 (runN d s : Nat) ∧ H' = H := by
 refine W_of (fun _ => run95 (s.length + 1)) ?_
 rw [s95]
 have := lrun_loop (H := H) hs d (s.length + 1) s 0 (s.length + 1) rfl (by omega) (by omega)
 simpa using this
theorem fields_spec {H : AHeap} (hg : Gl H) (s : Bs) (l : List Bs) (hs : s.length < 4294967281) (ha : ∀ (j : Nat) b, s[j]? = some b → b.toNat < 128) (hf : Lib.fields s = l) : evw P orc 100 [.str s] H = some (.sl H.next 0 l.length 1 (some l.length), H.push (.row false 1 (l.map fun x => [.str x]))) := by
 subst hf
 refine evw_orc ?_
 exact if_pos ⟨hs, ha, hg.tab⟩
def signsL : List Bs := twosL ++ [[123], [125], [40], [41], [91], [93], [59], [58], [44], [46], [61], [43], [45], [42], [47], [37], [60], [33]]
theorem ascii_of {s : Bs} (h : s.all (fun b => decide (b.toNat < 128)) = true) : ∀ (j : Nat) b, s[j]? = some b → b.toNat < 128 := fun j b hj => by
 have := List.all_eq_true.1 h b (List.mem_of_getElem? hj)
 simpa using this
theorem lwords_spec {H : AHeap} (hg : Gl H) : W (evw P orc 114 [] H) fun v H' => v = .sl H.next 0 wordsL.length 1 (some wordsL.length) ∧ H' = H.push (.row false 1 (wordsL.map fun y => [AV.str y])) := by
 refine W_of (fun _ => run114 0) ?_
 rw [s114, fields_spec hg _ wordsL (by decide) (ascii_of (by decide +kernel)) (by decide +kernel)]
 simp only [xcall, AHeap.next_push, Nat.le_succ, decide_true, cond_true]
 exact W_some.2 ⟨rfl, rfl⟩
theorem lsigns_spec {H : AHeap} (hg : Gl H) : W (evw P orc 72 [] H) fun v H' => v = .sl H.next 0 signsL.length 1 (some signsL.length) ∧ H' = H.push (.row false 1 (signsL.map fun y => [AV.str y])) := by
 refine W_of (fun _ => run72 0) ?_
 rw [s72, fields_spec hg _ signsL (by decide) (ascii_of (by decide +kernel)) (by decide +kernel)]
 simp only [xcall, AHeap.next_push, Nat.le_succ, decide_true, cond_true]
 exact W_some.2 ⟨rfl, rfl⟩
def posN (x : Bs) : List Bs → Nat → Int
 | [], _ => -1
 | y :: ys, n => bif x == y then n else posN x ys (n + 1)
theorem posN_mem (x : Bs) : ∀ (l : List Bs) (n : Nat), decide (0 ≤ posN x l n) = memB x l
 | [], n => rfl
 | y :: ys, n => by
  have hc : (y == x) = (x == y) := by
   cases h : x == y with
   | true => rw [eq_of_beq h]; simp
   | false =>
    have : x ≠ y := by simpa using h
    simpa using fun e : y = x => this e.symm
  rw [posN, memB, hc]
  cases h : x == y with
  | true =>
   simp only [cond_true, Bool.true_or, decide_eq_true_eq]
   omega
  | false =>
   simp only [cond_false, Bool.false_or]
   exact posN_mem x ys (n + 1)
theorem Index_loop {H : AHeap} {x : Bs} {l : Nat} (N : Nat) (all : List Bs) (hA : all.length ≤ 1000) (hg : H.get l = some (.row false 1 (all.map fun y => [AV.str y]))) : ∀ (rest pre : List Bs), all = pre ++ rest → ∀ (m : Nat), rest.length < m →
  W (s129_l1 (evw P orc) N m (.sl l 0 all.length 1 (some all.length)) (.str x) (.int .i64 all.length) (.int .i64 pre.length) H) fun v H' => v = .int .i64 (posN x rest pre.length) ∧ H' = H
 | _, _, _, 0, hm => by omega
 | [], pre, hp, m + 1, hm => by
  have h1 : ¬ ((pre.length : Int) < (all.length : Int)) := by rw [hp]; simp
  simp -implicitDefEqProofs (disch := first | assumption | omega | (simp only [nxB]; omega) | (simp only [oneB])) only [s129_l1, s129_j0, s129_b1, s129, xlen, AV.cells, splice, aload, astore, Nat.reduceAdd, Nat.reduceLeDiff, reduceIte, allB, h1, decide_false]
  exact W_some.2 ⟨rfl, rfl⟩
 | y :: ys, pre, hp, m + 1, hm => by
  have h1 : ((pre.length : Int) < (all.length : Int)) := by rw [hp]; simp; omega
  have h0 : (0 : Int) ≤ (pre.length : Int) := by omega
  have e1 : ((pre.length : Int)).toNat = pre.length := by omega
  have hle : pre.length < all.length := by omega
  have he : (all.map fun y => [AV.str y])[pre.length]? = some [AV.str y] := by rw [hp]; simp
  have hw : ((pre ++ [y]).length : Int) = ((pre.length + 1 : Nat) : Int) := by simp
  simp -implicitDefEqProofs (disch := first | assumption | omega | (simp only [nxB]; omega) | (simp only [oneB])) only [s129_l1, s129_j0, s129_b1, s129, xlen, AV.cells, splice, aload, astore, Nat.reduceAdd, Nat.reduceLeDiff, reduceIte, allB, h1, decide_true, hg, e1, he]
  cases hc : x == y with
  | true =>
   simp -implicitDefEqProofs (disch := first | assumption | omega | (simp only [nxB]; omega) | (simp only [oneB])) only [s129_j0, s129_b1, s129, xlen, evB]
   exact W_some.2 ⟨by simp [posN, hc], rfl⟩
  | false =>
   have ih := Index_loop (H := H) (x := x) N all hA hg ys (pre ++ [y]) (by simp [hp]) m (by simp at hm; omega)
   rw [hw] at ih
   simp -implicitDefEqProofs (disch := first | assumption | omega | (simp only [nxB]; omega) | (simp only [oneB])) only [s129_j0, s129_b1, s129, xlen, evB, binB, wn1]
   refine ih.mono ?_
   rintro v H' ⟨rfl, rfl⟩
   exact ⟨by simp [posN, hc], rfl⟩
theorem Contains_spec {H : AHeap} {x : Bs} {l : Nat} (all : List Bs) (hA : all.length ≤ 1000) (hg : H.get l = some (.row false 1 (all.map fun y => [AV.str y]))) :
  W (evw P orc 113 [.sl l 0 all.length 1 (some all.length), .str x] H) fun v H' => v = .bool (memB x all) ∧ H' = H := by
 refine W_of (fun _ => run113 0) ?_
 rw [s113]
 have hi : W (evw P orc 129 [.sl l 0 all.length 1 (some all.length), .str x] H) fun v H' => v = .int .i64 (posN x all 0) ∧ H' = H := by
  refine W_of (fun _ => run129 (all.length + 1)) ?_
  simp -implicitDefEqProofs (disch := first | assumption | omega | (simp only [nxB]; omega) | (simp only [oneB])) only [s129, xlen, AV.cells, splice, aload, astore, Nat.reduceAdd, Nat.reduceLeDiff, reduceIte, allB]
  exact Index_loop (H := H) (x := x) (all.length + 1) all hA hg all [] rfl (all.length + 1) (by omega)
 refine W_call0 hi ?_
 have := posN_mem x all 0
 simp -implicitDefEqProofs (disch := first | assumption | omega | (simp only [nxB]; omega) | (simp only [oneB])) only [xlen, evB, binB, this]
 exact W_some.2 ⟨rfl, rfl⟩
theorem lWord_spec {H : AHeap} (hg : Gl H) (x : Bs) : W (evw P orc 97 [.str x] H) fun v H' => v = .bool (wordB x) ∧ Pur H H' := by
 refine W_of (fun _ => run97 0) ?_
 rw [s97]
 refine W_call (lwords_spec hg) ?_
 rintro _ _ ⟨rfl, rfl⟩
 refine ⟨(Pur.push _ _).1, ?_⟩
 refine W_call0 (Contains_spec wordsL (by decide) (AHeap.get_push_same _ _)) ?_
 exact W_some.2 ⟨rfl, Pur.push _ _⟩
theorem allP_run : ∀ (x : Bs), allP x = (runN false x == x.length)
 | [] => rfl
 | c :: r => by
  have ih := allP_run r
  rw [allP, runN, ih, Bool.or_comm (letB c)]
  have hd : (digB c || (!false && letB c)) = (digB c || letB c) := by simp
  rw [hd]
  cases h : digB c || letB c with
  | true => simp
  | false => simp
theorem lName_spec {H : AHeap} (hg : Gl H) {x : Bs} (hx : x.length ≤ 1000000000000000000) : W (evw P orc 98 [.str x] H) fun v H' => v = .bool (nameB x) ∧ Pur H H' := by
 refine W_of (fun _ => run98 0) ?_
 unfold nameB
 cases x with
 | nil =>
  have h1 : (([] : List UInt8) == []) = true := rfl
  simp -implicitDefEqProofs (disch := first | assumption | omega | (simp only [nxB]; omega) | (simp only [oneB])) only [s98, s98_13, xlen, AV.cells, splice, aload, astore, Nat.reduceAdd, Nat.reduceLeDiff, reduceIte, allB, h1, Bool.not_true]
  exact W_some.2 ⟨by simp, .refl _⟩
 | cons c r =>
  have h1 : ((c :: r) == ([] : List UInt8)) = false := rfl
  have q1 : decide (1 ≤ (c :: r).length) = true := by simp
  have hz := jx9_0 (s := c :: r) (b := c) rfl
  rw [q1]
  by_cases h2 : (c :: r).length ≤ 8
  ·have h2' : (((c :: r).length : Nat) : Int) ≤ 8 := by omega
   generalize hy : c :: r = y at *
   simp -implicitDefEqProofs (disch := first | assumption | omega | (simp only [nxB]; omega) | (simp only [oneB])) only [s98, s98_13, xlen, AV.cells, splice, aload, astore, Nat.reduceAdd, Nat.reduceLeDiff, reduceIte, allB, h1, Bool.not_false, h2', decide_true, hz]
   refine W_eff0 (isLetter_spec _) ?_
   have hh : letB (y.headD 0) = lettI (c.toNat : Int) := by rw [← hy]; rfl
   rw [hh]
   cases h3 : lettI (c.toNat : Int) with
   | false =>
    simp -implicitDefEqProofs (disch := first | assumption | omega | (simp only [nxB]; omega) | (simp only [oneB])) only [xlen, evB]
    exact W_some.2 ⟨by simp, .refl _⟩
   | true =>
    simp -implicitDefEqProofs (disch := first | assumption | omega | (simp only [nxB]; omega) | (simp only [oneB])) only [xlen, evB]
    refine W_eff0 (lrun_spec hx false) ?_
    rw [allP_run]
    cases h4 : (runN false y == y.length) with
    | false =>
     have h4' : (((runN false y : Nat) : Int) == (y.length : Int)) = false := by
      have : runN false y ≠ y.length := by simpa using h4
      simp; omega
     simp -implicitDefEqProofs (disch := first | assumption | omega | (simp only [nxB]; omega) | (simp only [oneB])) only [xlen, AV.cells, splice, aload, astore, Nat.reduceAdd, Nat.reduceLeDiff, reduceIte, allB, h4']
     exact W_some.2 ⟨by simp, .refl _⟩
    | true =>
     have h4' : (((runN false y : Nat) : Int) == (y.length : Int)) = true := by
      have : runN false y = y.length := by simpa using h4
      simp; omega
     simp -implicitDefEqProofs (disch := first | assumption | omega | (simp only [nxB]; omega) | (simp only [oneB])) only [xlen, AV.cells, splice, aload, astore, Nat.reduceAdd, Nat.reduceLeDiff, reduceIte, allB, h4']
     refine W_eff (lWord_spec hg y) ?_
     rintro _ H2 ⟨rfl, p2⟩
     refine ⟨p2.1, ?_⟩
     simp -implicitDefEqProofs (disch := first | assumption | omega | (simp only [nxB]; omega) | (simp only [oneB])) only [xlen, evB]
     exact W_some.2 ⟨by simp [h2], p2⟩
  ·have h2' : ¬ ((((c :: r).length : Nat) : Int) ≤ 8) := by omega
   generalize hy : c :: r = y at *
   simp -implicitDefEqProofs (disch := first | assumption | omega | (simp only [nxB]; omega) | (simp only [oneB])) only [s98, s98_13, xlen, AV.cells, splice, aload, astore, Nat.reduceAdd, Nat.reduceLeDiff, reduceIte, allB, h1, Bool.not_false, h2', decide_false]
   exact W_some.2 ⟨by simp [h2], .refl _⟩
def preB (s p : Bs) : Bool := decide (p.length ≤ s.length) && s.take p.length == p
theorem HasPrefix_spec {H : AHeap} (s p : Bs) : W (evw P orc 67 [.str s, .str p] H) fun v H' => v = .bool (preB s p) ∧ H' = H := by
 refine W_of (fun _ => run67 0) ?_
 rw [s67]
 have hi : W (evw P orc 94 [.str s, .str p] H) fun v H' => v = .bool (preB s p) ∧ H' = H := by
  refine W_of (fun _ => run94 0) ?_
  by_cases h : p.length ≤ s.length
  ·have h1 : ((p.length : Int) ≤ (s.length : Int)) := by omega
   have hsl : aslice P 9 (.str s) none (some (.int .i64 (p.length : Int))) none = some (.str (s.take p.length)) := by
    have e1 : abound (some (.int .i64 (p.length : Int))) s.length s.length = some p.length := by simp [abound]; omega
    simp only [aslice, une9, e1]
    simp [abound]
   simp -implicitDefEqProofs (disch := first | assumption | omega | (simp only [nxB]; omega) | (simp only [oneB])) only [s94, xlen, AV.cells, splice, aload, astore, Nat.reduceAdd, Nat.reduceLeDiff, reduceIte, allB, h1, decide_true, hsl]
   exact W_some.2 ⟨by simp [preB, h], rfl⟩
  ·have h1 : ¬ ((p.length : Int) ≤ (s.length : Int)) := by omega
   simp -implicitDefEqProofs (disch := first | assumption | omega | (simp only [nxB]; omega) | (simp only [oneB])) only [s94, xlen, AV.cells, splice, aload, astore, Nat.reduceAdd, Nat.reduceLeDiff, reduceIte, allB, h1, decide_false]
   exact W_some.2 ⟨by simp [preB, h], rfl⟩
 refine W_call0 hi ?_
 exact W_some.2 ⟨rfl, rfl⟩
end Go.Proofs.YtghmbpmaafnodaaGreatDoor.Lp


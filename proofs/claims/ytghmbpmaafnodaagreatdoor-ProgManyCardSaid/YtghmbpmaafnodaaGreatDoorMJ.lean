/-
  Texts of one proof, laid together: Y4 Y5 Y6 Y7 Y8 ShBa ShCa.
-/
import Derived.Test.YtghmbpmaafnodaaGreatDoorMI
import Derived.Test.YtghmbpmaafnodaaGreatDoorMH
import Derived.Test.YtghmbpmaafnodaaGreatDoorMD
set_option linter.unusedVariables false
set_option linter.unusedSimpArgs false
namespace Go.Proofs.YtghmbpmaafnodaaGreatDoor
open Go.Ev
def QostL (ok : Nat → Prop) (H : AHeap) (r : Nat) (T : List Tok) (tv : AV) (e : Ex) (s' : St) (v : AV) (H' : AHeap) : Prop := Mt r H H' ∧ Ry H' r T tv s' ∧ ExV H' ok e v
abbrev QostE (H : AHeap) := QostL (Ge H.next) H
theorem QostE.box {H Hc : AHeap} {r : Nat} {T : List Tok} {tv : AV} {s s' : St} {a : Ea} {ks : List Ex} {kv : AV} {b : Nat} {lo : Nat} (hx : Ry H r T tv s) (m : Mt r H Hc) (hd : Rd5 Hc r tv s') (hb : H.next ≤ b) (hlo : b < lo) (hk : KsV Hc (Ge lo) ks kv) (blk : ABlk) :
  QostE H r T tv (.mk a ks) s' (.agg (a.cells kv)) (Hc.set b blk) := by
 have hl := hx.rd.lt
 have m' := m.then_set (.inr hb) blk
 refine ⟨m', hx.mut m' ?_, ?_⟩
 ·unfold Rd5 at hd ⊢
  rw [AHeap.get_set_other (by omega)]; exact hd
 ·rw [ExV_mk]
  exact ⟨kv, rfl, hk.keep (Keep.set _ (by unfold Ge; omega) fun l hl => by unfold Ge at *; omega)⟩
theorem QostL.fin {ok : Nat → Prop} {H Hf : AHeap} {r : Nat} {T : List Tok} {tv : AV} {s s' : St} {a : Ea} {ks : List Ex} {kv : AV} (hx : Ry H r T tv s) (m : Mt r H Hf) (hd : Rd5 Hf r tv s') (hk : KsV Hf ok ks kv) : QostL ok H r T tv (.mk a ks) s' (.agg (a.cells kv)) Hf :=
 ⟨m, hx.mut m hd, ExV_mk.2 ⟨kv, rfl, hk⟩⟩
theorem QostE.ret {H H2 : AHeap} {r : Nat} {T : List Tok} {tv : AV} {s s' : St} {e : Ex} {v : AV} {b n : Nat} (hx : Ry H r T tv s) (m : Mt r H H2) (hd : Rd5 H2 r tv s') (hb : H.next ≤ b) (he : ExV H2 (Ge n) e v) (hn : b < n) (blk : ABlk) : QostE H r T tv e s' v (H2.set b blk) := by
 have hl := hx.rd.lt
 have m' := m.then_set (.inr hb) blk
 refine ⟨m', hx.mut m' ?_, he.new (Mut.then_set (S := (· < n)) (Mut.refl _ _) (.inl hn) _) fun l h => by unfold Ge; omega⟩
 unfold Rd5 at hd ⊢
 rw [AHeap.get_set_other (by omega)]; exact hd
end Go.Proofs.YtghmbpmaafnodaaGreatDoor

namespace Go.Proofs.YtghmbpmaafnodaaGreatDoor
open Go.Ev
end Go.Proofs.YtghmbpmaafnodaaGreatDoor

namespace Go.Proofs.YtghmbpmaafnodaaGreatDoor
open Go.Ev
end Go.Proofs.YtghmbpmaafnodaaGreatDoor

namespace Go.Proofs.YtghmbpmaafnodaaGreatDoor
open Go.Ev
end Go.Proofs.YtghmbpmaafnodaaGreatDoor

namespace Go.Proofs.YtghmbpmaafnodaaGreatDoor
open Go.Ev
end Go.Proofs.YtghmbpmaafnodaaGreatDoor

namespace Go.Proofs.YtghmbpmaafnodaaGreatDoor
open Go.Ev
set_option maxRecDepth 100000
noncomputable section
def s92 (G : CallT) (x0 x1 : AV) (H : AHeap) : O :=
 xmake H (boxOf (H).next x0) fun x2 h1 =>
 xmake h1 (boxOf (h1).next x1) fun x3 h2 =>
 xb (afieldAddr P 103 x2 0) fun x5 =>
 xb (aload P h2 3 x5) fun x6 =>
 xb (afieldAddr P 103 x3 0) fun x7 =>
 xb (aload P h2 3 x7) fun x8 =>
 xb (fbin P .eql 3 false x6 x8) fun x9 =>
 xg x9 true h2 (qp (afieldAddr P 103 x2 1)) fun x11 h3 =>
 xg x9 true h3 (qr (aload P h3 3 x11)) fun x12 h4 =>
 xg x9 true h4 (qp (afieldAddr P 103 x3 1)) fun x13 h5 =>
 xg x9 true h5 (qr (aload P h5 3 x13)) fun x14 h6 =>
 xg x9 true h6 (qp (fbin P .eql 3 false x12 x14)) fun x15 h7 =>
 xb (pickOf x9 (some x15) (some (.bool false))) fun x16 =>
 xg x16 true h7 (qp (afieldAddr P 103 x2 2)) fun x18 h8 =>
 xg x16 true h8 (qr (aload P h8 9 x18)) fun x19 h9 =>
 xg x16 true h9 (qp (afieldAddr P 103 x3 2)) fun x20 h10 =>
 xg x16 true h10 (qr (aload P h10 9 x20)) fun x21 h11 =>
 xg x16 true h11 (qp (fbin P .eql 9 false x19 x21)) fun x22 h12 =>
 xb (pickOf x16 (some x22) (some (.bool false))) fun x23 =>
 xg x23 true h12 (qp (afieldAddr P 103 x2 3)) fun x25 h13 =>
 xg x23 true h13 (qr (aload P h13 43 x25)) fun x26 h14 =>
 xg x23 true h14 (qp (afieldAddr P 103 x3 3)) fun x27 h15 =>
 xg x23 true h15 (qr (aload P h15 43 x27)) fun x28 h16 =>
 xg x23 true h16 (qp (fbin P .eql 43 false x26 x28)) fun x29 h17 =>
 xb (pickOf x23 (some x29) (some (.bool false))) fun x30 =>
 xg x30 true h17 (qp (afieldAddr P 103 x2 6)) fun x32 h18 =>
 xg x30 true h18 (qr (aload P h18 101 x32)) fun x33 h19 =>
 xg x30 true h19 (qp (afieldAddr P 103 x3 6)) fun x34 h20 =>
 xg x30 true h20 (qr (aload P h20 101 x34)) fun x35 h21 =>
 xg x30 true h21 (qp (fbin P .eql 101 false x33 x35)) fun x36 h22 =>
 xb (pickOf x30 (some x36) (some (.bool false))) fun x37 =>
 xg x37 true h22 (qp (afieldAddr P 103 x2 7)) fun x39 h23 =>
 xg x37 true h23 (qr (aload P h23 3 x39)) fun x40 h24 =>
 xg x37 true h24 (qp (afieldAddr P 103 x3 7)) fun x41 h25 =>
 xg x37 true h25 (qr (aload P h25 3 x41)) fun x42 h26 =>
 xg x37 true h26 (qp (fbin P .eql 3 false x40 x42)) fun x43 h27 =>
 xb (pickOf x37 (some x43) (some (.bool false))) fun x44 =>
 xg x44 true h27 (qp (afieldAddr P 103 x2 4)) fun x46 h28 =>
 xg x44 true h28 (qr (aload P h28 96 x46)) fun x47 h29 =>
 xg x44 true h29 (qp (afieldAddr P 103 x3 4)) fun x48 h30 =>
 xg x44 true h30 (qr (aload P h30 96 x48)) fun x49 h31 =>
 xg x44 true h31 (fun q => xeff h31 (G 91 [x47, x49, (.func (.func 92) [] [])] h31) q) fun x50 h32 =>
 xb (pickOf x44 (some x50) (some (.bool false))) fun x51 =>
 some (x51, h32)
theorem s92_eq (G : CallT) (N : Nat) (x0 : AV) (x1 : AV) (H : AHeap) : cF Tryz.f92 G N (argsF [x0, x1]) H = s92 G x0 x1 H := by
 refine via_top (A := cF Tryz.f92 G N) (via_leaf _) ?_
 delta s92
 kernel_rfl
theorem run92 (N : Nat) {x0 x1 : AV} {H : AHeap} {r : AV × AHeap} (h : s92 (evw P orc) x0 x1 H = some r) : evw P orc 92 [x0, x1] H = some r :=
 runF (by kernel_rfl) Tryz.func92 (by kernel_rfl) (by kernel_rfl) (by kernel_rfl) ((s92_eq (evw P orc) N x0 x1 H).trans h)
def s91_j0 (G : CallT) (N : Nat) (H : AHeap) : O :=
 some ((.bool true), H)
theorem s91_j0_eq (G : CallT) (N : Nat) : ∀ R H, codeC P G N (Code.snd (Code.snd (Code.snd (bodyOf Tryz.f91)))) (rC Tryz.f91) [] (rC Tryz.f91) R H = s91_j0 G N H := by
 refine via_trans (via_leaf _) fun R H => ?_
 delta s91_j0
 kernel_rfl
def s91_b1 (G : CallT) (N : Nat) (L1 : AV → AV → AV → AV → AV → AHeap → O) (x1 x2 : AV) (x15 x16 x17 : AV) (H : AHeap) : O :=
 xb (fbin P .lss 3 false x17 x16) fun x18 =>
 xif (some x18) (xb (aindexAddr P 96 x15 x17) fun x20 =>
 xb (aload P H 103 x20) fun x21 =>
 xalloc H [(.int .i64 0), (.int .i64 0), (.str []), (.str []), (.int .i64 0), AV.nilSl, (.int .i64 0), (.int .i64 0), (.int .i64 0), (.int .i64 0), (.int .i64 0)] fun x8 h1 =>
 xstore h1 (astore P h1 103 x8 x21) fun h2 =>
 xb (aindexAddr P 96 x1 x17) fun x24 =>
 xb (aload P h2 103 x24) fun x25 =>
 xalloc h2 [(.int .i64 0), (.int .i64 0), (.str []), (.str []), (.int .i64 0), AV.nilSl, (.int .i64 0), (.int .i64 0), (.int .i64 0), (.int .i64 0), (.int .i64 0)] fun x9 h3 =>
 xstore h3 (astore P h3 103 x9 x25) fun h4 =>
 xb (aload P h4 103 x8) fun x27 =>
 xb (aload P h4 103 x9) fun x28 =>
 xapply G h4 x2 [x27, x28] fun x29 h5 =>
 xb (aun .not x29) fun x30 =>
 xif (some x30) (some ((.bool false), h5)) (xb (fbin P .add 3 true x17 (.int .i64 1)) fun x31 =>
 L1 x1 x2 x15 x16 x31 h5)) (s91_j0 G N H)
def s91_l1 (G : CallT) (N : Nat) : Nat → AV → AV → AV → AV → AV → AHeap → O
 | 0, _, _, _, _, _, _ => none
 | n + 1, x1, x2, x15, x16, x17, H => s91_b1 G N (s91_l1 G N n) x1 x2 x15 x16 x17 H
theorem s91_b1_eq (G : CallT) (N : Nat) (L1 : AV → AV → AV → AV → AV → AHeap → O) : ∀ R H, codeC P G N (Code.fst (Code.fst (Code.snd (Code.fst (Code.snd (Code.snd (bodyOf Tryz.f91))))))) (fun R H => L1 (R 1) (R 2) (R 15) (R 16) (R 17) H) [(0, (fun R H => s91_j0 G N H))] (rC Tryz.f91) R H = s91_b1 G N L1 (R 1) (R 2) (R 15) (R 16) (R 17) H := by
 refine via_trans (via_leaf _) fun R H => ?_
 delta s91_b1
 generalize s91_j0 G N = J0
 revert J0
 refine id ?_
 intro J0
 kernel_rfl
def s91 (G : CallT) (N : Nat) (x0 x1 x2 : AV) (H : AHeap) : O :=
 xlen P .len [96] [x0] H fun x11 =>
 xlen P .len [96] [x1] H fun x13 =>
 xb (fbin P .neq 3 false x11 x13) fun x14 =>
 xif (some x14) (some ((.bool false), H)) (xlen P .len [96] [x0] H fun x16 =>
 s91_l1 G N N x1 x2 x0 x16 (.int .i64 0) H)
theorem s91_eq (G : CallT) (N : Nat) (x0 : AV) (x1 : AV) (x2 : AV) (H : AHeap) : cF Tryz.f91 G N (argsF [x0, x1, x2]) H = s91 G N x0 x1 x2 H := by
 refine via_top (A := cF Tryz.f91 G N) ((via_seq (by kernel_rfl) ((via_seq (by kernel_rfl) ((via_seq (by kernel_rfl) (s91_j0_eq G N) ((via_seq (by kernel_rfl) ((via_block (by kernel_rfl) ((via_loop (k := fun m R H => s91_l1 G N m (R 1) (R 2) (R 15) (R 16) (R 17) H) (by kernel_rfl) (fun R H => by kernel_rfl) (fun m => s91_b1_eq G N (s91_l1 G N m)))))) (via_leaf _))))) (via_leaf _))) (via_leaf _))) ?_
 delta s91
 generalize s91_l1 G N N = J0
 revert J0
 refine id ?_
 intro J0
 kernel_rfl
theorem run91 (N : Nat) {x0 x1 x2 : AV} {H : AHeap} {r : AV × AHeap} (h : s91 (evw P orc) N x0 x1 x2 H = some r) : evw P orc 91 [x0, x1, x2] H = some r :=
 runF (by kernel_rfl) Tryz.func91 (by kernel_rfl) (by kernel_rfl) (by kernel_rfl) ((s91_eq (evw P orc) N x0 x1 x2 H).trans h)
end
end Go.Proofs.YtghmbpmaafnodaaGreatDoor
namespace Go.Proofs.YtghmbpmaafnodaaGreatDoor
open Go.Ev
set_option maxRecDepth 100000
noncomputable section
end
end Go.Proofs.YtghmbpmaafnodaaGreatDoor

/-
  Texts of one proof, laid together: ShC Y1 Y2 Y3.
-/
import Derived.Test.YtghmbpmaafnodaaGreatDoorMD
import Derived.Test.YtghmbpmaafnodaaGreatDoorMG
import Derived.Test.YtghmbpmaafnodaaGreatDoorME
set_option linter.unusedVariables false
set_option linter.unusedSimpArgs false
namespace Go.Proofs.YtghmbpmaafnodaaGreatDoor
open Go.Ev
set_option maxRecDepth 100000
noncomputable section
end
end Go.Proofs.YtghmbpmaafnodaaGreatDoor
namespace Go.Proofs.YtghmbpmaafnodaaGreatDoor
open Go.Ev
def Rd5 (H : AHeap) (r : Nat) (tv : AV) (s : St) : Prop := H.get r = some (.row false 5 [[tv, .int .i64 s.at_, .int .i64 s.opn, .int .i64 s.fe, .int .i64 s.fa]])
structure Ry (H : AHeap) (r : Nat) (T : List Tok) (tv : AV) (s : St) : Prop where
 rd : Rd5 H r tv s
 tk : TokSl H tv T
theorem Rd5.pur {H H' : AHeap} {r : Nat} {tv : AV} {s : St} (hr : Rd5 H r tv s) (p : Pur H H') : Rd5 H' r tv s := p.get hr
theorem Rd5.lt {H : AHeap} {r : Nat} {tv : AV} {s : St} (hr : Rd5 H r tv s) : r < H.next := AHeap.get_lt hr
theorem Ry.mut {H H' : AHeap} {r : Nat} {T : List Tok} {tv : AV} {s s' : St} (h : Ry H r T tv s) (m : Mt r H H') (hd : Rd5 H' r tv s') : Ry H' r T tv s' :=
 ⟨hd, h.tk.keep fun l ro els e => m.get e (by
  rintro rfl
  rw [h.rd] at e
  simp only [Option.some.injEq, ABlk.row.injEq] at e
  omega)⟩
theorem Ry.pur {H H' : AHeap} {r : Nat} {T : List Tok} {tv : AV} {s : St} (h : Ry H r T tv s) (p : Pur H H') : Ry H' r T tv s := h.mut (p.mut _) (h.rd.pur p)
theorem rset {H : AHeap} {r : Nat} {tv : AV} {s : St} (hr : Rd5 H r tv s) (s' : St) : Mt r H (H.set r (.row false 5 [[tv, .int .i64 s'.at_, .int .i64 s'.opn, .int .i64 s'.fe, .int .i64 s'.fa]])) ∧ Rd5 (H.set r (.row false 5 [[tv, .int .i64 s'.at_, .int .i64 s'.opn, .int .i64 s'.fe, .int .i64 s'.fa]])) r tv s' :=
 ⟨Mut.then_set (S := (· = r)) (Mut.refl _ _) (.inl rfl) _, AHeap.get_set_same hr.lt⟩
end Go.Proofs.YtghmbpmaafnodaaGreatDoor

namespace Go.Proofs.YtghmbpmaafnodaaGreatDoor
open Go.Ev
end Go.Proofs.YtghmbpmaafnodaaGreatDoor

namespace Go.Proofs.YtghmbpmaafnodaaGreatDoor
open Go.Ev
end Go.Proofs.YtghmbpmaafnodaaGreatDoor


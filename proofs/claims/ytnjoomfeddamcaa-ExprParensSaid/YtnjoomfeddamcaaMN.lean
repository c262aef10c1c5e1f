/-
  Texts of one proof, laid together: K3 E5.
-/
import Derived.Test.YtnjoomfeddamcaaME
import Derived.Test.YtnjoomfeddamcaaML
set_option linter.unusedVariables false
set_option linter.unusedSimpArgs false
namespace Go.Proofs.Ytnjoomfeddamcaa
open Go.Ev
set_option maxRecDepth 1000000
theorem known3 (H : AHeap) : CallOk1 P 17 [] H (.bool true) H := callOk1_run (N := 10000) (n := 100) progOk (by kernel_rfl) H
end Go.Proofs.Ytnjoomfeddamcaa

namespace Go.Proofs.Ytnjoomfeddamcaa
open Go.Ev
theorem TokSl.len {H : AHeap} {tv : AV} {T : List Tok} (h : TokSl H tv T) (H' : AHeap) : abuiltin P H' .len [22] [tv] = some (.int .i64 T.length) := by
  rcases h with ⟨rfl, rfl⟩ | ⟨l, i, cap, rfl, _⟩
  · exact ln22n
  · exact ln22
theorem of_agree (T : List Tok) (at_ : Int) : ofP (ofR T ⟨at_, 0, 0, 0⟩) = ofP (ofS T ⟨at_, 0, 0, 0⟩) := by
  rcases of_same T ⟨at_, 0, 0, 0⟩ with ⟨h, e⟩ | ⟨h, ha, hb⟩
  · rw [e]
  · have h' : ¬ (ofR T ⟨at_, 0, 0, 0⟩).2.fe = 0 := by rw [ha]; exact h
    simp only [ofP, if_neg h, if_neg h', ha, hb]
theorem raw_run {H : AHeap} {T : List Tok} {tv : AV} (ht : TokSl H tv T) (at_ opn : Int) : W (s4 (evb P 17 true) tv (.int .i64 at_) (.int .i64 opn) H) fun v H' => v = .bool true ∧ Pur H H' := by
  have hl := fun H' => ht.len H'
  by_cases h60 : (60 : Int) < (T.length : Int)
  · simp -implicitDefEqProofs (disch := first | assumption | omega | (simp only [nxB]; omega) | (simp only [oneB])) only [s4, xlen, evB, binB, hl, h60, decide_true]
    exact W_some.2 ⟨rfl, .refl _⟩
  · have hT : T.length ≤ 20000000 := by omega
    simp -implicitDefEqProofs (disch := first | assumption | omega | (simp only [nxB]; omega) | (simp only [oneB])) only [s4, xlen, evB, binB, hl, h60, decide_false]
    rw [evb_other (by decide)]
    refine W_call (Of_spec ht at_) ?_
    rintro _ H1 ⟨rfl, p1⟩
    refine ⟨p1.1, ?_⟩
    generalize hq : ofP (ofS T ⟨at_, 0, 0, 0⟩) = q
    simp -implicitDefEqProofs (disch := first | assumption | omega | (simp only [nxB]; omega) | (simp only [oneB])) only [s4, xlen, AV.cells, splice, aload, astore, Nat.reduceAdd, Nat.reduceLeDiff, reduceIte, allB, AHeap.push_set_lt]
    have pa := (p1.then_push (.row false 2 [[.str q.1.1, .int .i64 q.1.2]])).then_push (.row false 2 [[.int .i64 q.2.2.1, .int .i64 q.2.2.2]])
    have hm1 := p1.1
    rw [evb_other (by decide)]
    refine W_call (ROf_spec (ht.pur pa) at_) ?_
    rintro _ H2 ⟨rfl, p2⟩
    refine ⟨p2.1, ?_⟩
    rw [of_agree, hq]
    have hm2 := p2.1
    simp only [AHeap.next_push] at hm2
    have g1 : H2.get H1.next = some (.row false 2 [[.str q.1.1, .int .i64 q.1.2]]) := p2.get (by simp -implicitDefEqProofs (disch := first | assumption | omega | (simp only [nxB]; omega) | (simp only [oneB])) only [heapB])
    have g2 : H2.get (H1.next + 1) = some (.row false 2 [[.int .i64 q.2.2.1, .int .i64 q.2.2.2]]) := p2.get (by simp -implicitDefEqProofs (disch := first | assumption | omega | (simp only [nxB]; omega) | (simp only [oneB])) only [heapB])
    have hrd : rdIs (some (.agg [.int .i64 q.2.2.1, .int .i64 q.2.2.2])) (.agg [.int .i64 q.2.2.1, .int .i64 q.2.2.2]) = true := by simp [rdIs, AV.beq, AVs.beq]
    simp -implicitDefEqProofs (disch := first | assumption | omega | (simp only [nxB]; omega) | (simp only [oneB])) only [s4, xlen, AV.cells, splice, aload, astore, Nat.reduceAdd, Nat.reduceLeDiff, reduceIte, allB, AHeap.push_set_lt, g1, g2, eq32, eq25, beq_self_eq_true, Bool.and_self, hrd]
    have pb := (Pur.push H2 (.row false 2 [[.str q.1.1, .int .i64 q.1.2]])).then_push (.row false 2 [[.int .i64 q.2.2.1, .int .i64 q.2.2.2]])
    have pc := (pa.trans p2).trans pb
    rw [evb_other (by decide)]
    refine W_eff (held_spec hT (ht.pur pc) at_ opn) ?_
    rintro _ H3 ⟨rfl, p3⟩
    refine ⟨p3.1, ?_⟩
    simp -implicitDefEqProofs (disch := first | assumption | omega | (simp only [nxB]; omega) | (simp only [oneB])) only [s4, xlen, evB, evb_self, xeff, Nat.le_refl, decide_true]
    exact W_some.2 ⟨rfl, pc.trans p3⟩
set_option maxRecDepth 100000 in
theorem raw_ok {H : AHeap} {T : List Tok} {tv : AV} (ht : TokSl H tv T) (at_ opn : Int) : ∃ H', H.next ≤ H'.next ∧ CallOk1 P 4 [tv, .int .i64 at_, .int .i64 opn] H (.bool true) H' := by
  obtain ⟨_, H', h, rfl, p⟩ := raw_run ht at_ opn
  exact ⟨H', p.1, code_ok1 (c := bodyOf Try.f4) (M := 0) progOk (evb_ok progOk known3) Try.func4 (by kernel_rfl) (by kernel_rfl) (by kernel_rfl) (Eq.trans (s4_eq (evb P 17 true) 0 tv (.int .i64 at_) (.int .i64 opn) H) h)⟩
end Go.Proofs.Ytnjoomfeddamcaa


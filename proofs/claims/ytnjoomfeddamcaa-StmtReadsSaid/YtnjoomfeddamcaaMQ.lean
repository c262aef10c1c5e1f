/-
  Texts of one proof, laid together: StmtReads.
-/
import Derived.Test.YtnjoomfeddamcaaRows
import Derived.Test.YtnjoomfeddamcaaMF
import Derived.Test.YtnjoomfeddamcaaMO
set_option linter.unusedVariables false
set_option linter.unusedSimpArgs false
namespace Go.Proofs.Ytnjoomfeddamcaa
open Go.Ev
open Go.ChangeShapes Go.WideShapes Go.ChangeAt Go.RowKit
open Go.ChangeMaps (open_string shut_string)
namespace stmtReads
set_option maxRecDepth 100000 in
theorem lifted (os : Os) (started : os.Started) (H : Type) (enc : TypeId × Value → H) :
  ReturnsInHanded {} Try.checked os 9 .any (Rows.stmtReadsSpec.pre6 enc Try.prog Try.f9 Rows.stmtReadsRow.domain false) (Rows.stmtReadsSpec.post enc Try.prog Try.f9 false true false false) := by
 refine returnsInHanded_of_change (C := Try.checked) own started (by kernel_rfl) Try.func9
  (ChangeSpec.witness6 (enc := enc) (C := Try.checked) false ⟨#[], #[.string ⟨#[]⟩, .int .i64 0, .int .i64 0], []⟩ 8 (by kernel_rfl) (by kernel_rfl) (by kernel_rfl) (by kernel_rfl)) ?_
 intro W base args ds gs before hval0 hW hcnd _
 have hval : ∀ (j : Nat) t v, Try.f9.params[j]? = some t → args[j]? = some v → Value.okWide Try.prog W .any base t v := hval0
 have hW' := hW
 obtain ⟨p, q, hA0, hV, rfl, hfz, hnd⟩ := hW
 have hA : DataW.TrodAll enc Try.prog W 0 (fun _ => true) true Try.f9.params.toList args.toList ds p := hA0
 have hpar : Try.f9.params = #[9, 3, 3] := by kernel_rfl
 rw [hpar] at hA hval
 obtain ⟨v0, vs0, d0, ds0, p0, q0, hargs, rfl, rfl, h0, r0⟩ := trodAll_cons hA
 obtain ⟨v1, vs1, d1, ds1, p1, q1, rfl, rfl, rfl, h1, r1⟩ := trodAll_cons r0
 obtain ⟨v2, vs2, d2, ds2, p2, q2, rfl, rfl, rfl, h2, r2⟩ := trodAll_cons r1
 obtain ⟨rfl, rfl, rfl⟩ := trodAll_nil r2
 obtain rfl : args = #[v0, v1, v2] := by cases args; simp_all
 obtain ⟨rfl, rfl⟩ := trodVars_none hV
 obtain ⟨a0, hv0, -, -, w0⟩ := open_string (P := P) und9 (hval 0 9 v0 rfl rfl) h0
 obtain ⟨a1, hv1, -, -, w1⟩ := open_int (P := P) und3 (hval 1 3 v1 rfl rfl) h1
 obtain ⟨a2, hv2, -, -, w2⟩ := open_int (P := P) und3 (hval 2 3 v2 rfl rfl) h2
 subst hv0
 subst hv1
 subst hv2
 have hlaw : LawOk P 9 [.string a0, .int .i64 a1, .int .i64 a2] W := by obtain ⟨H', h⟩ := reads4_ok a0.data.toList a1 a2; exact law_plain (.cons _ _ _ _ (.str _) (.cons _ _ _ _ (.int _ _) (.cons _ _ _ _ (.int _ _) .nil))) h
 refine (law_walk (c := bodyOf Try.f9) progOk Try.func9 (by kernel_rfl) hlaw).mono fun e W' ⟨he, bel⟩ => ?_
 subst he
 obtain ⟨pa, hpa⟩ := trodAll_below laidOut bel (ts := [9, 3, 3]) (fun t ht => by
  simp only [List.mem_cons, List.not_mem_nil, or_false] at ht
  rcases ht with rfl | rfl | rfl <;> exact ⟨by kernel_rfl, of_decide_eq_true (by kernel_rfl)⟩) hA
 exact ⟨_, rfl, _, _, _, [], pa, [], hW', trodAll_mk1 (shut_bool (P := P) und4 _), by rw [hpar]; exact hpa, rfl, bel.frame _, fun h => by cases h⟩
theorem over : Rows.stmtReadsRow.holds Try.pinned (OpenSpec.ofChange Rows.stmtReadsSpec) :=
 OpenClaim.holds_of_wide 9 Try.f9 rfl rfl rfl rfl rfl rfl rfl ⟨rfl, rfl, rfl, rfl, rfl⟩ rfl rfl rfl rfl rfl (by kernel_rfl) Try.func9 (by kernel_rfl)
  (of_decide_eq_true (by kernel_rfl)) (by unfold Func.isWrapper; first | (rw [if_pos (by decide +kernel)]; kernel_rfl) | (rw [if_neg (by decide +kernel)]; exact ⟨rfl, rfl⟩))
  (fun os started H enc _ => lifted os started H enc)
end stmtReads
theorem stmtReads_holds : Rows.StmtReadsSaid := stmtReads.over
end Go.Proofs.Ytnjoomfeddamcaa


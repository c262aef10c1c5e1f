/-
  NARROWER THAN 'FOR EVERY INPUT', by the rows' own cells (each row's printed sentence says how): ExprSame: loops.
  DERIVED. THE GIVEN ROWS OF THIS SEAT. 12 by the template 'for every input the law returns true; each argument reads behind the call as it read before'; 0 by the template 'total and deterministic' (their statements: YtnjoomfeddamcaaTotals.lean).
  GIVEN WITH THE SEED: the statements are not yours to turn. If you find one false, say at which input.
  Laid BY PROGRAM, IN A SANDBOX (cutbox-rows.mjs): the forced cells as the released guide's own fill.sh prints them over the translation c45121a53012d787… (all of the seat's roots in one cut). By AI agents, Wed Nov 11 2026. No macro, syntax, notation, axiom, sorry.
-/
import Derived.Test.YtnjoomfeddamcaaChecked
import GoSem.Claim
import GoSem.ClaimJoined
import GoSem.ClaimMapViews
import Derived.JoinedTies
import Derived.KernelRfl
namespace Go.Proofs.Ytnjoomfeddamcaa
/- THE CELL 'sum', in the pinned program and in every row, IS THE sha256 OF THE DUMP (.gsa) THAT YtnjoomfeddamcaaProg.lean LOADS. Nothing in Lean hashes anything: it is a label: what it is worth is what the hold of that sum in a sandbox is worth. -/
noncomputable def Try.pinned : Pinned := { name := "ytnjoomfeddamcaa", sum := "c45121a53012d787a83e16d6098e43fbea77d58846682cd31948de53b6a6abfe", checked := Try.checked }
namespace Rows
def none {H : Type} : Left H := { results := [], args := [] }

/-- 'runriglaw3.ExprReads': WHATEVER THE INPUT: true; the input reads as it did. -/
def exprReadsSpec : ChangeSpec := { name := "exprReads", fn := fun _ => fun
  | [d1, d2, d3] => { results := [.lit (.bool true)], args := [d1, d2, d3] }
  | _ => none }
def exprReadsRow : OpenClaim := { program := "ytnjoomfeddamcaa", sum := "c45121a53012d787a83e16d6098e43fbea77d58846682cd31948de53b6a6abfe", func := "runrig/runriglaw3.ExprReads", spec := "exprReads", unfollowed := true, recurses := true, apart := false }
def ExprReadsSaid : Prop := exprReadsRow.holds Try.pinned (OpenSpec.ofChange exprReadsSpec)

/-- ITS FALSE NEIGHBOUR: 'it returns false'. Refute it at one input. -/
def exprReadsWrong : ChangeSpec := { name := "exprReads", fn := fun _ => fun
  | [d1, d2, d3] => { results := [.lit (.bool false)], args := [d1, d2, d3] }
  | _ => none }
def ExprReadsWrongFalsely : Prop := exprReadsRow.holds Try.pinned (OpenSpec.ofChange exprReadsWrong)

/-- 'runriglaw3.ExprRaw': WHATEVER THE INPUT: true; the input reads as it did. -/
def exprRawSpec : ChangeSpec := { name := "exprRaw", fn := fun _ => fun
  | [d1, d2, d3] => { results := [.lit (.bool true)], args := [d1, d2, d3] }
  | _ => none }
def exprRawRow : OpenClaim := { program := "ytnjoomfeddamcaa", sum := "c45121a53012d787a83e16d6098e43fbea77d58846682cd31948de53b6a6abfe", func := "runrig/runriglaw3.ExprRaw", spec := "exprRaw", unfollowed := true, recurses := true, apart := false }
def ExprRawSaid : Prop := exprRawRow.holds Try.pinned (OpenSpec.ofChange exprRawSpec)

/-- ITS FALSE NEIGHBOUR: 'it returns false'. Refute it at one input. -/
def exprRawWrong : ChangeSpec := { name := "exprRaw", fn := fun _ => fun
  | [d1, d2, d3] => { results := [.lit (.bool false)], args := [d1, d2, d3] }
  | _ => none }
def ExprRawWrongFalsely : Prop := exprRawRow.holds Try.pinned (OpenSpec.ofChange exprRawWrong)

/-- 'runriglaw3.ExprParens': WHATEVER THE INPUT: true; the input reads as it did. -/
def exprParensSpec : ChangeSpec := { name := "exprParens", fn := fun _ => fun
  | [d1, d2] => { results := [.lit (.bool true)], args := [d1, d2] }
  | _ => none }
def exprParensRow : OpenClaim := { program := "ytnjoomfeddamcaa", sum := "c45121a53012d787a83e16d6098e43fbea77d58846682cd31948de53b6a6abfe", func := "runrig/runriglaw3.ExprParens", spec := "exprParens", unfollowed := true, recurses := true, apart := false }
def ExprParensSaid : Prop := exprParensRow.holds Try.pinned (OpenSpec.ofChange exprParensSpec)

/-- ITS FALSE NEIGHBOUR: 'it returns false'. Refute it at one input. -/
def exprParensWrong : ChangeSpec := { name := "exprParens", fn := fun _ => fun
  | [d1, d2] => { results := [.lit (.bool false)], args := [d1, d2] }
  | _ => none }
def ExprParensWrongFalsely : Prop := exprParensRow.holds Try.pinned (OpenSpec.ofChange exprParensWrong)

/-- 'runriglaw3.ExprSame': WHATEVER THE INPUT: true; the input reads as it did. -/
def exprSameSpec : ChangeSpec := { name := "exprSame", fn := fun _ => fun
  | [d1, d2, d3] => { results := [.lit (.bool true)], args := [d1, d2, d3] }
  | _ => none }
def exprSameRow : OpenClaim := { program := "ytnjoomfeddamcaa", sum := "c45121a53012d787a83e16d6098e43fbea77d58846682cd31948de53b6a6abfe", func := "runrig/runriglaw3.ExprSame", spec := "exprSame", unfollowed := true, recurses := true, loops := true, apart := false }
def ExprSameSaid : Prop := exprSameRow.holds Try.pinned (OpenSpec.ofChange exprSameSpec)

/-- ITS FALSE NEIGHBOUR: 'it returns false'. Refute it at one input. -/
def exprSameWrong : ChangeSpec := { name := "exprSame", fn := fun _ => fun
  | [d1, d2, d3] => { results := [.lit (.bool false)], args := [d1, d2, d3] }
  | _ => none }
def ExprSameWrongFalsely : Prop := exprSameRow.holds Try.pinned (OpenSpec.ofChange exprSameWrong)

/-- 'runriglaw3.ExprDeep': WHATEVER THE INPUT: true; the input reads as it did. -/
def exprDeepSpec : ChangeSpec := { name := "exprDeep", fn := fun _ => fun
  | [d1, d2, d3] => { results := [.lit (.bool true)], args := [d1, d2, d3] }
  | _ => none }
def exprDeepRow : OpenClaim := { program := "ytnjoomfeddamcaa", sum := "c45121a53012d787a83e16d6098e43fbea77d58846682cd31948de53b6a6abfe", func := "runrig/runriglaw3.ExprDeep", spec := "exprDeep", unfollowed := true, recurses := true, apart := false }
def ExprDeepSaid : Prop := exprDeepRow.holds Try.pinned (OpenSpec.ofChange exprDeepSpec)

/-- ITS FALSE NEIGHBOUR: 'it returns false'. Refute it at one input. -/
def exprDeepWrong : ChangeSpec := { name := "exprDeep", fn := fun _ => fun
  | [d1, d2, d3] => { results := [.lit (.bool false)], args := [d1, d2, d3] }
  | _ => none }
def ExprDeepWrongFalsely : Prop := exprDeepRow.holds Try.pinned (OpenSpec.ofChange exprDeepWrong)

/-- 'runriglaw3.ExprBinds': WHATEVER THE INPUT: true; the input reads as it did. -/
def exprBindsSpec : ChangeSpec := { name := "exprBinds", fn := fun _ => fun
  | [d1, d2] => { results := [.lit (.bool true)], args := [d1, d2] }
  | _ => none }
def exprBindsRow : OpenClaim := { program := "ytnjoomfeddamcaa", sum := "c45121a53012d787a83e16d6098e43fbea77d58846682cd31948de53b6a6abfe", func := "runrig/runriglaw3.ExprBinds", spec := "exprBinds", unfollowed := true, recurses := true, apart := false }
def ExprBindsSaid : Prop := exprBindsRow.holds Try.pinned (OpenSpec.ofChange exprBindsSpec)

/-- ITS FALSE NEIGHBOUR: 'it returns false'. Refute it at one input. -/
def exprBindsWrong : ChangeSpec := { name := "exprBinds", fn := fun _ => fun
  | [d1, d2] => { results := [.lit (.bool false)], args := [d1, d2] }
  | _ => none }
def ExprBindsWrongFalsely : Prop := exprBindsRow.holds Try.pinned (OpenSpec.ofChange exprBindsWrong)

/-- 'runriglaw4.StmtReads': WHATEVER THE INPUT: true; the input reads as it did. -/
def stmtReadsSpec : ChangeSpec := { name := "stmtReads", fn := fun _ => fun
  | [d1, d2, d3] => { results := [.lit (.bool true)], args := [d1, d2, d3] }
  | _ => none }
def stmtReadsRow : OpenClaim := { program := "ytnjoomfeddamcaa", sum := "c45121a53012d787a83e16d6098e43fbea77d58846682cd31948de53b6a6abfe", func := "runrig/runriglaw4.StmtReads", spec := "stmtReads", unfollowed := true, recurses := true, apart := false }
def StmtReadsSaid : Prop := stmtReadsRow.holds Try.pinned (OpenSpec.ofChange stmtReadsSpec)

/-- ITS FALSE NEIGHBOUR: 'it returns false'. Refute it at one input. -/
def stmtReadsWrong : ChangeSpec := { name := "stmtReads", fn := fun _ => fun
  | [d1, d2, d3] => { results := [.lit (.bool false)], args := [d1, d2, d3] }
  | _ => none }
def StmtReadsWrongFalsely : Prop := stmtReadsRow.holds Try.pinned (OpenSpec.ofChange stmtReadsWrong)

/-- 'runriglaw4.StmtRaw': WHATEVER THE INPUT: true; the input reads as it did. -/
def stmtRawSpec : ChangeSpec := { name := "stmtRaw", fn := fun _ => fun
  | [d1, d2, d3] => { results := [.lit (.bool true)], args := [d1, d2, d3] }
  | _ => none }
def stmtRawRow : OpenClaim := { program := "ytnjoomfeddamcaa", sum := "c45121a53012d787a83e16d6098e43fbea77d58846682cd31948de53b6a6abfe", func := "runrig/runriglaw4.StmtRaw", spec := "stmtRaw", unfollowed := true, recurses := true, apart := false }
def StmtRawSaid : Prop := stmtRawRow.holds Try.pinned (OpenSpec.ofChange stmtRawSpec)

/-- ITS FALSE NEIGHBOUR: 'it returns false'. Refute it at one input. -/
def stmtRawWrong : ChangeSpec := { name := "stmtRaw", fn := fun _ => fun
  | [d1, d2, d3] => { results := [.lit (.bool false)], args := [d1, d2, d3] }
  | _ => none }
def StmtRawWrongFalsely : Prop := stmtRawRow.holds Try.pinned (OpenSpec.ofChange stmtRawWrong)

/-- 'runriglaw4.StmtParts': WHATEVER THE INPUT: true; the input reads as it did. -/
def stmtPartsSpec : ChangeSpec := { name := "stmtParts", fn := fun _ => fun
  | [d] => { results := [.lit (.bool true)], args := [d] }
  | _ => none }
def stmtPartsRow : OpenClaim := { program := "ytnjoomfeddamcaa", sum := "c45121a53012d787a83e16d6098e43fbea77d58846682cd31948de53b6a6abfe", func := "runrig/runriglaw4.StmtParts", spec := "stmtParts", unfollowed := true, recurses := true, apart := false }
def StmtPartsSaid : Prop := stmtPartsRow.holds Try.pinned (OpenSpec.ofChange stmtPartsSpec)

/-- ITS FALSE NEIGHBOUR: 'it returns false'. Refute it at one input. -/
def stmtPartsWrong : ChangeSpec := { name := "stmtParts", fn := fun _ => fun
  | [d] => { results := [.lit (.bool false)], args := [d] }
  | _ => none }
def StmtPartsWrongFalsely : Prop := stmtPartsRow.holds Try.pinned (OpenSpec.ofChange stmtPartsWrong)

/-- 'runriglaw4.StmtSame': WHATEVER THE INPUT: true; the input reads as it did. -/
def stmtSameSpec : ChangeSpec := { name := "stmtSame", fn := fun _ => fun
  | [d1, d2] => { results := [.lit (.bool true)], args := [d1, d2] }
  | _ => none }
def stmtSameRow : OpenClaim := { program := "ytnjoomfeddamcaa", sum := "c45121a53012d787a83e16d6098e43fbea77d58846682cd31948de53b6a6abfe", func := "runrig/runriglaw4.StmtSame", spec := "stmtSame", unfollowed := true, recurses := true, apart := false }
def StmtSameSaid : Prop := stmtSameRow.holds Try.pinned (OpenSpec.ofChange stmtSameSpec)

/-- ITS FALSE NEIGHBOUR: 'it returns false'. Refute it at one input. -/
def stmtSameWrong : ChangeSpec := { name := "stmtSame", fn := fun _ => fun
  | [d1, d2] => { results := [.lit (.bool false)], args := [d1, d2] }
  | _ => none }
def StmtSameWrongFalsely : Prop := stmtSameRow.holds Try.pinned (OpenSpec.ofChange stmtSameWrong)

/-- 'runriglaw4.StmtDeep': WHATEVER THE INPUT: true; the input reads as it did. -/
def stmtDeepSpec : ChangeSpec := { name := "stmtDeep", fn := fun _ => fun
  | [d1, d2] => { results := [.lit (.bool true)], args := [d1, d2] }
  | _ => none }
def stmtDeepRow : OpenClaim := { program := "ytnjoomfeddamcaa", sum := "c45121a53012d787a83e16d6098e43fbea77d58846682cd31948de53b6a6abfe", func := "runrig/runriglaw4.StmtDeep", spec := "stmtDeep", unfollowed := true, recurses := true, apart := false }
def StmtDeepSaid : Prop := stmtDeepRow.holds Try.pinned (OpenSpec.ofChange stmtDeepSpec)

/-- ITS FALSE NEIGHBOUR: 'it returns false'. Refute it at one input. -/
def stmtDeepWrong : ChangeSpec := { name := "stmtDeep", fn := fun _ => fun
  | [d1, d2] => { results := [.lit (.bool false)], args := [d1, d2] }
  | _ => none }
def StmtDeepWrongFalsely : Prop := stmtDeepRow.holds Try.pinned (OpenSpec.ofChange stmtDeepWrong)

/-- 'runriglaw4.StmtOdd': WHATEVER THE INPUT: true; the input reads as it did. -/
def stmtOddSpec : ChangeSpec := { name := "stmtOdd", fn := fun _ => fun
  | [d] => { results := [.lit (.bool true)], args := [d] }
  | _ => none }
def stmtOddRow : OpenClaim := { program := "ytnjoomfeddamcaa", sum := "c45121a53012d787a83e16d6098e43fbea77d58846682cd31948de53b6a6abfe", func := "runrig/runriglaw4.StmtOdd", spec := "stmtOdd", unfollowed := true, recurses := true, apart := false }
def StmtOddSaid : Prop := stmtOddRow.holds Try.pinned (OpenSpec.ofChange stmtOddSpec)

/-- ITS FALSE NEIGHBOUR: 'it returns false'. Refute it at one input. -/
def stmtOddWrong : ChangeSpec := { name := "stmtOdd", fn := fun _ => fun
  | [d] => { results := [.lit (.bool false)], args := [d] }
  | _ => none }
def StmtOddWrongFalsely : Prop := stmtOddRow.holds Try.pinned (OpenSpec.ofChange stmtOddWrong)

/- THE SECOND FORM. 'bulk': how many values and letters a reading holds, each counted each time it is reached (what is shared counts as often as it is met; a slice's spare places count too). A statement '..UptoSaid' is the law's where the arguments, and the package variables that the reading takes, are together of bulk at most 1048576: NARROWER than '..Said'. Prove '..Said' where nothing that the law and all that it calls make is longer than what came in: it says more and counts as full. Else prove '..UptoSaid'. A law counts once. -/
mutual
def uptoBulk {H : Type} : DataW H → Nat
  | .lit (.string bytes) => bytes.length + 1
  | .lit _ => 1
  | .nil => 1
  | .ptr d => uptoBulk d + 1
  | .slice elems spare => uptoBulkAll elems + uptoBulkAll spare + 1
  | .agg parts => uptoBulkAll parts + 1
  | .iface _ d => uptoBulk d + 1
  | .map entries => uptoBulkEntries entries + 1
  | .held _ => 1
def uptoBulkAll {H : Type} : List (DataW H) → Nat
  | [] => 0
  | d :: r => uptoBulk d + uptoBulkAll r
def uptoBulkEntries {H : Type} : List (Lit × DataW H) → Nat
  | [] => 0
  | x :: r => uptoBulkEntry x + uptoBulkEntries r
def uptoBulkEntry {H : Type} : Lit × DataW H → Nat
  | (.string bytes, d) => bytes.length + uptoBulk d + 1
  | (_, d) => uptoBulk d + 1
 end
def uptoSmall : (H : Type) → List (DataW H) → Bool := fun _ ds => decide (uptoBulkAll ds ≤ 1048576)
def OpenSpec.upto (s : _root_.Go.ChangeSpec) : _root_.Go.OpenSpec := { _root_.Go.OpenSpec.ofChange s with cond := some uptoSmall }

/-- 'runriglaw3.ExprReads', WHERE WHAT IT READS IS OF BULK AT MOST 1048576: true; the input reads as it did. -/
def exprReadsUptoRow : OpenClaim := { program := "ytnjoomfeddamcaa", sum := "c45121a53012d787a83e16d6098e43fbea77d58846682cd31948de53b6a6abfe", func := "runrig/runriglaw3.ExprReads", spec := "exprReads", unfollowed := true, recurses := true, apart := false, narrowed := true }
def ExprReadsUptoSaid : Prop := exprReadsUptoRow.holds Try.pinned (OpenSpec.upto exprReadsSpec)

/-- 'runriglaw3.ExprRaw', WHERE WHAT IT READS IS OF BULK AT MOST 1048576: true; the input reads as it did. -/
def exprRawUptoRow : OpenClaim := { program := "ytnjoomfeddamcaa", sum := "c45121a53012d787a83e16d6098e43fbea77d58846682cd31948de53b6a6abfe", func := "runrig/runriglaw3.ExprRaw", spec := "exprRaw", unfollowed := true, recurses := true, apart := false, narrowed := true }
def ExprRawUptoSaid : Prop := exprRawUptoRow.holds Try.pinned (OpenSpec.upto exprRawSpec)

/-- 'runriglaw3.ExprParens', WHERE WHAT IT READS IS OF BULK AT MOST 1048576: true; the input reads as it did. -/
def exprParensUptoRow : OpenClaim := { program := "ytnjoomfeddamcaa", sum := "c45121a53012d787a83e16d6098e43fbea77d58846682cd31948de53b6a6abfe", func := "runrig/runriglaw3.ExprParens", spec := "exprParens", unfollowed := true, recurses := true, apart := false, narrowed := true }
def ExprParensUptoSaid : Prop := exprParensUptoRow.holds Try.pinned (OpenSpec.upto exprParensSpec)

/-- 'runriglaw3.ExprSame', WHERE WHAT IT READS IS OF BULK AT MOST 1048576: true; the input reads as it did. -/
def exprSameUptoRow : OpenClaim := { program := "ytnjoomfeddamcaa", sum := "c45121a53012d787a83e16d6098e43fbea77d58846682cd31948de53b6a6abfe", func := "runrig/runriglaw3.ExprSame", spec := "exprSame", unfollowed := true, recurses := true, loops := true, apart := false, narrowed := true }
def ExprSameUptoSaid : Prop := exprSameUptoRow.holds Try.pinned (OpenSpec.upto exprSameSpec)

/-- 'runriglaw3.ExprDeep', WHERE WHAT IT READS IS OF BULK AT MOST 1048576: true; the input reads as it did. -/
def exprDeepUptoRow : OpenClaim := { program := "ytnjoomfeddamcaa", sum := "c45121a53012d787a83e16d6098e43fbea77d58846682cd31948de53b6a6abfe", func := "runrig/runriglaw3.ExprDeep", spec := "exprDeep", unfollowed := true, recurses := true, apart := false, narrowed := true }
def ExprDeepUptoSaid : Prop := exprDeepUptoRow.holds Try.pinned (OpenSpec.upto exprDeepSpec)

/-- 'runriglaw3.ExprBinds', WHERE WHAT IT READS IS OF BULK AT MOST 1048576: true; the input reads as it did. -/
def exprBindsUptoRow : OpenClaim := { program := "ytnjoomfeddamcaa", sum := "c45121a53012d787a83e16d6098e43fbea77d58846682cd31948de53b6a6abfe", func := "runrig/runriglaw3.ExprBinds", spec := "exprBinds", unfollowed := true, recurses := true, apart := false, narrowed := true }
def ExprBindsUptoSaid : Prop := exprBindsUptoRow.holds Try.pinned (OpenSpec.upto exprBindsSpec)

/-- 'runriglaw4.StmtReads', WHERE WHAT IT READS IS OF BULK AT MOST 1048576: true; the input reads as it did. -/
def stmtReadsUptoRow : OpenClaim := { program := "ytnjoomfeddamcaa", sum := "c45121a53012d787a83e16d6098e43fbea77d58846682cd31948de53b6a6abfe", func := "runrig/runriglaw4.StmtReads", spec := "stmtReads", unfollowed := true, recurses := true, apart := false, narrowed := true }
def StmtReadsUptoSaid : Prop := stmtReadsUptoRow.holds Try.pinned (OpenSpec.upto stmtReadsSpec)

/-- 'runriglaw4.StmtRaw', WHERE WHAT IT READS IS OF BULK AT MOST 1048576: true; the input reads as it did. -/
def stmtRawUptoRow : OpenClaim := { program := "ytnjoomfeddamcaa", sum := "c45121a53012d787a83e16d6098e43fbea77d58846682cd31948de53b6a6abfe", func := "runrig/runriglaw4.StmtRaw", spec := "stmtRaw", unfollowed := true, recurses := true, apart := false, narrowed := true }
def StmtRawUptoSaid : Prop := stmtRawUptoRow.holds Try.pinned (OpenSpec.upto stmtRawSpec)

/-- 'runriglaw4.StmtParts', WHERE WHAT IT READS IS OF BULK AT MOST 1048576: true; the input reads as it did. -/
def stmtPartsUptoRow : OpenClaim := { program := "ytnjoomfeddamcaa", sum := "c45121a53012d787a83e16d6098e43fbea77d58846682cd31948de53b6a6abfe", func := "runrig/runriglaw4.StmtParts", spec := "stmtParts", unfollowed := true, recurses := true, apart := false, narrowed := true }
def StmtPartsUptoSaid : Prop := stmtPartsUptoRow.holds Try.pinned (OpenSpec.upto stmtPartsSpec)

/-- 'runriglaw4.StmtSame', WHERE WHAT IT READS IS OF BULK AT MOST 1048576: true; the input reads as it did. -/
def stmtSameUptoRow : OpenClaim := { program := "ytnjoomfeddamcaa", sum := "c45121a53012d787a83e16d6098e43fbea77d58846682cd31948de53b6a6abfe", func := "runrig/runriglaw4.StmtSame", spec := "stmtSame", unfollowed := true, recurses := true, apart := false, narrowed := true }
def StmtSameUptoSaid : Prop := stmtSameUptoRow.holds Try.pinned (OpenSpec.upto stmtSameSpec)

/-- 'runriglaw4.StmtDeep', WHERE WHAT IT READS IS OF BULK AT MOST 1048576: true; the input reads as it did. -/
def stmtDeepUptoRow : OpenClaim := { program := "ytnjoomfeddamcaa", sum := "c45121a53012d787a83e16d6098e43fbea77d58846682cd31948de53b6a6abfe", func := "runrig/runriglaw4.StmtDeep", spec := "stmtDeep", unfollowed := true, recurses := true, apart := false, narrowed := true }
def StmtDeepUptoSaid : Prop := stmtDeepUptoRow.holds Try.pinned (OpenSpec.upto stmtDeepSpec)

/-- 'runriglaw4.StmtOdd', WHERE WHAT IT READS IS OF BULK AT MOST 1048576: true; the input reads as it did. -/
def stmtOddUptoRow : OpenClaim := { program := "ytnjoomfeddamcaa", sum := "c45121a53012d787a83e16d6098e43fbea77d58846682cd31948de53b6a6abfe", func := "runrig/runriglaw4.StmtOdd", spec := "stmtOdd", unfollowed := true, recurses := true, apart := false, narrowed := true }
def StmtOddUptoSaid : Prop := stmtOddUptoRow.holds Try.pinned (OpenSpec.upto stmtOddSpec)

end Rows
end Go.Proofs.Ytnjoomfeddamcaa

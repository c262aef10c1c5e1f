/-
  No cell of these rows narrows 'for every input' (looked for: loops, veiled, ifaces, maps, wideKeys, modest, calm, conditions, laid).
  DERIVED. THE GIVEN ROWS OF THIS SEAT. 11 by the template 'for every input the law returns true; each argument reads behind the call as it read before'; 0 by the template 'total and deterministic' (their statements: YtolnciihfbifcaaGreatTotals.lean).
  GIVEN WITH THE SEED: the statements are not yours to turn. If you find one false, say at which input.
  Laid BY PROGRAM, IN A SANDBOX (cutbox-rows.mjs): the forced cells as the released guide's own fill.sh prints them over the translation 6570f843e959cdb4… (all of the seat's roots in one cut). By AI agents, Wed Nov 11 2026. No macro, syntax, notation, axiom, sorry.
-/
import Derived.Test.YtolnciihfbifcaaGreatChecked
import GoSem.Claim
import GoSem.ClaimJoined
import GoSem.ClaimMapViews
import Derived.JoinedTies
import Derived.KernelRfl
namespace Go.Proofs.YtolnciihfbifcaaGreat
/- THE CELL 'sum', in the pinned program and in every row, IS THE sha256 OF THE DUMP (.gsa) THAT YtolnciihfbifcaaGreatProg.lean LOADS. Nothing in Lean hashes anything: it is a label: what it is worth is what the hold of that sum in a sandbox is worth. -/
noncomputable def Tryz.pinned : Pinned := { name := "ytolnciihfbifcaagreat", sum := "6570f843e959cdb420ea3eeff17f2507d09416a487ab808d1e8dca14e02a0a5a", checked := Tryz.checked }
namespace Rows
def none {H : Type} : Left H := { results := [], args := [] }

/-- 'runriglaw24.NeedBefore': WHATEVER THE INPUT: true; the input reads as it did. -/
def needBeforeSpec : ChangeSpec := { name := "needBefore", fn := fun _ => fun
  | [d1, d2] => { results := [.lit (.bool true)], args := [d1, d2] }
  | _ => none }
def needBeforeRow : OpenClaim := { program := "ytolnciihfbifcaagreat", sum := "6570f843e959cdb420ea3eeff17f2507d09416a487ab808d1e8dca14e02a0a5a", func := "runrig/runriglaw24.NeedBefore", spec := "needBefore", unfollowed := true, recurses := true, plainKeys := false, apart := false }
def NeedBeforeSaid : Prop := needBeforeRow.holds Tryz.pinned (OpenSpec.ofChange needBeforeSpec)

/-- ITS FALSE NEIGHBOUR: 'it returns false'. Refute it at one input. -/
def needBeforeWrong : ChangeSpec := { name := "needBefore", fn := fun _ => fun
  | [d1, d2] => { results := [.lit (.bool false)], args := [d1, d2] }
  | _ => none }
def NeedBeforeWrongFalsely : Prop := needBeforeRow.holds Tryz.pinned (OpenSpec.ofChange needBeforeWrong)

/-- 'runriglaw24.NeedMore': WHATEVER THE INPUT: true; the input reads as it did. -/
def needMoreSpec : ChangeSpec := { name := "needMore", fn := fun _ => fun
  | [d1, d2] => { results := [.lit (.bool true)], args := [d1, d2] }
  | _ => none }
def needMoreRow : OpenClaim := { program := "ytolnciihfbifcaagreat", sum := "6570f843e959cdb420ea3eeff17f2507d09416a487ab808d1e8dca14e02a0a5a", func := "runrig/runriglaw24.NeedMore", spec := "needMore", unfollowed := true, recurses := true, plainKeys := false, apart := false }
def NeedMoreSaid : Prop := needMoreRow.holds Tryz.pinned (OpenSpec.ofChange needMoreSpec)

/-- ITS FALSE NEIGHBOUR: 'it returns false'. Refute it at one input. -/
def needMoreWrong : ChangeSpec := { name := "needMore", fn := fun _ => fun
  | [d1, d2] => { results := [.lit (.bool false)], args := [d1, d2] }
  | _ => none }
def NeedMoreWrongFalsely : Prop := needMoreRow.holds Tryz.pinned (OpenSpec.ofChange needMoreWrong)

/-- 'runriglaw24.NeedLess': WHATEVER THE INPUT: true; the input reads as it did. -/
def needLessSpec : ChangeSpec := { name := "needLess", fn := fun _ => fun
  | [d1, d2, d3, d4] => { results := [.lit (.bool true)], args := [d1, d2, d3, d4] }
  | _ => none }
def needLessRow : OpenClaim := { program := "ytolnciihfbifcaagreat", sum := "6570f843e959cdb420ea3eeff17f2507d09416a487ab808d1e8dca14e02a0a5a", func := "runrig/runriglaw24.NeedLess", spec := "needLess", unfollowed := true, recurses := true, plainKeys := false, apart := false }
def NeedLessSaid : Prop := needLessRow.holds Tryz.pinned (OpenSpec.ofChange needLessSpec)

/-- ITS FALSE NEIGHBOUR: 'it returns false'. Refute it at one input. -/
def needLessWrong : ChangeSpec := { name := "needLess", fn := fun _ => fun
  | [d1, d2, d3, d4] => { results := [.lit (.bool false)], args := [d1, d2, d3, d4] }
  | _ => none }
def NeedLessWrongFalsely : Prop := needLessRow.holds Tryz.pinned (OpenSpec.ofChange needLessWrong)

/-- 'runriglaw24.NeedClosed': WHATEVER THE INPUT: true; the input reads as it did. -/
def needClosedSpec : ChangeSpec := { name := "needClosed", fn := fun _ => fun
  | [d1, d2] => { results := [.lit (.bool true)], args := [d1, d2] }
  | _ => none }
def needClosedRow : OpenClaim := { program := "ytolnciihfbifcaagreat", sum := "6570f843e959cdb420ea3eeff17f2507d09416a487ab808d1e8dca14e02a0a5a", func := "runrig/runriglaw24.NeedClosed", spec := "needClosed", unfollowed := true, recurses := true, plainKeys := false, apart := false }
def NeedClosedSaid : Prop := needClosedRow.holds Tryz.pinned (OpenSpec.ofChange needClosedSpec)

/-- ITS FALSE NEIGHBOUR: 'it returns false'. Refute it at one input. -/
def needClosedWrong : ChangeSpec := { name := "needClosed", fn := fun _ => fun
  | [d1, d2] => { results := [.lit (.bool false)], args := [d1, d2] }
  | _ => none }
def NeedClosedWrongFalsely : Prop := needClosedRow.holds Tryz.pinned (OpenSpec.ofChange needClosedWrong)

/-- 'runriglaw24.NeedJumps': WHATEVER THE INPUT: true; the input reads as it did. -/
def needJumpsSpec : ChangeSpec := { name := "needJumps", fn := fun _ => fun
  | [d1, d2] => { results := [.lit (.bool true)], args := [d1, d2] }
  | _ => none }
def needJumpsRow : OpenClaim := { program := "ytolnciihfbifcaagreat", sum := "6570f843e959cdb420ea3eeff17f2507d09416a487ab808d1e8dca14e02a0a5a", func := "runrig/runriglaw24.NeedJumps", spec := "needJumps", unfollowed := true, recurses := true, plainKeys := false, apart := false }
def NeedJumpsSaid : Prop := needJumpsRow.holds Tryz.pinned (OpenSpec.ofChange needJumpsSpec)

/-- ITS FALSE NEIGHBOUR: 'it returns false'. Refute it at one input. -/
def needJumpsWrong : ChangeSpec := { name := "needJumps", fn := fun _ => fun
  | [d1, d2] => { results := [.lit (.bool false)], args := [d1, d2] }
  | _ => none }
def NeedJumpsWrongFalsely : Prop := needJumpsRow.holds Tryz.pinned (OpenSpec.ofChange needJumpsWrong)

/-- 'runriglaw24.NeedRounds': WHATEVER THE INPUT: true; the input reads as it did. -/
def needRoundsSpec : ChangeSpec := { name := "needRounds", fn := fun _ => fun
  | [d1, d2] => { results := [.lit (.bool true)], args := [d1, d2] }
  | _ => none }
def needRoundsRow : OpenClaim := { program := "ytolnciihfbifcaagreat", sum := "6570f843e959cdb420ea3eeff17f2507d09416a487ab808d1e8dca14e02a0a5a", func := "runrig/runriglaw24.NeedRounds", spec := "needRounds", unfollowed := true, recurses := true, plainKeys := false, apart := false }
def NeedRoundsSaid : Prop := needRoundsRow.holds Tryz.pinned (OpenSpec.ofChange needRoundsSpec)

/-- ITS FALSE NEIGHBOUR: 'it returns false'. Refute it at one input. -/
def needRoundsWrong : ChangeSpec := { name := "needRounds", fn := fun _ => fun
  | [d1, d2] => { results := [.lit (.bool false)], args := [d1, d2] }
  | _ => none }
def NeedRoundsWrongFalsely : Prop := needRoundsRow.holds Tryz.pinned (OpenSpec.ofChange needRoundsWrong)

/-- 'runriglaw25.EmitMakes': WHATEVER THE INPUT: true; the input reads as it did. -/
def emitMakesSpec : ChangeSpec := { name := "emitMakes", fn := fun _ => fun
  | [d] => { results := [.lit (.bool true)], args := [d] }
  | _ => none }
def emitMakesRow : OpenClaim := { program := "ytolnciihfbifcaagreat", sum := "6570f843e959cdb420ea3eeff17f2507d09416a487ab808d1e8dca14e02a0a5a", func := "runrig/runriglaw25.EmitMakes", spec := "emitMakes", unfollowed := true, recurses := true, plainKeys := false, apart := false }
def EmitMakesSaid : Prop := emitMakesRow.holds Tryz.pinned (OpenSpec.ofChange emitMakesSpec)

/-- ITS FALSE NEIGHBOUR: 'it returns false'. Refute it at one input. -/
def emitMakesWrong : ChangeSpec := { name := "emitMakes", fn := fun _ => fun
  | [d] => { results := [.lit (.bool false)], args := [d] }
  | _ => none }
def EmitMakesWrongFalsely : Prop := emitMakesRow.holds Tryz.pinned (OpenSpec.ofChange emitMakesWrong)

/-- 'runriglaw25.EmitKeeps': WHATEVER THE INPUT: true; the input reads as it did. -/
def emitKeepsSpec : ChangeSpec := { name := "emitKeeps", fn := fun _ => fun
  | [d1, d2] => { results := [.lit (.bool true)], args := [d1, d2] }
  | _ => none }
def emitKeepsRow : OpenClaim := { program := "ytolnciihfbifcaagreat", sum := "6570f843e959cdb420ea3eeff17f2507d09416a487ab808d1e8dca14e02a0a5a", func := "runrig/runriglaw25.EmitKeeps", spec := "emitKeeps", unfollowed := true, recurses := true, plainKeys := false, apart := false }
def EmitKeepsSaid : Prop := emitKeepsRow.holds Tryz.pinned (OpenSpec.ofChange emitKeepsSpec)

/-- ITS FALSE NEIGHBOUR: 'it returns false'. Refute it at one input. -/
def emitKeepsWrong : ChangeSpec := { name := "emitKeeps", fn := fun _ => fun
  | [d1, d2] => { results := [.lit (.bool false)], args := [d1, d2] }
  | _ => none }
def EmitKeepsWrongFalsely : Prop := emitKeepsRow.holds Tryz.pinned (OpenSpec.ofChange emitKeepsWrong)

/-- 'runriglaw25.EmitPlain': WHATEVER THE INPUT: true; the input reads as it did. -/
def emitPlainSpec : ChangeSpec := { name := "emitPlain", fn := fun _ => fun
  | [d] => { results := [.lit (.bool true)], args := [d] }
  | _ => none }
def emitPlainRow : OpenClaim := { program := "ytolnciihfbifcaagreat", sum := "6570f843e959cdb420ea3eeff17f2507d09416a487ab808d1e8dca14e02a0a5a", func := "runrig/runriglaw25.EmitPlain", spec := "emitPlain", unfollowed := true, recurses := true, plainKeys := false, apart := false }
def EmitPlainSaid : Prop := emitPlainRow.holds Tryz.pinned (OpenSpec.ofChange emitPlainSpec)

/-- ITS FALSE NEIGHBOUR: 'it returns false'. Refute it at one input. -/
def emitPlainWrong : ChangeSpec := { name := "emitPlain", fn := fun _ => fun
  | [d] => { results := [.lit (.bool false)], args := [d] }
  | _ => none }
def EmitPlainWrongFalsely : Prop := emitPlainRow.holds Tryz.pinned (OpenSpec.ofChange emitPlainWrong)

/-- 'runriglaw25.EmitKnown': WHATEVER THE INPUT: true; the input reads as it did. -/
def emitKnownSpec : ChangeSpec := { name := "emitKnown", fn := fun _ => fun
  | [d] => { results := [.lit (.bool true)], args := [d] }
  | _ => none }
def emitKnownRow : OpenClaim := { program := "ytolnciihfbifcaagreat", sum := "6570f843e959cdb420ea3eeff17f2507d09416a487ab808d1e8dca14e02a0a5a", func := "runrig/runriglaw25.EmitKnown", spec := "emitKnown", unfollowed := true, recurses := true, plainKeys := false, apart := false }
def EmitKnownSaid : Prop := emitKnownRow.holds Tryz.pinned (OpenSpec.ofChange emitKnownSpec)

/-- ITS FALSE NEIGHBOUR: 'it returns false'. Refute it at one input. -/
def emitKnownWrong : ChangeSpec := { name := "emitKnown", fn := fun _ => fun
  | [d] => { results := [.lit (.bool false)], args := [d] }
  | _ => none }
def EmitKnownWrongFalsely : Prop := emitKnownRow.holds Tryz.pinned (OpenSpec.ofChange emitKnownWrong)

/-- 'runriglaw25.EmitEntries': WHATEVER THE INPUT: true; the input reads as it did. -/
def emitEntriesSpec : ChangeSpec := { name := "emitEntries", fn := fun _ => fun
  | [d] => { results := [.lit (.bool true)], args := [d] }
  | _ => none }
def emitEntriesRow : OpenClaim := { program := "ytolnciihfbifcaagreat", sum := "6570f843e959cdb420ea3eeff17f2507d09416a487ab808d1e8dca14e02a0a5a", func := "runrig/runriglaw25.EmitEntries", spec := "emitEntries", unfollowed := true, recurses := true, plainKeys := false, apart := false }
def EmitEntriesSaid : Prop := emitEntriesRow.holds Tryz.pinned (OpenSpec.ofChange emitEntriesSpec)

/-- ITS FALSE NEIGHBOUR: 'it returns false'. Refute it at one input. -/
def emitEntriesWrong : ChangeSpec := { name := "emitEntries", fn := fun _ => fun
  | [d] => { results := [.lit (.bool false)], args := [d] }
  | _ => none }
def EmitEntriesWrongFalsely : Prop := emitEntriesRow.holds Tryz.pinned (OpenSpec.ofChange emitEntriesWrong)

/- THE SECOND FORM. 'bulk': how many values and letters a reading holds, each counted each time it is reached (what is shared counts as often as it is met; a slice's spare places count too). A statement '..UptoSaid' is the law's where the arguments, and the package variables that the reading takes, are together of bulk at most 1048576: NARROWER than '..Said'. Prove '..Said' where nothing that the law and all that it calls make is longer than what came in: it says more and counts as full. Else prove '..UptoSaid'. A law counts once. -/
mutual
def uptoBulk {H : Type} : DataW H → Nat
  | .lit (.string bytes) => bytes.length + 1
  | .lit _ => 1
  | .nil => 1
  | .ptr d => uptoBulk d + 1
  | .slice elems spare => uptoBulkAll elems + uptoBulkAll spare + 1
  | .agg parts => uptoBulkAll parts + 1
  | .iface _ d => uptoBulk d + 1
  | .map entries => uptoBulkEntries entries + 1
  | .held _ => 1
def uptoBulkAll {H : Type} : List (DataW H) → Nat
  | [] => 0
  | d :: r => uptoBulk d + uptoBulkAll r
def uptoBulkEntries {H : Type} : List (Lit × DataW H) → Nat
  | [] => 0
  | x :: r => uptoBulkEntry x + uptoBulkEntries r
def uptoBulkEntry {H : Type} : Lit × DataW H → Nat
  | (.string bytes, d) => bytes.length + uptoBulk d + 1
  | (_, d) => uptoBulk d + 1
 end
def uptoSmall : (H : Type) → List (DataW H) → Bool := fun _ ds => decide (uptoBulkAll ds ≤ 1048576)
def OpenSpec.upto (s : _root_.Go.ChangeSpec) : _root_.Go.OpenSpec := { _root_.Go.OpenSpec.ofChange s with cond := some uptoSmall }

/-- 'runriglaw24.NeedBefore', WHERE WHAT IT READS IS OF BULK AT MOST 1048576: true; the input reads as it did. -/
def needBeforeUptoRow : OpenClaim := { program := "ytolnciihfbifcaagreat", sum := "6570f843e959cdb420ea3eeff17f2507d09416a487ab808d1e8dca14e02a0a5a", func := "runrig/runriglaw24.NeedBefore", spec := "needBefore", unfollowed := true, recurses := true, plainKeys := false, apart := false, narrowed := true }
def NeedBeforeUptoSaid : Prop := needBeforeUptoRow.holds Tryz.pinned (OpenSpec.upto needBeforeSpec)

/-- 'runriglaw24.NeedMore', WHERE WHAT IT READS IS OF BULK AT MOST 1048576: true; the input reads as it did. -/
def needMoreUptoRow : OpenClaim := { program := "ytolnciihfbifcaagreat", sum := "6570f843e959cdb420ea3eeff17f2507d09416a487ab808d1e8dca14e02a0a5a", func := "runrig/runriglaw24.NeedMore", spec := "needMore", unfollowed := true, recurses := true, plainKeys := false, apart := false, narrowed := true }
def NeedMoreUptoSaid : Prop := needMoreUptoRow.holds Tryz.pinned (OpenSpec.upto needMoreSpec)

/-- 'runriglaw24.NeedLess', WHERE WHAT IT READS IS OF BULK AT MOST 1048576: true; the input reads as it did. -/
def needLessUptoRow : OpenClaim := { program := "ytolnciihfbifcaagreat", sum := "6570f843e959cdb420ea3eeff17f2507d09416a487ab808d1e8dca14e02a0a5a", func := "runrig/runriglaw24.NeedLess", spec := "needLess", unfollowed := true, recurses := true, plainKeys := false, apart := false, narrowed := true }
def NeedLessUptoSaid : Prop := needLessUptoRow.holds Tryz.pinned (OpenSpec.upto needLessSpec)

/-- 'runriglaw24.NeedClosed', WHERE WHAT IT READS IS OF BULK AT MOST 1048576: true; the input reads as it did. -/
def needClosedUptoRow : OpenClaim := { program := "ytolnciihfbifcaagreat", sum := "6570f843e959cdb420ea3eeff17f2507d09416a487ab808d1e8dca14e02a0a5a", func := "runrig/runriglaw24.NeedClosed", spec := "needClosed", unfollowed := true, recurses := true, plainKeys := false, apart := false, narrowed := true }
def NeedClosedUptoSaid : Prop := needClosedUptoRow.holds Tryz.pinned (OpenSpec.upto needClosedSpec)

/-- 'runriglaw24.NeedJumps', WHERE WHAT IT READS IS OF BULK AT MOST 1048576: true; the input reads as it did. -/
def needJumpsUptoRow : OpenClaim := { program := "ytolnciihfbifcaagreat", sum := "6570f843e959cdb420ea3eeff17f2507d09416a487ab808d1e8dca14e02a0a5a", func := "runrig/runriglaw24.NeedJumps", spec := "needJumps", unfollowed := true, recurses := true, plainKeys := false, apart := false, narrowed := true }
def NeedJumpsUptoSaid : Prop := needJumpsUptoRow.holds Tryz.pinned (OpenSpec.upto needJumpsSpec)

/-- 'runriglaw24.NeedRounds', WHERE WHAT IT READS IS OF BULK AT MOST 1048576: true; the input reads as it did. -/
def needRoundsUptoRow : OpenClaim := { program := "ytolnciihfbifcaagreat", sum := "6570f843e959cdb420ea3eeff17f2507d09416a487ab808d1e8dca14e02a0a5a", func := "runrig/runriglaw24.NeedRounds", spec := "needRounds", unfollowed := true, recurses := true, plainKeys := false, apart := false, narrowed := true }
def NeedRoundsUptoSaid : Prop := needRoundsUptoRow.holds Tryz.pinned (OpenSpec.upto needRoundsSpec)

/-- 'runriglaw25.EmitMakes', WHERE WHAT IT READS IS OF BULK AT MOST 1048576: true; the input reads as it did. -/
def emitMakesUptoRow : OpenClaim := { program := "ytolnciihfbifcaagreat", sum := "6570f843e959cdb420ea3eeff17f2507d09416a487ab808d1e8dca14e02a0a5a", func := "runrig/runriglaw25.EmitMakes", spec := "emitMakes", unfollowed := true, recurses := true, plainKeys := false, apart := false, narrowed := true }
def EmitMakesUptoSaid : Prop := emitMakesUptoRow.holds Tryz.pinned (OpenSpec.upto emitMakesSpec)

/-- 'runriglaw25.EmitKeeps', WHERE WHAT IT READS IS OF BULK AT MOST 1048576: true; the input reads as it did. -/
def emitKeepsUptoRow : OpenClaim := { program := "ytolnciihfbifcaagreat", sum := "6570f843e959cdb420ea3eeff17f2507d09416a487ab808d1e8dca14e02a0a5a", func := "runrig/runriglaw25.EmitKeeps", spec := "emitKeeps", unfollowed := true, recurses := true, plainKeys := false, apart := false, narrowed := true }
def EmitKeepsUptoSaid : Prop := emitKeepsUptoRow.holds Tryz.pinned (OpenSpec.upto emitKeepsSpec)

/-- 'runriglaw25.EmitPlain', WHERE WHAT IT READS IS OF BULK AT MOST 1048576: true; the input reads as it did. -/
def emitPlainUptoRow : OpenClaim := { program := "ytolnciihfbifcaagreat", sum := "6570f843e959cdb420ea3eeff17f2507d09416a487ab808d1e8dca14e02a0a5a", func := "runrig/runriglaw25.EmitPlain", spec := "emitPlain", unfollowed := true, recurses := true, plainKeys := false, apart := false, narrowed := true }
def EmitPlainUptoSaid : Prop := emitPlainUptoRow.holds Tryz.pinned (OpenSpec.upto emitPlainSpec)

/-- 'runriglaw25.EmitKnown', WHERE WHAT IT READS IS OF BULK AT MOST 1048576: true; the input reads as it did. -/
def emitKnownUptoRow : OpenClaim := { program := "ytolnciihfbifcaagreat", sum := "6570f843e959cdb420ea3eeff17f2507d09416a487ab808d1e8dca14e02a0a5a", func := "runrig/runriglaw25.EmitKnown", spec := "emitKnown", unfollowed := true, recurses := true, plainKeys := false, apart := false, narrowed := true }
def EmitKnownUptoSaid : Prop := emitKnownUptoRow.holds Tryz.pinned (OpenSpec.upto emitKnownSpec)

/-- 'runriglaw25.EmitEntries', WHERE WHAT IT READS IS OF BULK AT MOST 1048576: true; the input reads as it did. -/
def emitEntriesUptoRow : OpenClaim := { program := "ytolnciihfbifcaagreat", sum := "6570f843e959cdb420ea3eeff17f2507d09416a487ab808d1e8dca14e02a0a5a", func := "runrig/runriglaw25.EmitEntries", spec := "emitEntries", unfollowed := true, recurses := true, plainKeys := false, apart := false, narrowed := true }
def EmitEntriesUptoSaid : Prop := emitEntriesUptoRow.holds Tryz.pinned (OpenSpec.upto emitEntriesSpec)

end Rows
end Go.Proofs.YtolnciihfbifcaaGreat

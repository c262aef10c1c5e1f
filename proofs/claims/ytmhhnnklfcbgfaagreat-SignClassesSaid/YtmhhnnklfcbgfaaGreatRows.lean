/-
  No cell of these rows narrows 'for every input' (looked for: loops, veiled, ifaces, maps, wideKeys, modest, calm, conditions, laid).
  DERIVED. THE GIVEN ROWS OF THIS SEAT. 6 by the template 'for every input the law returns true; each argument reads behind the call as it read before'; 0 by the template 'total and deterministic' (their statements: YtmhhnnklfcbgfaaGreatTotals.lean).
  GIVEN WITH THE SEED: the statements are not yours to turn. If you find one false, say at which input.
  Laid BY PROGRAM, IN A SANDBOX (cutbox-rows.mjs): the forced cells as the released guide's own fill.sh prints them over the translation de17b99b991eae87… (all of the seat's roots in one cut). By AI agents, Wed Nov 11 2026. No macro, syntax, notation, axiom, sorry.
-/
import Derived.Test.YtmhhnnklfcbgfaaGreatChecked
import GoSem.Claim
import GoSem.ClaimJoined
import GoSem.ClaimMapViews
import Derived.JoinedTies
import Derived.KernelRfl
namespace Go.Proofs.YtmhhnnklfcbgfaaGreat
/- THE CELL 'sum', in the pinned program and in every row, IS THE sha256 OF THE DUMP (.gsa) THAT YtmhhnnklfcbgfaaGreatProg.lean LOADS. Nothing in Lean hashes anything: it is a label: what it is worth is what the hold of that sum in a sandbox is worth. -/
noncomputable def Tryz.pinned : Pinned := { name := "ytmhhnnklfcbgfaagreat", sum := "de17b99b991eae87f376986dc7e5026f1e83ef374bd549bdcda44e5a614dfb35", checked := Tryz.checked }
namespace Rows
def none {H : Type} : Left H := { results := [], args := [] }

/-- 'runriglaw23.SignClasses': WHATEVER THE INPUT: true; the input reads as it did. -/
def signClassesSpec : ChangeSpec := { name := "signClasses", fn := fun _ => fun
  | [d] => { results := [.lit (.bool true)], args := [d] }
  | _ => none }
def signClassesRow : OpenClaim := { program := "ytmhhnnklfcbgfaagreat", sum := "de17b99b991eae87f376986dc7e5026f1e83ef374bd549bdcda44e5a614dfb35", func := "runrig/runriglaw23.SignClasses", spec := "signClasses", unfollowed := true, recurses := true, plainKeys := false, apart := false }
def SignClassesSaid : Prop := signClassesRow.holds Tryz.pinned (OpenSpec.ofChange signClassesSpec)

/-- ITS FALSE NEIGHBOUR: 'it returns false'. Refute it at one input. -/
def signClassesWrong : ChangeSpec := { name := "signClasses", fn := fun _ => fun
  | [d] => { results := [.lit (.bool false)], args := [d] }
  | _ => none }
def SignClassesWrongFalsely : Prop := signClassesRow.holds Tryz.pinned (OpenSpec.ofChange signClassesWrong)

/-- 'runriglaw23.SignTakes': WHATEVER THE INPUT: true; the input reads as it did. -/
def signTakesSpec : ChangeSpec := { name := "signTakes", fn := fun _ => fun
  | [d1, d2] => { results := [.lit (.bool true)], args := [d1, d2] }
  | _ => none }
def signTakesRow : OpenClaim := { program := "ytmhhnnklfcbgfaagreat", sum := "de17b99b991eae87f376986dc7e5026f1e83ef374bd549bdcda44e5a614dfb35", func := "runrig/runriglaw23.SignTakes", spec := "signTakes", unfollowed := true, recurses := true, plainKeys := false, apart := false }
def SignTakesSaid : Prop := signTakesRow.holds Tryz.pinned (OpenSpec.ofChange signTakesSpec)

/-- ITS FALSE NEIGHBOUR: 'it returns false'. Refute it at one input. -/
def signTakesWrong : ChangeSpec := { name := "signTakes", fn := fun _ => fun
  | [d1, d2] => { results := [.lit (.bool false)], args := [d1, d2] }
  | _ => none }
def SignTakesWrongFalsely : Prop := signTakesRow.holds Tryz.pinned (OpenSpec.ofChange signTakesWrong)

/-- 'runriglaw23.SignParts': WHATEVER THE INPUT: true; the input reads as it did. -/
def signPartsSpec : ChangeSpec := { name := "signParts", fn := fun _ => fun
  | [d] => { results := [.lit (.bool true)], args := [d] }
  | _ => none }
def signPartsRow : OpenClaim := { program := "ytmhhnnklfcbgfaagreat", sum := "de17b99b991eae87f376986dc7e5026f1e83ef374bd549bdcda44e5a614dfb35", func := "runrig/runriglaw23.SignParts", spec := "signParts", unfollowed := true, recurses := true, plainKeys := false, apart := false }
def SignPartsSaid : Prop := signPartsRow.holds Tryz.pinned (OpenSpec.ofChange signPartsSpec)

/-- ITS FALSE NEIGHBOUR: 'it returns false'. Refute it at one input. -/
def signPartsWrong : ChangeSpec := { name := "signParts", fn := fun _ => fun
  | [d] => { results := [.lit (.bool false)], args := [d] }
  | _ => none }
def SignPartsWrongFalsely : Prop := signPartsRow.holds Tryz.pinned (OpenSpec.ofChange signPartsWrong)

/-- 'runriglaw23.SignAlike': WHATEVER THE INPUT: true; the input reads as it did. -/
def signAlikeSpec : ChangeSpec := { name := "signAlike", fn := fun _ => fun
  | [d] => { results := [.lit (.bool true)], args := [d] }
  | _ => none }
def signAlikeRow : OpenClaim := { program := "ytmhhnnklfcbgfaagreat", sum := "de17b99b991eae87f376986dc7e5026f1e83ef374bd549bdcda44e5a614dfb35", func := "runrig/runriglaw23.SignAlike", spec := "signAlike", unfollowed := true, recurses := true, plainKeys := false, apart := false }
def SignAlikeSaid : Prop := signAlikeRow.holds Tryz.pinned (OpenSpec.ofChange signAlikeSpec)

/-- ITS FALSE NEIGHBOUR: 'it returns false'. Refute it at one input. -/
def signAlikeWrong : ChangeSpec := { name := "signAlike", fn := fun _ => fun
  | [d] => { results := [.lit (.bool false)], args := [d] }
  | _ => none }
def SignAlikeWrongFalsely : Prop := signAlikeRow.holds Tryz.pinned (OpenSpec.ofChange signAlikeWrong)

/-- 'runriglaw23.SignKnown': WHATEVER THE INPUT: true; the input reads as it did. -/
def signKnownSpec : ChangeSpec := { name := "signKnown", fn := fun _ => fun
  | [d] => { results := [.lit (.bool true)], args := [d] }
  | _ => none }
def signKnownRow : OpenClaim := { program := "ytmhhnnklfcbgfaagreat", sum := "de17b99b991eae87f376986dc7e5026f1e83ef374bd549bdcda44e5a614dfb35", func := "runrig/runriglaw23.SignKnown", spec := "signKnown", unfollowed := true, recurses := true, plainKeys := false, apart := false }
def SignKnownSaid : Prop := signKnownRow.holds Tryz.pinned (OpenSpec.ofChange signKnownSpec)

/-- ITS FALSE NEIGHBOUR: 'it returns false'. Refute it at one input. -/
def signKnownWrong : ChangeSpec := { name := "signKnown", fn := fun _ => fun
  | [d] => { results := [.lit (.bool false)], args := [d] }
  | _ => none }
def SignKnownWrongFalsely : Prop := signKnownRow.holds Tryz.pinned (OpenSpec.ofChange signKnownWrong)

/-- 'runriglaw23.SignRings': WHATEVER THE INPUT: true; the input reads as it did. -/
def signRingsSpec : ChangeSpec := { name := "signRings", fn := fun _ => fun
  | [d1, d2] => { results := [.lit (.bool true)], args := [d1, d2] }
  | _ => none }
def signRingsRow : OpenClaim := { program := "ytmhhnnklfcbgfaagreat", sum := "de17b99b991eae87f376986dc7e5026f1e83ef374bd549bdcda44e5a614dfb35", func := "runrig/runriglaw23.SignRings", spec := "signRings", unfollowed := true, recurses := true, plainKeys := false, apart := false }
def SignRingsSaid : Prop := signRingsRow.holds Tryz.pinned (OpenSpec.ofChange signRingsSpec)

/-- ITS FALSE NEIGHBOUR: 'it returns false'. Refute it at one input. -/
def signRingsWrong : ChangeSpec := { name := "signRings", fn := fun _ => fun
  | [d1, d2] => { results := [.lit (.bool false)], args := [d1, d2] }
  | _ => none }
def SignRingsWrongFalsely : Prop := signRingsRow.holds Tryz.pinned (OpenSpec.ofChange signRingsWrong)

/- THE SECOND FORM. 'bulk': how many values and letters a reading holds, each counted each time it is reached (what is shared counts as often as it is met; a slice's spare places count too). A statement '..UptoSaid' is the law's where the arguments, and the package variables that the reading takes, are together of bulk at most 1048576: NARROWER than '..Said'. Prove '..Said' where nothing that the law and all that it calls make is longer than what came in: it says more and counts as full. Else prove '..UptoSaid'. A law counts once. -/
mutual
def uptoBulk {H : Type} : DataW H → Nat
  | .lit (.string bytes) => bytes.length + 1
  | .lit _ => 1
  | .nil => 1
  | .ptr d => uptoBulk d + 1
  | .slice elems spare => uptoBulkAll elems + uptoBulkAll spare + 1
  | .agg parts => uptoBulkAll parts + 1
  | .iface _ d => uptoBulk d + 1
  | .map entries => uptoBulkEntries entries + 1
  | .held _ => 1
def uptoBulkAll {H : Type} : List (DataW H) → Nat
  | [] => 0
  | d :: r => uptoBulk d + uptoBulkAll r
def uptoBulkEntries {H : Type} : List (Lit × DataW H) → Nat
  | [] => 0
  | x :: r => uptoBulkEntry x + uptoBulkEntries r
def uptoBulkEntry {H : Type} : Lit × DataW H → Nat
  | (.string bytes, d) => bytes.length + uptoBulk d + 1
  | (_, d) => uptoBulk d + 1
 end
def uptoSmall : (H : Type) → List (DataW H) → Bool := fun _ ds => decide (uptoBulkAll ds ≤ 1048576)
def OpenSpec.upto (s : _root_.Go.ChangeSpec) : _root_.Go.OpenSpec := { _root_.Go.OpenSpec.ofChange s with cond := some uptoSmall }

/-- 'runriglaw23.SignClasses', WHERE WHAT IT READS IS OF BULK AT MOST 1048576: true; the input reads as it did. -/
def signClassesUptoRow : OpenClaim := { program := "ytmhhnnklfcbgfaagreat", sum := "de17b99b991eae87f376986dc7e5026f1e83ef374bd549bdcda44e5a614dfb35", func := "runrig/runriglaw23.SignClasses", spec := "signClasses", unfollowed := true, recurses := true, plainKeys := false, apart := false, narrowed := true }
def SignClassesUptoSaid : Prop := signClassesUptoRow.holds Tryz.pinned (OpenSpec.upto signClassesSpec)

/-- 'runriglaw23.SignTakes', WHERE WHAT IT READS IS OF BULK AT MOST 1048576: true; the input reads as it did. -/
def signTakesUptoRow : OpenClaim := { program := "ytmhhnnklfcbgfaagreat", sum := "de17b99b991eae87f376986dc7e5026f1e83ef374bd549bdcda44e5a614dfb35", func := "runrig/runriglaw23.SignTakes", spec := "signTakes", unfollowed := true, recurses := true, plainKeys := false, apart := false, narrowed := true }
def SignTakesUptoSaid : Prop := signTakesUptoRow.holds Tryz.pinned (OpenSpec.upto signTakesSpec)

/-- 'runriglaw23.SignParts', WHERE WHAT IT READS IS OF BULK AT MOST 1048576: true; the input reads as it did. -/
def signPartsUptoRow : OpenClaim := { program := "ytmhhnnklfcbgfaagreat", sum := "de17b99b991eae87f376986dc7e5026f1e83ef374bd549bdcda44e5a614dfb35", func := "runrig/runriglaw23.SignParts", spec := "signParts", unfollowed := true, recurses := true, plainKeys := false, apart := false, narrowed := true }
def SignPartsUptoSaid : Prop := signPartsUptoRow.holds Tryz.pinned (OpenSpec.upto signPartsSpec)

/-- 'runriglaw23.SignAlike', WHERE WHAT IT READS IS OF BULK AT MOST 1048576: true; the input reads as it did. -/
def signAlikeUptoRow : OpenClaim := { program := "ytmhhnnklfcbgfaagreat", sum := "de17b99b991eae87f376986dc7e5026f1e83ef374bd549bdcda44e5a614dfb35", func := "runrig/runriglaw23.SignAlike", spec := "signAlike", unfollowed := true, recurses := true, plainKeys := false, apart := false, narrowed := true }
def SignAlikeUptoSaid : Prop := signAlikeUptoRow.holds Tryz.pinned (OpenSpec.upto signAlikeSpec)

/-- 'runriglaw23.SignKnown', WHERE WHAT IT READS IS OF BULK AT MOST 1048576: true; the input reads as it did. -/
def signKnownUptoRow : OpenClaim := { program := "ytmhhnnklfcbgfaagreat", sum := "de17b99b991eae87f376986dc7e5026f1e83ef374bd549bdcda44e5a614dfb35", func := "runrig/runriglaw23.SignKnown", spec := "signKnown", unfollowed := true, recurses := true, plainKeys := false, apart := false, narrowed := true }
def SignKnownUptoSaid : Prop := signKnownUptoRow.holds Tryz.pinned (OpenSpec.upto signKnownSpec)

/-- 'runriglaw23.SignRings', WHERE WHAT IT READS IS OF BULK AT MOST 1048576: true; the input reads as it did. -/
def signRingsUptoRow : OpenClaim := { program := "ytmhhnnklfcbgfaagreat", sum := "de17b99b991eae87f376986dc7e5026f1e83ef374bd549bdcda44e5a614dfb35", func := "runrig/runriglaw23.SignRings", spec := "signRings", unfollowed := true, recurses := true, plainKeys := false, apart := false, narrowed := true }
def SignRingsUptoSaid : Prop := signRingsUptoRow.holds Tryz.pinned (OpenSpec.upto signRingsSpec)

end Rows
end Go.Proofs.YtmhhnnklfcbgfaaGreat

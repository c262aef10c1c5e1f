/-
  DERIVED. GIVEN WITH THE SEED: THE CARDS: each row of YtghmbpmaafnodaaGreatDoorRows.lean that lists a variable, with what it lists TIED to the program's text (the seventh form; the later family's looks); each row that meets fmt, with fmt's text TOLD by the authors' own Lean function (tested against real Go, not proved from fmt's source: count such statements apart). THE CARD IS WHAT COUNTS. Prove the row's statement (the work); the ties are given (YtghmbpmaafnodaaGreatDoorTie.lean); close each card by the builder's one call (the guide's Derived/Test/ToyasCard.lean, 'card_holds'). Laid BY PROGRAM, IN A SANDBOX (cutbox-door.mjs). By AI agents, Wed Nov 11 2026. No macro, syntax, notation, axiom, sorry.
-/
import Derived.Test.YtghmbpmaafnodaaGreatDoorRows
import GoSem.ClaimSeven
namespace Go.Proofs.YtghmbpmaafnodaaGreatDoor
namespace Rows

/-- THE TIED CARD OF 'runriglaw5.ProgParses'. -/
def progParsesCard : Claim7 := { stood := { row := progParsesRow, standIns := [], harness := (true, "a03d374fdcff6c30a23935023637add0d7df7c4a92e3919a7d9dd649faaa6826"), looks := true }, kinds := [], alts := [], laidByText := true, laidKinds := [.data, .data, .data, .sentinel, .sentinel, .listed, .data], laidTests := true, laidLooks := .later }
def ProgParsesCardSaid : Prop := Claim7.holds Tryz.pinned (.plain (OpenSpec.ofChange progParsesSpec)) progParsesCard

/-- THE TIED CARD OF 'runriglaw5.ProgTurns'. -/
def progTurnsCard : Claim7 := { stood := { row := progTurnsRow, standIns := [], harness := (true, "a03d374fdcff6c30a23935023637add0d7df7c4a92e3919a7d9dd649faaa6826"), looks := true }, kinds := [], alts := [], laidByText := true, laidKinds := [.data, .data, .data, .sentinel, .sentinel, .listed, .data], laidTests := true, laidLooks := .later }
def ProgTurnsCardSaid : Prop := Claim7.holds Tryz.pinned (.plain (OpenSpec.ofChange progTurnsSpec)) progTurnsCard

/-- THE TIED CARD OF 'runriglaw5.ProgSame'. -/
def progSameCard : Claim7 := { stood := { row := progSameRow, standIns := [], harness := (true, "a03d374fdcff6c30a23935023637add0d7df7c4a92e3919a7d9dd649faaa6826"), looks := true }, kinds := [], alts := [], laidByText := true, laidKinds := [.data, .data, .data, .sentinel, .sentinel, .listed, .data], laidTests := true, laidLooks := .later }
def ProgSameCardSaid : Prop := Claim7.holds Tryz.pinned (.plain (OpenSpec.ofChange progSameSpec)) progSameCard

/-- THE TIED CARD OF 'runriglaw5.ProgMany'. -/
def progManyCard : Claim7 := { stood := { row := progManyRow, standIns := [], harness := (true, "a03d374fdcff6c30a23935023637add0d7df7c4a92e3919a7d9dd649faaa6826"), looks := true }, kinds := [], alts := [], laidByText := true, laidKinds := [.data, .data, .data, .sentinel, .sentinel, .listed, .data], laidTests := true, laidLooks := .later }
def ProgManyCardSaid : Prop := Claim7.holds Tryz.pinned (.plain (OpenSpec.ofChange progManySpec)) progManyCard

/-- THE TIED CARD OF 'runriglaw5.ProgOdd'. -/
def progOddCard : Claim7 := { stood := { row := progOddRow, standIns := [], harness := (true, "a03d374fdcff6c30a23935023637add0d7df7c4a92e3919a7d9dd649faaa6826"), looks := true }, kinds := [], alts := [], laidByText := true, laidKinds := [.data, .data, .data, .sentinel, .sentinel, .listed, .data], laidTests := true, laidLooks := .later }
def ProgOddCardSaid : Prop := Claim7.holds Tryz.pinned (.plain (OpenSpec.ofChange progOddSpec)) progOddCard

/-- THE SECOND FORM's CARD OF 'runriglaw5.ProgParses'. -/
def progParsesUptoCard : Claim7 := { stood := { row := progParsesUptoRow, standIns := [], harness := (true, "a03d374fdcff6c30a23935023637add0d7df7c4a92e3919a7d9dd649faaa6826"), looks := true }, kinds := [], alts := [], laidByText := true, laidKinds := [.data, .data, .data, .sentinel, .sentinel, .listed, .data], laidTests := true, laidLooks := .later }
def ProgParsesUptoCardSaid : Prop := Claim7.holds Tryz.pinned (.plain (OpenSpec.upto progParsesSpec)) progParsesUptoCard

/-- THE SECOND FORM's CARD OF 'runriglaw5.ProgTurns'. -/
def progTurnsUptoCard : Claim7 := { stood := { row := progTurnsUptoRow, standIns := [], harness := (true, "a03d374fdcff6c30a23935023637add0d7df7c4a92e3919a7d9dd649faaa6826"), looks := true }, kinds := [], alts := [], laidByText := true, laidKinds := [.data, .data, .data, .sentinel, .sentinel, .listed, .data], laidTests := true, laidLooks := .later }
def ProgTurnsUptoCardSaid : Prop := Claim7.holds Tryz.pinned (.plain (OpenSpec.upto progTurnsSpec)) progTurnsUptoCard

/-- THE SECOND FORM's CARD OF 'runriglaw5.ProgSame'. -/
def progSameUptoCard : Claim7 := { stood := { row := progSameUptoRow, standIns := [], harness := (true, "a03d374fdcff6c30a23935023637add0d7df7c4a92e3919a7d9dd649faaa6826"), looks := true }, kinds := [], alts := [], laidByText := true, laidKinds := [.data, .data, .data, .sentinel, .sentinel, .listed, .data], laidTests := true, laidLooks := .later }
def ProgSameUptoCardSaid : Prop := Claim7.holds Tryz.pinned (.plain (OpenSpec.upto progSameSpec)) progSameUptoCard

/-- THE SECOND FORM's CARD OF 'runriglaw5.ProgMany'. -/
def progManyUptoCard : Claim7 := { stood := { row := progManyUptoRow, standIns := [], harness := (true, "a03d374fdcff6c30a23935023637add0d7df7c4a92e3919a7d9dd649faaa6826"), looks := true }, kinds := [], alts := [], laidByText := true, laidKinds := [.data, .data, .data, .sentinel, .sentinel, .listed, .data], laidTests := true, laidLooks := .later }
def ProgManyUptoCardSaid : Prop := Claim7.holds Tryz.pinned (.plain (OpenSpec.upto progManySpec)) progManyUptoCard

/-- THE SECOND FORM's CARD OF 'runriglaw5.ProgOdd'. -/
def progOddUptoCard : Claim7 := { stood := { row := progOddUptoRow, standIns := [], harness := (true, "a03d374fdcff6c30a23935023637add0d7df7c4a92e3919a7d9dd649faaa6826"), looks := true }, kinds := [], alts := [], laidByText := true, laidKinds := [.data, .data, .data, .sentinel, .sentinel, .listed, .data], laidTests := true, laidLooks := .later }
def ProgOddUptoCardSaid : Prop := Claim7.holds Tryz.pinned (.plain (OpenSpec.upto progOddSpec)) progOddUptoCard
end Rows
end Go.Proofs.YtghmbpmaafnodaaGreatDoor

/-
  DERIVED. GIVEN WITH THE SEED: THE CARDS: each row of YtghmbpmaafnodaaDoorRows.lean that lists a variable, with what it lists TIED to the program's text (the seventh form; the later family's looks); each row that meets fmt, with fmt's text TOLD by the authors' own Lean function (tested against real Go, not proved from fmt's source: count such statements apart). THE CARD IS WHAT COUNTS. Prove the row's statement (the work); the ties are given (YtghmbpmaafnodaaDoorTie.lean); close each card by the builder's one call (the guide's Derived/Test/ToyasCard.lean, 'card_holds'). Laid BY PROGRAM, IN A SANDBOX (cutbox-door.mjs). By AI agents, Wed Nov 11 2026. No macro, syntax, notation, axiom, sorry.
-/
import Derived.Test.YtghmbpmaafnodaaDoorRows
import GoSem.ClaimSeven
namespace Go.Proofs.YtghmbpmaafnodaaDoor
namespace Rows

/-- THE TIED CARD OF 'runriglaw6.ShowPrints'. -/
def showPrintsCard : Claim7 := { stood := { row := showPrintsRow, standIns := [], harness := (true, "9ae9adb6785f10a9ec06a08226277d68580508ba965088f72f4ae88497a8d286"), looks := false }, kinds := [], alts := [], laidByText := true, laidKinds := [.data, .data, .data], laidTests := true, laidLooks := .later }
def ShowPrintsCardSaid : Prop := Claim7.holds Tryd.pinned (.plain (OpenSpec.ofChange showPrintsSpec)) showPrintsCard

/-- THE TIED CARD OF 'runriglaw6.ShowBack'. -/
def showBackCard : Claim7 := { stood := { row := showBackRow, standIns := [], harness := (true, "9ae9adb6785f10a9ec06a08226277d68580508ba965088f72f4ae88497a8d286"), looks := false }, kinds := [], alts := [], laidByText := true, laidKinds := [.data, .data, .data], laidTests := true, laidLooks := .later }
def ShowBackCardSaid : Prop := Claim7.holds Tryd.pinned (.plain (OpenSpec.ofChange showBackSpec)) showBackCard

/-- THE TIED CARD OF 'runriglaw6.ShowExprs'. -/
def showExprsCard : Claim7 := { stood := { row := showExprsRow, standIns := [], harness := (true, "9ae9adb6785f10a9ec06a08226277d68580508ba965088f72f4ae88497a8d286"), looks := false }, kinds := [], alts := [], laidByText := true, laidKinds := [.data, .data, .data], laidTests := true, laidLooks := .later }
def ShowExprsCardSaid : Prop := Claim7.holds Tryd.pinned (.plain (OpenSpec.ofChange showExprsSpec)) showExprsCard

/-- THE TIED CARD OF 'runriglaw6.ShowParens'. -/
def showParensCard : Claim7 := { stood := { row := showParensRow, standIns := [], harness := (true, "9ae9adb6785f10a9ec06a08226277d68580508ba965088f72f4ae88497a8d286"), looks := false }, kinds := [], alts := [], laidByText := true, laidKinds := [.data, .data, .data], laidTests := true, laidLooks := .later }
def ShowParensCardSaid : Prop := Claim7.holds Tryd.pinned (.plain (OpenSpec.ofChange showParensSpec)) showParensCard

/-- THE TIED CARD OF 'runriglaw6.ShowTypes'. -/
def showTypesCard : Claim7 := { stood := { row := showTypesRow, standIns := [], harness := (true, "9ae9adb6785f10a9ec06a08226277d68580508ba965088f72f4ae88497a8d286"), looks := false }, kinds := [], alts := [], laidByText := true, laidKinds := [.data, .data, .data], laidTests := true, laidLooks := .later }
def ShowTypesCardSaid : Prop := Claim7.holds Tryd.pinned (.plain (OpenSpec.ofChange showTypesSpec)) showTypesCard

/-- THE TIED CARD OF 'runriglaw6.ShowSigns'. -/
def showSignsCard : Claim7 := { stood := { row := showSignsRow, standIns := [], harness := (true, "9ae9adb6785f10a9ec06a08226277d68580508ba965088f72f4ae88497a8d286"), looks := false }, kinds := [], alts := [], laidByText := true, laidKinds := [.data, .data, .data], laidTests := true, laidLooks := .later }
def ShowSignsCardSaid : Prop := Claim7.holds Tryd.pinned (.plain (OpenSpec.ofChange showSignsSpec)) showSignsCard

/-- THE SECOND FORM's CARD OF 'runriglaw6.ShowPrints'. -/
def showPrintsUptoCard : Claim7 := { stood := { row := showPrintsUptoRow, standIns := [], harness := (true, "9ae9adb6785f10a9ec06a08226277d68580508ba965088f72f4ae88497a8d286"), looks := false }, kinds := [], alts := [], laidByText := true, laidKinds := [.data, .data, .data], laidTests := true, laidLooks := .later }
def ShowPrintsUptoCardSaid : Prop := Claim7.holds Tryd.pinned (.plain (OpenSpec.upto showPrintsSpec)) showPrintsUptoCard

/-- THE SECOND FORM's CARD OF 'runriglaw6.ShowBack'. -/
def showBackUptoCard : Claim7 := { stood := { row := showBackUptoRow, standIns := [], harness := (true, "9ae9adb6785f10a9ec06a08226277d68580508ba965088f72f4ae88497a8d286"), looks := false }, kinds := [], alts := [], laidByText := true, laidKinds := [.data, .data, .data], laidTests := true, laidLooks := .later }
def ShowBackUptoCardSaid : Prop := Claim7.holds Tryd.pinned (.plain (OpenSpec.upto showBackSpec)) showBackUptoCard

/-- THE SECOND FORM's CARD OF 'runriglaw6.ShowExprs'. -/
def showExprsUptoCard : Claim7 := { stood := { row := showExprsUptoRow, standIns := [], harness := (true, "9ae9adb6785f10a9ec06a08226277d68580508ba965088f72f4ae88497a8d286"), looks := false }, kinds := [], alts := [], laidByText := true, laidKinds := [.data, .data, .data], laidTests := true, laidLooks := .later }
def ShowExprsUptoCardSaid : Prop := Claim7.holds Tryd.pinned (.plain (OpenSpec.upto showExprsSpec)) showExprsUptoCard

/-- THE SECOND FORM's CARD OF 'runriglaw6.ShowParens'. -/
def showParensUptoCard : Claim7 := { stood := { row := showParensUptoRow, standIns := [], harness := (true, "9ae9adb6785f10a9ec06a08226277d68580508ba965088f72f4ae88497a8d286"), looks := false }, kinds := [], alts := [], laidByText := true, laidKinds := [.data, .data, .data], laidTests := true, laidLooks := .later }
def ShowParensUptoCardSaid : Prop := Claim7.holds Tryd.pinned (.plain (OpenSpec.upto showParensSpec)) showParensUptoCard

/-- THE SECOND FORM's CARD OF 'runriglaw6.ShowTypes'. -/
def showTypesUptoCard : Claim7 := { stood := { row := showTypesUptoRow, standIns := [], harness := (true, "9ae9adb6785f10a9ec06a08226277d68580508ba965088f72f4ae88497a8d286"), looks := false }, kinds := [], alts := [], laidByText := true, laidKinds := [.data, .data, .data], laidTests := true, laidLooks := .later }
def ShowTypesUptoCardSaid : Prop := Claim7.holds Tryd.pinned (.plain (OpenSpec.upto showTypesSpec)) showTypesUptoCard

/-- THE SECOND FORM's CARD OF 'runriglaw6.ShowSigns'. -/
def showSignsUptoCard : Claim7 := { stood := { row := showSignsUptoRow, standIns := [], harness := (true, "9ae9adb6785f10a9ec06a08226277d68580508ba965088f72f4ae88497a8d286"), looks := false }, kinds := [], alts := [], laidByText := true, laidKinds := [.data, .data, .data], laidTests := true, laidLooks := .later }
def ShowSignsUptoCardSaid : Prop := Claim7.holds Tryd.pinned (.plain (OpenSpec.upto showSignsSpec)) showSignsUptoCard
end Rows
end Go.Proofs.YtghmbpmaafnodaaDoor

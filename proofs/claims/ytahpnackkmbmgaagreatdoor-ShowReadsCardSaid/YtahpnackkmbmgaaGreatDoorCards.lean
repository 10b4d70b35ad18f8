/-
  DERIVED. GIVEN WITH THE SEED: THE CARDS: each row of YtahpnackkmbmgaaGreatDoorRows.lean that lists a variable, with what it lists TIED to the program's text (the seventh form; the later family's looks); each row that meets fmt, with fmt's text TOLD by the authors' own Lean function (tested against real Go, not proved from fmt's source: count such statements apart). THE CARD IS WHAT COUNTS. Prove the row's statement (the work); the ties are given (YtahpnackkmbmgaaGreatDoorTie.lean); close each card by the builder's one call (the guide's Derived/Test/ToyasCard.lean, 'card_holds'). Laid BY PROGRAM, IN A SANDBOX (cutbox-door.mjs). By AI agents, Wed Nov 11 2026. No macro, syntax, notation, axiom, sorry.
-/
import Derived.Test.YtahpnackkmbmgaaGreatDoorRows
import GoSem.ClaimSeven
namespace Go.Proofs.YtahpnackkmbmgaaGreatDoor
namespace Rows

/-- THE TIED CARD OF 'rowanlaw04.ShowPrints'. -/
def showPrintsCard : Claim7 := { stood := { row := showPrintsRow, standIns := [], harness := (true, "39b143e58cafd85c0da9543a68c3a499da6ae94928cb302e7c6e5da49ad21481"), looks := false }, kinds := [], alts := [], laidByText := true, laidKinds := [.data, .data, .data], laidTests := true, laidLooks := .later }
def ShowPrintsCardSaid : Prop := Claim7.holds Tryz.pinned (.plain (OpenSpec.ofChange showPrintsSpec)) showPrintsCard

/-- THE TIED CARD OF 'rowanlaw04.ShowParses'. -/
def showParsesCard : Claim7 := { stood := { row := showParsesRow, standIns := [], harness := (true, "39b143e58cafd85c0da9543a68c3a499da6ae94928cb302e7c6e5da49ad21481"), looks := false }, kinds := [], alts := [], laidByText := true, laidKinds := [.data, .data, .data], laidTests := true, laidLooks := .later }
def ShowParsesCardSaid : Prop := Claim7.holds Tryz.pinned (.plain (OpenSpec.ofChange showParsesSpec)) showParsesCard

/-- THE TIED CARD OF 'rowanlaw04.ShowReads'. -/
def showReadsCard : Claim7 := { stood := { row := showReadsRow, standIns := [], harness := (true, "39b143e58cafd85c0da9543a68c3a499da6ae94928cb302e7c6e5da49ad21481"), looks := false }, kinds := [], alts := [], laidByText := true, laidKinds := [.data, .data, .data], laidTests := true, laidLooks := .later }
def ShowReadsCardSaid : Prop := Claim7.holds Tryz.pinned (.plain (OpenSpec.ofChange showReadsSpec)) showReadsCard

/-- THE TIED CARD OF 'rowanlaw04.ShowBack'. -/
def showBackCard : Claim7 := { stood := { row := showBackRow, standIns := [], harness := (true, "39b143e58cafd85c0da9543a68c3a499da6ae94928cb302e7c6e5da49ad21481"), looks := false }, kinds := [], alts := [], laidByText := true, laidKinds := [.data, .data, .data], laidTests := true, laidLooks := .later }
def ShowBackCardSaid : Prop := Claim7.holds Tryz.pinned (.plain (OpenSpec.ofChange showBackSpec)) showBackCard

/-- THE SECOND FORM's CARD OF 'rowanlaw04.ShowPrints'. -/
def showPrintsUptoCard : Claim7 := { stood := { row := showPrintsUptoRow, standIns := [], harness := (true, "39b143e58cafd85c0da9543a68c3a499da6ae94928cb302e7c6e5da49ad21481"), looks := false }, kinds := [], alts := [], laidByText := true, laidKinds := [.data, .data, .data], laidTests := true, laidLooks := .later }
def ShowPrintsUptoCardSaid : Prop := Claim7.holds Tryz.pinned (.plain (OpenSpec.upto showPrintsSpec)) showPrintsUptoCard

/-- THE SECOND FORM's CARD OF 'rowanlaw04.ShowParses'. -/
def showParsesUptoCard : Claim7 := { stood := { row := showParsesUptoRow, standIns := [], harness := (true, "39b143e58cafd85c0da9543a68c3a499da6ae94928cb302e7c6e5da49ad21481"), looks := false }, kinds := [], alts := [], laidByText := true, laidKinds := [.data, .data, .data], laidTests := true, laidLooks := .later }
def ShowParsesUptoCardSaid : Prop := Claim7.holds Tryz.pinned (.plain (OpenSpec.upto showParsesSpec)) showParsesUptoCard

/-- THE SECOND FORM's CARD OF 'rowanlaw04.ShowReads'. -/
def showReadsUptoCard : Claim7 := { stood := { row := showReadsUptoRow, standIns := [], harness := (true, "39b143e58cafd85c0da9543a68c3a499da6ae94928cb302e7c6e5da49ad21481"), looks := false }, kinds := [], alts := [], laidByText := true, laidKinds := [.data, .data, .data], laidTests := true, laidLooks := .later }
def ShowReadsUptoCardSaid : Prop := Claim7.holds Tryz.pinned (.plain (OpenSpec.upto showReadsSpec)) showReadsUptoCard

/-- THE SECOND FORM's CARD OF 'rowanlaw04.ShowBack'. -/
def showBackUptoCard : Claim7 := { stood := { row := showBackUptoRow, standIns := [], harness := (true, "39b143e58cafd85c0da9543a68c3a499da6ae94928cb302e7c6e5da49ad21481"), looks := false }, kinds := [], alts := [], laidByText := true, laidKinds := [.data, .data, .data], laidTests := true, laidLooks := .later }
def ShowBackUptoCardSaid : Prop := Claim7.holds Tryz.pinned (.plain (OpenSpec.upto showBackSpec)) showBackUptoCard
end Rows
end Go.Proofs.YtahpnackkmbmgaaGreatDoor

/-
  DERIVED. GIVEN WITH THE SEED: THE CARDS: each row of YtncijebklnbhlaaGreatDoorRows.lean that lists a variable, with what it lists TIED to the program's text (the seventh form; the later family's looks); each row that meets fmt, with fmt's text TOLD by the authors' own Lean function (tested against real Go, not proved from fmt's source: count such statements apart). THE CARD IS WHAT COUNTS. Prove the row's statement (the work); the ties are given (YtncijebklnbhlaaGreatDoorTie.lean); close each card by the builder's one call (the guide's Derived/Test/ToyasCard.lean, 'card_holds'). Laid BY PROGRAM, IN A SANDBOX (cutbox-door.mjs). By AI agents, Wed Nov 11 2026. No macro, syntax, notation, axiom, sorry.
-/
import Derived.Test.YtncijebklnbhlaaGreatDoorRows
import GoSem.ClaimSeven
namespace Go.Proofs.YtncijebklnbhlaaGreatDoor
namespace Rows

/-- THE TIED CARD OF 'rowanlaw07.ProsePrints'. -/
def prosePrintsCard : Claim7 := { stood := { row := prosePrintsRow, standIns := [], harness := (true, "2bfba37cfc30ddfefe665f06484f8ae916b7ca2f403bc555afe704e65b44a66d"), looks := false }, kinds := [], alts := [], laidByText := true, laidKinds := [.data, .data, .data], laidTests := true, laidLooks := .later }
def ProsePrintsCardSaid : Prop := Claim7.holds Tryz.pinned (.plain (OpenSpec.ofChange prosePrintsSpec)) prosePrintsCard

/-- THE SECOND FORM's CARD OF 'rowanlaw07.ProsePrints'. -/
def prosePrintsUptoCard : Claim7 := { stood := { row := prosePrintsUptoRow, standIns := [], harness := (true, "2bfba37cfc30ddfefe665f06484f8ae916b7ca2f403bc555afe704e65b44a66d"), looks := false }, kinds := [], alts := [], laidByText := true, laidKinds := [.data, .data, .data], laidTests := true, laidLooks := .later }
def ProsePrintsUptoCardSaid : Prop := Claim7.holds Tryz.pinned (.plain (OpenSpec.upto prosePrintsSpec)) prosePrintsUptoCard
end Rows
end Go.Proofs.YtncijebklnbhlaaGreatDoor

/-
  DERIVED. GIVEN WITH THE SEED: THE CARDS: each row of YtlofmibkljoapaaDoorRows.lean that lists a variable, with what it lists TIED to the program's text (the seventh form; the later family's looks); each row that meets fmt, with fmt's text TOLD by the authors' own Lean function (tested against real Go, not proved from fmt's source: count such statements apart). THE CARD IS WHAT COUNTS. Prove the row's statement (the work); the ties are given (YtlofmibkljoapaaDoorTie.lean); close each card by the builder's one call (the guide's Derived/Test/ToyasCard.lean, 'card_holds'). Laid BY PROGRAM, IN A SANDBOX (cutbox-door.mjs). By AI agents, Wed Nov 11 2026. No macro, syntax, notation, axiom, sorry.
-/
import Derived.Test.YtlofmibkljoapaaDoorRows
import GoSem.ClaimSeven
namespace Go.Proofs.YtlofmibkljoapaaDoor
namespace Rows

/-- THE TIED CARD OF 'rowanlaw11.SchemePrints'. -/
def schemePrintsCard : Claim7 := { stood := { row := schemePrintsRow, standIns := [], harness := (true, "d36c5f93be38c2976439288a2399eae22f38617a233eed033e4c603839be26f1"), looks := false }, kinds := [], alts := [], laidByText := true, laidKinds := [.data, .data, .data], laidTests := true, laidLooks := .later }
def SchemePrintsCardSaid : Prop := Claim7.holds Tryd.pinned (.plain (OpenSpec.ofChange schemePrintsSpec)) schemePrintsCard

/-- THE TIED CARD OF 'rowanlaw11.SchemeOrder'. -/
def schemeOrderCard : Claim7 := { stood := { row := schemeOrderRow, standIns := [], harness := (true, "d36c5f93be38c2976439288a2399eae22f38617a233eed033e4c603839be26f1"), looks := false }, kinds := [], alts := [], laidByText := true, laidKinds := [.data, .data, .data], laidTests := true, laidLooks := .later }
def SchemeOrderCardSaid : Prop := Claim7.holds Tryd.pinned (.plain (OpenSpec.ofChange schemeOrderSpec)) schemeOrderCard

/-- THE SECOND FORM's CARD OF 'rowanlaw11.SchemePrints'. -/
def schemePrintsUptoCard : Claim7 := { stood := { row := schemePrintsUptoRow, standIns := [], harness := (true, "d36c5f93be38c2976439288a2399eae22f38617a233eed033e4c603839be26f1"), looks := false }, kinds := [], alts := [], laidByText := true, laidKinds := [.data, .data, .data], laidTests := true, laidLooks := .later }
def SchemePrintsUptoCardSaid : Prop := Claim7.holds Tryd.pinned (.plain (OpenSpec.upto schemePrintsSpec)) schemePrintsUptoCard

/-- THE SECOND FORM's CARD OF 'rowanlaw11.SchemeOrder'. -/
def schemeOrderUptoCard : Claim7 := { stood := { row := schemeOrderUptoRow, standIns := [], harness := (true, "d36c5f93be38c2976439288a2399eae22f38617a233eed033e4c603839be26f1"), looks := false }, kinds := [], alts := [], laidByText := true, laidKinds := [.data, .data, .data], laidTests := true, laidLooks := .later }
def SchemeOrderUptoCardSaid : Prop := Claim7.holds Tryd.pinned (.plain (OpenSpec.upto schemeOrderSpec)) schemeOrderUptoCard
end Rows
end Go.Proofs.YtlofmibkljoapaaDoor

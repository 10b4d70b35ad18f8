/-
  DERIVED. GIVEN WITH THE SEED: THE CARDS: each row of YtgedpbpfoaljhaaDoorRows.lean that lists a variable, with what it lists TIED to the program's text (the seventh form; the later family's looks); each row that meets fmt, with fmt's text TOLD by the authors' own Lean function (tested against real Go, not proved from fmt's source: count such statements apart). THE CARD IS WHAT COUNTS. Prove the row's statement (the work); the ties are given (YtgedpbpfoaljhaaDoorTie.lean); close each card by the builder's one call (the guide's Derived/Test/ToyasCard.lean, 'card_holds'). Laid BY PROGRAM, IN A SANDBOX (cutbox-door.mjs). By AI agents, Wed Nov 11 2026. No macro, syntax, notation, axiom, sorry.
-/
import Derived.Test.YtgedpbpfoaljhaaDoorRows
import GoSem.ClaimSeven
namespace Go.Proofs.YtgedpbpfoaljhaaDoor
namespace Rows

/-- THE TIED CARD OF 'rowanlaw07.ProseWords'. -/
def proseWordsCard : Claim7 := { stood := { row := proseWordsRow, standIns := [], harness := (true, "fca768fe433db86241dca1e251307b8456f4a30ca093eaffb3aa03d309ea83c9"), looks := false }, kinds := [], alts := [], laidByText := true, laidKinds := [.data, .data, .data], laidTests := true, laidLooks := .later }
def ProseWordsCardSaid : Prop := Claim7.holds Tryd.pinned (.plain (OpenSpec.ofChange proseWordsSpec)) proseWordsCard

/-- THE SECOND FORM's CARD OF 'rowanlaw07.ProseWords'. -/
def proseWordsUptoCard : Claim7 := { stood := { row := proseWordsUptoRow, standIns := [], harness := (true, "fca768fe433db86241dca1e251307b8456f4a30ca093eaffb3aa03d309ea83c9"), looks := false }, kinds := [], alts := [], laidByText := true, laidKinds := [.data, .data, .data], laidTests := true, laidLooks := .later }
def ProseWordsUptoCardSaid : Prop := Claim7.holds Tryd.pinned (.plain (OpenSpec.upto proseWordsSpec)) proseWordsUptoCard
end Rows
end Go.Proofs.YtgedpbpfoaljhaaDoor

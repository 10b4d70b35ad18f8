/-
  No cell of these rows narrows 'for every input' (looked for: loops, veiled, ifaces, maps, wideKeys, modest, calm, conditions, laid).
  DERIVED. THE GIVEN ROWS OF THIS SEAT. 12 by the template 'for every input the law returns true; each argument reads behind the call as it read before'; 0 by the template 'total and deterministic' (their statements: YtegekajbnecdfaaTotals.lean).
  GIVEN WITH THE SEED: the statements are not yours to turn. If you find one false, say at which input.
  Laid BY PROGRAM, IN A SANDBOX (cutbox-rows.mjs): the forced cells as the released guide's own fill.sh prints them over the translation 2d77e44245ed259c… (all of the seat's roots in one cut). By AI agents, Wed Nov 11 2026. No macro, syntax, notation, axiom, sorry.
-/
import Derived.Test.YtegekajbnecdfaaChecked
import GoSem.Claim
import GoSem.ClaimJoined
import GoSem.ClaimMapViews
import Derived.JoinedTies
import Derived.KernelRfl
namespace Go.Proofs.Ytegekajbnecdfaa
/- THE CELL 'sum', in the pinned program and in every row, IS THE sha256 OF THE DUMP (.gsa) THAT YtegekajbnecdfaaProg.lean LOADS. Nothing in Lean hashes anything: it is a label: what it is worth is what the hold of that sum in a sandbox is worth. -/
noncomputable def Try.pinned : Pinned := { name := "ytegekajbnecdfaa", sum := "2d77e44245ed259ca567d123fc791d7f035c5801484ddc1ce4b396352f9c46a2", checked := Try.checked }
namespace Rows
def none {H : Type} : Left H := { results := [], args := [] }

/-- 'rowanlaw01.RunesNext': WHATEVER THE INPUT: true; the input reads as it did. -/
def runesNextSpec : ChangeSpec := { name := "runesNext", fn := fun _ => fun
  | [d1, d2] => { results := [.lit (.bool true)], args := [d1, d2] }
  | _ => none }
def runesNextRow : OpenClaim := { program := "ytegekajbnecdfaa", sum := "2d77e44245ed259ca567d123fc791d7f035c5801484ddc1ce4b396352f9c46a2", func := "rowan/rowanlaw01.RunesNext", spec := "runesNext", apart := false }
def RunesNextSaid : Prop := runesNextRow.holds Try.pinned (OpenSpec.ofChange runesNextSpec)

/-- ITS FALSE NEIGHBOUR: 'it returns false'. Refute it at one input. -/
def runesNextWrong : ChangeSpec := { name := "runesNext", fn := fun _ => fun
  | [d1, d2] => { results := [.lit (.bool false)], args := [d1, d2] }
  | _ => none }
def RunesNextWrongFalsely : Prop := runesNextRow.holds Try.pinned (OpenSpec.ofChange runesNextWrong)

/-- 'rowanlaw17.ArithWide': WHATEVER THE INPUT: true; the input reads as it did. -/
def arithWideSpec : ChangeSpec := { name := "arithWide", fn := fun _ => fun
  | [d1, d2] => { results := [.lit (.bool true)], args := [d1, d2] }
  | _ => none }
def arithWideRow : OpenClaim := { program := "ytegekajbnecdfaa", sum := "2d77e44245ed259ca567d123fc791d7f035c5801484ddc1ce4b396352f9c46a2", func := "rowan/rowanlaw17.ArithWide", spec := "arithWide", apart := false }
def ArithWideSaid : Prop := arithWideRow.holds Try.pinned (OpenSpec.ofChange arithWideSpec)

/-- ITS FALSE NEIGHBOUR: 'it returns false'. Refute it at one input. -/
def arithWideWrong : ChangeSpec := { name := "arithWide", fn := fun _ => fun
  | [d1, d2] => { results := [.lit (.bool false)], args := [d1, d2] }
  | _ => none }
def ArithWideWrongFalsely : Prop := arithWideRow.holds Try.pinned (OpenSpec.ofChange arithWideWrong)

/-- 'rowanlaw17.ArithRules': WHATEVER THE INPUT: true; the input reads as it did. -/
def arithRulesSpec : ChangeSpec := { name := "arithRules", fn := fun _ => fun
  | [d1, d2] => { results := [.lit (.bool true)], args := [d1, d2] }
  | _ => none }
def arithRulesRow : OpenClaim := { program := "ytegekajbnecdfaa", sum := "2d77e44245ed259ca567d123fc791d7f035c5801484ddc1ce4b396352f9c46a2", func := "rowan/rowanlaw17.ArithRules", spec := "arithRules", apart := false }
def ArithRulesSaid : Prop := arithRulesRow.holds Try.pinned (OpenSpec.ofChange arithRulesSpec)

/-- ITS FALSE NEIGHBOUR: 'it returns false'. Refute it at one input. -/
def arithRulesWrong : ChangeSpec := { name := "arithRules", fn := fun _ => fun
  | [d1, d2] => { results := [.lit (.bool false)], args := [d1, d2] }
  | _ => none }
def ArithRulesWrongFalsely : Prop := arithRulesRow.holds Try.pinned (OpenSpec.ofChange arithRulesWrong)

/-- 'rowanlaw17.ArithSteps': WHATEVER THE INPUT: true; the input reads as it did. -/
def arithStepsSpec : ChangeSpec := { name := "arithSteps", fn := fun _ => fun
  | [d1, d2, d3] => { results := [.lit (.bool true)], args := [d1, d2, d3] }
  | _ => none }
def arithStepsRow : OpenClaim := { program := "ytegekajbnecdfaa", sum := "2d77e44245ed259ca567d123fc791d7f035c5801484ddc1ce4b396352f9c46a2", func := "rowan/rowanlaw17.ArithSteps", spec := "arithSteps", apart := false }
def ArithStepsSaid : Prop := arithStepsRow.holds Try.pinned (OpenSpec.ofChange arithStepsSpec)

/-- ITS FALSE NEIGHBOUR: 'it returns false'. Refute it at one input. -/
def arithStepsWrong : ChangeSpec := { name := "arithSteps", fn := fun _ => fun
  | [d1, d2, d3] => { results := [.lit (.bool false)], args := [d1, d2, d3] }
  | _ => none }
def ArithStepsWrongFalsely : Prop := arithStepsRow.holds Try.pinned (OpenSpec.ofChange arithStepsWrong)

/-- 'rowanlaw01.RunesCheck': WHATEVER THE INPUT: true; the input reads as it did. -/
def runesCheckSpec : ChangeSpec := { name := "runesCheck", fn := fun _ => fun
  | [d] => { results := [.lit (.bool true)], args := [d] }
  | _ => none }
def runesCheckRow : OpenClaim := { program := "ytegekajbnecdfaa", sum := "2d77e44245ed259ca567d123fc791d7f035c5801484ddc1ce4b396352f9c46a2", func := "rowan/rowanlaw01.RunesCheck", spec := "runesCheck", apart := false }
def RunesCheckSaid : Prop := runesCheckRow.holds Try.pinned (OpenSpec.ofChange runesCheckSpec)

/-- ITS FALSE NEIGHBOUR: 'it returns false'. Refute it at one input. -/
def runesCheckWrong : ChangeSpec := { name := "runesCheck", fn := fun _ => fun
  | [d] => { results := [.lit (.bool false)], args := [d] }
  | _ => none }
def RunesCheckWrongFalsely : Prop := runesCheckRow.holds Try.pinned (OpenSpec.ofChange runesCheckWrong)

/-- 'rowanlaw01.RunesPlaces': WHATEVER THE INPUT: true; the input reads as it did. -/
def runesPlacesSpec : ChangeSpec := { name := "runesPlaces", fn := fun _ => fun
  | [d1, d2] => { results := [.lit (.bool true)], args := [d1, d2] }
  | _ => none }
def runesPlacesRow : OpenClaim := { program := "ytegekajbnecdfaa", sum := "2d77e44245ed259ca567d123fc791d7f035c5801484ddc1ce4b396352f9c46a2", func := "rowan/rowanlaw01.RunesPlaces", spec := "runesPlaces", apart := false }
def RunesPlacesSaid : Prop := runesPlacesRow.holds Try.pinned (OpenSpec.ofChange runesPlacesSpec)

/-- ITS FALSE NEIGHBOUR: 'it returns false'. Refute it at one input. -/
def runesPlacesWrong : ChangeSpec := { name := "runesPlaces", fn := fun _ => fun
  | [d1, d2] => { results := [.lit (.bool false)], args := [d1, d2] }
  | _ => none }
def RunesPlacesWrongFalsely : Prop := runesPlacesRow.holds Try.pinned (OpenSpec.ofChange runesPlacesWrong)

/-- 'rowanlaw01.RunesPut': WHATEVER THE INPUT: true; the input reads as it did. -/
def runesPutSpec : ChangeSpec := { name := "runesPut", fn := fun _ => fun
  | [d1, d2] => { results := [.lit (.bool true)], args := [d1, d2] }
  | _ => none }
def runesPutRow : OpenClaim := { program := "ytegekajbnecdfaa", sum := "2d77e44245ed259ca567d123fc791d7f035c5801484ddc1ce4b396352f9c46a2", func := "rowan/rowanlaw01.RunesPut", spec := "runesPut", apart := false }
def RunesPutSaid : Prop := runesPutRow.holds Try.pinned (OpenSpec.ofChange runesPutSpec)

/-- ITS FALSE NEIGHBOUR: 'it returns false'. Refute it at one input. -/
def runesPutWrong : ChangeSpec := { name := "runesPut", fn := fun _ => fun
  | [d1, d2] => { results := [.lit (.bool false)], args := [d1, d2] }
  | _ => none }
def RunesPutWrongFalsely : Prop := runesPutRow.holds Try.pinned (OpenSpec.ofChange runesPutWrong)

/-- 'rowanlaw01.RunesBack': WHATEVER THE INPUT: true; the input reads as it did. -/
def runesBackSpec : ChangeSpec := { name := "runesBack", fn := fun _ => fun
  | [d] => { results := [.lit (.bool true)], args := [d] }
  | _ => none }
def runesBackRow : OpenClaim := { program := "ytegekajbnecdfaa", sum := "2d77e44245ed259ca567d123fc791d7f035c5801484ddc1ce4b396352f9c46a2", func := "rowan/rowanlaw01.RunesBack", spec := "runesBack", apart := false }
def RunesBackSaid : Prop := runesBackRow.holds Try.pinned (OpenSpec.ofChange runesBackSpec)

/-- ITS FALSE NEIGHBOUR: 'it returns false'. Refute it at one input. -/
def runesBackWrong : ChangeSpec := { name := "runesBack", fn := fun _ => fun
  | [d] => { results := [.lit (.bool false)], args := [d] }
  | _ => none }
def RunesBackWrongFalsely : Prop := runesBackRow.holds Try.pinned (OpenSpec.ofChange runesBackWrong)

/-- 'rowanlaw02.LexisTokens': WHATEVER THE INPUT: true; the input reads as it did. -/
def lexisTokensSpec : ChangeSpec := { name := "lexisTokens", fn := fun _ => fun
  | [d] => { results := [.lit (.bool true)], args := [d] }
  | _ => none }
def lexisTokensRow : OpenClaim := { program := "ytegekajbnecdfaa", sum := "2d77e44245ed259ca567d123fc791d7f035c5801484ddc1ce4b396352f9c46a2", func := "rowan/rowanlaw02.LexisTokens", spec := "lexisTokens", apart := false }
def LexisTokensSaid : Prop := lexisTokensRow.holds Try.pinned (OpenSpec.ofChange lexisTokensSpec)

/-- ITS FALSE NEIGHBOUR: 'it returns false'. Refute it at one input. -/
def lexisTokensWrong : ChangeSpec := { name := "lexisTokens", fn := fun _ => fun
  | [d] => { results := [.lit (.bool false)], args := [d] }
  | _ => none }
def LexisTokensWrongFalsely : Prop := lexisTokensRow.holds Try.pinned (OpenSpec.ofChange lexisTokensWrong)

/-- 'rowanlaw02.LexisBlanks': WHATEVER THE INPUT: true; the input reads as it did. -/
def lexisBlanksSpec : ChangeSpec := { name := "lexisBlanks", fn := fun _ => fun
  | [d1, d2] => { results := [.lit (.bool true)], args := [d1, d2] }
  | _ => none }
def lexisBlanksRow : OpenClaim := { program := "ytegekajbnecdfaa", sum := "2d77e44245ed259ca567d123fc791d7f035c5801484ddc1ce4b396352f9c46a2", func := "rowan/rowanlaw02.LexisBlanks", spec := "lexisBlanks", apart := false }
def LexisBlanksSaid : Prop := lexisBlanksRow.holds Try.pinned (OpenSpec.ofChange lexisBlanksSpec)

/-- ITS FALSE NEIGHBOUR: 'it returns false'. Refute it at one input. -/
def lexisBlanksWrong : ChangeSpec := { name := "lexisBlanks", fn := fun _ => fun
  | [d1, d2] => { results := [.lit (.bool false)], args := [d1, d2] }
  | _ => none }
def LexisBlanksWrongFalsely : Prop := lexisBlanksRow.holds Try.pinned (OpenSpec.ofChange lexisBlanksWrong)

/-- 'rowanlaw02.LexisWords': WHATEVER THE INPUT: true; the input reads as it did. -/
def lexisWordsSpec : ChangeSpec := { name := "lexisWords", fn := fun _ => fun
  | [d] => { results := [.lit (.bool true)], args := [d] }
  | _ => none }
def lexisWordsRow : OpenClaim := { program := "ytegekajbnecdfaa", sum := "2d77e44245ed259ca567d123fc791d7f035c5801484ddc1ce4b396352f9c46a2", func := "rowan/rowanlaw02.LexisWords", spec := "lexisWords", apart := false }
def LexisWordsSaid : Prop := lexisWordsRow.holds Try.pinned (OpenSpec.ofChange lexisWordsSpec)

/-- ITS FALSE NEIGHBOUR: 'it returns false'. Refute it at one input. -/
def lexisWordsWrong : ChangeSpec := { name := "lexisWords", fn := fun _ => fun
  | [d] => { results := [.lit (.bool false)], args := [d] }
  | _ => none }
def LexisWordsWrongFalsely : Prop := lexisWordsRow.holds Try.pinned (OpenSpec.ofChange lexisWordsWrong)

/-- 'rowanlaw02.LexisReads': WHATEVER THE INPUT: true; the input reads as it did. -/
def lexisReadsSpec : ChangeSpec := { name := "lexisReads", fn := fun _ => fun
  | [d1, d2] => { results := [.lit (.bool true)], args := [d1, d2] }
  | _ => none }
def lexisReadsRow : OpenClaim := { program := "ytegekajbnecdfaa", sum := "2d77e44245ed259ca567d123fc791d7f035c5801484ddc1ce4b396352f9c46a2", func := "rowan/rowanlaw02.LexisReads", spec := "lexisReads", apart := false }
def LexisReadsSaid : Prop := lexisReadsRow.holds Try.pinned (OpenSpec.ofChange lexisReadsSpec)

/-- ITS FALSE NEIGHBOUR: 'it returns false'. Refute it at one input. -/
def lexisReadsWrong : ChangeSpec := { name := "lexisReads", fn := fun _ => fun
  | [d1, d2] => { results := [.lit (.bool false)], args := [d1, d2] }
  | _ => none }
def LexisReadsWrongFalsely : Prop := lexisReadsRow.holds Try.pinned (OpenSpec.ofChange lexisReadsWrong)

/- THE SECOND FORM. 'bulk': how many values and letters a reading holds, each counted each time it is reached (what is shared counts as often as it is met; a slice's spare places count too). A statement '..UptoSaid' is the law's where the arguments, and the package variables that the reading takes, are together of bulk at most 1048576: NARROWER than '..Said'. Prove '..Said' where nothing that the law and all that it calls make is longer than what came in: it says more and counts as full. Else prove '..UptoSaid'. A law counts once. -/
mutual
def uptoBulk {H : Type} : DataW H → Nat
  | .lit (.string bytes) => bytes.length + 1
  | .lit _ => 1
  | .nil => 1
  | .ptr d => uptoBulk d + 1
  | .slice elems spare => uptoBulkAll elems + uptoBulkAll spare + 1
  | .agg parts => uptoBulkAll parts + 1
  | .iface _ d => uptoBulk d + 1
  | .map entries => uptoBulkEntries entries + 1
  | .held _ => 1
def uptoBulkAll {H : Type} : List (DataW H) → Nat
  | [] => 0
  | d :: r => uptoBulk d + uptoBulkAll r
def uptoBulkEntries {H : Type} : List (Lit × DataW H) → Nat
  | [] => 0
  | x :: r => uptoBulkEntry x + uptoBulkEntries r
def uptoBulkEntry {H : Type} : Lit × DataW H → Nat
  | (.string bytes, d) => bytes.length + uptoBulk d + 1
  | (_, d) => uptoBulk d + 1
 end
def uptoSmall : (H : Type) → List (DataW H) → Bool := fun _ ds => decide (uptoBulkAll ds ≤ 1048576)
def OpenSpec.upto (s : _root_.Go.ChangeSpec) : _root_.Go.OpenSpec := { _root_.Go.OpenSpec.ofChange s with cond := some uptoSmall }

/-- 'rowanlaw01.RunesNext', WHERE WHAT IT READS IS OF BULK AT MOST 1048576: true; the input reads as it did. -/
def runesNextUptoRow : OpenClaim := { program := "ytegekajbnecdfaa", sum := "2d77e44245ed259ca567d123fc791d7f035c5801484ddc1ce4b396352f9c46a2", func := "rowan/rowanlaw01.RunesNext", spec := "runesNext", apart := false, narrowed := true }
def RunesNextUptoSaid : Prop := runesNextUptoRow.holds Try.pinned (OpenSpec.upto runesNextSpec)

/-- 'rowanlaw17.ArithWide', WHERE WHAT IT READS IS OF BULK AT MOST 1048576: true; the input reads as it did. -/
def arithWideUptoRow : OpenClaim := { program := "ytegekajbnecdfaa", sum := "2d77e44245ed259ca567d123fc791d7f035c5801484ddc1ce4b396352f9c46a2", func := "rowan/rowanlaw17.ArithWide", spec := "arithWide", apart := false, narrowed := true }
def ArithWideUptoSaid : Prop := arithWideUptoRow.holds Try.pinned (OpenSpec.upto arithWideSpec)

/-- 'rowanlaw17.ArithRules', WHERE WHAT IT READS IS OF BULK AT MOST 1048576: true; the input reads as it did. -/
def arithRulesUptoRow : OpenClaim := { program := "ytegekajbnecdfaa", sum := "2d77e44245ed259ca567d123fc791d7f035c5801484ddc1ce4b396352f9c46a2", func := "rowan/rowanlaw17.ArithRules", spec := "arithRules", apart := false, narrowed := true }
def ArithRulesUptoSaid : Prop := arithRulesUptoRow.holds Try.pinned (OpenSpec.upto arithRulesSpec)

/-- 'rowanlaw17.ArithSteps', WHERE WHAT IT READS IS OF BULK AT MOST 1048576: true; the input reads as it did. -/
def arithStepsUptoRow : OpenClaim := { program := "ytegekajbnecdfaa", sum := "2d77e44245ed259ca567d123fc791d7f035c5801484ddc1ce4b396352f9c46a2", func := "rowan/rowanlaw17.ArithSteps", spec := "arithSteps", apart := false, narrowed := true }
def ArithStepsUptoSaid : Prop := arithStepsUptoRow.holds Try.pinned (OpenSpec.upto arithStepsSpec)

/-- 'rowanlaw01.RunesCheck', WHERE WHAT IT READS IS OF BULK AT MOST 1048576: true; the input reads as it did. -/
def runesCheckUptoRow : OpenClaim := { program := "ytegekajbnecdfaa", sum := "2d77e44245ed259ca567d123fc791d7f035c5801484ddc1ce4b396352f9c46a2", func := "rowan/rowanlaw01.RunesCheck", spec := "runesCheck", apart := false, narrowed := true }
def RunesCheckUptoSaid : Prop := runesCheckUptoRow.holds Try.pinned (OpenSpec.upto runesCheckSpec)

/-- 'rowanlaw01.RunesPlaces', WHERE WHAT IT READS IS OF BULK AT MOST 1048576: true; the input reads as it did. -/
def runesPlacesUptoRow : OpenClaim := { program := "ytegekajbnecdfaa", sum := "2d77e44245ed259ca567d123fc791d7f035c5801484ddc1ce4b396352f9c46a2", func := "rowan/rowanlaw01.RunesPlaces", spec := "runesPlaces", apart := false, narrowed := true }
def RunesPlacesUptoSaid : Prop := runesPlacesUptoRow.holds Try.pinned (OpenSpec.upto runesPlacesSpec)

/-- 'rowanlaw01.RunesPut', WHERE WHAT IT READS IS OF BULK AT MOST 1048576: true; the input reads as it did. -/
def runesPutUptoRow : OpenClaim := { program := "ytegekajbnecdfaa", sum := "2d77e44245ed259ca567d123fc791d7f035c5801484ddc1ce4b396352f9c46a2", func := "rowan/rowanlaw01.RunesPut", spec := "runesPut", apart := false, narrowed := true }
def RunesPutUptoSaid : Prop := runesPutUptoRow.holds Try.pinned (OpenSpec.upto runesPutSpec)

/-- 'rowanlaw01.RunesBack', WHERE WHAT IT READS IS OF BULK AT MOST 1048576: true; the input reads as it did. -/
def runesBackUptoRow : OpenClaim := { program := "ytegekajbnecdfaa", sum := "2d77e44245ed259ca567d123fc791d7f035c5801484ddc1ce4b396352f9c46a2", func := "rowan/rowanlaw01.RunesBack", spec := "runesBack", apart := false, narrowed := true }
def RunesBackUptoSaid : Prop := runesBackUptoRow.holds Try.pinned (OpenSpec.upto runesBackSpec)

/-- 'rowanlaw02.LexisTokens', WHERE WHAT IT READS IS OF BULK AT MOST 1048576: true; the input reads as it did. -/
def lexisTokensUptoRow : OpenClaim := { program := "ytegekajbnecdfaa", sum := "2d77e44245ed259ca567d123fc791d7f035c5801484ddc1ce4b396352f9c46a2", func := "rowan/rowanlaw02.LexisTokens", spec := "lexisTokens", apart := false, narrowed := true }
def LexisTokensUptoSaid : Prop := lexisTokensUptoRow.holds Try.pinned (OpenSpec.upto lexisTokensSpec)

/-- 'rowanlaw02.LexisBlanks', WHERE WHAT IT READS IS OF BULK AT MOST 1048576: true; the input reads as it did. -/
def lexisBlanksUptoRow : OpenClaim := { program := "ytegekajbnecdfaa", sum := "2d77e44245ed259ca567d123fc791d7f035c5801484ddc1ce4b396352f9c46a2", func := "rowan/rowanlaw02.LexisBlanks", spec := "lexisBlanks", apart := false, narrowed := true }
def LexisBlanksUptoSaid : Prop := lexisBlanksUptoRow.holds Try.pinned (OpenSpec.upto lexisBlanksSpec)

/-- 'rowanlaw02.LexisWords', WHERE WHAT IT READS IS OF BULK AT MOST 1048576: true; the input reads as it did. -/
def lexisWordsUptoRow : OpenClaim := { program := "ytegekajbnecdfaa", sum := "2d77e44245ed259ca567d123fc791d7f035c5801484ddc1ce4b396352f9c46a2", func := "rowan/rowanlaw02.LexisWords", spec := "lexisWords", apart := false, narrowed := true }
def LexisWordsUptoSaid : Prop := lexisWordsUptoRow.holds Try.pinned (OpenSpec.upto lexisWordsSpec)

/-- 'rowanlaw02.LexisReads', WHERE WHAT IT READS IS OF BULK AT MOST 1048576: true; the input reads as it did. -/
def lexisReadsUptoRow : OpenClaim := { program := "ytegekajbnecdfaa", sum := "2d77e44245ed259ca567d123fc791d7f035c5801484ddc1ce4b396352f9c46a2", func := "rowan/rowanlaw02.LexisReads", spec := "lexisReads", apart := false, narrowed := true }
def LexisReadsUptoSaid : Prop := lexisReadsUptoRow.holds Try.pinned (OpenSpec.upto lexisReadsSpec)

end Rows
end Go.Proofs.Ytegekajbnecdfaa

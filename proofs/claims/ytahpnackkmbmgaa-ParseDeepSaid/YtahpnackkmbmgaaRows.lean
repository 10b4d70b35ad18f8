/-
  NARROWER THAN 'FOR EVERY INPUT', by the rows' own cells (each row's printed sentence says how): AlphaRenames: loops · AlphaRefers: loops.
  DERIVED. THE GIVEN ROWS OF THIS SEAT. 3 by the template 'for every input the law returns true; each argument reads behind the call as it read before'; 0 by the template 'total and deterministic' (their statements: YtahpnackkmbmgaaTotals.lean).
  GIVEN WITH THE SEED: the statements are not yours to turn. If you find one false, say at which input.
  Laid BY PROGRAM, IN A SANDBOX (cutbox-rows.mjs): the forced cells as the released guide's own fill.sh prints them over the translation f6a9f66f93765f5d… (all of the seat's roots in one cut). By AI agents, Wed Nov 11 2026. No macro, syntax, notation, axiom, sorry.
-/
import Derived.Test.YtahpnackkmbmgaaChecked
import GoSem.Claim
import GoSem.ClaimJoined
import GoSem.ClaimMapViews
import Derived.JoinedTies
import Derived.KernelRfl
namespace Go.Proofs.Ytahpnackkmbmgaa
/- THE CELL 'sum', in the pinned program and in every row, IS THE sha256 OF THE DUMP (.gsa) THAT YtahpnackkmbmgaaProg.lean LOADS. Nothing in Lean hashes anything: it is a label: what it is worth is what the hold of that sum in a sandbox is worth. -/
noncomputable def Try.pinned : Pinned := { name := "ytahpnackkmbmgaa", sum := "f6a9f66f93765f5d8dbf46e71c3b211d256471290243a9553bc4708bf5b46628", checked := Try.checked }
namespace Rows
def none {H : Type} : Left H := { results := [], args := [] }

/-- 'rowanlaw25.AlphaRenames': WHATEVER THE INPUT: true; the input reads as it did. -/
def alphaRenamesSpec : ChangeSpec := { name := "alphaRenames", fn := fun _ => fun
  | [d1, d2, d3, d4] => { results := [.lit (.bool true)], args := [d1, d2, d3, d4] }
  | _ => none }
def alphaRenamesRow : OpenClaim := { program := "ytahpnackkmbmgaa", sum := "f6a9f66f93765f5d8dbf46e71c3b211d256471290243a9553bc4708bf5b46628", func := "rowan/rowanlaw25.AlphaRenames", spec := "alphaRenames", inPlace := ["internal/bytealg.abigen_runtime_cmpstring"], unfollowed := true, recurses := true, loops := true, apart := false }
def AlphaRenamesSaid : Prop := alphaRenamesRow.holds Try.pinned (OpenSpec.ofChange alphaRenamesSpec)

/-- ITS FALSE NEIGHBOUR: 'it returns false'. Refute it at one input. -/
def alphaRenamesWrong : ChangeSpec := { name := "alphaRenames", fn := fun _ => fun
  | [d1, d2, d3, d4] => { results := [.lit (.bool false)], args := [d1, d2, d3, d4] }
  | _ => none }
def AlphaRenamesWrongFalsely : Prop := alphaRenamesRow.holds Try.pinned (OpenSpec.ofChange alphaRenamesWrong)

/-- 'rowanlaw25.AlphaRefers': WHATEVER THE INPUT: true; the input reads as it did. -/
def alphaRefersSpec : ChangeSpec := { name := "alphaRefers", fn := fun _ => fun
  | [d1, d2, d3] => { results := [.lit (.bool true)], args := [d1, d2, d3] }
  | _ => none }
def alphaRefersRow : OpenClaim := { program := "ytahpnackkmbmgaa", sum := "f6a9f66f93765f5d8dbf46e71c3b211d256471290243a9553bc4708bf5b46628", func := "rowan/rowanlaw25.AlphaRefers", spec := "alphaRefers", inPlace := ["internal/bytealg.abigen_runtime_cmpstring"], unfollowed := true, recurses := true, loops := true, apart := false }
def AlphaRefersSaid : Prop := alphaRefersRow.holds Try.pinned (OpenSpec.ofChange alphaRefersSpec)

/-- ITS FALSE NEIGHBOUR: 'it returns false'. Refute it at one input. -/
def alphaRefersWrong : ChangeSpec := { name := "alphaRefers", fn := fun _ => fun
  | [d1, d2, d3] => { results := [.lit (.bool false)], args := [d1, d2, d3] }
  | _ => none }
def AlphaRefersWrongFalsely : Prop := alphaRefersRow.holds Try.pinned (OpenSpec.ofChange alphaRefersWrong)

/-- 'rowanlaw06.ParseDeep': WHATEVER THE INPUT: true; the input reads as it did. -/
def parseDeepSpec : ChangeSpec := { name := "parseDeep", fn := fun _ => fun
  | [d1, d2] => { results := [.lit (.bool true)], args := [d1, d2] }
  | _ => none }
def parseDeepRow : OpenClaim := { program := "ytahpnackkmbmgaa", sum := "f6a9f66f93765f5d8dbf46e71c3b211d256471290243a9553bc4708bf5b46628", func := "rowan/rowanlaw06.ParseDeep", spec := "parseDeep", inPlace := ["internal/bytealg.abigen_runtime_cmpstring"], unfollowed := true, recurses := true, apart := false }
def ParseDeepSaid : Prop := parseDeepRow.holds Try.pinned (OpenSpec.ofChange parseDeepSpec)

/-- ITS FALSE NEIGHBOUR: 'it returns false'. Refute it at one input. -/
def parseDeepWrong : ChangeSpec := { name := "parseDeep", fn := fun _ => fun
  | [d1, d2] => { results := [.lit (.bool false)], args := [d1, d2] }
  | _ => none }
def ParseDeepWrongFalsely : Prop := parseDeepRow.holds Try.pinned (OpenSpec.ofChange parseDeepWrong)

/- THE SECOND FORM. 'bulk': how many values and letters a reading holds, each counted each time it is reached (what is shared counts as often as it is met; a slice's spare places count too). A statement '..UptoSaid' is the law's where the arguments, and the package variables that the reading takes, are together of bulk at most 1048576: NARROWER than '..Said'. Prove '..Said' where nothing that the law and all that it calls make is longer than what came in: it says more and counts as full. Else prove '..UptoSaid'. A law counts once. -/
mutual
def uptoBulk {H : Type} : DataW H → Nat
  | .lit (.string bytes) => bytes.length + 1
  | .lit _ => 1
  | .nil => 1
  | .ptr d => uptoBulk d + 1
  | .slice elems spare => uptoBulkAll elems + uptoBulkAll spare + 1
  | .agg parts => uptoBulkAll parts + 1
  | .iface _ d => uptoBulk d + 1
  | .map entries => uptoBulkEntries entries + 1
  | .held _ => 1
def uptoBulkAll {H : Type} : List (DataW H) → Nat
  | [] => 0
  | d :: r => uptoBulk d + uptoBulkAll r
def uptoBulkEntries {H : Type} : List (Lit × DataW H) → Nat
  | [] => 0
  | x :: r => uptoBulkEntry x + uptoBulkEntries r
def uptoBulkEntry {H : Type} : Lit × DataW H → Nat
  | (.string bytes, d) => bytes.length + uptoBulk d + 1
  | (_, d) => uptoBulk d + 1
 end
def uptoSmall : (H : Type) → List (DataW H) → Bool := fun _ ds => decide (uptoBulkAll ds ≤ 1048576)
def OpenSpec.upto (s : _root_.Go.ChangeSpec) : _root_.Go.OpenSpec := { _root_.Go.OpenSpec.ofChange s with cond := some uptoSmall }

/-- 'rowanlaw25.AlphaRenames', WHERE WHAT IT READS IS OF BULK AT MOST 1048576: true; the input reads as it did. -/
def alphaRenamesUptoRow : OpenClaim := { program := "ytahpnackkmbmgaa", sum := "f6a9f66f93765f5d8dbf46e71c3b211d256471290243a9553bc4708bf5b46628", func := "rowan/rowanlaw25.AlphaRenames", spec := "alphaRenames", inPlace := ["internal/bytealg.abigen_runtime_cmpstring"], unfollowed := true, recurses := true, loops := true, apart := false, narrowed := true }
def AlphaRenamesUptoSaid : Prop := alphaRenamesUptoRow.holds Try.pinned (OpenSpec.upto alphaRenamesSpec)

/-- 'rowanlaw25.AlphaRefers', WHERE WHAT IT READS IS OF BULK AT MOST 1048576: true; the input reads as it did. -/
def alphaRefersUptoRow : OpenClaim := { program := "ytahpnackkmbmgaa", sum := "f6a9f66f93765f5d8dbf46e71c3b211d256471290243a9553bc4708bf5b46628", func := "rowan/rowanlaw25.AlphaRefers", spec := "alphaRefers", inPlace := ["internal/bytealg.abigen_runtime_cmpstring"], unfollowed := true, recurses := true, loops := true, apart := false, narrowed := true }
def AlphaRefersUptoSaid : Prop := alphaRefersUptoRow.holds Try.pinned (OpenSpec.upto alphaRefersSpec)

/-- 'rowanlaw06.ParseDeep', WHERE WHAT IT READS IS OF BULK AT MOST 1048576: true; the input reads as it did. -/
def parseDeepUptoRow : OpenClaim := { program := "ytahpnackkmbmgaa", sum := "f6a9f66f93765f5d8dbf46e71c3b211d256471290243a9553bc4708bf5b46628", func := "rowan/rowanlaw06.ParseDeep", spec := "parseDeep", inPlace := ["internal/bytealg.abigen_runtime_cmpstring"], unfollowed := true, recurses := true, apart := false, narrowed := true }
def ParseDeepUptoSaid : Prop := parseDeepUptoRow.holds Try.pinned (OpenSpec.upto parseDeepSpec)

end Rows
end Go.Proofs.Ytahpnackkmbmgaa

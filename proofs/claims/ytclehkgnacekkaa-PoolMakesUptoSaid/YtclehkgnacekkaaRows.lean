/-
  NARROWER THAN 'FOR EVERY INPUT', by the rows' own cells (each row's printed sentence says how): SchemeMatches: loops · SchemeApplies: loops · SchemeBack: loops · PoolSame: loops · PoolMakes: loops · PoolNil: loops.
  DERIVED. THE GIVEN ROWS OF THIS SEAT. 7 by the template 'for every input the law returns true; each argument reads behind the call as it read before'; 0 by the template 'total and deterministic' (their statements: YtclehkgnacekkaaTotals.lean).
  GIVEN WITH THE SEED: the statements are not yours to turn. If you find one false, say at which input.
  Laid BY PROGRAM, IN A SANDBOX (cutbox-rows.mjs): the forced cells as the released guide's own fill.sh prints them over the translation af9b6193b8a9c927… (all of the seat's roots in one cut). By AI agents, Wed Nov 11 2026. No macro, syntax, notation, axiom, sorry.
-/
import Derived.Test.YtclehkgnacekkaaChecked
import GoSem.Claim
import GoSem.ClaimJoined
import GoSem.ClaimMapViews
import Derived.JoinedTies
import Derived.KernelRfl
namespace Go.Proofs.Ytclehkgnacekkaa
/- THE CELL 'sum', in the pinned program and in every row, IS THE sha256 OF THE DUMP (.gsa) THAT YtclehkgnacekkaaProg.lean LOADS. Nothing in Lean hashes anything: it is a label: what it is worth is what the hold of that sum in a sandbox is worth. -/
noncomputable def Try.pinned : Pinned := { name := "ytclehkgnacekkaa", sum := "af9b6193b8a9c9273a576a85dc5758a3c0978d10598c6ef997131b0cfa751ba1", checked := Try.checked }
namespace Rows
def none {H : Type} : Left H := { results := [], args := [] }

/-- 'rowanlaw11.SchemeMatches': WHATEVER THE INPUT: true; the input reads as it did. -/
def schemeMatchesSpec : ChangeSpec := { name := "schemeMatches", fn := fun _ => fun
  | [d1, d2] => { results := [.lit (.bool true)], args := [d1, d2] }
  | _ => none }
def schemeMatchesRow : OpenClaim := { program := "ytclehkgnacekkaa", sum := "af9b6193b8a9c9273a576a85dc5758a3c0978d10598c6ef997131b0cfa751ba1", func := "rowan/rowanlaw11.SchemeMatches", spec := "schemeMatches", inPlace := ["internal/bytealg.abigen_runtime_cmpstring"], unfollowed := true, recurses := true, loops := true, plainKeys := false, apart := false }
def SchemeMatchesSaid : Prop := schemeMatchesRow.holds Try.pinned (OpenSpec.ofChange schemeMatchesSpec)

/-- ITS FALSE NEIGHBOUR: 'it returns false'. Refute it at one input. -/
def schemeMatchesWrong : ChangeSpec := { name := "schemeMatches", fn := fun _ => fun
  | [d1, d2] => { results := [.lit (.bool false)], args := [d1, d2] }
  | _ => none }
def SchemeMatchesWrongFalsely : Prop := schemeMatchesRow.holds Try.pinned (OpenSpec.ofChange schemeMatchesWrong)

/-- 'rowanlaw11.SchemeApplies': WHATEVER THE INPUT: true; the input reads as it did. -/
def schemeAppliesSpec : ChangeSpec := { name := "schemeApplies", fn := fun _ => fun
  | [d1, d2] => { results := [.lit (.bool true)], args := [d1, d2] }
  | _ => none }
def schemeAppliesRow : OpenClaim := { program := "ytclehkgnacekkaa", sum := "af9b6193b8a9c9273a576a85dc5758a3c0978d10598c6ef997131b0cfa751ba1", func := "rowan/rowanlaw11.SchemeApplies", spec := "schemeApplies", inPlace := ["internal/bytealg.abigen_runtime_cmpstring"], unfollowed := true, recurses := true, loops := true, plainKeys := false, apart := false }
def SchemeAppliesSaid : Prop := schemeAppliesRow.holds Try.pinned (OpenSpec.ofChange schemeAppliesSpec)

/-- ITS FALSE NEIGHBOUR: 'it returns false'. Refute it at one input. -/
def schemeAppliesWrong : ChangeSpec := { name := "schemeApplies", fn := fun _ => fun
  | [d1, d2] => { results := [.lit (.bool false)], args := [d1, d2] }
  | _ => none }
def SchemeAppliesWrongFalsely : Prop := schemeAppliesRow.holds Try.pinned (OpenSpec.ofChange schemeAppliesWrong)

/-- 'rowanlaw11.SchemeBack': WHATEVER THE INPUT: true; the input reads as it did. -/
def schemeBackSpec : ChangeSpec := { name := "schemeBack", fn := fun _ => fun
  | [d1, d2] => { results := [.lit (.bool true)], args := [d1, d2] }
  | _ => none }
def schemeBackRow : OpenClaim := { program := "ytclehkgnacekkaa", sum := "af9b6193b8a9c9273a576a85dc5758a3c0978d10598c6ef997131b0cfa751ba1", func := "rowan/rowanlaw11.SchemeBack", spec := "schemeBack", inPlace := ["internal/bytealg.abigen_runtime_cmpstring"], unfollowed := true, recurses := true, loops := true, plainKeys := false, apart := false }
def SchemeBackSaid : Prop := schemeBackRow.holds Try.pinned (OpenSpec.ofChange schemeBackSpec)

/-- ITS FALSE NEIGHBOUR: 'it returns false'. Refute it at one input. -/
def schemeBackWrong : ChangeSpec := { name := "schemeBack", fn := fun _ => fun
  | [d1, d2] => { results := [.lit (.bool false)], args := [d1, d2] }
  | _ => none }
def SchemeBackWrongFalsely : Prop := schemeBackRow.holds Try.pinned (OpenSpec.ofChange schemeBackWrong)

/-- 'rowanlaw09.PoolSame': WHATEVER THE INPUT: true; the input reads as it did. -/
def poolSameSpec : ChangeSpec := { name := "poolSame", fn := fun _ => fun
  | [d1, d2] => { results := [.lit (.bool true)], args := [d1, d2] }
  | _ => none }
def poolSameRow : OpenClaim := { program := "ytclehkgnacekkaa", sum := "af9b6193b8a9c9273a576a85dc5758a3c0978d10598c6ef997131b0cfa751ba1", func := "rowan/rowanlaw09.PoolSame", spec := "poolSame", inPlace := ["internal/bytealg.abigen_runtime_cmpstring"], unfollowed := true, recurses := true, loops := true, plainKeys := false, apart := false }
def PoolSameSaid : Prop := poolSameRow.holds Try.pinned (OpenSpec.ofChange poolSameSpec)

/-- ITS FALSE NEIGHBOUR: 'it returns false'. Refute it at one input. -/
def poolSameWrong : ChangeSpec := { name := "poolSame", fn := fun _ => fun
  | [d1, d2] => { results := [.lit (.bool false)], args := [d1, d2] }
  | _ => none }
def PoolSameWrongFalsely : Prop := poolSameRow.holds Try.pinned (OpenSpec.ofChange poolSameWrong)

/-- 'rowanlaw09.PoolMakes': WHATEVER THE INPUT: true; the input reads as it did. -/
def poolMakesSpec : ChangeSpec := { name := "poolMakes", fn := fun _ => fun
  | [d1, d2, d3, d4] => { results := [.lit (.bool true)], args := [d1, d2, d3, d4] }
  | _ => none }
def poolMakesRow : OpenClaim := { program := "ytclehkgnacekkaa", sum := "af9b6193b8a9c9273a576a85dc5758a3c0978d10598c6ef997131b0cfa751ba1", func := "rowan/rowanlaw09.PoolMakes", spec := "poolMakes", inPlace := ["internal/bytealg.abigen_runtime_cmpstring"], unfollowed := true, recurses := true, loops := true, plainKeys := false, apart := false }
def PoolMakesSaid : Prop := poolMakesRow.holds Try.pinned (OpenSpec.ofChange poolMakesSpec)

/-- ITS FALSE NEIGHBOUR: 'it returns false'. Refute it at one input. -/
def poolMakesWrong : ChangeSpec := { name := "poolMakes", fn := fun _ => fun
  | [d1, d2, d3, d4] => { results := [.lit (.bool false)], args := [d1, d2, d3, d4] }
  | _ => none }
def PoolMakesWrongFalsely : Prop := poolMakesRow.holds Try.pinned (OpenSpec.ofChange poolMakesWrong)

/-- 'rowanlaw09.PoolNil': WHATEVER THE INPUT: true; the input reads as it did. -/
def poolNilSpec : ChangeSpec := { name := "poolNil", fn := fun _ => fun
  | [d1, d2, d3, d4, d5] => { results := [.lit (.bool true)], args := [d1, d2, d3, d4, d5] }
  | _ => none }
def poolNilRow : OpenClaim := { program := "ytclehkgnacekkaa", sum := "af9b6193b8a9c9273a576a85dc5758a3c0978d10598c6ef997131b0cfa751ba1", func := "rowan/rowanlaw09.PoolNil", spec := "poolNil", inPlace := ["internal/bytealg.abigen_runtime_cmpstring"], unfollowed := true, recurses := true, loops := true, plainKeys := false, apart := false }
def PoolNilSaid : Prop := poolNilRow.holds Try.pinned (OpenSpec.ofChange poolNilSpec)

/-- ITS FALSE NEIGHBOUR: 'it returns false'. Refute it at one input. -/
def poolNilWrong : ChangeSpec := { name := "poolNil", fn := fun _ => fun
  | [d1, d2, d3, d4, d5] => { results := [.lit (.bool false)], args := [d1, d2, d3, d4, d5] }
  | _ => none }
def PoolNilWrongFalsely : Prop := poolNilRow.holds Try.pinned (OpenSpec.ofChange poolNilWrong)

/-- 'rowanlaw10.UnifyNil': WHATEVER THE INPUT: true; the input reads as it did. -/
def unifyNilSpec : ChangeSpec := { name := "unifyNil", fn := fun _ => fun
  | [d1, d2, d3] => { results := [.lit (.bool true)], args := [d1, d2, d3] }
  | _ => none }
def unifyNilRow : OpenClaim := { program := "ytclehkgnacekkaa", sum := "af9b6193b8a9c9273a576a85dc5758a3c0978d10598c6ef997131b0cfa751ba1", func := "rowan/rowanlaw10.UnifyNil", spec := "unifyNil", inPlace := ["internal/bytealg.abigen_runtime_cmpstring"], unfollowed := true, recurses := true, plainKeys := false, apart := false }
def UnifyNilSaid : Prop := unifyNilRow.holds Try.pinned (OpenSpec.ofChange unifyNilSpec)

/-- ITS FALSE NEIGHBOUR: 'it returns false'. Refute it at one input. -/
def unifyNilWrong : ChangeSpec := { name := "unifyNil", fn := fun _ => fun
  | [d1, d2, d3] => { results := [.lit (.bool false)], args := [d1, d2, d3] }
  | _ => none }
def UnifyNilWrongFalsely : Prop := unifyNilRow.holds Try.pinned (OpenSpec.ofChange unifyNilWrong)

/- THE SECOND FORM. 'bulk': how many values and letters a reading holds, each counted each time it is reached (what is shared counts as often as it is met; a slice's spare places count too). A statement '..UptoSaid' is the law's where the arguments, and the package variables that the reading takes, are together of bulk at most 1048576: NARROWER than '..Said'. Prove '..Said' where nothing that the law and all that it calls make is longer than what came in: it says more and counts as full. Else prove '..UptoSaid'. A law counts once. -/
mutual
def uptoBulk {H : Type} : DataW H → Nat
  | .lit (.string bytes) => bytes.length + 1
  | .lit _ => 1
  | .nil => 1
  | .ptr d => uptoBulk d + 1
  | .slice elems spare => uptoBulkAll elems + uptoBulkAll spare + 1
  | .agg parts => uptoBulkAll parts + 1
  | .iface _ d => uptoBulk d + 1
  | .map entries => uptoBulkEntries entries + 1
  | .held _ => 1
def uptoBulkAll {H : Type} : List (DataW H) → Nat
  | [] => 0
  | d :: r => uptoBulk d + uptoBulkAll r
def uptoBulkEntries {H : Type} : List (Lit × DataW H) → Nat
  | [] => 0
  | x :: r => uptoBulkEntry x + uptoBulkEntries r
def uptoBulkEntry {H : Type} : Lit × DataW H → Nat
  | (.string bytes, d) => bytes.length + uptoBulk d + 1
  | (_, d) => uptoBulk d + 1
 end
def uptoSmall : (H : Type) → List (DataW H) → Bool := fun _ ds => decide (uptoBulkAll ds ≤ 1048576)
def OpenSpec.upto (s : _root_.Go.ChangeSpec) : _root_.Go.OpenSpec := { _root_.Go.OpenSpec.ofChange s with cond := some uptoSmall }

/-- 'rowanlaw11.SchemeMatches', WHERE WHAT IT READS IS OF BULK AT MOST 1048576: true; the input reads as it did. -/
def schemeMatchesUptoRow : OpenClaim := { program := "ytclehkgnacekkaa", sum := "af9b6193b8a9c9273a576a85dc5758a3c0978d10598c6ef997131b0cfa751ba1", func := "rowan/rowanlaw11.SchemeMatches", spec := "schemeMatches", inPlace := ["internal/bytealg.abigen_runtime_cmpstring"], unfollowed := true, recurses := true, loops := true, plainKeys := false, apart := false, narrowed := true }
def SchemeMatchesUptoSaid : Prop := schemeMatchesUptoRow.holds Try.pinned (OpenSpec.upto schemeMatchesSpec)

/-- 'rowanlaw11.SchemeApplies', WHERE WHAT IT READS IS OF BULK AT MOST 1048576: true; the input reads as it did. -/
def schemeAppliesUptoRow : OpenClaim := { program := "ytclehkgnacekkaa", sum := "af9b6193b8a9c9273a576a85dc5758a3c0978d10598c6ef997131b0cfa751ba1", func := "rowan/rowanlaw11.SchemeApplies", spec := "schemeApplies", inPlace := ["internal/bytealg.abigen_runtime_cmpstring"], unfollowed := true, recurses := true, loops := true, plainKeys := false, apart := false, narrowed := true }
def SchemeAppliesUptoSaid : Prop := schemeAppliesUptoRow.holds Try.pinned (OpenSpec.upto schemeAppliesSpec)

/-- 'rowanlaw11.SchemeBack', WHERE WHAT IT READS IS OF BULK AT MOST 1048576: true; the input reads as it did. -/
def schemeBackUptoRow : OpenClaim := { program := "ytclehkgnacekkaa", sum := "af9b6193b8a9c9273a576a85dc5758a3c0978d10598c6ef997131b0cfa751ba1", func := "rowan/rowanlaw11.SchemeBack", spec := "schemeBack", inPlace := ["internal/bytealg.abigen_runtime_cmpstring"], unfollowed := true, recurses := true, loops := true, plainKeys := false, apart := false, narrowed := true }
def SchemeBackUptoSaid : Prop := schemeBackUptoRow.holds Try.pinned (OpenSpec.upto schemeBackSpec)

/-- 'rowanlaw09.PoolSame', WHERE WHAT IT READS IS OF BULK AT MOST 1048576: true; the input reads as it did. -/
def poolSameUptoRow : OpenClaim := { program := "ytclehkgnacekkaa", sum := "af9b6193b8a9c9273a576a85dc5758a3c0978d10598c6ef997131b0cfa751ba1", func := "rowan/rowanlaw09.PoolSame", spec := "poolSame", inPlace := ["internal/bytealg.abigen_runtime_cmpstring"], unfollowed := true, recurses := true, loops := true, plainKeys := false, apart := false, narrowed := true }
def PoolSameUptoSaid : Prop := poolSameUptoRow.holds Try.pinned (OpenSpec.upto poolSameSpec)

/-- 'rowanlaw09.PoolMakes', WHERE WHAT IT READS IS OF BULK AT MOST 1048576: true; the input reads as it did. -/
def poolMakesUptoRow : OpenClaim := { program := "ytclehkgnacekkaa", sum := "af9b6193b8a9c9273a576a85dc5758a3c0978d10598c6ef997131b0cfa751ba1", func := "rowan/rowanlaw09.PoolMakes", spec := "poolMakes", inPlace := ["internal/bytealg.abigen_runtime_cmpstring"], unfollowed := true, recurses := true, loops := true, plainKeys := false, apart := false, narrowed := true }
def PoolMakesUptoSaid : Prop := poolMakesUptoRow.holds Try.pinned (OpenSpec.upto poolMakesSpec)

/-- 'rowanlaw09.PoolNil', WHERE WHAT IT READS IS OF BULK AT MOST 1048576: true; the input reads as it did. -/
def poolNilUptoRow : OpenClaim := { program := "ytclehkgnacekkaa", sum := "af9b6193b8a9c9273a576a85dc5758a3c0978d10598c6ef997131b0cfa751ba1", func := "rowan/rowanlaw09.PoolNil", spec := "poolNil", inPlace := ["internal/bytealg.abigen_runtime_cmpstring"], unfollowed := true, recurses := true, loops := true, plainKeys := false, apart := false, narrowed := true }
def PoolNilUptoSaid : Prop := poolNilUptoRow.holds Try.pinned (OpenSpec.upto poolNilSpec)

/-- 'rowanlaw10.UnifyNil', WHERE WHAT IT READS IS OF BULK AT MOST 1048576: true; the input reads as it did. -/
def unifyNilUptoRow : OpenClaim := { program := "ytclehkgnacekkaa", sum := "af9b6193b8a9c9273a576a85dc5758a3c0978d10598c6ef997131b0cfa751ba1", func := "rowan/rowanlaw10.UnifyNil", spec := "unifyNil", inPlace := ["internal/bytealg.abigen_runtime_cmpstring"], unfollowed := true, recurses := true, plainKeys := false, apart := false, narrowed := true }
def UnifyNilUptoSaid : Prop := unifyNilUptoRow.holds Try.pinned (OpenSpec.upto unifyNilSpec)

end Rows
end Go.Proofs.Ytclehkgnacekkaa

/- Types as deep data. -/
import Derived.Test.YtclehkgnacekkaaVLoop
import Derived.Test.YtclehkgnacekkaaKTy
set_option linter.unusedVariables false
set_option linter.unusedSimpArgs false
namespace Go.Proofs.Ytclehkgnacekkaa.Vm
open Go.RowKit
mutual
/-- A type's cells. -/
def cT : Ty → List D
  | .mk op nm n ks => [.sc (.int .u8 op), .sc (.string nm), .sc (.int .i64 n), .sl 4 (rT ks)]
def rT : List Ty → List (List D)
  | [] => []
  | t :: ts => cT t :: rT ts
end
theorem rT_map : ∀ ts : List Ty, rT ts = ts.map cT
  | [] => by rw [rT]; rfl
  | t :: ts => by rw [rT, rT_map ts]; rfl
theorem rT_len (ts : List Ty) : (rT ts).length = ts.length := by rw [rT_map, List.length_map]
theorem rT_get {ts : List Ty} {k : Nat} {t : Ty} (h : ts[k]? = some t) : (rT ts)[k]? = some (cT t) := by rw [rT_map, List.getElem?_map, h]; rfl
end Go.Proofs.Ytclehkgnacekkaa.Vm

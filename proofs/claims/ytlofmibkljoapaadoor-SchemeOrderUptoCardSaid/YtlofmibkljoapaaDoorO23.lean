/- Part 23 of the proof. Conditions: none. -/
import Derived.Test.YtlofmibkljoapaaDoorO22
import Derived.Test.YtlofmibkljoapaaDoorO0
set_option linter.all false
set_option linter.unusedVariables false
set_option linter.unusedSimpArgs false
section
namespace Go.Proofs.YtlofmibkljoapaaDoor.Vm
open Go.RowKit
set_option maxRecDepth 100000
set_option maxHeartbeats 4000000

end Go.Proofs.YtlofmibkljoapaaDoor.Vm
end

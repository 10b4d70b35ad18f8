/- Part 15 of the proof: RAt. Conditions: none. -/
import Derived.Test.YtahpnackkmbmgaaGreatDoorK14
import Derived.Deep.RegionHeld3
set_option linter.all false
set_option linter.unusedVariables false
set_option linter.unusedSimpArgs false
section
namespace Go.Proofs.YtahpnackkmbmgaaGreatDoor
open Go.RowKit

end Go.Proofs.YtahpnackkmbmgaaGreatDoor
end

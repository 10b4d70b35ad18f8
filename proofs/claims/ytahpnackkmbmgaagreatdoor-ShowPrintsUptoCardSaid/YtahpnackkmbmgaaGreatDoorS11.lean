/- Part 11 of the proof: RAt. Conditions: none. -/
import Derived.Test.YtahpnackkmbmgaaGreatDoorS10
import Derived.Deep.RegionHeld3
set_option linter.all false
set_option linter.unusedVariables false
set_option linter.unusedSimpArgs false
section
namespace Go.Proofs.YtahpnackkmbmgaaGreatDoor
open Go.RowKit
end Go.Proofs.YtahpnackkmbmgaaGreatDoor
end

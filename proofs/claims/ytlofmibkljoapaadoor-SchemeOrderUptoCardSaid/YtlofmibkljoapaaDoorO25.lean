/- Part 25 of the proof. Conditions: none. -/
import Derived.Test.YtlofmibkljoapaaDoorO12
import Derived.Test.YtlofmibkljoapaaDoorO24
import Derived.Test.YtlofmibkljoapaaDoorO0
set_option linter.all false
set_option linter.unusedVariables false
set_option linter.unusedSimpArgs false
section
namespace Go.Proofs.YtlofmibkljoapaaDoor.Vm
open Go.RowKit
set_option maxRecDepth 100000
set_option maxHeartbeats 4000000
theorem gd5:Good 5 Tryd.f5 (Tryd.f5.body.getD .skip):=⟨Tryd.func5,rfl,by kernel_rfl,L6 (by kernel_rfl),by kernel_rfl⟩
theorem c2q:Good 17 Tryd.f17 (Tryd.f17.body.getD .skip):=⟨Tryd.func17,rfl,by kernel_rfl,by kernel_rfl,by kernel_rfl⟩
theorem c2r:Good 15 Tryd.f15 (Tryd.f15.body.getD .skip):=⟨Tryd.func15,rfl,by kernel_rfl,by kernel_rfl,by kernel_rfl⟩
theorem b4J:m6 5 [] [.one (.sc (.bool true))]:=b5x (T:=.pure 16 b0v b3i (.cons 5 Tryd.f5 (Tryd.f5.body.getD .skip) gd5 (.cons 17 Tryd.f17 (Tryd.f17.body.getD .skip) c2q (.cons 15 Tryd.f15 (Tryd.f15.body.getD .skip) c2r (.nil))))) (hint:=λe=>match e with|73=>false|_=>true) (n:=60) gd5 (by kernel_rfl)
end Go.Proofs.YtlofmibkljoapaaDoor.Vm
end

/- Part 23 of the proof: VAlive11. Conditions: none. -/
import Derived.Test.YtclehkgnacekkaaB14
import Derived.Test.YtclehkgnacekkaaB22
set_option linter.all false
set_option linter.unusedVariables false
set_option linter.unusedSimpArgs false
section
namespace Go.Proofs.Ytclehkgnacekkaa.Vm
open Go.RowKit
set_option maxRecDepth 100000
theorem gd10 : Good 10 Try.f10 (Try.f10.body.getD .skip) := ⟨Try.func10, rfl, by kernel_rfl, okCode2_ok (by kernel_rfl), by kernel_rfl⟩
theorem gd17 : Good 17 Try.f17 (Try.f17.body.getD .skip) := ⟨Try.func17, rfl, by kernel_rfl, by kernel_rfl, by kernel_rfl⟩
theorem gd41 : Good 41 Try.f41 (Try.f41.body.getD .skip) := ⟨Try.func41, rfl, by kernel_rfl, by kernel_rfl, by kernel_rfl⟩
theorem alive_s : Spec 10 [] [.one (.sc (.bool true))] := conc_spec (T := .pure 12 matchPF match_pure (.cons 10 Try.f10 (Try.f10.body.getD .skip) gd10 (.cons 17 Try.f17 (Try.f17.body.getD .skip) gd17 (.cons 41 Try.f41 (Try.f41.body.getD .skip) gd41 (.nil))))) (hint := fun e => match e with | 108 => false | 132 => false | 115 => false | 86 => false | _ => true) (n := 60) gd10 (by kernel_rfl)
end Go.Proofs.Ytclehkgnacekkaa.Vm
end

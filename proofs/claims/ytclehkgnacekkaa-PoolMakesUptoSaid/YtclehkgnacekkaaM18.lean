/- Part 18 of the proof: VAlive9. Conditions: none. -/
import Derived.Test.YtclehkgnacekkaaM17
set_option linter.all false
set_option linter.unusedVariables false
set_option linter.unusedSimpArgs false
section
namespace Go.Proofs.Ytclehkgnacekkaa.Vm
open Go.RowKit
set_option maxRecDepth 100000
theorem gd22 : Good 22 Try.f22 (Try.f22.body.getD .skip) := ⟨Try.func22, rfl, by kernel_rfl, by kernel_rfl, by kernel_rfl⟩
theorem gd24 : Good 24 Try.f24 (Try.f24.body.getD .skip) := ⟨Try.func24, rfl, by kernel_rfl, by kernel_rfl, by kernel_rfl⟩
theorem gd34 : Good 34 Try.f34 (Try.f34.body.getD .skip) := ⟨Try.func34, rfl, by kernel_rfl, by kernel_rfl, by kernel_rfl⟩
theorem gd28 : Good 28 Try.f28 (Try.f28.body.getD .skip) := ⟨Try.func28, rfl, by kernel_rfl, by kernel_rfl, by kernel_rfl⟩
theorem gd23 : Good 23 Try.f23 (Try.f23.body.getD .skip) := ⟨Try.func23, rfl, by kernel_rfl, by kernel_rfl, by kernel_rfl⟩
theorem gd17 : Good 17 Try.f17 (Try.f17.body.getD .skip) := ⟨Try.func17, rfl, by kernel_rfl, by kernel_rfl, by kernel_rfl⟩
theorem gd41 : Good 41 Try.f41 (Try.f41.body.getD .skip) := ⟨Try.func41, rfl, by kernel_rfl, by kernel_rfl, by kernel_rfl⟩
theorem gd56 : Good 56 Try.f56 (Try.f56.body.getD .skip) := ⟨Try.func56, rfl, by kernel_rfl, by kernel_rfl, by kernel_rfl⟩
theorem gd55 : Good 55 Try.f55 (Try.f55.body.getD .skip) := ⟨Try.func55, rfl, by kernel_rfl, by kernel_rfl, by kernel_rfl⟩
theorem gd44 : Good 44 Try.f44 (Try.f44.body.getD .skip) := ⟨Try.func44, rfl, by kernel_rfl, by kernel_rfl, by kernel_rfl⟩
theorem gd42 : Good 42 Try.f42 (Try.f42.body.getD .skip) := ⟨Try.func42, rfl, by kernel_rfl, by kernel_rfl, by kernel_rfl⟩
theorem gd54 : Good 54 Try.f54 (Try.f54.body.getD .skip) := ⟨Try.func54, rfl, by kernel_rfl, by kernel_rfl, by kernel_rfl⟩
theorem gd75 : Good 75 Try.f75 (Try.f75.body.getD .skip) := ⟨Try.func75, rfl, by kernel_rfl, by kernel_rfl, by kernel_rfl⟩
theorem gd76 : Good 76 Try.f76 (Try.f76.body.getD .skip) := ⟨Try.func76, rfl, by kernel_rfl, by kernel_rfl, by kernel_rfl⟩
theorem gd66 : Good 66 Try.f66 (Try.f66.body.getD .skip) := ⟨Try.func66, rfl, by kernel_rfl, by kernel_rfl, by kernel_rfl⟩
theorem gd72 : Good 72 Try.f72 (Try.f72.body.getD .skip) := ⟨Try.func72, rfl, by kernel_rfl, by kernel_rfl, by kernel_rfl⟩
theorem gd59 : Good 59 Try.f59 (Try.f59.body.getD .skip) := ⟨Try.func59, rfl, by kernel_rfl, by kernel_rfl, by kernel_rfl⟩
theorem gd74 : Good 74 Try.f74 (Try.f74.body.getD .skip) := ⟨Try.func74, rfl, by kernel_rfl, by kernel_rfl, by kernel_rfl⟩
theorem gd65 : Good 65 Try.f65 (Try.f65.body.getD .skip) := ⟨Try.func65, rfl, by kernel_rfl, by kernel_rfl, by kernel_rfl⟩
theorem gd73 : Good 73 Try.f73 (Try.f73.body.getD .skip) := ⟨Try.func73, rfl, by kernel_rfl, by kernel_rfl, by kernel_rfl⟩
theorem gd60 : Good 60 Try.f60 (Try.f60.body.getD .skip) := ⟨Try.func60, rfl, by kernel_rfl, by kernel_rfl, by kernel_rfl⟩
theorem gd67 : Good 67 Try.f67 (Try.f67.body.getD .skip) := ⟨Try.func67, rfl, by kernel_rfl, by kernel_rfl, by kernel_rfl⟩
theorem gd77 : Good 77 Try.f77 (Try.f77.body.getD .skip) := ⟨Try.func77, rfl, by kernel_rfl, by kernel_rfl, by kernel_rfl⟩
theorem gd110 : Good 110 Try.f110 (Try.f110.body.getD .skip) := ⟨Try.func110, rfl, by kernel_rfl, by kernel_rfl, by kernel_rfl⟩
theorem gd109 : Good 109 Try.f109 (Try.f109.body.getD .skip) := ⟨Try.func109, rfl, by kernel_rfl, by kernel_rfl, by kernel_rfl⟩
theorem gd97 : Good 97 Try.f97 (Try.f97.body.getD .skip) := ⟨Try.func97, rfl, by kernel_rfl, by kernel_rfl, by kernel_rfl⟩
theorem gd96 : Good 96 Try.f96 (Try.f96.body.getD .skip) := ⟨Try.func96, rfl, by kernel_rfl, by kernel_rfl, by kernel_rfl⟩
theorem gd93 : Good 93 Try.f93 (Try.f93.body.getD .skip) := ⟨Try.func93, rfl, by kernel_rfl, by kernel_rfl, by kernel_rfl⟩
theorem gd112 : Good 112 Try.f112 (Try.f112.body.getD .skip) := ⟨Try.func112, rfl, by kernel_rfl, by kernel_rfl, by kernel_rfl⟩
theorem gd136 : Good 136 Try.f136 (Try.f136.body.getD .skip) := ⟨Try.func136, rfl, by kernel_rfl, by kernel_rfl, by kernel_rfl⟩
theorem gd131 : Good 131 Try.f131 (Try.f131.body.getD .skip) := ⟨Try.func131, rfl, by kernel_rfl, by kernel_rfl, by kernel_rfl⟩
theorem gd128 : Good 128 Try.f128 (Try.f128.body.getD .skip) := ⟨Try.func128, rfl, by kernel_rfl, by kernel_rfl, by kernel_rfl⟩
theorem gd85 : Good 85 Try.f85 (Try.f85.body.getD .skip) := ⟨Try.func85, rfl, by kernel_rfl, by kernel_rfl, by kernel_rfl⟩
theorem gd146 : Good 146 Try.f146 (Try.f146.body.getD .skip) := ⟨Try.func146, rfl, by kernel_rfl, by kernel_rfl, by kernel_rfl⟩
theorem gd104 : Good 104 Try.f104 (Try.f104.body.getD .skip) := ⟨Try.func104, rfl, by kernel_rfl, by kernel_rfl, by kernel_rfl⟩
theorem gd121 : Good 121 Try.f121 (Try.f121.body.getD .skip) := ⟨Try.func121, rfl, by kernel_rfl, by kernel_rfl, by kernel_rfl⟩
theorem gd120 : Good 120 Try.f120 (Try.f120.body.getD .skip) := ⟨Try.func120, rfl, by kernel_rfl, by kernel_rfl, by kernel_rfl⟩
theorem gd71 : Good 71 Try.f71 (Try.f71.body.getD .skip) := ⟨Try.func71, rfl, by kernel_rfl, by kernel_rfl, by kernel_rfl⟩
theorem gd135 : Good 135 Try.f135 (Try.f135.body.getD .skip) := ⟨Try.func135, rfl, by kernel_rfl, by kernel_rfl, by kernel_rfl⟩
theorem gd142 : Good 142 Try.f142 (Try.f142.body.getD .skip) := ⟨Try.func142, rfl, by kernel_rfl, by kernel_rfl, by kernel_rfl⟩
theorem gd141 : Good 141 Try.f141 (Try.f141.body.getD .skip) := ⟨Try.func141, rfl, by kernel_rfl, by kernel_rfl, by kernel_rfl⟩
theorem gd148 : Good 148 Try.f148 (Try.f148.body.getD .skip) := ⟨Try.func148, rfl, by kernel_rfl, by kernel_rfl, by kernel_rfl⟩
theorem gd149 : Good 149 Try.f149 (Try.f149.body.getD .skip) := ⟨Try.func149, rfl, by kernel_rfl, by kernel_rfl, by kernel_rfl⟩
theorem gd152 : Good 152 Try.f152 (Try.f152.body.getD .skip) := ⟨Try.func152, rfl, by kernel_rfl, by kernel_rfl, by kernel_rfl⟩
theorem gd154 : Good 154 Try.f154 (Try.f154.body.getD .skip) := ⟨Try.func154, rfl, by kernel_rfl, by kernel_rfl, by kernel_rfl⟩
theorem alive_s : Spec 22 [] [.one (.sc (.bool true))] := conc_spec (T := .pure 63 joinPF join_pure (.cons 22 Try.f22 (Try.f22.body.getD .skip) gd22 (.cons 24 Try.f24 (Try.f24.body.getD .skip) gd24 (.cons 34 Try.f34 (Try.f34.body.getD .skip) gd34 (.cons 28 Try.f28 (Try.f28.body.getD .skip) gd28 (.cons 23 Try.f23 (Try.f23.body.getD .skip) gd23 (.cons 17 Try.f17 (Try.f17.body.getD .skip) gd17 (.cons 41 Try.f41 (Try.f41.body.getD .skip) gd41 (.cons 56 Try.f56 (Try.f56.body.getD .skip) gd56 (.cons 55 Try.f55 (Try.f55.body.getD .skip) gd55 (.cons 44 Try.f44 (Try.f44.body.getD .skip) gd44 (.cons 42 Try.f42 (Try.f42.body.getD .skip) gd42 (.cons 54 Try.f54 (Try.f54.body.getD .skip) gd54 (.cons 75 Try.f75 (Try.f75.body.getD .skip) gd75 (.cons 76 Try.f76 (Try.f76.body.getD .skip) gd76 (.cons 66 Try.f66 (Try.f66.body.getD .skip) gd66 (.cons 72 Try.f72 (Try.f72.body.getD .skip) gd72 (.cons 59 Try.f59 (Try.f59.body.getD .skip) gd59 (.cons 74 Try.f74 (Try.f74.body.getD .skip) gd74 (.cons 65 Try.f65 (Try.f65.body.getD .skip) gd65 (.cons 73 Try.f73 (Try.f73.body.getD .skip) gd73 (.cons 60 Try.f60 (Try.f60.body.getD .skip) gd60 (.cons 67 Try.f67 (Try.f67.body.getD .skip) gd67 (.cons 77 Try.f77 (Try.f77.body.getD .skip) gd77 (.cons 110 Try.f110 (Try.f110.body.getD .skip) gd110 (.cons 109 Try.f109 (Try.f109.body.getD .skip) gd109 (.cons 97 Try.f97 (Try.f97.body.getD .skip) gd97 (.cons 96 Try.f96 (Try.f96.body.getD .skip) gd96 (.cons 93 Try.f93 (Try.f93.body.getD .skip) gd93 (.cons 112 Try.f112 (Try.f112.body.getD .skip) gd112 (.cons 136 Try.f136 (Try.f136.body.getD .skip) gd136 (.cons 131 Try.f131 (Try.f131.body.getD .skip) gd131 (.cons 128 Try.f128 (Try.f128.body.getD .skip) gd128 (.cons 85 Try.f85 (Try.f85.body.getD .skip) gd85 (.cons 146 Try.f146 (Try.f146.body.getD .skip) gd146 (.cons 104 Try.f104 (Try.f104.body.getD .skip) gd104 (.cons 121 Try.f121 (Try.f121.body.getD .skip) gd121 (.cons 120 Try.f120 (Try.f120.body.getD .skip) gd120 (.cons 71 Try.f71 (Try.f71.body.getD .skip) gd71 (.cons 135 Try.f135 (Try.f135.body.getD .skip) gd135 (.cons 142 Try.f142 (Try.f142.body.getD .skip) gd142 (.cons 141 Try.f141 (Try.f141.body.getD .skip) gd141 (.cons 148 Try.f148 (Try.f148.body.getD .skip) gd148 (.cons 149 Try.f149 (Try.f149.body.getD .skip) gd149 (.cons 152 Try.f152 (Try.f152.body.getD .skip) gd152 (.cons 154 Try.f154 (Try.f154.body.getD .skip) gd154 (.nil))))))))))))))))))))))))))))))))))))))))))))))) (hint := fun e => match e with | 108 => false | 132 => false | 115 => false | 86 => false | _ => true) (n := 60) gd22 (by kernel_rfl)
end Go.Proofs.Ytclehkgnacekkaa.Vm
end

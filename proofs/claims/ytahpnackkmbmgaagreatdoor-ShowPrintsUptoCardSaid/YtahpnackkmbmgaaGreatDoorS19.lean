/- Part 19 of the proof: VPar4. Conditions: none. -/
import Derived.Test.YtahpnackkmbmgaaGreatDoorS18
set_option linter.all false
set_option linter.unusedVariables false
set_option linter.unusedSimpArgs false
section
namespace Go.Proofs.YtahpnackkmbmgaaGreatDoor.Vm
open Go.RowKit
set_option maxRecDepth 100000
theorem gd12 : Good 12 Tryz.f12 (Tryz.f12.body.getD .skip) := ⟨Tryz.func12, rfl, by kernel_rfl, by kernel_rfl, by kernel_rfl⟩
theorem gd19 : Good 19 Tryz.f19 (Tryz.f19.body.getD .skip) := ⟨Tryz.func19, rfl, by kernel_rfl, by kernel_rfl, by kernel_rfl⟩
theorem gd16 : Good 16 Tryz.f16 (Tryz.f16.body.getD .skip) := ⟨Tryz.func16, rfl, by kernel_rfl, by kernel_rfl, by kernel_rfl⟩
theorem gd17 : Good 17 Tryz.f17 (Tryz.f17.body.getD .skip) := ⟨Tryz.func17, rfl, by kernel_rfl, by kernel_rfl, by kernel_rfl⟩
theorem gd37 : Good 37 Tryz.f37 (Tryz.f37.body.getD .skip) := ⟨Tryz.func37, rfl, by kernel_rfl, by kernel_rfl, by kernel_rfl⟩
theorem gd38 : Good 38 Tryz.f38 (Tryz.f38.body.getD .skip) := ⟨Tryz.func38, rfl, by kernel_rfl, by kernel_rfl, by kernel_rfl⟩
theorem gd26 : Good 26 Tryz.f26 (Tryz.f26.body.getD .skip) := ⟨Tryz.func26, rfl, by kernel_rfl, by kernel_rfl, by kernel_rfl⟩
theorem gd63 : Good 63 Tryz.f63 (Tryz.f63.body.getD .skip) := ⟨Tryz.func63, rfl, by kernel_rfl, by kernel_rfl, by kernel_rfl⟩
theorem gd62 : Good 62 Tryz.f62 (Tryz.f62.body.getD .skip) := ⟨Tryz.func62, rfl, by kernel_rfl, by kernel_rfl, by kernel_rfl⟩
theorem gd64 : Good 64 Tryz.f64 (Tryz.f64.body.getD .skip) := ⟨Tryz.func64, rfl, by kernel_rfl, by kernel_rfl, by kernel_rfl⟩
theorem gd65 : Good 65 Tryz.f65 (Tryz.f65.body.getD .skip) := ⟨Tryz.func65, rfl, by kernel_rfl, by kernel_rfl, by kernel_rfl⟩
theorem gd51 : Good 51 Tryz.f51 (Tryz.f51.body.getD .skip) := ⟨Tryz.func51, rfl, by kernel_rfl, by kernel_rfl, by kernel_rfl⟩
theorem gd50 : Good 50 Tryz.f50 (Tryz.f50.body.getD .skip) := ⟨Tryz.func50, rfl, by kernel_rfl, by kernel_rfl, by kernel_rfl⟩
theorem gd85 : Good 85 Tryz.f85 (Tryz.f85.body.getD .skip) := ⟨Tryz.func85, rfl, by kernel_rfl, by kernel_rfl, by kernel_rfl⟩
theorem gd84 : Good 84 Tryz.f84 (Tryz.f84.body.getD .skip) := ⟨Tryz.func84, rfl, by kernel_rfl, by kernel_rfl, by kernel_rfl⟩
theorem gd82 : Good 82 Tryz.f82 (Tryz.f82.body.getD .skip) := ⟨Tryz.func82, rfl, by kernel_rfl, by kernel_rfl, by kernel_rfl⟩
theorem gd83 : Good 83 Tryz.f83 (Tryz.f83.body.getD .skip) := ⟨Tryz.func83, rfl, by kernel_rfl, by kernel_rfl, by kernel_rfl⟩
theorem gd81 : Good 81 Tryz.f81 (Tryz.f81.body.getD .skip) := ⟨Tryz.func81, rfl, by kernel_rfl, by kernel_rfl, by kernel_rfl⟩
theorem gd86 : Good 86 Tryz.f86 (Tryz.f86.body.getD .skip) := ⟨Tryz.func86, rfl, by kernel_rfl, by kernel_rfl, by kernel_rfl⟩
theorem gd87 : Good 87 Tryz.f87 (Tryz.f87.body.getD .skip) := ⟨Tryz.func87, rfl, by kernel_rfl, by kernel_rfl, by kernel_rfl⟩
theorem gd88 : Good 88 Tryz.f88 (Tryz.f88.body.getD .skip) := ⟨Tryz.func88, rfl, by kernel_rfl, by kernel_rfl, by kernel_rfl⟩
theorem gd74 : Good 74 Tryz.f74 (Tryz.f74.body.getD .skip) := ⟨Tryz.func74, rfl, by kernel_rfl, by kernel_rfl, by kernel_rfl⟩
theorem gd24 : Good 24 Tryz.f24 (Tryz.f24.body.getD .skip) := ⟨Tryz.func24, rfl, by kernel_rfl, by kernel_rfl, by kernel_rfl⟩
theorem gd73 : Good 73 Tryz.f73 (Tryz.f73.body.getD .skip) := ⟨Tryz.func73, rfl, by kernel_rfl, by kernel_rfl, by kernel_rfl⟩
theorem gd103 : Good 103 Tryz.f103 (Tryz.f103.body.getD .skip) := ⟨Tryz.func103, rfl, by kernel_rfl, by kernel_rfl, by kernel_rfl⟩
theorem gd104 : Good 104 Tryz.f104 (Tryz.f104.body.getD .skip) := ⟨Tryz.func104, rfl, by kernel_rfl, by kernel_rfl, by kernel_rfl⟩
theorem gd105 : Good 105 Tryz.f105 (Tryz.f105.body.getD .skip) := ⟨Tryz.func105, rfl, by kernel_rfl, by kernel_rfl, by kernel_rfl⟩
theorem gd95 : Good 95 Tryz.f95 (Tryz.f95.body.getD .skip) := ⟨Tryz.func95, rfl, by kernel_rfl, by kernel_rfl, by kernel_rfl⟩
theorem gd94 : Good 94 Tryz.f94 (Tryz.f94.body.getD .skip) := ⟨Tryz.func94, rfl, by kernel_rfl, by kernel_rfl, by kernel_rfl⟩
theorem gd44 : Good 44 Tryz.f44 (Tryz.f44.body.getD .skip) := ⟨Tryz.func44, rfl, by kernel_rfl, by kernel_rfl, by kernel_rfl⟩
theorem gd110 : Good 110 Tryz.f110 (Tryz.f110.body.getD .skip) := ⟨Tryz.func110, rfl, by kernel_rfl, by kernel_rfl, by kernel_rfl⟩
theorem gd70 : Good 70 Tryz.f70 (Tryz.f70.body.getD .skip) := ⟨Tryz.func70, rfl, by kernel_rfl, by kernel_rfl, by kernel_rfl⟩
theorem gd69 : Good 69 Tryz.f69 (Tryz.f69.body.getD .skip) := ⟨Tryz.func69, rfl, by kernel_rfl, by kernel_rfl, by kernel_rfl⟩
theorem gd121 : Good 121 Tryz.f121 (Tryz.f121.body.getD .skip) := ⟨Tryz.func121, rfl, by kernel_rfl, by kernel_rfl, by kernel_rfl⟩
theorem gd122 : Good 122 Tryz.f122 (Tryz.f122.body.getD .skip) := ⟨Tryz.func122, rfl, by kernel_rfl, by kernel_rfl, by kernel_rfl⟩
theorem gd91 : Good 91 Tryz.f91 (Tryz.f91.body.getD .skip) := ⟨Tryz.func91, rfl, by kernel_rfl, by kernel_rfl, by kernel_rfl⟩
theorem gd90 : Good 90 Tryz.f90 (Tryz.f90.body.getD .skip) := ⟨Tryz.func90, rfl, by kernel_rfl, by kernel_rfl, by kernel_rfl⟩
theorem gd126 : Good 126 Tryz.f126 (Tryz.f126.body.getD .skip) := ⟨Tryz.func126, rfl, by kernel_rfl, by kernel_rfl, by kernel_rfl⟩
theorem gd100 : Good 100 Tryz.f100 (Tryz.f100.body.getD .skip) := ⟨Tryz.func100, rfl, by kernel_rfl, by kernel_rfl, by kernel_rfl⟩
theorem gd98 : Good 98 Tryz.f98 (Tryz.f98.body.getD .skip) := ⟨Tryz.func98, rfl, by kernel_rfl, by kernel_rfl, by kernel_rfl⟩
theorem gd127 : Good 127 Tryz.f127 (Tryz.f127.body.getD .skip) := ⟨Tryz.func127, rfl, by kernel_rfl, by kernel_rfl, by kernel_rfl⟩
theorem parse_lit : Spec 12 [.one (.sl 1 b4)] [.ag d4, .one (.sc (.int .i64 0)), .one (.sc (.int .u8 0))] := conc_spec (T := .pure 96 cmpPF cmp_pure (.pure 32 tokPF tok_pure (.pure 89 copiedPF copied_pure (.pure 75 joinPF join_pure (.cons 12 Tryz.f12 (Tryz.f12.body.getD .skip) gd12 (.cons 19 Tryz.f19 (Tryz.f19.body.getD .skip) gd19 (.cons 16 Tryz.f16 (Tryz.f16.body.getD .skip) gd16 (.cons 17 Tryz.f17 (Tryz.f17.body.getD .skip) gd17 (.cons 37 Tryz.f37 (Tryz.f37.body.getD .skip) gd37 (.cons 38 Tryz.f38 (Tryz.f38.body.getD .skip) gd38 (.cons 26 Tryz.f26 (Tryz.f26.body.getD .skip) gd26 (.cons 63 Tryz.f63 (Tryz.f63.body.getD .skip) gd63 (.cons 62 Tryz.f62 (Tryz.f62.body.getD .skip) gd62 (.cons 64 Tryz.f64 (Tryz.f64.body.getD .skip) gd64 (.cons 65 Tryz.f65 (Tryz.f65.body.getD .skip) gd65 (.cons 51 Tryz.f51 (Tryz.f51.body.getD .skip) gd51 (.cons 50 Tryz.f50 (Tryz.f50.body.getD .skip) gd50 (.cons 85 Tryz.f85 (Tryz.f85.body.getD .skip) gd85 (.cons 84 Tryz.f84 (Tryz.f84.body.getD .skip) gd84 (.cons 82 Tryz.f82 (Tryz.f82.body.getD .skip) gd82 (.cons 83 Tryz.f83 (Tryz.f83.body.getD .skip) gd83 (.cons 81 Tryz.f81 (Tryz.f81.body.getD .skip) gd81 (.cons 86 Tryz.f86 (Tryz.f86.body.getD .skip) gd86 (.cons 87 Tryz.f87 (Tryz.f87.body.getD .skip) gd87 (.cons 88 Tryz.f88 (Tryz.f88.body.getD .skip) gd88 (.cons 74 Tryz.f74 (Tryz.f74.body.getD .skip) gd74 (.cons 24 Tryz.f24 (Tryz.f24.body.getD .skip) gd24 (.cons 73 Tryz.f73 (Tryz.f73.body.getD .skip) gd73 (.cons 103 Tryz.f103 (Tryz.f103.body.getD .skip) gd103 (.cons 104 Tryz.f104 (Tryz.f104.body.getD .skip) gd104 (.cons 105 Tryz.f105 (Tryz.f105.body.getD .skip) gd105 (.cons 95 Tryz.f95 (Tryz.f95.body.getD .skip) gd95 (.cons 94 Tryz.f94 (Tryz.f94.body.getD .skip) gd94 (.cons 44 Tryz.f44 (Tryz.f44.body.getD .skip) gd44 (.cons 110 Tryz.f110 (Tryz.f110.body.getD .skip) gd110 (.cons 70 Tryz.f70 (Tryz.f70.body.getD .skip) gd70 (.cons 69 Tryz.f69 (Tryz.f69.body.getD .skip) gd69 (.cons 121 Tryz.f121 (Tryz.f121.body.getD .skip) gd121 (.cons 122 Tryz.f122 (Tryz.f122.body.getD .skip) gd122 (.cons 91 Tryz.f91 (Tryz.f91.body.getD .skip) gd91 (.cons 90 Tryz.f90 (Tryz.f90.body.getD .skip) gd90 (.cons 126 Tryz.f126 (Tryz.f126.body.getD .skip) gd126 (.cons 100 Tryz.f100 (Tryz.f100.body.getD .skip) gd100 (.cons 98 Tryz.f98 (Tryz.f98.body.getD .skip) gd98 (.cons 127 Tryz.f127 (Tryz.f127.body.getD .skip) gd127 (.nil)))))))))))))))))))))))))))))))))))))))))))))) (hint := (fun e => match e with | 85 => false | _ => true)) (n := 60) gd12 (by kernel_rfl)
end Go.Proofs.YtahpnackkmbmgaaGreatDoor.Vm
end

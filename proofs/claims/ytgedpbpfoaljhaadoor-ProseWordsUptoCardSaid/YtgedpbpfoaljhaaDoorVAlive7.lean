/- rowanlaw07.alive: run by the kernel. Printed by mkalive.py. -/
import Derived.Test.YtgedpbpfoaljhaaDoorVShelf
set_option linter.unusedVariables false
set_option linter.unusedSimpArgs false
namespace Go.Proofs.YtgedpbpfoaljhaaDoor.Vm
open Go.RowKit
set_option maxRecDepth 100000
theorem gd4 : Good 4 Tryd.f4 (Tryd.f4.body.getD .skip) := ⟨Tryd.func4, rfl, by kernel_rfl, by kernel_rfl, by kernel_rfl⟩
theorem gd6 : Good 6 Tryd.f6 (Tryd.f6.body.getD .skip) := ⟨Tryd.func6, rfl, by kernel_rfl, by kernel_rfl, by kernel_rfl⟩
theorem gd9 : Good 9 Tryd.f9 (Tryd.f9.body.getD .skip) := ⟨Tryd.func9, rfl, by kernel_rfl, by kernel_rfl, by kernel_rfl⟩
theorem gd8 : Good 8 Tryd.f8 (Tryd.f8.body.getD .skip) := ⟨Tryd.func8, rfl, by kernel_rfl, by kernel_rfl, by kernel_rfl⟩
theorem gd19 : Good 19 Tryd.f19 (Tryd.f19.body.getD .skip) := ⟨Tryd.func19, rfl, by kernel_rfl, by kernel_rfl, by kernel_rfl⟩
theorem gd18 : Good 18 Tryd.f18 (Tryd.f18.body.getD .skip) := ⟨Tryd.func18, rfl, by kernel_rfl, by kernel_rfl, by kernel_rfl⟩
theorem gd17 : Good 17 Tryd.f17 (Tryd.f17.body.getD .skip) := ⟨Tryd.func17, rfl, by kernel_rfl, by kernel_rfl, by kernel_rfl⟩
theorem gd20 : Good 20 Tryd.f20 (Tryd.f20.body.getD .skip) := ⟨Tryd.func20, rfl, by kernel_rfl, by kernel_rfl, by kernel_rfl⟩
theorem gd16 : Good 16 Tryd.f16 (Tryd.f16.body.getD .skip) := ⟨Tryd.func16, rfl, by kernel_rfl, by kernel_rfl, by kernel_rfl⟩
theorem gd15 : Good 15 Tryd.f15 (Tryd.f15.body.getD .skip) := ⟨Tryd.func15, rfl, by kernel_rfl, by kernel_rfl, by kernel_rfl⟩
theorem gd13 : Good 13 Tryd.f13 (Tryd.f13.body.getD .skip) := ⟨Tryd.func13, rfl, by kernel_rfl, by kernel_rfl, by kernel_rfl⟩
theorem gd32 : Good 32 Tryd.f32 (Tryd.f32.body.getD .skip) := ⟨Tryd.func32, rfl, by kernel_rfl, by kernel_rfl, by kernel_rfl⟩
theorem gd34 : Good 34 Tryd.f34 (Tryd.f34.body.getD .skip) := ⟨Tryd.func34, rfl, by kernel_rfl, by kernel_rfl, by kernel_rfl⟩
theorem gd33 : Good 33 Tryd.f33 (Tryd.f33.body.getD .skip) := ⟨Tryd.func33, rfl, by kernel_rfl, by kernel_rfl, by kernel_rfl⟩
theorem gd31 : Good 31 Tryd.f31 (Tryd.f31.body.getD .skip) := ⟨Tryd.func31, rfl, by kernel_rfl, by kernel_rfl, by kernel_rfl⟩
theorem gd30 : Good 30 Tryd.f30 (Tryd.f30.body.getD .skip) := ⟨Tryd.func30, rfl, by kernel_rfl, by kernel_rfl, by kernel_rfl⟩
theorem gd28 : Good 28 Tryd.f28 (Tryd.f28.body.getD .skip) := ⟨Tryd.func28, rfl, by kernel_rfl, by kernel_rfl, by kernel_rfl⟩
theorem gd26 : Good 26 Tryd.f26 (Tryd.f26.body.getD .skip) := ⟨Tryd.func26, rfl, by kernel_rfl, by kernel_rfl, by kernel_rfl⟩
theorem gd25 : Good 25 Tryd.f25 (Tryd.f25.body.getD .skip) := ⟨Tryd.func25, rfl, by kernel_rfl, by kernel_rfl, by kernel_rfl⟩
theorem gd24 : Good 24 Tryd.f24 (Tryd.f24.body.getD .skip) := ⟨Tryd.func24, rfl, by kernel_rfl, by kernel_rfl, by kernel_rfl⟩
theorem gd23 : Good 23 Tryd.f23 (Tryd.f23.body.getD .skip) := ⟨Tryd.func23, rfl, by kernel_rfl, by kernel_rfl, by kernel_rfl⟩
theorem gd27 : Good 27 Tryd.f27 (Tryd.f27.body.getD .skip) := ⟨Tryd.func27, rfl, by kernel_rfl, by kernel_rfl, by kernel_rfl⟩
theorem gd5 : Good 5 Tryd.f5 (Tryd.f5.body.getD .skip) := ⟨Tryd.func5, rfl, by kernel_rfl, by kernel_rfl, by kernel_rfl⟩
theorem gd40 : Good 40 Tryd.f40 (Tryd.f40.body.getD .skip) := ⟨Tryd.func40, rfl, by kernel_rfl, by kernel_rfl, by kernel_rfl⟩
theorem gd39 : Good 39 Tryd.f39 (Tryd.f39.body.getD .skip) := ⟨Tryd.func39, rfl, by kernel_rfl, by kernel_rfl, by kernel_rfl⟩
theorem gd50 : Good 50 Tryd.f50 (Tryd.f50.body.getD .skip) := ⟨Tryd.func50, rfl, by kernel_rfl, by kernel_rfl, by kernel_rfl⟩
theorem gd49 : Good 49 Tryd.f49 (Tryd.f49.body.getD .skip) := ⟨Tryd.func49, rfl, by kernel_rfl, by kernel_rfl, by kernel_rfl⟩
theorem gd64 : Good 64 Tryd.f64 (Tryd.f64.body.getD .skip) := ⟨Tryd.func64, rfl, by kernel_rfl, by kernel_rfl, by kernel_rfl⟩
theorem gd63 : Good 63 Tryd.f63 (Tryd.f63.body.getD .skip) := ⟨Tryd.func63, rfl, by kernel_rfl, by kernel_rfl, by kernel_rfl⟩
theorem alive_s : Spec 4 [] [.one (.sc (.bool true))] := conc_spec (T := .pure 14 fmtF fmt_pure (.cons 4 Tryd.f4 (Tryd.f4.body.getD .skip) gd4 (.cons 6 Tryd.f6 (Tryd.f6.body.getD .skip) gd6 (.cons 9 Tryd.f9 (Tryd.f9.body.getD .skip) gd9 (.cons 8 Tryd.f8 (Tryd.f8.body.getD .skip) gd8 (.cons 19 Tryd.f19 (Tryd.f19.body.getD .skip) gd19 (.cons 18 Tryd.f18 (Tryd.f18.body.getD .skip) gd18 (.cons 17 Tryd.f17 (Tryd.f17.body.getD .skip) gd17 (.cons 20 Tryd.f20 (Tryd.f20.body.getD .skip) gd20 (.cons 16 Tryd.f16 (Tryd.f16.body.getD .skip) gd16 (.cons 15 Tryd.f15 (Tryd.f15.body.getD .skip) gd15 (.cons 13 Tryd.f13 (Tryd.f13.body.getD .skip) gd13 (.cons 32 Tryd.f32 (Tryd.f32.body.getD .skip) gd32 (.cons 34 Tryd.f34 (Tryd.f34.body.getD .skip) gd34 (.cons 33 Tryd.f33 (Tryd.f33.body.getD .skip) gd33 (.cons 31 Tryd.f31 (Tryd.f31.body.getD .skip) gd31 (.cons 30 Tryd.f30 (Tryd.f30.body.getD .skip) gd30 (.cons 28 Tryd.f28 (Tryd.f28.body.getD .skip) gd28 (.cons 26 Tryd.f26 (Tryd.f26.body.getD .skip) gd26 (.cons 25 Tryd.f25 (Tryd.f25.body.getD .skip) gd25 (.cons 24 Tryd.f24 (Tryd.f24.body.getD .skip) gd24 (.cons 23 Tryd.f23 (Tryd.f23.body.getD .skip) gd23 (.cons 27 Tryd.f27 (Tryd.f27.body.getD .skip) gd27 (.cons 5 Tryd.f5 (Tryd.f5.body.getD .skip) gd5 (.cons 40 Tryd.f40 (Tryd.f40.body.getD .skip) gd40 (.cons 39 Tryd.f39 (Tryd.f39.body.getD .skip) gd39 (.cons 50 Tryd.f50 (Tryd.f50.body.getD .skip) gd50 (.cons 49 Tryd.f49 (Tryd.f49.body.getD .skip) gd49 (.cons 64 Tryd.f64 (Tryd.f64.body.getD .skip) gd64 (.cons 63 Tryd.f63 (Tryd.f63.body.getD .skip) gd63 (.nil))))))))))))))))))))))))))))))) (hint := fun e => match e with | 105 => false | _ => true) (n := 60) gd4 (by kernel_rfl)
end Go.Proofs.YtgedpbpfoaljhaaDoor.Vm

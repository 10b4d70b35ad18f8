/- The law PoolNil, over whatever comes in. -/
import Derived.Test.YtclehkgnacekkaaVPoolNil
import Derived.Test.YtclehkgnacekkaaVTyOpen
namespace Go.Proofs.Ytclehkgnacekkaa.Vm
open Go.RowKit
set_option maxRecDepth 100000
theorem PoolNil_law {r0 r1 r2 r3 r4 : R} {m0 m1 m2 m3 m4 : Nat} (d0 : DeepR Try.prog 25 r0 m0) (d1 : DeepR Try.prog 3 r1 m1) (d2 : DeepR Try.prog 3 r2 m2) (d3 : DeepR Try.prog 3 r3 m3) (d4 : DeepR Try.prog 4 r4 m4) (hm : m0 + m1 + m2 + m3 + m4 ≤ 1048576) :
    Spec 8 [r0, r1, r2, r3, r4] [.one (.sc (.bool true))] := by
  obtain ⟨t, rfl, hN, _⟩ := open_ty d0
  obtain ⟨n, rfl, _⟩ := open_int Try.underlying3 d1
  obtain ⟨i, rfl, _⟩ := open_int Try.underlying3 d2
  obtain ⟨l, rfl, _⟩ := open_int Try.underlying3 d3
  obtain ⟨b, rfl⟩ := open_bool Try.underlying4 d4
  exact PoolNil_s t n i l b (by omega)
end Go.Proofs.Ytclehkgnacekkaa.Vm

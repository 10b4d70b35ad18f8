/- Layer 17: the walks of the reference's limbs, Size, Word. -/
import Derived.Test.YtegekajbnecdfaaPLaw
import Derived.Test.YtegekajbnecdfaaAMain
import Derived.Test.YtegekajbnecdfaaBlk
namespace Go.Proofs.Ytegekajbnecdfaa
open Go.RowKit
theorem limbs_any (x : Int) (w : World) (h : 0 ≤ x) (h' : x < 18446744073709551616) :
    Calls Try.prog 67 #[.int .u64 x] w fun e w' => e = .returned (.slice (some ⟨w.heap.size, 0, none⟩) 4 4) ∧ w' = w.alloc (.cells ((limbsOf x).map (Value.int .u64)).toArray 30) := by
  go_enter Try.func67, Try.ntmps67
  go_wp2_with fail
  go_ret
  exact ⟨rfl, rfl⟩
theorem Size_any (x : Int) (w : World) (hx : In64 x) :
    Calls Try.prog 48 #[.int .i64 x] w fun e w' => e = .returned (.int .u64 x.natAbs) ∧ w = w' := by
  unfold In64 at hx
  by_cases a : x < 0
  · have e : (x.natAbs : Int) = -(x + 1) + 1 := by omega
    rw [e]
    go_enter Try.func48, Try.ntmps48
    go_wp2_with fail
    go_ret
    exact ⟨rfl, rfl⟩
  · have e : (x.natAbs : Int) = x := by omega
    rw [e]
    clear e
    go_enter Try.func48, Try.ntmps48
    go_wp2_with fail
    go_ret
    exact ⟨rfl, rfl⟩
theorem Word_any (b off c : Nat) (l : List Int) (w : World) (hl : 4 ≤ l.length) (hlim : Limbs l) (hc : CellsAt w .u64 b off l) :
    Calls Try.prog 50 #[.slice (some ⟨b, off, none⟩) 4 c] w fun e w' => e = .returned (.int .u64 (wordOf l 0)) ∧ ∃ d, w' = w.drewN d := by
  have k0 : w.cell? ⟨b, off, none⟩ = _ := hc 0 (by omega)
  have k1 := hc 1 (by omega)
  have k2 := hc 2 (by omega)
  have k3 := hc 3 (by omega)
  have l0 := hlim _ (gb_mem (l := l) (i := 0) (by omega))
  have l1 := hlim _ (gb_mem (l := l) (i := 1) (by omega))
  have l2 := hlim _ (gb_mem (l := l) (i := 2) (by omega))
  have l3 := hlim _ (gb_mem (l := l) (i := 3) (by omega))
  unfold wordOf
  clear hl hlim hc
  generalize gb l 0 = c0 at *
  generalize gb l (0 + 1) = c1 at *
  generalize gb l (0 + 2) = c2 at *
  generalize gb l (0 + 3) = c3 at *
  go_enter Try.func50, Try.ntmps50
  go_wp2_with fail
  go_quiet (fail)
  go_wp2_with fail
  go_ret
  exact ⟨retInt (by omega), nq, rfl⟩
end Go.Proofs.Ytegekajbnecdfaa

/- Layer 2: the walk of LexisWords. -/
import Derived.Test.YtegekajbnecdfaaLAlive2
namespace Go.Proofs.Ytegekajbnecdfaa
open Go.RowKit
set_option maxHeartbeats 1000000 in
theorem LexisWords_any (s : ByteArray) (w : World) (hm : s.size ≤ maxLen) : Calls Try.prog 13 #[.string s] w fun e w' => e = .returned (.bool true) ∧ Below w.heap.size w w' := by
  have C0 := fun w => Lib.hid (alive_any w)
  have C1 := fun w => Lib.hid (IsWord_any s w hm)
  have C2 := fun w => Lib.hid (refIsWord_any s w hm)
  by_cases h5 : 5000 < s.size
  · have h5' : (5000 : Int) < (s.size : Int) := by omega
    clear C1 C2
    go_enter Try.func13, Try.ntmps13
    go_wp2_with fail
    refine (C0 _).out.mono ?_
    rintro e w1 ⟨rfl, hb1⟩
    have HB := Lib.hid hb1
    clear hb1
    go_wp2_with fail
    go_ret
    exact ⟨retBool (by simp <;> omega), HB.out⟩
  · have h5' : ¬ (5000 : Int) < (s.size : Int) := by omega
    generalize isWordB s = x at *
    cases x
    all_goals
      go_enter Try.func13, Try.ntmps13
      go_wp2_with fail
      refine (C0 _).out.mono ?_
      rintro e w1 ⟨rfl, hb1⟩
      have HB := Lib.hid hb1
      clear hb1
      go_wp2_with fail
      refine (C1 _).out.mono ?_
      rintro e w' ⟨rfl, rfl⟩
      go_wp2_with fail
      refine (C2 _).out.mono ?_
      rintro e w2 ⟨rfl, hb2⟩
      have HB2 := Lib.hid (HB.out.trans (hb2.mono HB.out.size))
      clear hb2
      go_wp2_with fail
      go_ret
      exact ⟨retBool (by simp <;> omega), HB2.out⟩
end Go.Proofs.Ytegekajbnecdfaa

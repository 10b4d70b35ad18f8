/- Layer 17: the walk of the law ArithSteps: for every sign and every two numbers the call returns true. Written by wip/gen/gen_asteps.py. -/
import Derived.Test.YtegekajbnecdfaaAMain
namespace Go.Proofs.Ytegekajbnecdfaa
open Go.RowKit
theorem truth_a (s : ByteArray) (w : World) (f0 : (s.toList == [60]) = true) :
    Calls Try.prog 23 #[.string s] w fun e w' => e = .returned (.bool true) ∧ w = w' := by
  go_enter Try.func23, Try.ntmps23
  go_wp2_with fail
  go_ret
  exact ⟨rfl, rfl⟩
theorem truth_b (s : ByteArray) (w : World) (f0 : (s.toList == [60]) = false) (f1 : (s.toList == [61, 61]) = true) :
    Calls Try.prog 23 #[.string s] w fun e w' => e = .returned (.bool true) ∧ w = w' := by
  go_enter Try.func23, Try.ntmps23
  go_wp2_with fail
  go_ret
  exact ⟨rfl, rfl⟩
theorem truth_c (s : ByteArray) (w : World) (f0 : (s.toList == [60]) = false) (f1 : (s.toList == [61, 61]) = false) :
    Calls Try.prog 23 #[.string s] w fun e w' => e = .returned (.bool false) ∧ w = w' := by
  go_enter Try.func23, Try.ntmps23
  go_wp2_with fail
  go_ret
  exact ⟨rfl, rfl⟩
set_option maxHeartbeats 1000000 in
theorem arithSteps_walk (s : ByteArray) (x y : Int) (w : World) (hx : In64 x) (hy : In64 y) :
    Calls Try.prog 6 #[.string s, .int .i64 x, .int .i64 y] w fun e w' => e = .returned (.bool true) ∧ Grown w w' := by
  have A := fun w => Lib.hid (alive17 w)
  have hk := stepZ_kind s.toList x y
  have C1 := fun w => Lib.hid (step_all s x y w hx hy)
  have C2 := fun w => Lib.hid (ref_all s x y w hx hy)
  unfold told at C1 C2
  generalize stepZ s.toList x y = r at *
  obtain ⟨n, t, k⟩ := r
  simp only at hk C1 C2
  by_cases c0 : s.toList = [60]
  · have f0 : (s.toList == [60]) = true := by rw [c0]; rfl
    clear c0
    have C3 := fun w => Lib.hid (truth_a s w f0)
    go_enter Try.func6, Try.ntmps6
    go_wp2_with fail
    refine (A _).out.mono ?_
    rintro e w' ⟨rfl, m1, rfl⟩
    go_wp2_with fail
    refine (C1 _).out.mono ?_
    rintro e w' ⟨rfl, m2, rfl⟩
    go_wp2_with fail
    refine (C2 _).out.mono ?_
    rintro e w' ⟨rfl, m3, rfl⟩
    go_wp2_with fail
    refine (C3 _).out.mono ?_
    rintro e w' ⟨rfl, rfl⟩
    go_wp2_with fail
    go_ret
    exact ⟨rfl, Grown.refl w⟩
  · have f0 : (s.toList == [60]) = false := beq_eq_false_iff_ne.2 c0
    clear c0
    by_cases c1 : s.toList = [61, 61]
    · have f1 : (s.toList == [61, 61]) = true := by rw [c1]; rfl
      clear c1
      have C3 := fun w => Lib.hid (truth_b s w f0 f1)
      go_enter Try.func6, Try.ntmps6
      go_wp2_with fail
      refine (A _).out.mono ?_
      rintro e w' ⟨rfl, m1, rfl⟩
      go_wp2_with fail
      refine (C1 _).out.mono ?_
      rintro e w' ⟨rfl, m2, rfl⟩
      go_wp2_with fail
      refine (C2 _).out.mono ?_
      rintro e w' ⟨rfl, m3, rfl⟩
      go_wp2_with fail
      refine (C3 _).out.mono ?_
      rintro e w' ⟨rfl, rfl⟩
      go_wp2_with fail
      go_ret
      exact ⟨rfl, Grown.refl w⟩
    · have f1 : (s.toList == [61, 61]) = false := beq_eq_false_iff_ne.2 c1
      clear c1
      have C3 := fun w => Lib.hid (truth_c s w f0 f1)
      go_enter Try.func6, Try.ntmps6
      go_wp2_with fail
      refine (A _).out.mono ?_
      rintro e w' ⟨rfl, m1, rfl⟩
      go_wp2_with fail
      refine (C1 _).out.mono ?_
      rintro e w' ⟨rfl, m2, rfl⟩
      go_wp2_with fail
      refine (C2 _).out.mono ?_
      rintro e w' ⟨rfl, m3, rfl⟩
      go_wp2_with fail
      refine (C3 _).out.mono ?_
      rintro e w' ⟨rfl, rfl⟩
      go_wp2_with fail
      go_ret
      exact ⟨rfl, Grown.refl w⟩
end Go.Proofs.Ytegekajbnecdfaa

/- Layer 17: the walk of the law ArithRules: for every two numbers the call returns true. Written by wip/gen/gen_arules.py. -/
import Derived.Test.YtegekajbnecdfaaAMain
namespace Go.Proofs.Ytegekajbnecdfaa
open Go.RowKit
theorem ret_true {b : Bool} (h : b = true) : Ending.returned (.bool b) = .returned (.bool true) := by rw [h]
/-- What a step tells, as a contract. -/
def StepIs (c : UInt8) (x y n : Int) (k : Int) : Prop := ∀ w, Calls Try.prog 21 #[.string ⟨#[c]⟩, .int .i64 x, .int .i64 y] w fun e w' => e = .returned (.tuple #[.int .i64 n, .bool false, .int .u8 k]) ∧ ∃ m, w' = w.drewN m
theorem stepIs {c : UInt8} {x y n k : Int} (hx : In64 x) (hy : In64 y) (h : stepZ [c] x y = (n, false, k)) : StepIs c x y n k := fun w => by
  have h1 := step_all ⟨#[c]⟩ x y w hx hy
  have e : (ByteArray.mk #[c]).toList = [c] := by rw [ByteArray.toList_eq]
  rw [e, h] at h1
  exact h1
theorem stepIs_add {x y : Int} (hx : In64 x) (hy : In64 y) : StepIs 43 x y (fin (x + y)).1 (fin (x + y)).2.2 := stepIs hx hy (by simp [stepZ, fin]; split <;> rfl)
theorem stepIs_mul {x y : Int} (hx : In64 x) (hy : In64 y) : StepIs 42 x y (fin (x * y)).1 (fin (x * y)).2.2 := stepIs hx hy (by simp [stepZ, fin]; split <;> rfl)
theorem stepIs_sub {x y : Int} (hx : In64 x) (hy : In64 y) : StepIs 45 x y (fin (x - y)).1 (fin (x - y)).2.2 := stepIs hx hy (by simp [stepZ, fin]; split <;> rfl)
theorem stepIs_div {x y : Int} (hx : In64 x) (hy : In64 y) (h : y ≠ 0) : StepIs 47 x y (fin (x.tdiv y)).1 (fin (x.tdiv y)).2.2 := stepIs hx hy (by simp [stepZ, fin, h]; split <;> rfl)
theorem stepIs_rem {x y : Int} (hx : In64 x) (hy : In64 y) (h : y ≠ 0) : StepIs 37 x y (x.tmod y) 0 := stepIs hx hy (by simp [stepZ, h])
theorem stepIs_div0 {x y : Int} (hx : In64 x) (hy : In64 y) (h : y = 0) : StepIs 47 x y 0 3 := stepIs hx hy (by simp [stepZ, h])
theorem stepIs_rem0 {x y : Int} (hx : In64 x) (hy : In64 y) (h : y = 0) : StepIs 37 x y 0 3 := stepIs hx hy (by simp [stepZ, h])
set_option maxRecDepth 100000 in
set_option maxHeartbeats 2000000 in
theorem rules_iz (x y c k z : Int) (w : World) (A1 : StepIs 43 x y z 0) (A2 : StepIs 43 y x z 0) (M1 : StepIs 42 x y c k) (M2 : StepIs 42 y x c k) (B : StepIs 45 z y x 0) (hy : y = 0) (D : StepIs 47 x y 0 3) (R : StepIs 37 x y 0 3) :
    Calls Try.prog 5 #[.int .i64 x, .int .i64 y] w fun e w' => e = .returned (.bool true) ∧ Grown w w' := by
  have A := fun w => Lib.hid (alive17 w)
  have b0 : (y == 0) = true := by rw [hy]; rfl
  clear hy
  go_enter Try.func5, Try.ntmps5
  go_wp2_with fail
  refine (A _).out.mono ?_
  rintro e w' ⟨rfl, m0, rfl⟩
  go_wp2_with fail
  refine (A1 _).mono ?_
  rintro e w' ⟨rfl, m1, rfl⟩
  go_wp2_with fail
  refine (A2 _).mono ?_
  rintro e w' ⟨rfl, m2, rfl⟩
  go_wp2_with fail
  refine (M1 _).mono ?_
  rintro e w' ⟨rfl, m3, rfl⟩
  go_wp2_with fail
  refine (M2 _).mono ?_
  rintro e w' ⟨rfl, m4, rfl⟩
  go_wp2_with fail
  refine (B _).mono ?_
  rintro e w' ⟨rfl, m5, rfl⟩
  go_wp2_with fail
  refine (D _).mono ?_
  rintro e w' ⟨rfl, m6, rfl⟩
  go_wp2_with fail
  refine (R _).mono ?_
  rintro e w' ⟨rfl, m7, rfl⟩
  go_wp2_with fail
  go_ret
  exact ⟨rfl, Grown.refl w⟩
set_option maxRecDepth 100000 in
set_option maxHeartbeats 2000000 in
theorem rules_io (x y c k z : Int) (w : World) (A1 : StepIs 43 x y z 0) (A2 : StepIs 43 y x z 0) (M1 : StepIs 42 x y c k) (M2 : StepIs 42 y x c k) (B : StepIs 45 z y x 0) (hy : y = -1) (D : StepIs 47 x y 0 2) (R : StepIs 37 x y 0 0) :
    Calls Try.prog 5 #[.int .i64 x, .int .i64 y] w fun e w' => e = .returned (.bool true) ∧ Grown w w' := by
  have A := fun w => Lib.hid (alive17 w)
  have b0 : (y == 0) = false := by rw [hy]; rfl
  have b1 : (y == -1) = true := by rw [hy]; rfl
  clear hy
  go_enter Try.func5, Try.ntmps5
  go_wp2_with fail
  refine (A _).out.mono ?_
  rintro e w' ⟨rfl, m0, rfl⟩
  go_wp2_with fail
  refine (A1 _).mono ?_
  rintro e w' ⟨rfl, m1, rfl⟩
  go_wp2_with fail
  refine (A2 _).mono ?_
  rintro e w' ⟨rfl, m2, rfl⟩
  go_wp2_with fail
  refine (M1 _).mono ?_
  rintro e w' ⟨rfl, m3, rfl⟩
  go_wp2_with fail
  refine (M2 _).mono ?_
  rintro e w' ⟨rfl, m4, rfl⟩
  go_wp2_with fail
  refine (B _).mono ?_
  rintro e w' ⟨rfl, m5, rfl⟩
  go_wp2_with fail
  refine (D _).mono ?_
  rintro e w' ⟨rfl, m6, rfl⟩
  go_wp2_with fail
  refine (R _).mono ?_
  rintro e w' ⟨rfl, m7, rfl⟩
  go_wp2_with fail
  go_ret
  exact ⟨rfl, Grown.refl w⟩
set_option maxRecDepth 100000 in
set_option maxHeartbeats 2000000 in
theorem rules_ie (x y c k z q p : Int) (w : World) (A1 : StepIs 43 x y z 0) (A2 : StepIs 43 y x z 0) (M1 : StepIs 42 x y c k) (M2 : StepIs 42 y x c k) (B : StepIs 45 z y x 0) (hy : y ≠ 0) (D : StepIs 47 x y q 0) (R : StepIs 37 x y 0 0) (P : StepIs 42 q y p 0) (S : StepIs 43 p 0 x 0) :
    Calls Try.prog 5 #[.int .i64 x, .int .i64 y] w fun e w' => e = .returned (.bool true) ∧ Grown w w' := by
  have A := fun w => Lib.hid (alive17 w)
  have b0 : (y == 0) = false := beq_eq_false_iff_ne.2 hy
  clear hy
  go_enter Try.func5, Try.ntmps5
  go_wp2_with fail
  refine (A _).out.mono ?_
  rintro e w' ⟨rfl, m0, rfl⟩
  go_wp2_with fail
  refine (A1 _).mono ?_
  rintro e w' ⟨rfl, m1, rfl⟩
  go_wp2_with fail
  refine (A2 _).mono ?_
  rintro e w' ⟨rfl, m2, rfl⟩
  go_wp2_with fail
  refine (M1 _).mono ?_
  rintro e w' ⟨rfl, m3, rfl⟩
  go_wp2_with fail
  refine (M2 _).mono ?_
  rintro e w' ⟨rfl, m4, rfl⟩
  go_wp2_with fail
  refine (B _).mono ?_
  rintro e w' ⟨rfl, m5, rfl⟩
  go_wp2_with fail
  refine (D _).mono ?_
  rintro e w' ⟨rfl, m6, rfl⟩
  go_wp2_with fail
  refine (R _).mono ?_
  rintro e w' ⟨rfl, m7, rfl⟩
  go_wp2_with fail
  refine (P _).mono ?_
  rintro e w' ⟨rfl, m8, rfl⟩
  go_wp2_with fail
  refine (S _).mono ?_
  rintro e w' ⟨rfl, m9, rfl⟩
  go_wp2_with fail
  go_ret
  exact ⟨rfl, Grown.refl w⟩
set_option maxRecDepth 100000 in
set_option maxHeartbeats 2000000 in
theorem rules_in (x y c k z q p r : Int) (w : World) (A1 : StepIs 43 x y z 0) (A2 : StepIs 43 y x z 0) (M1 : StepIs 42 x y c k) (M2 : StepIs 42 y x c k) (B : StepIs 45 z y x 0) (hy : y ≠ 0) (D : StepIs 47 x y q 0) (R : StepIs 37 x y r 0) (P : StepIs 42 q y p 0) (S : StepIs 43 p r x 0) (hr : r < 0) (hx : x < 0) :
    Calls Try.prog 5 #[.int .i64 x, .int .i64 y] w fun e w' => e = .returned (.bool true) ∧ Grown w w' := by
  have A := fun w => Lib.hid (alive17 w)
  have b0 : (y == 0) = false := beq_eq_false_iff_ne.2 hy
  clear hy
  go_enter Try.func5, Try.ntmps5
  go_wp2_with fail
  refine (A _).out.mono ?_
  rintro e w' ⟨rfl, m0, rfl⟩
  go_wp2_with fail
  refine (A1 _).mono ?_
  rintro e w' ⟨rfl, m1, rfl⟩
  go_wp2_with fail
  refine (A2 _).mono ?_
  rintro e w' ⟨rfl, m2, rfl⟩
  go_wp2_with fail
  refine (M1 _).mono ?_
  rintro e w' ⟨rfl, m3, rfl⟩
  go_wp2_with fail
  refine (M2 _).mono ?_
  rintro e w' ⟨rfl, m4, rfl⟩
  go_wp2_with fail
  refine (B _).mono ?_
  rintro e w' ⟨rfl, m5, rfl⟩
  go_wp2_with fail
  refine (D _).mono ?_
  rintro e w' ⟨rfl, m6, rfl⟩
  go_wp2_with fail
  refine (R _).mono ?_
  rintro e w' ⟨rfl, m7, rfl⟩
  go_wp2_with fail
  refine (P _).mono ?_
  rintro e w' ⟨rfl, m8, rfl⟩
  go_wp2_with fail
  refine (S _).mono ?_
  rintro e w' ⟨rfl, m9, rfl⟩
  go_wp2_with fail
  go_ret
  exact ⟨rfl, Grown.refl w⟩
set_option maxRecDepth 100000 in
set_option maxHeartbeats 2000000 in
theorem rules_ip (x y c k z q p r : Int) (w : World) (A1 : StepIs 43 x y z 0) (A2 : StepIs 43 y x z 0) (M1 : StepIs 42 x y c k) (M2 : StepIs 42 y x c k) (B : StepIs 45 z y x 0) (hy : y ≠ 0) (D : StepIs 47 x y q 0) (R : StepIs 37 x y r 0) (P : StepIs 42 q y p 0) (S : StepIs 43 p r x 0) (hr : 0 < r) (hx : 0 < x) :
    Calls Try.prog 5 #[.int .i64 x, .int .i64 y] w fun e w' => e = .returned (.bool true) ∧ Grown w w' := by
  have A := fun w => Lib.hid (alive17 w)
  have b0 : (y == 0) = false := beq_eq_false_iff_ne.2 hy
  clear hy
  go_enter Try.func5, Try.ntmps5
  go_wp2_with fail
  refine (A _).out.mono ?_
  rintro e w' ⟨rfl, m0, rfl⟩
  go_wp2_with fail
  refine (A1 _).mono ?_
  rintro e w' ⟨rfl, m1, rfl⟩
  go_wp2_with fail
  refine (A2 _).mono ?_
  rintro e w' ⟨rfl, m2, rfl⟩
  go_wp2_with fail
  refine (M1 _).mono ?_
  rintro e w' ⟨rfl, m3, rfl⟩
  go_wp2_with fail
  refine (M2 _).mono ?_
  rintro e w' ⟨rfl, m4, rfl⟩
  go_wp2_with fail
  refine (B _).mono ?_
  rintro e w' ⟨rfl, m5, rfl⟩
  go_wp2_with fail
  refine (D _).mono ?_
  rintro e w' ⟨rfl, m6, rfl⟩
  go_wp2_with fail
  refine (R _).mono ?_
  rintro e w' ⟨rfl, m7, rfl⟩
  go_wp2_with fail
  refine (P _).mono ?_
  rintro e w' ⟨rfl, m8, rfl⟩
  go_wp2_with fail
  refine (S _).mono ?_
  rintro e w' ⟨rfl, m9, rfl⟩
  go_wp2_with fail
  go_ret
  have e1 : ¬ r < 0 := by omega
  have e2 : ¬ x < 0 := by omega
  exact ⟨ret_true (by simp [e1, e2]), Grown.refl w⟩
set_option maxRecDepth 100000 in
set_option maxHeartbeats 2000000 in
theorem rules_oz (x y c k : Int) (w : World) (A1 : StepIs 43 x y 0 2) (A2 : StepIs 43 y x 0 2) (M1 : StepIs 42 x y c k) (M2 : StepIs 42 y x c k) (hy : y = 0) (D : StepIs 47 x y 0 3) (R : StepIs 37 x y 0 3) :
    Calls Try.prog 5 #[.int .i64 x, .int .i64 y] w fun e w' => e = .returned (.bool true) ∧ Grown w w' := by
  have A := fun w => Lib.hid (alive17 w)
  have b0 : (y == 0) = true := by rw [hy]; rfl
  clear hy
  go_enter Try.func5, Try.ntmps5
  go_wp2_with fail
  refine (A _).out.mono ?_
  rintro e w' ⟨rfl, m0, rfl⟩
  go_wp2_with fail
  refine (A1 _).mono ?_
  rintro e w' ⟨rfl, m1, rfl⟩
  go_wp2_with fail
  refine (A2 _).mono ?_
  rintro e w' ⟨rfl, m2, rfl⟩
  go_wp2_with fail
  refine (M1 _).mono ?_
  rintro e w' ⟨rfl, m3, rfl⟩
  go_wp2_with fail
  refine (M2 _).mono ?_
  rintro e w' ⟨rfl, m4, rfl⟩
  go_wp2_with fail
  refine (D _).mono ?_
  rintro e w' ⟨rfl, m5, rfl⟩
  go_wp2_with fail
  refine (R _).mono ?_
  rintro e w' ⟨rfl, m6, rfl⟩
  go_wp2_with fail
  go_ret
  exact ⟨rfl, Grown.refl w⟩
set_option maxRecDepth 100000 in
set_option maxHeartbeats 2000000 in
theorem rules_oo (x y c k : Int) (w : World) (A1 : StepIs 43 x y 0 2) (A2 : StepIs 43 y x 0 2) (M1 : StepIs 42 x y c k) (M2 : StepIs 42 y x c k) (hy : y = -1) (D : StepIs 47 x y 0 2) (R : StepIs 37 x y 0 0) :
    Calls Try.prog 5 #[.int .i64 x, .int .i64 y] w fun e w' => e = .returned (.bool true) ∧ Grown w w' := by
  have A := fun w => Lib.hid (alive17 w)
  have b0 : (y == 0) = false := by rw [hy]; rfl
  have b1 : (y == -1) = true := by rw [hy]; rfl
  clear hy
  go_enter Try.func5, Try.ntmps5
  go_wp2_with fail
  refine (A _).out.mono ?_
  rintro e w' ⟨rfl, m0, rfl⟩
  go_wp2_with fail
  refine (A1 _).mono ?_
  rintro e w' ⟨rfl, m1, rfl⟩
  go_wp2_with fail
  refine (A2 _).mono ?_
  rintro e w' ⟨rfl, m2, rfl⟩
  go_wp2_with fail
  refine (M1 _).mono ?_
  rintro e w' ⟨rfl, m3, rfl⟩
  go_wp2_with fail
  refine (M2 _).mono ?_
  rintro e w' ⟨rfl, m4, rfl⟩
  go_wp2_with fail
  refine (D _).mono ?_
  rintro e w' ⟨rfl, m5, rfl⟩
  go_wp2_with fail
  refine (R _).mono ?_
  rintro e w' ⟨rfl, m6, rfl⟩
  go_wp2_with fail
  go_ret
  exact ⟨rfl, Grown.refl w⟩
set_option maxRecDepth 100000 in
set_option maxHeartbeats 2000000 in
theorem rules_oe (x y c k q p : Int) (w : World) (A1 : StepIs 43 x y 0 2) (A2 : StepIs 43 y x 0 2) (M1 : StepIs 42 x y c k) (M2 : StepIs 42 y x c k) (hy : y ≠ 0) (D : StepIs 47 x y q 0) (R : StepIs 37 x y 0 0) (P : StepIs 42 q y p 0) (S : StepIs 43 p 0 x 0) :
    Calls Try.prog 5 #[.int .i64 x, .int .i64 y] w fun e w' => e = .returned (.bool true) ∧ Grown w w' := by
  have A := fun w => Lib.hid (alive17 w)
  have b0 : (y == 0) = false := beq_eq_false_iff_ne.2 hy
  clear hy
  go_enter Try.func5, Try.ntmps5
  go_wp2_with fail
  refine (A _).out.mono ?_
  rintro e w' ⟨rfl, m0, rfl⟩
  go_wp2_with fail
  refine (A1 _).mono ?_
  rintro e w' ⟨rfl, m1, rfl⟩
  go_wp2_with fail
  refine (A2 _).mono ?_
  rintro e w' ⟨rfl, m2, rfl⟩
  go_wp2_with fail
  refine (M1 _).mono ?_
  rintro e w' ⟨rfl, m3, rfl⟩
  go_wp2_with fail
  refine (M2 _).mono ?_
  rintro e w' ⟨rfl, m4, rfl⟩
  go_wp2_with fail
  refine (D _).mono ?_
  rintro e w' ⟨rfl, m5, rfl⟩
  go_wp2_with fail
  refine (R _).mono ?_
  rintro e w' ⟨rfl, m6, rfl⟩
  go_wp2_with fail
  refine (P _).mono ?_
  rintro e w' ⟨rfl, m7, rfl⟩
  go_wp2_with fail
  refine (S _).mono ?_
  rintro e w' ⟨rfl, m8, rfl⟩
  go_wp2_with fail
  go_ret
  exact ⟨rfl, Grown.refl w⟩
set_option maxRecDepth 100000 in
set_option maxHeartbeats 2000000 in
theorem rules_on (x y c k q p r : Int) (w : World) (A1 : StepIs 43 x y 0 2) (A2 : StepIs 43 y x 0 2) (M1 : StepIs 42 x y c k) (M2 : StepIs 42 y x c k) (hy : y ≠ 0) (D : StepIs 47 x y q 0) (R : StepIs 37 x y r 0) (P : StepIs 42 q y p 0) (S : StepIs 43 p r x 0) (hr : r < 0) (hx : x < 0) :
    Calls Try.prog 5 #[.int .i64 x, .int .i64 y] w fun e w' => e = .returned (.bool true) ∧ Grown w w' := by
  have A := fun w => Lib.hid (alive17 w)
  have b0 : (y == 0) = false := beq_eq_false_iff_ne.2 hy
  clear hy
  go_enter Try.func5, Try.ntmps5
  go_wp2_with fail
  refine (A _).out.mono ?_
  rintro e w' ⟨rfl, m0, rfl⟩
  go_wp2_with fail
  refine (A1 _).mono ?_
  rintro e w' ⟨rfl, m1, rfl⟩
  go_wp2_with fail
  refine (A2 _).mono ?_
  rintro e w' ⟨rfl, m2, rfl⟩
  go_wp2_with fail
  refine (M1 _).mono ?_
  rintro e w' ⟨rfl, m3, rfl⟩
  go_wp2_with fail
  refine (M2 _).mono ?_
  rintro e w' ⟨rfl, m4, rfl⟩
  go_wp2_with fail
  refine (D _).mono ?_
  rintro e w' ⟨rfl, m5, rfl⟩
  go_wp2_with fail
  refine (R _).mono ?_
  rintro e w' ⟨rfl, m6, rfl⟩
  go_wp2_with fail
  refine (P _).mono ?_
  rintro e w' ⟨rfl, m7, rfl⟩
  go_wp2_with fail
  refine (S _).mono ?_
  rintro e w' ⟨rfl, m8, rfl⟩
  go_wp2_with fail
  go_ret
  exact ⟨rfl, Grown.refl w⟩
set_option maxRecDepth 100000 in
set_option maxHeartbeats 2000000 in
theorem rules_op (x y c k q p r : Int) (w : World) (A1 : StepIs 43 x y 0 2) (A2 : StepIs 43 y x 0 2) (M1 : StepIs 42 x y c k) (M2 : StepIs 42 y x c k) (hy : y ≠ 0) (D : StepIs 47 x y q 0) (R : StepIs 37 x y r 0) (P : StepIs 42 q y p 0) (S : StepIs 43 p r x 0) (hr : 0 < r) (hx : 0 < x) :
    Calls Try.prog 5 #[.int .i64 x, .int .i64 y] w fun e w' => e = .returned (.bool true) ∧ Grown w w' := by
  have A := fun w => Lib.hid (alive17 w)
  have b0 : (y == 0) = false := beq_eq_false_iff_ne.2 hy
  clear hy
  go_enter Try.func5, Try.ntmps5
  go_wp2_with fail
  refine (A _).out.mono ?_
  rintro e w' ⟨rfl, m0, rfl⟩
  go_wp2_with fail
  refine (A1 _).mono ?_
  rintro e w' ⟨rfl, m1, rfl⟩
  go_wp2_with fail
  refine (A2 _).mono ?_
  rintro e w' ⟨rfl, m2, rfl⟩
  go_wp2_with fail
  refine (M1 _).mono ?_
  rintro e w' ⟨rfl, m3, rfl⟩
  go_wp2_with fail
  refine (M2 _).mono ?_
  rintro e w' ⟨rfl, m4, rfl⟩
  go_wp2_with fail
  refine (D _).mono ?_
  rintro e w' ⟨rfl, m5, rfl⟩
  go_wp2_with fail
  refine (R _).mono ?_
  rintro e w' ⟨rfl, m6, rfl⟩
  go_wp2_with fail
  refine (P _).mono ?_
  rintro e w' ⟨rfl, m7, rfl⟩
  go_wp2_with fail
  refine (S _).mono ?_
  rintro e w' ⟨rfl, m8, rfl⟩
  go_wp2_with fail
  go_ret
  have e1 : ¬ r < 0 := by omega
  have e2 : ¬ x < 0 := by omega
  exact ⟨ret_true (by simp [e1, e2]), Grown.refl w⟩
theorem arithRules_walk (x y : Int) (w : World) (hx : In64 x) (hy : In64 y) :
    Calls Try.prog 5 #[.int .i64 x, .int .i64 y] w fun e w' => e = .returned (.bool true) ∧ Grown w w' := by
  have A1 := stepIs_add hx hy
  have A2 := stepIs_add hy hx
  rw [Int.add_comm y x] at A2
  have M1 := stepIs_mul hx hy
  have M2 := stepIs_mul hy hx
  rw [Int.mul_comm y x] at M2
  cases hz : In64b (x + y)
  · rw [fin_out hz] at A1 A2
    by_cases h0 : y = 0
    · exact rules_oz _ _ _ _ w A1 A2 M1 M2 h0 (stepIs_div0 hx hy h0) (stepIs_rem0 hx hy h0)
    have D := stepIs_div hx hy h0
    have R := stepIs_rem hx hy h0
    cases hq : In64b (x.tdiv y)
    · obtain ⟨h1, h2⟩ := over_div hx h0 hq
      rw [fin_out hq] at D
      rw [h2] at R
      exact rules_oo _ _ _ _ w A1 A2 M1 M2 h1 D R
    · rw [fin_in hq] at D
      obtain ⟨k1, k2⟩ := back_law hx h0
      have P := stepIs_mul ((in64b_iff _).1 hq) hy
      rw [fin_in k1] at P
      have S := stepIs_add ((in64b_iff _).1 k1) (tmod_in y hx)
      rw [k2, fin_in ((in64b_iff _).2 hx)] at S
      have hs := tmod_sign x y
      by_cases r0 : x.tmod y = 0
      · rw [r0] at R S
        exact rules_oe _ _ _ _ _ _ w A1 A2 M1 M2 h0 D R P S
      · by_cases r1 : x.tmod y < 0
        · exact rules_on _ _ _ _ _ _ _ w A1 A2 M1 M2 h0 D R P S r1 (by omega)
        · exact rules_op _ _ _ _ _ _ _ w A1 A2 M1 M2 h0 D R P S (by omega) (by omega)
  · rw [fin_in hz] at A1 A2
    have B := stepIs_sub ((in64b_iff _).1 hz) hy
    rw [show x + y - y = x from by omega, fin_in ((in64b_iff _).2 hx)] at B
    by_cases h0 : y = 0
    · exact rules_iz _ _ _ _ _ w A1 A2 M1 M2 B h0 (stepIs_div0 hx hy h0) (stepIs_rem0 hx hy h0)
    have D := stepIs_div hx hy h0
    have R := stepIs_rem hx hy h0
    cases hq : In64b (x.tdiv y)
    · obtain ⟨h1, h2⟩ := over_div hx h0 hq
      rw [fin_out hq] at D
      rw [h2] at R
      exact rules_io _ _ _ _ _ w A1 A2 M1 M2 B h1 D R
    · rw [fin_in hq] at D
      obtain ⟨k1, k2⟩ := back_law hx h0
      have P := stepIs_mul ((in64b_iff _).1 hq) hy
      rw [fin_in k1] at P
      have S := stepIs_add ((in64b_iff _).1 k1) (tmod_in y hx)
      rw [k2, fin_in ((in64b_iff _).2 hx)] at S
      have hs := tmod_sign x y
      by_cases r0 : x.tmod y = 0
      · rw [r0] at R S
        exact rules_ie _ _ _ _ _ _ _ w A1 A2 M1 M2 B h0 D R P S
      · by_cases r1 : x.tmod y < 0
        · exact rules_in _ _ _ _ _ _ _ _ w A1 A2 M1 M2 B h0 D R P S r1 (by omega)
        · exact rules_ip _ _ _ _ _ _ _ _ w A1 A2 M1 M2 B h0 D R P S (by omega) (by omega)
end Go.Proofs.Ytegekajbnecdfaa

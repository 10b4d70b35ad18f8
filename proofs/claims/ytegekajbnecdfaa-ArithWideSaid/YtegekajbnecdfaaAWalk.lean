/- Layer 17: the walks. -/
import Derived.Test.YtegekajbnecdfaaChecked
import Derived.Test.YtegekajbnecdfaaALaw
import Derived.WalkKit
import Derived.Lib.Hide
import Derived.Deep.QuietTactic
import Derived.BigQuiet
namespace Go.Proofs.Ytegekajbnecdfaa
open Go.RowKit

theorem ret2_of {u v u' v' : Value} (h : u = u') (k : v = v') : Ending.returned (.tuple #[u, v]) = .returned (.tuple #[u', v']) := by rw [h, k]
theorem ret3_of {u v x u' v' x' : Value} (h : u = u') (k : v = v') (l : x = x') : Ending.returned (.tuple #[u, v, x]) = .returned (.tuple #[u', v', x']) := by rw [h, k, l]
theorem int_of {k : IntKind} {a b : Int} (h : a = b) : Value.int k a = .int k b := by rw [h]

theorem product_any (x y : Int) (w : World) (hx : 0 ≤ x) (hx' : x < 18446744073709551616) (hy : 0 ≤ y) (hy' : y < 18446744073709551616) :
    Calls Try.prog 46 #[.int .u64 x, .int .u64 y] w fun e w' => e = .returned (.tuple #[.int .u64 (x * y / 18446744073709551616), .int .u64 (x * y % 18446744073709551616)]) ∧ w = w' := by
  go_enter Try.func46, Try.ntmps46
  go_wp2
  go_ret2
  have L := prod_eq hx hx' hy hy'
  exact ⟨ret2_of (int_of L.1) (int_of L.2), rfl⟩
theorem wide_any (x y : Int) (w : World) (hx : In64 x) (hy : In64 y) :
    Calls Try.prog 19 #[.int .i64 x, .int .i64 y] w fun e w' => e = .returned (.tuple #[.int .i64 (x * y / 18446744073709551616), .int .u64 (x * y % 18446744073709551616)]) ∧ w = w' := by
  obtain ⟨p, hp⟩ : ∃ p, p = uw x * uw y / 18446744073709551616 := ⟨_, rfl⟩
  obtain ⟨q, hq⟩ : ∃ q, q = uw x * uw y % 18446744073709551616 := ⟨_, rfl⟩
  have hq' : q = x * y % 18446744073709551616 := by rw [hq, (wide_law hx hy).2, uw_eq, uw_eq]
  have C : Calls Try.prog 46 #[.int .u64 (IntKind.u64.wrap x), .int .u64 (IntKind.u64.wrap y)] w fun e w' => e = .returned (.tuple #[.int .u64 p, .int .u64 (x * y % 18446744073709551616)]) ∧ w = w' := by
    rw [← hq', hq, hp]
    exact product_any (uw x) (uw y) w (uw_bd x).1 (uw_bd x).2 (uw_bd y).1 (uw_bd y).2
  have H := wide_hi hx hy p hp
  clear hp hq hq'
  have HH := Lib.hid H; clear H
  have CC := Lib.hid C; clear C
  by_cases a : x < 0 <;> by_cases b : y < 0
  · go_enter Try.func19, Try.ntmps19
    go_wp2_with (go_at_call 46; refine CC.out.mono ?_; rintro e w' ⟨rfl, rfl⟩)
    go_ret2
    exact ⟨ret2_of (int_of (HH.out.1 a b)) rfl, rfl⟩
  · go_enter Try.func19, Try.ntmps19
    go_wp2_with (go_at_call 46; refine CC.out.mono ?_; rintro e w' ⟨rfl, rfl⟩)
    go_ret2
    exact ⟨ret2_of (int_of (HH.out.2.1 a b)) rfl, rfl⟩
  · go_enter Try.func19, Try.ntmps19
    go_wp2_with (go_at_call 46; refine CC.out.mono ?_; rintro e w' ⟨rfl, rfl⟩)
    go_ret2
    exact ⟨ret2_of (int_of (HH.out.2.2.1 a b)) rfl, rfl⟩
  · go_enter Try.func19, Try.ntmps19
    go_wp2_with (go_at_call 46; refine CC.out.mono ?_; rintro e w' ⟨rfl, rfl⟩)
    go_ret2
    exact ⟨ret2_of (int_of (HH.out.2.2.2 a b)) rfl, rfl⟩
theorem bool_of {a b : Bool} (h : a = b) : Value.bool a = .bool b := by rw [h]
set_option maxHeartbeats 1000000 in
theorem both_any (x y : Int) (w : World) (hx : In64 x) (hy : In64 y) (h0 : y ≠ 0) :
    Calls Try.prog 51 #[.int .i64 x, .int .i64 y] w fun e w' => e = .returned (.tuple #[.int .i64 (wrap64 (x.tdiv y)), .int .i64 (x.tmod y), .bool (In64b (x.tdiv y))]) ∧ ∃ n, w' = w.drewN n := by
  by_cases a : x < 0 <;> by_cases b : y < 0
  · have e1 := neg_size hx a
    have e2 := neg_size hy b
    obtain ⟨X, rfl⟩ : ∃ X, x = -X := ⟨-x, by omega⟩
    obtain ⟨Y, rfl⟩ : ∃ Y, y = -Y := ⟨-y, by omega⟩
    rw [Int.neg_neg] at e1 e2
    have T := Lib.hid (tdiv_neg_neg (X := X) (Y := Y) (by omega) (by omega))
    have B := Lib.hid (quot_bd (X := X) (Y := Y) (by omega) (by omega))
    unfold In64 at hx hy
    have hp : 0 < Y := by omega
    have hX : 0 ≤ X := by omega
    have hX' : X ≤ 9223372036854775808 := by omega
    have hY' : Y ≤ 9223372036854775808 := by omega
    have d1 : decide (-X < 0) = true := by rw [decide_eq_true_eq]; exact a
    have d2 : decide (-Y < 0) = true := by rw [decide_eq_true_eq]; exact b
    clear h0 hx hy
    go_enter Try.func51, Try.ntmps51
    go_wp2
    go_quiet (fail)
    go_wp2
    go_ret3
    obtain ⟨t1, t2⟩ := T.out
    obtain ⟨q1, q2, q3, q4, q5⟩ := B.out
    refine ⟨ret3_of (int_of ?_) (int_of ?_) (bool_of ?_), _, rfl⟩
    · rw [t1]
    · rw [t2, wrap_wrap]; unfold wrap64; omega
    · rw [t1]; exact bothq _ q1
  · have e1 := neg_size hx a
    have e2 := pos_size hy b
    obtain ⟨X, rfl⟩ : ∃ X, x = -X := ⟨-x, by omega⟩
    rw [Int.neg_neg] at e1
    have T := Lib.hid (tdiv_np (X := X) (Y := y) (by omega) (by omega))
    have B := Lib.hid (quot_bd (X := X) (Y := y) (by omega) (by omega))
    unfold In64 at hx hy
    have hp : 0 < y := by omega
    have hX : 0 ≤ X := by omega
    have hX' : X ≤ 9223372036854775808 := by omega
    have hY' : y ≤ 9223372036854775807 := by omega
    have d1 : decide (-X < 0) = true := by rw [decide_eq_true_eq]; exact a
    have d2 : decide (y < 0) = false := by rw [decide_eq_false_iff_not]; exact b
    clear h0 hx hy
    go_enter Try.func51, Try.ntmps51
    go_wp2
    go_quiet (fail)
    go_wp2
    go_ret3
    obtain ⟨t1, t2⟩ := T.out
    obtain ⟨q1, q2, q3, q4, q5⟩ := B.out
    refine ⟨ret3_of (int_of ?_) (int_of ?_) (bool_of ?_), _, rfl⟩
    · rw [t1, wrap_wrap]
    · rw [t2, wrap_wrap]; unfold wrap64; omega
    · rw [t1]; exact in64b_neg q1 (by omega)
  · have e1 := pos_size hx a
    have e2 := neg_size hy b
    obtain ⟨Y, rfl⟩ : ∃ Y, y = -Y := ⟨-y, by omega⟩
    rw [Int.neg_neg] at e2
    have T := Lib.hid (tdiv_pn (X := x) (Y := Y) (by omega) (by omega))
    have B := Lib.hid (quot_bd (X := x) (Y := Y) (by omega) (by omega))
    unfold In64 at hx hy
    have hp : 0 < Y := by omega
    have hX : 0 ≤ x := by omega
    have hX' : x ≤ 9223372036854775807 := by omega
    have hY' : Y ≤ 9223372036854775808 := by omega
    have d1 : decide (x < 0) = false := by rw [decide_eq_false_iff_not]; exact a
    have d2 : decide (-Y < 0) = true := by rw [decide_eq_true_eq]; exact b
    clear h0 hx hy
    go_enter Try.func51, Try.ntmps51
    go_wp2
    go_quiet (fail)
    go_wp2
    go_ret3
    obtain ⟨t1, t2⟩ := T.out
    obtain ⟨q1, q2, q3, q4, q5⟩ := B.out
    refine ⟨ret3_of (int_of ?_) (int_of ?_) (bool_of ?_), _, rfl⟩
    · rw [t1, wrap_wrap]
    · rw [t2]; unfold wrap64; omega
    · rw [t1]; exact in64b_neg q1 (by omega)
  · have e1 := pos_size hx a
    have e2 := pos_size hy b
    have T := Lib.hid (tdiv_nn (X := x) (Y := y) (by omega) (by omega))
    have B := Lib.hid (quot_bd (X := x) (Y := y) (by omega) (by omega))
    unfold In64 at hx hy
    have hp : 0 < y := by omega
    have hX : 0 ≤ x := by omega
    have hX' : x ≤ 9223372036854775807 := by omega
    have hY' : y ≤ 9223372036854775807 := by omega
    have d1 : decide (x < 0) = false := by rw [decide_eq_false_iff_not]; exact a
    have d2 : decide (y < 0) = false := by rw [decide_eq_false_iff_not]; exact b
    clear h0 hx hy
    go_enter Try.func51, Try.ntmps51
    go_wp2
    go_quiet (fail)
    go_wp2
    go_ret3
    obtain ⟨t1, t2⟩ := T.out
    obtain ⟨q1, q2, q3, q4, q5⟩ := B.out
    refine ⟨ret3_of (int_of ?_) (int_of ?_) (bool_of ?_), _, rfl⟩
    · rw [t1]
    · rw [t2]; unfold wrap64; omega
    · rw [t1]; exact bothq _ q1
end Go.Proofs.Ytegekajbnecdfaa

/- Layer 17: the reference's numbers: its walks. Written by wip/gen/gen_num.py. -/
import Derived.Test.YtegekajbnecdfaaAStep
namespace Go.Proofs.Ytegekajbnecdfaa
open Go.RowKit
/-- What the reference's Number tells: whether it is over; and the number, if it isn't. -/
def NumTold (r : Int) (w : World) (e : Ending) (w' : World) : Prop := ∃ n : Int, e = .returned (.tuple #[.int .i64 n, .bool (!In64b r)]) ∧ (In64b r = true → n = r) ∧ ∃ m, w' = w.drewN m
theorem numTold_in {r n m : Int} {b : Bool} {w : World} {k : Nat} (h : In64b r = true) (hn : n = r) (hm : m = n) (hb : b = false) : NumTold r w (.returned (.tuple #[.int .i64 m, .bool b])) (w.drewN k) :=
  ⟨n, by rw [h, hm, hb]; rfl, (fun _ => hn), k, rfl⟩
theorem numTold_out {r m : Int} {b : Bool} {w : World} {k : Nat} (h : In64b r = false) (hb : b = true) : NumTold r w (.returned (.tuple #[.int .i64 m, .bool b])) (w.drewN k) :=
  ⟨m, by rw [h, hb]; rfl, (fun h' => by rw [h] at h'; cases h'), k, rfl⟩
set_option maxHeartbeats 1000000 in
theorem number_add (s : ByteArray) (x y : Int) (w : World) (hx : In64 x) (hy : In64 y) (hs : s.toList = [43]) :
    Calls Try.prog 52 #[.string s, .int .i64 x, .int .i64 y] w (NumTold (x + y) w) := by
  have f1 : (s.toList == [43]) = true := by rw [sign_facts hs]; rfl
  clear hs
  unfold In64 at hx hy
  by_cases h1 : 0 < y
  · by_cases h2 : 9223372036854775807 - y < x
    · have HI : In64b (x + y) = false := (in64b_false _).2 (by unfold In64; omega)
      have H := Lib.hid HI; clear HI
      go_enter Try.func52, Try.ntmps52
      go_wp2_with fail
      go_ret2
      exact numTold_out (k := 0) H.out rfl
    · have HI : In64b (x + y) = true := (in64b_iff _).2 (by unfold In64; omega)
      have H := Lib.hid HI; clear HI
      go_enter Try.func52, Try.ntmps52
      go_wp2_with fail
      go_ret2
      exact numTold_in (k := 0) H.out rfl rfl rfl
  · by_cases h3 : y < 0
    · by_cases h2 : x < -9223372036854775808 - y
      · have HI : In64b (x + y) = false := (in64b_false _).2 (by unfold In64; omega)
        have H := Lib.hid HI; clear HI
        go_enter Try.func52, Try.ntmps52
        go_wp2_with fail
        go_ret2
        exact numTold_out (k := 0) H.out rfl
      · have HI : In64b (x + y) = true := (in64b_iff _).2 (by unfold In64; omega)
        have H := Lib.hid HI; clear HI
        go_enter Try.func52, Try.ntmps52
        go_wp2_with fail
        go_ret2
        exact numTold_in (k := 0) H.out rfl rfl rfl
    · have HI : In64b (x + y) = true := (in64b_iff _).2 (by unfold In64; omega)
      have H := Lib.hid HI; clear HI
      go_enter Try.func52, Try.ntmps52
      go_wp2_with fail
      go_ret2
      exact numTold_in (k := 0) H.out rfl rfl rfl
set_option maxHeartbeats 1000000 in
theorem number_sub (s : ByteArray) (x y : Int) (w : World) (hx : In64 x) (hy : In64 y) (hs : s.toList = [45]) :
    Calls Try.prog 52 #[.string s, .int .i64 x, .int .i64 y] w (NumTold (x - y) w) := by
  have f1 : (s.toList == [43]) = false := by rw [sign_facts hs]; rfl
  have f2 : (s.toList == [45]) = true := by rw [sign_facts hs]; rfl
  clear hs
  unfold In64 at hx hy
  by_cases h1 : y < 0
  · by_cases h2 : 9223372036854775807 + y < x
    · have HI : In64b (x - y) = false := (in64b_false _).2 (by unfold In64; omega)
      have H := Lib.hid HI; clear HI
      go_enter Try.func52, Try.ntmps52
      go_wp2_with fail
      go_ret2
      exact numTold_out (k := 0) H.out rfl
    · have HI : In64b (x - y) = true := (in64b_iff _).2 (by unfold In64; omega)
      have H := Lib.hid HI; clear HI
      go_enter Try.func52, Try.ntmps52
      go_wp2_with fail
      go_ret2
      exact numTold_in (k := 0) H.out rfl rfl rfl
  · by_cases h3 : 0 < y
    · by_cases h2 : x < -9223372036854775808 + y
      · have HI : In64b (x - y) = false := (in64b_false _).2 (by unfold In64; omega)
        have H := Lib.hid HI; clear HI
        go_enter Try.func52, Try.ntmps52
        go_wp2_with fail
        go_ret2
        exact numTold_out (k := 0) H.out rfl
      · have HI : In64b (x - y) = true := (in64b_iff _).2 (by unfold In64; omega)
        have H := Lib.hid HI; clear HI
        go_enter Try.func52, Try.ntmps52
        go_wp2_with fail
        go_ret2
        exact numTold_in (k := 0) H.out rfl rfl rfl
    · have HI : In64b (x - y) = true := (in64b_iff _).2 (by unfold In64; omega)
      have H := Lib.hid HI; clear HI
      go_enter Try.func52, Try.ntmps52
      go_wp2_with fail
      go_ret2
      exact numTold_in (k := 0) H.out rfl rfl rfl
set_option maxHeartbeats 1000000 in
theorem number_mul (s : ByteArray) (x y : Int) (w : World) (hx : In64 x) (hy : In64 y) (hs : s.toList = [42]) :
    Calls Try.prog 52 #[.string s, .int .i64 x, .int .i64 y] w (NumTold (x * y) w) := by
  have f1 : (s.toList == [43]) = false := by rw [sign_facts hs]; rfl
  have f2 : (s.toList == [45]) = false := by rw [sign_facts hs]; rfl
  clear hs
  by_cases x0 : x = 0
  · have HI : In64b (x * y) = true := (in64b_iff _).2 (by rw [x0, Int.zero_mul]; unfold In64; omega)
    have e0 : (0 : Int) = x * y := by rw [x0, Int.zero_mul]
    have H := Lib.hid HI
    have H0 := Lib.hid e0
    have b1 : (x == 0) = true := by rw [x0]; rfl
    clear HI e0 x0 hx hy
    go_enter Try.func52, Try.ntmps52
    go_wp2_with fail
    go_ret2
    exact numTold_in (k := 0) H.out H0.out rfl rfl
  by_cases y0 : y = 0
  · have HI : In64b (x * y) = true := (in64b_iff _).2 (by rw [y0, Int.mul_zero]; unfold In64; omega)
    have e0 : (0 : Int) = x * y := by rw [y0, Int.mul_zero]
    have H := Lib.hid HI
    have H0 := Lib.hid e0
    have b1 : (x == 0) = false := by rw [beq_eq_false_iff_ne]; exact x0
    have b2 : (y == 0) = true := by rw [y0]; rfl
    clear HI e0 x0 y0 hx hy
    go_enter Try.func52, Try.ntmps52
    go_wp2_with fail
    go_ret2
    exact numTold_in (k := 0) H.out H0.out rfl rfl
  have b1 : (x == 0) = false := by rw [beq_eq_false_iff_ne]; exact x0
  have b2 : (y == 0) = false := by rw [beq_eq_false_iff_ne]; exact y0
  by_cases e1 : x = -1 ∧ y = -9223372036854775808
  · obtain ⟨rfl, rfl⟩ := e1
    go_enter Try.func52, Try.ntmps52
    go_wp2_with fail
    go_ret2
    exact numTold_out (k := 0) (by decide) rfl
  by_cases e2 : y = -1 ∧ x = -9223372036854775808
  · obtain ⟨rfl, rfl⟩ := e2
    go_enter Try.func52, Try.ntmps52
    go_wp2_with fail
    go_ret2
    exact numTold_out (k := 0) (by decide) rfl
  obtain ⟨p, hp⟩ : ∃ p, p = wrap64 (x * y) := ⟨_, rfl⟩
  have q1 : wrap64 (x * y) = p := hp.symm
  have q2 : (wrap64 (p.tdiv y) != x) = !In64b (x * y) := by rw [hp]; exact mul_backb hx hy y0 e2
  have q3 : In64b (x * y) = true → p = x * y := fun h => by rw [hp, wrap64_id ((in64b_iff _).1 h)]
  have Q3 := Lib.hid q3
  clear q3 hp
  by_cases x1 : x = -1
  · by_cases y1 : y = -1
    · have b3 : (x == -1) = true := by rw [x1]; rfl
      have b5 : (y == -1) = true := by rw [y1]; rfl
      have b4 : (y == -9223372036854775808) = false := by rw [beq_eq_false_iff_ne]; exact fun h => e1 ⟨x1, h⟩
      have b6 : (x == -9223372036854775808) = false := by rw [beq_eq_false_iff_ne]; exact fun h => e2 ⟨y1, h⟩
      have b7 : (p != wrap64 (-x)) = false := by rw [← q1, y1]; exact neg_one_back x
      clear e1 e2 x0 x1 y1 b2
      unfold In64 at hx hy
      cases hb : In64b (x * y)
      · rw [hb] at q2
        have HB := Lib.hid hb
        clear hb
        go_enter Try.func52, Try.ntmps52
        go_wp2_with fail
        go_ret2
        exact numTold_out (k := 0) HB.out rfl
      · rw [hb] at q2
        have HB := Lib.hid hb
        clear hb
        go_enter Try.func52, Try.ntmps52
        go_wp2_with fail
        go_ret2
        exact numTold_in (k := 0) HB.out (Q3.out HB.out) q1 rfl
    · have b3 : (x == -1) = true := by rw [x1]; rfl
      have b5 : (y == -1) = false := by rw [beq_eq_false_iff_ne]; exact y1
      have b4 : (y == -9223372036854775808) = false := by rw [beq_eq_false_iff_ne]; exact fun h => e1 ⟨x1, h⟩
      clear e1 e2 x0 x1 y1 b2
      unfold In64 at hx hy
      cases hb : In64b (x * y)
      · rw [hb] at q2
        have HB := Lib.hid hb
        clear hb
        go_enter Try.func52, Try.ntmps52
        go_wp2_with fail
        go_ret2
        exact numTold_out (k := 0) HB.out rfl
      · rw [hb] at q2
        have HB := Lib.hid hb
        clear hb
        go_enter Try.func52, Try.ntmps52
        go_wp2_with fail
        go_ret2
        exact numTold_in (k := 0) HB.out (Q3.out HB.out) q1 rfl
  · by_cases y1 : y = -1
    · have b3 : (x == -1) = false := by rw [beq_eq_false_iff_ne]; exact x1
      have b5 : (y == -1) = true := by rw [y1]; rfl
      have b6 : (x == -9223372036854775808) = false := by rw [beq_eq_false_iff_ne]; exact fun h => e2 ⟨y1, h⟩
      have b7 : (p != wrap64 (-x)) = false := by rw [← q1, y1]; exact neg_one_back x
      clear e1 e2 x0 x1 y1 b2
      unfold In64 at hx hy
      cases hb : In64b (x * y)
      · rw [hb] at q2
        have HB := Lib.hid hb
        clear hb
        go_enter Try.func52, Try.ntmps52
        go_wp2_with fail
        go_ret2
        exact numTold_out (k := 0) HB.out rfl
      · rw [hb] at q2
        have HB := Lib.hid hb
        clear hb
        go_enter Try.func52, Try.ntmps52
        go_wp2_with fail
        go_ret2
        exact numTold_in (k := 0) HB.out (Q3.out HB.out) q1 rfl
    · have b3 : (x == -1) = false := by rw [beq_eq_false_iff_ne]; exact x1
      have b5 : (y == -1) = false := by rw [beq_eq_false_iff_ne]; exact y1
      clear e1 e2 x0 x1 y1 b2
      unfold In64 at hx hy
      cases hb : In64b (x * y)
      · rw [hb] at q2
        have HB := Lib.hid hb
        clear hb
        go_enter Try.func52, Try.ntmps52
        go_wp2_with fail
        go_ret2
        exact numTold_out (k := 0) HB.out rfl
      · rw [hb] at q2
        have HB := Lib.hid hb
        clear hb
        go_enter Try.func52, Try.ntmps52
        go_wp2_with fail
        go_ret2
        exact numTold_in (k := 0) HB.out (Q3.out HB.out) q1 rfl
end Go.Proofs.Ytegekajbnecdfaa

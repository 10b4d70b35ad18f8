/- Layer 17: the step of two numbers by a sign: its walks, one a sign. Written by wip/gen/gen_step.py. -/
import Derived.Test.YtegekajbnecdfaaAWalk
namespace Go.Proofs.Ytegekajbnecdfaa
open Go.RowKit
/-- The triple that a step tells. -/
def told (k : IntKind) (r : Int × Bool × Int) : Value := .tuple #[.int .i64 r.1, .bool r.2.1, .int k r.2.2]
theorem sign_facts {s : ByteArray} {l : List UInt8} (h : s.toList = l) : ∀ m : List UInt8, (s.toList == m) = (l == m) := fun m => by rw [h]
set_option maxHeartbeats 1000000 in
theorem step_lss (s : ByteArray) (x y : Int) (w : World) (hs : s.toList = [60]) :
    Calls Try.prog 21 #[.string s, .int .i64 x, .int .i64 y] w fun e w' => e = .returned (told .u8 (0, decide (x < y), 0)) ∧ ∃ n, w' = w.drewN n := by
  have f0 : (s.toList == [60]) = true := by rw [sign_facts hs]; rfl
  have f1 : (s.toList == [61, 61]) = false := by rw [sign_facts hs]; rfl
  have f2 : (s.toList == [43]) = false := by rw [sign_facts hs]; rfl
  have f3 : (s.toList == [45]) = false := by rw [sign_facts hs]; rfl
  have f4 : (s.toList == [42]) = false := by rw [sign_facts hs]; rfl
  have f5 : (s.toList == [47]) = false := by rw [sign_facts hs]; rfl
  have f6 : (s.toList == [37]) = false := by rw [sign_facts hs]; rfl
  clear hs
  go_enter Try.func21, Try.ntmps21
  go_wp2_with fail
  go_ret3
  exact ⟨rfl, 0, rfl⟩
set_option maxHeartbeats 1000000 in
theorem step_eql (s : ByteArray) (x y : Int) (w : World) (hs : s.toList = [61, 61]) :
    Calls Try.prog 21 #[.string s, .int .i64 x, .int .i64 y] w fun e w' => e = .returned (told .u8 (0, x == y, 0)) ∧ ∃ n, w' = w.drewN n := by
  have f0 : (s.toList == [60]) = false := by rw [sign_facts hs]; rfl
  have f1 : (s.toList == [61, 61]) = true := by rw [sign_facts hs]; rfl
  have f2 : (s.toList == [43]) = false := by rw [sign_facts hs]; rfl
  have f3 : (s.toList == [45]) = false := by rw [sign_facts hs]; rfl
  have f4 : (s.toList == [42]) = false := by rw [sign_facts hs]; rfl
  have f5 : (s.toList == [47]) = false := by rw [sign_facts hs]; rfl
  have f6 : (s.toList == [37]) = false := by rw [sign_facts hs]; rfl
  clear hs
  go_enter Try.func21, Try.ntmps21
  go_wp2_with fail
  go_ret3
  exact ⟨rfl, 0, rfl⟩
set_option maxHeartbeats 1000000 in
theorem step_add (s : ByteArray) (x y : Int) (w : World) (hx : In64 x) (hy : In64 y) (hs : s.toList = [43]) :
    Calls Try.prog 21 #[.string s, .int .i64 x, .int .i64 y] w fun e w' => e = .returned (told .u8 (fin (x + y))) ∧ ∃ n, w' = w.drewN n := by
  have f0 : (s.toList == [60]) = false := by rw [sign_facts hs]; rfl
  have f1 : (s.toList == [61, 61]) = false := by rw [sign_facts hs]; rfl
  have f2 : (s.toList == [43]) = true := by rw [sign_facts hs]; rfl
  have f3 : (s.toList == [45]) = false := by rw [sign_facts hs]; rfl
  have f4 : (s.toList == [42]) = false := by rw [sign_facts hs]; rfl
  have f5 : (s.toList == [47]) = false := by rw [sign_facts hs]; rfl
  have f6 : (s.toList == [37]) = false := by rw [sign_facts hs]; rfl
  clear hs
  obtain ⟨n, hn⟩ : ∃ n, n = wrap64 (x + y) := ⟨_, rfl⟩
  have e : wrap64 (IntKind.u64.wrap (IntKind.u64.wrap x + IntKind.u64.wrap y)) = n := by rw [add_wrap, hn]
  have t : (bits .and .i64 (bits .xor .i64 x n) (bits .xor .i64 y n) / 9223372036854775808 != 0) = !In64b (x + y) := by rw [hn]; exact over_addb hx hy
  have H := Lib.hid hn
  clear hn
  unfold In64 at hx hy
  cases hb : In64b (x + y)
  · rw [hb] at t
    rw [fin_out hb]
    clear hb
    go_enter Try.func21, Try.ntmps21
    go_wp2_with fail
    go_ret3
    exact ⟨rfl, 0, rfl⟩
  · rw [hb] at t
    rw [fin_in hb]
    have HB := Lib.hid hb
    clear hb
    go_enter Try.func21, Try.ntmps21
    go_wp2_with fail
    go_ret3
    exact ⟨ret3_of (int_of (e.trans (H.out.trans (wrap64_id ((in64b_iff _).1 HB.out))))) rfl rfl, 0, rfl⟩
set_option maxHeartbeats 1000000 in
theorem step_sub (s : ByteArray) (x y : Int) (w : World) (hx : In64 x) (hy : In64 y) (hs : s.toList = [45]) :
    Calls Try.prog 21 #[.string s, .int .i64 x, .int .i64 y] w fun e w' => e = .returned (told .u8 (fin (x - y))) ∧ ∃ n, w' = w.drewN n := by
  have f0 : (s.toList == [60]) = false := by rw [sign_facts hs]; rfl
  have f1 : (s.toList == [61, 61]) = false := by rw [sign_facts hs]; rfl
  have f2 : (s.toList == [43]) = false := by rw [sign_facts hs]; rfl
  have f3 : (s.toList == [45]) = true := by rw [sign_facts hs]; rfl
  have f4 : (s.toList == [42]) = false := by rw [sign_facts hs]; rfl
  have f5 : (s.toList == [47]) = false := by rw [sign_facts hs]; rfl
  have f6 : (s.toList == [37]) = false := by rw [sign_facts hs]; rfl
  clear hs
  obtain ⟨n, hn⟩ : ∃ n, n = wrap64 (x - y) := ⟨_, rfl⟩
  have e : wrap64 (IntKind.u64.wrap (IntKind.u64.wrap x - IntKind.u64.wrap y)) = n := by rw [sub_wrap, hn]
  have t : (bits .and .i64 (bits .xor .i64 x y) (bits .xor .i64 x n) / 9223372036854775808 != 0) = !In64b (x - y) := by rw [hn]; exact over_subb hx hy
  have H := Lib.hid hn
  clear hn
  unfold In64 at hx hy
  cases hb : In64b (x - y)
  · rw [hb] at t
    rw [fin_out hb]
    clear hb
    go_enter Try.func21, Try.ntmps21
    go_wp2_with fail
    go_ret3
    exact ⟨rfl, 0, rfl⟩
  · rw [hb] at t
    rw [fin_in hb]
    have HB := Lib.hid hb
    clear hb
    go_enter Try.func21, Try.ntmps21
    go_wp2_with fail
    go_ret3
    exact ⟨ret3_of (int_of (e.trans (H.out.trans (wrap64_id ((in64b_iff _).1 HB.out))))) rfl rfl, 0, rfl⟩
set_option maxHeartbeats 1000000 in
theorem step_mul (s : ByteArray) (x y : Int) (w : World) (hx : In64 x) (hy : In64 y) (hs : s.toList = [42]) :
    Calls Try.prog 21 #[.string s, .int .i64 x, .int .i64 y] w fun e w' => e = .returned (told .u8 (fin (x * y))) ∧ ∃ n, w' = w.drewN n := by
  have f0 : (s.toList == [60]) = false := by rw [sign_facts hs]; rfl
  have f1 : (s.toList == [61, 61]) = false := by rw [sign_facts hs]; rfl
  have f2 : (s.toList == [43]) = false := by rw [sign_facts hs]; rfl
  have f3 : (s.toList == [45]) = false := by rw [sign_facts hs]; rfl
  have f4 : (s.toList == [42]) = true := by rw [sign_facts hs]; rfl
  have f5 : (s.toList == [47]) = false := by rw [sign_facts hs]; rfl
  have f6 : (s.toList == [37]) = false := by rw [sign_facts hs]; rfl
  clear hs
  obtain ⟨n, hn⟩ : ∃ n, n = wrap64 (x * y % 18446744073709551616) := ⟨_, rfl⟩
  have e : wrap64 (x * y % 18446744073709551616) = n := hn.symm
  have t : (x * y / 18446744073709551616 != n / 9223372036854775808) = !In64b (x * y) := by rw [hn, mul_wrap]; exact over_mulb hx hy
  have H := Lib.hid hn
  clear hn
  have C := Lib.hid (wide_any x y w hx hy)
  unfold In64 at hx hy
  cases hb : In64b (x * y)
  · rw [hb] at t
    rw [fin_out hb]
    clear hb
    go_enter Try.func21, Try.ntmps21
    go_wp2_with (go_at_call 19; refine C.out.mono ?_; rintro e w' ⟨rfl, rfl⟩)
    go_ret3
    exact ⟨rfl, 0, rfl⟩
  · rw [hb] at t
    rw [fin_in hb]
    have HB := Lib.hid hb
    clear hb
    go_enter Try.func21, Try.ntmps21
    go_wp2_with (go_at_call 19; refine C.out.mono ?_; rintro e w' ⟨rfl, rfl⟩)
    go_ret3
    exact ⟨ret3_of (int_of (e.trans (H.out.trans ((mul_wrap _).trans (wrap64_id ((in64b_iff _).1 HB.out)))))) rfl rfl, 0, rfl⟩
set_option maxHeartbeats 1000000 in
theorem step_div0 (s : ByteArray) (x y : Int) (w : World) (hs : s.toList = [47]) (h0 : y = 0) :
    Calls Try.prog 21 #[.string s, .int .i64 x, .int .i64 y] w fun e w' => e = .returned (told .u8 (0, false, 3)) ∧ ∃ n, w' = w.drewN n := by
  have f0 : (s.toList == [60]) = false := by rw [sign_facts hs]; rfl
  have f1 : (s.toList == [61, 61]) = false := by rw [sign_facts hs]; rfl
  have f2 : (s.toList == [43]) = false := by rw [sign_facts hs]; rfl
  have f3 : (s.toList == [45]) = false := by rw [sign_facts hs]; rfl
  have f4 : (s.toList == [42]) = false := by rw [sign_facts hs]; rfl
  have f5 : (s.toList == [47]) = true := by rw [sign_facts hs]; rfl
  have f6 : (s.toList == [37]) = false := by rw [sign_facts hs]; rfl
  clear hs
  have hz : (y == 0) = true := by rw [h0]; rfl
  clear h0
  go_enter Try.func21, Try.ntmps21
  go_wp2_with fail
  go_ret3
  exact ⟨rfl, 0, rfl⟩
set_option maxHeartbeats 1000000 in
theorem step_rem0 (s : ByteArray) (x y : Int) (w : World) (hs : s.toList = [37]) (h0 : y = 0) :
    Calls Try.prog 21 #[.string s, .int .i64 x, .int .i64 y] w fun e w' => e = .returned (told .u8 (0, false, 3)) ∧ ∃ n, w' = w.drewN n := by
  have f0 : (s.toList == [60]) = false := by rw [sign_facts hs]; rfl
  have f1 : (s.toList == [61, 61]) = false := by rw [sign_facts hs]; rfl
  have f2 : (s.toList == [43]) = false := by rw [sign_facts hs]; rfl
  have f3 : (s.toList == [45]) = false := by rw [sign_facts hs]; rfl
  have f4 : (s.toList == [42]) = false := by rw [sign_facts hs]; rfl
  have f5 : (s.toList == [47]) = false := by rw [sign_facts hs]; rfl
  have f6 : (s.toList == [37]) = true := by rw [sign_facts hs]; rfl
  clear hs
  have hz : (y == 0) = true := by rw [h0]; rfl
  clear h0
  go_enter Try.func21, Try.ntmps21
  go_wp2_with fail
  go_ret3
  exact ⟨rfl, 0, rfl⟩
set_option maxHeartbeats 1000000 in
theorem step_div (s : ByteArray) (x y : Int) (w : World) (hx : In64 x) (hy : In64 y) (hs : s.toList = [47]) (h0 : y ≠ 0) :
    Calls Try.prog 21 #[.string s, .int .i64 x, .int .i64 y] w fun e w' => e = .returned (told .u8 (fin (x.tdiv y))) ∧ ∃ n, w' = w.drewN n := by
  have f0 : (s.toList == [60]) = false := by rw [sign_facts hs]; rfl
  have f1 : (s.toList == [61, 61]) = false := by rw [sign_facts hs]; rfl
  have f2 : (s.toList == [43]) = false := by rw [sign_facts hs]; rfl
  have f3 : (s.toList == [45]) = false := by rw [sign_facts hs]; rfl
  have f4 : (s.toList == [42]) = false := by rw [sign_facts hs]; rfl
  have f5 : (s.toList == [47]) = true := by rw [sign_facts hs]; rfl
  have f6 : (s.toList == [37]) = false := by rw [sign_facts hs]; rfl
  clear hs
  have C := Lib.hid (both_any x y w hx hy h0)
  have hz : (y == 0) = false := by rw [beq_eq_false_iff_ne]; exact h0
  clear h0
  cases hb : In64b (x.tdiv y)
  · rw [hb] at C
    rw [fin_out hb]
    clear hb
    go_enter Try.func21, Try.ntmps21
    go_wp2_with (go_at_call 51; refine C.out.mono ?_; rintro e w' ⟨rfl, n, rfl⟩)
    go_ret3
    exact ⟨rfl, _, rfl⟩
  · rw [hb] at C
    rw [fin_in hb]
    have HB := Lib.hid hb
    clear hb
    go_enter Try.func21, Try.ntmps21
    go_wp2_with (go_at_call 51; refine C.out.mono ?_; rintro e w' ⟨rfl, n, rfl⟩)
    go_ret3
    exact ⟨ret3_of (int_of (wrap64_id ((in64b_iff _).1 HB.out))) rfl rfl, _, rfl⟩
set_option maxHeartbeats 1000000 in
theorem step_rem (s : ByteArray) (x y : Int) (w : World) (hx : In64 x) (hy : In64 y) (hs : s.toList = [37]) (h0 : y ≠ 0) :
    Calls Try.prog 21 #[.string s, .int .i64 x, .int .i64 y] w fun e w' => e = .returned (told .u8 (x.tmod y, false, 0)) ∧ ∃ n, w' = w.drewN n := by
  have f0 : (s.toList == [60]) = false := by rw [sign_facts hs]; rfl
  have f1 : (s.toList == [61, 61]) = false := by rw [sign_facts hs]; rfl
  have f2 : (s.toList == [43]) = false := by rw [sign_facts hs]; rfl
  have f3 : (s.toList == [45]) = false := by rw [sign_facts hs]; rfl
  have f4 : (s.toList == [42]) = false := by rw [sign_facts hs]; rfl
  have f5 : (s.toList == [47]) = false := by rw [sign_facts hs]; rfl
  have f6 : (s.toList == [37]) = true := by rw [sign_facts hs]; rfl
  clear hs
  have C := Lib.hid (both_any x y w hx hy h0)
  have hz : (y == 0) = false := by rw [beq_eq_false_iff_ne]; exact h0
  clear h0
  go_enter Try.func21, Try.ntmps21
  go_wp2_with (go_at_call 51; refine C.out.mono ?_; rintro e w' ⟨rfl, n, rfl⟩)
  go_ret3
  exact ⟨rfl, _, rfl⟩
set_option maxHeartbeats 1000000 in
theorem step_other (s : ByteArray) (x y : Int) (w : World) (f0 : (s.toList == [60]) = false) (f1 : (s.toList == [61, 61]) = false) (f2 : (s.toList == [43]) = false) (f3 : (s.toList == [45]) = false) (f4 : (s.toList == [42]) = false) (f5 : (s.toList == [47]) = false) (f6 : (s.toList == [37]) = false) :
    Calls Try.prog 21 #[.string s, .int .i64 x, .int .i64 y] w fun e w' => e = .returned (told .u8 (0, false, 7)) ∧ ∃ n, w' = w.drewN n := by
  go_enter Try.func21, Try.ntmps21
  go_wp2_with fail
  go_ret3
  exact ⟨rfl, 0, rfl⟩
end Go.Proofs.Ytegekajbnecdfaa

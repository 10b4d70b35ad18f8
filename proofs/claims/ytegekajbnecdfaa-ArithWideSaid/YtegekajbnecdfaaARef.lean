/- Layer 17: the reference's Step: its walks, one a sign; both steps for any sign. Written by wip/gen/gen_ref17.py. -/
import Derived.Test.YtegekajbnecdfaaANum
namespace Go.Proofs.Ytegekajbnecdfaa
open Go.RowKit
set_option maxHeartbeats 1000000 in
theorem ref_lss (s : ByteArray) (x y : Int) (w : World) (hs : s.toList = [60]) :
    Calls Try.prog 22 #[.string s, .int .i64 x, .int .i64 y] w fun e w' => e = .returned (told .i64 (0, decide (x < y), 0)) ∧ ∃ n, w' = w.drewN n := by
  have f0 : (s.toList == [60]) = true := by rw [sign_facts hs]; rfl
  have f1 : (s.toList == [61, 61]) = false := by rw [sign_facts hs]; rfl
  have f2 : (s.toList == [43]) = false := by rw [sign_facts hs]; rfl
  have f3 : (s.toList == [45]) = false := by rw [sign_facts hs]; rfl
  have f4 : (s.toList == [42]) = false := by rw [sign_facts hs]; rfl
  have f5 : (s.toList == [47]) = false := by rw [sign_facts hs]; rfl
  have f6 : (s.toList == [37]) = false := by rw [sign_facts hs]; rfl
  clear hs
  go_enter Try.func22, Try.ntmps22
  go_wp2_with fail
  go_ret3
  exact ⟨rfl, 0, rfl⟩
set_option maxHeartbeats 1000000 in
theorem ref_eql (s : ByteArray) (x y : Int) (w : World) (hs : s.toList = [61, 61]) :
    Calls Try.prog 22 #[.string s, .int .i64 x, .int .i64 y] w fun e w' => e = .returned (told .i64 (0, x == y, 0)) ∧ ∃ n, w' = w.drewN n := by
  have f0 : (s.toList == [60]) = false := by rw [sign_facts hs]; rfl
  have f1 : (s.toList == [61, 61]) = true := by rw [sign_facts hs]; rfl
  have f2 : (s.toList == [43]) = false := by rw [sign_facts hs]; rfl
  have f3 : (s.toList == [45]) = false := by rw [sign_facts hs]; rfl
  have f4 : (s.toList == [42]) = false := by rw [sign_facts hs]; rfl
  have f5 : (s.toList == [47]) = false := by rw [sign_facts hs]; rfl
  have f6 : (s.toList == [37]) = false := by rw [sign_facts hs]; rfl
  clear hs
  go_enter Try.func22, Try.ntmps22
  go_wp2_with fail
  go_ret3
  exact ⟨rfl, 0, rfl⟩
set_option maxHeartbeats 1000000 in
theorem ref_add (s : ByteArray) (x y : Int) (w : World) (hx : In64 x) (hy : In64 y) (hs : s.toList = [43]) :
    Calls Try.prog 22 #[.string s, .int .i64 x, .int .i64 y] w fun e w' => e = .returned (told .i64 (fin (x + y))) ∧ ∃ n, w' = w.drewN n := by
  have f0 : (s.toList == [60]) = false := by rw [sign_facts hs]; rfl
  have f1 : (s.toList == [61, 61]) = false := by rw [sign_facts hs]; rfl
  have f2 : (s.toList == [43]) = true := by rw [sign_facts hs]; rfl
  have f3 : (s.toList == [45]) = false := by rw [sign_facts hs]; rfl
  have f4 : (s.toList == [42]) = false := by rw [sign_facts hs]; rfl
  have f5 : (s.toList == [47]) = false := by rw [sign_facts hs]; rfl
  have f6 : (s.toList == [37]) = false := by rw [sign_facts hs]; rfl
  have C := Lib.hid (number_add s x y w hx hy hs)
  clear hs
  unfold In64 at hx hy
  cases hb : In64b (x + y)
  · rw [fin_out hb]
    have H := Lib.hid hb
    clear hb
    go_enter Try.func22, Try.ntmps22
    go_wp2_with (go_at_call 52; refine C.out.mono ?_; rintro e w' ⟨n, rfl, hn, m, rfl⟩; rw [H.out]; clear hn)
    go_ret3
    exact ⟨rfl, m, rfl⟩
  · rw [fin_in hb]
    have H := Lib.hid hb
    clear hb
    go_enter Try.func22, Try.ntmps22
    go_wp2_with (go_at_call 52; refine C.out.mono ?_; rintro e w' ⟨n, rfl, hn, m, rfl⟩; rw [H.out]; have HN := Lib.hid (hn H.out); clear hn)
    go_ret3
    exact ⟨ret3_of (int_of HN.out) rfl rfl, m, rfl⟩
set_option maxHeartbeats 1000000 in
theorem ref_sub (s : ByteArray) (x y : Int) (w : World) (hx : In64 x) (hy : In64 y) (hs : s.toList = [45]) :
    Calls Try.prog 22 #[.string s, .int .i64 x, .int .i64 y] w fun e w' => e = .returned (told .i64 (fin (x - y))) ∧ ∃ n, w' = w.drewN n := by
  have f0 : (s.toList == [60]) = false := by rw [sign_facts hs]; rfl
  have f1 : (s.toList == [61, 61]) = false := by rw [sign_facts hs]; rfl
  have f2 : (s.toList == [43]) = false := by rw [sign_facts hs]; rfl
  have f3 : (s.toList == [45]) = true := by rw [sign_facts hs]; rfl
  have f4 : (s.toList == [42]) = false := by rw [sign_facts hs]; rfl
  have f5 : (s.toList == [47]) = false := by rw [sign_facts hs]; rfl
  have f6 : (s.toList == [37]) = false := by rw [sign_facts hs]; rfl
  have C := Lib.hid (number_sub s x y w hx hy hs)
  clear hs
  unfold In64 at hx hy
  cases hb : In64b (x - y)
  · rw [fin_out hb]
    have H := Lib.hid hb
    clear hb
    go_enter Try.func22, Try.ntmps22
    go_wp2_with (go_at_call 52; refine C.out.mono ?_; rintro e w' ⟨n, rfl, hn, m, rfl⟩; rw [H.out]; clear hn)
    go_ret3
    exact ⟨rfl, m, rfl⟩
  · rw [fin_in hb]
    have H := Lib.hid hb
    clear hb
    go_enter Try.func22, Try.ntmps22
    go_wp2_with (go_at_call 52; refine C.out.mono ?_; rintro e w' ⟨n, rfl, hn, m, rfl⟩; rw [H.out]; have HN := Lib.hid (hn H.out); clear hn)
    go_ret3
    exact ⟨ret3_of (int_of HN.out) rfl rfl, m, rfl⟩
set_option maxHeartbeats 1000000 in
theorem ref_mul (s : ByteArray) (x y : Int) (w : World) (hx : In64 x) (hy : In64 y) (hs : s.toList = [42]) :
    Calls Try.prog 22 #[.string s, .int .i64 x, .int .i64 y] w fun e w' => e = .returned (told .i64 (fin (x * y))) ∧ ∃ n, w' = w.drewN n := by
  have f0 : (s.toList == [60]) = false := by rw [sign_facts hs]; rfl
  have f1 : (s.toList == [61, 61]) = false := by rw [sign_facts hs]; rfl
  have f2 : (s.toList == [43]) = false := by rw [sign_facts hs]; rfl
  have f3 : (s.toList == [45]) = false := by rw [sign_facts hs]; rfl
  have f4 : (s.toList == [42]) = true := by rw [sign_facts hs]; rfl
  have f5 : (s.toList == [47]) = false := by rw [sign_facts hs]; rfl
  have f6 : (s.toList == [37]) = false := by rw [sign_facts hs]; rfl
  have C := Lib.hid (number_mul s x y w hx hy hs)
  clear hs
  unfold In64 at hx hy
  cases hb : In64b (x * y)
  · rw [fin_out hb]
    have H := Lib.hid hb
    clear hb
    go_enter Try.func22, Try.ntmps22
    go_wp2_with (go_at_call 52; refine C.out.mono ?_; rintro e w' ⟨n, rfl, hn, m, rfl⟩; rw [H.out]; clear hn)
    go_ret3
    exact ⟨rfl, m, rfl⟩
  · rw [fin_in hb]
    have H := Lib.hid hb
    clear hb
    go_enter Try.func22, Try.ntmps22
    go_wp2_with (go_at_call 52; refine C.out.mono ?_; rintro e w' ⟨n, rfl, hn, m, rfl⟩; rw [H.out]; have HN := Lib.hid (hn H.out); clear hn)
    go_ret3
    exact ⟨ret3_of (int_of HN.out) rfl rfl, m, rfl⟩
set_option maxHeartbeats 1000000 in
theorem ref_div0 (s : ByteArray) (x y : Int) (w : World) (hs : s.toList = [47]) (h0 : y = 0) :
    Calls Try.prog 22 #[.string s, .int .i64 x, .int .i64 y] w fun e w' => e = .returned (told .i64 (0, false, 3)) ∧ ∃ n, w' = w.drewN n := by
  have f0 : (s.toList == [60]) = false := by rw [sign_facts hs]; rfl
  have f1 : (s.toList == [61, 61]) = false := by rw [sign_facts hs]; rfl
  have f2 : (s.toList == [43]) = false := by rw [sign_facts hs]; rfl
  have f3 : (s.toList == [45]) = false := by rw [sign_facts hs]; rfl
  have f4 : (s.toList == [42]) = false := by rw [sign_facts hs]; rfl
  have f5 : (s.toList == [47]) = true := by rw [sign_facts hs]; rfl
  have f6 : (s.toList == [37]) = false := by rw [sign_facts hs]; rfl
  have hz : (y == 0) = true := by rw [h0]; rfl
  clear h0 hs
  go_enter Try.func22, Try.ntmps22
  go_wp2_with fail
  go_ret3
  exact ⟨rfl, 0, rfl⟩
set_option maxHeartbeats 1000000 in
theorem ref_rem0 (s : ByteArray) (x y : Int) (w : World) (hs : s.toList = [37]) (h0 : y = 0) :
    Calls Try.prog 22 #[.string s, .int .i64 x, .int .i64 y] w fun e w' => e = .returned (told .i64 (0, false, 3)) ∧ ∃ n, w' = w.drewN n := by
  have f0 : (s.toList == [60]) = false := by rw [sign_facts hs]; rfl
  have f1 : (s.toList == [61, 61]) = false := by rw [sign_facts hs]; rfl
  have f2 : (s.toList == [43]) = false := by rw [sign_facts hs]; rfl
  have f3 : (s.toList == [45]) = false := by rw [sign_facts hs]; rfl
  have f4 : (s.toList == [42]) = false := by rw [sign_facts hs]; rfl
  have f5 : (s.toList == [47]) = false := by rw [sign_facts hs]; rfl
  have f6 : (s.toList == [37]) = true := by rw [sign_facts hs]; rfl
  have hz : (y == 0) = true := by rw [h0]; rfl
  clear h0 hs
  go_enter Try.func22, Try.ntmps22
  go_wp2_with fail
  go_ret3
  exact ⟨rfl, 0, rfl⟩
set_option maxHeartbeats 1000000 in
theorem ref_div (s : ByteArray) (x y : Int) (w : World) (hx : In64 x) (hy : In64 y) (hs : s.toList = [47]) (h0 : y ≠ 0) :
    Calls Try.prog 22 #[.string s, .int .i64 x, .int .i64 y] w fun e w' => e = .returned (told .i64 (fin (x.tdiv y))) ∧ ∃ n, w' = w.drewN n := by
  have f0 : (s.toList == [60]) = false := by rw [sign_facts hs]; rfl
  have f1 : (s.toList == [61, 61]) = false := by rw [sign_facts hs]; rfl
  have f2 : (s.toList == [43]) = false := by rw [sign_facts hs]; rfl
  have f3 : (s.toList == [45]) = false := by rw [sign_facts hs]; rfl
  have f4 : (s.toList == [42]) = false := by rw [sign_facts hs]; rfl
  have f5 : (s.toList == [47]) = true := by rw [sign_facts hs]; rfl
  have f6 : (s.toList == [37]) = false := by rw [sign_facts hs]; rfl
  have hz : (y == 0) = false := by rw [beq_eq_false_iff_ne]; exact h0
  clear hs
  by_cases h1 : y = -1
  · have hm : (y == -1) = true := by rw [h1]; rfl
    rw [h1, (tdiv_m1 x).1]
    clear h0 h1
    unfold In64 at hx hy
    by_cases h2 : x < -9223372036854775807
    · rw [fin_out ((in64b_false _).2 (by unfold In64; omega))]
      go_enter Try.func22, Try.ntmps22
      go_wp2_with fail
      go_ret3
      exact ⟨rfl, 0, rfl⟩
    · rw [fin_in ((in64b_iff _).2 (by unfold In64; omega))]
      go_enter Try.func22, Try.ntmps22
      go_wp2_with fail
      go_ret3
      exact ⟨rfl, 0, rfl⟩
  · have hm : (y == -1) = false := by rw [beq_eq_false_iff_ne]; exact h1
    have H := Lib.hid (tdiv_in hx h0 h1)
    rw [fin_in (tdiv_in hx h0 h1)]
    clear h1
    unfold In64 at hx hy
    go_enter Try.func22, Try.ntmps22
    go_wp2_with fail
    go_ret3
    exact ⟨ret3_of (int_of (wrap64_id ((in64b_iff _).1 H.out))) rfl rfl, 0, rfl⟩
set_option maxHeartbeats 1000000 in
theorem ref_rem (s : ByteArray) (x y : Int) (w : World) (hx : In64 x) (hy : In64 y) (hs : s.toList = [37]) (h0 : y ≠ 0) :
    Calls Try.prog 22 #[.string s, .int .i64 x, .int .i64 y] w fun e w' => e = .returned (told .i64 (x.tmod y, false, 0)) ∧ ∃ n, w' = w.drewN n := by
  have f0 : (s.toList == [60]) = false := by rw [sign_facts hs]; rfl
  have f1 : (s.toList == [61, 61]) = false := by rw [sign_facts hs]; rfl
  have f2 : (s.toList == [43]) = false := by rw [sign_facts hs]; rfl
  have f3 : (s.toList == [45]) = false := by rw [sign_facts hs]; rfl
  have f4 : (s.toList == [42]) = false := by rw [sign_facts hs]; rfl
  have f5 : (s.toList == [47]) = false := by rw [sign_facts hs]; rfl
  have f6 : (s.toList == [37]) = true := by rw [sign_facts hs]; rfl
  have hz : (y == 0) = false := by rw [beq_eq_false_iff_ne]; exact h0
  clear hs
  by_cases h1 : y = -1
  · have hm : (y == -1) = true := by rw [h1]; rfl
    rw [h1, (tdiv_m1 x).2]
    clear h0 h1
    unfold In64 at hx hy
    go_enter Try.func22, Try.ntmps22
    go_wp2_with fail
    go_ret3
    exact ⟨rfl, 0, rfl⟩
  · have hm : (y == -1) = false := by rw [beq_eq_false_iff_ne]; exact h1
    have H := Lib.hid (rem_law hx hy h0 h1)
    clear h1
    unfold In64 at hx hy
    go_enter Try.func22, Try.ntmps22
    go_wp2_with fail
    go_ret3
    exact ⟨ret3_of (int_of H.out) rfl rfl, 0, rfl⟩
set_option maxHeartbeats 1000000 in
theorem ref_other (s : ByteArray) (x y : Int) (w : World) (f0 : (s.toList == [60]) = false) (f1 : (s.toList == [61, 61]) = false) (f2 : (s.toList == [43]) = false) (f3 : (s.toList == [45]) = false) (f4 : (s.toList == [42]) = false) (f5 : (s.toList == [47]) = false) (f6 : (s.toList == [37]) = false) :
    Calls Try.prog 22 #[.string s, .int .i64 x, .int .i64 y] w fun e w' => e = .returned (told .i64 (0, false, 7)) ∧ ∃ n, w' = w.drewN n := by
  go_enter Try.func22, Try.ntmps22
  go_wp2_with fail
  go_ret3
  exact ⟨rfl, 0, rfl⟩
theorem step_all (s : ByteArray) (x y : Int) (w : World) (hx : In64 x) (hy : In64 y) :
    Calls Try.prog 21 #[.string s, .int .i64 x, .int .i64 y] w fun e w' => e = .returned (told .u8 (stepZ s.toList x y)) ∧ ∃ n, w' = w.drewN n := by
  unfold stepZ
  by_cases c0 : s.toList = [60]
  · rw [if_pos c0]; exact step_lss s x y w c0
  rw [if_neg c0]
  by_cases c1 : s.toList = [61, 61]
  · rw [if_pos c1]; exact step_eql s x y w c1
  rw [if_neg c1]
  by_cases c2 : s.toList = [43]
  · rw [if_pos c2]; exact step_add s x y w hx hy c2
  rw [if_neg c2]
  by_cases c3 : s.toList = [45]
  · rw [if_pos c3]; exact step_sub s x y w hx hy c3
  rw [if_neg c3]
  by_cases c4 : s.toList = [42]
  · rw [if_pos c4]; exact step_mul s x y w hx hy c4
  rw [if_neg c4]
  by_cases c5 : s.toList = [47]
  · rw [if_pos c5]
    by_cases h0 : y = 0
    · rw [if_pos h0]; exact step_div0 s x y w c5 h0
    · rw [if_neg h0]; exact step_div s x y w hx hy c5 h0
  rw [if_neg c5]
  by_cases c6 : s.toList = [37]
  · rw [if_pos c6]
    by_cases h0 : y = 0
    · rw [if_pos h0]; exact step_rem0 s x y w c6 h0
    · rw [if_neg h0]; exact step_rem s x y w hx hy c6 h0
  rw [if_neg c6]
  exact step_other s x y w (beq_eq_false_iff_ne.2 c0) (beq_eq_false_iff_ne.2 c1) (beq_eq_false_iff_ne.2 c2) (beq_eq_false_iff_ne.2 c3) (beq_eq_false_iff_ne.2 c4) (beq_eq_false_iff_ne.2 c5) (beq_eq_false_iff_ne.2 c6)
theorem ref_all (s : ByteArray) (x y : Int) (w : World) (hx : In64 x) (hy : In64 y) :
    Calls Try.prog 22 #[.string s, .int .i64 x, .int .i64 y] w fun e w' => e = .returned (told .i64 (stepZ s.toList x y)) ∧ ∃ n, w' = w.drewN n := by
  unfold stepZ
  by_cases c0 : s.toList = [60]
  · rw [if_pos c0]; exact ref_lss s x y w c0
  rw [if_neg c0]
  by_cases c1 : s.toList = [61, 61]
  · rw [if_pos c1]; exact ref_eql s x y w c1
  rw [if_neg c1]
  by_cases c2 : s.toList = [43]
  · rw [if_pos c2]; exact ref_add s x y w hx hy c2
  rw [if_neg c2]
  by_cases c3 : s.toList = [45]
  · rw [if_pos c3]; exact ref_sub s x y w hx hy c3
  rw [if_neg c3]
  by_cases c4 : s.toList = [42]
  · rw [if_pos c4]; exact ref_mul s x y w hx hy c4
  rw [if_neg c4]
  by_cases c5 : s.toList = [47]
  · rw [if_pos c5]
    by_cases h0 : y = 0
    · rw [if_pos h0]; exact ref_div0 s x y w c5 h0
    · rw [if_neg h0]; exact ref_div s x y w hx hy c5 h0
  rw [if_neg c5]
  by_cases c6 : s.toList = [37]
  · rw [if_pos c6]
    by_cases h0 : y = 0
    · rw [if_pos h0]; exact ref_rem0 s x y w c6 h0
    · rw [if_neg h0]; exact ref_rem s x y w hx hy c6 h0
  rw [if_neg c6]
  exact ref_other s x y w (beq_eq_false_iff_ne.2 c0) (beq_eq_false_iff_ne.2 c1) (beq_eq_false_iff_ne.2 c2) (beq_eq_false_iff_ne.2 c3) (beq_eq_false_iff_ne.2 c4) (beq_eq_false_iff_ne.2 c5) (beq_eq_false_iff_ne.2 c6)
end Go.Proofs.Ytegekajbnecdfaa

/- Layer 2: the walks of bytes by kind and of own words. Written by wip/gen/gen_lw1.py. -/
import Derived.Test.YtegekajbnecdfaaLScan
import Derived.Test.YtegekajbnecdfaaRMain2
namespace Go.Proofs.Ytegekajbnecdfaa
open Go.RowKit
theorem small_any (c : Int) (w : World) : Calls Try.prog 73 #[.int .u8 c] w fun e w' => e = .returned (.bool (smallB c)) ∧ w = w' := by
  by_cases h1 : 97 ≤ c
  · by_cases h2 : c ≤ 122
    · rw [(small_iff c).2 ⟨h1, h2⟩]
      go_enter Try.func73, Try.ntmps73
      go_wp2_with fail
      go_ret
      exact ⟨retBool (by simp <;> omega), rfl⟩
    · rw [(small_no c).2 (fun h => h2 h.2)]
      go_enter Try.func73, Try.ntmps73
      go_wp2_with fail
      go_ret
      exact ⟨retBool (by simp <;> omega), rfl⟩
  · rw [(small_no c).2 (fun h => h1 h.1)]
    go_enter Try.func73, Try.ntmps73
    go_wp2_with fail
    go_ret
    exact ⟨retBool (by simp <;> omega), rfl⟩
theorem great_any (c : Int) (w : World) : Calls Try.prog 75 #[.int .u8 c] w fun e w' => e = .returned (.bool (greatB c)) ∧ w = w' := by
  by_cases h1 : 65 ≤ c
  · by_cases h2 : c ≤ 90
    · rw [(great_iff c).2 ⟨h1, h2⟩]
      go_enter Try.func75, Try.ntmps75
      go_wp2_with fail
      go_ret
      exact ⟨retBool (by simp <;> omega), rfl⟩
    · rw [(great_no c).2 (fun h => h2 h.2)]
      go_enter Try.func75, Try.ntmps75
      go_wp2_with fail
      go_ret
      exact ⟨retBool (by simp <;> omega), rfl⟩
  · rw [(great_no c).2 (fun h => h1 h.1)]
    go_enter Try.func75, Try.ntmps75
    go_wp2_with fail
    go_ret
    exact ⟨retBool (by simp <;> omega), rfl⟩
theorem digit_any (c : Int) (w : World) : Calls Try.prog 74 #[.int .u8 c] w fun e w' => e = .returned (.bool (digitB c)) ∧ w = w' := by
  by_cases h1 : 48 ≤ c
  · by_cases h2 : c ≤ 57
    · rw [(digit_iff c).2 ⟨h1, h2⟩]
      go_enter Try.func74, Try.ntmps74
      go_wp2_with fail
      go_ret
      exact ⟨retBool (by simp <;> omega), rfl⟩
    · rw [(digit_no c).2 (fun h => h2 h.2)]
      go_enter Try.func74, Try.ntmps74
      go_wp2_with fail
      go_ret
      exact ⟨retBool (by simp <;> omega), rfl⟩
  · rw [(digit_no c).2 (fun h => h1 h.1)]
    go_enter Try.func74, Try.ntmps74
    go_wp2_with fail
    go_ret
    exact ⟨retBool (by simp <;> omega), rfl⟩
set_option maxHeartbeats 1000000 in
theorem runs_any (c : Int) (w : World) : Calls Try.prog 69 #[.int .u8 c] w fun e w' => e = .returned (.bool (runsB c)) ∧ w = w' := by
  have Hs := fun w => Lib.hid (small_any c w)
  have Hg := fun w => Lib.hid (great_any c w)
  have Hd := fun w => Lib.hid (digit_any c w)
  unfold runsB
  cases hs : smallB c
  · rw [hs] at Hs
    clear hs
    cases hg : greatB c
    · rw [hg] at Hg
      clear hg
      cases hd : digitB c
      · rw [hd] at Hd
        clear hd
        go_enter Try.func69, Try.ntmps69
        go_wp2_with fail
        refine ((Hs _).out).mono ?_
        rintro e w' ⟨rfl, rfl⟩
        go_wp2_with fail
        refine ((Hg _).out).mono ?_
        rintro e w' ⟨rfl, rfl⟩
        go_wp2_with fail
        refine ((Hd _).out).mono ?_
        rintro e w' ⟨rfl, rfl⟩
        go_wp2_with fail
        go_ret
        exact ⟨retBool (by simp), rfl⟩
      · rw [hd] at Hd
        clear hd
        go_enter Try.func69, Try.ntmps69
        go_wp2_with fail
        refine ((Hs _).out).mono ?_
        rintro e w' ⟨rfl, rfl⟩
        go_wp2_with fail
        refine ((Hg _).out).mono ?_
        rintro e w' ⟨rfl, rfl⟩
        go_wp2_with fail
        refine ((Hd _).out).mono ?_
        rintro e w' ⟨rfl, rfl⟩
        go_wp2_with fail
        go_ret
        exact ⟨retBool (by simp), rfl⟩
    · rw [hg] at Hg
      clear hg
      go_enter Try.func69, Try.ntmps69
      go_wp2_with fail
      refine ((Hs _).out).mono ?_
      rintro e w' ⟨rfl, rfl⟩
      go_wp2_with fail
      refine ((Hg _).out).mono ?_
      rintro e w' ⟨rfl, rfl⟩
      go_wp2_with fail
      go_ret
      exact ⟨retBool (by simp), rfl⟩
  · rw [hs] at Hs
    clear hs
    go_enter Try.func69, Try.ntmps69
    go_wp2_with fail
    refine ((Hs _).out).mono ?_
    rintro e w' ⟨rfl, rfl⟩
    go_wp2_with fail
    go_ret
    exact ⟨retBool (by simp), rfl⟩
theorem kind_any (c : Int) (w : World) : Calls Try.prog 59 #[.int .u8 c] w fun e w' => e = .returned (.int .i64 (kindZ c)) ∧ w = w' := by
  unfold kindZ
  by_cases s1 : 97 ≤ c ∧ c ≤ 122
  · rw [if_pos ((small_iff c).2 s1)]
    obtain ⟨h1, h2⟩ := s1
    go_enter Try.func59, Try.ntmps59
    go_wp2_with fail
    go_ret
    exact ⟨rfl, rfl⟩
  rw [if_neg (fun h => s1 ((small_iff c).1 h))]
  by_cases g1 : 65 ≤ c ∧ c ≤ 90
  · rw [if_pos ((great_iff c).2 g1)]
    obtain ⟨h1, h2⟩ := g1
    clear s1
    go_enter Try.func59, Try.ntmps59
    go_wp2_with fail
    go_ret
    exact ⟨rfl, rfl⟩
  rw [if_neg (fun h => g1 ((great_iff c).1 h))]
  by_cases d1 : 48 ≤ c ∧ c ≤ 57
  · rw [if_pos ((digit_iff c).2 d1)]
    obtain ⟨h1, h2⟩ := d1
    clear s1 g1
    go_enter Try.func59, Try.ntmps59
    go_wp2_with fail
    go_ret
    exact ⟨rfl, rfl⟩
  rw [if_neg (fun h => d1 ((digit_iff c).1 h))]
  by_cases u1 : c = 95
  · rw [if_pos u1]
    subst u1
    go_enter Try.func59, Try.ntmps59
    go_wp2_with fail
    go_ret
    exact ⟨rfl, rfl⟩
  rw [if_neg u1]
  have b : (c == 95) = false := beq_eq_false_iff_ne.2 u1
  have hk : c < 48 ∨ (58 ≤ c ∧ c ≤ 64) ∨ (91 ≤ c ∧ c ≤ 94) ∨ c = 96 ∨ 122 < c := by omega
  clear s1 g1 d1 u1
  rcases hk with h | ⟨h, h'⟩ | ⟨h, h'⟩ | h | h
  · go_enter Try.func59, Try.ntmps59
    go_wp2_with fail
    go_ret
    exact ⟨rfl, rfl⟩
  · go_enter Try.func59, Try.ntmps59
    go_wp2_with fail
    go_ret
    exact ⟨rfl, rfl⟩
  · go_enter Try.func59, Try.ntmps59
    go_wp2_with fail
    go_ret
    exact ⟨rfl, rfl⟩
  · obtain rfl : c = 96 := h
    go_enter Try.func59, Try.ntmps59
    go_wp2_with fail
    go_ret
    exact ⟨rfl, rfl⟩
  · go_enter Try.func59, Try.ntmps59
    go_wp2_with fail
    go_ret
    exact ⟨rfl, rfl⟩
theorem own_0 (s : ByteArray) (w : World) (f0 : (s.toList == [102, 117, 110]) = true) : Calls Try.prog 62 #[.string s] w fun e w' => e = .returned (.bool true) ∧ w = w' := by
  go_enter Try.func62, Try.ntmps62
  go_wp2_with fail
  go_ret
  exact ⟨rfl, rfl⟩
theorem own_1 (s : ByteArray) (w : World) (f0 : (s.toList == [102, 117, 110]) = false) (f1 : (s.toList == [114, 101, 99]) = true) : Calls Try.prog 62 #[.string s] w fun e w' => e = .returned (.bool true) ∧ w = w' := by
  go_enter Try.func62, Try.ntmps62
  go_wp2_with fail
  go_ret
  exact ⟨rfl, rfl⟩
theorem own_2 (s : ByteArray) (w : World) (f0 : (s.toList == [102, 117, 110]) = false) (f1 : (s.toList == [114, 101, 99]) = false) (f2 : (s.toList == [108, 101, 116]) = true) : Calls Try.prog 62 #[.string s] w fun e w' => e = .returned (.bool true) ∧ w = w' := by
  go_enter Try.func62, Try.ntmps62
  go_wp2_with fail
  go_ret
  exact ⟨rfl, rfl⟩
theorem own_3 (s : ByteArray) (w : World) (f0 : (s.toList == [102, 117, 110]) = false) (f1 : (s.toList == [114, 101, 99]) = false) (f2 : (s.toList == [108, 101, 116]) = false) (f3 : (s.toList == [105, 110]) = true) : Calls Try.prog 62 #[.string s] w fun e w' => e = .returned (.bool true) ∧ w = w' := by
  go_enter Try.func62, Try.ntmps62
  go_wp2_with fail
  go_ret
  exact ⟨rfl, rfl⟩
theorem own_4 (s : ByteArray) (w : World) (f0 : (s.toList == [102, 117, 110]) = false) (f1 : (s.toList == [114, 101, 99]) = false) (f2 : (s.toList == [108, 101, 116]) = false) (f3 : (s.toList == [105, 110]) = false) (f4 : (s.toList == [105, 102]) = true) : Calls Try.prog 62 #[.string s] w fun e w' => e = .returned (.bool true) ∧ w = w' := by
  go_enter Try.func62, Try.ntmps62
  go_wp2_with fail
  go_ret
  exact ⟨rfl, rfl⟩
theorem own_5 (s : ByteArray) (w : World) (f0 : (s.toList == [102, 117, 110]) = false) (f1 : (s.toList == [114, 101, 99]) = false) (f2 : (s.toList == [108, 101, 116]) = false) (f3 : (s.toList == [105, 110]) = false) (f4 : (s.toList == [105, 102]) = false) (f5 : (s.toList == [116, 104, 101, 110]) = true) : Calls Try.prog 62 #[.string s] w fun e w' => e = .returned (.bool true) ∧ w = w' := by
  go_enter Try.func62, Try.ntmps62
  go_wp2_with fail
  go_ret
  exact ⟨rfl, rfl⟩
theorem own_6 (s : ByteArray) (w : World) (f0 : (s.toList == [102, 117, 110]) = false) (f1 : (s.toList == [114, 101, 99]) = false) (f2 : (s.toList == [108, 101, 116]) = false) (f3 : (s.toList == [105, 110]) = false) (f4 : (s.toList == [105, 102]) = false) (f5 : (s.toList == [116, 104, 101, 110]) = false) (f6 : (s.toList == [101, 108, 115, 101]) = true) : Calls Try.prog 62 #[.string s] w fun e w' => e = .returned (.bool true) ∧ w = w' := by
  go_enter Try.func62, Try.ntmps62
  go_wp2_with fail
  go_ret
  exact ⟨rfl, rfl⟩
theorem own_7 (s : ByteArray) (w : World) (f0 : (s.toList == [102, 117, 110]) = false) (f1 : (s.toList == [114, 101, 99]) = false) (f2 : (s.toList == [108, 101, 116]) = false) (f3 : (s.toList == [105, 110]) = false) (f4 : (s.toList == [105, 102]) = false) (f5 : (s.toList == [116, 104, 101, 110]) = false) (f6 : (s.toList == [101, 108, 115, 101]) = false) (f7 : (s.toList == [99, 97, 115, 101]) = true) : Calls Try.prog 62 #[.string s] w fun e w' => e = .returned (.bool true) ∧ w = w' := by
  go_enter Try.func62, Try.ntmps62
  go_wp2_with fail
  go_ret
  exact ⟨rfl, rfl⟩
theorem own_8 (s : ByteArray) (w : World) (f0 : (s.toList == [102, 117, 110]) = false) (f1 : (s.toList == [114, 101, 99]) = false) (f2 : (s.toList == [108, 101, 116]) = false) (f3 : (s.toList == [105, 110]) = false) (f4 : (s.toList == [105, 102]) = false) (f5 : (s.toList == [116, 104, 101, 110]) = false) (f6 : (s.toList == [101, 108, 115, 101]) = false) (f7 : (s.toList == [99, 97, 115, 101]) = false) (f8 : (s.toList == [111, 102]) = true) : Calls Try.prog 62 #[.string s] w fun e w' => e = .returned (.bool true) ∧ w = w' := by
  go_enter Try.func62, Try.ntmps62
  go_wp2_with fail
  go_ret
  exact ⟨rfl, rfl⟩
theorem own_9 (s : ByteArray) (w : World) (f0 : (s.toList == [102, 117, 110]) = false) (f1 : (s.toList == [114, 101, 99]) = false) (f2 : (s.toList == [108, 101, 116]) = false) (f3 : (s.toList == [105, 110]) = false) (f4 : (s.toList == [105, 102]) = false) (f5 : (s.toList == [116, 104, 101, 110]) = false) (f6 : (s.toList == [101, 108, 115, 101]) = false) (f7 : (s.toList == [99, 97, 115, 101]) = false) (f8 : (s.toList == [111, 102]) = false) (f9 : (s.toList == [101, 110, 100]) = true) : Calls Try.prog 62 #[.string s] w fun e w' => e = .returned (.bool true) ∧ w = w' := by
  go_enter Try.func62, Try.ntmps62
  go_wp2_with fail
  go_ret
  exact ⟨rfl, rfl⟩
theorem own_10 (s : ByteArray) (w : World) (f0 : (s.toList == [102, 117, 110]) = false) (f1 : (s.toList == [114, 101, 99]) = false) (f2 : (s.toList == [108, 101, 116]) = false) (f3 : (s.toList == [105, 110]) = false) (f4 : (s.toList == [105, 102]) = false) (f5 : (s.toList == [116, 104, 101, 110]) = false) (f6 : (s.toList == [101, 108, 115, 101]) = false) (f7 : (s.toList == [99, 97, 115, 101]) = false) (f8 : (s.toList == [111, 102]) = false) (f9 : (s.toList == [101, 110, 100]) = false) (f10 : (s.toList == [116, 114, 117, 101]) = true) : Calls Try.prog 62 #[.string s] w fun e w' => e = .returned (.bool true) ∧ w = w' := by
  go_enter Try.func62, Try.ntmps62
  go_wp2_with fail
  go_ret
  exact ⟨rfl, rfl⟩
theorem own_11 (s : ByteArray) (w : World) (f0 : (s.toList == [102, 117, 110]) = false) (f1 : (s.toList == [114, 101, 99]) = false) (f2 : (s.toList == [108, 101, 116]) = false) (f3 : (s.toList == [105, 110]) = false) (f4 : (s.toList == [105, 102]) = false) (f5 : (s.toList == [116, 104, 101, 110]) = false) (f6 : (s.toList == [101, 108, 115, 101]) = false) (f7 : (s.toList == [99, 97, 115, 101]) = false) (f8 : (s.toList == [111, 102]) = false) (f9 : (s.toList == [101, 110, 100]) = false) (f10 : (s.toList == [116, 114, 117, 101]) = false) (f11 : (s.toList == [102, 97, 108, 115, 101]) = true) : Calls Try.prog 62 #[.string s] w fun e w' => e = .returned (.bool true) ∧ w = w' := by
  go_enter Try.func62, Try.ntmps62
  go_wp2_with fail
  go_ret
  exact ⟨rfl, rfl⟩
theorem own_12 (s : ByteArray) (w : World) (f0 : (s.toList == [102, 117, 110]) = false) (f1 : (s.toList == [114, 101, 99]) = false) (f2 : (s.toList == [108, 101, 116]) = false) (f3 : (s.toList == [105, 110]) = false) (f4 : (s.toList == [105, 102]) = false) (f5 : (s.toList == [116, 104, 101, 110]) = false) (f6 : (s.toList == [101, 108, 115, 101]) = false) (f7 : (s.toList == [99, 97, 115, 101]) = false) (f8 : (s.toList == [111, 102]) = false) (f9 : (s.toList == [101, 110, 100]) = false) (f10 : (s.toList == [116, 114, 117, 101]) = false) (f11 : (s.toList == [102, 97, 108, 115, 101]) = false) (f12 : (s.toList == [100, 101, 102]) = true) : Calls Try.prog 62 #[.string s] w fun e w' => e = .returned (.bool true) ∧ w = w' := by
  go_enter Try.func62, Try.ntmps62
  go_wp2_with fail
  go_ret
  exact ⟨rfl, rfl⟩
theorem own_13 (s : ByteArray) (w : World) (f0 : (s.toList == [102, 117, 110]) = false) (f1 : (s.toList == [114, 101, 99]) = false) (f2 : (s.toList == [108, 101, 116]) = false) (f3 : (s.toList == [105, 110]) = false) (f4 : (s.toList == [105, 102]) = false) (f5 : (s.toList == [116, 104, 101, 110]) = false) (f6 : (s.toList == [101, 108, 115, 101]) = false) (f7 : (s.toList == [99, 97, 115, 101]) = false) (f8 : (s.toList == [111, 102]) = false) (f9 : (s.toList == [101, 110, 100]) = false) (f10 : (s.toList == [116, 114, 117, 101]) = false) (f11 : (s.toList == [102, 97, 108, 115, 101]) = false) (f12 : (s.toList == [100, 101, 102]) = false) (f13 : (s.toList == [73, 110, 116]) = true) : Calls Try.prog 62 #[.string s] w fun e w' => e = .returned (.bool true) ∧ w = w' := by
  go_enter Try.func62, Try.ntmps62
  go_wp2_with fail
  go_ret
  exact ⟨rfl, rfl⟩
theorem own_14 (s : ByteArray) (w : World) (f0 : (s.toList == [102, 117, 110]) = false) (f1 : (s.toList == [114, 101, 99]) = false) (f2 : (s.toList == [108, 101, 116]) = false) (f3 : (s.toList == [105, 110]) = false) (f4 : (s.toList == [105, 102]) = false) (f5 : (s.toList == [116, 104, 101, 110]) = false) (f6 : (s.toList == [101, 108, 115, 101]) = false) (f7 : (s.toList == [99, 97, 115, 101]) = false) (f8 : (s.toList == [111, 102]) = false) (f9 : (s.toList == [101, 110, 100]) = false) (f10 : (s.toList == [116, 114, 117, 101]) = false) (f11 : (s.toList == [102, 97, 108, 115, 101]) = false) (f12 : (s.toList == [100, 101, 102]) = false) (f13 : (s.toList == [73, 110, 116]) = false) (f14 : (s.toList == [66, 111, 111, 108]) = true) : Calls Try.prog 62 #[.string s] w fun e w' => e = .returned (.bool true) ∧ w = w' := by
  go_enter Try.func62, Try.ntmps62
  go_wp2_with fail
  go_ret
  exact ⟨rfl, rfl⟩
theorem own_15 (s : ByteArray) (w : World) (f0 : (s.toList == [102, 117, 110]) = false) (f1 : (s.toList == [114, 101, 99]) = false) (f2 : (s.toList == [108, 101, 116]) = false) (f3 : (s.toList == [105, 110]) = false) (f4 : (s.toList == [105, 102]) = false) (f5 : (s.toList == [116, 104, 101, 110]) = false) (f6 : (s.toList == [101, 108, 115, 101]) = false) (f7 : (s.toList == [99, 97, 115, 101]) = false) (f8 : (s.toList == [111, 102]) = false) (f9 : (s.toList == [101, 110, 100]) = false) (f10 : (s.toList == [116, 114, 117, 101]) = false) (f11 : (s.toList == [102, 97, 108, 115, 101]) = false) (f12 : (s.toList == [100, 101, 102]) = false) (f13 : (s.toList == [73, 110, 116]) = false) (f14 : (s.toList == [66, 111, 111, 108]) = false) : Calls Try.prog 62 #[.string s] w fun e w' => e = .returned (.bool false) ∧ w = w' := by
  go_enter Try.func62, Try.ntmps62
  go_wp2_with fail
  go_ret
  exact ⟨rfl, rfl⟩
theorem toList_bytes (l : List UInt8) : (ByteArray.mk l.toArray).toList = l := by rw [ByteArray.toList_eq]
theorem inB_cons (w : ByteArray) (ws : List ByteArray) (s : ByteArray) : inB (w :: ws) s = ((w.toList == s.toList) || inB ws s) := rfl
theorem own_any (s : ByteArray) (w : World) : Calls Try.prog 62 #[.string s] w fun e w' => e = .returned (.bool (ownB s)) ∧ w = w' := by
  unfold ownB ownWs
  rw [inB_cons, toList_bytes [102, 117, 110]]
  by_cases c0 : s.toList = [102, 117, 110]
  · rw [c0, beq_self_eq_true, Bool.true_or]
    exact own_0 s w  (by rw [c0]; rfl)
  rw [beq_eq_false_iff_ne.2 (Ne.symm c0), Bool.false_or]
  rw [inB_cons, toList_bytes [114, 101, 99]]
  by_cases c1 : s.toList = [114, 101, 99]
  · rw [c1, beq_self_eq_true, Bool.true_or]
    exact own_1 s w (beq_eq_false_iff_ne.2 c0) (by rw [c1]; rfl)
  rw [beq_eq_false_iff_ne.2 (Ne.symm c1), Bool.false_or]
  rw [inB_cons, toList_bytes [108, 101, 116]]
  by_cases c2 : s.toList = [108, 101, 116]
  · rw [c2, beq_self_eq_true, Bool.true_or]
    exact own_2 s w (beq_eq_false_iff_ne.2 c0) (beq_eq_false_iff_ne.2 c1) (by rw [c2]; rfl)
  rw [beq_eq_false_iff_ne.2 (Ne.symm c2), Bool.false_or]
  rw [inB_cons, toList_bytes [105, 110]]
  by_cases c3 : s.toList = [105, 110]
  · rw [c3, beq_self_eq_true, Bool.true_or]
    exact own_3 s w (beq_eq_false_iff_ne.2 c0) (beq_eq_false_iff_ne.2 c1) (beq_eq_false_iff_ne.2 c2) (by rw [c3]; rfl)
  rw [beq_eq_false_iff_ne.2 (Ne.symm c3), Bool.false_or]
  rw [inB_cons, toList_bytes [105, 102]]
  by_cases c4 : s.toList = [105, 102]
  · rw [c4, beq_self_eq_true, Bool.true_or]
    exact own_4 s w (beq_eq_false_iff_ne.2 c0) (beq_eq_false_iff_ne.2 c1) (beq_eq_false_iff_ne.2 c2) (beq_eq_false_iff_ne.2 c3) (by rw [c4]; rfl)
  rw [beq_eq_false_iff_ne.2 (Ne.symm c4), Bool.false_or]
  rw [inB_cons, toList_bytes [116, 104, 101, 110]]
  by_cases c5 : s.toList = [116, 104, 101, 110]
  · rw [c5, beq_self_eq_true, Bool.true_or]
    exact own_5 s w (beq_eq_false_iff_ne.2 c0) (beq_eq_false_iff_ne.2 c1) (beq_eq_false_iff_ne.2 c2) (beq_eq_false_iff_ne.2 c3) (beq_eq_false_iff_ne.2 c4) (by rw [c5]; rfl)
  rw [beq_eq_false_iff_ne.2 (Ne.symm c5), Bool.false_or]
  rw [inB_cons, toList_bytes [101, 108, 115, 101]]
  by_cases c6 : s.toList = [101, 108, 115, 101]
  · rw [c6, beq_self_eq_true, Bool.true_or]
    exact own_6 s w (beq_eq_false_iff_ne.2 c0) (beq_eq_false_iff_ne.2 c1) (beq_eq_false_iff_ne.2 c2) (beq_eq_false_iff_ne.2 c3) (beq_eq_false_iff_ne.2 c4) (beq_eq_false_iff_ne.2 c5) (by rw [c6]; rfl)
  rw [beq_eq_false_iff_ne.2 (Ne.symm c6), Bool.false_or]
  rw [inB_cons, toList_bytes [99, 97, 115, 101]]
  by_cases c7 : s.toList = [99, 97, 115, 101]
  · rw [c7, beq_self_eq_true, Bool.true_or]
    exact own_7 s w (beq_eq_false_iff_ne.2 c0) (beq_eq_false_iff_ne.2 c1) (beq_eq_false_iff_ne.2 c2) (beq_eq_false_iff_ne.2 c3) (beq_eq_false_iff_ne.2 c4) (beq_eq_false_iff_ne.2 c5) (beq_eq_false_iff_ne.2 c6) (by rw [c7]; rfl)
  rw [beq_eq_false_iff_ne.2 (Ne.symm c7), Bool.false_or]
  rw [inB_cons, toList_bytes [111, 102]]
  by_cases c8 : s.toList = [111, 102]
  · rw [c8, beq_self_eq_true, Bool.true_or]
    exact own_8 s w (beq_eq_false_iff_ne.2 c0) (beq_eq_false_iff_ne.2 c1) (beq_eq_false_iff_ne.2 c2) (beq_eq_false_iff_ne.2 c3) (beq_eq_false_iff_ne.2 c4) (beq_eq_false_iff_ne.2 c5) (beq_eq_false_iff_ne.2 c6) (beq_eq_false_iff_ne.2 c7) (by rw [c8]; rfl)
  rw [beq_eq_false_iff_ne.2 (Ne.symm c8), Bool.false_or]
  rw [inB_cons, toList_bytes [101, 110, 100]]
  by_cases c9 : s.toList = [101, 110, 100]
  · rw [c9, beq_self_eq_true, Bool.true_or]
    exact own_9 s w (beq_eq_false_iff_ne.2 c0) (beq_eq_false_iff_ne.2 c1) (beq_eq_false_iff_ne.2 c2) (beq_eq_false_iff_ne.2 c3) (beq_eq_false_iff_ne.2 c4) (beq_eq_false_iff_ne.2 c5) (beq_eq_false_iff_ne.2 c6) (beq_eq_false_iff_ne.2 c7) (beq_eq_false_iff_ne.2 c8) (by rw [c9]; rfl)
  rw [beq_eq_false_iff_ne.2 (Ne.symm c9), Bool.false_or]
  rw [inB_cons, toList_bytes [116, 114, 117, 101]]
  by_cases c10 : s.toList = [116, 114, 117, 101]
  · rw [c10, beq_self_eq_true, Bool.true_or]
    exact own_10 s w (beq_eq_false_iff_ne.2 c0) (beq_eq_false_iff_ne.2 c1) (beq_eq_false_iff_ne.2 c2) (beq_eq_false_iff_ne.2 c3) (beq_eq_false_iff_ne.2 c4) (beq_eq_false_iff_ne.2 c5) (beq_eq_false_iff_ne.2 c6) (beq_eq_false_iff_ne.2 c7) (beq_eq_false_iff_ne.2 c8) (beq_eq_false_iff_ne.2 c9) (by rw [c10]; rfl)
  rw [beq_eq_false_iff_ne.2 (Ne.symm c10), Bool.false_or]
  rw [inB_cons, toList_bytes [102, 97, 108, 115, 101]]
  by_cases c11 : s.toList = [102, 97, 108, 115, 101]
  · rw [c11, beq_self_eq_true, Bool.true_or]
    exact own_11 s w (beq_eq_false_iff_ne.2 c0) (beq_eq_false_iff_ne.2 c1) (beq_eq_false_iff_ne.2 c2) (beq_eq_false_iff_ne.2 c3) (beq_eq_false_iff_ne.2 c4) (beq_eq_false_iff_ne.2 c5) (beq_eq_false_iff_ne.2 c6) (beq_eq_false_iff_ne.2 c7) (beq_eq_false_iff_ne.2 c8) (beq_eq_false_iff_ne.2 c9) (beq_eq_false_iff_ne.2 c10) (by rw [c11]; rfl)
  rw [beq_eq_false_iff_ne.2 (Ne.symm c11), Bool.false_or]
  rw [inB_cons, toList_bytes [100, 101, 102]]
  by_cases c12 : s.toList = [100, 101, 102]
  · rw [c12, beq_self_eq_true, Bool.true_or]
    exact own_12 s w (beq_eq_false_iff_ne.2 c0) (beq_eq_false_iff_ne.2 c1) (beq_eq_false_iff_ne.2 c2) (beq_eq_false_iff_ne.2 c3) (beq_eq_false_iff_ne.2 c4) (beq_eq_false_iff_ne.2 c5) (beq_eq_false_iff_ne.2 c6) (beq_eq_false_iff_ne.2 c7) (beq_eq_false_iff_ne.2 c8) (beq_eq_false_iff_ne.2 c9) (beq_eq_false_iff_ne.2 c10) (beq_eq_false_iff_ne.2 c11) (by rw [c12]; rfl)
  rw [beq_eq_false_iff_ne.2 (Ne.symm c12), Bool.false_or]
  rw [inB_cons, toList_bytes [73, 110, 116]]
  by_cases c13 : s.toList = [73, 110, 116]
  · rw [c13, beq_self_eq_true, Bool.true_or]
    exact own_13 s w (beq_eq_false_iff_ne.2 c0) (beq_eq_false_iff_ne.2 c1) (beq_eq_false_iff_ne.2 c2) (beq_eq_false_iff_ne.2 c3) (beq_eq_false_iff_ne.2 c4) (beq_eq_false_iff_ne.2 c5) (beq_eq_false_iff_ne.2 c6) (beq_eq_false_iff_ne.2 c7) (beq_eq_false_iff_ne.2 c8) (beq_eq_false_iff_ne.2 c9) (beq_eq_false_iff_ne.2 c10) (beq_eq_false_iff_ne.2 c11) (beq_eq_false_iff_ne.2 c12) (by rw [c13]; rfl)
  rw [beq_eq_false_iff_ne.2 (Ne.symm c13), Bool.false_or]
  rw [inB_cons, toList_bytes [66, 111, 111, 108]]
  by_cases c14 : s.toList = [66, 111, 111, 108]
  · rw [c14, beq_self_eq_true, Bool.true_or]
    exact own_14 s w (beq_eq_false_iff_ne.2 c0) (beq_eq_false_iff_ne.2 c1) (beq_eq_false_iff_ne.2 c2) (beq_eq_false_iff_ne.2 c3) (beq_eq_false_iff_ne.2 c4) (beq_eq_false_iff_ne.2 c5) (beq_eq_false_iff_ne.2 c6) (beq_eq_false_iff_ne.2 c7) (beq_eq_false_iff_ne.2 c8) (beq_eq_false_iff_ne.2 c9) (beq_eq_false_iff_ne.2 c10) (beq_eq_false_iff_ne.2 c11) (beq_eq_false_iff_ne.2 c12) (beq_eq_false_iff_ne.2 c13) (by rw [c14]; rfl)
  rw [beq_eq_false_iff_ne.2 (Ne.symm c14), Bool.false_or]
  exact own_15 s w (beq_eq_false_iff_ne.2 c0) (beq_eq_false_iff_ne.2 c1) (beq_eq_false_iff_ne.2 c2) (beq_eq_false_iff_ne.2 c3) (beq_eq_false_iff_ne.2 c4) (beq_eq_false_iff_ne.2 c5) (beq_eq_false_iff_ne.2 c6) (beq_eq_false_iff_ne.2 c7) (beq_eq_false_iff_ne.2 c8) (beq_eq_false_iff_ne.2 c9) (beq_eq_false_iff_ne.2 c10) (beq_eq_false_iff_ne.2 c11) (beq_eq_false_iff_ne.2 c12) (beq_eq_false_iff_ne.2 c13) (beq_eq_false_iff_ne.2 c14)
end Go.Proofs.Ytegekajbnecdfaa

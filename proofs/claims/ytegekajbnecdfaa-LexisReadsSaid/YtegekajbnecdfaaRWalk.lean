/- Layer 1: the walks of the code (package runes). -/
import Derived.Test.YtegekajbnecdfaaChecked
import Derived.Test.YtegekajbnecdfaaRLaw
import Derived.WalkKit
import Derived.Lib.Hide
import Derived.Deep.QuietTactic
import Derived.BigQuiet
namespace Go.Proofs.Ytegekajbnecdfaa
open Go.RowKit
theorem length_any (c : Int) (w : World) (h : 0 ≤ c) (h' : c ≤ 255) :
    Calls Try.prog 66 #[.int .u8 c] w fun e w' => e = .returned (.int .i64 (lenZ c)) ∧ w = w' := by
  by_cases c1 : c < 128
  · have f : (c / 128 == 0) = true := by simp; omega
    have e : lenZ c = 1 := by unfold lenZ; rw [if_pos c1]
    rw [e]
    go_enter Try.func66, Try.ntmps66
    go_wp2_with fail
    go_ret
    exact ⟨rfl, rfl⟩
  have f : (c / 128 == 0) = false := by simp; omega
  by_cases c2 : 192 ≤ c ∧ c < 224
  · have g : (c / 32 == 6) = true := by simp; omega
    have e : lenZ c = 2 := by unfold lenZ; rw [if_neg c1, if_pos c2]
    rw [e]
    clear c1 c2 e
    go_enter Try.func66, Try.ntmps66
    go_wp2_with fail
    go_ret
    exact ⟨rfl, rfl⟩
  have g : (c / 32 == 6) = false := by simp; omega
  by_cases c3 : 224 ≤ c ∧ c < 240
  · have i : (c / 16 == 14) = true := by simp; omega
    have e : lenZ c = 3 := by unfold lenZ; rw [if_neg c1, if_neg c2, if_pos c3]
    rw [e]
    clear c1 c2 c3 e
    go_enter Try.func66, Try.ntmps66
    go_wp2_with fail
    go_ret
    exact ⟨rfl, rfl⟩
  have i : (c / 16 == 14) = false := by simp; omega
  by_cases c4 : 240 ≤ c ∧ c < 248
  · have j : (c / 8 == 30) = true := by simp; omega
    have e : lenZ c = 4 := by unfold lenZ; rw [if_neg c1, if_neg c2, if_neg c3, if_pos c4]
    rw [e]
    clear c1 c2 c3 c4 e
    go_enter Try.func66, Try.ntmps66
    go_wp2_with fail
    go_ret
    exact ⟨rfl, rfl⟩
  have j : (c / 8 == 30) = false := by simp; omega
  have e : lenZ c = 0 := by unfold lenZ; rw [if_neg c1, if_neg c2, if_neg c3, if_neg c4]
  rw [e]
  clear c1 c2 c3 c4 e
  go_enter Try.func66, Try.ntmps66
  go_wp2_with fail
  go_ret
  exact ⟨rfl, rfl⟩
theorem is_any (r : Int) (w : World) : Calls Try.prog 53 #[.int .i32 r] w fun e w' => e = .returned (.bool (isB r)) ∧ w = w' := by
  cases hb : isB r
  · have H : ¬ (0 ≤ r ∧ r ≤ 1114111 ∧ (r < 55296 ∨ 57343 < r)) := by rw [← isB_iff, hb]; decide
    clear hb
    by_cases h0 : r < 0
    · go_enter Try.func53, Try.ntmps53
      go_wp2_with fail
      go_ret
      exact ⟨rfl, rfl⟩
    · by_cases h1 : 1114111 < r
      · clear H
        go_enter Try.func53, Try.ntmps53
        go_wp2_with fail
        go_ret
        exact ⟨rfl, rfl⟩
      · have h2 : 55296 ≤ r := by omega
        have h3 : r ≤ 57343 := by omega
        clear H
        go_enter Try.func53, Try.ntmps53
        go_wp2_with fail
        go_ret
        exact ⟨retBool (by simp <;> omega), rfl⟩
  · rw [isB_iff] at hb
    obtain ⟨h0, h1, h2⟩ := hb
    by_cases h3 : r < 55296
    · clear h2
      go_enter Try.func53, Try.ntmps53
      go_wp2_with fail
      go_ret
      exact ⟨rfl, rfl⟩
    · have h4 : 57343 < r := by omega
      clear h2
      go_enter Try.func53, Try.ntmps53
      go_wp2_with fail
      go_ret
      exact ⟨retBool (by simp <;> omega), rfl⟩
theorem size_any (r : Int) (w : World) : Calls Try.prog 55 #[.int .i32 r] w fun e w' => e = .returned (.int .i64 (sizeZ r)) ∧ w = w' := by
  unfold sizeZ
  by_cases a : r < 128
  · rw [if_pos a]
    go_enter Try.func55, Try.ntmps55
    go_wp2_with fail
    go_ret
    exact ⟨rfl, rfl⟩
  rw [if_neg a]
  by_cases b : r < 2048
  · rw [if_pos b]
    go_enter Try.func55, Try.ntmps55
    go_wp2_with fail
    go_ret
    exact ⟨rfl, rfl⟩
  rw [if_neg b]
  by_cases c : r < 65536
  · rw [if_pos c]
    go_enter Try.func55, Try.ntmps55
    go_wp2_with fail
    go_ret
    exact ⟨rfl, rfl⟩
  rw [if_neg c]
  go_enter Try.func55, Try.ntmps55
  go_wp2_with fail
  go_ret
  exact ⟨rfl, rfl⟩
end Go.Proofs.Ytegekajbnecdfaa

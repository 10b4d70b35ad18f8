/- Layer 2: the walks of words. -/
import Derived.Test.YtegekajbnecdfaaLWalk1
namespace Go.Proofs.Ytegekajbnecdfaa
open Go.RowKit
theorem nums_pos (s : ByteArray) : decide (0 < (numsOf s).length) = !(s.toList.isEmpty) := by
  rw [nums_len, ByteArray.toList_eq]
  have : s.size = s.data.toList.length := by rw [Array.length_toList]; rfl
  rw [this]
  cases s.data.toList <;> simp
set_option maxHeartbeats 1000000 in
theorem wordly_any (s : ByteArray) (w : World) (hm : s.size ≤ maxLen) : Calls Try.prog 61 #[.string s] w fun e w' => e = .returned (.bool (wordlyB (numsOf s))) ∧ w = w' := by
  unfold maxLen at hm
  go_enter Try.func61, Try.ntmps61
  go_wp2_with fail
  go_loop [7] (fun i => ∃ k : Nat, k ≤ s.size ∧ i = .int .i64 k ∧ ∀ i, i < k → okAt (numsOf s) i = true) (fun i => s.size - (intOf i).toNat)
  case atStart => exact ⟨0, Nat.zero_le _, rfl, fun i h => by omega⟩
  case round =>
    obtain ⟨k, hk, rfl, hE⟩ := hrel
    have HE := Lib.hid hE
    clear hE
    by_cases hlt : k < s.size
    · have hgb := nums_gb s k hlt
      have hno : okAt (numsOf s) k = false → wordlyB (numsOf s) = false := wordly_no (by rw [nums_len]; exact hlt)
      have hok : okAt (numsOf s) k = (smallB (s[k].toNat : Int) || (decide (0 < k) && (digitB (s[k].toNat : Int) || (s[k].toNat : Int) == 95))) := by unfold okAt; rw [← hgb]
      have HNO := Lib.hid hno
      have HOK := Lib.hid hok
      clear hno hok hgb
      cases hs : smallB (s[k].toNat : Int)
      · rw [hs] at HOK
        by_cases h0 : k = 0
        · subst h0
          have hf := Lib.hid (HNO.out (by rw [HOK.out]; rfl))
          clear HOK HNO
          go_wp2_with fail
          refine (small_any _ _).mono ?_
          rintro e w' ⟨rfl, rfl⟩
          go_wp2_with fail
          go_ret
          exact ⟨retBool hf.out.symm, rfl⟩
        · have hz : ((k : Int) == 0) = false := by rw [beq_eq_false_iff_ne]; omega
          have hp : decide (0 < k) = true := by rw [decide_eq_true_eq]; omega
          cases hd : digitB (s[k].toNat : Int)
          · rw [hd, hp] at HOK
            cases hu : ((s[k].toNat : Int) == 95)
            · rw [hu] at HOK
              have hf := Lib.hid (HNO.out (by rw [HOK.out]; rfl))
              have hu2 : ((s[k].toNat : Int) != 95) = true := by rw [bne, hu]; rfl
              clear HOK HNO hp
              go_wp2_with fail
              refine (small_any _ _).mono ?_
              rintro e w' ⟨rfl, rfl⟩
              go_wp2_with fail
              refine (digit_any _ _).mono ?_
              rintro e w' ⟨rfl, rfl⟩
              go_wp2_with fail
              go_ret
              exact ⟨retBool hf.out.symm, rfl⟩
            · rw [hu] at HOK
              have hf := Lib.hid (ok_snoc HE.out (by rw [HOK.out]; rfl))
              have hu2 : ((s[k].toNat : Int) != 95) = false := by rw [bne, hu]; rfl
              clear HOK HNO hp
              go_wp2_with fail
              refine (small_any _ _).mono ?_
              rintro e w' ⟨rfl, rfl⟩
              go_wp2_with fail
              refine (digit_any _ _).mono ?_
              rintro e w' ⟨rfl, rfl⟩
              go_wp2_with fail
              go_round
              case rel => exact ⟨k + 1, by omega, by go_num, hf.out⟩
              case measure => simp [intOf]; omega
          · rw [hd, hp] at HOK
            have hf := Lib.hid (ok_snoc HE.out (by rw [HOK.out]; rfl))
            clear HOK HNO hp
            go_wp2_with fail
            refine (small_any _ _).mono ?_
            rintro e w' ⟨rfl, rfl⟩
            go_wp2_with fail
            refine (digit_any _ _).mono ?_
            rintro e w' ⟨rfl, rfl⟩
            go_wp2_with fail
            go_round
            case rel => exact ⟨k + 1, by omega, by go_num, hf.out⟩
            case measure => simp [intOf]; omega
      · rw [hs] at HOK
        have hf := Lib.hid (ok_snoc HE.out (by rw [HOK.out]; rfl))
        clear HOK HNO
        go_wp2_with fail
        refine (small_any _ _).mono ?_
        rintro e w' ⟨rfl, rfl⟩
        go_wp2_with fail
        go_round
        case rel => exact ⟨k + 1, by omega, by go_num, hf.out⟩
        case measure => simp [intOf]; omega
    · have hf := Lib.hid ((wordly_end (l := numsOf s) (fun i hi => HE.out i (by rw [nums_len] at hi; omega))).trans (nums_pos s))
      go_wp2_with fail
      go_ret
      exact ⟨retBool hf.out.symm, rfl⟩
end Go.Proofs.Ytegekajbnecdfaa

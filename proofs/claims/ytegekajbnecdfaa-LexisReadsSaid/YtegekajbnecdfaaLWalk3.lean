/- Layer 2: the walks of IsWord, and of the reference's words. -/
import Derived.Test.YtegekajbnecdfaaLWalk2
namespace Go.Proofs.Ytegekajbnecdfaa
open Go.RowKit
def isWordB (s : ByteArray) : Bool := decide (s.size ≤ 32) && (wordlyB (numsOf s) && !ownB s)
theorem IsWord_any (s : ByteArray) (w : World) (hm : s.size ≤ maxLen) : Calls Try.prog 38 #[.string s] w fun e w' => e = .returned (.bool (isWordB s)) ∧ w = w' := by
  have C1 := fun w => Lib.hid (wordly_any s w hm)
  have C2 := fun w => Lib.hid (own_any s w)
  unfold isWordB
  unfold maxLen at hm
  by_cases h : s.size ≤ 32
  · have h' : (s.size : Int) ≤ 32 := by omega
    rw [decide_eq_true h, Bool.true_and]
    cases hw : wordlyB (numsOf s)
    · rw [hw] at C1
      clear hw
      go_enter Try.func38, Try.ntmps38
      go_wp2_with fail
      refine (C1 _).out.mono ?_
      rintro e w' ⟨rfl, rfl⟩
      go_wp2_with fail
      go_ret
      exact ⟨rfl, rfl⟩
    · rw [hw] at C1
      clear hw
      cases ho : ownB s
      · rw [ho] at C2
        clear ho
        go_enter Try.func38, Try.ntmps38
        go_wp2_with fail
        refine (C1 _).out.mono ?_
        rintro e w' ⟨rfl, rfl⟩
        go_wp2_with fail
        refine (C2 _).out.mono ?_
        rintro e w' ⟨rfl, rfl⟩
        go_wp2_with fail
        go_ret
        exact ⟨rfl, rfl⟩
      · rw [ho] at C2
        clear ho
        go_enter Try.func38, Try.ntmps38
        go_wp2_with fail
        refine (C1 _).out.mono ?_
        rintro e w' ⟨rfl, rfl⟩
        go_wp2_with fail
        refine (C2 _).out.mono ?_
        rintro e w' ⟨rfl, rfl⟩
        go_wp2_with fail
        go_ret
        exact ⟨rfl, rfl⟩
  · have h' : ¬ (s.size : Int) ≤ 32 := by omega
    rw [decide_eq_false h, Bool.false_and]
    go_enter Try.func38, Try.ntmps38
    go_wp2_with fail
    go_ret
    exact ⟨retBool (by simp <;> omega), rfl⟩
set_option maxHeartbeats 1000000 in
theorem Wordly_any (s : ByteArray) (w : World) (hm : s.size ≤ maxLen) : Calls Try.prog 63 #[.string s] w fun e w' => e = .returned (.bool (wordlyB (numsOf s))) ∧ w = w' := by
  unfold maxLen at hm
  go_enter Try.func63, Try.ntmps63
  go_wp2_with fail
  go_loop [3] (fun i => ∃ k : Nat, k ≤ s.size ∧ i = .int .i64 k ∧ ∀ i, i < k → okAt (numsOf s) i = true) (fun i => s.size - (intOf i).toNat)
  case atStart => exact ⟨0, Nat.zero_le _, rfl, fun i h => by omega⟩
  case round =>
    obtain ⟨k, hk, rfl, hE⟩ := hrel
    have HE := Lib.hid hE
    clear hE
    by_cases hlt : k < s.size
    · have hgb := nums_gb s k hlt
      have hno : okAt (numsOf s) k = false → wordlyB (numsOf s) = false := wordly_no (by rw [nums_len]; exact hlt)
      have hok : okAt (numsOf s) k = (smallB (s[k].toNat : Int) || (decide (0 < k) && (digitB (s[k].toNat : Int) || (s[k].toNat : Int) == 95))) := by unfold okAt; rw [← hgb]
      have hoth := kind_other (s[k].toNat : Int)
      have hsm := kind_small (s[k].toNat : Int)
      have C := fun w => Lib.hid (kind_any (s[k].toNat : Int) w)
      clear hgb
      have HNO := Lib.hid hno
      have HOK := Lib.hid hok
      have HOTH := Lib.hid hoth
      have HSM := Lib.hid hsm
      clear hno hok hoth hsm
      obtain ⟨z, hz⟩ : ∃ z, z = kindZ (s[k].toNat : Int) := ⟨_, rfl⟩
      rw [← hz] at HOTH HSM
      have C' : ∀ w, Hid (Calls Try.prog 59 #[.int .u8 (s[k].toNat : Int)] w fun e w' => e = .returned (.int .i64 z) ∧ w = w') := fun w => by rw [hz]; exact C w
      clear hz C
      by_cases h1 : z = 0 ∨ z = 2
      · have hf : wordlyB (numsOf s) = false := HNO.out (by
          have := HOTH.out.1 h1
          rw [HOK.out]
          cases a : smallB (s[k].toNat : Int)
          · cases b : digitB (s[k].toNat : Int)
            · have c : ((s[k].toNat : Int) == 95) = false := beq_eq_false_iff_ne.2 (fun h => this (.inr (.inr h)))
              rw [c]; simp
            · exact absurd (.inr (.inl b)) this
          · exact absurd (.inl a) this)
        have HF := Lib.hid hf
        clear hf HNO HOK HOTH HSM
        rcases h1 with h1 | h1
        · subst h1
          go_wp2_with fail
          refine (C' _).out.mono ?_
          rintro e w' ⟨rfl, rfl⟩
          go_wp2_with fail
          go_ret
          exact ⟨retBool HF.out.symm, rfl⟩
        · subst h1
          go_wp2_with fail
          refine (C' _).out.mono ?_
          rintro e w' ⟨rfl, rfl⟩
          go_wp2_with fail
          go_ret
          exact ⟨retBool HF.out.symm, rfl⟩
      · have z0 : (z == 0) = false := beq_eq_false_iff_ne.2 (fun h => h1 (.inl h))
        have z2 : (z == 2) = false := beq_eq_false_iff_ne.2 (fun h => h1 (.inr h))
        have hor : smallB (s[k].toNat : Int) = true ∨ digitB (s[k].toNat : Int) = true ∨ (s[k].toNat : Int) = 95 := by
          apply Decidable.byContradiction
          intro hn
          exact h1 (HOTH.out.2 hn)
        by_cases h0 : k = 0
        · subst h0
          by_cases hz1 : z = 1
          · have hs := HSM.out.1 hz1
            have hf := Lib.hid (ok_snoc HE.out (by rw [HOK.out, hs]; rfl))
            subst hz1
            clear HNO HOK HOTH HSM hor hs h1
            go_wp2_with fail
            refine (C' _).out.mono ?_
            rintro e w' ⟨rfl, rfl⟩
            go_wp2_with fail
            go_round
            case rel => exact ⟨1, by omega, by go_num, hf.out⟩
            case measure => simp [intOf]; omega
          · have hs : smallB (s[0].toNat : Int) = false := by
              cases a : smallB (s[0].toNat : Int)
              · rfl
              · exact absurd (HSM.out.2 a) hz1
            have hf := Lib.hid (HNO.out (by rw [HOK.out, hs]; rfl))
            have z1 : (z != 1) = true := bne_iff_ne.2 hz1
            clear HNO HOK HOTH HSM hor hs h1 hz1
            go_wp2_with fail
            refine (C' _).out.mono ?_
            rintro e w' ⟨rfl, rfl⟩
            go_wp2_with fail
            go_ret
            exact ⟨retBool hf.out.symm, rfl⟩
        · have hkz : ((k : Int) == 0) = false := by rw [beq_eq_false_iff_ne]; omega
          have hf : ∀ i, i < k + 1 → okAt (numsOf s) i = true := ok_snoc HE.out (by
            rw [HOK.out, decide_eq_true (show 0 < k by omega)]
            rcases hor with h | h | h
            · rw [h]; rfl
            · rw [h]; simp
            · rw [h]; simp)
          have HF := Lib.hid hf
          clear hf HNO HOK HOTH HSM hor h1
          go_wp2_with fail
          refine (C' _).out.mono ?_
          rintro e w' ⟨rfl, rfl⟩
          go_wp2_with fail
          go_round
          case rel => exact ⟨k + 1, by omega, by go_num, HF.out⟩
          case measure => simp [intOf]; omega
    · have hf : wordlyB (numsOf s) = decide (0 < s.size) := (wordly_end (l := numsOf s) (fun i hi => HE.out i (by rw [nums_len] at hi; omega))).trans (by rw [nums_len])
      have HF := Lib.hid hf
      clear hf
      go_wp2_with fail
      go_ret
      exact ⟨retBool (by rw [HF.out]), rfl⟩
end Go.Proofs.Ytegekajbnecdfaa

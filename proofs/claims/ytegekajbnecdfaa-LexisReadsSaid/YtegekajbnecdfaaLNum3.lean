/- Layer 2: the walk of the reference's number. Written by wip/gen/gen_lnum3.py. -/
import Derived.Test.YtegekajbnecdfaaLNum2
import Derived.WalkLawsBesides
namespace Go.Proofs.Ytegekajbnecdfaa
open Go.RowKit
/-- What the reference's number tells. -/
def refNumTold (l : List Int) : Value := .tuple #[.int .i64 (numS l).1, .int .i64 (numS l).2]
theorem refNumTold_of {l : List Int} {n c : Int} (h : numS l = (n, c)) : refNumTold l = .tuple #[.int .i64 n, .int .i64 c] := by unfold refNumTold; rw [h]
theorem wrap_twice {x m : Int} (h : x - 48 = m) (h0 : 0 ≤ m) (h1 : m ≤ 9223372036854775807) : wrap64 (wrap64 x - 48) = m := by unfold wrap64; omega
theorem kind_no {c : Int} (h : digitB c = false) : (kindZ c != 3) = true := by
  rw [bne_iff_ne]; intro hh; rw [(kind_digit c).1 hh] at h; cases h
theorem kind_yes {c : Int} (h : digitB c = true) : kindZ c = 3 := (kind_digit c).2 h
set_option maxRecDepth 100000 in
set_option maxHeartbeats 4000000 in
theorem refNumber_any (s : ByteArray) (w : World) (h1 : 1 ≤ s.size) (hm : s.size ≤ maxLen) : Calls Try.prog 72 #[.string s] w fun e w' => e = .returned (refNumTold (numsOf s)) ∧ w = w' := by
  unfold maxLen at hm
  have g0 := nums_gb s 0 h1
  by_cases hz : (s[0].toNat : Int) = 48 ∧ 1 < s.size
  · have hv := Lib.hid (refNumTold_of (numS_zero (l := numsOf s) (by rw [← g0]; exact hz.1) (by rw [nums_len]; exact hz.2)))
    have z1 : ((s[0].toNat : Int) == 48) = true := by rw [beq_iff_eq]; exact hz.1
    have z2 : (1 : Int) < (s.size : Int) := by omega
    have z3 : kindZ (s[0].toNat : Int) = 3 := by rw [hz.1]; decide
    have z4 : (0 : Int) < (s.size : Int) := by omega
    clear hz g0
    go_enter Try.func72, Try.ntmps72
    go_wp2_with fail
    refine wp_loop_rounds 1 ?_
    rw [rounds_succ]
    go_wp2_with fail
    refine (kind_any _ _).mono ?_
    rintro e w' ⟨rfl, rfl⟩
    go_wp2_with fail
    go_ret2
    exact ⟨by rw [hv.out]; rfl, rfl⟩
  have HZ : Hid (¬ (gb (numsOf s) 0 = 48 ∧ 1 < (numsOf s).length)) := by
    show ¬ _
    rw [← g0, nums_len]; exact hz
  have ztest : (((s[0].toNat : Int) == 48) && decide ((1 : Int) < (s.size : Int))) = false := by
    cases a : ((s[0].toNat : Int) == 48)
    · rfl
    · rw [beq_iff_eq] at a
      have : ¬ (1 : Int) < (s.size : Int) := fun h => hz ⟨a, by omega⟩
      rw [decide_eq_false this]; rfl
  clear hz g0
  have hgo : ∀ (P : Prop), (((s[0].toNat : Int) == 48) = false → P) → (((s[0].toNat : Int) == 48) = true → ¬ (1 : Int) < (s.size : Int) → P) → P := fun P p1 p2 => by
    cases a : ((s[0].toNat : Int) == 48)
    · exact p1 a
    · rw [a, Bool.true_and, decide_eq_false_iff_not] at ztest
      exact p2 a ztest
  clear ztest
  apply hgo
  all_goals
    intros
    clear hgo
    go_enter Try.func72, Try.ntmps72
    go_wp2_with fail
    go_loop [4] (fun i => ∃ k : Nat, k ≤ s.size ∧ i = .int .i64 k ∧ ∀ i, i < k → digitB (gb (numsOf s) i) = true) (fun i => s.size - (intOf i).toNat)
    case atStart => exact ⟨0, Nat.zero_le _, rfl, fun i h => by omega⟩
    case round =>
      obtain ⟨k, hk, rfl, hE⟩ := hrel
      have HE := Lib.hid hE
      clear hE
      by_cases hlt : k < s.size
      · have hgb := nums_gb s k hlt
        cases hd : digitB (s[k].toNat : Int)
        · have hv := Lib.hid (refNumTold_of (numS_bad (l := numsOf s) (k := k) (by rw [nums_len]; exact hlt) (by rw [← hgb]; exact hd)))
          have hkn := kind_no hd
          clear hgb hd
          go_wp2_with fail
          refine (kind_any _ _).mono ?_
          rintro e w' ⟨rfl, rfl⟩
          go_wp2_with fail
          go_ret2
          exact ⟨by rw [hv.out]; rfl, rfl⟩
        · have hf : ∀ i, i < k + 1 → digitB (gb (numsOf s) i) = true := fun i hi => by
            by_cases e : i = k
            · rw [e, ← hgb]; exact hd
            · exact HE.out i (by omega)
          have HF := Lib.hid hf
          have hkn := kind_yes hd
          clear hf hgb hd
          go_wp2_with fail
          refine (kind_any _ _).mono ?_
          rintro e w' ⟨rfl, rfl⟩
          go_wp2_with fail
          go_round
          case rel => exact ⟨k + 1, by omega, by go_num, HF.out⟩
          case measure => simp [intOf]; omega
      · have hall := digits_of (l := numsOf s) (fun i hi => HE.out i (by rw [nums_len] at hi; omega))
        have HA := Lib.hid hall
        have hgt := great_iff_text s h1 HZ.out hall.2
        clear hall HE
        by_cases hbig : 9223372036854775807 < decV (numsOf s) 0
        · have hv := Lib.hid (refNumTold_of (numS_large HZ.out HA.out.1 hbig))
          have hor := hgt.2 hbig
          clear hgt hbig
          by_cases h20 : 19 < s.size
          · have h20' : (19 : Int) < (s.size : Int) := by omega
            clear hor
            go_wp2_with fail
            go_ret2
            exact ⟨by rw [hv.out]; rfl, rfl⟩
          · have ⟨h19, htx⟩ : s.size = 19 ∧ (!(Op.bytesLess s.toList limitU) && !(s.toList == limitU)) = true := by
              rcases hor with h | h
              · omega
              · exact h
            have t0 : ((s.size : Int) == 19) = true := by rw [h19]; rfl
            have t00 : (s.size == 19) = true := by rw [h19]; rfl
            have t1 : Op.bytesLess s.toList [57, 50, 50, 51, 51, 55, 50, 48, 51, 54, 56, 53, 52, 55, 55, 53, 56, 48, 55] = false := by
              rw [Bool.and_eq_true, Bool.not_eq_true', Bool.not_eq_true'] at htx; exact htx.1
            have t2 : (s.toList == [57, 50, 50, 51, 51, 55, 50, 48, 51, 54, 56, 53, 52, 55, 55, 53, 56, 48, 55]) = false := by
              rw [Bool.and_eq_true, Bool.not_eq_true', Bool.not_eq_true'] at htx; exact htx.2
            have h20' : ¬ (19 : Int) < (s.size : Int) := by omega
            clear hor htx h19
            go_wp2_with fail
            go_ret2
            exact ⟨by rw [hv.out]; rfl, rfl⟩
        · have hnot : ¬ (19 < s.size ∨ (s.size = 19 ∧ (!(Op.bytesLess s.toList limitU) && !(s.toList == limitU)) = true)) := fun h => hbig (hgt.1 h)
          have hle : decV (numsOf s) 0 ≤ 9223372036854775807 := by omega
          have HLE := Lib.hid hle
          have h20' : ¬ (19 : Int) < (s.size : Int) := by omega
          have hgo2 : ∀ (P : Prop), (((s.size : Int) == 19) = false → (s.size == 19) = false → P) → (((s.size : Int) == 19) = true → (s.size == 19) = true → (!(Op.bytesLess s.toList [57, 50, 50, 51, 51, 55, 50, 48, 51, 54, 56, 53, 52, 55, 55, 53, 56, 48, 55]) && !(s.toList == [57, 50, 50, 51, 51, 55, 50, 48, 51, 54, 56, 53, 52, 55, 55, 53, 56, 48, 55])) = false → P) → P := fun P p1 p2 => by
            by_cases h19 : s.size = 19
            · refine p2 (by rw [h19]; rfl) (by rw [h19]; rfl) ?_
              cases hc : (!(Op.bytesLess s.toList [57, 50, 50, 51, 51, 55, 50, 48, 51, 54, 56, 53, 52, 55, 55, 53, 56, 48, 55]) && !(s.toList == [57, 50, 50, 51, 51, 55, 50, 48, 51, 54, 56, 53, 52, 55, 55, 53, 56, 48, 55]))
              · rfl
              · exact absurd (.inr ⟨h19, hc⟩) hnot
            · exact p1 (by rw [beq_eq_false_iff_ne]; omega) (by rw [beq_eq_false_iff_ne]; exact h19)
          clear hgt hbig hnot hle
          apply hgo2
          all_goals
            intros
            clear hgo2
            go_wp2_with fail
            go_loop [6, 7] (fun x i => ∃ (k : Nat) (n : Int), k ≤ s.size ∧ 0 ≤ n ∧ n ≤ 9223372036854775807 ∧ x = .int .i64 n ∧ i = .int .i64 k ∧ n = decV ((numsOf s).take k) 0) (fun _ i => s.size - (intOf i).toNat)
            case atStart => exact ⟨0, 0, Nat.zero_le _, by omega, by omega, rfl, rfl, by simp [decV]⟩
            case round =>
              obtain ⟨k, n, hk, hn0, hn1, rfl, rfl, hn⟩ := hrel
              have HN := Lib.hid hn
              clear hn
              by_cases hlt : k < s.size
              · have hgb := nums_gb s k hlt
                have hdg := HA.out.2 _ (gb_mem (l := numsOf s) (i := k) (by rw [nums_len]; exact hlt))
                have hst := decV_step (l := numsOf s) (k := k) (by rw [nums_len]; exact hlt)
                rw [← hgb] at hdg hst
                rw [← HN.out] at hst
                have hmono := decV_take HA.out.2 (k + 1)
                have hb1 : 0 ≤ 10 * n + ((s[k].toNat : Int) - 48) ∧ 10 * n + ((s[k].toNat : Int) - 48) ≤ 9223372036854775807 := by have := HLE.out; omega
                have HST := Lib.hid hst
                clear hgb hst hmono
                by_cases hwr : 10 * n + (s[k].toNat : Int) ≤ 9223372036854775807
                · go_wp2_with fail
                  go_round
                  case rel => exact ⟨k + 1, 10 * n + ((s[k].toNat : Int) - 48), by omega, by omega, by omega, by go_num, by go_num, HST.out.symm⟩
                  case measure => simp [intOf]; omega
                · have hww := wrap_twice (x := 10 * n + (s[k].toNat : Int)) (m := 10 * n + ((s[k].toNat : Int) - 48)) (by omega) hb1.1 hb1.2
                  have HWW := Lib.hid hww
                  clear hww
                  go_wp2_with fail
                  go_round
                  case rel => exact ⟨k + 1, 10 * n + ((s[k].toNat : Int) - 48), by omega, by omega, by omega, by rw [HWW.out], by go_num, HST.out.symm⟩
                  case measure => simp [intOf]; omega
              · have he : n = decV (numsOf s) 0 := by
                  have := HN.out
                  rwa [List.take_of_length_le (by rw [nums_len]; omega)] at this
                have hv := Lib.hid (refNumTold_of (numS_ok HZ.out HA.out.1 (by have := HLE.out; omega)))
                have HE := Lib.hid he
                clear he
                go_wp2_with fail
                go_ret2
                exact ⟨by rw [hv.out, ← HE.out]; rfl, rfl⟩
end Go.Proofs.Ytegekajbnecdfaa

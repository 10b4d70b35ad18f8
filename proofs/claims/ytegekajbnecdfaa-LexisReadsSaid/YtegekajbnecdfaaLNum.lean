/- Layer 2: numbers: plain laws, and the walk of the code's number. -/
import Derived.Test.YtegekajbnecdfaaLWalk4
namespace Go.Proofs.Ytegekajbnecdfaa
open Go.RowKit
theorem numS_zero {l : List Int} (h : gb l 0 = 48) (h1 : 1 < l.length) : numS l = (0, 4) := by unfold numS; rw [if_pos (.inl ⟨h, h1⟩)]
theorem numS_bad {l : List Int} {k : Nat} (hk : k < l.length) (h : digitB (gb l k) = false) : numS l = (0, 4) := by
  unfold numS
  rw [if_pos (.inr (fun ha => by
    have := (List.all_eq_true.1 ha) _ (gb_mem hk)
    rw [h] at this; cases this))]
theorem digits_of {l : List Int} (h : ∀ i, i < l.length → digitB (gb l i) = true) : l.all digitB = true ∧ Digits l := by
  have hx : ∀ x ∈ l, digitB x = true := fun x hx => by
    obtain ⟨i, hi, rfl⟩ := List.getElem_of_mem hx
    have := h i hi
    unfold gb at this
    simpa [hi] using this
  exact ⟨List.all_eq_true.2 hx, fun x hm => (digit_iff x).1 (hx x hm)⟩
theorem numS_large {l : List Int} (h0 : ¬ (gb l 0 = 48 ∧ 1 < l.length)) (ha : l.all digitB = true) (h : 9223372036854775807 < decV l 0) : numS l = (0, 7) := by
  unfold numS; rw [if_neg (fun hh => by rcases hh with h1 | h1; exact h0 h1; exact h1 ha), if_pos h]
theorem numS_ok {l : List Int} (h0 : ¬ (gb l 0 = 48 ∧ 1 < l.length)) (ha : l.all digitB = true) (h : ¬ 9223372036854775807 < decV l 0) : numS l = (decV l 0, 0) := by
  unfold numS; rw [if_neg (fun hh => by rcases hh with h1 | h1; exact h0 h1; exact h1 ha), if_neg h]
theorem numS_bd (l : List Int) : 0 ≤ (numS l).2 ∧ (numS l).2 ≤ 7 := by
  unfold numS
  split
  · simp
  split <;> simp
/-- What number tells. -/
def numTold (l : List Int) : Value := .tuple #[.int .i64 (numS l).1, .bool (decide ((numS l).2 = 0)), .int .u8 (numS l).2]
theorem numTold_of {l : List Int} {n c : Int} (h : numS l = (n, c)) : numTold l = .tuple #[.int .i64 n, .bool (decide (c = 0)), .int .u8 c] := by unfold numTold; rw [h]
set_option maxRecDepth 100000 in
set_option maxHeartbeats 1000000 in
theorem number_any (s : ByteArray) (w : World) (h1 : 1 ≤ s.size) (hm : s.size ≤ maxLen) : Calls Try.prog 76 #[.string s] w fun e w' => e = .returned (numTold (numsOf s)) ∧ w = w' := by
  unfold maxLen at hm
  have g0 := nums_gb s 0 h1
  by_cases hz : (s[0].toNat : Int) = 48 ∧ 1 < s.size
  · have hv := Lib.hid (numTold_of (numS_zero (l := numsOf s) (by rw [← g0]; exact hz.1) (by rw [nums_len]; exact hz.2)))
    have z1 : ((s[0].toNat : Int) == 48) = true := by rw [beq_iff_eq]; exact hz.1
    have z2 : (1 : Int) < (s.size : Int) := by omega
    clear hz g0
    go_enter Try.func76, Try.ntmps76
    go_wp2_with fail
    go_ret3
    exact ⟨by rw [hv.out]; rfl, rfl⟩
  have HZ : Hid (¬ (gb (numsOf s) 0 = 48 ∧ 1 < (numsOf s).length)) := by
    show ¬ _
    rw [← g0, nums_len]; exact hz
  have ztest : (((s[0].toNat : Int) == 48) && decide ((1 : Int) < (s.size : Int))) = false := by
    cases a : ((s[0].toNat : Int) == 48)
    · rfl
    · rw [beq_iff_eq] at a
      have : ¬ (1 : Int) < (s.size : Int) := fun h => hz ⟨a, by omega⟩
      rw [decide_eq_false this]; rfl
  clear hz g0
  have hgo : ∀ (P : Prop), (((s[0].toNat : Int) == 48) = false → P) → (((s[0].toNat : Int) == 48) = true → ¬ (1 : Int) < (s.size : Int) → P) → P := fun P p1 p2 => by
    cases a : ((s[0].toNat : Int) == 48)
    · exact p1 a
    · rw [a, Bool.true_and, decide_eq_false_iff_not] at ztest
      exact p2 a ztest
  clear ztest
  apply hgo
  all_goals
    intros
    clear hgo
    go_enter Try.func76, Try.ntmps76
    go_wp2_with fail
    go_loop [18] (fun i => ∃ k : Nat, k ≤ s.size ∧ i = .int .i64 k ∧ ∀ i, i < k → digitB (gb (numsOf s) i) = true) (fun i => s.size - (intOf i).toNat)
    case atStart => exact ⟨0, Nat.zero_le _, rfl, fun i h => by omega⟩
    case round =>
      obtain ⟨k, hk, rfl, hE⟩ := hrel
      have HE := Lib.hid hE
      clear hE
      by_cases hlt : k < s.size
      · have hgb := nums_gb s k hlt
        cases hd : digitB (s[k].toNat : Int)
        · have hv := Lib.hid (numTold_of (numS_bad (l := numsOf s) (k := k) (by rw [nums_len]; exact hlt) (by rw [← hgb]; exact hd)))
          clear hgb
          go_wp2_with fail
          refine (digit_any _ _).mono ?_
          rintro e w' ⟨rfl, rfl⟩
          go_wp2_with fail
          go_ret3
          exact ⟨by rw [hv.out]; rfl, rfl⟩
        · have hf : ∀ i, i < k + 1 → digitB (gb (numsOf s) i) = true := fun i hi => by
            by_cases e : i = k
            · rw [e, ← hgb]; exact hd
            · exact HE.out i (by omega)
          have HF := Lib.hid hf
          clear hf hgb
          go_wp2_with fail
          refine (digit_any _ _).mono ?_
          rintro e w' ⟨rfl, rfl⟩
          go_wp2_with fail
          go_round
          case rel => exact ⟨k + 1, by omega, by go_num, HF.out⟩
          case measure => simp [intOf]; omega
      · have hall := digits_of (l := numsOf s) (fun i hi => HE.out i (by rw [nums_len] at hi; omega))
        have HA := Lib.hid hall
        clear hall HE
        go_wp2_with fail
        go_loop [5, 29] (fun x i => ∃ (k : Nat) (n : Int), k ≤ s.size ∧ 0 ≤ n ∧ n ≤ 9223372036854775807 ∧ x = .int .u64 n ∧ i = .int .i64 k ∧ n = decV ((numsOf s).take k) 0) (fun _ i => s.size - (intOf i).toNat)
        case atStart => exact ⟨0, 0, Nat.zero_le _, by omega, by omega, rfl, rfl, by simp [decV]⟩
        case round =>
          obtain ⟨k, n, hk, hn0, hn1, rfl, rfl, hn⟩ := hrel
          have HN := Lib.hid hn
          clear hn
          by_cases hlt : k < s.size
          · have hgb := nums_gb s k hlt
            have hdg := HA.out.2 _ (gb_mem (l := numsOf s) (i := k) (by rw [nums_len]; exact hlt))
            have hst := decV_step (l := numsOf s) (k := k) (by rw [nums_len]; exact hlt)
            rw [← hgb] at hdg hst
            rw [← HN.out] at hst
            have hmono := decV_take HA.out.2 (k + 1)
            have HST := Lib.hid hst
            have HM := Lib.hid hmono
            clear hgb hst hmono
            by_cases hov : (9223372036854775807 - ((s[k].toNat : Int) - 48)) / 10 < n
            · have hv := Lib.hid (numTold_of (numS_large HZ.out HA.out.1 (by have h1 := HST.out; have h2 := HM.out; omega)))
              go_wp2_with fail
              go_ret3
              exact ⟨by rw [hv.out]; rfl, rfl⟩
            · have hb1 : 0 ≤ 10 * n + ((s[k].toNat : Int) - 48) ∧ 10 * n + ((s[k].toNat : Int) - 48) ≤ 9223372036854775807 := by omega
              go_wp2_with fail
              go_round
              case rel => exact ⟨k + 1, 10 * n + ((s[k].toNat : Int) - 48), by omega, by omega, by omega, by go_num, by go_num, HST.out.symm⟩
              case measure => simp [intOf]; omega
          · have he : n = decV (numsOf s) 0 := by
              have := HN.out
              rwa [List.take_of_length_le (by rw [nums_len]; omega)] at this
            have hv := Lib.hid (numTold_of (numS_ok HZ.out HA.out.1 (by rw [← he]; omega)))
            have HE := Lib.hid he
            clear he
            go_wp2_with fail
            go_ret3
            exact ⟨by rw [hv.out, ← HE.out]; rfl, rfl⟩
end Go.Proofs.Ytegekajbnecdfaa

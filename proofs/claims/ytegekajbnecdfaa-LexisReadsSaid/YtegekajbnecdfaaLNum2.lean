/- Layer 2: the walk of the reference's number. -/
import Derived.Test.YtegekajbnecdfaaLNum
namespace Go.Proofs.Ytegekajbnecdfaa
open Go.RowKit
def limitU : List UInt8 := [57, 50, 50, 51, 51, 55, 50, 48, 51, 54, 56, 53, 52, 55, 55, 53, 56, 48, 55]
def limitZ : List Int := [57, 50, 50, 51, 51, 55, 50, 48, 51, 54, 56, 53, 52, 55, 55, 53, 56, 48, 55]
theorem less_bytes (a b : List UInt8) : Op.bytesLess a b = lessZ (a.map fun c => (c.toNat : Int)) (b.map fun c => (c.toNat : Int)) := by
  induction a generalizing b with
  | nil => cases b <;> rfl
  | cons x a ih =>
    cases b with
    | nil => rfl
    | cons y b =>
      simp only [Op.bytesLess, List.map_cons, lessZ]
      by_cases e : x = y
      · subst e
        simp [ih]
      · have e' : ¬ ((x.toNat : Int) = (y.toNat : Int)) := fun h => e (UInt8.toNat_inj.1 (by omega))
        rw [if_neg e']
        have e2 : (x == y) = false := beq_eq_false_iff_ne.2 e
        rw [e2]
        simp [UInt8.lt_iff_toNat_lt]
theorem less_tri {a b : List Int} (h : a.length = b.length) (h1 : lessZ a b = false) (h2 : lessZ b a = false) : a = b := by
  induction a generalizing b with
  | nil => cases b with | nil => rfl | cons _ _ => simp at h
  | cons x a ih =>
    cases b with
    | nil => simp at h
    | cons y b =>
      simp only [lessZ] at h1 h2
      by_cases e : x = y
      · rw [if_pos e] at h1
        rw [if_pos e.symm] at h2
        rw [e, ih (by simpa using h) h1 h2]
      · rw [if_neg e, decide_eq_false_iff_not] at h1
        rw [if_neg (Ne.symm e), decide_eq_false_iff_not] at h2
        omega
theorem limit_ok : Digits limitZ ∧ decV limitZ 0 = 9223372036854775807 ∧ limitZ.length = 19 := by
  refine ⟨?_, by decide, rfl⟩
  intro x hx
  simp [limitZ] at hx
  omega
theorem ten_mono {m n : Nat} (h : m ≤ n) : ten m ≤ ten n := by
  induction n with
  | zero => rw [Nat.le_zero.1 h]; omega
  | succ n ih =>
    by_cases e : m = n + 1
    · rw [e]; omega
    · have := ih (by omega)
      have := ten_pos n
      simp only [ten]; omega
/-- Too great, as the reference finds it. -/
theorem great_iff_text (s : ByteArray) (h1 : 1 ≤ s.size) (h0 : ¬ (gb (numsOf s) 0 = 48 ∧ 1 < (numsOf s).length)) (hd : Digits (numsOf s)) :
    (19 < s.size ∨ (s.size = 19 ∧ (!(Op.bytesLess s.toList limitU) && !(s.toList == limitU)) = true)) ↔ 9223372036854775807 < decV (numsOf s) 0 := by
  have hl := nums_len s
  have hlt := decV_lt hd
  have he : numsOf s = s.toList.map fun c => (c.toNat : Int) := by rw [ByteArray.toList_eq]; rfl
  have hlim : limitU.map (fun c => (c.toNat : Int)) = limitZ := by decide
  have e19 : ten 19 = 10000000000000000000 := by simp [ten]
  have e18 : ten 18 = 1000000000000000000 := by simp [ten]
  by_cases h : s.size < 19
  · constructor
    · intro hh; omega
    · intro hh
      have := ten_mono (show (numsOf s).length ≤ 18 by omega)
      omega
  · by_cases h' : s.size = 19
    · have hless1 : Op.bytesLess s.toList limitU = lessZ (numsOf s) limitZ := by rw [less_bytes, ← he, hlim]
      have hlen : (numsOf s).length = limitZ.length := by rw [hl, h']; rfl
      have hv1 := less_val hd limit_ok.1 hlen
      have hv2 := less_val limit_ok.1 hd hlen.symm
      rw [limit_ok.2.1] at hv1 hv2
      have heq : (s.toList == limitU) = true → numsOf s = limitZ := fun h => by rw [he, beq_iff_eq.1 h, hlim]
      rw [hless1]
      constructor
      · rintro (h | ⟨_, h⟩)
        · omega
        · simp only [Bool.and_eq_true, Bool.not_eq_true'] at h
          apply hv2.1
          cases hc : lessZ limitZ (numsOf s)
          · have := less_tri hlen h.1 hc
            have h3 : s.toList = limitU := by
              have h4 : s.toList.map (fun c => (c.toNat : Int)) = limitU.map (fun c => (c.toNat : Int)) := by rw [← he, hlim, this]
              exact (List.map_inj_right (fun x y hxy => UInt8.toNat_inj.1 (by omega))).1 h4
            rw [h3] at h
            simp at h
          · rfl
      · intro hgt
        right
        refine ⟨h', ?_⟩
        have h2 := hv2.2 hgt
        simp only [Bool.and_eq_true, Bool.not_eq_true']
        constructor
        · cases hc : lessZ (numsOf s) limitZ
          · rfl
          · have := hv1.1 hc; omega
        · cases hc : (s.toList == limitU)
          · rfl
          · have := heq hc
            rw [this, limit_ok.2.1] at hgt
            omega
    · constructor
      · intro _
        have hn : ¬ gb (numsOf s) 0 = 48 := fun hh => h0 ⟨hh, by omega⟩
        match hs : numsOf s, hl with
        | [], hl => simp at hl; omega
        | c :: r, hl =>
          rw [hs] at hn hd hlt
          have hc := hd c (by simp)
          have hg : gb (c :: r) 0 = c := rfl
          rw [hg] at hn
          simp only [decV]
          rw [decV_val]
          have hr := decV_lt (fun x hx => hd x (by simp [hx]) : Digits r)
          have ht := ten_mono (show 19 ≤ r.length by simp at hl; omega)
          have h1 : 1 * ten r.length ≤ (10 * 0 + (c - 48)) * ten r.length := Int.mul_le_mul_of_nonneg_right (by omega) (Int.le_of_lt (ten_pos _))
          omega
      · intro _; left; omega
end Go.Proofs.Ytegekajbnecdfaa

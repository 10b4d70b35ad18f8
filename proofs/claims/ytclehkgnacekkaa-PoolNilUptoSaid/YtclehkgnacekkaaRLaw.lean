/- The plain laws of layer 1: code points and their bytes. No program in sight. -/
import Derived.Test.YtclehkgnacekkaaMem
namespace Go.Proofs.Ytclehkgnacekkaa
open Go.RowKit

/-- All numbers of a list are bytes. -/
def Byt (l : List Int) : Prop := ∀ x ∈ l, 0 ≤ x ∧ x ≤ 255
theorem gb_bd {l : List Int} (h : Byt l) (i : Nat) : 0 ≤ gb l i ∧ gb l i ≤ 255 := by
  unfold gb
  rw [List.getD_eq_getElem?_getD]
  cases e : l[i]? with
  | none => simp
  | some x => exact h x (List.mem_of_getElem? e)
theorem byt_drop {l : List Int} (h : Byt l) (a : Nat) : Byt (l.drop a) := fun x hx => h x (List.mem_of_mem_drop hx)
theorem byt_take {l : List Int} (h : Byt l) (a : Nat) : Byt (l.take a) := fun x hx => h x (List.mem_of_mem_take hx)

def lenZ (c : Int) : Int := if c < 128 then 1 else if 192 ≤ c ∧ c < 224 then 2 else if 224 ≤ c ∧ c < 240 then 3 else if 240 ≤ c ∧ c < 248 then 4 else 0
theorem lenZ_bd (c : Int) : 0 ≤ lenZ c ∧ lenZ c ≤ 4 := by unfold lenZ; repeat' split <;> omega
def isB (r : Int) : Bool := decide (0 ≤ r) && (decide (r ≤ 1114111) && (decide (r < 55296) || decide (57343 < r)))
theorem isB_iff (r : Int) : isB r = true ↔ 0 ≤ r ∧ r ≤ 1114111 ∧ (r < 55296 ∨ 57343 < r) := by unfold isB; simp only [Bool.and_eq_true, Bool.or_eq_true, decide_eq_true_eq]
def sizeZ (r : Int) : Int := if r < 128 then 1 else if r < 2048 then 2 else if r < 65536 then 3 else 4
/-- The bits that a first byte gives, by the number of bytes. -/
def firstZ (n c : Int) : Int := if n = 1 then c else if n = 2 then c % 32 else if n = 3 then c % 16 else c % 8
def accS (l : List Int) (m : Int) : Nat → Int
  | 0 => m
  | k + 1 => accS l m k * 64 + gb l (k + 1) % 64
def contS (l : List Int) : Nat → Bool
  | 0 => true
  | k + 1 => contS l k && decide (gb l (k + 1) / 64 = 2)
/-- The first code point of bytes, and how many bytes it has; 0: none. -/
def nextS (l : List Int) : Int × Int :=
  if lenZ (gb l 0) = 0 ∨ (l.length : Int) < lenZ (gb l 0) then (0, 0) else
  if contS l ((lenZ (gb l 0)).toNat - 1) = true ∧ isB (accS l (firstZ (lenZ (gb l 0)) (gb l 0)) ((lenZ (gb l 0)).toNat - 1)) = true ∧ sizeZ (accS l (firstZ (lenZ (gb l 0)) (gb l 0)) ((lenZ (gb l 0)).toNat - 1)) = lenZ (gb l 0)
  then (accS l (firstZ (lenZ (gb l 0)) (gb l 0)) ((lenZ (gb l 0)).toNat - 1), lenZ (gb l 0)) else (0, 0)

/-- The reference: the number that n bytes here could be. -/
def offZ (n : Nat) : Int := if n = 2 then 192 else if n = 3 then 224 else if n = 4 then 240 else 0
def refS (l : List Int) (m : Int) : Nat → Int
  | 0 => m
  | k + 1 => 64 * refS l m k + gb l (k + 1) - 128
def refR (l : List Int) (n : Nat) : Int := refS l (gb l 0 - offZ n) (n - 1)
def bytesS (r : Int) : List Int :=
  if r < 128 then [r] else if r < 2048 then [192 + r / 64, 128 + r % 64] else if r < 65536 then [224 + r / 4096, 128 + r / 64 % 64, 128 + r % 64]
  else [240 + r / 262144, 128 + r / 4096 % 64, 128 + r / 64 % 64, 128 + r % 64]
theorem bytesS_len (r : Int) : ((bytesS r).length : Int) = sizeZ r := by
  unfold bytesS sizeZ
  by_cases a : r < 128
  · simp [a]
  by_cases b : r < 2048
  · simp [a, b]
  by_cases c : r < 65536 <;> simp [a, b, c]
def trialB (l : List Int) (n : Nat) : Bool := isB (refR l n) && (bytesS (refR l n) == l.take n)

theorem take1 {l : List Int} (h : 1 ≤ l.length) : l.take 1 = [gb l 0] := by
  match l, h with
  | a :: _, _ => rfl
theorem take2 {l : List Int} (h : 2 ≤ l.length) : l.take 2 = [gb l 0, gb l 1] := by
  match l, h with
  | a :: b :: _, _ => rfl
theorem take3 {l : List Int} (h : 3 ≤ l.length) : l.take 3 = [gb l 0, gb l 1, gb l 2] := by
  match l, h with
  | a :: b :: c :: _, _ => rfl
theorem take4 {l : List Int} (h : 4 ≤ l.length) : l.take 4 = [gb l 0, gb l 1, gb l 2, gb l 3] := by
  match l, h with
  | a :: b :: c :: d :: _, _ => rfl

theorem next_none {l : List Int} : nextS l = (0, 0) ∨ (1 ≤ (nextS l).2 ∧ (nextS l).2 ≤ 4 ∧ (nextS l).2 ≤ l.length) := by
  unfold nextS
  have h := lenZ_bd (gb l 0)
  split
  · exact .inl rfl
  · rename_i h0
    split
    · right; simp only; omega
    · exact .inl rfl

/-- What n bytes must be to be a code point. -/
def V (l : List Int) : Nat → Prop
  | 1 => gb l 0 < 128
  | 2 => 192 ≤ gb l 0 ∧ gb l 0 < 224 ∧ 128 ≤ gb l 1 ∧ gb l 1 < 192 ∧ 128 ≤ (gb l 0 - 192) * 64 + (gb l 1 - 128)
  | 3 => 224 ≤ gb l 0 ∧ gb l 0 < 240 ∧ 128 ≤ gb l 1 ∧ gb l 1 < 192 ∧ 128 ≤ gb l 2 ∧ gb l 2 < 192 ∧ 2048 ≤ (gb l 0 - 224) * 4096 + (gb l 1 - 128) * 64 + (gb l 2 - 128) ∧
      ((gb l 0 - 224) * 4096 + (gb l 1 - 128) * 64 + (gb l 2 - 128) < 55296 ∨ 57343 < (gb l 0 - 224) * 4096 + (gb l 1 - 128) * 64 + (gb l 2 - 128))
  | 4 => 240 ≤ gb l 0 ∧ gb l 0 < 248 ∧ 128 ≤ gb l 1 ∧ gb l 1 < 192 ∧ 128 ≤ gb l 2 ∧ gb l 2 < 192 ∧ 128 ≤ gb l 3 ∧ gb l 3 < 192 ∧
      65536 ≤ (gb l 0 - 240) * 262144 + (gb l 1 - 128) * 4096 + (gb l 2 - 128) * 64 + (gb l 3 - 128) ∧ (gb l 0 - 240) * 262144 + (gb l 1 - 128) * 4096 + (gb l 2 - 128) * 64 + (gb l 3 - 128) ≤ 1114111
  | _ => False
theorem refR1 (l : List Int) : refR l 1 = gb l 0 := by simp [refR, refS, offZ]
theorem refR2 (l : List Int) : refR l 2 = (gb l 0 - 192) * 64 + (gb l 1 - 128) := by simp [refR, refS, offZ]; omega
theorem refR3 (l : List Int) : refR l 3 = (gb l 0 - 224) * 4096 + (gb l 1 - 128) * 64 + (gb l 2 - 128) := by simp [refR, refS, offZ]; omega
theorem refR4 (l : List Int) : refR l 4 = (gb l 0 - 240) * 262144 + (gb l 1 - 128) * 4096 + (gb l 2 - 128) * 64 + (gb l 3 - 128) := by simp [refR, refS, offZ]; omega
theorem bytes1 {r : Int} (h : r < 128) : bytesS r = [r] := by unfold bytesS; rw [if_pos h]
theorem bytes2 {r : Int} (h : ¬ r < 128) (h' : r < 2048) : bytesS r = [192 + r / 64, 128 + r % 64] := by unfold bytesS; rw [if_neg h, if_pos h']
theorem bytes3 {r : Int} (h : ¬ r < 2048) (h' : r < 65536) : bytesS r = [224 + r / 4096, 128 + r / 64 % 64, 128 + r % 64] := by unfold bytesS; rw [if_neg (by omega), if_neg h, if_pos h']
theorem bytes4 {r : Int} (h : ¬ r < 65536) : bytesS r = [240 + r / 262144, 128 + r / 4096 % 64, 128 + r / 64 % 64, 128 + r % 64] := by unfold bytesS; rw [if_neg (by omega), if_neg (by omega), if_neg h]
theorem bytes_cases (r : Int) {P : Prop} (h1 : r < 128 → bytesS r = [r] → P) (h2 : ¬ r < 128 → r < 2048 → bytesS r = [192 + r / 64, 128 + r % 64] → P)
    (h3 : ¬ r < 2048 → r < 65536 → bytesS r = [224 + r / 4096, 128 + r / 64 % 64, 128 + r % 64] → P)
    (h4 : ¬ r < 65536 → bytesS r = [240 + r / 262144, 128 + r / 4096 % 64, 128 + r / 64 % 64, 128 + r % 64] → P) : P := by
  by_cases a : r < 128
  · exact h1 a (bytes1 a)
  by_cases b : r < 2048
  · exact h2 a b (bytes2 a b)
  by_cases c : r < 65536
  · exact h3 b c (bytes3 b c)
  · exact h4 c (bytes4 c)

/-- A trial is won just if the bytes are right. -/
theorem trial1 {l : List Int} (hb : Byt l) (hl : 1 ≤ l.length) : trialB l 1 = true ↔ V l 1 := by
  have b0 := gb_bd hb 0
  unfold trialB V
  rw [take1 hl, refR1]
  simp only [Bool.and_eq_true, beq_iff_eq, isB_iff]
  generalize gb l 0 = c at *
  refine bytes_cases c ?_ ?_ ?_ ?_ <;> (intros; rename_i e; rw [e]; simp; try omega)
theorem trial2 {l : List Int} (hb : Byt l) (hl : 2 ≤ l.length) : trialB l 2 = true ↔ V l 2 := by
  have b0 := gb_bd hb 0
  have b1 := gb_bd hb 1
  unfold trialB V
  rw [take2 hl, refR2]
  simp only [Bool.and_eq_true, beq_iff_eq, isB_iff]
  generalize gb l 0 = c at *
  generalize gb l 1 = d at *
  refine bytes_cases ((c - 192) * 64 + (d - 128)) ?_ ?_ ?_ ?_ <;> (intros; rename_i e; rw [e]; simp; try omega)
theorem trial3 {l : List Int} (hb : Byt l) (hl : 3 ≤ l.length) : trialB l 3 = true ↔ V l 3 := by
  have b0 := gb_bd hb 0
  have b1 := gb_bd hb 1
  have b2 := gb_bd hb 2
  unfold trialB V
  rw [take3 hl, refR3]
  simp only [Bool.and_eq_true, beq_iff_eq, isB_iff]
  generalize gb l 0 = c at *
  generalize gb l 1 = d at *
  generalize gb l 2 = f at *
  refine bytes_cases ((c - 224) * 4096 + (d - 128) * 64 + (f - 128)) ?_ ?_ ?_ ?_ <;> (intros; rename_i e; rw [e]; simp; try omega)
theorem trial4 {l : List Int} (hb : Byt l) (hl : 4 ≤ l.length) : trialB l 4 = true ↔ V l 4 := by
  have b0 := gb_bd hb 0
  have b1 := gb_bd hb 1
  have b2 := gb_bd hb 2
  have b3 := gb_bd hb 3
  unfold trialB V
  rw [take4 hl, refR4]
  simp only [Bool.and_eq_true, beq_iff_eq, isB_iff]
  generalize gb l 0 = c at *
  generalize gb l 1 = d at *
  generalize gb l 2 = f at *
  generalize gb l 3 = g at *
  refine bytes_cases ((c - 240) * 262144 + (d - 128) * 4096 + (f - 128) * 64 + (g - 128)) ?_ ?_ ?_ ?_ <;> (intros; rename_i e; rw [e]; simp; try omega)
/-- What the code makes of n bytes whose first one says that they are n. -/
def codeR (l : List Int) (n : Nat) : Int := accS l (firstZ n (gb l 0)) (n - 1)
theorem next_case {l : List Int} {n : Nat} (h : lenZ (gb l 0) = n) (h0 : n ≠ 0) :
    nextS l = if n ≤ l.length ∧ contS l (n - 1) = true ∧ isB (codeR l n) = true ∧ sizeZ (codeR l n) = n then (codeR l n, (n : Int)) else (0, 0) := by
  unfold nextS codeR
  rw [h]
  simp only [Int.toNat_natCast]
  by_cases hl : n ≤ l.length
  · rw [if_neg (by omega)]
    simp only [hl, true_and]
  · rw [if_pos (by omega), if_neg (fun hh => hl hh.1)]
theorem next_zero {l : List Int} (h : lenZ (gb l 0) = 0) : nextS l = (0, 0) := by unfold nextS; rw [if_pos (.inl h)]
theorem size_of {r : Int} : (sizeZ r = 1 ↔ r < 128) ∧ (sizeZ r = 2 ↔ ¬ r < 128 ∧ r < 2048) ∧ (sizeZ r = 3 ↔ ¬ r < 2048 ∧ r < 65536) ∧ (sizeZ r = 4 ↔ ¬ r < 65536) := by
  unfold sizeZ
  by_cases a : r < 128
  · simp [a]; omega
  by_cases b : r < 2048
  · simp [a, b]; omega
  by_cases c : r < 65536 <;> simp [a, b, c] <;> omega
theorem next_is {l : List Int} (hb : Byt l) (n : Nat) (hn : n ≤ l.length) (hv : V l n) : nextS l = (refR l n, (n : Int)) := by
  have b0 := gb_bd hb 0
  have b1 := gb_bd hb 1
  have b2 := gb_bd hb 2
  have b3 := gb_bd hb 3
  have sz := @size_of (codeR l n)
  match n, hn, hv with
  | 1, hn, hv =>
    simp only [V] at hv
    have hl : lenZ (gb l 0) = (1 : Nat) := by unfold lenZ; rw [if_pos hv]; rfl
    have e : codeR l 1 = refR l 1 := by rw [refR1]; simp [codeR, accS, firstZ]
    rw [next_case hl (by omega), e]
    rw [e] at sz
    rw [if_pos ⟨hn, rfl, by rw [isB_iff, refR1]; omega, by rw [show ((1 : Nat) : Int) = 1 from rfl, sz.1, refR1]; exact hv⟩]
  | 2, hn, hv =>
    simp only [V] at hv
    have hl : lenZ (gb l 0) = (2 : Nat) := by unfold lenZ; rw [if_neg (by omega), if_pos (by omega)]; rfl
    have e : codeR l 2 = refR l 2 := by rw [refR2]; simp [codeR, accS, firstZ]; omega
    have c : contS l 1 = true := by simp [contS]; omega
    rw [next_case hl (by omega), e]
    rw [e] at sz
    rw [if_pos ⟨hn, c, by rw [isB_iff, refR2]; omega, by rw [show ((2 : Nat) : Int) = 2 from rfl, sz.2.1, refR2]; omega⟩]
  | 3, hn, hv =>
    simp only [V] at hv
    have hl : lenZ (gb l 0) = (3 : Nat) := by unfold lenZ; rw [if_neg (by omega), if_neg (by omega), if_pos (by omega)]; rfl
    have e : codeR l 3 = refR l 3 := by rw [refR3]; simp [codeR, accS, firstZ]; omega
    have c : contS l 2 = true := by simp [contS]; omega
    rw [next_case hl (by omega), e]
    rw [e] at sz
    rw [if_pos ⟨hn, c, by rw [isB_iff, refR3]; omega, by rw [show ((3 : Nat) : Int) = 3 from rfl, sz.2.2.1, refR3]; omega⟩]
  | 4, hn, hv =>
    simp only [V] at hv
    have hl : lenZ (gb l 0) = (4 : Nat) := by unfold lenZ; rw [if_neg (by omega), if_neg (by omega), if_neg (by omega), if_pos (by omega)]; rfl
    have e : codeR l 4 = refR l 4 := by rw [refR4]; simp [codeR, accS, firstZ]; omega
    have c : contS l 3 = true := by simp [contS]; omega
    rw [next_case hl (by omega), e]
    rw [e] at sz
    rw [if_pos ⟨hn, c, by rw [isB_iff, refR4]; omega, by rw [show ((4 : Nat) : Int) = 4 from rfl, sz.2.2.2, refR4]; omega⟩]
theorem next_has {l : List Int} (hb : Byt l) : nextS l = (0, 0) ∨ ∃ n : Nat, n ≤ l.length ∧ 1 ≤ n ∧ n ≤ 4 ∧ V l n := by
  have b0 := gb_bd hb 0
  have b1 := gb_bd hb 1
  have b2 := gb_bd hb 2
  have b3 := gb_bd hb 3
  have hk : lenZ (gb l 0) = 0 ∨ (lenZ (gb l 0) = (1 : Nat) ∧ gb l 0 < 128) ∨ (lenZ (gb l 0) = (2 : Nat) ∧ 192 ≤ gb l 0 ∧ gb l 0 < 224) ∨ (lenZ (gb l 0) = (3 : Nat) ∧ 224 ≤ gb l 0 ∧ gb l 0 < 240) ∨ (lenZ (gb l 0) = (4 : Nat) ∧ 240 ≤ gb l 0 ∧ gb l 0 < 248) := by
    unfold lenZ
    repeat' split
    all_goals simp
    all_goals omega
  rcases hk with h | ⟨h, k⟩ | ⟨h, k⟩ | ⟨h, k⟩ | ⟨h, k⟩
  · exact .inl (next_zero h)
  · rw [next_case h (by omega)]
    split
    · rename_i g; right; exact ⟨1, g.1, by omega, by omega, k⟩
    · exact .inl rfl
  · have sz := @size_of (codeR l 2)
    rw [next_case h (by omega)]
    split
    · rename_i g; right
      obtain ⟨g1, g2, g3, g4⟩ := g
      rw [isB_iff] at g3
      rw [show ((2 : Nat) : Int) = 2 from rfl, sz.2.1] at g4
      simp [contS] at g2
      simp [codeR, accS, firstZ] at g3 g4
      exact ⟨2, g1, by omega, by omega, by simp only [V]; omega⟩
    · exact .inl rfl
  · have sz := @size_of (codeR l 3)
    rw [next_case h (by omega)]
    split
    · rename_i g; right
      obtain ⟨g1, g2, g3, g4⟩ := g
      rw [isB_iff] at g3
      rw [show ((3 : Nat) : Int) = 3 from rfl, sz.2.2.1] at g4
      simp [contS] at g2
      simp [codeR, accS, firstZ] at g3 g4
      exact ⟨3, g1, by omega, by omega, by simp only [V]; omega⟩
    · exact .inl rfl
  · have sz := @size_of (codeR l 4)
    rw [next_case h (by omega)]
    split
    · rename_i g; right
      obtain ⟨g1, g2, g3, g4⟩ := g
      rw [isB_iff] at g3
      rw [show ((4 : Nat) : Int) = 4 from rfl, sz.2.2.2] at g4
      simp [contS] at g2
      simp [codeR, accS, firstZ] at g3 g4
      exact ⟨4, g1, by omega, by omega, by simp only [V]; omega⟩
    · exact .inl rfl
theorem trial_iff {l : List Int} (hb : Byt l) {n : Nat} (h1 : 1 ≤ n) (h4 : n ≤ 4) (hl : n ≤ l.length) : trialB l n = true ↔ V l n := by
  obtain rfl | rfl | rfl | rfl : n = 1 ∨ n = 2 ∨ n = 3 ∨ n = 4 := by omega
  · exact trial1 hb hl
  · exact trial2 hb hl
  · exact trial3 hb hl
  · exact trial4 hb hl
/-- The reference's search: where a trial is won, that is the code point; where none is, there is none. -/
theorem trial_won {l : List Int} (hb : Byt l) {n : Nat} (h1 : 1 ≤ n) (h4 : n ≤ 4) (hl : n ≤ l.length) (h : trialB l n = true) : nextS l = (refR l n, (n : Int)) :=
  next_is hb n hl ((trial_iff hb h1 h4 hl).1 h)
theorem trials_lost {l : List Int} (hb : Byt l) (h : ∀ n, 1 ≤ n → n ≤ 4 → n ≤ l.length → trialB l n = false) : nextS l = (0, 0) := by
  rcases next_has hb with h0 | ⟨n, hl, h1, h4, hv⟩
  · exact h0
  · have := (trial_iff hb h1 h4 hl).2 hv
    rw [h n h1 h4 hl] at this
    cases this
end Go.Proofs.Ytclehkgnacekkaa

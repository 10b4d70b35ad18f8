/- Layer 2: bytes by kind, words, numbers, signs: plain laws. No program in sight. -/
import Derived.Test.YtclehkgnacekkaaRScan
import Derived.Laws.BytesArg
namespace Go.Proofs.Ytclehkgnacekkaa
open Go.RowKit
def smallB (c : Int) : Bool := decide (97 ≤ c) && decide (c ≤ 122)
def greatB (c : Int) : Bool := decide (65 ≤ c) && decide (c ≤ 90)
def digitB (c : Int) : Bool := decide (48 ≤ c) && decide (c ≤ 57)
def runsB (c : Int) : Bool := smallB c || (greatB c || (digitB c || c == 95))
theorem small_iff (c : Int) : smallB c = true ↔ 97 ≤ c ∧ c ≤ 122 := by unfold smallB; simp
theorem great_iff (c : Int) : greatB c = true ↔ 65 ≤ c ∧ c ≤ 90 := by unfold greatB; simp
theorem digit_iff (c : Int) : digitB c = true ↔ 48 ≤ c ∧ c ≤ 57 := by unfold digitB; simp
theorem runs_iff (c : Int) : runsB c = true ↔ (97 ≤ c ∧ c ≤ 122) ∨ (65 ≤ c ∧ c ≤ 90) ∨ (48 ≤ c ∧ c ≤ 57) ∨ c = 95 := by
  unfold runsB; simp [small_iff, great_iff, digit_iff]
theorem small_no (c : Int) : smallB c = false ↔ ¬ (97 ≤ c ∧ c ≤ 122) := by rw [← small_iff]; simp
theorem great_no (c : Int) : greatB c = false ↔ ¬ (65 ≤ c ∧ c ≤ 90) := by rw [← great_iff]; simp
theorem digit_no (c : Int) : digitB c = false ↔ ¬ (48 ≤ c ∧ c ≤ 57) := by rw [← digit_iff]; simp
theorem runs_no (c : Int) : runsB c = false ↔ ¬ ((97 ≤ c ∧ c ≤ 122) ∨ (65 ≤ c ∧ c ≤ 90) ∨ (48 ≤ c ∧ c ≤ 57) ∨ c = 95) := by rw [← runs_iff]; simp
def kindZ (c : Int) : Int := if smallB c then 1 else if greatB c then 2 else if digitB c then 3 else if c = 95 then 4 else 0
theorem kind_bd (c : Int) : 0 ≤ kindZ c ∧ kindZ c ≤ 4 := by unfold kindZ; repeat' split <;> omega
theorem kind_pos (c : Int) : 0 < kindZ c ↔ runsB c = true := by
  unfold kindZ
  rw [runs_iff]
  simp only [small_iff, great_iff, digit_iff]
  repeat' split
  all_goals omega
theorem kind_digit (c : Int) : kindZ c = 3 ↔ digitB c = true := by
  unfold kindZ
  simp only [small_iff, great_iff, digit_iff]
  repeat' split
  all_goals omega
theorem kind_small (c : Int) : kindZ c = 1 ↔ smallB c = true := by
  unfold kindZ
  simp only [small_iff, great_iff, digit_iff]
  repeat' split
  all_goals omega
theorem kind_other (c : Int) : (kindZ c = 0 ∨ kindZ c = 2) ↔ ¬ (smallB c = true ∨ digitB c = true ∨ c = 95) := by
  unfold kindZ
  simp only [small_iff, great_iff, digit_iff]
  repeat' split
  all_goals omega
/-- The bytes of a text, as numbers. -/
def numsOf (s : ByteArray) : List Int := s.data.toList.map fun b => (b.toNat : Int)
theorem nums_len (s : ByteArray) : (numsOf s).length = s.size := by unfold numsOf; rw [List.length_map, Array.length_toList]; rfl
theorem nums_gb (s : ByteArray) (k : Nat) (h : k < s.size) : (s[k].toNat : Int) = gb (numsOf s) k := by
  have h' : k < s.data.size := h
  have e : (numsOf s)[k]? = some ((s.data[k].toNat : Nat) : Int) := by
    unfold numsOf
    rw [List.getElem?_map, Array.getElem?_toList, Array.getElem?_eq_getElem h']
    rfl
  unfold gb
  rw [List.getD_eq_getElem?_getD, e]
  rfl
theorem nums_byt (s : ByteArray) : Byt (numsOf s) := fun x hx => by
  unfold numsOf at hx
  obtain ⟨b, _, rfl⟩ := List.mem_map.1 hx
  have := b.toNat_lt
  omega
theorem nums_str {l : List Int} (h : Byt l) : numsOf (strOfNums l) = l := by
  unfold numsOf
  rw [strOfNums_data, List.map_map]
  conv => rhs; rw [← List.map_id l]
  apply List.map_congr_left
  intro x hx
  have := h x hx
  simp only [Function.comp, UInt8.toNat_ofNat', id]
  omega
/-- May a byte stand at a place of a word? -/
def okAt (l : List Int) (i : Nat) : Bool := smallB (gb l i) || (decide (0 < i) && (digitB (gb l i) || gb l i == 95))
def wordlyB (l : List Int) : Bool := decide (0 < l.length) && (List.range l.length).all (okAt l)
theorem wordly_no {l : List Int} {k : Nat} (hk : k < l.length) (h : okAt l k = false) : wordlyB l = false := by
  unfold wordlyB
  have : (List.range l.length).all (okAt l) = false := by
    rw [List.all_eq_false]
    exact ⟨k, List.mem_range.2 hk, by rw [h]; decide⟩
  rw [this, Bool.and_false]
theorem wordly_end {l : List Int} (h : ∀ i, i < l.length → okAt l i = true) : wordlyB l = decide (0 < l.length) := by
  unfold wordlyB
  have : (List.range l.length).all (okAt l) = true := by
    rw [List.all_eq_true]
    exact fun i hi => h i (List.mem_range.1 hi)
  rw [this, Bool.and_true]
theorem ok_snoc {l : List Int} {k : Nat} (h : ∀ i, i < k → okAt l i = true) (hk : okAt l k = true) : ∀ i, i < k + 1 → okAt l i = true := fun i hi => by
  by_cases e : i = k
  · rw [e]; exact hk
  · exact h i (by omega)

/-- The number that digits tell. -/
def decV : List Int → Int → Int
  | [], n => n
  | c :: l, n => decV l (10 * n + (c - 48))
theorem decV_snoc (l : List Int) (c n : Int) : decV (l ++ [c]) n = 10 * decV l n + (c - 48) := by
  induction l generalizing n with
  | nil => rfl
  | cons d l ih => simp only [List.cons_append, decV]; exact ih _
def Digits (l : List Int) : Prop := ∀ x ∈ l, 48 ≤ x ∧ x ≤ 57
theorem decV_mono {l : List Int} (h : Digits l) {m n : Int} (hmn : m ≤ n) : decV l m ≤ decV l n := by
  induction l generalizing m n with
  | nil => exact hmn
  | cons c l ih => exact ih (fun x hx => h x (by simp [hx])) (by omega)
theorem decV_ge {l : List Int} (h : Digits l) {n : Int} (hn : 0 ≤ n) : n ≤ decV l n := by
  induction l generalizing n with
  | nil => exact Int.le_refl _
  | cons c l ih =>
    have hc := h c (by simp)
    have := ih (fun x hx => h x (by simp [hx])) (n := 10 * n + (c - 48)) (by omega)
    simp only [decV]; omega
/-- A number is too great as soon as its beginning is. -/
theorem decV_take {l : List Int} (h : Digits l) (k : Nat) : decV (l.take k) 0 ≤ decV l 0 := by
  have h1 : ∀ (a b : List Int) (n : Int), decV (a ++ b) n = decV b (decV a n) := by
    intro a
    induction a with
    | nil => intro b n; rfl
    | cons c a ih => intro b n; exact ih b _
  have h2 := decV_ge (fun x hx => h x (List.mem_of_mem_take hx) : Digits (l.take k)) (n := 0) (by omega)
  have h3 := decV_ge (fun x hx => h x (List.mem_of_mem_drop hx) : Digits (l.drop k)) (n := decV (l.take k) 0) h2
  rw [← h1, List.take_append_drop] at h3
  exact h3
theorem decV_step {l : List Int} {k : Nat} (hk : k < l.length) : decV (l.take (k + 1)) 0 = 10 * decV (l.take k) 0 + (gb l k - 48) := by rw [take_gb hk, decV_snoc]
def ten : Nat → Int
  | 0 => 1
  | n + 1 => 10 * ten n
theorem ten_pos (n : Nat) : 0 < ten n := by induction n <;> simp [ten]; omega
theorem decV_val (l : List Int) (n : Int) : decV l n = n * ten l.length + decV l 0 := by
  induction l generalizing n with
  | nil => simp [decV, ten]
  | cons c l ih =>
    simp only [decV, List.length_cons, ten]
    rw [ih (10 * n + (c - 48)), ih (10 * 0 + (c - 48))]
    grind
theorem decV_lt {l : List Int} (h : Digits l) : 0 ≤ decV l 0 ∧ decV l 0 < ten l.length := by
  induction l with
  | nil => simp [decV, ten]
  | cons c l ih =>
    have hc := h c (by simp)
    have hi := ih fun x hx => h x (by simp [hx])
    simp only [decV, List.length_cons, ten]
    rw [decV_val]
    have hp := ten_pos l.length
    have h1 : (10 * 0 + (c - 48)) * ten l.length ≤ 9 * ten l.length := Int.mul_le_mul_of_nonneg_right (by omega) (Int.le_of_lt hp)
    have h2 : 0 ≤ (10 * 0 + (c - 48)) * ten l.length := Int.mul_nonneg (by omega) (Int.le_of_lt hp)
    omega
/-- Digits of one length stand in the order of their numbers. -/
def lessZ : List Int → List Int → Bool
  | a :: l, b :: m => if a = b then lessZ l m else decide (a < b)
  | [], _ :: _ => true
  | _, [] => false
theorem less_val {a b : List Int} (ha : Digits a) (hb : Digits b) (h : a.length = b.length) : lessZ a b = true ↔ decV a 0 < decV b 0 := by
  induction a generalizing b with
  | nil =>
    cases b with
    | nil => simp [lessZ]
    | cons _ _ => simp at h
  | cons x a ih =>
    cases b with
    | nil => simp at h
    | cons y b =>
      have hx := ha x (by simp)
      have hy := hb y (by simp)
      have ha' : Digits a := fun z hz => ha z (by simp [hz])
      have hb' : Digits b := fun z hz => hb z (by simp [hz])
      have hl : a.length = b.length := by simpa using h
      have i := ih ha' hb' hl
      have la := decV_lt ha'
      have lb := decV_lt hb'
      simp only [lessZ, decV]
      rw [decV_val a, decV_val b, ← hl]
      rw [← hl] at lb
      have hp := ten_pos a.length
      by_cases e : x = y
      · rw [if_pos e, i, e]; omega
      · rw [if_neg e, decide_eq_true_eq]
        constructor
        · intro hlt
          have : (10 * 0 + (x - 48) + 1) * ten a.length ≤ (10 * 0 + (y - 48)) * ten a.length := Int.mul_le_mul_of_nonneg_right (by omega) (Int.le_of_lt hp)
          rw [Int.add_mul] at this
          omega
        · intro hlt
          apply Decidable.byContradiction
          intro hn
          have : (10 * 0 + (y - 48) + 1) * ten a.length ≤ (10 * 0 + (x - 48)) * ten a.length := Int.mul_le_mul_of_nonneg_right (by omega) (Int.le_of_lt hp)
          rw [Int.add_mul] at this
          omega
end Go.Proofs.Ytclehkgnacekkaa

/- Numbers by limbs of 16 bits: plain laws. No program in sight. -/
import Derived.Test.YtegekajbnecdfaaMem
import Derived.Test.YtegekajbnecdfaaALaw
namespace Go.Proofs.Ytegekajbnecdfaa
open Go.RowKit
/-- A number out of its limbs. -/
def val : List Int → Int
  | [] => 0
  | x :: l => x + 65536 * val l
def pw : Nat → Int
  | 0 => 1
  | n + 1 => 65536 * pw n
theorem pw_pos (n : Nat) : 0 < pw n := by induction n <;> simp [pw]; omega
theorem pw_add (m n : Nat) : pw (m + n) = pw m * pw n := by
  induction m with
  | zero => simp [pw]
  | succ m ih => rw [Nat.succ_add]; simp only [pw, ih]; rw [Int.mul_assoc]
/-- All limbs fit. -/
def Limbs (l : List Int) : Prop := ∀ x ∈ l, 0 ≤ x ∧ x < 65536
theorem val_bd {l : List Int} (h : Limbs l) : 0 ≤ val l ∧ val l < pw l.length := by
  induction l with
  | nil => simp [val, pw]
  | cons x l ih =>
    have h1 := h x (by simp)
    have h2 := ih fun y hy => h y (by simp [hy])
    simp only [val, List.length_cons, pw]
    omega
theorem val_set {l : List Int} {j : Nat} (v : Int) (h : j < l.length) : val (l.set j v) = val l + (v - gb l j) * pw j := by
  induction l generalizing j with
  | nil => simp at h
  | cons x l ih =>
    cases j with
    | zero => simp [val, pw, gb]; omega
    | succ j =>
      have e : gb (x :: l) (j + 1) = gb l j := by simp [gb]
      simp only [List.set_cons_succ, val, pw, e]
      rw [ih (by simpa using h)]
      grind
theorem val_append (a b : List Int) : val (a ++ b) = val a + pw a.length * val b := by
  induction a with
  | nil => simp [val, pw]
  | cons x a ih =>
    simp only [List.cons_append, val, List.length_cons, pw, ih]
    grind
theorem limbs_set {l : List Int} (h : Limbs l) (j : Nat) {v : Int} (hv : 0 ≤ v ∧ v < 65536) : Limbs (l.set j v) := fun x hx => by
  rcases List.mem_or_eq_of_mem_set hx with hx | rfl
  · exact h x hx
  · exact hv
/-- One limb of a carry. -/
theorem carry_step {l : List Int} {j : Nat} {c t : Int} (h : j < l.length) (ht : val l + c * pw j = t) :
    val (l.set j ((c + gb l j) % 65536)) + (c + gb l j) / 65536 * pw (j + 1) = t := by
  rw [val_set _ h, ← ht]
  have e := Int.emod_add_mul_ediv (c + gb l j) 65536
  generalize (c + gb l j) % 65536 = r at *
  generalize (c + gb l j) / 65536 = q at *
  simp only [pw]
  have : c = r + 65536 * q - gb l j := by omega
  rw [this]
  grind
theorem pw_mono {m n : Nat} (h : m ≤ n) : pw m ≤ pw n := by
  induction n with
  | zero => rw [Nat.le_zero.1 h]; omega
  | succ n ih =>
    by_cases e : m = n + 1
    · rw [e]; omega
    · have := ih (by omega)
      have := pw_pos n
      simp only [pw]; omega
theorem carry_room {l : List Int} {j : Nat} {c t : Int} (hl : Limbs l) (ht : val l + c * pw j = t) (hc : 0 < c) (hb : t < pw 8) : j < 8 := by
  have h1 := (val_bd hl).1
  by_cases h : j < 8
  · exact h
  · have h2 := pw_mono (show 8 ≤ j by omega)
    have h3 : pw j ≤ c * pw j := by
      have := Int.mul_le_mul_of_nonneg_right (show 1 ≤ c by omega) (Int.le_of_lt (pw_pos j))
      omega
    omega
def limbsOf (x : Int) : List Int := [x % 65536, x / 65536 % 65536, x / 65536 / 65536 % 65536, x / 65536 / 65536 / 65536]
theorem limbsOf_ok {x : Int} (h : 0 ≤ x) (h' : x < 18446744073709551616) : Limbs (limbsOf x) ∧ val (limbsOf x) = x := by
  constructor
  · intro y hy
    simp [limbsOf] at hy
    omega
  · simp [limbsOf, val]; omega
theorem gb_of_limbs {x : Int} (h : 0 ≤ x) (h' : x < 18446744073709551616) (i : Nat) : 0 ≤ gb (limbsOf x) i ∧ gb (limbsOf x) i < 65536 := by
  by_cases hi : i < (limbsOf x).length
  · exact (limbsOf_ok h h').1 _ (gb_mem hi)
  · have : gb (limbsOf x) i = 0 := by unfold gb; simp [List.getElem?_eq_none (by omega : (limbsOf x).length ≤ i)]
    omega
/-- What the first k limbs tell. -/
def part (l : List Int) (k : Nat) : Int := val (l.take k)
theorem part_succ {l : List Int} {k : Nat} (h : k < l.length) : part l (k + 1) = part l k + gb l k * pw k := by
  unfold part
  rw [take_gb h, val_append]
  simp [val, List.length_take, Nat.min_eq_left (Nat.le_of_lt h)]
  grind
theorem part_all (l : List Int) {k : Nat} (h : l.length ≤ k) : part l k = val l := by unfold part; rw [List.take_of_length_le h]
theorem part_le {l : List Int} (h : Limbs l) {k : Nat} : 0 ≤ part l k ∧ part l k ≤ val l := by
  have h1 : Limbs (l.take k) := fun x hx => h x (List.mem_of_mem_take hx)
  have h2 : Limbs (l.drop k) := fun x hx => h x (List.mem_of_mem_drop hx)
  have e := val_append (l.take k) (l.drop k)
  rw [List.take_append_drop] at e
  have := (val_bd h1).1
  have := (val_bd h2).1
  have := Int.mul_nonneg (Int.le_of_lt (pw_pos (l.take k).length)) (val_bd h2).1
  unfold part
  omega
/-- The target of a carry: what has been added is still no more than the product. -/
theorem target_bd {a b : List Int} (ha : Limbs a) (hb : Limbs b) (hla : a.length = 4) (hlb : b.length = 4) {i k : Nat} (hi : i < 4) (hk : k < 4) :
    part a i * val b + gb a i * pw i * part b k + gb a i * gb b k * pw (i + k) = part a i * val b + gb a i * pw i * part b (k + 1) ∧
    part a i * val b + gb a i * pw i * part b (k + 1) < pw 8 := by
  have e1 := part_succ (l := b) (k := k) (by omega)
  have e2 := part_succ (l := a) (k := i) (by omega)
  refine ⟨by rw [e1, pw_add]; grind, ?_⟩
  have h1 := part_le hb (k := k + 1)
  have h2 := part_le ha (k := i + 1)
  have hga := ha _ (gb_mem (l := a) (i := i) (by omega))
  have h3 : 0 ≤ gb a i * pw i := Int.mul_nonneg hga.1 (Int.le_of_lt (pw_pos i))
  have h4 : gb a i * pw i * part b (k + 1) ≤ gb a i * pw i * val b := Int.mul_le_mul_of_nonneg_left h1.2 h3
  have hva := val_bd ha
  have hvb := val_bd hb
  have h5 : part a i * val b + gb a i * pw i * val b = part a (i + 1) * val b := by rw [e2]; grind
  have h6 : part a (i + 1) * val b ≤ val a * val b := Int.mul_le_mul_of_nonneg_right h2.2 hvb.1
  have h7 : val a * val b ≤ val a * pw 4 := Int.mul_le_mul_of_nonneg_left (by rw [hlb] at hvb; omega) hva.1
  have h8 : val a * pw 4 < pw 4 * pw 4 := Int.mul_lt_mul_of_pos_right (by rw [hla] at hva; omega) (pw_pos 4)
  rw [← pw_add, show 4 + 4 = 8 from rfl] at h8
  omega
theorem row_done {a b : List Int} (hlb : b.length = 4) (hla : a.length = 4) {i : Nat} (hi : i < 4) :
    part a i * val b + gb a i * pw i * part b 4 = part a (i + 1) * val b := by
  rw [part_all b (by omega), part_succ (l := a) (k := i) (by omega)]
  grind
/-- Both words of eight limbs. -/
def wordOf (l : List Int) (i : Nat) : Int := gb l i + 65536 * (gb l (i + 1) + 65536 * (gb l (i + 2) + 65536 * gb l (i + 3)))
theorem words {l : List Int} (h : Limbs l) (hl : l.length = 8) : wordOf l 0 = val l % 18446744073709551616 ∧ wordOf l 4 = val l / 18446744073709551616 := by
  match l, hl with
  | [a, b, c, d, e, f, g, i], _ =>
    have h1 := h a (by simp)
    have h2 := h b (by simp)
    have h3 := h c (by simp)
    have h4 := h d (by simp)
    have h5 := h e (by simp)
    have h6 := h f (by simp)
    have h7 := h g (by simp)
    have h8 := h i (by simp)
    simp [wordOf, gb, val]
    omega
theorem part_set {l : List Int} {i : Nat} (v : Int) (h : i < l.length) : part (l.set i v) (i + 1) = part l i + v * pw i := by
  rw [part_succ (by simpa using h)]
  have e : gb (l.set i v) i = v := by unfold gb; simp [h]
  rw [e]
  unfold part
  rw [List.take_set_of_le (Nat.le_refl i)]
/-- One limb of a complement. -/
theorem minus_step {l o : List Int} {i : Nat} {c : Int} (hl : i < l.length) (ho : i < o.length) (h : part o i + c * pw i = pw i - part l i) :
    part (o.set i ((65535 - gb l i + c) % 65536)) (i + 1) + (65535 - gb l i + c) / 65536 * pw (i + 1) = pw (i + 1) - part l (i + 1) := by
  rw [part_set _ ho, part_succ hl]
  have e := Int.emod_add_mul_ediv (65535 - gb l i + c) 65536
  generalize (65535 - gb l i + c) % 65536 = r at *
  generalize (65535 - gb l i + c) / 65536 = q at *
  simp only [pw]
  have : c = r + 65536 * q - 65535 + gb l i := by omega
  subst this
  grind
theorem pw8 : pw 8 = 340282366920938463463374607431768211456 := by simp [pw]
theorem pw4 : pw 4 = 18446744073709551616 := by simp [pw]
theorem minus_done {l o : List Int} {c : Int} (hl : l.length = 8) (ho : o.length = 8) (hlo : Limbs o) (hll : Limbs l) (h : part o 8 + c * pw 8 = pw 8 - part l 8) :
    val o = (-val l) % 340282366920938463463374607431768211456 := by
  rw [part_all o (by omega), part_all l (by omega), pw8] at h
  have h1 := val_bd hlo
  have h2 := val_bd hll
  rw [ho, pw8] at h1
  rw [hl, pw8] at h2
  omega
/-- Both words of a signed product, as the limbs tell them. -/
theorem wide_words {z : Int} {l : List Int} (hl : Limbs l) (h8 : l.length = 8) (hv : val l = z % 340282366920938463463374607431768211456) :
    wordOf l 4 = z / 18446744073709551616 % 18446744073709551616 ∧ wordOf l 0 = z % 18446744073709551616 := by
  have hw := words hl h8
  rw [hw.1, hw.2, hv]
  omega
theorem size_mul {x y : Int} : ((x.natAbs : Int) * (y.natAbs : Int) = if (x < 0 ↔ y < 0) then x * y else -(x * y)) := by
  by_cases a : x < 0 <;> by_cases b : y < 0
  · have e1 : (x.natAbs : Int) = -x := by omega
    have e2 : (y.natAbs : Int) = -y := by omega
    rw [e1, e2]; simp [a, b, Int.neg_mul, Int.mul_neg]
  · have e1 : (x.natAbs : Int) = -x := by omega
    have e2 : (y.natAbs : Int) = y := by omega
    rw [e1, e2]; simp [a, b, Int.neg_mul]
  · have e1 : (x.natAbs : Int) = x := by omega
    have e2 : (y.natAbs : Int) = -y := by omega
    rw [e1, e2]; simp [a, b, Int.mul_neg]
  · have e1 : (x.natAbs : Int) = x := by omega
    have e2 : (y.natAbs : Int) = y := by omega
    rw [e1, e2]; simp [a, b]
end Go.Proofs.Ytegekajbnecdfaa

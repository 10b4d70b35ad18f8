/- Layer 1: going through bytes: where they are wrong first, which code points they are, lines and columns. Plain laws. -/
import Derived.Test.YtclehkgnacekkaaRLaw
namespace Go.Proofs.Ytclehkgnacekkaa
open Go.RowKit
/-- How many bytes the code point at a place has; 0: there is none. -/
def nx (l : List Int) (a : Nat) : Nat := (nextS (l.drop a)).2.toNat
/-- The code point at a place. -/
def rn (l : List Int) (a : Nat) : Int := (nextS (l.drop a)).1
theorem nx_cast (l : List Int) (a : Nat) : (nextS (l.drop a)).2 = (nx l a : Int) := by
  unfold nx
  have := next_none (l := l.drop a)
  rcases this with h | h
  · rw [h]; rfl
  · omega
theorem nx_bd {l : List Int} {a : Nat} (h : nx l a ≠ 0) : 1 ≤ nx l a ∧ nx l a ≤ 4 ∧ (a < l.length → a + nx l a ≤ l.length) := by
  have h1 := next_none (l := l.drop a)
  have h2 := nx_cast l a
  rw [List.length_drop] at h1
  rcases h1 with h1 | h1
  · rw [h1] at h2; simp at h2; omega
  · omega
theorem rn_bd (l : List Int) (a : Nat) : 0 ≤ rn l a ∧ rn l a ≤ 1114111 := by
  unfold rn nextS
  split
  · simp
  split
  · rename_i h
    have := (isB_iff _).1 h.2.1
    exact ⟨this.1, this.2.1⟩
  · simp
theorem rn_zero {l : List Int} {a : Nat} (h : nx l a = 0) : rn l a = 0 := by
  have h1 := next_none (l := l.drop a)
  have h2 := nx_cast l a
  rw [h] at h2
  rcases h1 with h1 | h1
  · unfold rn; rw [h1]
  · omega
theorem next_eq (l : List Int) (a : Nat) : nextS (l.drop a) = (rn l a, (nx l a : Int)) := by
  rw [← nx_cast]; rfl
/-- The first wrong place; -1: none. -/
def wrongS (l : List Int) (a : Nat) : Int :=
  if h : a < l.length ∧ nx l a ≠ 0 then wrongS l (a + nx l a) else if a < l.length then a else -1
termination_by l.length - a
decreasing_by have := (nx_bd h.2).1; omega
/-- The code points. -/
def pointsS (l : List Int) (a : Nat) : List Int :=
  if _h : a < l.length ∧ nx l a ≠ 0 then rn l a :: pointsS l (a + nx l a) else []
termination_by l.length - a
decreasing_by have := (nx_bd _h.2).1; omega
theorem wrong_step {l : List Int} {a : Nat} (h : a < l.length) (h' : nx l a ≠ 0) : wrongS l a = wrongS l (a + nx l a) := by rw [wrongS]; rw [dif_pos ⟨h, h'⟩]
theorem wrong_here {l : List Int} {a : Nat} (h : a < l.length) (h' : nx l a = 0) : wrongS l a = a := by rw [wrongS]; rw [dif_neg (fun k => k.2 h'), if_pos h]
theorem wrong_end {l : List Int} {a : Nat} (h : l.length ≤ a) : wrongS l a = -1 := by rw [wrongS]; rw [dif_neg (fun k => by omega), if_neg (by omega)]
theorem points_step {l : List Int} {a : Nat} (h : a < l.length) (h' : nx l a ≠ 0) : pointsS l a = rn l a :: pointsS l (a + nx l a) := by rw [pointsS]; rw [dif_pos ⟨h, h'⟩]
theorem points_end {l : List Int} {a : Nat} (h : l.length ≤ a) : pointsS l a = [] := by rw [pointsS]; rw [dif_neg (fun k => by omega)]
theorem points_stop {l : List Int} {a : Nat} (h' : nx l a = 0) : pointsS l a = [] := by rw [pointsS]; rw [dif_neg (fun k => k.2 h')]
theorem wrong_lt (l : List Int) (a : Nat) : wrongS l a = -1 ∨ (0 ≤ wrongS l a ∧ wrongS l a < l.length) := by
  induction a using wrongS.induct l with
  | case1 a h ih => rw [wrong_step h.1 h.2]; exact ih
  | case2 a h h' =>
    have h0 : nx l a = 0 := Decidable.byContradiction fun k => h ⟨h', k⟩
    rw [wrong_here h' h0]; omega
  | case3 a h h' => left; exact wrong_end (by omega)
theorem points_len (l : List Int) (a : Nat) : (pointsS l a).length ≤ l.length - a := by
  induction a using wrongS.induct l with
  | case1 a h ih =>
    rw [points_step h.1 h.2]
    have := nx_bd h.2
    simp; omega
  | case2 a h h' =>
    have h0 : nx l a = 0 := Decidable.byContradiction fun k => h ⟨h', k⟩
    rw [points_stop h0]; simp
  | case3 a h h' => rw [points_end (by omega)]; simp
/-- Bytes that are cut: a code point that lies within is read as before; else there is none. -/
theorem V_take {l : List Int} {m n : Nat} (h : n ≤ m) : V (l.take m) n ↔ V l n := by
  match n, h with
  | 0, _ => simp [V]
  | 1, h => simp only [V, gb_take _ _ _ (show 0 < m by omega)]
  | 2, h => simp only [V, gb_take _ _ _ (show 0 < m by omega), gb_take _ _ _ (show 1 < m by omega)]
  | 3, h => simp only [V, gb_take _ _ _ (show 0 < m by omega), gb_take _ _ _ (show 1 < m by omega), gb_take _ _ _ (show 2 < m by omega)]
  | 4, h => simp only [V, gb_take _ _ _ (show 0 < m by omega), gb_take _ _ _ (show 1 < m by omega), gb_take _ _ _ (show 2 < m by omega), gb_take _ _ _ (show 3 < m by omega)]
  | n + 5, _ => simp [V]
theorem refR_take {l : List Int} {m n : Nat} (h1 : 1 ≤ n) (h4 : n ≤ 4) (h : n ≤ m) : refR (l.take m) n = refR l n := by
  obtain rfl | rfl | rfl | rfl : n = 1 ∨ n = 2 ∨ n = 3 ∨ n = 4 := by omega
  · rw [refR1, refR1, gb_take _ _ _ (by omega)]
  · rw [refR2, refR2, gb_take _ _ _ (by omega), gb_take _ _ _ (by omega)]
  · rw [refR3, refR3, gb_take _ _ _ (by omega), gb_take _ _ _ (by omega), gb_take _ _ _ (by omega)]
  · rw [refR4, refR4, gb_take _ _ _ (by omega), gb_take _ _ _ (by omega), gb_take _ _ _ (by omega), gb_take _ _ _ (by omega)]
theorem next_take {l : List Int} (hb : Byt l) (m : Nat) : nextS (l.take m) = if (nextS l).2 ≤ m then nextS l else (0, 0) := by
  have hb' := byt_take hb m
  rcases next_has hb' with h0 | ⟨n, hl, h1, h4, hv⟩
  · rw [h0]
    split
    · rename_i hm
      rcases next_has hb with k0 | ⟨n, hl, h1, h4, hv⟩
      · rw [k0]
      · rw [next_is hb n hl hv] at hm
        simp only at hm
        have hv' := (V_take (l := l) (m := m) (n := n) (by omega)).2 hv
        have := next_is hb' n (by rw [List.length_take]; omega) hv'
        rw [h0] at this
        simp at this
        omega
    · rfl
  · rw [List.length_take] at hl
    have e := next_is hb' n (by rw [List.length_take]; omega) hv
    have hv2 := (V_take (l := l) (m := m) (n := n) (by omega)).1 hv
    have e2 := next_is hb n (by omega) hv2
    rw [e, e2, refR_take h1 h4 (by omega)]
    simp only
    rw [if_pos (by omega)]
theorem nx_take {l : List Int} (hb : Byt l) {m k : Nat} : nextS ((l.take m).drop k) = if k + nx l k ≤ m ∨ nx l k = 0 then (rn l k, (nx l k : Int)) else (0, 0) := by
  rw [List.drop_take, next_take (byt_drop hb k), next_eq]
  simp only
  by_cases h0 : nx l k = 0
  · rw [if_pos (Or.inr h0), h0]
    simp
  · by_cases h : k + nx l k ≤ m
    · rw [if_pos (by omega), if_pos (Or.inl h)]
    · rw [if_neg (by omega), if_neg (by omega)]
theorem nx_take_in {l : List Int} (hb : Byt l) {m k : Nat} (h : k + nx l k ≤ m) : nx (l.take m) k = nx l k ∧ rn (l.take m) k = rn l k := by
  unfold nx rn
  rw [nx_take hb, if_pos (Or.inl h)]
  exact ⟨rfl, rfl⟩
theorem nx_take_out {l : List Int} (hb : Byt l) {m k : Nat} (h : ¬ k + nx l k ≤ m) : nx (l.take m) k = 0 := by
  by_cases h0 : nx l k = 0
  · show (nextS ((l.take m).drop k)).2.toNat = 0
    rw [nx_take hb, if_pos (Or.inr h0), h0]; rfl
  · show (nextS ((l.take m).drop k)).2.toNat = 0
    rw [nx_take hb, if_neg (by omega)]; rfl
/-- The line and the column behind code points. -/
def lc : List Int → Int → Int → Int × Int
  | [], n, c => (n, c)
  | r :: ps, n, c => if r = 10 then lc ps (n + 1) 1 else lc ps n (c + 1)
theorem lc_bd (ps : List Int) (n c : Int) (h : 0 ≤ n) (k : 0 ≤ c) : 0 ≤ (lc ps n c).1 ∧ (lc ps n c).1 ≤ n + ps.length ∧ 0 ≤ (lc ps n c).2 ∧ (lc ps n c).2 ≤ c + 1 + ps.length := by
  induction ps generalizing n c with
  | nil => simp [lc]; omega
  | cons r ps ih =>
    simp only [lc, List.length_cons]
    split
    · have := ih (n + 1) 1 (by omega) (by omega); omega
    · have := ih n (c + 1) (by omega) (by omega); omega
theorem lc_snoc (ps : List Int) (r n c : Int) : lc (ps ++ [r]) n c = if r = 10 then ((lc ps n c).1 + 1, 1) else ((lc ps n c).1, (lc ps n c).2 + 1) := by
  induction ps generalizing n c with
  | nil => simp only [List.nil_append, lc]
  | cons p ps ih => simp only [List.cons_append, lc]; split <;> exact ih _ _
end Go.Proofs.Ytclehkgnacekkaa

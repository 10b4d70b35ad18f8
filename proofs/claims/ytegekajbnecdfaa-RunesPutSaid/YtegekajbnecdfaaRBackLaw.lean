/- Layer 1: bytes that were put are read again. Plain laws. -/
import Derived.Test.YtegekajbnecdfaaRScan
namespace Go.Proofs.Ytegekajbnecdfaa
open Go.RowKit
theorem byt_bytes {r : Int} (h : isB r = true) : Byt (bytesS r) := by
  rw [isB_iff] at h
  refine bytes_cases r ?_ ?_ ?_ ?_ <;> (intros; rename_i e; rw [e]; intro x hx; simp at hx; omega)
theorem byt_append {l m : List Int} (h : Byt l) (k : Byt m) : Byt (l ++ m) := fun x hx => by
  rcases List.mem_append.1 hx with hx | hx
  · exact h x hx
  · exact k x hx
theorem bytes_len (r : Int) : 1 ≤ (bytesS r).length ∧ (bytesS r).length ≤ 4 := by
  refine bytes_cases r ?_ ?_ ?_ ?_ <;> (intros; rename_i e; rw [e]; simp)
/-- What was put is read again, whatever stands behind. -/
theorem next_bytes {r : Int} (h : isB r = true) {rest : List Int} (hr : Byt rest) : nextS (bytesS r ++ rest) = (r, ((bytesS r).length : Int)) := by
  have hb := byt_append (byt_bytes h) hr
  have hl := bytes_len r
  have hR : refR (bytesS r ++ rest) (bytesS r).length = r := by
    have h' := (isB_iff r).1 h
    refine bytes_cases r ?_ ?_ ?_ ?_ <;> intros <;> rename_i e <;> rw [e]
    · simp [refR, refS, offZ, gb]
    · simp [refR, refS, offZ, gb]; omega
    · simp [refR, refS, offZ, gb]; omega
    · simp [refR, refS, offZ, gb]; omega
  have ht : trialB (bytesS r ++ rest) (bytesS r).length = true := by
    unfold trialB
    rw [hR, h, List.take_left]
    simp
  have := trial_won hb hl.1 hl.2 (by simp) ht
  rw [hR] at this
  exact this
/-- The bytes of code points, one behind the other. -/
def encS (K : List Int) : List Int := K.flatMap bytesS
theorem encS_cons (r : Int) (K : List Int) : encS (r :: K) = bytesS r ++ encS K := rfl
theorem encS_snoc (K : List Int) (r : Int) : encS (K ++ [r]) = encS K ++ bytesS r := by unfold encS; simp
theorem encS_append (K L : List Int) : encS (K ++ L) = encS K ++ encS L := by unfold encS; simp
theorem encS_len (K : List Int) : (encS K).length ≤ 4 * K.length := by
  induction K with
  | nil => simp [encS]
  | cons r K ih => rw [encS_cons]; have := bytes_len r; simp; omega
theorem byt_enc {K : List Int} (h : ∀ r ∈ K, isB r = true) : Byt (encS K) := by
  induction K with
  | nil => intro x hx; simp [encS] at hx
  | cons r K ih => rw [encS_cons]; exact byt_append (byt_bytes (h r (by simp))) (ih fun x hx => h x (by simp [hx]))
theorem next_enc {K : List Int} (h : ∀ r ∈ K, isB r = true) {j : Nat} (hj : j < K.length) :
    rn (encS K) (encS (K.take j)).length = gb K j ∧ nx (encS K) (encS (K.take j)).length = (bytesS (gb K j)).length ∧ (encS (K.take (j + 1))).length = (encS (K.take j)).length + (bytesS (gb K j)).length := by
  have e : (encS K).drop (encS (K.take j)).length = bytesS (gb K j) ++ encS (K.drop (j + 1)) := by
    have h1 : K = K.take j ++ (gb K j :: K.drop (j + 1)) := by
      have := List.drop_eq_getElem_cons hj
      rw [show K[j] = gb K j from by unfold gb; simp [hj]] at this
      rw [← this, List.take_append_drop]
    have h2 : encS K = encS (K.take j) ++ (bytesS (gb K j) ++ encS (K.drop (j + 1))) := by
      conv => lhs; rw [h1]
      rw [encS_append, encS_cons]
    rw [h2, List.drop_left]
  have hn := next_bytes (h _ (gb_mem hj)) (rest := encS (K.drop (j + 1))) (byt_enc fun r hr => h r (List.mem_of_mem_drop hr))
  rw [← e] at hn
  refine ⟨by unfold rn; rw [hn], by unfold nx; rw [hn]; simp, ?_⟩
  rw [take_gb hj, encS_snoc, List.length_append]
theorem scan_enc (K : List Int) (h : ∀ r ∈ K, isB r = true) (n : Nat) : ∀ j, K.length - j = n → j ≤ K.length → wrongS (encS K) (encS (K.take j)).length = -1 ∧ pointsS (encS K) (encS (K.take j)).length = K.drop j := by
  induction n with
  | zero =>
    intro j h1 h2
    have e : j = K.length := by omega
    subst e
    rw [List.take_length]
    exact ⟨wrong_end (Nat.le_refl _), by rw [points_end (Nat.le_refl _), List.drop_length]⟩
  | succ n ih =>
    intro j h1 h2
    have hj : j < K.length := by omega
    obtain ⟨e1, e2, e3⟩ := next_enc h hj
    have hl := bytes_len (gb K j)
    have hle : (encS (K.take (j + 1))).length ≤ (encS K).length := by
      have := encS_append (K.take (j + 1)) (K.drop (j + 1))
      rw [List.take_append_drop] at this
      rw [this, List.length_append]; omega
    obtain ⟨i1, i2⟩ := ih (j + 1) (by omega) (by omega)
    rw [wrong_step (by omega) (by omega), points_step (by omega) (by omega), e1, e2, ← e3]
    refine ⟨i1, ?_⟩
    rw [i2]
    have := List.drop_eq_getElem_cons hj
    rw [show K[j] = gb K j from by unfold gb; simp [hj]] at this
    exact this.symm
theorem enc_all (K : List Int) (h : ∀ r ∈ K, isB r = true) : wrongS (encS K) 0 = -1 ∧ pointsS (encS K) 0 = K := by
  have := scan_enc K h _ 0 rfl (Nat.zero_le _)
  simpa [encS] using this
/-- The code points among the first numbers. -/
def keptS (l : List Int) (i : Nat) : List Int := (l.take i).filter isB
theorem kept_succ {l : List Int} {i : Nat} (h : i < l.length) : keptS l (i + 1) = if isB (gb l i) then keptS l i ++ [gb l i] else keptS l i := by
  unfold keptS
  rw [take_gb h, List.filter_append]
  by_cases b : isB (gb l i) = true
  · rw [if_pos b]; simp [b]
  · rw [if_neg b]; simp [b]
theorem kept_ok (l : List Int) (i : Nat) : ∀ r ∈ keptS l i, isB r = true := fun _ hr => (List.mem_filter.1 hr).2
theorem kept_len (l : List Int) (i : Nat) : (keptS l i).length ≤ i := by
  unfold keptS
  have := List.length_filter_le isB (l.take i)
  have := List.length_take_le i l
  omega
end Go.Proofs.Ytegekajbnecdfaa

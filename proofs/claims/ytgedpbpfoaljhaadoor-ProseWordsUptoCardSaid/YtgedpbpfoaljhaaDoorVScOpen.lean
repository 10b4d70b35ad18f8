/- Scalars handed to a law, opened. -/
import Derived.Test.YtgedpbpfoaljhaaDoorVOpen
set_option linter.unusedVariables false
set_option linter.unusedSimpArgs false
namespace Go.Proofs.YtgedpbpfoaljhaaDoor.Vm
open Go.RowKit
theorem open_int {P : Program} {t : Nat} {k : IntKind} {r : R} {m : Nat} (ht : P.underlying t = some (.int k)) (h : DeepR P t r m) : ∃ n, r = .one (.sc (.int k n)) ∧ (Lit.int k n).wf = true := by
  obtain ⟨x, rfl, h2⟩ := h.one (fun fs => by rw [ht]; simp)
  obtain ⟨n, e, hw, _⟩ := h2.unint ht
  cases e
  exact ⟨n, rfl, hw⟩
theorem open_bool {P : Program} {t : Nat} {r : R} {m : Nat} (ht : P.underlying t = some .bool) (h : DeepR P t r m) : ∃ b, r = .one (.sc (.bool b)) := by
  obtain ⟨x, rfl, h2⟩ := h.one (fun fs => by rw [ht]; simp)
  obtain ⟨n, e, _⟩ := h2.unbool ht
  cases e
  exact ⟨n, rfl⟩
theorem open_str {P : Program} {t : Nat} {r : R} {m : Nat} (ht : P.underlying t = some .string) (h : DeepR P t r m) : ∃ s : ByteArray, r = .one (.sc (.string s)) ∧ s.size ≤ maxLen ∧ m = s.size + 1 := by
  obtain ⟨x, rfl, h2⟩ := h.one (fun fs => by rw [ht]; simp)
  obtain ⟨n, e, hw, hm⟩ := h2.unstr ht
  cases e
  exact ⟨n, rfl, hw, hm⟩
end Go.Proofs.YtgedpbpfoaljhaaDoor.Vm

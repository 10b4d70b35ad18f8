/- Layer 2: tokens of the call's own as tokens that lie somewhere; the example. -/
import Derived.Test.YtegekajbnecdfaaLSame
namespace Go.Proofs.Ytegekajbnecdfaa
open Go.RowKit
theorem flat_get : ∀ (ts : List Tok) (i : Nat) (t : Tok) (j : Nat), ts[i]? = some t → j < 4 → (ts.flatMap Tok.cells)[i * 4 + j]? = t.cells[j]?
  | [], i, t, j, h, _ => by simp at h
  | s :: ss, 0, t, j, h, hj => by
    simp at h
    subst h
    rw [List.flatMap_cons, List.getElem?_append_left (by simp [Tok.cells]; omega)]
    simp
  | s :: ss, i + 1, t, j, h, hj => by
    have h' : ss[i]? = some t := by simpa using h
    rw [List.flatMap_cons, List.getElem?_append_right (by simp [Tok.cells]; omega), ← flat_get ss i t j h' hj]
    congr 1
    simp [Tok.cells]; omega
theorem flat_len : ∀ ts : List Tok, (ts.flatMap Tok.cells).length = ts.length * 4
  | [] => rfl
  | t :: ts => by
    rw [List.flatMap_cons, List.length_append, flat_len ts, List.length_cons]
    show 4 + _ = _
    omega
theorem OwnT.toks {w : World} {base : Nat} {v : Value} {ts : List Tok} (h : OwnT w base v ts) : ∃ A cap, v = .slice A ts.length cap ∧ ToksAt w A ts := by
  have hl := flat_len ts
  rcases h.2 with ⟨rfl, h0⟩ | ⟨g, cap, cur, rfl, hg, hh, h1, h2, h3, h4⟩
  · exact ⟨none, 0, by rw [h0], .inl (List.eq_nil_of_length_eq_zero h0)⟩
  · refine ⟨_, cap, rfl, .inr ⟨g, 0, rfl, (Array.getElem?_eq_some_iff.1 hh).1, fun i t hi => ?_⟩⟩
    have hlt : i < ts.length := (List.getElem?_eq_some_iff.1 hi).1
    have key : ∀ j, j < 4 → w.cell? ⟨g, i * 4 + j, none⟩ = t.cells[j]? := fun j hj => by
      rw [World.ownsRow.cellAt h (i * 4 + j) (by omega), flat_get ts i t j hi hj]
    simp only [Nat.zero_add]
    exact ⟨key 0 (by omega), key 1 (by omega), key 2 (by omega), key 3 (by omega)⟩
/-- The chapter's example, and its tokens. -/
def aliveL : List Int := [120, 61, 62, 49, 32, 35, 32, 111, 110, 101]
def aliveT : List Tok := [⟨1, ⟨#[120]⟩, 0, 0⟩, ⟨3, ⟨#[61, 62]⟩, 0, 1⟩, ⟨2, ⟨#[]⟩, 1, 3⟩, ⟨4, ⟨#[]⟩, 0, 10⟩]
theorem alive_scan : (scanS aliveL 0 false []).2 = (0, 0) ∧ sameB (scanS aliveL 0 false []).1 aliveT = true := by decide +kernel
end Go.Proofs.Ytegekajbnecdfaa

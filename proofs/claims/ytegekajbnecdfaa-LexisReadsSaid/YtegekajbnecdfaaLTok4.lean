/- Layer 2: token, whole. -/
import Derived.Test.YtegekajbnecdfaaLTok3
import Derived.Test.YtegekajbnecdfaaApp
namespace Go.Proofs.Ytegekajbnecdfaa
open Go.RowKit
theorem token_any (g len cap a : Nat) (A : Option Addr) (l : List Int) (w : World) (hl : l.length = len) (hcap : len ≤ cap) (hm : cap ≤ 9223372036854775807) (hb : Byt l) (hs : SliceAt w .u8 A l) (hne : ∀ b off, A = some ⟨b, off, none⟩ → l ≠ [] → b ≠ g)
    (hg : Scn w g A len cap a) (ha : a < len) (hbl : blankB (gb l a) = false) (h35 : gb l a ≠ 35) :
    Calls Try.prog 57 #[.pointer (some ⟨g, 0, none⟩)] w (TokLeft w g A len cap a l) := by
  obtain ⟨b, off, rfl, hlb, hc⟩ := hs.cells (by omega)
  cases hr : runsB (gb l a)
  · by_cases hz : signS (l.drop a) = 0
    · exact token_none g len cap a b off l w hl hcap hm hb hc hlb hg ha hbl h35 hr hz
    · exact token_sign g len cap a b off l w hl hcap hm hb hc hlb hg ha hbl h35 hr hz
  · exact token_run g len cap a b off l w hl hcap hm hb hc hlb (hne b off rfl (by rintro rfl; simp at hl; omega)) hg ha hr
/-- A slice of the call's own that holds tokens. -/
def OwnT (w : World) (base : Nat) (v : Value) (ts : List Tok) : Prop := w.ownsRow base 67 4 v ts.length (ts.flatMap Tok.cells)
section
variable {w w' : World} {base : Nat} {v : Value} {ts : List Tok}
theorem OwnT.below (h : OwnT w base v ts) (hb : Below w.heap.size w w') : OwnT w' base v ts := by
  refine ⟨h.1, ?_⟩
  rcases h.2 with h2 | ⟨g, cap, cur, hv, hg, hh, r⟩
  · exact .inl h2
  · exact .inr ⟨g, cap, cur, hv, hg, (hb.block g (Array.getElem?_eq_some_iff.1 hh).1).trans hh, r⟩
theorem OwnT.kept {row : Option Nat} (h : OwnT w base v ts) (hg : w.grownBy w' row) (hne : v.ownBlock = none ∨ v.ownBlock ≠ row) : OwnT w' base v ts := World.ownsRow.kept h hg hne
theorem OwnT.nil (w : World) (base : Nat) : OwnT w base (.slice none 0 0) [] := World.ownsRow_nil _ _ _ _
theorem OwnT.alloc (h : OwnT w base v ts) (o : Obj) : OwnT (w.alloc o) base v ts := World.ownsRow.alloc h o
theorem OwnT.one {t : Tok} (h : w'.ownsRow base 67 4 v (ts.length + 1) (ts.flatMap Tok.cells ++ t.cells)) : OwnT w' base v (ts ++ [t]) := by
  unfold OwnT
  rw [List.length_append, List.flatMap_append]
  simpa using h
theorem OwnT.mono {base' : Nat} (h : OwnT w base v ts) (hb : base' ≤ base) : OwnT w base' v ts := by
  refine ⟨h.1, ?_⟩
  rcases h.2 with h2 | ⟨g, cap, cur, hv, hg, r⟩
  · exact .inl h2
  · exact .inr ⟨g, cap, cur, hv, by omega, r⟩
end
end Go.Proofs.Ytegekajbnecdfaa

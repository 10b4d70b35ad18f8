/- Rows of numbers in memory: what a walk is told of them, and what keeps it. No program in sight. -/
import Derived.WalkKit
import Derived.Lib.Hide
import Derived.Deep.Draws
namespace Go.Proofs.YtgedpbpfoaljhaaDoor
open Go.RowKit
def gb (l : List Int) (i : Nat) : Int := l.getD i 0
theorem gb_drop (l : List Int) (a i : Nat) : gb (l.drop a) i = gb l (a + i) := by
  unfold gb; simp [List.getElem?_drop]
theorem gb_take (l : List Int) (a i : Nat) (h : i < a) : gb (l.take a) i = gb l i := by
  unfold gb; simp [h]
theorem gb_get {l : List Int} {i : Nat} (h : i < l.length) : l[i]? = some (gb l i) := by unfold gb; simp [h]
theorem gb_append_left {l m : List Int} {i : Nat} (h : i < l.length) : gb (l ++ m) i = gb l i := by unfold gb; simp [List.getElem?_append_left h]
theorem gb_append_right {l m : List Int} {i : Nat} (h : l.length ≤ i) : gb (l ++ m) i = gb m (i - l.length) := by unfold gb; simp [List.getElem?_append_right h]
theorem take_gb {l : List Int} {k : Nat} (h : k < l.length) : l.take (k + 1) = l.take k ++ [gb l k] := by
  rw [List.take_succ_eq_append_getElem h]; unfold gb; simp [h]
theorem gb_mem {l : List Int} {i : Nat} (h : i < l.length) : gb l i ∈ l := List.mem_of_getElem? (gb_get h)
/-- A row of numbers in memory: block b, from place off on. -/
def CellsAt (w : World) (k : IntKind) (b off : Nat) (l : List Int) : Prop := ∀ i, i < l.length → w.cell? ⟨b, off + i, none⟩ = some (.int k (gb l i))
/-- A slice of numbers in memory, nil and empty let in. -/
def SliceAt (w : World) (k : IntKind) (A : Option Addr) (l : List Int) : Prop := l = [] ∨ ∃ b off, A = some ⟨b, off, none⟩ ∧ b < w.heap.size ∧ CellsAt w k b off l
theorem cells_drop {w : World} {k : IntKind} {b off : Nat} {l : List Int} (h : CellsAt w k b off l) (n : Nat) : CellsAt w k b (off + n) (l.drop n) := fun i hi => by
  rw [List.length_drop] at hi
  rw [gb_drop, Nat.add_assoc]
  exact h (n + i) (by omega)
theorem cells_take {w : World} {k : IntKind} {b off : Nat} {l : List Int} (h : CellsAt w k b off l) (n : Nat) : CellsAt w k b off (l.take n) := fun i hi => by
  rw [List.length_take] at hi
  rw [gb_take _ _ _ (by omega)]
  exact h i (by omega)
theorem cells_new (w : World) (k : IntKind) (t : TypeId) (l : List Int) : CellsAt (w.alloc (.cells (l.map (Value.int k)).toArray t)) k w.heap.size 0 l := fun i hi => by
  rw [World.cell?_alloc_new]
  simp [gb, hi]
theorem cells_new_at (w : World) (k : IntKind) (t : TypeId) (l : List Int) {n : Nat} (h : n = w.heap.size) : CellsAt (w.alloc (.cells (l.map (Value.int k)).toArray t)) k n 0 l := by subst h; exact cells_new w k t l
section
variable {w w' : World} {k : IntKind} {b off : Nat} {l : List Int} {A : Option Addr}
theorem CellsAt.keep (h : CellsAt w k b off l) (hk : ∀ i, w'.cell? ⟨b, i, none⟩ = w.cell? ⟨b, i, none⟩) : CellsAt w' k b off l := fun i hi => (hk _).trans (h i hi)
theorem CellsAt.below {B : Nat} (h : CellsAt w k b off l) (hb : Below B w w') (hB : b < B) : CellsAt w' k b off l := h.keep fun i => hb.cell (p := ⟨b, i, none⟩) hB
theorem CellsAt.alloc (h : CellsAt w k b off l) (hB : b < w.heap.size) (o : Obj) : CellsAt (w.alloc o) k b off l := h.keep fun i => World.cell?_alloc_lt w o ⟨b, i, none⟩ hB
theorem CellsAt.drew (h : CellsAt w k b off l) : CellsAt w.drew k b off l := h
theorem CellsAt.drewN (h : CellsAt w k b off l) (n : Nat) : CellsAt (w.drewN n) k b off l := h
theorem CellsAt.grown {row : Option Nat} (h : CellsAt w k b off l) (hg : w.grownBy w' row) (hB : b < w.heap.size) (hr : row ≠ some b) : CellsAt w' k b off l :=
  h.keep fun _ => World.cell?_of_block (hg.block b hB (fun e => hr e.symm))
theorem SliceAt.below {B : Nat} (h : SliceAt w k A l) (hb : Below B w w') (hB : ∀ b off, A = some ⟨b, off, none⟩ → b < B) : SliceAt w' k A l := by
  rcases h with h | ⟨b, off, rfl, hlt, hc⟩
  · exact .inl h
  · exact .inr ⟨b, off, rfl, Nat.lt_of_lt_of_le hlt hb.size, hc.below hb (hB _ _ rfl)⟩
theorem SliceAt.below_all (h : SliceAt w k A l) (hb : Below w.heap.size w w') : SliceAt w' k A l := by
  rcases h with h | ⟨b, off, rfl, hlt, hc⟩
  · exact .inl h
  · exact .inr ⟨b, off, rfl, Nat.lt_of_lt_of_le hlt hb.size, hc.below hb hlt⟩
theorem SliceAt.drewN (h : SliceAt w k A l) (n : Nat) : SliceAt (w.drewN n) k A l := h
theorem SliceAt.alloc (h : SliceAt w k A l) (o : Obj) : SliceAt (w.alloc o) k A l := h.below_all ((Below.refl _ _).alloc (Nat.le_refl _) o)
theorem SliceAt.cells (h : SliceAt w k A l) (hl : 0 < l.length) : ∃ b off, A = some ⟨b, off, none⟩ ∧ b < w.heap.size ∧ CellsAt w k b off l := by
  rcases h with rfl | h
  · simp at hl
  · exact h
end
/-- What the kit's shell tells of a slice of numbers that came in. -/
theorem sliceAt_of_row {w : World} {k : IntKind} {a : Option Addr} {len cap : Nat} {zs : List Int}
    (h : (a = none ∧ len = 0 ∧ cap = 0 ∧ zs = []) ∨ ∃ x, a = some x ∧ len ≤ cap ∧ cap ≤ maxLen ∧ zs.length = cap ∧ (∀ i, i < zs.length → w.cell? (x.add i) = some (.int k (zs.getD i 0))) ∧ ∀ n ∈ zs, (Lit.int k n).wf = true) :
    len ≤ cap ∧ cap ≤ maxLen ∧ (zs.take len).length = len ∧ (∀ n ∈ zs.take len, (Lit.int k n).wf = true) ∧ SliceAt w k a (zs.take len) := by
  rcases h with ⟨rfl, rfl, rfl, rfl⟩ | ⟨x, rfl, h1, h2, h3, h4, h5⟩
  · exact ⟨Nat.le_refl _, by unfold maxLen; omega, rfl, by simp, .inl rfl⟩
  · refine ⟨h1, h2, by rw [List.length_take]; omega, fun n hn => h5 n (List.mem_of_mem_take hn), ?_⟩
    by_cases h0 : len = 0
    · exact .inl (by rw [h0]; rfl)
    · obtain ⟨b, off, spot⟩ := x
      have hc0 := h4 0 (by omega)
      have hspot : spot = none := by simpa [Addr.add] using World.cell?_spot hc0
      subst hspot
      refine .inr ⟨b, off, rfl, ?_, fun i hi => ?_⟩
      · have := World.block_lt_of_cell? w _ hc0
        simpa [Addr.add] using this
      · rw [List.length_take] at hi
        have := h4 i (by omega)
        rw [gb_take _ _ _ (by omega)]
        unfold gb
        rw [← this]
        unfold Addr.add
        by_cases hi0 : i = 0
        · subst hi0; simp
        · simp [hi0]
theorem below_drewN {B : Nat} {a w : World} (h : Below B a w) (n : Nat) : Below B a (w.drewN n) := ⟨h.os, h.tape, h.output, h.size, h.block⟩
theorem below_of_drewN {B : Nat} {a w : World} {n : Nat} (h : Below B (a.drewN n) w) : Below B a w := ⟨h.os, h.tape, h.output, h.size, h.block⟩
theorem retInt {k : IntKind} {a b : Int} (h : a = b) : Ending.returned (.int k a) = .returned (.int k b) := by rw [h]
theorem retBool {a b : Bool} (h : a = b) : Ending.returned (.bool a) = .returned (.bool b) := by rw [h]
theorem ret2c {u v u' v' : Value} (h : u = u') (k : v = v') : Ending.returned (.tuple #[u, v]) = .returned (.tuple #[u', v']) := by rw [h, k]
theorem ret3c {u v x u' v' x' : Value} (h : u = u') (k : v = v') (m : x = x') : Ending.returned (.tuple #[u, v, x]) = .returned (.tuple #[u', v', x']) := by rw [h, k, m]
theorem intc {k : IntKind} {a b : Int} (h : a = b) : Value.int k a = .int k b := by rw [h]
theorem boolc {a b : Bool} (h : a = b) : Value.bool a = .bool b := by rw [h]
end Go.Proofs.YtgedpbpfoaljhaaDoor

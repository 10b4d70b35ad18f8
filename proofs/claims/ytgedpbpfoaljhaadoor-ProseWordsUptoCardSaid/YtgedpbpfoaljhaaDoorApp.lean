/- append of a slice of numbers (nil, empty or not) behind a slice of the call's own; behind the guide's law on an owned row. -/
import Derived.Test.YtgedpbpfoaljhaaDoorBlk
import Derived.Maps.AppendAt
import Derived.Deep.AppendLies
import Derived.RegionTactic
import Derived.OwnWalk
import Derived.WalkSpells
namespace Go.Proofs.YtgedpbpfoaljhaaDoor
open Go.RowKit
theorem cells_add {w : World} {k : IntKind} {b off : Nat} {l : List Int} (h : CellsAt w k b off l) (j : Nat) (u : Value) (hu : (l.map (Value.int k))[j]? = some u) : w.cell? ((⟨b, off, none⟩ : Addr).add j) = some u := by
  have hj : j < l.length := by
    have := (List.getElem?_eq_some_iff.1 hu).1
    simpa using this
  have e : u = .int k (gb l j) := by
    rw [List.getElem?_map, gb_get hj] at hu
    simp at hu
    exact hu.symm
  rw [e, ← h j hj]
  unfold Addr.add
  by_cases h0 : j = 0
  · subst h0; simp
  · simp [h0]
section
variable {P : Program} (w : World)
theorem run_append_src (base : Nat) (t ty e : TypeId) (i : TypeInfo) (z : Value) (bytes : Nat) (ht : P.underlying t = some (.slice e)) (hi : P.info? e = some i) (hz : i.zero = some z)
    (hsize : i.size = 1) (hby : i.bytes = bytes) (hzs : z.cells.size = 1) (v : Value) (n : Nat) (xs : List Value) (hown : w.ownsRow base e 1 v n xs)
    (A : Option Addr) (m c : Nat) (k : IntKind) (l : List Int) (hl : l.length = m) (hs : SliceAt w k A l) (h63 : n + m ≤ maxLen) (hbytes : (n + m) * bytes ≤ 140737488355328) (hbase : base ≤ w.heap.size) :
    ∃ v' w', (Builtin.append_ #[t, t] ty #[v, .slice A m c]).run P w = .ok v' w' ∧ w'.ownsRow base e 1 v' (n + m) (xs ++ l.map (Value.int k)) ∧ w.grownBy w' v.ownBlock := by
  have h1 : ∀ u ∈ l.map (Value.int k), u.oneCell' = true := fun u hu => by
    obtain ⟨x, _, rfl⟩ := List.mem_map.1 hu
    rfl
  rcases A with _ | ad
  · have hnil : l = [] := by
      rcases hs with h | ⟨_, _, h, _⟩
      · exact h
      · cases h
    subst hnil
    simp at hl
    subst hl
    refine ⟨v, w, ?_, by simpa using hown, World.grownBy.refl w _⟩
    rcases hown.2 with ⟨rfl, rfl⟩ | ⟨g, cap, cur, rfl, _, _, hnc, _⟩
    · simp [Builtin.append_, run_underlying ht, sizeOf, typeInfo, hi, Builtin.lenOf, Builtin.firstCells]
    · simp [Builtin.append_, run_underlying ht, sizeOf, typeInfo, hi, Builtin.lenOf, Builtin.firstCells, hnc, storeCells]
  · have hcells : ∀ j u, (l.map (Value.int k))[j]? = some u → w.cell? (ad.add j) = some u := by
      rcases hs with rfl | ⟨b, off, e1, _, hc⟩
      · intro j u hu; simp at hu
      · injection e1 with e1
        subst e1
        exact cells_add hc
    obtain ⟨v', w', hrun, h2, h3, _, _⟩ := run_append_own_at (P := P) w base t ty e i z 1 bytes ht hi hz hsize hby hzs (by omega) v n xs hown ad m c (l.map (Value.int k)) (by simp [hl]) hcells h1 h63 hbytes hbase
    exact ⟨v', w', hrun, h2, h3⟩
theorem wp_append_src {o : Oper} {a : Act} {K : Act → World → Prop} {Q : Exit → Act → World → Prop} (s x : Operand) (t : TypeId)
    (ho : o.op = .call { callee := .builtin .append, args := #[s, x], argTypes := #[t, t] })
    (base : Nat) (e : TypeId) (i : TypeInfo) (z : Value) (bytes : Nat) (ht : P.underlying t = some (.slice e)) (hi : P.info? e = some i) (hz : i.zero = some z)
    (hsize : i.size = 1) (hby : i.bytes = bytes) (hzs : z.cells.size = 1) (v : Value) (n : Nat) (xs : List Value) (hv : a.eval s = v) (hown : w.ownsRow base e 1 v n xs)
    (A : Option Addr) (m c : Nat) (k : IntKind) (l : List Int) (hx : a.eval x = .slice A m c) (hl : l.length = m) (hs : SliceAt w k A l) (h63 : n + m ≤ maxLen) (hbytes : (n + m) * bytes ≤ 140737488355328) (hbase : base ≤ w.heap.size)
    (h : ∀ v' w', w'.ownsRow base e 1 v' (n + m) (xs ++ l.map (Value.int k)) → w.grownBy w' v.ownBlock → K (a.put o.dst v') w') : o.wp P a w K Q := by
  obtain ⟨v', w', hrun, h2, h3⟩ := run_append_src (P := P) w base t o.type e i z bytes ht hi hz hsize hby hzs v n xs hown A m c k l hl hs h63 hbytes hbase
  unfold Oper.wp execOp
  simp only [ho, resolve, invoke, builtin, Sem.run_bind, Sem.run_pure, Result.andThen_ok, List.map_toArray, List.map_cons, List.map_nil, hv, hx, hrun]
  exact h v' w' h2 h3
theorem wpList_append_src {ops : Array Oper} {rest : List Oper} {o : Oper} {a : Act} {Q : Exit → Act → World → Prop} (hgd : o.guard = none) (s x : Operand) (t : TypeId)
    (ho : o.op = .call { callee := .builtin .append, args := #[s, x], argTypes := #[t, t] })
    (base : Nat) (e : TypeId) (i : TypeInfo) (z : Value) (bytes : Nat) (ht : P.underlying t = some (.slice e)) (hi : P.info? e = some i) (hz : i.zero = some z)
    (hsize : i.size = 1) (hby : i.bytes = bytes) (hzs : z.cells.size = 1) (v : Value) (n : Nat) (xs : List Value) (hv : a.eval s = v) (hown : w.ownsRow base e 1 v n xs)
    (A : Option Addr) (m c : Nat) (k : IntKind) (l : List Int) (hx : a.eval x = .slice A m c) (hl : l.length = m) (hs : SliceAt w k A l) (h63 : n + m ≤ maxLen) (hbytes : (n + m) * bytes ≤ 140737488355328) (hbase : base ≤ w.heap.size)
    (h : ∀ v' w', w'.ownsRow base e 1 v' (n + m) (xs ++ l.map (Value.int k)) → w.grownBy w' v.ownBlock → wpList P ops Q rest (a.put o.dst v') w') : wpList P ops Q (o :: rest) a w :=
  wpList_plain hgd fun _ hK => wp_append_src w s x t ho base e i z bytes ht hi hz hsize hby hzs v n xs hv hown A m c k l hx hl hs h63 hbytes hbase fun v' w' h2 h3 => hK _ _ (h v' w' h2 h3)
theorem step_append_src {ops : Array Oper} {o : Oper} {a : Act} {K : Act → World → Prop} {Q : Exit → Act → World → Prop} {E : Prop} (hgd : o.guard = none) (s x : Operand) (t : TypeId)
    (ho : o.op = .call { callee := .builtin .append, args := #[s, x], argTypes := #[t, t] })
    (base : Nat) (e : TypeId) (i : TypeInfo) (z : Value) (bytes : Nat) (ht : P.underlying t = some (.slice e)) (hi : P.info? e = some i) (hz : i.zero = some z)
    (hsize : i.size = 1) (hby : i.bytes = bytes) (hzs : z.cells.size = 1) (v : Value) (n : Nat) (xs : List Value) (hv : a.eval s = v) (hown : w.ownsRow base e 1 v n xs)
    (A : Option Addr) (m c : Nat) (k : IntKind) (l : List Int) (hx : a.eval x = .slice A m c) (hl : l.length = m) (hs : SliceAt w k A l) (h63 : n + m ≤ maxLen) (hbytes : (n + m) * bytes ≤ 140737488355328) (hbase : base ≤ w.heap.size)
    (h : ∀ v' w', w'.ownsRow base e 1 v' (n + m) (xs ++ l.map (Value.int k)) → w.grownBy w' v.ownBlock → K (a.put o.dst v') w') :
    if Region.wanted o (yielded ops a.tmps) = true then Oper.wp P o a w K Q else E := by
  have hw : Region.wanted o (yielded ops a.tmps) = true := by simp [Region.wanted, hgd]
  rw [if_pos hw]
  exact wp_append_src w s x t ho base e i z bytes ht hi hz hsize hby hzs v n xs hv hown A m c k l hx hl hs h63 hbytes hbase h
end
/-- A slice of the call's own that holds a list of numbers. -/
def Own (w : World) (base : Nat) (t : TypeId) (k : IntKind) (v : Value) (ps : List Int) : Prop := w.ownsRow base t 1 v ps.length (ps.map (Value.int k))
section
variable {w w' : World} {base : Nat} {t : TypeId} {k : IntKind} {v : Value} {ps : List Int}
theorem Own.slice (h : Own w base t k v ps) : ∃ A cap, v = .slice A ps.length cap ∧ ps.length ≤ cap ∧ cap ≤ maxLen ∧ SliceAt w k A ps := by
  rcases h.2 with ⟨rfl, h0⟩ | ⟨g, cap, cur, rfl, hg, hh, h1, h2, h3, h4⟩
  · exact ⟨none, 0, by rw [h0], by omega, by unfold maxLen; omega, .inl (List.eq_nil_of_length_eq_zero h0)⟩
  · refine ⟨_, cap, rfl, h1, h2, .inr ⟨g, 0, rfl, ?_, fun i hi => ?_⟩⟩
    · exact (Array.getElem?_eq_some_iff.1 hh).1
    · have := h.cellAt i (by rw [Nat.mul_one]; exact hi)
      rw [Nat.zero_add, this]
      simp [gb, hi]
theorem Own.below (h : Own w base t k v ps) (hb : Below w.heap.size w w') : Own w' base t k v ps := by
  refine ⟨h.1, ?_⟩
  rcases h.2 with h2 | ⟨g, cap, cur, hv, hg, hh, r⟩
  · exact .inl h2
  · exact .inr ⟨g, cap, cur, hv, hg, (hb.block g (Array.getElem?_eq_some_iff.1 hh).1).trans hh, r⟩
theorem Own.drew (h : Own w base t k v ps) : Own w.drew base t k v ps := h
theorem Own.alloc (h : Own w base t k v ps) (o : Obj) : Own (w.alloc o) base t k v ps := World.ownsRow.alloc h o
theorem Own.nil (w : World) (base : Nat) (t : TypeId) (k : IntKind) : Own w base t k (.slice none 0 0) [] := World.ownsRow_nil _ _ _ _
theorem Own.ne {base' : Nat} {t' : TypeId} {k' : IntKind} {v' : Value} {ps' : List Int} (h : Own w base t k v ps) (h' : Own w base' t' k' v' ps') (hne : t ≠ t') : v.ownBlock = none ∨ v.ownBlock ≠ v'.ownBlock := by
  rcases h.2 with ⟨rfl, _⟩ | ⟨g, cap, cur, rfl, hg, hh, _⟩
  · exact .inl rfl
  · right
    rcases h'.2 with ⟨rfl, _⟩ | ⟨g', cap', cur', rfl, hg', hh', _⟩
    · simp [Value.ownBlock]
    · simp only [Value.ownBlock, ne_eq, Option.some.injEq]
      rintro rfl
      rw [hh] at hh'
      injection hh' with hh'
      injection hh' with _ ht
      exact hne ht
theorem Own.kept {row : Option Nat} (h : Own w base t k v ps) (hg : w.grownBy w' row) (hne : v.ownBlock = none ∨ v.ownBlock ≠ row) : Own w' base t k v ps := World.ownsRow.kept h hg hne
theorem Own.mono {base' : Nat} (h : Own w base t k v ps) (hb : base' ≤ base) : Own w base' t k v ps := by
  refine ⟨h.1, ?_⟩
  rcases h.2 with h2 | ⟨g, cap, cur, hv, hg, r⟩
  · exact .inl h2
  · exact .inr ⟨g, cap, cur, hv, by omega, r⟩
/-- Behind an append of numbers. -/
theorem Own.app {l : List Int} {m : Nat} (hl : l.length = m) (h : w'.ownsRow base t 1 v (ps.length + m) (ps.map (Value.int k) ++ l.map (Value.int k))) : Own w' base t k v (ps ++ l) := by
  subst hl
  unfold Own
  rw [List.length_append, List.map_append]
  exact h
theorem Own.one {x : Int} (h : w'.ownsRow base t 1 v (ps.length + 1) (ps.map (Value.int k) ++ [.int k x])) : Own w' base t k v (ps ++ [x]) := Own.app (l := [x]) rfl h
theorem Own.lit (w : World) (t : TypeId) (k : IntKind) (l : List Int) (hb : base ≤ w.heap.size) (hm : l.length ≤ maxLen) : Own (w.alloc (.cells (l.map (Value.int k)).toArray t)) base t k (.slice (some ⟨w.heap.size, 0, none⟩) l.length l.length) l := by
  have := World.ownsRow_lit (base := base) (e := t) (size := 1) w (l.map (Value.int k)).toArray l.length hb hm (by simp)
  simpa [Own] using this
/-- What grew, grew above base. -/
theorem Own.grown {w0 w1 w2 : World} {B : Nat} (hb : Below B w0 w1) (h : Own w1 base t k v ps) (hg : w1.grownBy w2 v.ownBlock) (hB : B ≤ base) (hB1 : B ≤ w1.heap.size) : Below B w0 w2 :=
  hb.grown hg hB1 (fun g hk => Nat.le_trans hB (h.lt g hk).1)
end
end Go.Proofs.YtgedpbpfoaljhaaDoor

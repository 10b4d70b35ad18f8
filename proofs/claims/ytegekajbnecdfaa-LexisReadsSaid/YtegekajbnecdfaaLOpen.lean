/- Arguments opened: a slice of structs of one-cell fields (after the guide's extra-structs, section 1), a slice of tokens, a slice of texts. -/
import Derived.Test.YtegekajbnecdfaaLReadWalk
import Derived.Deep.Slices
import Derived.Deep.Fields
import Derived.ChangeSame
import Derived.SliceStrings
import Derived.ProofKit
namespace Go.Proofs.Ytegekajbnecdfaa
open Go.ChangeShapes Go.WideShapes Go.Deep Go.RowKit
section
variable {H : Type} {enc : TypeId × Value → H} {P : Program} {w : World} {base : Nat} {spare : Nat → Bool} {held : Bool}
theorem open_slice_fields {t e : TypeId} {fs : Array Field} {fuel : Nat} {cs : List Value} {x : DataW H × List MemPlace} (ht : P.underlying t = some (.slice e)) (he : P.underlying e = some (.struct fs))
    (hone : oneCellFields P fs = true) (hC : P.cellsOf e = fs.size) (h : DataW.trod enc P w base spare held fuel t cs = some x) :
    (cs = [.slice none 0 0] ∧ x = (.nil, [])) ∨
    ∃ (a : Addr) (len cap m : Nat) (D : Nat → DataW H) (Pl : Nat → List MemPlace), cs = [.slice (some a) len cap] ∧ base ≤ a.block ∧ len ≤ cap ∧ cap ≤ maxLen ∧ m = (if spare a.block then cap else len) ∧
      x = (.slice ((List.range len).map D) ((List.range (m - len)).map fun j => D (len + j)), MemPlace.row a (m * fs.size) ++ (List.range m).flatMap Pl) ∧
      ∀ i, i < m → ∃ (ys : List (DataW H × List MemPlace)) (n : Nat), D i = .agg (ys.map (·.1)) ∧ Pl i = ys.flatMap (·.2) ∧ ys.length = fs.size ∧
        ∀ (j : Nat) (f : Field), fs[j]? = some f → ∃ (v : Value) (y : DataW H × List MemPlace), w.cell? (a.add (i * fs.size + j)) = some v ∧ ys[j]? = some y ∧ DataW.trod enc P w base spare held n f.type [v] = some y := by
  rcases open_slice ht h with h0 | ⟨a, len, cap, m, n, D, Pl, hcs, hb, hl, hm, hmm, hx, hi⟩
  · exact .inl h0
  · refine .inr ⟨a, len, cap, m, D, Pl, hcs, hb, hl, hm, hmm, by rw [hC] at hx; exact hx, fun i him => ?_⟩
    obtain ⟨cs', hc, ht'⟩ := hi i him
    rw [hC] at hc
    obtain ⟨ys, n', hn', hy, hlen, hyl, hf⟩ := DataW.trod_struct he ht'
    obtain ⟨_, hcl, hat⟩ := World.cells?_some hc
    simp only [Prod.mk.injEq] at hy
    refine ⟨ys, n', hy.1, hy.2, hyl, fun j f hj => ?_⟩
    obtain ⟨ho, hk⟩ := hone_of hone j f hj
    have hjl : j < fs.size := (Array.getElem?_eq_some_iff.1 hj).1
    have hcell := hat j hjl
    have hv : cs'[j]? = some (cs'[j]'(by omega)) := List.getElem?_eq_getElem (by omega)
    have h1 := hf j f hj
    rw [ho, hk] at h1
    have hone' : (cs'.drop j).take 1 = [cs'[j]'(by omega)] := by
      rw [List.drop_eq_getElem_cons (by omega)]
      rfl
    rw [hone'] at h1
    have hys : ys[j]? = some (ys[j]'(by omega)) := List.getElem?_eq_getElem (by omega)
    refine ⟨_, _, ?_, hys, h1.trans hys⟩
    rw [← Go.Deep.add_add, hcell, hv]
end
section
variable {H : Type} {enc : TypeId × Value → H} {w : World} {base : Nat} {spare : Nat → Bool} {held : Bool}
set_option maxRecDepth 100000 in
theorem open_toks {v : Value} {d : DataW H} {p : List MemPlace} {r : Reach} {b0 : Nat} (hv : Value.okWide Try.prog w r b0 59 v) (h : DataW.Trod enc Try.prog w base spare held 59 v d p) :
    ∃ (A : Option Addr) (n cap : Nat) (ts : List Tok), v = .slice A n cap ∧ ts.length = n ∧ (A = none → n = 0 ∧ cap = 0) ∧ ToksAt w A ts := by
  obtain ⟨a, len, cap, rfl⟩ := okWide_slice Try.underlying59 hv
  obtain ⟨fuel, hf⟩ := h
  rcases open_slice_fields Try.underlying59 Try.underlying67 (by kernel_rfl) (by kernel_rfl) hf with ⟨hcs, _⟩ | ⟨x, l, c, m, D, Pl, hcs, _, hl, hm, hmm, _, hi⟩
  · simp [Value.cells] at hcs
    obtain ⟨rfl, rfl, rfl⟩ := hcs
    exact ⟨none, 0, 0, [], rfl, rfl, fun _ => ⟨rfl, rfl⟩, .inl rfl⟩
  · simp [Value.cells] at hcs
    obtain ⟨rfl, rfl, rfl⟩ := hcs
    have each : ∀ i, i < len → ∃ t : Tok, w.cell? (x.add (i * 4)) = some (.int .u8 t.kind) ∧ w.cell? (x.add (i * 4 + 1)) = some (.string t.text) ∧ w.cell? (x.add (i * 4 + 2)) = some (.int .i64 t.n) ∧ w.cell? (x.add (i * 4 + 3)) = some (.int .i64 t.at_) := by
      intro i hil
      obtain ⟨ys, n, _, _, _, hf⟩ := hi i (by rw [hmm]; split <;> omega)
      obtain ⟨u0, y0, c0, _, t0⟩ := hf 0 _ rfl
      obtain ⟨u1, y1, c1, _, t1⟩ := hf 1 _ rfl
      obtain ⟨u2, y2, c2, _, t2⟩ := hf 2 _ rfl
      obtain ⟨u3, y3, c3, _, t3⟩ := hf 3 _ rfl
      obtain ⟨n0, e0, _, _⟩ := DataW.trod_int Try.underlying5 t0
      obtain ⟨s1, e1, _, _⟩ := DataW.trod_string Try.underlying9 t1
      obtain ⟨n2, e2, _, _⟩ := DataW.trod_int Try.underlying2 t2
      obtain ⟨n3, e3, _, _⟩ := DataW.trod_int Try.underlying3 t3
      injection e0 with e0
      injection e1 with e1
      injection e2 with e2
      injection e3 with e3
      subst e0
      subst e1
      subst e2
      subst e3
      exact ⟨⟨n0, s1, n2, n3⟩, c0, c1, c2, c3⟩
    obtain ⟨f, hf'⟩ : ∃ f : Nat → Tok, ∀ i, i < len → w.cell? (x.add (i * 4)) = some (.int .u8 (f i).kind) ∧ w.cell? (x.add (i * 4 + 1)) = some (.string (f i).text) ∧ w.cell? (x.add (i * 4 + 2)) = some (.int .i64 (f i).n) ∧ w.cell? (x.add (i * 4 + 3)) = some (.int .i64 (f i).at_) :=
      ⟨fun i => if h : i < len then Classical.choose (each i h) else noneTok, fun i h => by
        have := Classical.choose_spec (each i h)
        simp only [h, dif_pos]
        exact this⟩
    refine ⟨some x, len, cap, (List.range len).map f, rfl, by simp, (fun h => by cases h), ?_⟩
    by_cases h0 : len = 0
    · left; subst h0; rfl
    · obtain ⟨b, off, spot⟩ := x
      have hc0 := (hf' 0 (by omega)).1
      have hspot : spot = none := by simpa [Addr.add] using World.cell?_spot hc0
      subst hspot
      refine .inr ⟨b, off, rfl, by have := World.block_lt_of_cell? w _ hc0; simpa [Addr.add] using this, fun i t hit => ?_⟩
      have hil : i < len := by
        have := (List.getElem?_eq_some_iff.1 hit).1
        simpa using this
      have ht : t = f i := by
        rw [List.getElem?_map, List.getElem?_range hil] at hit
        simpa using hit.symm
      subst ht
      obtain ⟨c0, c1, c2, c3⟩ := hf' i hil
      have key : ∀ j, (⟨b, off, none⟩ : Addr).add j = ⟨b, off + j, none⟩ := fun j => by
        unfold Addr.add
        by_cases hj : j = 0
        · subst hj; rfl
        · simp [hj]
      rw [key] at c0 c1 c2 c3
      exact ⟨c0, c1, c2, c3⟩
set_option maxRecDepth 100000 in
theorem open_txts {v : Value} {d : DataW H} {p : List MemPlace} {r : Reach} {b0 : Nat} (hv : Value.okWide Try.prog w r b0 65 v) (h : DataW.Trod enc Try.prog w base spare held 65 v d p) :
    ∃ (A : Option Addr) (n cap : Nat) (ss : List ByteArray), v = .slice A n cap ∧ ss.length = n ∧ TxtsAt w A ss := by
  obtain ⟨a, len, cap, rfl⟩ := okWide_slice Try.underlying65 hv
  obtain ⟨fuel, hf⟩ := h
  rcases open_strings Try.underlying65 Try.underlying9 (by kernel_rfl) hf with ⟨hcs, _⟩ | ⟨x, l, c, ss, hcs, _, hl, hm, hlen, _, hcell, _⟩
  · simp [Value.cells] at hcs
    obtain ⟨rfl, rfl, rfl⟩ := hcs
    exact ⟨none, 0, 0, [], rfl, rfl, .inl rfl⟩
  · simp [Value.cells] at hcs
    obtain ⟨rfl, rfl, rfl⟩ := hcs
    have hle : len ≤ ss.length := by rw [hlen]; split <;> omega
    refine ⟨some x, len, cap, ss.take len, rfl, by rw [List.length_take]; omega, ?_⟩
    by_cases h0 : len = 0
    · left; subst h0; rfl
    · obtain ⟨b, off, spot⟩ := x
      have hc0 := hcell 0 (by omega)
      have hspot : spot = none := by simpa [Addr.add] using World.cell?_spot hc0
      subst hspot
      refine .inr ⟨b, off, rfl, by have := World.block_lt_of_cell? w _ hc0; simpa [Addr.add] using this, fun i hi => ?_⟩
      rw [List.length_take] at hi
      have := hcell i (by omega)
      have key : (⟨b, off, none⟩ : Addr).add i = ⟨b, off + i, none⟩ := by
        unfold Addr.add
        by_cases hj : i = 0
        · subst hj; rfl
        · simp [hj]
      rw [key] at this
      rw [this]
      simp [show i < len by omega]
end
end Go.Proofs.Ytegekajbnecdfaa

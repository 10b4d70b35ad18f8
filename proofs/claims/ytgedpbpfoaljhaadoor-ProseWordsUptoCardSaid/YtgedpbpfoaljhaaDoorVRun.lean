/- The machine of values: what the model's own words give at the types of the table. -/
import Derived.Test.YtgedpbpfoaljhaaDoorVApp
set_option linter.unusedVariables false
set_option linter.unusedSimpArgs false
namespace Go.Proofs.YtgedpbpfoaljhaaDoor.Vm
open Go.RowKit
theorem ty_info {t : Nat} (h : tyKnown t = true) : ∃ x z, Tryd.prog.info? t = some x ∧ x.size = (ty t).sz ∧ x.zero = some z ∧ z.cells = (ty t).zero.toArray ∧ (ty t).zero.length = (ty t).sz ∧ x.bytes ≤ 1024 := by
  have hk := tyOk t h
  have hi := hk.info
  have hb := hk.bytes
  cases hx : Tryd.prog.info? t with
  | none => rw [hx] at hi; cases hi
  | some x =>
    rw [hx] at hi hb
    simp only [Option.map_some, Option.some.injEq, Prod.mk.injEq] at hi
    cases hz : x.zero with
    | none => rw [hz] at hi; simp at hi
    | some z =>
      rw [hz] at hi
      simp only [Option.map_some, Option.some.injEq] at hi
      refine ⟨x, z, rfl, hi.1, hz, hi.2, hk.len, ?_⟩
      simpa using hb
theorem ty_size {t : Nat} (h : tyKnown t = true) (w : World) : (sizeOf t).run Tryd.prog w = .ok (ty t).sz w := by
  obtain ⟨x, z, h1, h2, _⟩ := ty_info h
  simp [sizeOf, typeInfo, h1, h2]
theorem ty_zero {t : Nat} (h : tyKnown t = true) (w : World) : ∃ z, (zeroValue t).run Tryd.prog w = .ok z w ∧ z.cells = (ty t).zero.toArray := by
  obtain ⟨x, z, h1, _, h3, h4, _⟩ := ty_info h
  exact ⟨z, by simp [zeroValue, typeInfo, h1, h3], h4⟩
theorem ty_agg {t : Nat} (h : tyKnown t = true) (w : World) : (isAgg t).run Tryd.prog w = .ok (ty t).agg w := by
  have hk := (tyOk t h).agg
  cases hu : Tryd.prog.underlying t with
  | none => rw [hu] at hk; cases hk
  | some d =>
    rw [hu] at hk
    have := run_underlying hu w
    cases d <;> simp only [aggOf, Option.some.injEq] at hk <;> simp [isAgg, this, ← hk]
theorem ty_slice {t e : Nat} (h : tyKnown t = true) (he : (ty t).elem = some e) : Tryd.prog.underlying t = some (.slice e) := by
  have hk := tyOk t h
  have h1 := hk.elem
  have h2 := hk.under
  unfold kindOk at h2
  cases hkind : (ty t).kind <;> rw [hkind] at h1 h2 <;> simp only [he, Option.isNone_some] at h1 h2 <;> first | exact h2.1 | exact absurd h1 (by decide)
theorem ty_str {t : Nat} (h : tyKnown t = true) (he : (ty t).kind = .str) : Tryd.prog.underlying t = some .string := by
  have h2 := (tyOk t h).under
  unfold kindOk at h2
  rw [he] at h2
  exact h2
theorem ty_int {t : Nat} {k : IntKind} (h : tyKnown t = true) (he : (ty t).kind = .int k) : Tryd.prog.underlying t = some (.int k) := by
  have h2 := (tyOk t h).under
  unfold kindOk at h2
  rw [he] at h2
  exact h2
/-- A struct's fields. -/
theorem ty_ptr {t : Nat} (h : tyKnown t = true) (he : (ty t).kind = .ptr) : ∃ e, Tryd.prog.underlying t = some (.pointer e) := by
  have h2 := (tyOk t h).under
  unfold kindOk at h2
  rw [he] at h2
  obtain ⟨h3, h4⟩ := h2
  cases hv : (ty t).val with
  | none => rw [hv] at h4; cases h4
  | some e => rw [hv] at h3; exact ⟨e, h3⟩
theorem ty_bool {t : Nat} (h : tyKnown t = true) (he : (ty t).kind = .bool) : Tryd.prog.underlying t = some .bool := by
  have h2 := (tyOk t h).under
  unfold kindOk at h2
  rw [he] at h2
  exact h2
theorem ty_array {t e : Nat} (h : tyKnown t = true) (he : (ty t).kind = .array) (hv : (ty t).val = some e) : Tryd.prog.underlying t = some (.array (ty t).alen e) := by
  have h2 := (tyOk t h).under
  unfold kindOk at h2
  rw [he] at h2
  obtain ⟨h3, h4⟩ := h2
  rw [hv] at h3
  exact h3
theorem ty_map {t k e : Nat} (h : tyKnown t = true) (he : (ty t).kind = .map) (hk : (ty t).key = some k) (hv : (ty t).val = some e) : Tryd.prog.underlying t = some (.map k e) := by
  have h2 := (tyOk t h).under
  unfold kindOk at h2
  rw [he] at h2
  obtain ⟨h3, h4⟩ := h2
  rw [hk, hv] at h3
  exact h3
theorem ty_struct {t : Nat} (h : tyKnown t = true) (he : (ty t).kind = .struct) : ∃ fs, Tryd.prog.underlying t = some (.struct fs) ∧ fs.toList.map (fun f => (f.offset, (Tryd.prog.info? f.type).map (·.size))) = (ty t).flds.map (fun x => (x.1, some x.2)) ∧ fs.toList.map (·.type) = (ty t).fty := by
  have h2 := (tyOk t h).under
  unfold kindOk at h2
  rw [he] at h2
  simp only at h2
  cases hu : Tryd.prog.underlying t with
  | none => rw [hu] at h2; cases h2
  | some d =>
    rw [hu] at h2
    cases d <;> first | cases h2 | skip
    rename_i fs
    simp only [fldsOf, Option.some.injEq, Prod.mk.injEq] at h2
    exact ⟨fs, rfl, h2.1, h2.2⟩
theorem ty_fld {t i off sz : Nat} (h : tyKnown t = true) (hf : (ty t).flds[i]? = some (off, sz)) : ∃ fs f, Tryd.prog.underlying t = some (.struct fs) ∧ fs[i]? = some f ∧ f.offset = off ∧ (Tryd.prog.info? f.type).map (·.size) = some sz ∧ (ty t).fty[i]? = some f.type ∧ (ty t).kind = .struct := by
  have hk := tyOk t h
  have hst : (ty t).kind = .struct := by
    have h1 := hk.flds
    cases hkind : (ty t).kind <;> rw [hkind] at h1 <;> first | rfl | skip
    all_goals
      simp only [List.isEmpty_iff] at h1
      rw [h1] at hf
      simp at hf
  obtain ⟨fs, h1, h2, h3⟩ := ty_struct h hst
  have h4 := congrArg (·[i]?) h2
  simp only [List.getElem?_map, hf, Option.map_some] at h4
  cases hfi : fs.toList[i]? with
  | none => rw [hfi] at h4; cases h4
  | some f =>
    rw [hfi] at h4
    simp only [Option.map_some, Option.some.injEq, Prod.mk.injEq] at h4
    refine ⟨fs, f, h1, by rw [← Array.getElem?_toList]; exact hfi, h4.1, h4.2, ?_, hst⟩
    rw [← h3, List.getElem?_map, hfi]
    rfl
/-- One of a list, taken by the machine. -/
theorem take1_is {α : Type} {n : Nat} {l : List α} {x : α} (h : takeN 1 (dropN n l) = some [x]) : l[n]? = some x := by
  rw [dropN_is] at h
  obtain ⟨h1, _⟩ := takeN_is h
  have := congrArg (·[0]?) h1
  simp only [List.getElem?_cons_zero, List.getElem?_take, Nat.zero_lt_one, if_true, List.getElem?_drop, Nat.add_zero] at this
  exact this.symm
section
variable {I : Nat → Nat → Prop} {g : Nat → Value} {w : World}
theorem pack_at {b : Bool} {l : List V} {x : V} {us : List Value} (hu : AtVs I w g us l) (hp : pack b l = some x) : AtV I w g (if b = true then .agg us.toArray else us.getD 0 undef) x ∧ (b = false → us.length = 1) := by
  cases b with
  | true =>
    rw [pack] at hp
    injection hp with hp
    subst hp
    exact ⟨atV_ag hu, by simp⟩
  | false =>
    match l, hp with
    | [y], hp =>
      rw [pack] at hp
      injection hp with hp
      subst hp
      obtain ⟨u, us', rfl, h1, h2⟩ := hu.uncons
      rw [h2.unnil]
      exact ⟨h1, fun _ => rfl⟩
theorem load_at {t b p : Nat} (ht : tyKnown t = true) {us : List Value} {l : List V} {x : V} (hl : us.length = (ty t).sz) (hc : ∀ j u, us[j]? = some u → w.cell? ⟨b, p + j, none⟩ = some u) (hu : AtVs I w g us l) (hp : pack (ty t).agg l = some x) :
    ∃ v, (Instr.loadAt t (.pointer (some ⟨b, p, none⟩))).run Tryd.prog w = .ok v w ∧ AtV I w g v x := by
  obtain ⟨hx, h1⟩ := pack_at hu hp
  refine ⟨_, ?_, hx⟩
  simp only [Instr.loadAt, Instr.sureAddr, loadVar, Sem.run_bind, Sem.run_pure, Result.andThen_ok, ty_agg ht]
  cases ha : (ty t).agg with
  | true =>
    simp only [if_true, Sem.run_bind, ty_size ht, Result.andThen_ok, Sem.run_pure]
    rw [← hl, run_loadCells_list (P := Tryd.prog) w ⟨b, p, none⟩ us (fun j v hv => by rw [Addr.add_lit]; exact hc j v hv)]
    rfl
  | false =>
    have h2 := h1 ha
    match us, h2 with
    | [u], _ =>
      have h3 := hc 0 u rfl
      simp only [Nat.add_zero] at h3
      simp [h3]
end
end Go.Proofs.YtgedpbpfoaljhaaDoor.Vm

/- A type handed to a law, opened as a tree. -/
import Derived.Test.YtclehkgnacekkaaVOpen
import Derived.Test.YtclehkgnacekkaaVTypes
set_option linter.unusedVariables false
set_option linter.unusedSimpArgs false
namespace Go.Proofs.Ytclehkgnacekkaa.Vm
open Go.RowKit
/-- What each part of a type that came in is. -/
def PartWf (x : Ty) : Prop := x.name.size ≤ maxLen ∧ (Lit.int .u8 x.op).wf = true ∧ (Lit.int .i64 x.n).wf = true
def TyWf (t : Ty) : Prop := ∀ x ∈ t.parts, PartWf x
theorem TyWf.kid {t k : Ty} (h : TyWf t) (hk : k ∈ t.kids) : TyWf k := fun x hx => h x (by rw [parts_kids]; exact List.mem_cons_of_mem _ (List.mem_flatMap.2 ⟨k, hk, hx⟩))
theorem TyWf.self {t : Ty} (h : TyWf t) : PartWf t := h t (by rw [parts_eq]; exact List.mem_cons_self ..)
theorem cells_ty : Try.prog.cellsOf 25 = 4 := by kernel_rfl
set_option maxRecDepth 100000 in
theorem deep_ty : ∀ (m : Nat) (ds : List D), Deep Try.prog 25 ds m → ∃ t : Ty, ds = cT t ∧ t.parts.length ≤ m ∧ TyWf t := by
  intro m
  induction m using Nat.strongRecOn with
  | ind m ih =>
    intro ds h
    obtain ⟨dss, ms, rfl, h1, h2, rfl, hf⟩ := h.unst Try.underlying25
    match dss, ms, h1, h2, hf with
    | [d0, d1, d2, d3], [m0, m1, m2, m3], _, _, hf =>
      obtain ⟨op, rfl, w0, rfl⟩ := (hf 0 _ d0 m0 rfl rfl rfl).unint Try.underlying22
      obtain ⟨nm, rfl, w1, rfl⟩ := (hf 1 _ d1 m1 rfl rfl rfl).unstr Try.underlying9
      obtain ⟨n, rfl, w2, rfl⟩ := (hf 2 _ d2 m2 rfl rfl rfl).unint Try.underlying3
      obtain ⟨rows, ks, rfl, hl, hb, rfl, hr⟩ := (hf 3 _ d3 m3 rfl rfl rfl).unsl Try.underlying23
      clear hf h
      have key : ∀ (rows : List (List D)) (ks : List Nat), ks.length = rows.length → ks.sum < 1 + (nm.size + 1 + (1 + (ks.sum + 1 + 0))) + 1 → (∀ (i : Nat) (r : List D) (m' : Nat), rows[i]? = some r → ks[i]? = some m' → m' < [1, nm.size + 1, 1, ks.sum + 1].sum + 1 → ∃ t : Ty, r = cT t ∧ t.parts.length ≤ m' ∧ TyWf t) →
          ∃ ts : List Ty, rows = rT ts ∧ (partsL ts).length ≤ ks.sum ∧ ∀ x ∈ partsL ts, PartWf x := by
        intro rows
        induction rows with
        | nil => intro ks hl _ _; exact ⟨[], by rw [rT], by rw [partsL]; simp, fun x hx => by rw [partsL] at hx; simp at hx⟩
        | cons r rows ihr =>
          intro ks hl hs hrr
          match ks, hl with
          | k :: ks, hl =>
            obtain ⟨t, e1, e2, e3⟩ := hrr 0 r k rfl rfl (by simp; omega)
            obtain ⟨ts, f1, f2, f3⟩ := ihr ks (by simpa using hl) (by omega) fun i r' m' hi hm hlt => hrr (i + 1) r' m' (by simpa using hi) (by simpa using hm) (by simp at hlt ⊢; omega)
            refine ⟨t :: ts, by rw [rT, e1, f1], by rw [partsL, List.length_append, List.sum_cons]; omega, fun x hx => ?_⟩
            rw [partsL, List.mem_append] at hx
            rcases hx with hx | hx
            · exact e3 x hx
            · exact f3 x hx
      obtain ⟨ts, e1, e2, e3⟩ := key rows ks hl (by omega) fun i r m' hi hm hlt => ih m' hlt r (hr i r m' hi hm)
      refine ⟨.mk op nm n ts, ?_, ?_, fun x hx => ?_⟩
      · rw [cT, e1, cells_ty]; rfl
      · rw [parts_eq, List.length_cons]
        simp only [Ty.kids, List.sum_cons, List.sum_nil]
        omega
      · rw [parts_eq] at hx
        rcases List.mem_cons.1 hx with rfl | hx
        · exact ⟨w1, w0, w2⟩
        · exact e3 x hx
set_option maxRecDepth 100000 in
theorem open_ty {r : R} {m : Nat} (h : DeepR Try.prog 25 r m) : ∃ t : Ty, r = .ag (cT t) ∧ t.parts.length ≤ m ∧ TyWf t := by
  obtain ⟨xs, rfl, h1⟩ := h.ag Try.underlying25
  obtain ⟨t, rfl, h2⟩ := deep_ty m xs h1
  exact ⟨t, rfl, h2⟩
theorem open_int {P : Program} {t : Nat} {k : IntKind} {r : R} {m : Nat} (ht : P.underlying t = some (.int k)) (h : DeepR P t r m) : ∃ n, r = .one (.sc (.int k n)) ∧ (Lit.int k n).wf = true := by
  obtain ⟨x, rfl, h2⟩ := h.one (fun fs => by rw [ht]; simp)
  obtain ⟨n, e, hw, _⟩ := h2.unint ht
  cases e
  exact ⟨n, rfl, hw⟩
theorem open_bool {P : Program} {t : Nat} {r : R} {m : Nat} (ht : P.underlying t = some .bool) (h : DeepR P t r m) : ∃ b, r = .one (.sc (.bool b)) := by
  obtain ⟨x, rfl, h2⟩ := h.one (fun fs => by rw [ht]; simp)
  obtain ⟨n, e, _⟩ := h2.unbool ht
  cases e
  exact ⟨n, rfl⟩
theorem open_str {P : Program} {t : Nat} {r : R} {m : Nat} (ht : P.underlying t = some .string) (h : DeepR P t r m) : ∃ s : ByteArray, r = .one (.sc (.string s)) ∧ s.size ≤ maxLen ∧ m = s.size + 1 := by
  obtain ⟨x, rfl, h2⟩ := h.one (fun fs => by rw [ht]; simp)
  obtain ⟨n, e, hw, hm⟩ := h2.unstr ht
  cases e
  exact ⟨n, rfl, hw, hm⟩
end Go.Proofs.Ytclehkgnacekkaa.Vm

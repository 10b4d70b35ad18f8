/- The machine of values: its operations are the program's. -/
import Derived.Test.YtgedpbpfoaljhaaDoorVCall
import Derived.Laws.Slices
set_option linter.unusedVariables false
set_option linter.unusedSimpArgs false
namespace Go.Proofs.YtgedpbpfoaljhaaDoor.Vm
open Go.RowKit
section
variable {I0 : Nat → Nat → Prop} {X : Nat → Prop} {w0 : W0} {I : Nat → Nat → Prop} {g : Nat → Value} {s : S} {a : Act} {w : World}
theorem one1_at {v : Value} {x : V} (h : AtV I w g v x) (h1 : one1 x = true) : v.oneCell' = true := by
  cases h with
  | d h => exact h.one
  | ag => cases h1
  | tu => cases h1
  | em => rfl
  | own => rfl
  | ptr => rfl
  | cl => rfl
  | el => rfl
  | ro => rfl
  | mp => rfl
  | jk => cases h1
theorem ones_at : ∀ {l : List V} {us : List Value}, AtVs I w g us l → ones l = true → ∀ u ∈ us, u.oneCell' = true
  | [], us, h, _ => by rw [h.unnil]; simp
  | x :: l, us, h, h1 => by
    obtain ⟨u, us', rfl, h2, h3⟩ := h.uncons
    rw [ones] at h1
    split at h1
    · rename_i hx
      intro y hy
      rcases List.mem_cons.1 hy with rfl | hy
      · exact one1_at h2 hx
      · exact ones_at h3 h1 y hy
    · cases h1
/-- A value's cells. -/
theorem cells_at {v : Value} {x : V} {cs : List V} (h : AtV I w g v x) (hc : cellsV x = some cs) : ∃ us, v.cells = us.toArray ∧ AtVs I w g us cs ∧ ∀ u ∈ us, u.oneCell' = true := by
  have single : one1 x = true → cs = [x] → ∃ us, v.cells = us.toArray ∧ AtVs I w g us cs ∧ ∀ u ∈ us, u.oneCell' = true := fun h1 e => by
    subst e
    have hv := one1_at h h1
    refine ⟨[v], ?_, .cons h (.nil I w g), fun u hu => by simp at hu; subst hu; exact hv⟩
    cases v <;> first | rfl | cases hv
  cases x with
  | ag l =>
    rw [cellsV] at hc
    split at hc
    · rename_i h1
      injection hc with hc
      subst hc
      obtain ⟨us, rfl, h2⟩ := h.unag
      exact ⟨us, rfl, h2, ones_at h2 h1⟩
    · cases hc
  | jk => cases hc
  | tu l => cases hc
  | d x => injection hc with hc; exact single rfl hc.symm
  | em => injection hc with hc; exact single rfl hc.symm
  | own k => injection hc with hc; exact single rfl hc.symm
  | ptr k off => injection hc with hc; exact single rfl hc.symm
  | cl f ks => injection hc with hc; exact single rfl hc.symm
  | el k i sz off => injection hc with hc; exact single rfl hc.symm
  | ro l off => injection hc with hc; exact single rfl hc.symm
  | mp k => injection hc with hc; exact single rfl hc.symm
/-- What an operation gives: a value that reads as x, of which K holds. -/
def Yld (I0 : Nat → Nat → Prop) (X : Nat → Prop) (w0 : W0) (g : Nat → Value) (s : S) (a : Act) (w : World) (m : Sem Value) (K : V → Prop) : Prop := ∃ v x w' I', m.run Tryd.prog w = .ok v w' ∧ RelI I0 X w0 I' g s a w' ∧ AtV I' w' g v x ∧ K x
theorem yld {m : Sem Value} {K : V → Prop} (h : RelI I0 X w0 I g s a w) {v : Value} {x : V} (hm : m.run Tryd.prog w = .ok v w) (hv : AtV I w g v x) (hK : K x) : Yld I0 X w0 g s a w m K := ⟨v, x, w, I, hm, h, hv, hK⟩
theorem atb (b : Bool) : AtV I w g (.bool b) (vb b) := .d (.sc _ rfl)
theorem ati (k : IntKind) (n : Int) : AtV I w g (.int k n) (vi k n) := .d (.sc _ rfl)
theorem ats (b : ByteArray) : AtV I w g (.string b) (vs b) := .d (.sc _ rfl)
theorem AtV.sc {v u : Value} (h : AtV I w g v (.d (.sc u))) : v = u := by cases h with | d h => cases h; rfl
theorem get_is {rows : List (List D)} {i : Int} {row : List D} (h : real.get rows i = some row) : 0 ≤ i ∧ rows[i.toNat]? = some row := by
  simp only [real] at h
  split at h
  · exact ⟨by assumption, h⟩
  · cases h
theorem load_same (h : RelI I0 X w0 I g s a w) {K : V → Prop} {t : Nat} (ht : tyKnown t = true) {v : Value} {x : V} (hv : AtV I w g v x) (hK : loadV real s.o K t x) : ∃ u y, (Instr.loadAt t v).run Tryd.prog w = .ok u w ∧ AtV I w g u y ∧ K y := by
  cases x <;> try exact hK.elim
  case ptr k off =>
    simp only [loadV] at hK
    split at hK <;> try exact hK.elim
    rename_i cs ho
    split at hK <;> try exact hK.elim
    rename_i l hl
    split at hK <;> try exact hK.elim
    rename_i x hx
    obtain ⟨b, us, t', h1, h2, h3, _⟩ := h.obj k _ (getO_some ho (by simp))
    cases hv with
    | ptr k off b' hg =>
      rw [h1] at hg
      injection hg with hg
      injection hg with hg
      injection hg with hg
      subst hg
      rw [dropN_is] at hl
      obtain ⟨e, he⟩ := takeN_is hl
      have hu : AtVs I w g ((us.drop off).take (ty t).sz) l := by rw [e]; exact (h3.drop off).take _
      obtain ⟨v, h4, h5⟩ := load_at (w := w) (b := b) (p := off) ht (by rw [hu.1, he]) (fun j u hj => by
        rw [List.getElem?_take] at hj
        split at hj
        · rw [List.getElem?_drop] at hj
          rw [cell_of_row w b (off + j) us.toArray t' (0, 0) h2]
          simpa using hj
        · cases hj) hu hx
      exact ⟨v, x, h4, h5, hK⟩
  case ro cs off =>
    simp only [loadV] at hK
    split at hK <;> try exact hK.elim
    rename_i l hl
    split at hK <;> try exact hK.elim
    rename_i x hx
    cases hv with
    | ro b o off us cs hI hc hd =>
      rw [dropN_is] at hl
      obtain ⟨e, he⟩ := takeN_is hl
      have hu : AtDs I w ((us.drop off).take (ty t).sz) l := by rw [e]; exact (hd.drop off).take _
      obtain ⟨v, h4, h5⟩ := load_at (w := w) (b := b) (p := o + off) ht (by rw [hu.1, he]) (fun j u hj => by
        rw [List.getElem?_take] at hj
        split at hj
        · rw [List.getElem?_drop] at hj
          rw [Nat.add_assoc]
          exact hc _ _ hj
        · cases hj) (hu.toV g) hx
      exact ⟨v, x, h4, h5, hK⟩
  case el k i sz off =>
    simp only [loadV] at hK
    split at hK <;> try exact hK.elim
    rename_i z e rows ho
    split at hK <;> try exact hK.elim
    rename_i hsz
    rw [eqN_is] at hsz
    split at hK <;> try exact hK.elim
    rename_i row hrow
    split at hK <;> try exact hK.elim
    rename_i l hl
    split at hK <;> try exact hK.elim
    rename_i x hx
    obtain ⟨us, h1, h2, h3, _⟩ := h.obj k _ (getO_some ho (by simp))
    have hrow' := get_is hrow
    cases hv with
    | el k i sz off b n cap hg =>
      rw [hg] at h1
      obtain ⟨A', cap', e0⟩ := own_slice h1
      injection e0 with _ e0 _
      subst e0
      rw [dropN_is] at hl
      obtain ⟨e1, he⟩ := takeN_is hl
      have hrl := h2 _ (List.mem_of_getElem? hrow'.2)
      have hlt : i.toNat < rows.length := (List.getElem?_eq_some_iff.1 hrow'.2).1
      have hfit : off + (ty t).sz ≤ (ty e).sz ∨ (ty t).sz = 0 := by
        rw [e1, List.length_take, List.length_drop, hrl] at he
        omega
      have hsub : i.toNat * (ty e).sz + (ty e).sz ≤ rows.length * (ty e).sz := by rw [← Nat.succ_mul]; exact Nat.mul_le_mul_right _ hlt
      rw [← hsz]
      have hu : AtDs I w ((us.drop (i.toNat * (ty e).sz + off)).take (ty t).sz) l := by
        refine ⟨by rw [List.length_take, List.length_drop, h1.1, he]; omega, fun j u d hj hd => ?_⟩
        rw [List.getElem?_take] at hj
        split at hj
        · rename_i hjl
          rw [List.getElem?_drop, Nat.add_assoc] at hj
          refine h3.2 _ _ _ hj ?_
          rw [flat_get h2 hrow'.2 (by omega)]
          rw [e1, List.getElem?_take, if_pos hjl, List.getElem?_drop] at hd
          exact hd
        · cases hj
      obtain ⟨v, h4, h5⟩ := load_at (w := w) (b := b) (p := i.toNat * (ty e).sz + off) ht (by rw [hu.1, he]) (fun j u hj => by
        rw [List.getElem?_take] at hj
        split at hj
        · rename_i hjl
          rw [List.getElem?_drop] at hj
          have hin : i.toNat * (ty e).sz + off + j < rows.length * (ty e).sz := by omega
          rw [World.ownsRow.cellAt h1 _ hin]
          exact hj
        · cases hj) (hu.toV g) hx
      exact ⟨v, x, h4, h5, hK⟩
theorem load_ok (h : RelI I0 X w0 I g s a w) {K : V → Prop} {t : Nat} (ht : tyKnown t = true) {v : Value} {x : V} (hv : AtV I w g v x) (hK : loadV real s.o K t x) : Yld I0 X w0 g s a w (Instr.loadAt t v) K := by
  obtain ⟨u, y, h1, h2, h3⟩ := load_same h ht hv hK
  exact yld h h1 h2 h3
theorem field_ok (h : RelI I0 X w0 I g s a w) {K : V → Prop} {t i : Nat} (ht : tyKnown t = true) {v : Value} {x : V} (hv : AtV I w g v x) (hK : fieldV K t i x) : Yld I0 X w0 g s a w (Instr.fieldAt t v i) K := by
  simp only [fieldV] at hK
  split at hK <;> try exact hK.elim
  rename_i off sz hf
  obtain ⟨fs, f, h1, h2, h3, h4, _⟩ := ty_fld ht (take1_is hf)
  have hs : (sizeOf f.type).run Tryd.prog w = .ok (sz + 1) w := by
    cases hi : Tryd.prog.info? f.type with
    | none => rw [hi] at h4; cases h4
    | some i => rw [hi] at h4; simp only [Option.map_some, Option.some.injEq] at h4; simp [sizeOf, typeInfo, hi, h4]
  have key : ∀ b p, (Instr.fieldAt t (.pointer (some ⟨b, p, none⟩)) i).run Tryd.prog w = .ok (.pointer (some ⟨b, p + off, none⟩)) w := fun b p => by
    simp [Instr.fieldAt, run_underlying h1, h2, Instr.sureAddr, fieldPlace, hs, Addr.add_lit, h3]
  cases x <;> try exact hK.elim
  case ptr k o =>
    cases hv with
    | ptr k o b hg => exact yld h (key b o) (.ptr k (o + off) b hg) hK
  case el k i sz o =>
    cases hv with
    | el k i sz o b n cap hg => exact yld h (key b _) (by rw [Nat.add_assoc]; exact .el k i sz (o + off) b n cap hg) hK
  case ro cs o =>
    cases hv with
    | ro b o' off' us cs hI hc hd => exact yld h (key b _) (by rw [Nat.add_assoc]; exact .ro b o' (o + off) us cs hI hc hd) hK
theorem part_ok (h : RelI I0 X w0 I g s a w) {K : V → Prop} {t i : Nat} (ht : tyKnown t = true) (hty : ∀ u, (ty t).fty[i]? = some u → tyKnown u = true) {v : Value} {x : V} (hv : AtV I w g v x) (hK : partV K t i x) : Yld I0 X w0 g s a w (Instr.field t v i) K := by
  simp only [partV] at hK
  split at hK <;> try exact hK.elim
  rename_i u off sz cs hu hf
  split at hK <;> try exact hK.elim
  rename_i l hl
  split at hK <;> try exact hK.elim
  rename_i y hy
  obtain ⟨fs, f, h1, h2, h3, h4, h5, _⟩ := ty_fld ht (take1_is hf)
  have h6 := take1_is hu
  rw [h5] at h6
  injection h6 with h6
  subst h6
  have hku := hty _ h5
  obtain ⟨us, rfl, h7⟩ := hv.unag
  rw [dropN_is] at hl
  obtain ⟨e, he⟩ := takeN_is hl
  have hul : AtVs I w g ((us.drop off).take (ty f.type).sz) l := by rw [e]; exact (h7.drop off).take _
  obtain ⟨hx, hone⟩ := pack_at hul hy
  refine yld h ?_ hx hK
  simp only [Instr.field, Sem.run_bind, run_underlying h1, Result.andThen_ok, h2, asAgg, Sem.run_pure, part, ty_agg hku, h3]
  cases hag : (ty f.type).agg with
  | true =>
    have hsz := ty_size hku w
    simp [hsz]
  | false =>
    have hlen := hone hag
    simp only [Bool.false_eq_true, if_false]
    have hlt : off < us.length := by
      rw [List.length_take, List.length_drop] at hlen
      omega
    have : us.toArray[off]? = some (((us.drop off).take (ty f.type).sz).getD 0 undef) := by
      simp only [List.getElem?_toArray, List.getD_eq_getElem?_getD, List.getElem?_take, List.getElem?_drop, Nat.add_zero]
      have hsz : 0 < (ty f.type).sz := by rw [List.length_take] at hlen; omega
      rw [if_pos hsz, List.getElem?_eq_getElem hlt]
      rfl
    rw [this]
    rfl
theorem rows_at (h : RelI I0 X w0 I g s a w) {v : Value} {x : V} {o : Option Nat} {rows : List (List D)} (hv : AtV I w g v x) (hr : rowsV s.o x = some (o, rows)) : AtD I w v (.sl (o.getD 0) rows) ∧ (o = none → rows = []) := by
  cases x with
  | d x =>
    cases x with
    | sc u => simp [rowsV] at hr
    | sl sz rows' =>
      simp only [rowsV, Option.some.injEq, Prod.mk.injEq] at hr
      obtain ⟨rfl, rfl⟩ := hr
      cases hv with
      | d h => exact ⟨h, by simp⟩
  | em =>
    simp only [rowsV, Option.some.injEq, Prod.mk.injEq] at hr
    obtain ⟨rfl, rfl⟩ := hr
    cases hv
    exact ⟨.nil _ _ _, fun _ => rfl⟩
  | own k =>
    have hr' := hr
    simp only [rowsV] at hr
    split at hr
    · rename_i e rows' ho
      simp only [Option.some.injEq, Prod.mk.injEq] at hr
      obtain ⟨rfl, rfl⟩ := hr
      refine ⟨toD_at h hv ?_, by simp⟩
      simp only [toD, ho]
      rfl
    · cases hr
  | ag cs => simp [rowsV] at hr
  | tu cs => simp [rowsV] at hr
  | ptr k off => simp [rowsV] at hr
  | cl f ks => simp [rowsV] at hr
  | el k i sz off => simp [rowsV] at hr
  | ro cs off => simp [rowsV] at hr
  | mp k => simp [rowsV] at hr
  | jk => simp [rowsV] at hr
theorem szOk_at {sz : Nat} {o : Option Nat} {v : Value} {rows : List (List D)} (hs : szOk sz o = true) (h : AtD I w v (.sl (o.getD 0) rows)) (hn : o = none → rows = []) : AtD I w v (.sl sz rows) := by
  cases o with
  | none =>
    rw [hn rfl] at h ⊢
    obtain ⟨A, cap, rfl, -⟩ := h.slice
    exact .nil _ _ _
  | some n =>
    rw [szOk, eqN_is] at hs
    subst hs
    exact h
theorem index_ok (h : RelI I0 X w0 I g s a w) {K : V → Prop} {t : Nat} (ht : tyKnown t = true) (hte : ∀ e, (ty t).elem = some e → tyKnown e = true) (htv : (ty t).kind = .array → ∀ e, (ty t).val = some e → tyKnown e = true) {v u : Value} {x i : V} (hv : AtV I w g v x) (hu : AtV I w g u i) (hK : indexAddrV real s.o K t x i) : Yld I0 X w0 g s a w (Instr.indexAt t v u) K := by
  simp only [indexAddrV] at hK
  split at hK <;> try exact hK.elim
  rename_i k n
  split at hK
  · rename_i hkd
    split at hK <;> try exact hK.elim
    rename_i e he
    split at hK <;> try exact hK.elim
    rename_i j hj
    have hun := ty_array ht hkd he
    have hu' := hu.sc
    subst hu'
    have hn : (0 ≤ n ∧ n < ((ty t).alen : Int)) ∧ n.toNat = j := by
      simp only [real] at hj
      split at hj
      · rename_i h1; injection hj with hj; exact ⟨h1, hj⟩
      · cases hj
    obtain ⟨hn, rfl⟩ := hn
    have key : ∀ b p, (Instr.indexAt t (.pointer (some ⟨b, p, none⟩)) (.int k n)).run Tryd.prog w = .ok (.pointer (some ⟨b, p + n.toNat * (ty e).sz, none⟩)) w := fun b p => by
      simp [Instr.indexAt, asIntOf, run_underlying hun, hn, Instr.sureAddr, ty_size (htv hkd e he), Addr.add_lit]
    cases x <;> try exact hK.elim
    case ptr k' o =>
      cases hv with
      | ptr k' o b hg => exact yld h (key b o) (.ptr k' _ b hg) hK
    case el k' i sz o =>
      cases hv with
      | el k' i sz o b n' cap hg => exact yld h (key b _) (by rw [Nat.add_assoc]; exact .el k' i sz _ b n' cap hg) hK
    case ro cs o =>
      cases hv with
      | ro b o' off' us cs hI hc hd => exact yld h (key b _) (by rw [Nat.add_assoc]; exact .ro b o' _ us cs hI hc hd) hK
  split at hK <;> try exact hK.elim
  rename_i e he
  split at hK
  · rename_i k' e' rows hr
    split at hK <;> try exact hK.elim
    rename_i hee
    rw [eqN_is] at hee
    subst hee
    split at hK <;> try exact hK.elim
    rename_i row hrow
    have hrow' := get_is hrow
    have hu' := hu.sc
    subst hu'
    unfold rawV at hr
    split at hr <;> try cases hr
    rename_i k1
    split at hr <;> cases hr
    rename_i ho
    obtain ⟨us, h1, h2, h3, _⟩ := h.obj k' _ (getO_some ho (by simp))
    obtain ⟨rfl, A, m, cap, hg⟩ := hv.unown
    have hlt : n.toNat < rows.length := (List.getElem?_eq_some_iff.1 hrow'.2).1
    have hn : 0 ≤ n ∧ n < (rows.length : Int) := ⟨hrow'.1, by omega⟩
    have hun := ty_slice ht he
    rcases h1.2 with ⟨_, e2⟩ | ⟨b, cap', cur, e1, _⟩
    · omega
    · refine yld h (v := .pointer (some ⟨b, n.toNat * (ty e').sz + 0, none⟩)) ?_ (.el k' n (ty e').sz 0 b _ cap' e1) hK
      rw [e1]
      simp [Instr.indexAt, asIntOf, run_underlying hun, hn, ty_size (hte e' he), Addr.add_lit]
  split at hK <;> try exact hK.elim
  rename_i sz rows hr
  split at hK <;> try exact hK.elim
  rename_i hsz
  rw [eqN_is] at hsz
  subst hsz
  split at hK <;> try exact hK.elim
  rename_i row hrow
  obtain ⟨h1, _⟩ := rows_at h hv hr
  simp only [Option.getD_some] at h1
  have hrow' : 0 ≤ n ∧ rows[n.toNat]? = some row := by
    simp only [real] at hrow
    split at hrow
    · exact ⟨by assumption, hrow⟩
    · cases hrow
  have hu' := hu.sc
  subst hu'
  have hlt : n.toNat < rows.length := (List.getElem?_eq_some_iff.1 hrow'.2).1
  obtain ⟨A, cap, rfl, hcap, h2⟩ := h1.slice
  rcases h2 with rfl | ⟨b, off, us, rfl, hI, hrl, hl, hc, hd⟩
  · simp at hlt
  · have hn : 0 ≤ n ∧ n < (rows.length : Int) := ⟨hrow'.1, by omega⟩
    have hun := ty_slice ht he
    have hrsz := hrl _ (List.mem_of_getElem? hrow'.2)
    refine yld h (v := .pointer (some ⟨b, off + n.toNat * (ty e).sz, none⟩)) ?_ (.ro b (off + n.toNat * (ty e).sz) 0 ((us.drop (n.toNat * (ty e).sz)).take (ty e).sz) row ?_ (fun j y hy => ?_) ⟨?_, fun j y d hy hdj => ?_⟩) hK
    · simp [Instr.indexAt, asIntOf, run_underlying hun, hn, ty_size (hte e he), Addr.add_lit]
    · refine hI.down ?_
      rw [hrsz]
      have : n.toNat * (ty e).sz + (ty e).sz ≤ rows.length * (ty e).sz := by rw [← Nat.succ_mul]; exact Nat.mul_le_mul_right _ hlt
      omega
    · rw [List.getElem?_take] at hy
      split at hy
      · rw [List.getElem?_drop] at hy
        rw [Nat.add_assoc]
        exact hc _ _ hy
      · cases hy
    · rw [List.length_take, List.length_drop, hl, hrsz]
      have : n.toNat * (ty e).sz + (ty e).sz ≤ rows.length * (ty e).sz := by rw [← Nat.succ_mul]; exact Nat.mul_le_mul_right _ hlt
      omega
    · rw [List.getElem?_take] at hy
      split at hy
      · rename_i hj
        rw [List.getElem?_drop] at hy
        exact hd.2 _ _ _ hy (by rw [flat_get hrl hrow'.2 hj]; exact hdj)
      · cases hy
end
end Go.Proofs.YtgedpbpfoaljhaaDoor.Vm

/- Part 21 of the proof: VOpen, VScOpen, VTyOpen, VOpenL, VPM5. Conditions: none. -/
import Derived.Test.YtclehkgnacekkaaM3
import Derived.Test.YtclehkgnacekkaaM14
import Derived.Test.YtclehkgnacekkaaM20
import Derived.Test.YtclehkgnacekkaaRows
import Derived.Deep.Slices
import Derived.WideShapes
import Derived.ChangeArms
set_option linter.all false
set_option linter.unusedVariables false
set_option linter.unusedSimpArgs false
section
namespace Go.Proofs.Ytclehkgnacekkaa.Vm
open Go.RowKit Go.ChangeShapes Go.WideShapes Go.Deep
inductive Deep (P : Program) : Nat → List D → Nat → Prop
  | bool {t : Nat} (b : Bool) (h : P.underlying t = some .bool) : Deep P t [.sc (.bool b)] 1
  | int {t : Nat} {k : IntKind} (n : Int) (h : P.underlying t = some (.int k)) (hw : (Lit.int k n).wf = true) : Deep P t [.sc (.int k n)] 1
  | str {t : Nat} (s : ByteArray) (h : P.underlying t = some .string) (hs : s.size ≤ maxLen) : Deep P t [.sc (.string s)] (s.size + 1)
  | sl {t e : Nat} (rows : List (List D)) (ms : List Nat) (h : P.underlying t = some (.slice e)) (hl : ms.length = rows.length) (hb : rows.length ≤ maxLen)
      (hr : ∀ (i : Nat) (r : List D) (m : Nat), rows[i]? = some r → ms[i]? = some m → Deep P e r m) : Deep P t [.sl (P.cellsOf e) rows] (ms.sum + 1)
  | st {t : Nat} {fs : Array Field} (dss : List (List D)) (ms : List Nat) (h : P.underlying t = some (.struct fs)) (h1 : dss.length = fs.size) (h2 : ms.length = fs.size)
      (hf : ∀ (i : Nat) (f : Field) (ds : List D) (m : Nat), fs[i]? = some f → dss[i]? = some ds → ms[i]? = some m → Deep P f.type ds m) : Deep P t dss.flatten (ms.sum + 1)
def DeepR (P : Program) (t : Nat) (r : R) (m : Nat) : Prop := match P.underlying t, r with
  | some (.struct _), .ag xs => Deep P t xs m
  | some (.struct _), .one _ => False
  | _, .one x => Deep P t [x] m
  | _, .ag _ => False
section
variable {P : Program} {t : Nat} {ds : List D} {m : Nat}
theorem Deep.unint {k : IntKind} (h : Deep P t ds m) (hu : P.underlying t = some (.int k)) : ∃ n, ds = [.sc (.int k n)] ∧ (Lit.int k n).wf = true ∧ m = 1 := by
  cases h with
  | int n h hw => rw [hu] at h; cases h; exact ⟨n, rfl, hw, rfl⟩
  | _ => simp_all
theorem Deep.unbool (h : Deep P t ds m) (hu : P.underlying t = some .bool) : ∃ b, ds = [.sc (.bool b)] ∧ m = 1 := by
  cases h with
  | bool b h => exact ⟨b, rfl, rfl⟩
  | _ => simp_all
theorem Deep.unstr (h : Deep P t ds m) (hu : P.underlying t = some .string) : ∃ s : ByteArray, ds = [.sc (.string s)] ∧ s.size ≤ maxLen ∧ m = s.size + 1 := by
  cases h with
  | str s h hs => exact ⟨s, rfl, hs, rfl⟩
  | _ => simp_all
theorem Deep.unsl {e : Nat} (h : Deep P t ds m) (hu : P.underlying t = some (.slice e)) : ∃ (rows : List (List D)) (ms : List Nat), ds = [.sl (P.cellsOf e) rows] ∧ ms.length = rows.length ∧ rows.length ≤ maxLen ∧ m = ms.sum + 1 ∧
    ∀ (i : Nat) (r : List D) (m : Nat), rows[i]? = some r → ms[i]? = some m → Deep P e r m := by
  cases h with
  | sl rows ms h hl hb hr => rw [hu] at h; cases h; exact ⟨rows, ms, rfl, hl, hb, rfl, hr⟩
  | _ => simp_all
theorem Deep.unst {fs : Array Field} (h : Deep P t ds m) (hu : P.underlying t = some (.struct fs)) : ∃ (dss : List (List D)) (ms : List Nat), ds = dss.flatten ∧ dss.length = fs.size ∧ ms.length = fs.size ∧ m = ms.sum + 1 ∧
    ∀ (i : Nat) (f : Field) (ds : List D) (m : Nat), fs[i]? = some f → dss[i]? = some ds → ms[i]? = some m → Deep P f.type ds m := by
  cases h with
  | st dss ms h h1 h2 hf => rw [hu] at h; cases h; exact ⟨dss, ms, rfl, h1, h2, rfl, hf⟩
  | _ => simp_all
theorem DeepR.one {r : R} (h : DeepR P t r m) (hu : ∀ fs, P.underlying t ≠ some (.struct fs)) : ∃ x, r = .one x ∧ Deep P t [x] m := by
  unfold DeepR at h
  split at h
  · exact absurd (by assumption) (hu _)
  · exact h.elim
  · exact ⟨_, rfl, h⟩
  · exact h.elim
theorem DeepR.ag {r : R} {fs : Array Field} (h : DeepR P t r m) (hu : P.underlying t = some (.struct fs)) : ∃ xs, r = .ag xs ∧ Deep P t xs m := by
  unfold DeepR at h
  rw [hu] at h
  cases r with
  | one x => exact h.elim
  | ag xs => exact ⟨xs, rfl, h⟩
end
def layoutB (P : Program) : List Field → Nat → Nat → Bool
  | [], n, c => Nat.beq n c
  | f :: fs, n, c => Nat.beq f.offset n && layoutB P fs (n + P.cellsOf f.type) c
def dataOk1 (P : Program) (L : List Nat) (t : Nat) : Bool := match P.underlying t with
  | some .bool => true
  | some (.int _) => true
  | some .string => true
  | some (.slice e) => L.contains e && Nat.blt 0 (P.cellsOf e)
  | some (.struct fs) => (fs.toList.all fun f => L.contains f.type) && layoutB P fs.toList 0 (P.cellsOf t)
  | _ => false
def dataOk (P : Program) (L : List Nat) : Bool := L.all (dataOk1 P L)
theorem pick_fn {β : Type} : ∀ {n : Nat} {p : Nat → β → Prop}, (∀ i, i < n → ∃ b, p i b) → ∃ l : List β, l.length = n ∧ ∀ (i : Nat) b, l[i]? = some b → p i b
  | 0, p, h => ⟨[], rfl, fun i b hi => by simp at hi⟩
  | n + 1, p, h => by
    obtain ⟨b0, h0⟩ := h 0 (by omega)
    obtain ⟨l, hl, hp⟩ := pick_fn (n := n) (p := fun i b => p (i + 1) b) fun i hi => h (i + 1) (by omega)
    refine ⟨b0 :: l, by simp [hl], fun i b hi => ?_⟩
    cases i with
    | zero => simp at hi; subst hi; exact h0
    | succ i => exact hp i b (by simpa using hi)
theorem atDs_flat {I : Nat → Nat → Prop} {w : World} : ∀ {css : List (List Value)} {dss : List (List D)}, css.length = dss.length → (∀ (i : Nat) cs ds, css[i]? = some cs → dss[i]? = some ds → AtDs I w cs ds) → AtDs I w css.flatten dss.flatten
  | [], [], _, _ => AtDs.nil I w
  | c :: css, d :: dss, hl, h => by
    rw [List.flatten_cons, List.flatten_cons]
    exact (h 0 c d rfl rfl).append (atDs_flat (by simpa using hl) fun i cs ds h1 h2 => h (i + 1) cs ds (by simpa using h1) (by simpa using h2))
  | [], _ :: _, hl, _ => by simp at hl
  | _ :: _, [], hl, _ => by simp at hl
theorem layout_cut {P : Program} {cs : List Value} : ∀ (fs : List Field) (n c : Nat), layoutB P fs n c = true → cs.length = c → cs.drop n = (fs.map fun f => (cs.drop f.offset).take (P.cellsOf f.type)).flatten
  | [], n, c, h, hl => by
    have : n = c := Nat.eq_of_beq_eq_true h
    rw [List.drop_eq_nil_of_le (by omega)]; rfl
  | f :: fs, n, c, h, hl => by
    rw [layoutB, Bool.and_eq_true] at h
    have h1 : f.offset = n := Nat.eq_of_beq_eq_true h.1
    rw [List.map_cons, List.flatten_cons, ← layout_cut fs _ c h.2 hl, h1, ← List.drop_drop, List.take_append_drop]
theorem bulk_sum {H : Type} : ∀ {ms : List Nat} {els : List (DataW H)}, ms.length = els.length → (∀ (i m : Nat) y, ms[i]? = some m → els[i]? = some y → m ≤ Rows.uptoBulk y) → ms.sum ≤ Rows.uptoBulkAll els
  | [], [], _, _ => by simp
  | m :: ms, y :: els, hl, h => by
    have h1 := h 0 m y rfl rfl
    have h2 := bulk_sum (ms := ms) (els := els) (by simpa using hl) fun i m y hm hy => h (i + 1) m y (by simpa using hm) (by simpa using hy)
    simp only [List.sum_cons, Rows.uptoBulkAll]
    omega
  | [], _ :: _, hl, _ => by simp at hl
  | _ :: _, [], hl, _ => by simp at hl
def Low (w : World) (b _h : Nat) : Prop := b < w.heap.size
section
variable {H : Type} {enc : TypeId × Value → H} {P : Program} {w : World} {base : Nat} {spare : Nat → Bool} {held : Bool}
theorem open_deep {L : List Nat} (hL : dataOk P L = true) : ∀ (fuel t : Nat) (cs : List Value) (x : DataW H × List MemPlace), t ∈ L → DataW.trod enc P w base spare held fuel t cs = some x → ∃ ds m, AtDs (Low w) w cs ds ∧ Deep P t ds m ∧ m ≤ Rows.uptoBulk x.1
  | 0, t, cs, x, ht, h => by simp [DataW.trod] at h
  | fuel + 1, t, cs, x, ht, h => by
    have hk := List.all_eq_true.1 hL t ht
    unfold dataOk1 at hk
    split at hk
    · rename_i e
      obtain ⟨b, rfl, rfl⟩ := DataW.trod_bool e h
      exact ⟨_, _, AtDs.cons (.sc _ rfl) (AtDs.nil _ _), .bool b e, by simp [Rows.uptoBulk]⟩
    · rename_i k e
      obtain ⟨n, rfl, rfl, hw⟩ := DataW.trod_int e h
      exact ⟨_, _, AtDs.cons (.sc _ rfl) (AtDs.nil _ _), .int n e hw, by simp [Rows.uptoBulk]⟩
    · rename_i e
      obtain ⟨s, rfl, rfl, hs⟩ := DataW.trod_string e h
      refine ⟨_, _, AtDs.cons (.sc _ rfl) (AtDs.nil _ _), .str s e hs, ?_⟩
      have e2 : s.data.toList.length = s.size := by rw [Array.length_toList]; rfl
      simp only [Rows.uptoBulk]
      omega
    · rename_i e he
      simp only [Bool.and_eq_true, List.contains_iff_mem, Nat.blt_eq] at hk
      rcases DataW.trod_slice he h with ⟨rfl, rfl⟩ | ⟨a, len, cap, elems, rest, n, hfu, rfl, rfl, hb, hl, hm, hlen, hel, _, _⟩
      · exact ⟨_, _, AtDs.cons (.nil none 0 (P.cellsOf e)) (AtDs.nil _ _), .sl [] [] he rfl (Nat.zero_le _) (fun i r m hr => by simp at hr), by simp [Rows.uptoBulk]⟩
      · obtain rfl : n = fuel := by omega
        have each : ∀ i, i < len → ∃ q : List Value × List D × Nat, (w.cells? base (a.add (i * P.cellsOf e)) (P.cellsOf e) = some q.1) ∧ AtDs (Low w) w q.1 q.2.1 ∧ Deep P e q.2.1 q.2.2 ∧ ∃ y, elems[i]? = some y ∧ q.2.2 ≤ Rows.uptoBulk y.1 := by
          intro i hi
          have h1 := hel i hi
          have hei : elems[i]? = some (elems[i]'(by omega)) := List.getElem?_eq_getElem (by omega)
          rw [hei, Option.bind_eq_some_iff] at h1
          obtain ⟨cs', hc, ht'⟩ := h1
          obtain ⟨ds, m, h2, h3, h4⟩ := open_deep hL n e cs' _ hk.1 ht'
          exact ⟨(cs', ds, m), hc, h2, h3, _, hei, h4⟩
        obtain ⟨l, hll, hp⟩ := pick_fn each
        have hmap : ∀ {β : Type} (f : List Value × List D × Nat → β) (i : Nat) (b : β), (l.map f)[i]? = some b → ∃ q, l[i]? = some q ∧ f q = b := fun f i b hi => by
          rw [List.getElem?_map, Option.map_eq_some_iff] at hi
          exact hi
        have hrl : (l.map fun q => q.2.1).length = len := by rw [List.length_map, hll]
        have hcl : ∀ r ∈ l.map (fun q => q.1), r.length = P.cellsOf e := fun r hr => by
          obtain ⟨i, hi⟩ := List.mem_iff_getElem?.1 hr
          obtain ⟨q, hq, rfl⟩ := hmap _ i r hi
          exact (World.cells?_some (hp i q hq).1).2.1
        have hdl : ∀ r ∈ l.map (fun q => q.2.1), r.length = P.cellsOf e := fun r hr => by
          obtain ⟨i, hi⟩ := List.mem_iff_getElem?.1 hr
          obtain ⟨q, hq, rfl⟩ := hmap _ i r hi
          rw [← (hp i q hq).2.1.1]
          exact (World.cells?_some (hp i q hq).1).2.1
        have hD : Deep P t [.sl (P.cellsOf e) (l.map fun q => q.2.1)] ((l.map fun q => q.2.2).sum + 1) := by
          refine .sl _ _ he (by simp) (by rw [hrl]; omega) fun i r m hr hm => ?_
          obtain ⟨q, hq, rfl⟩ := hmap _ i r hr
          obtain ⟨q', hq', rfl⟩ := hmap _ i m hm
          rw [hq] at hq'
          cases hq'
          exact (hp i q hq).2.2.1
        have hB : (l.map fun q => q.2.2).sum + 1 ≤ Rows.uptoBulk (DataW.slice (elems.map (·.1)) (rest.map (·.1))) := by
          have := bulk_sum (ms := l.map fun q => q.2.2) (els := elems.map (·.1)) (by simp [hll, hlen]) fun i m y hm hy => by
            obtain ⟨q, hq, rfl⟩ := hmap _ i m hm
            obtain ⟨y', hy', h4⟩ := (hp i q hq).2.2.2
            rw [List.getElem?_map, hy'] at hy
            cases hy
            exact h4
          simp only [Rows.uptoBulk]
          omega
        refine ⟨_, _, AtDs.cons ?_ (AtDs.nil _ _), hD, hB⟩
        by_cases h0 : len = 0
        · subst h0
          rw [List.eq_nil_of_length_eq_zero hll]
          exact .nil _ _ _
        obtain ⟨b, off, spot⟩ := a
        obtain ⟨q0, hq0⟩ : ∃ q, l[0]? = some q := ⟨_, List.getElem?_eq_getElem (by omega)⟩
        have hc0 := (World.cells?_some (hp 0 q0 hq0).1).2
        have hq00 : q0.1[0]? = some (q0.1[0]'(by omega)) := List.getElem?_eq_getElem (by omega)
        have hcell0 := (hc0.2 0 hk.2).trans hq00
        have hspot : spot = none := by
          have := World.cell?_spot hcell0
          simpa [Addr.add] using this
        subst hspot
        have hblk : b < w.heap.size := by
          have := World.block_lt_of_cell? w _ hcell0
          simpa [Addr.add] using this
        have add0 : ∀ o j, (⟨b, o, none⟩ : Addr).add j = ⟨b, o + j, none⟩ := fun o j => by
          unfold Addr.add
          by_cases hj : j = 0
          · subst hj; rfl
          · simp [hj]
        have hus : (l.map fun q => q.1).flatten.length = len * P.cellsOf e := by rw [flat_len hcl, List.length_map, hll]
        have hsl := AtD.sl (I := Low w) (w := w) b off cap (P.cellsOf e) (l.map fun q => q.2.1) (l.map fun q => q.1).flatten (by rw [hrl]; exact hl) ⟨_, Nat.le_refl _, hblk⟩ hdl (by rw [hus, hrl]) (fun i u hu => ?_) (fun i u d hu hd => ?_)
        · rw [hrl] at hsl
          exact hsl
        · have hi : i < len * P.cellsOf e := by rw [← hus]; exact (List.getElem?_eq_some_iff.1 hu).1
          have hq : i / P.cellsOf e < len := (Nat.div_lt_iff_lt_mul hk.2).2 hi
          have hr : i % P.cellsOf e < P.cellsOf e := Nat.mod_lt _ hk.2
          have ei : i / P.cellsOf e * P.cellsOf e + i % P.cellsOf e = i := by rw [Nat.mul_comm]; exact Nat.div_add_mod i _
          obtain ⟨q, hqq⟩ : ∃ q, l[i / P.cellsOf e]? = some q := ⟨_, List.getElem?_eq_getElem (by omega)⟩
          have hcq := (World.cells?_some (hp _ q hqq).1).2.2 _ hr
          have hfl := flat_get hcl (i := i / P.cellsOf e) (j := i % P.cellsOf e) (r := q.1) (by rw [List.getElem?_map, hqq]; rfl) hr
          rw [ei, hu] at hfl
          rw [← hfl, add0, add0, Nat.add_assoc, ei] at hcq
          exact hcq
        · exact (atDs_flat (I := Low w) (w := w) (css := l.map fun q => q.1) (dss := l.map fun q => q.2.1) (by simp) fun i cs ds h1 h2 => by
            obtain ⟨q, hq, rfl⟩ := hmap _ i cs h1
            obtain ⟨q', hq', rfl⟩ := hmap _ i ds h2
            rw [hq] at hq'
            cases hq'
            exact (hp i q hq).2.1).2 i u d hu hd
    · rename_i fs he
      simp only [Bool.and_eq_true, List.all_eq_true, List.contains_iff_mem] at hk
      obtain ⟨xs, n, hfu, rfl, hcl, hxl, hf⟩ := DataW.trod_struct he h
      obtain rfl : n = fuel := by omega
      have each : ∀ i, i < fs.size → ∃ q : List D × Nat, ∀ f, fs[i]? = some f → AtDs (Low w) w ((cs.drop f.offset).take (P.cellsOf f.type)) q.1 ∧ Deep P f.type q.1 q.2 ∧ ∃ y, xs[i]? = some y ∧ q.2 ≤ Rows.uptoBulk y.1 := by
        intro i hi
        have hfi : fs[i]? = some fs[i] := Array.getElem?_eq_getElem hi
        have hxi : xs[i]? = some (xs[i]'(by omega)) := List.getElem?_eq_getElem (by omega)
        have h1 := hf i _ hfi
        rw [hxi] at h1
        obtain ⟨ds, m, h2, h3, h4⟩ := open_deep hL n _ _ _ (hk.1 _ (Array.getElem_mem_toList ..)) h1
        refine ⟨(ds, m), fun f hff => ?_⟩
        rw [hfi] at hff
        cases hff
        exact ⟨h2, h3, _, hxi, h4⟩
      obtain ⟨l, hll, hp⟩ := pick_fn each
      have hmap : ∀ {β : Type} (f : List D × Nat → β) (i : Nat) (b : β), (l.map f)[i]? = some b → ∃ q, l[i]? = some q ∧ f q = b := fun f i b hi => by
        rw [List.getElem?_map, Option.map_eq_some_iff] at hi
        exact hi
      refine ⟨(l.map (·.1)).flatten, (l.map (·.2)).sum + 1, ?_, .st _ _ he (by simp [hll]) (by simp [hll]) fun i f ds m h1 h2 h3 => ?_, ?_⟩
      · have hcut := layout_cut fs.toList 0 _ hk.2 hcl
        rw [List.drop_zero] at hcut
        rw [hcut]
        refine atDs_flat (by simp [hll]) fun i c d h1 h2 => ?_
        rw [List.getElem?_map, Option.map_eq_some_iff] at h1
        obtain ⟨f, hfi, rfl⟩ := h1
        obtain ⟨q, hq, rfl⟩ := hmap _ i d h2
        exact (hp i q hq f (by simpa using hfi)).1
      · obtain ⟨q, hq, rfl⟩ := hmap _ i ds h2
        obtain ⟨q', hq', rfl⟩ := hmap _ i m h3
        rw [hq] at hq'
        cases hq'
        exact (hp i q hq f h1).2.1
      · have := bulk_sum (ms := l.map (·.2)) (els := xs.map (·.1)) (by simp [hll, hxl]) fun i m y hm hy => by
          obtain ⟨q, hq, rfl⟩ := hmap _ i m hm
          have hlt : i < fs.size := by rw [← hll]; exact (List.getElem?_eq_some_iff.1 hq).1
          obtain ⟨y', hy', h4⟩ := (hp i q hq _ (Array.getElem?_eq_getElem hlt)).2.2
          rw [List.getElem?_map, hy'] at hy
          cases hy
          exact h4
        simp only [Rows.uptoBulk]
        omega
    · cases hk
theorem open_arg {L : List Nat} (hL : dataOk P L = true) {t : Nat} {v : Value} {d : DataW H} {ps : List MemPlace} {rc : Reach} {b0 : Nat} (ht : L.contains t = true) (hv : Value.okWide P w rc b0 t v) (h : DataW.Trod enc P w base spare held t v d ps) :
    ∃ r m, AtR (Low w) w v r ∧ DeepR P t r m ∧ m ≤ Rows.uptoBulk d := by
  rw [List.contains_iff_mem] at ht
  obtain ⟨fuel, hf⟩ := h
  obtain ⟨ds, m, h1, h2, h3⟩ := open_deep hL fuel t _ _ ht hf
  have hk := List.all_eq_true.1 hL t ht
  unfold dataOk1 at hk
  split at hk
  · rename_i e
    obtain ⟨b, rfl⟩ := okWide_bool e hv
    obtain ⟨b', rfl, rfl⟩ := h2.unbool e
    obtain ⟨u, us', e2, h4, _⟩ := h1.uncons
    simp [Value.cells] at e2
    rw [← e2.1] at h4
    exact ⟨.one _, _, h4, by unfold DeepR; rw [e]; exact h2, h3⟩
  · rename_i k e
    obtain ⟨b, rfl⟩ := okWide_int e hv
    obtain ⟨b', rfl, _, rfl⟩ := h2.unint e
    obtain ⟨u, us', e2, h4, _⟩ := h1.uncons
    simp [Value.cells] at e2
    rw [← e2.1] at h4
    exact ⟨.one _, _, h4, by unfold DeepR; rw [e]; exact h2, h3⟩
  · rename_i e
    obtain ⟨b, rfl⟩ := okWide_string e hv
    obtain ⟨b', rfl, _, rfl⟩ := h2.unstr e
    obtain ⟨u, us', e2, h4, _⟩ := h1.uncons
    simp [Value.cells] at e2
    rw [← e2.1] at h4
    exact ⟨.one _, _, h4, by unfold DeepR; rw [e]; exact h2, h3⟩
  · rename_i el e
    obtain ⟨a, len, cap, rfl⟩ := okWide_slice e hv
    obtain ⟨rows, ms, rfl, _, _, rfl, _⟩ := h2.unsl e
    obtain ⟨u, us', e2, h4, _⟩ := h1.uncons
    simp [Value.cells] at e2
    rw [← e2.1] at h4
    exact ⟨.one _, _, h4, by unfold DeepR; rw [e]; exact h2, h3⟩
  · rename_i fs e
    obtain ⟨cs, rfl, _⟩ := okWide_struct e hv
    exact ⟨.ag ds, m, ⟨cs.toList, by simp, h1⟩, by unfold DeepR; rw [e]; exact h2, h3⟩
  · cases hk
end
theorem law_true {f : Nat} {rs : List R} (h : Spec f rs [.one (.sc (.bool true))]) {w : World} {args : List Value} (hat : AtRs (Low w) w args rs) : Calls Try.prog f args.toArray w fun e w' => e = .returned (.bool true) ∧ Below w.heap.size w w' := by
  refine (h.2 (Low w) w args (fun _ _ h => h) hat).mono ?_
  rintro e w' ⟨v, rfl, hv, hb⟩
  cases hv
  exact ⟨rfl, hb⟩
end Go.Proofs.Ytclehkgnacekkaa.Vm
end
section
namespace Go.Proofs.Ytclehkgnacekkaa.Vm
open Go.RowKit
theorem open_int {P : Program} {t : Nat} {k : IntKind} {r : R} {m : Nat} (ht : P.underlying t = some (.int k)) (h : DeepR P t r m) : ∃ n, r = .one (.sc (.int k n)) ∧ (Lit.int k n).wf = true := by
  obtain ⟨x, rfl, h2⟩ := h.one (fun fs => by rw [ht]; simp)
  obtain ⟨n, e, hw, _⟩ := h2.unint ht
  cases e
  exact ⟨n, rfl, hw⟩
theorem open_str {P : Program} {t : Nat} {r : R} {m : Nat} (ht : P.underlying t = some .string) (h : DeepR P t r m) : ∃ s : ByteArray, r = .one (.sc (.string s)) ∧ s.size ≤ maxLen ∧ m = s.size + 1 := by
  obtain ⟨x, rfl, h2⟩ := h.one (fun fs => by rw [ht]; simp)
  obtain ⟨n, e, hw, hm⟩ := h2.unstr ht
  cases e
  exact ⟨n, rfl, hw, hm⟩
end Go.Proofs.Ytclehkgnacekkaa.Vm
end
section
namespace Go.Proofs.Ytclehkgnacekkaa.Vm
open Go.RowKit
def PartWf (x : Ty) : Prop := x.name.size ≤ maxLen ∧ (Lit.int .u8 x.op).wf = true ∧ (Lit.int .i64 x.n).wf = true
def TyWf (t : Ty) : Prop := ∀ x ∈ t.parts, PartWf x
theorem TyWf.kid {t k : Ty} (h : TyWf t) (hk : k ∈ t.kids) : TyWf k := fun x hx => h x (by rw [parts_kids]; exact List.mem_cons_of_mem _ (List.mem_flatMap.2 ⟨k, hk, hx⟩))
theorem TyWf.self {t : Ty} (h : TyWf t) : PartWf t := h t (by rw [parts_eq]; exact List.mem_cons_self ..)
theorem cells_ty : Try.prog.cellsOf 25 = 4 := by kernel_rfl
set_option maxRecDepth 100000 in
theorem deep_ty : ∀ (m : Nat) (ds : List D), Deep Try.prog 25 ds m → ∃ t : Ty, ds = cT t ∧ t.parts.length ≤ m ∧ TyWf t ∧ ∀ x ∈ t.parts, x.name.size ≤ m := by
  intro m
  induction m using Nat.strongRecOn with
  | ind m ih =>
    intro ds h
    obtain ⟨dss, ms, rfl, h1, h2, rfl, hf⟩ := h.unst Try.underlying25
    match dss, ms, h1, h2, hf with
    | [d0, d1, d2, d3], [m0, m1, m2, m3], _, _, hf =>
      obtain ⟨op, rfl, w0, rfl⟩ := (hf 0 _ d0 m0 rfl rfl rfl).unint Try.underlying22
      obtain ⟨nm, rfl, w1, rfl⟩ := (hf 1 _ d1 m1 rfl rfl rfl).unstr Try.underlying9
      obtain ⟨n, rfl, w2, rfl⟩ := (hf 2 _ d2 m2 rfl rfl rfl).unint Try.underlying3
      obtain ⟨rows, ks, rfl, hl, hb, rfl, hr⟩ := (hf 3 _ d3 m3 rfl rfl rfl).unsl Try.underlying23
      clear hf h
      have key : ∀ (rows : List (List D)) (ks : List Nat), ks.length = rows.length → ks.sum < 1 + (nm.size + 1 + (1 + (ks.sum + 1 + 0))) + 1 → (∀ (i : Nat) (r : List D) (m' : Nat), rows[i]? = some r → ks[i]? = some m' → m' < [1, nm.size + 1, 1, ks.sum + 1].sum + 1 → ∃ t : Ty, r = cT t ∧ t.parts.length ≤ m' ∧ TyWf t ∧ ∀ x ∈ t.parts, x.name.size ≤ m') →
          ∃ ts : List Ty, rows = rT ts ∧ (partsL ts).length ≤ ks.sum ∧ ∀ x ∈ partsL ts, PartWf x ∧ x.name.size ≤ ks.sum := by
        intro rows
        induction rows with
        | nil => intro ks hl _ _; exact ⟨[], by rw [rT], by rw [partsL]; simp, fun x hx => by rw [partsL] at hx; simp at hx⟩
        | cons r rows ihr =>
          intro ks hl hs hrr
          match ks, hl with
          | k :: ks, hl =>
            obtain ⟨t, e1, e2, e3, e4⟩ := hrr 0 r k rfl rfl (by simp; omega)
            obtain ⟨ts, f1, f2, f3⟩ := ihr ks (by simpa using hl) (by omega) fun i r' m' hi hm hlt => hrr (i + 1) r' m' (by simpa using hi) (by simpa using hm) (by simp at hlt ⊢; omega)
            refine ⟨t :: ts, by rw [rT, e1, f1], by rw [partsL, List.length_append, List.sum_cons]; omega, fun x hx => ?_⟩
            rw [partsL, List.mem_append] at hx
            rcases hx with hx | hx
            · exact ⟨e3 x hx, by have := e4 x hx; rw [List.sum_cons]; omega⟩
            · exact ⟨(f3 x hx).1, by have := (f3 x hx).2; rw [List.sum_cons]; omega⟩
      obtain ⟨ts, e1, e2, e3⟩ := key rows ks hl (by omega) fun i r m' hi hm hlt => ih m' hlt r (hr i r m' hi hm)
      refine ⟨.mk op nm n ts, ?_, ?_, fun x hx => ?_, fun x hx => ?_⟩
      · rw [cT, e1, cells_ty]; rfl
      · rw [parts_eq, List.length_cons]
        simp only [Ty.kids, List.sum_cons, List.sum_nil]
        omega
      · rw [parts_eq] at hx
        rcases List.mem_cons.1 hx with rfl | hx
        · exact ⟨w1, w0, w2⟩
        · exact (e3 x hx).1
      · rw [parts_eq] at hx
        simp only [List.sum_cons, List.sum_nil]
        rcases List.mem_cons.1 hx with rfl | hx
        · simp only [Ty.name]; omega
        · have := (e3 x hx).2; omega
end Go.Proofs.Ytclehkgnacekkaa.Vm
end
section
namespace Go.Proofs.Ytclehkgnacekkaa.Vm
open Go.RowKit
set_option maxRecDepth 100000
theorem open_list {α : Type} (f : α → List D) (Q : α → Nat → Prop) (hQ : ∀ x m n, m ≤ n → Q x m → Q x n) (hpos : ∀ x m, Q x m → 1 ≤ m) {tl te : Nat} (hu : Try.prog.underlying tl = some (.slice te)) (h : ∀ ds m, Deep Try.prog te ds m → ∃ x, ds = f x ∧ Q x m) {r : R} {m : Nat} (hd : DeepR Try.prog tl r m) :
    ∃ l : List α, r = .one (.sl (Try.prog.cellsOf te) (l.map f)) ∧ l.length ≤ m ∧ ∀ x ∈ l, Q x m := by
  have hd : ∃ x, r = .one x ∧ Deep Try.prog tl [x] m := by
    unfold DeepR at hd
    rw [hu] at hd
    cases r with
    | one x => exact ⟨x, rfl, hd⟩
    | ag xs => exact hd.elim
  obtain ⟨x, rfl, hx⟩ := hd
  obtain ⟨rows, ks, e, hl, hb, rfl, hr⟩ := hx.unsl hu
  injection e with e _
  subst e
  have key : ∀ (rows : List (List D)) (ks : List Nat), ks.length = rows.length → (∀ (i : Nat) (r : List D) (m : Nat), rows[i]? = some r → ks[i]? = some m → Deep Try.prog te r m) → ∃ l : List α, rows = l.map f ∧ l.length ≤ ks.sum ∧ ∀ x ∈ l, Q x ks.sum := by
    intro rows
    induction rows with
    | nil => intro ks hl _; exact ⟨[], rfl, Nat.zero_le _, by simp⟩
    | cons r rows ih =>
      intro ks hl hr
      match ks, hl with
      | k :: ks, hl =>
        obtain ⟨t, e1, e2⟩ := h r k (hr 0 r k rfl rfl)
        obtain ⟨l, f1, f2, f3⟩ := ih ks (by simpa using hl) fun i r' m' hi hm => hr (i + 1) r' m' (by simpa using hi) (by simpa using hm)
        have hp := hpos t k e2
        refine ⟨t :: l, by rw [e1, f1]; rfl, by rw [List.length_cons, List.sum_cons]; omega, fun x hx => ?_⟩
        rw [List.sum_cons]
        rcases List.mem_cons.1 hx with rfl | hx
        · exact hQ _ _ _ (by omega) e2
        · exact hQ _ _ _ (by omega) (f3 x hx)
  obtain ⟨l, h1, h2, h3⟩ := key rows ks hl hr
  rw [h1]
  exact ⟨l, rfl, by omega, fun x hx => hQ _ _ _ (by omega) (h3 x hx)⟩
theorem cells_type : Try.prog.cellsOf 25 = 4 := by kernel_rfl
theorem cells_int : Try.prog.cellsOf 3 = 1 := by kernel_rfl
theorem open_tys {r : R} {m : Nat} (h : DeepR Try.prog 23 r m) : ∃ l : List Ty, r = .one (.sl 4 (rT l)) ∧ l.length ≤ m ∧ ∀ x ∈ l, x.parts.length ≤ m ∧ ∀ y ∈ x.parts, y.name.size ≤ m := by
  obtain ⟨l, h1, h2, h3⟩ := open_list cT (fun x m => x.parts.length ≤ m ∧ ∀ y ∈ x.parts, y.name.size ≤ m) (fun x m n hmn h => ⟨by have := h.1; omega, fun y hy => by have := h.2 y hy; omega⟩) (fun x m h => by have := parts_pos x; have := h.1; omega) Try.underlying23 (fun ds m hd => by
    obtain ⟨t, e1, e2, _, e3⟩ := deep_ty m ds hd
    exact ⟨t, e1, e2, e3⟩) h
  rw [cells_type, ← rT_map] at h1
  exact ⟨l, h1, h2, h3⟩
theorem open_ints {r : R} {m : Nat} (h : DeepR Try.prog 50 r m) : ∃ l : List Int, r = .one (.sl 1 (rI l)) ∧ l.length ≤ m := by
  obtain ⟨l, h1, h2, _⟩ := open_list (fun n : Int => [D.sc (.int .i64 n)]) (fun _ m => 1 ≤ m) (fun _ m n hmn h => by omega) (fun _ m h => h) Try.underlying50 (fun ds m hd => by
    obtain ⟨n, e1, _, e2⟩ := hd.unint Try.underlying3
    exact ⟨n, e1, by omega⟩) h
  rw [cells_int] at h1
  exact ⟨l, h1, h2⟩
end Go.Proofs.Ytclehkgnacekkaa.Vm
end
section
namespace Go.Proofs.Ytclehkgnacekkaa.Vm
open Go.RowKit
set_option maxRecDepth 100000 in
theorem PM_up {r0 r1 r2 r3 : R} {m0 m1 m2 m3 : Nat} (d0 : DeepR Try.prog 23 r0 m0) (d1 : DeepR Try.prog 5 r1 m1) (d2 : DeepR Try.prog 9 r2 m2) (d3 : DeepR Try.prog 50 r3 m3) (hm : m0 + m1 + m2 + m3 ≤ 1048576) : Spec 7 [r0, r1, r2, r3] [.one (.sc (.bool true))] := by
  obtain ⟨l, rfl, h1, h2⟩ := open_tys d0
  obtain ⟨op, rfl, _⟩ := open_int Try.underlying5 d1
  obtain ⟨nm, rfl, _, h3⟩ := open_str Try.underlying9 d2
  obtain ⟨ks, rfl, _⟩ := open_ints d3
  exact PM_s l op nm ks (fun x hx => ⟨by have := (h2 x hx).1; omega, fun y hy => by have := (h2 x hx).2 y hy; omega⟩) (by omega)
end Go.Proofs.Ytclehkgnacekkaa.Vm
end

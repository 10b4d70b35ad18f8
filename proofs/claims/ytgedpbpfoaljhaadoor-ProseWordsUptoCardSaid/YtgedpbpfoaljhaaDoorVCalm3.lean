/- The machine of values: literals of slices, pieces of slices and strings. -/
import Derived.Test.YtgedpbpfoaljhaaDoorVCalm2
set_option linter.unusedVariables false
set_option linter.unusedSimpArgs false
namespace Go.Proofs.YtgedpbpfoaljhaaDoor.Vm
open Go.RowKit
section
variable {I0 : Nat → Nat → Prop} {X : Nat → Prop} {w0 : W0} {I : Nat → Nat → Prop} {g : Nat → Value} {s : S} {a : Act} {w : World}
theorem chunks_is {sz : Nat} : ∀ {n : Nat} {l : List D} {rows : List (List D)}, chunks sz n l = some rows → rows.flatten = l ∧ rows.length = n ∧ ∀ r ∈ rows, r.length = sz
  | 0, [], rows, h => by rw [chunks] at h; injection h with h; subst h; simp
  | 0, _ :: _, rows, h => by rw [chunks] at h; cases h
  | n + 1, l, rows, h => by
    rw [chunks] at h
    split at h <;> try cases h
    rename_i r hr
    split at h <;> try cases h
    rename_i rs hrs
    obtain ⟨h1, h2, h3⟩ := chunks_is hrs
    obtain ⟨h4, h5⟩ := takeN_is hr
    rw [dropN_is] at h1
    refine ⟨?_, by simp [h2], fun x hx => ?_⟩
    · rw [List.flatten_cons, h1, h4]; simp
    · rcases List.mem_cons.1 hx with rfl | hx
      · exact h5
      · exact h3 x hx
theorem zeros_at {us : List Value} {z : List V} (hz : AtVs I w g us z) : ∀ (n : Nat) {vs : List Value} {acc : List V}, AtVs I w g vs acc → AtVs I w g ((List.replicate n us).flatten ++ vs) (zeros z n acc)
  | 0, vs, acc, h => by simpa [zeros] using h
  | n + 1, vs, acc, h => by
    rw [zeros]
    have := zeros_at hz n (hz.append h)
    rw [List.replicate_succ', List.flatten_append]
    simpa using this
theorem range_zero (z : Array Value) (n : Nat) : ((Array.range (n * z.size)).map fun i => z[i % z.size]!).toList = (List.replicate n z.toList).flatten := by
  apply List.ext_getElem?
  intro i
  have hrl : ∀ r ∈ List.replicate n z.toList, r.length = z.size := fun r hr => by rw [(List.mem_replicate.1 hr).2]; simp
  by_cases hi : i < n * z.size
  · have hz : 0 < z.size := by
      rcases Nat.eq_zero_or_pos z.size with h | h
      · rw [h, Nat.mul_zero] at hi; omega
      · exact h
    have hq : i / z.size < n := Nat.div_lt_of_lt_mul (by rw [Nat.mul_comm]; exact hi)
    have hm : i % z.size < z.size := Nat.mod_lt _ hz
    have e := flat_get hrl (i := i / z.size) (j := i % z.size) (r := z.toList) (by rw [List.getElem?_replicate, if_pos hq]) hm
    rw [Nat.div_add_mod' i z.size] at e
    rw [e]
    simp [hi, hm, Array.getElem?_eq_getElem]
  · rw [List.getElem?_eq_none (by simp; omega), List.getElem?_eq_none (by rw [flat_len hrl]; simp; omega)]
theorem buildSlice_run (h : RelI I0 X w0 I g s a w) {K : V → Prop} {t n : Nat} (ht : tyKnown t = true) (hte : ∀ e, (ty t).elem = some e → tyKnown e = true ∧ n * (ty e).sz ≤ 16777216) (ps : Array (Nat × Operand)) (hK : buildSliceV s.get s.o K t n ps.toList) :
    ∃ e rows us, (ty t).elem = some e ∧ tyKnown e = true ∧ (Instr.buildSlice t n (ps.map fun p => (p.1, a.eval p.2))).run Tryd.prog w = .ok (.slice (some ⟨w.heap.size, 0, none⟩) n n) (w.alloc (.cells us.toArray e)) ∧ us.length = n * (ty e).sz ∧ rows.length = n ∧ (∀ r ∈ rows, r.length = (ty e).sz) ∧ AtDs I w us rows.flatten ∧ K (.d (.sl (ty e).sz rows)) := by
  unfold buildSliceV at hK
  split at hK <;> try exact hK.elim
  rename_i e he
  split at hK <;> try exact hK.elim
  rename_i n
  split at hK <;> try exact hK.elim
  rename_i l hl
  split at hK <;> try exact hK.elim
  rename_i ds hds
  split at hK <;> try exact hK.elim
  rename_i rows hrows
  obtain ⟨hke, hsz⟩ := hte e he
  have hun := ty_slice ht he
  obtain ⟨z, hz, hzc⟩ := ty_zero hke w
  obtain ⟨_, _, _, _, _, _, hzl, _⟩ := ty_info hke
  have hz0 := zeros_at (I := I) (w := w) (g := g) (constL_at (ty e).zero) (n + 1) (.nil I w g)
  rw [List.append_nil] at hz0
  -- the fill's places
  have hpl : ∀ (m off i : Nat) (p : Nat × Nat), (places (ty e).sz m off)[i]? = some p → p = (off + i * (ty e).sz, (ty e).sz) := by
    intro m
    induction m with
    | zero => intro off i p hp; simp [places] at hp
    | succ m ih =>
      intro off i p hp
      cases i with
      | zero => simp [places] at hp; rw [← hp]; simp
      | succ i =>
        have := ih (off + (ty e).sz) i p (by simpa [places] using hp)
        rw [this, Nat.succ_mul]
        exact Prod.ext (by simp only; omega) rfl
  obtain ⟨us', h1, h2⟩ := fill_at h hz0 hl
  have hfill : ∀ (ps : List (Nat × Value)) (cs r : Array Value), Instr.fill (fun i => (places (ty e).sz (n + 1) 0)[i]?) cs ps = some r → Instr.fill (fun i => some (i * (ty e).sz, (ty e).sz)) cs ps = some r := by
    intro ps
    induction ps with
    | nil => intro cs r hr; exact hr
    | cons p ps ih =>
      intro cs r hr
      obtain ⟨i, v⟩ := p
      rw [Instr.fill] at hr ⊢
      cases hp : (places (ty e).sz (n + 1) 0)[i]? with
      | none => rw [hp] at hr; cases hr
      | some q =>
        rw [hp] at hr
        have := hpl _ _ _ _ hp
        rw [Nat.zero_add] at this
        subst this
        simp only at hr ⊢
        split at hr
        · cases hr
        · rename_i hc
          rw [if_neg hc]
          exact ih _ _ hr
  have h3 := hfill _ _ _ h1
  have hcell : ((Array.range ((n + 1) * (ty e).sz)).map fun i => ((if (n + 1) * (ty e).sz = 0 then #[] else z.cells) : Array Value)[i % ((if (n + 1) * (ty e).sz = 0 then #[] else z.cells) : Array Value).size]!) = ((List.replicate (n + 1) (ty e).zero).flatten).toArray := by
    apply Array.ext'
    by_cases hs0 : (n + 1) * (ty e).sz = 0
    · have : (ty e).sz = 0 := by rcases Nat.mul_eq_zero.1 hs0 with h | h <;> omega
      rw [this] at hzl
      have hnil : (ty e).zero = [] := List.eq_nil_of_length_eq_zero hzl
      rw [hs0, hnil]
      simp
    · rw [if_neg hs0, hzc]
      have := range_zero (ty e).zero.toArray (n + 1)
      simp only [List.size_toArray, hzl] at this
      simpa [hzl] using this
  have hdat := toDs_at h h2 hds
  obtain ⟨hfl, hrl, hr1⟩ := chunks_is hrows
  have hrun : (Instr.buildSlice t (n + 1) (ps.map fun p => (p.1, a.eval p.2))).run Tryd.prog w = .ok (.slice (some ⟨w.heap.size, 0, none⟩) (n + 1) (n + 1)) (w.alloc (.cells us'.toArray e)) := by
    have hsz' : (n + 1) * (ty e).sz ≤ 16777216 := hsz
    have hbig : ¬ (n + 1) * (ty e).sz > 16777216 := by omega
    have hsize := ty_size hke w
    by_cases hs0 : (n + 1) * (ty e).sz = 0
    · rw [if_pos hs0] at hcell
      simp only [Instr.buildSlice, Sem.run_bind, run_underlying hun, Result.andThen_ok, hsize, Sem.run_ite, Sem.run_pure]
      rw [if_neg (by omega), if_pos hs0]
      simp only [Result.andThen_ok, hcell, Array.toList_map, h3]
      rfl
    · rw [if_neg hs0] at hcell
      simp only [Instr.buildSlice, Sem.run_bind, run_underlying hun, Result.andThen_ok, hsize, Sem.run_ite, Sem.run_pure]
      rw [if_neg (by omega), if_neg hs0]
      simp only [Sem.run_bind, hz, Result.andThen_ok, Sem.run_pure, hcell, Array.toList_map, h3]
      rfl
  exact ⟨e, rows, us', he, hke, hrun, by rw [hdat.1, ← hfl, flat_len hr1, hrl], hrl, hr1, by rw [hfl]; exact hdat, hK⟩
theorem buildSlice_ok (h : RelI I0 X w0 I g s a w) {K : V → Prop} {t n : Nat} (ht : tyKnown t = true) (hte : ∀ e, (ty t).elem = some e → tyKnown e = true ∧ n * (ty e).sz ≤ 16777216) (ps : Array (Nat × Operand)) (hK : buildSliceV s.get s.o K t n ps.toList) :
    Yld I0 X w0 g s a w (Instr.buildSlice t n (ps.map fun p => (p.1, a.eval p.2))) K := by
  obtain ⟨e, rows, us', he, hke, hrun, hl, hrl, hr1, hdat, hK⟩ := buildSlice_run h ht hte ps hK
  have hb : Below w.heap.size w (w.alloc (.cells us'.toArray e)) := (Below.refl _ _).alloc (Nat.le_refl _) _
  have hk : Keeps I w (w.alloc (.cells us'.toArray e)) := fun b k hbk i _ => hb.cell (p := ⟨b, i, none⟩) (h.lt b k hbk).1
  have h4 := h.grow hb (I' := fun b k => I b k ∨ b = w.heap.size) (fun _ _ h => .inl h) (fun b k hk => by
    rcases hk with hk | rfl
    · exact .inl hk
    · exact .inr ⟨Nat.le_refl _, by simp⟩)
  refine ⟨_, _, _, _, hrun, h4, .d ?_, hK⟩
  rw [← hrl]
  refine .sl _ 0 _ _ rows us' (Nat.le_refl _) ⟨_, Nat.le_refl _, .inr rfl⟩ hr1 ?_ (fun i u hu => ?_) (fun i u d hu hd => ?_)
  · rw [hl, hrl]
  · rw [Nat.zero_add, World.cell?_alloc_new]
    simpa using hu
  · exact (hdat.2 i u d hu hd).mono (fun _ _ h => .inl h) hk
theorem bound_at (h : RelI I0 X w0 I g s a w) {n l : Int} {lo : Option Operand} (hb : bound n (getOpt s.get lo) = some l) : (lo.map a.eval = none ∧ l = n) ∨ ∃ k, lo.map a.eval = some (.int k l) := by
  cases lo with
  | none =>
    simp only [getOpt, bound, Option.some.injEq] at hb
    exact .inl ⟨rfl, hb.symm⟩
  | some x =>
    simp only [getOpt] at hb
    have hx := h.get x
    generalize s.get x = y at *
    cases y with
    | d z =>
      cases z with
      | sc v =>
        cases v <;> first | (simp [bound] at hb; done) | skip
        rename_i k m
        simp only [bound, Option.some.injEq] at hb
        subst hb
        exact .inr ⟨k, by rw [Option.map_some, hx.sc]⟩
      | sl sz rows => simp [bound] at hb
    | _ => simp [bound] at hb
theorem bounds_run (isSlice : Bool) (len cap : Nat) (lo hi : Option Value) (l h : Int) (hlo : (lo = none ∧ l = 0) ∨ ∃ k, lo = some (.int k l)) (hhi : (hi = none ∧ h = len) ∨ ∃ k, hi = some (.int k h)) (h0 : 0 ≤ l) (h1 : l ≤ h) (h2 : h ≤ cap) :
    (Instr.sliceBounds isSlice len cap lo hi none).run Tryd.prog w = .ok (l.toNat, h.toNat, cap) w := by
  have e1 : ((h.toNat : Nat) : Int) = h := Int.toNat_of_nonneg (by omega)
  have e2 : 0 ≤ h := by omega
  rcases hlo with ⟨rfl, rfl⟩ | ⟨k, rfl⟩ <;> rcases hhi with ⟨rfl, rfl⟩ | ⟨k', rfl⟩ <;> simp [Instr.sliceBounds, run_sliceBound, *]
theorem slice_ok (h : RelI I0 X w0 I g s a w) {K : V → Prop} {t : Nat} (ht : tyKnown t = true) (hte : ∀ e, (ty t).elem = some e → tyKnown e = true) {u : Value} {x : V} {lo hi : Option Operand} (hu : AtV I w g u x) (hK : sliceV real s.o K t x (getOpt s.get lo) (getOpt s.get hi)) :
    Yld I0 X w0 g s a w (Instr.sliceAt t u (lo.map a.eval) (hi.map a.eval) none) K := by
  unfold sliceV at hK
  split at hK <;> try exact hK.elim
  rename_i l hl
  have hlo := bound_at h hl
  split at hK <;> try exact hK.elim
  · rename_i hk
    split at hK <;> try exact hK.elim
    rename_i b
    split at hK <;> try exact hK.elim
    rename_i hh hhb
    have hhi := bound_at h hhb
    split at hK <;> try exact hK.elim
    rename_i c hc
    obtain rfl := hu.sc
    have hun := ty_str ht hk
    simp only [real] at hc
    split at hc <;> try cases hc
    rename_i hbd
    have hbr := bounds_run (w := w) false b.size b.size _ _ l hh hlo hhi hbd.1 hbd.2.1 hbd.2.2
    refine yld h ?_ (ats _) hK
    simp [Instr.sliceAt, Instr.slice, run_underlying hun, hbr]
  · rename_i hk
    split at hK <;> try exact hK.elim
    rename_i e he
    split at hK <;> try exact hK.elim
    rename_i sz rows hr
    split at hK <;> try exact hK.elim
    rename_i hsz
    split at hK <;> try exact hK.elim
    rename_i hh hhb
    have hhi := bound_at h hhb
    split at hK <;> try exact hK.elim
    rename_i rs hrs
    obtain ⟨h1, h1'⟩ := rows_at h hu hr
    have h2 := szOk_at hsz h1 h1'
    obtain ⟨A, cap, rfl, hcap, h3⟩ := h2.slice
    simp only [real] at hrs
    split at hrs <;> try cases hrs
    rename_i hbd
    have hun := ty_slice ht he
    have hbr := bounds_run (w := w) true rows.length cap _ _ l hh hlo hhi hbd.1 hbd.2.1 (by omega)
    have hlen : ((rows.drop l.toNat).take (hh.toNat - l.toNat)).length = hh.toNat - l.toNat := by
      rw [List.length_take, List.length_drop]; omega
    refine yld h (v := sliced A l.toNat hh.toNat cap (ty e).sz) ?_ (.d ?_) hK
    · simp [Instr.sliceAt, Instr.slice, run_underlying hun, hbr, ty_size (hte e he), sliced]
    · unfold sliced
      by_cases hemp : hh.toNat - l.toNat = 0
      · have : (rows.drop l.toNat).take (hh.toNat - l.toNat) = [] := by rw [hemp]; simp
        rw [this, hemp]
        exact .nil _ _ _
      · rcases h3 with rfl | ⟨b, off, us, rfl, hI, hrl, hul, hc, hd⟩
        · simp at hbd; omega
        rw [if_neg (by omega)]
        have hsub : l.toNat * (ty e).sz + (hh.toNat - l.toNat) * (ty e).sz ≤ rows.length * (ty e).sz := by rw [← Nat.add_mul]; exact Nat.mul_le_mul_right _ (by omega)
        have hflat : ((rows.drop l.toNat).take (hh.toNat - l.toNat)).flatten = (rows.flatten.drop (l.toNat * (ty e).sz)).take ((hh.toNat - l.toNat) * (ty e).sz) := by
          have e1 : rows = rows.take l.toNat ++ ((rows.drop l.toNat).take (hh.toNat - l.toNat) ++ (rows.drop l.toNat).drop (hh.toNat - l.toNat)) := by rw [List.take_append_drop, List.take_append_drop]
          have f1 : (rows.take l.toNat).flatten.length = l.toNat * (ty e).sz := by
            rw [flat_len fun r hr => hrl r (List.mem_of_mem_take hr), List.length_take, Nat.min_eq_left (by omega)]
          have f2 : ((rows.drop l.toNat).take (hh.toNat - l.toNat)).flatten.length = (hh.toNat - l.toNat) * (ty e).sz := by
            rw [flat_len fun r hr => hrl r (List.mem_of_mem_drop (List.mem_of_mem_take hr)), hlen]
          conv => rhs; rw [e1]
          rw [List.flatten_append, List.flatten_append, ← f1, List.drop_left, ← f2, List.take_left]
        have hval : AtD I w (.slice (some ⟨b, off + l.toNat * (ty e).sz, none⟩) ((rows.drop l.toNat).take (hh.toNat - l.toNat)).length (cap - l.toNat)) (.sl (ty e).sz ((rows.drop l.toNat).take (hh.toNat - l.toNat))) := by
          refine .sl b _ _ _ _ ((us.drop (l.toNat * (ty e).sz)).take ((hh.toNat - l.toNat) * (ty e).sz)) (by rw [hlen]; omega) (hI.down (by rw [hlen]; omega)) (fun r hr => hrl r (List.mem_of_mem_drop (List.mem_of_mem_take hr))) ?_ (fun i u hu => ?_) (fun i u d hu hdd => ?_)
          · rw [hlen, List.length_take, List.length_drop, hul]; omega
          · rw [List.getElem?_take] at hu
            split at hu
            · rw [List.getElem?_drop] at hu
              rw [Nat.add_assoc]
              exact hc _ _ hu
            · cases hu
          · rw [hflat, List.getElem?_take] at hdd
            rw [List.getElem?_take] at hu
            split at hu
            · rename_i hi
              rw [if_pos hi, List.getElem?_drop] at hdd
              rw [List.getElem?_drop] at hu
              exact hd.2 _ _ _ hu hdd
            · cases hu
        rw [hlen] at hval
        simpa [Addr.add_lit] using hval
  
theorem pick_ok (h : RelI I0 X w0 I g s a w) {K : V → Prop} {c u v : Value} {z x y : V} (hc : AtV I w g c z) (hu : AtV I w g u x) (hv : AtV I w g v y) (hK : pickV K x y z) : Yld I0 X w0 g s a w (do pure (if ← asBool c then u else v)) K := by
  unfold pickV at hK
  split at hK <;> try exact hK.elim
  rename_i b
  obtain rfl := hc.sc
  cases b
  · exact yld h (by simp [asBool]) hv hK
  · exact yld h (by simp [asBool]) hu hK
end
end Go.Proofs.YtgedpbpfoaljhaaDoor.Vm

/- The machine of values: append. -/
import Derived.Test.YtgedpbpfoaljhaaDoorVObj
set_option linter.unusedVariables false
set_option linter.unusedSimpArgs false
namespace Go.Proofs.YtgedpbpfoaljhaaDoor.Vm
open Go.RowKit
/-- An append behind an owned row stays where the row is, or goes to a new block and turns nothing. -/
theorem run_append_split {P : Program} (w : World) (base : Nat) (t ty e : TypeId) (i : TypeInfo) (z : Value) (size bytes : Nat) (ht : P.underlying t = some (.slice e)) (hi : P.info? e = some i) (hz : i.zero = some z)
    (hsize : i.size = size) (hby : i.bytes = bytes) (hzs : z.cells.size = size) (hpos : 0 < size) (v : Value) (n : Nat) (xs : List Value) (hown : w.ownsRow base e size v n xs)
    (A : Option Addr) (m c : Nat) (ys : List Value) (hs : SrcAt w A m size ys) (h63 : n + m ≤ maxLen) (hbytes : (n + m) * bytes ≤ 140737488355328) (hbase : base ≤ w.heap.size) :
    ∃ v' w', (Builtin.append_ #[t, t] ty #[v, .slice A m c]).run P w = .ok v' w' ∧ w'.ownsRow base e size v' (n + m) (xs ++ ys) ∧
      ((∃ g, v.ownBlock = some g ∧ v'.ownBlock = some g ∧ w.grownBy w' (some g)) ∨ (Below w.heap.size w w' ∧ (v'.ownBlock = none ∨ v'.ownBlock = some w.heap.size))) := by
  obtain ⟨hl, hn, hc, h1⟩ := hs
  rcases A with _ | ad
  · have hm := hn rfl
    subst hm
    have hys : ys = [] := List.eq_nil_of_length_eq_zero (by rw [hl, Nat.zero_mul])
    subst hys
    refine ⟨v, w, ?_, by simpa using hown, ?_⟩
    · rcases hown.2 with ⟨rfl, rfl⟩ | ⟨g, cap, cur, rfl, _, _, hnc, _⟩
      · simp [Builtin.append_, run_underlying ht, sizeOf, typeInfo, hi, Builtin.lenOf, Builtin.firstCells]
      · simp [Builtin.append_, run_underlying ht, sizeOf, typeInfo, hi, Builtin.lenOf, Builtin.firstCells, hnc, storeCells]
    · cases hb : v.ownBlock with
      | none => exact .inr ⟨Below.refl _ _, .inl rfl⟩
      | some g => exact .inl ⟨g, rfl, rfl, World.grownBy.refl w _⟩
  · obtain ⟨v', w', hrun, h2, h3, _, hat⟩ := run_append_own_at (P := P) w base t ty e i z size bytes ht hi hz hsize hby hzs hpos v n xs hown ad m c ys hl (hc ad rfl) h1 h63 hbytes hbase
    refine ⟨v', w', hrun, h2, ?_⟩
    subst hsize
    subst hby
    rcases hown.2 with ⟨rfl, rfl⟩ | ⟨g, cap, cur, rfl, hbg, hg, hnc, hcm, hcs, htake⟩
    · exact .inr ⟨⟨h3.os, h3.tape, h3.output, h3.size, fun k hk => h3.block k hk (by simp [Value.ownBlock])⟩, hat⟩
    · by_cases hroom : n + m ≤ cap
      · have hfit : n * i.size + ys.length ≤ cur.size := by rw [hl, hcs, ← Nat.add_mul]; exact Nat.mul_le_mul_right _ hroom
        have hr := run_append_room (P := P) w t ty e i ht hi g n cap cur hg ad m c ys hl (hc ad rfl) h1 hroom hfit
        rw [hrun] at hr
        injection hr with e1 e2
        subst e1
        exact .inl ⟨g, rfl, rfl, h3⟩
      · have holds : ∀ j u, xs[j]? = some u → w.cell? ((⟨g, 0, none⟩ : Addr).add j) = some u := hown.cells (g := g) rfl
        have hr := run_append_grow (P := P) w t ty e i z ht hi hz ⟨g, 0, none⟩ n cap xs hown.1 holds ad m c ys hl (hc ad rfl) (by omega) (by unfold maxLen at h63; omega) (growslice_fits (by omega) hbytes)
        rw [hrun] at hr
        injection hr with e1 e2
        subst e1
        subst e2
        exact .inr ⟨((Below.refl _ _).drew).alloc (Nat.le_refl _) _, .inr rfl⟩
theorem blk_cell {w w' : World} {b : Nat} (h : w'.heap[b]? = w.heap[b]?) (o : Nat) : w'.cell? ⟨b, o, none⟩ = w.cell? ⟨b, o, none⟩ := by simp only [World.cell?, h]
section
variable {I0 : Nat → Nat → Prop} {X : Nat → Prop} {w0 : W0} {I : Nat → Nat → Prop} {g : Nat → Value} {s : S} {a : Act} {w : World}
/-- What lies below a row's length is where it was. -/
theorem own_cells {w w' : World} {base e sz n m : Nat} {v v' : Value} {us vs : List Value} (h : w.ownsRow base e sz v n us) (h' : w'.ownsRow base e sz v' (n + m) (us ++ vs)) {b : Nat} (hb : v.ownBlock = some b) (hb' : v'.ownBlock = some b) {i : Nat} (hi : i < n * sz) :
    w'.cell? ⟨b, i, none⟩ = w.cell? ⟨b, i, none⟩ := by
  have e1 : ∀ {w : World} {v : Value} {n : Nat} {us : List Value}, w.ownsRow base e sz v n us → v.ownBlock = some b → ∀ i, i < n * sz → w.cell? ⟨b, i, none⟩ = us[i]? := fun {w v n us} h hb i hi => by
    rcases h.2 with ⟨rfl, _⟩ | ⟨g, cap, cur, rfl, _⟩
    · cases hb
    · injection hb with hb
      subst hb
      exact World.ownsRow.cellAt h i hi
  rw [e1 h hb i hi, e1 h' hb' i (by rw [Nat.add_mul]; omega), List.getElem?_append_left (by rw [h.1]; exact hi)]
theorem own_gblk {w : World} {base e sz n : Nat} {v : Value} {us : List Value} (h : w.ownsRow base e sz v n us) : gblk v = v.ownBlock := by
  rcases h.2 with ⟨rfl, _⟩ | ⟨g, cap, cur, rfl, _⟩ <;> rfl
theorem own_slice {w : World} {base e sz n : Nat} {v : Value} {us : List Value} (h : w.ownsRow base e sz v n us) : ∃ A cap, v = .slice A n cap := by
  rcases h.2 with ⟨rfl, h0⟩ | ⟨g, cap, cur, rfl, _⟩
  · subst h0; exact ⟨_, _, rfl⟩
  · exact ⟨_, _, rfl⟩
/-- Behind an append to the row k. -/
theorem RelI.appended (h : RelI I0 X w0 I g s a w) {k e : Nat} {z : Bool} {xs ys : List (List D)} (hk : s.o[k]? = some (.row z e xs)) {us vs : List Value} (hown : w.ownsRow 0 e (ty e).sz (g k) xs.length us) (hys : ∀ r ∈ ys, r.length = (ty e).sz) (hvs : AtDs I w vs ys.flatten)
    {v' : Value} {w' : World} (hown' : w'.ownsRow 0 e (ty e).sz v' (xs.length + ys.length) (us ++ vs)) (hsp : (∃ b, (g k).ownBlock = some b ∧ v'.ownBlock = some b ∧ w.grownBy w' (some b)) ∨ (Below w.heap.size w w' ∧ (v'.ownBlock = none ∨ v'.ownBlock = some w.heap.size))) :
    ∃ I' g', g' k = v' ∧ RelI I0 X w0 I' g' ⟨killT k s.t, (killO k s.o).set k (.row z e (xs ++ ys))⟩ a w' := by
  have hok := h.obj k _ hk
  obtain ⟨us2, ho2, hr2, hd2, hb2⟩ := hok
  have hus : us2 = us := by
    have h1 := ho2.1
    have h2 := hown.1
    rcases ho2.2 with ⟨e1, e2⟩ | ⟨g1, cap, cur, e1, _, hh, _, _, _, ht⟩
    · rw [e2, Nat.zero_mul] at h1 h2
      rw [List.eq_nil_of_length_eq_zero h1, List.eq_nil_of_length_eq_zero h2]
    · rcases hown.2 with ⟨e3, e4⟩ | ⟨g2, cap2, cur2, e3, _, hh2, _, _, _, ht2⟩
      · rw [e1] at e3; cases e3
      · rw [e1] at e3
        injection e3 with e3 _ _
        injection e3 with e3
        injection e3 with e3
        subst e3
        rw [hh] at hh2
        injection hh2 with hh2
        injection hh2 with hh2
        subst hh2
        rw [← ht, ← ht2]
  subst hus
  have hgk : gblk (g k) = (g k).ownBlock := own_gblk hown
  have hnp : isRef (g k) = true → upd g k v' k = g k := fun e => by obtain ⟨A, cap, e2⟩ := own_slice hown; rw [e2] at e; cases e
  have hlk : live s k := ⟨_, hk, by simp⟩
  have hlt : k < s.o.length := (List.getElem?_eq_some_iff.1 hk).1
  -- the blocks that nobody turns
  have hI' : ∀ b k', I b k' → (fun b k' => I b k' ∨ (z = true ∧ v'.ownBlock = some b ∧ k' ≤ (xs.length + ys.length) * (ty e).sz)) b k' := fun b k' h => .inl h
  have hlen : xs.length * (ty e).sz ≤ (xs.length + ys.length) * (ty e).sz := Nat.mul_le_mul_right _ (by omega)
  have hsz : w.heap.size ≤ w'.heap.size := by
    rcases hsp with ⟨_, _, _, h3⟩ | ⟨h3, _⟩
    · exact h3.size
    · exact h3.size
  have hother : ∀ b, b < w.heap.size → (g k).ownBlock ≠ some b → w'.heap[b]? = w.heap[b]? := fun b hb hne => by
    rcases hsp with ⟨c, h1, _, h3⟩ | ⟨h3, _⟩
    · exact h3.block b hb (fun e => hne (by rw [h1, ← e]))
    · exact h3.block b hb
  have hkp : Keeps I w w' := fun b k' hbk i hi => by
    have hb := (h.lt b k' hbk).1
    by_cases hne : (g k).ownBlock = some b
    · rcases hsp with ⟨c, h1, h2, h3⟩ | ⟨h3, _⟩
      · rw [h1] at hne
        injection hne with hne
        subst hne
        exact own_cells hown hown' h1 h2 (Nat.lt_of_lt_of_le hi ((hb2 c h1).2.1 _ hbk).2)
      · exact blk_cell (h3.block b hb) i
    · exact blk_cell (hother b hb hne) i
  have hnew : ∀ b, v'.ownBlock = some b → (g k).ownBlock = some b ∨ b = w.heap.size := fun b hb => by
    rcases hsp with ⟨c, h1, h2, _⟩ | ⟨_, h2 | h2⟩
    · rw [h2] at hb; injection hb with hb; subst hb; exact .inl h1
    · rw [h2] at hb; cases hb
    · rw [h2] at hb; injection hb with hb; exact .inr hb.symm
  have hlt' : ∀ b, v'.ownBlock = some b → b < w'.heap.size := fun b hb => (hown'.lt b hb).2
  have hmine : ∀ b, v'.ownBlock = some b → Mine X w0 b := fun b hb => by
    rcases hnew b hb with h1 | rfl
    · exact (hb2 b h1).2.2
    · exact .inl h.fr.size
  have hg' : ∀ j, j ≠ k → upd g k v' j = g j := fun j hj => upd_ne hj
  refine ⟨fun b k' => I b k' ∨ (z = true ∧ v'.ownBlock = some b ∧ k' ≤ (xs.length + ys.length) * (ty e).sz), upd g k v', upd_same .., ?_⟩
  refine ⟨fun b k' hb => .inl (h.im b k' hb), fun b k' hb => ?_, ?_, h.kp.trans fun b k hbk i hi => hkp b k (h.im b k hbk) i hi, by simpa [killO_len] using h.lo, fun j hj hr => ?_, fun j o hj => ?_, fun i j b hi hj hbi hbj => ?_, fun j hj => ?_, ?_, h.dfr⟩
  · rcases hb with hb | ⟨_, hb, _⟩
    · exact ⟨Nat.lt_of_lt_of_le (h.lt b k' hb).1 hsz, (h.lt b k' hb).2⟩
    · refine ⟨hlt' b hb, fun hlt0 => ?_⟩
      rcases hmine b hb with h1 | h1
      · omega
      · exact .inr h1
  · have hf := h.fr
    have hos : w'.os = w.os ∧ w'.tape = w.tape ∧ w'.output = w.output := by
      rcases hsp with ⟨_, _, _, h3⟩ | ⟨h3, _⟩
      · exact ⟨h3.os, h3.tape, h3.output⟩
      · exact ⟨h3.os, h3.tape, h3.output⟩
    refine ⟨hos.1.trans hf.os, hos.2.1.trans hf.tape, hos.2.2.trans hf.output, Nat.le_trans hf.size hsz, fun b hb hX => ?_⟩
    rw [hother b (Nat.lt_of_lt_of_le hb hf.size) fun e => ?_]
    · exact hf.block b hb hX
    · rcases (hb2 b e).2.2 with h1 | h1
      · omega
      · exact hX h1
  · have e := h.st j hj hr
    refine (hg' j fun ej => ?_).trans e
    subst ej
    rw [← e] at hr
    rcases hown.2 with ⟨e1, _⟩ | ⟨_, _, _, e1, _⟩ <;> rw [e1] at hr <;> cases hr
  · by_cases hjk : k = j
    · subst hjk
      simp only [List.getElem?_set_self (show k < (killO k s.o).length by rw [killO_len]; exact hlt)] at hj
      injection hj with hj
      subst hj
      refine ⟨us2 ++ vs, by rw [upd_same, List.length_append]; exact hown', fun r hr => ?_, ?_, fun b hb => ?_⟩
      · rcases List.mem_append.1 hr with hr | hr
        · exact hr2 r hr
        · exact hys r hr
      · rw [List.flatten_append]
        exact ((hd2.append hvs)).mono hI' hkp
      · rw [upd_same] at hb
        rw [List.length_append]
        refine ⟨fun hz => .inr ⟨hz, hb, Nat.le_refl _⟩, fun k' hk' => ?_, hmine b hb⟩
        rcases hk' with hk' | ⟨hz, _, hk'⟩
        · rcases hnew b hb with h1 | rfl
          · have h2 := (hb2 b h1).2.1 _ hk'
            exact ⟨h2.1, Nat.le_trans h2.2 hlen⟩
          · exact absurd (h.lt _ _ hk').1 (by omega)
        · exact ⟨hz, hk'⟩
    · simp only [List.getElem?_set_ne hjk] at hj
      obtain ⟨o', ho', hdd, hsh⟩ := killO_get k s.o j o hj
      by_cases hd : o = .dead
      · subst hd; exact True.intro
      have hob := h.obj j o' ho'
      have hd' := hdd hd
      have hne : ∀ b, gblk (g j) = some b → (g k).ownBlock ≠ some b := fun b hb e => hjk (h.dis k j b hlk ⟨o', ho', hd'⟩ (by rw [hgk]; exact e) hb)
      have hkeep : ObjAt X w0 (fun b k' => I b k' ∨ (z = true ∧ v'.ownBlock = some b ∧ k' ≤ (xs.length + ys.length) * (ty e).sz)) w' g j o' := by
        refine hob.keep hI' hkp (fun b hb => hother b (hob.blk hd' b hb).1 (hne b hb)) fun b hb k' hk' => ?_
        rcases hk' with hk' | ⟨_, hk', _⟩
        · exact hk'
        · rcases hnew b hk' with h1 | rfl
          · exact absurd h1 (hne b hb)
          · exact absurd (hob.blk hd' _ hb).1 (by omega)
      rcases hsh with ⟨cs, rfl, rfl⟩ | ⟨ks, rfl, rfl⟩ | ⟨rfl, hnb, hnf⟩
      · obtain ⟨b, us, t, h1, h2, h3, h4⟩ := hkeep
        exact ⟨b, us, t, by rw [upd_ne (Ne.symm hjk)]; exact h1, h2, killL_at hg' hnp h3, h4⟩
      · obtain ⟨us, h1, h2, h3⟩ := hkeep
        refine ⟨us, by rw [upd_ne (Ne.symm hjk)]; exact h1, h2, fun i u hu => ?_⟩
        by_cases e : i = k
        · exact .inr (.inr (by rw [e]; exact List.mem_cons_self ..))
        · rcases h3 i u hu with h4 | h4 | h4
          · exact .inl h4
          · exact .inr (.inl (by rw [upd_ne e]; exact h4))
          · exact .inr (.inr (List.mem_cons_of_mem _ h4))
      · cases o with
        | dead => exact True.intro
        | box cs => exact absurd rfl (hnb cs)
        | kl ks => exact absurd rfl (hnf ks)
        | mp kt es =>
          obtain ⟨b, l, c, h1, h2⟩ := hkeep
          exact ⟨b, l, c, by rw [upd_ne (Ne.symm hjk)]; exact h1, h2⟩
        | row z2 e2 rows =>
          obtain ⟨us, h1, h2, h3, h4⟩ := hkeep
          exact ⟨us, by rw [upd_ne (Ne.symm hjk)]; exact h1, h2, h3, by rw [upd_ne (Ne.symm hjk)]; exact h4⟩
  · have live' : ∀ j, live ⟨killT k s.t, (killO k s.o).set k (.row z e (xs ++ ys))⟩ j → live s j := fun j hj => by
      obtain ⟨o, ho, hd⟩ := hj
      by_cases hjk : k = j
      · subst hjk; exact hlk
      · simp only [List.getElem?_set_ne hjk] at ho
        obtain ⟨o', ho', hdd, _⟩ := killO_get k s.o j o ho
        exact ⟨o', ho', hdd hd⟩
    have hi' := live' i hi
    have hj' := live' j hj
    have hv'b : gblk v' = v'.ownBlock := own_gblk hown'
    have cross : ∀ j, j ≠ k → live s j → gblk (g j) = some b → gblk v' ≠ some b := fun j hjk hl hb e => by
      rw [hv'b] at e
      rcases hnew b e with h1 | rfl
      · exact hjk (h.dis j k b hl hlk hb (by rw [hgk]; exact h1))
      · have := h.blk_lt hl hb; omega
    by_cases hik : i = k <;> by_cases hjk : j = k
    · rw [hik, hjk]
    · subst hik
      rw [upd_same] at hbi
      rw [upd_ne hjk] at hbj
      exact absurd hbi (cross j hjk hj' hbj)
    · subst hjk
      rw [upd_same] at hbj
      rw [upd_ne hik] at hbi
      exact absurd hbj (cross i hik hi' hbi)
    · rw [upd_ne hik] at hbi
      rw [upd_ne hjk] at hbj
      exact h.dis i j b hi' hj' hbi hbj
  · simp only [List.length_set, killO_len] at hj
    rw [upd_ne (by omega)]
    exact h.out j hj
  · exact (killT_at hg' hnp h.tmp).mono hI' hkp
end
end Go.Proofs.YtgedpbpfoaljhaaDoor.Vm

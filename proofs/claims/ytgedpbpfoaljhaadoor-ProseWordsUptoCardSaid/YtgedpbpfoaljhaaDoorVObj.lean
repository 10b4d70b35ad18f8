/- The machine of values: objects are made, turned, appended to. -/
import Derived.Test.YtgedpbpfoaljhaaDoorVRel
import Derived.Laws.Tables
import Derived.Laws.CopyRow
set_option linter.unusedVariables false
set_option linter.unusedSimpArgs false
namespace Go.Proofs.YtgedpbpfoaljhaaDoor.Vm
open Go.RowKit
/-- Other values of objects that x doesn't name. -/
theorem AtV.more {I : Nat → Nat → Prop} {w : World} {g g' : Nat → Value} (hg : ∀ k, g k ≠ .nilFunc → g' k = g k) {v : Value} {x : V} (h : AtV I w g v x) : AtV I w g' v x := by
  induction h with
  | d h => exact .d h
  | ag us cs hl _ ih => exact .ag us cs hl ih
  | tu us cs hl _ ih => exact .tu us cs hl ih
  | em => exact .em
  | own k A n cap h => exact .own k A n cap ((hg k (by rw [h]; simp)).trans h)
  | ptr k off b h => exact .ptr k off b ((hg k (by rw [h]; simp)).trans h)
  | cl f us ks hl h =>
    exact .cl f us ks hl fun i u k hu hk => by
      obtain ⟨h1, b, h2⟩ := h i u k hu hk
      have h3 := hg k (by rw [h2]; simp)
      exact ⟨h1.trans h3.symm, b, h3.trans h2⟩
  | el k i sz off b n cap h => exact .el k i sz off b n cap ((hg k (by rw [h]; simp)).trans h)
  | ro b o off us cs hi hc hd => exact .ro b o off us cs hi hc hd
  | mp k b h => exact .mp k b ((hg k (by rw [h]; simp)).trans h)
  | jk v => exact .jk v
theorem AtVs.more {I : Nat → Nat → Prop} {w : World} {g g' : Nat → Value} (hg : ∀ k, g k ≠ .nilFunc → g' k = g k) {us : List Value} {cs : List V} (h : AtVs I w g us cs) : AtVs I w g' us cs :=
  ⟨h.1, fun i u d hu hd => (h.2 i u d hu hd).more hg⟩
theorem ObjAt.more {X : Nat → Prop} {w0 : W0} {I : Nat → Nat → Prop} {w : World} {g g' : Nat → Value} (hg : ∀ k, g k ≠ .nilFunc → g' k = g k) {k : Nat} {o : O} (h : ObjAt X w0 I w g k o) : ObjAt X w0 I w g' k o := by
  cases o with
  | dead => exact True.intro
  | box cs =>
    obtain ⟨b, us, t, h1, h2, h3, h4⟩ := h
    exact ⟨b, us, t, (hg k (by rw [h1]; simp)).trans h1, h2, h3.more hg, h4⟩
  | row z e rows =>
    obtain ⟨us, h1, h2, h3, h4⟩ := h
    have : g' k = g k := hg k (by rcases h1.2 with ⟨e0, _⟩ | ⟨g', cap, cur, e0, _⟩ <;> rw [e0] <;> simp)
    exact ⟨us, by rw [this]; exact h1, h2, h3, by rw [this]; exact h4⟩
  | mp kt es =>
    obtain ⟨b, l, c, h1, h2⟩ := h
    exact ⟨b, l, c, (hg k (by rw [h1]; simp)).trans h1, h2⟩
  | kl ks =>
    obtain ⟨us, h1, h2, h3⟩ := h
    refine ⟨us, (hg k (by rw [h1]; simp)).trans h1, h2, fun j u hu => ?_⟩
    rcases h3 j u hu with h4 | h4 | h4
    · exact .inl h4
    · by_cases e : u = .nilFunc
      · exact .inl e
      · exact .inr (.inl ((hg j (by rw [h4]; exact e)).trans h4))
    · exact .inr (.inr h4)
section
variable {I0 : Nat → Nat → Prop} {X : Nat → Prop} {w0 : W0} {I : Nat → Nat → Prop} {g : Nat → Value} {s : S} {a : Act} {w : World}
/-- The value of one object more. -/
def upd (g : Nat → Value) (k : Nat) (v : Value) : Nat → Value := fun j => if j = k then v else g j
theorem upd_same (g : Nat → Value) (k : Nat) (v : Value) : upd g k v k = v := if_pos rfl
theorem upd_ne {g : Nat → Value} {k : Nat} {v : Value} {j : Nat} (h : j ≠ k) : upd g k v j = g j := if_neg h
theorem RelI.fresh (h : RelI I0 X w0 I g s a w) (v : Value) : ∀ k, g k ≠ .nilFunc → upd g s.o.length v k = g k := fun k hk => upd_ne fun e => hk (h.out k (by omega))
/-- An object more, of which the world and the immutable blocks tell already. -/
theorem RelI.newObj (h : RelI I0 X w0 I g s a w) (o : O) (v : Value) (ho : ObjAt X w0 I w (upd g s.o.length v) s.o.length o) (hdis : ∀ j b, live s j → gblk (g j) = some b → gblk v ≠ some b) : RelI I0 X w0 I (upd g s.o.length v) (s.obj o) a w := by
  have hg := h.fresh v
  have hget : ∀ k o', (s.o ++ [o])[k]? = some o' → (k < s.o.length ∧ s.o[k]? = some o') ∨ (k = s.o.length ∧ o' = o) := fun k o' hk => by
    rcases Nat.lt_or_ge k s.o.length with hlt | hge
    · rw [List.getElem?_append_left hlt] at hk; exact .inl ⟨hlt, hk⟩
    · rw [List.getElem?_append_right hge] at hk
      have h0 : k - s.o.length = 0 := by
        have := (List.getElem?_eq_some_iff.1 hk).1; simp at this; omega
      rw [h0] at hk
      simp at hk
      exact .inr ⟨by omega, hk.symm⟩
  have ho2 : (s.obj o).o = s.o ++ [o] := snocO_is o s.o
  refine ⟨h.im, h.lt, h.fr, h.kp, by rw [ho2, List.length_append]; exact Nat.le_trans h.lo (Nat.le_add_right _ _), fun k hk hr => by rw [upd_ne (by have := h.lo; omega)]; exact h.st k hk hr, fun k o' hk => ?_, fun j k b hj hk hbj hbk => ?_, fun k hk => ?_, h.tmp.more hg, h.dfr⟩
  · rw [ho2] at hk
    rcases hget k o' hk with ⟨hlt, hk'⟩ | ⟨rfl, rfl⟩
    · exact (h.obj k o' hk').more hg
    · exact ho
  · obtain ⟨oj, hoj, hdj⟩ := hj
    obtain ⟨ok, hok, hdk⟩ := hk
    rw [ho2] at hoj hok
    rcases hget j oj hoj with ⟨hlj, hj'⟩ | ⟨rfl, rfl⟩ <;> rcases hget k ok hok with ⟨hlk, hk'⟩ | ⟨rfl, rfl⟩
    · rw [upd_ne (by omega)] at hbj hbk
      exact h.dis j k b ⟨_, hj', hdj⟩ ⟨_, hk', hdk⟩ hbj hbk
    · rw [upd_ne (by omega)] at hbj
      rw [upd_same] at hbk
      exact absurd hbk (hdis j b ⟨_, hj', hdj⟩ hbj)
    · rw [upd_ne (by omega)] at hbk
      rw [upd_same] at hbj
      exact absurd hbj (hdis k b ⟨_, hk', hdk⟩ hbk)
    · rfl
  · rw [ho2, List.length_append, List.length_singleton] at hk
    rw [upd_ne (by omega)]
    exact h.out k (by omega)
theorem RelI.blk_lt (h : RelI I0 X w0 I g s a w) {j b : Nat} (hj : live s j) (hb : gblk (g j) = some b) : b < w.heap.size := by
  obtain ⟨o, ho, hd⟩ := hj
  exact ((h.obj j o ho).blk hd b hb).1
/-- A variable is made. -/
theorem RelI.box (h : RelI I0 X w0 I g s a w) {us : List Value} {cs : List V} (hus : AtVs I w g us cs) (h1 : ∀ u ∈ us, u.oneCell' = true) (t : TypeId) :
    ∃ g', g' s.o.length = .pointer (some ⟨w.heap.size, 0, none⟩) ∧ RelI I0 X w0 I g' (s.obj (.box cs)) a (w.alloc (.cells us.toArray t)) := by
  have hb : Below w.heap.size w (w.alloc (.cells us.toArray t)) := (Below.refl _ _).alloc (Nat.le_refl _) _
  have h2 := h.grow hb (I' := I) (fun _ _ h => h) (fun _ _ h => .inl h)
  have hk : Keeps I w (w.alloc (.cells us.toArray t)) := fun b k hbk i _ => hb.cell (p := ⟨b, i, none⟩) (h.lt b k hbk).1
  refine ⟨upd g s.o.length (.pointer (some ⟨w.heap.size, 0, none⟩)), upd_same .., h2.newObj _ _ ⟨w.heap.size, us, t, upd_same .., heap_alloc_new w _, (hus.more (h.fresh _)).mono (fun _ _ h => h) hk, h1, fun k hk' => ?_, .inl h.fr.size⟩ fun j b hj hbj e => ?_⟩
  · exact absurd (h.lt _ _ hk').1 (by omega)
  · injection e with e
    have := h.blk_lt hj hbj
    simp only at e
    omega
theorem live_set {s : S} {k : Nat} {o o' : O} (hk : s.o[k]? = some o) (hd : o ≠ .dead) {j : Nat} (h : live ⟨s.t, s.o.set k o'⟩ j) : live s j := by
  obtain ⟨oj, hoj, hdj⟩ := h
  by_cases e : k = j
  · subst e; exact ⟨o, hk, hd⟩
  · simp only [List.getElem?_set_ne e] at hoj
    exact ⟨oj, hoj, hdj⟩
/-- A variable is turned: cells of the box k, from n on. -/
theorem RelI.store (h : RelI I0 X w0 I g s a w) {k n : Nat} {cs ds r : List V} {vs : List Value} (hk : s.o[k]? = some (.box cs)) (hv : AtVs I w g vs ds) (h1 : ∀ u ∈ vs, u.oneCell' = true) (hr : splice cs n ds = some r) :
    ∃ (b : Nat) (us : List Value) (t : TypeId), g k = .pointer (some ⟨b, 0, none⟩) ∧ w.heap[b]? = some (.cells us.toArray t (0, 0)) ∧ n + vs.length ≤ us.length ∧ RelI I0 X w0 I g ⟨s.t, s.o.set k (.box r)⟩ a (w.setRow b (us.take n ++ vs ++ us.drop (n + vs.length)).toArray) := by
  obtain ⟨b, us, t, hg, hb, hus, h1s, hI, hM⟩ := h.obj k _ hk
  obtain ⟨er, hl⟩ := splice_is hr
  have hnl : n + vs.length ≤ us.length := by rw [hv.1, hus.1]; exact hl
  refine ⟨b, us, t, hg, hb, hnl, ?_⟩
  have hblk : gblk (g k) = some b := by rw [hg]; rfl
  have hlk : live s k := ⟨_, hk, by simp⟩
  have hkp : Keeps I w (w.setRow b (us.take n ++ vs ++ us.drop (n + vs.length)).toArray) := fun b' h' hi i _ => by
    refine cell_setRow_other _ _ _ _ fun e => ?_
    simp only at e
    subst e
    exact hI _ hi
  refine ⟨h.im, fun b' h' hi => by rw [setRow_size]; exact h.lt b' h' hi, ?_, h.kp.trans fun b k hbk i hi => hkp b k (h.im b k hbk) i hi, by simpa using h.lo, h.st, fun j o hj => ?_, fun i j b' hi hj => h.dis i j b' (live_set hk (by simp) hi) (live_set hk (by simp) hj), fun j hj => h.out j (by simpa using hj), h.tmp.mono (fun _ _ h => h) hkp, h.dfr⟩
  · refine ⟨h.fr.os, h.fr.tape, h.fr.output, by rw [setRow_size]; exact h.fr.size, fun b' hb' hX => ?_⟩
    rw [setRow_other _ _ _ _ (fun e => ?_)]
    · exact h.fr.block b' hb' hX
    · subst e
      rcases hM with hM | hM
      · omega
      · exact hX hM
  · by_cases e : k = j
    · subst e
      have hlt : k < s.o.length := (List.getElem?_eq_some_iff.1 hk).1
      simp only [List.getElem?_set_self hlt] at hj
      injection hj with hj
      subst hj
      refine ⟨b, _, t, hg, setRow_heap w b _ _ t (0, 0) hb, (hus.splice hv hr).mono (fun _ _ h => h) hkp, fun u hu => ?_, hI, hM⟩
      rcases List.mem_append.1 hu with hu | hu
      · rcases List.mem_append.1 hu with hu | hu
        · exact h1s u (List.mem_of_mem_take hu)
        · exact h1 u hu
      · exact h1s u (List.mem_of_mem_drop hu)
    · simp only [List.getElem?_set_ne e] at hj
      have ho := h.obj j o hj
      by_cases hd : o = .dead
      · subst hd; exact True.intro
      · refine ho.keep (fun _ _ h => h) hkp (fun b' hb' => setRow_other _ _ _ _ fun e' => ?_) fun _ _ _ h => h
        subst e'
        exact e (h.dis k j _ hlk ⟨o, hj, hd⟩ hblk hb')
theorem flat_set {α : Type} {sz off : Nat} {ds : List α} : ∀ {rows : List (List α)} {i : Nat} {row row' : List α}, (∀ r ∈ rows, r.length = sz) → rows[i]? = some row → splice row off ds = some row' → (rows.set i row').flatten = rows.flatten.take (i * sz + off) ++ ds ++ rows.flatten.drop (i * sz + off + ds.length)
  | [], i, row, row', _, h, _ => by simp at h
  | r :: rows, 0, row, row', hl, h, hs => by
    simp at h
    subst h
    obtain ⟨e, hle⟩ := splice_is hs
    subst e
    have hr := hl r (List.mem_cons_self ..)
    rw [List.set_cons_zero, List.flatten_cons, List.flatten_cons, Nat.zero_mul, Nat.zero_add, List.take_append_of_le_length (by omega), List.drop_append_of_le_length hle]
    simp
  | r :: rows, i + 1, row, row', hl, h, hs => by
    have hr := hl r (List.mem_cons_self ..)
    have ih := flat_set (fun x hx => hl x (List.mem_cons_of_mem _ hx)) (by simpa using h) hs
    have e1 : (i + 1) * sz + off = r.length + (i * sz + off) := by rw [hr, Nat.succ_mul]; omega
    rw [List.set_cons_succ, List.flatten_cons, List.flatten_cons, ih, e1, List.take_length_add_append, Nat.add_assoc r.length, List.drop_length_add_append]
    simp
/-- An element of the row k is turned. -/
theorem RelI.setEl (h : RelI I0 X w0 I g s a w) {k e i off : Nat} {rows : List (List D)} {row ds row' : List D} {vs : List Value} (hk : s.o[k]? = some (.row false e rows)) (hr : rows[i]? = some row) (hv : AtDs I w vs ds) (hs : splice row off ds = some row') :
    ∃ (b n cap : Nat) (cur : Array Value), g k = .slice (some ⟨b, 0, none⟩) n cap ∧ w.heap[b]? = some (.cells cur e (0, 0)) ∧ i * (ty e).sz + off + vs.length ≤ cur.size ∧ RelI I0 X w0 I g ⟨s.t, s.o.set k (.row false e (rows.set i row'))⟩ a (w.setRow b (cur.toList.take (i * (ty e).sz + off) ++ vs ++ cur.toList.drop (i * (ty e).sz + off + vs.length)).toArray) := by
  obtain ⟨us, h1, h2, h3, h4⟩ := h.obj k _ hk
  have hlt : i < rows.length := (List.getElem?_eq_some_iff.1 hr).1
  have hrl := h2 _ (List.mem_of_getElem? hr)
  obtain ⟨es, hle⟩ := splice_is hs
  rcases h1.2 with ⟨_, e2⟩ | ⟨b, cap, cur, hg, _, hb, hnc, hcm, hcs, htk⟩
  · omega
  have hblk : gblk (g k) = some b := by rw [hg]; rfl
  have hown := h4 b (by rw [hg]; rfl)
  have hI : ∀ h', ¬ I b h' := fun h' hi => by have := (hown.2.1 h' hi).1; cases this
  have hM := hown.2.2
  have hlk : live s k := ⟨_, hk, by simp⟩
  have hsub : i * (ty e).sz + (ty e).sz ≤ rows.length * (ty e).sz := by rw [← Nat.succ_mul]; exact Nat.mul_le_mul_right _ hlt
  have hcap : rows.length * (ty e).sz ≤ cap * (ty e).sz := Nat.mul_le_mul_right _ hnc
  have hfit : i * (ty e).sz + off + vs.length ≤ rows.length * (ty e).sz := by rw [hv.1]; omega
  refine ⟨b, rows.length, cap, cur, hg, hb, by omega, ?_⟩
  generalize hp : i * (ty e).sz + off = p at *
  have hkp : Keeps I w (w.setRow b (cur.toList.take p ++ vs ++ cur.toList.drop (p + vs.length)).toArray) := fun b' h' hi i _ => by
    refine cell_setRow_other _ _ _ _ fun e => ?_
    simp only at e
    subst e
    exact hI _ hi
  refine ⟨h.im, fun b' h' hi => by rw [setRow_size]; exact h.lt b' h' hi, ?_, h.kp.trans fun b k hbk i hi => hkp b k (h.im b k hbk) i hi, by simpa using h.lo, h.st, fun j o hj => ?_, fun i j b' hi hj => h.dis i j b' (live_set hk (by simp) hi) (live_set hk (by simp) hj), fun j hj => h.out j (by simpa using hj), h.tmp.mono (fun _ _ h => h) hkp, h.dfr⟩
  · refine ⟨h.fr.os, h.fr.tape, h.fr.output, by rw [setRow_size]; exact h.fr.size, fun b' hb' hX => ?_⟩
    rw [setRow_other _ _ _ _ (fun e => ?_)]
    · exact h.fr.block b' hb' hX
    · subst e
      rcases hM with hM | hM
      · omega
      · exact hX hM
  · by_cases e' : k = j
    · subst e'
      have hlt : k < s.o.length := (List.getElem?_eq_some_iff.1 hk).1
      simp only [List.getElem?_set_self hlt] at hj
      injection hj with hj
      subst hj
      have hcl : cur.toList.length = cap * (ty e).sz := by simpa using hcs
      refine ⟨us.take p ++ vs ++ us.drop (p + vs.length), ⟨?_, .inr ⟨b, cap, _, by rw [hg, List.length_set], Nat.zero_le _, setRow_heap w b _ _ e (0, 0) hb, by rw [List.length_set]; exact hnc, hcm, ?_, ?_⟩⟩, fun r hrm => ?_, ?_, fun b' hb' => ?_⟩
      · rw [List.length_set, List.length_append, List.length_append, List.length_take, List.length_drop, h1.1]
        omega
      · simp only [List.size_toArray, List.length_append, List.length_take, List.length_drop, hcl]
        omega
      · have hA : (cur.toList.take p ++ vs).length = p + vs.length := by rw [List.length_append, List.length_take, hcl]; omega
        rw [List.length_set, List.take_append, List.take_of_length_le (by rw [hA]; omega), hA, ← htk, List.take_take, Nat.min_eq_left (by omega), List.drop_take]
      · rcases List.mem_or_eq_of_mem_set hrm with hrm | rfl
        · exact h2 r hrm
        · rw [es, List.length_append, List.length_append, List.length_take, List.length_drop]
          omega
      · rw [flat_set h2 hr hs, hp]
        rw [← hv.1]
        exact (((h3.take p).append hv).append (h3.drop _)).mono (fun _ _ h => h) hkp
      · rw [hg] at hb'
        have hb' := Option.some.inj hb'
        subst hb'
        exact ⟨fun hz => (by cases hz), fun h' hi => absurd hi (hI h'), hM⟩
    · simp only [List.getElem?_set_ne e'] at hj
      have ho := h.obj j o hj
      by_cases hd : o = .dead
      · subst hd; exact True.intro
      · refine ho.keep (fun _ _ h => h) hkp (fun b' hb' => setRow_other _ _ _ _ fun e'' => ?_) fun _ _ _ h => h
        subst e''
        exact e' (h.dis k j _ hlk ⟨o, hj, hd⟩ hblk hb')
/-- What spoke of the row k is forgotten. -/
theorem kill1_at {g' : Nat → Value} {k : Nat} (hg : ∀ j, j ≠ k → g' j = g j) (hk : isRef (g k) = true → g' k = g k) {v : Value} {x : V} (h : AtV I w g v x) : AtV I w g' v (kill1 k x) := by
  have hp : ∀ j, isRef (g j) = true → g' j = g j := fun j e => by
    by_cases hj : j = k
    · subst hj; exact hk e
    · exact hg j hj
  cases h with
  | d h => exact .d h
  | ag us cs hl h => exact .jk _
  | tu us cs hl h => exact .jk _
  | em => exact .em
  | own j A n cap h =>
    show AtV I w g' _ (match eqN j k with | true => .jk | false => .own j)
    cases e : eqN j k
    · exact .own j A n cap ((hg j (eqN_no.1 e)).trans h)
    · exact .jk _
  | ptr j off b h => exact .ptr j off b ((hp j (by rw [h]; rfl)).trans h)
  | mp j b h => exact .mp j b ((hp j (by rw [h]; rfl)).trans h)
  | cl f us ks hl h =>
    exact .cl f us ks hl fun i u j hu hj => by
      obtain ⟨h1, b, h2⟩ := h i u j hu hj
      have h3 := hp j (by rw [h2]; rfl)
      exact ⟨h1.trans h3.symm, b, h3.trans h2⟩
  | el j i sz off b n cap h =>
    show AtV I w g' _ (match eqN j k with | true => .jk | false => .el j i sz off)
    cases e : eqN j k
    · exact .el j i sz off b n cap ((hg j (eqN_no.1 e)).trans h)
    · exact .jk _
  | ro b o off us cs hi hc hd => exact .ro b o off us cs hi hc hd
  | jk v => exact .jk v
theorem killL_at {g' : Nat → Value} {k : Nat} (hg : ∀ j, j ≠ k → g' j = g j) (hk : isRef (g k) = true → g' k = g k) : ∀ {cs : List V} {us : List Value}, AtVs I w g us cs → AtVs I w g' us (killL k cs)
  | [], us, h => by rw [h.unnil]; exact .nil I w g'
  | c :: cs, us, h => by
    obtain ⟨u, us', rfl, h1, h2⟩ := h.uncons
    exact .cons (kill1_at hg hk h1) (killL_at hg hk h2)
theorem kill2_at {g' : Nat → Value} {k : Nat} (hg : ∀ j, j ≠ k → g' j = g j) (hk : isRef (g k) = true → g' k = g k) {v : Value} {x : V} (h : AtV I w g v x) : AtV I w g' v (kill2 k x) := by
  cases x with
  | ag cs =>
    obtain ⟨us, rfl, h2⟩ := h.unag
    exact atV_ag (killL_at hg hk h2)
  | tu cs =>
    cases cs with
    | nil =>
      obtain ⟨us, rfl, h2⟩ := h.untu
      rw [h2.unnil]
      exact atV_tu (.nil I w g')
    | cons c cs => exact .jk _
  | d x => exact kill1_at hg hk h
  | em => exact kill1_at hg hk h
  | own j => exact kill1_at hg hk h
  | ptr j off => exact kill1_at hg hk h
  | cl f ks => exact kill1_at hg hk h
  | el j i sz off => exact kill1_at hg hk h
  | ro cs off => exact kill1_at hg hk h
  | mp k => exact kill1_at hg hk h
  | jk => exact .jk _
theorem killT_at {g' : Nat → Value} {k : Nat} (hg : ∀ j, j ≠ k → g' j = g j) (hk : isRef (g k) = true → g' k = g k) : ∀ {cs : List V} {us : List Value}, AtVs I w g us cs → AtVs I w g' us (killT k cs)
  | [], us, h => by rw [h.unnil]; exact .nil I w g'
  | c :: cs, us, h => by
    obtain ⟨u, us', rfl, h1, h2⟩ := h.uncons
    exact .cons (kill2_at hg hk h1) (killT_at hg hk h2)
theorem killO_get (k : Nat) : ∀ (l : List O) (j : Nat) (o : O), (killO k l)[j]? = some o → ∃ o', l[j]? = some o' ∧ (o ≠ .dead → o' ≠ .dead) ∧ ((∃ cs, o' = .box cs ∧ o = .box (killL k cs)) ∨ (∃ ks, o' = .kl ks ∧ o = .kl (k :: ks)) ∨ (o = o' ∧ (∀ cs, o ≠ .box cs) ∧ ∀ ks, o ≠ .kl ks))
  | [], j, o, h => by simp [killO] at h
  | x :: l, 0, o, h => by
    cases x with
    | box cs => simp [killO] at h; exact ⟨_, rfl, fun _ => by simp, .inl ⟨cs, rfl, h.symm⟩⟩
    | kl ks => simp [killO] at h; exact ⟨_, rfl, fun _ => by simp, .inr (.inl ⟨ks, rfl, h.symm⟩)⟩
    | row z e rows => simp [killO] at h; subst h; exact ⟨_, rfl, fun h => h, .inr (.inr ⟨rfl, by simp, by simp⟩)⟩
    | mp kt es => simp [killO] at h; subst h; exact ⟨_, rfl, fun h => h, .inr (.inr ⟨rfl, by simp, by simp⟩)⟩
    | dead => simp [killO] at h; subst h; exact ⟨_, rfl, fun h => h, .inr (.inr ⟨rfl, by simp, by simp⟩)⟩
  | x :: l, j + 1, o, h => by
    have h' : (killO k l)[j]? = some o := by cases x <;> simpa [killO] using h
    obtain ⟨o', h1, h2⟩ := killO_get k l j o h'
    exact ⟨o', by simpa using h1, h2⟩
theorem killO_len (k : Nat) : ∀ l : List O, (killO k l).length = l.length
  | [] => rfl
  | x :: l => by cases x <;> simp [killO, killO_len k l]
theorem killT_len (k : Nat) : ∀ l : List V, (killT k l).length = l.length
  | [] => rfl
  | x :: l => by simp [killT, killT_len k l]
end
end Go.Proofs.YtgedpbpfoaljhaaDoor.Vm

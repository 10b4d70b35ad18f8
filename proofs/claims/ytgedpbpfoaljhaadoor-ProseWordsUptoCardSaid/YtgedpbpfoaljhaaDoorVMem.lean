/- The machine of values: what a world holds of its values. -/
import Derived.Test.YtgedpbpfoaljhaaDoorVData
import Derived.Test.YtgedpbpfoaljhaaDoorAppN
import Derived.WalkKit
set_option linter.unusedVariables false
set_option linter.unusedSimpArgs false
namespace Go.Proofs.YtgedpbpfoaljhaaDoor.Vm
open Go.RowKit
/-- As far as n at least. -/
def Up (I : Nat → Nat → Prop) (b n : Nat) : Prop := ∃ h, n ≤ h ∧ I b h
theorem Up.mono {I I' : Nat → Nat → Prop} (hI : ∀ b h, I b h → I' b h) {b n : Nat} (h : Up I b n) : Up I' b n := by
  obtain ⟨k, h1, h2⟩ := h; exact ⟨k, h1, hI _ _ h2⟩
theorem Up.down {I : Nat → Nat → Prop} {b n m : Nat} (h : Up I b n) (hm : m ≤ n) : Up I b m := by
  obtain ⟨k, h1, h2⟩ := h; exact ⟨k, Nat.le_trans hm h1, h2⟩
/-- What w holds of deep data: I b h: in block b, what lies below h is turned by nobody. -/
inductive AtD (I : Nat → Nat → Prop) (w : World) : Value → D → Prop
  | sc (v : Value) (h : v.oneCell' = true) : AtD I w v (.sc v)
  | nil (A : Option Addr) (cap sz : Nat) : AtD I w (.slice A 0 cap) (.sl sz [])
  | sl (b off cap sz : Nat) (rows : List (List D)) (us : List Value) (hcap : rows.length ≤ cap) (hI : Up I b (off + rows.length * sz)) (hr : ∀ r ∈ rows, r.length = sz) (hl : us.length = rows.length * sz)
      (hc : ∀ i u, us[i]? = some u → w.cell? ⟨b, off + i, none⟩ = some u) (hd : ∀ (i : Nat) (u : Value) (d : D), us[i]? = some u → rows.flatten[i]? = some d → AtD I w u d) :
      AtD I w (.slice (some ⟨b, off, none⟩) rows.length cap) (.sl sz rows)
def Keeps (I : Nat → Nat → Prop) (w w' : World) : Prop := ∀ b h, I b h → ∀ i, i < h → w'.cell? ⟨b, i, none⟩ = w.cell? ⟨b, i, none⟩
theorem Keeps.trans {I : Nat → Nat → Prop} {w1 w2 w3 : World} (h : Keeps I w1 w2) (h2 : Keeps I w2 w3) : Keeps I w1 w3 := fun b k hb i hi => (h2 b k hb i hi).trans (h b k hb i hi)
theorem Keeps.refl (I : Nat → Nat → Prop) (w : World) : Keeps I w w := fun _ _ _ _ _ => rfl
theorem AtD.mono {I I' : Nat → Nat → Prop} {w w' : World} (hI : ∀ b h, I b h → I' b h) (hk : Keeps I w w') {v : Value} {d : D} (h : AtD I w v d) : AtD I' w' v d := by
  induction h with
  | sc v h => exact .sc v h
  | nil A cap sz => exact .nil A cap sz
  | sl b off cap sz rows us hcap hi hr hl hc _ ih =>
    refine .sl b off cap sz rows us hcap (hi.mono hI) hr hl (fun i u hu => ?_) ih
    have hlt : i < rows.length * sz := by rw [← hl]; exact (List.getElem?_eq_some_iff.1 hu).1
    obtain ⟨k, hk1, hk2⟩ := hi
    exact (hk _ _ hk2 _ (by omega)).trans (hc i u hu)
theorem AtD.one {I : Nat → Nat → Prop} {w : World} {v : Value} {d : D} (h : AtD I w v d) : v.oneCell' = true := by
  cases h with
  | sc v h => exact h
  | nil => rfl
  | sl => rfl
/-- Cells of one length an element, one behind the other. -/
theorem flat_len {α : Type} {sz : Nat} : ∀ {rows : List (List α)}, (∀ r ∈ rows, r.length = sz) → rows.flatten.length = rows.length * sz
  | [], _ => by simp
  | r :: rows, h => by
    rw [List.flatten_cons, List.length_append, h r (List.mem_cons_self ..), flat_len fun x hx => h x (List.mem_cons_of_mem _ hx), List.length_cons, Nat.succ_mul]
    omega
theorem flat_get {α : Type} {sz : Nat} : ∀ {rows : List (List α)}, (∀ r ∈ rows, r.length = sz) → ∀ {i j : Nat} {r : List α}, rows[i]? = some r → j < sz → rows.flatten[i * sz + j]? = r[j]?
  | [], _, i, j, r, hr, _ => by simp at hr
  | s :: rows, h, 0, j, r, hr, hj => by
    simp at hr
    subst hr
    rw [List.flatten_cons, List.getElem?_append_left (by rw [h s (List.mem_cons_self ..)]; omega)]
    simp
  | s :: rows, h, i + 1, j, r, hr, hj => by
    have hr' : rows[i]? = some r := by simpa using hr
    rw [List.flatten_cons, List.getElem?_append_right (by rw [h s (List.mem_cons_self ..), Nat.succ_mul]; omega), ← flat_get (fun x hx => h x (List.mem_cons_of_mem _ hx)) hr' hj]
    congr 1
    rw [h s (List.mem_cons_self ..), Nat.succ_mul]
    omega
/-- Cells that lie one behind the other, and what they hold. -/
def AtDs (I : Nat → Nat → Prop) (w : World) (us : List Value) (ds : List D) : Prop := us.length = ds.length ∧ ∀ (i : Nat) (u : Value) (d : D), us[i]? = some u → ds[i]? = some d → AtD I w u d
theorem AtDs.mono {I I' : Nat → Nat → Prop} {w w' : World} (hI : ∀ b h, I b h → I' b h) (hk : Keeps I w w') {us : List Value} {ds : List D} (h : AtDs I w us ds) : AtDs I' w' us ds :=
  ⟨h.1, fun i u d hu hd => (h.2 i u d hu hd).mono hI hk⟩
theorem AtDs.nil (I : Nat → Nat → Prop) (w : World) : AtDs I w [] [] := ⟨rfl, fun i u d h => by simp at h⟩
theorem AtDs.cons {I : Nat → Nat → Prop} {w : World} {u : Value} {d : D} {us : List Value} {ds : List D} (h : AtD I w u d) (hs : AtDs I w us ds) : AtDs I w (u :: us) (d :: ds) :=
  ⟨by simp [hs.1], fun i x y hx hy => by
    cases i with
    | zero => simp at hx hy; subst hx; subst hy; exact h
    | succ i => exact hs.2 i x y (by simpa using hx) (by simpa using hy)⟩
theorem AtDs.uncons {I : Nat → Nat → Prop} {w : World} {us : List Value} {d : D} {ds : List D} (h : AtDs I w us (d :: ds)) : ∃ u us', us = u :: us' ∧ AtD I w u d ∧ AtDs I w us' ds := by
  cases us with
  | nil => have := h.1; simp at this
  | cons u us => exact ⟨u, us, rfl, h.2 0 u d rfl rfl, by have := h.1; simpa using this, fun i x y hx hy => h.2 (i + 1) x y (by simpa using hx) (by simpa using hy)⟩
theorem AtDs.one {I : Nat → Nat → Prop} {w : World} {us : List Value} {ds : List D} (h : AtDs I w us ds) : ∀ u ∈ us, u.oneCell' = true := by
  intro u hu
  obtain ⟨i, hi⟩ := List.mem_iff_getElem?.1 hu
  have hlt : i < ds.length := by rw [← h.1]; exact (List.getElem?_eq_some_iff.1 hi).1
  exact (h.2 i u _ hi (List.getElem?_eq_getElem hlt)).one
theorem AtDs.drop {I : Nat → Nat → Prop} {w : World} {us : List Value} {ds : List D} (h : AtDs I w us ds) (n : Nat) : AtDs I w (us.drop n) (ds.drop n) :=
  ⟨by simp [h.1], fun i u d hu hd => h.2 (n + i) u d (by rw [← List.getElem?_drop]; exact hu) (by rw [← List.getElem?_drop]; exact hd)⟩
theorem AtDs.take {I : Nat → Nat → Prop} {w : World} {us : List Value} {ds : List D} (h : AtDs I w us ds) (n : Nat) : AtDs I w (us.take n) (ds.take n) :=
  ⟨by simp [h.1], fun i u d hu hd => by
    rw [List.getElem?_take] at hu hd
    split at hu
    · rw [if_pos (by assumption)] at hd; exact h.2 i u d hu hd
    · cases hu⟩
theorem AtDs.append {I : Nat → Nat → Prop} {w : World} {us us' : List Value} {ds ds' : List D} (h : AtDs I w us ds) (h' : AtDs I w us' ds') : AtDs I w (us ++ us') (ds ++ ds') :=
  ⟨by simp [h.1, h'.1], fun i u d hu hd => by
    by_cases hi : i < us.length
    · rw [List.getElem?_append_left hi] at hu
      rw [List.getElem?_append_left (by rw [← h.1]; exact hi)] at hd
      exact h.2 i u d hu hd
    · rw [List.getElem?_append_right (by omega)] at hu
      rw [List.getElem?_append_right (by rw [← h.1]; omega), ← h.1] at hd
      exact h'.2 _ u d hu hd⟩
/-- A slice that reads as rows. -/
theorem AtD.slice {I : Nat → Nat → Prop} {w : World} {v : Value} {sz : Nat} {rows : List (List D)} (h : AtD I w v (.sl sz rows)) : ∃ A cap, v = .slice A rows.length cap ∧ rows.length ≤ cap ∧ (rows = [] ∨ ∃ b off us, A = some ⟨b, off, none⟩ ∧ Up I b (off + rows.length * sz) ∧ (∀ r ∈ rows, r.length = sz) ∧
    us.length = rows.length * sz ∧ (∀ i u, us[i]? = some u → w.cell? ⟨b, off + i, none⟩ = some u) ∧ AtDs I w us rows.flatten) := by
  cases h with
  | nil A cap sz => exact ⟨A, cap, rfl, Nat.zero_le _, .inl rfl⟩
  | sl b off cap sz rows us hcap hI hr hl hc hd => exact ⟨_, cap, rfl, hcap, .inr ⟨b, off, us, rfl, hI, hr, hl, hc, by rw [hl, flat_len hr], hd⟩⟩
/-- What a slot holds; g k: the object k as a value. -/
inductive AtV (I : Nat → Nat → Prop) (w : World) (g : Nat → Value) : Value → V → Prop
  | d {v : Value} {x : D} (h : AtD I w v x) : AtV I w g v (.d x)
  | ag (us : List Value) (cs : List V) (hl : us.length = cs.length) (h : ∀ (i : Nat) (u : Value) (c : V), us[i]? = some u → cs[i]? = some c → AtV I w g u c) : AtV I w g (.agg us.toArray) (.ag cs)
  | tu (us : List Value) (cs : List V) (hl : us.length = cs.length) (h : ∀ (i : Nat) (u : Value) (c : V), us[i]? = some u → cs[i]? = some c → AtV I w g u c) : AtV I w g (.tuple us.toArray) (.tu cs)
  | em : AtV I w g (.slice none 0 0) .em
  | own (k : Nat) (A : Option Addr) (n cap : Nat) (h : g k = .slice A n cap) : AtV I w g (.slice A n cap) (.own k)
  | ptr (k off b : Nat) (h : g k = .pointer (some ⟨b, 0, none⟩)) : AtV I w g (.pointer (some ⟨b, off, none⟩)) (.ptr k off)
  | cl (f : Nat) (us : List Value) (ks : List Nat) (hl : us.length = ks.length) (h : ∀ (i : Nat) (u : Value) (k : Nat), us[i]? = some u → ks[i]? = some k → u = g k ∧ ∃ b, g k = .pointer (some ⟨b, 0, none⟩)) : AtV I w g (.func (.func f) #[] us.toArray) (.cl f ks)
  | el (k : Nat) (i : Int) (sz off b n cap : Nat) (h : g k = .slice (some ⟨b, 0, none⟩) n cap) : AtV I w g (.pointer (some ⟨b, i.toNat * sz + off, none⟩)) (.el k i sz off)
  | ro (b o off : Nat) (us : List Value) (cs : List D) (hI : Up I b (o + cs.length)) (hc : ∀ i u, us[i]? = some u → w.cell? ⟨b, o + i, none⟩ = some u) (hd : AtDs I w us cs) : AtV I w g (.pointer (some ⟨b, o + off, none⟩)) (.ro cs off)
  | mp (k b : Nat) (h : g k = .map (some b)) : AtV I w g (.map (some b)) (.mp k)
  | jk (v : Value) : AtV I w g v .jk
/-- What stays: the immutable blocks, and what the objects are (but for those that x forgets). -/
theorem AtV.mono {I I' : Nat → Nat → Prop} {w w' : World} {g : Nat → Value} (hI : ∀ b h, I b h → I' b h) (hk : Keeps I w w') {v : Value} {x : V} (h : AtV I w g v x) : AtV I' w' g v x := by
  induction h with
  | d h => exact .d (h.mono hI hk)
  | ag us cs hl _ ih => exact .ag us cs hl ih
  | tu us cs hl _ ih => exact .tu us cs hl ih
  | em => exact .em
  | own k A n cap h => exact .own k A n cap h
  | ptr k off b h => exact .ptr k off b h
  | cl f us ks hl h => exact .cl f us ks hl h
  | el k i sz off b n cap h => exact .el k i sz off b n cap h
  | ro b o off us cs hi hc hd =>
    refine .ro b o off us cs (hi.mono hI) (fun i u hu => ?_) (hd.mono hI hk)
    have hlt : i < cs.length := by rw [← hd.1]; exact (List.getElem?_eq_some_iff.1 hu).1
    obtain ⟨k, hk1, hk2⟩ := hi
    exact (hk _ _ hk2 _ (by omega)).trans (hc i u hu)
  | mp k b h => exact .mp k b h
  | jk v => exact .jk v
def AtVs (I : Nat → Nat → Prop) (w : World) (g : Nat → Value) (us : List Value) (cs : List V) : Prop := us.length = cs.length ∧ ∀ (i : Nat) (u : Value) (c : V), us[i]? = some u → cs[i]? = some c → AtV I w g u c
theorem AtVs.mono {I I' : Nat → Nat → Prop} {w w' : World} {g : Nat → Value} (hI : ∀ b h, I b h → I' b h) (hk : Keeps I w w') {us : List Value} {cs : List V} (h : AtVs I w g us cs) : AtVs I' w' g us cs :=
  ⟨h.1, fun i u d hu hd => (h.2 i u d hu hd).mono hI hk⟩
theorem AtVs.nil (I : Nat → Nat → Prop) (w : World) (g : Nat → Value) : AtVs I w g [] [] := ⟨rfl, fun i u d h => by simp at h⟩
theorem AtVs.cons {I : Nat → Nat → Prop} {w : World} {g : Nat → Value} {u : Value} {d : V} {us : List Value} {ds : List V} (h : AtV I w g u d) (hs : AtVs I w g us ds) : AtVs I w g (u :: us) (d :: ds) :=
  ⟨by simp [hs.1], fun i x y hx hy => by
    cases i with
    | zero => simp at hx hy; subst hx; subst hy; exact h
    | succ i => exact hs.2 i x y (by simpa using hx) (by simpa using hy)⟩
theorem AtVs.uncons {I : Nat → Nat → Prop} {w : World} {g : Nat → Value} {us : List Value} {d : V} {ds : List V} (h : AtVs I w g us (d :: ds)) : ∃ u us', us = u :: us' ∧ AtV I w g u d ∧ AtVs I w g us' ds := by
  cases us with
  | nil => have := h.1; simp at this
  | cons u us => exact ⟨u, us, rfl, h.2 0 u d rfl rfl, by have := h.1; simpa using this, fun i x y hx hy => h.2 (i + 1) x y (by simpa using hx) (by simpa using hy)⟩
theorem AtVs.unnil {I : Nat → Nat → Prop} {w : World} {g : Nat → Value} {us : List Value} (h : AtVs I w g us []) : us = [] := List.eq_nil_of_length_eq_zero h.1
theorem AtVs.drop {I : Nat → Nat → Prop} {w : World} {g : Nat → Value} {us : List Value} {ds : List V} (h : AtVs I w g us ds) (n : Nat) : AtVs I w g (us.drop n) (ds.drop n) :=
  ⟨by simp [h.1], fun i u d hu hd => h.2 (n + i) u d (by rw [← List.getElem?_drop]; exact hu) (by rw [← List.getElem?_drop]; exact hd)⟩
theorem AtVs.take {I : Nat → Nat → Prop} {w : World} {g : Nat → Value} {us : List Value} {ds : List V} (h : AtVs I w g us ds) (n : Nat) : AtVs I w g (us.take n) (ds.take n) :=
  ⟨by simp [h.1], fun i u d hu hd => by
    rw [List.getElem?_take] at hu hd
    split at hu
    · rw [if_pos (by assumption)] at hd; exact h.2 i u d hu hd
    · cases hu⟩
theorem AtVs.append {I : Nat → Nat → Prop} {w : World} {g : Nat → Value} {us us' : List Value} {ds ds' : List V} (h : AtVs I w g us ds) (h' : AtVs I w g us' ds') : AtVs I w g (us ++ us') (ds ++ ds') :=
  ⟨by simp [h.1, h'.1], fun i u d hu hd => by
    by_cases hi : i < us.length
    · rw [List.getElem?_append_left hi] at hu
      rw [List.getElem?_append_left (by rw [← h.1]; exact hi)] at hd
      exact h.2 i u d hu hd
    · rw [List.getElem?_append_right (by omega)] at hu
      rw [List.getElem?_append_right (by rw [← h.1]; omega), ← h.1] at hd
      exact h'.2 _ u d hu hd⟩
theorem AtVs.set {I : Nat → Nat → Prop} {w : World} {g : Nat → Value} {us : List Value} {ds : List V} (h : AtVs I w g us ds) {u : Value} {d : V} (hd : AtV I w g u d) (n : Nat) : AtVs I w g (us.set n u) (ds.set n d) :=
  ⟨by simp [h.1], fun i x y hx hy => by
    by_cases hi : n = i
    · subst hi
      have hlt : n < us.length := by
        have := (List.getElem?_eq_some_iff.1 hx).1
        simpa using this
      rw [List.getElem?_set_self hlt] at hx
      rw [List.getElem?_set_self (by rw [← h.1]; exact hlt)] at hy
      injection hx with hx
      injection hy with hy
      subst hx; subst hy
      exact hd
    · rw [List.getElem?_set_ne hi] at hx hy
      exact h.2 i x y hx hy⟩
theorem atV_ag {I : Nat → Nat → Prop} {w : World} {g : Nat → Value} {us : List Value} {cs : List V} (h : AtVs I w g us cs) : AtV I w g (.agg us.toArray) (.ag cs) := .ag us cs h.1 h.2
theorem atV_tu {I : Nat → Nat → Prop} {w : World} {g : Nat → Value} {us : List Value} {cs : List V} (h : AtVs I w g us cs) : AtV I w g (.tuple us.toArray) (.tu cs) := .tu us cs h.1 h.2
theorem AtV.unag {I : Nat → Nat → Prop} {w : World} {g : Nat → Value} {v : Value} {cs : List V} (h : AtV I w g v (.ag cs)) : ∃ us, v = .agg us.toArray ∧ AtVs I w g us cs := by
  cases h with
  | ag us cs hl h => exact ⟨us, rfl, hl, h⟩
theorem AtV.untu {I : Nat → Nat → Prop} {w : World} {g : Nat → Value} {v : Value} {cs : List V} (h : AtV I w g v (.tu cs)) : ∃ us, v = .tuple us.toArray ∧ AtVs I w g us cs := by
  cases h with
  | tu us cs hl h => exact ⟨us, rfl, hl, h⟩
theorem AtV.unem {I : Nat → Nat → Prop} {w : World} {g : Nat → Value} {v : Value} (h : AtV I w g v .em) : v = .slice none 0 0 := by cases h; rfl
theorem AtV.unown {I : Nat → Nat → Prop} {w : World} {g : Nat → Value} {v : Value} {k : Nat} (h : AtV I w g v (.own k)) : v = g k ∧ ∃ A n cap, g k = .slice A n cap := by
  cases h with
  | own k A n cap h => exact ⟨h.symm, A, n, cap, h⟩
theorem AtV.unmp {I : Nat → Nat → Prop} {w : World} {g : Nat → Value} {v : Value} {k : Nat} (h : AtV I w g v (.mp k)) : ∃ b, g k = .map (some b) ∧ v = .map (some b) := by
  cases h with
  | mp k b h => exact ⟨b, h, rfl⟩
theorem AtV.unptr {I : Nat → Nat → Prop} {w : World} {g : Nat → Value} {v : Value} {k off : Nat} (h : AtV I w g v (.ptr k off)) : ∃ b, g k = .pointer (some ⟨b, 0, none⟩) ∧ v = .pointer (some ⟨b, off, none⟩) := by
  cases h with
  | ptr k off b h => exact ⟨b, h, rfl⟩
theorem AtDs.toV {I : Nat → Nat → Prop} {w : World} (g : Nat → Value) : ∀ {ds : List D} {us : List Value}, AtDs I w us ds → AtVs I w g us (ofD ds)
  | [], us, h => by
    rw [List.eq_nil_of_length_eq_zero h.1]
    exact .nil I w g
  | d :: ds, us, h => by
    obtain ⟨u, us', rfl, h1, h2⟩ := h.uncons
    exact .cons (.d h1) (AtDs.toV g h2)
end Go.Proofs.YtgedpbpfoaljhaaDoor.Vm

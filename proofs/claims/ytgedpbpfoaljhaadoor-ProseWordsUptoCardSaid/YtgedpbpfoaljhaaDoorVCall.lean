/- The machine of values: a call that is handed objects. -/
import Derived.Test.YtgedpbpfoaljhaaDoorVSpec
set_option linter.unusedVariables false
set_option linter.unusedSimpArgs false
namespace Go.Proofs.YtgedpbpfoaljhaaDoor.Vm
open Go.RowKit
/-- The blocks of objects. -/
def Xof (g : Nat → Value) (os : List O) (b : Nat) : Prop := ∃ k o, os[k]? = some o ∧ o ≠ .dead ∧ gblk (g k) = some b
def pkg : List Value → Value
  | [v] => v
  | vs => .tuple vs.toArray
/-- The function f, handed values and objects that read as vs and os, hands back values and leaves objects of which Q holds. -/
def SpecO (f : Nat) (vs : List V) (os : List O) (Q : List V → List O → Prop) : Prop := fnOk Tryd.prog f = true ∧ ∀ (I : Nat → Nat → Prop) (w : World) (g : Nat → Value) (args : List Value),
  RelI I (Xof g os) ⟨w, g, os.length, []⟩ I g ⟨vs, os⟩ { tmps := args.toArray, defers := [] } w →
  Calls Tryd.prog f args.toArray w fun e w' => ∃ us res os2 I' g', e = .returned (pkg us) ∧ Q res os2 ∧ RelI I (Xof g os) ⟨w, g, os.length, []⟩ I' g' ⟨res, os2⟩ { tmps := us.toArray, defers := [] } w'
section
variable {I0 : Nat → Nat → Prop} {X : Nat → Prop} {w0 : W0} {I : Nat → Nat → Prop} {g : Nat → Value} {s : S} {a : Act} {w : World}
theorem upN_lt : ∀ {ks : List Nat} {n j : Nat}, j < ks.length → ks[j]? = some (upN ks n j)
  | [], n, j, h => by simp at h
  | k :: ks, n, 0, _ => rfl
  | k :: ks, n, j + 1, h => by rw [upN]; simpa using upN_lt (n := n) (by simpa using h)
theorem upN_ge : ∀ {ks : List Nat} {n j : Nat}, ks.length ≤ j → upN ks n j = n + (j - ks.length)
  | [], n, j, h => by rw [upN]; simp
  | k :: ks, n, 0, h => by simp at h
  | k :: ks, n, j + 1, h => by rw [upN, upN_ge (by simpa using h)]; simp
theorem upK_get {ks : List Nat} {n : Nat} : ∀ (l : List Nat) (i : Nat), (upK ks n l)[i]? = (l[i]?).map (upN ks n)
  | [], i => by simp [upK]
  | j :: l, 0 => by simp [upK]
  | j :: l, i + 1 => by simpa [upK] using upK_get l i
theorem upK_len {ks : List Nat} {n : Nat} : ∀ l : List Nat, (upK ks n l).length = l.length
  | [] => rfl
  | j :: l => by simp [upK, upK_len l]
/-- The callee's objects, out of the caller's. -/
theorem down1 {g1 : Nat → Value} {ks : List Nat} {n m : Nat} (hg : ∀ j, j < m → g1 j = g (upN ks n j)) {v : Value} {x : V} (h : AtV I w g v (up1 ks n x)) (hl : lowV m x = true) : AtV I w g1 v x := by
  cases x with
  | d x => exact (by cases h with | d h => exact .d h)
  | ag cs => cases hl
  | tu cs => cases hl
  | em => cases h; exact .em
  | own j =>
    cases h with
    | own k A n cap h => exact .own j A n cap ((hg j (by simpa [lowV, Nat.blt_eq] using hl)).trans h)
  | ptr j off =>
    cases h with
    | ptr k off b h => exact .ptr j off b ((hg j (by simpa [lowV, Nat.blt_eq] using hl)).trans h)
  | cl f l =>
    cases h with
    | cl f us ks' hlen h =>
      rw [lowV] at hl
      refine .cl f us l (by rw [hlen, upK_len]) fun i u k hu hk => ?_
      have h1 := h i u (upN ks n k) hu (by rw [upK_get, hk]; rfl)
      have h2 := hg k (lowN_at hl hk)
      rw [h2]
      exact h1
  | el j i sz off =>
    cases h with
    | el k i sz off b n cap h => exact .el j i sz off b n cap ((hg j (by simpa [lowV, Nat.blt_eq] using hl)).trans h)
  | ro cs off => cases h with | ro b o off us cs hi hc hd => exact .ro b o off us cs hi hc hd
  | mp j =>
    cases h with
    | mp k b h => exact .mp j b ((hg j (by simpa [lowV, Nat.blt_eq] using hl)).trans h)
  | jk => exact .jk _
theorem downL {g1 : Nat → Value} {ks : List Nat} {n m : Nat} (hg : ∀ j, j < m → g1 j = g (upN ks n j)) : ∀ {cs : List V} {us : List Value}, AtVs I w g us (upL ks n cs) → lowL m cs = true → AtVs I w g1 us cs
  | [], us, h, _ => by rw [upL] at h; rw [h.unnil]; exact .nil I w g1
  | c :: cs, us, h, hl => by
    rw [upL] at h
    obtain ⟨u, us', rfl, h1, h2⟩ := h.uncons
    rw [lowL] at hl
    split at hl
    · rename_i hc; exact .cons (down1 hg h1 hc) (downL hg h2 hl)
    · cases hl
theorem downT {g1 : Nat → Value} {ks : List Nat} {n m : Nat} (hg : ∀ j, j < m → g1 j = g (upN ks n j)) : ∀ {cs : List V} {us : List Value}, AtVs I w g us (upT ks n cs) → lowT m cs = true → AtVs I w g1 us cs
  | [], us, h, _ => by rw [upT] at h; rw [h.unnil]; exact .nil I w g1
  | c :: cs, us, h, hl => by
    rw [upT] at h
    obtain ⟨u, us', rfl, h1, h2⟩ := h.uncons
    rw [lowT] at hl
    split at hl
    · rename_i hc
      refine .cons ?_ (downT hg h2 hl)
      cases c with
      | ag l => obtain ⟨vs, rfl, h3⟩ := AtV.unag h1; exact atV_ag (downL hg h3 hc)
      | tu l =>
        cases l with
        | nil =>
          obtain ⟨vs, rfl, h3⟩ := AtV.untu h1
          rw [h3.unnil]
          exact atV_tu (.nil I w g1)
        | cons c l => cases hc
      | d x => exact down1 hg h1 hc
      | em => exact down1 hg h1 hc
      | own k => exact down1 hg h1 hc
      | ptr k off => exact down1 hg h1 hc
      | cl f l => exact down1 hg h1 hc
      | el k i sz off => exact down1 hg h1 hc
      | ro l off => exact down1 hg h1 hc
      | mp k => exact down1 hg h1 hc
      | jk => exact .jk _
    · cases hl
/-- The caller's objects, out of the callee's. -/
theorem rise1 {g1 : Nat → Value} {ks : List Nat} {n : Nat} (hg : ∀ j, g1 j ≠ .nilFunc → g (upN ks n j) = g1 j) {v : Value} {x : V} (h : AtV I w g1 v x) : AtV I w g v (up1 ks n x) := by
  cases h with
  | d h => exact .d h
  | ag => exact .jk _
  | tu => exact .jk _
  | em => exact .em
  | own j A m cap h => exact .own _ A m cap ((hg j (by rw [h]; simp)).trans h)
  | ptr j off b h => exact .ptr _ off b ((hg j (by rw [h]; simp)).trans h)
  | cl f us l hl h =>
    refine .cl f us _ (by rw [upK_len]; exact hl) fun i u k hu hk => ?_
    rw [upK_get] at hk
    obtain ⟨j, hj, rfl⟩ := Option.map_eq_some_iff.1 hk
    obtain ⟨h1, b, h2⟩ := h i u j hu hj
    have h3 := hg j (by rw [h2]; simp)
    exact ⟨h1.trans h3.symm, b, h3.trans h2⟩
  | el j i sz off b m cap h => exact .el _ i sz off b m cap ((hg j (by rw [h]; simp)).trans h)
  | ro b o off us cs hi hc hd => exact .ro b o off us cs hi hc hd
  | mp j b h => exact .mp _ b ((hg j (by rw [h]; simp)).trans h)
  | jk v => exact .jk v
theorem riseL {g1 : Nat → Value} {ks : List Nat} {n : Nat} (hg : ∀ j, g1 j ≠ .nilFunc → g (upN ks n j) = g1 j) : ∀ {cs : List V} {us : List Value}, AtVs I w g1 us cs → AtVs I w g us (upL ks n cs)
  | [], us, h => by rw [h.unnil]; exact .nil I w g
  | c :: cs, us, h => by
    obtain ⟨u, us', rfl, h1, h2⟩ := h.uncons
    exact .cons (rise1 hg h1) (riseL hg h2)
theorem rise2 {g1 : Nat → Value} {ks : List Nat} {n : Nat} (hg : ∀ j, g1 j ≠ .nilFunc → g (upN ks n j) = g1 j) {v : Value} {x : V} (h : AtV I w g1 v x) : AtV I w g v (up2 ks n x) := by
  cases x with
  | ag l => obtain ⟨vs, rfl, h3⟩ := AtV.unag h; exact atV_ag (riseL hg h3)
  | tu l =>
    cases l with
    | nil =>
      obtain ⟨vs, rfl, h3⟩ := AtV.untu h
      rw [h3.unnil]
      exact atV_tu (.nil I w g)
    | cons c l => exact rise1 hg h
  | _ => exact rise1 hg h
theorem riseT {g1 : Nat → Value} {ks : List Nat} {n : Nat} (hg : ∀ j, g1 j ≠ .nilFunc → g (upN ks n j) = g1 j) : ∀ {cs : List V} {us : List Value}, AtVs I w g1 us cs → AtVs I w g us (upT ks n cs)
  | [], us, h => by rw [h.unnil]; exact .nil I w g
  | c :: cs, us, h => by
    obtain ⟨u, us', rfl, h1, h2⟩ := h.uncons
    exact .cons (rise2 hg h1) (riseT hg h2)
theorem pkg_at : ∀ {vs : List V} {us : List Value}, AtVs I w g us vs → AtV I w g (pkg us) (pkgV vs)
  | [], us, h => by rw [h.unnil]; exact atV_tu (.nil I w g)
  | [v], us, h => by
    obtain ⟨u, us', rfl, h1, h2⟩ := h.uncons
    rw [h2.unnil]
    exact h1
  | v :: v' :: vs, us, h => by
    obtain ⟨u, us', rfl, h1, h2⟩ := h.uncons
    obtain ⟨u', us'', rfl, h3, h4⟩ := h2.uncons
    exact atV_tu h
def killLs : List Nat → List V → List V
  | [], t => t
  | k :: ks, t => killLs ks (killL k t)
theorem killLs_at {g2 : Nat → Value} : ∀ (ks : List Nat) (g : Nat → Value) {cs : List V} {us : List Value}, (∀ j, j ∉ ks → g2 j = g j) → (∀ j, isRef (g j) = true → g2 j = g j) → AtVs I w g us cs → AtVs I w g2 us (killLs ks cs)
  | [], g, cs, us, hg, hp, h => by
    have : g2 = g := funext fun j => hg j (by simp)
    subst this
    exact h
  | k :: ks, g, cs, us, hg, hp, h => by
    refine killLs_at ks (upd g k (g2 k)) (fun j hj => ?_) (fun j hb => ?_) (killL_at (k := k) (fun j hj => upd_ne hj) (fun ha => by rw [upd_same]; exact hp k ha) h)
    · by_cases e : j = k
      · subst e; rw [upd_same]
      · rw [upd_ne e]; exact hg j (by simp [e, hj])
    · by_cases e : j = k
      · subst e; rw [upd_same]
      · rw [upd_ne e] at hb ⊢; exact hp j hb
theorem killTs_at {g2 : Nat → Value} : ∀ (ks : List Nat) (g : Nat → Value) {cs : List V} {us : List Value}, (∀ j, j ∉ ks → g2 j = g j) → (∀ j, isRef (g j) = true → g2 j = g j) → AtVs I w g us cs → AtVs I w g2 us (killTs ks cs)
  | [], g, cs, us, hg, hp, h => by
    have : g2 = g := funext fun j => hg j (by simp)
    subst this
    exact h
  | k :: ks, g, cs, us, hg, hp, h => by
    refine killTs_at ks (upd g k (g2 k)) (fun j hj => ?_) (fun j hb => ?_) (killT_at (k := k) (fun j hj => upd_ne hj) (fun ha => by rw [upd_same]; exact hp k ha) h)
    · by_cases e : j = k
      · subst e; rw [upd_same]
      · rw [upd_ne e]; exact hg j (by simp [e, hj])
    · by_cases e : j = k
      · subst e; rw [upd_same]
      · rw [upd_ne e] at hb ⊢; exact hp j hb
def killKs : List Nat → List Nat → List Nat
  | [], l => l
  | k :: ks, l => killKs ks (k :: l)
theorem killKs_mem : ∀ {ks l : List Nat} {j : Nat}, j ∈ ks ∨ j ∈ l → j ∈ killKs ks l
  | [], l, j, h => h.resolve_left (by simp)
  | k :: ks, l, j, h => by
    rw [killKs]
    refine killKs_mem ?_
    rcases h with h | h
    · rcases List.mem_cons.1 h with rfl | h
      · exact .inr (List.mem_cons_self ..)
      · exact .inl h
    · exact .inr (List.mem_cons_of_mem _ h)
theorem killOs_get : ∀ (ks : List Nat) (l : List O) (j : Nat) (o : O), (killOs ks l)[j]? = some o → ∃ o', l[j]? = some o' ∧ (o ≠ .dead → o' ≠ .dead) ∧ ((∃ cs, o' = .box cs ∧ o = .box (killLs ks cs)) ∨ (∃ js, o' = .kl js ∧ o = .kl (killKs ks js)) ∨ (o = o' ∧ (∀ cs, o ≠ .box cs) ∧ ∀ js, o ≠ .kl js))
  | [], l, j, o, h => ⟨o, h, fun h => h, by
    cases o with
    | box cs => exact .inl ⟨cs, rfl, rfl⟩
    | kl js => exact .inr (.inl ⟨js, rfl, rfl⟩)
    | row z e r => exact .inr (.inr ⟨rfl, by simp, by simp⟩)
    | mp kt es => exact .inr (.inr ⟨rfl, by simp, by simp⟩)
    | dead => exact .inr (.inr ⟨rfl, by simp, by simp⟩)⟩
  | k :: ks, l, j, o, h => by
    obtain ⟨o1, h1, h2, h3⟩ := killOs_get ks (killO k l) j o h
    obtain ⟨o2, h4, h5, h6⟩ := killO_get k l j o1 h1
    refine ⟨o2, h4, fun hd => h5 (h2 hd), ?_⟩
    rcases h3 with ⟨cs, rfl, rfl⟩ | ⟨cs, rfl, rfl⟩ | ⟨rfl, hb, hf⟩
    · rcases h6 with ⟨cs', rfl, e⟩ | ⟨cs', rfl, e⟩ | ⟨rfl, hb, _⟩
      · injection e with e
        subst e
        exact .inl ⟨cs', rfl, rfl⟩
      · cases e
      · exact absurd rfl (hb cs)
    · rcases h6 with ⟨cs', rfl, e⟩ | ⟨cs', rfl, e⟩ | ⟨rfl, _, hb⟩
      · cases e
      · injection e with e
        subst e
        exact .inr (.inl ⟨cs', rfl, rfl⟩)
      · exact absurd rfl (hb cs)
    · rcases h6 with ⟨cs', rfl, e⟩ | ⟨cs', rfl, e⟩ | ⟨rfl, _, _⟩
      · exact absurd e (hb _)
      · exact absurd e (hf _)
      · exact .inr (.inr ⟨rfl, hb, hf⟩)
theorem killOs_len : ∀ (ks : List Nat) (l : List O), (killOs ks l).length = l.length
  | [], l => rfl
  | k :: ks, l => by rw [killOs, killOs_len ks, killO_len]
theorem appO_is : ∀ l m : List O, appO l m = l ++ m
  | [], m => rfl
  | x :: l, m => by rw [appO, appO_is l m]; rfl
theorem backO_in : ∀ {ks : List Nat} {os l : List O}, ks.Nodup → (∀ k ∈ ks, k < l.length) → ks.length ≤ os.length → ∀ {i k : Nat}, ks[i]? = some k → (backO ks os l)[k]? = os[i]?
  | [], os, l, _, _, _, i, k, h => by simp at h
  | k0 :: ks, [], l, _, _, hl, i, k, h => by simp at hl
  | k0 :: ks, x :: os, l, hn, hk, hl, i, k, h => by
    rw [backO, setO_is]
    obtain ⟨hn1, hn2⟩ := List.nodup_cons.1 hn
    have hk' : ∀ k ∈ ks, k < (l.set k0 x).length := fun k hm => by rw [List.length_set]; exact hk k (List.mem_cons_of_mem _ hm)
    cases i with
    | zero =>
      simp at h
      subst h
      rw [backO_out hk' (by simpa using hl) hn1 (by rw [List.length_set]; exact hk _ (List.mem_cons_self ..)), List.getElem?_set_self (hk _ (List.mem_cons_self ..))]
      rfl
    | succ i =>
      rw [backO_in hn2 hk' (by simpa using hl) (i := i) (by simpa using h)]
      simp
where
  backO_out : ∀ {ks : List Nat} {os l : List O}, (∀ k ∈ ks, k < l.length) → ks.length ≤ os.length → ∀ {k : Nat}, k ∉ ks → k < l.length → (backO ks os l)[k]? = l[k]?
    | [], os, l, _, _, k, _, hlt => by
      rw [backO, appO_is, List.getElem?_append_left hlt]
      simp
    | k0 :: ks, [], l, _, hl, k, _, _ => by simp at hl
    | k0 :: ks, x :: os, l, hk, hl, k, hn, hlt => by
      rw [backO, setO_is, backO_out (fun k hm => by rw [List.length_set]; exact hk k (List.mem_cons_of_mem _ hm)) (by simpa using hl) (fun hm => hn (List.mem_cons_of_mem _ hm)) (by rw [List.length_set]; exact hlt), List.getElem?_set_ne fun e => hn (by rw [← e]; exact List.mem_cons_self ..)]
theorem backO_new : ∀ {ks : List Nat} {os l : List O}, ks.length ≤ os.length → ∀ d, (backO ks os l)[l.length + d]? = os[ks.length + d]?
  | [], os, l, _, d => by
    rw [backO, appO_is, List.getElem?_append_right (Nat.le_add_right _ _)]
    · simp
    · simp
  | k0 :: ks, [], l, hl, d => by simp at hl
  | k0 :: ks, x :: os, l, hl, d => by
    rw [backO, setO_is]
    have := backO_new (ks := ks) (os := os) (l := l.set k0 x) (by simpa using hl) d
    rw [List.length_set] at this
    rw [this, List.length_cons, Nat.add_right_comm]
    simp
theorem backO_len : ∀ {ks : List Nat} {os l : List O}, ks.length ≤ os.length → (backO ks os l).length = l.length + (os.length - ks.length)
  | [], os, l, _ => by
    rw [backO, appO_is]
    · simp
    · simp
  | k0 :: ks, [], l, hl => by simp at hl
  | k0 :: ks, x :: os, l, hl => by
    rw [backO, setO_is, backO_len (by simpa using hl), List.length_set]
    simp
theorem upOs_get {ks : List Nat} {n : Nat} : ∀ (l : List O) (i : Nat), (upOs ks n l)[i]? = (l[i]?).map (upO ks n)
  | [], i => by simp [upOs]
  | j :: l, 0 => by simp [upOs]
  | j :: l, i + 1 => by simpa [upOs] using upOs_get l i
theorem upOs_len {ks : List Nat} {n : Nat} : ∀ l : List O, (upOs ks n l).length = l.length
  | [] => rfl
  | j :: l => by simp [upOs, upOs_len l]
theorem memN_is {k : Nat} : ∀ {l : List Nat}, memN k l = true ↔ k ∈ l
  | [] => by simp [memN]
  | j :: l => by
    rw [memN]
    cases e : eqN j k
    · show memN k l = true ↔ k ∈ j :: l
      rw [memN_is, List.mem_cons]
      have := eqN_no.1 e
      exact Iff.intro (fun h => .inr h) fun h => h.resolve_left fun e => this e.symm
    · simp [eqN_is.1 e]
theorem nodupN_is : ∀ {l : List Nat}, nodupN l = true → l.Nodup
  | [], _ => List.nodup_nil
  | k :: l, h => by
    rw [nodupN] at h
    split at h
    · cases h
    · rename_i hm
      exact List.nodup_cons.2 ⟨fun hk => (by rw [memN_is.2 hk] at hm; cases hm), nodupN_is h⟩
theorem nodup_inj : ∀ {l : List Nat}, l.Nodup → ∀ {i j k : Nat}, l[i]? = some k → l[j]? = some k → i = j
  | [], _, i, j, k, h, _ => by simp at h
  | x :: l, hn, i, j, k, hi, hj => by
    obtain ⟨h1, h2⟩ := List.nodup_cons.1 hn
    cases i with
    | zero =>
      cases j with
      | zero => rfl
      | succ j =>
        simp at hi hj
        subst hi
        exact absurd (List.mem_of_getElem? hj) h1
    | succ i =>
      cases j with
      | zero =>
        simp at hi hj
        subst hj
        exact absurd (List.mem_of_getElem? hi) h1
      | succ j => exact congrArg (· + 1) (nodup_inj h2 (k := k) (by simpa using hi) (by simpa using hj))
theorem pick_get : ∀ {ks : List Nat} {l : List O} {i k : Nat}, ks[i]? = some k → (pick ks l)[i]? = some (getO l k)
  | [], _, _, _, h => by simp at h
  | k0 :: ks, l, 0, k, h => by simp at h; subst h; rfl
  | k0 :: ks, l, i + 1, k, h => by simpa [pick] using pick_get (l := l) (i := i) (by simpa using h)
theorem alive_get : ∀ {l : List O}, alive l = true → ∀ o ∈ l, o ≠ .dead ∧ ∀ js, o ≠ .kl js
  | [], _, o, h => by simp at h
  | x :: l, h, o, hm => by
    cases x with
    | dead => cases h
    | box cs =>
      rcases List.mem_cons.1 hm with rfl | hm
      · simp
      · exact alive_get (l := l) h o hm
    | row z e r =>
      rcases List.mem_cons.1 hm with rfl | hm
      · simp
      · exact alive_get (l := l) h o hm
    | mp kt es =>
      rcases List.mem_cons.1 hm with rfl | hm
      · simp
      · exact alive_get (l := l) h o hm
    | kl js => cases h
/-- What a call of f with these objects asks. -/
structure SubOk (ks : List Nat) (vs' : List V) (os' : List O) (vs : List V) (s : S) : Prop where
  nd : nodupN ks = true
  len : lenO os' = lenL ks
  args : upT ks (lenO s.o) vs' = vs
  objs : pick ks s.o = upOs ks (lenO s.o) os'
  al : alive os' = true
  low : lowT (lenL ks) vs' = true
  lowo : lowO (lenL ks) os' = true
theorem SubOk.nokl {ks : List Nat} {vs' vs : List V} {os' : List O} {s : S} (h : SubOk ks vs' os' vs s) {i : Nat} {o : O} (ho : os'[i]? = some o) : ∀ js, o ≠ .kl js := (alive_get h.al o (List.mem_of_getElem? ho)).2
theorem SubOk.obj {ks : List Nat} {vs' vs : List V} {os' : List O} (h : SubOk ks vs' os' vs s) {i k : Nat} (hi : ks[i]? = some k) : ∃ o, os'[i]? = some o ∧ (o ≠ .dead ∧ ∀ js, o ≠ .kl js) ∧ s.o[k]? = some (upO ks s.o.length o) := by
  have hl := h.len
  rw [lenO_is, lenL_is] at hl
  have hlt : i < os'.length := by rw [hl]; exact (List.getElem?_eq_some_iff.1 hi).1
  have h1 := pick_get (l := s.o) hi
  rw [h.objs, upOs_get, List.getElem?_eq_getElem hlt] at h1
  have hd := alive_get h.al os'[i] (List.getElem_mem hlt)
  refine ⟨os'[i], List.getElem?_eq_getElem hlt, hd, ?_⟩
  have h2 := Option.some.inj h1
  rw [← lenO_is, h2]
  refine getO_some rfl ?_
  rw [← h2]
  generalize os'[i] = o at hd
  cases o <;> simp_all [upO]
/-- The callee's view of the caller's objects. -/
def sub (ks : List Nat) (g : Nat → Value) (i : Nat) : Value := match ks[i]? with | some k => g k | none => .nilFunc
theorem sub_at (h : RelI I0 X w0 I g s a w) {ks : List Nat} {vs' vs : List V} {os' : List O} {args : List Value} (hs : SubOk ks vs' os' vs s) (hv : AtVs I w g args vs) : RelI I (Xof (sub ks g) os') ⟨w, sub ks g, os'.length, []⟩ I (sub ks g) ⟨vs', os'⟩ { tmps := args.toArray, defers := [] } w := by
  have hl := hs.len
  rw [lenO_is, lenL_is] at hl
  have hg : ∀ j, j < lenL ks → sub ks g j = g (upN ks (lenO s.o) j) := fun j hj => by
    rw [lenL_is] at hj
    unfold sub
    rw [upN_lt hj]
  have hgs : ∀ {i k : Nat}, ks[i]? = some k → sub ks g i = g k := fun {i k} h => by unfold sub; rw [h]
  have hX : ∀ {i : Nat} {o : O}, os'[i]? = some o → o ≠ .dead → ∀ b, gblk (sub ks g i) = some b → Mine (Xof (sub ks g) os') ⟨w, sub ks g, os'.length, []⟩ b := fun {i o} ho hd b hb => .inr ⟨i, o, ho, hd, hb⟩
  refine ⟨fun _ _ h => h, fun b k hb => ⟨(h.lt b k hb).1, fun _ => .inl hb⟩, Fr.refl _ _, Keeps.refl _ _, Nat.le_refl _, fun _ _ _ => rfl, fun i o ho => ?_, fun i j b hi hj hbi hbj => ?_, fun i hi => ?_, ?_, rfl⟩
  · have hlt : i < ks.length := by rw [← hl]; exact (List.getElem?_eq_some_iff.1 ho).1
    have hi : ks[i]? = some ks[i] := List.getElem?_eq_getElem hlt
    obtain ⟨o', ho', ⟨hd, _⟩, hso⟩ := hs.obj hi
    have ho : os'[i]? = some o := ho
    rw [ho] at ho'
    injection ho' with ho'
    subst ho'
    have hob := h.obj _ _ hso
    have hgi := hgs hi
    cases o with
    | dead => exact True.intro
    | box cs =>
      obtain ⟨b, us, t, h1, h2, h3, h4, h5, h6⟩ := hob
      refine ⟨b, us, t, by rw [hgi]; exact h1, h2, downL hg (by rw [lenO_is]; exact h3) (lowO_at hs.lowo ho), h4, h5, hX ho hd b (by rw [hgi, h1]; rfl)⟩
    | row z e rows =>
      obtain ⟨us, h1, h2, h3, h4⟩ := hob
      refine ⟨us, by rw [hgi]; exact h1, h2, h3, fun b hb => ?_⟩
      rw [hgi] at hb
      exact ⟨(h4 b hb).1, (h4 b hb).2.1, hX ho hd b (by rw [hgi, own_gblk h1]; exact hb)⟩
    | mp kt es =>
      obtain ⟨b, l, c, h1, h2, h3, h4, h5⟩ := hob
      exact ⟨b, l, c, by rw [hgi]; exact h1, h2, h3, h4, hX ho hd b (by rw [hgi, h1]; rfl)⟩
    | kl js => exact absurd rfl (hs.nokl ho js)
  · obtain ⟨oi, hoi, hdi⟩ := hi
    obtain ⟨oj, hoj, hdj⟩ := hj
    have hli : i < ks.length := by rw [← hl]; exact (List.getElem?_eq_some_iff.1 hoi).1
    have hlj : j < ks.length := by rw [← hl]; exact (List.getElem?_eq_some_iff.1 hoj).1
    have hi : ks[i]? = some ks[i] := List.getElem?_eq_getElem hli
    have hj : ks[j]? = some ks[j] := List.getElem?_eq_getElem hlj
    have liv : ∀ {i k : Nat}, ks[i]? = some k → live s k := fun {i k} h => by
      obtain ⟨o, _, hd, hso⟩ := hs.obj h
      exact ⟨_, hso, by cases o <;> simp_all [upO]⟩
    rw [hgs hi] at hbi
    rw [hgs hj] at hbj
    have := h.dis _ _ b (liv hi) (liv hj) hbi hbj
    exact nodup_inj (nodupN_is hs.nd) hi (by rw [this]; exact hj)
  · have hi : os'.length ≤ i := hi
    unfold sub
    rw [List.getElem?_eq_none (by omega)]
  · show AtVs I w (sub ks g) args vs'
    exact downT hg (by rw [hs.args]; exact hv) hs.low
def idxN : List Nat → Nat → Option Nat
  | [], _ => none
  | j :: l, k => if j = k then some 0 else (idxN l k).map (· + 1)
theorem idxN_in : ∀ {l : List Nat}, l.Nodup → ∀ {i k : Nat}, l[i]? = some k → idxN l k = some i
  | [], _, i, k, h => by simp at h
  | x :: l, hn, i, k, h => by
    obtain ⟨h1, h2⟩ := List.nodup_cons.1 hn
    rw [idxN]
    cases i with
    | zero => simp at h; rw [if_pos h]
    | succ i =>
      have h3 : l[i]? = some k := by simpa using h
      rw [if_neg fun e => h1 (by rw [e]; exact List.mem_of_getElem? h3), idxN_in h2 h3]
      rfl
theorem idxN_out : ∀ {l : List Nat} {k : Nat}, k ∉ l → idxN l k = none
  | [], _, _ => rfl
  | x :: l, k, h => by
    rw [idxN, if_neg fun e => h (by rw [e]; exact List.mem_cons_self ..), idxN_out fun hm => h (List.mem_cons_of_mem _ hm)]
    rfl
theorem upO_dead {ks : List Nat} {n : Nat} {o : O} (h : upO ks n o ≠ .dead) : o ≠ .dead := by cases o <;> simp_all [upO]
theorem upO_live {ks : List Nat} {n : Nat} {o : O} (h : o ≠ .dead) (hk : ∀ js, o ≠ .kl js) : upO ks n o ≠ .dead := by cases o <;> simp_all [upO]
/-- Behind a call that was handed objects. -/
theorem called (h : RelI I0 X w0 I g s a w) {ks : List Nat} {vs' vs res : List V} {os' os2 : List O} {us : List Value} {w' : World} {I' : Nat → Nat → Prop} {g1 : Nat → Value} (hs : SubOk ks vs' os' vs s)
    (h1 : RelI I (Xof (sub ks g) os') ⟨w, sub ks g, os'.length, []⟩ I' g1 ⟨res, os2⟩ { tmps := us.toArray, defers := [] } w') : ∃ g2, RelI I0 X w0 I' g2 (back ks os2 s) a w' ∧ AtV I' w' g2 (pkg us) (pkgV (upT ks (lenO s.o) res)) := by
  have hm := hs.len
  rw [lenO_is, lenL_is] at hm
  have hnd := nodupN_is hs.nd
  obtain ⟨n, hn⟩ : ∃ n, n = s.o.length := ⟨_, rfl⟩
  have hklt : ∀ k ∈ ks, k < n := fun k hk => by
    obtain ⟨i, hi⟩ := List.mem_iff_getElem?.1 hk
    obtain ⟨o, _, _, ho⟩ := hs.obj hi
    rw [hn]
    exact (List.getElem?_eq_some_iff.1 ho).1
  have hm2 : ks.length ≤ os2.length := by rw [← hm]; exact h1.lo
  obtain ⟨g2, hg2⟩ : ∃ g2 : Nat → Value, g2 = fun k => match idxN ks k with | some i => g1 i | none => if k < n then g k else g1 (ks.length + (k - n)) := ⟨_, rfl⟩
  have f_in : ∀ {i k : Nat}, ks[i]? = some k → g2 k = g1 i := fun {i k} hi => by rw [hg2]; simp only; rw [idxN_in hnd hi]
  have f_out : ∀ k, k ∉ ks → k < n → g2 k = g k := fun k hk hlt => by rw [hg2]; simp only; rw [idxN_out hk]; simp only; rw [if_pos hlt]
  have f_new : ∀ d, g2 (n + d) = g1 (ks.length + d) := fun d => by
    rw [hg2]; simp only
    rw [idxN_out fun hk => by have := hklt _ hk; omega]
    simp only
    rw [if_neg (by omega)]
    congr 1
    omega
  have f1 : ∀ j, g2 (upN ks n j) = g1 j := fun j => by
    rcases Nat.lt_or_ge j ks.length with hj | hj
    · exact f_in (upN_lt hj)
    · rw [upN_ge hj, f_new]
      congr 1
      omega
  have gsub : ∀ {i k : Nat}, ks[i]? = some k → sub ks g i = g k := fun {i k} h => by unfold sub; rw [h]
  have f_ref : ∀ j, isRef (g j) = true → g2 j = g j := fun j hr => by
    by_cases hj : j ∈ ks
    · obtain ⟨i, hi⟩ := List.mem_iff_getElem?.1 hj
      have hlt := (List.getElem?_eq_some_iff.1 hi).1
      rw [f_in hi, h1.st i (by show i < os'.length; rw [hm]; exact hlt) (by show isRef (sub ks g i) = true; rw [gsub hi]; exact hr)]
      exact gsub hi
    · refine f_out j hj ?_
      rcases Nat.lt_or_ge j n with hlt | hge
      · exact hlt
      · rw [h.out j (by omega)] at hr; cases hr
  have xof : ∀ b, Xof (sub ks g) os' b → ∃ k, k ∈ ks ∧ live s k ∧ gblk (g k) = some b ∧ b < w.heap.size ∧ Mine X w0 b := fun b ⟨i, o, ho, hd, hb⟩ => by
    have hlt : i < ks.length := by rw [← hm]; exact (List.getElem?_eq_some_iff.1 ho).1
    have hi : ks[i]? = some ks[i] := List.getElem?_eq_getElem hlt
    obtain ⟨o', ho', hd', hso⟩ := hs.obj hi
    rw [gsub hi] at hb
    have hdd : upO ks s.o.length o' ≠ .dead := upO_live hd'.1 hd'.2
    have := (h.obj _ _ hso).blk hdd b hb
    exact ⟨ks[i], List.getElem_mem hlt, ⟨_, hso, hdd⟩, hb, this.1, this.2⟩
  have mine : ∀ b, Mine (Xof (sub ks g) os') ⟨w, sub ks g, os'.length, []⟩ b → Mine X w0 b := fun b hb => by
    rcases hb with hb | hb
    · exact .inl (Nat.le_trans h.fr.size hb)
    · obtain ⟨k, _, _, _, _, hM⟩ := xof b hb
      exact hM
  have hkp : Keeps I w w' := h1.kp
  have hII : ∀ b k, I b k → I' b k := h1.im
  have hlen : (back ks os2 s).o.length = n + (os2.length - ks.length) := by
    show (backO ks (upOs ks (lenO s.o) os2) (killOs ks s.o)).length = _
    rw [backO_len (by rw [upOs_len]; exact hm2), killOs_len, upOs_len, hn]
  -- each object that is there is one of the callee's, or was the caller's and not the callee's
  have each : ∀ k o, (back ks os2 s).o[k]? = some o → (∃ i o1, os2[i]? = some o1 ∧ o = upO ks n o1 ∧ g2 k = g1 i ∧ k = upN ks n i) ∨ (k ∉ ks ∧ k < n ∧ g2 k = g k ∧ ∃ o', s.o[k]? = some o' ∧ (o ≠ .dead → o' ≠ .dead) ∧ ((∃ cs, o' = .box cs ∧ o = .box (killLs ks cs)) ∨ (∃ js, o' = .kl js ∧ o = .kl (killKs ks js)) ∨ (o = o' ∧ (∀ cs, o ≠ .box cs) ∧ ∀ js, o ≠ .kl js))) := fun k o hk => by
    have hk : (backO ks (upOs ks (lenO s.o) os2) (killOs ks s.o))[k]? = some o := hk
    rw [lenO_is, ← hn] at hk
    have hkl : ∀ k ∈ ks, k < (killOs ks s.o).length := fun k hk => by rw [killOs_len, ← hn]; exact hklt k hk
    have hol : ks.length ≤ (upOs ks n os2).length := by rw [upOs_len]; exact hm2
    by_cases hin : k ∈ ks
    · obtain ⟨i, hi⟩ := List.mem_iff_getElem?.1 hin
      rw [backO_in hnd hkl hol hi, upOs_get] at hk
      obtain ⟨o1, ho1, rfl⟩ := Option.map_eq_some_iff.1 hk
      have hlt := (List.getElem?_eq_some_iff.1 hi).1
      have h3 := upN_lt (n := n) hlt
      rw [hi] at h3
      exact .inl ⟨i, o1, ho1, rfl, f_in hi, Option.some.inj h3⟩
    · rcases Nat.lt_or_ge k n with hlt | hge
      · rw [backO_in.backO_out hkl hol hin (by rw [killOs_len, ← hn]; exact hlt)] at hk
        exact .inr ⟨hin, hlt, f_out k hin hlt, killOs_get ks s.o k o hk⟩
      · obtain ⟨d, rfl⟩ : ∃ d, k = n + d := ⟨k - n, by omega⟩
        have hnl : (killOs ks s.o).length + d = n + d := by rw [killOs_len, ← hn]
        rw [← hnl, backO_new hol d, upOs_get] at hk
        obtain ⟨o1, ho1, rfl⟩ := Option.map_eq_some_iff.1 hk
        refine .inl ⟨ks.length + d, o1, ho1, rfl, f_new d, ?_⟩
        rw [upN_ge (by omega)]
        omega
  have hgm : ∀ k, (if k < n then g2 k else g k) ≠ .nilFunc → g2 k = (if k < n then g2 k else g k) := fun k hk => by
    by_cases hlt : k < n
    · rw [if_pos hlt]
    · rw [if_neg hlt] at hk
      exact absurd (h.out k (by omega)) hk
  have hk1 : ∀ j, j ∉ ks → (if j < n then g2 j else g j) = g j := fun j hj => by
    by_cases hlt : j < n
    · rw [if_pos hlt]; exact f_out j hj hlt
    · rw [if_neg hlt]
  have hk2 : ∀ j, isRef (g j) = true → (if j < n then g2 j else g j) = g j := fun j hb => by
    by_cases hlt : j < n
    · rw [if_pos hlt]; exact f_ref j hb
    · rw [if_neg hlt]
  have f1' : ∀ j, g1 j ≠ .nilFunc → g2 (upN ks n j) = g1 j := fun j _ => f1 j
  refine ⟨g2, ⟨fun b k hb => hII _ _ (h.im b k hb), fun b k hb => ⟨(h1.lt b k hb).1, fun hlt => ?_⟩, ⟨h1.fr.os.trans h.fr.os, h1.fr.tape.trans h.fr.tape, h1.fr.output.trans h.fr.output, Nat.le_trans h.fr.size h1.fr.size, fun b hb hX => ?_⟩, h.kp.trans fun b k hb i hi => hkp b k (h.im b k hb) i hi, ?_, fun k hk hr => ?_, fun k o hk => ?_, fun j k b hj hk hbj hbk => ?_, fun k hk => ?_, ?_, h.dfr⟩, ?_⟩
  · rcases (h1.lt b k hb).2 (Nat.lt_of_lt_of_le hlt h.fr.size) with h3 | h3
    · exact (h.lt b k h3).2 hlt
    · obtain ⟨_, _, _, _, _, hM⟩ := xof b h3
      rcases hM with hM | hM
      · omega
      · exact .inr hM
  · refine (h1.fr.block b (Nat.lt_of_lt_of_le hb h.fr.size) fun hx => ?_).trans (h.fr.block b hb hX)
    obtain ⟨_, _, _, _, _, hM⟩ := xof b hx
    rcases hM with hM | hM
    · omega
    · exact hX hM
  · rw [hlen]
    have := h.lo
    omega
  · have e := h.st k hk hr
    rw [← e] at hr ⊢
    exact f_ref k hr
  · rcases each k o hk with ⟨i, o1, ho1, rfl, e, _⟩ | ⟨hin, hlt, e, o', ho', hdd, hsh⟩
    · have hob := h1.obj i o1 ho1
      cases o1 with
      | dead => exact True.intro
      | box cs =>
        obtain ⟨b, us, t, a1, a2, a3, a4, a5, a6⟩ := hob
        exact ⟨b, us, t, e.trans a1, a2, riseL f1' a3, a4, a5, mine b a6⟩
      | row z e2 rows =>
        obtain ⟨us, a1, a2, a3, a4⟩ := hob
        exact ⟨us, by rw [e]; exact a1, a2, a3, fun b hb => by rw [e] at hb; exact ⟨(a4 b hb).1, (a4 b hb).2.1, mine b (a4 b hb).2.2⟩⟩
      | mp kt es =>
        obtain ⟨b, l, c, a1, a2, a3, a4, a5⟩ := hob
        exact ⟨b, l, c, e.trans a1, a2, a3, a4, mine b a5⟩
      | kl js => exact True.intro
    · by_cases hd : o = .dead
      · subst hd; exact True.intro
      have hd' := hdd hd
      have hob := h.obj k o' ho'
      have nox : ∀ b, gblk (g k) = some b → ¬ Xof (sub ks g) os' b := fun b hb hx => by
        obtain ⟨k', hk', hl', hb', _⟩ := xof b hx
        exact hin (by rw [h.dis k k' b ⟨_, ho', hd'⟩ hl' hb hb']; exact hk')
      have hkeep : ObjAt X w0 I' w' g k o' := by
        refine hob.keep hII hkp (fun b hb => h1.fr.block b (hob.blk hd' b hb).1 (nox b hb)) fun b hb k' hk' => ?_
        rcases (h1.lt b k' hk').2 (hob.blk hd' b hb).1 with h3 | h3
        · exact h3
        · exact absurd h3 (nox b hb)
      rcases hsh with ⟨cs, rfl, rfl⟩ | ⟨cs, rfl, rfl⟩ | ⟨rfl, hnb, hnf⟩
      · obtain ⟨b, us, t, a1, a2, a3, a4⟩ := hkeep
        exact ⟨b, us, t, e.trans a1, a2, (killLs_at ks g hk1 hk2 a3).more hgm, a4⟩
      · obtain ⟨us, a1, a2, a3⟩ := hkeep
        refine ⟨us, e.trans a1, a2, fun j u hu => ?_⟩
        by_cases hjk : j ∈ ks
        · exact .inr (.inr (killKs_mem (.inl hjk)))
        · rcases a3 j u hu with a4 | a4 | a4
          · exact .inl a4
          · have := (Array.getElem?_eq_some_iff.1 hu).1
            exact .inr (.inl ((f_out j hjk (by omega)).trans a4))
          · exact .inr (.inr (killKs_mem (.inr a4)))
      · cases o with
        | dead => exact True.intro
        | box cs => exact absurd rfl (hnb cs)
        | kl js => exact absurd rfl (hnf js)
        | mp kt es =>
          obtain ⟨b, l, c, a1, a2⟩ := hkeep
          exact ⟨b, l, c, e.trans a1, a2⟩
        | row z e2 rows =>
          obtain ⟨us, a1, a2, a3, a4⟩ := hkeep
          exact ⟨us, by rw [e]; exact a1, a2, a3, by rw [e]; exact a4⟩
  · obtain ⟨oj, hoj, hdj⟩ := hj
    obtain ⟨ok, hok, hdk⟩ := hk
    have cross : ∀ {i k : Nat} {o1 : O}, os2[i]? = some o1 → o1 ≠ .dead → gblk (g1 i) = some b → k ∉ ks → live s k → gblk (g k) ≠ some b := fun {i k o1} ho1 hd1 hb1 hin hl hb => by
      rcases ((h1.obj i o1 ho1).blk hd1 b hb1).2 with h3 | h3
      · have h3 : w.heap.size ≤ b := h3
        have := h.blk_lt hl hb
        omega
      · obtain ⟨k', hk', hl', hb', _⟩ := xof b h3
        exact hin (by rw [h.dis k k' b hl hl' hb hb']; exact hk')
    rcases each j oj hoj with ⟨i, o1, ho1, rfl, e, eu⟩ | ⟨hin, hlt, e, o', ho', hdd, _⟩ <;> rcases each k ok hok with ⟨i', o1', ho1', rfl, e', eu'⟩ | ⟨hin', hlt', e', o'', ho'', hdd', _⟩
    · rw [e] at hbj
      rw [e'] at hbk
      rw [eu, eu', h1.dis i i' b ⟨_, ho1, upO_dead hdj⟩ ⟨_, ho1', upO_dead hdk⟩ hbj hbk]
    · rw [e] at hbj
      rw [e'] at hbk
      exact absurd hbk (cross ho1 (upO_dead hdj) hbj hin' ⟨_, ho'', hdd' hdk⟩)
    · rw [e] at hbj
      rw [e'] at hbk
      exact absurd hbj (cross ho1' (upO_dead hdk) hbk hin ⟨_, ho', hdd hdj⟩)
    · rw [e] at hbj
      rw [e'] at hbk
      exact h.dis j k b ⟨_, ho', hdd hdj⟩ ⟨_, ho'', hdd' hdk⟩ hbj hbk
  · rw [hlen] at hk
    obtain ⟨d, rfl⟩ : ∃ d, k = n + d := ⟨k - n, by omega⟩
    rw [f_new]
    exact h1.out _ (by show os2.length ≤ _; omega)
  · exact ((killTs_at ks g hk1 hk2 h.tmp).more hgm).mono hII hkp
  · have h3 : AtVs I' w' g1 us res := h1.tmp
    rw [lenO_is, ← hn]
    exact pkg_at (riseT f1' h3)
end
def noKl : List O → Bool
  | [] => true
  | .kl _ :: _ => false
  | _ :: l => noKl l
theorem noKl_at : ∀ {l : List O}, noKl l = true → ∀ {i : Nat} {o : O}, l[i]? = some o → ∀ js, o ≠ .kl js
  | [], _, i, o, h => by simp at h
  | x :: l, hl, i, o, h => by
    have hl' : noKl l = true ∧ ∀ js, x ≠ .kl js := by cases x <;> first | cases hl | exact ⟨hl, by simp⟩
    cases i with
    | zero => simp at h; subst h; exact hl'.2
    | succ i => exact noKl_at hl'.1 (by simpa using h)
/-- The objects that are told of at a function's end: the first n, and whatever more of them. -/
structure KeepOk (n : Nat) (ks : List Nat) (res' : List V) (os' : List O) (res : List V) (s : S) : Prop where
  nd : nodupN ks = true
  len : lenO os' = lenL ks
  head : headN 0 n ks = true
  args : upT ks (lenO s.o) res' = res
  objs : pick ks s.o = upOs ks (lenO s.o) os'
  low : lowT (lenL ks) res' = true
  lowo : lowO (lenL ks) os' = true
  nk : noKl os' = true
theorem headN_at : ∀ {n j : Nat} {ks : List Nat}, headN j n ks = true → n ≤ ks.length ∧ ∀ i, i < n → ks[i]? = some (j + i)
  | 0, j, ks, _ => ⟨Nat.zero_le _, fun i hi => absurd hi (Nat.not_lt_zero _)⟩
  | n + 1, j, [], h => by cases h
  | n + 1, j, k :: ks, h => by
    rw [headN] at h
    split at h
    · rename_i e
      have e := eqN_is.1 e
      subst e
      obtain ⟨h1, h2⟩ := headN_at h
      refine ⟨by simp; exact h1, fun i hi => ?_⟩
      cases i with
      | zero => simp
      | succ i =>
        have := h2 i (by omega)
        simp only [List.getElem?_cons_succ]
        rw [this]
        congr 1
        omega
    · cases h
section
variable {I0 : Nat → Nat → Prop} {X : Nat → Prop} {w0 : W0} {I : Nat → Nat → Prop} {g : Nat → Value} {s : S} {a : Act} {w : World}
theorem keep_at (h : RelI I0 X w0 I g s a w) (hd0 : w0.d = []) {ks : List Nat} {res' res : List V} {os' : List O} {us : List Value} (hs : KeepOk w0.n ks res' os' res s) (hv : AtVs I w g us res) : RelI I0 X w0 I (sub ks g) ⟨res', os'⟩ { tmps := us.toArray, defers := [] } w := by
  have hl := hs.len
  rw [lenO_is, lenL_is] at hl
  obtain ⟨hn1, hn2⟩ := headN_at hs.head
  have hg : ∀ j, j < lenL ks → sub ks g j = g (upN ks (lenO s.o) j) := fun j hj => by
    rw [lenL_is] at hj
    unfold sub
    rw [upN_lt hj]
  have hgs : ∀ {i k : Nat}, ks[i]? = some k → sub ks g i = g k := fun {i k} h => by unfold sub; rw [h]
  have hobj : ∀ {i : Nat} {o : O}, os'[i]? = some o → o ≠ .dead → ∃ k, ks[i]? = some k ∧ s.o[k]? = some (upO ks s.o.length o) := fun {i o} ho hd => by
    have hlt : i < ks.length := by rw [← hl]; exact (List.getElem?_eq_some_iff.1 ho).1
    have hi : ks[i]? = some ks[i] := List.getElem?_eq_getElem hlt
    refine ⟨_, hi, ?_⟩
    have h1 := pick_get (l := s.o) hi
    rw [hs.objs, upOs_get, ho] at h1
    have h2 := Option.some.inj h1
    rw [← lenO_is, h2]
    refine getO_some rfl ?_
    rw [← h2]
    exact upO_live hd (noKl_at hs.nk ho)
  refine ⟨h.im, h.lt, h.fr, h.kp, by show w0.n ≤ os'.length; omega, fun k hk hr => ?_, fun i o ho => ?_, fun i j b hi hj hbi hbj => ?_, fun i hi => ?_, ?_, hd0.symm⟩
  · have := hn2 k hk
    rw [Nat.zero_add] at this
    rw [hgs this]
    exact h.st k hk hr
  · have ho : os'[i]? = some o := ho
    by_cases hd : o = .dead
    · subst hd; exact True.intro
    obtain ⟨k, hi, hso⟩ := hobj ho hd
    have hob := h.obj _ _ hso
    have hgi := hgs hi
    cases o with
    | dead => exact True.intro
    | box cs =>
      obtain ⟨b, us, t, h1, h2, h3, h4, h5, h6⟩ := hob
      exact ⟨b, us, t, by rw [hgi]; exact h1, h2, downL hg (by rw [lenO_is]; exact h3) (lowO_at hs.lowo ho), h4, h5, h6⟩
    | row z e rows =>
      obtain ⟨us, h1, h2, h3, h4⟩ := hob
      exact ⟨us, by rw [hgi]; exact h1, h2, h3, fun b hb => by rw [hgi] at hb; exact h4 b hb⟩
    | mp kt es =>
      obtain ⟨b, l, c, h1, h2⟩ := hob
      exact ⟨b, l, c, by rw [hgi]; exact h1, h2⟩
    | kl js => exact absurd rfl (noKl_at hs.nk ho js)
  · obtain ⟨oi, hoi, hdi⟩ := hi
    obtain ⟨oj, hoj, hdj⟩ := hj
    obtain ⟨ki, hi, hsi⟩ := hobj hoi hdi
    obtain ⟨kj, hj, hsj⟩ := hobj hoj hdj
    rw [hgs hi] at hbi
    rw [hgs hj] at hbj
    have := h.dis _ _ b ⟨_, hsi, upO_live hdi (noKl_at hs.nk hoi)⟩ ⟨_, hsj, upO_live hdj (noKl_at hs.nk hoj)⟩ hbi hbj
    exact nodup_inj (nodupN_is hs.nd) hi (by rw [this]; exact hj)
  · have hi : os'.length ≤ i := hi
    unfold sub
    rw [List.getElem?_eq_none (by omega)]
  · show AtVs I w (sub ks g) us res'
    exact downT hg (by rw [hs.args]; exact hv) hs.low
end
section
variable {I0 : Nat → Nat → Prop} {X : Nat → Prop} {w0 : W0} {I : Nat → Nat → Prop} {g : Nat → Value} {s : S} {a : Act} {w : World}
theorem RelI.freeze (h : RelI I0 X w0 I g s a w) (k : Nat) : ∃ I', RelI I0 X w0 I' g ⟨s.t, frz1 s.o k⟩ a w ∧ ∀ b n, I b n → I' b n := by
  unfold frz1
  split
  · rename_i z e rows hok
    have hk := getO_some hok (by simp)
    rw [setO_is]
    obtain ⟨us, h1, h2, h3, h4⟩ := h.obj k _ hk
    have hlk : live s k := ⟨_, hk, by simp⟩
    have hlt : k < s.o.length := (List.getElem?_eq_some_iff.1 hk).1
    have hgk : gblk (g k) = (g k).ownBlock := own_gblk h1
    have hkp : Keeps I w w := Keeps.refl I w
    refine ⟨fun b n => I b n ∨ ((g k).ownBlock = some b ∧ n ≤ rows.length * (ty e).sz), ⟨fun b n hb => .inl (h.im b n hb), fun b n hb => ?_, h.fr, h.kp, by simpa using h.lo, h.st, fun j o hj => ?_, fun i j b hi hj => h.dis i j b (live_set hk (by simp) hi) (live_set hk (by simp) hj), fun j hj => h.out j (by simpa using hj), h.tmp.mono (fun _ _ h => .inl h) hkp, h.dfr⟩, fun _ _ h => .inl h⟩
    · rcases hb with hb | ⟨hb, _⟩
      · exact h.lt b n hb
      · refine ⟨(h1.lt b hb).2, fun hlt => .inr ?_⟩
        rcases (h4 b hb).2.2 with hM | hM
        · omega
        · exact hM
    · by_cases hjk : k = j
      · subst hjk
        simp only [List.getElem?_set_self hlt] at hj
        injection hj with hj
        subst hj
        refine ⟨us, h1, h2, h3.mono (fun _ _ h => .inl h) hkp, fun b hb => ⟨fun _ => .inr ⟨hb, Nat.le_refl _⟩, fun n hn => ⟨rfl, ?_⟩, (h4 b hb).2.2⟩⟩
        rcases hn with hn | ⟨_, hn⟩
        · exact ((h4 b hb).2.1 n hn).2
        · exact hn
      · simp only [List.getElem?_set_ne hjk] at hj
        by_cases hd : o = .dead
        · subst hd; exact True.intro
        refine (h.obj j o hj).keep (fun _ _ h => .inl h) hkp (fun _ _ => rfl) fun b hb n hn => ?_
        rcases hn with hn | ⟨hn, _⟩
        · exact hn
        · exact absurd (h.dis k j b hlk ⟨o, hj, hd⟩ (by rw [hgk]; exact hn) hb) hjk
  · exact ⟨I, h, fun _ _ h => h⟩
theorem RelI.frz : ∀ (ks : List Nat) {I : Nat → Nat → Prop} {s : S}, RelI I0 X w0 I g s a w → ∃ I', RelI I0 X w0 I' g ⟨s.t, frz ks s.o⟩ a w ∧ ∀ b n, I b n → I' b n
  | [], I, _, h => ⟨I, h, fun _ _ h => h⟩
  | k :: ks, _, _, h => by
    obtain ⟨I', h', h1⟩ := h.freeze k
    obtain ⟨I2, h2, h3⟩ := RelI.frz ks h'
    exact ⟨I2, h2, fun b n hb => h3 b n (h1 b n hb)⟩
theorem Rel.frz (h : Rel I0 X w0 s a w) (ks : List Nat) : Rel I0 X w0 ⟨s.t, Vm.frz ks s.o⟩ a w := by
  obtain ⟨I, g, h⟩ := h
  obtain ⟨I', h', _⟩ := RelI.frz ks h
  exact ⟨I', g, h'⟩
end
/-- A state reads as another one, too: nothing is done. -/
def Ghost (s s' : S) : Prop := ∀ (I0 : Nat → Nat → Prop) (X : Nat → Prop) (w0 : W0) (a : Act) (w : World), Rel I0 X w0 s a w → Rel I0 X w0 s' a w
theorem Ghost.refl (s : S) : Ghost s s := fun _ _ _ _ _ h => h
theorem Ghost.trans {s s' s2 : S} (h : Ghost s s') (h2 : Ghost s' s2) : Ghost s s2 := fun _ _ _ _ _ hr => h2 _ _ _ _ _ (h _ _ _ _ _ hr)
theorem Ghost.frz (s : S) (ks : List Nat) : Ghost s ⟨s.t, Vm.frz ks s.o⟩ := fun _ _ _ _ _ hr => hr.frz ks
/-- A call of f, handed vs beside the objects o: what is handed back, what the objects are then, which rows have been moved: of these K holds. -/
def SoundO (f : Nat) (vs : List V) (o : List O) (K : V → List O → List Nat → Prop) : Prop := fnOk Tryd.prog f = true ∧ ∀ (I0 : Nat → Nat → Prop) (X : Nat → Prop) (w0 : W0) (I : Nat → Nat → Prop) (g : Nat → Value) (t : List V) (a : Act) (w : World) (us : List Value),
  RelI I0 X w0 I g ⟨t, o⟩ a w → AtVs I w g us vs → Calls Tryd.prog f us.toArray w fun e w' => ∃ v x o' ks I' g', e = .returned v ∧ RelI I0 X w0 I' g' ⟨killTs ks t, o'⟩ a w' ∧ AtV I' w' g' v x ∧ K x o' ks
/-- A call of f, handed vs beside the objects o, that turns none of them; what it hands back reads as q. -/
def SoundQ (f : Nat) (vs : List V) (o : List O) (q : List R) : Prop := fnOk Tryd.prog f = true ∧ ∀ (I0 : Nat → Nat → Prop) (X : Nat → Prop) (w0 : W0) (I : Nat → Nat → Prop) (g : Nat → Value) (t : List V) (a : Act) (w : World) (us : List Value),
  RelI I0 X w0 I g ⟨t, o⟩ a w → AtVs I w g us vs → Calls Tryd.prog f us.toArray w fun e w' => ∃ v I' g', e = .returned v ∧ RelI I0 X w0 I' g' ⟨t, o⟩ a w' ∧ AtRes I' w' v q
theorem SoundO.mono {f : Nat} {vs : List V} {o : List O} {K K' : V → List O → List Nat → Prop} (h : SoundO f vs o K) (hK : ∀ x o' ks, K x o' ks → K' x o' ks) : SoundO f vs o K' :=
  ⟨h.1, fun I0 X w0 I g t a w us h1 h2 => (h.2 I0 X w0 I g t a w us h1 h2).mono fun e w' ⟨v, x, o', ks, I', g', e1, e2, e3, e4⟩ => ⟨v, x, o', ks, I', g', e1, e2, e3, hK _ _ _ e4⟩⟩
/-- A loop: states between two rounds, told up to R; a measure falls. -/
def loopR (R : S → S → Prop) (body : S → (X → S → Prop) → Prop) (s : S) (K : X → S → Prop) : Prop := ∃ (γ : Type) (st : γ → S) (inv : γ → Prop) (μ : γ → Nat), (∀ x, inv x → lenO s.o ≤ lenO (st x).o) ∧ (∃ x, R s (st x) ∧ inv x) ∧ ∀ x, inv x → body (st x) (fun e s => roundX (fun s2 => ∃ y, inv y ∧ μ y < μ x ∧ R s2 (st y)) K e s)
/-- The arithmetic, the calls and the loops that are meant. -/
def real : Ar where
  wrap := IntKind.wrap
  add x y := x + y
  sub x y := x - y
  mul x y := x * y
  quo x y := x.tdiv y
  rem x y := x.tmod y
  lt x y := decide (x < y)
  le x y := decide (x ≤ y)
  eq x y := x == y
  nz y k := y ≠ 0 ∧ k
  seq x y := x == y
  slt x y := Op.bytesLess x y
  bytes b := b.toList
  cat x y := x ++ y
  fits x y k := x.size + y.size ≤ 4611686018427387904 ∧ k
  slen b := (b.size : Int)
  sget b n := if 0 ≤ n then (b[n.toNat]?).map fun c => (c.toNat : Int) else none
  ssub b l h := if 0 ≤ l ∧ l ≤ h ∧ h ≤ b.size then some (b.extract l.toNat h.toNat) else none
  nat n m := if 0 ≤ n ∧ n < m then some n.toNat else none
  len rows := (rows.length : Int)
  get rows n := if 0 ≤ n then rows[n.toNat]? else none
  sub2 rows l h := if 0 ≤ l ∧ l ≤ h ∧ h ≤ rows.length then some ((rows.drop l.toNat).take (h.toNat - l.toNat)) else none
  app xs ys := xs ++ ys
  set xs n y := xs.set n.toNat y
  room xs ys k := xs.length + ys.length ≤ 137438953472 ∧ k
  mlook := mget
  mput := mset
  rep n z k := (0 ≤ n ∧ n ≤ 16777216 ∧ n.toNat * z.length ≤ 16777216) ∧ k (List.replicate n.toNat z)
  call f rs K := ∃ q, Spec f rs q ∧ K q
  calld f vs o K := ∃ q, SoundQ f vs o q ∧ K q
  callo f vs s K := SoundO f vs s.o fun v o' ks => K v ⟨killTs ks s.t, o'⟩
  lit _ K := ∃ c, K c
  keep n Q res s := ∃ ks res' os', KeepOk n ks res' os' res s ∧ Q res' os'
  new _ K := ∃ z, K z
  next N s := ∃ s', Ghost s s' ∧ N s'
  loop _ body s K := loopR weak body s K ∨ loopR Eq body s K
theorem sound_spec {f : Nat} {vs : List V} {o : List O} {rs q : List R} (h : Spec f rs q) (hr : toRs o vs = some rs) : SoundO f vs o fun x o' ks => x = resV q ∧ o' = o ∧ ks = [] :=
  ⟨h.1, fun I0 X w0 I g t a w us hrel hv => by
    refine (h.2 I w us (fun b k hb => (hrel.lt b k hb).1) (toRs_at hrel hv hr)).mono ?_
    rintro e w' ⟨v, rfl, hres, hbel⟩
    exact ⟨v, _, o, [], _, g, rfl, hrel.grow hbel (I' := nxt I w w') (fun _ _ h => .inl h) (fun _ _ h => h), resV_at g hres, rfl, rfl, rfl⟩⟩
/-- The same, where rows are handed that are turned no more. -/
theorem sound_frz {f : Nat} {vs : List V} {o : List O} {rs q : List R} (js : List Nat) (h : Spec f rs q) (hr : toRs (frz js o) vs = some rs) : SoundO f vs o fun x o' ks => x = resV q ∧ o' = frz js o ∧ ks = [] :=
  ⟨h.1, fun I0 X w0 I g t a w us hrel hv => by
    obtain ⟨I2, hrel2, hI⟩ := RelI.frz js hrel
    refine (h.2 I2 w us (fun b k hb => (hrel2.lt b k hb).1) (toRs_at hrel2 (hv.mono hI (Keeps.refl _ _)) hr)).mono ?_
    rintro e w' ⟨v, rfl, hres, hbel⟩
    exact ⟨v, _, _, [], _, g, rfl, hrel2.grow hbel (I' := nxt I2 w w') (fun _ _ h => .inl h) (fun _ _ h => h), resV_at g hres, rfl, rfl, rfl⟩⟩
theorem sound_speco {f : Nat} {vs vs' : List V} {os' : List O} {s : S} {ks : List Nat} {Q : List V → List O → Prop} (h : SpecO f vs' os' Q) (hs : SubOk ks vs' os' vs s) : SoundO f vs s.o fun x o' ks' => ks' = ks ∧ ∃ res os2, Q res os2 ∧ x = pkgV (upT ks (lenO s.o) res) ∧ o' = backO ks (upOs ks (lenO s.o) os2) (killOs ks s.o) :=
  ⟨h.1, fun I0 X w0 I g t a w us hrel hv => by
    have hs' : SubOk ks vs' os' vs ⟨t, s.o⟩ := ⟨hs.nd, hs.len, hs.args, hs.objs, hs.al, hs.low, hs.lowo⟩
    refine (h.2 I w (sub ks g) us (sub_at hrel hs' hv)).mono ?_
    rintro e w' ⟨us2, res, os2, I', g1, rfl, hQ, h1⟩
    obtain ⟨g2, h2, h3⟩ := called hrel hs' h1
    exact ⟨_, _, _, ks, I', g2, rfl, h2, h3, rfl, res, os2, hQ, rfl, rfl⟩⟩
end Go.Proofs.YtgedpbpfoaljhaaDoor.Vm

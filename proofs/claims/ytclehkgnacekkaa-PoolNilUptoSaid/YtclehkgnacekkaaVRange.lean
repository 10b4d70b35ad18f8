import Derived.Test.YtclehkgnacekkaaVBack
set_option linter.unusedVariables false
set_option linter.unusedSimpArgs false
namespace Go.Proofs.Ytclehkgnacekkaa.Vm
open Go.RowKit
section
variable {I0 : Nat → Nat → Prop} {X : Nat → Prop} {w0 : W0} {I : Nat → Nat → Prop} {g : Nat → Value} {s : S} {a : Act} {w : World}
/-- Neither cells nor a map. -/
def other : Obj → Bool
  | .cells _ _ _ => false
  | .map _ _ => false
  | _ => true
theorem keeps_turn {L : Nat} {o : Obj} (hI : ∀ k, ¬ I L k) : Keeps I w (w.putObj L o) := fun b k hb i hi => by
  have hne : b ≠ L := fun e => hI k (e ▸ hb)
  show (match (w.putObj L o).heap[b]? with | some (.cells c _ _) => c[i]? | _ => none) = _
  rw [World.putObj_heap_other hne]
  rfl
theorem blk_turn {L : Nat} {y : Obj} (hl : w.heap[L]? = some y) (hy : other y = true) {k : Nat} {o : O} (h : ObjAt X w0 I w g k o) (hd : o ≠ .dead) : gblk (g k) ≠ some L := fun hg => by
  cases o with
  | dead => exact hd rfl
  | box cs =>
    obtain ⟨b, us, t, h1, h2, _⟩ := h
    rw [h1] at hg
    injection hg with hg
    subst hg
    rw [hl] at h2
    rw [Option.some.inj h2] at hy
    cases hy
  | row z e rows =>
    obtain ⟨us, h1, _⟩ := h
    rcases h1.2 with ⟨e0, _⟩ | ⟨g', cap, cur, e0, _, hh, _⟩
    · rw [e0] at hg; cases hg
    · rw [e0] at hg
      injection hg with hg
      have hg : g' = L := hg
      subst hg
      rw [hl] at hh
      rw [Option.some.inj hh] at hy
      cases hy
  | mp kt es =>
    obtain ⟨b, l, c, h1, h2, _⟩ := h
    rw [h1] at hg
    injection hg with hg
    subst hg
    rw [hl] at h2
    rw [Option.some.inj h2] at hy
    cases hy
  | kl ks =>
    obtain ⟨us, h1, _⟩ := h
    rw [h1] at hg
    cases hg
theorem obj_turn {L : Nat} {y y' : Obj} (hl : w.heap[L]? = some y) (hy : other y = true) (hI : ∀ k, ¬ I L k) {k : Nat} {o : O} (h : ObjAt X w0 I w g k o) : ObjAt X w0 I (w.putObj L y') g k o := by
  cases hd : o with
  | dead => exact True.intro
  | _ =>
    rw [hd] at h
    exact h.keep (fun _ _ h => h) (keeps_turn hI) (fun b hb => World.putObj_heap_other fun e => blk_turn hl hy h (by simp) (e ▸ hb)) (fun b hb h' hh => hh)
/-- The loop's own record is turned. -/
theorem RelI.turned (h : RelI I0 X w0 I g s a w) {L : Nat} {y y' : Obj} (hl : w.heap[L]? = some y) (hy : other y = true) (h0 : w0.w.heap.size ≤ L) (hI : ∀ k, ¬ I L k) : RelI I0 X w0 I g s a (w.putObj L y') := by
  have hk := keeps_turn (w := w) (o := y') hI
  refine ⟨h.im, fun b k hb => ⟨?_, (h.lt b k hb).2⟩, ⟨h.fr.os, h.fr.tape, h.fr.output, ?_, fun b hb hX => (World.putObj_heap_other (by omega)).trans (h.fr.block b hb hX)⟩, h.kp.trans fun b k hb i hi => hk b k (h.im b k hb) i hi, h.lo, h.st, fun k o ho => obj_turn hl hy hI (h.obj k o ho), h.dis, h.out, h.tmp.mono (fun _ _ h => h) hk, h.dfr⟩
  · have := (h.lt b k hb).1; simpa using this
  · have := h.fr.size; simpa using this
end
section
variable {I0 : Nat → Nat → Prop} {X : Nat → Prop} {w0 : W0} {I : Nat → Nat → Prop} {g : Nat → Value} {s : S} {a : Act} {w : World}
/-- The record is turned in the world where a call began, too. -/
theorem RelI.turnBoth (h : RelI I0 X w0 I g s a w) {L : Nat} {y y0 y' : Obj} (hl : w.heap[L]? = some y) (hy : other y = true) (hl0 : w0.w.heap[L]? = some y0) (hI : ∀ k, ¬ I L k) : RelI I0 X ⟨w0.w.putObj L y', w0.g, w0.n, w0.d⟩ I g s a (w.putObj L y') := by
  have hk := keeps_turn (w := w) (o := y') hI
  have hk0 := keeps_turn (w := w0.w) (o := y') (I := I0) (fun k hk => hI k (h.im L k hk))
  have hM : ∀ b, Mine X w0 b → Mine X ⟨w0.w.putObj L y', w0.g, w0.n, w0.d⟩ b := fun b hb => by
    rcases hb with hb | hb
    · exact .inl (by simpa using hb)
    · exact .inr hb
  refine ⟨h.im, fun b k hb => ⟨?_, fun hlt => (h.lt b k hb).2 (by simpa using hlt)⟩, ⟨h.fr.os, h.fr.tape, h.fr.output, ?_, fun b hb hX => ?_⟩, ?_, h.lo, h.st, fun k o ho => ?_, h.dis, h.out, h.tmp.mono (fun _ _ h => h) hk, h.dfr⟩
  · have := (h.lt b k hb).1; simpa using this
  · have := h.fr.size; simpa using this
  · by_cases e : b = L
    · subst e
      rw [World.putObj_heap_same (Array.getElem?_eq_some_iff.1 hl).1, World.putObj_heap_same (Array.getElem?_eq_some_iff.1 hl0).1]
    · rw [World.putObj_heap_other e, World.putObj_heap_other e]
      exact h.fr.block b (by simpa using hb) hX
  · intro b k hb i hi
    exact ((hk b k (h.im b k hb) i hi).trans (h.kp b k hb i hi)).trans (hk0 b k hb i hi).symm
  · have := obj_turn (y' := y') hl hy hI (h.obj k o ho)
    cases o with
    | dead => exact True.intro
    | box cs => obtain ⟨b, us, t, h1, h2, h3, h4, h5, h6⟩ := this; exact ⟨b, us, t, h1, h2, h3, h4, h5, hM b h6⟩
    | mp kt es => obtain ⟨b, l, c, h1, h2, h3, h4, h6⟩ := this; exact ⟨b, l, c, h1, h2, h3, h4, hM b h6⟩
    | kl ks => exact this
    | row z e rows => obtain ⟨us, h1, h2, h3, h4⟩ := this; exact ⟨us, h1, h2, h3, fun b hb => ⟨(h4 b hb).1, (h4 b hb).2.1, hM b (h4 b hb).2.2⟩⟩
/-- What a call leaves as it was, but for maps. -/
theorem keepsFrom_of {B : Nat} {g' : Nat → Value} {os : List O} {nn : Nat} {d : List Deferred} {I2 : Nat → Nat → Prop} {g2 : Nat → Value} {s2 : S} {a2 : Act} {w2 : World} (h : ∀ k o, os[k]? = some o → ObjAt X w0 I w g' k o) (hmp : ∀ j kt es b, os[j]? = some (.mp kt es) → gblk (g' j) = some b → b < B)
    (h2 : RelI I (Xof g' os) ⟨w, g', nn, d⟩ I2 g2 s2 a2 w2) : KeepsFrom B w w2 := by
  refine ⟨h2.fr.size, fun k o hk ho hc => (h2.fr.block k (Array.getElem?_eq_some_iff.1 ho).1 fun ⟨j, x, hj, hd, hb⟩ => ?_).trans ho⟩
  have hob := h j x hj
  cases x with
  | dead => exact hd rfl
  | box cs =>
    obtain ⟨b, us, t, h1, h2, _⟩ := hob
    rw [h1] at hb
    injection hb with hb
    subst hb
    rw [ho] at h2
    injection h2 with h2
    rw [h2] at hc
    cases hc
  | row z e rows =>
    obtain ⟨us, h1, _⟩ := hob
    rcases h1.2 with ⟨e0, _⟩ | ⟨g3, cap, cur, e0, _, hh, _⟩
    · rw [e0] at hb; cases hb
    · rw [e0] at hb
      injection hb with hb
      have hb : g3 = k := hb
      subst hb
      rw [ho] at hh
      injection hh with hh
      rw [hh] at hc
      cases hc
  | mp kt es => have := hmp j kt es k hj hb; omega
  | kl ks =>
    obtain ⟨us, h1, _⟩ := hob
    rw [h1] at hb
    cases hb
end
def isMp : O → Bool
  | .mp _ _ => true
  | _ => false
/-- Maps of the second list are maps of the first. -/
def mpSub : List O → List O → Bool
  | _, [] => true
  | [], o :: l => match isMp o with | true => false | false => mpSub [] l
  | x :: k, o :: l => match isMp o with | true => (match isMp x with | true => mpSub k l | false => false) | false => mpSub k l
theorem isMp_at {o : O} (h : isMp o = true) : ∃ kt es, o = .mp kt es := by
  cases o with
  | mp kt es => exact ⟨kt, es, rfl⟩
  | _ => cases h
theorem mpSub_at : ∀ {k l : List O} {j : Nat} {kt : Nat} {es : List (R × R)}, mpSub k l = true → l[j]? = some (.mp kt es) → ∃ kt' es', k[j]? = some (.mp kt' es')
  | _, [], j, _, _, _, h => by simp at h
  | [], o :: l, j, kt, es, hs, h => by
    simp only [mpSub] at hs
    cases ho : isMp o with
    | true => rw [ho] at hs; cases hs
    | false =>
      rw [ho] at hs
      cases j with
      | zero => simp at h; subst h; cases ho
      | succ j =>
        obtain ⟨a, b, hx⟩ := mpSub_at hs (show l[j]? = _ by simpa using h)
        simp at hx
  | x :: k, o :: l, j, kt, es, hs, h => by
    simp only [mpSub] at hs
    cases j with
    | zero =>
      simp at h
      subst h
      cases hx : isMp x with
      | true => obtain ⟨a, b, rfl⟩ := isMp_at hx; exact ⟨a, b, rfl⟩
      | false => rw [hx] at hs; cases hs
    | succ j =>
      have hs' : mpSub k l = true := by
        cases ho : isMp o with
        | true =>
          rw [ho] at hs
          cases hx : isMp x with
          | true => rw [hx] at hs; exact hs
          | false => rw [hx] at hs; cases hs
        | false => rw [ho] at hs; exact hs
      obtain ⟨a, b, hx⟩ := mpSub_at hs' (show l[j]? = _ by simpa using h)
      exact ⟨a, b, by simpa using hx⟩
/-- Where a round is over. -/
def roundE (n : Nat) (o o' : List O) (m : Nat) (s2 : S) : Prop := getO s2.o m = .kl [] ∧ getO s2.o n = .kl [] ∧ takeO n s2.o = o' ∧ lowO n o' = true ∧ mpSub o o' = true
/-- One round: the assignment to the loop's variables, the body. -/
def roundR (asg bdy : Code) (tk : List V) (o o' : List O) : Prop :=
  exec real asg ⟨tk, snocO o (.kl [])⟩ (fun x s1 => x = .normal ∧ mpSub o s1.o = true ∧ exec real bdy ⟨s1.t, snocO s1.o (.kl [])⟩ (fun x s2 => x = .normal ∧ roundE (lenO o) o o' (lenO s1.o) s2))
section
variable {I0 : Nat → Nat → Prop} {X : Nat → Prop} {w0 : W0} {I : Nat → Nat → Prop} {g : Nat → Value} {t : List V} {o : List O} {a : Act} {W : World}
/-- What holds between two rounds. -/
def Between (I0 : Nat → Nat → Prop) (X : Nat → Prop) (w0 : W0) (I : Nat → Nat → Prop) (L B : Nat) (t : List V) (a : Act) (o : List O) (W : World) : Prop :=
  ∃ I' g', (∀ b k, I b k → I' b k) ∧ (∀ k, ¬ I' L k ∧ ¬ I' B k) ∧ RelI I0 X w0 I' g' ⟨t, o⟩ a W ∧ ∀ j kt es b, o[j]? = some (.mp kt es) → gblk (g' j) = some b → b < B
theorem round_in {asg bdy : Code} {ro : Option Nat} {n L B : Nat} {r : Loop} {us : List Value} {tk : List V} {o' : List O} (hA : okCode Try.prog asg = true) (hB : okCode Try.prog bdy = true)
    (h : RelI I0 X w0 I g ⟨t, o⟩ a W) (hL : W.heap[L]? = some (.loop r)) {dd : Option (List Deferred)} (hD : W.heap[B]? = some (.deferred dd)) (hL0 : w0.w.heap.size ≤ L) (hI2 : ∀ k, ¬ I L k ∧ ¬ I B k) (hmp : ∀ j kt es b, o[j]? = some (.mp kt es) → gblk (g j) = some b → b < B) (hv : AtVs I W g us tk) (hx : roundR asg bdy tk o o') :
    asg.wpIn (FW ro) n Try.prog (Exit.then (fun a' W1 => KeepsFrom B W W1 ∧ Keeps I W W1 ∧ ∃ R : World → Prop, Turns L R ∧ R W1 ∧ ∀ W2, R W2 → bdy.wpIn (FW ro) n Try.prog (roundQ B (Keeps I) (Between I0 X w0 I L B t a o') (fun _ _ => False) W2) a' W2) (fun _ _ _ => False)) { tmps := us.toArray, defers := [] } W := by
  obtain ⟨g', hg, hgn, h1⟩ := h.rebase hv
  have hLt : L < W.heap.size := (Array.getElem?_eq_some_iff.1 hL).1
  have hDt : B < W.heap.size := (Array.getElem?_eq_some_iff.1 hD).1
  have hIL : ∀ k, ¬ I L k := fun k => (hI2 k).1
  have hmp1 : ∀ j kt es b, (snocO o (.kl []))[j]? = some (.mp kt es) → gblk (g' j) = some b → b < B := fun j kt es b hj hb => by
    rw [snocO_is] at hj
    have hlt : j < o.length := by
      have := (List.getElem?_eq_some_iff.1 hj).1
      rw [List.length_append, List.length_singleton] at this
      rcases Nat.lt_or_ge j o.length with h | h
      · exact h
      · have : j = o.length := by omega
        subst this
        simp at hj
    rw [List.getElem?_append_left hlt] at hj
    rw [hg j hlt] at hb
    exact hmp j kt es b hj hb
  have hXL : ¬ Xof g' (snocO o (.kl [])) L := fun ⟨j, x, hj, hd, hb⟩ => blk_turn hL rfl (h1.obj j x hj) hd hb
  have hXD : ¬ Xof g' (snocO o (.kl [])) B := fun ⟨j, x, hj, hd, hb⟩ => blk_turn hD rfl (h1.obj j x hj) hd hb
  refine exec_in asg _ _ _ _ _ hA ⟨I, g', h1⟩ hx fun e s1 a' W1 hr hk => ?_
  obtain ⟨he, hms, hx2⟩ := hk
  subst he
  obtain ⟨I1, g1, h1a⟩ := hr
  have hI1L : ∀ k, ¬ I1 L k := fun k hk => by
    rcases (h1a.lt L k hk).2 hLt with h2 | h2
    · exact hIL k h2
    · exact hXL h2
  have hI1D : ∀ k, ¬ I1 B k := fun k hk => by
    rcases (h1a.lt B k hk).2 hDt with h2 | h2
    · exact (hI2 k).2 h2
    · exact hXD h2
  have hmp2 : ∀ j kt es b, s1.o[j]? = some (.mp kt es) → gblk (g1 j) = some b → b < B := fun j kt es b hj hb => by
    obtain ⟨kt', es', ho⟩ := mpSub_at hms hj
    have hlt := (List.getElem?_eq_some_iff.1 ho).1
    obtain ⟨b0, l0, c0, e0, _⟩ := h.obj j _ ho
    have e1 := hg j hlt
    rw [e0] at e1
    have e2 := h1a.st j (Nat.lt_succ_of_lt hlt) (by show isRef (g' j) = true; rw [e1]; rfl)
    have e2 : g1 j = g' j := e2
    rw [e2, e1] at hb
    exact hmp j kt' es' b ho (by rw [e0]; exact hb)
  refine ⟨keepsFrom_of h1.obj hmp1 h1a, h1a.kp, fun W2 => ∃ (Wb : World) (rb r2 : Loop), RelI I0 X w0 I g ⟨t, o⟩ a Wb ∧ Wb.heap[L]? = some (.loop rb) ∧ W2.heap[L]? = some (.loop r2) ∧ (B ≠ L → W2.heap[B]? = some (.deferred dd)) ∧ RelI I (Xof g' (snocO o (.kl []))) ⟨Wb, g', o.length + 1, []⟩ I1 g1 s1 a' W2, ?_, ?_, ?_⟩
  · rintro W2 r3 r' ⟨Wb, rb, r2, b1, b2, b3, bd, b4⟩ hl
    exact ⟨Wb.putObj L (.loop r'), r', r', b1.turned b2 rfl hL0 hIL, World.putObj_heap_same (Array.getElem?_eq_some_iff.1 b2).1, World.putObj_heap_same (Array.getElem?_eq_some_iff.1 b3).1, fun hne => (World.putObj_heap_other hne).trans (bd hne), b4.turnBoth hl rfl b2 hI1L⟩
  · exact ⟨W, r, r, h, hL, (h1a.fr.block L hLt hXL).trans hL, fun _ => (h1a.fr.block B hDt hXD).trans hD, h1a⟩
  · rintro W2 ⟨Wb, rb, r2, b1, b2, b3, bd, b4⟩
    have hne : B ≠ L := fun e => by rw [e, hL] at hD; cases hD
    have bd := bd hne
    obtain ⟨g3, hg3, hgn3, h5⟩ := b4.rebase b4.tmp
    have ea : ({ tmps := a'.tmps.toList.toArray, defers := [] } : Act) = a' := by
      have := b4.dfr
      cases a'
      simp only at this
      subst this
      rfl
    rw [ea] at h5
    have hmp3 : ∀ j kt es b, (snocO s1.o (.kl []))[j]? = some (.mp kt es) → gblk (g3 j) = some b → b < B := fun j kt es b hj hb => by
      rw [snocO_is] at hj
      have hlt : j < s1.o.length := by
        have := (List.getElem?_eq_some_iff.1 hj).1
        rw [List.length_append, List.length_singleton] at this
        rcases Nat.lt_or_ge j s1.o.length with h | h
        · exact h
        · have : j = s1.o.length := by omega
          subst this
          simp at hj
      rw [List.getElem?_append_left hlt] at hj
      rw [hg3 j hlt] at hb
      exact hmp2 j kt es b hj hb
    refine exec_in bdy _ _ _ _ _ hB ⟨I1, g3, h5⟩ hx2 fun e s2 a3 W3 hr hk => ?_
    obtain ⟨he, k1, k2, k3, k4, k5⟩ := hk
    subst he
    obtain ⟨I2, g2, h6⟩ := hr
    have hlo : o.length + 1 ≤ s1.o.length := h1a.lo
    have k1 := getO_some k1 (by simp)
    have k2 := getO_some k2 (by simp)
    rw [lenO_is] at k1 k2 k3 k4
    rw [takeO_is] at k3
    obtain ⟨_, h7⟩ := b4.unbase hg3 hgn3 h6 k1
    obtain ⟨hcut, h8⟩ := b1.unbase hg hgn h7 (ks := []) (by rw [List.getElem?_set_ne (by show s1.o.length ≠ o.length; omega)]; exact k2)
    have e3 : ((s2.o.set s1.o.length .dead).set o.length .dead).take o.length = o' := by
      rw [List.take_set_of_le (Nat.le_refl _), List.take_set_of_le (by omega), k3]
    have hl2 : o.length < s2.o.length := (List.getElem?_eq_some_iff.1 k2).1
    have h9 := h8.trim (n := o.length) h.lo (by show o.length ≤ ((s2.o.set _ _).set _ _).length; rw [List.length_set, List.length_set]; omega) hcut (by show lowO _ (((s2.o.set _ _).set _ _).take _) = true; rw [e3]; exact k4)
    have e4 : (⟨killTs [] t, ((s2.o.set s1.o.length .dead).set o.length .dead).take o.length⟩ : S) = ⟨t, o'⟩ := by rw [e3]; rfl
    have h9' : RelI I0 X w0 I2 (cutG o.length g2) ⟨t, o'⟩ a W3 := by rw [← e4]; exact h9
    refine ⟨keepsFrom_of h5.obj hmp3 h6, fun b k hb => h6.kp b k (h1a.im b k hb), I2, cutG o.length g2, h7.im, fun k => ?_, h9', fun j kt es b hj hb => ?_⟩
    · constructor
      · intro hk
        rcases (h6.lt L k hk).2 (Array.getElem?_eq_some_iff.1 b3).1 with h2 | ⟨j, x, hj, hd, hb⟩
        · exact hI1L k h2
        · exact blk_turn b3 rfl (h5.obj j x hj) hd hb
      · intro hk
        rcases (h6.lt B k hk).2 (Array.getElem?_eq_some_iff.1 bd).1 with h2 | ⟨j, x, hj, hd, hb⟩
        · exact hI1D k h2
        · exact blk_turn bd rfl (h5.obj j x hj) hd hb
    · obtain ⟨kt', es', ho⟩ := mpSub_at k5 hj
      have hlt := (List.getElem?_eq_some_iff.1 ho).1
      obtain ⟨b0, l0, c0, e0, _⟩ := h.obj j _ ho
      have e1 := hg j hlt
      rw [e0] at e1
      have e2 : g2 j = g' j := h7.st j (Nat.lt_succ_of_lt hlt) (by show isRef (g' j) = true; rw [e1]; rfl)
      rw [show cutG o.length g2 j = g2 j from if_pos hlt, e2, e1] at hb
      exact hmp j kt' es' b ho (by rw [e0]; exact hb)
end
theorem live_dead {s : S} {k i : Nat} (h : live ⟨s.t, s.o.set k .dead⟩ i) : live s i := by
  obtain ⟨o, ho, hd⟩ := h
  by_cases e : k = i
  · subst e
    rw [List.getElem?_set] at ho
    split at ho
    · split at ho
      · exact absurd (Option.some.inj ho).symm hd
      · cases ho
    · exact absurd rfl ‹¬_›
  · exact ⟨o, by simpa [List.getElem?_set_ne e] using ho, hd⟩
section
variable {I0 : Nat → Nat → Prop} {X : Nat → Prop} {w0 : W0} {I : Nat → Nat → Prop} {g : Nat → Value} {s : S} {a : Act} {w : World}
/-- A box that nobody writes any more. -/
theorem RelI.frzBox (h : RelI I0 X w0 I g s a w) {k : Nat} {cs : List V} (hk : s.o[k]? = some (.box cs)) : ∃ b us t, g k = .pointer (some ⟨b, 0, none⟩) ∧ w.heap[b]? = some (.cells us.toArray t (0, 0)) ∧ AtVs I w g us cs ∧
    RelI I0 X w0 (fun b' n => I b' n ∨ (b' = b ∧ n ≤ us.length)) g ⟨s.t, s.o.set k .dead⟩ a w := by
  obtain ⟨b, us, t, h1, h2, h3, h4, h5, h6⟩ := h.obj k _ hk
  have hlk : live s k := ⟨_, hk, by simp⟩
  have hgk : gblk (g k) = some b := by rw [h1]; rfl
  have hkp : Keeps I w w := Keeps.refl I w
  refine ⟨b, us, t, h1, h2, h3, fun b n hb => .inl (h.im b n hb), fun b' n hb => ?_, h.fr, h.kp, by simpa using h.lo, h.st, fun j o hj => ?_, fun i j b hi hj => h.dis i j b (live_dead hi) (live_dead hj), fun j hj => h.out j (by simpa using hj), h.tmp.mono (fun _ _ h => .inl h) hkp, h.dfr⟩
  · rcases hb with hb | ⟨rfl, _⟩
    · exact h.lt b' n hb
    · refine ⟨(Array.getElem?_eq_some_iff.1 h2).1, fun hlt => .inr ?_⟩
      rcases h6 with hM | hM
      · omega
      · exact hM
  · by_cases hjk : k = j
    · subst hjk
      have hlt : k < s.o.length := (List.getElem?_eq_some_iff.1 hk).1
      simp only [List.getElem?_set_self hlt] at hj
      injection hj with hj
      subst hj
      exact True.intro
    · simp only [List.getElem?_set_ne hjk] at hj
      by_cases hd : o = .dead
      · subst hd; exact True.intro
      refine (h.obj j o hj).keep (fun _ _ h => .inl h) hkp (fun _ _ => rfl) fun b' hb n hn => ?_
      rcases hn with hn | ⟨rfl, _⟩
      · exact hn
      · exact absurd (h.dis k j b' hlk ⟨o, hj, hd⟩ hgk hb) hjk
end
section
variable {I0 : Nat → Nat → Prop} {X : Nat → Prop} {w0 : W0} {I : Nat → Nat → Prop} {g : Nat → Value} {t : List V} {a : Act} {w : World}
theorem Between.turned {L B : Nat} {o : List O} (h0 : w0.w.heap.size ≤ L) : Turns L (Between I0 X w0 I L B t a o) := by
  rintro W r r' ⟨I', g', h1, h2, h3, h4⟩ hl
  exact ⟨I', g', h1, h2, h3.turned hl rfl h0 (fun k => (h2 k).1), h4⟩
/-- A range over a function that hands the k-th round u1 k and u2 k. -/
theorem range_ok {asg bdy : Code} {n : Nat} {g0 : Operand} {p1 p2 gf N : Nat} {lb : Array Value} {u1 u2 : Nat → Value} {Kp : World → World → Prop} {st : Nat → List O} {tk : Nat → List V} {Q : Exit → Act → World → Prop} (hA : okCode Try.prog asg = true) (hB : okCode Try.prog bdy = true)
    (h : RelI I0 X w0 I g ⟨t, st 0⟩ a w) (h1 : 1 ≤ n) (hg : a.eval g0 = .func (.func gf) #[] lb) (eg : ∀ args w, (callFunc gf args).run Try.prog w = .ok (.enter gf args) w)
    (hseq : SeqN (FW none) (n - 1) Try.prog gf lb (fun k => #[u1 k, u2 k]) Kp N w) (hKt : ∀ {A B C : World}, Kp A B → Kp B C → Kp A C) (hKb : ∀ (W : World) (l : Nat) (o o' : Obj), w.heap.size ≤ l → W.heap[l]? = some o → o.isCells = false → o.isWalk = false → Kp W (W.putObj l o')) (hKp : ∀ W W', Keeps I W W' → Kp W W')
    (hv : ∀ k W I' g', k < N → (∀ b j, I b j → I' b j) → Keeps I w W → AtVs I' W g' a.tmps.toList t → AtVs I' W g' ((a.tmps.setIfInBounds p1 (u1 k)).setIfInBounds p2 (u2 k)).toList (tk k))
    (hx : ∀ k, k < N → roundR asg bdy (tk k) (st k) (st (k + 1)))
    (hQ : ∀ (D : Nat) (W : World), D = w.heap.size → Between I0 X w0 I (w.heap.size + 1) w.heap.size t a (st N) W → W.heap[D]? = some (.deferred (some [])) → Q .normal { a with defers := { target := .collected D, args := #[] } :: a.defers } W) :
    (Code.rangeFunc g0 #[p1, p2] asg bdy).wpIn (FW none) n Try.prog Q a w := by
  obtain ⟨L, hL⟩ : ∃ L, L = w.heap.size + 1 := ⟨_, rfl⟩
  have hL0 : w0.w.heap.size ≤ L := by have := h.fr.size; omega
  have hIL : ∀ k, ¬ I L k ∧ ¬ I w.heap.size k := fun k => ⟨fun hk => by have := (h.lt L k hk).1; omega, fun hk => by have := (h.lt _ k hk).1; omega⟩
  have hIL1 : ∀ k, ¬ I L k := fun k => (hIL k).1
  refine range_k (F := FW none) rfl h1 hg trivial eg hseq hKt hKb (fun _ => rfl) (fun k W => Between I0 X w0 I L w.heap.size t a (st k) W ∧ Keeps I w W) (fun _ _ => False) (fun k W r r' hw hl => ?_) (fun _ _ _ _ hw _ => hw) (fun r => ?_) (fun l k W hk hw hl => ?_) (fun D W hD hw hd => ?_) (fun _ _ _ _ hw _ => hw.elim)
  · rw [← hL] at hl ⊢
    exact ⟨Between.turned hL0 W r r' hw.1 hl, hw.2.trans (keeps_turn hIL1)⟩
  · have hbel : Below w.heap.size w ((w.alloc (.deferred (some []))).alloc (.loop r)) := ((Below.refl _ w).alloc (Nat.le_refl _) _).alloc (by simp) _
    refine ⟨⟨I, g, fun _ _ h => h, hIL, h.grow hbel (fun _ _ h => h) (fun _ _ h => .inl h), fun j kt es b hj hb => ((h.obj j _ hj).blk (by simp) b hb).1⟩, fun b j hb i _ => hbel.cell (p := ⟨b, i, none⟩) (h.lt b j hb).1⟩
  · obtain ⟨⟨I', g', h2, h3, h4, h5⟩, hk2⟩ := hw
    obtain ⟨⟨r, hl⟩, hdd⟩ := hl
    rw [← hL] at hl
    have key := round_in (ro := some l) (n := n - 1 - 1) hA hB h4 hl hdd hL0 h3 h5 (hv k W I' g' hk h2 hk2 h4.tmp) (hx k hk)
    have ez : (#[p1, p2].zip #[u1 k, u2 k]).foldl (fun t (x : Tmp × Value) => match x with | (p, v) => t.setIfInBounds p v) a.tmps = (a.tmps.setIfInBounds p1 (u1 k)).setIfInBounds p2 (u2 k) := by simp
    rw [Array.toArray_toList, ← ez] at key
    refine wpIn_mono key fun e a' W1 he => ?_
    cases e with
    | normal =>
      obtain ⟨e1, e2, R, e3, e4, e5⟩ := he
      have hkI : ∀ {A B : World}, Keeps I' A B → Keeps I A B := fun h b j hb => h b j (h2 b j hb)
      refine ⟨e1, hKp _ _ (hkI e2), fun W2 => R W2 ∧ Keeps I w W2, ?_, ⟨e4, hk2.trans (hkI e2)⟩, ?_⟩
      · rintro W2 r1 r2 ⟨f1, f2⟩ hl2
        rw [← hL] at hl2 ⊢
        exact ⟨e3 W2 r1 r2 f1 hl2, f2.trans (keeps_turn hIL1)⟩
      · rintro W2 ⟨f1, f2⟩
        refine wpIn_mono (e5 W2 f1) fun e a3 W3 he => ?_
        cases e with
        | normal =>
          obtain ⟨q1, q2, I2, g2, q3, q4, q5, q6⟩ := he
          exact ⟨q1, hKp _ _ (hkI q2), ⟨I2, g2, fun b j hb => q3 b j (h2 b j hb), q4, q5, q6⟩, f2.trans (hkI q2)⟩
        | ret => exact he
        | exit i => exact he
        | goto t => exact he
        | panic c => exact he
        | outgrown => exact he
    | ret => exact he.elim
    | exit i => exact he.elim
    | goto t => exact he.elim
    | panic c => exact he.elim
    | outgrown => exact he.elim
  · rw [hL] at hw
    exact hQ D W hD hw.1 hd
end
section
variable {I0 : Nat → Nat → Prop} {X : Nat → Prop} {w0 : W0} {I : Nat → Nat → Prop} {g : Nat → Value} {s : S} {a : Act} {w : World}
/-- The activation bears other deferred calls. -/
theorem RelI.mark (h : RelI I0 X w0 I g s a w) (d : List Deferred) : RelI I0 X ⟨w0.w, w0.g, w0.n, d⟩ I g s { a with defers := d } w :=
  ⟨h.im, h.lt, h.fr, h.kp, h.lo, h.st, h.obj, h.dis, h.out, h.tmp, rfl⟩
/-- A block that is no cells, no map, and not in I is turned. -/
theorem keeps_put {D : Nat} {o : Obj} (hI : ∀ k, ¬ I D k) : Keeps I w (w.putObj D o) := fun b k hb i hi => by
  have hne : b ≠ D := fun e => hI k (e ▸ hb)
  show (match (w.putObj D o).heap[b]? with | some (.cells c _ _) => c[i]? | _ => none) = _
  rw [World.putObj_heap_other hne]
  rfl
end
/-- A function's end behind a range. -/
def endK (l : List ResultVar) (q : List R) (m : Nat) : Vm.X → S → Prop
  | .exit _, _ => False
  | _, s => getO s.o m = .kl [] ∧ resS real s l q
theorem ends_spec {c2 : Code} {n D : Nat} {fn : Func} {q : List R} {w : World} {I IN : Nat → Nat → Prop} {gN : Nat → Value} {t : List V} {oN : List O} {a : Act} {W : World} (hc : okCode Try.prog c2 = true) (hr : okRes fn.results.toList = true)
    (h : RelI I (fun _ => False) ⟨w, fun _ => .nilFunc, 0, []⟩ IN gN ⟨t, oN⟩ a W) (hID : ∀ k, ¬ IN D k) (hD0 : w.heap.size ≤ D) (hD : W.heap[D]? = some (.deferred (some [])))
    (hx : exec real c2 ⟨t, snocO oN (.kl [])⟩ (fun x s => endK fn.results.toList q (lenO oN) x s)) :
    c2.wpIn (FW none) n Try.prog (bodyPostM (FW none) n Try.prog fn (fun e w' => ∃ v, e = .returned v ∧ AtRes (nxt I w w') w' v q ∧ Below w.heap.size w w')) { a with defers := { target := .collected D, args := #[] } :: a.defers } W := by
  obtain ⟨g', hg, hgn, h1⟩ := h.rebase h.tmp
  have hDt : D < W.heap.size := (Array.getElem?_eq_some_iff.1 hD).1
  have hXD : ¬ Xof g' (snocO oN (.kl [])) D := fun ⟨j, x, hj, hd, hb⟩ => blk_turn hD rfl (h1.obj j x hj) hd hb
  have h2 := h1.mark [{ target := .collected D, args := #[] }]
  have ea : ({ ({ tmps := a.tmps.toList.toArray, defers := [] } : Act) with defers := [{ target := .collected D, args := #[] }] } : Act) = { a with defers := { target := .collected D, args := #[] } :: a.defers } := by
    have := h.dfr
    cases a
    simp only at this
    subst this
    rfl
  rw [ea] at h2
  refine exec_in c2 _ _ _ _ _ hc ⟨IN, g', h2⟩ hx fun e s2 a2 W2 hrel hk => ?_
  obtain ⟨I2, g2, h3⟩ := hrel
  have hD2 : W2.heap[D]? = some (.deferred (some [])) := (h3.fr.block D hDt hXD).trans hD
  have hI2D : ∀ k, ¬ I2 D k := fun k hk => by
    rcases (h3.lt D k hk).2 hDt with h4 | h4
    · exact hID k h4
    · exact hXD h4
  have key : getO s2.o (lenO oN) = .kl [] ∧ resS real s2 fn.results.toList q → LeavesInM (FW none) n Try.prog fn a2.tmps (fun e w' => ∃ v, e = .returned v ∧ AtRes (nxt I w w') w' v q ∧ Below w.heap.size w w') a2.defers .returning W2 := fun ⟨hkl, hres⟩ => by
    rw [h3.dfr]
    have h4 := h3.turnBoth (y' := .deferred none) hD2 rfl hD hI2D
    have h5 := h.turned (y' := .deferred none) hD rfl hD0 hID
    have h6 := h4.mark []
    have hkl := getO_some hkl (by simp)
    rw [lenO_is] at hkl
    obtain ⟨_, h7⟩ := h5.unbase hg hgn h6 hkl
    obtain ⟨v, r1, r2⟩ := results_at h4 hr hres
    refine ⟨by simp, .inl ⟨_, _, rfl, run_takeDeferred hD2, ?_⟩⟩
    refine ⟨v, r1, v, rfl, ?_, ⟨h7.fr.os, h7.fr.tape, h7.fr.output, h7.fr.size, fun b hb => h7.fr.block b hb (fun hx => hx)⟩⟩
    have hnx : ∀ b k, I2 b k → nxt I w _ b k := fun b k hbk => by
      obtain ⟨h3, h4⟩ := h7.lt b k hbk
      rcases Nat.lt_or_ge b w.heap.size with hlt | hge
      · exact .inl ((h4 hlt).resolve_right (fun hx => hx))
      · exact .inr ⟨hge, h3⟩
    match q, r2 with
    | [], ⟨us, e, hu⟩ => exact ⟨us, e, hu.mono hnx (Keeps.refl _ _)⟩
    | [r], hu => exact AtR.mono hnx (Keeps.refl _ _) hu
    | r :: r' :: q, ⟨us, e, hu⟩ => exact ⟨us, e, hu.mono hnx (Keeps.refl _ _)⟩
  cases e with
  | normal => exact key hk
  | exit i => exact hk.elim
  | ret => exact key hk
/-- A function whose one range over a function stands behind three pieces of code: the plumbing. -/
theorem spec_range {f : Nat} {fn : Func} {c0 c1 cp c2 asg bdy : Code} {bi : Nat} {g0 : Operand} {ps : Array Tmp} {rs q : List R} {Pre : S → Prop} (hf : Try.prog.funcs[f]? = some fn)
    (hb : fn.body = some (.seq c0 (.seq c1 (.seq (.seq cp (.block bi (.rangeFunc g0 ps asg bdy))) c2)))) (hn : (fn.name != "runtime.NumGoroutine") = true) (h0 : okCode Try.prog c0 = true) (h1 : okCode Try.prog c1 = true) (hp : okCode Try.prog cp = true)
    (hpre : exec real (.seq c0 (.seq c1 cp)) (start rs (fn.ntmps - lenL rs)) (fun x s => x = .normal ∧ Pre s))
    (hmid : ∀ (I I' : Nat → Nat → Prop) (g : Nat → Value) (w W : World) (s : S) (a : Act), Pre s → RelI I (fun _ => False) ⟨w, fun _ => .nilFunc, 0, []⟩ I' g s a W →
      (Code.rangeFunc g0 ps asg bdy).wpIn (FW none) 3 Try.prog (Exit.inBlock bi (Exit.then (c2.wpIn (FW none) 3 Try.prog (bodyPostM (FW none) 3 Try.prog fn (fun e w' => ∃ v, e = .returned v ∧ AtRes (nxt I w w') w' v q ∧ Below w.heap.size w w')))
        (bodyPostM (FW none) 3 Try.prog fn (fun e w' => ∃ v, e = .returned v ∧ AtRes (nxt I w w') w' v q ∧ Below w.heap.size w w')))) a W) : Spec f rs q := by
  refine ⟨by unfold fnOk; rw [hf]; simp only [hn, hb]; rfl, ?_⟩
  intro I w args hI hat
  have hlen := hat.len
  have hsz : args.toArray.size = lenL rs := by rw [lenL_is]; simp [hlen]
  refine callsIn_wide.1 (callsIn_of_wp_marks (n := 3) hf hb trivial ?_)
  rw [hsz]
  have hst := start_at hI hat (fn.ntmps - lenL rs)
  refine wpIn_seq (exec_in (ro := none) c0 _ _ _ _ _ h0 ⟨I, _, hst⟩ hpre fun e s1 a1 W1 hr1 hk1 => ?_)
  cases e with
  | normal =>
    obtain ⟨z1, hg1, hk1⟩ := hk1
    refine wpIn_seq (exec_in (ro := none) c1 _ _ _ _ _ h1 (hg1 _ _ _ _ _ hr1) hk1 fun e s2 a2 W2 hr2 hk2 => ?_)
    cases e with
    | normal =>
      obtain ⟨z2, hg2, hk2⟩ := hk2
      refine wpIn_seq (wpIn_seq (exec_in (ro := none) cp _ _ _ _ _ hp (hg2 _ _ _ _ _ hr2) hk2 fun e s3 a3 W3 hr3 hk3 => ?_))
      obtain ⟨he, hP⟩ := hk3
      subst he
      obtain ⟨I', g', h3⟩ := hr3
      exact wpIn_block (hmid I I' g' w W3 s3 a3 hP h3)
    | exit i => exact absurd hk2.1 (by simp)
    | ret => exact absurd hk2.1 (by simp)
  | exit i => exact absurd hk1.1 (by simp)
  | ret => exact absurd hk1.1 (by simp)
end Go.Proofs.Ytclehkgnacekkaa.Vm

/- A range over a function, told round by round: the k-th round is handed the k-th values. -/
import Derived.RangeFuncNested
import Derived.RangeFuncBound
import Derived.RangeFuncCalls
import Derived.RangeFuncLeaves
import Derived.RangeFuncFrom
import Derived.Test.YtclehkgnacekkaaVConc
set_option linter.unusedVariables false
set_option linter.unusedSimpArgs false
namespace Go.Proofs.Ytclehkgnacekkaa.Vm
open Go.RowKit Go.Proofs
variable {F : Fence} {n : Nat} {P : Program} {w : World}
/-- How a round may end. -/
def roundQ (B : Nat) (Kp : World → World → Prop) (I : World → Prop) (Ix : Code → World → Prop) (W : World) : Exit → Act → World → Prop
  | .normal, _, W' => KeepsFrom B W W' ∧ Kp W W' ∧ I W'
  | .ret, _, W' => KeepsFrom B W W' ∧ Ix .ret W'
  | .exit i, _, W' => KeepsFrom B W W' ∧ Ix (.exit i) W'
  | _, _, _ => False
/-- What an iterator owes: N rounds at most, the k-th at encs k. -/
def SeqN (F : Fence) (n : Nat) (P : Program) (gf : Nat) (lb : Array Value) (encs : Nat → Array Value) (Kp : World → World → Prop) (N : Nat) (w : World) : Prop :=
  ∀ (l : Nat) (J : Nat → World → Prop) (Jx : Unit → World → Prop) (W : World), Below w.heap.size w W →
    (∀ k W1, k < N → J k W1 → YieldAt F (n - 1) P l (encs k) W1 fun e W' => (e = .returned (.bool true) ∧ J (k + 1) W' ∧ Kp W1 W') ∨ (e = .returned (.bool false) ∧ Jx () W')) →
    J 0 W → CallsIn F n P gf (#[.func (.yield l) #[] #[]] ++ lb) W fun e W' => (∃ v, e = .returned v) ∧ (J N W' ∨ Jx () W')
/-- What abides the turns of the loop's own record. -/
def Turns (L : Nat) (p : World → Prop) : Prop := ∀ (W : World) (r r' : Loop), p W → W.heap[L]? = some (.loop r) → p (W.putObj L (.loop r'))
theorem range_k {g : Operand} {ps : Array Tmp} {assign body : Code} {Q : Exit → Act → World → Prop} {a : Act}
    (hro : F.round = none) (h1 : 1 ≤ n) {gf : Nat} {lb : Array Value} (hg : a.eval g = .func (.func gf) #[] lb) (hFg : F.fn gf) (eg : ∀ args w, (callFunc gf args).run P w = .ok (.enter gf args) w)
    {encs : Nat → Array Value} {Kp : World → World → Prop} {N : Nat} (hseq : SeqN F (n - 1) P gf lb encs Kp N w)
    (hKt : ∀ {A B C : World}, Kp A B → Kp B C → Kp A C) (hKb : ∀ (W : World) (l : Nat) (o o' : Obj), w.heap.size ≤ l → W.heap[l]? = some o → o.isCells = false → o.isWalk = false → Kp W (W.putObj l o')) (hps : ∀ k, (encs k).size = ps.size)
    (I : Nat → World → Prop) (Ix : Code → World → Prop) (hI : ∀ k, Turns (w.heap.size + 1) (I k)) (hIx : ∀ c, Turns (w.heap.size + 1) (Ix c)) (h0 : ∀ r : Loop, I 0 ((w.alloc (.deferred (some []))).alloc (.loop r)))
    (hround : ∀ (l k : Nat) (W : World), k < N → I k W → ((∃ r : Loop, W.heap[w.heap.size + 1]? = some (.loop r)) ∧ W.heap[w.heap.size]? = some (.deferred (some []))) → assign.wpIn (F.inRound l) (n - 1 - 1) P (Exit.then (fun a' W1 => KeepsFrom w.heap.size W W1 ∧ Kp W W1 ∧ ∃ R : World → Prop, Turns (w.heap.size + 1) R ∧ R W1 ∧ ∀ W2, R W2 → body.wpIn (F.inRound l) (n - 1 - 1) P (roundQ w.heap.size Kp (I (k + 1)) Ix W2) a' W2) (fun _ _ _ => False))
      { tmps := (ps.zip (encs k)).foldl (fun t (p, v) => t.setIfInBounds p v) a.tmps, defers := [] } W)
    (hdone : ∀ (D : Nat) (W : World), D = w.heap.size → I N W → W.heap[D]? = some (.deferred (some [])) → Q .normal { a with defers := { target := .collected D, args := #[] } :: a.defers } W)
    (hstop : ∀ (D : Nat) (c : Code) (W : World), w.heap.size ≤ D → Ix c W → W.heap[D]? = some (.deferred (some [])) → c.wpIn F n P Q { a with defers := { target := .collected D, args := #[] } :: a.defers } W) :
    (Code.rangeFunc g ps assign body).wpIn F n P Q a w := by
  refine wpIn_rangeFunc fun fn hfn => ?_
  rw [hro]
  -- the loop's record stands at L, the block for the rounds' deferred calls at D
  obtain ⟨D, hD⟩ : ∃ D, D = w.heap.size := ⟨_, rfl⟩
  obtain ⟨rec, hrec⟩ : ∃ rec : LoopState → Option Code → Loop, rec = fun st pe => { state := st, pending := pe, fn, tmps := a.tmps, params := ps, assign, body, defers := w.heap.size } := ⟨_, rfl⟩
  obtain ⟨W1, hW1⟩ : ∃ W1, W1 = (w.alloc (.deferred (some []))).alloc (.loop (rec .ready none)) := ⟨_, rfl⟩
  have hs1 : W1.heap.size = D + 1 + 1 := by rw [hW1, hD]; simp
  have hbel : Below D w W1 := by rw [hW1, hD]; exact ((Below.refl _ w).alloc (Nat.le_refl _) _).alloc (by simp) _
  have hL1 : W1.heap[D + 1]? = some (.loop (rec .ready none)) := by
    have := World.alloc_heap_new (w.alloc (.deferred (some []))) (.loop (rec .ready none))
    rw [World.size_alloc, ← hD, ← hW1] at this; exact this
  have hD1 : W1.heap[D]? = some (.deferred (some [])) := by
    rw [hW1, hD]; exact (Below.heap_alloc _ _ _ (by simp)).trans (World.alloc_heap_new w _)
  have hI1 : I 0 W1 := by rw [hW1]; exact h0 _
  refine ⟨D + 1, [{ target := .collected D, args := #[] }], W1, { target := .fn (.func gf) lb, args := #[.func (.yield (D + 1)) #[] #[]] }, W1, gf, #[.func (.yield (D + 1)) #[] #[]] ++ lb, W1,
    by rw [hW1, hrec, hD]; exact run_enterLoop_outer _ _ _ _ _, by simp only [resolve, hg]; simp [go_sem], fun f' hf => by simp [Target.leads] at hf; subst hf; exact hFg, by simp [invoke, go_sem, eg], fun _ => h1, ?_⟩
  refine (hseq (D + 1) (fun k W => I k W ∧ W.heap[D + 1]? = some (.loop (rec .ready none)) ∧ W.heap[D]? = some (.deferred (some [])))
    (fun _ W => ∃ c, Ix c W ∧ W.heap[D + 1]? = some (.loop (rec .done (some c))) ∧ W.heap[D]? = some (.deferred (some []))) W1 (hD ▸ hbel) ?_ ⟨hI1, hL1, hD1⟩).mono ?_
  · rintro k W hk ⟨hi, hl, hd⟩
    have hy := run_yield (P := P) (args := encs k) hl (by rw [hrec]; exact hps k)
    rw [hrec] at hy
    refine ⟨fn, _, assign, body, hy, roundIn_of_wpIn hfn (wpIn_mono (hround (D + 1) k W hk hi ⟨⟨_, hD ▸ hl⟩, hD ▸ hd⟩) fun e a' Wa h => ?_)⟩
    cases e with
    | normal =>
      obtain ⟨ha1, ha2, R, hR, hr1, hb⟩ := h
      have hl2 := ha1.same _ _ (by omega) hl rfl
      have hd2 := ha1.same _ _ (by omega) hd rfl
      refine ⟨_, run_beginRound hl2 (by rw [hrec]), ?_⟩
      obtain ⟨W2, hW2⟩ : ∃ W2, W2 = Wa.putObj (D + 1) (.loop { rec .ready none with state := .busy }) := ⟨_, rfl⟩
      have hl3 : W2.heap[D + 1]? = some (.loop { rec .ready none with state := .busy }) := by rw [hW2]; exact World.putObj_heap_same (Array.getElem?_eq_some_iff.1 hl2).1
      have hd3 : W2.heap[D]? = some (.deferred (some [])) := by rw [hW2]; exact (World.putObj_heap_other (by omega)).trans hd2
      have hk3 : Kp Wa W2 := by rw [hW2]; exact hKb _ _ _ _ (by omega) hl2 rfl rfl
      have hr2 : R W2 := by rw [hW2]; rw [hD] at hl2 ⊢; exact hR _ _ _ hr1 hl2
      rw [← hW2]
      refine wpIn_mono (hb W2 hr2) fun e a3 W3 hp => ?_
      have fin : ∀ jump : Option Code, KeepsFrom w.heap.size W2 W3 → ∃ W4, W4 = W3.putObj (D + 1) (.loop (rec (if jump.isNone then .ready else .done) jump)) ∧ (Instr.endRound (D + 1) jump).run P W3 = .ok (.bool jump.isNone) W4 ∧
          W3.heap[D + 1]? = some (.loop { rec .ready none with state := .busy }) ∧ W4.heap[D + 1]? = some (.loop (rec (if jump.isNone then .ready else .done) jump)) ∧ W4.heap[D]? = some (.deferred (some [])) := fun jump hk => by
        have h3 := hk.same _ _ (by omega) hl3 rfl
        refine ⟨_, rfl, ?_, h3, World.putObj_heap_same (Array.getElem?_eq_some_iff.1 h3).1, (World.putObj_heap_other (by omega)).trans (hk.same _ _ (by omega) hd3 rfl)⟩
        have := run_endRound (P := P) jump h3
        rw [hrec] at this ⊢
        exact this
      cases e with
      | normal =>
        obtain ⟨h5, h6, h7⟩ := hp
        obtain ⟨W4, e4, hr4, hl4, hl5, hd5⟩ := fin none h5
        exact ⟨_, W4, hr4, .inl ⟨rfl, ⟨by rw [e4]; rw [hD] at hl4 ⊢; exact hI _ _ _ _ h7 hl4, hl5, hd5⟩, hKt ha2 (hKt (hKt hk3 h6) (by rw [e4]; exact hKb _ _ _ _ (by omega) hl4 rfl rfl))⟩⟩
      | ret =>
        obtain ⟨h5, h7⟩ := hp
        obtain ⟨W4, e4, hr4, hl4, hl5, hd5⟩ := fin (some .ret) h5
        exact ⟨_, W4, hr4, .inr ⟨rfl, .ret, by rw [e4]; rw [hD] at hl4 ⊢; exact hIx _ _ _ _ h7 hl4, hl5, hd5⟩⟩
      | exit i =>
        obtain ⟨h5, h7⟩ := hp
        obtain ⟨W4, e4, hr4, hl4, hl5, hd5⟩ := fin (some (.exit i)) h5
        exact ⟨_, W4, hr4, .inr ⟨rfl, .exit i, by rw [e4]; rw [hD] at hl4 ⊢; exact hIx _ _ _ _ h7 hl4, hl5, hd5⟩⟩
      | goto t => exact hp.elim
      | panic ch => exact hp.elim
      | outgrown => exact hp.elim
    | _ => exact h.elim
  · rintro e W2 ⟨⟨v, rfl⟩, ⟨hi, hl, hd⟩ | ⟨c, hi, hl, hd⟩⟩
    · exact ⟨none, _, by have := run_endLoop (P := P) hl (by rw [hrec]; simp); rw [hrec] at this; exact this, hdone D _ hD (by rw [hD] at hl ⊢; exact hI _ _ _ _ hi hl) ((World.putObj_heap_other (by omega)).trans hd)⟩
    · exact ⟨some c, _, by have := run_endLoop (P := P) hl (by rw [hrec]; simp); rw [hrec] at this; exact this, hstop D c _ (by omega) (by rw [hD] at hl ⊢; exact hIx _ _ _ _ hi hl) ((World.putObj_heap_other (by omega)).trans hd)⟩
end Go.Proofs.Ytclehkgnacekkaa.Vm

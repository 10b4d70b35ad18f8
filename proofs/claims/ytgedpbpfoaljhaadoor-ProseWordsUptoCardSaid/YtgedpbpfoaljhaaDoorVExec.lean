/- The machine of values: code, and whole functions. -/
import Derived.Test.YtgedpbpfoaljhaaDoorVDraw
set_option linter.unusedVariables false
set_option linter.unusedSimpArgs false
namespace Go.Proofs.YtgedpbpfoaljhaaDoor.Vm
open Go.RowKit
def okCode (P : Program) : Code → Bool
  | .region _ ops d => okOps P ops.toList && (!d || okDraw ops)
  | .seq c d => okCode P c && okCode P d
  | .cond _ c d => okCode P c && okCode P d
  | .block _ c => okCode P c
  | .loop c => okCode P c
  | _ => true
def toE : X → Exit
  | .normal => .normal
  | .exit i => .exit i
  | .ret => .ret
section
variable {I0 : Nat → Nat → Prop} {X : Nat → Prop} {w0 : W0}
theorem exec_in {ro : Option Nat} {n : Nat} : ∀ (c : Code) (s : S) (a : Act) (w : World) (K : Vm.X → S → Prop) (Q : Exit → Act → World → Prop), okCode Tryd.prog c = true → Rel I0 X w0 s a w → exec real c s K → (∀ e s' a' w', Rel I0 X w0 s' a' w' → K e s' → Q (toE e) a' w') → c.wpIn (FW ro) n Tryd.prog Q a w
  | .skip, s, a, w, K, Q, _, h, hK, hQ => wpIn_skip (hQ _ _ _ _ h hK)
  | .region id ops d, s, a, w, K, Q, hok, h, hK, hQ => by
    simp only [okCode, Bool.and_eq_true, Bool.or_eq_true, Bool.not_eq_true'] at hok
    have hops : ∀ o ∈ ops.toList, okOp Tryd.prog o.op = true := List.all_eq_true.1 hok.1
    cases d with
    | false => exact wpIn_region_list (run_ok (fun s' a' w' h' hk => hQ .normal _ _ _ h' hk) _ s a w hops h hK)
    | true =>
      rw [exec] at hK
      split at hK <;> try exact hK.elim
      rename_i hpre
      refine wpIn_region_any (by kernel_rfl) (draw_ok (fun s' a' w' h' hk => hQ .normal _ _ _ h' hk) hok.1 (hok.2.resolve_left (by simp)) ?_ hpre hK)
      obtain ⟨I, g, h⟩ := h
      exact ⟨I, g, h.drew⟩
  | .seq c d, s, a, w, K, Q, hok, h, hK, hQ => by
    simp only [okCode, Bool.and_eq_true] at hok
    refine wpIn_seq (exec_in c s a w _ _ hok.1 h hK fun e s' a' w' h' hk => ?_)
    cases e with
    | normal =>
      obtain ⟨s2, hg, hk⟩ := hk
      exact exec_in d _ a' w' K Q hok.2 (hg _ _ _ _ _ h') hk hQ
    | exit i => exact hQ (.exit i) _ _ _ h' hk
    | ret => exact hQ .ret _ _ _ h' hk
  | .cond c x y, s, a, w, K, Q, hok, h, hK, hQ => by
    simp only [okCode, Bool.and_eq_true] at hok
    rw [exec] at hK
    obtain ⟨I, g, h1⟩ := h
    have hc := h1.get c
    split at hK <;> try exact hK.elim
    rename_i b hb
    rw [hb] at hc
    refine wpIn_cond hc.sc ?_
    cases b with
    | true => exact exec_in x s a w K Q hok.1 ⟨I, g, h1⟩ hK hQ
    | false => exact exec_in y s a w K Q hok.2 ⟨I, g, h1⟩ hK hQ
  | .block id c, s, a, w, K, Q, hok, h, hK, hQ => by
    refine wpIn_block (exec_in c s a w _ _ hok h hK fun e s' a' w' h' hk => ?_)
    cases e with
    | normal => exact hQ .normal _ _ _ h' hk
    | exit i =>
      rw [blockX] at hk
      show (if i = id then Q .normal a' w' else Q (.exit i) a' w')
      split at hk
      · rename_i he; rw [eqN_is] at he; rw [if_pos he]; exact hQ .normal _ _ _ h' hk
      · rename_i he; rw [eqN_no] at he; rw [if_neg he]; exact hQ (.exit i) _ _ _ h' hk
    | ret => exact hQ .ret _ _ _ h' hk
  | .loop c, s, a, w, K, Q, hok, h, hK, hQ => by
    have key : ∀ R : S → S → Prop, (∀ s s', R s s' → s = s' ∨ weak s s') → loopR R (fun s K => exec real c s K) s K → (Code.loop c).wpIn (FW ro) n Tryd.prog Q a w := fun R hR hK => by
      obtain ⟨γ, st, inv, μ, hlen, ⟨x0, hw, h0⟩, hround⟩ := hK
      have hn : ∀ x, inv x → w0.n ≤ (st x).o.length := fun x hx => by
        have h1 := hlen x hx
        rw [lenO_is, lenO_is] at h1
        obtain ⟨I, g, h⟩ := h
        exact Nat.le_trans h.lo h1
      refine wpIn_loop_ghost (fun m a w => ∃ x, inv x ∧ Rel I0 X w0 (st x) a w ∧ μ x = m) (μ x0) ⟨x0, h0, h.weak (hn x0 h0) (hR _ _ hw), rfl⟩ ?_
      rintro m a1 w1 ⟨x, hx, h1, rfl⟩
      refine exec_in c (st x) a1 w1 _ _ hok h1 (hround x hx) fun e s2 a2 w2 h2 hk => ?_
      cases e with
      | normal =>
        obtain ⟨y, hy, hlt, hwk⟩ := hk
        exact ⟨μ y, hlt, y, hy, h2.weak (hn y hy) (hR _ _ hwk), rfl⟩
      | exit i => exact hQ (.exit i) _ _ _ h2 hk
      | ret => exact hQ .ret _ _ _ h2 hk
    rcases hK with hK | hK
    · exact key weak (fun _ _ h => .inr h) hK
    · exact key Eq (fun _ _ h => .inl h) hK
  | .exit i, s, a, w, K, Q, _, h, hK, hQ => wpIn_exit (hQ _ _ _ _ h hK)
  | .ret, s, a, w, K, Q, _, h, hK, hQ => wpIn_ret (hQ _ _ _ _ h hK)
  | .rangeFunc f ps x y, s, a, w, K, Q, _, h, hK, hQ => by cases hK
  | .scope c, s, a, w, K, Q, _, h, hK, hQ => by cases hK
  | .label l, s, a, w, K, Q, _, h, hK, hQ => by cases hK
  | .goto l, s, a, w, K, Q, _, h, hK, hQ => by cases hK
  | .refuse y, s, a, w, K, Q, _, h, hK, hQ => by cases hK
theorem exec_ok (c : Code) (s : S) (a : Act) (w : World) (K : Vm.X → S → Prop) (Q : Exit → Act → World → Prop) (hok : okCode Tryd.prog c = true) (h : Rel I0 X w0 s a w) (hK : exec real c s K) (hQ : ∀ e s' a' w', Rel I0 X w0 s' a' w' → K e s' → Q (toE e) a' w') : c.wp Tryd.prog Q a w :=
  wpIn_wide.1 (exec_in (ro := none) (n := 0) c s a w K Q hok h hK hQ)
end
/-- What a function hands back. -/
def resS (a : Ar) (s : S) : List ResultVar → List R → Prop
  | [], [] => True
  | .tmp t :: l, r :: q => toR s.o (getN s.t t) = some r ∧ resS a s l q
  | .cell b t :: l, r :: q => loadV a s.o (fun y => toR s.o y = some r) t (getN s.t b) ∧ resS a s l q
  | _, _ => False
def retK (a : Ar) (l : List ResultVar) (q : List R) : X → S → Prop
  | .exit _, _ => False
  | .normal, s => resS a s l q
  | .ret, s => resS a s l q
def okRes : List ResultVar → Bool
  | [] => true
  | .tmp _ :: l => okRes l
  | .cell _ t :: l => tyKnown t && okRes l
def uns : Nat → List V
  | 0 => []
  | n + 1 => vun :: uns n
theorem uns_is : ∀ n, uns n = List.replicate n vun
  | 0 => rfl
  | n + 1 => by rw [uns, uns_is n]; rfl
/-- A function's state at its start. -/
def start (rs : List R) (n : Nat) : S := ⟨appV (resRs rs) (uns n), []⟩
section
variable {I0 : Nat → Nat → Prop} {X : Nat → Prop} {w0 : W0} {I : Nat → Nat → Prop} {g : Nat → Value} {s : S} {a : Act} {w : World}
def rvOf (tmps : Array Value) : ResultVar → Sem Value
  | .tmp t => pure (tmps.getD t undef)
  | .cell b t => do loadVar t (← asAddr (tmps.getD b undef))
theorem asAddr_of_load {t : Nat} {v u : Value} (h : (Instr.loadAt t v).run Tryd.prog w = .ok u w) : (do loadVar t (← asAddr v)).run Tryd.prog w = .ok u w := by
  unfold Instr.loadAt Instr.sureAddr at h
  split at h
  · simpa [asAddr] using h
  · simp [stuck] at h
theorem res_at (h : RelI I0 X w0 I g s a w) : ∀ {l : List ResultVar} {q : List R}, okRes l = true → resS real s l q → ∃ vs : List Value, (l.mapM (rvOf a.tmps)).run Tryd.prog w = .ok vs w ∧ AtRs I w vs q
  | [], [], _, _ => ⟨[], rfl, trivial⟩
  | [], _ :: _, _, h => h.elim
  | .tmp t :: l, [], _, h => h.elim
  | .cell b t :: l, [], _, h => h.elim
  | .tmp t :: l, r :: q, hok, hr => by
    obtain ⟨vs, h1, h2⟩ := res_at h (l := l) (q := q) hok hr.2
    have h3 := toR_at h (h.get (.tmp t)) hr.1
    refine ⟨a.eval (.tmp t) :: vs, ?_, h3, h2⟩
    rw [List.mapM_cons]
    simp only [Sem.run_bind, h1, Result.andThen_ok, rvOf, Sem.run_pure]
    rfl
  | .cell b t :: l, r :: q, hok, hr => by
    rw [okRes, Bool.and_eq_true] at hok
    obtain ⟨vs, h1, h2⟩ := res_at h (l := l) (q := q) hok.2 hr.2
    obtain ⟨v, x, h3, h5, h6⟩ := load_same h hok.1 (h.get (.tmp b)) hr.1
    refine ⟨v :: vs, ?_, toR_at h h5 h6, h2⟩
    have h7 := asAddr_of_load h3
    rw [List.mapM_cons]
    simp only [Sem.run_bind, rvOf, Sem.run_pure] at h7 ⊢
    have h8 : ((asAddr (a.tmps.getD b undef)).run Tryd.prog w).andThen (fun a w' => (loadVar t a).run Tryd.prog w') = .ok v w := h7
    rw [h8, Result.andThen_ok, h1]
    rfl
theorem results_at (h : RelI I0 X w0 I g s a w) {fn : Func} {q : List R} (hok : okRes fn.results.toList = true) (hr : resS real s fn.results.toList q) : ∃ v, (results fn a.tmps).run Tryd.prog w = .ok v w ∧ AtRes I w v q := by
  obtain ⟨vs, h1, h2⟩ := res_at h hok hr
  have h3 : (fn.results.mapM (rvOf a.tmps)).run Tryd.prog w = .ok vs.toArray w := by
    rw [Array.mapM_eq_mapM_toList]
    simp [h1]
  have h4 : (results fn a.tmps).run Tryd.prog w = .ok (if h : vs.toArray.size = 1 then vs.toArray[0] else .tuple vs.toArray) w := by
    have h5 : results fn a.tmps = (do let vs ← fn.results.mapM (rvOf a.tmps); pure (if h : vs.size = 1 then vs[0] else .tuple vs)) := by
      unfold results
      congr 1
    rw [h5, Sem.run_bind, h3]
    rfl
  refine ⟨_, h4, ?_⟩
  have hl := h2.len
  match q, vs, h2, hl with
  | [r], [v], h2, _ => exact h2.1
  | [], [], h2, _ => exact ⟨[], rfl, h2⟩
  | r :: r' :: q, v :: v' :: vs, h2, _ => exact ⟨_, by simp, h2⟩
theorem start_at {I0 : Nat → Nat → Prop} {w : World} {rs : List R} {args : List Value} (hI : ∀ b h, I0 b h → b < w.heap.size) (hat : AtRs I0 w args rs) (n : Nat) : RelI I0 (fun _ => False) ⟨w, fun _ => .nilFunc, 0, []⟩ I0 (fun _ => .nilFunc) (start rs n) { tmps := args.toArray ++ Array.replicate n undef, defers := [] } w := by
  refine ⟨fun _ _ h => h, fun b k hb => ⟨hI b k hb, fun _ => .inl hb⟩, Fr.refl _ _, Keeps.refl _ _, Nat.zero_le _, fun k hk => absurd hk (Nat.not_lt_zero _), fun k o ho => by simp [start] at ho, fun j k b hj => ?_, fun _ _ => rfl, ?_, rfl⟩
  · obtain ⟨o, ho, _⟩ := hj
    simp [start] at ho
  · show AtVs I0 w _ (args.toArray ++ Array.replicate n undef).toList (appV (resRs rs) (uns n))
    rw [appV_is, Array.toList_append, uns_is]
    refine (resRs_at _ hat).append ?_
    rw [Array.toList_replicate]
    refine ⟨by simp, fun i u c hu hc => ?_⟩
    rw [List.getElem?_replicate] at hu hc
    split at hu
    · rename_i hi
      rw [if_pos hi] at hc
      injection hu with hu
      injection hc with hc
      subst hu; subst hc
      exact .tu [] [] rfl fun i u c hu _ => by simp at hu
    · cases hu
/-- A whole function, out of its code. -/
theorem spec_of {f : Nat} {fn : Func} {c : Code} {rs q : List R} (hf : Tryd.prog.funcs[f]? = some fn) (hb : fn.body = some c) (hn : (fn.name != "runtime.NumGoroutine") = true) (hc : okCode Tryd.prog c = true) (hr : okRes fn.results.toList = true)
    (h : ∀ aWrap aAdd aSub aMul aQuo aRem aLt aLe aEq aNz aSeq aSlt aBytes aCat aFits aSlen aSget aSsub aNat aLen aGet aSub2 aApp aSet aRoom aMlook aMput aRep aCall aCalld aCallo aNew aLit aKeep aNext aLoop, Ar.mk aWrap aAdd aSub aMul aQuo aRem aLt aLe aEq aNz aSeq aSlt aBytes aCat aFits aSlen aSget aSsub aNat aLen aGet aSub2 aApp aSet aRoom aMlook aMput aRep aCall aCalld aCallo aNew aLit aKeep aNext aLoop = real → exec (Ar.mk aWrap aAdd aSub aMul aQuo aRem aLt aLe aEq aNz aSeq aSlt aBytes aCat aFits aSlen aSget aSsub aNat aLen aGet aSub2 aApp aSet aRoom aMlook aMput aRep aCall aCalld aCallo aNew aLit aKeep aNext aLoop) c (start rs (fn.ntmps - lenL rs)) (fun x s => retK (Ar.mk aWrap aAdd aSub aMul aQuo aRem aLt aLe aEq aNz aSeq aSlt aBytes aCat aFits aSlen aSget aSsub aNat aLen aGet aSub2 aApp aSet aRoom aMlook aMput aRep aCall aCalld aCallo aNew aLit aKeep aNext aLoop) fn.results.toList q x s)) : Spec f rs q := by
  refine ⟨by unfold fnOk; rw [hf]; simp only [hn, hb]; rfl, ?_⟩
  intro I w args hI hat
  have hlen := hat.len
  refine calls_of_wp hf hb ?_
  have hsz : args.toArray.size = lenL rs := by rw [lenL_is]; simp [hlen]
  rw [hsz]
  refine exec_ok (I0 := I) (X := fun _ => False) (w0 := ⟨w, fun _ => .nilFunc, 0, []⟩) c _ _ _ _ _ hc ⟨I, _, start_at hI hat _⟩ (h _ _ _ _ _ _ _ _ _ _ _ _ _ _ _ _ _ _ _ _ _ _ _ _ _ _ _ _ _ _ _ _ _ _ _ _ (show Ar.mk real.wrap real.add real.sub real.mul real.quo real.rem real.lt real.le real.eq real.nz real.seq real.slt real.bytes real.cat real.fits real.slen real.sget real.ssub real.nat real.len real.get real.sub2 real.app real.set real.room real.mlook real.mput real.rep real.call real.calld real.callo real.new real.lit real.keep real.next real.loop = real from rfl)) fun e s' a' w' hrel hk => ?_
  have key : resS real s' fn.results.toList q → a'.defers = [] ∧ ∃ v, (results fn a'.tmps).run Tryd.prog w' = .ok v w' ∧ ∃ v', Ending.returned v = .returned v' ∧ AtRes (nxt I w w') w' v' q ∧ Below w.heap.size w w' := fun hk => by
    obtain ⟨I', g', h'⟩ := hrel
    obtain ⟨v, h1, h2⟩ := results_at h' hr hk
    refine ⟨h'.dfr, v, h1, v, rfl, ?_, ⟨h'.fr.os, h'.fr.tape, h'.fr.output, h'.fr.size, fun b hb => h'.fr.block b hb (fun hx => hx)⟩⟩
    have hnx : ∀ b k, I' b k → nxt I w w' b k := fun b k hbk => by
      obtain ⟨h3, h4⟩ := h'.lt b k hbk
      rcases Nat.lt_or_ge b w.heap.size with hlt | hge
      · exact .inl ((h4 hlt).resolve_right (fun hx => hx))
      · exact .inr ⟨hge, h3⟩
    match q, h2 with
    | [], ⟨us, e, hu⟩ => exact ⟨us, e, hu.mono hnx (Keeps.refl _ _)⟩
    | [r], hu => exact AtR.mono hnx (Keeps.refl _ _) hu
    | r :: r' :: q, ⟨us, e, hu⟩ => exact ⟨us, e, hu.mono hnx (Keeps.refl _ _)⟩
  cases e with
  | normal => exact key hk
  | exit i => exact hk.elim
  | ret => exact key hk
/-- What a function with objects hands back. -/
def resO (a : Ar) (s : S) : List ResultVar → (List V → Prop) → Prop
  | [], K => K []
  | .tmp t :: l, K => resO a s l (fun vs => K (getN s.t t :: vs))
  | .cell b t :: l, K => loadV a s.o (fun y => resO a s l (fun vs => K (y :: vs))) t (getN s.t b)
def retO (a : Ar) (n : Nat) (Q : List V → List O → Prop) (l : List ResultVar) : Vm.X → S → Prop
  | .exit _, _ => False
  | .normal, s => resO a s l (fun vs => a.keep n Q vs s)
  | .ret, s => resO a s l (fun vs => a.keep n Q vs s)
def startO (vs : List V) (os : List O) (n : Nat) : S := ⟨appV vs (uns n), os⟩
theorem resO_at (h : RelI I0 X w0 I g s a w) : ∀ {l : List ResultVar} {K : List V → Prop}, okRes l = true → resO real s l K → ∃ us vs, (l.mapM (rvOf a.tmps)).run Tryd.prog w = .ok us w ∧ AtVs I w g us vs ∧ K vs
  | [], K, _, h => ⟨[], [], rfl, .nil I w g, h⟩
  | .tmp t :: l, K, hok, hr => by
    obtain ⟨us, vs, h1, h2, h3⟩ := resO_at h (l := l) hok hr
    refine ⟨a.eval (.tmp t) :: us, getN s.t t :: vs, ?_, .cons (h.get (.tmp t)) h2, h3⟩
    rw [List.mapM_cons]
    simp only [Sem.run_bind, h1, Result.andThen_ok, rvOf, Sem.run_pure]
    rfl
  | .cell b t :: l, K, hok, hr => by
    rw [okRes, Bool.and_eq_true] at hok
    obtain ⟨v, x, h3, h5, h6⟩ := load_same h hok.1 (h.get (.tmp b)) hr
    obtain ⟨us, vs, h1, h2, h4⟩ := resO_at h (l := l) hok.2 h6
    refine ⟨v :: us, x :: vs, ?_, .cons h5 h2, h4⟩
    have h7 := asAddr_of_load h3
    rw [List.mapM_cons]
    simp only [Sem.run_bind, rvOf, Sem.run_pure] at h7 ⊢
    have h8 : ((asAddr (a.tmps.getD b undef)).run Tryd.prog w).andThen (fun a w' => (loadVar t a).run Tryd.prog w') = .ok v w := h7
    rw [h8, Result.andThen_ok, h1]
    rfl
theorem resultsO_at (h : RelI I0 X w0 I g s a w) {fn : Func} {K : List V → Prop} (hok : okRes fn.results.toList = true) (hr : resO real s fn.results.toList K) : ∃ us vs, (results fn a.tmps).run Tryd.prog w = .ok (pkg us) w ∧ AtVs I w g us vs ∧ K vs := by
  obtain ⟨us, vs, h1, h2, h3⟩ := resO_at h hok hr
  refine ⟨us, vs, ?_, h2, h3⟩
  have h4 : (fn.results.mapM (rvOf a.tmps)).run Tryd.prog w = .ok us.toArray w := by
    rw [Array.mapM_eq_mapM_toList]
    simp [h1]
  have h5 : results fn a.tmps = (do let vs ← fn.results.mapM (rvOf a.tmps); pure (if h : vs.size = 1 then vs[0] else .tuple vs)) := by
    unfold results
    congr 1
  rw [h5, Sem.run_bind, h4]
  match us with
  | [] => rfl
  | [u] => rfl
  | u :: u' :: us =>
    show Result.ok _ w = _
    rw [dif_neg (by simp)]
    rfl
/-- A whole function that is handed objects, out of its code. -/
theorem speco_of {f : Nat} {fn : Func} {c : Code} {vs : List V} {os : List O} {Q : List V → List O → Prop} (hf : Tryd.prog.funcs[f]? = some fn) (hb : fn.body = some c) (hn : (fn.name != "runtime.NumGoroutine") = true) (hc : okCode Tryd.prog c = true) (hr : okRes fn.results.toList = true)
    (h : ∀ aWrap aAdd aSub aMul aQuo aRem aLt aLe aEq aNz aSeq aSlt aBytes aCat aFits aSlen aSget aSsub aNat aLen aGet aSub2 aApp aSet aRoom aMlook aMput aRep aCall aCalld aCallo aNew aLit aKeep aNext aLoop, Ar.mk aWrap aAdd aSub aMul aQuo aRem aLt aLe aEq aNz aSeq aSlt aBytes aCat aFits aSlen aSget aSsub aNat aLen aGet aSub2 aApp aSet aRoom aMlook aMput aRep aCall aCalld aCallo aNew aLit aKeep aNext aLoop = real → exec (Ar.mk aWrap aAdd aSub aMul aQuo aRem aLt aLe aEq aNz aSeq aSlt aBytes aCat aFits aSlen aSget aSsub aNat aLen aGet aSub2 aApp aSet aRoom aMlook aMput aRep aCall aCalld aCallo aNew aLit aKeep aNext aLoop) c (startO vs os (fn.ntmps - lenL vs)) (fun x s => retO (Ar.mk aWrap aAdd aSub aMul aQuo aRem aLt aLe aEq aNz aSeq aSlt aBytes aCat aFits aSlen aSget aSsub aNat aLen aGet aSub2 aApp aSet aRoom aMlook aMput aRep aCall aCalld aCallo aNew aLit aKeep aNext aLoop) (lenO os) Q fn.results.toList x s)) : SpecO f vs os Q := by
  refine ⟨by unfold fnOk; rw [hf]; simp only [hn, hb]; rfl, ?_⟩
  intro I w g args hrel
  have hv : AtVs I w g args vs := hrel.tmp
  refine calls_of_wp hf hb ?_
  have hsz : args.toArray.size = lenL vs := by rw [lenL_is]; simp [hv.1]
  rw [hsz]
  have hstart : RelI I (Xof g os) ⟨w, g, os.length, []⟩ I g (startO vs os (fn.ntmps - lenL vs)) { tmps := args.toArray ++ Array.replicate (fn.ntmps - lenL vs) undef, defers := [] } w := by
    refine ⟨hrel.im, hrel.lt, hrel.fr, hrel.kp, hrel.lo, hrel.st, hrel.obj, hrel.dis, hrel.out, ?_, rfl⟩
    show AtVs I w _ (args.toArray ++ Array.replicate (fn.ntmps - lenL vs) undef).toList (appV vs (uns (fn.ntmps - lenL vs)))
    rw [appV_is, Array.toList_append, uns_is]
    refine hv.append ?_
    rw [Array.toList_replicate]
    refine ⟨by simp, fun i u c hu hc => ?_⟩
    rw [List.getElem?_replicate] at hu hc
    split at hu
    · rename_i hi
      rw [if_pos hi] at hc
      injection hu with hu
      injection hc with hc
      subst hu; subst hc
      exact .tu [] [] rfl fun i u c hu _ => by simp at hu
    · cases hu
  refine exec_ok (I0 := I) (X := Xof g os) (w0 := ⟨w, g, os.length, []⟩) c _ _ _ _ _ hc ⟨I, _, hstart⟩ (h _ _ _ _ _ _ _ _ _ _ _ _ _ _ _ _ _ _ _ _ _ _ _ _ _ _ _ _ _ _ _ _ _ _ _ _ (show Ar.mk real.wrap real.add real.sub real.mul real.quo real.rem real.lt real.le real.eq real.nz real.seq real.slt real.bytes real.cat real.fits real.slen real.sget real.ssub real.nat real.len real.get real.sub2 real.app real.set real.room real.mlook real.mput real.rep real.call real.calld real.callo real.new real.lit real.keep real.next real.loop = real from rfl)) fun e s' a' w' hrel2 hk => ?_
  have key : resO real s' fn.results.toList (fun vs => real.keep (lenO os) Q vs s') → a'.defers = [] ∧ ∃ v, (results fn a'.tmps).run Tryd.prog w' = .ok v w' ∧ ∃ us res os2 I' g', Ending.returned v = .returned (pkg us) ∧ Q res os2 ∧ RelI I (Xof g os) ⟨w, g, os.length, []⟩ I' g' ⟨res, os2⟩ { tmps := us.toArray, defers := [] } w' := fun hk => by
    obtain ⟨I', g', h'⟩ := hrel2
    obtain ⟨us, vs', h1, h2, ks, res', os', hko, hQ⟩ := resultsO_at h' hr hk
    rw [lenO_is] at hko
    exact ⟨h'.dfr, _, h1, us, res', os', I', _, rfl, hQ, keep_at h' rfl hko h2⟩
  cases e with
  | normal => exact key hk
  | exit i => exact hk.elim
  | ret => exact key hk
end
/-! A call whose body is walked in place. -/
section
variable {I0 : Nat → Nat → Prop} {X : Nat → Prop} {w0 : W0} {I : Nat → Nat → Prop} {g : Nat → Value} {s : S} {a : Act} {w : World}
/-- The state where such a call begins: its slots; the objects; which rows are moved from now on. -/
def startI (vs : List V) (o : List O) (n : Nat) : S := ⟨appV vs (uns n), snocO o (.kl [])⟩
def takeO : Nat → List O → List O
  | 0, _ => []
  | _ + 1, [] => []
  | n + 1, x :: l => x :: takeO n l
theorem takeO_is : ∀ (n : Nat) (l : List O), takeO n l = l.take n
  | 0, l => by simp [takeO]
  | n + 1, [] => by simp [takeO]
  | n + 1, x :: l => by simp [takeO, takeO_is n l]
/-- What is left of the objects behind such a call: what was made and is named by nobody is forgotten. -/
def low3 (n : Nat) : V → Bool
  | .tu vs => lowT n vs
  | x => low2 n x
theorem low3_at {I : Nat → Nat → Prop} {w : World} {g g' : Nat → Value} {n : Nat} (hg : ∀ k, k < n → g' k = g k) {v : Value} {x : V} (h : AtV I w g v x) (hl : low3 n x = true) : AtV I w g' v x := by
  unfold low3 at hl
  split at hl
  · obtain ⟨us, rfl, h2⟩ := h.untu
    exact atV_tu (lowT_at hg h2 hl)
  · exact low2_at hg h hl
def trimO (n : Nat) (x : V) (o : List O) : List O := match low3 n x with
  | true => match lowO n (takeO n o) with | true => takeO n o | false => setO o n .dead
  | false => setO o n .dead
/-- Its end. -/
def doneI (n : Nat) (K : V → List O → List Nat → Prop) (res : List V) (s : S) : Prop := match getO s.o n with
  | .kl ks => K (pkgV res) (trimO n (pkgV res) s.o) ks
  | _ => False
def retI (a : Ar) (n : Nat) (K : V → List O → List Nat → Prop) (l : List ResultVar) : Vm.X → S → Prop
  | .exit _, _ => False
  | .normal, s => resO a s l (fun vs => doneI n K vs s)
  | .ret, s => resO a s l (fun vs => doneI n K vs s)
theorem pkg_at' {g : Nat → Value} {vs : List V} {us : List Value} (h : AtVs I w g us vs) : AtV I w g (pkg us) (pkgV vs) := pkg_at h
/-- Where the call begins. -/
theorem RelI.rebase (h : RelI I0 X w0 I g s a w) {us : List Value} {vs : List V} (hv : AtVs I w g us vs) : ∃ g', (∀ k, k < s.o.length → g' k = g k) ∧ g' s.o.length = .agg ((List.range s.o.length).map g).toArray ∧
    RelI I (Xof g' (snocO s.o (.kl []))) ⟨w, g', s.o.length + 1, []⟩ I g' ⟨vs, snocO s.o (.kl [])⟩ { tmps := us.toArray, defers := [] } w := by
  obtain ⟨ghost, hgh⟩ : ∃ v : Value, v = .agg ((List.range s.o.length).map g).toArray := ⟨_, rfl⟩
  have h1 := h.newObj (.kl []) ghost ⟨((List.range s.o.length).map g).toArray, by rw [upd_same, hgh], by simp, fun j u hu => .inr (.inl (by
    have hj : j < s.o.length := by have := (Array.getElem?_eq_some_iff.1 hu).1; simpa using this
    rw [upd_ne (by omega)]
    simp only [List.getElem?_toArray, List.getElem?_map, List.getElem?_range hj, Option.map_some, Option.some.injEq] at hu
    exact hu))⟩ (fun j b _ _ => by rw [hgh]; simp [gblk])
  have hg : ∀ k, k < s.o.length → upd g s.o.length ghost k = g k := fun k hk => upd_ne (by omega)
  have hlen : (s.obj (.kl [])).o.length = s.o.length + 1 := by show (snocO s.o _).length = _; rw [snocO_is]; simp
  refine ⟨upd g s.o.length ghost, hg, by rw [upd_same, hgh], fun _ _ h => h, fun b k hb => ⟨(h.lt b k hb).1, fun _ => .inl hb⟩, Fr.refl _ _, Keeps.refl _ _, by rw [snocO_is]; simp, fun _ _ _ => rfl, fun k o ho => ?_, h1.dis, h1.out, hv.more (h.fresh _), rfl⟩
  have hob := h1.obj k o ho
  have hX : ∀ b, gblk (upd g s.o.length ghost k) = some b → o ≠ .dead → Mine (Xof (upd g s.o.length ghost) (snocO s.o (.kl []))) ⟨w, upd g s.o.length ghost, s.o.length + 1, []⟩ b := fun b hb hd => .inr ⟨k, o, ho, hd, hb⟩
  cases o with
  | dead => exact True.intro
  | box cs =>
    obtain ⟨b, us, t, e1, e2, e3, e4, e5, e6⟩ := hob
    exact ⟨b, us, t, e1, e2, e3, e4, e5, hX b (by rw [e1]; rfl) (by simp)⟩
  | row z e rows =>
    obtain ⟨us, e1, e2, e3, e4⟩ := hob
    exact ⟨us, e1, e2, e3, fun b hb => ⟨(e4 b hb).1, (e4 b hb).2.1, hX b (by rw [own_gblk e1]; exact hb) (by simp)⟩⟩
  | mp kt es =>
    obtain ⟨b, l, c, e1, e2, e3, e4, e5⟩ := hob
    exact ⟨b, l, c, e1, e2, e3, e4, hX b (by rw [e1]; rfl) (by simp)⟩
  | kl ks => exact hob
/-- Where it is over: the caller's slots again. -/
theorem RelI.unbase (h : RelI I0 X w0 I g s a w) {g' : Nat → Value} {os2 : List O} {t2 : List V} {a2 : Act} {w' : World} {I2 : Nat → Nat → Prop} {g2 : Nat → Value} {ks : List Nat} (hg : ∀ k, k < s.o.length → g' k = g k) (hgn : g' s.o.length = .agg ((List.range s.o.length).map g).toArray)
    (h2 : RelI I (Xof g' (snocO s.o (.kl []))) ⟨w, g', s.o.length + 1, []⟩ I2 g2 ⟨t2, os2⟩ a2 w') (hk : os2[s.o.length]? = some (.kl ks)) : AtVs I2 w' (cutG s.o.length g2) a.tmps.toList (killTs ks s.t) ∧ RelI I0 X w0 I2 g2 ⟨killTs ks s.t, os2.set s.o.length .dead⟩ a w' := by
  have hlo : s.o.length + 1 ≤ os2.length := h2.lo
  have hX : ∀ b, Xof g' (snocO s.o (.kl [])) b → b < w.heap.size ∧ Mine X w0 b := fun b ⟨k, o, ho, hd, hb⟩ => by
    rw [snocO_is] at ho
    rcases Nat.lt_or_ge k s.o.length with hlt | hge
    · rw [List.getElem?_append_left hlt] at ho
      rw [hg k hlt] at hb
      exact (h.obj k o ho).blk hd b hb
    · have hlt := (List.getElem?_eq_some_iff.1 ho).1
      rw [List.length_append, List.length_singleton] at hlt
      have : k = s.o.length := by omega
      subst this
      rw [hgn] at hb
      cases hb
  have hM : ∀ b, Mine (Xof g' (snocO s.o (.kl []))) ⟨w, g', s.o.length + 1, []⟩ b → Mine X w0 b := fun b hb => by
    rcases hb with hb | hb
    · exact .inl (Nat.le_trans h.fr.size hb)
    · exact (hX b hb).2
  have hst : ∀ k, k < s.o.length → isRef (g k) = true → g2 k = g k := fun k hk hr => by
    rw [← hg k hk] at hr ⊢
    exact h2.st k (Nat.lt_succ_of_lt hk) hr
  have hkl : ∀ k, k < s.o.length → k ∉ ks → g2 k = g k ∨ g k = .nilFunc := fun k hk0 hks => by
    obtain ⟨us, e1, e2, e3⟩ := h2.obj _ _ hk
    have e4 := h2.st s.o.length (Nat.lt_succ_self _) (by show isRef (g' s.o.length) = true; rw [hgn]; rfl)
    have e5 : g2 s.o.length = g' s.o.length := e4
    rw [e5, hgn] at e1
    have e1 := Value.agg.inj e1
    have hu : us[k]? = some (g k) := by rw [← e1]; simp [hk0]
    rcases e3 k _ hu with e6 | e6 | e6
    · exact .inr e6
    · exact .inl e6
    · exact absurd e6 hks
  have hget : ∀ (k : Nat) (o : O), (os2.set s.o.length O.dead)[k]? = some o → o = O.dead ∨ os2[k]? = some o := fun k o ho => by
    by_cases e : s.o.length = k
    · subst e
      rw [List.getElem?_set_self (by omega)] at ho
      exact .inl (Option.some.inj ho).symm
    · rw [List.getElem?_set_ne e] at ho
      exact .inr ho
  have hlv : ∀ k, live ⟨killTs ks s.t, os2.set s.o.length .dead⟩ k → live ⟨t2, os2⟩ k := fun k ⟨o, ho, hd⟩ => ⟨o, (hget k o ho).resolve_left hd, hd⟩
  have hcut : AtVs I2 w' (cutG s.o.length g2) a.tmps.toList (killTs ks s.t) := by
    classical
    have h3 : AtVs I w (fun k => if k < s.o.length then g2 k else g k) a.tmps.toList (killTs ks s.t) := by
      refine killTs_at ks (fun k => if g k = .nilFunc ∧ k < s.o.length then g2 k else g k) (fun j hj => ?_) (fun j hr => ?_) (h.tmp.more fun k hk => ?_)
      · by_cases hlt : j < s.o.length
        · rw [if_pos hlt]
          rcases hkl j hlt hj with e | e
          · by_cases e' : g j = .nilFunc
            · rw [if_pos ⟨e', hlt⟩]
            · rw [if_neg (fun h => e' h.1)]; exact e
          · rw [if_pos ⟨e, hlt⟩]
        · rw [if_neg hlt, if_neg (fun h => hlt h.2)]
      · by_cases hlt : j < s.o.length
        · rw [if_pos hlt]
          by_cases e' : g j = .nilFunc
          · rw [if_pos ⟨e', hlt⟩]
          · rw [if_neg (fun h => e' h.1)] at hr ⊢
            exact hst j hlt hr
        · rw [if_neg hlt, if_neg (fun h => hlt h.2)]
      · rw [if_neg (fun h => hk h.1)]
    refine (h3.more fun k hk => ?_).mono (fun b k hb => h2.im b k hb) h2.kp
    unfold cutG
    by_cases hc : k < s.o.length
    · rw [if_pos hc, if_pos hc]
    · rw [if_neg hc] at hk
      exact absurd (h.out k (by omega)) hk
  refine ⟨hcut, ?_⟩
  refine ⟨fun b k hb => h2.im b k (h.im b k hb), fun b k hb => ⟨(h2.lt b k hb).1, fun hlt => ?_⟩, ⟨h2.fr.os.trans h.fr.os, h2.fr.tape.trans h.fr.tape, h2.fr.output.trans h.fr.output, Nat.le_trans h.fr.size h2.fr.size, fun b hb hx => ?_⟩, h.kp.trans fun b k hb i hi => h2.kp b k (h.im b k hb) i hi, ?_, fun k hk' hr => ?_, fun k o ho => ?_, fun j k b hj hk' => h2.dis j k b (hlv j hj) (hlv k hk'), fun k hk' => ?_, ?_, h.dfr⟩
  · rcases (h2.lt b k hb).2 (Nat.lt_of_lt_of_le hlt h.fr.size) with h3 | h3
    · exact (h.lt b k h3).2 hlt
    · rcases (hX b h3).2 with h4 | h4
      · omega
      · exact .inr h4
  · refine (h2.fr.block b (Nat.lt_of_lt_of_le hb h.fr.size) fun hx' => ?_).trans (h.fr.block b hb hx)
    rcases (hX b hx').2 with h4 | h4
    · omega
    · exact hx h4
  · show w0.n ≤ (os2.set s.o.length .dead).length
    have := h.lo
    rw [List.length_set]
    omega
  · have e := h.st k hk' hr
    have hlt : k < s.o.length := Nat.lt_of_lt_of_le hk' h.lo
    rw [← e] at hr ⊢
    exact hst k hlt hr
  · rcases hget k o ho with rfl | ho
    · exact True.intro
    have hob := h2.obj k o ho
    cases o with
    | dead => exact True.intro
    | box cs =>
      obtain ⟨b, us, t, e1, e2, e3, e4, e5, e6⟩ := hob
      exact ⟨b, us, t, e1, e2, e3, e4, e5, hM b e6⟩
    | row z e rows =>
      obtain ⟨us, e1, e2, e3, e4⟩ := hob
      exact ⟨us, e1, e2, e3, fun b hb => ⟨(e4 b hb).1, (e4 b hb).2.1, hM b (e4 b hb).2.2⟩⟩
    | mp kt es =>
      obtain ⟨b, l, c, e1, e2, e3, e4, e5⟩ := hob
      exact ⟨b, l, c, e1, e2, e3, e4, hM b e5⟩
    | kl js => exact hob
  · have hk' : (os2.set s.o.length .dead).length ≤ k := hk'
    rw [List.length_set] at hk'
    exact h2.out k hk'
  · exact (hcut.more fun k hk => by unfold cutG at hk ⊢; split at hk <;> first | rw [if_pos (by assumption)] | exact absurd rfl hk)
/-- What is named by nobody is forgotten. -/
theorem RelI.trim (h : RelI I0 X w0 I g s a w) {n : Nat} (hn : w0.n ≤ n) (hnl : n ≤ s.o.length) (h1 : AtVs I w (cutG n g) a.tmps.toList s.t) (h2 : lowO n (s.o.take n) = true) : RelI I0 X w0 I (cutG n g) ⟨s.t, s.o.take n⟩ a w := by
  have hl : (s.o.take n).length = n := by simp; omega
  have hg : ∀ k, k < n → cutG n g k = g k := fun k hk => if_pos hk
  have hget : ∀ k o, (s.o.take n)[k]? = some o → k < n ∧ s.o[k]? = some o := fun k o ho => by
    rw [List.getElem?_take] at ho
    split at ho
    · exact ⟨by assumption, ho⟩
    · cases ho
  have hlv : ∀ k, live ⟨s.t, s.o.take n⟩ k → k < n ∧ live s k := fun k ⟨o, ho, hd⟩ => ⟨(hget k o ho).1, o, (hget k o ho).2, hd⟩
  refine ⟨h.im, h.lt, h.fr, h.kp, by show w0.n ≤ (s.o.take n).length; omega, fun k hk hr => (hg k (by omega)).trans (h.st k hk hr), fun k o ho => ?_, fun j k b hj hk hbj hbk => ?_, fun k hk => if_neg (by have hk : (s.o.take n).length ≤ k := hk; omega), h1, h.dfr⟩
  · obtain ⟨hk, hso⟩ := hget k o ho
    have hob := h.obj k o hso
    cases o with
    | dead => exact True.intro
    | box cs =>
      obtain ⟨b, us, t, e1, e2, e3, e4⟩ := hob
      exact ⟨b, us, t, (hg k hk).trans e1, e2, lowL_at hg e3 (lowO_at h2 ho), e4⟩
    | row z e rows =>
      obtain ⟨us, e1, e2, e3, e4⟩ := hob
      exact ⟨us, by rw [hg k hk]; exact e1, e2, e3, by rw [hg k hk]; exact e4⟩
    | mp kt es =>
      obtain ⟨b, l, c, e1, e2⟩ := hob
      exact ⟨b, l, c, (hg k hk).trans e1, e2⟩
    | kl ks =>
      obtain ⟨us, e1, e2, e3⟩ := hob
      refine ⟨us, (hg k hk).trans e1, e2, fun j u hu => ?_⟩
      have hj := (Array.getElem?_eq_some_iff.1 hu).1
      rcases e3 j u hu with e4 | e4 | e4
      · exact .inl e4
      · exact .inr (.inl ((hg j (by omega)).trans e4))
      · exact .inr (.inr e4)
  · obtain ⟨hj1, hj2⟩ := hlv j hj
    obtain ⟨hk1, hk2⟩ := hlv k hk
    rw [hg j hj1] at hbj
    rw [hg k hk1] at hbk
    exact h.dis j k b hj2 hk2 hbj hbk
/-- A call whose body is walked in place. -/
theorem inl_ok {f : Nat} {fn : Func} {c : Code} {vs : List V} {o : List O} {K : V → List O → List Nat → Prop} (hf : Tryd.prog.funcs[f]? = some fn) (hb : fn.body = some c) (hn : (fn.name != "runtime.NumGoroutine") = true) (hc : okCode Tryd.prog c = true) (hr : okRes fn.results.toList = true)
    (h : exec real c (startI vs o (fn.ntmps - lenL vs)) (fun x s => retI real (lenO o) K fn.results.toList x s)) : SoundO f vs o K := by
  refine ⟨by unfold fnOk; rw [hf]; simp only [hn, hb]; rfl, ?_⟩
  intro I0 X w0 I g t a w us hrel hv
  refine calls_of_wp hf hb ?_
  have hsz : us.toArray.size = lenL vs := by rw [lenL_is]; simp [hv.1]
  rw [hsz]
  obtain ⟨g', hg, hgn, h1⟩ := hrel.rebase hv
  have hstart : RelI I (Xof g' (snocO o (.kl []))) ⟨w, g', o.length + 1, []⟩ I g' (startI vs o (fn.ntmps - lenL vs)) { tmps := us.toArray ++ Array.replicate (fn.ntmps - lenL vs) undef, defers := [] } w := by
    refine ⟨h1.im, h1.lt, h1.fr, h1.kp, h1.lo, h1.st, h1.obj, h1.dis, h1.out, ?_, rfl⟩
    show AtVs I w _ (us.toArray ++ Array.replicate (fn.ntmps - lenL vs) undef).toList (appV vs (uns (fn.ntmps - lenL vs)))
    rw [appV_is, Array.toList_append, uns_is]
    refine AtVs.append h1.tmp ?_
    rw [Array.toList_replicate]
    refine ⟨by simp, fun i u c hu hc => ?_⟩
    rw [List.getElem?_replicate] at hu hc
    split at hu
    · rename_i hi
      rw [if_pos hi] at hc
      injection hu with hu
      injection hc with hc
      subst hu; subst hc
      exact .tu [] [] rfl fun i u c hu _ => by simp at hu
    · cases hu
  refine exec_ok c _ _ _ _ _ hc ⟨I, _, hstart⟩ h fun e s' a' w' hrel2 hk => ?_
  have key : resO real s' fn.results.toList (fun vs => doneI (lenO o) K vs s') → a'.defers = [] ∧ ∃ v, (results fn a'.tmps).run Tryd.prog w' = .ok v w' ∧ ∃ v' x o' ks I' g', Ending.returned v = .returned v' ∧ RelI I0 X w0 I' g' ⟨killTs ks t, o'⟩ a w' ∧ AtV I' w' g' v' x ∧ K x o' ks := fun hk => by
    obtain ⟨I2, g2, h2⟩ := hrel2
    obtain ⟨us2, res, r1, r2, r3⟩ := resultsO_at h2 hr hk
    unfold doneI at r3
    split at r3 <;> try exact r3.elim
    rename_i ks hks
    have hks' := getO_some hks (by simp)
    rw [lenO_is] at hks' r3
    obtain ⟨hcut, h3⟩ := hrel.unbase hg hgn h2 hks'
    have hlo : o.length + 1 ≤ s'.o.length := h2.lo
    have hx := pkg_at' r2
    refine ⟨h2.dfr, _, r1, pkg us2, pkgV res, trimO o.length (pkgV res) s'.o, ks, I2, ?_⟩
    unfold trimO at r3 ⊢
    split
    · rename_i hl2
      rw [hl2] at r3
      simp only at r3
      split
      · rename_i hlo2
        rw [hlo2] at r3
        simp only at r3
        rw [takeO_is] at hlo2 r3 ⊢
        have e : (s'.o.set o.length .dead).take o.length = s'.o.take o.length := by
          rw [List.take_set_of_le (Nat.le_refl _)]
        have h4 := h3.trim (n := o.length) hrel.lo (by show o.length ≤ (s'.o.set _ _).length; rw [List.length_set]; omega) hcut (by show lowO _ ((s'.o.set _ _).take _) = true; rw [e]; exact hlo2)
        refine ⟨cutG o.length g2, rfl, ?_, low3_at (fun k hk => if_pos hk) hx hl2, r3⟩
        have h5 : (⟨killTs ks t, (s'.o.set o.length .dead).take o.length⟩ : S) = ⟨killTs ks t, s'.o.take o.length⟩ := by rw [e]
        rw [← h5]
        exact h4
      · rename_i hlo2
        rw [hlo2] at r3
        simp only at r3
        rw [setO_is] at r3 ⊢
        exact ⟨g2, rfl, h3, hx, r3⟩
    · rename_i hl2
      rw [hl2] at r3
      simp only at r3
      rw [setO_is] at r3 ⊢
      exact ⟨g2, rfl, h3, hx, r3⟩
  cases e with
  | normal => exact key hk
  | exit i => exact hk.elim
  | ret => exact key hk
/-- Cells of one's own objects name objects that are there. -/
theorem lowL_of {n : Nat} (hout : ∀ k, n ≤ k → g k = .nilFunc) : ∀ {cs : List V} {us : List Value}, AtVs I w g us cs → (∀ u ∈ us, u.oneCell' = true) → lowL n cs = true
  | [], us, h, _ => rfl
  | c :: cs, us, h, h1 => by
    obtain ⟨u, us', rfl, h2, h3⟩ := h.uncons
    have hlt : ∀ k, g k ≠ .nilFunc → Nat.blt k n = true := fun k hk => by
      rw [Nat.blt_eq]
      rcases Nat.lt_or_ge k n with h4 | h4
      · exact h4
      · exact absurd (hout k h4) hk
    have hc : lowV n c = true := by
      have hu := h1 u (List.mem_cons_self ..)
      cases h2 with
      | d hh => rfl
      | ag => cases hu
      | tu => cases hu
      | em => rfl
      | own k A m cap hh => exact hlt k (by rw [hh]; simp)
      | ptr k off b hh => exact hlt k (by rw [hh]; simp)
      | cl f us ks hl hh =>
        rw [lowV]
        have key : ∀ (ks : List Nat), (∀ k ∈ ks, g k ≠ .nilFunc) → lowN n ks = true := by
          intro ks
          induction ks with
          | nil => intro _; rfl
          | cons k ks ih =>
            intro h
            rw [lowN, hlt k (h k (List.mem_cons_self ..))]
            exact ih fun k hk => h k (List.mem_cons_of_mem _ hk)
        refine key ks fun k hk => ?_
        obtain ⟨i, hi⟩ := List.mem_iff_getElem?.1 hk
        have hlt' : i < us.length := by rw [hl]; exact (List.getElem?_eq_some_iff.1 hi).1
        obtain ⟨_, b, hb⟩ := hh i _ k (List.getElem?_eq_getElem hlt') hi
        rw [hb]; simp
      | el k i sz off b m cap hh => exact hlt k (by rw [hh]; simp)
      | ro b o off us cs hi hc hd => rfl
      | mp k b hh => exact hlt k (by rw [hh]; simp)
      | jk v => rfl
    rw [lowL, hc]
    exact lowL_of hout h3 fun u hu => h1 u (List.mem_cons_of_mem _ hu)
theorem RelI.low (h : RelI I0 X w0 I g s a w) : lowO s.o.length s.o = true := by
  have key : ∀ l : List O, (∀ o ∈ l, ∀ cs, o = .box cs → lowL s.o.length cs = true) → lowO s.o.length l = true := by
    intro l
    induction l with
    | nil => intro _; rfl
    | cons o l ih =>
      intro h
      have h2 := ih fun o ho => h o (List.mem_cons_of_mem _ ho)
      cases o with
      | box cs => rw [lowO, h _ (List.mem_cons_self ..) cs rfl]; exact h2
      | _ => exact h2
  refine key s.o fun o ho cs e => ?_
  subst e
  obtain ⟨k, hk⟩ := List.mem_iff_getElem?.1 ho
  obtain ⟨b, us, t, h1, h2, h3, h4, _⟩ := h.obj k _ hk
  exact lowL_of h.out h3 h4
/-- Rows that were made behind a marker play no part for it. -/
def keepLt (p : Nat) : List Nat → List Nat
  | [] => []
  | k :: l => match Nat.ble p k with | true => keepLt p l | false => k :: keepLt p l
def trim1 (p : Nat) : O → O
  | .kl ks => .kl (keepLt p ks)
  | x => x
def trimK : Nat → List O → List O
  | _, [] => []
  | p, x :: l => trim1 p x :: trimK (p + 1) l
theorem keepLt_mem {p : Nat} : ∀ {l : List Nat} {k : Nat}, k ∈ l → k < p → k ∈ keepLt p l
  | [], k, h, _ => by simp at h
  | j :: l, k, h, hp => by
    rw [keepLt]
    split
    · rename_i hj
      rcases List.mem_cons.1 h with rfl | h
      · have := Nat.le_of_ble_eq_true hj; omega
      · exact keepLt_mem h hp
    · rcases List.mem_cons.1 h with rfl | h
      · exact List.mem_cons_self ..
      · exact List.mem_cons_of_mem _ (keepLt_mem h hp)
theorem trimK_get : ∀ (l : List O) (p i : Nat), (trimK p l)[i]? = (l[i]?).map (trim1 (p + i))
  | [], p, i => by simp [trimK]
  | x :: l, p, 0 => by simp [trimK]
  | x :: l, p, i + 1 => by rw [trimK]; simp only [List.getElem?_cons_succ]; rw [trimK_get l (p + 1) i]; congr 2; omega
theorem trimK_len (p : Nat) (l : List O) : (trimK p l).length = l.length := by
  induction l generalizing p with
  | nil => rfl
  | cons x l ih => rw [trimK, List.length_cons, ih, List.length_cons]
theorem trim1_dead {p : Nat} {o : O} (h : trim1 p o ≠ .dead) : o ≠ .dead := by rintro rfl; exact h rfl
theorem RelI.trimKl (h : RelI I0 X w0 I g s a w) : RelI I0 X w0 I g ⟨s.t, trimK 0 s.o⟩ a w := by
  have hlv : ∀ k, live ⟨s.t, trimK 0 s.o⟩ k → live s k := fun k ⟨o, ho, hd⟩ => by
    simp only [trimK_get, Option.map_eq_some_iff] at ho
    obtain ⟨o', ho', rfl⟩ := ho
    exact ⟨o', ho', trim1_dead hd⟩
  refine ⟨h.im, h.lt, h.fr, h.kp, by rw [trimK_len]; exact h.lo, h.st, fun j o hj => ?_, fun i j b hi hj => h.dis i j b (hlv i hi) (hlv j hj), fun j hj => h.out j (by rw [trimK_len] at hj; exact hj), h.tmp, h.dfr⟩
  simp only [trimK_get, Option.map_eq_some_iff, Nat.zero_add] at hj
  obtain ⟨o', ho', rfl⟩ := hj
  have hob := h.obj j o' ho'
  cases o' with
  | kl ks =>
    obtain ⟨us, e1, e2, e3⟩ := hob
    refine ⟨us, e1, e2, fun i u hu => ?_⟩
    rcases e3 i u hu with e4 | e4 | e4
    · exact .inl e4
    · exact .inr (.inl e4)
    · have := (Array.getElem?_eq_some_iff.1 hu).1
      exact .inr (.inr (keepLt_mem e4 (by omega)))
  | _ => exact hob
theorem keepLt_sub {p : Nat} : ∀ {l : List Nat} {k : Nat}, k ∈ keepLt p l → k ∈ l
  | [], k, h => by simp [keepLt] at h
  | j :: l, k, h => by
    rw [keepLt] at h
    split at h
    · exact List.mem_cons_of_mem _ (keepLt_sub h)
    · rcases List.mem_cons.1 h with rfl | h
      · exact List.mem_cons_self ..
      · exact List.mem_cons_of_mem _ (keepLt_sub h)
theorem trim1_live {p : Nat} {o : O} (h : o ≠ .dead) : trim1 p o ≠ .dead := by cases o <;> simp_all [trim1]
theorem RelI.untrim {t : List V} {o : List O} (h : RelI I0 X w0 I g ⟨t, trimK 0 o⟩ a w) : RelI I0 X w0 I g ⟨t, o⟩ a w := by
  have hlv : ∀ k, live ⟨t, o⟩ k → live ⟨t, trimK 0 o⟩ k := fun k ⟨x, hx, hd⟩ => ⟨trim1 (0 + k) x, by simp only [trimK_get, hx]; rfl, trim1_live hd⟩
  refine ⟨h.im, h.lt, h.fr, h.kp, by have := h.lo; rw [trimK_len] at this; exact this, h.st, fun j x hj => ?_, fun i j b hi hj => h.dis i j b (hlv i hi) (hlv j hj), fun j hj => h.out j (by rw [trimK_len]; exact hj), h.tmp, h.dfr⟩
  have hob := h.obj j (trim1 (0 + j) x) (by simp only [trimK_get]; rw [show o[j]? = some x from hj]; rfl)
  cases x with
  | kl ks =>
    obtain ⟨us, e1, e2, e3⟩ := hob
    refine ⟨us, e1, e2, fun i u hu => ?_⟩
    rcases e3 i u hu with e4 | e4 | e4
    · exact .inl e4
    · exact .inr (.inl e4)
    · exact .inr (.inr (keepLt_sub e4))
  | _ => exact hob
/-- The end of a call that turns no object. -/
def retQ (a : Ar) (o : List O) (l : List ResultVar) (q : List R) : Vm.X → S → Prop
  | .exit _, _ => False
  | .normal, s => resO a s l fun res => getO (trimK 0 s.o) (lenO o) = .kl [] ∧ takeO (lenO o) (trimK 0 s.o) = trimK 0 o ∧ toRs s.o res = some q
  | .ret, s => resO a s l fun res => getO (trimK 0 s.o) (lenO o) = .kl [] ∧ takeO (lenO o) (trimK 0 s.o) = trimK 0 o ∧ toRs s.o res = some q
theorem atRes_pkg {us : List Value} {q : List R} (h : AtRs I w us q) : AtRes I w (pkg us) q := by
  match us, q, h with
  | [], [], h => exact ⟨[], rfl, h⟩
  | [u], [r], h => exact h.1
  | u :: u' :: us, r :: r' :: q, h => exact ⟨_, rfl, h⟩
theorem qin_ok {f : Nat} {fn : Func} {c : Code} {vs : List V} {o : List O} {q : List R} (hf : Tryd.prog.funcs[f]? = some fn) (hb : fn.body = some c) (hn : (fn.name != "runtime.NumGoroutine") = true) (hc : okCode Tryd.prog c = true) (hr : okRes fn.results.toList = true)
    (h : exec real c (startI vs o (fn.ntmps - lenL vs)) (fun x s => retQ real o fn.results.toList q x s)) : SoundQ f vs o q := by
  refine ⟨by unfold fnOk; rw [hf]; simp only [hn, hb]; rfl, ?_⟩
  intro I0 X w0 I g t a w us hrel hv
  refine calls_of_wp hf hb ?_
  have hsz : us.toArray.size = lenL vs := by rw [lenL_is]; simp [hv.1]
  rw [hsz]
  obtain ⟨g', hg, hgn, h1⟩ := hrel.rebase hv
  have hstart : RelI I (Xof g' (snocO o (.kl []))) ⟨w, g', o.length + 1, []⟩ I g' (startI vs o (fn.ntmps - lenL vs)) { tmps := us.toArray ++ Array.replicate (fn.ntmps - lenL vs) undef, defers := [] } w := by
    refine ⟨h1.im, h1.lt, h1.fr, h1.kp, h1.lo, h1.st, h1.obj, h1.dis, h1.out, ?_, rfl⟩
    show AtVs I w _ (us.toArray ++ Array.replicate (fn.ntmps - lenL vs) undef).toList (appV vs (uns (fn.ntmps - lenL vs)))
    rw [appV_is, Array.toList_append, uns_is]
    refine AtVs.append h1.tmp ?_
    rw [Array.toList_replicate]
    refine ⟨by simp, fun i u c hu hc => ?_⟩
    rw [List.getElem?_replicate] at hu hc
    split at hu
    · rename_i hi
      rw [if_pos hi] at hc
      injection hu with hu
      injection hc with hc
      subst hu; subst hc
      exact .tu [] [] rfl fun i u c hu _ => by simp at hu
    · cases hu
  refine exec_ok c _ _ _ _ _ hc ⟨I, _, hstart⟩ h fun e s' a' w' hrel2 hk => ?_
  have key : resO real s' fn.results.toList (fun res => getO (trimK 0 s'.o) (lenO o) = .kl [] ∧ takeO (lenO o) (trimK 0 s'.o) = trimK 0 o ∧ toRs s'.o res = some q) → a'.defers = [] ∧ ∃ v, (results fn a'.tmps).run Tryd.prog w' = .ok v w' ∧ ∃ v' I' g', Ending.returned v = .returned v' ∧ RelI I0 X w0 I' g' ⟨t, o⟩ a w' ∧ AtRes I' w' v' q := fun hk => by
    obtain ⟨I2, g2, h2⟩ := hrel2
    obtain ⟨us2, res, r1, r2, r3, r4, r5⟩ := resultsO_at h2 hr hk
    have hks' := getO_some r3 (by simp)
    rw [lenO_is] at hks' r4
    rw [takeO_is] at r4
    have h2' := h2.trimKl
    obtain ⟨hcut, h3⟩ := hrel.unbase hg hgn h2' hks'
    have hlo : o.length + 1 ≤ s'.o.length := h2.lo
    have e : ((trimK 0 s'.o).set o.length .dead).take o.length = trimK 0 o := by
      rw [List.take_set_of_le (Nat.le_refl _), r4]
    have h4 := h3.trim (n := o.length) hrel.lo (by show o.length ≤ ((trimK 0 s'.o).set _ _).length; rw [List.length_set, trimK_len]; omega) hcut (by show lowO _ (((trimK 0 s'.o).set _ _).take _) = true; rw [e]; have := hrel.trimKl.low; rw [trimK_len] at this; exact this)
    have h5 : (⟨killTs [] t, ((trimK 0 s'.o).set o.length .dead).take o.length⟩ : S) = ⟨t, trimK 0 o⟩ := by rw [e]; rfl
    refine ⟨h2.dfr, _, r1, pkg us2, I2, cutG o.length g2, rfl, RelI.untrim ?_, atRes_pkg (toRs_at h2 r2 r5)⟩
    rw [← h5]
    exact h4
  cases e with
  | normal => exact key hk
  | exit i => exact hk.elim
  | ret => exact key hk
end
end Go.Proofs.YtgedpbpfoaljhaaDoor.Vm

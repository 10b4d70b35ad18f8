/- The machine of values: code. -/
import Derived.Test.YtgedpbpfoaljhaaDoorVStep
import Derived.Deep.LoopGhost
import Derived.Sort.LoopGhostIn
import Derived.OrdersIn
import Derived.TacticsIn
import Derived.RangeFuncCalls
set_option linter.unusedVariables false
set_option linter.unusedSimpArgs false
namespace Go.Proofs.YtgedpbpfoaljhaaDoor.Vm
open Go.RowKit
def inD : List (Option Nat) → Nat → Bool
  | [], _ => false
  | some x :: l, i => match eqN x i with | true => true | false => inD l i
  | none :: l, i => inD l i
/-- A load, a store at a slot that the region doesn't fill. -/
def ldSlot (dsts : List (Option Nat)) : Oper → Option Nat
  | ⟨_, .load _ (.tmp i), _, _, _, none⟩ => match inD dsts i with | true => none | false => some i
  | _ => none
def stSlot (dsts : List (Option Nat)) : Oper → Option Nat
  | ⟨none, .store _ (.tmp i) _, _, _, _, none⟩ => match inD dsts i with | true => none | false => some i
  | _ => none
def slotsOf (f : Oper → Option Nat) : List Oper → List Nat
  | [] => []
  | o :: l => match f o with | some i => i :: slotsOf f l | none => slotsOf f l
def pairs1 (i : Nat) : List Nat → List (Nat × Nat)
  | [] => []
  | k :: l => match eqN i k with | true => pairs1 i l | false => (i, k) :: pairs1 i l
def pairsL (ks : List Nat) : List Nat → List (Nat × Nat)
  | [] => []
  | i :: l => pairs1 i ks ++ pairsL ks l
/-- Slots whose addresses must not meet. -/
def lsPairs (ops : List Oper) : List (Nat × Nat) := pairsL (slotsOf (stSlot (dstsOf ops)) ops) (slotsOf (ldSlot (dstsOf ops)) ops)
def distB : V → V → Bool
  | .ptr j _, .ptr m _ => notB (eqN j m)
  | .el j _ _ _, .el m _ _ _ => notB (eqN j m)
  | _, _ => true
def preOk : List (Nat × Nat) → List V → Bool
  | [], _ => true
  | (i, k) :: l, t => match distB (getN t i) (getN t k) with | true => preOk l t | false => false
/-- What code comes to: by which way it is left, and in which state. -/
def exec (a : Ar) : Code → S → (X → S → Prop) → Prop
  | .skip, s, K => K .normal s
  | .region _ ops d, s, K => match d with
    | false => run a true (dstsOf ops.toList) ops.toList s (fun s => K .normal s)
    | true => match preOk (lsPairs ops.toList) s.t with
      | true => run a false (dstsOf ops.toList) ops.toList s (fun s => K .normal s)
      | false => False
  | .seq c d, s, K => exec a c s (fun x s => thenX (fun s => a.next (fun s => exec a d s K) s) K x s)
  | .cond c d e, s, K => match s.get c with
    | .d (.sc (.bool b)) => match b with
      | true => exec a d s K
      | false => exec a e s K
    | _ => False
  | .block id c, s, K => exec a c s (fun x s => blockX id K x s)
  | .exit i, s, K => K (.exit i) s
  | .ret, s, K => K .ret s
  | .loop c, s, K => a.loop c (fun s K => exec a c s K) s K
  | _, _, _ => False
def okOps (P : Program) (ops : List Oper) : Bool := ops.all fun o => okOp P o.op
section
variable {I0 : Nat → Nat → Prop} {X : Nat → Prop} {w0 : W0} {I : Nat → Nat → Prop} {g : Nat → Value} {s : S} {a : Act} {w : World}
def cutG (n : Nat) (g : Nat → Value) : Nat → Value := fun k => if k < n then g k else .nilFunc
theorem lowV_at {g' : Nat → Value} {n : Nat} (hg : ∀ k, k < n → g' k = g k) {v : Value} {x : V} (h : AtV I w g v x) (hl : lowV n x = true) : AtV I w g' v x := by
  cases h with
  | d h => exact .d h
  | ag us cs h1 h2 => cases hl
  | tu us cs h1 h2 => cases hl
  | em => exact .em
  | own k A m cap h => exact .own k A m cap ((hg k (by simpa [lowV, Nat.blt_eq] using hl)).trans h)
  | ptr k off b h => exact .ptr k off b ((hg k (by simpa [lowV, Nat.blt_eq] using hl)).trans h)
  | cl f us ks hu h =>
    rw [lowV] at hl
    exact .cl f us ks hu fun i u k hi hk => by
      obtain ⟨h1, b, h2⟩ := h i u k hi hk
      have h3 := hg k (lowN_at hl hk)
      exact ⟨h1.trans h3.symm, b, h3.trans h2⟩
  | el k i sz off b m cap h => exact .el k i sz off b m cap ((hg k (by simpa [lowV, Nat.blt_eq] using hl)).trans h)
  | ro b o off us cs h1 h2 h3 => exact .ro b o off us cs h1 h2 h3
  | mp k b h => exact .mp k b ((hg k (by simpa [lowV, Nat.blt_eq] using hl)).trans h)
  | jk v => exact .jk v
theorem lowL_at {g' : Nat → Value} {n : Nat} (hg : ∀ k, k < n → g' k = g k) : ∀ {cs : List V} {us : List Value}, AtVs I w g us cs → lowL n cs = true → AtVs I w g' us cs
  | [], us, h, _ => by rw [h.unnil]; exact .nil I w g'
  | c :: cs, us, h, hl => by
    obtain ⟨u, us', rfl, h1, h2⟩ := h.uncons
    rw [lowL] at hl
    split at hl
    · rename_i hc; exact .cons (lowV_at hg h1 hc) (lowL_at hg h2 hl)
    · cases hl
theorem low2_at {g' : Nat → Value} {n : Nat} (hg : ∀ k, k < n → g' k = g k) {v : Value} {x : V} (h : AtV I w g v x) (hl : low2 n x = true) : AtV I w g' v x := by
  cases x with
  | ag cs => obtain ⟨us, rfl, h2⟩ := h.unag; exact atV_ag (lowL_at hg h2 hl)
  | tu cs =>
    cases cs with
    | nil =>
      obtain ⟨us, rfl, h2⟩ := h.untu
      rw [h2.unnil]
      exact atV_tu (.nil I w g')
    | cons c cs => cases hl
  | d x => exact lowV_at hg h hl
  | em => exact lowV_at hg h hl
  | own k => exact lowV_at hg h hl
  | ptr k off => exact lowV_at hg h hl
  | cl f ks => exact lowV_at hg h hl
  | el k i sz off => exact lowV_at hg h hl
  | ro cs off => exact lowV_at hg h hl
  | mp k => exact lowV_at hg h hl
  | jk => exact .jk _
theorem lowT_at {g' : Nat → Value} {n : Nat} (hg : ∀ k, k < n → g' k = g k) : ∀ {cs : List V} {us : List Value}, AtVs I w g us cs → lowT n cs = true → AtVs I w g' us cs
  | [], us, h, _ => by rw [h.unnil]; exact .nil I w g'
  | c :: cs, us, h, hl => by
    obtain ⟨u, us', rfl, h1, h2⟩ := h.uncons
    rw [lowT] at hl
    split at hl
    · rename_i hc; exact .cons (low2_at hg h1 hc) (lowT_at hg h2 hl)
    · cases hl
theorem weakL_at : ∀ {l m : List V} {us : List Value}, AtVs I w g us l → weakL l m → AtVs I w g us m
  | [], [], us, h, _ => h
  | [], _ :: _, us, h, hw => by cases hw
  | x :: l, [], us, h, hw => by cases hw
  | x :: l, y :: m, us, h, hw => by
    obtain ⟨u, us', rfl, h1, h2⟩ := h.uncons
    by_cases hy : y = .jk
    · subst hy
      exact .cons (.jk _) (weakL_at h2 hw)
    · have hw' : x = y ∧ weakL l m := by
        cases y <;> first | exact absurd rfl hy | exact hw
      exact .cons (hw'.1 ▸ h1) (weakL_at h2 hw'.2)
theorem subN_at : ∀ {l m : List Nat}, subN l m = true → ∀ j ∈ l, j ∈ m
  | [], m, _, j, hj => by simp at hj
  | k :: l, m, h, j, hj => by
    rw [subN] at h
    split at h
    · rename_i hk
      rcases List.mem_cons.1 hj with rfl | hj
      · exact memN_is.1 hk
      · exact subN_at h j hj
    · cases h
/-- Objects of a weaker state. -/
theorem weakO_get : ∀ {l m : List O}, weakO l m → m.length ≤ l.length ∧ ∀ (k : Nat) (o' : O), m[k]? = some o' → o' = O.dead ∨ (∃ cs ds, l[k]? = some (.box cs) ∧ o' = .box ds ∧ weakL cs ds) ∨ (∃ ks js, l[k]? = some (.kl ks) ∧ o' = .kl js ∧ subN ks js = true) ∨ (l[k]? = some o' ∧ (∀ cs, o' ≠ .box cs) ∧ ∀ ks, o' ≠ .kl ks)
  | l, [], _ => ⟨Nat.zero_le _, fun k o' h => by simp at h⟩
  | [], y :: m, h => by cases y <;> cases h
  | x :: l, y :: m, h => by
    have key : weakO l m ∧ (y = .dead ∨ (∃ cs ds, x = .box cs ∧ y = .box ds ∧ weakL cs ds) ∨ (∃ ks js, x = .kl ks ∧ y = .kl js ∧ subN ks js = true) ∨ (x = y ∧ (∀ cs, y ≠ .box cs) ∧ ∀ ks, y ≠ .kl ks)) := by
      cases y with
      | dead => cases x <;> exact ⟨h, .inl rfl⟩
      | box ds => cases x <;> first | exact ⟨h.2, .inr (.inl ⟨_, _, rfl, rfl, h.1⟩)⟩ | cases h
      | kl js => cases x <;> first | exact ⟨h.2, .inr (.inr (.inl ⟨_, _, rfl, rfl, h.1⟩))⟩ | cases h
      | row z e r =>
        cases x with
        | row z2 e2 r2 =>
          obtain ⟨⟨rfl, rfl, rfl⟩, h2⟩ := h
          exact ⟨h2, .inr (.inr (.inr ⟨rfl, by simp, by simp⟩))⟩
        | _ => exact h.elim
      | mp kt es =>
        cases x with
        | mp kt2 es2 =>
          obtain ⟨⟨rfl, rfl⟩, h2⟩ := h
          exact ⟨h2, .inr (.inr (.inr ⟨rfl, by simp, by simp⟩))⟩
        | _ => exact h.elim
    obtain ⟨h1, h2⟩ := weakO_get key.1
    refine ⟨by simp; exact h1, fun k o' hk => ?_⟩
    cases k with
    | zero =>
      simp at hk
      subst hk
      rcases key.2 with h | ⟨cs, ds, rfl, h4, h5⟩ | ⟨ks, js, rfl, h4, h5⟩ | ⟨rfl, h4⟩
      · exact .inl h
      · exact .inr (.inl ⟨cs, ds, rfl, h4, h5⟩)
      · exact .inr (.inr (.inl ⟨ks, js, rfl, h4, h5⟩))
      · exact .inr (.inr (.inr ⟨rfl, h4⟩))
    | succ k => simpa using h2 k o' (by simpa using hk)
/-- A weaker state is borne. -/
theorem RelI.weak (h : RelI I0 X w0 I g s a w) {s' : S} (hn : w0.n ≤ s'.o.length) (hw : weak s s') : RelI I0 X w0 I (cutG s'.o.length g) s' a w := by
  obtain ⟨h1, h2, h3, h4⟩ := hw
  obtain ⟨hlen, hobj⟩ := weakO_get h2
  rw [lenO_is] at h3 h4
  have hg : ∀ k, k < s'.o.length → cutG s'.o.length g k = g k := fun k hk => if_pos hk
  refine ⟨h.im, h.lt, h.fr, h.kp, hn, fun k hk hr => (hg k (by omega)).trans (h.st k hk hr), fun k o ho => ?_, fun j k b hj hk hbj hbk => ?_, fun k hk => if_neg (by omega), lowT_at hg (weakL_at h.tmp h1) h3, h.dfr⟩
  · have hk : k < s'.o.length := (List.getElem?_eq_some_iff.1 ho).1
    rcases hobj k o ho with rfl | ⟨cs, ds, h5, rfl, h6⟩ | ⟨ks, js, h5, rfl, h6⟩ | ⟨h5, hnb, hnk⟩
    · exact True.intro
    · obtain ⟨b, us, t, e1, e2, e3, e4⟩ := h.obj k _ h5
      exact ⟨b, us, t, (hg k hk).trans e1, e2, lowL_at hg (weakL_at e3 h6) (lowO_at h4 ho), e4⟩
    · obtain ⟨us, e1, e2, e3⟩ := h.obj k _ h5
      refine ⟨us, (hg k hk).trans e1, e2, fun j u hu => ?_⟩
      have hj := (Array.getElem?_eq_some_iff.1 hu).1
      rcases e3 j u hu with e4 | e4 | e4
      · exact .inl e4
      · exact .inr (.inl ((hg j (by omega)).trans e4))
      · exact .inr (.inr (subN_at h6 j e4))
    · cases o with
      | dead => exact True.intro
      | box cs => exact absurd rfl (hnb cs)
      | kl ks => exact absurd rfl (hnk ks)
      | row z e r =>
        obtain ⟨us, e1, e2, e3, e4⟩ := h.obj k _ h5
        exact ⟨us, by rw [hg k hk]; exact e1, e2, e3, by rw [hg k hk]; exact e4⟩
      | mp kt es =>
        obtain ⟨b, l, c, e1, e2⟩ := h.obj k _ h5
        exact ⟨b, l, c, (hg k hk).trans e1, e2⟩
  · have live' : ∀ j, live s' j → j < s'.o.length ∧ live s j := fun j ⟨o, ho, hd⟩ => by
      refine ⟨(List.getElem?_eq_some_iff.1 ho).1, ?_⟩
      rcases hobj j o ho with rfl | ⟨cs, ds, h5, _, _⟩ | ⟨ks, js, h5, _, _⟩ | ⟨h5, _⟩
      · exact absurd rfl hd
      · exact ⟨_, h5, by simp⟩
      · exact ⟨_, h5, by simp⟩
      · exact ⟨_, h5, hd⟩
    obtain ⟨hj1, hj2⟩ := live' j hj
    obtain ⟨hk1, hk2⟩ := live' k hk
    rw [hg j hj1] at hbj
    rw [hg k hk1] at hbk
    exact h.dis j k b hj2 hk2 hbj hbk
theorem Rel.weak (h : Rel I0 X w0 s a w) {s' : S} (hn : w0.n ≤ s'.o.length) (hw : s = s' ∨ weak s s') : Rel I0 X w0 s' a w := by
  obtain ⟨I, g, h⟩ := h
  rcases hw with rfl | hw
  · exact ⟨I, g, h⟩
  · exact ⟨I, _, h.weak hn hw⟩
theorem dsts_get : ∀ (l : List Oper) (j : Nat) (d : Nat), getD (dstsOf l) j = some d → (l[j]?).bind (·.dst) = some d
  | [], j, d, h => by cases h
  | o :: l, 0, d, h => by simpa [dstsOf, getD] using h
  | o :: l, j + 1, d, h => by rw [dstsOf, getD] at h; simpa using dsts_get l j d h
/-- A guard's value. -/
theorem guard_at (h : Rel I0 X w0 s a w) {ops : Array Oper} {j : Nat} {K : Option Bool → Prop} (hK : guard s (dstsOf ops.toList) j K) : ∃ c, yielded ops a.tmps j = c ∧ K c := by
  obtain ⟨I, g, h⟩ := h
  unfold guard at hK
  split at hK <;> try exact hK.elim
  rename_i d hd
  have hdst := dsts_get _ _ _ hd
  rw [Array.getElem?_toList] at hdst
  have tmp : ∀ x, getN s.t d = x → x ≠ .jk → ∃ v, a.tmps[d]? = some v ∧ AtV I w g v x := fun x hx hj => by
    have h1 := getN_some hx hj
    have hlt : d < a.tmps.toList.length := by rw [h.tmp.1]; exact (List.getElem?_eq_some_iff.1 h1).1
    exact ⟨a.tmps.toList[d], by rw [← Array.getElem?_toList]; exact List.getElem?_eq_getElem hlt, h.tmp.2 d _ _ (List.getElem?_eq_getElem hlt) h1⟩
  split at hK <;> try exact hK.elim
  · rename_i c hc
    obtain ⟨v, h1, h2⟩ := tmp _ hc (by simp)
    obtain rfl := h2.sc
    exact ⟨some c, by simp [yielded, hdst, h1], hK⟩
  · rename_i hc
    obtain ⟨v, h1, h2⟩ := tmp _ hc (by simp)
    obtain ⟨us, rfl, h3⟩ := h2.untu
    rw [h3.unnil] at h1
    exact ⟨none, by simp [yielded, hdst, h1], hK⟩
/-- The fence that lets all pass, within a round of a range over a function or in none. -/
def FW (ro : Option Nat) : Fence := { Fence.wide with round := ro }
theorem callsFW {ro : Option Nat} {n : Nat} {P : Program} {f : FuncId} {args : Array Value} {w : World} {R : Ending → World → Prop} (h : Calls P f args w R) : CallsIn (FW ro) n P f args w R := callsIn_wide.2 h
/-- An operation is carried out in a round as everywhere. -/
theorem op_in {ro : Option Nat} {n : Nat} {P : Program} {o : Oper} {a : Act} {w : World} {next : Act → World → Prop} {Q : Exit → Act → World → Prop} (hd : ∀ c, o.op ≠ .defer c) (h : o.wp P a w next Q) : o.wpIn (FW ro) n P a w next Q := by
  refine ⟨fun _ _ => trivial, ?_⟩
  rw [Oper.semAt_eq _ _ _ hd]
  unfold Oper.wp at h
  generalize (execOp a.eval o).run P w = r at h ⊢
  cases r with
  | ok x w' =>
    cases x with
    | enter f args => exact ⟨fun h => (by cases h), callsFW h⟩
    | row f args => exact ⟨fun h => (by cases h), fun c cs _ => let ⟨v, w2, h1, h2⟩ := h c cs; ⟨v, w2, h1, stepsIn_wide.2 h2⟩⟩
    | value v => exact h
    | skip => exact h
    | defer d => exact h
    | _ => exact h.elim
  | halt x w' => cases x <;> exact h
theorem no_defer {P : Program} {op : Op} (h : okOp P op = true) (c : Call) (hc : op = .defer c) : False := by subst hc; cases h
theorem run_ok {m : Bool} {ro : Option Nat} {n : Nat} {ops : Array Oper} {Q : Exit → Act → World → Prop} {K : S → Prop} (hQ : ∀ s' a' w', Rel I0 X w0 s' a' w' → K s' → Q .normal a' w') : ∀ (l : List Oper) (s : S) (a : Act) (w : World), (∀ o ∈ l, okOp Tryd.prog o.op = true) → Rel I0 X w0 s a w → run real m (dstsOf ops.toList) l s K → wpListIn (FW ro) n Tryd.prog ops Q l a w
  | [], s, a, w, _, h, hK => hQ _ _ _ h hK
  | ⟨dst, op, type, pos, after, gd⟩ :: l, s, a, w, hok, h, hK => by
    have hop := hok _ (List.mem_cons_self ..)
    have hrest : ∀ a' w', (∃ s', Rel I0 X w0 s' a' w' ∧ run real m (dstsOf ops.toList) l s' K) → wpListIn (FW ro) n Tryd.prog ops Q l a' w' := fun a' w' ⟨s', h1, h2⟩ => run_ok hQ l s' a' w' (fun o ho => hok o (List.mem_cons_of_mem _ ho)) h1 h2
    have hstep : ∀ {Kw : Act → World → Prop}, (∀ a w, wpListIn (FW ro) n Tryd.prog ops Q l a w → Kw a w) → step real m s dst (fun s => run real m (dstsOf ops.toList) l s K) op → Oper.wpIn (FW ro) n Tryd.prog ⟨dst, op, type, pos, after, gd⟩ a w Kw Q := fun hKw hs => by
      obtain ⟨I, g, h⟩ := h
      exact op_in (fun c hc => no_defer hop c hc) (Oper.wp_mono (fun a' w' hx => hKw _ _ (hrest a' w' hx)) (step_ok h (o := ⟨dst, op, type, pos, after, gd⟩) (Q := Q) hop hs))
    have hskip : run real m (dstsOf ops.toList) l (s.put dst vun) K → wpListIn (FW ro) n Tryd.prog ops Q l (a.put dst undef) w := fun hs => by
      obtain ⟨I, g, h⟩ := h
      exact run_ok hQ l _ _ w (fun o ho => hok o (List.mem_cons_of_mem _ ho)) ⟨I, g, h.put (x := vun) (.tu [] [] rfl (fun i u c hu _ => by simp at hu)) dst⟩ hs
    refine wpListIn_step fun Kw hKw => ?_
    cases gd with
    | none =>
      rw [if_pos (by rfl)]
      rw [run] at hK
      exact hstep hKw hK
    | some jb =>
      obtain ⟨j, b⟩ := jb
      rw [run] at hK
      obtain ⟨c, hc, hK⟩ := guard_at h hK
      have hw : Region.wanted ⟨dst, op, type, pos, after, some (j, b)⟩ (yielded ops a.tmps) = (c == some b) := by simp [Region.wanted, hc]
      rw [hw]
      cases c with
      | none =>
        rw [if_neg (by simp)]
        exact ⟨fun _ _ => trivial, hKw _ _ (hskip hK)⟩
      | some c =>
        simp only at hK
        split at hK
        · rename_i hb
          rw [bEq_is] at hb
          rw [if_pos (by simpa using hb)]
          exact hstep hKw hK
        · rename_i hb
          rw [bEq_is] at hb
          rw [if_neg (by simpa using hb)]
          exact ⟨fun _ _ => trivial, hKw _ _ (hskip hK)⟩
end
end Go.Proofs.YtgedpbpfoaljhaaDoor.Vm

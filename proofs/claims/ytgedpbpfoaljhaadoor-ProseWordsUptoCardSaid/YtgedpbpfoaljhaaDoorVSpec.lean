/- The machine of values: what a function is told to do; the arithmetic that is meant. -/
import Derived.Test.YtgedpbpfoaljhaaDoorVRun
set_option linter.unusedVariables false
set_option linter.unusedSimpArgs false
namespace Go.Proofs.YtgedpbpfoaljhaaDoor.Vm
open Go.RowKit
def AtRs (I : Nat → Nat → Prop) (w : World) : List Value → List R → Prop
  | [], [] => True
  | v :: vs, r :: rs => AtR I w v r ∧ AtRs I w vs rs
  | _, _ => False
/-- What is handed back: one value, or a tuple. -/
def AtRes (I : Nat → Nat → Prop) (w : World) (v : Value) : List R → Prop
  | [r] => AtR I w v r
  | rs => ∃ us, v = .tuple us.toArray ∧ AtRs I w us rs
/-- What nobody turns behind a call: what nobody turned ahead of it, and what the call has made. -/
def nxt (I : Nat → Nat → Prop) (w w' : World) (b h : Nat) : Prop := I b h ∨ (w.heap.size ≤ b ∧ b < w'.heap.size)
def fnOk (P : Program) (f : Nat) : Bool := match P.funcs[f]? with | some fn => fn.name != "runtime.NumGoroutine" && fn.body.isSome | none => false
/-- The function f, handed values that read as rs, hands back what reads as q; it turns nothing. -/
def Spec (f : Nat) (rs q : List R) : Prop := fnOk Tryd.prog f = true ∧ ∀ (I : Nat → Nat → Prop) (w : World) (args : List Value), (∀ b h, I b h → b < w.heap.size) → AtRs I w args rs →
  Calls Tryd.prog f args.toArray w fun e w' => ∃ v, e = .returned v ∧ AtRes (nxt I w w') w' v q ∧ Below w.heap.size w w'
theorem AtRs.mono {I I' : Nat → Nat → Prop} {w w' : World} (hI : ∀ b h, I b h → I' b h) (hk : Keeps I w w') : ∀ {vs : List Value} {rs : List R}, AtRs I w vs rs → AtRs I' w' vs rs
  | [], [], _ => trivial
  | _ :: _, _ :: _, h => ⟨h.1.mono hI hk, h.2.mono hI hk⟩
  | [], _ :: _, h => h.elim
  | _ :: _, [], h => h.elim
theorem AtRs.len {I : Nat → Nat → Prop} {w : World} : ∀ {vs : List Value} {rs : List R}, AtRs I w vs rs → vs.length = rs.length
  | [], [], _ => rfl
  | _ :: _, _ :: _, h => by simp [h.2.len]
  | [], _ :: _, h => h.elim
  | _ :: _, [], h => h.elim
theorem resR_at {I : Nat → Nat → Prop} {w : World} (g : Nat → Value) {v : Value} {r : R} (h : AtR I w v r) : AtV I w g v (resR r) := by
  cases r with
  | one x => exact .d h
  | ag xs => obtain ⟨us, rfl, h2⟩ := h; exact atV_ag (h2.toV g)
theorem resRs_at {I : Nat → Nat → Prop} {w : World} (g : Nat → Value) : ∀ {vs : List Value} {rs : List R}, AtRs I w vs rs → AtVs I w g vs (resRs rs)
  | [], [], _ => .nil I w g
  | _ :: _, _ :: _, h => .cons (resR_at g h.1) (resRs_at g h.2)
  | [], _ :: _, h => h.elim
  | _ :: _, [], h => h.elim
theorem resV_at {I : Nat → Nat → Prop} {w : World} (g : Nat → Value) {v : Value} {rs : List R} (h : AtRes I w v rs) : AtV I w g v (resV rs) := by
  match rs, h with
  | [], h => obtain ⟨us, rfl, h2⟩ := h; exact atV_tu (resRs_at g h2)
  | [r], h => exact resR_at g h
  | r :: r' :: rs, h => obtain ⟨us, rfl, h2⟩ := h; exact atV_tu (resRs_at g h2)
section
variable {I0 : Nat → Nat → Prop} {X : Nat → Prop} {w0 : W0} {I : Nat → Nat → Prop} {g : Nat → Value} {s : S} {a : Act} {w : World}
theorem toD_at (h : RelI I0 X w0 I g s a w) {v : Value} {x : V} {d : D} (hv : AtV I w g v x) (hd : toD s.o x = some d) : AtD I w v d := by
  cases x with
  | d x => rw [toD] at hd; injection hd with hd; subst hd; cases hv with | d h => exact h
  | em => rw [toD] at hd; injection hd with hd; subst hd; cases hv; exact .nil _ _ _
  | own k =>
    rw [toD] at hd
    split at hd
    · rename_i e rows ho
      injection hd with hd
      subst hd
      have hk := getO_some ho (by simp)
      obtain ⟨us, h1, h2, h3, h4⟩ := h.obj k _ hk
      cases hv with
      | own k A n cap hg =>
        rcases h1.2 with ⟨e1, e2⟩ | ⟨g1, cap1, cur, e1, _, hh, hnc, _⟩
        · rw [hg] at e1
          injection e1 with e1 e3 e4
          subst e1; subst e3; subst e4
          rw [List.eq_nil_of_length_eq_zero e2]
          exact .nil _ _ _
        · rw [hg] at e1
          injection e1 with e1 e3 e4
          subst e1; subst e3; subst e4
          refine .sl g1 0 cap _ rows us hnc ?_ h2 h1.1 (fun i u hu => ?_) h3.2
          · rw [Nat.zero_add]; exact ⟨_, Nat.le_refl _, (h4 g1 (by rw [hg]; rfl)).1 rfl⟩
          · rw [Nat.zero_add]
            have hlt : i < rows.length * (ty e).sz := by rw [← h1.1]; exact (List.getElem?_eq_some_iff.1 hu).1
            rw [hg] at h1
            rw [World.ownsRow.cellAt h1 i hlt, hu]
    · cases hd
  | ag cs => rw [toD] at hd <;> first | cases hd | simp
  | tu cs => rw [toD] at hd <;> first | cases hd | simp
  | ptr k off => rw [toD] at hd <;> first | cases hd | simp
  | cl f ks =>
    cases ks with
    | nil =>
      rw [toD] at hd
      injection hd with hd
      subst hd
      cases hv with
      | cl f us ks hl h =>
        rw [List.eq_nil_of_length_eq_zero hl]
        exact .sc _ rfl
    | cons k ks => rw [toD] at hd <;> first | cases hd | simp
  | el k i sz off => rw [toD] at hd <;> first | cases hd | simp
  | ro cs off => rw [toD] at hd <;> first | cases hd | simp
  | mp k => rw [toD] at hd <;> first | cases hd | simp
  | jk => rw [toD] at hd <;> first | cases hd | simp
theorem toDs_at (h : RelI I0 X w0 I g s a w) : ∀ {xs : List V} {vs : List Value} {ds : List D}, AtVs I w g vs xs → toDs s.o xs = some ds → AtDs I w vs ds
  | [], vs, ds, hv, hd => by
    rw [toDs] at hd
    injection hd with hd
    subst hd
    rw [hv.unnil]
    exact .nil I w
  | x :: xs, vs, ds, hv, hd => by
    obtain ⟨u, us, rfl, h1, h2⟩ := hv.uncons
    rw [toDs] at hd
    split at hd
    · rename_i y hy
      split at hd
      · rename_i ys hys
        injection hd with hd
        subst hd
        exact .cons (toD_at h h1 hy) (toDs_at h h2 hys)
      · cases hd
    · cases hd
theorem toR_at (h : RelI I0 X w0 I g s a w) {v : Value} {x : V} {r : R} (hv : AtV I w g v x) (hr : toR s.o x = some r) : AtR I w v r := by
  by_cases hx : ∃ l, x = .ag l
  · obtain ⟨l, rfl⟩ := hx
    rw [toR] at hr
    split at hr
    · rename_i ys hys
      injection hr with hr
      subst hr
      obtain ⟨us, rfl, h2⟩ := hv.unag
      exact ⟨us, rfl, toDs_at h h2 hys⟩
    · cases hr
  · rw [toR] at hr
    · split at hr
      · rename_i y hy
        injection hr with hr
        subst hr
        exact toD_at h hv hy
      · cases hr
    · exact fun l e => hx ⟨l, e⟩
theorem toRs_at (h : RelI I0 X w0 I g s a w) : ∀ {xs : List V} {vs : List Value} {rs : List R}, AtVs I w g vs xs → toRs s.o xs = some rs → AtRs I w vs rs
  | [], vs, rs, hv, hd => by
    rw [toRs] at hd
    injection hd with hd
    subst hd
    rw [hv.unnil]
    trivial
  | x :: xs, vs, rs, hv, hd => by
    obtain ⟨u, us, rfl, h1, h2⟩ := hv.uncons
    rw [toRs] at hd
    split at hd
    · rename_i y hy
      split at hd
      · rename_i ys hys
        injection hd with hd
        subst hd
        exact ⟨toR_at h h1 hy, toRs_at h h2 hys⟩
      · cases hd
    · cases hd
end
/-- A weaker state: some slots are whatever, the last objects are forgotten. -/
def weakL : List V → List V → Prop
  | [], [] => True
  | _ :: l, .jk :: m => weakL l m
  | x :: l, y :: m => x = y ∧ weakL l m
  | _, _ => False
def subN : List Nat → List Nat → Bool
  | [], _ => true
  | k :: l, m => match memN k m with | true => subN l m | false => false
def weakO : List O → List O → Prop
  | _, [] => True
  | .box cs :: l, .box ds :: m => weakL cs ds ∧ weakO l m
  | .row z e r :: l, .row z' e' r' :: m => (z = z' ∧ e = e' ∧ r = r') ∧ weakO l m
  | .mp k es :: l, .mp k' es' :: m => (k = k' ∧ es = es') ∧ weakO l m
  | .kl ks :: l, .kl ks' :: m => subN ks ks' = true ∧ weakO l m
  | _ :: l, .dead :: m => weakO l m
  | _, _ => False
def lowN (n : Nat) : List Nat → Bool
  | [] => true
  | k :: l => match Nat.blt k n with | true => lowN n l | false => false
/-- No object beyond n is named. -/
def lowV (n : Nat) : V → Bool
  | .own k => Nat.blt k n
  | .ptr k _ => Nat.blt k n
  | .cl _ ks => lowN n ks
  | .el k _ _ _ => Nat.blt k n
  | .mp k => Nat.blt k n
  | .ag _ => false
  | .tu _ => false
  | _ => true
def lowL (n : Nat) : List V → Bool
  | [] => true
  | x :: l => match lowV n x with | true => lowL n l | false => false
def low2 (n : Nat) : V → Bool
  | .ag cs => lowL n cs
  | .tu [] => true
  | .tu _ => false
  | x => lowV n x
def lowT (n : Nat) : List V → Bool
  | [] => true
  | x :: l => match low2 n x with | true => lowT n l | false => false
def lowO (n : Nat) : List O → Bool
  | [] => true
  | .box cs :: l => match lowL n cs with | true => lowO n l | false => false
  | _ :: l => lowO n l
def weak (s s' : S) : Prop := weakL s.t s'.t ∧ weakO s.o s'.o ∧ lowT (lenO s'.o) s'.t = true ∧ lowO (lenO s'.o) s'.o = true
theorem lowN_at {n : Nat} : ∀ {ks : List Nat} {i k : Nat}, lowN n ks = true → ks[i]? = some k → k < n
  | [], i, k, _, hk => by simp at hk
  | x :: ks, i, k, h, hk => by
    rw [lowN] at h
    split at h
    · rename_i hx
      cases i with
      | zero => simp at hk; subst hk; simpa [Nat.blt_eq] using hx
      | succ i => exact lowN_at h (by simpa using hk)
    · cases h
theorem lowO_at {n : Nat} : ∀ {l : List O} {k : Nat} {cs : List V}, lowO n l = true → l[k]? = some (.box cs) → lowL n cs = true
  | [], k, cs, _, h => by simp at h
  | x :: l, k, cs, hl, h => by
    cases k with
    | zero =>
      simp at h
      subst h
      rw [lowO] at hl
      split at hl
      · assumption
      · cases hl
    | succ k =>
      refine lowO_at (l := l) (k := k) ?_ (by simpa using h)
      cases x with
      | box ds =>
        rw [lowO] at hl
        split at hl
        · exact hl
        · cases hl
      | row z e r => exact hl
      | mp kt es => exact hl
      | kl ks => exact hl
      | dead => exact hl
end Go.Proofs.YtgedpbpfoaljhaaDoor.Vm

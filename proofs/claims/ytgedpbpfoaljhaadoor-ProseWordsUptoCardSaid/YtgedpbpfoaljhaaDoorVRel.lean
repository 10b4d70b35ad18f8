/- The machine of values: how a state of it stands to a state of the program. -/
import Derived.Test.YtgedpbpfoaljhaaDoorVMem
set_option linter.unusedVariables false
set_option linter.unusedSimpArgs false
namespace Go.Proofs.YtgedpbpfoaljhaaDoor.Vm
open Go.RowKit
/-- Nothing that lay there is turned, but for the blocks X. -/
structure Fr (X : Nat → Prop) (w w' : World) : Prop where
  os : w'.os = w.os
  tape : w'.tape = w.tape
  output : w'.output = w.output
  size : w.heap.size ≤ w'.heap.size
  block : ∀ b, b < w.heap.size → ¬ X b → w'.heap[b]? = w.heap[b]?
theorem Fr.refl (X : Nat → Prop) (w : World) : Fr X w w := ⟨rfl, rfl, rfl, Nat.le_refl _, fun _ _ _ => rfl⟩
/-- Where a call begins: its world, and the objects it is handed: what they are, how many; which calls wait for its end. -/
structure W0 where
  w : World
  g : Nat → Value
  n : Nat
  d : List Deferred
def gblk : Value → Option Nat
  | .pointer (some a) => some a.block
  | .slice (some a) _ _ => some a.block
  | .map (some b) => some b
  | _ => none
/-- A value that names its object for ever. -/
def isRef : Value → Bool
  | .pointer _ => true
  | .map _ => true
  | .agg _ => true
  | _ => false
/-- A block that the call may turn. -/
def Mine (X : Nat → Prop) (w0 : W0) (b : Nat) : Prop := w0.w.heap.size ≤ b ∨ X b
def AtR (I : Nat → Nat → Prop) (w : World) (v : Value) : R → Prop
  | .one x => AtD I w v x
  | .ag xs => ∃ us, v = .agg us.toArray ∧ AtDs I w us xs
theorem AtR.mono {I I' : Nat → Nat → Prop} {w w' : World} (hI : ∀ b h, I b h → I' b h) (hk : Keeps I w w') {v : Value} {r : R} (h : AtR I w v r) : AtR I' w' v r := by
  cases r with
  | one x => exact AtD.mono hI hk h
  | ag xs => obtain ⟨us, h1, h2⟩ := h; exact ⟨us, h1, h2.mono hI hk⟩
/-- A map's entries, and what they read as. -/
def AtEs (I : Nat → Nat → Prop) (w : World) (kt : Nat) (l : List MapEntry) (es : List (R × R)) : Prop := l.length = es.length ∧ ∀ (i : Nat) (e : MapEntry) (p : R × R), l[i]? = some e → es[i]? = some p → AtR I w e.key p.1 ∧ AtR I w e.val p.2 ∧ keyB kt p.1 = true
theorem AtEs.mono {I I' : Nat → Nat → Prop} {w w' : World} (hI : ∀ b h, I b h → I' b h) (hk : Keeps I w w') {kt : Nat} {l : List MapEntry} {es : List (R × R)} (h : AtEs I w kt l es) : AtEs I' w' kt l es :=
  ⟨h.1, fun i e p he hp => by obtain ⟨h1, h2, h3⟩ := h.2 i e p he hp; exact ⟨h1.mono hI hk, h2.mono hI hk, h3⟩⟩
def ObjAt (X : Nat → Prop) (w0 : W0) (I : Nat → Nat → Prop) (w : World) (g : Nat → Value) (k : Nat) : O → Prop
  | .dead => True
  | .box cs => ∃ b us t, g k = .pointer (some ⟨b, 0, none⟩) ∧ w.heap[b]? = some (.cells us.toArray t (0, 0)) ∧ AtVs I w g us cs ∧ (∀ u ∈ us, u.oneCell' = true) ∧ (∀ h, ¬ I b h) ∧ Mine X w0 b
  | .mp kt es => ∃ b l c, g k = .map (some b) ∧ w.heap[b]? = some (.map l c) ∧ AtEs I w kt l.toList es ∧ (∀ h, ¬ I b h) ∧ Mine X w0 b
  | .kl ks => ∃ us, g k = .agg us ∧ us.size ≤ k ∧ ∀ (j : Nat) (u : Value), us[j]? = some u → u = .nilFunc ∨ g j = u ∨ j ∈ ks
  | .row z e rows => ∃ us, w.ownsRow 0 e (ty e).sz (g k) rows.length us ∧ (∀ r ∈ rows, r.length = (ty e).sz) ∧ AtDs I w us rows.flatten ∧
      ∀ b, (g k).ownBlock = some b → (z = true → I b (rows.length * (ty e).sz)) ∧ (∀ h, I b h → z = true ∧ h ≤ rows.length * (ty e).sz) ∧ Mine X w0 b
def live (s : S) (k : Nat) : Prop := ∃ o, s.o[k]? = some o ∧ o ≠ .dead
structure RelI (I0 : Nat → Nat → Prop) (X : Nat → Prop) (w0 : W0) (I : Nat → Nat → Prop) (g : Nat → Value) (s : S) (a : Act) (w : World) : Prop where
  im : ∀ b h, I0 b h → I b h
  lt : ∀ b h, I b h → b < w.heap.size ∧ (b < w0.w.heap.size → I0 b h ∨ X b)
  fr : Fr X w0.w w
  kp : Keeps I0 w0.w w
  lo : w0.n ≤ s.o.length
  st : ∀ k, k < w0.n → isRef (w0.g k) = true → g k = w0.g k
  obj : ∀ k o, s.o[k]? = some o → ObjAt X w0 I w g k o
  dis : ∀ j k b, live s j → live s k → gblk (g j) = some b → gblk (g k) = some b → j = k
  out : ∀ k, s.o.length ≤ k → g k = .nilFunc
  tmp : AtVs I w g a.tmps.toList s.t
  dfr : a.defers = w0.d
def Rel (I0 : Nat → Nat → Prop) (X : Nat → Prop) (w0 : W0) (s : S) (a : Act) (w : World) : Prop := ∃ I g, RelI I0 X w0 I g s a w
theorem lenO_is : ∀ l : List O, lenO l = l.length
  | [] => rfl
  | _ :: l => by rw [lenO, lenO_is l]; rfl
theorem lenL_is {α : Type} : ∀ l : List α, lenL l = l.length
  | [] => rfl
  | _ :: l => by rw [lenL, lenL_is l]; rfl
theorem snocO_is (o : O) : ∀ l : List O, snocO l o = l ++ [o]
  | [] => rfl
  | x :: l => by rw [snocO, snocO_is o l]; rfl
theorem setO_is (o : O) : ∀ (l : List O) (k : Nat), setO l k o = l.set k o
  | [], _ => rfl
  | _ :: _, 0 => rfl
  | x :: l, k + 1 => by rw [setO, setO_is o l k]; rfl
theorem setN_is (v : V) : ∀ (l : List V) (k : Nat), setN l k v = l.set k v
  | [], _ => rfl
  | _ :: _, 0 => rfl
  | x :: l, k + 1 => by rw [setN, setN_is v l k]; rfl
theorem getO_some : ∀ {l : List O} {k : Nat} {o : O}, getO l k = o → o ≠ .dead → l[k]? = some o
  | [], _, _, h, hd => absurd h.symm hd
  | x :: _, 0, _, h, _ => by rw [getO] at h; rw [h]; rfl
  | x :: l, k + 1, _, h, hd => by rw [getO] at h; simpa using getO_some h hd
theorem getN_some : ∀ {l : List V} {k : Nat} {v : V}, getN l k = v → v ≠ .jk → l[k]? = some v
  | [], _, _, h, hd => absurd h.symm hd
  | x :: _, 0, _, h, _ => by rw [getN] at h; rw [h]; rfl
  | x :: l, k + 1, _, h, hd => by rw [getN] at h; simpa using getN_some h hd
theorem getN_get : ∀ (l : List V) (k : Nat), l[k]? = some (getN l k) ∨ (l.length ≤ k ∧ getN l k = .jk)
  | [], _ => .inr ⟨by simp, rfl⟩
  | x :: _, 0 => .inl rfl
  | x :: l, k + 1 => by
    rcases getN_get l k with h | ⟨h1, h2⟩
    · exact .inl (by simpa [getN] using h)
    · exact .inr ⟨by simp; exact h1, by rw [getN]; exact h2⟩
theorem dropN_is {α : Type} : ∀ (n : Nat) (l : List α), dropN n l = l.drop n
  | 0, _ => rfl
  | _ + 1, [] => rfl
  | n + 1, _ :: l => by rw [dropN, dropN_is n l]; rfl
theorem takeN_is {α : Type} : ∀ {n : Nat} {l m : List α}, takeN n l = some m → m = l.take n ∧ m.length = n
  | 0, _, _, h => by injection h with h; subst h; simp
  | _ + 1, [], _, h => by cases h
  | n + 1, x :: l, m, h => by
    rw [takeN] at h
    split at h
    · rename_i t ht
      injection h with h
      subst h
      have := takeN_is ht
      exact ⟨by simp [this.1], by simp [this.2]⟩
    · cases h
theorem eqN_is : ∀ {n m : Nat}, eqN n m = true ↔ n = m
  | 0, 0 => by simp [eqN]
  | 0, m + 1 => by simp [eqN]
  | n + 1, 0 => by simp [eqN]
  | n + 1, m + 1 => by rw [eqN, eqN_is]; omega
theorem eqN_no {n m : Nat} : eqN n m = false ↔ n ≠ m := by
  rw [← Bool.not_eq_true, eqN_is]
/-- Cells over others. -/
theorem splice_is {α : Type} : ∀ {l : List α} {n : Nat} {m r : List α}, splice l n m = some r → r = l.take n ++ m ++ l.drop (n + m.length) ∧ n + m.length ≤ l.length
  | l, 0, [], r, h => by
    rw [splice] at h
    injection h with h
    subst h
    simp
  | x :: l, 0, y :: ys, r, h => by
    rw [splice] at h
    split at h
    · rename_i t ht
      injection h with h
      subst h
      obtain ⟨e, hl⟩ := splice_is ht
      refine ⟨?_, by simp at hl ⊢; omega⟩
      rw [e]
      simp
    · cases h
  | x :: l, n + 1, ys, r, h => by
    rw [splice] at h
    split at h
    · rename_i t ht
      injection h with h
      subst h
      obtain ⟨e, hl⟩ := splice_is ht
      refine ⟨?_, by simp at hl ⊢; omega⟩
      rw [e]
      simp [Nat.add_right_comm]
    · cases h
  | [], n + 1, ys, r, h => by rw [splice] at h; cases h
  | [], 0, y :: ys, r, h => by rw [splice] at h; cases h
theorem AtVs.splice {I : Nat → Nat → Prop} {w : World} {g : Nat → Value} {us vs : List Value} {cs ds r : List V} {n : Nat} (h : AtVs I w g us cs) (h' : AtVs I w g vs ds) (hr : splice cs n ds = some r) : AtVs I w g (us.take n ++ vs ++ us.drop (n + vs.length)) r := by
  obtain ⟨e, _⟩ := splice_is hr
  subst e
  rw [h'.1]
  exact ((h.take n).append h').append (h.drop _)
section
variable {I0 : Nat → Nat → Prop} {X : Nat → Prop} {w0 : W0} {I : Nat → Nat → Prop} {g : Nat → Value} {s : S} {a : Act} {w : World}
/-- An operand's value. -/
theorem constV_at (v : Value) : AtV I w g v (constV v) := by
  unfold constV
  split
  · exact .em
  · exact .jk _
  · exact .jk _
  · rename_i h1 h2 h3
    refine .d (.sc _ ?_)
    cases v <;> first | rfl | (exfalso; exact h2 _ rfl) | (exfalso; exact h3 _ rfl)
theorem constL_at : ∀ l : List Value, AtVs I w g l (constL l)
  | [] => .nil I w g
  | x :: l => .cons (constV_at x) (constL_at l)
theorem RelI.get (h : RelI I0 X w0 I g s a w) (x : Operand) : AtV I w g (a.eval x) (s.get x) := by
  cases x with
  | tmp i =>
    show AtV I w g (a.tmps.getD i undef) (getN s.t i)
    rcases getN_get s.t i with h1 | ⟨_, h2⟩
    · have hi : i < s.t.length := (List.getElem?_eq_some_iff.1 h1).1
      have hi' : i < a.tmps.size := by have h2 := h.tmp.1; rw [Array.length_toList] at h2; rw [h2]; exact hi
      have h3 := h.tmp.2 i a.tmps[i] _ (by simp [hi']) h1
      rw [Array.getD_eq_getD_getElem?, Array.getElem?_eq_getElem hi']
      exact h3
    · rw [h2]; exact .jk _
  | const v => exact constV_at v
  | global k => exact .jk _
  | func f => exact .cl f [] [] rfl fun i u k hu _ => by simp at hu
theorem RelI.gets (h : RelI I0 X w0 I g s a w) : ∀ l : List Operand, AtVs I w g (l.map a.eval) (getVs s.get l)
  | [] => .nil I w g
  | x :: l => .cons (h.get x) (h.gets l)
/-- A slot is filled. -/
theorem RelI.put (h : RelI I0 X w0 I g s a w) {v : Value} {x : V} (hv : AtV I w g v x) (dst : Option Nat) : RelI I0 X w0 I g (s.put dst x) (a.put dst v) w := by
  cases dst with
  | none => exact h
  | some d =>
    refine ⟨h.im, h.lt, h.fr, h.kp, h.lo, h.st, h.obj, h.dis, h.out, ?_, h.dfr⟩
    show AtVs I w g (a.tmps.setIfInBounds d v).toList (setN s.t d x)
    rw [setN_is, Array.toList_setIfInBounds]
    exact h.tmp.set hv d
theorem Fr.drew {wz : World} (h : Fr X wz w) : Fr X wz w.drew := ⟨h.os, h.tape, h.output, h.size, h.block⟩
theorem Fr.drewN {wz : World} (h : Fr X wz w) (n : Nat) : Fr X wz (w.drewN n) := ⟨h.os, h.tape, h.output, h.size, h.block⟩
/-- A draw turns nothing. -/
theorem RelI.drew (h : RelI I0 X w0 I g s a w) : RelI I0 X w0 I g s a w.drew := by
  have hk : Keeps I w w.drew := fun _ _ _ _ _ => rfl
  refine ⟨h.im, h.lt, h.fr.drew, h.kp, h.lo, h.st, fun k o ho => ?_, h.dis, h.out, h.tmp.mono (fun _ _ h => h) hk, h.dfr⟩
  have := h.obj k o ho
  cases o with
  | dead => exact True.intro
  | box cs => obtain ⟨b, us, t, h1, h2, h3, h4, h5, h6⟩ := this; exact ⟨b, us, t, h1, h2, h3.mono (fun _ _ h => h) hk, h4, h5, h6⟩
  | row z e rows => obtain ⟨us, h1, h2, h3, h4⟩ := this; exact ⟨us, h1, h2, h3.mono (fun _ _ h => h) hk, h4⟩
  | mp kt es => obtain ⟨b, l, c, h1, h2, h3, h4⟩ := this; exact ⟨b, l, c, h1, h2, h3.mono (fun _ _ h => h) hk, h4⟩
  | kl ks => exact this
/-- A live object's block. -/
theorem ObjAt.blk {k : Nat} {o : O} (h : ObjAt X w0 I w g k o) (hd : o ≠ .dead) : ∀ b, gblk (g k) = some b → b < w.heap.size ∧ Mine X w0 b := by
  intro b hb
  cases o with
  | dead => exact absurd rfl hd
  | box cs =>
    obtain ⟨b', us, t, h1, h2, h3, h4, h5, h6⟩ := h
    rw [h1] at hb
    injection hb with hb
    subst hb
    exact ⟨(Array.getElem?_eq_some_iff.1 h2).1, h6⟩
  | row z e rows =>
    obtain ⟨us, h1, h2, h3, h4⟩ := h
    rcases h1.2 with ⟨e0, _⟩ | ⟨g', cap, cur, e0, _, hh, _⟩
    · rw [e0] at hb; cases hb
    · rw [e0] at hb
      injection hb with hb
      subst hb
      exact ⟨(Array.getElem?_eq_some_iff.1 hh).1, (h4 _ (by rw [e0]; rfl)).2.2⟩
  | mp kt es =>
    obtain ⟨b', l, c, h1, h2, h3, h4, h5⟩ := h
    rw [h1] at hb
    injection hb with hb
    subst hb
    exact ⟨(Array.getElem?_eq_some_iff.1 h2).1, h5⟩
  | kl ks =>
    obtain ⟨us, h1, _⟩ := h
    rw [h1] at hb
    cases hb
/-- An object is as it was where its block is, and what nothing turns is kept. -/
theorem ObjAt.keep {k : Nat} {o : O} {w' : World} {I' : Nat → Nat → Prop} (h : ObjAt X w0 I w g k o) (hI : ∀ b h, I b h → I' b h) (hk : Keeps I w w') (hb : ∀ b, gblk (g k) = some b → w'.heap[b]? = w.heap[b]?) (hI' : ∀ b, gblk (g k) = some b → ∀ h, I' b h → I b h) : ObjAt X w0 I' w' g k o := by
  cases o with
  | dead => exact True.intro
  | box cs =>
    obtain ⟨b, us, t, h1, h2, h3, h4, h5, h6⟩ := h
    have hg : gblk (g k) = some b := by rw [h1]; rfl
    exact ⟨b, us, t, h1, (hb b hg).trans h2, h3.mono hI hk, h4, fun h h' => h5 h (hI' b hg h h'), h6⟩
  | row z e rows =>
    obtain ⟨us, h1, h2, h3, h4⟩ := h
    have hblk : ∀ b, (g k).ownBlock = some b → gblk (g k) = some b := fun b hb' => by
      rcases h1.2 with ⟨e0, _⟩ | ⟨g', cap, cur, e0, _⟩ <;> rw [e0] at hb' ⊢ <;> first | exact hb' | cases hb'
    refine ⟨us, ⟨h1.1, ?_⟩, h2, h3.mono hI hk, fun b hb' => ⟨fun hz => hI _ _ ((h4 b hb').1 hz), fun h h' => (h4 b hb').2.1 h (hI' b (hblk b hb') h h'), (h4 b hb').2.2⟩⟩
    rcases h1.2 with h0 | ⟨g', cap, cur, e0, hb', hh, r⟩
    · exact .inl h0
    · exact .inr ⟨g', cap, cur, e0, hb', (hb g' (by rw [e0]; rfl)).trans hh, r⟩
  | mp kt es =>
    obtain ⟨b, l, c, h1, h2, h3, h4, h5⟩ := h
    have hg : gblk (g k) = some b := by rw [h1]; rfl
    exact ⟨b, l, c, h1, (hb b hg).trans h2, h3.mono hI hk, fun h h' => h4 h (hI' b hg h h'), h5⟩
  | kl ks => exact h
/-- A world that has grown, turning nothing: new blocks that nobody turns. -/
theorem RelI.grow (h : RelI I0 X w0 I g s a w) {w' : World} (hb : Below w.heap.size w w') {I' : Nat → Nat → Prop} (hI : ∀ b k, I b k → I' b k) (hI' : ∀ b k, I' b k → I b k ∨ (w.heap.size ≤ b ∧ b < w'.heap.size)) : RelI I0 X w0 I' g s a w' := by
  have hk : Keeps I w w' := fun b k hbk i _ => hb.cell (p := ⟨b, i, none⟩) (h.lt b k hbk).1
  refine ⟨fun b k hb => hI _ _ (h.im b k hb), fun b k hbk => ?_, ?_, h.kp.trans fun b k hbk i hi => hk b k (h.im b k hbk) i hi, h.lo, h.st, fun k o ho => ?_, h.dis, h.out, h.tmp.mono hI hk, h.dfr⟩
  · rcases hI' b k hbk with h1 | ⟨h1, h2⟩
    · exact ⟨Nat.lt_of_lt_of_le (h.lt b k h1).1 hb.size, (h.lt b k h1).2⟩
    · exact ⟨h2, fun h3 => absurd (Nat.lt_of_lt_of_le h3 h.fr.size) (by omega)⟩
  · exact ⟨hb.os.trans h.fr.os, hb.tape.trans h.fr.tape, hb.output.trans h.fr.output, Nat.le_trans h.fr.size hb.size, fun b hb1 hX => (hb.block b (Nat.lt_of_lt_of_le hb1 h.fr.size)).trans (h.fr.block b hb1 hX)⟩
  · cases hd : o with
    | dead => exact True.intro
    | box cs =>
      have ho' := h.obj k o ho
      rw [hd] at ho'
      refine ho'.keep hI hk (fun b hb' => hb.block b (ho'.blk (by simp) b hb').1) fun b hb' k' hk' => ?_
      rcases hI' b k' hk' with h1 | ⟨h1, _⟩
      · exact h1
      · have := (ho'.blk (by simp) b hb').1; omega
    | row z e rows =>
      have ho' := h.obj k o ho
      rw [hd] at ho'
      refine ho'.keep hI hk (fun b hb' => hb.block b (ho'.blk (by simp) b hb').1) fun b hb' k' hk' => ?_
      rcases hI' b k' hk' with h1 | ⟨h1, _⟩
      · exact h1
      · have := (ho'.blk (by simp) b hb').1; omega
    | mp kt es =>
      have ho' := h.obj k o ho
      rw [hd] at ho'
      refine ho'.keep hI hk (fun b hb' => hb.block b (ho'.blk (by simp) b hb').1) fun b hb' k' hk' => ?_
      rcases hI' b k' hk' with h1 | ⟨h1, _⟩
      · exact h1
      · have := (ho'.blk (by simp) b hb').1; omega
    | kl ks =>
      have ho' := h.obj k o ho
      rw [hd] at ho'
      refine ho'.keep hI hk (fun b hb' => hb.block b (ho'.blk (by simp) b hb').1) fun b hb' k' hk' => ?_
      rcases hI' b k' hk' with h1 | ⟨h1, _⟩
      · exact h1
      · have := (ho'.blk (by simp) b hb').1; omega
end
end Go.Proofs.YtgedpbpfoaljhaaDoor.Vm

/- Part 16 of the proof: VApL, VTree7, VAp3. Conditions: none. -/
import Derived.Test.YtclehkgnacekkaaB8
import Derived.Test.YtclehkgnacekkaaB12
import Derived.Test.YtclehkgnacekkaaB14
import Derived.Test.YtclehkgnacekkaaB15
set_option linter.all false
set_option linter.unusedVariables false
set_option linter.unusedSimpArgs false
section
namespace Go.Proofs.Ytclehkgnacekkaa.Vm
open Go.RowKit
theorem putPs_map (l : List (Int × Ty)) : ∀ ts : List Ty, putP.putPs l ts = ts.map (putP l)
  | [] => by rw [putP.putPs]; rfl
  | t :: ts => by rw [putP.putPs, putPs_map l ts]; rfl
theorem ofS_fit {l : List (Int × Ty)} {n : Int} {row : Bool} {p : Int × Ty} (h : ofS l n row = some p) : p ∈ l ∧ fitB row p.2 = true := by
  unfold ofS at h
  have h1 := List.find?_some h
  simp only [Bool.and_eq_true] at h1
  exact ⟨List.mem_of_find?_eq_some h, h1.2⟩
theorem fit_shape {row : Bool} {t : Ty} (h : fitB row t = true) : shapeB wordB t (if row = true then 114 else 116) = true := by
  unfold fitB at h
  cases row <;> simp only [rightB, Bool.and_eq_true] at h ⊢ <;> exact h.1
theorem var_sort {W : ByteArray → Bool} {op : Int} {nm : ByteArray} {n : Int} {ks : List Ty} {s : Int} (h : shapeB W (.mk op nm n ks) s = true) : (op = 7 → s ≠ 114) ∧ (op = 10 → s = 114) := by
  obtain ⟨k, hk, h1, _⟩ := shape_parts h
  simp only [Ty.op] at h1
  refine ⟨fun e => ?_, fun e => ?_⟩
  · subst e
    simpa using h1
  · subst e
    simpa using h1
theorem shape_sort {W : ByteArray → Bool} {t : Ty} {s : Int} (h : shapeB W t s = true) (hs : s ≠ 114) : shapeB W t 116 = true := by
  obtain ⟨k, hk, h1, h2, h3, h4, h5, h6⟩ := shape_parts h
  obtain ⟨op, nm, n, ks⟩ := t
  refine shape_mk hk ?_ h2 h3 h4 h5 h6
  have e : (s == 114) = false := by simpa using hs
  rw [e] at h1
  exact h1
theorem shape_to {W : ByteArray → Bool} {t : Ty} {s : Int} (h : shapeB W t 116 = true) (hs : s ≠ 114) : shapeB W t s = true := by
  obtain ⟨k, hk, h1, h2, h3, h4, h5, h6⟩ := shape_parts h
  obtain ⟨op, nm, n, ks⟩ := t
  refine shape_mk hk ?_ h2 h3 h4 h5 h6
  have e : (s == 114) = false := by simpa using hs
  rw [e]
  exact h1
theorem shape_any {W : ByteArray → Bool} (t : Ty) : ∀ s, shapeB W t s = true → ∀ x ∈ t.parts, ∃ c, shapeB W x c = true := by
  induction t using Ty.ind with
  | h t ih =>
    intro s h x hx
    rw [parts_kids] at hx
    rcases List.mem_cons.1 hx with rfl | hx
    · exact ⟨s, h⟩
    · obtain ⟨y, hy, hx⟩ := List.mem_flatMap.1 hx
      obtain ⟨k, hk, h1, h2, h3, h4, h5, h6⟩ := shape_parts h
      obtain ⟨c, hc⟩ := shapes_mem W _ _ h6 y hy
      exact ih y hy c hc x hx
theorem shape_thin {W : ByteArray → Bool} {t : Ty} {s : Int} (h : shapeB W t s = true) : Thin t := fun x hx => by
  obtain ⟨c, hc⟩ := shape_any t s h x hx
  obtain ⟨k, hk, h1, h2, _⟩ := shape_parts hc
  rw [h2]
  unfold kidsS at hk
  repeat' split at hk
  all_goals first | cases hk; simp | cases hk
theorem putT_node (l : List (Int × Ty)) {op : Int} (nm : ByteArray) (n : Int) (ks : List Ty) (h : ¬ (op = 7 ∨ op = 10)) : putT l (.mk op nm n ks) = .mk op nm n (ks.map (putT l)) := by rw [putT, if_neg h, putTs_map]
theorem putP_node (l : List (Int × Ty)) {op : Int} (nm : ByteArray) (n : Int) (ks : List Ty) (h : ¬ (op = 7 ∨ op = 10)) : putP l (.mk op nm n ks) = .mk op nm n (ks.map (putP l)) := by rw [putP, if_neg h, putPs_map]
theorem ofS_sort {l : List (Int × Ty)} {op : Int} {nm : ByteArray} {n : Int} {ks : List Ty} {s : Int} {p : Int × Ty} (h : shapeB wordB (.mk op nm n ks) s = true) (hop : op = 7 ∨ op = 10) (hp : ofS l n (op == 10) = some p) : shapeB wordB p.2 s = true ∧ shapeB wordB p.2 (if (op == 10) = true then 114 else 116) = true := by
  have h1 := fit_shape (ofS_fit hp).2
  have h2 := var_sort h
  refine ⟨?_, h1⟩
  rcases hop with rfl | rfl
  · exact shape_to h1 (h2.1 rfl)
  · rw [h2.2 rfl]; exact h1
theorem putT_shape (l : List (Int × Ty)) (t : Ty) : ∀ s, shapeB wordB t s = true → shapeB wordB (putT l t) s = true := by
  induction t using Ty.ind with
  | h t ih =>
    intro s h
    obtain ⟨op, nm, n, ks⟩ := t
    by_cases hop : op = 7 ∨ op = 10
    · rw [putT, if_pos hop]
      cases hp : ofS l n (op == 10) with
      | none => exact h
      | some p => exact (ofS_sort h hop hp).1
    · rw [putT_node l nm n ks hop]
      obtain ⟨k, hk, h1, h2, h3, h4, h5, h6⟩ := shape_parts h
      exact shape_mk hk h1 (by rw [List.length_map]; exact h2) h3 h4 h5 (shapes_map h6 fun x hx k hxk => ih x hx k hxk)
theorem putP_shape (l : List (Int × Ty)) (t : Ty) : ∀ s, shapeB wordB t s = true → shapeB wordB (putP l t) s = true := by
  induction t using Ty.ind with
  | h t ih =>
    intro s h
    obtain ⟨op, nm, n, ks⟩ := t
    by_cases hop : op = 7 ∨ op = 10
    · rw [putP, if_pos hop]
      cases hp : ofS l n (op == 10) with
      | none => exact h
      | some p => exact canon_shape _ p.2 s (Nat.le_refl _) (ofS_sort h hop hp).1
    · rw [putP_node l nm n ks hop]
      obtain ⟨k, hk, h1, h2, h3, h4, h5, h6⟩ := shape_parts h
      exact shape_mk hk h1 (by rw [List.length_map]; exact h2) h3 h4 h5 (shapes_map h6 fun x hx k hxk => ih x hx k hxk)
theorem put_leaf (l : List (Int × Ty)) {t : Ty} {s : Int} (h : shapeB wordB t s = true) (hk : t.kids = []) (h11 : t.op ≠ 11) : putP l t = canonS (putT l t) := by
  obtain ⟨op, nm, n, ks⟩ := t
  obtain rfl : ks = [] := hk
  by_cases hop : op = 7 ∨ op = 10
  · rw [putP, if_pos hop, putT, if_pos hop]
    cases hp : ofS l n (op == 10) with
    | none => exact (canon_end h11 rfl).symm
    | some p => rfl
  · rw [putP_node l nm n [] hop, putT_node l nm n [] hop]
    exact (canon_end h11 rfl).symm
end Go.Proofs.Ytclehkgnacekkaa.Vm
end
section
namespace Go.Proofs.Ytclehkgnacekkaa.Vm
open Go.RowKit
def rb1 (j n : Nat) (x : V) : V → V
  | .bs i m => match eqN i j with | true => (match eqN m n with | true => x | false => .bs i m) | false => .bs i m
  | .ag _ => .jk
  | .tu _ => .jk
  | y => y
section
variable {I0 : Nat → Nat → Prop} {X : Nat → Prop} {w0 : W0} {I : Nat → Nat → Prop} {g : Nat → Value} {s : S} {a : Act} {w : World}
theorem RelI.frzBs (h : RelI I0 X w0 I g s a w) {j n e : Nat} {cs : List V} {ds : List D} {rows : List (List D)} (hj : s.o[j]? = some (.box cs)) (hds : toDs s.o cs = some ds) (hr1 : rows.flatten = ds) (hr2 : rows.length = n) (hr3 : ∀ r ∈ rows, r.length = (ty e).sz) :
    Rel I0 X w0 ⟨fT (rb1 j n (.d (.sl (ty e).sz rows))) s.t, (fO (rb1 j n (.d (.sl (ty e).sz rows))) j s.o).set j .dead⟩ a w := by
  obtain ⟨b, us, t, hg, hb, hus, h1s, hIb, hMb⟩ := h.obj j _ hj
  have hlt := (List.getElem?_eq_some_iff.1 hj).1
  have hlj : live s j := ⟨_, hj, by simp⟩
  have hat := toDs_at h hus hds
  have hI : ∀ b' k, I b' k → (fun b' k => I b' k ∨ (b' = b ∧ k ≤ us.length)) b' k := fun b k h => .inl h
  have hul : us.length = rows.length * (ty e).sz := by rw [hat.1, ← hr1, flat_len hr3]
  have hsw := fun k => sw1_at (I := I) (I' := fun b' k => I b' k ∨ (b' = b ∧ k ≤ us.length)) (g := g) (g' := g) (w := w) (w' := w) (k := k) (x := .jk) hI (Keeps.refl I w) (fun _ _ _ => rfl) (fun _ _ => rfl) (fun v _ _ => .jk v) (fun _ _ _ _ => rfl)
  have hf : ∀ v y, AtV I w g v y → AtV (fun b' k => I b' k ∨ (b' = b ∧ k ≤ us.length)) w g v (rb1 j n (.d (.sl (ty e).sz rows)) y) := fun v y hy => by
    cases y with
    | bs i m =>
      show AtV _ w g v (match eqN i j with | true => (match eqN m n with | true => .d (.sl (ty e).sz rows) | false => .bs i m) | false => .bs i m)
      have h2 : AtV (fun b' k => I b' k ∨ (b' = b ∧ k ≤ us.length)) w g v (.bs i m) := hsw 0 v _ hy
      cases e1 : eqN i j
      · exact h2
      · cases e2 : eqN m n
        · exact h2
        · obtain rfl := eqN_is.1 e1
          obtain rfl := eqN_is.1 e2
          obtain ⟨b', cap, hgb, rfl, hcap⟩ := hy.unbs
          have e3 : b' = b := ptr_inj (hgb.symm.trans hg)
          subst e3
          rw [← hr2] at hcap ⊢
          refine .d (.sl b' 0 cap _ rows us hcap ⟨us.length, by omega, .inr ⟨rfl, Nat.le_refl _⟩⟩ hr3 hul (fun q u hu => ?_) (by rw [hr1]; exact (hat.mono hI (Keeps.refl I w)).2))
          rw [cell_of_row w b' (0 + q) (us ++ t.2).toArray t.1 (0, 0) hb]
          have hlt := (List.getElem?_eq_some_iff.1 hu).1
          simp only [List.getElem?_toArray, Nat.zero_add]
          rw [List.getElem?_append_left hlt]
          exact hu
    | own i =>
      have h2 := hsw (i + 1) v _ hy
      have e1 : eqN i (i + 1) = false := eqN_no.2 (by omega)
      have e2 : sw1 (i + 1) .jk (.own i) = .own i := by show (match eqN i (i + 1) with | true => V.jk | false => .own i) = _; rw [e1]
      rw [e2] at h2
      exact h2
    | ag cs => exact .jk _
    | tu cs => exact .jk _
    | d x => exact hsw 0 v _ hy
    | em => exact hsw 0 v _ hy
    | ptr j off => exact hsw 0 v _ hy
    | cl f ks => exact hsw 0 v _ hy
    | el i x sz off => exact hsw 0 v _ hy
    | ro cs off => exact hsw 0 v _ hy
    | mp j => exact hsw 0 v _ hy
    | jk => exact .jk _
  refine ⟨fun b' k => I b' k ∨ (b' = b ∧ k ≤ us.length), g, h.trade _ (fun i => i = j) (fun x => x = b) _ h.fr (Keeps.refl I w) (Nat.le_refl _) hI (fun x hx => ⟨j, rfl, hlj, by rw [hg, hx]; rfl⟩) (fun b' k h => h.imp id fun h => h.1) hf (fun _ _ _ _ _ => rfl) (fun i hi o ho => ⟨rfl, ?_⟩) (fun i hi o ho => ?_) (fun i1 i2 x hi1 hi2 _ _ _ _ => hi1.trans hi2.symm) (fun _ _ => rfl) (by rw [List.length_set, fO_len]; exact Nat.le_refl _) (fun i hi => h.out i (by rw [List.length_set, fO_len] at hi; exact hi))⟩
  · rw [List.getElem?_set_ne (Ne.symm hi)] at ho
    obtain ⟨o0, h1, h2⟩ := fO_get _ _ _ _ _ ho
    exact ⟨o0, h1, h2.imp id (Or.imp (fun ⟨ks, a1, a2⟩ => ⟨ks, _, a1, a2, fun i hi => List.mem_cons_of_mem _ hi, fun i _ => .inl rfl⟩) id)⟩
  · subst hi
    rw [List.getElem?_set_self (by rw [fO_len]; exact hlt)] at ho
    obtain rfl := Option.some.inj ho
    exact ⟨True.intro, fun hd => absurd rfl hd⟩
end
theorem Ghost.frzBs {s : S} {j n e : Nat} {cs : List V} {ds : List D} {rows : List (List D)} (hj : getO s.o j = .box cs) (hds : toDs s.o cs = some ds) (hch : chunks (ty e).sz n ds = some rows) : Ghost s ⟨fT (rb1 j n (.d (.sl (ty e).sz rows))) s.t, setO (fO (rb1 j n (.d (.sl (ty e).sz rows))) j s.o) j .dead⟩ := by
  rintro I0 X w0 a w ⟨I, g, h⟩
  rw [setO_is]
  obtain ⟨h1, h2, h3⟩ := chunks_is hch
  exact h.frzBs (getO_some hj (by simp)) hds h1 h2 h3
theorem Ghost.drop (s : S) (k : Nat) : Ghost s ⟨s.t, setO s.o k .dead⟩ := by
  rintro I0 X w0 a w ⟨I, g, h⟩
  rw [setO_is]
  refine ⟨I, g, h.im, h.lt, h.fr, h.kp, by simp only [List.length_set]; exact h.lo, h.st, fun i o ho => ?_, fun i j b hi hj => h.dis i j b (live_dead hi) (live_dead hj), fun i hi => h.out i (by simpa using hi), h.tmp, h.dfr⟩
  by_cases hd : o = .dead
  · subst hd; exact True.intro
  by_cases hik : k = i
  · subst hik
    rw [List.getElem?_set] at ho
    split at ho
    · split at ho
      · exact absurd (Option.some.inj ho).symm hd
      · cases ho
    · exact absurd rfl ‹¬_›
  · simp only [List.getElem?_set_ne hik] at ho
    exact h.obj i o ho
section
variable {qa : IntKind → Int → Int} {qb : Int → Int → Int} {qc : Int → Int → Int} {qd : Int → Int → Int} {qe : Int → Int → Int} {qf : Int → Int → Int} {qg : BinOp → IntKind → Int → IntKind → Int → Option Int} {qh : Int → Int → Bool} {qi : Int → Int → Bool} {qj : Int → Int → Bool} {qk : Int → Prop → Prop} {ql : List UInt8 → List UInt8 → Bool} {qm : List UInt8 → List UInt8 → Bool} {qo : ByteArray → List UInt8} {qp : ByteArray → ByteArray → ByteArray} {qq : ByteArray → ByteArray → Prop → Prop} {qs : ByteArray → Int} {qt : ByteArray → Int → Option Int} {qu : ByteArray → Int → Int → Option ByteArray} {qv : Int → Nat → Option Nat} {qw : List (List D) → Int} {qx : List (List D) → Int → Option (List D)} {qy : List (List D) → Int → Int → Option (List (List D))} {qz : List (List D) → List (List D) → List (List D)} {va : List (List D) → Int → List D → List (List D)} {vc : List (List D) → List (List D) → Prop → Prop} {vd : List (R × R) → R → Option R} {ve : List (R × R) → R → R → List (R × R)} {vf : Int → List D → (List (List D) → Prop) → Prop} {vg : Nat → List R → (List R → Prop) → Prop} {vh : Nat → List V → List O → (List R → Prop) → Prop} {vj : Nat → List V → S → (V → S → Prop) → Prop} {vk : Nat → (Bool → Prop) → Prop} {vl : Nat → (Bool → Prop) → Prop} {vp : Nat → (List V → List O → Prop) → List V → S → Prop} {vq : (S → Prop) → S → Prop} {vr : Op → Option Nat → S → (S → Prop) → Prop} {vt : Array Oper → S → (S → Prop) → Prop} {vu : Code → (S → (X → S → Prop) → Prop) → S → (X → S → Prop) → Prop}
theorem drop_is (hA : Ar.mk qa qb qc qd qe qf qg qh qi qj qk ql qm qo qp qq qs qt qu qv qw qx qy qz va vc vd ve vf vg vh vj vk vl vp vq vr vt vu = real) {N : S → Prop} {s : S} (k : Nat) (h : N ⟨s.t, setO s.o k .dead⟩) : vq N s := ghost_at hA _ (Ghost.drop s k) h
theorem frzbs_at (hA : Ar.mk qa qb qc qd qe qf qg qh qi qj qk ql qm qo qp qq qs qt qu qv qw qx qy qz va vc vd ve vf vg vh vj vk vl vp vq vr vt vu = real) {N : S → Prop} {s : S} (j n e : Nat) {cs : List V} (ds : List D) (rows : List (List D)) (hj : getO s.o j = .box cs) (hds : toDs s.o cs = some ds) (hch : chunks (ty e).sz n ds = some rows) (h : N ⟨fT (rb1 j n (.d (.sl (ty e).sz rows))) s.t, setO (fO (rb1 j n (.d (.sl (ty e).sz rows))) j s.o) j .dead⟩) : vq N s := ghost_at hA _ (Ghost.frzBs hj hds hch) h
end
end Go.Proofs.Ytclehkgnacekkaa.Vm
end
section
namespace Go.Proofs.Ytclehkgnacekkaa.Vm
open Go.RowKit
set_option maxRecDepth 100000
set_option maxHeartbeats 4000000
theorem sorted1_c : CmpS 105 := by
  intro n m x1 x2 x3 x4 y1 y2 y3 y4
  have hcm : cmpB n.toList m.toList = if Op.bytesLess n.toList m.toList = true then -1 else if Op.bytesLess m.toList n.toList = true then 1 else 0 := rfl
  have hne : Op.bytesLess n.toList m.toList = false → Op.bytesLess m.toList n.toList = (!(Op.bytesLess n.toList m.toList || n.toList == m.toList)) := fun h => by
    rw [h, Bool.false_or]
    cases h2 : Op.bytesLess m.toList n.toList with
    | true =>
      have : n.toList ≠ m.toList := fun e => by
        rw [e] at h2 h
        rw [h2] at h
        cases h
      rw [beq_eq_false_iff_ne.2 this]
      rfl
    | false =>
      have h3 := bytes_tri _ _ h h2
      rw [h3, beq_self_eq_true]
      rfl
  generalize cmpB n.toList m.toList = cv at *
  refine spec_of Try.func105 rfl (by kernel_rfl) (by kernel_rfl) (by kernel_rfl) fun qa qb qc qd qe qf qg qh qi qj qk ql qm qo qp qq qs qt qu qv qw qx qy qz va vc vd ve vf vg vh vj vk vl vp vq vr vt vu hA => ?_
  obtain ⟨s1, s2, s3, -⟩ := str_at hA
  have t1 : qm (qo n) (qo m) = Op.bytesLess n.toList m.toList := by rw [s2, s3, s3]
  have t2 : ql (qo n) (qo m) = (n.toList == m.toList) := by rw [s1, s3, s3]
  cases hb : Op.bytesLess n.toList m.toList with
  | true =>
    rw [hb] at t1 hcm
    rw [if_pos rfl] at hcm
    subst hcm
    cbv
    repeat (first | (with_reducible apply next_at hA; cbv) | (rw [t1]; cbv))
    try cbv
    repeat (first | (with_reducible apply next_at hA; cbv) | (rw [t1]; cbv))
    try simp (maxSteps := 4000000) only [nc] at *
  | false =>
    have hne := hne hb
    rw [hb] at t1 hcm hne
    rw [if_neg (by simp), hne] at hcm
    cases he : (n.toList == m.toList) with
    | true =>
      rw [he] at t2 hcm
      simp at hcm
      subst hcm
      cbv
      repeat (first | (with_reducible apply next_at hA; cbv) | (rw [t1]; cbv) | (rw [t2]; cbv))
      try cbv
      repeat (first | (with_reducible apply next_at hA; cbv) | (rw [t1]; cbv) | (rw [t2]; cbv))
      try simp (maxSteps := 4000000) only [nc] at *
    | false =>
      rw [he] at t2 hcm
      simp at hcm
      subst hcm
      cbv
      repeat (first | (with_reducible apply next_at hA; cbv) | (rw [t1]; cbv) | (rw [t2]; cbv))
      try cbv
      repeat (first | (with_reducible apply next_at hA; cbv) | (rw [t1]; cbv) | (rw [t2]; cbv))
      try simp (maxSteps := 4000000) only [nc] at *
end Go.Proofs.Ytclehkgnacekkaa.Vm
end

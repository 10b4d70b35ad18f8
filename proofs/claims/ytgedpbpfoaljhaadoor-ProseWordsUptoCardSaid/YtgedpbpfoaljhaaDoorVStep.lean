/- The machine of values: one step of it is one operation of the program. -/
import Derived.Test.YtgedpbpfoaljhaaDoorVMap
set_option linter.unusedVariables false
set_option linter.unusedSimpArgs false
namespace Go.Proofs.YtgedpbpfoaljhaaDoor.Vm
open Go.RowKit
def elemOk (t : Nat) : Bool := match (ty t).elem with | some e => tyKnown e | none => true
def valOk (t : Nat) : Bool := match (ty t).kind with
  | .array => match (ty t).val with | some e => tyKnown e | none => true
  | _ => true
theorem val_known {t : Nat} (h : valOk t = true) : (ty t).kind = .array → ∀ e, (ty t).val = some e → tyKnown e = true := fun hk e he => by
  unfold valOk at h
  rw [hk, he] at h
  exact h
/-- What the machine asks of an operation's own words. -/
def okOp (P : Program) : Op → Bool
  | .load t _ => tyKnown t
  | .store t _ _ => tyKnown t
  | .fieldAddr t _ _ => tyKnown t
  | .field t _ _ => tyKnown t && (ty t).fty.all tyKnown
  | .indexAddr t _ _ => (tyKnown t && elemOk t) && valOk t
  | .index t _ _ => tyKnown t && valOk t
  | .binOp _ t _ _ _ => eqOk t
  | .lookup t _ _ _ => tyKnown t && mapOk t
  | .mapUpdate t _ _ _ => tyKnown t && mapOk t
  | .convert t u _ => tyKnown t && tyKnown u
  | .build t _ => tyKnown t && valOk t
  | .buildSlice t n _ => (tyKnown t && Nat.ble n 16777216) && match (ty t).elem with | some e => tyKnown e && Nat.ble (n * (ty e).sz) 16777216 | none => true
  | .slice t _ _ _ _ => tyKnown t && elemOk t
  | .makeSlice t _ _ => tyKnown t && elemOk t
  | .alloc e => tyKnown e
  | .box e _ => tyKnown e
  | .call ⟨.builtin .len, _, ⟨[t]⟩⟩ => tyKnown t
  | .call ⟨.builtin .append, _, ⟨[t, u]⟩⟩ => tyKnown t && elemOk t && eqN t u && match (ty t).elem with | some e => Nat.blt 0 (ty e).sz | none => true
  | .call ⟨.value (.func f), _, _⟩ => fnOk P f
  | .defer _ => false
  | _ => true
section
variable {I0 : Nat → Nat → Prop} {X : Nat → Prop} {w0 : W0} {I : Nat → Nat → Prop} {g : Nat → Value} {s : S} {a : Act} {w : World}
/-- An operation that yields a value. -/
theorem wp_yld {o : Oper} {Q : Exit → Act → World → Prop} {K : S → Prop} {m : Sem Value} (he : execOp a.eval o = (do pure (.value (← m)))) (hy : Yld I0 X w0 g s a w m fun x => K (s.put o.dst x)) : o.wp Tryd.prog a w (fun a' w' => ∃ s', Rel I0 X w0 s' a' w' ∧ K s') Q := by
  obtain ⟨v, x, w', I', h1, h2, h3, h4⟩ := hy
  unfold Oper.wp
  rw [he]
  simp only [Sem.run_bind, h1, Result.andThen_ok, Sem.run_pure]
  rw [Oper.upon_value]
  exact ⟨_, ⟨I', g, h2.put h3 _⟩, h4⟩
theorem wp_yld2 {o : Oper} {Q : Exit → Act → World → Prop} {K : S → Prop} {m : Sem Value} (he : (execOp a.eval o).run Tryd.prog w = (m.run Tryd.prog w).andThen fun v w' => .ok (.value v) w') (hy : Yld I0 X w0 g s a w m fun x => K (s.put o.dst x)) : o.wp Tryd.prog a w (fun a' w' => ∃ s', Rel I0 X w0 s' a' w' ∧ K s') Q := by
  obtain ⟨v, x, w', I', h1, h2, h3, h4⟩ := hy
  unfold Oper.wp
  rw [he, h1, Result.andThen_ok, Oper.upon_value]
  exact ⟨_, ⟨I', g, h2.put h3 _⟩, h4⟩
/-- An operation that moves a value. -/
theorem wp_val {o : Oper} {Q : Exit → Act → World → Prop} {K : S → Prop} (h : RelI I0 X w0 I g s a w) {v : Value} {x : V} (he : execOp a.eval o = pure (.value v)) (hv : AtV I w g v x) (hK : K (s.put o.dst x)) : o.wp Tryd.prog a w (fun a' w' => ∃ s', Rel I0 X w0 s' a' w' ∧ K s') Q := by
  unfold Oper.wp
  rw [he, Sem.run_pure, Oper.upon_value]
  exact ⟨_, ⟨I, g, h.put hv _⟩, hK⟩
theorem elem_known {t : Nat} (h : elemOk t = true) : ∀ e, (ty t).elem = some e → tyKnown e = true := fun e he => by
  unfold elemOk at h
  rw [he] at h
  exact h
/-- A function is entered. -/
theorem enter_run {o : Oper} {f : Nat} {x : Operand} {args : Array Operand} {ts : Array Nat} {cs : List Value} (ho : o.op = .call ⟨.value x, args, ts⟩) (hx : a.eval x = .func (.func f) #[] cs.toArray) (hf : fnOk Tryd.prog f = true) : (execOp a.eval o).run Tryd.prog w = .ok (.enter f (args.toList.map a.eval ++ cs).toArray) w := by
  unfold fnOk at hf
  cases hfn : Tryd.prog.funcs[f]? with
  | none => rw [hfn] at hf; cases hf
  | some fn =>
    rw [hfn] at hf
    simp only [Bool.and_eq_true, bne_iff_ne, ne_eq] at hf
    have h1 : (fn.name == "runtime.NumGoroutine") = false := beq_eq_false_iff_ne.2 hf.1
    have h2 : fn.body.isNone = false := by
      cases hb : fn.body with
      | none => rw [hb] at hf; simp at hf
      | some c => rfl
    have h4 : (args.map a.eval) ++ cs.toArray = (args.toList.map a.eval ++ cs).toArray := by apply Array.ext'; simp
    unfold execOp
    simp only [ho, resolve, hx, Deferred.ofValue, invoke, callFunc, Sem.run_bind, Sem.run_pure, Result.andThen_ok, program, Sem.run, hfn, h1, h2, ← h4]
    simp
theorem spec_wp (h : RelI I0 X w0 I g s a w) {o : Oper} {Q : Exit → Act → World → Prop} {K : S → Prop} {f : Nat} {us : List Value} {vs : List V} {rs q : List R} (hrun : fnOk Tryd.prog f = true → (execOp a.eval o).run Tryd.prog w = .ok (.enter f us.toArray) w) (hv : AtVs I w g us vs) (hrs : toRs s.o vs = some rs) (hq : Spec f rs q) (hK : K (s.put o.dst (resV q))) : o.wp Tryd.prog a w (fun a' w' => ∃ s', Rel I0 X w0 s' a' w' ∧ K s') Q := by
  have hat := toRs_at h hv hrs
  have hc := hq.2 I w _ (fun b k hb => (h.lt b k hb).1) hat
  unfold Oper.wp
  rw [hrun hq.1, Oper.upon_enter]
  refine hc.mono ?_
  rintro e w' ⟨v, rfl, hres, hbel⟩
  have h5 := h.grow hbel (I' := nxt I w w') (fun _ _ h => .inl h) (fun _ _ h => h)
  exact ⟨_, ⟨_, g, h5.put (resV_at g hres) _⟩, hK⟩
theorem callo_ok (h : RelI I0 X w0 I g s a w) {o : Oper} {Q : Exit → Act → World → Prop} {K : S → Prop} {f : Nat} {us : List Value} {vs : List V} (hrun : fnOk Tryd.prog f = true → (execOp a.eval o).run Tryd.prog w = .ok (.enter f us.toArray) w) (hv : AtVs I w g us vs) (hK : real.callo f vs s (fun v s' => K (s'.put o.dst v))) : o.wp Tryd.prog a w (fun a' w' => ∃ s', Rel I0 X w0 s' a' w' ∧ K s') Q := by
  obtain ⟨hf, hK⟩ := hK
  unfold Oper.wp
  rw [hrun hf, Oper.upon_enter]
  refine (hK I0 X w0 I g s.t a w us h hv).mono ?_
  rintro e w' ⟨v, x, o', ks, I', g', rfl, h', hv', hK⟩
  exact ⟨_, ⟨I', g', h'.put hv' _⟩, hK⟩
theorem call_ok (h : RelI I0 X w0 I g s a w) {o : Oper} {Q : Exit → Act → World → Prop} {K : S → Prop} {f : Nat} {args : Array Operand} {ts : Array Nat} (ho : o.op = .call ⟨.value (.func f), args, ts⟩)
    (hK : callV real s.o (fun x => K (s.put o.dst x)) f (getVs s.get args.toList)) : o.wp Tryd.prog a w (fun a' w' => ∃ s', Rel I0 X w0 s' a' w' ∧ K s') Q := by
  unfold callV at hK
  split at hK
  · rename_i rs hrs
    obtain ⟨q, hq, hK⟩ := hK
    exact spec_wp h (fun hf => enter_run (cs := []) ho rfl hf) (by rw [List.append_nil]; exact h.gets args.toList) hrs hq hK
  · obtain ⟨q, ⟨hf, hq⟩, hK⟩ := hK
    unfold Oper.wp
    rw [enter_run (cs := []) ho rfl hf, Oper.upon_enter]
    refine (hq I0 X w0 I g s.t a w _ h (by rw [List.append_nil]; exact h.gets args.toList)).mono ?_
    rintro e w' ⟨v, I', g', rfl, h', hres⟩
    exact ⟨_, ⟨I', g', h'.put (resV_at g' hres) _⟩, hK⟩
theorem ptrs_at (h : RelI I0 X w0 I g s a w) : ∀ {l : List V} {us : List Value} {ks : List Nat}, AtVs I w g us l → ptrsV l = some ks → us.length = ks.length ∧ ∀ (i : Nat) (u : Value) (k : Nat), us[i]? = some u → ks[i]? = some k → u = g k ∧ ∃ b, g k = .pointer (some ⟨b, 0, none⟩)
  | [], us, ks, hv, hp => by
    rw [ptrsV] at hp
    injection hp with hp
    subst hp
    rw [hv.unnil]
    exact ⟨rfl, fun i u k hu => by simp at hu⟩
  | x :: l, us, ks, hv, hp => by
    obtain ⟨u, us', rfl, h1, h2⟩ := hv.uncons
    unfold ptrsV at hp
    split at hp
    · rename_i e; cases e
    · rename_i k l' e
      injection e with e1 e2
      subst e1; subst e2
      split at hp
      · rename_i ks' hks
        injection hp with hp
        subst hp
        obtain ⟨h3, h4⟩ := ptrs_at h h2 hks
        obtain ⟨b, hg, rfl⟩ := h1.unptr
        refine ⟨by simp [h3], fun i v j hv hj => ?_⟩
        cases i with
        | zero => simp at hv hj; subst hv; subst hj; exact ⟨hg.symm, b, hg⟩
        | succ i => exact h4 i v j (by simpa using hv) (by simpa using hj)
      · cases hp
    · cases hp
theorem caps_at : ∀ {ks : List Nat} {us : List Value}, us.length = ks.length → (∀ (i : Nat) (u : Value) (k : Nat), us[i]? = some u → ks[i]? = some k → u = g k ∧ ∃ b, g k = .pointer (some ⟨b, 0, none⟩)) → AtVs I w g us (caps ks)
  | [], us, hl, _ => by rw [List.eq_nil_of_length_eq_zero hl]; exact .nil I w g
  | k :: ks, [], hl, _ => by simp at hl
  | k :: ks, u :: us, hl, h => by
    obtain ⟨h1, b, h2⟩ := h 0 u k rfl rfl
    refine .cons ?_ (caps_at (by simpa using hl) fun i v j hv hj => h (i + 1) v j (by simpa using hv) (by simpa using hj))
    rw [h1, h2]
    exact .ptr k 0 b h2
theorem appV_is : ∀ l m : List V, appV l m = l ++ m
  | [], m => rfl
  | x :: l, m => by rw [appV, appV_is l m]; rfl
theorem lit_ok (h : RelI I0 X w0 I g s a w) {o : Oper} {Q : Exit → Act → World → Prop} {K : S → Prop} {t n : Nat} {ps : Array (Nat × Operand)} (ho : o.op = .buildSlice t (n + 1) ps) (hop : okOp Tryd.prog o.op = true) (hK : litV real s o.dst K t (n + 1) ps.toList) : o.wp Tryd.prog a w (fun a' w' => ∃ s', Rel I0 X w0 s' a' w' ∧ K s') Q := by
  rw [ho] at hop
  simp only [okOp, Bool.and_eq_true] at hop
  unfold litV at hK
  split at hK <;> try exact hK.elim
  rename_i e he
  have hte : ∀ e, (ty t).elem = some e → tyKnown e = true ∧ (n + 1) * (ty e).sz ≤ 16777216 := fun e he => by
    have h2 := hop.2
    rw [he] at h2
    simp only [Bool.and_eq_true] at h2
    exact ⟨h2.1, Nat.le_of_ble_eq_true h2.2⟩
  obtain ⟨e', rows, us, he', hke, hrun, hl, hrl, hr1, hat, hK⟩ := buildSlice_run h hop.1.1 hte ps hK
  rw [he] at he'
  injection he' with he'
  subst he'
  obtain ⟨z0, hK⟩ := hK
  have hb : Below w.heap.size w (w.alloc (.cells us.toArray e)) := (Below.refl _ _).alloc (Nat.le_refl _) _
  have hk : Keeps I w (w.alloc (.cells us.toArray e)) := fun b k hbk i _ => hb.cell (p := ⟨b, i, none⟩) (h.lt b k hbk).1
  have h2 := h.grow hb (I' := fun b k => I b k ∨ (z0 = true ∧ b = w.heap.size ∧ k ≤ (n + 1) * (ty e).sz)) (fun _ _ h => .inl h) (fun b k hk => by
    rcases hk with hk | ⟨_, hk, _⟩
    · exact .inl hk
    · exact .inr ⟨by omega, by simp [hk]⟩)
  have h3 := h2.newObj (.row z0 e rows) (.slice (some ⟨w.heap.size, 0, none⟩) (n + 1) (n + 1)) ⟨us, by
      rw [upd_same, hrl]
      refine ⟨hl, .inr ⟨w.heap.size, n + 1, us.toArray, rfl, Nat.zero_le _, heap_alloc_new w _, Nat.le_refl _, ?_, by simp [hl], by simp [← hl]⟩⟩
      have := Nat.le_of_ble_eq_true hop.1.2
      unfold maxLen
      omega, hr1, hat.mono (fun _ _ h => .inl h) hk, fun b hb => by
      rw [upd_same] at hb
      have hb := Option.some.inj hb
      subst hb
      refine ⟨fun hz => .inr ⟨hz, rfl, by rw [hrl]; exact Nat.le_refl _⟩, fun k hk => ?_, .inl h.fr.size⟩
      rcases hk with hk | ⟨hz, _, hk⟩
      · exact absurd (h.lt _ _ hk).1 (Nat.lt_irrefl _)
      · exact ⟨hz, by rw [hrl]; exact hk⟩⟩ (fun j b hj hb hb' => by
      have hb' := Option.some.inj hb'
      have h4 := h.blk_lt hj hb
      simp only at hb'
      omega)
  unfold Oper.wp
  have hex : (execOp a.eval o).run Tryd.prog w = .ok (.value (.slice (some ⟨w.heap.size, 0, none⟩) (n + 1) (n + 1))) (w.alloc (.cells us.toArray e)) := by
    unfold execOp
    rw [ho]
    simp only [Sem.run_bind, hrun, Result.andThen_ok, Sem.run_pure]
  rw [hex, Oper.upon_value]
  exact ⟨_, ⟨_, _, h3.put (x := .own (lenO s.o)) (.own _ _ _ _ (by rw [lenO_is, upd_same])) _⟩, hK⟩
set_option maxRecDepth 20000 in
/-- A calm operation. -/
theorem calm_ok (h : RelI I0 X w0 I g s a w) {o : Oper} {Q : Exit → Act → World → Prop} {K : S → Prop} (hop : okOp Tryd.prog o.op = true) (hK : stepC real s.get s.o (fun x => K (s.put o.dst x)) o.op) : o.wp Tryd.prog a w (fun a' w' => ∃ s', Rel I0 X w0 s' a' w' ∧ K s') Q := by
  obtain ⟨dst, op, type, pos, after, gd⟩ := o
  simp only at hop hK ⊢
  unfold stepC at hK
  split at hK <;> try exact hK.elim
  · rename_i x; exact wp_val h rfl (h.get x) hK
  · rename_i x; exact wp_val h rfl (h.get x) hK
  · rename_i c x y; exact wp_yld2 (by simp only [execOp, Sem.run_bind]; cases (asBool (a.eval c)).run Tryd.prog w <;> rfl) (pick_ok h (h.get c) (h.get x) (h.get y) hK)
  · rename_i t x; exact wp_yld rfl (load_ok h hop (h.get x) hK)
  · rename_i t x i; exact wp_yld rfl (field_ok h hop (h.get x) hK)
  · rename_i t x i
    simp only [okOp, Bool.and_eq_true] at hop
    exact wp_yld rfl (part_ok h hop.1 (fun u hu => List.all_eq_true.1 hop.2 u (List.mem_of_getElem? hu)) (h.get x) hK)
  · rename_i t x i
    simp only [okOp, Bool.and_eq_true] at hop
    exact wp_yld rfl (index_ok h hop.1.1 (elem_known hop.1.2) (val_known hop.2) (h.get x) (h.get i) hK)
  · rename_i t x i
    simp only [okOp, Bool.and_eq_true] at hop
    exact wp_yld rfl (sget_ok h hop.1 (val_known hop.2) (h.get x) (h.get i) hK)
  · rename_i op t x y yt; exact wp_yld rfl (bin_ok h hop x y (h.get x) (h.get y) hK)
  · rename_i op t x; exact wp_yld rfl (un_ok h (h.get x) hK)
  · rename_i t0 t x
    simp only [okOp, Bool.and_eq_true] at hop
    exact wp_yld rfl (conv_ok h hop.1 hop.2 (h.get x) hK)
  · rename_i t ps
    simp only [okOp, Bool.and_eq_true] at hop
    exact wp_yld rfl (build_ok h hop.1 (val_known hop.2) ps hK)
  · rename_i t n ps
    simp only [okOp, Bool.and_eq_true] at hop
    refine wp_yld rfl (buildSlice_ok h hop.1.1 (fun e he => ?_) ps hK)
    have h2 := hop.2
    rw [he] at h2
    simp only [Bool.and_eq_true] at h2
    exact ⟨h2.1, Nat.le_of_ble_eq_true h2.2⟩
  · rename_i x i; exact wp_yld rfl (extract_ok h (h.get x) hK)
  · rename_i t x lo hi
    simp only [okOp, Bool.and_eq_true] at hop
    exact wp_yld rfl (slice_ok h hop.1 (elem_known hop.2) (h.get x) hK)
  · rename_i x t
    refine wp_yld2 (m := Builtin.len_ #[t] type #[a.eval x]) ?_ (len_ok h hop (h.get x) hK)
    simp [execOp, resolve, invoke, builtin]
  · rename_i f args ts; exact call_ok h rfl hK
  · rename_i t x i ok
    simp only [okOp, Bool.and_eq_true] at hop
    exact wp_yld rfl (look_ok h hop.1 hop.2 (h.get x) (h.get i) hK)
  · rename_i args ts
    have e : args.map a.eval = (args.toList.map a.eval).toArray := by apply Array.ext'; simp
    refine wp_yld2 (s := s) (g := g) (m := Builtin.min_ ts type (args.map a.eval)) (by simp [execOp, resolve, invoke, builtin]) ?_
    rw [e]
    exact min_ok (mx := false) (ts := ts) (ty' := type) h (h.gets args.toList) hK
  · rename_i args ts
    have e : args.map a.eval = (args.toList.map a.eval).toArray := by apply Array.ext'; simp
    refine wp_yld2 (s := s) (g := g) (m := Builtin.max_ ts type (args.map a.eval)) (by simp [execOp, resolve, invoke, builtin]) ?_
    rw [e]
    exact min_ok (mx := true) (ts := ts) (ty' := type) h (h.gets args.toList) hK
  · rename_i x
    obtain ⟨h1, _, h2⟩ := nn_ok h (h.get x) hK
    refine wp_val h (v := a.eval x) ?_ (h.get x) h1
    unfold execOp
    rcases h2 with ⟨b, hb⟩ | ⟨f, cs, hb⟩ <;> simp only [hb]
  · rename_i f cs
    split at hK <;> try exact hK.elim
    rename_i ks hks
    obtain ⟨h1, h2⟩ := ptrs_at h (h.gets cs.toList) hks
    have e : cs.map a.eval = (cs.toList.map a.eval).toArray := by apply Array.ext'; simp
    refine wp_yld rfl (yld (v := .func (.func f) #[] (cs.toList.map a.eval).toArray) h ?_ (.cl f _ ks h1 h2) hK)
    rw [e]
    simp [Instr.makeFunc]
/-- A new block. -/
theorem wp_new {o : Oper} {Q : Exit → Act → World → Prop} {K : S → Prop} (h : RelI I0 X w0 I g s a w) {us : List Value} {cs : List V} {t : Nat} (hu : AtVs I w g us cs) (h1 : ∀ u ∈ us, u.oneCell' = true)
    (he : (execOp a.eval o).run Tryd.prog w = .ok (.value (.pointer (some ⟨w.heap.size, 0, none⟩))) (w.alloc (.cells us.toArray t))) (hK : K ((s.obj (.box cs)).put o.dst (.ptr (lenO s.o) 0))) : o.wp Tryd.prog a w (fun a' w' => ∃ s', Rel I0 X w0 s' a' w' ∧ K s') Q := by
  unfold Oper.wp
  rw [he, Oper.upon_value]
  obtain ⟨g', hg, h2⟩ := h.box hu h1 t
  rw [← lenO_is] at hg
  exact ⟨_, ⟨I, g', h2.put (.ptr _ 0 _ hg) _⟩, hK⟩
theorem constL_ones (I : Nat → Nat → Prop) (w : World) (g : Nat → Value) {l : List Value} (h : ones (constL l) = true) : ∀ u ∈ l, u.oneCell' = true := ones_at (I := I) (w := w) (g := g) (constL_at l) h
theorem append_ok (h : RelI I0 X w0 I g s a w) {o : Oper} {Q : Exit → Act → World → Prop} {K : S → Prop} {x y : Operand} {t : Nat} (ho : o.op = .call ⟨.builtin .append, ⟨[x, y]⟩, ⟨[t, t]⟩⟩) (ht : tyKnown t = true) (hte : ∀ e, (ty t).elem = some e → tyKnown e = true ∧ 0 < (ty e).sz)
    (hK : appendV real s o.dst K t (s.get x) (s.get y)) : o.wp Tryd.prog a w (fun a' w' => ∃ s', Rel I0 X w0 s' a' w' ∧ K s') Q := by
  unfold appendV at hK
  split at hK <;> try exact hK.elim
  rename_i e he
  split at hK <;> try exact hK.elim
  rename_i sz ys hys
  split at hK <;> try exact hK.elim
  rename_i hsz
  obtain ⟨hke, hpos⟩ := hte e he
  have hun := ty_slice ht he
  obtain ⟨i, z, hi, his, hiz, hzc, hzl, hby⟩ := ty_info hke
  have hzs : z.cells.size = (ty e).sz := by rw [hzc]; simp [hzl]
  obtain ⟨hd, hnil⟩ := rows_at h (h.get y) hys
  have hd2 := szOk_at hsz hd hnil
  obtain ⟨A, cap, hyv, hcap, hrows⟩ := hd2.slice
  -- the source's cells
  obtain ⟨vs, hsrc, hrl, hvs⟩ : ∃ vs, SrcAt w A ys.length (ty e).sz vs ∧ (∀ r ∈ ys, r.length = (ty e).sz) ∧ AtDs I w vs ys.flatten := by
    rcases hrows with rfl | ⟨b, off, us, rfl, hI, hrl, hl, hc, hds⟩
    · exact ⟨[], ⟨by simp, by simp, fun ad _ j u hu => by simp at hu, by simp⟩, by simp, .nil I w⟩
    · exact ⟨us, ⟨hl, by simp, fun ad had j u hu => by have h9 := Option.some.inj had; rw [← h9, Addr.add_lit]; exact hc j u hu, hds.one⟩, hrl, hds⟩
  have room : ∀ n, n + ys.length ≤ 137438953472 → n + ys.length ≤ maxLen ∧ (n + ys.length) * i.bytes ≤ 140737488355328 := fun n hn => by
    refine ⟨by unfold maxLen; omega, ?_⟩
    have h1 : (n + ys.length) * i.bytes ≤ 137438953472 * 1024 := Nat.mul_le_mul hn hby
    omega
  have hexec : ∀ v' w', (Builtin.append_ #[t, t] o.type #[a.eval x, .slice A ys.length cap]).run Tryd.prog w = .ok v' w' → (execOp a.eval o).run Tryd.prog w = .ok (.value v') w' := fun v' w' hr => by
    unfold execOp
    rw [ho]
    simp only [resolve, invoke, builtin, Sem.run_bind, Sem.run_pure, Result.andThen_ok, List.map_toArray, List.map_cons, List.map_nil, hyv, hr]
  have hx := h.get x
  split at hK <;> try exact hK.elim
  · -- behind nothing
    rename_i hxe
    rw [hxe] at hx
    obtain ⟨hroom, z0, hK⟩ := hK
    have hr := room 0 (show 0 + ys.length ≤ 137438953472 from hroom)
    have hxv : a.eval x = .slice none 0 0 := hx.unem
    obtain ⟨v', w', hrun, hown, hsp⟩ := run_append_split (P := Tryd.prog) w 0 t o.type e i z (ty e).sz i.bytes hun hi hiz his rfl hzs hpos (.slice none 0 0) 0 [] (World.ownsRow_nil w 0 e _) A ys.length cap vs hsrc hr.1 hr.2 (Nat.zero_le _)
    rcases hsp with ⟨b, hb, _⟩ | ⟨hbel, hblk⟩
    · cases hb
    rw [Nat.zero_add, List.nil_append] at hown
    have hkp : Keeps I w w' := fun b k hbk i _ => hbel.cell (p := ⟨b, i, none⟩) (h.lt b k hbk).1
    have hlt : ∀ b, v'.ownBlock = some b → b = w.heap.size ∧ b < w'.heap.size := fun b hb => by
      refine ⟨?_, (hown.lt b hb).2⟩
      rcases hblk with h1 | h1
      · rw [h1] at hb; cases hb
      · rw [h1] at hb; exact (Option.some.inj hb).symm
    have h2 := h.grow hbel (I' := fun b k => I b k ∨ (z0 = true ∧ v'.ownBlock = some b ∧ k ≤ ys.length * (ty e).sz)) (fun _ _ h => .inl h) (fun b k hk => by
      rcases hk with hk | ⟨_, hk, _⟩
      · exact .inl hk
      · obtain ⟨h1, h2⟩ := hlt b hk; exact .inr ⟨by omega, h2⟩)
    have h3 := h2.newObj (.row z0 e ys) v' ⟨vs, by rw [upd_same]; exact hown, hrl, hvs.mono (fun _ _ h => .inl h) hkp, fun b hb => by
      rw [upd_same] at hb
      refine ⟨fun hz => .inr ⟨hz, hb, Nat.le_refl _⟩, fun k hk => ?_, .inl ?_⟩
      · rcases hk with hk | ⟨hz, _, hk⟩
        · have := (h.lt _ _ hk).1; have := (hlt b hb).1; omega
        · exact ⟨hz, hk⟩
      · have := (hlt b hb).1; have := h.fr.size; omega⟩ (fun j b hj hb hb' => by
      rw [own_gblk hown] at hb'
      have h1 := (hlt b hb').1
      have h2 := h.blk_lt hj hb
      omega)
    unfold Oper.wp
    rw [hexec v' w' (by rw [hxv]; exact hrun), Oper.upon_value]
    obtain ⟨A', c', hv'⟩ := own_slice hown
    refine ⟨_, ⟨_, _, h3.put (x := .own (lenO s.o)) ?_ _⟩, hK⟩
    rw [hv']
    exact .own _ _ _ _ (by rw [lenO_is, upd_same])
  · -- behind a row
    rename_i k hxk
    rw [hxk] at hx
    split at hK <;> try exact hK.elim
    rename_i z0 e' xs hok
    split at hK <;> try exact hK.elim
    rename_i hee
    rw [eqN_is] at hee
    subst hee
    obtain ⟨hroom, hK⟩ := hK
    have hr := room xs.length (show xs.length + ys.length ≤ 137438953472 from hroom)
    have hk := getO_some hok (by simp)
    obtain ⟨us, hown, hxl, hxd, hxb⟩ := h.obj k _ hk
    have hxv : a.eval x = g k := hx.unown.1
    obtain ⟨v', w', hrun, hown', hsp⟩ := run_append_split (P := Tryd.prog) w 0 t o.type e' i z (ty e').sz i.bytes hun hi hiz his rfl hzs hpos (g k) xs.length us hown A ys.length cap vs hsrc hr.1 hr.2 (Nat.zero_le _)
    obtain ⟨I', g', hg', h2⟩ := h.appended hk hown hrl hvs hown' hsp
    unfold Oper.wp
    rw [hexec v' w' (by rw [hxv]; exact hrun), Oper.upon_value]
    obtain ⟨A', c', hv'⟩ := own_slice hown'
    rw [setO_is] at hK
    refine ⟨_, ⟨_, _, h2.put (x := .own k) ?_ _⟩, hK⟩
    rw [hv']
    exact .own _ _ _ _ (by rw [hg', hv'])
theorem flat_rep {α : Type} (n : Nat) (l : List α) : (List.replicate n l).flatten.length = n * l.length := by
  rw [List.length_flatten, List.map_replicate, List.sum_replicate_nat]
theorem make_ok (h : RelI I0 X w0 I g s a w) {o : Oper} {Q : Exit → Act → World → Prop} {K : S → Prop} {x y : Operand} {t : Nat} (ho : o.op = .makeSlice t x y) (ht : tyKnown t = true) (hte : ∀ e, (ty t).elem = some e → tyKnown e = true)
    (hK : mkSliceV real s o.dst K t (s.get x) (s.get y)) : o.wp Tryd.prog a w (fun a' w' => ∃ s', Rel I0 X w0 s' a' w' ∧ K s') Q := by
  have hx := h.get x
  have hy := h.get y
  unfold mkSliceV at hK
  split at hK <;> try exact hK.elim
  rename_i k n k' m e1 e2
  rw [e1] at hx
  rw [e2] at hy
  split at hK <;> try exact hK.elim
  rename_i hnm
  have hnm : n = m := by simpa [real] using hnm
  subst hnm
  split at hK <;> try exact hK.elim
  rename_i e he
  split at hK <;> try exact hK.elim
  rename_i z hz
  obtain ⟨⟨h1, h2, h3⟩, z0, hK⟩ := hK
  have hke := hte e he
  have hun := ty_slice ht he
  obtain ⟨i, zv, hi, his, hiz, hzc, hzl, hby⟩ := ty_info hke
  have hzat := toDs_at (s := ⟨s.t, s.o⟩) h (constL_at (I := I) (w := w) (g := g) (ty e).zero) (by
    have key : ∀ {l : List V} {ds : List D}, toDs [] l = some ds → toDs s.o l = some ds := by
      intro l
      induction l with
      | nil => intro ds h; exact h
      | cons v l ih =>
        intro ds h
        rw [toDs] at h ⊢
        split at h
        · rename_i y hy
          split at h
          · rename_i ys hys
            have : toD s.o v = some y := by
              cases v with
              | own k => simp [toD, getO] at hy
              | cl f ks => cases ks <;> exact hy
              | _ => exact hy
            rw [this, ih hys]
            exact h
          · cases h
        · cases h
    exact key hz)
  have hzlen : z.length = (ty e).sz := by rw [← hzat.1, hzl]
  obtain ⟨N, hN⟩ : ∃ N, N = n.toNat := ⟨_, rfl⟩
  rw [← hN] at h3 hK
  have hrun := run_makeSlice (P := Tryd.prog) w t e i zv hun hi hiz k k' n n h1 (Int.le_refl _) (by rw [← hN, his, ← hzlen]; exact h3) (by
    have : (i.bytes : Int) * n ≤ 1024 * 16777216 := Int.mul_le_mul (by omega) h2 h1 (by decide)
    omega) (by omega)
  rw [← hN] at hrun
  have hcells : (madeCells zv.cells (N * i.size)).toList = (List.replicate N (ty e).zero).flatten := by
    have := range_zero (ty e).zero.toArray N
    have e3 : (ty e).zero.toArray.size = (ty e).sz := by simp [hzl]
    rw [hzc, his, ← e3]
    exact this
  obtain ⟨us, hus⟩ : ∃ us, us = (List.replicate N (ty e).zero).flatten := ⟨_, rfl⟩
  have hmade : madeCells zv.cells (N * i.size) = us.toArray := by apply Array.ext'; rw [hcells, hus]
  rw [hmade] at hrun
  have hul : us.length = N * (ty e).sz := by rw [hus, flat_rep, hzl]
  have hrl : (List.replicate N z).length = N := List.length_replicate
  have hr1 : ∀ r ∈ List.replicate N z, r.length = (ty e).sz := fun r hr => by rw [List.eq_of_mem_replicate hr, hzlen]
  have hat : AtDs I w us (List.replicate N z).flatten := by
    refine ⟨by rw [hul, flat_rep, hzlen], fun j u d hu hd => ?_⟩
    have hj : j < N * (ty e).sz := by rw [← hul]; exact (List.getElem?_eq_some_iff.1 hu).1
    have hpos : 0 < (ty e).sz := by
      rcases Nat.eq_zero_or_pos (ty e).sz with h0 | h0
      · rw [h0, Nat.mul_zero] at hj; omega
      · exact h0
    have hq : j / (ty e).sz < N := (Nat.div_lt_iff_lt_mul hpos).2 hj
    have hr : j % (ty e).sz < (ty e).sz := Nat.mod_lt _ hpos
    have ej : j / (ty e).sz * (ty e).sz + j % (ty e).sz = j := by rw [Nat.mul_comm]; exact Nat.div_add_mod j _
    rw [hus, ← ej, flat_get (fun r hr => by rw [List.eq_of_mem_replicate hr, hzl]) (List.getElem?_replicate_of_lt hq) hr] at hu
    rw [← ej, flat_get hr1 (List.getElem?_replicate_of_lt hq) hr] at hd
    exact hzat.2 _ u d hu hd
  have hb : Below w.heap.size w (w.alloc (.cells us.toArray e)) := (Below.refl _ _).alloc (Nat.le_refl _) _
  have hk : Keeps I w (w.alloc (.cells us.toArray e)) := fun b k hbk i _ => hb.cell (p := ⟨b, i, none⟩) (h.lt b k hbk).1
  have h4 := h.grow hb (I' := fun b k => I b k ∨ (z0 = true ∧ b = w.heap.size ∧ k ≤ N * (ty e).sz)) (fun _ _ h => .inl h) (fun b k hk => by
    rcases hk with hk | ⟨_, hk, _⟩
    · exact .inl hk
    · exact .inr ⟨by omega, by simp [hk]⟩)
  have h5 := h4.newObj (.row z0 e (List.replicate N z)) (.slice (some ⟨w.heap.size, 0, none⟩) N N) ⟨us, by
      rw [upd_same, hrl]
      refine ⟨hul, .inr ⟨w.heap.size, N, us.toArray, rfl, Nat.zero_le _, heap_alloc_new w _, Nat.le_refl _, ?_, by simp [hul], by simp [← hul]⟩⟩
      unfold maxLen
      omega, hr1, hat.mono (fun _ _ h => .inl h) hk, fun b hb => by
      rw [upd_same] at hb
      have hb := Option.some.inj hb
      subst hb
      refine ⟨fun hz => .inr ⟨hz, rfl, by rw [hrl]; exact Nat.le_refl _⟩, fun k hk => ?_, .inl h.fr.size⟩
      rcases hk with hk | ⟨hz, _, hk⟩
      · exact absurd (h.lt _ _ hk).1 (Nat.lt_irrefl _)
      · exact ⟨hz, by rw [hrl]; exact hk⟩⟩ (fun j b hj hb hb' => by
      have hb' := Option.some.inj hb'
      have h4 := h.blk_lt hj hb
      simp only at hb'
      omega)
  unfold Oper.wp
  have hex : (execOp a.eval o).run Tryd.prog w = .ok (.value (.slice (some ⟨w.heap.size, 0, none⟩) N N)) (w.alloc (.cells us.toArray e)) := by
    unfold execOp
    rw [ho]
    simp only [hx.sc, hy.sc, Sem.run_bind, hrun, Result.andThen_ok, Sem.run_pure]
  rw [hex, Oper.upon_value]
  exact ⟨_, ⟨_, _, h5.put (x := .own (lenO s.o)) (.own _ _ _ _ (by rw [lenO_is, upd_same])) _⟩, hK⟩
set_option maxRecDepth 20000 in
/-- One step of the machine is one operation. -/
theorem step_ok {m : Bool} (h : RelI I0 X w0 I g s a w) {o : Oper} {Q : Exit → Act → World → Prop} {K : S → Prop} (hop : okOp Tryd.prog o.op = true) (hK : step real m s o.dst K o.op) : o.wp Tryd.prog a w (fun a' w' => ∃ s', Rel I0 X w0 s' a' w' ∧ K s') Q := by
  obtain ⟨dst, op, type, pos, after, gd⟩ := o
  simp only at hop hK
  unfold step at hK
  split at hK
  · rename_i e
    split at hK <;> try exact hK.elim
    rename_i h1
    have ht : tyKnown e = true := hop
    obtain ⟨z, hz, hzc⟩ := ty_zero ht w
    refine wp_new h (t := e) (constL_at (ty e).zero) (constL_ones I w g h1) ?_ hK
    simp only [execOp, Instr.alloc, Sem.run_bind, hz, Result.andThen_ok, newVar, newRow, hzc, newObj, Sem.run, Sem.run_pure]
    rfl
  · rename_i e x
    split at hK <;> try exact hK.elim
    rename_i cs hcs
    obtain ⟨us, hu1, hu2, hu3⟩ := cells_at (h.get x) hcs
    refine wp_new h (t := e) hu2 hu3 ?_ hK
    simp only [execOp, Instr.box, Sem.run_bind, newVar, newRow, hu1, newObj, Sem.run, Sem.run_pure, Result.andThen_ok]
    rfl
  · rename_i t x y
    split at hK <;> try exact hK.elim
    have ht : tyKnown t = true := hop
    unfold storeV at hK
    split at hK <;> try exact hK.elim
    rotate_left
    · rename_i k i sz off hx
      split at hK <;> try exact hK.elim
      rename_i e rows hok
      split at hK <;> try exact hK.elim
      rename_i hsz
      rw [eqN_is] at hsz
      split at hK <;> try exact hK.elim
      rename_i row hrow
      split at hK <;> try exact hK.elim
      rename_i l hl
      split at hK <;> try exact hK.elim
      rename_i ds hds
      split at hK <;> try exact hK.elim
      rename_i hlen
      split at hK <;> try exact hK.elim
      rename_i row' hrow'
      obtain ⟨vs, hv1, hv2, hv3⟩ := cells_at (h.get y) hl
      have hvd := toDs_at h hv2 hds
      have hk := getO_some hok (by simp)
      obtain ⟨b, n, cap, cur, hg, hb, hle, h2⟩ := h.setEl hk (get_is hrow).2 hvd hrow'
      have hxv : a.eval x = .pointer (some ⟨b, i.toNat * (ty e).sz + off, none⟩) := by
        have h3 := h.get x
        rw [hx] at h3
        generalize a.eval x = ax at h3 ⊢
        cases h3 with
        | el k i sz off b' n' cap' hg' =>
          rw [hg] at hg'
          injection hg' with hg'
          injection hg' with hg'
          injection hg' with hg'
          subst hg'
          rw [hsz]
      rw [eqN_is, lenL_is] at hlen
      have hst := run_storeCells_at Tryd.prog b (i.toNat * (ty e).sz + off) e vs 0 cur w hb (by simpa using hle) hv3
      simp only [Nat.add_zero] at hst
      have hsize := ty_size ht w
      have hcz : (a.eval y).cells.size = (ty t).sz := by rw [hv1]; simp [hvd.1, hlen]
      rw [setO_is] at hK
      unfold Oper.wp
      have hrun : (execOp a.eval { dst := none, op := Op.store t x y, type := type, pos := pos, after := after, guard := gd }).run Tryd.prog w = .ok .skip (w.setRow b (cur.toList.take (i.toNat * (ty e).sz + off) ++ vs ++ cur.toList.drop (i.toNat * (ty e).sz + off + vs.length)).toArray) := by
        simp only [execOp, Instr.storeAt, Instr.sureAddr, hxv, storeVar, Sem.run_bind, Sem.run_pure, Result.andThen_ok, hsize, hcz]
        simp [hv1, hst]
      rw [hrun, Oper.upon_skip]
      exact ⟨_, ⟨I, g, h2⟩, hK⟩
    rename_i k off hx
    split at hK <;> try exact hK.elim
    rename_i cs hok
    split at hK <;> try exact hK.elim
    rename_i l hl
    split at hK <;> try exact hK.elim
    rename_i hsz
    split at hK <;> try exact hK.elim
    rename_i cs' hcs'
    obtain ⟨vs, hv1, hv2, hv3⟩ := cells_at (h.get y) hl
    have hk := getO_some hok (by simp)
    obtain ⟨b, us, t', hg, hb, hle, h2⟩ := h.store hk hv2 hv3 hcs'
    have hxv : a.eval x = .pointer (some ⟨b, off, none⟩) := by
      have h3 := h.get x
      rw [hx] at h3
      obtain ⟨b', hg', h4⟩ := h3.unptr
      rw [hg] at hg'
      injection hg' with hg'
      injection hg' with hg'
      injection hg' with hg'
      subst hg'
      exact h4
    rw [eqN_is, lenL_is] at hsz
    have hst := run_storeCells_at Tryd.prog b off t' vs 0 us.toArray w hb (by simpa using hle) hv3
    simp only [Nat.add_zero] at hst
    have hsize := ty_size ht w
    have hcz : (a.eval y).cells.size = (ty t).sz := by rw [hv1]; simp [hv2.1, hsz]
    rw [setO_is] at hK
    unfold Oper.wp
    have hrun : (execOp a.eval { dst := none, op := Op.store t x y, type := type, pos := pos, after := after, guard := gd }).run Tryd.prog w = .ok .skip (w.setRow b (us.take off ++ vs ++ us.drop (off + vs.length)).toArray) := by
      simp only [execOp, Instr.storeAt, Instr.sureAddr, hxv, storeVar, Sem.run_bind, Sem.run_pure, Result.andThen_ok, hsize, hcz]
      simp [hv1, hst]
    rw [hrun, Oper.upon_skip]
    exact ⟨_, ⟨I, g, h2⟩, hK⟩
  · rename_i t x y
    simp only [okOp, Bool.and_eq_true] at hop
    exact make_ok h rfl hop.1 (elem_known hop.2) hK
  · rename_i t
    split at hK <;> try exact hK.elim
    rename_i hkd
    split at hK <;> try exact hK.elim
    rename_i kt hkt
    obtain ⟨g', hg, h2⟩ := mk_ok h (kt := kt)
    rw [← lenO_is] at hg
    unfold Oper.wp
    have hrun : (execOp a.eval { dst := dst, op := Op.makeMap t none, type := type, pos := pos, after := after, guard := gd }).run Tryd.prog w = .ok (.value (.map (some w.heap.size))) (w.alloc (.map #[] 0)) := by
      simp only [execOp, Option.map_none, Instr.makeMap, newObj, Sem.run_bind, Sem.run_pure, Result.andThen_ok, Sem.run]
      rfl
    rw [hrun, Oper.upon_value]
    exact ⟨_, ⟨I, g', h2.put (.mp _ _ hg) _⟩, hK⟩
  · rename_i t x i v
    split at hK <;> try exact hK.elim
    simp only [okOp, Bool.and_eq_true] at hop
    obtain ⟨w', s', hrun, h', hK⟩ := put_ok h hop.1 hop.2 (h.get x) (h.get i) (h.get v) hK
    unfold Oper.wp
    have hrun' : (execOp a.eval { dst := none, op := Op.mapUpdate t x i v, type := type, pos := pos, after := after, guard := gd }).run Tryd.prog w = .ok .skip w' := by
      simp only [execOp, Sem.run_bind, hrun, Result.andThen_ok, Sem.run_pure]
    rw [hrun', Oper.upon_skip]
    exact ⟨_, ⟨I, g, h'⟩, hK⟩
  · rename_i t
    split at hK <;> try exact hK.elim
    rename_i e he
    obtain ⟨z0, hK⟩ := hK
    simp only [okOp, Bool.and_eq_true] at hop
    have ht := hop.1.1
    have hke : tyKnown e = true := by
      have h2 := hop.2
      rw [he] at h2
      simp only [Bool.and_eq_true] at h2
      exact h2.1
    have hun := ty_slice ht he
    have hsize := ty_size hke w
    have hrun : (execOp a.eval { dst := dst, op := Op.buildSlice t 0 ⟨[]⟩, type := type, pos := pos, after := after, guard := gd }).run Tryd.prog w = .ok (.value (.slice (some ⟨w.heap.size, 0, none⟩) 0 0)) (w.alloc (.cells #[] e)) := by
      simp only [execOp, Instr.buildSlice, Sem.run_bind, run_underlying hun, Result.andThen_ok, hsize, Nat.zero_mul, Sem.run_ite, Sem.run_pure]
      rw [if_neg (show ¬ (0 > 2 ^ 24) by decide), if_pos True.intro]
      rw [show (Array.range 0).map (fun x => (#[] : Array Value)[x % (#[] : Array Value).size]!) = #[] from by simp]
      simp only [Array.map_empty, Instr.fill]
      rfl
    have hb : Below w.heap.size w (w.alloc (.cells #[] e)) := (Below.refl _ _).alloc (Nat.le_refl _) _
    have h2 := h.grow hb (I' := fun b k => I b k ∨ (z0 = true ∧ b = w.heap.size ∧ k = 0)) (fun _ _ h => .inl h) (fun b k hk => by
      rcases hk with hk | ⟨_, hk, _⟩
      · exact .inl hk
      · exact .inr ⟨by omega, by simp [hk]⟩)
    have h3 := h2.newObj (.row z0 e []) (.slice (some ⟨w.heap.size, 0, none⟩) 0 0) ⟨[], by rw [upd_same]; exact World.ownsRow_made w #[] 0 (Nat.zero_le _) (Nat.zero_le _) (by simp), by simp, .nil _ _, fun b hb => by
      rw [upd_same] at hb
      have hb := Option.some.inj hb
      subst hb
      refine ⟨fun hz => .inr ⟨hz, rfl, by simp⟩, fun k hk => ?_, .inl h.fr.size⟩
      rcases hk with hk | ⟨hz, _, hk⟩
      · exact absurd (h.lt _ _ hk).1 (Nat.lt_irrefl _)
      · exact ⟨hz, by rw [hk]; exact Nat.zero_le _⟩⟩ (fun j b hj hb hb' => by
      have hb' := Option.some.inj hb'
      have h4 := h.blk_lt hj hb
      simp only at hb'
      omega)
    unfold Oper.wp
    rw [hrun, Oper.upon_value]
    exact ⟨_, ⟨_, _, h3.put (x := .own (lenO s.o)) (.own _ _ _ _ (by rw [lenO_is, upd_same])) _⟩, hK⟩
  · rename_i x y t u
    simp only [okOp, Bool.and_eq_true] at hop
    obtain ⟨⟨⟨h1, h2⟩, h3⟩, h4⟩ := hop
    rw [eqN_is] at h3
    subst h3
    refine append_ok h rfl h1 (fun e he => ?_) hK
    rw [he] at h4
    simp only [Nat.blt_eq] at h4
    exact ⟨elem_known h2 e he, h4⟩
  · rename_i t n ps
    split at hK
    · obtain ⟨c, hK⟩ := hK
      cases c with
      | true => exact calm_ok h hop hK
      | false => exact lit_ok h rfl hop hK
    · exact calm_ok h hop hK
  · rename_i f args ts
    split at hK
    · exact callo_ok h (fun hf => enter_run (cs := []) rfl rfl hf) (by rw [List.append_nil]; exact h.gets args.toList) hK
    · exact calm_ok h hop hK
  · rename_i i args ts
    split at hK <;> try exact hK.elim
    split at hK <;> try exact hK.elim
    rename_i f ks hf
    have hx : AtV I w g (a.eval (.tmp i)) (getN s.t i) := h.get (.tmp i)
    have key : ∃ cs : List Value, a.eval (.tmp i) = .func (.func f) #[] cs.toArray ∧ AtVs I w g cs (caps ks) := by
      unfold fnV at hf
      split at hf
      · rename_i f' ks' hcl
        injection hf with hf
        injection hf with e1 e2
        subst e1; subst e2
        rw [hcl] at hx
        generalize a.eval (.tmp i) = y at hx ⊢
        cases hx with
        | cl f us ks hl h2 => exact ⟨us, rfl, caps_at hl h2⟩
      · rename_i f' hd
        injection hf with hf
        injection hf with e1 e2
        subst e1; subst e2
        rw [hd] at hx
        exact ⟨[], hx.sc, .nil I w g⟩
      · cases hf
    obtain ⟨cs, hc1, hc2⟩ := key
    exact callo_ok h (fun hf => enter_run (cs := cs) rfl hc1 hf) (by rw [appV_is]; exact (h.gets args.toList).append hc2) hK
  · exact calm_ok h hop hK
end
end Go.Proofs.YtgedpbpfoaljhaaDoor.Vm

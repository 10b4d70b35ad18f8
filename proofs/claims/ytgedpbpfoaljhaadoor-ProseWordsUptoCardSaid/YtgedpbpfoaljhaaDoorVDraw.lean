/- The machine of values: regions that draw their order. -/
import Derived.Test.YtgedpbpfoaljhaaDoorVCode
import Derived.Orders
set_option linter.unusedVariables false
set_option linter.unusedSimpArgs false
namespace Go.Proofs.YtgedpbpfoaljhaaDoor.Vm
open Go.RowKit
/-- An operation that makes and turns no object. -/
def calmB : Op → Bool
  | .alloc _ => false
  | .box _ _ => false
  | .store _ _ _ => false
  | .buildSlice _ 0 _ => false
  | .call ⟨.builtin .append, _, _⟩ => false
  | .makeSlice _ _ _ => false
  | .makeMap _ _ => false
  | .mapUpdate _ _ _ _ => false
  | .call ⟨.value (.tmp _), _, _⟩ => false
  | _ => true
theorem step_calm {a : Ar} {s : S} {dst : Option Nat} {K : S → Prop} {op : Op} (h : calmB op = true) : step a false s dst K op = stepC a s.get s.o (fun v => K (s.put dst v)) op := by
  unfold step
  split <;> first | rfl | cases h
/-- What such an operation hands on hangs on its operands alone; and it hands on one value. -/
def Pt (T : (V → Prop) → Prop) : Prop := ∀ K, T K → ∃ v, K v ∧ ∀ K', K' v → T K'
section
variable {os : List O} {t i : Nat} {x y z : V}
theorem load_pt : Pt fun K => loadV real os K t x := by
  intro K h
  simp only [loadV] at h ⊢
  repeat' split at h
  all_goals first | exact h.elim | exact ⟨_, h, fun K' hk => by simp only [*]⟩
theorem pick_pt : Pt fun K => pickV K x y z := by
  intro K h
  simp only [pickV] at h ⊢
  repeat' split at h
  all_goals first | exact h.elim | exact ⟨_, h, fun K' hk => by simp only [*]⟩
theorem field_pt : Pt fun K => fieldV K t i x := by
  intro K h
  simp only [fieldV] at h ⊢
  repeat' split at h
  all_goals first | exact h.elim | exact ⟨_, h, fun K' hk => by simp only [*]⟩
theorem part_pt : Pt fun K => partV K t i x := by
  intro K h
  simp only [partV] at h ⊢
  repeat' split at h
  all_goals first | exact h.elim | exact ⟨_, h, fun K' hk => by simp only [*]⟩
theorem index_pt : Pt fun K => indexAddrV real os K t x y := by
  intro K h
  simp only [indexAddrV, arrAddrV] at h ⊢
  repeat' split at h
  all_goals first | exact h.elim | exact ⟨_, h, fun K' hk => by simp only [*]⟩
theorem sget_pt : Pt fun K => indexV real K t x y := by
  intro K h
  simp only [indexV] at h ⊢
  repeat' split at h
  all_goals first | exact h.elim | exact ⟨_, h, fun K' hk => by simp only [*]⟩
theorem val_pt {op : BinOp} {x y : Value} : Pt fun K => binVal real op x y K := by
  intro K h
  simp only [binVal] at h ⊢
  split at h <;> try exact h.elim
  · split at h <;> try exact h.elim
    rename_i hk
    simp only [binInt] at h ⊢
    split at h <;> first | exact h.elim | exact ⟨_, h, fun K' hk' => by simp only [*]⟩ | exact ⟨_, h.2, fun K' hk' => by first | exact ⟨h.1, hk'⟩ | (simp only [hk]; exact ⟨h.1, hk'⟩) | (rw [hk]; exact ⟨h.1, hk'⟩) | (split <;> simp_all)⟩
  · simp only [binStr] at h ⊢
    split at h <;> first | exact h.elim | exact ⟨_, h, fun K' hk' => by simp only [*]⟩ | exact ⟨_, h.2, fun K' hk' => ⟨h.1, hk'⟩⟩
theorem nil_pt {b : Bool} {op : BinOp} : Pt fun K => nilEq b K op := by
  intro K h
  simp only [nilEq] at h ⊢
  split at h <;> first | exact h.elim | exact ⟨_, h, fun K' hk' => hk'⟩
theorem bin_pt {op : BinOp} : Pt fun K => binV real op t x y K := by
  intro K h
  simp only [binV] at h ⊢
  split at h <;> try exact h.elim
  · split at h
    · split at h <;> try exact h.elim
      exact nil_pt _ h
    · split at h <;> try exact h.elim
      exact nil_pt _ h
    · exact val_pt _ h
  · split at h <;> try exact h.elim
    split at h <;> try exact h.elim
    exact nil_pt _ h
  · split at h <;> try exact h.elim
    split at h <;> try exact h.elim
    exact nil_pt _ h
theorem look_pt {ok : Bool} : Pt fun K => lookV real os K t ok x y := by
  intro K h
  simp only [lookV] at h ⊢
  repeat' split at h
  all_goals first | exact h.elim | skip
  all_goals simp only [zeroK, commaV] at h ⊢
  all_goals repeat' split at h
  all_goals first | exact h.elim | exact ⟨_, h, fun K' hk => by simp only [*]⟩
theorem min_pt {mx : Bool} {l : List V} : Pt fun K => minV real K mx l := by
  intro K h
  simp only [minV] at h ⊢
  repeat' split at h
  all_goals first | exact h.elim | exact ⟨_, h, fun K' hk => by simp only [*]⟩
theorem nn_pt : Pt fun K => nnV K x := by
  intro K h
  simp only [nnV] at h ⊢
  split at h <;> first | exact h.elim | exact ⟨_, h, fun K' hk' => hk'⟩
theorem un_pt {op : UnOp} : Pt fun K => unV real op x K := by
  intro K h
  simp only [unV] at h ⊢
  split at h <;> first | exact h.elim | exact ⟨_, h, fun K' hk' => hk'⟩
theorem conv_pt {k : TK} : Pt fun K => convV real K k x := by
  intro K h
  simp only [convV] at h ⊢
  split at h <;> first | exact h.elim | exact ⟨_, h, fun K' hk' => hk'⟩
theorem extract_pt : Pt fun K => extractV K i x := by
  intro K h
  simp only [extractV] at h ⊢
  repeat' split at h
  all_goals first | exact h.elim | exact ⟨_, h, fun K' hk => by simp only [*]⟩
theorem len_pt {k : TK} : Pt fun K => lenV real os K k x := by
  intro K h
  simp only [lenV, lenS, lenT] at h ⊢
  repeat' split at h
  all_goals first | exact h.elim | exact ⟨_, h, fun K' hk => by simp only [*]⟩
theorem build_pt {g : Operand → V} {ps : List (Nat × Operand)} : Pt fun K => buildV g K t ps := by
  intro K h
  simp only [buildV] at h ⊢
  repeat' split at h
  all_goals first | exact h.elim | exact ⟨_, h, fun K' hk => by simp only [*]⟩
theorem buildSlice_pt {g : Operand → V} {n : Nat} {ps : List (Nat × Operand)} : Pt fun K => buildSliceV g os K t n ps := by
  intro K h
  simp only [buildSliceV] at h ⊢
  repeat' split at h
  all_goals first | exact h.elim | exact ⟨_, h, fun K' hk => by simp only [*]⟩
theorem slice_pt {lo hi : Option V} : Pt fun K => sliceV real os K t x lo hi := by
  intro K h
  simp only [sliceV] at h ⊢
  repeat' split at h
  all_goals first | exact h.elim | exact ⟨_, h, fun K' hk => by simp only [*]⟩
theorem call_pt {f : Nat} {vs : List V} : Pt fun K => callV real os K f vs := by
  intro K h
  simp only [callV] at h ⊢
  split at h
  · obtain ⟨q, h1, h2⟩ := h
    exact ⟨_, h2, fun K' hk => ⟨q, h1, hk⟩⟩
  · obtain ⟨q, h1, h2⟩ := h
    exact ⟨_, h2, fun K' hk => ⟨q, h1, hk⟩⟩
theorem stepC_pt {g : Operand → V} {op : Op} : Pt fun K => stepC real g os K op := by
  intro K h
  simp only [stepC] at h ⊢
  split at h <;> try exact h.elim
  · exact ⟨_, h, fun K' hk => hk⟩
  · exact ⟨_, h, fun K' hk => hk⟩
  · exact pick_pt K h
  · exact load_pt K h
  · exact field_pt K h
  · exact part_pt K h
  · exact index_pt K h
  · exact sget_pt K h
  · exact bin_pt K h
  · exact un_pt K h
  · exact conv_pt K h
  · exact build_pt K h
  · exact buildSlice_pt K h
  · exact extract_pt K h
  · exact slice_pt K h
  · exact len_pt K h
  · exact call_pt K h
  · exact look_pt K h
  · exact min_pt K h
  · exact min_pt K h
  · exact nn_pt K h
  · split at h <;> try exact h.elim
    exact ⟨_, h, fun K' hk => by simp only [*]⟩
end
/-- It hangs on its operands alone. -/
theorem getVs_congr {g g' : Operand → V} : ∀ {l : List Operand}, (∀ x ∈ l, g x = g' x) → getVs g l = getVs g' l
  | [], _ => rfl
  | x :: l, h => by rw [getVs, getVs, h x (List.mem_cons_self ..), getVs_congr fun y hy => h y (List.mem_cons_of_mem _ hy)]
theorem fillV_congr {g g' : Operand → V} {place : List (Nat × Nat)} : ∀ {ps : List (Nat × Operand)} {l : List V}, (∀ p ∈ ps, g p.2 = g' p.2) → fillV g place ps l = fillV g' place ps l
  | [], _, _ => rfl
  | (i, x) :: ps, l, h => by
    rw [fillV, fillV, h (i, x) (List.mem_cons_self ..)]
    have ih := fun l => fillV_congr (place := place) (l := l) fun p hp => h p (List.mem_cons_of_mem _ hp)
    simp only [ih]
theorem stepC_congr {a : Ar} {g g' : Operand → V} {os : List O} {K : V → Prop} {op : Op} (h : ∀ x ∈ op.operands, g x = g' x) : stepC a g os K op = stepC a g' os K op := by
  have hm : ∀ l : List Operand, (∀ x ∈ l, x ∈ op.operands) → ∀ x ∈ l, g x = g' x := fun l hl x hx => h x (hl x hx)
  unfold stepC
  split
  · rw [h _ (by simp [Op.operands])]
  · rw [h _ (by simp [Op.operands])]
  · rw [h _ (by simp [Op.operands]), h _ (by simp [Op.operands]), h _ (by simp [Op.operands])]
  · rw [h _ (by simp [Op.operands])]
  · rw [h _ (by simp [Op.operands])]
  · rw [h _ (by simp [Op.operands])]
  · rw [h _ (by simp [Op.operands]), h _ (by simp [Op.operands])]
  · rw [h _ (by simp [Op.operands]), h _ (by simp [Op.operands])]
  · rw [h _ (by simp [Op.operands]), h _ (by simp [Op.operands])]
  · rw [h _ (by simp [Op.operands])]
  · rw [h _ (by simp [Op.operands])]
  · rename_i t ps
    simp only [buildV]
    have e : ∀ pl l, fillV g pl ps.toList l = fillV g' pl ps.toList l := fun pl l => fillV_congr fun p hp => h p.2 (by simp only [Op.operands]; simp; exact ⟨p.1, by simpa using hp⟩)
    simp only [e]
  · rename_i t n ps
    simp only [buildSliceV]
    have e : ∀ pl l, fillV g pl ps.toList l = fillV g' pl ps.toList l := fun pl l => fillV_congr fun p hp => h p.2 (by simp only [Op.operands]; simp; exact ⟨p.1, by simpa using hp⟩)
    simp only [e]
  · rw [h _ (by simp [Op.operands])]
  · rename_i t x lo hi
    rw [h x (by simp [Op.operands])]
    have e1 : getOpt g lo = getOpt g' lo := by cases lo with
      | none => rfl
      | some y => rw [getOpt, getOpt, h y (by simp [Op.operands])]
    have e2 : getOpt g hi = getOpt g' hi := by cases hi with
      | none => rfl
      | some y => rw [getOpt, getOpt, h y (by simp [Op.operands])]
    rw [e1, e2]
  · rw [h _ (by simp [Op.operands, Call.operands])]
  · rename_i f args ts
    rw [getVs_congr fun x hx => h x (by simp [Op.operands, Call.operands]; right; simpa using hx)]
  · rw [h _ (by simp [Op.operands]), h _ (by simp [Op.operands])]
  · rename_i args ts
    rw [getVs_congr fun x hx => h x (by simp [Op.operands, Call.operands]; simpa using hx)]
  · rename_i args ts
    rw [getVs_congr fun x hx => h x (by simp [Op.operands, Call.operands]; simpa using hx)]
  · rw [h _ (by simp [Op.operands])]
  · rename_i f cs
    rw [getVs_congr fun x hx => h x (by simp [Op.operands]; simpa using hx)]
  · rfl
/-- The temporaries that an operation looks at. -/
def tmps : List Operand → List Nat
  | [] => []
  | .tmp t :: l => t :: tmps l
  | _ :: l => tmps l
def looks (dsts : List (Option Nat)) (o : Oper) : List Nat := (match o.guard with
  | some (j, _) => match getD dsts j with | some d => [d] | none => []
  | none => []) ++ tmps o.op.operands.toList
theorem tmps_mem : ∀ {l : List Operand} {t : Nat}, Operand.tmp t ∈ l → t ∈ tmps l
  | [], t, h => by simp at h
  | x :: l, t, h => by
    rcases List.mem_cons.1 h with rfl | h
    · simp [tmps]
    · have h2 := tmps_mem h
      cases x <;> simp [tmps, h2]
/-- One operation, with its guard. -/
def exec1 (a : Ar) (dsts : List (Option Nat)) (o : Oper) (s : S) (K : S → Prop) : Prop := run a false dsts [o] s K
theorem run_cons (a : Ar) (dsts : List (Option Nat)) (o : Oper) (l : List Oper) (s : S) (K : S → Prop) : run a false dsts (o :: l) s K = exec1 a dsts o s (fun s => run a false dsts l s K) := by
  obtain ⟨dst, op, type, pos, after, gd⟩ := o
  cases gd with
  | none => rfl
  | some jb => rfl
theorem getN_set {l : List V} {i j : Nat} {v : V} (h : i ≠ j) : getN (setN l i v) j = getN l j := by
  rw [setN_is]
  rcases getN_get l j with h1 | ⟨h1, h2⟩
  · rcases getN_get (l.set i v) j with h3 | ⟨h3, h4⟩
    · rw [List.getElem?_set_ne h, h1] at h3
      injection h3 with h3
      exact h3.symm
    · rw [List.length_set] at h3
      have := (List.getElem?_eq_some_iff.1 h1).1
      omega
  · rcases getN_get (l.set i v) j with h3 | ⟨h3, h4⟩
    · rw [List.getElem?_set_ne h] at h3
      have := (List.getElem?_eq_some_iff.1 h3).1
      omega
    · rw [h4, h2]
theorem put_comm {s : S} {d e : Option Nat} {u v : V} (h : ∀ x, d = some x → e ≠ some x) : (s.put d u).put e v = (s.put e v).put d u := by
  cases d with
  | none => rfl
  | some x =>
    cases e with
    | none => rfl
    | some y =>
      have hne : x ≠ y := fun e => h x rfl (by rw [e])
      simp only [S.put, setN_is]
      congr 1
      exact List.set_comm _ _ hne
def Same (l : List Nat) (s s' : S) : Prop := s'.o = s.o ∧ ∀ t ∈ l, getN s'.t t = getN s.t t
theorem same_put {l : List Nat} {s : S} {d : Option Nat} {v : V} (h : ∀ x, d = some x → x ∉ l) : Same l s (s.put d v) := by
  cases d with
  | none => exact ⟨rfl, fun _ _ => rfl⟩
  | some x => exact ⟨rfl, fun t ht => getN_set fun e => h x rfl (e ▸ ht)⟩
theorem Same.symm {l : List Nat} {s s' : S} (h : Same l s s') : Same l s' s := ⟨h.1.symm, fun t ht => (h.2 t ht).symm⟩
theorem Same.ops {l : List Nat} {s s' : S} (h : Same l s s') {xs : List Operand} (hx : ∀ t ∈ tmps xs, t ∈ l) : ∀ x ∈ xs, s'.get x = s.get x := fun x hxm => by
  cases x with
  | tmp t => exact h.2 t (hx t (tmps_mem hxm))
  | const v => rfl
  | global g => rfl
  | func f => rfl
theorem guard_same {dsts : List (Option Nat)} {s s' : S} {j : Nat} {K : Option Bool → Prop} (h : ∀ d, getD dsts j = some d → getN s'.t d = getN s.t d) : guard s' dsts j K = guard s dsts j K := by
  unfold guard
  cases hd : getD dsts j with
  | none => rfl
  | some d => simp only [h d hd]
theorem guard_pt {dsts : List (Option Nat)} {s : S} {j : Nat} {K : Option Bool → Prop} (h : guard s dsts j K) : ∃ c, K c ∧ ∀ K', K' c → guard s dsts j K' := by
  unfold guard at h ⊢
  repeat' split at h
  all_goals first | exact h.elim | exact ⟨_, h, fun K' hk => by simp only [*]⟩
/-- A calm operation fills its slot with one value, which hangs on what it looks at. -/
theorem exec1_pt {dsts : List (Option Nat)} {o : Oper} (hc : calmB o.op = true) {s : S} {K : S → Prop} (h : exec1 real dsts o s K) : ∃ v, K (s.put o.dst v) ∧ ∀ s' K', Same (looks dsts o) s s' → K' (s'.put o.dst v) → exec1 real dsts o s' K' := by
  obtain ⟨dst, op, type, pos, after, gd⟩ := o
  have hst : ∀ {s s' : S} {K : S → Prop} {l : List Nat}, (∀ t ∈ tmps op.operands.toList, t ∈ l) → Same l s s' → step real false s dst K op → ∃ v, K (s.put dst v) ∧ ∀ K', K' (s'.put dst v) → step real false s' dst K' op := fun {s s' K l} hl hs h => by
    rw [step_calm hc] at h
    obtain ⟨v, h1, h2⟩ := stepC_pt _ h
    refine ⟨v, h1, fun K' hk => ?_⟩
    rw [step_calm hc, hs.1]
    have e := stepC_congr (a := real) (os := s.o) (K := fun v => K' (s'.put dst v)) (op := op) (g := s.get) (g' := s'.get) fun x hx => ((hs.ops (xs := op.operands.toList) hl) x (by simpa using hx)).symm
    rw [← e]
    exact h2 _ hk
  cases gd with
  | none =>
    have hl : ∀ t ∈ tmps op.operands.toList, t ∈ looks dsts ⟨dst, op, type, pos, after, none⟩ := fun t ht => by simp [looks, ht]
    have h' : step real false s dst K op := h
    rw [step_calm hc] at h'
    obtain ⟨v, h1, h2⟩ := stepC_pt _ h'
    refine ⟨v, h1, fun s' K' hs hk => ?_⟩
    show step real false s' dst K' op
    rw [step_calm hc, hs.1]
    have e := stepC_congr (a := real) (os := s.o) (K := fun v => K' (s'.put dst v)) (op := op) (g := s.get) (g' := s'.get) fun x hx => ((hs.ops (xs := op.operands.toList) hl) x (by simpa using hx)).symm
    rw [← e]
    exact h2 _ hk
  | some jb =>
    obtain ⟨j, b⟩ := jb
    have hl : ∀ t ∈ tmps op.operands.toList, t ∈ looks dsts ⟨dst, op, type, pos, after, some (j, b)⟩ := fun t ht => by simp [looks, ht]
    have hg : ∀ s', Same (looks dsts ⟨dst, op, type, pos, after, some (j, b)⟩) s s' → ∀ d, getD dsts j = some d → getN s'.t d = getN s.t d := fun s' hs d hd => hs.2 d (by simp [looks, hd])
    have h' : guard s dsts j (fun
      | some c => match bEq c b with
        | true => step real false s dst K op
        | false => K (s.put dst vun)
      | none => K (s.put dst vun)) := h
    have back : ∀ (c : Option Bool) {s' : S} {K' : S → Prop}, (∀ K', K' c → guard s dsts j K') → Same (looks dsts ⟨dst, op, type, pos, after, some (j, b)⟩) s s' → (match c with
      | some c => match bEq c b with
        | true => step real false s' dst K' op
        | false => K' (s'.put dst vun)
      | none => K' (s'.put dst vun)) → exec1 real dsts ⟨dst, op, type, pos, after, some (j, b)⟩ s' K' := fun c {s' K'} h2 hs hx => by
      show guard s' dsts j (fun
        | some c => match bEq c b with
          | true => step real false s' dst K' op
          | false => K' (s'.put dst vun)
        | none => K' (s'.put dst vun))
      rw [guard_same (hg s' hs)]
      exact h2 _ hx
    obtain ⟨c, h1, h2⟩ := guard_pt h'
    cases c with
    | none => exact ⟨vun, h1, fun s' K' hs hk => back none h2 hs hk⟩
    | some c =>
      cases hb : bEq c b with
      | false =>
        simp only [hb] at h1
        exact ⟨vun, h1, fun s' K' hs hk => back (some c) h2 hs (by simp only [hb]; exact hk)⟩
      | true =>
        simp only [hb] at h1
        rw [step_calm hc] at h1
        obtain ⟨v, h3, h4⟩ := stepC_pt _ h1
        refine ⟨v, h3, fun s' K' hs hk => back (some c) h2 hs ?_⟩
        simp only [hb]
        rw [step_calm hc, hs.1]
        have e := stepC_congr (a := real) (os := s.o) (K := fun v => K' (s'.put dst v)) (op := op) (g := s.get) (g' := s'.get) fun x hx => ((hs.ops (xs := op.operands.toList) hl) x (by simpa using hx)).symm
        rw [← e]
        exact h4 _ hk
/-- An operation that looks at no object. -/
def blindB : Op → Bool
  | .move _ => true
  | .assign _ => true
  | .pick _ _ _ => true
  | .fieldAddr _ _ _ => true
  | .field _ _ _ => true
  | .index _ _ _ => true
  | .binOp _ _ _ _ _ => true
  | .unOp _ _ _ => true
  | .convert _ _ _ => true
  | .build _ _ => true
  | .extract _ _ => true
  | .makeFunc _ _ _ => true
  | _ => false
theorem stepC_blind {a : Ar} {g : Operand → V} {os os' : List O} {K : V → Prop} {op : Op} (h : blindB op = true) : stepC a g os K op = stepC a g os' K op := by
  unfold stepC
  split <;> first | rfl | cases h
theorem blind_calm {op : Op} (h : blindB op = true) : calmB op = true := by
  cases op <;> first | rfl | cases h
def SameT (l : List Nat) (s s' : S) : Prop := ∀ t ∈ l, getN s'.t t = getN s.t t
theorem put_obj (t : List V) (o o' : List O) (d : Option Nat) (v : V) : (⟨(S.put ⟨t, o⟩ d v).t, o'⟩ : S) = S.put ⟨t, o'⟩ d v := by cases d <;> rfl
theorem blind_obj {dsts : List (Option Nat)} {x : Oper} (hb : blindB x.op = true) {t : List V} {o o' : List O} {K : S → Prop} (h : exec1 real dsts x ⟨t, o⟩ (fun r => K ⟨r.t, o'⟩)) : exec1 real dsts x ⟨t, o'⟩ K := by
  obtain ⟨dst, op, type, pos, after, gd⟩ := x
  have hst : step real false ⟨t, o⟩ dst (fun r => K ⟨r.t, o'⟩) op → step real false ⟨t, o'⟩ dst K op := fun h => by
    rw [step_calm (blind_calm hb)] at h ⊢
    simp only [put_obj] at h
    rw [stepC_blind (os' := o') hb] at h
    exact h
  cases gd with
  | none => exact hst h
  | some jb =>
    obtain ⟨j, b⟩ := jb
    have h' : guard ⟨t, o⟩ dsts j (fun
      | some c => match bEq c b with
        | true => step real false ⟨t, o⟩ dst (fun r => K ⟨r.t, o'⟩) op
        | false => K ⟨(S.put ⟨t, o⟩ dst vun).t, o'⟩
      | none => K ⟨(S.put ⟨t, o⟩ dst vun).t, o'⟩) := h
    show guard ⟨t, o'⟩ dsts j (fun
      | some c => match bEq c b with
        | true => step real false ⟨t, o'⟩ dst K op
        | false => K (S.put ⟨t, o'⟩ dst vun)
      | none => K (S.put ⟨t, o'⟩ dst vun))
    obtain ⟨c, h1, h2⟩ := guard_pt h'
    refine (guard_same (s := ⟨t, o⟩) (s' := ⟨t, o'⟩) fun d _ => rfl).mpr (h2 _ ?_)
    cases c with
    | none => rw [put_obj] at h1; exact h1
    | some c =>
      cases hb : bEq c b with
      | true => simp only [hb] at h1 ⊢; exact hst h1
      | false => simp only [hb, put_obj] at h1 ⊢; exact h1
theorem blind_pt {dsts : List (Option Nat)} {x : Oper} (hb : blindB x.op = true) {s : S} {K : S → Prop} (h : exec1 real dsts x s K) : ∃ v, K (s.put x.dst v) ∧ ∀ s' K', SameT (looks dsts x) s s' → K' (s'.put x.dst v) → exec1 real dsts x s' K' := by
  obtain ⟨v, h1, h2⟩ := exec1_pt (blind_calm hb) h
  refine ⟨v, h1, fun s' K' hs hk => ?_⟩
  exact blind_obj hb (t := s'.t) (o := s.o) (o' := s'.o) (h2 ⟨s'.t, s.o⟩ _ ⟨rfl, hs⟩ (by rw [put_obj]; exact hk))
theorem storeV_pt {s : S} {K : S → Prop} {t : Nat} {y x : V} (h : storeV real s K t y x) : ∃ o', K ⟨s.t, o'⟩ ∧ ∀ (t' : List V) (K' : S → Prop), K' ⟨t', o'⟩ → storeV real ⟨t', s.o⟩ K' t y x := by
  simp only [storeV] at h ⊢
  repeat' split at h
  all_goals first | exact h.elim | exact ⟨_, h, fun t' K' hk => by simp only [*]⟩
def storeB : Op → Bool
  | .store _ _ _ => true
  | _ => false
theorem store_pt {dsts : List (Option Nat)} {y : Oper} (hb : (storeB y.op && y.guard.isNone && y.dst.isNone) = true) {s : S} {K : S → Prop} (h : exec1 real dsts y s K) : ∃ o', K ⟨s.t, o'⟩ ∧ ∀ s' K', s'.o = s.o → SameT (looks dsts y) s s' → K' ⟨s'.t, o'⟩ → exec1 real dsts y s' K' := by
  obtain ⟨dst, op, type, pos, after, gd⟩ := y
  cases gd <;> cases dst <;> cases op <;> first | (simp [storeB] at hb; done) | skip
  rename_i t x z
  have h' : storeV real s K t (s.get z) (s.get x) := h
  obtain ⟨o', h1, h2⟩ := storeV_pt h'
  refine ⟨o', h1, fun s' K' ho hs hk => ?_⟩
  show storeV real s' K' t (s'.get z) (s'.get x)
  have hS : Same (looks dsts ⟨none, .store t x z, type, pos, after, none⟩) s ⟨s'.t, s.o⟩ := ⟨rfl, hs⟩
  have hg : ∀ y ∈ (Op.store t x z).operands.toList, (⟨s'.t, s.o⟩ : S).get y = s.get y := hS.ops fun u hu => by simp [looks, hu]
  have e1 : s'.get z = s.get z := by
    have := hg z (by simp [Op.operands])
    cases z <;> first | rfl | exact this
  have e2 : s'.get x = s.get x := by
    have := hg x (by simp [Op.operands])
    cases x <;> first | rfl | exact this
  rw [e1, e2]
  have := h2 s'.t K' hk
  rw [← ho] at this
  exact this
/-- Neither looks at what the other one writes. -/
def notIn (d : Option Nat) (l : List Nat) : Bool := match d with | some x => !l.contains x | none => true
def apart0 (dsts : List (Option Nat)) (x y : Oper) : Bool := calmB x.op && calmB y.op && notIn x.dst (looks dsts y) && notIn y.dst (looks dsts x) && (x.dst.isNone || x.dst != y.dst)
theorem notIn_is {d : Option Nat} {l : List Nat} (h : notIn d l = true) : ∀ x, d = some x → x ∉ l := fun x e => by
  subst e
  simpa [notIn] using h
theorem swap0 {dsts : List (Option Nat)} {x y : Oper} (h : apart0 dsts x y = true) {s : S} {K : S → Prop} (hx : exec1 real dsts x s fun s => exec1 real dsts y s K) : exec1 real dsts y s fun s => exec1 real dsts x s K := by
  simp only [apart0, Bool.and_eq_true, Bool.or_eq_true, bne_iff_ne, ne_eq] at h
  obtain ⟨⟨⟨⟨c1, c2⟩, n1⟩, n2⟩, n3⟩ := h
  obtain ⟨v1, h1, h2⟩ := exec1_pt c1 hx
  obtain ⟨v2, h3, h4⟩ := exec1_pt c2 h1
  refine h4 s _ (same_put (notIn_is n1)).symm (h2 _ _ (same_put (notIn_is n2)) ?_)
  rw [put_comm fun z hz e => ?_]
  · exact h3
  · rcases n3 with n3 | n3
    · rw [Option.isNone_iff_eq_none] at n3
      rw [n3] at e; cases e
    · exact n3 (by rw [e, hz])
theorem Same.refl (l : List Nat) (s : S) : Same l s s := ⟨rfl, fun _ _ => rfl⟩
theorem exec1_mono {dsts : List (Option Nat)} {o : Oper} (hc : calmB o.op = true) {s : S} {K K' : S → Prop} (hK : ∀ s, K s → K' s) (h : exec1 real dsts o s K) : exec1 real dsts o s K' := by
  obtain ⟨v, h1, h2⟩ := exec1_pt hc h
  exact h2 s K' (.refl _ _) (hK _ h1)
theorem apart_calm {dsts : List (Option Nat)} {x y : Oper} (h : apart0 dsts x y = true) : calmB x.op = true := by
  simp only [apart0, Bool.and_eq_true] at h
  exact h.1.1.1.1
/-- x looks at no object and y stores into one. -/
def stor (o : Oper) : Bool := storeB o.op && o.guard.isNone && o.dst.isNone
def besides (dsts : List (Option Nat)) (x y : Oper) : Bool := blindB x.op && stor y && notIn x.dst (looks dsts y)
def isApp : Op → Bool
  | .call ⟨.builtin .append, ⟨[_, _]⟩, ⟨[_, _]⟩⟩ => true
  | _ => false
def isAddr : Op → Bool
  | .move _ => true
  | .nilCheck _ => true
  | .fieldAddr _ _ _ => true
  | _ => false
def isAlloc : Op → Bool
  | .alloc _ => true
  | _ => false
/-- An operation that peeks at objects, and calls nobody. -/
def peekB : Op → Bool
  | .move _ => true
  | .assign _ => true
  | .pick _ _ _ => true
  | .load _ _ => true
  | .fieldAddr _ _ _ => true
  | .field _ _ _ => true
  | .indexAddr _ _ _ => true
  | .index _ _ _ => true
  | .binOp _ _ _ _ _ => true
  | .unOp _ _ _ => true
  | .convert _ _ _ => true
  | .build _ _ => true
  | .extract _ _ => true
  | .nilCheck _ => true
  | _ => false
/-- An append, and behind it an address. -/
def behindA (dsts : List (Option Nat)) (x y : Oper) : Bool := isApp x.op && x.guard.isNone && x.dst.isSome && isAddr y.op && y.guard.isNone && notIn x.dst (looks dsts y) && notIn y.dst (looks dsts x) && (y.dst.isNone || x.dst != y.dst)
/-- A peek, and behind it a variable. -/
def aheadL (dsts : List (Option Nat)) (x y : Oper) : Bool := peekB x.op && x.guard.isNone && isAlloc y.op && y.guard.isNone && notIn y.dst (looks dsts x) && (x.dst.isNone || x.dst != y.dst)
def isMove : Op → Bool
  | .move _ => true
  | _ => false
/-- A move, and behind it an append. -/
def aheadA (dsts : List (Option Nat)) (x y : Oper) : Bool := isMove x.op && x.guard.isNone && isApp y.op && y.guard.isNone && y.dst.isSome && notIn x.dst (looks dsts y) && notIn y.dst (looks dsts x) && (x.dst.isNone || x.dst != y.dst)
def apart (dsts : List (Option Nat)) (x y : Oper) : Bool := apart0 dsts x y || besides dsts x y || besides dsts y x || behindA dsts x y || aheadL dsts x y || aheadA dsts x y
def klT : Option Nat → List V → List V
  | none, t => t
  | some k, t => killT k t
def klV : Option Nat → V → V
  | none, v => v
  | some k, v => kill2 k v
theorem append_pt {s : S} {d : Nat} {K : S → Prop} {t : Nat} {x y : V} (h : appendV real s (some d) K t x y) : ∃ (kk : Option Nat) (o' : List O) (k' : Nat), K (S.put ⟨klT kk s.t, o'⟩ (some d) (.own k')) ∧ ∀ (t' : List V) (K' : S → Prop), K' (S.put ⟨klT kk t', o'⟩ (some d) (.own k')) → appendV real ⟨t', s.o⟩ (some d) K' t x y := by
  unfold appendV at h
  repeat' split at h
  all_goals first | exact h.elim | skip
  · rename_i e he _ sz ys hys _ hsz _
    obtain ⟨h1, z, h2⟩ := h
    refine ⟨none, snocO s.o (.row z e ys), lenO s.o, h2, fun t' K' hk => ?_⟩
    unfold appendV
    simp only [he, hys, hsz]
    exact ⟨h1, z, hk⟩
  · rename_i e he _ sz ys hys _ hsz _ k _ z e' xs hok _ hee
    obtain ⟨h1, h2⟩ := h
    refine ⟨some k, _, k, h2, fun t' K' hk => ?_⟩
    unfold appendV
    simp only [he, hys, hsz, hok, hee]
    exact ⟨h1, hk⟩
theorem killT_set {k : Nat} {v : V} : ∀ {l : List V} {i : Nat}, killT k (setN l i v) = setN (killT k l) i (kill2 k v)
  | [], i => rfl
  | _ :: _, 0 => rfl
  | x :: l, i + 1 => by rw [setN, killT, killT_set (l := l), killT, setN]
theorem killT_get {k : Nat} : ∀ {l : List V} {i : Nat}, getN (killT k l) i = kill2 k (getN l i)
  | [], i => rfl
  | _ :: _, 0 => rfl
  | x :: l, i + 1 => by rw [killT, getN, getN, killT_get (l := l)]
theorem klT_set {kk : Option Nat} {v : V} {l : List V} {i : Nat} : klT kk (setN l i v) = setN (klT kk l) i (klV kk v) := by cases kk <;> first | rfl | exact killT_set
theorem klT_put {kk : Option Nat} {s : S} {d : Option Nat} {v : V} {o : List O} : (⟨klT kk (s.put d v).t, o⟩ : S) = S.put ⟨klT kk s.t, o⟩ d (klV kk v) := by
  cases d with
  | none => rfl
  | some d => simp only [S.put, klT_set]
theorem klV_get {kk : Option Nat} {s : S} {o : List O} (x : Operand) : (⟨klT kk s.t, o⟩ : S).get x = klV kk (s.get x) := by
  cases kk with
  | none => cases x <;> rfl
  | some k =>
    cases x with
    | tmp i => exact killT_get
    | const v => cases v <;> first | rfl | (simp only [S.get, klV]; unfold constV; split <;> rfl)
    | global g => rfl
    | func f => rfl
/-- What is an address stays one, or is lost. -/
theorem addr_pt {kk : Option Nat} {g g' : Operand → V} {os os' : List O} {op : Op} (hb : isAddr op = true) (hg : ∀ x ∈ op.operands, g' x = klV kk (g x)) {K : V → Prop} (h : stepC real g' os' K op) : ∃ v, K (klV kk v) ∧ ∀ K', K' v → stepC real g os K' op := by
  have keep : ∀ {v w : V}, klV kk v = w → ((∃ k o, w = .ptr k o) ∨ (∃ f ks, w = .cl f ks) ∨ (∃ k i z o, w = .el k i z o) ∨ ∃ cs o, w = .ro cs o) → v = w := fun {v w} e hw => by
    cases kk with
    | none => exact e
    | some k =>
      have e : kill2 k v = w := e
      cases v with
      | ag cs => subst e; simp [kill2] at hw
      | tu cs => subst e; cases cs <;> simp [kill2] at hw
      | own j =>
        subst e
        have e2 : kill2 k (.own j) = match eqN j k with | true => .jk | false => .own j := rfl
        rw [e2] at hw
        cases he : eqN j k <;> rw [he] at hw <;> simp at hw
      | el j i z o =>
        subst e
        have e2 : kill2 k (.el j i z o) = match eqN j k with | true => .jk | false => .el j i z o := rfl
        rw [e2] at hw ⊢
        cases he : eqN j k <;> rw [he] at hw <;> simp at hw ⊢
      | _ => exact e
  cases op <;> first | cases hb; done | skip
  · rename_i x
    rw [show stepC real g' os' K (.move x) = K (g' x) from rfl, hg x (by simp [Op.operands])] at h
    exact ⟨_, h, fun K' hk => hk⟩
  · rename_i x
    rw [show stepC real g' os' K (.nilCheck x) = nnV K (g' x) from rfl] at h
    have e := hg x (by simp [Op.operands])
    generalize g' x = w at h e
    unfold nnV at h
    split at h <;> try exact h.elim
    all_goals
      have e' := keep e.symm (by simp)
      refine ⟨g x, by rw [← e]; exact h, fun K' hk => ?_⟩
      show nnV K' (g x)
      rw [e'] at hk ⊢
      exact hk
  · rename_i t x i
    rw [show stepC real g' os' K (.fieldAddr t x i) = fieldV K t i (g' x) from rfl] at h
    have e := hg x (by simp [Op.operands])
    generalize g' x = w at h e
    unfold fieldV at h
    split at h <;> try exact h.elim
    rename_i off sz hf
    split at h <;> try exact h.elim
    · rename_i k o
      have e' := keep e.symm (by simp)
      refine ⟨.ptr k (o + off), by cases kk <;> exact h, fun K' hk => ?_⟩
      show fieldV K' t i (g x)
      unfold fieldV
      rw [hf, e']
      exact hk
    · rename_i cs o
      have e' := keep e.symm (by simp)
      refine ⟨.ro cs (o + off), by cases kk <;> exact h, fun K' hk => ?_⟩
      show fieldV K' t i (g x)
      unfold fieldV
      rw [hf, e']
      exact hk
    · rename_i k i' z o
      have e' := keep e.symm (by simp)
      have e3 : klV kk (.el k i' z (o + off)) = .el k i' z (o + off) := by
        rw [e'] at e
        cases kk with
        | none => rfl
        | some j =>
          have e4 : (V.el k i' z o) = match eqN k j with | true => V.jk | false => V.el k i' z o := e
          show (match eqN k j with | true => V.jk | false => V.el k i' z (o + off)) = _
          cases he : eqN k j with
          | true => rw [he] at e4; cases e4
          | false => rfl
      refine ⟨.el k i' z (o + off), by rw [e3]; exact h, fun K' hk => ?_⟩
      show fieldV K' t i (g x)
      unfold fieldV
      rw [hf, e']
      exact hk
theorem getO_snoc {o : O} : ∀ {l : List O} {k : Nat}, getO l k ≠ .dead → getO (snocO l o) k = getO l k
  | [], k, h => absurd rfl h
  | _ :: _, 0, _ => rfl
  | x :: l, k + 1, h => by rw [snocO, getO, getO]; rw [getO] at h; exact getO_snoc h
theorem getO_box {o : O} {l : List O} {k : Nat} {x : O} (h : getO l k = x) (hd : x ≠ .dead) : getO (snocO l o) k = x := by rw [getO_snoc (by rw [h]; exact hd), h]
theorem rows_snoc {o : O} {os : List O} {x : V} {r : Option Nat × List (List D)} (h : rowsV os x = some r) : rowsV (snocO os o) x = some r := by
  unfold rowsV at h ⊢
  split at h
  · exact h
  · exact h
  · split at h
    · rename_i hok
      rw [getO_box hok (by simp)]
      exact h
    · cases h
  · cases h
theorem raw_snoc {o : O} {os : List O} {x : V} {r : Nat × Nat × List (List D)} (h : rawV os x = some r) : rawV (snocO os o) x = some r := by
  unfold rawV at h ⊢
  split at h
  · split at h
    · rename_i hok
      simp only [getO_box hok (by simp)]
      exact h
    · cases h
  · cases h
theorem peek_snoc {g : Operand → V} {os : List O} {o : O} {K : V → Prop} {op : Op} (hb : peekB op = true) (h : stepC real g os K op) : stepC real g (snocO os o) K op := by
  cases op <;> first | cases hb; done | exact h | skip
  · rename_i t x
    have h : loadV real os K t (g x) := h
    show loadV real (snocO os o) K t (g x)
    generalize g x = v at h
    unfold loadV at h ⊢
    split at h <;> try exact h.elim
    · split at h <;> try exact h.elim
      rename_i hok
      simp only [getO_box hok (by simp)]
      exact h
    · exact h
    · split at h <;> try exact h.elim
      rename_i hok
      simp only [getO_box hok (by simp)]
      exact h
  · rename_i t x i
    have h : indexAddrV real os K t (g x) (g i) := h
    show indexAddrV real (snocO os o) K t (g x) (g i)
    generalize g x = v at h
    generalize g i = u at h
    unfold indexAddrV at h ⊢
    split at h <;> try exact h.elim
    split at h
    · exact h
    · split at h <;> try exact h.elim
      split at h
      · rename_i hraw
        rw [raw_snoc hraw]
        exact h
      · rename_i hraw
        split at h <;> try exact h.elim
        rename_i hrows
        have e : rawV (snocO os o) v = none := by
          unfold rawV
          split
          · rename_i k
            unfold rowsV at hrows
            simp only at hrows
            split at hrows
            · rename_i hok
              rw [getO_box hok (by simp)]
            · cases hrows
          · rfl
        rw [e, rows_snoc hrows]
        exact h
theorem put_o (s : S) (d : Option Nat) (v : V) : (s.put d v).o = s.o := by cases d <;> rfl
theorem same_putT {l : List Nat} {s : S} {d : Option Nat} {v : V} (h : notIn d l = true) : SameT l s (s.put d v) := (same_put (notIn_is h)).2
theorem swapB {dsts : List (Option Nat)} {x y : Oper} (h : besides dsts x y = true) {s : S} {K : S → Prop} (hx : exec1 real dsts x s fun s => exec1 real dsts y s K) : exec1 real dsts y s fun s => exec1 real dsts x s K := by
  simp only [besides, Bool.and_eq_true] at h
  obtain ⟨v, h1, h2⟩ := blind_pt h.1.1 hx
  obtain ⟨o', h3, h4⟩ := store_pt (by simpa [stor] using h.1.2) h1
  refine h4 s _ (put_o ..).symm (fun t ht => (same_putT h.2 t ht).symm) (h2 _ _ (fun _ _ => rfl) ?_)
  rw [← put_obj s.t s.o o']
  exact h3
theorem swapC {dsts : List (Option Nat)} {x y : Oper} (h : besides dsts x y = true) {s : S} {K : S → Prop} (hy : exec1 real dsts y s fun s => exec1 real dsts x s K) : exec1 real dsts x s fun s => exec1 real dsts y s K := by
  simp only [besides, Bool.and_eq_true] at h
  obtain ⟨o', h1, h2⟩ := store_pt (by simpa [stor] using h.1.2) hy
  obtain ⟨v, h3, h4⟩ := blind_pt h.1.1 h1
  refine h4 s _ (fun _ _ => rfl) (h2 _ _ (put_o ..) (same_putT h.2) ?_)
  rw [← put_obj s.t s.o o'] at h3
  exact h3
theorem swapD {dsts : List (Option Nat)} {x y : Oper} (h : behindA dsts x y = true) {s : S} {K : S → Prop} (hx : exec1 real dsts x s fun s => exec1 real dsts y s K) : exec1 real dsts y s fun s => exec1 real dsts x s K := by
  obtain ⟨xd, xop, xty, xpos, xaf, xg⟩ := x
  obtain ⟨yd, yop, yty, ypos, yaf, yg⟩ := y
  simp only [behindA, Bool.and_eq_true] at h
  obtain ⟨⟨⟨⟨⟨⟨⟨h1, h2⟩, h3⟩, h4⟩, h5⟩, h6⟩, h7⟩, h8⟩ := h
  cases xg with
  | some g => cases h2
  | none =>
    cases yg with
    | some g => cases h5
    | none =>
      cases xd with
      | none => cases h3
      | some d =>
        unfold isApp at h1
        split at h1
        · rename_i p q t t' 
          have hx' : appendV real s (some d) (fun s => exec1 real dsts ⟨yd, yop, yty, ypos, yaf, none⟩ s K) t (s.get p) (s.get q) := hx
          obtain ⟨kk, o', k', h9, h10⟩ := append_pt hx'
          have h9 : step real false (S.put ⟨klT kk s.t, o'⟩ (some d) (.own k')) yd K yop := h9
          have hcalm : calmB yop = true := by cases yop <;> first | rfl | cases h4
          rw [step_calm hcalm] at h9
          have hl : ∀ t ∈ Vm.tmps yop.operands.toList, t ∈ looks dsts ⟨yd, yop, yty, ypos, yaf, none⟩ := fun t ht => by simp [looks, ht]
          obtain ⟨v, h11, h12⟩ := addr_pt (kk := kk) (g := s.get) (os := s.o) h4 (fun z hz => by
            have hs : Same (looks dsts ⟨yd, yop, yty, ypos, yaf, none⟩) (⟨klT kk s.t, o'⟩ : S) (S.put ⟨klT kk s.t, o'⟩ (some d) (.own k')) := same_put (notIn_is h6)
            rw [(hs.ops (xs := yop.operands.toList) hl) z (by simpa using hz)]
            exact klV_get z) h9
          show step real false s yd (fun s => exec1 real dsts ⟨some d, .call ⟨.builtin .append, ⟨[p, q]⟩, ⟨[t, t']⟩⟩, xty, xpos, xaf, none⟩ s K) yop
          rw [step_calm hcalm]
          refine h12 _ ?_
          show appendV real (s.put yd v) (some d) K t ((s.put yd v).get p) ((s.put yd v).get q)
          have hs2 : Same (looks dsts ⟨some d, .call ⟨.builtin .append, ⟨[p, q]⟩, ⟨[t, t']⟩⟩, xty, xpos, xaf, none⟩) s (s.put yd v) := same_put (notIn_is h7)
          have hops := hs2.ops (xs := [p, q]) fun t ht => by simp [looks, Op.operands, Call.operands]; simpa using ht
          rw [hops p (by simp), hops q (by simp)]
          have e : s.put yd v = ⟨(s.put yd v).t, s.o⟩ := by cases yd <;> rfl
          rw [e]
          refine h10 _ _ ?_
          have hne : ∀ z, yd = some z → some d ≠ some z := fun z hz hz' => by
            subst hz
            rw [hz'] at h8
            simp at h8
          rw [klT_put, put_comm hne]
          exact h11
        · cases h1
theorem swapE {dsts : List (Option Nat)} {x y : Oper} (h : aheadL dsts x y = true) {s : S} {K : S → Prop} (hx : exec1 real dsts x s fun s => exec1 real dsts y s K) : exec1 real dsts y s fun s => exec1 real dsts x s K := by
  obtain ⟨xd, xop, xty, xpos, xaf, xg⟩ := x
  obtain ⟨yd, yop, yty, ypos, yaf, yg⟩ := y
  simp only [aheadL, Bool.and_eq_true] at h
  obtain ⟨⟨⟨⟨⟨h1, h2⟩, h3⟩, h4⟩, h5⟩, h6⟩ := h
  cases xg with
  | some g => cases h2
  | none =>
    cases yg with
    | some g => cases h4
    | none =>
      cases yop <;> first | cases h3; done | skip
      rename_i e
      have hcalm : calmB xop = true := by cases xop <;> first | rfl | cases h1
      have hx' : step real false s xd (fun s => exec1 real dsts ⟨yd, .alloc e, yty, ypos, yaf, none⟩ s K) xop := hx
      rw [step_calm hcalm] at hx'
      obtain ⟨v, h7, h8⟩ := stepC_pt _ hx'
      have h7 : (match ones (constL (ty e).zero) with | true => K (((s.put xd v).obj (.box (constL (ty e).zero))).put yd (.ptr (lenO (s.put xd v).o) 0)) | false => False) := h7
      show (match ones (constL (ty e).zero) with | true => exec1 real dsts ⟨xd, xop, xty, xpos, xaf, none⟩ ((s.obj (.box (constL (ty e).zero))).put yd (.ptr (lenO s.o) 0)) K | false => False)
      cases hon : ones (constL (ty e).zero) with
      | false => rw [hon] at h7; exact h7.elim
      | true =>
        rw [hon] at h7
        simp only at h7 ⊢
        show step real false ((s.obj (.box (constL (ty e).zero))).put yd (.ptr (lenO s.o) 0)) xd K xop
        rw [step_calm hcalm, put_o]
        have hl : ∀ t ∈ Vm.tmps xop.operands.toList, t ∈ looks dsts ⟨xd, xop, xty, xpos, xaf, none⟩ := fun t ht => by simp [looks, ht]
        have hs : Same (looks dsts ⟨xd, xop, xty, xpos, xaf, none⟩) (s.obj (.box (constL (ty e).zero))) ((s.obj (.box (constL (ty e).zero))).put yd (.ptr (lenO s.o) 0)) := same_put (notIn_is h5)
        have hops := hs.ops (xs := xop.operands.toList) hl
        rw [stepC_congr (g' := (s.obj (.box (constL (ty e).zero))).get) fun z hz => hops z (by simpa using hz)]
        have h9 := h8 (fun w => K (S.put ((s.obj (.box (constL (ty e).zero))).put yd (.ptr (lenO s.o) 0)) xd w)) (by
          have e1 : lenO (s.put xd v).o = lenO s.o := by rw [put_o]
          rw [e1] at h7
          have e2 : (s.put xd v).obj (.box (constL (ty e).zero)) = (s.obj (.box (constL (ty e).zero))).put xd v := by cases xd <;> rfl
          rw [e2] at h7
          have hne : ∀ z, yd = some z → xd ≠ some z := fun z hz hz' => by
            subst hz; subst hz'
            simp at h6
          rw [put_comm hne]
          exact h7)
        exact peek_snoc (g := (s.obj (.box (constL (ty e).zero))).get) h1 h9
theorem swapF {dsts : List (Option Nat)} {x y : Oper} (h : aheadA dsts x y = true) {s : S} {K : S → Prop} (hx : exec1 real dsts x s fun s => exec1 real dsts y s K) : exec1 real dsts y s fun s => exec1 real dsts x s K := by
  obtain ⟨xd, xop, xty, xpos, xaf, xg⟩ := x
  obtain ⟨yd, yop, yty, ypos, yaf, yg⟩ := y
  simp only [aheadA, Bool.and_eq_true] at h
  obtain ⟨⟨⟨⟨⟨⟨⟨h1, h2⟩, h3⟩, h4⟩, h5⟩, h6⟩, h7⟩, h8⟩ := h
  cases xg with
  | some g => cases h2
  | none =>
    cases yg with
    | some g => cases h4
    | none =>
      cases yd with
      | none => cases h5
      | some d =>
        cases xop <;> first | cases h1; done | skip
        rename_i r
        unfold isApp at h3
        split at h3
        · rename_i p q t t'
          have hx' : appendV real (s.put xd (s.get r)) (some d) K t ((s.put xd (s.get r)).get p) ((s.put xd (s.get r)).get q) := hx
          have hs2 : Same (looks dsts ⟨some d, .call ⟨.builtin .append, ⟨[p, q]⟩, ⟨[t, t']⟩⟩, yty, ypos, yaf, none⟩) s (s.put xd (s.get r)) := same_put (notIn_is h6)
          have hops := hs2.ops (xs := [p, q]) fun t ht => by simp [looks, Op.operands, Call.operands]; simpa using ht
          rw [hops p (by simp), hops q (by simp)] at hx'
          obtain ⟨kk, o', k', h9, h10⟩ := append_pt hx'
          have e : s = ⟨s.t, (s.put xd (s.get r)).o⟩ := by cases xd <;> rfl
          show appendV real s (some d) (fun s => exec1 real dsts ⟨xd, .move r, xty, xpos, xaf, none⟩ s K) t (s.get p) (s.get q)
          have h11 := h10 s.t (fun s => exec1 real dsts ⟨xd, .move r, xty, xpos, xaf, none⟩ s K) (by
            show K (S.put (S.put ⟨klT kk s.t, o'⟩ (some d) (.own k')) xd ((S.put ⟨klT kk s.t, o'⟩ (some d) (.own k')).get r))
            have hs : Same (looks dsts ⟨xd, .move r, xty, xpos, xaf, none⟩) (⟨klT kk s.t, o'⟩ : S) (S.put ⟨klT kk s.t, o'⟩ (some d) (.own k')) := same_put (notIn_is h7)
            rw [hs.ops (xs := [r]) (fun t ht => by simp [looks, Op.operands]; simpa using ht) r (by simp), klV_get r]
            rw [klT_put] at h9
            have hne : ∀ z, (some d : Option Nat) = some z → xd ≠ some z := fun z hz hz' => by
              subst hz'
              rw [← hz] at h8
              simp at h8
            rw [put_comm hne]
            exact h9)
          rw [← e] at h11
          exact h11
        · cases h3
theorem swap1 {dsts : List (Option Nat)} {x y : Oper} (h : apart dsts x y = true) {s : S} {K : S → Prop} (hx : exec1 real dsts x s fun s => exec1 real dsts y s K) : exec1 real dsts y s fun s => exec1 real dsts x s K := by
  simp only [apart, Bool.or_eq_true] at h
  rcases h with ((((h | h) | h) | h) | h) | h
  · exact swap0 h hx
  · exact swapB h hx
  · exact swapC h hx
  · exact swapD h hx
  · exact swapE h hx
  · exact swapF h hx
theorem apart_mono {dsts : List (Option Nat)} {x y : Oper} (h : apart dsts x y = true) {s : S} {K K' : S → Prop} (hK : ∀ s, K s → K' s) (hx : exec1 real dsts x s K) : exec1 real dsts x s K' := by
  simp only [apart, Bool.or_eq_true] at h
  rcases h with ((((h | h) | h) | h) | h) | h
  · exact exec1_mono (apart_calm h) hK hx
  · simp only [besides, Bool.and_eq_true] at h
    exact exec1_mono (blind_calm h.1.1) hK hx
  · simp only [besides, Bool.and_eq_true] at h
    obtain ⟨o', h1, h2⟩ := store_pt (by simpa [stor] using h.1.2) hx
    exact h2 s K' rfl (fun _ _ => rfl) (hK _ h1)
  · obtain ⟨xd, xop, xty, xpos, xaf, xg⟩ := x
    simp only [behindA, Bool.and_eq_true] at h
    obtain ⟨⟨⟨⟨⟨⟨⟨h1, h2⟩, h3⟩, h4⟩, h5⟩, h6⟩, h7⟩, h8⟩ := h
    cases xg with
    | some g => cases h2
    | none =>
      cases xd with
      | none => cases h3
      | some d =>
        unfold isApp at h1
        split at h1
        · rename_i p q t t'
          obtain ⟨kk, o', k', h9, h10⟩ := append_pt (s := s) (K := K) (t := t) (x := s.get p) (y := s.get q) hx
          exact h10 s.t K' (hK _ h9)
        · cases h1
  · simp only [aheadL, Bool.and_eq_true] at h
    exact exec1_mono (by have h1 := h.1.1.1.1.1; cases hx : x.op <;> rw [hx] at h1 <;> first | rfl | cases h1) hK hx
  · simp only [aheadA, Bool.and_eq_true] at h
    exact exec1_mono (by have h1 := h.1.1.1.1.1.1.1; cases hx : x.op <;> rw [hx] at h1 <;> first | rfl | cases h1) hK hx
theorem distB_kl {kk : Option Nat} {u v : V} (h : distB u v = true) : distB (klV kk u) (klV kk v) = true := by
  cases kk with
  | none => exact h
  | some k =>
    show distB (kill2 k u) (kill2 k v) = true
    have key : ∀ w : V, (∃ j o, w = .ptr j o ∧ kill2 k w = w) ∨ (∃ j i z o, w = .el j i z o ∧ (kill2 k w = w ∨ kill2 k w = .jk)) ∨ ((∀ j o, kill2 k w ≠ .ptr j o) ∧ ∀ j i z o, kill2 k w ≠ .el j i z o) := by
      intro w
      cases w with
      | ptr j o => exact .inl ⟨j, o, rfl, rfl⟩
      | el j i z o =>
        refine .inr (.inl ⟨j, i, z, o, rfl, ?_⟩)
        have e2 : kill2 k (.el j i z o) = match eqN j k with | true => V.jk | false => .el j i z o := rfl
        rw [e2]
        cases eqN j k <;> simp
      | own j =>
        have e2 : kill2 k (.own j) = match eqN j k with | true => V.jk | false => .own j := rfl
        refine .inr (.inr ⟨fun _ _ => ?_, fun _ _ _ _ => ?_⟩) <;> rw [e2] <;> cases eqN j k <;> simp
      | tu l => cases l <;> exact .inr (.inr ⟨fun _ _ => by simp [kill2], fun _ _ _ _ => by simp [kill2]⟩)
      | _ => exact .inr (.inr ⟨fun _ _ => by simp [kill2, kill1], fun _ _ _ _ => by simp [kill2, kill1]⟩)
    rcases key u with ⟨j, o, rfl, e⟩ | ⟨j, i, z, o, rfl, e | e⟩ | ⟨e1, e2⟩
    · rcases key v with ⟨j', o', rfl, e'⟩ | ⟨j', i', z', o', rfl, e' | e'⟩ | ⟨e1', e2'⟩
      · rw [e, e']; exact h
      · rw [e, e']; rfl
      · rw [e, e']; rfl
      · rw [e]
        unfold distB
        split <;> first | rfl | skip
        · rename_i h1 h2; exact absurd h2 (e1' _ _)
        · rename_i h1 h2; cases h1
    · rcases key v with ⟨j', o', rfl, e'⟩ | ⟨j', i', z', o', rfl, e' | e'⟩ | ⟨e1', e2'⟩
      · rw [e, e']; rfl
      · rw [e, e']; exact h
      · rw [e, e']; rfl
      · rw [e]
        unfold distB
        split <;> first | rfl | skip
        · rename_i h1 h2; cases h1
        · rename_i h1 h2; exact absurd h2 (e2' _ _ _ _)
    · rw [e]; rfl
    · unfold distB
      split <;> first | rfl | skip
      · rename_i h1 h2; exact absurd h1 (e1 _ _)
      · rename_i h1 h2; exact absurd h1 (e2 _ _ _ _)
/-- Addresses that don't meet. -/
def PP (prs : List (Nat × Nat)) (s : S) : Prop := ∀ p ∈ prs, distB (getN s.t p.1) (getN s.t p.2) = true
theorem pp_of : ∀ {prs : List (Nat × Nat)} {s : S}, preOk prs s.t = true → PP prs s
  | [], s, _, p, hp => by simp at hp
  | (i, k) :: l, s, h, p, hp => by
    rw [preOk] at h
    split at h
    · rename_i h1
      rcases List.mem_cons.1 hp with rfl | hp
      · exact h1
      · exact pp_of (prs := l) h p hp
    · cases h
def free (prs : List (Nat × Nat)) (d : Option Nat) : Prop := ∀ p ∈ prs, d ≠ some p.1 ∧ d ≠ some p.2
theorem klT_get {kk : Option Nat} {l : List V} {i : Nat} : getN (klT kk l) i = klV kk (getN l i) := by
  cases kk with
  | none => rfl
  | some k => exact killT_get
theorem PP.next {prs : List (Nat × Nat)} {s : S} (h : PP prs s) {kk : Option Nat} {d : Option Nat} {v : V} {o' : List O} (hf : free prs d) : PP prs (S.put ⟨klT kk s.t, o'⟩ d v) := fun p hp => by
  have key : ∀ i, d ≠ some i → getN (S.put ⟨klT kk s.t, o'⟩ d v).t i = klV kk (getN s.t i) := fun i hi => by
    cases d with
    | none => exact klT_get
    | some x =>
      show getN (setN (klT kk s.t) x v) i = _
      rw [getN_set (fun e => hi (by rw [e])), klT_get]
  rw [key _ (hf p hp).1, key _ (hf p hp).2]
  exact distB_kl (h p hp)
/-- What a step does to the slots. -/
theorem step_shape {s : S} {dst : Option Nat} {K : S → Prop} {op : Op} (hx : step real false s dst K op) : step real false s dst (fun s' => (∃ kk v o', s' = S.put ⟨klT kk s.t, o'⟩ dst v) ∧ K s') op := by
  have hC : ∀ {v : V}, ∃ kk u o', s.put dst v = S.put ⟨klT kk s.t, o'⟩ dst u := fun {v} => ⟨none, v, s.o, rfl⟩
  have hO : ∀ {o : O} {v : V}, ∃ kk u o', (s.obj o).put dst v = S.put ⟨klT kk s.t, o'⟩ dst u := fun {o v} => ⟨none, v, snocO s.o o, rfl⟩
  have calm : ∀ {op : Op}, stepC real s.get s.o (fun v => K (s.put dst v)) op → stepC real s.get s.o (fun v => (∃ kk u o', s.put dst v = S.put ⟨klT kk s.t, o'⟩ dst u) ∧ K (s.put dst v)) op := fun h => by
    obtain ⟨v, h1, h2⟩ := stepC_pt _ h
    exact h2 _ ⟨hC, h1⟩
  unfold step at hx ⊢
  split at hx
  · split at hx
    · exact ⟨hO, hx⟩
    · exact hx.elim
  · split at hx
    · exact ⟨hO, hx⟩
    · exact hx.elim
  · split at hx
    · obtain ⟨o', h1, h2⟩ := storeV_pt hx
      exact h2 _ _ ⟨⟨none, .jk, o', rfl⟩, h1⟩
    · exact hx.elim
  · unfold mkSliceV at hx ⊢
    repeat' split at hx
    all_goals first | exact hx.elim | skip
    obtain ⟨h1, z, h2⟩ := hx
    exact ⟨h1, z, hO, h2⟩
  · split at hx
    · split at hx
      · exact ⟨hO, hx⟩
      · exact hx.elim
    · exact hx.elim
  · split at hx
    · unfold putV at hx ⊢
      repeat' split at hx
      all_goals first | exact hx.elim | exact ⟨⟨none, .jk, _, rfl⟩, hx⟩
    · exact hx.elim
  · split at hx
    · obtain ⟨z, hx⟩ := hx
      exact ⟨z, hO, hx⟩
    · exact hx.elim
  · cases dst with
    | none =>
      unfold appendV at hx ⊢
      repeat' split at hx
      all_goals first | exact hx.elim | skip
      · obtain ⟨h1, z, h2⟩ := hx
        exact ⟨h1, z, hO, h2⟩
      · obtain ⟨h1, h2⟩ := hx
        exact ⟨h1, ⟨some _, .jk, _, rfl⟩, h2⟩
    | some d =>
      obtain ⟨kk, o', k', h1, h2⟩ := append_pt hx
      exact h2 s.t _ ⟨⟨kk, _, o', rfl⟩, h1⟩
  · exact calm hx
  · exact calm hx
  · exact hx.elim
  · exact calm hx
theorem step_mono {s : S} {dst : Option Nat} {K K' : S → Prop} {op : Op} (hK : ∀ s, K s → K' s) (hx : step real false s dst K op) : step real false s dst K' op := by
  have calm : ∀ {op : Op}, stepC real s.get s.o (fun v => K (s.put dst v)) op → stepC real s.get s.o (fun v => K' (s.put dst v)) op := fun h => by
    obtain ⟨v, h1, h2⟩ := stepC_pt _ h
    exact h2 _ (hK _ h1)
  unfold step at hx ⊢
  split at hx
  · split at hx
    · exact hK _ hx
    · exact hx.elim
  · split at hx
    · exact hK _ hx
    · exact hx.elim
  · split at hx
    · obtain ⟨o', h1, h2⟩ := storeV_pt hx
      exact h2 _ _ (hK _ h1)
    · exact hx.elim
  · unfold mkSliceV at hx ⊢
    repeat' split at hx
    all_goals first | exact hx.elim | skip
    obtain ⟨h1, z, h2⟩ := hx
    exact ⟨h1, z, hK _ h2⟩
  · split at hx
    · split at hx
      · exact hK _ hx
      · exact hx.elim
    · exact hx.elim
  · split at hx
    · unfold putV at hx ⊢
      repeat' split at hx
      all_goals first | exact hx.elim | exact hK _ hx
    · exact hx.elim
  · split at hx
    · obtain ⟨z, hx⟩ := hx
      exact ⟨z, hK _ hx⟩
    · exact hx.elim
  · unfold appendV at hx ⊢
    repeat' split at hx
    all_goals first | exact hx.elim | skip
    · obtain ⟨h1, z, h2⟩ := hx
      exact ⟨h1, z, hK _ h2⟩
    · obtain ⟨h1, h2⟩ := hx
      exact ⟨h1, hK _ h2⟩
  · exact calm hx
  · exact calm hx
  · exact hx.elim
  · exact calm hx
theorem exec1_keep {dsts : List (Option Nat)} {prs : List (Nat × Nat)} {o : Oper} {s : S} {K : S → Prop} (hP : PP prs s) (hf : free prs o.dst) (h : exec1 real dsts o s K) : exec1 real dsts o s (fun s' => PP prs s' ∧ K s') := by
  obtain ⟨dst, op, type, pos, after, gd⟩ := o
  have hst : ∀ {K : S → Prop}, step real false s dst K op → step real false s dst (fun s' => PP prs s' ∧ K s') op := fun {K} h => by
    have h1 := step_shape h
    exact step_mono (fun s' ⟨⟨kk, v, o', e⟩, hk⟩ => ⟨by rw [e]; exact hP.next hf, hk⟩) h1
  cases gd with
  | none => exact hst h
  | some jb =>
    obtain ⟨j, b⟩ := jb
    have h' : guard s dsts j (fun
      | some c => match bEq c b with
        | true => step real false s dst K op
        | false => K (s.put dst vun)
      | none => K (s.put dst vun)) := h
    obtain ⟨c, h1, h2⟩ := guard_pt h'
    have hv : PP prs (s.put dst vun) := hP.next (kk := none) (o' := s.o) hf
    show guard s dsts j (fun
      | some c => match bEq c b with
        | true => step real false s dst (fun s' => PP prs s' ∧ K s') op
        | false => PP prs (s.put dst vun) ∧ K (s.put dst vun)
      | none => PP prs (s.put dst vun) ∧ K (s.put dst vun))
    refine h2 _ ?_
    cases c with
    | none => exact ⟨hv, h1⟩
    | some c =>
      simp only at h1 ⊢
      cases hb : bEq c b with
      | true => rw [hb] at h1; exact hst h1
      | false => rw [hb] at h1; exact ⟨hv, h1⟩
/-- A load and a store whose addresses don't meet. -/
def apartL (dsts : List (Option Nat)) (prs : List (Nat × Nat)) (x y : Oper) : Bool := match ldSlot dsts x, stSlot dsts y with
  | some i, some k => prs.contains (i, k) && notIn x.dst (looks dsts y)
  | _, _ => false
theorem ldSlot_is {dsts : List (Option Nat)} {x : Oper} {i : Nat} (h : ldSlot dsts x = some i) : ∃ d t ty p a, x = ⟨d, .load t (.tmp i), ty, p, a, none⟩ := by
  unfold ldSlot at h
  split at h
  · split at h
    · cases h
    · have h := Option.some.inj h
      subst h
      exact ⟨_, _, _, _, _, rfl⟩
  · cases h
theorem stSlot_is {dsts : List (Option Nat)} {y : Oper} {k : Nat} (h : stSlot dsts y = some k) : ∃ t z ty p a, y = ⟨none, .store t (.tmp k) z, ty, p, a, none⟩ := by
  unfold stSlot at h
  split at h
  · split at h
    · cases h
    · have h := Option.some.inj h
      subst h
      exact ⟨_, _, _, _, _, rfl⟩
  · cases h
theorem getO_set {o : O} : ∀ {l : List O} {m j : Nat}, j ≠ m → getO (setO l m o) j = getO l j
  | [], m, j, _ => rfl
  | x :: l, 0, 0, h => absurd rfl h
  | x :: l, 0, j + 1, _ => rfl
  | x :: l, m + 1, 0, _ => rfl
  | x :: l, m + 1, j + 1, h => by rw [setO, getO, getO, getO_set (fun e => h (by rw [e]))]
theorem getO_set_same {o : O} : ∀ {l : List O} {m : Nat}, getO l m ≠ .dead → getO (setO l m o) m = o
  | [], m, h => absurd rfl h
  | x :: l, 0, _ => rfl
  | x :: l, m + 1, h => by rw [setO, getO]; rw [getO] at h; exact getO_set_same h
/-- What a store turns. -/
theorem store_shape {s : S} {K : S → Prop} {t : Nat} {y x : V} (h : storeV real s K t y x) : ∃ m b, ((∃ off cs cs', x = .ptr m off ∧ getO s.o m = .box cs ∧ b = .box cs') ∨ (∃ i z off e rows rows', x = .el m i z off ∧ getO s.o m = .row false e rows ∧ b = .row false e rows')) ∧ K ⟨s.t, setO s.o m b⟩ ∧ ∀ (t' : List V) (K' : S → Prop), K' ⟨t', setO s.o m b⟩ → storeV real ⟨t', s.o⟩ K' t y x := by
  unfold storeV at h
  split at h <;> try exact h.elim
  · rename_i k off
    split at h <;> try exact h.elim
    rename_i cs hok
    split at h <;> try exact h.elim
    rename_i l hl
    split at h <;> try exact h.elim
    rename_i hsz
    split at h <;> try exact h.elim
    rename_i cs' hcs
    refine ⟨k, _, .inl ⟨off, cs, cs', rfl, hok, rfl⟩, h, fun t' K' hk => ?_⟩
    unfold storeV
    simp only [hok, hl, hsz, hcs]
    exact hk
  · rename_i k i sz off
    split at h <;> try exact h.elim
    rename_i e rows hok
    split at h <;> try exact h.elim
    rename_i hsz
    split at h <;> try exact h.elim
    rename_i row hrow
    split at h <;> try exact h.elim
    rename_i l hl
    split at h <;> try exact h.elim
    rename_i ds hds
    split at h <;> try exact h.elim
    rename_i hlen
    split at h <;> try exact h.elim
    rename_i row' hrow'
    refine ⟨k, _, .inr ⟨i, sz, off, e, rows, _, rfl, hok, rfl⟩, h, fun t' K' hk => ?_⟩
    unfold storeV
    simp only [hok, hsz, hrow, hl, hds, hlen, hrow']
    exact hk
theorem load_obj {os os' : List O} {K : V → Prop} {t : Nat} {x : V} (hx : ∀ j, ((∃ o, x = .ptr j o) ∨ ∃ i z o, x = .el j i z o) → getO os' j = getO os j) : loadV real os K t x = loadV real os' K t x := by
  cases x <;> try rfl
  case ptr k off => simp only [loadV, hx k (.inl ⟨off, rfl⟩)]
  case el k i z off => simp only [loadV, hx k (.inr ⟨i, z, off, rfl⟩)]
theorem load_live {os : List O} {K : V → Prop} {t : Nat} {x : V} (h : loadV real os K t x) : (∀ j o, x = .ptr j o → ∃ cs, getO os j = .box cs) ∧ ∀ j i z o, x = .el j i z o → ∃ zz e rows, getO os j = .row zz e rows := by
  refine ⟨fun j o e => ?_, fun j i z o e => ?_⟩
  · subst e
    simp only [loadV] at h
    split at h <;> first | exact ⟨_, by assumption⟩ | exact h.elim
  · subst e
    simp only [loadV] at h
    split at h <;> first | exact ⟨_, _, _, by assumption⟩ | exact h.elim
theorem swapG {dsts : List (Option Nat)} {prs : List (Nat × Nat)} {x y : Oper} (h : apartL dsts prs x y = true) {s : S} (hP : PP prs s) {K : S → Prop} (hx : exec1 real dsts x s fun s => exec1 real dsts y s K) : exec1 real dsts y s fun s => exec1 real dsts x s K := by
  unfold apartL at h
  split at h <;> try cases h
  rename_i i k hi hk
  obtain ⟨d, t, ty1, p1, a1, rfl⟩ := ldSlot_is hi
  obtain ⟨t2, z, ty2, p2, a2, rfl⟩ := stSlot_is hk
  simp only [Bool.and_eq_true, List.contains_iff_mem] at h
  have hd := hP _ h.1
  have hx' : loadV real s.o (fun v => exec1 real dsts ⟨none, .store t2 (.tmp k) z, ty2, p2, a2, none⟩ (s.put d v) K) t (getN s.t i) := hx
  have hlive := load_live hx'
  obtain ⟨v, h1, h2⟩ := load_pt _ hx'
  have hs : Same (looks dsts ⟨none, .store t2 (.tmp k) z, ty2, p2, a2, none⟩) s (s.put d v) := same_put (notIn_is h.2)
  have hops := hs.ops (xs := [.tmp k, z]) fun t ht => by simp [looks, Op.operands]; simpa using ht
  have h3 : storeV real (s.put d v) K t2 ((s.put d v).get z) ((s.put d v).get (.tmp k)) := h1
  rw [hops z (by simp), hops (.tmp k) (by simp)] at h3
  obtain ⟨m, b, hsh, h4, h5⟩ := store_shape h3
  rw [put_o] at h4 h5 hsh
  have e0 : s = ⟨s.t, s.o⟩ := rfl
  show storeV real s (fun s => exec1 real dsts ⟨d, .load t (.tmp i), ty1, p1, a1, none⟩ s K) t2 (s.get z) (s.get (.tmp k))
  rw [e0]
  have h5 := h5 s.t (fun s => exec1 real dsts ⟨d, .load t (.tmp i), ty1, p1, a1, none⟩ s K) ?_
  · have e1 : (⟨s.t, (s.put d v).o⟩ : S) = s := by rw [put_o]
    exact e1 ▸ h5
  show loadV real (setO s.o m b) (fun v => K (S.put ⟨s.t, setO s.o m b⟩ d v)) t (getN s.t i)
  rw [← load_obj (os := s.o) (fun j hj => ?_)]
  · refine h2 _ ?_
    rw [← put_obj s.t s.o]
    exact h4
  · refine getO_set fun e => ?_
    subst e
    have hd' : distB (getN s.t i) (s.get (.tmp k)) = true := hd
    rcases hsh with ⟨off, cs, cs', hy, ho, _⟩ | ⟨i', z', off, e, rows, rows', hy, ho, _⟩
    · rw [hy] at hd'
      rcases hj with ⟨o, hj⟩ | ⟨i2, z2, o, hj⟩
      · rw [hj] at hd'
        simp only [distB] at hd'
        rw [eqN_is.2 rfl] at hd'
        cases hd'
      · obtain ⟨zz, e', rows, he⟩ := hlive.2 _ _ _ _ hj
        rw [ho] at he
        cases he
    · rw [hy] at hd'
      rcases hj with ⟨o, hj⟩ | ⟨i2, z2, o, hj⟩
      · obtain ⟨cs, he⟩ := hlive.1 _ _ hj
        rw [ho] at he
        cases he
      · rw [hj] at hd'
        simp only [distB] at hd'
        rw [eqN_is.2 rfl] at hd'
        cases hd'
theorem swapH {dsts : List (Option Nat)} {prs : List (Nat × Nat)} {x y : Oper} (h : apartL dsts prs x y = true) {s : S} (hP : PP prs s) {K : S → Prop} (hy : exec1 real dsts y s fun s => exec1 real dsts x s K) : exec1 real dsts x s fun s => exec1 real dsts y s K := by
  unfold apartL at h
  split at h <;> try cases h
  rename_i i k hi hk
  obtain ⟨d, t, ty1, p1, a1, rfl⟩ := ldSlot_is hi
  obtain ⟨t2, z, ty2, p2, a2, rfl⟩ := stSlot_is hk
  simp only [Bool.and_eq_true, List.contains_iff_mem] at h
  have hd : distB (getN s.t i) (s.get (.tmp k)) = true := hP _ h.1
  have hy' : storeV real s (fun s => exec1 real dsts ⟨d, .load t (.tmp i), ty1, p1, a1, none⟩ s K) t2 (s.get z) (s.get (.tmp k)) := hy
  obtain ⟨m, b, hsh, h4, h5⟩ := store_shape hy'
  have h4 : loadV real (setO s.o m b) (fun v => K (S.put ⟨s.t, setO s.o m b⟩ d v)) t (getN s.t i) := h4
  have hlive := load_live h4
  rw [← load_obj (os := s.o) (fun j hj => ?_)] at h4
  · obtain ⟨v, h6, h7⟩ := load_pt _ h4
    show loadV real s.o (fun v => exec1 real dsts ⟨none, .store t2 (.tmp k) z, ty2, p2, a2, none⟩ (s.put d v) K) t (getN s.t i)
    refine h7 _ ?_
    have hs : Same (looks dsts ⟨none, .store t2 (.tmp k) z, ty2, p2, a2, none⟩) s (s.put d v) := same_put (notIn_is h.2)
    have hops := hs.ops (xs := [.tmp k, z]) fun t ht => by simp [looks, Op.operands]; simpa using ht
    show storeV real (s.put d v) K t2 ((s.put d v).get z) ((s.put d v).get (.tmp k))
    rw [hops z (by simp), hops (.tmp k) (by simp)]
    have e1 : s.put d v = ⟨(s.put d v).t, s.o⟩ := by cases d <;> rfl
    rw [e1]
    refine h5 _ _ ?_
    rw [← put_obj s.t s.o] at h6
    exact h6
  · refine getO_set fun e => ?_
    subst e
    rcases hsh with ⟨off, cs, cs', hy, ho, hb⟩ | ⟨i', z', off, e, rows, rows', hy, ho, hb⟩
    · rw [hy] at hd
      rcases hj with ⟨o, hj⟩ | ⟨i2, z2, o, hj⟩
      · rw [hj] at hd
        simp only [distB] at hd
        rw [eqN_is.2 rfl] at hd
        cases hd
      · obtain ⟨zz, e', rows, he⟩ := hlive.2 _ _ _ _ hj
        rw [getO_set_same (by rw [ho]; simp), hb] at he
        cases he
    · rw [hy] at hd
      rcases hj with ⟨o, hj⟩ | ⟨i2, z2, o, hj⟩
      · obtain ⟨cs, he⟩ := hlive.1 _ _ hj
        rw [getO_set_same (by rw [ho]; simp), hb] at he
        cases he
      · rw [hj] at hd
        simp only [distB] at hd
        rw [eqN_is.2 rfl] at hd
        cases hd
def apart2 (dsts : List (Option Nat)) (prs : List (Nat × Nat)) (x y : Oper) : Bool := apart dsts x y || apartL dsts prs x y || apartL dsts prs y x
theorem swap2 {dsts : List (Option Nat)} {prs : List (Nat × Nat)} {x y : Oper} (h : apart2 dsts prs x y = true) {s : S} (hP : PP prs s) {K : S → Prop} (hx : exec1 real dsts x s fun s => exec1 real dsts y s K) : exec1 real dsts y s fun s => exec1 real dsts x s K := by
  simp only [apart2, Bool.or_eq_true] at h
  rcases h with (h | h) | h
  · exact swap1 h hx
  · exact swapG h hP hx
  · exact swapH h hP hx
theorem exec1_mono2 {dsts : List (Option Nat)} {o : Oper} {s : S} {K K' : S → Prop} (hK : ∀ s, K s → K' s) (h : exec1 real dsts o s K) : exec1 real dsts o s K' := by
  obtain ⟨dst, op, type, pos, after, gd⟩ := o
  cases gd with
  | none => exact step_mono hK h
  | some jb =>
    obtain ⟨j, b⟩ := jb
    have h' : guard s dsts j (fun
      | some c => match bEq c b with
        | true => step real false s dst K op
        | false => K (s.put dst vun)
      | none => K (s.put dst vun)) := h
    obtain ⟨c, h1, h2⟩ := guard_pt h'
    show guard s dsts j (fun
      | some c => match bEq c b with
        | true => step real false s dst K' op
        | false => K' (s.put dst vun)
      | none => K' (s.put dst vun))
    refine h2 _ ?_
    cases c with
    | none => exact hK _ h1
    | some c =>
      simp only at h1 ⊢
      cases hb : bEq c b with
      | true => rw [hb] at h1; exact step_mono hK h1
      | false => rw [hb] at h1; exact hK _ h1
theorem run_front {dsts : List (Option Nat)} {prs : List (Nat × Nat)} {y : Oper} : ∀ {pre post : List Oper} {s : S} {K : S → Prop}, (∀ x ∈ pre, apart2 dsts prs x y = true ∧ free prs x.dst) → PP prs s → run real false dsts (pre ++ y :: post) s K → run real false dsts (y :: (pre ++ post)) s K
  | [], post, s, K, _, _, h => h
  | x :: pre, post, s, K, ha, hP, h => by
    rw [List.cons_append, run_cons] at h
    obtain ⟨hx, hf⟩ := ha x (List.mem_cons_self ..)
    have h2 : exec1 real dsts x s fun s => exec1 real dsts y s fun s => run real false dsts (pre ++ post) s K := exec1_mono2 (fun s hs => by
      have := run_front (fun z hz => ha z (List.mem_cons_of_mem _ hz)) hs.1 hs.2
      rw [run_cons] at this
      exact this) (exec1_keep hP hf h)
    rw [run_cons, List.cons_append]
    have h3 := swap2 hx hP h2
    have e : (fun s => run real false dsts (x :: (pre ++ post)) s K) = fun s => exec1 real dsts x s fun s => run real false dsts (pre ++ post) s K := funext fun s => run_cons ..
    rw [e]
    exact h3
/-- All that an operation waits for, directly and through others; what stands ahead of it in the text. -/
def direct (o : Oper) : List Nat := (o.after.toList.filter fun e => Region.binds .any e).map (·.on)
def ancs : List Oper → List (List Nat) → List (List Nat)
  | [], acc => acc
  | o :: l, acc => ancs l (acc ++ [(direct o).flatMap fun j => j :: acc.getD j []])
/-- A region whose operations may come in whatever order they are drawn in. -/
def okPair (dsts : List (Option Nat)) (prs : List (Nat × Nat)) (ops : List Oper) (an : List (List Nat)) (j i : Nat) : Bool := (an.getD i []).contains j || match ops[j]?, ops[i]? with | some x, some y => apart2 dsts prs x y | _, _ => true
def okDraw (ops : Array Oper) : Bool :=
  let l := ops.toList
  let an := ancs l []
  let d := dstsOf l
  (List.range l.length).all fun i => (an.getD i []).all (fun j => Nat.blt j i) && (List.range i).all fun j => okPair d (lsPairs l) l an j i
/-- What a set of operations that have been carried out holds: with each all that it waits for. -/
theorem ancs_len : ∀ (l : List Oper) (acc : List (List Nat)), (ancs l acc).length = acc.length + l.length
  | [], acc => by simp [ancs]
  | o :: l, acc => by rw [ancs, ancs_len l]; simp; omega
theorem ancs_pre : ∀ (l : List Oper) (acc : List (List Nat)) (i : Nat), i < acc.length → (ancs l acc)[i]? = acc[i]?
  | [], acc, i, _ => rfl
  | o :: l, acc, i, h => by rw [ancs, ancs_pre l _ i (by simp; omega), List.getElem?_append_left h]
theorem ancs_at : ∀ (l : List Oper) (acc : List (List Nat)) (i : Nat) (o : Oper), l[i]? = some o → (ancs l acc)[acc.length + i]? = some ((direct o).flatMap fun j => j :: (if j < acc.length + i then (ancs l acc).getD j [] else []))
  | [], acc, i, o, h => by simp at h
  | x :: l, acc, 0, o, h => by
    simp at h
    subst h
    rw [ancs, Nat.add_zero, ancs_pre l _ _ (by simp), List.getElem?_append_right (Nat.le_refl _)]
    simp only [Nat.sub_self, List.getElem?_cons_zero, Option.some.injEq]
    congr 1
    funext j
    congr 1
    split
    · rename_i hj
      rw [List.getD_eq_getElem?_getD, List.getD_eq_getElem?_getD, ancs_pre l _ j (by simp; omega), List.getElem?_append_left hj]
    · rename_i hj
      rw [List.getD_eq_getElem?_getD, List.getElem?_eq_none (by omega)]
      rfl
  | x :: l, acc, i + 1, o, h => by
    have := ancs_at l (acc ++ [(direct x).flatMap fun j => j :: acc.getD j []]) i o (by simpa using h)
    rw [ancs]
    have e : (acc ++ [(direct x).flatMap fun j => j :: acc.getD j []]).length + i = acc.length + (i + 1) := by simp; omega
    rw [e] at this
    exact this
section
variable {I0 : Nat → Nat → Prop} {X : Nat → Prop} {w0 : W0} {s : S} {a : Act} {w : World}
/-- One operation, carried out in Go's machine. -/
theorem op_ok {ro : Option Nat} {n : Nat} {ops : Array Oper} {Q : Exit → Act → World → Prop} {o : Oper} (hop : okOp Tryd.prog o.op = true) (h : Rel I0 X w0 s a w) {K1 : S → Prop} (hx : exec1 real (dstsOf ops.toList) o s K1) {Kw : Act → World → Prop} (hKw : ∀ s' a' w', Rel I0 X w0 s' a' w' → K1 s' → Kw a' w') : if Region.wanted o (yielded ops a.tmps) then o.wpIn (FW ro) n Tryd.prog a w Kw Q else (∀ f, o.about Tryd.prog w a.eval = some f → (FW ro).fn f) ∧ Kw (a.put o.dst undef) w := by
  obtain ⟨dst, op, type, pos, after, gd⟩ := o
  have hstep : step real false s dst K1 op → Oper.wpIn (FW ro) n Tryd.prog ⟨dst, op, type, pos, after, gd⟩ a w Kw Q := fun hs => by
    obtain ⟨I, g, h⟩ := h
    exact op_in (fun c hc => no_defer hop c hc) (Oper.wp_mono (fun a' w' ⟨s', h1, h2⟩ => hKw s' a' w' h1 h2) (step_ok h (o := ⟨dst, op, type, pos, after, gd⟩) (Q := Q) hop hs))
  have hskip : K1 (s.put dst vun) → Kw (a.put dst undef) w := fun hs => by
    obtain ⟨I, g, h⟩ := h
    exact hKw _ _ w ⟨I, g, h.put (x := vun) (.tu [] [] rfl (fun i u c hu _ => by simp at hu)) dst⟩ hs
  cases gd with
  | none =>
    rw [if_pos (by rfl)]
    exact hstep hx
  | some jb =>
    obtain ⟨j, b⟩ := jb
    have hx' : guard s (dstsOf ops.toList) j (fun
      | some c => match bEq c b with
        | true => step real false s dst K1 op
        | false => K1 (s.put dst vun)
      | none => K1 (s.put dst vun)) := hx
    obtain ⟨c, hc, hK⟩ := guard_at h hx'
    have hw : Region.wanted ⟨dst, op, type, pos, after, some (j, b)⟩ (yielded ops a.tmps) = (c == some b) := by simp [Region.wanted, hc]
    rw [hw]
    cases c with
    | none =>
      rw [if_neg (by simp)]
      exact ⟨fun _ _ => trivial, hskip hK⟩
    | some c =>
      simp only at hK
      split at hK
      · rename_i hb
        rw [bEq_is] at hb
        rw [if_pos (by simpa using hb)]
        exact hstep hK
      · rename_i hb
        rw [bEq_is] at hb
        rw [if_neg (by simpa using hb)]
        exact ⟨fun _ _ => trivial, hskip hK⟩
theorem an_at {ops : Array Oper} {i : Nat} {o : Oper} (h : ops[i]? = some o) (hlt : ∀ j ∈ (ancs ops.toList []).getD i [], j < i) : (ancs ops.toList []).getD i [] = (direct o).flatMap fun j => j :: (ancs ops.toList []).getD j [] := by
  have h1 := ancs_at ops.toList [] i o (by simpa using h)
  simp only [List.length_nil, Nat.zero_add] at h1
  have h2 : (ancs ops.toList []).getD i [] = (direct o).flatMap fun j => j :: (if j < i then (ancs ops.toList []).getD j [] else []) := by
    rw [List.getD_eq_getElem?_getD, h1]; rfl
  have h3 : ∀ j ∈ direct o, j < i := fun j hj => hlt j (by rw [h2]; exact List.mem_flatMap.2 ⟨j, hj, List.mem_cons_self ..⟩)
  rw [h2, List.flatMap_def, List.flatMap_def]
  congr 1
  exact List.map_congr_left fun j hj => by rw [if_pos (h3 j hj)]
theorem direct_mem {o : Oper} {e : Edge} (he : e ∈ o.after) (hb : Region.binds .any e = true) : e.on ∈ direct o := List.mem_map.2 ⟨e, List.mem_filter.2 ⟨by simpa using he, hb⟩, rfl⟩
theorem draw_go {ro : Option Nat} {n : Nat} {ops : Array Oper} {Q : Exit → Act → World → Prop} {K : S → Prop} (hQ : ∀ s' a' w', Rel I0 X w0 s' a' w' → K s' → Q .normal a' w') (hok : okOps Tryd.prog ops.toList = true) (hd : okDraw ops = true) (hfree : ∀ o ∈ ops.toList, free (lsPairs ops.toList) o.dst) : ∀ (fuel : Nat) (l : List Nat) (listed : Array Bool) (s : S) (a : Act) (w : World), l.length = fuel → listed.size = ops.size → l.Pairwise (· < ·) → (∀ i, i ∈ l ↔ i < ops.size ∧ listed.getD i true = false) → (∀ i, i < ops.size → listed.getD i false = true → ∀ j ∈ (ancs ops.toList []).getD i [], listed.getD j false = true) → Rel I0 X w0 s a w → PP (lsPairs ops.toList) s → run real false (dstsOf ops.toList) (l.filterMap (ops.toList[·]?)) s K → wpAnyIn (FW ro) n Tryd.prog .any ops Q fuel listed a w := by
  have hd' : ∀ i, i < ops.size → (∀ j ∈ (ancs ops.toList []).getD i [], j < i) ∧ ∀ j, j < i → okPair (dstsOf ops.toList) (lsPairs ops.toList) ops.toList (ancs ops.toList []) j i = true := fun i hi => by
    have h1 := List.all_eq_true.1 hd i (by simpa using hi)
    rw [Bool.and_eq_true] at h1
    exact ⟨fun j hj => by simpa [Nat.blt_eq] using List.all_eq_true.1 h1.1 j hj, fun j hj => List.all_eq_true.1 h1.2 j (by simpa using hj)⟩
  intro fuel
  induction fuel with
  | zero =>
    intro l listed s a w hl hsz hp hmem hcl hrel hPP hK
    obtain rfl := List.length_eq_zero_iff.1 hl
    refine ⟨?_, hQ _ _ _ hrel hK⟩
    cases hr : Region.ready .any ops listed with
    | nil => rfl
    | cons x xs =>
      obtain ⟨h1, o, h2, _⟩ := mem_ready.1 (show x ∈ Region.ready .any ops listed by rw [hr]; exact List.mem_cons_self ..)
      have := (hmem x).2 ⟨(Array.getElem?_eq_some_iff.1 h2).1, h1⟩
      simp at this
  | succ fuel ih =>
    intro l listed s a w hl hsz hp hmem hcl hrel hPP hK
    have un : ∀ j, j ∈ l → listed.getD j false = true → False := fun j hj h => by
      obtain ⟨h1, h2⟩ := (hmem j).1 hj
      simp [hsz, h1] at h h2
      rw [h2] at h; cases h
    refine ⟨fun hr => ?_, fun i hi => ?_⟩
    · exfalso
      cases l with
      | nil => simp at hl
      | cons i0 rest =>
        obtain ⟨h1, h2⟩ := (hmem i0).1 (List.mem_cons_self ..)
        obtain ⟨o, ho⟩ : ∃ o, ops[i0]? = some o := ⟨_, Array.getElem?_eq_getElem h1⟩
        have : i0 ∈ Region.ready .any ops listed := mem_ready.2 ⟨h2, o, ho, fun e he hb => by
          have h3 : e.on ∈ (ancs ops.toList []).getD i0 [] := by
            rw [an_at ho (hd' i0 h1).1]
            exact List.mem_flatMap.2 ⟨e.on, direct_mem he hb, List.mem_cons_self ..⟩
          have h4 := (hd' i0 h1).1 _ h3
          have h5 : ¬ (e.on ∈ i0 :: rest) := fun hm => by
            rcases List.mem_cons.1 hm with hm | hm
            · omega
            · have := (List.pairwise_cons.1 hp).1 _ hm
              omega
          have h6 : listed.getD e.on true = true := by
            cases hx : listed.getD e.on true with
            | true => rfl
            | false => exact absurd ((hmem e.on).2 ⟨by omega, hx⟩) h5
          have hlt : e.on < listed.size := by omega
          simpa [hlt] using h6⟩
        rw [hr] at this
        simp at this
    · obtain ⟨h1, o, ho, hall⟩ := mem_ready.1 hi
      have hlt := (Array.getElem?_eq_some_iff.1 ho).1
      have hil : i ∈ l := (hmem i).2 ⟨hlt, h1⟩
      have han : ∀ j ∈ (ancs ops.toList []).getD i [], listed.getD j false = true := fun j hj => by
        rw [an_at ho (hd' i hlt).1] at hj
        obtain ⟨k, hk, hj⟩ := List.mem_flatMap.1 hj
        obtain ⟨e, he, hek⟩ := List.mem_map.1 hk
        obtain ⟨he1, he2⟩ := List.mem_filter.1 he
        subst hek
        have h3 := hall e (by simpa using he1) he2
        rcases List.mem_cons.1 hj with rfl | hj
        · exact h3
        · have : e.on < ops.size := by
            rcases Nat.lt_or_ge e.on listed.size with h' | h'
            · omega
            · simp [Array.getElem?_eq_none h'] at h3
          exact hcl _ this h3 j hj
      obtain ⟨pre, post, rfl⟩ := List.append_of_mem hil
      have hpp := List.pairwise_append.1 hp
      have hfm : ((pre ++ i :: post).filterMap (ops.toList[·]?)) = pre.filterMap (ops.toList[·]?) ++ o :: post.filterMap (ops.toList[·]?) := by
        rw [List.filterMap_append, List.filterMap_cons_some (by rw [Array.getElem?_toList]; exact ho)]
      rw [hfm] at hK
      have hf := run_front (prs := lsPairs ops.toList) (fun x hx => by
        obtain ⟨j, hj, hjx⟩ := List.mem_filterMap.1 hx
        refine ⟨?_, hfree x (List.mem_of_getElem? hjx)⟩
        have hji : j < i := hpp.2.2 j hj i (List.mem_cons_self ..)
        have h3 := (hd' i hlt).2 j hji
        rw [okPair, Bool.or_eq_true] at h3
        rcases h3 with h3 | h3
        · exact (un j (List.mem_append_left _ hj) (han j (by simpa using h3))).elim
        · rw [hjx, Array.getElem?_toList, ho] at h3
          exact h3) hPP hK
      rw [run_cons] at hf
      have hom : o ∈ ops.toList := List.mem_of_getElem? (by rw [Array.getElem?_toList]; exact ho)
      have hf := exec1_keep hPP (hfree o hom) hf
      have key := op_ok (ro := ro) (n := n) (Q := Q) (List.all_eq_true.1 hok o (List.mem_of_getElem? (by rw [Array.getElem?_toList]; exact ho))) hrel hf (Kw := wpAnyIn (FW ro) n Tryd.prog .any ops Q fuel (listed.setIfInBounds i true)) (fun s' a' w' hrel' hK' => by
        refine ih (pre ++ post) _ s' a' w' (by simp at hl ⊢; omega) (by simpa using hsz) ?_ (fun k => ?_) (fun k hk hkl j hj => ?_) hrel' hK'.1 (by rw [List.filterMap_append]; exact hK'.2)
        · exact List.pairwise_append.2 ⟨hpp.1, (List.pairwise_cons.1 hpp.2.1).2, fun x hx y hy => hpp.2.2 x hx y (List.mem_cons_of_mem _ hy)⟩
        · by_cases hik : i = k
          · subst hik
            refine ⟨fun hm => ?_, fun hm => ?_⟩
            · rcases List.mem_append.1 hm with hm | hm
              · have := hpp.2.2 _ hm i (List.mem_cons_self ..)
                omega
              · have := (List.pairwise_cons.1 hpp.2.1).1 _ hm
                omega
            · have h6 := hm.2
              have hlt' : i < listed.size := by omega
              simp [hlt'] at h6
          · rw [getD_set_ne true hik, ← hmem k]
            simp only [List.mem_append, List.mem_cons]
            exact ⟨fun h => h.imp id .inr, fun h => h.imp id fun h => h.resolve_left fun e => hik e.symm⟩
        · by_cases hik : i = k
          · subst hik
            exact getD_set_true (han j hj)
          · rw [getD_set_ne false hik] at hkl
            exact getD_set_true (hcl k hk hkl j hj))
      unfold wpOpIn
      rw [ho]
      simp only
      split at key
      · rename_i hw
        rw [if_pos hw]
        exact key
      · rename_i hw
        rw [if_neg hw]
        exact key
theorem inD_is : ∀ {l : List (Option Nat)} {i : Nat}, inD l i = false → some i ∉ l
  | [], i, _ => by simp
  | some x :: l, i, h => by
    rw [inD] at h
    split at h
    · cases h
    · rename_i e
      rw [eqN_no] at e
      simp only [List.mem_cons, Option.some.injEq, not_or]
      exact ⟨fun h => e h.symm, inD_is h⟩
  | none :: l, i, h => by
    rw [inD] at h
    simp only [List.mem_cons, reduceCtorEq, false_or]
    exact inD_is h
theorem slots_mem {f : Oper → Option Nat} : ∀ {l : List Oper} {i : Nat}, i ∈ slotsOf f l → ∃ o ∈ l, f o = some i
  | [], i, h => by simp [slotsOf] at h
  | o :: l, i, h => by
    rw [slotsOf] at h
    split at h
    · rename_i k hk
      rcases List.mem_cons.1 h with rfl | h
      · exact ⟨o, List.mem_cons_self .., hk⟩
      · obtain ⟨o', h1, h2⟩ := slots_mem h
        exact ⟨o', List.mem_cons_of_mem _ h1, h2⟩
    · obtain ⟨o', h1, h2⟩ := slots_mem h
      exact ⟨o', List.mem_cons_of_mem _ h1, h2⟩
theorem pairs1_mem {i : Nat} : ∀ {ks : List Nat} {p : Nat × Nat}, p ∈ pairs1 i ks → p.1 = i ∧ p.2 ∈ ks
  | [], p, h => by simp [pairs1] at h
  | k :: ks, p, h => by
    rw [pairs1] at h
    split at h
    · have := pairs1_mem h; exact ⟨this.1, List.mem_cons_of_mem _ this.2⟩
    · rcases List.mem_cons.1 h with rfl | h
      · exact ⟨rfl, List.mem_cons_self ..⟩
      · have := pairs1_mem h; exact ⟨this.1, List.mem_cons_of_mem _ this.2⟩
theorem pairsL_mem {ks : List Nat} : ∀ {l : List Nat} {p : Nat × Nat}, p ∈ pairsL ks l → p.1 ∈ l ∧ p.2 ∈ ks
  | [], p, h => by simp [pairsL] at h
  | i :: l, p, h => by
    rw [pairsL] at h
    rcases List.mem_append.1 h with h | h
    · have := pairs1_mem h; exact ⟨by rw [this.1]; exact List.mem_cons_self .., this.2⟩
    · have := pairsL_mem h; exact ⟨List.mem_cons_of_mem _ this.1, this.2⟩
theorem dsts_mem : ∀ {l : List Oper} {o : Oper}, o ∈ l → o.dst ∈ dstsOf l
  | [], o, h => by simp at h
  | x :: l, o, h => by
    rw [dstsOf]
    rcases List.mem_cons.1 h with rfl | h
    · exact List.mem_cons_self ..
    · exact List.mem_cons_of_mem _ (dsts_mem h)
theorem free_of (ops : Array Oper) : ∀ o ∈ ops.toList, free (lsPairs ops.toList) o.dst := fun o ho p hp => by
  obtain ⟨h1, h2⟩ := pairsL_mem hp
  obtain ⟨x, _, hx⟩ := slots_mem h1
  obtain ⟨y, _, hy⟩ := slots_mem h2
  have hd := dsts_mem ho
  refine ⟨fun e => ?_, fun e => ?_⟩
  · unfold ldSlot at hx
    split at hx
    · split at hx
      · cases hx
      · rename_i hin
        have hx := Option.some.inj hx
        rw [hx] at hin
        exact inD_is hin (by rw [← e]; exact hd)
    · cases hx
  · unfold stSlot at hy
    split at hy
    · split at hy
      · cases hy
      · rename_i hin
        have hy := Option.some.inj hy
        rw [hy] at hin
        exact inD_is hin (by rw [← e]; exact hd)
    · cases hy
theorem draw_ok {ro : Option Nat} {n : Nat} {ops : Array Oper} {Q : Exit → Act → World → Prop} {K : S → Prop} (hQ : ∀ s' a' w', Rel I0 X w0 s' a' w' → K s' → Q .normal a' w') (hok : okOps Tryd.prog ops.toList = true) (hd : okDraw ops = true) (h : Rel I0 X w0 s a w) (hpre : preOk (lsPairs ops.toList) s.t = true) (hK : run real false (dstsOf ops.toList) ops.toList s K) : wpAnyIn (FW ro) n Tryd.prog .any ops Q ops.size (Array.replicate ops.size false) a w := by
  refine draw_go hQ hok hd (free_of ops) ops.size (List.range ops.size) _ s a w (by simp) (by simp) List.pairwise_lt_range (fun i => ?_) (fun i hi h => ?_) h (pp_of hpre) ?_
  · rw [List.mem_range]
    exact ⟨fun hi => ⟨hi, by simp [hi]⟩, fun h => h.1⟩
  · simp [hi] at h
  · have e : (List.range ops.size).filterMap (ops.toList[·]?) = ops.toList := by
      apply List.ext_getElem?
      intro i
      have e2 : (List.range ops.size).filterMap (ops.toList[·]?) = ops.toList := by
        have : ∀ (l : List Oper), (List.range l.length).filterMap (l[·]?) = l := fun l => by
          induction l with
          | nil => rfl
          | cons x l ih => rw [List.length_cons, List.range_succ_eq_map, List.filterMap_cons_some (by rfl), List.filterMap_map]; congr 1
        simpa using this ops.toList
      rw [e2]
    rw [e]
    exact hK
end
end Go.Proofs.YtgedpbpfoaljhaaDoor.Vm

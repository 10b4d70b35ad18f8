/- The machine of values: its operations are the program's, more of them. -/
import Derived.Test.YtgedpbpfoaljhaaDoorVCalm
set_option linter.unusedVariables false
set_option linter.unusedSimpArgs false
namespace Go.Proofs.YtgedpbpfoaljhaaDoor.Vm
open Go.RowKit
section
variable {I0 : Nat → Nat → Prop} {X : Nat → Prop} {w0 : W0} {I : Nat → Nat → Prop} {g : Nat → Value} {s : S} {a : Act} {w : World}
theorem notB_is (b : Bool) : notB b = !b := by cases b <;> rfl
theorem orB_is (a b : Bool) : orB a b = (a || b) := by cases a <;> rfl
theorem keq_is {j k : IntKind} (h : keq j k = true) : j = k := by cases j <;> cases k <;> first | rfl | cases h
theorem val_ok (h : RelI I0 X w0 I g s a w) {K : V → Prop} {op : BinOp} {t : Nat} (ox oy : Operand) {x y : Value} (hK : binVal real op x y K) : Yld I0 X w0 g s a w (do eqGuard op t ox oy x y; binOp op t x y) K := by
  unfold binVal at hK
  split at hK <;> try exact hK.elim
  · rename_i K k m k' n
    split at hK <;> try exact hK.elim
    rename_i hk
    obtain rfl := keq_is hk
    unfold binInt at hK
    split at hK <;> try exact hK.elim
    · exact yld h (by simp [eqGuard, binOp, Op.intArith]; rfl) (ati k _) hK
    · exact yld h (by simp [eqGuard, binOp, Op.intArith]; rfl) (ati k _) hK
    · exact yld h (by simp [eqGuard, binOp, Op.intArith]; rfl) (ati k _) hK
    · have h0 : n ≠ 0 := hK.1
      exact yld h (by simp [eqGuard, binOp, Op.intDiv, h0]; rfl) (ati k _) hK.2
    · have h0 : n ≠ 0 := hK.1
      exact yld h (by simp [eqGuard, binOp, Op.intDiv, h0]; rfl) (ati k _) hK.2
    · exact yld h (by simp [eqGuard, binOp, Op.intCmp]; rfl) (atb _) hK
    · refine yld h ?_ (atb _) hK
      simp [eqGuard, binOp, Op.intCmp, notB_is]
      rfl
    · exact yld h (by simp [eqGuard, binOp, Op.intCmp]; rfl) (atb _) hK
    · exact yld h (by simp [eqGuard, binOp, Op.intCmp]; rfl) (atb _) hK
    · exact yld h (by simp [eqGuard, binOp, Op.intCmp]; rfl) (atb _) hK
    · exact yld h (by simp [eqGuard, binOp, Op.intCmp]; rfl) (atb _) hK
  · rename_i K b c
    unfold binStr at hK
    split at hK <;> try exact hK.elim
    · have h0 : b.size + c.size ≤ 4611686018427387904 := hK.1
      have h1 : ¬ (((b.size + c.size : Nat) : Int) > 9223372036854775807) := by omega
      refine yld h ?_ (ats _) hK.2
      simp only [eqGuard, binOp, Op.stringOp, IntKind.max_i64]
      rw [if_neg h1]
      rfl
    all_goals
      refine yld h ?_ (atb _) hK
      simp only [eqGuard, binOp, Op.stringOp, notB_is, orB_is]
      rfl
theorem nil_ok (h : RelI I0 X w0 I g s a w) {K : V → Prop} {op : BinOp} {t : Nat} (ox oy : Operand) {x y : Value} {b : Bool} (h0 : ∀ p q, x ≠ .int p q) (h1 : ∀ p q, y ≠ .int p q) (hx : (∃ p, x = .pointer p) ∨ ∃ p, x = .bool p) (he : (Op.equal t x y).run Tryd.prog w = .ok b w) (hK : nilEq b K op) : Yld I0 X w0 g s a w (do eqGuard op t ox oy x y; binOp op t x y) K := by
  have hg : (eqGuard op t ox oy x y).run Tryd.prog w = .ok () w := by
    unfold eqGuard
    cases op <;> rcases hx with ⟨p, rfl⟩ | ⟨p, rfl⟩ <;> rfl
  cases op <;> try exact hK.elim
  · refine yld h ?_ (atb _) hK
    simp only [Sem.run_bind, hg, Result.andThen_ok]
    rcases hx with ⟨p, rfl⟩ | ⟨p, rfl⟩ <;> cases y <;> first | exact absurd rfl (h1 _ _) | simp [binOp, he]
  · refine yld h ?_ (atb _) hK
    simp only [Sem.run_bind, hg, Result.andThen_ok]
    rcases hx with ⟨p, rfl⟩ | ⟨p, rfl⟩ <;> cases y <;> first | exact absurd rfl (h1 _ _) | simp [binOp, he, notB_is]
theorem eqp {t e : Nat} (hu : Tryd.prog.underlying t = some (.pointer e)) (p : Option Addr) : (Op.equal t (.pointer p) (.pointer none)).run Tryd.prog w = .ok p.isNone w ∧ (Op.equal t (.pointer none) (.pointer p)).run Tryd.prog w = .ok p.isNone w := by
  have key : ∀ d, (Op.equalIn (d + 1) t (.pointer p) (.pointer none)).run Tryd.prog w = .ok p.isNone w ∧ (Op.equalIn (d + 1) t (.pointer none) (.pointer p)).run Tryd.prog w = .ok p.isNone w := fun d => by
    cases p <;> simp [Op.equalIn, run_underlying hu]
  exact key 9999
theorem eqb {t : Nat} (hu : Tryd.prog.underlying t = some .bool) (b c : Bool) : (Op.equal t (.bool b) (.bool c)).run Tryd.prog w = .ok (b == c) w := by
  have key : ∀ d, (Op.equalIn (d + 1) t (.bool b) (.bool c)).run Tryd.prog w = .ok (b == c) w := fun d => by
    simp [Op.equalIn, run_underlying hu]
  exact key 9999
theorem bEq_is (b c : Bool) : bEq b c = (b == c) := by cases b <;> cases c <;> rfl
theorem isNilP_at {u : Value} {x : V} (hu : AtV I w g u x) (h : isNilP x = true) : u = .pointer none := by
  unfold isNilP at h
  split at h
  · exact hu.sc
  · cases h
def eqOk (t : Nat) : Bool := match (ty t).kind with | .ptr => tyKnown t | .bool => tyKnown t | _ => true
theorem bin_ok (h : RelI I0 X w0 I g s a w) {K : V → Prop} {op : BinOp} {t : Nat} (ht : eqOk t = true) (ox oy : Operand) {u v : Value} {x y : V} (hu : AtV I w g u x) (hv : AtV I w g v y) (hK : binV real op t x y K) : Yld I0 X w0 g s a w (do eqGuard op t ox oy u v; binOp op t u v) K := by
  unfold eqOk at ht
  unfold binV at hK
  split at hK <;> try exact hK.elim
  · rename_i x y
    obtain rfl := hu.sc
    obtain rfl := hv.sc
    split at hK
    · rename_i hk
      rw [hk] at ht
      obtain ⟨e, hun⟩ := ty_ptr ht hk
      split at hK <;> try exact hK.elim
      exact nil_ok h ox oy (by simp) (by simp) (.inl ⟨_, rfl⟩) (eqp hun none).1 hK
    · rename_i hk
      rw [hk] at ht
      have hun := ty_bool ht hk
      split at hK <;> try exact hK.elim
      rename_i b c
      rw [bEq_is] at hK
      exact nil_ok h ox oy (by simp) (by simp) (.inr ⟨_, rfl⟩) (eqb hun b c) hK
    · exact val_ok h ox oy hK
  · rename_i y K k off
    split at hK <;> try exact hK.elim
    rename_i hk
    rw [hk] at ht
    obtain ⟨e, hun⟩ := ty_ptr ht hk
    split at hK <;> try exact hK.elim
    rename_i hn
    obtain rfl := isNilP_at hv hn
    obtain ⟨b, _, rfl⟩ := hu.unptr
    exact nil_ok h ox oy (by simp) (by simp) (.inl ⟨_, rfl⟩) (eqp hun _).1 hK
  · rename_i x K k off _ _
    split at hK <;> try exact hK.elim
    rename_i hk
    rw [hk] at ht
    obtain ⟨e, hun⟩ := ty_ptr ht hk
    split at hK <;> try exact hK.elim
    rename_i hn
    obtain rfl := isNilP_at hu hn
    obtain ⟨b, _, rfl⟩ := hv.unptr
    exact nil_ok h ox oy (by simp) (by simp) (.inl ⟨_, rfl⟩) (eqp hun _).2 hK
theorem un_ok (h : RelI I0 X w0 I g s a w) {K : V → Prop} {op : UnOp} {u : Value} {x : V} (hu : AtV I w g u x) (hK : unV real op x K) : Yld I0 X w0 g s a w (Op.unary op u) K := by
  unfold unV at hK
  split at hK <;> try exact hK.elim
  · obtain rfl := hu.sc
    refine yld h ?_ (atb _) hK
    simp only [Op.unary, notB_is]
    rfl
  · obtain rfl := hu.sc
    exact yld h (by simp only [Op.unary, Op.intArith]; rfl) (ati _ _) hK
theorem conv_ok (h : RelI I0 X w0 I g s a w) {K : V → Prop} {t0 t : Nat} (ht0 : tyKnown t0 = true) (ht : tyKnown t = true) {u : Value} {x : V} (hu : AtV I w g u x) (hK : convV real K (ty t).kind x) : Yld I0 X w0 g s a w (convert t0 t u) K := by
  have h0 : ∃ d, Tryd.prog.underlying t0 = some d := by
    have := (tyOk t0 ht0).agg
    cases hd : Tryd.prog.underlying t0 with
    | none => rw [hd] at this; cases this
    | some d => exact ⟨d, rfl⟩
  obtain ⟨d0, hd0⟩ := h0
  unfold convV at hK
  split at hK <;> try exact hK.elim
  · rename_i k j n hkind
    obtain rfl := hu.sc
    exact yld h (by simp [convert, run_underlying hd0, run_underlying (ty_int ht hkind), Conv.intToInt]; rfl) (ati _ _) hK
  · rename_i b hkind
    obtain rfl := hu.sc
    exact yld h (by simp [convert, run_underlying hd0, run_underlying (ty_str ht hkind)]) (ats _) hK
theorem extract_ok (h : RelI I0 X w0 I g s a w) {K : V → Prop} {i : Nat} {u : Value} {x : V} (hu : AtV I w g u x) (hK : extractV K i x) : Yld I0 X w0 g s a w (Instr.extract u i) K := by
  unfold extractV at hK
  split at hK <;> try exact hK.elim
  rename_i vs
  split at hK <;> try exact hK.elim
  rename_i v hv
  have hi := take1_is hv
  obtain ⟨us, rfl, h1⟩ := hu.untu
  have hlt : i < us.length := by rw [h1.1]; exact (List.getElem?_eq_some_iff.1 hi).1
  refine yld h (v := us[i]) ?_ (h1.2 i _ _ (List.getElem?_eq_getElem hlt) hi) hK
  simp [Instr.extract, hlt]
theorem len_ok (h : RelI I0 X w0 I g s a w) {K : V → Prop} {t ty' : Nat} (ht : tyKnown t = true) {u : Value} {x : V} (hu : AtV I w g u x) (hK : lenV real s.o K (ty t).kind x) : Yld I0 X w0 g s a w (Builtin.len_ #[t] ty' #[u]) K := by
  have hsl : (ty t).kind = .slice → ∃ e, Tryd.prog.underlying t = some (.slice e) := fun hk => by
    have h2 := (tyOk t ht).under
    unfold kindOk at h2
    rw [hk] at h2
    obtain ⟨h3, h4⟩ := h2
    obtain ⟨e, he⟩ := Option.isSome_iff_exists.1 h4
    rw [he] at h3
    exact ⟨e, h3⟩
  have key : ∀ A n cap, (∃ e, Tryd.prog.underlying t = some (.slice e)) → (Builtin.len_ #[t] ty' #[.slice A n cap]).run Tryd.prog w = .ok (.int .i64 n) w := fun A n cap ⟨e, he⟩ => by
    simp [Builtin.len_, run_underlying he, goInt]
  unfold lenV at hK
  split at hK <;> try exact hK.elim
  rotate_left
  · rename_i hk
    unfold lenT at hK
    split at hK <;> try exact hK.elim
    rename_i b
    obtain rfl := hu.sc
    exact yld h (by simp [Builtin.len_, run_underlying (ty_str ht hk), goInt]; rfl) (ati _ _) hK
  rename_i hk
  unfold lenS at hK
  split at hK <;> try exact hK.elim
  · rename_i sz rows
    cases hu with
    | d h1 =>
      obtain ⟨A, cap, rfl, -⟩ := h1.slice
      exact yld h (key _ _ _ (hsl hk)) (ati _ _) hK
  · cases hu
    exact yld h (key _ _ _ (hsl hk)) (ati _ _) hK
  · rename_i k
    split at hK <;> try exact hK.elim
    rename_i z e rows ho
    obtain ⟨us, h1, _⟩ := h.obj k _ (getO_some ho (by simp))
    obtain ⟨A, cap, hg⟩ := own_slice h1
    cases hu with
    | own k A' n cap' hg' =>
      rw [hg] at hg'
      injection hg' with e1 e2 e3
      subst e1; subst e2; subst e3
      exact yld h (key _ _ _ (hsl hk)) (ati _ _) hK
theorem sget_ok (h : RelI I0 X w0 I g s a w) {K : V → Prop} {t : Nat} (ht : tyKnown t = true) (htv : (ty t).kind = .array → ∀ e, (ty t).val = some e → tyKnown e = true) {u v : Value} {x i : V} (hu : AtV I w g u x) (hv : AtV I w g v i) (hK : indexV real K t x i) : Yld I0 X w0 g s a w (Instr.index t u v) K := by
  unfold indexV at hK
  split at hK <;> try exact hK.elim
  · rename_i cs k n
    split at hK <;> try exact hK.elim
    rename_i hkd
    split at hK <;> try exact hK.elim
    rename_i e he
    split at hK <;> try exact hK.elim
    rename_i j hj
    split at hK <;> try exact hK.elim
    rename_i l hl
    split at hK <;> try exact hK.elim
    rename_i y hy
    have hun := ty_array ht hkd he
    have hke := htv hkd e he
    obtain rfl := hv.sc
    obtain ⟨us, rfl, h7⟩ := hu.unag
    have hn : (0 ≤ n ∧ n < ((ty t).alen : Int)) ∧ n.toNat = j := by
      simp only [real] at hj
      split at hj
      · rename_i h1; injection hj with hj; exact ⟨h1, hj⟩
      · cases hj
    obtain ⟨hn, rfl⟩ := hn
    rw [dropN_is] at hl
    obtain ⟨e1, he1⟩ := takeN_is hl
    have hul : AtVs I w g ((us.drop (n.toNat * (ty e).sz)).take (ty e).sz) l := by rw [e1]; exact (h7.drop _).take _
    obtain ⟨hx, hone⟩ := pack_at hul hy
    refine yld h ?_ hx hK
    simp only [Instr.index, asIntOf, Sem.run_bind, Sem.run_pure, run_underlying hun, Result.andThen_ok, if_pos hn, part, ty_size hke, ty_agg hke]
    cases hag : (ty e).agg with
    | true =>
      have hsz := ty_size hke w
      simp [hsz]
    | false =>
      have hlen := hone hag
      simp only [Bool.false_eq_true, if_false]
      have hlt : n.toNat * (ty e).sz < us.length := by
        rw [List.length_take, List.length_drop] at hlen
        omega
      have : us.toArray[n.toNat * (ty e).sz]? = some (((us.drop (n.toNat * (ty e).sz)).take (ty e).sz).getD 0 undef) := by
        simp only [List.getElem?_toArray, List.getD_eq_getElem?_getD, List.getElem?_take, List.getElem?_drop, Nat.add_zero]
        have hsz : 0 < (ty e).sz := by rw [List.length_take] at hlen; omega
        rw [if_pos hsz, List.getElem?_eq_getElem hlt]
        rfl
      rw [this]
      rfl
  rename_i b k n
  split at hK <;> try exact hK.elim
  rename_i hk
  split at hK <;> try exact hK.elim
  rename_i c hc
  obtain rfl := hu.sc
  obtain rfl := hv.sc
  have hs : (if 0 ≤ n then b[n.toNat]? else none).map (fun c => (c.toNat : Int)) = some c := by
    simp only [real] at hc
    split at hc
    · rw [if_pos (by assumption)]; exact hc
    · cases hc
  cases hx : (if 0 ≤ n then b[n.toNat]? else none) with
  | none => rw [hx] at hs; cases hs
  | some y =>
    rw [hx] at hs
    injection hs with hs
    subst hs
    exact yld h (by simp [Instr.index, asIntOf, run_underlying (ty_str ht hk), hx]) (ati _ _) hK
/-- Cells one behind the other, laid over others. -/
theorem foldl_splice : ∀ (vs : List Value) (j : Nat) (cs : Array Value) (off : Nat), off + j + vs.length ≤ cs.size →
    ((vs.zipIdx j).foldl (fun cs (c, j) => cs.setIfInBounds (off + j) c) cs).toList = cs.toList.take (off + j) ++ vs ++ cs.toList.drop (off + j + vs.length)
  | [], j, cs, off, _ => by simp
  | v :: vs, j, cs, off, hl => by
    have hl' : off + j < cs.size := by simp at hl; omega
    rw [List.zipIdx_cons, List.foldl_cons, foldl_splice vs (j + 1) _ off (by simp at hl ⊢; omega)]
    simp only [Array.toList_setIfInBounds, ← Nat.add_assoc, List.length_cons]
    have hlt : off + j < cs.toList.length := by simpa using hl'
    rw [List.set_eq_take_append_cons_drop, if_pos hlt]
    have h1 : (cs.toList.take (off + j)).length = off + j := by rw [List.length_take]; omega
    have h2 : (cs.toList.take (off + j) ++ v :: cs.toList.drop (off + j + 1)).take (off + j + 1) = cs.toList.take (off + j) ++ [v] := by
      rw [List.take_append, h1, List.take_of_length_le (by omega), show off + j + 1 - (off + j) = 1 by omega]
      simp
    have h3 : (cs.toList.take (off + j) ++ v :: cs.toList.drop (off + j + 1)).drop (off + j + 1 + vs.length) = cs.toList.drop (off + j + (vs.length + 1)) := by
      rw [List.drop_append, h1, List.drop_of_length_le (by omega), show off + j + 1 + vs.length - (off + j) = vs.length + 1 by omega, List.nil_append, List.drop_succ_cons, List.drop_drop]
      congr 1
      omega
    rw [h2, h3]
    simp [Nat.add_assoc]
/-- The parts of a literal, laid where they belong. -/
theorem fill_at (h : RelI I0 X w0 I g s a w) {place : List (Nat × Nat)} : ∀ {ps : List (Nat × Operand)} {l r : List V} {us : List Value}, AtVs I w g us l → fillV s.get place ps l = some r →
    ∃ us', Instr.fill (fun i => place[i]?) us.toArray (ps.map fun p => (p.1, a.eval p.2)) = some us'.toArray ∧ AtVs I w g us' r
  | [], l, r, us, hu, hf => by
    rw [fillV] at hf
    injection hf with hf
    subst hf
    exact ⟨us, rfl, hu⟩
  | (i, x) :: ps, l, r, us, hu, hf => by
    rw [fillV] at hf
    split at hf <;> try cases hf
    rename_i off sz hp
    split at hf <;> try cases hf
    rename_i cs hcs
    split at hf <;> try cases hf
    rename_i hsz
    split at hf <;> try cases hf
    rename_i l' hl'
    rw [eqN_is, lenL_is] at hsz
    obtain ⟨vs, hv1, hv2, hv3⟩ := cells_at (h.get x) hcs
    obtain ⟨e, hle⟩ := splice_is hl'
    have hlen : off + vs.length ≤ us.length := by rw [hv2.1, hu.1]; exact hle
    obtain ⟨us', h1, h2⟩ := fill_at h (hu.splice hv2 hl') hf
    refine ⟨us', ?_, h2⟩
    rw [List.map_cons, Instr.fill]
    simp only [take1_is hp]
    have hsize : (a.eval x).cells.size = sz := by rw [hv1]; simp [hv2.1, hsz]
    rw [if_neg (by
      rw [hsize]
      have : vs.length = sz := by rw [hv2.1, hsz]
      simp
      omega)]
    rw [← h1]
    congr 1
    apply Array.ext'
    have := foldl_splice vs 0 us.toArray off (by simpa using hlen)
    simp only [Nat.add_zero] at this
    rw [hv1]
    simpa using this
theorem mapM_of_map {α : Type} (o : α → Nat) (sz : α → Option Nat) : ∀ (l : List α) (m : List (Nat × Nat)), l.map (fun f => (o f, sz f)) = m.map (fun x => (x.1, some x.2)) → l.mapM (fun f => (sz f).map fun i => (o f, i)) = some m
  | [], [], _ => rfl
  | [], _ :: _, h => by cases h
  | _ :: _, [], h => by cases h
  | f :: l, (y1, y2) :: m, h => by
    rw [List.map_cons, List.map_cons] at h
    injection h with h1 h2
    injection h1 with h1 h3
    simp only at h3 h1
    rw [List.mapM_cons, mapM_of_map o sz l m h2, h3, h1]
    rfl
theorem places_get {sz : Nat} : ∀ {n off i : Nat} {p : Nat × Nat}, (places sz n off)[i]? = some p → p = (off + i * sz, sz)
  | 0, off, i, p, h => by simp [places] at h
  | n + 1, off, 0, p, h => by simp [places] at h; simp [← h]
  | n + 1, off, i + 1, p, h => by
    have := places_get (n := n) (off := off + sz) (i := i) (p := p) (by simpa [places] using h)
    rw [this, Nat.succ_mul]
    congr 1
    omega
theorem fill_more {place place' : Nat → Option (Nat × Nat)} (hp : ∀ i p, place i = some p → place' i = some p) : ∀ {ps : List (Nat × Value)} {l r : Array Value}, Instr.fill place l ps = some r → Instr.fill place' l ps = some r
  | [], l, r, h => h
  | (i, v) :: ps, l, r, h => by
    rw [Instr.fill] at h ⊢
    split at h
    · cases h
    · rename_i off size hpi
      rw [hp _ _ hpi]
      simp only
      split at h
      · cases h
      · rename_i hc
        rw [if_neg hc]
        exact fill_more hp h
theorem build_ok (h : RelI I0 X w0 I g s a w) {K : V → Prop} {t : Nat} (ht : tyKnown t = true) (htv : (ty t).kind = .array → ∀ e, (ty t).val = some e → tyKnown e = true) (ps : Array (Nat × Operand)) (hK : buildV s.get K t ps.toList) : Yld I0 X w0 g s a w (Instr.build t (ps.map fun p => (p.1, a.eval p.2))) K := by
  unfold buildV at hK
  split at hK <;> try exact hK.elim
  · rename_i hk
    split at hK <;> try exact hK.elim
    rename_i l hl
    obtain ⟨us', h1, h2⟩ := fill_at h (constL_at (ty t).zero) hl
    refine yld h ?_ (atV_ag h2) hK
    refine run_build w t _ _ ?_
    obtain ⟨x, z, hi, hs, hz, hc, _⟩ := ty_info ht
    obtain ⟨fs, hu, hf1, hf2⟩ := ty_struct ht hk
    have hpl : fs.toList.mapM (fun f => (Tryd.prog.info? f.type).map fun i => (f.offset, i.size)) = some (ty t).flds := by
      have hm := mapM_of_map _ _ _ _ hf1
      simp only [Option.map_map] at hm
      exact hm
    simp only [Program.built, hi, hu, hz, hpl, hc]
    rw [Array.toList_map]
    simpa using h1
  · rename_i hk
    split at hK <;> try exact hK.elim
    rename_i e he
    split at hK <;> try exact hK.elim
    rename_i l hl
    obtain ⟨us', h1, h2⟩ := fill_at h (constL_at (ty t).zero) hl
    refine yld h ?_ (atV_ag h2) hK
    obtain ⟨z, hz, hzc⟩ := ty_zero ht w
    have hun := ty_array ht hk he
    have hpl : ∀ i p, (places (ty e).sz (ty t).alen 0)[i]? = some p → p = (i * (ty e).sz, (ty e).sz) := fun i p hp => by
      have := places_get hp
      simpa using this
    have h3 := fill_more (place' := fun i => some (i * (ty e).sz, (ty e).sz)) (fun i p hp => by rw [hpl i p hp]) h1
    rw [← hzc] at h3
    simp only [Instr.build, Sem.run_bind, hz, Result.andThen_ok, run_underlying hun, ty_size (htv hk e he), Array.toList_map]
    rw [h3]
    rfl
theorem min_ok (h : RelI I0 X w0 I g s a w) {K : V → Prop} {mx : Bool} {ts : Array TypeId} {ty' : Nat} {us : List Value} {xs : List V} (hu : AtVs I w g us xs) (hK : minV real K mx xs) : Yld I0 X w0 g s a w (if mx = true then Builtin.max_ ts ty' us.toArray else Builtin.min_ ts ty' us.toArray) K := by
  unfold minV at hK
  split at hK <;> try exact hK.elim
  rename_i k m k' n
  obtain ⟨u, us, rfl, h1, h2⟩ := hu.uncons
  obtain ⟨v, us, rfl, h3, h4⟩ := h2.uncons
  rw [h4.unnil]
  obtain rfl := h1.sc
  obtain rfl := h3.sc
  split at hK <;> try exact hK.elim
  cases mx with
  | true =>
    refine yld h ?_ (ati k _) hK
    simp only [Builtin.max_, if_true, List.foldlM, Builtin.max2, real]
    by_cases hlt : m < n
    · simp [hlt]
    · simp [hlt]
  | false =>
    refine yld h ?_ (ati k _) hK
    simp only [Builtin.min_, Bool.false_eq_true, if_false, List.foldlM, Builtin.min2, real]
    by_cases hlt : n < m
    · simp [hlt]
    · simp [hlt]
theorem nn_ok (h : RelI I0 X w0 I g s a w) {K : V → Prop} {v : Value} {x : V} (hv : AtV I w g v x) (hK : nnV K x) : K x ∧ (∀ f, v ≠ .func (.method f) #[] #[]) ∧ ((∃ a, v = .pointer (some a)) ∨ ∃ f cs, v = .func (.func f) #[] cs) := by
  unfold nnV at hK
  split at hK <;> try exact hK.elim
  · obtain ⟨b, _, rfl⟩ := hv.unptr
    exact ⟨hK, by simp, .inl ⟨_, rfl⟩⟩
  · cases hv
    exact ⟨hK, by simp, .inr ⟨_, _, rfl⟩⟩
  · cases hv
    exact ⟨hK, by simp, .inl ⟨_, rfl⟩⟩
  · cases hv
    exact ⟨hK, by simp, .inl ⟨_, rfl⟩⟩
end
end Go.Proofs.YtgedpbpfoaljhaaDoor.Vm

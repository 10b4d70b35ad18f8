/- The machine of values: maps. -/
import Derived.Test.YtgedpbpfoaljhaaDoorVCalm3
import Derived.Laws.StructEq
import Derived.Maps.Keyed
set_option linter.unusedVariables false
set_option linter.unusedSimpArgs false
namespace Go.Proofs.YtgedpbpfoaljhaaDoor.Vm
open Go.RowKit
theorem ty_noagg {t : Nat} (h : tyKnown t = true) {d : TypeDesc} (hu : Tryd.prog.underlying t = some d) (hd : aggOf (some d) = some false) : (ty t).agg = false := by
  have := (tyOk t h).agg
  rw [hu, hd] at this
  exact (Option.some.inj this).symm
def dVal : D → Value
  | .sc v => v
  | .sl _ _ => .nilFunc
def rVal : R → Value
  | .one d => dVal d
  | .ag ds => .agg (ds.map dVal).toArray
theorem scalar_sc {k : TK} {d : D} (h : scalarB k d = true) : ∃ v, d = .sc v := by
  cases d with
  | sc v => exact ⟨v, rfl⟩
  | sl sz rows => cases k <;> cases h
theorem scalars_sc : ∀ {us : List Nat} {fs : List (Nat × Nat)} {n : Nat} {ds : List D}, scalarsB us fs n ds = true → ∀ d ∈ ds, ∃ v, d = .sc v
  | [], [], n, [], _ => by simp
  | u :: us, (off, 1) :: fs, n, d :: ds, h => by
    rw [scalarsB] at h
    split at h
    · split at h
      · rename_i h1
        intro x hx
        rcases List.mem_cons.1 hx with rfl | hx
        · exact scalar_sc h1
        · exact scalars_sc h x hx
      · cases h
    · cases h
theorem key_sc {t : Nat} {r : R} (h : keyB t r = true) : (∃ v, r = .one (.sc v)) ∨ ∃ ds, r = .ag ds ∧ ∀ d ∈ ds, ∃ v, d = .sc v := by
  cases r with
  | one d => obtain ⟨v, rfl⟩ := scalar_sc h; exact .inl ⟨v, rfl⟩
  | ag ds =>
    rw [keyB] at h
    split at h
    · split at h
      · exact .inr ⟨ds, rfl, scalars_sc h⟩
      · cases h
    · cases h
section
variable {I : Nat → Nat → Prop} {w : World}
theorem AtD.val {v : Value} {u : Value} (h : AtD I w v (.sc u)) : v = u := by cases h; rfl
theorem key_val {t : Nat} {v : Value} {r : R} (h : AtR I w v r) (hk : keyB t r = true) : v = rVal r := by
  rcases key_sc hk with ⟨u, rfl⟩ | ⟨ds, rfl, hs⟩
  · exact AtD.val h
  · obtain ⟨us, rfl, hl, hd⟩ := h
    have : us = ds.map dVal := by
      refine List.ext_getElem? fun i => ?_
      rw [List.getElem?_map]
      cases hi : ds[i]? with
      | none =>
        rw [List.getElem?_eq_none_iff] at hi
        rw [List.getElem?_eq_none (by omega)]
        rfl
      | some d =>
        have hlt : i < us.length := by rw [hl]; exact (List.getElem?_eq_some_iff.1 hi).1
        obtain ⟨u, rfl⟩ := hs d (List.mem_of_getElem? hi)
        rw [List.getElem?_eq_getElem hlt]
        exact congrArg some (hd i _ _ (List.getElem?_eq_getElem hlt) hi).val
    rw [this]
    rfl
end
theorem natEq_is (m n : Nat) : natEq m n = (m == n) := by
  rw [Bool.eq_iff_iff, beq_iff_eq]
  exact ⟨Nat.eq_of_beq_eq_true, fun h => by rw [h]; exact Nat.beq_refl n⟩
theorem intEq_is (m n : Int) : intEq m n = (m == n) := by
  rw [Bool.eq_iff_iff, beq_iff_eq]
  cases m <;> cases n <;> simp [intEq, natEq_is]
  exact Int.ofNat_inj.symm
theorem bytesEq_is : ∀ x y : List UInt8, bytesEq x y = (x == y)
  | [], [] => rfl
  | [], _ :: _ => rfl
  | _ :: _, [] => rfl
  | x :: l, y :: m => by
    rw [bytesEq, natEq_is, bytesEq_is l m]
    by_cases h : x = y
    · subst h; simp
    · have h1 : (x.toNat == y.toNat) = false := beq_eq_false_iff_ne.2 fun e => h (UInt8.toNat_inj.1 e)
      have h2 : (x :: l == y :: m) = false := beq_eq_false_iff_ne.2 fun e => h (by injection e)
      rw [h1, h2]
theorem bytes_eq (x y : ByteArray) : (x == y) = (x.data.toList == y.data.toList) := by
  rw [beq_toListBytes, ByteArray.toList_eq, ByteArray.toList_eq]
/-- Scalars of one type: alike, as the model says. -/
structure ScalOk (t : Nat) (x y : D) (d : TypeDesc) : Prop where
  un : Tryd.prog.underlying t = some d
  ag : aggOf (some d) = some false
  now : Instr.sameNow d (dVal x) (dVal y) = some (dEq y x)
  eq : ∀ (n : Nat) (w : World), (Op.equalIn (n + 1) t (dVal x) (dVal y)).run Tryd.prog w = .ok (dEq y x) w
  chk : ∀ (e : Bool) (n : Nat) (w : World), (Instr.checkKey e (n + 1) t (dVal x)).run Tryd.prog w = .ok () w
  bits : ∀ n, Instr.sameBits n (dVal x) (dVal x) = true
theorem scal_inv {k : TK} {d : D} (h : scalarB k d = true) : (∃ q m, k = .int q ∧ d = .sc (.int q m)) ∨ (∃ s, k = .str ∧ d = .sc (.string s)) ∨ ∃ b, k = .bool ∧ d = .sc (.bool b) := by
  unfold scalarB at h
  split at h
  · rename_i q q' m
    obtain rfl := keq_is h
    exact .inl ⟨_, m, rfl, rfl⟩
  · exact .inr (.inl ⟨_, rfl, rfl⟩)
  · exact .inr (.inr ⟨_, rfl, rfl⟩)
  · cases h
theorem scal_ok {t : Nat} (ht : tyKnown t = true) {x y : D} (hx : scalarB (ty t).kind x = true) (hy : scalarB (ty t).kind y = true) : ∃ d, ScalOk t x y d := by
  rcases scal_inv hx with ⟨q, m, hk, rfl⟩ | ⟨m, hk, rfl⟩ | ⟨m, hk, rfl⟩ <;> rcases scal_inv hy with ⟨q', n, hk', rfl⟩ | ⟨n, hk', rfl⟩ | ⟨n, hk', rfl⟩ <;> rw [hk] at hk' <;> first | cases hk'; done | skip
  · injection hk' with hk'
    subst hk'
    have hu := ty_int ht hk
    refine ⟨_, hu, rfl, ?_, fun n w => ?_, fun e n w => ?_, fun n => ?_⟩
    · simp only [Instr.sameNow, dVal, dEq, intEq_is, if_true]
      rw [BEq.comm]
    · simp only [Op.equalIn, run_underlying hu, dVal, dEq, intEq_is, Sem.run_bind, Result.andThen_ok, if_true, Sem.run_pure]
      rw [BEq.comm]
    · simp [Instr.checkKey, run_underlying hu, dVal]
    · cases n <;> simp [Instr.sameBits, dVal]
  · have hu := ty_str ht hk
    refine ⟨_, hu, rfl, ?_, fun n w => ?_, fun e n w => ?_, fun n => ?_⟩
    · simp only [Instr.sameNow, dVal, dEq, bytesEq_is, bytes_eq]
      rw [BEq.comm]
    · simp only [Op.equalIn, run_underlying hu, dVal, dEq, bytesEq_is, bytes_eq, Sem.run_bind, Result.andThen_ok, Sem.run_pure]
      rw [BEq.comm]
    · simp [Instr.checkKey, run_underlying hu, dVal]
    · have h0 : (m == m) = true := by rw [bytes_eq]; simp
      cases n <;> exact h0
  · have hu := ty_bool ht hk
    refine ⟨_, hu, rfl, ?_, fun n w => ?_, fun e n w => ?_, fun n => ?_⟩
    · simp only [Instr.sameNow, dVal, dEq, bEq_is]
      rw [BEq.comm]
    · simp only [Op.equalIn, run_underlying hu, dVal, dEq, bEq_is, Sem.run_bind, Result.andThen_ok, Sem.run_pure]
      rw [BEq.comm]
    · simp [Instr.checkKey, run_underlying hu, dVal]
    · cases n <;> simp [Instr.sameBits, dVal]
theorem part_scal {u : Nat} {us : Array Value} {off : Nat} {v : Value} {w : World} (h : (ty u).agg = false) (hu : tyKnown u = true) (hv : us[off]? = some v) : (part u us off).run Tryd.prog w = .ok v w := by
  simp only [part, Sem.run_bind, ty_agg hu, h, Result.andThen_ok, Bool.false_eq_true, if_false, hv, Sem.run_pure]
/-- A struct's fields that are scalars, one behind the other. -/
def FOk : List Field → Nat → List D → Prop
  | [], _, [] => True
  | f :: fs, n, d :: ds => f.offset = n ∧ tyKnown f.type = true ∧ (f.name != "_") = true ∧ scalarB (ty f.type).kind d = true ∧ FOk fs (n + 1) ds
  | _, _, _ => False
theorem fok_of : ∀ {fs : List Field} {fl : List (Nat × Nat)} {n : Nat} {ds : List D}, fs.map (·.offset) = fl.map (·.1) → (∀ f ∈ fs, tyKnown f.type = true ∧ (f.name != "_") = true) → scalarsB (fs.map (·.type)) fl n ds = true → FOk fs n ds
  | [], [], n, [], _, _, _ => trivial
  | [], [], n, _ :: _, _, _, h => by cases h
  | [], _ :: _, n, ds, h, _, _ => by cases h
  | f :: fs, [], n, ds, h, _, _ => by cases h
  | f :: fs, (off, sz) :: fl, n, ds, ho, hk, h => by
    rw [List.map_cons, List.map_cons] at ho
    injection ho with ho1 ho2
    simp only at ho1
    rw [List.map_cons] at h
    unfold scalarsB at h
    split at h
    · contradiction
    · rename_i u us off' fs' n' d ds e1 e2
      injection e1 with e1 e3
      injection e2 with e2 e4
      injection e2 with e2 e5
      subst e1; subst e3; subst e4; subst e2
      split at h
      · rename_i h1
        split at h
        · rename_i h2
          rw [eqN_is] at h1
          exact ⟨ho1.trans h1, (hk f (List.mem_cons_self ..)).1, (hk f (List.mem_cons_self ..)).2, h2, fok_of ho2 (fun f hf => hk f (List.mem_cons_of_mem _ hf)) h⟩
        · cases h
      · cases h
    · cases h
section
variable {w : World}
theorem eq_fields : ∀ {fs : List Field} {n : Nat} {xs ys : List D} {us vs : List D}, us.length = n → vs.length = n → FOk fs n xs → FOk fs n ys → ∀ m, (Op.eqFields (m + 1) ((us ++ xs).map dVal).toArray ((vs ++ ys).map dVal).toArray fs).run Tryd.prog w = .ok (dsEq ys xs) w
  | [], n, [], [], us, vs, _, _, _, _, m => rfl
  | f :: fs, n, x :: xs, y :: ys, us, vs, hu, hv, hx, hy, m => by
    obtain ⟨h1, h2, h3, h4, h5⟩ := hx
    obtain ⟨g1, g2, g3, g4, g5⟩ := hy
    obtain ⟨d, hd⟩ := scal_ok h2 h4 g4
    have hag := ty_noagg h2 hd.un hd.ag
    have px : (part f.type ((us ++ x :: xs).map dVal).toArray f.offset).run Tryd.prog w = .ok (dVal x) w := part_scal hag h2 (by rw [h1, ← hu]; simp)
    have py : (part f.type ((vs ++ y :: ys).map dVal).toArray f.offset).run Tryd.prog w = .ok (dVal y) w := part_scal hag h2 (by rw [h1, ← hv]; simp)
    have ih := eq_fields (fs := fs) (n := n + 1) (us := us ++ [x]) (vs := vs ++ [y]) (by simp [hu]) (by simp [hv]) h5 g5 m
    rw [List.append_assoc, List.append_assoc] at ih
    simp only [List.singleton_append] at ih
    rw [Op.eqFields, if_pos (by simpa using h3)]
    simp only [Sem.run_bind, px, py, Result.andThen_ok, hd.eq m w]
    rw [dsEq]
    cases dEq y x with
    | false => rfl
    | true => exact ih
theorem chk_fields {em : Bool} {m : Nat} : ∀ {fs : List Field} {n : Nat} {xs us : List D}, us.length = n → FOk fs n xs → (forIn fs PUnit.unit fun f (_ : PUnit) => (if f.name ≠ "_" then do Instr.checkKey em (m + 1) f.type (← part f.type ((us ++ xs).map dVal).toArray f.offset); pure (.yield PUnit.unit) else pure (.yield PUnit.unit) : Sem (ForInStep PUnit))).run Tryd.prog w = .ok PUnit.unit w
  | [], n, [], us, _, _ => rfl
  | f :: fs, n, x :: xs, us, hu, hx => by
    obtain ⟨h1, h2, h3, h4, h5⟩ := hx
    obtain ⟨d, hd⟩ := scal_ok h2 h4 h4
    have hag := ty_noagg h2 hd.un hd.ag
    have px : (part f.type ((us ++ x :: xs).map dVal).toArray f.offset).run Tryd.prog w = .ok (dVal x) w := part_scal hag h2 (by rw [h1, ← hu]; simp)
    have ih := chk_fields (em := em) (m := m) (fs := fs) (n := n + 1) (us := us ++ [x]) (by simp [hu]) h5
    rw [List.append_assoc] at ih
    simp only [List.singleton_append] at ih
    rw [List.forIn_cons]
    rw [if_pos (by simpa using h3)]
    simp only [Sem.run_bind, px, Result.andThen_ok, hd.chk em m w, Sem.run_pure]
    exact ih
theorem bits_fields : ∀ {n : Nat} {xs : List D}, (∀ x ∈ xs, Instr.sameBits n (dVal x) (dVal x) = true) → Instr.sameBits (n + 1) (.agg (xs.map dVal).toArray) (.agg (xs.map dVal).toArray) = true := by
  intro n xs h
  simp only [Instr.sameBits, beq_self_eq_true, Bool.true_and, List.all_eq_true]
  intro p hp
  obtain ⟨i, hi⟩ := List.mem_iff_getElem?.1 hp
  rw [List.getElem?_zip_eq_some] at hi
  have e : p.1 = p.2 := Option.some.inj (hi.1.symm.trans hi.2)
  have h2 := hi.1
  simp only [List.getElem?_map] at h2
  obtain ⟨x, hx, hpx⟩ := Option.map_eq_some_iff.1 h2
  obtain ⟨p1, p2⟩ := p
  simp only at e hpx ⊢
  rw [← e, ← hpx]
  exact h x (List.mem_of_getElem? hx)
/-- What the machine asks of a map's type. -/
def mapOk (t : Nat) : Bool := match (ty t).key, (ty t).val with
  | some k, some e => tyKnown k && tyKnown e && (ty k).fty.all tyKnown
  | _, _ => false
theorem skey_mem {t : Nat} : ∀ {l : List Nat}, skeyB t l = true → t ∈ l
  | [], h => by cases h
  | u :: l, h => by
    rw [skeyB] at h
    split at h
    · rename_i e; rw [eqN_is] at e; rw [e]; exact List.mem_cons_self ..
    · exact List.mem_cons_of_mem _ (skey_mem h)
theorem skey_fields {t : Nat} (ht : tyKnown t = true) (hf : ∀ u ∈ (ty t).fty, tyKnown u = true) {ds : List D} (h : keyB t (.ag ds) = true) : ∃ fs, Tryd.prog.underlying t = some (.struct fs) ∧ Tryd.prog.stoodInHeld t = false ∧ FOk fs.toList 0 ds := by
  rw [keyB] at h
  split at h
  · rename_i hst
    split at h
    · rename_i hs
      have hm := skeysOk t (skey_mem hs)
      unfold skeyOk at hm
      simp only [Bool.and_eq_true, Bool.not_eq_true'] at hm
      obtain ⟨h1, h2⟩ := hm
      obtain ⟨fs, hu, h3, h4⟩ := ty_struct ht hst
      rw [hu] at h2
      refine ⟨fs, hu, h1, fok_of (fl := (ty t).flds) ?_ (fun f hfm => ⟨hf _ (by rw [← h4]; exact List.mem_map_of_mem hfm), List.all_eq_true.1 h2 f hfm⟩) (by rw [h4]; exact h)⟩
      have := congrArg (List.map Prod.fst) h3
      simpa [List.map_map, Function.comp_def] using this
    · cases h
  · cases h
/-- Keys of one type: what the model says of them. -/
structure KeyOk (t : Nat) (x y : R) (w : World) : Prop where
  eq : (Op.equal t (rVal x) (rVal y)).run Tryd.prog w = .ok (rEq y x) w
  chk : ∀ e, (Instr.checkKey e 10000 t (rVal x)).run Tryd.prog w = .ok () w
  bits : Instr.sameBits 10000 (rVal x) (rVal x) = true
  now : ∀ d, Tryd.prog.underlying t = some d → Instr.sameNow d (rVal x) (rVal y) = some (rEq y x) ∨ Instr.sameNow d (rVal x) (rVal y) = none
theorem key_ok {t : Nat} (ht : tyKnown t = true) (hf : ∀ u ∈ (ty t).fty, tyKnown u = true) {x y : R} (hx : keyB t x = true) (hy : keyB t y = true) : KeyOk t x y w := by
  cases x with
  | one x =>
    cases y with
    | one y =>
      obtain ⟨d, hd⟩ := scal_ok ht hx hy
      exact ⟨hd.eq 9999 w, fun e => hd.chk e 9999 w, hd.bits _, fun d' hd' => by
        have h := hd.un
        rw [hd'] at h
        injection h with h
        subst h
        exact .inl hd.now⟩
    | ag ys =>
      obtain ⟨fs, hu, _⟩ := skey_fields ht hf hy
      obtain ⟨d, hd⟩ := scal_ok ht hx hx
      have h := hd.un
      rw [hu] at h
      injection h with h
      subst h
      cases hd.ag
  | ag xs =>
    obtain ⟨fs, hu, hst, hfx⟩ := skey_fields ht hf hx
    cases y with
    | one y =>
      obtain ⟨d, hd⟩ := scal_ok ht hy hy
      have h := hd.un
      rw [hu] at h
      injection h with h
      subst h
      cases hd.ag
    | ag ys =>
      obtain ⟨fs', hu', _, hfy⟩ := skey_fields ht hf hy
      rw [hu] at hu'
      injection hu' with hu'
      injection hu' with hu'
      subst hu'
      have hfo : Tryd.prog.fieldsOf t = fs := by unfold Program.fieldsOf; rw [hu]
      refine ⟨?_, fun e => ?_, ?_, fun d hd => ?_⟩
      · have h1 := run_equalIn_struct w 9999 t (xs.map dVal).toArray (ys.map dVal).toArray (by rw [hfo]; exact hu) hst
        rw [hfo] at h1
        exact h1.trans (eq_fields (us := []) (vs := []) rfl rfl hfx hfy 9998)
      · have h1 := chk_fields (w := w) (em := e) (m := 9998) (us := []) rfl hfx
        show (Instr.checkKey e (9999 + 1) t (.agg (xs.map dVal).toArray)).run Tryd.prog w = _
        rw [Instr.checkKey]
        simp only [Sem.run_bind, run_underlying hu, Result.andThen_ok]
        rw [← Array.forIn_toList]
        exact (congrArg (fun r => r.andThen fun a w' => Sem.run Tryd.prog (pure ()) w') h1 : _)
      · refine bits_fields (n := 9999) fun x hx' => ?_
        have key : ∀ {fs : List Field} {n : Nat} {xs : List D}, FOk fs n xs → ∀ x ∈ xs, Instr.sameBits 9999 (dVal x) (dVal x) = true := by
          intro fs
          induction fs with
          | nil =>
            intro n xs h x hx
            cases xs with
            | nil => cases hx
            | cons y ys => exact (show False from h).elim
          | cons f fs ih =>
            intro n xs h x hx
            cases xs with
            | nil => cases hx
            | cons y xs =>
              obtain ⟨h1, h2, h3, h4, h5⟩ := h
              rcases List.mem_cons.1 hx with rfl | hx
              · obtain ⟨d, hd⟩ := scal_ok h2 h4 h4
                exact hd.bits _
              · exact ih h5 x hx
        exact key hfx x hx'
      · rw [hu] at hd
        injection hd with hd
        subst hd
        exact .inr rfl
/-- Where a map has a key. -/
def hit (r : R) : List R → List MapEntry → Nat → Option (Nat × Value)
  | k :: ks, e :: es, i => match rEq k r with | true => some (i, e.val) | false => hit r ks es (i + 1)
  | _, _, _ => none
theorem find_now {t : Nat} {d : TypeDesc} {r : R} (hd : Tryd.prog.underlying t = some d) : ∀ {ks : List R} {es : List MapEntry} (i : Nat), es.map (·.key) = ks.map rVal → (∀ k ∈ ks, KeyOk t r k w) → Instr.findNow d (rVal r) es i = some (hit r ks es i) ∨ Instr.findNow d (rVal r) es i = none
  | [], [], i, _, _ => .inl rfl
  | [], _ :: _, i, h, _ => by cases h
  | _ :: _, [], i, h, _ => by cases h
  | k :: ks, e :: es, i, h, hk => by
    rw [List.map_cons, List.map_cons] at h
    injection h with h1 h2
    have h3 := (hk k (List.mem_cons_self ..)).now d hd
    have ih := find_now hd (i + 1) h2 fun k hm => hk k (List.mem_cons_of_mem _ hm)
    simp only [Instr.findNow, hit, h1]
    rcases h3 with h3 | h3
    · rw [h3]
      cases rEq k r with
      | true => exact .inl rfl
      | false => exact ih
    · rw [h3]
      exact .inr rfl
theorem find_ask {t : Nat} {r : R} : ∀ {ks : List R} {es : List MapEntry} (i : Nat), es.map (·.key) = ks.map rVal → (∀ k ∈ ks, KeyOk t r k w) → (Instr.findAsking t (rVal r) es i).run Tryd.prog w = .ok (hit r ks es i) w
  | [], [], i, _, _ => rfl
  | [], _ :: _, i, h, _ => by cases h
  | _ :: _, [], i, h, _ => by cases h
  | k :: ks, e :: es, i, h, hk => by
    rw [List.map_cons, List.map_cons] at h
    obtain ⟨h1, h2⟩ := List.cons.inj h
    have ih := find_ask (t := t) (i + 1) h2 fun k hm => hk k (List.mem_cons_of_mem _ hm)
    rw [Instr.findAsking, hit, h1, Sem.run_bind, (hk k (List.mem_cons_self ..)).eq, Result.andThen_ok]
    cases hr : rEq k r with
    | true => simp only [if_true, Sem.run_pure]
    | false => simp only [Bool.false_eq_true, if_false]; exact ih
theorem find_key {t : Nat} (ht : tyKnown t = true) {r : R} {ks : List R} {es : List MapEntry} (h : es.map (·.key) = ks.map rVal) (hk : ∀ k ∈ ks, KeyOk t r k w) : (Instr.findKey t (rVal r) es).run Tryd.prog w = .ok (hit r ks es 0) w := by
  have hag := (tyOk t ht).agg
  cases hu : Tryd.prog.underlying t with
  | none => rw [hu] at hag; cases hag
  | some d =>
    simp only [Instr.findKey, Sem.run_bind, run_underlying hu, Result.andThen_ok]
    rcases find_now hu 0 h hk with h1 | h1
    · rw [h1]; rfl
    · rw [h1]; exact find_ask 0 h hk
end
section
variable {I0 : Nat → Nat → Prop} {X : Nat → Prop} {w0 : W0} {I : Nat → Nat → Prop} {g : Nat → Value} {s : S} {a : Act} {w : World}
theorem hit_is {kt : Nat} {r q : R} : ∀ {l : List MapEntry} {es : List (R × R)} (i : Nat), AtEs I w kt l es →
    (∃ j e p, hit r (es.map (·.1)) l i = some (i + j, e.val) ∧ l[j]? = some e ∧ es[j]? = some p ∧ rEq p.1 r = true ∧ mget es r = some p.2 ∧ mset es r q = es.set j (p.1, q)) ∨ (hit r (es.map (·.1)) l i = none ∧ mget es r = none ∧ mset es r q = es ++ [(r, q)])
  | [], [], i, _ => .inr ⟨rfl, rfl, rfl⟩
  | [], _ :: _, i, h => by have := h.1; simp at this
  | _ :: _, [], i, h => by have := h.1; simp at this
  | e :: l, (k, v) :: es, i, h => by
    have h' : AtEs I w kt l es := ⟨by have := h.1; simpa using this, fun j e p he hp => h.2 (j + 1) e p (by simpa using he) (by simpa using hp)⟩
    simp only [List.map_cons, hit, mget, mset]
    cases hk : rEq k r with
    | true => exact .inl ⟨0, e, (k, v), rfl, rfl, rfl, hk, rfl, rfl⟩
    | false =>
      rcases hit_is (q := q) (i + 1) h' with ⟨j, e', p, h1, h2, h3, h4, h5, h6⟩ | ⟨h1, h2, h3⟩
      · exact .inl ⟨j + 1, e', p, by rw [h1, Nat.add_assoc, Nat.add_comm 1 j], by simpa using h2, by simpa using h3, h4, h5, by rw [h6]; rfl⟩
      · exact .inr ⟨h1, h2, by rw [h3]; rfl⟩
theorem es_keys {kt : Nat} {l : List MapEntry} {es : List (R × R)} (h : AtEs I w kt l es) : l.map (·.key) = (es.map (·.1)).map rVal := by
  refine List.ext_getElem? fun i => ?_
  simp only [List.getElem?_map]
  rcases Nat.lt_or_ge i l.length with hi | hi
  · have hi' : i < es.length := by rw [← h.1]; exact hi
    rw [List.getElem?_eq_getElem hi, List.getElem?_eq_getElem hi']
    obtain ⟨h1, _, h3⟩ := h.2 i _ _ (List.getElem?_eq_getElem hi) (List.getElem?_eq_getElem hi')
    exact congrArg some (key_val h1 h3)
  · rw [List.getElem?_eq_none hi, List.getElem?_eq_none (by rw [← h.1]; exact hi)]
    rfl
theorem es_keyOk {kt : Nat} (ht : tyKnown kt = true) (hf : ∀ u ∈ (ty kt).fty, tyKnown u = true) {r : R} (hr : keyB kt r = true) {l : List MapEntry} {es : List (R × R)} (h : AtEs I w kt l es) (w' : World) : ∀ k ∈ es.map (·.1), KeyOk kt r k w' := by
  intro k hk
  obtain ⟨p, hp, rfl⟩ := List.mem_map.1 hk
  obtain ⟨i, hi⟩ := List.mem_iff_getElem?.1 hp
  have hlt : i < l.length := by rw [h.1]; exact (List.getElem?_eq_some_iff.1 hi).1
  exact key_ok ht hf hr (h.2 i _ _ (List.getElem?_eq_getElem hlt) hi).2.2
theorem zero_at {e : Nat} (he : tyKnown e = true) {z : V} (hz : pack (ty e).agg (constL (ty e).zero) = some z) : ∃ v, (zeroValue e).run Tryd.prog w = .ok v w ∧ AtV I w g v z := by
  obtain ⟨v, hv, hc⟩ := ty_zero he w
  refine ⟨v, hv, ?_⟩
  have hag := (tyOk e he).zag
  obtain ⟨x, z', h1, _, h3, _⟩ := ty_info he
  have hv' : v = z' := by
    simp only [zeroValue, typeInfo, Sem.run_bind, run_program, Result.andThen_ok, h1, h3, Sem.run_pure] at hv
    exact (Result.ok.inj hv).1.symm
  rw [h1] at hag
  simp only [Option.bind_some, h3, Option.map_some, Option.some.injEq] at hag
  subst hv'
  cases hb : (ty e).agg with
  | true =>
    rw [hb] at hag hz
    rw [pack] at hz
    injection hz with hz
    subst hz
    cases v <;> first | cases hag | skip
    rename_i us
    simp only [Value.cells] at hc
    rw [hc]
    exact atV_ag (constL_at (ty e).zero)
  | false =>
    rw [hb] at hag hz
    have hs : v.cells = #[v] := by cases v <;> first | rfl | cases hag
    rw [hs] at hc
    have hz0 : (ty e).zero = [v] := by
      have := congrArg Array.toList hc
      simpa using this.symm
    rw [hz0] at hz
    have h4 := constL_at (I := I) (w := w) (g := g) [v]
    rw [constL, constL] at hz h4
    rw [pack] at hz
    injection hz with hz
    subst hz
    exact h4.2 0 _ _ rfl rfl
theorem comma_ok (h : RelI I0 X w0 I g s a w) {K : V → Prop} {ok b : Bool} {v : Value} {x : V} {m : Sem Value} (hv : AtV I w g v x) (hm : m.run Tryd.prog w = .ok (if ok = true then .tuple #[v, .bool b] else v) w) (hK : commaV K ok b x) : Yld I0 X w0 g s a w m K := by
  cases ok with
  | true => exact yld h hm (atV_tu (.cons hv (.cons (atb b) (.nil I w g)))) hK
  | false => exact yld h hm hv hK
theorem keyV_at (h : RelI I0 X w0 I g s a w) {kt : Nat} {x : V} {u : Value} {r : R} (hu : AtV I w g u x) (hk : keyV s.o kt x = some r) : AtR I w u r ∧ keyB kt r = true := by
  unfold keyV at hk
  split at hk
  · rename_i r' hr
    split at hk
    · rename_i hb
      injection hk with hk
      subst hk
      exact ⟨toR_at h hu hr, hb⟩
    · cases hk
  · cases hk
theorem map_known {t kt e : Nat} (h : mapOk t = true) (hk : (ty t).key = some kt) (hv : (ty t).val = some e) : tyKnown kt = true ∧ tyKnown e = true ∧ ∀ u ∈ (ty kt).fty, tyKnown u = true := by
  unfold mapOk at h
  rw [hk, hv] at h
  simp only [Bool.and_eq_true] at h
  exact ⟨h.1.1, h.1.2, List.all_eq_true.1 h.2⟩
theorem look_ok (h : RelI I0 X w0 I g s a w) {K : V → Prop} {t : Nat} {ok : Bool} (ht : tyKnown t = true) (hm : mapOk t = true) {v u : Value} {x i : V} (hv : AtV I w g v x) (hu : AtV I w g u i) (hK : lookV real s.o K t ok x i) : Yld I0 X w0 g s a w (Instr.lookup t v u ok) K := by
  unfold lookV at hK
  split at hK <;> try exact hK.elim
  rename_i hkd
  split at hK <;> try exact hK.elim
  rename_i kt e hkt hve
  split at hK <;> try exact hK.elim
  rename_i r hr
  have hun := ty_map ht hkd hkt hve
  obtain ⟨k1, k2, k3⟩ := map_known hm hkt hve
  obtain ⟨h1, h2⟩ := keyV_at h hu hr
  obtain rfl := key_val h1 h2
  have hchk := (key_ok k1 k3 h2 h2 (w := w)).chk
  split at hK <;> try exact hK.elim
  · rename_i k
    split at hK <;> try exact hK.elim
    rename_i kt' es ho
    split at hK <;> try exact hK.elim
    rename_i he
    obtain rfl := eqN_is.1 he
    obtain ⟨b, l, c, g1, g2, g3, g4⟩ := h.obj k _ (getO_some ho (by simp))
    obtain ⟨b', hb', rfl⟩ := hv.unmp
    rw [g1] at hb'
    injection hb' with hb'
    injection hb' with hb'
    subst hb'
    have hfind := find_key k1 (es_keys g3) (es_keyOk k1 k3 h2 g3 w)
    have hget : real.mlook es r = mget es r := rfl
    rw [hget] at hK
    rcases hit_is (r := r) (q := r) 0 g3 with ⟨j, en, p, e1, e2, e3, e4, e5, _⟩ | ⟨e1, e5, _⟩
    · rw [e5] at hK
      rw [e1] at hfind
      obtain ⟨_, hval, _⟩ := g3.2 j _ _ e2 e3
      refine comma_ok h (resR_at g hval) ?_ hK
      cases ok <;> simp [Instr.lookup, run_underlying hun, MapKept.run_getObj_map g2, hchk, hfind, Result.andThen]
    · rw [e5] at hK
      rw [e1] at hfind
      simp only [zeroK] at hK
      split at hK <;> try exact hK.elim
      rename_i z hz
      obtain ⟨zv, z1, z2⟩ := zero_at (I := I) (g := g) (w := w) k2 hz
      refine comma_ok h z2 ?_ hK
      cases ok <;> simp [Instr.lookup, run_underlying hun, MapKept.run_getObj_map g2, hchk, hfind, z1, Result.andThen]
  · have := hv.sc
    subst this
    simp only [zeroK] at hK
    split at hK <;> try exact hK.elim
    rename_i z hz
    obtain ⟨zv, z1, z2⟩ := zero_at (I := I) (g := g) (w := w) k2 hz
    refine comma_ok h z2 ?_ hK
    have hfind := find_key k1 (w := w) (r := r) (ks := []) (es := []) rfl (by simp)
    cases ok <;> simp [Instr.lookup, run_underlying hun, hchk, hfind, hit, z1, Result.andThen]
theorem dEq_eq {k : TK} {x y : D} (hx : scalarB k x = true) (hy : scalarB k y = true) (h : dEq x y = true) : x = y := by
  rcases scal_inv hx with ⟨q, m, hk, rfl⟩ | ⟨m, hk, rfl⟩ | ⟨m, hk, rfl⟩ <;> rcases scal_inv hy with ⟨q', n, hk', rfl⟩ | ⟨n, hk', rfl⟩ | ⟨n, hk', rfl⟩ <;> rw [hk] at hk' <;> first | cases hk'; done | skip
  · have hk' := TK.int.inj hk'
    subst hk'
    rw [dEq, intEq_is, beq_iff_eq] at h
    rw [h]
  · rw [dEq, bytesEq_is, beq_iff_eq] at h
    obtain ⟨⟨x⟩⟩ := m
    obtain ⟨⟨y⟩⟩ := n
    simp only at h
    rw [h]
  · rw [dEq, bEq_is, beq_iff_eq] at h
    rw [h]
theorem dsEq_eq : ∀ {xs ys : List D} {us : List Nat} {fs : List (Nat × Nat)} {n : Nat}, scalarsB us fs n xs = true → scalarsB us fs n ys = true → dsEq xs ys = true → xs = ys
  | [], [], us, fs, n, _, _, _ => rfl
  | [], _ :: _, us, fs, n, _, _, h => by cases h
  | _ :: _, [], us, fs, n, _, _, h => by cases h
  | x :: xs, y :: ys, us, fs, n, hx, hy, h => by
    rw [dsEq] at h
    split at h
    · rename_i h1
      unfold scalarsB at hx
      split at hx
      · contradiction
      · rename_i u us off fs' n' d ds e3
        obtain ⟨e1, e2⟩ := List.cons.inj e3
        subst e1; subst e2
        rw [scalarsB] at hy
        split at hx
        · rename_i e
          rw [e] at hy
          simp only at hy
          split at hx
          · rename_i h2
            split at hy
            · rename_i h3
              rw [dEq_eq h2 h3 h1, dsEq_eq hx hy h]
            · cases hy
          · cases hx
        · cases hx
      · cases hx
    · cases h
theorem rEq_eq {t : Nat} {x y : R} (hx : keyB t x = true) (hy : keyB t y = true) (h : rEq x y = true) : x = y := by
  cases x with
  | one x =>
    cases y with
    | one y => rw [dEq_eq hx hy h]
    | ag ys => cases h
  | ag xs =>
    cases y with
    | one y => cases h
    | ag ys =>
      rw [keyB] at hx hy
      split at hx
      · rename_i hk
        rw [hk] at hy
        simp only at hy
        split at hx
        · rename_i hk
          rw [hk] at hy
          rw [dsEq_eq hx hy h]
        · cases hx
      · cases hx
/-- A map is turned. -/
theorem RelI.setMap (h : RelI I0 X w0 I g s a w) {k kt b c c' : Nat} {es es' : List (R × R)} {l l' : Array MapEntry} (hk : s.o[k]? = some (.mp kt es)) (hg : g k = .map (some b)) (hb : w.heap[b]? = some (.map l c)) (hI : ∀ h, ¬ I b h) (hM : Mine X w0 b) (hes : AtEs I w kt l'.toList es') :
    RelI I0 X w0 I g ⟨s.t, s.o.set k (.mp kt es')⟩ a (ChangeMaps.setBlock w b (.map l' c')) := by
  have hblk : gblk (g k) = some b := by rw [hg]; rfl
  have hlk : live s k := ⟨_, hk, by simp⟩
  obtain ⟨hs1, hs2⟩ := MapKept.heap_set (o' := .map l' c') hb
  have hsz : (ChangeMaps.setBlock w b (.map l' c')).heap.size = w.heap.size := by simp [ChangeMaps.setBlock]
  have hkp : Keeps I w (ChangeMaps.setBlock w b (.map l' c')) := fun b' h' hi i _ => by
    refine blk_cell (hs2 b' fun e => ?_) i
    subst e
    exact hI _ hi
  refine ⟨h.im, fun b' h' hi => by rw [hsz]; exact h.lt b' h' hi, ?_, h.kp.trans fun b k hbk i hi => hkp b k (h.im b k hbk) i hi, by simpa using h.lo, h.st, fun j o hj => ?_, fun i j b' hi hj => h.dis i j b' (live_set hk (by simp) hi) (live_set hk (by simp) hj), fun j hj => h.out j (by simpa using hj), h.tmp.mono (fun _ _ h => h) hkp, h.dfr⟩
  · refine ⟨h.fr.os, h.fr.tape, h.fr.output, by rw [hsz]; exact h.fr.size, fun b' hb' hX => ?_⟩
    refine (hs2 b' fun e => ?_).trans (h.fr.block b' hb' hX)
    subst e
    rcases hM with hM | hM
    · omega
    · exact hX hM
  · by_cases e : k = j
    · subst e
      have hlt : k < s.o.length := (List.getElem?_eq_some_iff.1 hk).1
      simp only [List.getElem?_set_self hlt] at hj
      have hj := Option.some.inj hj
      subst hj
      exact ⟨b, l', c', hg, hs1, hes.mono (fun _ _ h => h) hkp, hI, hM⟩
    · simp only [List.getElem?_set_ne e] at hj
      have ho := h.obj j o hj
      by_cases hd : o = .dead
      · subst hd; exact True.intro
      · refine ho.keep (fun _ _ h => h) hkp (fun b' hb' => hs2 b' fun e' => ?_) fun _ _ _ h => h
        subst e'
        exact e (h.dis k j _ hlk ⟨o, hj, hd⟩ hblk hb')
theorem put_ok (h : RelI I0 X w0 I g s a w) {K : S → Prop} {t : Nat} (ht : tyKnown t = true) (hm : mapOk t = true) {v u q : Value} {x i y : V} (hv : AtV I w g v x) (hu : AtV I w g u i) (hq : AtV I w g q y) (hK : putV real s K t x i y) : ∃ w' s', (Instr.mapUpdate t v u q).run Tryd.prog w = .ok () w' ∧ RelI I0 X w0 I g s' a w' ∧ K s' := by
  unfold putV at hK
  split at hK <;> try exact hK.elim
  rename_i hkd
  split at hK <;> try exact hK.elim
  rename_i kt k hkt
  split at hK <;> try exact hK.elim
  rename_i r qr kt' es hr hqr ho
  split at hK <;> try exact hK.elim
  rename_i he
  obtain rfl := eqN_is.1 he
  obtain ⟨b', hb', rfl⟩ := hv.unmp
  have hok := getO_some ho (by simp)
  obtain ⟨b, l, c, g1, g2, g3, g4, g5⟩ := h.obj k _ hok
  rw [g1] at hb'
  have hb' := Option.some.inj (Value.map.inj hb')
  subst hb'
  have hmo := hm
  unfold mapOk at hmo
  rw [hkt] at hmo
  split at hmo
  · rename_i kt0 e hkt0 hve
    have hkt0 := Option.some.inj hkt0
    subst hkt0
    have hun := ty_map ht hkd hkt hve
    obtain ⟨k1, k2, k3⟩ := map_known hm hkt hve
    obtain ⟨h1, h2⟩ := keyV_at h hu hr
    obtain rfl := key_val h1 h2
    have hqa := toR_at h hq hqr
    have hko := key_ok k1 k3 h2 h2 (w := w)
    have hfind := find_key k1 (es_keys g3) (es_keyOk k1 k3 h2 g3 w)
    have hput : real.mput es r qr = mset es r qr := rfl
    rw [hput, setO_is] at hK
    rcases hit_is (r := r) (q := qr) 0 g3 with ⟨j, en, p, e1, e2, e3, e4, _, e6⟩ | ⟨e1, _, e6⟩
    · rw [e6] at hK
      rw [e1, Nat.zero_add] at hfind
      obtain ⟨p1, p2, p3⟩ := g3.2 j _ _ e2 e3
      have hre := rEq_eq p3 h2 e4
      have hkey : en.key = rVal r := by rw [key_val p1 p3, hre]
      have hst : (Instr.keyThatStays (rVal r) (rVal r)).run Tryd.prog w = .ok (rVal r) w := by
        simp only [Instr.keyThatStays, hko.bits, if_true, Sem.run_pure]
      have hlj : l[j]? = some en := by rw [← Array.getElem?_toList]; exact e2
      refine ⟨ChangeMaps.setBlock w b (.map (l.modify j fun e => { e with key := rVal r, val := q }) c), _, ?_, h.setMap (es' := es.set j (p.1, qr)) hok g1 g2 g4 g5 ⟨by simp [g3.1], fun i e2' p' he' hp' => ?_⟩, hK⟩
      · simp [Instr.mapUpdate, run_underlying hun, MapKept.run_getObj_map g2, hko.chk, hfind, hlj, hkey, hst, MapKept.run_setObj_map _ g2, Result.andThen, ChangeMaps.setBlock]
      · by_cases hij : j = i
        · subst hij
          have hl1 : j < es.length := (List.getElem?_eq_some_iff.1 e3).1
          rw [List.getElem?_set_self hl1] at hp'
          have hp' := Option.some.inj hp'
          subst hp'
          rw [Array.getElem?_toList, Array.getElem?_modify, if_pos rfl, hlj] at he'
          have he' := Option.some.inj he'
          subst he'
          refine ⟨?_, hqa, p3⟩
          show AtR I w (rVal r) p.1
          rw [← hkey]
          exact p1
        · rw [List.getElem?_set_ne hij] at hp'
          rw [Array.getElem?_toList, Array.getElem?_modify, if_neg hij, ← Array.getElem?_toList] at he'
          exact g3.2 i _ _ he' hp'
    · rw [e6] at hK
      rw [e1] at hfind
      refine ⟨ChangeMaps.setBlock w b (.map (l.push { key := rVal r, val := q, born := c }) (c + 1)), _, ?_, h.setMap (es' := es ++ [(r, qr)]) hok g1 g2 g4 g5 ⟨by simp [g3.1], fun i e2' p' he' hp' => ?_⟩, hK⟩
      · simp [Instr.mapUpdate, run_underlying hun, MapKept.run_getObj_map g2, hko.chk, hfind, MapKept.run_setObj_map _ g2, Result.andThen, ChangeMaps.setBlock]
      · rw [Array.toList_push] at he'
        rcases Nat.lt_or_ge i l.toList.length with hi | hi
        · rw [List.getElem?_append_left hi] at he'
          rw [List.getElem?_append_left (by rw [← g3.1]; exact hi)] at hp'
          exact g3.2 i _ _ he' hp'
        · rw [List.getElem?_append_right hi] at he'
          rw [List.getElem?_append_right (by rw [← g3.1]; exact hi), ← g3.1] at hp'
          cases hd : i - l.toList.length with
          | zero =>
            rw [hd] at he' hp'
            have he' := Option.some.inj he'
            have hp' := Option.some.inj hp'
            subst he'; subst hp'
            exact ⟨h1, hqa, h2⟩
          | succ n => rw [hd] at he'; simp at he'
  · cases hmo
theorem mk_ok (h : RelI I0 X w0 I g s a w) {kt : Nat} : ∃ g', g' s.o.length = .map (some w.heap.size) ∧ RelI I0 X w0 I g' (s.obj (.mp kt [])) a (w.alloc (.map #[] 0)) := by
  have hb : Below w.heap.size w (w.alloc (.map #[] 0)) := (Below.refl _ _).alloc (Nat.le_refl _) _
  have h2 := h.grow hb (I' := I) (fun _ _ h => h) (fun _ _ h => .inl h)
  refine ⟨upd g s.o.length (.map (some w.heap.size)), upd_same .., h2.newObj _ _ ⟨w.heap.size, #[], 0, upd_same .., (MapKept.heap_alloc w _).1, ⟨rfl, fun i e p he => by simp at he⟩, fun k hk' => ?_, .inl h.fr.size⟩ fun j b hj hbj e => ?_⟩
  · exact absurd (h.lt _ _ hk').1 (by omega)
  · have e := Option.some.inj e
    have := h.blk_lt hj hbj
    omega
end
end Go.Proofs.YtgedpbpfoaljhaaDoor.Vm

/- kinds.Join and kinds.copied, told by functions of ours, for runs in the kernel. -/
import Derived.Test.YtclehkgnacekkaaVCopied
import Derived.Test.YtclehkgnacekkaaVKJoin2
import Derived.Test.YtclehkgnacekkaaVConc
set_option linter.unusedVariables false
set_option linter.unusedSimpArgs false
namespace Go.Proofs.Ytclehkgnacekkaa.Vm
open Go.RowKit
def unTys (g : List D → Option (Ty × Nat)) : List (List D) → Option (List Ty × Nat)
  | [] => some ([], 0)
  | r :: rs => match g r with
    | some (t, m) => match unTys g rs with
      | some (ts, k) => some (t :: ts, m + k)
      | none => none
    | none => none
/-- Cells that are a type; its parts. -/
def unTy : Nat → List D → Option (Ty × Nat)
  | 0, _ => none
  | f + 1, [.sc (.int .u8 op), .sc (.string nm), .sc (.int .i64 n), .sl sz rows] => match rows with
    | [] => some (.mk op nm n [], 1)
    | r :: rs => match natEq sz 4 with
      | true => match unTys (unTy f) (r :: rs) with
        | some (ks, m) => some (.mk op nm n ks, m + 1)
        | none => none
      | false => none
  | _ + 1, _ => none
/-- Reads alike wherever it lies. -/
def Alike2 (ds es : List D) : Prop := ∀ (I : Nat → Nat → Prop) (w : World) (us : List Value), AtDs I w us ds → AtDs I w us es
theorem alike2_refl (ds : List D) : Alike2 ds ds := fun _ _ _ h => h
theorem alike2_len {ds es : List D} {I : Nat → Nat → Prop} {w : World} {us : List Value} (h : Alike2 ds es) (h2 : AtDs I w us ds) : ds.length = es.length := h2.1.symm.trans (h I w us h2).1
theorem slice_alike {sz : Nat} {rows rows' : List (List D)} (hl : rows.length = rows'.length) (hr : ∀ (i : Nat) (r r' : List D), rows[i]? = some r → rows'[i]? = some r' → Alike2 r r' ∧ r'.length = sz) {I : Nat → Nat → Prop} {w : World} {v : Value} (h : AtD I w v (.sl sz rows)) : AtD I w v (.sl sz rows') := by
  cases h with
  | nil A cap => rw [List.eq_nil_of_length_eq_zero (l := rows') (by simpa using hl.symm)]; exact .nil _ _ _
  | sl b off cap _ _ us hcap hI hrl hl2 hc hd =>
    have hrl' : ∀ r ∈ rows', r.length = sz := fun r hr' => by
      obtain ⟨i, hi⟩ := List.mem_iff_getElem?.1 hr'
      have hlt : i < rows.length := by rw [hl]; exact (List.getElem?_eq_some_iff.1 hi).1
      exact (hr i _ r (List.getElem?_eq_getElem hlt) hi).2
    rw [hl]
    refine .sl b off cap sz rows' us (by rw [← hl]; exact hcap) (by rw [← hl]; exact hI) hrl' (by rw [← hl]; exact hl2) hc fun i u d hu hdd => ?_
    have hi : i < rows.length * sz := by rw [← hl2]; exact (List.getElem?_eq_some_iff.1 hu).1
    rcases Nat.eq_zero_or_pos sz with h0 | hpos
    · rw [h0, Nat.mul_zero] at hi; omega
    have hq : i / sz < rows.length := (Nat.div_lt_iff_lt_mul hpos).2 hi
    have hm : i % sz < sz := Nat.mod_lt _ hpos
    have ei : i / sz * sz + i % sz = i := by rw [Nat.mul_comm]; exact Nat.div_add_mod i _
    obtain ⟨r, hr1⟩ : ∃ r, rows[i / sz]? = some r := ⟨_, List.getElem?_eq_getElem hq⟩
    obtain ⟨r', hr2⟩ : ∃ r', rows'[i / sz]? = some r' := ⟨_, List.getElem?_eq_getElem (by omega)⟩
    have hal := (hr _ r r' hr1 hr2).1
    -- the cells of this row
    have hcs : AtDs I w ((us.drop (i / sz * sz)).take sz) r := by
      refine ⟨?_, fun j u d hu hd' => ?_⟩
      · have h1 := hrl r (List.mem_of_getElem? hr1)
        rw [h1, List.length_take, List.length_drop, hl2]
        have : (i / sz + 1) * sz ≤ rows.length * sz := Nat.mul_le_mul_right _ hq
        rw [Nat.add_mul] at this
        omega
      · have hj : j < sz := by
          have := (List.getElem?_eq_some_iff.1 hu).1
          rw [List.length_take] at this
          omega
        rw [List.getElem?_take_of_lt hj, List.getElem?_drop] at hu
        refine hd (i / sz * sz + j) u d hu ?_
        rw [flat_get hrl hr1 hj]
        exact hd'
    have h2 := hal I w _ hcs
    have hu2 : ((us.drop (i / sz * sz)).take sz)[i % sz]? = some u := by rw [List.getElem?_take_of_lt hm, List.getElem?_drop, ei]; exact hu
    have hd2 : r'[i % sz]? = some d := by rw [← hdd, ← flat_get hrl' hr2 hm, ei]
    exact h2.2 _ u d hu2 hd2
theorem unTy_s : ∀ (f : Nat),  (∀ (ds : List D) (t : Ty) (m : Nat), unTy f ds = some (t, m) → Alike2 ds (cT t) ∧ t.parts.length = m) ∧ ∀ (rows : List (List D)) (ts : List Ty) (m : Nat), unTys (unTy f) rows = some (ts, m) → rows.length = ts.length ∧ (partsL ts).length = m ∧ ∀ (i : Nat) (r r' : List D), rows[i]? = some r → (rT ts)[i]? = some r' → Alike2 r r' ∧ r'.length = 4 := by
  intro f
  induction f with
  | zero =>
    refine ⟨fun ds t m h => (by simp [unTy] at h), fun rows => ?_⟩
    cases rows with
    | nil => intro ts m h; rw [unTys] at h; cases h; exact ⟨rfl, by rw [partsL]; rfl, fun i r r' h => by simp at h⟩
    | cons r rs => intro ts m h; simp [unTys, unTy] at h
  | succ f ih =>
    have h1 : ∀ (ds : List D) (t : Ty) (m : Nat), unTy (f + 1) ds = some (t, m) → Alike2 ds (cT t) ∧ t.parts.length = m := by
      intro ds t m h
      unfold unTy at h
      split at h
      · cases h
      · rename_i fx op nm n sz rows ef
        cases ef
        split at h
        · cases h
          refine ⟨fun I w us hu => ?_, by rw [Ty.parts, partsL]; rfl⟩
          obtain ⟨u0, us0, rfl, a0, hu⟩ := hu.uncons
          obtain ⟨u1, us1, rfl, a1, hu⟩ := hu.uncons
          obtain ⟨u2, us2, rfl, a2, hu⟩ := hu.uncons
          obtain ⟨u3, us3, rfl, a3, hu⟩ := hu.uncons
          rw [cT, rT]
          refine AtDs.cons a0 (AtDs.cons a1 (AtDs.cons a2 (AtDs.cons ?_ hu)))
          cases a3 with
          | nil A cap => exact .nil _ _ _
          | sl b off cap _ _ us hcap hI hrl hl2 hc hd => exact .nil _ _ _
        · rename_i r rs
          split at h
          · rename_i hsz
            have hsz := natEq_eq hsz
            subst hsz
            split at h
            · rename_i ks k hk
              cases h
              obtain ⟨e1, e2, e3⟩ := ih.2 _ _ _ hk
              refine ⟨fun I w us hu => ?_, by rw [Ty.parts, List.length_cons, e2]⟩
              obtain ⟨u0, us0, rfl, a0, hu⟩ := hu.uncons
              obtain ⟨u1, us1, rfl, a1, hu⟩ := hu.uncons
              obtain ⟨u2, us2, rfl, a2, hu⟩ := hu.uncons
              obtain ⟨u3, us3, rfl, a3, hu⟩ := hu.uncons
              rw [cT]
              exact AtDs.cons a0 (AtDs.cons a1 (AtDs.cons a2 (AtDs.cons (slice_alike (by rw [rT_len]; exact e1) e3 a3) hu)))
            · cases h
          · cases h
      · cases h
    refine ⟨h1, ?_⟩
    intro rows
    induction rows with
    | nil => intro ts m h; rw [unTys] at h; cases h; exact ⟨rfl, by rw [partsL]; rfl, fun i r r' h => by simp at h⟩
    | cons r rs ihr =>
      intro ts m h
      rw [unTys] at h
      split at h
      · rename_i t m1 ht
        split at h
        · rename_i ts' k hts
          cases h
          obtain ⟨e1, e2, e3⟩ := ihr _ _ hts
          obtain ⟨a1, a2⟩ := h1 _ _ _ ht
          refine ⟨by simp [e1], by rw [partsL, List.length_append, a2, e2], fun i r1 r2 hr1 hr2 => ?_⟩
          cases i with
          | zero =>
            simp at hr1
            subst hr1
            rw [rT] at hr2
            simp at hr2
            subst hr2
            refine ⟨a1, ?_⟩
            obtain ⟨op, nm, n, ks⟩ := t
            rw [cT]; rfl
          | succ i => rw [rT] at hr2; exact e3 i r1 r2 (by simpa using hr1) (by simpa using hr2)
        · cases h
      · cases h
/-- A function told of what reads alike. -/
theorem Spec.alike {f : Nat} {rs rs' q : List R} (h : Spec f rs' q) (ha : ∀ I w vs, AtRs I w vs rs → AtRs I w vs rs') : Spec f rs q := ⟨h.1, fun I w args hI hat => h.2 I w args hI (ha I w args hat)⟩
def copiedPF : List R → Option (List R)
  | [.ag ds] => match unTy 60 ds with
    | some (t, m) => match Nat.ble m 1048576 with
      | true => some [.ag (cT t)]
      | false => none
    | none => none
  | _ => none
theorem atR_ag {I : Nat → Nat → Prop} {w : World} {v : Value} {ds es : List D} (ha : Alike2 ds es) (h : AtR I w v (.ag ds)) : AtR I w v (.ag es) := by
  obtain ⟨us, e, hu⟩ := h
  exact ⟨us, e, ha I w us hu⟩
theorem copied_pure (rs q : List R) (h : copiedPF rs = some q) : Spec 113 rs q := by
  unfold copiedPF at h
  split at h
  · rename_i ds
    split at h
    · rename_i t m ht
      split at h
      · rename_i hm
        cases h
        obtain ⟨h1, h2⟩ := (unTy_s 60).1 _ _ _ ht
        refine (copied_s t (by rw [h2]; exact Nat.le_of_ble_eq_true hm)).alike fun I w vs hv => ?_
        match vs, hv with
        | [v], hv => exact ⟨atR_ag h1 hv.1, trivial⟩
      · cases h
    · cases h
  · cases h
def unFs : List (List D) → Option (List (ByteArray × Ty) × Nat)
  | [] => some ([], 0)
  | (.sc (.string nm) :: ds) :: rs => match unTy 60 ds with
    | some (t, m) => match Nat.ble m 1048576 with
      | true => match unFs rs with
        | some (fs, k) => some ((nm, t) :: fs, k + 1)
        | none => none
      | false => none
    | none => none
  | _ :: _ => none
def rF (fs : List (ByteArray × Ty)) : List (List D) := fs.map fun f => .sc (.string f.1) :: cT f.2
theorem unFs_s : ∀ (rows : List (List D)) (fs : List (ByteArray × Ty)) (k : Nat), unFs rows = some (fs, k) → rows.length = fs.length ∧ fs.length = k ∧ (∀ f ∈ fs, f.2.parts.length ≤ 1048576) ∧ ∀ (i : Nat) (r r' : List D), rows[i]? = some r → (rF fs)[i]? = some r' → Alike2 r r' ∧ r'.length = 5
  | [], fs, k, h => by rw [unFs] at h; cases h; exact ⟨rfl, rfl, fun f hf => by simp at hf, fun i r r' h => by simp at h⟩
  | r :: rs, fs, k, h => by
    unfold unFs at h
    split at h
    · rename_i e; cases e
    · rename_i nm ds rs' e
      cases e
      split at h
      · rename_i t m ht
        split at h
        · rename_i hm
          split at h
          · rename_i fs' k' hfs
            cases h
            obtain ⟨e1, e2, e3, e4⟩ := unFs_s _ _ _ hfs
            obtain ⟨a1, a2⟩ := (unTy_s 60).1 _ _ _ ht
            refine ⟨by simp [e1], by simp [e2], fun f hf => ?_, fun i r1 r2 h1 h2 => ?_⟩
            · rcases List.mem_cons.1 hf with rfl | hf
              · show t.parts.length ≤ _
                rw [a2]; exact Nat.le_of_ble_eq_true hm
              · exact e3 f hf
            · cases i with
              | zero =>
                simp at h1
                subst h1
                simp [rF] at h2
                subst h2
                refine ⟨fun I w us hu => ?_, ?_⟩
                · obtain ⟨u0, us0, rfl, a0, hu⟩ := hu.uncons
                  exact AtDs.cons a0 (a1 I w us0 hu)
                · obtain ⟨op, nm, n, ks⟩ := t
                  rw [cT]; rfl
              | succ i => exact e4 i r1 r2 (by simpa using h1) (by simpa [rF] using h2)
          · cases h
        · cases h
      · cases h
    · cases h
def joinPF : List R → Option (List R)
  | [.one (.sl sz rows), .ag tl] => match unFs rows with
    | some (fs, k) => match Nat.ble k 1000000, unTy 60 tl with
      | true, some (t, m) => match Nat.ble m 1048576 with
        | true => match fs with
          | [] => some [.ag (cT t)]
          | f :: fs => match natEq sz 5 with
            | true => some [.ag (joinD (rF (f :: fs)) (cT t))]
            | false => none
        | false => none
      | _, _ => none
    | none => none
  | _ => none
theorem join_ty (fs : List (ByteArray × Ty)) (t : Ty) (hk : fs.length ≤ 1000000) (hf : ∀ f ∈ fs, f.2.parts.length ≤ 1048576) (ht : t.parts.length ≤ 1048576) : Spec 63 [.one (.sl 5 (rF fs)), .ag (cT t)] [.ag (joinD (rF fs) (cT t))] := by
  have hc := copied_s t ht
  obtain ⟨op, nm, n, ks⟩ := t
  rw [cT] at hc ⊢
  refine join_s (rF fs) _ _ _ _ (by rw [rF, List.length_map]; omega) hc fun r hr => ?_
  rw [rF, List.mem_map] at hr
  obtain ⟨f, hf1, rfl⟩ := hr
  have hc2 := copied_s f.2 (hf f hf1)
  obtain ⟨nm, t⟩ := f
  obtain ⟨op, nm2, n, ks⟩ := t
  simp only at hc2 ⊢
  rw [cT] at hc2 ⊢
  exact ⟨_, _, _, _, _, rfl, hc2⟩
theorem join_pure (rs q : List R) (h : joinPF rs = some q) : Spec 63 rs q := by
  unfold joinPF at h
  split at h <;> try cases h
  rename_i sz rows tl
  split at h <;> try cases h
  rename_i fs k hfs
  split at h <;> try cases h
  rename_i t m hk ht
  split at h <;> try cases h
  rename_i hm
  obtain ⟨e1, e2, e3, e4⟩ := unFs_s _ _ _ hfs
  obtain ⟨a1, a2⟩ := (unTy_s 60).1 _ _ _ ht
  have hkk := Nat.le_of_ble_eq_true hk
  have hmm := Nat.le_of_ble_eq_true hm
  have hj := join_ty fs t (by omega) e3 (by omega)
  split at h
  · cases h
    refine hj.alike fun I w vs hv => ?_
    match vs, hv with
    | [v1, v2], hv =>
      refine ⟨?_, atR_ag a1 hv.2.1, trivial⟩
      have h1 : AtD I w v1 (.sl sz rows) := hv.1
      rw [List.eq_nil_of_length_eq_zero (l := rows) (by simpa using e1)] at h1
      show AtD I w v1 (.sl 5 (rF []))
      cases h1 with
      | nil A cap => exact .nil _ _ _
      | sl b off cap _ _ us hcap hI hrl hl2 hc hd => exact .nil _ _ _
  · split at h <;> try cases h
    rename_i hsz
    have hsz := natEq_eq hsz
    subst hsz
    refine hj.alike fun I w vs hv => ?_
    match vs, hv with
    | [v1, v2], hv => exact ⟨slice_alike (by rw [e1, rF, List.length_map]) e4 hv.1, atR_ag a1 hv.2.1, trivial⟩
end Go.Proofs.Ytclehkgnacekkaa.Vm

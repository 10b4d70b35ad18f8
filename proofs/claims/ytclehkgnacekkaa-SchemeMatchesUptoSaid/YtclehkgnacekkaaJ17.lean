/- Part 17 of the proof: VSc4, VAlike, VRSame, VMa1, VMa2, VMa3, VMa4, VSM1, VJoinP, VSM2, VDraw2. Conditions: none. -/
import Derived.Test.YtclehkgnacekkaaJ3
import Derived.Test.YtclehkgnacekkaaJ4
import Derived.Test.YtclehkgnacekkaaJ8
import Derived.Test.YtclehkgnacekkaaJ12
import Derived.Test.YtclehkgnacekkaaJ14
import Derived.Test.YtclehkgnacekkaaJ16
import Derived.IntWalk
set_option linter.all false
set_option linter.unusedVariables false
set_option linter.unusedSimpArgs false
section
namespace Go.Proofs.Ytclehkgnacekkaa.Vm
open Go.RowKit
set_option maxRecDepth 100000
set_option maxHeartbeats 8000000
theorem canon_vars {W : ByteArray → Bool} : ∀ (n : Nat) (t : Ty) (s : Int), t.parts.length ≤ n → shapeB W t s = true → ∀ x ∈ (canonS t).parts, isVar x = true → x ∈ t.parts := by
  intro n
  induction n with
  | zero => intro t s h; have := parts_pos t; omega
  | succ n ih =>
    intro t s hn h x hx hv
    have hself : t ∈ t.parts := by rw [parts_eq]; exact List.mem_cons_self ..
    by_cases h11 : t.op = 11
    · obtain ⟨rfl, -⟩ := shape_row h h11
      have hsp := (shape_spineAll h).self
      rw [canon_row_is h] at hx
      rcases rowS_part hx with h1 | ⟨f, hf, h1⟩ | h1
      · rw [isVar_iff] at hv; omega
      · obtain ⟨f0, hf0, rfl⟩ := List.mem_map.1 hf
        have hm := sortS_mem hf0
        have h2 := fields_less _ t (Nat.le_refl _) f0 hm
        exact parts_trans (ih f0.2 116 (by omega) ((fields_shape h).1 f0 hm).2 x h1 hv) (fields_mem _ t (Nat.le_refl _) f0 hm)
      · exact parts_trans h1 (tail_mem hsp)
    · rw [canon_node h11, parts_kids] at hx
      rcases List.mem_cons.1 hx with rfl | hx
      · have hv' : t.op = 7 ∨ t.op = 10 := by rw [isVar_iff] at hv; exact hv
        rw [var_kids h hv', List.map_nil]
        rw [show Ty.mk t.op t.name t.n [] = t by conv => rhs; rw [Ty.eta t, var_kids h hv']]
        exact hself
      · simp only [Ty.kids] at hx
        obtain ⟨y, hy, hxy⟩ := List.mem_flatMap.1 hx
        obtain ⟨z, hz, rfl⟩ := List.mem_map.1 hy
        obtain ⟨k, hk, h1, h2, h3, h4, h5, h6⟩ := shape_parts h
        obtain ⟨c, hc⟩ := shapes_mem W _ _ h6 z hz
        have := (kids_le t).2 z hz
        exact parts_trans (ih z c (by omega) hc x hxy hv) (kid_part hz)
theorem right_canon {t : Ty} {s : Int} (h : rightB t s = true) : rightB (canonS t) s = true := by
  have hs := right_shape h
  unfold rightB
  rw [canon_shape _ t s (Nat.le_refl _) hs.1, Bool.true_and]
  refine once_yes fun x hx y hy => ?_
  cases hc : clashB x y with
  | false => rfl
  | true =>
    have hc' := hc
    unfold clashB at hc'
    simp only [Bool.and_eq_true, beq_iff_eq] at hc'
    have h1 := canon_vars _ t s (Nat.le_refl _) hs.1 x hx (by rw [isVar_iff]; omega)
    have h2 := canon_vars _ t s (Nat.le_refl _) hs.1 y hy (by rw [isVar_iff]; omega)
    rw [once_no h1 h2 hc] at hs
    exact absurd hs.2 (by simp)
theorem ok_canon {t : Ty} {s : Int} (h : rightB t s = true) (hN : t.parts.length ≤ 1048576) : Ok1 s (canonS t) := by
  have hs := (right_shape h).1
  exact ⟨right_canon h, canon_idem _ t s (Nat.le_refl _) hs, by rw [canon_len _ t (Nat.le_refl _) (shape_spineAll hs)]; exact hN⟩
theorem varsL_mem : ∀ (ts : List Ty) (acc : List Int) (n : Int), n ∈ varsL ts acc → n ∈ acc ∨ ∃ v ∈ ts, isVar v = true ∧ v.n = n
  | [], acc, n, h => .inl h
  | t :: ts, acc, n, h => by
    rw [varsL] at h
    rcases varsL_mem ts _ n h with h | ⟨v, hv, h1, h2⟩
    · split at h
      · rename_i hc
        rcases List.mem_append.1 h with h | h
        · exact .inl h
        · simp at h
          exact .inr ⟨t, List.mem_cons_self .., hc.1, h.symm⟩
      · exact .inl h
    · exact .inr ⟨v, List.mem_cons_of_mem _ hv, h1, h2⟩
def typS (g s : Ty) : Option (List (Int × Ty)) := typesC (canonS g).parts.length (canonS g) (canonS s) []
def binds (g : Ty) (c : List (Int × Ty)) : List (Int × Ty) := (varsS g).filterMap fun n => c.find? fun p => p.1 == n
def matchR (g s : Ty) : Option (List (Int × Ty)) := if rightB g 116 = true ∧ rightB s 116 = true then (typS g s).map (binds g) else none
theorem typ_keys {g s : Ty} {c : List (Int × Ty)} (hg : rightB g 116 = true) (hs : rightB s 116 = true) (h : typS g s = some c) : ∀ n ∈ varsS g, n ∈ keys c := by
  have sg := (right_shape hg).1
  have ss := (right_shape hs).1
  have cg := canon_shape _ g 116 (Nat.le_refl _) sg
  have cs := canon_shape _ s 116 (Nat.le_refl _) ss
  unfold typS at h
  rw [types_match _ (canonS g) (canonS s) [] (canonS g).parts.length cg cs (canon_idem _ g 116 (Nat.le_refl _) sg) (canon_idem _ s 116 (Nat.le_refl _) ss) (Nat.le_refl _) (Nat.le_refl _)] at h
  intro n hn
  rcases varsL_mem _ _ _ hn with h1 | ⟨v, hv, h1, rfl⟩
  · simp at h1
  · exact matchC_bound _ _ _ _ _ 116 cg cs h v hv h1
theorem Spec.two0 {f : Nat} {rs : List R} {n : Nat} (m : Nat) {r : R} (h : Spec f rs [.one (.sl n []), r]) : Spec f rs [.one (.sl m []), r] := h.mono fun I w v hv => by
  obtain ⟨us, rfl, h2⟩ := hv
  match us, h2 with
  | [u1, u2], ⟨h3, h4⟩ => exact ⟨_, rfl, AtD.empty m h3, h4⟩
theorem Match_s (g s : Ty) (hg : Sm g) (hs : Sm s) : Spec 12 [.ag (cT g), .ag (cT s)] [.one (.sl 5 (rB ((matchR g s).getD []))), .one (.sc (.bool (matchR g s).isSome))] := by
  have h1 := PRight_s g hg.1 hg.2
  have h2 := PRight_s s hs.1 hs.2
  obtain ⟨g0, g1, g2, g3, hgg⟩ := cT_four g
  obtain ⟨s0, s1, s2, s3, hss⟩ := cT_four s
  by_cases hR : rightB g 116 = true ∧ rightB s 116 = true
  · have h3 := Canon_s g hg
    have h4 := Canon_s s hs
    have e1 : eitherT g = true := by unfold eitherT; rw [hR.1]; rfl
    have e2 : eitherT s = true := by unfold eitherT; rw [hR.2]; rfl
    rw [if_pos e1] at h3
    rw [if_pos e2] at h4
    have og := ok_canon hR.1 hg.1
    have os := ok_canon hR.2 hs.1
    have h5 := types_s _ (canonS g) (canonS s) [] og os (fun p hp => by simp at hp) (Nat.le_refl _)
    have h6 := PVars_s g hg
    rw [if_pos e1] at h6

    have hky := fun c (h : typS g s = some c) => typ_keys hR.1 hR.2 h
    have hvl : (varsS g).length ≤ 1048576 := by
      have := varsL_len (canonS g).parts []
      rw [List.length_nil] at this
      have := og.2.2
      show (varsL (canonS g).parts []).length ≤ _
      omega
    unfold matchR
    rw [if_pos hR]
    rw [show typesC (canonS g).parts.length (canonS g) (canonS s) [] = typS g s from rfl] at h5
    have hcb2 : ∀ c, typS g s = some c → CB c := fun c h => types_cb _ _ _ _ _ og os (fun p hp => by simp at hp) h

    rw [hR.1] at h1
    rw [hR.2] at h2
    unfold binds
    generalize typS g s = Z at *
    generalize varsS g = vs at *
    obtain ⟨x0, x1, x2, x3, hx⟩ := cT_four (canonS g)
    obtain ⟨y0, y1, y2, y3, hy⟩ := cT_four (canonS s)
    rw [hgg] at h1 h3 h6 ⊢
    rw [hss] at h2 h4 ⊢
    rw [hx] at h3 h5
    rw [hy] at h4 h5
    rw [show esT [] = [] from rfl] at h5
    obtain ⟨V, hV⟩ : ∃ V, V = rI vs := ⟨_, rfl⟩
    rw [← hV] at h6
    cases Z with
    | none =>
      simp only [Option.map_none, Option.getD_none, Option.isSome_none]
      rw [show rB [] = [] from rfl]
      refine Spec.two0 (n := 0) 5 ?_
      refine spec_of Try.func12 rfl (by kernel_rfl) (by kernel_rfl) (by kernel_rfl) fun aWrap aAdd aSub aMul aQuo aRem aBits aLt aLe aEq aNz aSeq aSlt aBytes aCat aFits aSlen aSget aSsub aNat aLen aGet aSub2 aApp aSet aRoom aMlook aMput aRep aCall aCalld aCallo aNew aLit aKeep aNext aLoop hA => ?_
      cbv
      repeat (first | (with_reducible apply next_at hA; cbv) | (refine call_at hA _ h1 rfl ?_; cbv) | (refine calm_at hA _ h1 ?_; cbv) | (refine call_at hA _ h2 rfl ?_; cbv) | (refine calm_at hA _ h2 ?_; cbv) | (refine call_at hA _ h3 rfl ?_; cbv) | (refine calm_at hA _ h3 ?_; cbv) | (refine call_at hA _ h4 rfl ?_; cbv) | (refine calm_at hA _ h4 ?_; cbv))
      try cbv
      repeat (first | (with_reducible apply next_at hA; cbv) | (refine call_at hA _ h1 rfl ?_; cbv) | (refine calm_at hA _ h1 ?_; cbv) | (refine call_at hA _ h2 rfl ?_; cbv) | (refine calm_at hA _ h2 ?_; cbv) | (refine call_at hA _ h3 rfl ?_; cbv) | (refine calm_at hA _ h3 ?_; cbv) | (refine call_at hA _ h4 rfl ?_; cbv) | (refine calm_at hA _ h4 ?_; cbv))
      try simp (maxSteps := 4000000) only [nc] at *
      refine callo_at hA [2] h5 ⟨rfl, rfl, rfl, rfl, rfl, rfl, rfl⟩ ?_
      rintro res os2 (⟨c', hc', rfl, rfl⟩ | ⟨hc', rfl, es', rfl⟩)
      · cases hc'
      · cbv
        repeat ((with_reducible apply next_at hA); cbv)
    | some c =>
      simp only [Option.map_some, Option.getD_some, Option.isSome_some]
      have hky := hky c rfl
      have hcb := hcb2 c rfl
      obtain ⟨W, hW⟩ : ∃ W, W = rB (vs.filterMap fun n => c.find? fun p => p.1 == n) := ⟨_, rfl⟩
      rw [← hW]
      refine spec_of Try.func12 rfl (by kernel_rfl) (by kernel_rfl) (by kernel_rfl) fun aWrap aAdd aSub aMul aQuo aRem aBits aLt aLe aEq aNz aSeq aSlt aBytes aCat aFits aSlen aSget aSsub aNat aLen aGet aSub2 aApp aSet aRoom aMlook aMput aRep aCall aCalld aCallo aNew aLit aKeep aNext aLoop hA => ?_
      cbv
      repeat (first | (with_reducible apply next_at hA; cbv) | (refine call_at hA _ h1 rfl ?_; cbv) | (refine calm_at hA _ h1 ?_; cbv) | (refine call_at hA _ h2 rfl ?_; cbv) | (refine calm_at hA _ h2 ?_; cbv) | (refine call_at hA _ h3 rfl ?_; cbv) | (refine calm_at hA _ h3 ?_; cbv) | (refine call_at hA _ h4 rfl ?_; cbv) | (refine calm_at hA _ h4 ?_; cbv))
      try cbv
      repeat (first | (with_reducible apply next_at hA; cbv) | (refine call_at hA _ h1 rfl ?_; cbv) | (refine calm_at hA _ h1 ?_; cbv) | (refine call_at hA _ h2 rfl ?_; cbv) | (refine calm_at hA _ h2 ?_; cbv) | (refine call_at hA _ h3 rfl ?_; cbv) | (refine calm_at hA _ h3 ?_; cbv) | (refine call_at hA _ h4 rfl ?_; cbv) | (refine calm_at hA _ h4 ?_; cbv))
      try simp (maxSteps := 4000000) only [nc] at *
      refine callo_at hA [2] h5 ⟨rfl, rfl, rfl, rfl, rfl, rfl, rfl⟩ ?_
      rintro res os2 (⟨c', hc', rfl, rfl⟩ | ⟨hc', rfl, es', rfl⟩)
      rotate_left
      · cases hc'
      injection hc' with hc'
      subst hc'
      obtain ⟨E, hE⟩ : ∃ E, E = esT c := ⟨_, rfl⟩
      rw [← hE]
      cbv
      repeat (first | (refine own_at hA 7 37 true rfl ?_; cbv) | (refine call_at hA _ h6 rfl ?_; cbv) | (with_reducible apply next_at hA; cbv))
      obtain ⟨e1, e2, e3, e4, e5, e6, e7, e8, e9⟩ := ar_at hA
      obtain ⟨r1, r2, r3, r4⟩ := row_at hA
      obtain ⟨m1, m2, -⟩ := map_at hA
      refine loop_at hA (γ := Int × List (List D)) (fun x => [(30, vi .i64 x.1), (7, .own 4)]) (fun x => [(4, .row true 37 x.2)]) (fun x => ∃ k : Nat, x.1 = (k : Int) ∧ k ≤ vs.length ∧ x.2 = rB ((vs.take k).filterMap fun n => c.find? fun p => p.1 == n)) (fun x => vs.length - x.1.toNat) (0, []) ?_ ?_ ?_
      · exact ⟨0, rfl, Nat.zero_le _, rfl⟩
      · cbv
      · intro x hinv
        obtain ⟨z, L⟩ := x
        cbv
        repeat ((with_reducible apply next_at hA); cbv)
        try simp (maxSteps := 4000000) only [nc] at *
        obtain ⟨k, hz, hk, hL⟩ := hinv
        have hll : aLen V = (vs.length : Int) := by rw [r1, hV, rI_len]
        have hlt : aLt z (aLen V) = decide (k < vs.length) := by rw [e7, hll, hz]; exact decide_eq_decide.2 (by omega)
        by_cases h9 : k < vs.length
        · rw [decide_eq_true h9] at hlt
          obtain ⟨n, hn⟩ : ∃ n, vs[k]? = some n := ⟨_, List.getElem?_eq_getElem h9⟩
          have hnm := hky n (List.mem_of_getElem? hn)
          obtain ⟨q, hq, hqn⟩ := List.mem_map.1 hnm
          obtain ⟨p, hp⟩ : ∃ p, (c.find? fun p => p.1 == n) = some p := by
            cases h : c.find? fun p => p.1 == n with
            | some p => exact ⟨p, rfl⟩
            | none =>
              rw [List.find?_eq_none] at h
              exact absurd (by rw [hqn]; simp) (h q hq)
          have hpn : p.1 = n := by have := List.find?_some hp; simpa using this
          have hpo := hcb p (List.mem_of_find?_eq_some hp)
          have hcan : canonS p.2 = p.2 ∧ eitherT p.2 = true ∧ Sm p.2 := by
            rcases hpo with h | h
            · exact ⟨h.2.1, by unfold eitherT; rw [h.1]; rfl, h.sm⟩
            · exact ⟨h.2.1, by unfold eitherT; rw [h.1, Bool.or_true], h.sm⟩
          have hC := Canon_s p.2 hcan.2.2
          rw [if_pos hcan.2.1, hcan.1] at hC
          have hget := esT_get n c
          rw [hp, ← hE, ← m1] at hget
          simp only [Option.map_some] at hget
          unfold ik at hget
          obtain ⟨p0, p1, p2, p3, hpp⟩ := cT_four p.2
          rw [hpp] at hC hget
          have gx : aGet V z = some [.sc (.int .i64 n)] := by rw [r2, hz, if_pos (by omega), hV, Int.toNat_natCast]; unfold rI; rw [List.getElem?_map, hn]; rfl
          have hz1 : aWrap .i64 (aAdd z 1) = ((k + 1 : Nat) : Int) := by rw [e1, e2, hz, IntWalk.i64_in _ (by omega)]; omega
          have hmu : vs.length - (aWrap .i64 (aAdd z 1)).toNat < vs.length - z.toNat := by rw [hz1, hz]; omega
          have hfm : (vs.take (k + 1)).filterMap (fun n => c.find? fun p => p.1 == n) = (vs.take k).filterMap (fun n => c.find? fun p => p.1 == n) ++ [p] := by
            rw [take_one hn, List.filterMap_append]
            congr 1
            simp [hp]
          have hadd : aApp L [[.sc (.int .i64 n), p0, p1, p2, p3]] = rB ((vs.take (k + 1)).filterMap fun n => c.find? fun p => p.1 == n) := by
            rw [r4, hfm, rB_snoc, hL, hpp, hpn]
          have hLl : L.length ≤ 1048576 := by
            rw [hL, rB_len]
            have := List.length_filterMap_le (fun n => c.find? fun p => p.1 == n) (vs.take k)
            rw [List.length_take] at this
            omega
          rw [hlt]
          cbv
          repeat (first | (with_reducible apply next_at hA; cbv) | (rw [gx]; cbv) | (rw [hget]; cbv) | (refine call_at hA _ hC rfl ?_; cbv) | (refine calm_at hA _ hC ?_; cbv) | (refine lit_at hA true ?_; cbv) | (refine room_at hA (by simp only [List.length_cons, List.length_nil]; omega) ?_; cbv))
          try cbv
          repeat (first | (with_reducible apply next_at hA; cbv) | (rw [gx]; cbv) | (rw [hget]; cbv) | (refine call_at hA _ hC rfl ?_; cbv) | (refine calm_at hA _ hC ?_; cbv) | (refine lit_at hA true ?_; cbv) | (refine room_at hA (by simp only [List.length_cons, List.length_nil]; omega) ?_; cbv))
          try simp (maxSteps := 4000000) only [nc] at *
          refine ⟨(aWrap .i64 (aAdd z 1), aApp L [[.sc (.int .i64 n), p0, p1, p2, p3]]), ⟨k + 1, hz1, h9, hadd⟩, hmu, ?_⟩
          cbv
        · rw [decide_eq_false h9] at hlt
          have hLW : L = W := by rw [hL, hW, List.take_of_length_le (by omega)]
          rw [hlt, hLW]
          cbv
          repeat ((with_reducible apply next_at hA); cbv)
  · unfold matchR
    rw [if_neg hR]
    simp only [Option.getD_none, Option.isSome_none]
    rw [show rB [] = [] from rfl]
    refine Spec.two0 (n := 0) 5 ?_
    rw [hgg] at h1 ⊢
    rw [hss] at h2 ⊢
    cases hb1 : rightB g 116 with
    | false =>
      rw [hb1] at h1
      refine spec_of Try.func12 rfl (by kernel_rfl) (by kernel_rfl) (by kernel_rfl) fun aWrap aAdd aSub aMul aQuo aRem aBits aLt aLe aEq aNz aSeq aSlt aBytes aCat aFits aSlen aSget aSsub aNat aLen aGet aSub2 aApp aSet aRoom aMlook aMput aRep aCall aCalld aCallo aNew aLit aKeep aNext aLoop hA => ?_
      cbv
      repeat (first | (with_reducible apply next_at hA; cbv) | (refine call_at hA _ h1 rfl ?_; cbv) | (refine calm_at hA _ h1 ?_; cbv))
      try cbv
      repeat (first | (with_reducible apply next_at hA; cbv) | (refine call_at hA _ h1 rfl ?_; cbv) | (refine calm_at hA _ h1 ?_; cbv))
      try simp (maxSteps := 4000000) only [nc] at *
    | true =>
      have hb2 : rightB s 116 = false := by
        cases h : rightB s 116 with
        | false => rfl
        | true => exact absurd ⟨hb1, h⟩ hR
      rw [hb1] at h1
      rw [hb2] at h2
      refine spec_of Try.func12 rfl (by kernel_rfl) (by kernel_rfl) (by kernel_rfl) fun aWrap aAdd aSub aMul aQuo aRem aBits aLt aLe aEq aNz aSeq aSlt aBytes aCat aFits aSlen aSget aSsub aNat aLen aGet aSub2 aApp aSet aRoom aMlook aMput aRep aCall aCalld aCallo aNew aLit aKeep aNext aLoop hA => ?_
      cbv
      repeat (first | (with_reducible apply next_at hA; cbv) | (refine call_at hA _ h1 rfl ?_; cbv) | (refine calm_at hA _ h1 ?_; cbv) | (refine call_at hA _ h2 rfl ?_; cbv) | (refine calm_at hA _ h2 ?_; cbv))
      try cbv
      repeat (first | (with_reducible apply next_at hA; cbv) | (refine call_at hA _ h1 rfl ?_; cbv) | (refine calm_at hA _ h1 ?_; cbv) | (refine call_at hA _ h2 rfl ?_; cbv) | (refine calm_at hA _ h2 ?_; cbv))
      try simp (maxSteps := 4000000) only [nc] at *
theorem Instance_s (g s : Ty) (hg : Sm g) (hs : Sm s) : Spec 13 [.ag (cT g), .ag (cT s)] [.one (.sc (.bool (matchR g s).isSome))] := by
  have h1 := Match_s g s hg hs
  obtain ⟨g0, g1, g2, g3, hgg⟩ := cT_four g
  obtain ⟨s0, s1, s2, s3, hss⟩ := cT_four s
  rw [hgg, hss] at h1 ⊢
  generalize rB ((matchR g s).getD []) = L at *
  generalize (matchR g s).isSome = b at *
  refine spec_of Try.func13 rfl (by kernel_rfl) (by kernel_rfl) (by kernel_rfl) fun aWrap aAdd aSub aMul aQuo aRem aBits aLt aLe aEq aNz aSeq aSlt aBytes aCat aFits aSlen aSget aSsub aNat aLen aGet aSub2 aApp aSet aRoom aMlook aMput aRep aCall aCalld aCallo aNew aLit aKeep aNext aLoop hA => ?_
  cbv
  repeat (first | (with_reducible apply next_at hA; cbv) | (refine call_at hA _ h1 rfl ?_; cbv) | (refine calm_at hA _ h1 ?_; cbv))
  try cbv
  repeat (first | (with_reducible apply next_at hA; cbv) | (refine call_at hA _ h1 rfl ?_; cbv) | (refine calm_at hA _ h1 ?_; cbv))
  try simp (maxSteps := 4000000) only [nc] at *
end Go.Proofs.Ytclehkgnacekkaa.Vm
end
section
namespace Go.Proofs.Ytclehkgnacekkaa.Vm
open Go.RowKit
set_option maxRecDepth 100000
set_option maxHeartbeats 4000000
theorem alikes_len : ∀ {a b : List Ty}, a.length ≠ b.length → alikesB a b = false
  | a, b, h => by
    cases hh : alikesB a b
    · rfl
    · rw [alikes_iff] at hh
      exact absurd (by rw [hh]) h
theorem alikes_step {a b : List Ty} {k : Nat} {x y : Ty} (hx : a[k]? = some x) (hy : b[k]? = some y) : alikesB (a.drop k) (b.drop k) = (alikeB x y && alikesB (a.drop (k + 1)) (b.drop (k + 1))) := by
  obtain ⟨h1, e1⟩ := List.getElem?_eq_some_iff.1 hx
  obtain ⟨h2, e2⟩ := List.getElem?_eq_some_iff.1 hy
  rw [List.drop_eq_getElem_cons h1, List.drop_eq_getElem_cons h2, e1, e2, alikesB]
theorem Alike_s : ∀ t u : Ty, t.parts.length ≤ 1048576 → Spec 17 [.ag (cT t), .ag (cT u)] [.one (.sc (.bool (alikeB t u)))] := by
  intro t
  induction t using Ty.ind with
  | h t ih =>
    intro u hN
    have hkl := kids_le t
    obtain ⟨op, nm, n, ks⟩ := t
    obtain ⟨op2, nm2, n2, ks2⟩ := u
    simp only [Ty.kids] at hkl ih
    have hm : ks.length ≤ 1048576 := by omega
    rw [cT, cT]
    generalize hb : alikeB (.mk op nm n ks) (.mk op2 nm2 n2 ks2) = b
    obtain ⟨K, hK⟩ : ∃ K, K = rT ks := ⟨_, rfl⟩
    obtain ⟨K2, hK2⟩ : ∃ K, K = rT ks2 := ⟨_, rfl⟩
    rw [← hK, ← hK2]
    refine spec_of Try.func17 rfl (by kernel_rfl) (by kernel_rfl) (by kernel_rfl) fun aWrap aAdd aSub aMul aQuo aRem aBits aLt aLe aEq aNz aSeq aSlt aBytes aCat aFits aSlen aSget aSsub aNat aLen aGet aSub2 aApp aSet aRoom aMlook aMput aRep aCall aCalld aCallo aNew aLit aKeep aNext aLoop hA => ?_
    cbv
    repeat ((with_reducible apply next_at hA); cbv)
    obtain ⟨e1, e2, e3, e4, e5, e6, e7, e8, e9⟩ := ar_at hA
    obtain ⟨s1, s2, s3, -⟩ := str_at hA
    obtain ⟨r1, r2, -⟩ := row_at hA
    rw [alikeB] at hb
    cases h1 : aEq op op2
    · cbv
      repeat ((with_reducible apply next_at hA); cbv)
      rw [e9] at h1
      rw [← hb, h1]
      exact ⟨rfl, trivial⟩
    cbv
    cases h2 : aSeq (aBytes nm) (aBytes nm2)
    · cbv
      repeat ((with_reducible apply next_at hA); cbv)
      rw [s1, s3, s3] at h2
      rw [← hb, h2]
      simp
    cbv
    cases h3 : aEq n n2
    · cbv
      repeat ((with_reducible apply next_at hA); cbv)
      rw [e9] at h3
      rw [← hb, h3]
      simp
    cbv
    cases h4 : aEq (aLen K) (aLen K2)
    · cbv
      repeat ((with_reducible apply next_at hA); cbv)
      have h5 : ks.length ≠ ks2.length := by
        rw [e9, r1, r1, hK, hK2, rT_len, rT_len] at h4
        intro h
        rw [h] at h4
        simp at h4
      rw [← hb, alikes_len h5]
      simp
    cbv
    repeat ((with_reducible apply next_at hA); cbv)
    have h5 : ks.length = ks2.length := by
      rw [e9, r1, r1, hK, hK2, rT_len, rT_len] at h4
      rw [beq_iff_eq] at h4
      exact Int.ofNat.inj h4
    refine loop_at hA (γ := Int) (fun z => [(5, vi .i64 z)]) (fun _ => []) (fun z => ∃ k : Nat, z = (k : Int) ∧ k ≤ ks.length ∧ alikesB (ks.drop k) (ks2.drop k) = b) (fun z => ks.length - z.toNat) 0 ?_ ?_ ?_
    · exact ⟨0, rfl, Nat.zero_le _, by rw [← hb, (by rw [← e9]; exact h1 : (op == op2) = true), (by rw [← s1, ← s3, ← s3]; exact h2 : (nm.toList == nm2.toList) = true), (by rw [← e9]; exact h3 : (n == n2) = true)]; rfl⟩
    · cbv
    · intro z hinv
      cbv
      repeat ((with_reducible apply next_at hA); cbv)
      obtain ⟨k, hz, hk, hE⟩ := hinv
      have hz : z = (k : Int) := hz
      have hlen : aLen K = (ks.length : Int) := by rw [r1, hK, rT_len]
      have hlt : aLt z (aLen K) = decide (k < ks.length) := by rw [e7, hlen, hz]; exact decide_eq_decide.2 (by omega)
      by_cases h9 : k < ks.length
      · rw [decide_eq_true h9] at hlt
        obtain ⟨x, hx⟩ : ∃ x, ks[k]? = some x := ⟨_, List.getElem?_eq_getElem h9⟩
        obtain ⟨y, hy⟩ : ∃ y, ks2[k]? = some y := ⟨_, List.getElem?_eq_getElem (by omega)⟩
        have g1 : aGet K z = some (cT x) := by rw [r2, hz, if_pos (by omega), hK]; exact rT_get hx
        have g2 : aGet K2 z = some (cT y) := by rw [r2, hz, if_pos (by omega), hK2]; exact rT_get hy
        have hsp := ih x (List.mem_of_getElem? hx) y (by have := hkl.2 x (List.mem_of_getElem? hx); omega)
        have hst := alikes_step hx hy
        obtain ⟨o1, m1, n1, l1⟩ := x
        obtain ⟨o2, m2, n2', l2⟩ := y
        rw [cT] at g1 g2 hsp
        rw [cT] at hsp
        generalize rT l1 = L1 at *
        generalize rT l2 = L2 at *
        generalize alikeB (.mk o1 m1 n1 l1) (.mk o2 m2 n2' l2) = c at *
        rw [hlt]
        cbv
        repeat ((with_reducible apply next_at hA); cbv)
        rw [g1]
        cbv
        rw [g2]
        cbv
        refine calm_at hA _ hsp ?_
        cases c
        · cbv
          repeat ((with_reducible apply next_at hA); cbv)
          rw [← hE, hst]
          exact ⟨rfl, trivial⟩
        · cbv
          repeat ((with_reducible apply next_at hA); cbv)
          replace hz : z = (k : Int) := hz
          have hz1 : aWrap .i64 (aAdd z 1) = ((k + 1 : Nat) : Int) := by rw [e1, e2, hz, IntWalk.i64_in _ (by omega)]; omega
          refine ⟨aWrap .i64 (aAdd z 1), ⟨k + 1, hz1, h9, by rw [← hE, hst]; rfl⟩, by rw [hz1, hz]; omega, ?_⟩
          cbv
      · rw [decide_eq_false h9] at hlt
        rw [hlt]
        cbv
        repeat ((with_reducible apply next_at hA); cbv)
        rw [← hE, List.drop_eq_nil_of_le (by omega), List.drop_eq_nil_of_le (by omega), alikesB]
        exact ⟨rfl, trivial⟩
end Go.Proofs.Ytclehkgnacekkaa.Vm
end
section
namespace Go.Proofs.Ytclehkgnacekkaa.Vm
open Go.RowKit
set_option maxRecDepth 100000
set_option maxHeartbeats 4000000
theorem Same03_s (t u : Ty) (ht : t.parts.length ≤ 1048576) (hu : u.parts.length ≤ 1048576) (hst : ∀ x ∈ t.parts, Spine x) (hsu : ∀ x ∈ u.parts, Spine x) : Spec 26 [.ag (cT t), .ag (cT u)] [.one (.sc (.bool (alikeB (canonS t) (canonS u))))] := by
  have h1 := canon_s _ t (Nat.le_refl _) ht hst
  have h2 := canon_s _ u (Nat.le_refl _) hu hsu
  have h3 := Alike_s (canonS t) (canonS u) (by rw [canon_len _ t (Nat.le_refl _) hst]; exact ht)
  obtain ⟨a0, a1, a2, a3, ha⟩ := cT_four t
  obtain ⟨b0, b1, b2, b3, hb⟩ := cT_four u
  obtain ⟨c0, c1, c2, c3, hc⟩ := cT_four (canonS t)
  obtain ⟨d0, d1, d2, d3, hd⟩ := cT_four (canonS u)
  rw [ha, hc] at h1
  rw [hb, hd] at h2
  rw [hc, hd] at h3
  rw [ha, hb]
  generalize alikeB (canonS t) (canonS u) = b at *
  refine spec_of Try.func26 rfl (by kernel_rfl) (by kernel_rfl) (by kernel_rfl) fun aWrap aAdd aSub aMul aQuo aRem aBits aLt aLe aEq aNz aSeq aSlt aBytes aCat aFits aSlen aSget aSsub aNat aLen aGet aSub2 aApp aSet aRoom aMlook aMput aRep aCall aCalld aCallo aNew aLit aKeep aNext aLoop hA => ?_
  cbv
  repeat (first | (with_reducible apply next_at hA; cbv) | (refine calm_at hA _ h1 ?_; cbv) | (refine calm_at hA _ h2 ?_; cbv) | (refine calm_at hA _ h3 ?_; cbv))
end Go.Proofs.Ytclehkgnacekkaa.Vm
end
section
namespace Go.Proofs.Ytclehkgnacekkaa.Vm
open Go.RowKit
set_option maxRecDepth 100000
set_option maxHeartbeats 4000000
theorem first_drop {l : List ByteArray} {x y : ByteArray} {k : Nat} (h : l[k]? = some y) : firstN (l.drop k) x k = if y = x then (k : Int) else firstN (l.drop (k + 1)) x (k + 1) := by
  rw [drop_at h, firstN]
theorem First_s (fs : List (ByteArray × Ty)) (x : ByteArray) (hl : fs.length ≤ 1048576) : Spec 102 [.one (.sl 5 (rF fs)), .one (.sc (.string x))] [.one (.sc (.int .i64 (firstN (fs.map (·.1)) x 0)))] := by
  obtain ⟨L, hL⟩ : ∃ L, L = rF fs := ⟨_, rfl⟩
  obtain ⟨r, hr⟩ : ∃ r, r = firstN (fs.map (·.1)) x 0 := ⟨_, rfl⟩
  rw [← hL, ← hr]
  refine spec_of Try.func102 rfl (by kernel_rfl) (by kernel_rfl) (by kernel_rfl) fun aWrap aAdd aSub aMul aQuo aRem aBits aLt aLe aEq aNz aSeq aSlt aBytes aCat aFits aSlen aSget aSsub aNat aLen aGet aSub2 aApp aSet aRoom aMlook aMput aRep aCall aCalld aCallo aNew aLit aKeep aNext aLoop hA => ?_
  cbv
  repeat ((with_reducible apply next_at hA); cbv)
  obtain ⟨e1, e2, e3, e4, e5, e6, e7, e8, e9⟩ := ar_at hA
  obtain ⟨r1, r2, -⟩ := row_at hA
  obtain ⟨s1, s2, s3, -⟩ := str_at hA
  refine loop_at hA (γ := Int) (fun z => [(5, vi .i64 z)]) (fun z => []) (fun z => ∃ k : Nat, z = (k : Int) ∧ k ≤ fs.length ∧ r = firstN ((fs.map (·.1)).drop k) x k) (fun z => fs.length - z.toNat) 0 ?_ ?_ ?_
  · exact ⟨0, rfl, Nat.zero_le _, hr⟩
  · cbv
  · intro z hinv
    cbv
    repeat ((with_reducible apply next_at hA); cbv)
    obtain ⟨k, hz, hk, hR⟩ := hinv
    replace hz : z = (k : Int) := hz
    have hll : aLen L = ((fs.length : Nat) : Int) := by rw [r1, hL, rF_len]
    have hlt : aLt z (aLen L) = decide (k < fs.length) := by rw [e7, hll, hz]; exact decide_eq_decide.2 (by omega)
    by_cases h9 : k < fs.length
    · rw [decide_eq_true h9] at hlt
      obtain ⟨f, hf⟩ : ∃ f, fs[k]? = some f := ⟨_, List.getElem?_eq_getElem h9⟩
      rw [first_drop (y := f.1) (by rw [List.getElem?_map, hf]; rfl)] at hR
      obtain ⟨nm, t⟩ := f
      obtain ⟨c0, c1, c2, c3, hc⟩ := cT_four t
      simp only at hR
      have gx : aGet L z = some [.sc (.string nm), c0, c1, c2, c3] := by rw [r2, hz, if_pos (by omega), hL, show ((k : Int)).toNat = k by omega, rF_get hf, hc]
      have heq : aSeq (aBytes nm) (aBytes x) = decide (nm = x) := by
        rw [s1, s3, s3]
        by_cases h : nm = x
        · rw [decide_eq_true h, h]; exact beq_self_eq_true _
        · rw [decide_eq_false h, beq_eq_false_iff_ne]; exact fun e => h (bytes_toList.1 e)
      have hz1 : aWrap .i64 (aAdd z 1) = ((k + 1 : Nat) : Int) := by rw [e1, e2, hz, IntWalk.i64_in _ (by omega)]; omega
      have hmu : fs.length - (aWrap .i64 (aAdd z 1)).toNat < fs.length - z.toNat := by rw [hz1, hz]; omega
      by_cases hyx : nm = x
      · rw [if_pos hyx] at hR
        rw [decide_eq_true hyx] at heq
        have hzr : z = r := by rw [hz, hR]
        subst hzr
        rw [hlt]
        cbv
        repeat (first | (with_reducible apply next_at hA; cbv) | (rw [gx]; cbv) | (rw [heq]; cbv))
        try cbv
        repeat (first | (with_reducible apply next_at hA; cbv) | (rw [gx]; cbv) | (rw [heq]; cbv))
        try simp (maxSteps := 4000000) only [nc] at *
      · rw [if_neg hyx] at hR
        rw [decide_eq_false hyx] at heq
        rw [hlt]
        cbv
        repeat (first | (with_reducible apply next_at hA; cbv) | (rw [gx]; cbv) | (rw [heq]; cbv))
        try cbv
        repeat (first | (with_reducible apply next_at hA; cbv) | (rw [gx]; cbv) | (rw [heq]; cbv))
        try simp (maxSteps := 4000000) only [nc] at *
        refine ⟨aWrap .i64 (aAdd z 1), ⟨k + 1, hz1, h9, hR⟩, hmu, ?_⟩
        cbv
    · rw [decide_eq_false h9] at hlt
      rw [List.drop_of_length_le (by rw [List.length_map]; omega), firstN] at hR
      subst hR
      rw [hlt]
      cbv
      repeat ((with_reducible apply next_at hA); cbv)
theorem Without_s (fs : List (ByteArray × Ty)) (i : Nat) (hl : fs.length ≤ 1048576) : Spec 103 [.one (.sl 5 (rF fs)), .one (.sc (.int .i64 (i : Int)))] [.one (.sl 5 (rF (fs.eraseIdx i)))] := by
  obtain ⟨L, hL⟩ : ∃ L, L = rF fs := ⟨_, rfl⟩
  obtain ⟨r, hr⟩ : ∃ r, r = rF (fs.eraseIdx i) := ⟨_, rfl⟩
  obtain ⟨zi, hzi⟩ : ∃ z : Int, z = (i : Int) := ⟨_, rfl⟩
  rw [← hL, ← hr, ← hzi]
  refine spec_of Try.func103 rfl (by kernel_rfl) (by kernel_rfl) (by kernel_rfl) fun aWrap aAdd aSub aMul aQuo aRem aBits aLt aLe aEq aNz aSeq aSlt aBytes aCat aFits aSlen aSget aSsub aNat aLen aGet aSub2 aApp aSet aRoom aMlook aMput aRep aCall aCalld aCallo aNew aLit aKeep aNext aLoop hA => ?_
  cbv
  repeat (first | (refine own_at hA 5 86 true rfl ?_; cbv) | (with_reducible apply next_at hA; cbv))
  obtain ⟨e1, e2, e3, e4, e5, e6, e7, e8, e9⟩ := ar_at hA
  obtain ⟨r1, r2, r3, r4⟩ := row_at hA
  refine loop_at hA (γ := Int × List (List D)) (fun x => [(6, vi .i64 x.1), (5, .own 0)]) (fun x => [(0, .row true 86 x.2)]) (fun x => ∃ k : Nat, x.1 = (k : Int) ∧ k ≤ fs.length ∧ x.2 = rF ((fs.take k).eraseIdx i)) (fun x => fs.length - x.1.toNat) (0, []) ?_ ?_ ?_
  · exact ⟨0, rfl, Nat.zero_le _, rfl⟩
  · cbv
  · intro x hinv
    obtain ⟨z, M⟩ := x
    cbv
    repeat ((with_reducible apply next_at hA); cbv)
    try simp (maxSteps := 4000000) only [nc] at *
    obtain ⟨k, hz, hk, hM⟩ := hinv
    replace hz : z = (k : Int) := hz
    replace hM : M = rF ((fs.take k).eraseIdx i) := hM
    have hll : aLen L = ((fs.length : Nat) : Int) := by rw [r1, hL, rF_len]
    have hlt : aLt z (aLen L) = decide (k < fs.length) := by rw [e7, hll, hz]; exact decide_eq_decide.2 (by omega)
    have hMl : M.length ≤ 1048576 := by
      rw [hM, rF_len]
      have := List.length_eraseIdx_le (fs.take k) i
      rw [List.length_take] at this
      omega
    by_cases h9 : k < fs.length
    · rw [decide_eq_true h9] at hlt
      obtain ⟨f, hf⟩ : ∃ f, fs[k]? = some f := ⟨_, List.getElem?_eq_getElem h9⟩
      have hea := @erase_other _ fs k i f hf
      have hes := @erase_same _ fs k f hf
      obtain ⟨nm, t⟩ := f
      obtain ⟨c0, c1, c2, c3, hc⟩ := cT_four t
      have gx : aGet L z = some [.sc (.string nm), c0, c1, c2, c3] := by rw [r2, hz, if_pos (by omega), hL, show ((k : Int)).toNat = k by omega, rF_get hf, hc]
      have heq : aEq z zi = decide (k = i) := by
        rw [e9, hz, hzi]
        by_cases h : k = i
        · rw [decide_eq_true h, h]; exact beq_self_eq_true _
        · rw [decide_eq_false h, beq_eq_false_iff_ne]; omega
      have hz1 : aWrap .i64 (aAdd z 1) = ((k + 1 : Nat) : Int) := by rw [e1, e2, hz, IntWalk.i64_in _ (by omega)]; omega
      have hmu : fs.length - (aWrap .i64 (aAdd z 1)).toNat < fs.length - z.toNat := by rw [hz1, hz]; omega
      by_cases hki : k = i
      · rw [decide_eq_true hki] at heq
        subst hki
        rw [hlt]
        cbv
        repeat (first | (with_reducible apply next_at hA; cbv) | (rw [gx]; cbv) | (rw [heq]; cbv))
        try cbv
        repeat (first | (with_reducible apply next_at hA; cbv) | (rw [gx]; cbv) | (rw [heq]; cbv))
        try simp (maxSteps := 4000000) only [nc] at *
        refine ⟨(aWrap .i64 (aAdd z 1), M), ⟨k + 1, hz1, h9, by rw [hes]; exact hM⟩, hmu, ?_⟩
        cbv
      · rw [decide_eq_false hki] at heq
        rw [hlt]
        cbv
        repeat (first | (with_reducible apply next_at hA; cbv) | (rw [gx]; cbv) | (rw [heq]; cbv) | (refine lit_at hA true ?_; cbv) | (refine room_at hA (by simp only [List.length_cons, List.length_nil]; omega) ?_; cbv))
        try cbv
        repeat (first | (with_reducible apply next_at hA; cbv) | (rw [gx]; cbv) | (rw [heq]; cbv) | (refine lit_at hA true ?_; cbv) | (refine room_at hA (by simp only [List.length_cons, List.length_nil]; omega) ?_; cbv))
        try simp (maxSteps := 4000000) only [nc] at *
        refine ⟨(aWrap .i64 (aAdd z 1), aApp M [[.sc (.string nm), c0, c1, c2, c3]]), ⟨k + 1, hz1, h9, by rw [hea hki, rF_app]; show aApp M _ = _; rw [r4, hM, rF_one, hc]⟩, hmu, ?_⟩
        cbv
    · rw [decide_eq_false h9] at hlt
      have hM2 : M = r := by rw [hM, List.take_of_length_le (by omega), hr]
      rw [hlt]
      cbv
      repeat ((with_reducible apply next_at hA); cbv)
      exact ⟨by rw [hM2], trivial⟩
def moreV (l : List (Int × Ty)) (n : Int) (to : Ty) : List (Int × Ty) × Bool := match l.find? fun p => p.1 == n with
  | some p => (l, sameS p.2 to)
  | none => (l ++ [(n, to)], true)
theorem moreS_is (l : List (Int × Ty)) (n : Int) (to : Ty) : moreS l n to = if (moreV l n to).2 = true then some (moreV l n to).1 else none := by
  unfold moreS moreV
  cases (l.find? fun p => p.1 == n) <;> rfl
theorem more_s (l : List (Int × Ty)) (n : Int) (to : Ty) (hl : l.length ≤ 4000000) (hto : to.parts.length ≤ 1048576) (hts : ∀ x ∈ to.parts, Spine x) (hlp : ∀ p ∈ l, p.2.parts.length ≤ 1048576 ∧ ∀ x ∈ p.2.parts, Spine x) :
    Spec 101 [.one (.sl 5 (rB l)), .one (.sc (.int .i64 n)), .ag (cT to)] [.one (.sl 5 (rB (moreV l n to).1)), .one (.sc (.bool (moreV l n to).2))] := by
  obtain ⟨L, hL⟩ : ∃ L, L = rB l := ⟨_, rfl⟩
  obtain ⟨r, hr⟩ : ∃ r, r = rB (moreV l n to).1 := ⟨_, rfl⟩
  obtain ⟨b, hb⟩ : ∃ b, b = (moreV l n to).2 := ⟨_, rfl⟩
  obtain ⟨t0, t1, t2, t3, ht⟩ := cT_four to
  rw [← hL, ← hr, ← hb, ht]
  refine spec_of Try.func101 rfl (by kernel_rfl) (by kernel_rfl) (by kernel_rfl) fun aWrap aAdd aSub aMul aQuo aRem aBits aLt aLe aEq aNz aSeq aSlt aBytes aCat aFits aSlen aSget aSsub aNat aLen aGet aSub2 aApp aSet aRoom aMlook aMput aRep aCall aCalld aCallo aNew aLit aKeep aNext aLoop hA => ?_
  cbv
  repeat ((with_reducible apply next_at hA); cbv)
  obtain ⟨e1, e2, e3, e4, e5, e6, e7, e8, e9⟩ := ar_at hA
  obtain ⟨r1, r2, r3, r4⟩ := row_at hA
  refine loop_at hA (γ := Int) (fun z => [(8, vi .i64 z)]) (fun z => []) (fun z => ∃ k : Nat, z = (k : Int) ∧ k ≤ l.length ∧ (l.find? fun p => p.1 == n) = (l.drop k).find? fun p => p.1 == n) (fun z => l.length - z.toNat) 0 ?_ ?_ ?_
  · exact ⟨0, rfl, Nat.zero_le _, rfl⟩
  · cbv
  · intro z hinv
    cbv
    repeat ((with_reducible apply next_at hA); cbv)
    try simp (maxSteps := 4000000) only [nc] at *
    obtain ⟨k, hz, hk, hF⟩ := hinv
    replace hz : z = (k : Int) := hz
    have hll : aLen L = ((l.length : Nat) : Int) := by rw [r1, hL, rB_len]
    have hlt : aLt z (aLen L) = decide (k < l.length) := by rw [e7, hll, hz]; exact decide_eq_decide.2 (by omega)
    have hLl : L.length ≤ 4000000 := by rw [hL, rB_len]; exact hl
    by_cases h9 : k < l.length
    · rw [decide_eq_true h9] at hlt
      obtain ⟨p, hp⟩ : ∃ p, l[k]? = some p := ⟨_, List.getElem?_eq_getElem h9⟩
      rw [drop_at hp, List.find?_cons] at hF
      obtain ⟨hp1, hp2⟩ := hlp p (List.mem_of_getElem? hp)
      have hS := Same03_s p.2 to hp1 hto hp2 hts
      obtain ⟨pn, pt⟩ := p
      obtain ⟨c0, c1, c2, c3, hc⟩ := cT_four pt
      have gx : aGet L z = some [.sc (.int .i64 pn), c0, c1, c2, c3] := by rw [r2, hz, if_pos (by omega), hL, show ((k : Int)).toNat = k by omega, rB_get hp, hc]
      have heq : aEq pn n = (pn == n) := e9 _ _
      have hz1 : aWrap .i64 (aAdd z 1) = ((k + 1 : Nat) : Int) := by rw [e1, e2, hz, IntWalk.i64_in _ (by omega)]; omega
      have hmu : l.length - (aWrap .i64 (aAdd z 1)).toNat < l.length - z.toNat := by rw [hz1, hz]; omega
      simp only at hF hS
      rw [hc, ht] at hS
      cases hpn : (pn == n)
      · rw [hpn] at heq hF
        rw [hlt]
        cbv
        repeat (first | (with_reducible apply next_at hA; cbv) | (rw [gx]; cbv) | (rw [heq]; cbv))
        try cbv
        repeat (first | (with_reducible apply next_at hA; cbv) | (rw [gx]; cbv) | (rw [heq]; cbv))
        try simp (maxSteps := 4000000) only [nc] at *
        refine ⟨aWrap .i64 (aAdd z 1), ⟨k + 1, hz1, h9, hF⟩, hmu, ?_⟩
        cbv
      · rw [hpn] at heq hF
        have hM : moreV l n to = (l, alikeB (canonS pt) (canonS to)) := by unfold moreV; rw [hF]; rfl
        rw [hM] at hr hb
        simp only at hr hb
        rw [← hb] at hS
        rw [← hL] at hr
        rw [hlt, hr]
        cbv
        repeat (first | (with_reducible apply next_at hA; cbv) | (rw [gx]; cbv) | (rw [heq]; cbv) | (refine call_at hA _ hS rfl ?_; cbv) | (refine calm_at hA _ hS ?_; cbv))
        try cbv
        repeat (first | (with_reducible apply next_at hA; cbv) | (rw [gx]; cbv) | (rw [heq]; cbv) | (refine call_at hA _ hS rfl ?_; cbv) | (refine calm_at hA _ hS ?_; cbv))
        try simp (maxSteps := 4000000) only [nc] at *
    · rw [decide_eq_false h9] at hlt
      rw [List.drop_of_length_le (by omega), List.find?_nil] at hF
      have hM : moreV l n to = (l ++ [(n, to)], true) := by unfold moreV; rw [hF]
      rw [hM] at hr hb
      simp only at hr hb
      have hadd : aApp (aApp [] L) [[.sc (.int .i64 n), t0, t1, t2, t3]] = r := by rw [r4, r4, hr, rB_snoc, hL, ht]; rfl
      rw [hlt, hb]
      cbv
      repeat (first | (with_reducible apply next_at hA; cbv) | (refine new_at hA true ?_; cbv) | (refine room_at hA (by simp only [r4, List.length_cons, List.length_nil, List.length_append]; omega) ?_; cbv))
      try cbv
      repeat (first | (with_reducible apply next_at hA; cbv) | (refine new_at hA true ?_; cbv) | (refine room_at hA (by simp only [r4, List.length_cons, List.length_nil, List.length_append]; omega) ?_; cbv))
      try simp (maxSteps := 4000000) only [nc] at *
      rw [hadd]
      exact ⟨rfl, trivial⟩
end Go.Proofs.Ytclehkgnacekkaa.Vm
end
section
namespace Go.Proofs.Ytclehkgnacekkaa.Vm
open Go.RowKit
set_option maxRecDepth 100000
set_option maxHeartbeats 8000000
theorem spec_to {f : Nat} {rs q q' : List R} (h : Spec f rs q) (hq : ∀ I w v, AtRes I w v q → AtRes I w v q') : Spec f rs q' :=
  ⟨h.1, fun I w args h1 h2 => (h.2 I w args h1 h2).mono fun e w' ⟨v, e1, e2, e3⟩ => ⟨v, e1, hq _ _ _ e2, e3⟩⟩
theorem atD_em {I : Nat → Nat → Prop} {w : World} {v : Value} {n : Nat} (m : Nat) (h : AtD I w v (.sl n [])) : AtD I w v (.sl m []) := by
  generalize hr : ([] : List (List D)) = rows at h
  cases h with
  | nil A cap sz => exact .nil _ _ _
  | sl b off cap sz rows us => subst hr; exact .nil _ _ _
theorem em2 {f : Nat} {rs : List R} {n : Nat} (m : Nat) {r : R} (h : Spec f rs [.one (.sl n []), r]) : Spec f rs [.one (.sl m []), r] := spec_to h fun I w v hv => by
  obtain ⟨us, rfl, h2⟩ := hv
  match us, h2 with
  | [u1, u2], ⟨h3, h4⟩ => exact ⟨_, rfl, atD_em m h3, h4⟩
def MatchH (m : Nat) (g s : Ty) (l : List (Int × Ty)) : Prop := ∃ L, (∀ l', matchF m g s l = some l' → L = rB l') ∧ Spec 48 [.ag (cT g), .ag (cT s), .one (.sl 5 (rB l))] [.one (.sl 5 L), .one (.sc (.bool (matchF m g s l).isSome))]
theorem ma_var (m : Nat) (g s : Ty) (l : List (Int × Ty)) (hv : g.op = 7 ∨ g.op = 10) (hs : s.parts.length ≤ 1048576) (hsp : ∀ x ∈ s.parts, Spine x) (hl : l.length ≤ 4000000) (hlp : ∀ p ∈ l, p.2.parts.length ≤ 1048576 ∧ ∀ x ∈ p.2.parts, Spine x) : MatchH (m + 1) g s l := by
  have hM := more_s l g.n s hl hs hsp hlp
  unfold MatchH
  rw [matchF_var hv, moreS_is]
  refine ⟨rB (moreV l g.n s).1, fun l' h => ?_, ?_⟩
  · split at h
    · injection h with h; rw [h]
    · cases h
  · have hb : (if (moreV l g.n s).2 = true then some (moreV l g.n s).1 else none).isSome = (moreV l g.n s).2 := by
      cases (moreV l g.n s).2 <;> rfl
    rw [hb]
    obtain ⟨op, nm, n, ks⟩ := g
    simp only [Ty.op] at hv
    rw [show (Ty.mk op nm n ks).n = n from rfl] at hM ⊢
    obtain ⟨s0, s1, s2, s3, hss⟩ := cT_four s
    rw [hss] at hM ⊢
    rw [cT]
    generalize rB (moreV l n s).1 = L at *
    generalize (moreV l n s).2 = b at *
    generalize rB l = L0 at *
    generalize rT ks = K0 at *
    by_cases h7 : op = 7
    · subst h7
      refine spec_of Try.func48 rfl (by kernel_rfl) (by kernel_rfl) (by kernel_rfl) fun aWrap aAdd aSub aMul aQuo aRem aBits aLt aLe aEq aNz aSeq aSlt aBytes aCat aFits aSlen aSget aSsub aNat aLen aGet aSub2 aApp aSet aRoom aMlook aMput aRep aCall aCalld aCallo aNew aLit aKeep aNext aLoop hA => ?_
      have q7 : aEq 7 7 = true := by obtain ⟨e1, e2, e3, e4, e5, e6, e7, e8, e9⟩ := ar_at hA; rw [e9]; rfl
      cbv
      repeat (first | (with_reducible apply next_at hA; cbv) | (rw [q7]; cbv) | (refine call_at hA _ hM rfl ?_; cbv) | (refine calm_at hA _ hM ?_; cbv))
      try cbv
      repeat (first | (with_reducible apply next_at hA; cbv) | (rw [q7]; cbv) | (refine call_at hA _ hM rfl ?_; cbv) | (refine calm_at hA _ hM ?_; cbv))
      try simp (maxSteps := 4000000) only [nc] at *
    · have h10 : op = 10 := hv.resolve_left h7
      subst h10
      refine spec_of Try.func48 rfl (by kernel_rfl) (by kernel_rfl) (by kernel_rfl) fun aWrap aAdd aSub aMul aQuo aRem aBits aLt aLe aEq aNz aSeq aSlt aBytes aCat aFits aSlen aSget aSsub aNat aLen aGet aSub2 aApp aSet aRoom aMlook aMput aRep aCall aCalld aCallo aNew aLit aKeep aNext aLoop hA => ?_
      have q7 : aEq 10 7 = false := by obtain ⟨e1, e2, e3, e4, e5, e6, e7, e8, e9⟩ := ar_at hA; rw [e9]; rfl
      have q10 : aEq 10 10 = true := by obtain ⟨e1, e2, e3, e4, e5, e6, e7, e8, e9⟩ := ar_at hA; rw [e9]; rfl
      cbv
      repeat (first | (with_reducible apply next_at hA; cbv) | (rw [q7]; cbv) | (rw [q10]; cbv) | (refine call_at hA _ hM rfl ?_; cbv) | (refine calm_at hA _ hM ?_; cbv))
      try cbv
      repeat (first | (with_reducible apply next_at hA; cbv) | (rw [q7]; cbv) | (rw [q10]; cbv) | (refine call_at hA _ hM rfl ?_; cbv) | (refine calm_at hA _ hM ?_; cbv))
      try simp (maxSteps := 4000000) only [nc] at *
theorem ma_nil {m : Nat} {g s : Ty} {l : List (Int × Ty)} (h : matchF m g s l = none) (hS : Spec 48 [.ag (cT g), .ag (cT s), .one (.sl 5 (rB l))] [.one (.sl 0 []), .one (.sc (.bool false))]) : MatchH m g s l := by
  refine ⟨[], ?_⟩
  rw [h]
  exact ⟨fun l' h' => (by cases h'), em2 5 hS⟩
theorem fld_len (fs : List (ByteArray × Ty)) : fs.length ≤ fldParts fs := by
  induction fs with
  | nil => exact Nat.zero_le _
  | cons f fs ih =>
    rw [fldParts, List.map_cons, List.sum_cons, List.length_cons]
    rw [fldParts] at ih
    omega
theorem sort_fld {s : Ty} (hs : s.parts.length ≤ 1048576) (hsp : Spine s) : (sortS ltF (fieldsS s)).length ≤ 1048576 := by
  have h1 := spine_parts _ s (Nat.le_refl _) hsp
  have h2 := fld_len (fieldsS s)
  rw [sortS_len]
  omega
theorem ma_ne (m : Nat) (g s : Ty) (l : List (Int × Ty)) (hv : ¬ (g.op = 7 ∨ g.op = 10)) (h11 : g.op ≠ 11) (hne : g.op ≠ s.op) : MatchH (m + 1) g s l := by
  refine ma_nil (matchF_ne hv h11 hne) ?_
  obtain ⟨op, nm, n, ks⟩ := g
  obtain ⟨op2, nm2, n2, ks2⟩ := s
  replace hv : ¬ (op = 7 ∨ op = 10) := hv
  replace h11 : op ≠ 11 := h11
  replace hne : op ≠ op2 := hne
  rw [cT, cT]
  generalize rB l = L0 at *
  generalize rT ks = K0 at *
  generalize rT ks2 = K2 at *
  refine spec_of Try.func48 rfl (by kernel_rfl) (by kernel_rfl) (by kernel_rfl) fun aWrap aAdd aSub aMul aQuo aRem aBits aLt aLe aEq aNz aSeq aSlt aBytes aCat aFits aSlen aSget aSsub aNat aLen aGet aSub2 aApp aSet aRoom aMlook aMput aRep aCall aCalld aCallo aNew aLit aKeep aNext aLoop hA => ?_
  obtain ⟨e1, e2, e3, e4, e5, e6, e7, e8, e9⟩ := ar_at hA
  have q7 : aEq op 7 = false := by rw [e9, beq_eq_false_iff_ne]; omega
  have q10 : aEq op 10 = false := by rw [e9, beq_eq_false_iff_ne]; omega
  have q11 : aEq op 11 = false := by rw [e9, beq_eq_false_iff_ne]; omega
  have qs : aEq op op2 = false := by rw [e9, beq_eq_false_iff_ne]; omega
  cbv
  repeat (first | (with_reducible apply next_at hA; cbv) | (rw [q7]; cbv) | (rw [q10]; cbv) | (rw [q11]; cbv) | (rw [qs]; cbv))
  try cbv
  repeat (first | (with_reducible apply next_at hA; cbv) | (rw [q7]; cbv) | (rw [q10]; cbv) | (rw [q11]; cbv) | (rw [qs]; cbv))
  try simp (maxSteps := 4000000) only [nc] at *
theorem ma_no (m : Nat) (g s : Ty) (l : List (Int × Ty)) (h11 : g.op = 11) (hs : s.parts.length ≤ 1048576) (hsp : Spine s) (hi : firstN ((sortS ltF (fieldsS s)).map (·.1)) g.name 0 < 0) : MatchH (m + 1) g s l := by
  refine ma_nil (matchF_no h11 hi) ?_
  have hfl := sort_fld hs hsp
  have hF := Fields_s s hsp hs
  have hN := First_s (sortS ltF (fieldsS s)) g.name hfl
  obtain ⟨op, nm, n, ks⟩ := g
  replace h11 : op = 11 := h11
  subst h11
  rw [show (Ty.mk 11 nm n ks).name = nm from rfl] at hN hi
  obtain ⟨s0, s1, s2, s3, hss⟩ := cT_four s
  obtain ⟨u0, u1, u2, u3, huu⟩ := cT_four (tailS s)
  rw [hss] at hF ⊢
  rw [huu] at hF
  rw [cT]
  generalize firstN ((sortS ltF (fieldsS s)).map (·.1)) nm 0 = zi at *
  generalize rF (sortS ltF (fieldsS s)) = F at *
  generalize rB l = L0 at *
  generalize rT ks = K0 at *
  refine spec_of Try.func48 rfl (by kernel_rfl) (by kernel_rfl) (by kernel_rfl) fun aWrap aAdd aSub aMul aQuo aRem aBits aLt aLe aEq aNz aSeq aSlt aBytes aCat aFits aSlen aSget aSsub aNat aLen aGet aSub2 aApp aSet aRoom aMlook aMput aRep aCall aCalld aCallo aNew aLit aKeep aNext aLoop hA => ?_
  obtain ⟨e1, e2, e3, e4, e5, e6, e7, e8, e9⟩ := ar_at hA
  have q7 : aEq 11 7 = false := by rw [e9]; rfl
  have q10 : aEq 11 10 = false := by rw [e9]; rfl
  have q11 : aEq 11 11 = true := by rw [e9]; rfl
  have qz : aLt zi 0 = true := by rw [e7]; exact decide_eq_true hi
  cbv
  repeat (first | (with_reducible apply next_at hA; cbv) | (rw [q7]; cbv) | (rw [q10]; cbv) | (rw [q11]; cbv) | (rw [qz]; cbv) | (refine call_at hA _ hF rfl ?_; cbv) | (refine calm_at hA _ hF ?_; cbv) | (refine call_at hA _ hN rfl ?_; cbv) | (refine calm_at hA _ hN ?_; cbv))
  try cbv
  repeat (first | (with_reducible apply next_at hA; cbv) | (rw [q7]; cbv) | (rw [q10]; cbv) | (rw [q11]; cbv) | (rw [qz]; cbv) | (refine call_at hA _ hF rfl ?_; cbv) | (refine calm_at hA _ hF ?_; cbv) | (refine call_at hA _ hN rfl ?_; cbv) | (refine calm_at hA _ hN ?_; cbv))
  try simp (maxSteps := 4000000) only [nc] at *
theorem ma_row (m : Nat) (g s a b : Ty) (l : List (Int × Ty)) (i : Nat) (f : ByteArray × Ty) (h11 : g.op = 11) (hk : g.kids = [a, b]) (hs : s.parts.length ≤ 1048576) (hsp : Spine s) (hi : firstN ((sortS ltF (fieldsS s)).map (·.1)) g.name 0 = i) (hf : (sortS ltF (fieldsS s))[i]? = some f)
    (h1 : MatchH m a f.2 l) (h2 : ∀ l1, matchF m a f.2 l = some l1 → MatchH m b (rowS ((sortS ltF (fieldsS s)).eraseIdx i) (tailS s)) l1) : MatchH (m + 1) g s l := by
  have hfl := sort_fld hs hsp
  have hF := Fields_s s hsp hs
  have hN := First_s (sortS ltF (fieldsS s)) g.name hfl
  have hmr := matchF_row (m := m) (l := l) h11 hk hi hf
  obtain ⟨L1, hL1, hS1⟩ := h1
  obtain ⟨op, nm, n, ks⟩ := g
  replace h11 : op = 11 := h11
  subst h11
  replace hk : ks = [a, b] := hk
  subst hk
  rw [show (Ty.mk 11 nm n [a, b]).name = nm from rfl] at hN hi
  rw [hi] at hN
  obtain ⟨s0, s1, s2, s3, hss⟩ := cT_four s
  obtain ⟨u0, u1, u2, u3, huu⟩ := cT_four (tailS s)
  obtain ⟨a0, a1, a2, a3, haa⟩ := cT_four a
  obtain ⟨b0, b1, b2, b3, hbb⟩ := cT_four b
  obtain ⟨f0, f1, f2, f3, hff⟩ := cT_four f.2
  have hW := Without_s (sortS ltF (fieldsS s)) i hfl
  have hO := Of_s ((sortS ltF (fieldsS s)).eraseIdx i) (tailS s) (by have := List.length_eraseIdx_le (sortS ltF (fieldsS s)) i; omega)
  have hgF : (rF (sortS ltF (fieldsS s)))[i]? = some (.sc (.string f.1) :: [f0, f1, f2, f3]) := by rw [rF_get hf, hff]
  obtain ⟨r0, r1, r2, r3, hrr⟩ := cT_four (rowS ((sortS ltF (fieldsS s)).eraseIdx i) (tailS s))
  have hcg : cT (Ty.mk 11 nm n [a, b]) = [.sc (.int .u8 11), .sc (.string nm), .sc (.int .i64 n), .sl 4 [[a0, a1, a2, a3], [b0, b1, b2, b3]]] := by
    rw [cT]
    show _ = _
    rw [rT_map]
    simp only [List.map_cons, List.map_nil, haa, hbb]
  rw [haa, hff] at hS1
  obtain ⟨zi, hzi⟩ : ∃ z : Int, z = (i : Int) := ⟨_, rfl⟩
  rw [← hzi] at hN hW
  cases hm1 : matchF m a f.2 l with
  | none =>
    rw [hm1] at hS1 hmr
    rw [Option.bind_none] at hmr
    refine ma_nil hmr ?_
    rw [hcg, hss]
    rw [hss, huu] at hF
    rw [Option.isSome_none] at hS1
    generalize rF (sortS ltF (fieldsS s)) = F at *
    generalize rB l = L0 at *
    refine spec_of Try.func48 rfl (by kernel_rfl) (by kernel_rfl) (by kernel_rfl) fun aWrap aAdd aSub aMul aQuo aRem aBits aLt aLe aEq aNz aSeq aSlt aBytes aCat aFits aSlen aSget aSsub aNat aLen aGet aSub2 aApp aSet aRoom aMlook aMput aRep aCall aCalld aCallo aNew aLit aKeep aNext aLoop hA => ?_
    obtain ⟨e1, e2, e3, e4, e5, e6, e7, e8, e9⟩ := ar_at hA
    obtain ⟨t1, t2, -⟩ := row_at hA
    have q7 : aEq 11 7 = false := by rw [e9]; rfl
    have q10 : aEq 11 10 = false := by rw [e9]; rfl
    have q11 : aEq 11 11 = true := by rw [e9]; rfl
    have qz : aLt zi 0 = false := by rw [e7, hzi]; exact decide_eq_false (by omega)
    have g0 : aGet [[a0, a1, a2, a3], [b0, b1, b2, b3]] 0 = some [a0, a1, a2, a3] := by rw [t2]; rfl
    have gF : aGet F zi = some [.sc (.string f.1), f0, f1, f2, f3] := by rw [t2, hzi, if_pos (by omega), Int.toNat_natCast, hgF]
    cbv
    repeat (first | (with_reducible apply next_at hA; cbv) | (rw [q7]; cbv) | (rw [q10]; cbv) | (rw [q11]; cbv) | (rw [qz]; cbv) | (rw [g0]; cbv) | (rw [gF]; cbv) | (refine call_at hA _ hF rfl ?_; cbv) | (refine calm_at hA _ hF ?_; cbv) | (refine call_at hA _ hN rfl ?_; cbv) | (refine calm_at hA _ hN ?_; cbv) | (refine call_at hA _ hS1 rfl ?_; cbv) | (refine calm_at hA _ hS1 ?_; cbv))
    try cbv
    repeat (first | (with_reducible apply next_at hA; cbv) | (rw [q7]; cbv) | (rw [q10]; cbv) | (rw [q11]; cbv) | (rw [qz]; cbv) | (rw [g0]; cbv) | (rw [gF]; cbv) | (refine call_at hA _ hF rfl ?_; cbv) | (refine calm_at hA _ hF ?_; cbv) | (refine call_at hA _ hN rfl ?_; cbv) | (refine calm_at hA _ hN ?_; cbv) | (refine call_at hA _ hS1 rfl ?_; cbv) | (refine calm_at hA _ hS1 ?_; cbv))
    try simp (maxSteps := 4000000) only [nc] at *
  | some l1 =>
    obtain ⟨L2, hL2, hS2⟩ := h2 l1 hm1
    have hLL := hL1 l1 hm1
    rw [hm1, Option.bind_some] at hmr
    unfold MatchH
    rw [hmr]
    refine ⟨L2, hL2, ?_⟩
    rw [hm1, Option.isSome_some] at hS1
    rw [← hLL, hbb, hrr] at hS2
    rw [huu, hrr] at hO
    rw [hcg, hss]
    rw [hss, huu] at hF
    generalize (matchF m b (rowS ((sortS ltF (fieldsS s)).eraseIdx i) (tailS s)) l1).isSome = bb at *
    generalize rF (sortS ltF (fieldsS s)) = F at *
    generalize rF ((sortS ltF (fieldsS s)).eraseIdx i) = F2 at *
    generalize rB l = L0 at *
    refine spec_of Try.func48 rfl (by kernel_rfl) (by kernel_rfl) (by kernel_rfl) fun aWrap aAdd aSub aMul aQuo aRem aBits aLt aLe aEq aNz aSeq aSlt aBytes aCat aFits aSlen aSget aSsub aNat aLen aGet aSub2 aApp aSet aRoom aMlook aMput aRep aCall aCalld aCallo aNew aLit aKeep aNext aLoop hA => ?_
    obtain ⟨e1, e2, e3, e4, e5, e6, e7, e8, e9⟩ := ar_at hA
    obtain ⟨t1, t2, -⟩ := row_at hA
    have q7 : aEq 11 7 = false := by rw [e9]; rfl
    have q10 : aEq 11 10 = false := by rw [e9]; rfl
    have q11 : aEq 11 11 = true := by rw [e9]; rfl
    have qz : aLt zi 0 = false := by rw [e7, hzi]; exact decide_eq_false (by omega)
    have g0 : aGet [[a0, a1, a2, a3], [b0, b1, b2, b3]] 0 = some [a0, a1, a2, a3] := by rw [t2]; rfl
    have g1 : aGet [[a0, a1, a2, a3], [b0, b1, b2, b3]] 1 = some [b0, b1, b2, b3] := by rw [t2]; rfl
    have gF : aGet F zi = some [.sc (.string f.1), f0, f1, f2, f3] := by rw [t2, hzi, if_pos (by omega), Int.toNat_natCast, hgF]
    cbv
    repeat (first | (with_reducible apply next_at hA; cbv) | (rw [q7]; cbv) | (rw [q10]; cbv) | (rw [q11]; cbv) | (rw [qz]; cbv) | (rw [g0]; cbv) | (rw [g1]; cbv) | (rw [gF]; cbv) | (refine call_at hA _ hF rfl ?_; cbv) | (refine calm_at hA _ hF ?_; cbv) | (refine call_at hA _ hN rfl ?_; cbv) | (refine calm_at hA _ hN ?_; cbv) | (refine call_at hA _ hS1 rfl ?_; cbv) | (refine calm_at hA _ hS1 ?_; cbv) | (refine call_at hA _ hW rfl ?_; cbv) | (refine calm_at hA _ hW ?_; cbv) | (refine call_at hA _ hO rfl ?_; cbv) | (refine calm_at hA _ hO ?_; cbv) | (refine call_at hA _ hS2 rfl ?_; cbv) | (refine calm_at hA _ hS2 ?_; cbv))
    try cbv
    repeat (first | (with_reducible apply next_at hA; cbv) | (rw [q7]; cbv) | (rw [q10]; cbv) | (rw [q11]; cbv) | (rw [qz]; cbv) | (rw [g0]; cbv) | (rw [g1]; cbv) | (rw [gF]; cbv) | (refine call_at hA _ hF rfl ?_; cbv) | (refine calm_at hA _ hF ?_; cbv) | (refine call_at hA _ hN rfl ?_; cbv) | (refine calm_at hA _ hN ?_; cbv) | (refine call_at hA _ hS1 rfl ?_; cbv) | (refine calm_at hA _ hS1 ?_; cbv) | (refine call_at hA _ hW rfl ?_; cbv) | (refine calm_at hA _ hW ?_; cbv) | (refine call_at hA _ hO rfl ?_; cbv) | (refine calm_at hA _ hO ?_; cbv) | (refine call_at hA _ hS2 rfl ?_; cbv) | (refine calm_at hA _ hS2 ?_; cbv))
    try simp (maxSteps := 4000000) only [nc] at *
    cbv
    repeat (first | (with_reducible apply next_at hA; cbv) | (rw [q7]; cbv) | (rw [q10]; cbv) | (rw [q11]; cbv) | (rw [qz]; cbv) | (rw [g0]; cbv) | (rw [g1]; cbv) | (rw [gF]; cbv) | (refine call_at hA _ hF rfl ?_; cbv) | (refine calm_at hA _ hF ?_; cbv) | (refine call_at hA _ hN rfl ?_; cbv) | (refine calm_at hA _ hN ?_; cbv) | (refine call_at hA _ hS1 rfl ?_; cbv) | (refine calm_at hA _ hS1 ?_; cbv) | (refine call_at hA _ hW rfl ?_; cbv) | (refine calm_at hA _ hW ?_; cbv) | (refine call_at hA _ hO rfl ?_; cbv) | (refine calm_at hA _ hO ?_; cbv) | (refine call_at hA _ hS2 rfl ?_; cbv) | (refine calm_at hA _ hS2 ?_; cbv))
    try cbv
    repeat (first | (with_reducible apply next_at hA; cbv) | (rw [q7]; cbv) | (rw [q10]; cbv) | (rw [q11]; cbv) | (rw [qz]; cbv) | (rw [g0]; cbv) | (rw [g1]; cbv) | (rw [gF]; cbv) | (refine call_at hA _ hF rfl ?_; cbv) | (refine calm_at hA _ hF ?_; cbv) | (refine call_at hA _ hN rfl ?_; cbv) | (refine calm_at hA _ hN ?_; cbv) | (refine call_at hA _ hS1 rfl ?_; cbv) | (refine calm_at hA _ hS1 ?_; cbv) | (refine call_at hA _ hW rfl ?_; cbv) | (refine calm_at hA _ hW ?_; cbv) | (refine call_at hA _ hO rfl ?_; cbv) | (refine calm_at hA _ hO ?_; cbv) | (refine call_at hA _ hS2 rfl ?_; cbv) | (refine calm_at hA _ hS2 ?_; cbv))
    try simp (maxSteps := 4000000) only [nc] at *
end Go.Proofs.Ytclehkgnacekkaa.Vm
end
section
namespace Go.Proofs.Ytclehkgnacekkaa.Vm
open Go.RowKit
set_option maxRecDepth 100000
set_option maxHeartbeats 8000000
theorem ma_kids (m : Nat) (g s : Ty) (l : List (Int × Ty)) (hv : ¬ (g.op = 7 ∨ g.op = 10)) (h11 : g.op ≠ 11) (he : g.op = s.op) (hkl : g.kids.length = s.kids.length) (hN : g.kids.length ≤ 1048576)
    (ih : ∀ (k : Nat) (x y : Ty) (l1 : List (Int × Ty)), g.kids[k]? = some x → s.kids[k]? = some y → ((g.kids.zip s.kids).take k).foldlM (fun l p => matchF m p.1 p.2 l) l = some l1 → MatchH m x y l1) : MatchH (m + 1) g s l := by
  have hF := matchF_kids (m := m) (l := l) hv h11 he
  have key : ∀ (sz : Nat) (Lr : List (List D)) (b : Bool), (((g.kids.zip s.kids).foldlM (fun l p => matchF m p.1 p.2 l) l = none ∧ sz = 0 ∧ Lr = [] ∧ b = false) ∨ ∃ l', (g.kids.zip s.kids).foldlM (fun l p => matchF m p.1 p.2 l) l = some l' ∧ sz = 5 ∧ Lr = rB l' ∧ b = true) →
      Spec 48 [.ag (cT g), .ag (cT s), .one (.sl 5 (rB l))] [.one (.sl sz Lr), .one (.sc (.bool b))] := by
    intro sz Lr b hq
    clear hF
    obtain ⟨op, nm, n, ks⟩ := g
    obtain ⟨op2, nm2, n2, ks2⟩ := s
    replace hv : ¬ (op = 7 ∨ op = 10) := hv
    replace h11 : op ≠ 11 := h11
    replace he : op = op2 := he
    subst he
    simp only [Ty.kids] at hkl hN ih hq
    obtain ⟨K, hK⟩ : ∃ K, K = rT ks := ⟨_, rfl⟩
    obtain ⟨K2, hK2⟩ : ∃ K, K = rT ks2 := ⟨_, rfl⟩
    obtain ⟨L0, hL0⟩ : ∃ L, L = rB l := ⟨_, rfl⟩
    rw [cT, cT, ← hK, ← hK2, ← hL0]
    refine spec_of Try.func48 rfl (by kernel_rfl) (by kernel_rfl) (by kernel_rfl) fun aWrap aAdd aSub aMul aQuo aRem aBits aLt aLe aEq aNz aSeq aSlt aBytes aCat aFits aSlen aSget aSsub aNat aLen aGet aSub2 aApp aSet aRoom aMlook aMput aRep aCall aCalld aCallo aNew aLit aKeep aNext aLoop hA => ?_
    obtain ⟨e1, e2, e3, e4, e5, e6, e7, e8, e9⟩ := ar_at hA
    obtain ⟨r1, r2, r3, r4⟩ := row_at hA
    have q7 : aEq op 7 = false := by rw [e9, beq_eq_false_iff_ne]; omega
    have q10 : aEq op 10 = false := by rw [e9, beq_eq_false_iff_ne]; omega
    have q11 : aEq op 11 = false := by rw [e9, beq_eq_false_iff_ne]; omega
    have qs : aEq op op = true := by rw [e9]; exact beq_self_eq_true _
    cbv
    repeat (first | (with_reducible apply next_at hA; cbv) | (rw [q7]; cbv) | (rw [q10]; cbv) | (rw [q11]; cbv) | (rw [qs]; cbv))
    try cbv
    repeat (first | (with_reducible apply next_at hA; cbv) | (rw [q7]; cbv) | (rw [q10]; cbv) | (rw [q11]; cbv) | (rw [qs]; cbv))
    try simp (maxSteps := 4000000) only [nc] at *
    refine loop_at hA (γ := Int × List (List D)) (fun x => [(13, vi .i64 x.1), (2, .d (.sl 5 x.2)), (14, .jk), (82, .jk)]) (fun x => []) (fun x => ∃ (k : Nat) (l1 : List (Int × Ty)), x.1 = (k : Int) ∧ k ≤ ks.length ∧ ((ks.zip ks2).take k).foldlM (fun l p => matchF m p.1 p.2 l) l = some l1 ∧ x.2 = rB l1) (fun x => ks.length - x.1.toNat) (0, L0) ?_ ?_ ?_
    · exact ⟨0, l, rfl, Nat.zero_le _, rfl, hL0⟩
    · cbv
    · intro x hinv
      obtain ⟨z, L⟩ := x
      cbv
      repeat ((with_reducible apply next_at hA); cbv)
      try simp (maxSteps := 4000000) only [nc] at *
      obtain ⟨k, l1, hz, hk, hf, hL⟩ := hinv
      replace hz : z = (k : Int) := hz
      replace hL : L = rB l1 := hL
      have hll : aLen K = ((ks.length : Nat) : Int) := by rw [r1, hK, rT_len]
      have hlt : aLt z (aLen K) = decide (k < ks.length) := by rw [e7, hll, hz]; exact decide_eq_decide.2 (by omega)
      by_cases h9 : k < ks.length
      · rw [decide_eq_true h9] at hlt
        obtain ⟨x, hx⟩ : ∃ x, ks[k]? = some x := ⟨_, List.getElem?_eq_getElem h9⟩
        obtain ⟨y, hy⟩ : ∃ y, ks2[k]? = some y := ⟨_, List.getElem?_eq_getElem (by omega)⟩
        have hzp : (ks.zip ks2)[k]? = some (x, y) := by
          rw [List.getElem?_zip_eq_some]
          exact ⟨hx, hy⟩
        have hstep := fold_step (f := fun l (p : Ty × Ty) => matchF m p.1 p.2 l) (l := l) hzp
        rw [hf, Option.bind_some] at hstep
        obtain ⟨L2, hL2, hS⟩ := ih k x y l1 hx hy hf
        obtain ⟨x0, x1, x2, x3, hxx⟩ := cT_four x
        obtain ⟨y0, y1, y2, y3, hyy⟩ := cT_four y
        have g1 : aGet K z = some [x0, x1, x2, x3] := by rw [r2, hz, if_pos (by omega), hK, show ((k : Int)).toNat = k by omega, rT_get hx, hxx]
        have g2 : aGet K2 z = some [y0, y1, y2, y3] := by rw [r2, hz, if_pos (by omega), hK2, show ((k : Int)).toNat = k by omega, rT_get hy, hyy]
        rw [hxx, hyy, ← hL] at hS
        have hz1 : aWrap .i64 (aAdd z 1) = ((k + 1 : Nat) : Int) := by rw [e1, e2, hz, IntWalk.i64_in _ (by omega)]; omega
        have hmu : ks.length - (aWrap .i64 (aAdd z 1)).toNat < ks.length - z.toNat := by rw [hz1, hz]; omega
        cases hm : matchF m x y l1 with
        | none =>
          simp only [hm] at hstep
          have hnone := fold_none hstep
          rcases hq with ⟨_, rfl, rfl, rfl⟩ | ⟨l', h, _⟩
          · rw [hm, Option.isSome_none] at hS
            rw [hlt]
            cbv
            repeat (first | (with_reducible apply next_at hA; cbv) | (rw [g1]; cbv) | (rw [g2]; cbv) | (refine call_at hA _ hS rfl ?_; cbv) | (refine calm_at hA _ hS ?_; cbv))
            try cbv
            repeat (first | (with_reducible apply next_at hA; cbv) | (rw [g1]; cbv) | (rw [g2]; cbv) | (refine call_at hA _ hS rfl ?_; cbv) | (refine calm_at hA _ hS ?_; cbv))
            try simp (maxSteps := 4000000) only [nc] at *
          · rw [hnone] at h; cases h
        | some l2 =>
          simp only [hm] at hstep
          have hLL := hL2 l2 hm
          rw [hm, Option.isSome_some] at hS
          rw [hlt]
          cbv
          repeat (first | (with_reducible apply next_at hA; cbv) | (rw [g1]; cbv) | (rw [g2]; cbv) | (refine call_at hA _ hS rfl ?_; cbv) | (refine calm_at hA _ hS ?_; cbv))
          try cbv
          repeat (first | (with_reducible apply next_at hA; cbv) | (rw [g1]; cbv) | (rw [g2]; cbv) | (refine call_at hA _ hS rfl ?_; cbv) | (refine calm_at hA _ hS ?_; cbv))
          try simp (maxSteps := 4000000) only [nc] at *
          refine ⟨(aWrap .i64 (aAdd z 1), L2), ⟨k + 1, l2, hz1, h9, hstep, hLL⟩, hmu, ?_⟩
          cbv
      · rw [decide_eq_false h9] at hlt
        rw [List.take_of_length_le (by rw [List.length_zip]; omega)] at hf
        rcases hq with ⟨h, _⟩ | ⟨l', h, rfl, rfl, rfl⟩
        · rw [hf] at h; cases h
        · rw [hf] at h
          injection h with h
          subst h
          rw [hlt, ← hL]
          cbv
          repeat ((with_reducible apply next_at hA); cbv)
  unfold MatchH
  rw [hF]
  cases hr : (g.kids.zip s.kids).foldlM (fun l p => matchF m p.1 p.2 l) l with
  | none => exact ⟨[], fun l' h => (by cases h), em2 5 (key 0 [] false (.inl ⟨hr, rfl, rfl, rfl⟩))⟩
  | some l' => exact ⟨rB l', fun l2 h => (by injection h with h; rw [h]), key 5 (rB l') true (.inr ⟨l', hr, rfl, rfl, rfl⟩)⟩
theorem MatchR_s {W : ByteArray → Bool} : ∀ (m : Nat) (g s : Ty) (l : List (Int × Ty)), g.parts.length ≤ m → m ≤ 1048576 → Both W g s → s.parts.length ≤ 1048576 → l.length + g.parts.length ≤ 4000000 → (∀ p ∈ l, GoodT W p.2) → MatchH m g s l := by
  intro m
  induction m with
  | zero => intro g s l h; have := parts_pos g; omega
  | succ m ih =>
    intro g s l hgm hm hb hs hl hlp
    have hg1 := parts_pos g
    by_cases hv : g.op = 7 ∨ g.op = 10
    · obtain ⟨c, hgc, hsc⟩ := hb
      exact ma_var m g s l hv hs (shape_spineAll hsc) (by omega) fun p hp => ⟨(hlp p hp).1, (hlp p hp).spine⟩
    · by_cases h11 : g.op = 11
      · obtain ⟨c, hgc, hsc⟩ := id hb
        obtain ⟨rfl, a, b, hk, -⟩ := shape_row hgc h11
        have hr := row_both hb h11 hk
        have hsp := (shape_spineAll hsc).self
        rcases first_range ((sortS ltF (fieldsS s)).map (·.1)) g.name 0 with hi | ⟨i, hi, -, -⟩
        · exact ma_no m g s l h11 hs hsp (by omega)
        · rw [Nat.zero_add] at hi
          obtain ⟨f, hf, hfp, hfm, -⟩ := row_field hsp hi
          have hka := (kids_le g).2 a (by rw [hk]; simp)
          have hkb := (kids_le g).2 b (by rw [hk]; simp)
          have hpg : g.parts.length = 1 + a.parts.length + b.parts.length := by
            rw [parts_kids, hk]
            simp only [List.length_cons, List.flatMap_cons, List.flatMap_nil, List.append_nil, List.length_append]
            omega
          refine ma_row m g s a b l i f h11 hk hs hsp hi hf (ih a f.2 l (by omega) (by omega) (hr.2.1 f hfm) (Nat.le_trans (part_len hfp) hs) (by omega) hlp) fun l1 h1 => ?_
          have i1 := matchF_inv m a f.2 l l1 (hr.2.1 f hfm) (Nat.le_trans (part_len hfp) hs) h1
          exact ih b _ l1 (by omega) (by omega) (hr.2.2 i) (Nat.le_trans (rest_parts hsp i) hs) (by omega) fun p hp => (i1.2 p hp).elim (hlp p) id
      · by_cases he : g.op = s.op
        · have hk := hb.kids he
          have hkl := kids_le g
          refine ma_kids m g s l hv h11 he hk.1 (by omega) fun k x y l1 hx hy hf => ?_
          have hkk := (List.getElem?_eq_some_iff.1 hx).1
          have hxm := hkl.2 x (List.mem_of_getElem? hx)
          have hym := (kids_le s).2 y (List.mem_of_getElem? hy)
          have i1 := fold_inv hb hs he k (by omega) l1 hf
          have hsn := (partsL_snoc g.kids k _ hx).2
          have hle : ((g.kids.take (k + 1)).flatMap Ty.parts).length ≤ g.parts.length := by
            have h1 : (g.kids.flatMap Ty.parts).length = ((g.kids.take (k + 1)).flatMap Ty.parts).length + ((g.kids.drop (k + 1)).flatMap Ty.parts).length := by
              rw [← List.length_append, ← List.flatMap_append, List.take_append_drop]
            rw [parts_kids, List.length_cons]
            omega
          rw [hsn, List.length_append] at hle
          exact ih x y l1 (by omega) (by omega) (hk.2 k x y hx hy) (by omega) (by omega) fun p hp => (i1.2 p hp).elim (hlp p) id
        · exact ma_ne m g s l hv h11 he
end Go.Proofs.Ytclehkgnacekkaa.Vm
end
section
namespace Go.Proofs.Ytclehkgnacekkaa.Vm
open Go.RowKit
set_option maxRecDepth 100000
set_option maxHeartbeats 8000000
theorem em_arg {f : Nat} {a b : R} {n : Nat} (m : Nat) {q : List R} (h : Spec f [a, b, .one (.sl n [])] q) : Spec f [a, b, .one (.sl m [])] q := ⟨h.1, fun I w args hlt hat => h.2 I w args hlt (by
  match args, hat with
  | [v1, v2, v3], ⟨h1, h2, h3, h4⟩ => exact ⟨h1, h2, atD_em n h3, h4⟩)⟩
theorem keys_cB (l : List (Int × Ty)) : keys (cB l) = keys l := by unfold keys cB; rw [List.map_map]; rfl
theorem match_nodup {W : ByteArray → Bool} {m : Nat} {g s : Ty} {l : List (Int × Ty)} (hb : Both W g s) (h : matchF m g s [] = some l) : (keys l).Nodup := by
  have h1 := match_canon m g s [] hb
  rw [h] at h1
  have h2 := matchC_kept m g (canonS s) (cB []) (cB l) h1.symm
  have h3 := h2.1 (by simp [keys, cB])
  rw [keys_cB] at h3
  exact h3
theorem pick_le {l : List (Int × Ty)} (h : (keys l).Nodup) (n : Int) : (pickB l n).length ≤ 1 := by
  unfold pickB
  rw [List.length_map]
  by_cases hn : n ∈ keys l
  · obtain ⟨x, _, h2⟩ := pick_one h hn
    rw [h2]
    exact Nat.le_refl _
  · have : l.filter (fun p => p.1 == n) = [] := List.filter_eq_nil_iff.2 fun p hp he => hn (by
      rw [beq_iff_eq] at he
      exact List.mem_map.2 ⟨p, hp, he⟩)
    rw [this]
    exact Nat.zero_le _
theorem rB_app (a b : List (Int × Ty)) : rB (a ++ b) = rB a ++ rB b := by unfold rB; rw [List.map_append]
theorem varsS_len {t : Ty} (ht : t.parts.length ≤ 1048576) (hst : ∀ x ∈ t.parts, Spine x) : (varsS t).length ≤ 1048576 := by
  have hp := canon_len _ t (Nat.le_refl _) hst
  have h1 := varsL_len (canonS t).parts []
  rw [List.length_nil] at h1
  show (varsL (canonS t).parts []).length ≤ _
  omega
theorem Matched_s {W : ByteArray → Bool} (g s : Ty) (hb : Both W g s) (hg : g.parts.length ≤ 1048576) (hs : s.parts.length ≤ 1048576) : Spec 15 [.ag (cT g), .ag (cT s)] [.one (.sl 5 (rB ((matchedS g s).getD []))), .one (.sc (.bool (matchedS g s).isSome))] := by
  obtain ⟨c, hgc, hsc⟩ := id hb
  obtain ⟨L0, hL0, hM⟩ := MatchR_s (W := W) g.parts.length g s [] (Nat.le_refl _) hg hb hs (by simp; omega) (by simp)
  have hM := em_arg 0 hM
  have hV := Vars_s g hg (shape_spineAll hgc)
  have hvl := varsS_len hg (shape_spineAll hgc)
  obtain ⟨g0, g1, g2, g3, hgg⟩ := cT_four g
  obtain ⟨s0, s1, s2, s3, hss⟩ := cT_four s
  rw [hgg, hss] at hM
  rw [hgg] at hV
  rw [hgg, hss]
  cases hm : matchF g.parts.length g s [] with
  | none =>
    have hmm : matchedS g s = none := by unfold matchedS; rw [hm]; rfl
    rw [hm, Option.isSome_none] at hM
    rw [hmm]
    refine em2 (n := 0) 5 ?_
    show Spec _ _ [.one (.sl 0 []), .one (.sc (.bool false))]
    refine spec_of Try.func15 rfl (by kernel_rfl) (by kernel_rfl) (by kernel_rfl) fun aWrap aAdd aSub aMul aQuo aRem aBits aLt aLe aEq aNz aSeq aSlt aBytes aCat aFits aSlen aSget aSsub aNat aLen aGet aSub2 aApp aSet aRoom aMlook aMput aRep aCall aCalld aCallo aNew aLit aKeep aNext aLoop hA => ?_
    cbv
    repeat (first | (with_reducible apply next_at hA; cbv) | (refine call_at hA _ hM rfl ?_; cbv) | (refine calm_at hA _ hM ?_; cbv))
    try cbv
    repeat (first | (with_reducible apply next_at hA; cbv) | (refine call_at hA _ hM rfl ?_; cbv) | (refine calm_at hA _ hM ?_; cbv))
    try simp (maxSteps := 4000000) only [nc] at *
  | some l =>
    have hmm : matchedS g s = some ((varsS g).flatMap (pickB l)) := by unfold matchedS; rw [hm]; rfl
    have hLL := hL0 l hm
    have hnd := match_nodup hb hm
    have hinv := matchF_inv _ g s [] l hb hs hm
    have hll : l.length ≤ 1048576 := by have := hinv.1; simp at this; omega
    have hlp : ∀ p ∈ l, GoodT W p.2 := fun p hp => (hinv.2 p hp).elim (fun h => by simp at h) id
    rw [hm, Option.isSome_some] at hM
    rw [hmm, Option.getD_some, Option.isSome_some]
    generalize hvs : varsS g = vs at *
    obtain ⟨Vv, hVv⟩ : ∃ Q, Q = rI vs := ⟨_, rfl⟩
    obtain ⟨Q, hQ⟩ : ∃ Q, Q = rB (vs.flatMap (pickB l)) := ⟨_, rfl⟩
    rw [← hVv] at hV
    rw [← hQ]
    refine spec_of Try.func15 rfl (by kernel_rfl) (by kernel_rfl) (by kernel_rfl) fun aWrap aAdd aSub aMul aQuo aRem aBits aLt aLe aEq aNz aSeq aSlt aBytes aCat aFits aSlen aSget aSsub aNat aLen aGet aSub2 aApp aSet aRoom aMlook aMput aRep aCall aCalld aCallo aNew aLit aKeep aNext aLoop hA => ?_
    cbv
    repeat (first | (refine own_at hA 8 38 true rfl ?_; cbv) | (with_reducible apply next_at hA; cbv) | (refine call_at hA _ hM rfl ?_; cbv) | (refine call_at hA _ hV rfl ?_; cbv))
    obtain ⟨e1, e2, e3, e4, e5, e6, e7, e8, e9⟩ := ar_at hA
    obtain ⟨r1, r2, r3, r4⟩ := row_at hA
    have hlV : aLen Vv = ((vs.length : Nat) : Int) := by rw [r1, hVv, rI_len]
    have hlL : aLen L0 = ((l.length : Nat) : Int) := by rw [r1, hLL, rB_len]
    refine loop_at hA (γ := Int × List (List D)) (fun x => [(10, vi .i64 x.1), (8, .own 2), (12, .jk), (15, .jk)]) (fun x => [(2, .row true 38 x.2)]) (fun x => ∃ i : Nat, x.1 = (i : Int) ∧ i ≤ vs.length ∧ x.2 = rB ((vs.take i).flatMap (pickB l))) (fun x => vs.length - x.1.toNat) (0, []) ?_ ?_ ?_
    · exact ⟨0, rfl, Nat.zero_le _, rfl⟩
    · cbv
    · intro x hinv
      obtain ⟨z, M0⟩ := x
      cbv
      repeat ((with_reducible apply next_at hA); cbv)
      try simp (maxSteps := 4000000) only [nc] at *
      obtain ⟨i, hz, hi, hM0⟩ := hinv
      replace hz : z = (i : Int) := hz
      replace hM0 : M0 = rB ((vs.take i).flatMap (pickB l)) := hM0
      have hlt : aLt z (aLen Vv) = decide (i < vs.length) := by rw [e7, hlV, hz]; exact decide_eq_decide.2 (by omega)
      by_cases h9 : i < vs.length
      · rw [decide_eq_true h9] at hlt
        obtain ⟨v, hv⟩ : ∃ v, vs[i]? = some v := ⟨_, List.getElem?_eq_getElem h9⟩
        have gv : aGet Vv z = some [.sc (.int .i64 v)] := by rw [r2, hz, if_pos (by omega), hVv, show ((i : Int)).toNat = i by omega, rI_get hv]
        have hz1 : aWrap .i64 (aAdd z 1) = ((i + 1 : Nat) : Int) := by rw [e1, e2, hz, IntWalk.i64_in _ (by omega)]; omega
        have hmu : vs.length - (aWrap .i64 (aAdd z 1)).toNat < vs.length - z.toNat := by rw [hz1, hz]; omega
        have hM0l : M0.length ≤ 1048576 := by
          have h := flat_len_le (pickB l) 1 (vs.take i) fun x _ => pick_le hnd x
          rw [List.length_take] at h
          rw [hM0, rB_len]
          omega
        have hnext : rB ((vs.take i).flatMap (pickB l) ++ pickB l v) = rB ((vs.take (i + 1)).flatMap (pickB l)) := by
          rw [take_one' hv, List.flatMap_append, List.flatMap_cons, List.flatMap_nil, List.append_nil]
        rw [hlt]
        cbv
        repeat ((with_reducible apply next_at hA); cbv)
        refine loop_at hA (γ := Int × List (List D)) (fun x => [(11, vi .i64 x.1), (8, .own 2)]) (fun x => [(2, .row true 38 x.2)]) (fun x => ∃ j : Nat, x.1 = (j : Int) ∧ j ≤ l.length ∧ x.2 = rB ((vs.take i).flatMap (pickB l) ++ pickB (l.take j) v)) (fun x => l.length - x.1.toNat) (0, M0) ?_ ?_ ?_
        · exact ⟨0, rfl, Nat.zero_le _, by show M0 = _; rw [hM0]; simp [pickB]⟩
        · cbv
        · intro x hinv2
          obtain ⟨y, M⟩ := x
          cbv
          repeat ((with_reducible apply next_at hA); cbv)
          try simp (maxSteps := 4000000) only [nc] at *
          obtain ⟨j, hy, hj, hMM⟩ := hinv2
          replace hy : y = (j : Int) := hy
          replace hMM : M = rB ((vs.take i).flatMap (pickB l) ++ pickB (l.take j) v) := hMM
          have hlt2 : aLt y (aLen L0) = decide (j < l.length) := by rw [e7, hlL, hy]; exact decide_eq_decide.2 (by omega)
          by_cases h8 : j < l.length
          · rw [decide_eq_true h8] at hlt2
            obtain ⟨p, hp⟩ : ∃ p, l[j]? = some p := ⟨_, List.getElem?_eq_getElem h8⟩
            have hstep := pick_step hp v
            have hpg := hlp p (List.mem_of_getElem? hp)
            have hC := canon_s _ p.2 (Nat.le_refl _) hpg.1 hpg.spine
            obtain ⟨pn, pt⟩ := p
            obtain ⟨c0, c1, c2, c3, hc⟩ := cT_four pt
            obtain ⟨d0, d1, d2, d3, hd⟩ := cT_four (canonS pt)
            simp only at hC hstep
            rw [hc, hd] at hC
            have gl : aGet L0 y = some [.sc (.int .i64 pn), c0, c1, c2, c3] := by rw [r2, hy, if_pos (by omega), hLL, show ((j : Int)).toNat = j by omega, rB_get hp, hc]
            have heq : aEq pn v = (pn == v) := e9 _ _
            have hy1 : aWrap .i64 (aAdd y 1) = ((j + 1 : Nat) : Int) := by rw [e1, e2, hy, IntWalk.i64_in _ (by omega)]; omega
            have hmu2 : l.length - (aWrap .i64 (aAdd y 1)).toNat < l.length - y.toNat := by rw [hy1, hy]; omega
            have hMl : M.length ≤ 2097152 := by
              have h := flat_len_le (pickB l) 1 (vs.take i) fun x _ => pick_le hnd x
              have h' : (pickB (l.take j) v).length ≤ 1 := pick_le (by
                have : keys (l.take j) = (keys l).take j := by unfold keys; rw [List.map_take]
                rw [this]
                exact hnd.sublist (List.take_sublist _ _)) v
              rw [List.length_take] at h
              rw [hMM, rB_len, List.length_append]
              omega
            cases hpn : (pn == v)
            · rw [hpn] at heq hstep
              rw [if_neg (by simp)] at hstep
              rw [hlt2]
              cbv
              repeat (first | (with_reducible apply next_at hA; cbv) | (rw [gl]; cbv) | (rw [gv]; cbv) | (rw [heq]; cbv))
              try cbv
              repeat (first | (with_reducible apply next_at hA; cbv) | (rw [gl]; cbv) | (rw [gv]; cbv) | (rw [heq]; cbv))
              try simp (maxSteps := 4000000) only [nc] at *
              refine ⟨(aWrap .i64 (aAdd y 1), M), ⟨j + 1, hy1, h8, by rw [hstep]; exact hMM⟩, hmu2, ?_⟩
              cbv
            · rw [hpn] at heq hstep
              rw [if_pos rfl] at hstep
              have hadd : aApp M [[.sc (.int .i64 v), d0, d1, d2, d3]] = rB ((vs.take i).flatMap (pickB l) ++ pickB (l.take (j + 1)) v) := by
                rw [r4, hstep, ← List.append_assoc, rB_snoc, hMM, hd]
              rw [hlt2]
              cbv
              repeat (first | (with_reducible apply next_at hA; cbv) | (rw [gl]; cbv) | (rw [gv]; cbv) | (rw [heq]; cbv) | (refine call_at hA _ hC rfl ?_; cbv) | (refine calm_at hA _ hC ?_; cbv) | (refine room_at hA (by simp only [List.length_cons, List.length_nil]; omega) ?_; cbv))
              try cbv
              repeat (first | (with_reducible apply next_at hA; cbv) | (rw [gl]; cbv) | (rw [gv]; cbv) | (rw [heq]; cbv) | (refine call_at hA _ hC rfl ?_; cbv) | (refine calm_at hA _ hC ?_; cbv) | (refine room_at hA (by simp only [List.length_cons, List.length_nil]; omega) ?_; cbv))
              try simp (maxSteps := 4000000) only [nc] at *
              refine ⟨(aWrap .i64 (aAdd y 1), aApp M [[.sc (.int .i64 v), d0, d1, d2, d3]]), ⟨j + 1, hy1, h8, hadd⟩, hmu2, ?_⟩
              cbv
          · rw [decide_eq_false h8] at hlt2
            rw [show l.take j = l from List.take_of_length_le (by omega), hnext] at hMM
            rw [hlt2]
            cbv
            repeat ((with_reducible apply next_at hA); cbv)
            refine ⟨(aWrap .i64 (aAdd z 1), M), ⟨i + 1, hz1, h9, hMM⟩, hmu, ?_⟩
            cbv
      · rw [decide_eq_false h9] at hlt
        have hMQ : M0 = Q := by rw [hM0, List.take_of_length_le (by omega), hQ]
        rw [hlt]
        cbv
        repeat ((with_reducible apply next_at hA); cbv)
        exact ⟨by rw [hMQ], trivial⟩
end Go.Proofs.Ytclehkgnacekkaa.Vm
end
section
namespace Go.Proofs.Ytclehkgnacekkaa.Vm
open Go.RowKit
set_option maxRecDepth 100000
set_option maxHeartbeats 8000000
theorem filter_flat {α β : Type} {f : α → Option β} {h : α → List β} : ∀ {l : List α}, (∀ x ∈ l, ∃ y, f x = some y ∧ h x = [y]) → l.filterMap f = l.flatMap h
  | [], _ => rfl
  | x :: l, hx => by
    obtain ⟨y, h1, h2⟩ := hx x (List.mem_cons_self ..)
    rw [List.filterMap_cons, h1, List.flatMap_cons, h2, filter_flat fun z hz => hx z (List.mem_cons_of_mem _ hz)]
    rfl
theorem pick_cB (l : List (Int × Ty)) (n : Int) : pickB l n = (cB l).filter fun p => p.1 == n := by
  unfold pickB cB
  induction l with
  | nil => rfl
  | cons p l ih =>
    rw [List.map_cons, List.filter_cons, List.filter_cons]
    cases h : p.1 == n with
    | false => simpa using ih
    | true =>
      rw [beq_iff_eq] at h
      simp only [if_true, List.map_cons, ih, h]
theorem match_same {g s : Ty} (hg : rightB g 116 = true) (hs : rightB s 116 = true) : matchR g s = matchedS (canonS g) s ∧ ∀ c, matchR g s = some c → ∀ p ∈ c, ∃ t, p.2 = canonS t ∧ ∃ l, matchF (canonS g).parts.length (canonS g) s [] = some l ∧ ∃ n, (n, t) ∈ l := by
  have sg := (right_shape hg).1
  have ss := (right_shape hs).1
  have cg := canon_shape _ g 116 (Nat.le_refl _) sg
  have cs := canon_shape _ s 116 (Nat.le_refl _) ss
  have ig := canon_idem _ g 116 (Nat.le_refl _) sg
  have is := canon_idem _ s 116 (Nat.le_refl _) ss
  have ht : typS g s = matchC (canonS g).parts.length (canonS g) (canonS s) [] := types_match _ (canonS g) (canonS s) [] (canonS g).parts.length cg cs ig is (Nat.le_refl _) (Nat.le_refl _)
  have hc := match_canon (canonS g).parts.length (canonS g) s [] ⟨116, cg, ss⟩
  have hvs : varsS (canonS g) = varsS g := by show varsL (canonS (canonS g)).parts [] = varsL (canonS g).parts []; rw [ig]
  have h0 : cB [] = [] := rfl
  rw [h0] at hc
  unfold matchR
  rw [if_pos ⟨hg, hs⟩, ht, ← hc]
  unfold matchedS
  cases hm : matchF (canonS g).parts.length (canonS g) s [] with
  | none => exact ⟨rfl, fun c h => by cases h⟩
  | some l =>
    rw [hm] at hc
    have htl : typS g s = some (cB l) := by rw [ht, ← hc]; rfl
    have hk := typ_keys hg hs htl
    have hnd : (keys (cB l)).Nodup := by rw [keys_cB]; exact match_nodup ⟨116, cg, ss⟩ hm
    have hb : binds g (cB l) = (varsS g).flatMap (pickB l) := by
      unfold binds
      refine filter_flat fun n hn => ?_
      obtain ⟨x, h1, h2⟩ := pick_one hnd (hk n hn)
      exact ⟨(n, x), h1, by rw [pick_cB, h2]⟩
    rw [hvs]
    refine ⟨?_, fun c h p hp => ?_⟩
    · show some (binds g (cB l)) = some _
      rw [hb]
    · injection h with h
      rw [← h, hb] at hp
      obtain ⟨n, _, hp⟩ := List.mem_flatMap.1 hp
      unfold pickB at hp
      obtain ⟨q, hq, rfl⟩ := List.mem_map.1 hp
      exact ⟨q.2, rfl, l, rfl, q.1, (List.mem_filter.1 hq).1⟩
theorem many_s (t : Ty) (ht : t.parts.length ≤ 1048576) : Spec 11 [.ag (cT t)] [.one (.sc (.bool (decide (200 < t.parts.length))))] := by
  have h1 := Parts_s t ht
  obtain ⟨a0, a1, a2, a3, ha⟩ := cT_four t
  rw [ha] at h1 ⊢
  obtain ⟨P, hP⟩ : ∃ P, P = rT t.parts := ⟨_, rfl⟩
  have hl : P.length = t.parts.length := by rw [hP, rT_len]
  rw [← hP] at h1
  generalize hb : decide (200 < t.parts.length) = b
  refine spec_of Try.func11 rfl (by kernel_rfl) (by kernel_rfl) (by kernel_rfl) fun aWrap aAdd aSub aMul aQuo aRem aBits aLt aLe aEq aNz aSeq aSlt aBytes aCat aFits aSlen aSget aSsub aNat aLen aGet aSub2 aApp aSet aRoom aMlook aMput aRep aCall aCalld aCallo aNew aLit aKeep aNext aLoop hA => ?_
  have q1 : aLt 200 (aLen P) = b := by
    obtain ⟨e1, e2, e3, e4, e5, e6, e7, e8, e9⟩ := ar_at hA
    obtain ⟨r1, r2, -⟩ := row_at hA
    rw [e7, r1, hl, ← hb]
    exact decide_eq_decide.2 (by omega)
  cbv
  repeat (first | (with_reducible apply next_at hA; cbv) | (rw [q1]; cbv) | (refine call_at hA _ h1 rfl ?_; cbv) | (refine calm_at hA _ h1 ?_; cbv))
  try cbv
  repeat (first | (with_reducible apply next_at hA; cbv) | (rw [q1]; cbv) | (refine call_at hA _ h1 rfl ?_; cbv) | (refine calm_at hA _ h1 ?_; cbv))
  try simp (maxSteps := 4000000) only [nc] at *
end Go.Proofs.Ytclehkgnacekkaa.Vm
end
section
namespace Go.Proofs.Ytclehkgnacekkaa.Vm
open Go.RowKit
def unTys (g : List D → Option (Ty × Nat)) : List (List D) → Option (List Ty × Nat)
  | [] => some ([], 0)
  | r :: rs => match g r with
    | some (t, m) => match unTys g rs with
      | some (ts, k) => some (t :: ts, m + k)
      | none => none
    | none => none
def unTy : Nat → List D → Option (Ty × Nat)
  | 0, _ => none
  | f + 1, [.sc (.int .u8 op), .sc (.string nm), .sc (.int .i64 n), .sl sz rows] => match rows with
    | [] => some (.mk op nm n [], 1)
    | r :: rs => match natEq sz 4 with
      | true => match unTys (unTy f) (r :: rs) with
        | some (ks, m) => some (.mk op nm n ks, m + 1)
        | none => none
      | false => none
  | _ + 1, _ => none
def Alike2 (ds es : List D) : Prop := ∀ (I : Nat → Nat → Prop) (w : World) (us : List Value), AtDs I w us ds → AtDs I w us es
theorem alike2_refl (ds : List D) : Alike2 ds ds := fun _ _ _ h => h
theorem alike2_len {ds es : List D} {I : Nat → Nat → Prop} {w : World} {us : List Value} (h : Alike2 ds es) (h2 : AtDs I w us ds) : ds.length = es.length := h2.1.symm.trans (h I w us h2).1
theorem slice_alike {sz : Nat} {rows rows' : List (List D)} (hl : rows.length = rows'.length) (hr : ∀ (i : Nat) (r r' : List D), rows[i]? = some r → rows'[i]? = some r' → Alike2 r r' ∧ r'.length = sz) {I : Nat → Nat → Prop} {w : World} {v : Value} (h : AtD I w v (.sl sz rows)) : AtD I w v (.sl sz rows') := by
  cases h with
  | nil A cap => rw [List.eq_nil_of_length_eq_zero (l := rows') (by simpa using hl.symm)]; exact .nil _ _ _
  | sl b off cap _ _ us hcap hI hrl hl2 hc hd =>
    have hrl' : ∀ r ∈ rows', r.length = sz := fun r hr' => by
      obtain ⟨i, hi⟩ := List.mem_iff_getElem?.1 hr'
      have hlt : i < rows.length := by rw [hl]; exact (List.getElem?_eq_some_iff.1 hi).1
      exact (hr i _ r (List.getElem?_eq_getElem hlt) hi).2
    rw [hl]
    refine .sl b off cap sz rows' us (by rw [← hl]; exact hcap) (by rw [← hl]; exact hI) hrl' (by rw [← hl]; exact hl2) hc fun i u d hu hdd => ?_
    have hi : i < rows.length * sz := by rw [← hl2]; exact (List.getElem?_eq_some_iff.1 hu).1
    rcases Nat.eq_zero_or_pos sz with h0 | hpos
    · rw [h0, Nat.mul_zero] at hi; omega
    have hq : i / sz < rows.length := (Nat.div_lt_iff_lt_mul hpos).2 hi
    have hm : i % sz < sz := Nat.mod_lt _ hpos
    have ei : i / sz * sz + i % sz = i := by rw [Nat.mul_comm]; exact Nat.div_add_mod i _
    obtain ⟨r, hr1⟩ : ∃ r, rows[i / sz]? = some r := ⟨_, List.getElem?_eq_getElem hq⟩
    obtain ⟨r', hr2⟩ : ∃ r', rows'[i / sz]? = some r' := ⟨_, List.getElem?_eq_getElem (by omega)⟩
    have hal := (hr _ r r' hr1 hr2).1
    have hcs : AtDs I w ((us.drop (i / sz * sz)).take sz) r := by
      refine ⟨?_, fun j u d hu hd' => ?_⟩
      · have h1 := hrl r (List.mem_of_getElem? hr1)
        rw [h1, List.length_take, List.length_drop, hl2]
        have : (i / sz + 1) * sz ≤ rows.length * sz := Nat.mul_le_mul_right _ hq
        rw [Nat.add_mul] at this
        omega
      · have hj : j < sz := by
          have := (List.getElem?_eq_some_iff.1 hu).1
          rw [List.length_take] at this
          omega
        rw [List.getElem?_take_of_lt hj, List.getElem?_drop] at hu
        refine hd (i / sz * sz + j) u d hu ?_
        rw [flat_get hrl hr1 hj]
        exact hd'
    have h2 := hal I w _ hcs
    have hu2 : ((us.drop (i / sz * sz)).take sz)[i % sz]? = some u := by rw [List.getElem?_take_of_lt hm, List.getElem?_drop, ei]; exact hu
    have hd2 : r'[i % sz]? = some d := by rw [← hdd, ← flat_get hrl' hr2 hm, ei]
    exact h2.2 _ u d hu2 hd2
theorem unTy_s : ∀ (f : Nat),  (∀ (ds : List D) (t : Ty) (m : Nat), unTy f ds = some (t, m) → Alike2 ds (cT t) ∧ t.parts.length = m) ∧ ∀ (rows : List (List D)) (ts : List Ty) (m : Nat), unTys (unTy f) rows = some (ts, m) → rows.length = ts.length ∧ (partsL ts).length = m ∧ ∀ (i : Nat) (r r' : List D), rows[i]? = some r → (rT ts)[i]? = some r' → Alike2 r r' ∧ r'.length = 4 := by
  intro f
  induction f with
  | zero =>
    refine ⟨fun ds t m h => (by simp [unTy] at h), fun rows => ?_⟩
    cases rows with
    | nil => intro ts m h; rw [unTys] at h; cases h; exact ⟨rfl, by rw [partsL]; rfl, fun i r r' h => by simp at h⟩
    | cons r rs => intro ts m h; simp [unTys, unTy] at h
  | succ f ih =>
    have h1 : ∀ (ds : List D) (t : Ty) (m : Nat), unTy (f + 1) ds = some (t, m) → Alike2 ds (cT t) ∧ t.parts.length = m := by
      intro ds t m h
      unfold unTy at h
      split at h
      · cases h
      · rename_i fx op nm n sz rows ef
        cases ef
        split at h
        · cases h
          refine ⟨fun I w us hu => ?_, by rw [Ty.parts, partsL]; rfl⟩
          obtain ⟨u0, us0, rfl, a0, hu⟩ := hu.uncons
          obtain ⟨u1, us1, rfl, a1, hu⟩ := hu.uncons
          obtain ⟨u2, us2, rfl, a2, hu⟩ := hu.uncons
          obtain ⟨u3, us3, rfl, a3, hu⟩ := hu.uncons
          rw [cT, rT]
          refine AtDs.cons a0 (AtDs.cons a1 (AtDs.cons a2 (AtDs.cons ?_ hu)))
          cases a3 with
          | nil A cap => exact .nil _ _ _
          | sl b off cap _ _ us hcap hI hrl hl2 hc hd => exact .nil _ _ _
        · rename_i r rs
          split at h
          · rename_i hsz
            have hsz := natEq_eq hsz
            subst hsz
            split at h
            · rename_i ks k hk
              cases h
              obtain ⟨e1, e2, e3⟩ := ih.2 _ _ _ hk
              refine ⟨fun I w us hu => ?_, by rw [Ty.parts, List.length_cons, e2]⟩
              obtain ⟨u0, us0, rfl, a0, hu⟩ := hu.uncons
              obtain ⟨u1, us1, rfl, a1, hu⟩ := hu.uncons
              obtain ⟨u2, us2, rfl, a2, hu⟩ := hu.uncons
              obtain ⟨u3, us3, rfl, a3, hu⟩ := hu.uncons
              rw [cT]
              exact AtDs.cons a0 (AtDs.cons a1 (AtDs.cons a2 (AtDs.cons (slice_alike (by rw [rT_len]; exact e1) e3 a3) hu)))
            · cases h
          · cases h
      · cases h
    refine ⟨h1, ?_⟩
    intro rows
    induction rows with
    | nil => intro ts m h; rw [unTys] at h; cases h; exact ⟨rfl, by rw [partsL]; rfl, fun i r r' h => by simp at h⟩
    | cons r rs ihr =>
      intro ts m h
      rw [unTys] at h
      split at h
      · rename_i t m1 ht
        split at h
        · rename_i ts' k hts
          cases h
          obtain ⟨e1, e2, e3⟩ := ihr _ _ hts
          obtain ⟨a1, a2⟩ := h1 _ _ _ ht
          refine ⟨by simp [e1], by rw [partsL, List.length_append, a2, e2], fun i r1 r2 hr1 hr2 => ?_⟩
          cases i with
          | zero =>
            simp at hr1
            subst hr1
            rw [rT] at hr2
            simp at hr2
            subst hr2
            refine ⟨a1, ?_⟩
            obtain ⟨op, nm, n, ks⟩ := t
            rw [cT]; rfl
          | succ i => rw [rT] at hr2; exact e3 i r1 r2 (by simpa using hr1) (by simpa using hr2)
        · cases h
      · cases h
theorem Spec.alike {f : Nat} {rs rs' q : List R} (h : Spec f rs' q) (ha : ∀ I w vs, AtRs I w vs rs → AtRs I w vs rs') : Spec f rs q := ⟨h.1, fun I w args hI hat => h.2 I w args hI (ha I w args hat)⟩
def copiedPF : List R → Option (List R)
  | [.ag ds] => match unTy 60 ds with
    | some (t, m) => match Nat.ble m 1048576 with
      | true => some [.ag (cT t)]
      | false => none
    | none => none
  | _ => none
theorem atR_ag {I : Nat → Nat → Prop} {w : World} {v : Value} {ds es : List D} (ha : Alike2 ds es) (h : AtR I w v (.ag ds)) : AtR I w v (.ag es) := by
  obtain ⟨us, e, hu⟩ := h
  exact ⟨us, e, ha I w us hu⟩
theorem copied_pure (rs q : List R) (h : copiedPF rs = some q) : Spec 113 rs q := by
  unfold copiedPF at h
  split at h
  · rename_i ds
    split at h
    · rename_i t m ht
      split at h
      · rename_i hm
        cases h
        obtain ⟨h1, h2⟩ := (unTy_s 60).1 _ _ _ ht
        refine (copied_s t (by rw [h2]; exact Nat.le_of_ble_eq_true hm)).alike fun I w vs hv => ?_
        match vs, hv with
        | [v], hv => exact ⟨atR_ag h1 hv.1, trivial⟩
      · cases h
    · cases h
  · cases h
def unFs : List (List D) → Option (List (ByteArray × Ty) × Nat)
  | [] => some ([], 0)
  | (.sc (.string nm) :: ds) :: rs => match unTy 60 ds with
    | some (t, m) => match Nat.ble m 1048576 with
      | true => match unFs rs with
        | some (fs, k) => some ((nm, t) :: fs, k + 1)
        | none => none
      | false => none
    | none => none
  | _ :: _ => none
theorem unFs_s : ∀ (rows : List (List D)) (fs : List (ByteArray × Ty)) (k : Nat), unFs rows = some (fs, k) → rows.length = fs.length ∧ fs.length = k ∧ (∀ f ∈ fs, f.2.parts.length ≤ 1048576) ∧ ∀ (i : Nat) (r r' : List D), rows[i]? = some r → (rF fs)[i]? = some r' → Alike2 r r' ∧ r'.length = 5
  | [], fs, k, h => by rw [unFs] at h; cases h; exact ⟨rfl, rfl, fun f hf => by simp at hf, fun i r r' h => by simp at h⟩
  | r :: rs, fs, k, h => by
    unfold unFs at h
    split at h
    · rename_i e; cases e
    · rename_i nm ds rs' e
      cases e
      split at h
      · rename_i t m ht
        split at h
        · rename_i hm
          split at h
          · rename_i fs' k' hfs
            cases h
            obtain ⟨e1, e2, e3, e4⟩ := unFs_s _ _ _ hfs
            obtain ⟨a1, a2⟩ := (unTy_s 60).1 _ _ _ ht
            refine ⟨by simp [e1], by simp [e2], fun f hf => ?_, fun i r1 r2 h1 h2 => ?_⟩
            · rcases List.mem_cons.1 hf with rfl | hf
              · show t.parts.length ≤ _
                rw [a2]; exact Nat.le_of_ble_eq_true hm
              · exact e3 f hf
            · cases i with
              | zero =>
                simp at h1
                subst h1
                simp [rF] at h2
                subst h2
                refine ⟨fun I w us hu => ?_, ?_⟩
                · obtain ⟨u0, us0, rfl, a0, hu⟩ := hu.uncons
                  exact AtDs.cons a0 (a1 I w us0 hu)
                · obtain ⟨op, nm, n, ks⟩ := t
                  rw [cT]; rfl
              | succ i => exact e4 i r1 r2 (by simpa using h1) (by simpa [rF] using h2)
          · cases h
        · cases h
      · cases h
    · cases h
def joinPF : List R → Option (List R)
  | [.one (.sl sz rows), .ag tl] => match unFs rows with
    | some (fs, k) => match Nat.ble k 1000000, unTy 60 tl with
      | true, some (t, m) => match Nat.ble m 1048576 with
        | true => match fs with
          | [] => some [.ag (cT t)]
          | f :: fs => match natEq sz 5 with
            | true => some [.ag (joinD (rF (f :: fs)) (cT t))]
            | false => none
        | false => none
      | _, _ => none
    | none => none
  | _ => none
theorem join_ty (fs : List (ByteArray × Ty)) (t : Ty) (hk : fs.length ≤ 1000000) (hf : ∀ f ∈ fs, f.2.parts.length ≤ 1048576) (ht : t.parts.length ≤ 1048576) : Spec 63 [.one (.sl 5 (rF fs)), .ag (cT t)] [.ag (joinD (rF fs) (cT t))] := by
  have hc := copied_s t ht
  obtain ⟨op, nm, n, ks⟩ := t
  rw [cT] at hc ⊢
  refine join_s (rF fs) _ _ _ _ (by rw [rF, List.length_map]; omega) hc fun r hr => ?_
  rw [rF, List.mem_map] at hr
  obtain ⟨f, hf1, rfl⟩ := hr
  have hc2 := copied_s f.2 (hf f hf1)
  obtain ⟨nm, t⟩ := f
  obtain ⟨op, nm2, n, ks⟩ := t
  simp only at hc2 ⊢
  rw [cT] at hc2 ⊢
  exact ⟨_, _, _, _, _, rfl, hc2⟩
theorem join_pure (rs q : List R) (h : joinPF rs = some q) : Spec 63 rs q := by
  unfold joinPF at h
  split at h <;> try cases h
  rename_i sz rows tl
  split at h <;> try cases h
  rename_i fs k hfs
  split at h <;> try cases h
  rename_i t m hk ht
  split at h <;> try cases h
  rename_i hm
  obtain ⟨e1, e2, e3, e4⟩ := unFs_s _ _ _ hfs
  obtain ⟨a1, a2⟩ := (unTy_s 60).1 _ _ _ ht
  have hkk := Nat.le_of_ble_eq_true hk
  have hmm := Nat.le_of_ble_eq_true hm
  have hj := join_ty fs t (by omega) e3 (by omega)
  split at h
  · cases h
    refine hj.alike fun I w vs hv => ?_
    match vs, hv with
    | [v1, v2], hv =>
      refine ⟨?_, atR_ag a1 hv.2.1, trivial⟩
      have h1 : AtD I w v1 (.sl sz rows) := hv.1
      rw [List.eq_nil_of_length_eq_zero (l := rows) (by simpa using e1)] at h1
      show AtD I w v1 (.sl 5 (rF []))
      cases h1 with
      | nil A cap => exact .nil _ _ _
      | sl b off cap _ _ us hcap hI hrl hl2 hc hd => exact .nil _ _ _
  · split at h <;> try cases h
    rename_i hsz
    have hsz := natEq_eq hsz
    subst hsz
    refine hj.alike fun I w vs hv => ?_
    match vs, hv with
    | [v1, v2], hv => exact ⟨slice_alike (by rw [e1, rF, List.length_map]) e4 hv.1, atR_ag a1 hv.2.1, trivial⟩
end Go.Proofs.Ytclehkgnacekkaa.Vm
end
section
namespace Go.Proofs.Ytclehkgnacekkaa.Vm
open Go.RowKit
set_option maxRecDepth 100000
set_option maxHeartbeats 8000000
def zA : ByteArray := ⟨#[97]⟩
def zB : ByteArray := ⟨#[98]⟩
def zE : ByteArray := ⟨#[]⟩
def gT : Ty := .mk 5 zE 0 [.mk 11 zA 0 [.mk 7 zE 0 [], .mk 10 zE 1 []]]
def sT : Ty := .mk 5 zE 0 [.mk 11 zB 0 [.mk 1 zE 0 [], .mk 11 zA 0 [.mk 2 zE 0 [], .mk 8 zE 0 []]]]
theorem alive_match : matchR gT sT = some [(0, .mk 2 zE 0 []), (1, .mk 11 zB 0 [.mk 1 zE 0 [], .mk 8 zE 0 []])] := by kernel_rfl
theorem alive_res : rB [((0 : Int), Ty.mk 2 zE 0 []), (1, Ty.mk 11 zB 0 [Ty.mk 1 zE 0 [], Ty.mk 8 zE 0 []])] = [[.sc (.int .i64 0), .sc (.int .u8 2), .sc (.string zE), .sc (.int .i64 0), .sl 4 []], [.sc (.int .i64 1), .sc (.int .u8 11), .sc (.string zB), .sc (.int .i64 0), .sl 4 [[.sc (.int .u8 1), .sc (.string zE), .sc (.int .i64 0), .sl 4 []], [.sc (.int .u8 8), .sc (.string zE), .sc (.int .i64 0), .sl 4 []]]]] := by kernel_rfl
theorem sm_at (t : Ty) (h1 : Nat.ble t.parts.length 1048576 = true) (h2 : (t.parts.all fun x => Nat.ble x.name.size 1048576) = true) : Sm t :=
  ⟨Nat.le_of_ble_eq_true h1, fun x hx => Nat.le_of_ble_eq_true (List.all_eq_true.1 h2 x hx)⟩
def dG : List D := [.sc (.int .u8 5), .sc (.string ⟨⟨[]⟩⟩), .sc (.int .i64 0), .sl 4 [[.sc (.int .u8 11), .sc (.string ⟨⟨[97]⟩⟩), .sc (.int .i64 0), .sl 4 [[.sc (.int .u8 7), .sc (.string ⟨⟨[]⟩⟩), .sc (.int .i64 0), .sl 0 []], [.sc (.int .u8 10), .sc (.string ⟨⟨[]⟩⟩), .sc (.int .i64 1), .sl 0 []]]]]]
def dS : List D := [.sc (.int .u8 5), .sc (.string ⟨⟨[]⟩⟩), .sc (.int .i64 0), .sl 4 [[.sc (.int .u8 11), .sc (.string ⟨⟨[98]⟩⟩), .sc (.int .i64 0), .sl 4 [[.sc (.int .u8 1), .sc (.string ⟨⟨[]⟩⟩), .sc (.int .i64 0), .sl 0 []], [.sc (.int .u8 11), .sc (.string ⟨⟨[97]⟩⟩), .sc (.int .i64 0), .sl 4 [[.sc (.int .u8 2), .sc (.string ⟨⟨[]⟩⟩), .sc (.int .i64 0), .sl 0 []], [.sc (.int .u8 8), .sc (.string ⟨⟨[]⟩⟩), .sc (.int .i64 0), .sl 0 []]]]]]]]
theorem dG_is : unTy 60 dG = some (gT, 4) := by kernel_rfl
theorem dS_is : unTy 60 dS = some (sT, 6) := by kernel_rfl
def matchPF (rs : List R) : Option (List R) := match listEq resEq rs [.ag dG, .ag dS] with
  | true => some [.one (.sl 5 [[.sc (.int .i64 0), .sc (.int .u8 2), .sc (.string zE), .sc (.int .i64 0), .sl 4 []], [.sc (.int .i64 1), .sc (.int .u8 11), .sc (.string zB), .sc (.int .i64 0), .sl 4 [[.sc (.int .u8 1), .sc (.string zE), .sc (.int .i64 0), .sl 4 []], [.sc (.int .u8 8), .sc (.string zE), .sc (.int .i64 0), .sl 4 []]]]]), .one (.sc (.bool true))]
  | false => none
theorem match_pure (rs q : List R) (h : matchPF rs = some q) : Spec 12 rs q := by
  unfold matchPF at h
  split at h
  · rename_i he
    have he := listEq_eq (fun _ _ h => resEq_eq h) he
    subst he
    injection h with h
    subst h
    rw [← alive_res]
    have h1 := Match_s gT sT (sm_at _ (by kernel_rfl) (by kernel_rfl)) (sm_at _ (by kernel_rfl) (by kernel_rfl))
    rw [alive_match, Option.getD_some, Option.isSome_some] at h1
    refine h1.alike fun I w vs hv => ?_
    match vs, hv with
    | [v1, v2], ⟨a1, a2, _⟩ => exact ⟨atR_ag ((unTy_s 60).1 _ _ _ dG_is).1 a1, atR_ag ((unTy_s 60).1 _ _ _ dS_is).1 a2, trivial⟩
  · cases h
end Go.Proofs.Ytclehkgnacekkaa.Vm
end
section
namespace Go.Proofs.Ytclehkgnacekkaa.Vm
open Go.RowKit
def dd : List Nat → List Nat
  | [] => []
  | x :: l => match l.any (Nat.beq x) with | true => dd l | false => x :: dd l
theorem dd_mem (x : Nat) : ∀ l : List Nat, x ∈ dd l ↔ x ∈ l
  | [] => Iff.rfl
  | y :: l => by
    rw [dd]
    cases h : l.any (Nat.beq y) with
    | true =>
      simp only [dd_mem x l, List.mem_cons]
      refine ⟨.inr, fun h2 => h2.elim (fun e => ?_) id⟩
      obtain ⟨z, hz, he⟩ := List.any_eq_true.1 h
      rw [Nat.beq_eq] at he
      rw [e, he]
      exact hz
    | false => simp only [List.mem_cons, dd_mem x l]
def ancs2 : List Oper → List (List Nat) → List (List Nat)
  | [], acc => acc
  | o :: l, acc => ancs2 l (acc ++ [dd ((direct o).flatMap fun j => j :: acc.getD j [])])
def SameM (a b : List (List Nat)) : Prop := a.length = b.length ∧ ∀ i j, j ∈ a.getD i [] ↔ j ∈ b.getD i []
theorem SameM.snoc {a b : List (List Nat)} (h : SameM a b) {x y : List Nat} (hx : ∀ j, j ∈ x ↔ j ∈ y) : SameM (a ++ [x]) (b ++ [y]) := by
  refine ⟨by simp [h.1], fun i j => ?_⟩
  rcases Nat.lt_trichotomy i a.length with hi | hi | hi
  · have e1 : (a ++ [x]).getD i [] = a.getD i [] := by rw [List.getD_eq_getElem?_getD, List.getElem?_append_left hi, List.getD_eq_getElem?_getD]
    have e2 : (b ++ [y]).getD i [] = b.getD i [] := by rw [List.getD_eq_getElem?_getD, List.getElem?_append_left (by rw [← h.1]; exact hi), List.getD_eq_getElem?_getD]
    rw [e1, e2]
    exact h.2 i j
  · have e1 : (a ++ [x]).getD i [] = x := by rw [List.getD_eq_getElem?_getD, hi]; simp
    have e2 : (b ++ [y]).getD i [] = y := by rw [List.getD_eq_getElem?_getD, hi, h.1]; simp
    rw [e1, e2]
    exact hx j
  · have e1 : (a ++ [x]).getD i [] = [] := by rw [List.getD_eq_getElem?_getD, List.getElem?_eq_none (by simp; omega)]; rfl
    have e2 : (b ++ [y]).getD i [] = [] := by rw [List.getD_eq_getElem?_getD, List.getElem?_eq_none (by simp; have := h.1; omega)]; rfl
    rw [e1, e2]
theorem ancs_same : ∀ (l : List Oper) (a b : List (List Nat)), SameM a b → SameM (ancs l a) (ancs2 l b)
  | [], a, b, h => h
  | o :: l, a, b, h => by
    rw [ancs, ancs2]
    refine ancs_same l _ _ (h.snoc fun j => ?_)
    rw [dd_mem, List.mem_flatMap, List.mem_flatMap]
    refine exists_congr fun k => and_congr_right fun _ => ?_
    rw [List.mem_cons, List.mem_cons, h.2 k j]
def okDraw2 (ops : Array Oper) : Bool :=
  let l := ops.toList
  let an := ancs2 l []
  let d := dstsOf l
  (List.range l.length).all fun i => (an.getD i []).all (fun j => Nat.blt j i) && (List.range i).all fun j => okPair d (lsPairs l) l an j i
theorem okDraw2_ok {ops : Array Oper} (h : okDraw2 ops = true) : okDraw ops = true := by
  have hs := ancs_same ops.toList [] [] ⟨rfl, fun _ _ => Iff.rfl⟩
  refine List.all_eq_true.2 fun i hi => ?_
  have h1 := List.all_eq_true.1 h i hi
  rw [Bool.and_eq_true] at h1 ⊢
  refine ⟨List.all_eq_true.2 fun j hj => List.all_eq_true.1 h1.1 j ((hs.2 i j).1 hj), List.all_eq_true.2 fun j hj => ?_⟩
  have h2 := List.all_eq_true.1 h1.2 j hj
  unfold okPair at h2 ⊢
  rw [Bool.or_eq_true] at h2 ⊢
  refine h2.imp (fun h3 => ?_) id
  rw [List.contains_iff_mem] at h3 ⊢
  exact (hs.2 i j).2 h3
def okCode2 (P : Program) : Code → Bool
  | .region _ ops d => okOps P ops.toList && (!d || okDraw2 ops)
  | .seq c d => okCode2 P c && okCode2 P d
  | .cond _ c d => okCode2 P c && okCode2 P d
  | .block _ c => okCode2 P c
  | .loop c => okCode2 P c
  | _ => true
theorem okCode2_ok {P : Program} : ∀ {c : Code}, okCode2 P c = true → okCode P c = true
  | .region _ ops d, h => by
    simp only [okCode, okCode2, Bool.and_eq_true, Bool.or_eq_true] at h ⊢
    exact ⟨h.1, h.2.imp id okDraw2_ok⟩
  | .seq c d, h => by
    simp only [okCode, okCode2, Bool.and_eq_true] at h ⊢
    exact ⟨okCode2_ok h.1, okCode2_ok h.2⟩
  | .cond _ c d, h => by
    simp only [okCode, okCode2, Bool.and_eq_true] at h ⊢
    exact ⟨okCode2_ok h.1, okCode2_ok h.2⟩
  | .block _ c, h => okCode2_ok (c := c) h
  | .loop c, h => okCode2_ok (c := c) h
  | .skip, _ => rfl
  | .exit _, _ => rfl
  | .ret, _ => rfl
  | .rangeFunc _ _ _ _, _ => rfl
  | .scope _, _ => rfl
  | .label _, _ => rfl
  | .goto _, _ => rfl
  | .refuse _, _ => rfl
end Go.Proofs.Ytclehkgnacekkaa.Vm
end

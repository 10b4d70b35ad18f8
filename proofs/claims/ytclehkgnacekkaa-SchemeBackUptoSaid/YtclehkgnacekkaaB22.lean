/- Part 22 of the proof: VSc4, VMa2, VMa3, VMa4, VSM1, VBk1, VJoinP, VSM2. Conditions: none. -/
import Derived.Test.YtclehkgnacekkaaB4
import Derived.Test.YtclehkgnacekkaaB8
import Derived.Test.YtclehkgnacekkaaB12
import Derived.Test.YtclehkgnacekkaaB14
import Derived.Test.YtclehkgnacekkaaB16
import Derived.Test.YtclehkgnacekkaaB19
import Derived.Test.YtclehkgnacekkaaB21
set_option linter.all false
set_option linter.unusedVariables false
set_option linter.unusedSimpArgs false
section
namespace Go.Proofs.Ytclehkgnacekkaa.Vm
open Go.RowKit
set_option maxRecDepth 100000
set_option maxHeartbeats 8000000
theorem canon_vars {W : ByteArray → Bool} : ∀ (n : Nat) (t : Ty) (s : Int), t.parts.length ≤ n → shapeB W t s = true → ∀ x ∈ (canonS t).parts, isVar x = true → x ∈ t.parts := by
  intro n
  induction n with
  | zero => intro t s h; have := parts_pos t; omega
  | succ n ih =>
    intro t s hn h x hx hv
    have hself : t ∈ t.parts := by rw [parts_eq]; exact List.mem_cons_self ..
    by_cases h11 : t.op = 11
    · obtain ⟨rfl, -⟩ := shape_row h h11
      have hsp := (shape_spineAll h).self
      rw [canon_row_is h] at hx
      rcases rowS_part hx with h1 | ⟨f, hf, h1⟩ | h1
      · rw [isVar_iff] at hv; omega
      · obtain ⟨f0, hf0, rfl⟩ := List.mem_map.1 hf
        have hm := sortS_mem hf0
        have h2 := fields_less _ t (Nat.le_refl _) f0 hm
        exact parts_trans (ih f0.2 116 (by omega) ((fields_shape h).1 f0 hm).2 x h1 hv) (fields_mem _ t (Nat.le_refl _) f0 hm)
      · exact parts_trans h1 (tail_mem hsp)
    · rw [canon_node h11, parts_kids] at hx
      rcases List.mem_cons.1 hx with rfl | hx
      · have hv' : t.op = 7 ∨ t.op = 10 := by rw [isVar_iff] at hv; exact hv
        rw [var_kids h hv', List.map_nil]
        rw [show Ty.mk t.op t.name t.n [] = t by conv => rhs; rw [Ty.eta t, var_kids h hv']]
        exact hself
      · simp only [Ty.kids] at hx
        obtain ⟨y, hy, hxy⟩ := List.mem_flatMap.1 hx
        obtain ⟨z, hz, rfl⟩ := List.mem_map.1 hy
        obtain ⟨k, hk, h1, h2, h3, h4, h5, h6⟩ := shape_parts h
        obtain ⟨c, hc⟩ := shapes_mem W _ _ h6 z hz
        have := (kids_le t).2 z hz
        exact parts_trans (ih z c (by omega) hc x hxy hv) (kid_part hz)
theorem right_canon {t : Ty} {s : Int} (h : rightB t s = true) : rightB (canonS t) s = true := by
  have hs := right_shape h
  unfold rightB
  rw [canon_shape _ t s (Nat.le_refl _) hs.1, Bool.true_and]
  refine once_yes fun x hx y hy => ?_
  cases hc : clashB x y with
  | false => rfl
  | true =>
    have hc' := hc
    unfold clashB at hc'
    simp only [Bool.and_eq_true, beq_iff_eq] at hc'
    have h1 := canon_vars _ t s (Nat.le_refl _) hs.1 x hx (by rw [isVar_iff]; omega)
    have h2 := canon_vars _ t s (Nat.le_refl _) hs.1 y hy (by rw [isVar_iff]; omega)
    rw [once_no h1 h2 hc] at hs
    exact absurd hs.2 (by simp)
theorem ok_canon {t : Ty} {s : Int} (h : rightB t s = true) (hN : t.parts.length ≤ 1048576) : Ok1 s (canonS t) := by
  have hs := (right_shape h).1
  exact ⟨right_canon h, canon_idem _ t s (Nat.le_refl _) hs, by rw [canon_len _ t (Nat.le_refl _) (shape_spineAll hs)]; exact hN⟩
theorem varsL_mem : ∀ (ts : List Ty) (acc : List Int) (n : Int), n ∈ varsL ts acc → n ∈ acc ∨ ∃ v ∈ ts, isVar v = true ∧ v.n = n
  | [], acc, n, h => .inl h
  | t :: ts, acc, n, h => by
    rw [varsL] at h
    rcases varsL_mem ts _ n h with h | ⟨v, hv, h1, h2⟩
    · split at h
      · rename_i hc
        rcases List.mem_append.1 h with h | h
        · exact .inl h
        · simp at h
          exact .inr ⟨t, List.mem_cons_self .., hc.1, h.symm⟩
      · exact .inl h
    · exact .inr ⟨v, List.mem_cons_of_mem _ hv, h1, h2⟩
def typS (g s : Ty) : Option (List (Int × Ty)) := typesC (canonS g).parts.length (canonS g) (canonS s) []
def binds (g : Ty) (c : List (Int × Ty)) : List (Int × Ty) := (varsS g).filterMap fun n => c.find? fun p => p.1 == n
def matchR (g s : Ty) : Option (List (Int × Ty)) := if rightB g 116 = true ∧ rightB s 116 = true then (typS g s).map (binds g) else none
theorem typ_keys {g s : Ty} {c : List (Int × Ty)} (hg : rightB g 116 = true) (hs : rightB s 116 = true) (h : typS g s = some c) : ∀ n ∈ varsS g, n ∈ keys c := by
  have sg := (right_shape hg).1
  have ss := (right_shape hs).1
  have cg := canon_shape _ g 116 (Nat.le_refl _) sg
  have cs := canon_shape _ s 116 (Nat.le_refl _) ss
  unfold typS at h
  rw [types_match _ (canonS g) (canonS s) [] (canonS g).parts.length cg cs (canon_idem _ g 116 (Nat.le_refl _) sg) (canon_idem _ s 116 (Nat.le_refl _) ss) (Nat.le_refl _) (Nat.le_refl _)] at h
  intro n hn
  rcases varsL_mem _ _ _ hn with h1 | ⟨v, hv, h1, rfl⟩
  · simp at h1
  · exact matchC_bound _ _ _ _ _ 116 cg cs h v hv h1
theorem Spec.two0 {f : Nat} {rs : List R} {n : Nat} (m : Nat) {r : R} (h : Spec f rs [.one (.sl n []), r]) : Spec f rs [.one (.sl m []), r] := h.mono fun I w v hv => by
  obtain ⟨us, rfl, h2⟩ := hv
  match us, h2 with
  | [u1, u2], ⟨h3, h4⟩ => exact ⟨_, rfl, AtD.empty m h3, h4⟩
theorem Match_s (g s : Ty) (hg : Sm g) (hs : Sm s) : Spec 12 [.ag (cT g), .ag (cT s)] [.one (.sl 5 (rB ((matchR g s).getD []))), .one (.sc (.bool (matchR g s).isSome))] := by
  have h1 := PRight_s g hg.1 hg.2
  have h2 := PRight_s s hs.1 hs.2
  obtain ⟨g0, g1, g2, g3, hgg⟩ := cT_four g
  obtain ⟨s0, s1, s2, s3, hss⟩ := cT_four s
  by_cases hR : rightB g 116 = true ∧ rightB s 116 = true
  · have h3 := Canon_s g hg
    have h4 := Canon_s s hs
    have e1 : eitherT g = true := by unfold eitherT; rw [hR.1]; rfl
    have e2 : eitherT s = true := by unfold eitherT; rw [hR.2]; rfl
    rw [if_pos e1] at h3
    rw [if_pos e2] at h4
    have og := ok_canon hR.1 hg.1
    have os := ok_canon hR.2 hs.1
    have h5 := types_s _ (canonS g) (canonS s) [] og os (fun p hp => by simp at hp) (Nat.le_refl _)
    have h6 := PVars_s g hg
    rw [if_pos e1] at h6

    have hky := fun c (h : typS g s = some c) => typ_keys hR.1 hR.2 h
    have hvl : (varsS g).length ≤ 1048576 := by
      have := varsL_len (canonS g).parts []
      rw [List.length_nil] at this
      have := og.2.2
      show (varsL (canonS g).parts []).length ≤ _
      omega
    unfold matchR
    rw [if_pos hR]
    rw [show typesC (canonS g).parts.length (canonS g) (canonS s) [] = typS g s from rfl] at h5
    have hcb2 : ∀ c, typS g s = some c → CB c := fun c h => types_cb _ _ _ _ _ og os (fun p hp => by simp at hp) h

    rw [hR.1] at h1
    rw [hR.2] at h2
    unfold binds
    generalize typS g s = Z at *
    generalize varsS g = vs at *
    obtain ⟨x0, x1, x2, x3, hx⟩ := cT_four (canonS g)
    obtain ⟨y0, y1, y2, y3, hy⟩ := cT_four (canonS s)
    rw [hgg] at h1 h3 h6 ⊢
    rw [hss] at h2 h4 ⊢
    rw [hx] at h3 h5
    rw [hy] at h4 h5
    rw [show esT [] = [] from rfl] at h5
    obtain ⟨V, hV⟩ : ∃ V, V = rI vs := ⟨_, rfl⟩
    rw [← hV] at h6
    cases Z with
    | none =>
      simp only [Option.map_none, Option.getD_none, Option.isSome_none]
      rw [show rB [] = [] from rfl]
      refine Spec.two0 (n := 0) 5 ?_
      refine spec_of Try.func12 rfl (by kernel_rfl) (by kernel_rfl) (by kernel_rfl) fun qa qb qc qd qe qf qg qh qi qj qk ql qm qo qp qq qs qt qu qv qw qx qy qz va vc vd ve vf vg vh vj vk vl vp vq vr vt vu hA => ?_
      cbv
      repeat (first | (with_reducible apply next_at hA; cbv) | (refine call_at hA _ h1 rfl ?_; cbv) | (refine calm_at hA _ h1 ?_; cbv) | (refine call_at hA _ h2 rfl ?_; cbv) | (refine calm_at hA _ h2 ?_; cbv) | (refine call_at hA _ h3 rfl ?_; cbv) | (refine calm_at hA _ h3 ?_; cbv) | (refine call_at hA _ h4 rfl ?_; cbv) | (refine calm_at hA _ h4 ?_; cbv))
      try cbv
      repeat (first | (with_reducible apply next_at hA; cbv) | (refine call_at hA _ h1 rfl ?_; cbv) | (refine calm_at hA _ h1 ?_; cbv) | (refine call_at hA _ h2 rfl ?_; cbv) | (refine calm_at hA _ h2 ?_; cbv) | (refine call_at hA _ h3 rfl ?_; cbv) | (refine calm_at hA _ h3 ?_; cbv) | (refine call_at hA _ h4 rfl ?_; cbv) | (refine calm_at hA _ h4 ?_; cbv))
      try simp (maxSteps := 4000000) only [nc] at *
      refine callo_at hA [2] h5 ⟨rfl, rfl, rfl, rfl, rfl, rfl, rfl⟩ ?_
      rintro res os2 (⟨c', hc', rfl, rfl⟩ | ⟨hc', rfl, es', rfl⟩)
      · cases hc'
      · cbv
        repeat ((with_reducible apply next_at hA); cbv)
    | some c =>
      simp only [Option.map_some, Option.getD_some, Option.isSome_some]
      have hky := hky c rfl
      have hcb := hcb2 c rfl
      obtain ⟨W, hW⟩ : ∃ W, W = rB (vs.filterMap fun n => c.find? fun p => p.1 == n) := ⟨_, rfl⟩
      rw [← hW]
      refine spec_of Try.func12 rfl (by kernel_rfl) (by kernel_rfl) (by kernel_rfl) fun qa qb qc qd qe qf qg qh qi qj qk ql qm qo qp qq qs qt qu qv qw qx qy qz va vc vd ve vf vg vh vj vk vl vp vq vr vt vu hA => ?_
      cbv
      repeat (first | (with_reducible apply next_at hA; cbv) | (refine call_at hA _ h1 rfl ?_; cbv) | (refine calm_at hA _ h1 ?_; cbv) | (refine call_at hA _ h2 rfl ?_; cbv) | (refine calm_at hA _ h2 ?_; cbv) | (refine call_at hA _ h3 rfl ?_; cbv) | (refine calm_at hA _ h3 ?_; cbv) | (refine call_at hA _ h4 rfl ?_; cbv) | (refine calm_at hA _ h4 ?_; cbv))
      try cbv
      repeat (first | (with_reducible apply next_at hA; cbv) | (refine call_at hA _ h1 rfl ?_; cbv) | (refine calm_at hA _ h1 ?_; cbv) | (refine call_at hA _ h2 rfl ?_; cbv) | (refine calm_at hA _ h2 ?_; cbv) | (refine call_at hA _ h3 rfl ?_; cbv) | (refine calm_at hA _ h3 ?_; cbv) | (refine call_at hA _ h4 rfl ?_; cbv) | (refine calm_at hA _ h4 ?_; cbv))
      try simp (maxSteps := 4000000) only [nc] at *
      refine callo_at hA [2] h5 ⟨rfl, rfl, rfl, rfl, rfl, rfl, rfl⟩ ?_
      rintro res os2 (⟨c', hc', rfl, rfl⟩ | ⟨hc', rfl, es', rfl⟩)
      rotate_left
      · cases hc'
      injection hc' with hc'
      subst hc'
      obtain ⟨E, hE⟩ : ∃ E, E = esT c := ⟨_, rfl⟩
      rw [← hE]
      cbv
      repeat (first | (refine own_at hA 7 37 true rfl ?_; cbv) | (refine call_at hA _ h6 rfl ?_; cbv) | (with_reducible apply next_at hA; cbv))
      obtain ⟨e1, e2, e3, e4, e5, e6, e7, e8, e9⟩ := ar_at hA
      obtain ⟨r1, r2, r3, r4⟩ := row_at hA
      obtain ⟨m1, m2, -⟩ := map_at hA
      refine loop_at hA (γ := Int × List (List D)) (fun x => [(30, vi .i64 x.1), (7, .own 4)]) (fun x => [(4, .row true 37 x.2)]) (fun x => ∃ k : Nat, x.1 = (k : Int) ∧ k ≤ vs.length ∧ x.2 = rB ((vs.take k).filterMap fun n => c.find? fun p => p.1 == n)) (fun x => vs.length - x.1.toNat) (0, []) ?_ ?_ ?_
      · exact ⟨0, rfl, Nat.zero_le _, rfl⟩
      · cbv
      · intro x hinv
        obtain ⟨z, L⟩ := x
        cbv
        repeat ((with_reducible apply next_at hA); cbv)
        try simp (maxSteps := 4000000) only [nc] at *
        obtain ⟨k, hz, hk, hL⟩ := hinv
        have hll : qw V = (vs.length : Int) := by rw [r1, hV, rI_len]
        have hlt : qh z (qw V) = decide (k < vs.length) := by rw [e7, hll, hz]; exact decide_eq_decide.2 (by omega)
        by_cases h9 : k < vs.length
        · rw [decide_eq_true h9] at hlt
          obtain ⟨n, hn⟩ : ∃ n, vs[k]? = some n := ⟨_, List.getElem?_eq_getElem h9⟩
          have hnm := hky n (List.mem_of_getElem? hn)
          obtain ⟨q, hq, hqn⟩ := List.mem_map.1 hnm
          obtain ⟨p, hp⟩ : ∃ p, (c.find? fun p => p.1 == n) = some p := by
            cases h : c.find? fun p => p.1 == n with
            | some p => exact ⟨p, rfl⟩
            | none =>
              rw [List.find?_eq_none] at h
              exact absurd (by rw [hqn]; simp) (h q hq)
          have hpn : p.1 = n := by have := List.find?_some hp; simpa using this
          have hpo := hcb p (List.mem_of_find?_eq_some hp)
          have hcan : canonS p.2 = p.2 ∧ eitherT p.2 = true ∧ Sm p.2 := by
            rcases hpo with h | h
            · exact ⟨h.2.1, by unfold eitherT; rw [h.1]; rfl, h.sm⟩
            · exact ⟨h.2.1, by unfold eitherT; rw [h.1, Bool.or_true], h.sm⟩
          have hC := Canon_s p.2 hcan.2.2
          rw [if_pos hcan.2.1, hcan.1] at hC
          have hget := esT_get n c
          rw [hp, ← hE, ← m1] at hget
          simp only [Option.map_some] at hget
          unfold ik at hget
          obtain ⟨p0, p1, p2, p3, hpp⟩ := cT_four p.2
          rw [hpp] at hC hget
          have gx : qx V z = some [.sc (.int .i64 n)] := by rw [r2, hz, if_pos (by omega), hV, Int.toNat_natCast]; unfold rI; rw [List.getElem?_map, hn]; rfl
          have hz1 : qa .i64 (qb z 1) = ((k + 1 : Nat) : Int) := by rw [e1, e2, hz, IntWalk.i64_in _ (by omega)]; omega
          have hmu : vs.length - (qa .i64 (qb z 1)).toNat < vs.length - z.toNat := by rw [hz1, hz]; omega
          have hfm : (vs.take (k + 1)).filterMap (fun n => c.find? fun p => p.1 == n) = (vs.take k).filterMap (fun n => c.find? fun p => p.1 == n) ++ [p] := by
            rw [take_one hn, List.filterMap_append]
            congr 1
            simp [hp]
          have hadd : qz L [[.sc (.int .i64 n), p0, p1, p2, p3]] = rB ((vs.take (k + 1)).filterMap fun n => c.find? fun p => p.1 == n) := by
            rw [r4, hfm, rB_snoc, hL, hpp, hpn]
          have hLl : L.length ≤ 1048576 := by
            rw [hL, rB_len]
            have := List.length_filterMap_le (fun n => c.find? fun p => p.1 == n) (vs.take k)
            rw [List.length_take] at this
            omega
          rw [hlt]
          cbv
          repeat (first | (with_reducible apply next_at hA; cbv) | (rw [gx]; cbv) | (rw [hget]; cbv) | (refine call_at hA _ hC rfl ?_; cbv) | (refine calm_at hA _ hC ?_; cbv) | (refine lit_at hA true ?_; cbv) | (refine room_at hA (by simp only [List.length_cons, List.length_nil]; omega) ?_; cbv))
          try cbv
          repeat (first | (with_reducible apply next_at hA; cbv) | (rw [gx]; cbv) | (rw [hget]; cbv) | (refine call_at hA _ hC rfl ?_; cbv) | (refine calm_at hA _ hC ?_; cbv) | (refine lit_at hA true ?_; cbv) | (refine room_at hA (by simp only [List.length_cons, List.length_nil]; omega) ?_; cbv))
          try simp (maxSteps := 4000000) only [nc] at *
          refine ⟨(qa .i64 (qb z 1), qz L [[.sc (.int .i64 n), p0, p1, p2, p3]]), ⟨k + 1, hz1, h9, hadd⟩, hmu, ?_⟩
          cbv
        · rw [decide_eq_false h9] at hlt
          have hLW : L = W := by rw [hL, hW, List.take_of_length_le (by omega)]
          rw [hlt, hLW]
          cbv
          repeat ((with_reducible apply next_at hA); cbv)
  · unfold matchR
    rw [if_neg hR]
    simp only [Option.getD_none, Option.isSome_none]
    rw [show rB [] = [] from rfl]
    refine Spec.two0 (n := 0) 5 ?_
    rw [hgg] at h1 ⊢
    rw [hss] at h2 ⊢
    cases hb1 : rightB g 116 with
    | false =>
      rw [hb1] at h1
      refine spec_of Try.func12 rfl (by kernel_rfl) (by kernel_rfl) (by kernel_rfl) fun qa qb qc qd qe qf qg qh qi qj qk ql qm qo qp qq qs qt qu qv qw qx qy qz va vc vd ve vf vg vh vj vk vl vp vq vr vt vu hA => ?_
      cbv
      repeat (first | (with_reducible apply next_at hA; cbv) | (refine call_at hA _ h1 rfl ?_; cbv) | (refine calm_at hA _ h1 ?_; cbv))
      try cbv
      repeat (first | (with_reducible apply next_at hA; cbv) | (refine call_at hA _ h1 rfl ?_; cbv) | (refine calm_at hA _ h1 ?_; cbv))
      try simp (maxSteps := 4000000) only [nc] at *
    | true =>
      have hb2 : rightB s 116 = false := by
        cases h : rightB s 116 with
        | false => rfl
        | true => exact absurd ⟨hb1, h⟩ hR
      rw [hb1] at h1
      rw [hb2] at h2
      refine spec_of Try.func12 rfl (by kernel_rfl) (by kernel_rfl) (by kernel_rfl) fun qa qb qc qd qe qf qg qh qi qj qk ql qm qo qp qq qs qt qu qv qw qx qy qz va vc vd ve vf vg vh vj vk vl vp vq vr vt vu hA => ?_
      cbv
      repeat (first | (with_reducible apply next_at hA; cbv) | (refine call_at hA _ h1 rfl ?_; cbv) | (refine calm_at hA _ h1 ?_; cbv) | (refine call_at hA _ h2 rfl ?_; cbv) | (refine calm_at hA _ h2 ?_; cbv))
      try cbv
      repeat (first | (with_reducible apply next_at hA; cbv) | (refine call_at hA _ h1 rfl ?_; cbv) | (refine calm_at hA _ h1 ?_; cbv) | (refine call_at hA _ h2 rfl ?_; cbv) | (refine calm_at hA _ h2 ?_; cbv))
      try simp (maxSteps := 4000000) only [nc] at *
theorem Instance_s (g s : Ty) (hg : Sm g) (hs : Sm s) : Spec 13 [.ag (cT g), .ag (cT s)] [.one (.sc (.bool (matchR g s).isSome))] := by
  have h1 := Match_s g s hg hs
  obtain ⟨g0, g1, g2, g3, hgg⟩ := cT_four g
  obtain ⟨s0, s1, s2, s3, hss⟩ := cT_four s
  rw [hgg, hss] at h1 ⊢
  generalize rB ((matchR g s).getD []) = L at *
  generalize (matchR g s).isSome = b at *
  refine spec_of Try.func13 rfl (by kernel_rfl) (by kernel_rfl) (by kernel_rfl) fun qa qb qc qd qe qf qg qh qi qj qk ql qm qo qp qq qs qt qu qv qw qx qy qz va vc vd ve vf vg vh vj vk vl vp vq vr vt vu hA => ?_
  cbv
  repeat (first | (with_reducible apply next_at hA; cbv) | (refine call_at hA _ h1 rfl ?_; cbv) | (refine calm_at hA _ h1 ?_; cbv))
  try cbv
  repeat (first | (with_reducible apply next_at hA; cbv) | (refine call_at hA _ h1 rfl ?_; cbv) | (refine calm_at hA _ h1 ?_; cbv))
  try simp (maxSteps := 4000000) only [nc] at *
end Go.Proofs.Ytclehkgnacekkaa.Vm
end
section
namespace Go.Proofs.Ytclehkgnacekkaa.Vm
open Go.RowKit
set_option maxRecDepth 100000
set_option maxHeartbeats 8000000
end Go.Proofs.Ytclehkgnacekkaa.Vm
end
section
namespace Go.Proofs.Ytclehkgnacekkaa.Vm
open Go.RowKit
set_option maxRecDepth 100000
set_option maxHeartbeats 8000000
end Go.Proofs.Ytclehkgnacekkaa.Vm
end
section
namespace Go.Proofs.Ytclehkgnacekkaa.Vm
open Go.RowKit
set_option maxRecDepth 100000
set_option maxHeartbeats 8000000
end Go.Proofs.Ytclehkgnacekkaa.Vm
end
section
namespace Go.Proofs.Ytclehkgnacekkaa.Vm
open Go.RowKit
set_option maxRecDepth 100000
set_option maxHeartbeats 8000000
theorem many_s (t : Ty) (ht : t.parts.length ≤ 1048576) : Spec 11 [.ag (cT t)] [.one (.sc (.bool (decide (200 < t.parts.length))))] := by
  have h1 := Parts_s t ht
  obtain ⟨a0, a1, a2, a3, ha⟩ := cT_four t
  rw [ha] at h1 ⊢
  obtain ⟨P, hP⟩ : ∃ P, P = rT t.parts := ⟨_, rfl⟩
  have hl : P.length = t.parts.length := by rw [hP, rT_len]
  rw [← hP] at h1
  generalize hb : decide (200 < t.parts.length) = b
  refine spec_of Try.func11 rfl (by kernel_rfl) (by kernel_rfl) (by kernel_rfl) fun qa qb qc qd qe qf qg qh qi qj qk ql qm qo qp qq qs qt qu qv qw qx qy qz va vc vd ve vf vg vh vj vk vl vp vq vr vt vu hA => ?_
  have q1 : qh 200 (qw P) = b := by
    obtain ⟨e1, e2, e3, e4, e5, e6, e7, e8, e9⟩ := ar_at hA
    obtain ⟨r1, r2, -⟩ := row_at hA
    rw [e7, r1, hl, ← hb]
    exact decide_eq_decide.2 (by omega)
  cbv
  repeat (first | (with_reducible apply next_at hA; cbv) | (rw [q1]; cbv) | (refine call_at hA _ h1 rfl ?_; cbv) | (refine calm_at hA _ h1 ?_; cbv))
  try cbv
  repeat (first | (with_reducible apply next_at hA; cbv) | (rw [q1]; cbv) | (refine call_at hA _ h1 rfl ?_; cbv) | (refine calm_at hA _ h1 ?_; cbv))
  try simp (maxSteps := 4000000) only [nc] at *
end Go.Proofs.Ytclehkgnacekkaa.Vm
end
section
namespace Go.Proofs.Ytclehkgnacekkaa.Vm
open Go.RowKit
theorem take_sort (f : ByteArray × Ty) (l : List (ByteArray × Ty)) : takeF f.1 (sortS ltF (f :: l)) = some (f.2, sortS ltF l) := by
  obtain ⟨S, hS⟩ : ∃ S, S = sortS ltF l := ⟨_, rfl⟩
  have hs : Srt ltF S := by rw [hS]; exact sort_srt swoF l
  have ha : Sta ltF S l := by rw [hS]; exact sort_sta swoF l
  obtain ⟨v1, v2, e, h1, h2⟩ : ∃ v1 v2, S = v1 ++ v2 ∧ (∀ y ∈ v1, ltF y f = true) ∧ ∀ y ∈ v2, ltF y f = false := by
    clear hS ha
    induction S with
    | nil => exact ⟨[], [], rfl, by simp, by simp⟩
    | cons y S ih =>
      obtain ⟨g1, g2⟩ := List.pairwise_cons.1 hs
      obtain ⟨v1, v2, e, h1, h2⟩ := ih g2
      cases hy : ltF y f with
      | true =>
        exact ⟨y :: v1, v2, by rw [e]; rfl, fun z hz => by
          rcases List.mem_cons.1 hz with rfl | hz
          · exact hy
          · exact h1 z hz, h2⟩
      | false =>
        exact ⟨[], y :: S, rfl, by simp, fun z hz => by
          rcases List.mem_cons.1 hz with rfl | hz
          · exact hy
          · exact swoF.neg z y f (g1 z hz) hy⟩
  rw [e] at hs ha
  obtain ⟨p1, p2⟩ := put_one_left swoF hs h1 h2
  have h3 : v1 ++ (f :: v2) = sortS ltF (f :: l) := sort_is swoF p1 (p2.trans (Sta.append (.refl [f]) ha))
  have hne : ∀ y ∈ v1, y.1 ≠ f.1 := fun y hy h => by
    have h4 := h1 y hy
    have h5 : ltF y f = ltF f f := by unfold ltF; rw [h]
    rw [h5, swoF.irr] at h4
    cases h4
  rw [← h3, takeF_skip f.1 v1 _ hne, takeF, if_pos rfl, ← hS, e]
  rfl
theorem put_match (l : List (Int × Ty)) (σ : Int → Ty) : ∀ (m : Nat) (g : Ty) (e : Int) (c : List (Int × Ty)), g.parts.length ≤ m → shapeB wordB g e = true → (∀ v ∈ g.parts, isVar v = true → canonS (putP l v) = σ v.n) → (∀ p ∈ c, p.2 = σ p.1) →
    ∃ c', matchC m g (canonS (putP l g)) c = some c' ∧ ∀ p ∈ c', p.2 = σ p.1 := by
  intro m
  induction m with
  | zero => intro g e c h; have := parts_pos g; omega
  | succ m ih =>
    intro g e c hm h hσ hc
    by_cases hv : g.op = 7 ∨ g.op = 10
    · rw [matchC_var hv]
      have h1 := hσ g (by rw [parts_eq]; exact List.mem_cons_self ..) (isVar_iff.2 hv)
      unfold moreC
      cases hf : c.find? fun p => p.1 == g.n with
      | some p =>
        have h2 := hc p (List.mem_of_find?_eq_some hf)
        have h3 := List.find?_some hf
        rw [beq_iff_eq] at h3
        refine ⟨c, ?_, hc⟩
        simp only
        rw [if_pos ((alike_iff _ _).2 (by rw [h2, h3, h1]))]
      | none =>
        refine ⟨_, rfl, fun p hp => ?_⟩
        rcases List.mem_append.1 hp with hp | hp
        · exact hc p hp
        · simp at hp
          subst hp
          exact h1
    · by_cases h11 : g.op = 11
      · obtain ⟨rfl, a, b, hk, hn, hw, ha, hb⟩ := shape_row h h11
        rw [matchC_row h11 hk]
        have hY := putP_shape l g 114 h
        have hB := putP_shape l b 114 hb
        have hgk := two_kids hk
        have ep : putP l g = .mk 11 g.name g.n [putP l a, putP l b] := by
          conv => lhs; rw [Ty.eta g, hk, h11]
          rw [putP_node l _ _ _ (by omega)]
          rfl
        have h11' : (putP l g).op = 11 := by rw [ep]; rfl
        obtain ⟨a', b', hk', hsb, hf, ht⟩ := fields_step (shape_spineAll hY).self h11'
        rw [ep] at hk'
        injection hk' with e1 e2
        injection e2 with e2 _
        subst e1
        subst e2
        have en : (putP l g).name = g.name := by rw [ep]; rfl
        rw [en] at hf
        rw [(fields_canon hY).1, (fields_canon hY).2, takeF_map, hf, ht]
        have hts := take_sort (g.name, putP l a) (fieldsS (putP l b))
        simp only at hts
        rw [hts]
        simp only [Option.map_some, Option.bind_some]
        rw [← canon_row_is hB]
        have hpa : ∀ v ∈ a.parts, v ∈ g.parts := fun v hv => by rw [parts_kids, hk]; simp [hv]
        have hpb : ∀ v ∈ b.parts, v ∈ g.parts := fun v hv => by rw [parts_kids, hk]; simp [hv]
        obtain ⟨c1, m1, h1⟩ := ih a 116 c (by omega) ha (fun v hv => hσ v (hpa v hv)) hc
        rw [m1]
        exact ih b 114 c1 (by omega) hb (fun v hv => hσ v (hpb v hv)) h1
      · rw [matchC_node hv h11]
        obtain ⟨k, hk, h1, h2, h3, h4, h5, h6⟩ := shape_parts h
        have hkp := (kids_le g).2
        have hkm : ∀ x ∈ g.kids, ∀ v ∈ x.parts, v ∈ g.parts := fun x hx v hv => by rw [parts_kids]; exact List.mem_cons_of_mem _ (List.mem_flatMap.2 ⟨x, hx, hv⟩)
        have ep : putP l g = .mk g.op g.name g.n (g.kids.map (putP l)) := by
          conv => lhs; rw [Ty.eta g]
          rw [putP_node l _ _ _ hv]
        have ec : canonS (putP l g) = .mk g.op g.name g.n ((g.kids.map (putP l)).map canonS) := by
          rw [ep, canon_node (t := .mk g.op g.name g.n _) h11]
          rfl
        rw [ec]
        simp only [Ty.op, Ty.kids, ne_eq, not_true_eq_false, if_false]
        have key : ∀ (ks : List Ty) (c : List (Int × Ty)), (∀ x ∈ ks, x ∈ g.kids) → (∀ p ∈ c, p.2 = σ p.1) → ∃ c', (ks.zip ((ks.map (putP l)).map canonS)).foldlM (fun c p => matchC m p.1 p.2 c) c = some c' ∧ ∀ p ∈ c', p.2 = σ p.1 := by
          intro ks
          induction ks with
          | nil => intro c _ hc; exact ⟨c, rfl, hc⟩
          | cons x ks ihk =>
            intro c hks hc
            have hx := hks x (List.mem_cons_self ..)
            obtain ⟨d, hd⟩ := shapes_mem wordB _ _ h6 x hx
            obtain ⟨c1, m1, h7⟩ := ih x d c (by have := hkp x hx; omega) hd (fun v hv => hσ v (hkm x hx v hv)) hc
            rw [List.map_cons, List.map_cons, List.zip_cons_cons, List.foldlM_cons]
            simp only [m1]
            exact ihk c1 (fun y hy => hks y (List.mem_cons_of_mem _ hy)) h7
        exact key g.kids c (fun x hx => hx) hc
theorem var_one {t : Ty} {e : Int} (h : shapeB wordB t e = true) (ho : onceB t = true) {v w : Ty} (hv : v ∈ t.parts) (hw : w ∈ t.parts) (iv : isVar v = true) (iw : isVar w = true) (hn : v.n = w.n) : v = w := by
  obtain ⟨a, ha⟩ := shape_part h v hv
  obtain ⟨b, hb⟩ := shape_part h w hw
  rw [isVar_iff] at iv iw
  have kv := var_kids ha iv
  have kw := var_kids hb iw
  have name : ∀ {u : Ty} {c : Int}, shapeB wordB u c = true → (u.op = 7 ∨ u.op = 10) → u.name.toList = [] := fun {u c} hu iu => by
    obtain ⟨k, _, _, _, h3, -⟩ := shape_parts hu
    rw [if_neg (by omega)] at h3
    exact of_decide_eq_true h3
  have nn : v.name = w.name := bytes_toList.1 (by rw [name ha iv, name hb iw])
  have ho : v.op = w.op := by
    by_cases hop : v.op = w.op
    · exact hop
    · have hc : clashB v w = true ∨ clashB w v = true := by
        unfold clashB
        rcases iv with h1 | h1 <;> rcases iw with h2 | h2
        · exact absurd (h1.trans h2.symm) hop
        · left; simp [h1, h2, hn]
        · right; simp [h1, h2, hn]
        · exact absurd (h1.trans h2.symm) hop
      rcases hc with hc | hc
      · rw [once_no hv hw hc] at ho; cases ho
      · rw [once_no hw hv hc] at ho; cases ho
  rw [Ty.eta v, Ty.eta w, kv, kw, nn, ho, hn]
theorem sigma_is {t : Ty} {e : Int} (l : List (Int × Ty)) (h : shapeB wordB t e = true) (ho : onceB t = true) : ∃ σ : Int → Ty, ∀ v ∈ t.parts, isVar v = true → canonS (putP l v) = σ v.n := by
  classical
  refine ⟨fun n => if h : ∃ v, v ∈ t.parts ∧ isVar v = true ∧ v.n = n then canonS (putP l h.choose) else zeroTy, fun v hv iv => ?_⟩
  have hex : ∃ w, w ∈ t.parts ∧ isVar w = true ∧ w.n = v.n := ⟨v, hv, iv, rfl⟩
  have h1 := hex.choose_spec
  simp only
  rw [dif_pos hex, var_one h ho h1.1 hv h1.2.1 iv h1.2.2]
theorem putP_congr (l m : List (Int × Ty)) (t : Ty) : (∀ v ∈ t.parts, isVar v = true → putP l v = putP m v) → putP l t = putP m t := by
  induction t using Ty.ind with
  | h t ih =>
    intro h
    by_cases hv : t.op = 7 ∨ t.op = 10
    · exact h t (by rw [parts_eq]; exact List.mem_cons_self ..) (isVar_iff.2 hv)
    · obtain ⟨op, nm, n, ks⟩ := t
      simp only [Ty.op] at hv
      rw [putP_node l nm n ks hv, putP_node m nm n ks hv]
      congr 1
      refine List.map_congr_left fun x hx => ih x hx fun v hvm => h v ?_
      rw [parts_kids]
      exact List.mem_cons_of_mem _ (List.mem_flatMap.2 ⟨x, hx, hvm⟩)
theorem putP_nil (t : Ty) : putP [] t = t := by
  induction t using Ty.ind with
  | h t ih =>
    obtain ⟨op, nm, n, ks⟩ := t
    by_cases hv : op = 7 ∨ op = 10
    · rw [putP, if_pos hv]; rfl
    · rw [putP_node [] nm n ks hv]
      congr 1
      conv => rhs; rw [← List.map_id ks]
      exact List.map_congr_left fun x hx => ih x hx
theorem varsL_acc : ∀ (ts : List Ty) (acc : List Int) (n : Int), n ∈ acc → n ∈ varsL ts acc
  | [], _, _, h => h
  | t :: ts, acc, n, h => by
    rw [varsL]
    refine varsL_acc ts _ n ?_
    split
    · exact List.mem_append_left _ h
    · exact h
theorem varsL_has : ∀ (ts : List Ty) (acc : List Int) (v : Ty), v ∈ ts → isVar v = true → v.n ∈ varsL ts acc
  | t :: ts, acc, v, h, hv => by
    rw [varsL]
    rcases List.mem_cons.1 h with rfl | h
    · refine varsL_acc ts _ _ ?_
      by_cases hm : v.n ∈ acc
      · rw [if_neg (by simp [hm])]; exact hm
      · rw [if_pos ⟨hv, hm⟩]; simp
    · exact varsL_has ts _ v h hv
theorem put_fit (l : List (Int × Ty)) {v : Ty} {e : Int} (h : shapeB wordB v e = true) (hv : v.op = 7 ∨ v.op = 10) : fitB (v.op == 10) (putP l v) = true ∧ canonS (putP l v) = putP l v := by
  have h11 : v.op ≠ 11 := by omega
  have hk := var_kids h hv
  have h0 := put_leaf l h hk h11
  have hT := putT_shape l v e h
  have hidem : canonS (putP l v) = putP l v := by rw [h0]; exact canon_idem _ _ e (Nat.le_refl _) hT
  refine ⟨?_, hidem⟩
  obtain ⟨op, nm, n, ks⟩ := v
  simp only [Ty.op, Ty.kids] at hv hk ⊢
  rw [putP, if_pos hv]
  cases hp : ofS l n (op == 10) with
  | some p =>
    have h1 := (ofS_fit hp).2
    show fitB _ (canonS p.2) = true
    unfold fitB at h1 ⊢
    cases h2 : op == 10 <;> rw [h2] at h1 <;> exact right_canon h1
  | none =>
    show fitB _ (Ty.mk op nm n ks) = true
    subst hk
    have ho : onceB (.mk op nm n []) = true := once_yes fun x hx y hy => by
      rw [parts_kids] at hx hy
      simp [Ty.kids] at hx hy
      subst hx
      subst hy
      unfold clashB
      rcases hv with rfl | rfl <;> simp [Ty.op]
    have hs := var_sort h
    unfold fitB rightB
    rcases hv with rfl | rfl
    · show (shapeB wordB _ 116 && onceB _) = true
      rw [ho, shape_sort h (hs.1 rfl)]; rfl
    · show (shapeB wordB _ 114 && onceB _) = true
      rw [hs.2 rfl] at h
      rw [ho, h]; rfl
theorem put_again (l : List (Int × Ty)) {t : Ty} (ht : rightB t 116 = true) (hx : rightB (canonS (putP l (canonS t))) 116 = true) :
    ∃ m, matchR t (canonS (putP l (canonS t))) = some m ∧ putP m (canonS t) = putP l (canonS t) ∧ m.length ≤ t.parts.length ∧ ∀ p ∈ m, ∃ v ∈ (canonS t).parts, p.2 = putP l v ∧ ∃ e, shapeB wordB (putP l v) e = true := by
  have hc := right_canon ht
  obtain ⟨hsh, hon⟩ := right_shape hc
  obtain ⟨σ, hσ⟩ := sigma_is l hsh hon
  have hps := putP_shape l _ 116 hsh
  have ix := canon_idem _ (putP l (canonS t)) 116 (Nat.le_refl _) hps
  have hcs := canon_shape _ _ 116 (Nat.le_refl _) hps
  have it := canon_idem _ t 116 (Nat.le_refl _) (right_shape ht).1
  obtain ⟨c, hm, hcσ⟩ := put_match l σ _ (canonS t) 116 [] (Nat.le_refl _) hsh hσ (by simp)
  have htyp : typS t (canonS (putP l (canonS t))) = some c := by
    unfold typS
    rw [types_match _ (canonS t) _ [] (canonS t).parts.length hsh (by rw [ix]; exact hcs) it (by rw [ix]; exact ix) (Nat.le_refl _) (Nat.le_refl _), ix]
    exact hm
  have hky := typ_keys ht hx htyp
  have hnd : (keys c).Nodup := (matchC_kept _ _ _ _ _ hm).1 (by simp [keys])
  have hmem : ∀ p ∈ binds t c, p ∈ c ∧ p.1 ∈ varsS t := fun p hp => by
    obtain ⟨n, hn, hf⟩ := List.mem_filterMap.1 hp
    have h1 := List.mem_of_find?_eq_some hf
    have h2 := List.find?_some hf
    rw [beq_iff_eq] at h2
    exact ⟨h1, by rw [h2]; exact hn⟩
  have hval : ∀ v ∈ (canonS t).parts, isVar v = true → σ v.n = putP l v ∧ fitB (v.op == 10) (putP l v) = true := fun v hv iv => by
    obtain ⟨e, he⟩ := shape_part hsh v hv
    have h1 := put_fit l he (isVar_iff.1 iv)
    exact ⟨by rw [← hσ v hv iv, h1.2], h1.1⟩
  refine ⟨binds t c, ?_, putP_congr _ _ _ fun v hv iv => ?_, ?_, fun p hp => ?_⟩
  · unfold matchR
    rw [if_pos ⟨ht, hx⟩, htyp]
    rfl
  · have hn : v.n ∈ varsS t := varsL_has _ _ v hv iv
    obtain ⟨x, hf, -⟩ := pick_one hnd (hky v.n hn)
    have hxs := hcσ _ (List.mem_of_find?_eq_some hf)
    simp only at hxs
    obtain ⟨hv1, hv2⟩ := hval v hv iv
    have hin : (v.n, x) ∈ binds t c := List.mem_filterMap.2 ⟨v.n, hn, hf⟩
    have hof : ∃ p, ofS (binds t c) v.n (v.op == 10) = some p ∧ p.2 = putP l v := by
      cases ho : ofS (binds t c) v.n (v.op == 10) with
      | none =>
        unfold ofS at ho
        rw [List.find?_eq_none] at ho
        refine absurd ?_ (ho _ hin)
        simp only [beq_self_eq_true, Bool.true_and]
        rw [hxs, hv1, hv2]
      | some p =>
        have h1 := List.find?_some ho
        simp only [Bool.and_eq_true, beq_iff_eq] at h1
        have h2 := (hmem p (List.mem_of_find?_eq_some ho)).1
        exact ⟨p, rfl, by rw [hcσ p h2, h1.1, hv1]⟩
    obtain ⟨p, hp1, hp2⟩ := hof
    obtain ⟨e, he⟩ := shape_part hsh v hv
    have h3 := put_fit l he (isVar_iff.1 iv)
    have hvo := isVar_iff.1 iv
    have h4 : putP (binds t c) v = canonS p.2 := by
      obtain ⟨op, nm, n, ks⟩ := v
      simp only [Ty.op, Ty.n] at hvo hp1
      rw [putP, if_pos hvo, hp1]
    rw [h4, hp2, h3.2]
  · refine Nat.le_trans (List.length_filterMap_le ..) ?_
    have h1 := varsL_len (canonS t).parts []
    rw [canon_len _ t (Nat.le_refl _) (shape_spineAll (right_shape ht).1)] at h1
    have h2 : (varsS t).length ≤ 0 + t.parts.length := h1
    omega
  · obtain ⟨h1, h2⟩ := hmem p hp
    rcases varsL_mem _ _ _ h2 with h3 | ⟨v, hv, iv, hn⟩
    · simp at h3
    · obtain ⟨e, he⟩ := shape_part hsh v hv
      exact ⟨v, hv, by rw [hcσ p h1, ← hn, (hval v hv iv).1], e, putP_shape l v e he⟩
theorem self_again {t : Ty} (ht : rightB t 116 = true) : (matchR t t).isSome = true := by
  have hc := right_canon ht
  have hx : rightB (canonS (putP [] (canonS t))) 116 = true := by rw [putP_nil]; exact right_canon hc
  obtain ⟨m, hm, -⟩ := put_again [] ht hx
  rw [putP_nil, canon_idem _ t 116 (Nat.le_refl _) (right_shape ht).1] at hm
  unfold matchR at hm ⊢
  rw [if_pos ⟨ht, hc⟩] at hm
  rw [if_pos ⟨ht, ht⟩]
  have e : typS t (canonS t) = typS t t := by unfold typS; rw [canon_idem _ t 116 (Nat.le_refl _) (right_shape ht).1]
  rw [e] at hm
  rw [hm]; rfl
end Go.Proofs.Ytclehkgnacekkaa.Vm
end
section
namespace Go.Proofs.Ytclehkgnacekkaa.Vm
open Go.RowKit
def unTys (g : List D → Option (Ty × Nat)) : List (List D) → Option (List Ty × Nat)
  | [] => some ([], 0)
  | r :: rs => match g r with
    | some (t, m) => match unTys g rs with
      | some (ts, k) => some (t :: ts, m + k)
      | none => none
    | none => none
def unTy : Nat → List D → Option (Ty × Nat)
  | 0, _ => none
  | f + 1, [.sc (.int .u8 op), .sc (.string nm), .sc (.int .i64 n), .sl sz rows] => match rows with
    | [] => some (.mk op nm n [], 1)
    | r :: rs => match natEq sz 4 with
      | true => match unTys (unTy f) (r :: rs) with
        | some (ks, m) => some (.mk op nm n ks, m + 1)
        | none => none
      | false => none
  | _ + 1, _ => none
def Alike2 (ds es : List D) : Prop := ∀ (I : Nat → Nat → Prop) (w : World) (us : List Value), AtDs I w us ds → AtDs I w us es
theorem slice_alike {sz : Nat} {rows rows' : List (List D)} (hl : rows.length = rows'.length) (hr : ∀ (i : Nat) (r r' : List D), rows[i]? = some r → rows'[i]? = some r' → Alike2 r r' ∧ r'.length = sz) {I : Nat → Nat → Prop} {w : World} {v : Value} (h : AtD I w v (.sl sz rows)) : AtD I w v (.sl sz rows') := by
  cases h with
  | nil A cap => rw [List.eq_nil_of_length_eq_zero (l := rows') (by simpa using hl.symm)]; exact .nil _ _ _
  | sl b off cap _ _ us hcap hI hrl hl2 hc hd =>
    have hrl' : ∀ r ∈ rows', r.length = sz := fun r hr' => by
      obtain ⟨i, hi⟩ := List.mem_iff_getElem?.1 hr'
      have hlt : i < rows.length := by rw [hl]; exact (List.getElem?_eq_some_iff.1 hi).1
      exact (hr i _ r (List.getElem?_eq_getElem hlt) hi).2
    rw [hl]
    refine .sl b off cap sz rows' us (by rw [← hl]; exact hcap) (by rw [← hl]; exact hI) hrl' (by rw [← hl]; exact hl2) hc fun i u d hu hdd => ?_
    have hi : i < rows.length * sz := by rw [← hl2]; exact (List.getElem?_eq_some_iff.1 hu).1
    rcases Nat.eq_zero_or_pos sz with h0 | hpos
    · rw [h0, Nat.mul_zero] at hi; omega
    have hq : i / sz < rows.length := (Nat.div_lt_iff_lt_mul hpos).2 hi
    have hm : i % sz < sz := Nat.mod_lt _ hpos
    have ei : i / sz * sz + i % sz = i := by rw [Nat.mul_comm]; exact Nat.div_add_mod i _
    obtain ⟨r, hr1⟩ : ∃ r, rows[i / sz]? = some r := ⟨_, List.getElem?_eq_getElem hq⟩
    obtain ⟨r', hr2⟩ : ∃ r', rows'[i / sz]? = some r' := ⟨_, List.getElem?_eq_getElem (by omega)⟩
    have hal := (hr _ r r' hr1 hr2).1
    have hcs : AtDs I w ((us.drop (i / sz * sz)).take sz) r := by
      refine ⟨?_, fun j u d hu hd' => ?_⟩
      · have h1 := hrl r (List.mem_of_getElem? hr1)
        rw [h1, List.length_take, List.length_drop, hl2]
        have : (i / sz + 1) * sz ≤ rows.length * sz := Nat.mul_le_mul_right _ hq
        rw [Nat.add_mul] at this
        omega
      · have hj : j < sz := by
          have := (List.getElem?_eq_some_iff.1 hu).1
          rw [List.length_take] at this
          omega
        rw [List.getElem?_take_of_lt hj, List.getElem?_drop] at hu
        refine hd (i / sz * sz + j) u d hu ?_
        rw [flat_get hrl hr1 hj]
        exact hd'
    have h2 := hal I w _ hcs
    have hu2 : ((us.drop (i / sz * sz)).take sz)[i % sz]? = some u := by rw [List.getElem?_take_of_lt hm, List.getElem?_drop, ei]; exact hu
    have hd2 : r'[i % sz]? = some d := by rw [← hdd, ← flat_get hrl' hr2 hm, ei]
    exact h2.2 _ u d hu2 hd2
theorem unTy_s : ∀ (f : Nat),  (∀ (ds : List D) (t : Ty) (m : Nat), unTy f ds = some (t, m) → Alike2 ds (cT t) ∧ t.parts.length = m) ∧ ∀ (rows : List (List D)) (ts : List Ty) (m : Nat), unTys (unTy f) rows = some (ts, m) → rows.length = ts.length ∧ (partsL ts).length = m ∧ ∀ (i : Nat) (r r' : List D), rows[i]? = some r → (rT ts)[i]? = some r' → Alike2 r r' ∧ r'.length = 4 := by
  intro f
  induction f with
  | zero =>
    refine ⟨fun ds t m h => (by simp [unTy] at h), fun rows => ?_⟩
    cases rows with
    | nil => intro ts m h; rw [unTys] at h; cases h; exact ⟨rfl, by rw [partsL]; rfl, fun i r r' h => by simp at h⟩
    | cons r rs => intro ts m h; simp [unTys, unTy] at h
  | succ f ih =>
    have h1 : ∀ (ds : List D) (t : Ty) (m : Nat), unTy (f + 1) ds = some (t, m) → Alike2 ds (cT t) ∧ t.parts.length = m := by
      intro ds t m h
      unfold unTy at h
      split at h
      · cases h
      · rename_i fx op nm n sz rows ef
        cases ef
        split at h
        · cases h
          refine ⟨fun I w us hu => ?_, by rw [Ty.parts, partsL]; rfl⟩
          obtain ⟨u0, us0, rfl, a0, hu⟩ := hu.uncons
          obtain ⟨u1, us1, rfl, a1, hu⟩ := hu.uncons
          obtain ⟨u2, us2, rfl, a2, hu⟩ := hu.uncons
          obtain ⟨u3, us3, rfl, a3, hu⟩ := hu.uncons
          rw [cT, rT]
          refine AtDs.cons a0 (AtDs.cons a1 (AtDs.cons a2 (AtDs.cons ?_ hu)))
          cases a3 with
          | nil A cap => exact .nil _ _ _
          | sl b off cap _ _ us hcap hI hrl hl2 hc hd => exact .nil _ _ _
        · rename_i r rs
          split at h
          · rename_i hsz
            have hsz := natEq_eq hsz
            subst hsz
            split at h
            · rename_i ks k hk
              cases h
              obtain ⟨e1, e2, e3⟩ := ih.2 _ _ _ hk
              refine ⟨fun I w us hu => ?_, by rw [Ty.parts, List.length_cons, e2]⟩
              obtain ⟨u0, us0, rfl, a0, hu⟩ := hu.uncons
              obtain ⟨u1, us1, rfl, a1, hu⟩ := hu.uncons
              obtain ⟨u2, us2, rfl, a2, hu⟩ := hu.uncons
              obtain ⟨u3, us3, rfl, a3, hu⟩ := hu.uncons
              rw [cT]
              exact AtDs.cons a0 (AtDs.cons a1 (AtDs.cons a2 (AtDs.cons (slice_alike (by rw [rT_len]; exact e1) e3 a3) hu)))
            · cases h
          · cases h
      · cases h
    refine ⟨h1, ?_⟩
    intro rows
    induction rows with
    | nil => intro ts m h; rw [unTys] at h; cases h; exact ⟨rfl, by rw [partsL]; rfl, fun i r r' h => by simp at h⟩
    | cons r rs ihr =>
      intro ts m h
      rw [unTys] at h
      split at h
      · rename_i t m1 ht
        split at h
        · rename_i ts' k hts
          cases h
          obtain ⟨e1, e2, e3⟩ := ihr _ _ hts
          obtain ⟨a1, a2⟩ := h1 _ _ _ ht
          refine ⟨by simp [e1], by rw [partsL, List.length_append, a2, e2], fun i r1 r2 hr1 hr2 => ?_⟩
          cases i with
          | zero =>
            simp at hr1
            subst hr1
            rw [rT] at hr2
            simp at hr2
            subst hr2
            refine ⟨a1, ?_⟩
            obtain ⟨op, nm, n, ks⟩ := t
            rw [cT]; rfl
          | succ i => rw [rT] at hr2; exact e3 i r1 r2 (by simpa using hr1) (by simpa using hr2)
        · cases h
      · cases h
theorem Spec.alike {f : Nat} {rs rs' q : List R} (h : Spec f rs' q) (ha : ∀ I w vs, AtRs I w vs rs → AtRs I w vs rs') : Spec f rs q := ⟨h.1, fun I w args hI hat => h.2 I w args hI (ha I w args hat)⟩
theorem atR_ag {I : Nat → Nat → Prop} {w : World} {v : Value} {ds es : List D} (ha : Alike2 ds es) (h : AtR I w v (.ag ds)) : AtR I w v (.ag es) := by
  obtain ⟨us, e, hu⟩ := h
  exact ⟨us, e, ha I w us hu⟩
end Go.Proofs.Ytclehkgnacekkaa.Vm
end
section
namespace Go.Proofs.Ytclehkgnacekkaa.Vm
open Go.RowKit
set_option maxRecDepth 100000
set_option maxHeartbeats 8000000
def zA : ByteArray := ⟨#[97]⟩
def zB : ByteArray := ⟨#[98]⟩
def zE : ByteArray := ⟨#[]⟩
def gT : Ty := .mk 5 zE 0 [.mk 11 zA 0 [.mk 7 zE 0 [], .mk 10 zE 1 []]]
def sT : Ty := .mk 5 zE 0 [.mk 11 zB 0 [.mk 1 zE 0 [], .mk 11 zA 0 [.mk 2 zE 0 [], .mk 8 zE 0 []]]]
theorem alive_match : matchR gT sT = some [(0, .mk 2 zE 0 []), (1, .mk 11 zB 0 [.mk 1 zE 0 [], .mk 8 zE 0 []])] := by kernel_rfl
theorem alive_res : rB [((0 : Int), Ty.mk 2 zE 0 []), (1, Ty.mk 11 zB 0 [Ty.mk 1 zE 0 [], Ty.mk 8 zE 0 []])] = [[.sc (.int .i64 0), .sc (.int .u8 2), .sc (.string zE), .sc (.int .i64 0), .sl 4 []], [.sc (.int .i64 1), .sc (.int .u8 11), .sc (.string zB), .sc (.int .i64 0), .sl 4 [[.sc (.int .u8 1), .sc (.string zE), .sc (.int .i64 0), .sl 4 []], [.sc (.int .u8 8), .sc (.string zE), .sc (.int .i64 0), .sl 4 []]]]] := by kernel_rfl
theorem sm_at (t : Ty) (h1 : Nat.ble t.parts.length 1048576 = true) (h2 : (t.parts.all fun x => Nat.ble x.name.size 1048576) = true) : Sm t :=
  ⟨Nat.le_of_ble_eq_true h1, fun x hx => Nat.le_of_ble_eq_true (List.all_eq_true.1 h2 x hx)⟩
def dG : List D := [.sc (.int .u8 5), .sc (.string ⟨⟨[]⟩⟩), .sc (.int .i64 0), .sl 4 [[.sc (.int .u8 11), .sc (.string ⟨⟨[97]⟩⟩), .sc (.int .i64 0), .sl 4 [[.sc (.int .u8 7), .sc (.string ⟨⟨[]⟩⟩), .sc (.int .i64 0), .sl 0 []], [.sc (.int .u8 10), .sc (.string ⟨⟨[]⟩⟩), .sc (.int .i64 1), .sl 0 []]]]]]
def dS : List D := [.sc (.int .u8 5), .sc (.string ⟨⟨[]⟩⟩), .sc (.int .i64 0), .sl 4 [[.sc (.int .u8 11), .sc (.string ⟨⟨[98]⟩⟩), .sc (.int .i64 0), .sl 4 [[.sc (.int .u8 1), .sc (.string ⟨⟨[]⟩⟩), .sc (.int .i64 0), .sl 0 []], [.sc (.int .u8 11), .sc (.string ⟨⟨[97]⟩⟩), .sc (.int .i64 0), .sl 4 [[.sc (.int .u8 2), .sc (.string ⟨⟨[]⟩⟩), .sc (.int .i64 0), .sl 0 []], [.sc (.int .u8 8), .sc (.string ⟨⟨[]⟩⟩), .sc (.int .i64 0), .sl 0 []]]]]]]]
theorem dG_is : unTy 60 dG = some (gT, 4) := by kernel_rfl
theorem dS_is : unTy 60 dS = some (sT, 6) := by kernel_rfl
def matchPF (rs : List R) : Option (List R) := match listEq resEq rs [.ag dG, .ag dS] with
  | true => some [.one (.sl 5 [[.sc (.int .i64 0), .sc (.int .u8 2), .sc (.string zE), .sc (.int .i64 0), .sl 4 []], [.sc (.int .i64 1), .sc (.int .u8 11), .sc (.string zB), .sc (.int .i64 0), .sl 4 [[.sc (.int .u8 1), .sc (.string zE), .sc (.int .i64 0), .sl 4 []], [.sc (.int .u8 8), .sc (.string zE), .sc (.int .i64 0), .sl 4 []]]]]), .one (.sc (.bool true))]
  | false => none
theorem match_pure (rs q : List R) (h : matchPF rs = some q) : Spec 12 rs q := by
  unfold matchPF at h
  split at h
  · rename_i he
    have he := listEq_eq (fun _ _ h => resEq_eq h) he
    subst he
    injection h with h
    subst h
    rw [← alive_res]
    have h1 := Match_s gT sT (sm_at _ (by kernel_rfl) (by kernel_rfl)) (sm_at _ (by kernel_rfl) (by kernel_rfl))
    rw [alive_match, Option.getD_some, Option.isSome_some] at h1
    refine h1.alike fun I w vs hv => ?_
    match vs, hv with
    | [v1, v2], ⟨a1, a2, _⟩ => exact ⟨atR_ag ((unTy_s 60).1 _ _ _ dG_is).1 a1, atR_ag ((unTy_s 60).1 _ _ _ dS_is).1 a2, trivial⟩
  · cases h
end Go.Proofs.Ytclehkgnacekkaa.Vm
end
